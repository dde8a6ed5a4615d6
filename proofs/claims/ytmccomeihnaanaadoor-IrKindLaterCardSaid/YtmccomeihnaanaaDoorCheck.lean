/- code.Check. -/
import Derived.Test.YtmccomeihnaanaaDoorTablesB
namespace Go.Proofs.YtmccomeihnaanaaDoor
open Go.RowKit

/-- is the first function no main? -/
def headM (p : CProg) : Bool := match p.fns with
  | [] => true
  | f :: _ => decide (f.params ≠ 0) || decide (0 < f.caught.length) || f.gen
/-- code.Check, as a function of the program -/
def codeCheckM (p : CProg) : Int :=
  if largeM p then 2 else if !tablesM p || headM p then 3 else if p.fns.any (fun f => !functionM p f) then 3 else 0

theorem large_no {p : CProg} (h : largeM p = false) : p.texts.length ≤ 200 ∧ ∀ f ∈ p.fns, f.code.length ≤ 600 ∧ f.regs ≤ 60 := by
  unfold largeM at h
  simp only [Bool.or_eq_false_iff, decide_eq_false_iff_not, List.any_eq_false] at h
  obtain ⟨⟨⟨⟨h1, h2⟩, h3⟩, h4⟩, h5⟩ := h
  refine ⟨by omega, fun f hf => ?_⟩
  have := h5 f hf
  simp only [Bool.or_eq_true, decide_eq_true_eq, not_or] at this
  omega

set_option maxHeartbeats 1000000 in
set_option maxRecDepth 100000 in
theorem check1_c (pcs fcs : List Value) (p : CProg) (f : CFn) (pb : Nat) (w : World) (hp : ProgR w w.heap.size pcs p) (hf : FnR w w.heap.size fcs f) (hn : f.code.length ≤ 600) (hr2 : f.regs ≤ 60) (hg : HeadAt w pb pcs) :
    Calls Tryd.prog 73 #[.agg ⟨fcs⟩, .pointer (some ⟨pb, 0, none⟩)] w (Gives (.bool (!functionM p f)) w) := by
  obtain ⟨r, hr⟩ : ∃ r, functionM p f = r := ⟨_, rfl⟩
  obtain ⟨w0, hw0⟩ : ∃ w0, w0 = w.alloc (.cells ⟨fcs⟩ 66) := ⟨_, rfl⟩
  have k0 : Hid (Below w.heap.size w w0) := by rw [hw0]; exact below_one w _
  have C := Lib.hid (function_c pcs fcs p f w0 (hp.keep k0.out.size (fun _ h => k0.out.cell h)) (hf.keep k0.out.size (fun _ h => k0.out.cell h)) hn hr2)
  rw [hr] at C ⊢
  have HW := Lib.hid hw0
  clear hr hw0
  obtain ⟨A1, n1, A2, n2, A3, n3, rfl, -⟩ := hp
  obtain ⟨A4, n4, A5, n5, rfl, -⟩ := hf
  have a0 : w.cell? ⟨pb, 0, none⟩ = some (.slice A1 p.fns.length n1) := hg 0 _ rfl
  have a1 : w.cell? ⟨pb, 1, none⟩ = some (.slice A2 p.consts.length n2) := hg 1 _ rfl
  have a2 : w.cell? ⟨pb, 2, none⟩ = some (.slice A3 p.texts.length n3) := hg 2 _ rfl
  have hpb : pb < w.heap.size := cell_lt a0
  clear hg
  go_enter Tryd.func73, Tryd.ntmps73
  go_wp2_with fail
  rw [← HW.out]
  refine C.out.mono ?_
  rintro e w1 ⟨rfl, k1⟩
  have K := Lib.hid (k0.out.trans (k1.mono k0.out.size))
  clear k1
  go_wp2_with fail
  go_ret
  exact ⟨rfl, K.out⟩
theorem enters_check1 : ∀ args W, (callFunc 73 args).run Tryd.prog W = .ok (.enter 73 args) W := enters_of Tryd.func73 (by kernel_rfl) rfl
end Go.Proofs.YtmccomeihnaanaaDoor
