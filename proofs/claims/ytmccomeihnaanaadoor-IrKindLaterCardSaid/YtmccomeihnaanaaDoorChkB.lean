/- ir.checker's methods: values, make. -/
import Derived.Test.YtmccomeihnaanaaDoorChkA
import Derived.Deep.MidRow
namespace Go.Proofs.YtmccomeihnaanaaDoor
open Go.RowKit

theorem all_not {α : Type} {p : α → Bool} {l : List α} {k : Nat} {x : α} (hx : l[k]? = some x) (hp : p x = false) : l.all p = false := by
  rw [List.all_eq_false]
  exact ⟨x, List.mem_of_getElem? hx, by simp [hp]⟩
theorem all_yes {α : Type} {p : α → Bool} {l : List α} {k : Nat} (hk : k = l.length) (h : ∀ i x, i < k → l[i]? = some x → p x = true) : l.all p = true := by
  rw [List.all_eq_true]
  intro x hx
  obtain ⟨i, hi⟩ := List.getElem?_of_mem hx
  exact h i x (by have := (List.getElem?_eq_some_iff.1 hi).1; omega) hi
theorem upto_next {α : Type} {p : α → Bool} {l : List α} {k : Nat} {x : α} (h : ∀ i x, i < k → l[i]? = some x → p x = true) (hx : l[k]? = some x) (hp : p x = true) : ∀ i y, i < k + 1 → l[i]? = some y → p y = true := fun i y hi hy => by
  rcases Nat.lt_or_ge i k with h1 | h1
  · exact h i y h1 hy
  · have : i = k := by omega
    subst this
    rw [hx] at hy
    injection hy with hy
    exact hy ▸ hp

/-- the load of a whole struct, guarded or not -/
theorem wpList_load_on {P : Program} {ops : Array Oper} {rest : List Oper} {op : Oper} {a : Act} {w : World} {Q : Exit → Act → World → Prop} (ty : TypeId) (x : Operand) (ho : op.op = .load ty x)
    (hgd : Region.wanted op (yielded ops a.tmps) = true)
    (b o : Nat) (hx : a.eval x = .pointer (some ⟨b, o, none⟩)) (cs : List Value) (d : TypeDesc) (hc : w.rangeAt b o cs)
    (hu : P.underlying ty = some d) (hd : d.isRow = true) (hi : (P.info? ty).map (·.size) = some cs.length)
    (h : wpList P ops Q rest (a.put op.dst (.agg cs.toArray)) w) : wpList P ops Q (op :: rest) a w :=
  wpList_step fun K hK => by rw [if_pos hgd]; exact wp_load_mid ty x ho b o hx cs d hc hu hd hi (hK _ _ h)
theorem infoCheck : (Tryd.prog.info? 68).map (·.size) = some 18 := by kernel_rfl
theorem CheckR.len {w : World} {B : Nat} {cs : List Value} {f : CFn} {t : TTrace} (h : CheckR w B cs f t) : (Tryd.prog.info? 68).map (·.size) = some cs.length := by
  obtain ⟨A4, n4, A5, n5, Ai, ni, Ae, ne, s1, m1, s2, m2, rfl, -⟩ := h.cells
  exact infoCheck
theorem HeadAt.range {w : World} {g : Nat} {cs : List Value} (h : HeadAt w g cs) : w.rangeAt g 0 cs := fun j v hv => by rw [Nat.zero_add]; exact h j v hv

set_option maxHeartbeats 2000000 in
set_option maxRecDepth 100000 in
theorem values_c (cs : List Value) (f : CFn) (t : TTrace) (v : Value) (l : List Int) (at_ : Int) (w : World) (h : CheckR w w.heap.size cs f t) (hl : SliceR w w.heap.size 1 IntR v l) :
    Calls Tryd.prog 75 #[.agg ⟨cs⟩, v, .int .i64 at_] w (Gives (.bool (valuesM t.ins l at_)) w) := by
  obtain ⟨r, hr⟩ : ∃ r, valuesM t.ins l at_ = r := ⟨_, rfl⟩
  rw [hr]
  have HR := Lib.hid hr
  clear hr
  have HC := Lib.hid h
  have HS := Lib.hid hl
  obtain ⟨A, cap, rfl, l1, l2, -⟩ := hl
  unfold maxLen at l2
  obtain ⟨w0, hw0⟩ : ∃ w0, w0 = w.alloc (.cells ⟨cs⟩ 68) := ⟨_, rfl⟩
  have k0 : Hid (Below w.heap.size w w0) := by rw [hw0]; exact below_one w _
  have H0 : Hid (HeadAt w0 w.heap.size cs) := by rw [hw0]; exact HeadAt.box _ _ _
  have hz : w.heap.size < w0.heap.size := by rw [hw0]; simp
  have HI := Lib.hid h.len
  have HW := Lib.hid hw0
  clear hw0 h
  go_enter Tryd.func75, Tryd.ntmps75
  go_wp2_with fail
  rw [← HW.out]
  go_loopw [11] (fun k wr => ∃ kn : Nat, k = .int .i64 kn ∧ kn ≤ l.length ∧ Hid (∀ i x, i < kn → l[i]? = some x → valueM t.ins x at_ = true) ∧ Hid (Below w0.heap.size w0 wr)) (fun k _ => l.length - (RowKit.intOf k).toNat)
  case atStart => exact ⟨0, rfl, by omega, fun i x hi _ => by omega, Below.refl _ _⟩
  case round =>
    obtain ⟨kn, rfl, hk, KP, KW⟩ := hrel
    by_cases hlt : kn < l.length
    · obtain ⟨b, off, x, ys, rfl, hb, hx0, hcl, hR, hat⟩ := HS.out.at_ hlt
      obtain ⟨rfl, hwx⟩ := hR
      have hi1 : (kn : Int) < l.length := by omega
      have kk := Lib.hid (k0.out.trans (KW.out.mono k0.out.size))
      have g0 : wr.cell? ⟨b, off + kn, none⟩ = some (.int .i64 x) := (kk.out.cell hb).trans (by simpa using hat 0 _ rfl)
      have h0 := Lib.hid (H0.out.on KW.out).range
      have HX := Lib.hid hx0
      have C := Lib.hid (value_c _ f t x at_ wr (HC.out.below kk.out))
      obtain ⟨q, hq⟩ : ∃ q, valueM t.ins x at_ = q := ⟨_, rfl⟩
      rw [hq] at C
      have HQ := Lib.hid hq
      clear hx0 hat hcl hq
      cases q
      · have HN : Hid (false = r) := by rw [← HR.out, valuesM, all_not HX.out HQ.out]; rfl
        go_wp2_with (refine wpList_load_mid rfl 68 _ rfl w.heap.size 0 rfl cs _ h0.out Tryd.underlying68 rfl HI.out ?_)
        refine C.out.mono ?_
        rintro e w2 ⟨rfl, k2⟩
        have K2 := Lib.hid (kk.out.trans (k2.mono kk.out.size))
        clear k2
        go_wp2_with fail
        go_ret
        exact ⟨by rw [← HN.out]; rfl, K2.out⟩
      · go_wp2_with (refine wpList_load_mid rfl 68 _ rfl w.heap.size 0 rfl cs _ h0.out Tryd.underlying68 rfl HI.out ?_)
        refine C.out.mono ?_
        rintro e w2 ⟨rfl, k2⟩
        have K2 := Lib.hid (KW.out.trans (k2.mono KW.out.size))
        clear k2 g0
        go_wp2_with fail
        go_roundw
        case rel => exact ⟨kn + 1, by go_num, by omega, upto_next KP.out HX.out HQ.out, K2⟩
        case measure => simp [RowKit.intOf]; omega
    · have hke : kn = l.length := by omega
      have HN : Hid (true = r) := by rw [← HR.out, valuesM, all_yes hke KP.out]; rfl
      clear hke
      go_wp2_with fail
      go_ret
      exact ⟨by rw [← HN.out]; rfl, k0.out.trans (KW.out.mono k0.out.size)⟩
end Go.Proofs.YtmccomeihnaanaaDoor
