/- Package code: caught, order. -/
import Derived.Test.YtmccomeihnaanaaDoorCodeB
import Derived.Test.YtmccomeihnaanaaDoorTail
import Derived.Shelf.Abstract
namespace Go.Proofs.YtmccomeihnaanaaDoor
open Go.RowKit

/-- block g holds cs from its head on -/
def HeadAt (w : World) (g : Nat) (cs : List Value) : Prop := ∀ i v, cs[i]? = some v → w.cell? ⟨g, i, none⟩ = some v
theorem HeadAt.on {w w' : World} {g : Nat} {cs : List Value} (h : HeadAt w g cs) (hb : Below w.heap.size w w') : HeadAt w' g cs := fun i v hv => cell_on hb (h i v hv)
theorem HeadAt.box (w : World) (cs : List Value) (t : TypeId) : HeadAt (w.alloc (.cells ⟨cs⟩ t)) w.heap.size cs := fun i v hv => by
  rw [one_cell]; simpa using hv
theorem HeadAt.old {w : World} {g : Nat} {cs : List Value} (h : HeadAt w g cs) (o : Obj) : HeadAt (w.alloc o) g cs := fun i v hv => old_one (h i v hv) o

def caughtF (f : CFn) (c : Int) : Bool := !regM f c && !withinM c (-(f.caught.length : Int)) (-1)
set_option maxHeartbeats 400000 in
set_option maxRecDepth 100000 in
theorem caughtF_c (cs : List Value) (p : CProg) (f : CFn) (g : Nat) (c : Int) (w : World) (h : LookR w w.heap.size cs p f) (hr : 1 ≤ f.regs) (hg : HeadAt w g cs) :
    Calls Tryd.prog 147 #[.int .i64 c, .pointer (some ⟨g, 0, none⟩)] w (Gives (.bool (caughtF f c)) w) := by
  obtain ⟨r, hrr⟩ : ∃ r, caughtF f c = r := ⟨_, rfl⟩
  rw [hrr]
  have HL := Lib.hid h
  obtain ⟨pc, fc, rfl, ⟨A1, n1, A2, n2, A3, n3, rfl, p1, p2, p3⟩, ⟨A4, n4, A5, n5, rfl, q1, q2, w1, w2⟩⟩ := h
  have l4 := len_le q1
  have HG := Lib.hid hg
  clear p1 p2 p3 q1 q2
  have c0 : w.cell? ⟨g, 0, none⟩ = some (.slice A1 p.fns.length n1) := hg 0 _ rfl
  have c1 : w.cell? ⟨g, 1, none⟩ = some (.slice A2 p.consts.length n2) := hg 1 _ rfl
  have c2 : w.cell? ⟨g, 2, none⟩ = some (.slice A3 p.texts.length n3) := hg 2 _ rfl
  have c3 : w.cell? ⟨g, 3, none⟩ = some (.int .i64 f.params) := hg 3 _ rfl
  have c4 : w.cell? ⟨g, 4, none⟩ = some (.int .i64 f.regs) := hg 4 _ rfl
  have c5 : w.cell? ⟨g, 5, none⟩ = some (.bool f.gen) := hg 5 _ rfl
  have c6 : w.cell? ⟨g, 6, none⟩ = some (.slice A4 f.caught.length n4) := hg 6 _ rfl
  have c7 : w.cell? ⟨g, 7, none⟩ = some (.slice A5 f.code.length n5) := hg 7 _ rfl
  clear hg
  go_enter Tryd.func147, Tryd.ntmps147
  go_wp2_with fail
  refine (lreg_c _ p f c _ HL.out hr).mono ?_
  rintro e w3 ⟨rfl, k3⟩
  have K3 := Lib.hid k3
  have d6 : w3.cell? ⟨g, 6, none⟩ = some (.slice A4 f.caught.length n4) := cell_on k3 c6
  clear k3 c0 c1 c2 c3 c4 c5 c6 c7
  cases hq : regM f c
  · have HR : Hid (r = !withinM c (-(f.caught.length : Int)) (-1)) := by rw [← hrr]; simp [caughtF, hq, Hid]
    clear hrr hq
    go_wp2_with fail
    refine (within_c _ _ _ _).mono ?_
    rintro e w' ⟨rfl, rfl⟩
    go_wp2_with fail
    go_ret
    exact ⟨by rw [HR.out]; rfl, K3.out⟩
  · have HR : Hid (r = false) := by rw [← hrr]; simp [caughtF, hq, Hid]
    clear hrr hq
    go_wp2_with fail
    go_ret
    exact ⟨by rw [HR.out]; rfl, K3.out⟩

theorem caught_enters : ∀ args W, (callFunc 147 args).run Tryd.prog W = .ok (.enter 147 args) W := enters_of Tryd.func147 (by kernel_rfl) rfl
set_option maxHeartbeats 400000 in
set_option maxRecDepth 100000 in
theorem caught_c (cs fcs : List Value) (p : CProg) (f g : CFn) (w : World) (h : LookR w w.heap.size cs p f) (hr : 1 ≤ f.regs) (hg : FnR w w.heap.size fcs g) :
    Calls Tryd.prog 136 #[.agg ⟨cs⟩, .agg ⟨fcs⟩] w (Gives (.bool (caughtM f g)) w) := by
  obtain ⟨w0, hw0⟩ : ∃ w0, w0 = (w.alloc (.cells ⟨cs⟩ 166)).alloc (.cells ⟨fcs⟩ 66) := ⟨_, rfl⟩
  have k0 : Hid (Below w.heap.size w w0) := by rw [hw0]; exact below_two' w _ _
  have hh : Hid (HeadAt w0 w.heap.size cs) := by rw [hw0]; exact (HeadAt.box w cs _).old _
  have HL : Hid (LookR w0 w0.heap.size cs p f) := h.keep k0.out.size (fun _ h => k0.out.cell h)
  obtain ⟨A4, n4, A5, n5, rfl, q1, q2, w1, w2⟩ := hg
  have Q1 : Hid (SliceR w0 w0.heap.size 1 IntR (.slice A4 g.caught.length n4) g.caught) := q1.keep k0.out.size (fun _ h => k0.out.cell h) (fun _ _ h => h)
  obtain ⟨pc, fc, rfl, ⟨B1, m1, B2, m2, B3, m3, rfl, -⟩, ⟨B4, m4, B5, m5, rfl, -⟩⟩ := h
  simp only [List.cons_append, List.nil_append] at hw0
  have HW := Lib.hid hw0
  have HC := Lib.hid (containsFunc_ints IntR (caughtF f) A4 n4 g.caught 147 caught_enters #[.pointer (some ⟨w.heap.size, 0, none⟩)] w0 Q1.out (fun w1 k x cs hx hR => by
    obtain ⟨rfl, -⟩ := hR
    exact caughtF_c _ p f w.heap.size x w1 (HL.out.keep k.size (fun _ h => k.cell h)) hr (hh.out.on k)))
  clear hw0 q1 q2
  go_enter Tryd.func136, Tryd.ntmps136
  go_wp2_with fail
  rw [← HW.out]
  refine HC.out.mono ?_
  rintro e w3 ⟨rfl, k3⟩
  have K3 := Lib.hid (k0.out.trans (k3.mono k0.out.size))
  clear k3
  go_wp2_with fail
  go_ret
  exact ⟨rfl, K3.out⟩
end Go.Proofs.YtmccomeihnaanaaDoor
