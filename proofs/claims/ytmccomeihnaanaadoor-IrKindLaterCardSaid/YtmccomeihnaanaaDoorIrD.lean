/- The closed fact 'irred' of the laws. -/
import Derived.Test.YtmccomeihnaanaaDoorIrC
namespace Go.Proofs.YtmccomeihnaanaaDoor
open Go.RowKit

theorem SliceR.below {α : Type} {w w' : World} {size : Nat} {R : List Value → α → Prop} {v : Value} {xs : List α} (h : SliceR w w.heap.size size R v xs) (hb : Below w.heap.size w w') : SliceR w' w'.heap.size size R v xs :=
  h.keep hb.size (fun _ hp => hb.cell hp) (fun _ _ h => h)

theorem slice456 (w : World) (t : TypeId) : SliceR (w.alloc (.cells #[.int .i64 4, .int .i64 5, .int .i64 6] t)) (w.heap.size + 1) 1 IntR (.slice (some ⟨w.heap.size, 0, none⟩) 3 3) [4, 5, 6] := by
  refine ⟨_, 3, rfl, by simp, by decide, fun _ => ⟨w.heap.size, 0, rfl, by omega, fun i x hi => ⟨[.int .i64 x], rfl, ⟨rfl, ?_⟩, fun j v hj => ?_⟩⟩⟩
  · have := List.mem_of_getElem? hi
    simp at this
    rcases this with rfl | rfl | rfl <;> exact ⟨by decide, by decide⟩
  · have hj0 : j = 0 := by
      have := (List.getElem?_eq_some_iff.1 hj).1
      simp at this; omega
    subst hj0
    simp at hj
    subst hj
    have hi3 : i < 3 := by
      have := (List.getElem?_eq_some_iff.1 hi).1
      simpa using this
    rw [World.cell?_alloc_at _ _ _ _ rfl]
    match i, hi3 with
    | 0, _ => simpa using hi
    | 1, _ => simpa using hi
    | 2, _ => simpa using hi

def Irred (w : World) (e : Ending) (w' : World) : Prop := e = .returned (.bool true) ∧ Below w.heap.size w w'

set_option maxHeartbeats 1000000 in
set_option maxRecDepth 100000 in
theorem irred_c (w : World) : Calls Tryd.prog 14 #[] w (Irred w) := by
  have T1 := fun w' => tells_c 13 w'
  have T2 := fun w' => tells_c 11 w'
  have e1 : tellsM 13 = true := by decide
  have e2 : tellsM 11 = false := by decide
  rw [e1] at T1
  rw [e2] at T2
  have H1 := Lib.hid T1
  have H2 := Lib.hid T2
  clear e1 e2 T1 T2
  go_enter Tryd.func14, Tryd.ntmps14
  go_wp2_with fail
  refine (asks_c ⟨14, 4, 5, 6, 0, 0, ⟨0, 0⟩⟩ (by unfold WfIns wfi; decide) _).mono ?_
  rintro e w1 ⟨v, rfl, hv, b1⟩
  have HV := Lib.hid hv
  have B1 := Lib.hid b1
  clear hv b1
  go_wp2_with fail
  refine (eq_ints_c v _ (asksM ⟨14, 4, 5, 6, 0, 0, ⟨0, 0⟩⟩) [4, 5, 6] _ _ (HV.out.keep (Nat.le_succ _) (fun p hp => World.cell?_alloc_lt _ _ _ hp) (fun _ _ h => h)) (slice456 w1 _)).mono ?_
  rw [show decide (asksM ⟨14, 4, 5, 6, 0, 0, ⟨0, 0⟩⟩ = [4, 5, 6]) = true from by decide]
  rintro e w2 ⟨rfl, rfl⟩
  go_wp2_with fail
  refine (H1.out _).mono ?_
  rintro e w3 ⟨rfl, b3⟩
  have B3 := Lib.hid b3
  clear b3
  go_wp2_with fail
  refine (H2.out _).mono ?_
  rintro e w4 ⟨rfl, b4⟩
  have B4 := Lib.hid b4
  clear b4
  go_wp2_with fail
  go_ret
  refine ⟨rfl, ?_⟩
  have hs1 := B1.out.size
  have hs3 := B3.out.size
  simp at hs3
  exact ((B1.out.alloc hs1 _).trans (B3.out.mono (by simp; omega))).trans (B4.out.mono (by omega))
end Go.Proofs.YtmccomeihnaanaaDoor
