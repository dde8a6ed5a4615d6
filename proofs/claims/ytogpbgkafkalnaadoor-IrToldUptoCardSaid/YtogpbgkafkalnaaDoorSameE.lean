/- R.SameMake, SameExit: under way. -/
import Derived.Test.YtogpbgkafkalnaaDoorSame
namespace Go.Proofs.YtogpbgkafkalnaaDoor
open Go.RowKit

theorem below_laid2 (w : World) (a b : Obj) : Below w.heap.size w ((w.alloc a).alloc b) := ((Below.refl w.heap.size w).alloc (Nat.le_refl _) a).alloc (by simp) b

set_option maxHeartbeats 1000000 in
theorem same_make_c (ca cb : List Value) (x y : TMake) (w : World) (hx : MakeR w w.heap.size ca x) (hy : MakeR w w.heap.size cb y) :
    Calls Tryd.prog 21 #[.agg ⟨ca⟩, .agg ⟨cb⟩] w fun e w' => e = .returned (.bool (decide (x = y))) ∧ Below w.heap.size w w' := by
  obtain ⟨va, rfl, sa, -⟩ := hx
  obtain ⟨vb, rfl, sb, -⟩ := hy
  obtain ⟨xc, xk, xn, xs⟩ := x
  obtain ⟨yc, yk, yn, ys⟩ := y
  have SA := Lib.hid sa
  have SB := Lib.hid sb
  clear sa sb
  go_enter Tryd.func21, Tryd.ntmps21
  go_wp2_with fail
  · refine (eq_ints_c va vb xs ys w.heap.size _ (SA.out.keep (Nat.le_refl _) (fun p hp => (below_laid2 w _ _).cell hp) (fun _ _ h => h)) (SB.out.keep (Nat.le_refl _) (fun p hp => (below_laid2 w _ _).cell hp) (fun _ _ h => h))).mono ?_
    rintro e w4 ⟨rfl, rfl⟩
    go_wp2_with fail
    go_ret
    exact ⟨by simp [*], below_laid2 w _ _⟩
  all_goals
    go_ret
    exact ⟨rfl, below_laid2 w _ _⟩
end Go.Proofs.YtogpbgkafkalnaaDoor
