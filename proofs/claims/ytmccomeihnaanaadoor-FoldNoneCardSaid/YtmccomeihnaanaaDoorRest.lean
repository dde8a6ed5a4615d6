/- Rest: what is left of a number. -/
import Derived.Test.YtmccomeihnaanaaDoorIrT
namespace Go.Proofs.YtmccomeihnaanaaDoor
open Go.RowKit

def restM (n m : Int) : Int := if n.tmod m < 0 then n.tmod m + m else n.tmod m
theorem neg_lt_tmod (n : Int) {m : Int} (hm : 0 < m) : -m < n.tmod m := by
  by_cases h : 0 ≤ n
  · have := Int.tmod_nonneg m h
    omega
  · have h1 : n = -(-n) := by omega
    have h2 := Int.tmod_lt_of_pos (-n) hm
    rw [h1, Int.neg_tmod]
    omega
theorem restM_bd (n m : Int) (hm : 0 < m) : 0 ≤ restM n m ∧ restM n m < m := by
  unfold restM
  have h1 := Int.tmod_lt_of_pos n hm
  have h2 : -m < n.tmod m := neg_lt_tmod n hm
  split <;> omega
set_option maxHeartbeats 400000 in
theorem rest_c (n m : Int) (w : World) (hm : 0 < m) (hm2 : m ≤ 1000000) :
    Calls Tryd.prog 17 #[.int .i64 n, .int .i64 m] w (Gives (.int .i64 (restM n m)) w) := by
  have h1 := Int.tmod_lt_of_pos n hm
  have h2 : -m < n.tmod m := neg_lt_tmod n hm
  have e1 : n.tmod m < 0 → restM n m = n.tmod m + m := fun h => by simp [restM, h]
  have e2 : 0 ≤ n.tmod m → restM n m = n.tmod m := fun h => by simp [restM, Int.not_lt.2 h]
  have E1 := Lib.hid e1
  have E2 := Lib.hid e2
  clear e1 e2
  go_enter Tryd.func17, Tryd.ntmps17
  go_wp2
  all_goals go_ret
  all_goals refine ⟨?_, Below.refl _ _⟩
  · rw [E1.out ‹_›]; rfl
  · rw [E2.out ‹_›]; rfl
end Go.Proofs.YtmccomeihnaanaaDoor
