/- Package ir, its plainest functions: what an operation has, Tells, Asks; and the closed fact of the laws. -/
import Derived.Test.YtmccomeihnaanaaDoorProg
import Derived.WalkKit
import Derived.Lib.Hide
import Derived.WalkLawsBesides
import Derived.Deep.QuietTactic
import Derived.BigQuiet
import Derived.Test.YtmccomeihnaanaaDoorIrM
namespace Go.Proofs.YtmccomeihnaanaaDoor
open Go.RowKit

def formV (f : Form) : Value := .agg #[.int .i64 f.asks, .int .i64 f.low, .int .i64 f.high, .bool f.k, .bool f.tells, .int .i64 f.exit]

def OfPost (op : Int) (w : World) (e : Ending) (w' : World) : Prop := e = .returned (.tuple #[formV (formM op), .bool (isOp op)]) ∧ Below w.heap.size w w'

set_option maxHeartbeats 1000000 in
theorem of_c (op : Int) (w : World) : Calls Tryd.prog 35 #[.int .i64 op] w (OfPost op w) := by
  by_cases h : op = 1 ∨ op = 2 ∨ op = 3 ∨ op = 4 ∨ op = 5 ∨ op = 6 ∨ op = 7 ∨ op = 8 ∨ op = 9 ∨ op = 10 ∨ op = 11 ∨ op = 12 ∨ op = 13 ∨ op = 14 ∨ op = 15 ∨ op = 16 ∨ op = 17 ∨ op = 18 ∨ op = 19
  · rcases h with rfl | rfl | rfl | rfl | rfl | rfl | rfl | rfl | rfl | rfl | rfl | rfl | rfl | rfl | rfl | rfl | rfl | rfl | rfl
    all_goals
      go_enter Tryd.func35, Tryd.ntmps35
      go_wp2
      refine bodyPost_ret (v := .tuple #[formV (formM _), .bool true]) (by simp [results, Tryd.results35, go_sem, formV, formM]) rfl ⟨rfl, ?_⟩
      repeat (first | exact Below.refl _ _ | refine Below.drew ?_ | refine Below.setCell ?_ (by simp) _ | refine Below.alloc ?_ (by simp) _)
  · have e1 : formM op = ⟨0, 0, 0, false, false, 0⟩ := formM_else op h
    have e2 : isOp op = false := isOp_else op h
    have E1 := Lib.hid e1
    have E2 := Lib.hid e2
    clear e1 e2
    have n1 : (op == 1) = false := by simp; omega
    have n2 : (op == 2) = false := by simp; omega
    have n3 : (op == 3) = false := by simp; omega
    have n4 : (op == 4) = false := by simp; omega
    have n5 : (op == 5) = false := by simp; omega
    have n6 : (op == 6) = false := by simp; omega
    have n7 : (op == 7) = false := by simp; omega
    have n8 : (op == 8) = false := by simp; omega
    have n9 : (op == 9) = false := by simp; omega
    have n10 : (op == 10) = false := by simp; omega
    have n11 : (op == 11) = false := by simp; omega
    have n12 : (op == 12) = false := by simp; omega
    have n13 : (op == 13) = false := by simp; omega
    have n14 : (op == 14) = false := by simp; omega
    have n15 : (op == 15) = false := by simp; omega
    have n16 : (op == 16) = false := by simp; omega
    have n17 : (op == 17) = false := by simp; omega
    have n18 : (op == 18) = false := by simp; omega
    have n19 : (op == 19) = false := by simp; omega
    clear h
    go_enter Tryd.func35, Tryd.ntmps35
    go_wp2
    refine bodyPost_ret (v := .tuple #[formV ⟨0, 0, 0, false, false, 0⟩, .bool false]) (by simp [results, Tryd.results35, go_sem, formV]) rfl ⟨by rw [E1.out, E2.out], ?_⟩
    repeat (first | exact Below.refl _ _ | refine Below.drew ?_ | refine Below.setCell ?_ (by simp) _ | refine Below.alloc ?_ (by simp) _)

end Go.Proofs.YtmccomeihnaanaaDoor
