/- The order of heads: cmp.Compare, cmp.Or, and the closure of All. -/
import Derived.Test.YtdcikaenepnliaaHm
import Derived.Test.YtdcikaenepnliaaShelf
import Derived.StillTailTactics
namespace Go.Proofs.Ytdcikaenepnliaa
open Go.RowKit Go.Sort

def cmpI (a b : Int) : Int := if a < b then -1 else if b < a then 1 else 0
set_option maxHeartbeats 400000 in
theorem compare_c (a b : Int) (w : World) : Calls Try.prog 23 #[.int .i64 a, .int .i64 b] w fun e w' => e = .returned (.int .i64 (cmpI a b)) ∧ w' = w := by
  rcases Int.lt_trichotomy a b with h | h | h
  · have e1 : cmpI a b = -1 := by simp [cmpI, h]
    rw [e1]
    go_enter Try.func23, Try.ntmps23
    go_wp2
    go_ret
    exact ⟨rfl, rfl⟩
  · subst h
    have e1 : cmpI a a = 0 := by simp [cmpI]
    rw [e1]
    go_enter Try.func23, Try.ntmps23
    go_wp2
    go_ret
    exact ⟨rfl, rfl⟩
  · have e1 : cmpI a b = 1 := by simp [cmpI, h, Int.not_lt.2 (Int.le_of_lt h)]
    rw [e1]
    have h2 : ¬ a < b := by omega
    go_enter Try.func23, Try.ntmps23
    go_wp2
    go_ret
    exact ⟨rfl, rfl⟩

def orI (a b : Int) : Int := if a ≠ 0 then a else b
set_option maxHeartbeats 400000 in
theorem or_c (a b : Int) (g cap : Nat) (w : World) (h0 : w.cell? ⟨g, 0, none⟩ = some (.int .i64 a)) (h1 : w.cell? ⟨g, 1, none⟩ = some (.int .i64 b)) :
    Calls Try.prog 22 #[.slice (some ⟨g, 0, none⟩) 2 cap] w fun e w' => e = .returned (.int .i64 (orI a b)) ∧ w' = w := by
  by_cases ha : a = 0
  · subst ha
    by_cases hb : b = 0
    · subst hb
      have e1 : orI 0 0 = 0 := rfl
      rw [e1]
      go_enter Try.func22, Try.ntmps22
      go_wp2_with fail
      refine wp_loop_rounds 3 ?_
      rw [rounds_succ]
      go_wp2_with fail
      rw [rounds_succ]
      go_wp2_with fail
      rw [rounds_succ]
      go_wp2_with fail
      go_ret
      exact ⟨rfl, rfl⟩
    · have e1 : orI 0 b = b := rfl
      rw [e1]
      have hb1 : (b != 0) = true := by simpa using hb
      clear hb
      go_enter Try.func22, Try.ntmps22
      go_wp2_with fail
      refine wp_loop_rounds 3 ?_
      rw [rounds_succ]
      go_wp2_with fail
      rw [rounds_succ]
      go_wp2_with fail
      go_ret
      exact ⟨rfl, rfl⟩
  · have e1 : orI a b = a := by simp [orI, ha]
    rw [e1]
    have hb1 : (a != 0) = true := by simpa using ha
    clear ha
    go_enter Try.func22, Try.ntmps22
    go_wp2_with fail
    refine wp_loop_rounds 3 ?_
    rw [rounds_succ]
    go_wp2_with fail
    go_ret
    exact ⟨rfl, rfl⟩

theorem wp_region_tail {P : Program} {id : Nat} {Q : Exit → Act → World → Prop} {a : Act} {w : World} {l : List Oper} (n : Nat) (hm : P.follows .mixedOrders = true) (hB : Region.lexTailB .any l.toArray n = true)
    (h : wpStill P l.toArray w.drew (fun a' => wpList P l.toArray Q (l.drop n) a' w.drew) (l.take n) a) : (Code.region id l.toArray true).wp P Q a w := wp_region_still_tail n hm hB h

theorem grown_three (W : World) (a b c : Obj) : ∃ q os', (((W.alloc a).alloc b).alloc c).drew = grow (W.drewN q) os' :=
  ⟨1, _, by rw [alloc_eq_grow, alloc_eq_grow, alloc_eq_grow, grow_grow, grow_grow]; rfl⟩

/-- heads by function, then by place -/
def cmpH (x y : Hd) : Int := orI (cmpI x.f y.f) (cmpI x.a y.a)

set_option maxHeartbeats 1000000 in
set_option maxRecDepth 100000 in
theorem closure_c (x y : Hd) (W : World) : Calls Try.prog 21 #[.agg ⟨headCells x⟩, .agg ⟨headCells y⟩] W fun e w' => e = .returned (.int .i64 (cmpH x y)) ∧ ∃ q os', w' = grow (W.drewN q) os' := by
  unfold headCells
  go_enter Try.func21, Try.ntmps21
  go_wp2_with fail
  refine wp_region_tail 10 (by kernel_rfl) (by kernel_rfl) ?_
  simp only [List.take_succ_cons, List.take_zero, List.drop_succ_cons, List.drop_zero]
  repeat still_step
  still_call (compare_c _ _ _)
  repeat still_step
  still_call (compare_c _ _ _)
  refine wpStill_nil ?_
  go_wp2_with fail
  refine (or_c (cmpI x.f y.f) (cmpI x.a y.a) _ _ _ ?_ ?_).mono ?_
  · go_simp
  · go_simp
  rintro e w' ⟨rfl, rfl⟩
  go_wp2_with fail
  go_ret
  exact ⟨rfl, grown_three _ _ _ _⟩
end Go.Proofs.Ytdcikaenepnliaa
