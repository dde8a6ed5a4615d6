/- ops.Right. -/
import Derived.Test.YtmccomeihnaanaaDoorCodeA
import Derived.WalkLawsBesides
import Derived.Laws.Externs
namespace Go.Proofs.YtmccomeihnaanaaDoor
open Go.RowKit

/-- a float's bits, off a value's number -/
def bitsM (n : Int) : Nat := (IntKind.u64.wrap n).toNat
/-- is it a number? -/
def isNum (n : Int) : Bool := FloatKind.f64.format.order (bitsM n) (bitsM n) == some .eq
def rightV (v : Val) : Bool :=
  if v.kind = 0 then v.n == 0
  else if v.kind = 1 then decide (0 ≤ v.n) && decide (v.n ≤ 1)
  else if v.kind = 2 then decide (-2147483648 ≤ v.n) && decide (v.n ≤ 2147483647)
  else if v.kind = 3 then isNum v.n || v.n == 9221120237041090561
  else if v.kind = 4 ∨ v.kind = 5 then decide (0 ≤ v.n)
  else if v.kind = 6 then decide (0 ≤ v.n) && decide (v.n ≤ 15)
  else false

set_option maxHeartbeats 400000 in
set_option maxRecDepth 100000 in
theorem float_c (k n : Int) (w : World) : Calls Tryd.prog 66 #[.agg #[.int .i64 k, .int .i64 n]] w (Gives (.float .f64 (bitsM n)) w) := by
  go_enter Tryd.func66, Tryd.ntmps66
  go_wp2
  rw [run_callFunc_extern Tryd.func99 (by kernel_rfl) (by kernel_rfl) (by kernel_rfl) (e := Extern.MathFloatBits.float64frombits) (by kernel_rfl)]
  rw [show ∀ (m : Int) (W : World), (Extern.MathFloatBits.float64frombits #[.int .u64 m]).run Tryd.prog W = .ok (.float .f64 m.toNat) W from fun _ _ => rfl]
  simp only [Result.andThen]
  rw [Oper.upon_value]
  go_wp2
  go_ret
  exact ⟨rfl, below_one w _⟩

set_option maxHeartbeats 400000 in
set_option maxRecDepth 100000 in
theorem owithin_c (n lo hi : Int) (w : World) : Calls Tryd.prog 97 #[.int .i64 n, .int .i64 lo, .int .i64 hi] w fun e w' => e = .returned (.bool (withinM n lo hi)) ∧ w = w' := by
  unfold withinM
  obtain ⟨r, hr⟩ : ∃ r : Bool, (decide (lo ≤ n) && decide (n ≤ hi)) = r := ⟨_, rfl⟩
  rw [hr]
  by_cases h : lo ≤ n
  · have hr' : decide (n ≤ hi) = r := by rw [← hr]; simp [h]
    have HR := Lib.hid hr'
    clear hr hr'
    go_enter Tryd.func97, Tryd.ntmps97
    go_wp2
    go_ret
    exact ⟨by rw [← HR.out]; rfl, rfl⟩
  · have hr' : false = r := by rw [← hr]; simp [h]
    subst hr'
    have h' : decide (lo ≤ n) = false := by simpa using h
    clear hr
    go_enter Tryd.func97, Tryd.ntmps97
    go_wp2
    go_ret
    exact ⟨rfl, rfl⟩

set_option maxHeartbeats 1000000 in
set_option maxRecDepth 100000 in
theorem right_c (v : Val) (w : World) : Calls Tryd.prog 76 #[.agg #[.int .i64 v.kind, .int .i64 v.n]] w (Gives (.bool (rightV v)) w) := by
  obtain ⟨k, n⟩ := v
  obtain ⟨r, hr⟩ : ∃ r, rightV ⟨k, n⟩ = r := ⟨_, rfl⟩
  rw [hr]
  unfold rightV at hr
  dsimp only at hr ⊢
  by_cases h0 : k = 0
  · rw [if_pos h0] at hr
    subst h0
    have HR := Lib.hid hr
    clear hr
    go_enter Tryd.func76, Tryd.ntmps76
    go_wp2
    go_ret
    exact ⟨by rw [← HR.out]; rfl, below_one w _⟩
  rw [if_neg h0] at hr
  by_cases h1 : k = 1
  · rw [if_pos h1] at hr
    have HR : Hid (withinM n 0 1 = r) := hr
    subst h1
    clear hr h0
    go_enter Tryd.func76, Tryd.ntmps76
    go_wp2_with fail
    refine (owithin_c _ _ _ _).mono ?_
    rintro e w' ⟨rfl, rfl⟩
    go_wp2_with fail
    go_ret
    exact ⟨by rw [← HR.out]; rfl, below_one w _⟩
  rw [if_neg h1] at hr
  by_cases h2 : k = 2
  · rw [if_pos h2] at hr
    have HR : Hid (withinM n (-2147483648) 2147483647 = r) := hr
    subst h2
    clear hr h0 h1
    go_enter Tryd.func76, Tryd.ntmps76
    go_wp2_with fail
    refine (owithin_c _ _ _ _).mono ?_
    rintro e w' ⟨rfl, rfl⟩
    go_wp2_with fail
    go_ret
    exact ⟨by rw [← HR.out]; rfl, below_one w _⟩
  rw [if_neg h2] at hr
  by_cases h3 : k = 3
  · rw [if_pos h3] at hr
    subst h3
    have HR := Lib.hid hr
    obtain ⟨w0, hw0⟩ : ∃ w0, w0 = w.alloc (.cells #[.int .i64 3, .int .i64 n] 41) := ⟨_, rfl⟩
    have f0 : ∀ E : Up w0, E.to.cell? ⟨w.heap.size, 0, none⟩ = some (.int .i64 3) := fun E => E.cell (by rw [hw0]; exact one_cell _ _ _ _)
    have f1 : ∀ E : Up w0, E.to.cell? ⟨w.heap.size, 1, none⟩ = some (.int .i64 n) := fun E => E.cell (by rw [hw0]; exact one_cell _ _ _ _)
    have k0 : Hid (Below w.heap.size w w0) := by rw [hw0]; exact below_one w _
    have HW := Lib.hid hw0
    obtain ⟨bt, hbt⟩ : ∃ bt, bitsM n = bt := ⟨_, rfl⟩
    have FC : Hid (∀ E : Up w0, Calls Tryd.prog 66 #[.agg #[.int .i64 3, .int .i64 n]] E.to (Gives (.float .f64 bt) E.to)) := fun E => by rw [← hbt]; exact float_c 3 n E.to
    have HR2 : Hid (((FloatKind.f64.format.order bt bt == some .eq) || n == 9221120237041090561) = r) := by rw [← hbt]; exact hr
    clear hr h0 h1 h2 hw0 hbt
    cases hq : (FloatKind.f64.format.order bt bt == some .eq)
    · have HR3 : Hid ((n == 9221120237041090561) = r) := by have := HR2.out; rw [hq, Bool.false_or] at this; exact this
      go_enter Tryd.func76, Tryd.ntmps76
      go_wp2_with fail
      rw [← HW.out]
      refine wp_region_up (by kernel_rfl) (by kernel_rfl) ?_
      repeat (go_big_quiet_step ((go_at_call 66; with_reducible exact Calls.up (FC.out _))))
      refine wpQuiet_nil ?_
      rintro _ ⟨E, rfl⟩
      have KE := Lib.hid (k0.out.trans (E.below.mono k0.out.size))
      clear f0 f1
      go_wp2_with fail
      go_ret
      exact ⟨by rw [← HR3.out]; rfl, KE.out⟩
    · have HR3 : Hid (true = r) := by have := HR2.out; rw [hq, Bool.true_or] at this; exact this
      go_enter Tryd.func76, Tryd.ntmps76
      go_wp2_with fail
      rw [← HW.out]
      refine wp_region_up (by kernel_rfl) (by kernel_rfl) ?_
      repeat (go_big_quiet_step ((go_at_call 66; with_reducible exact Calls.up (FC.out _))))
      refine wpQuiet_nil ?_
      rintro _ ⟨E, rfl⟩
      have KE := Lib.hid (k0.out.trans (E.below.mono k0.out.size))
      clear f0 f1
      go_wp2_with fail
      go_ret
      exact ⟨by rw [← HR3.out]; rfl, KE.out⟩
  rw [if_neg h3] at hr
  by_cases h45 : k = 4 ∨ k = 5
  · rw [if_pos h45] at hr
    have HR := Lib.hid hr
    clear hr h0 h1 h2 h3
    rcases h45 with rfl | rfl
    all_goals
      go_enter Tryd.func76, Tryd.ntmps76
      go_wp2
      go_ret
      exact ⟨by rw [← HR.out]; rfl, below_one w _⟩
  rw [if_neg h45] at hr
  by_cases h6 : k = 6
  · rw [if_pos h6] at hr
    have HR : Hid (withinM n 0 15 = r) := hr
    subst h6
    clear hr h0 h1 h2 h3 h45
    go_enter Tryd.func76, Tryd.ntmps76
    go_wp2_with fail
    refine (owithin_c _ _ _ _).mono ?_
    rintro e w' ⟨rfl, rfl⟩
    go_wp2_with fail
    go_ret
    exact ⟨by rw [← HR.out]; rfl, below_one w _⟩
  rw [if_neg h6] at hr
  have n0 : (k == 0) = false := by simpa using h0
  have n1 : (k == 1) = false := by simpa using h1
  have n2 : (k == 2) = false := by simpa using h2
  have n3 : (k == 3) = false := by simpa using h3
  have n4 : (k == 4) = false := by simp; omega
  have n5 : (k == 5) = false := by simp; omega
  have n6 : (k == 6) = false := by simpa using h6
  have HR := Lib.hid hr
  clear hr h0 h1 h2 h3 h45 h6
  go_enter Tryd.func76, Tryd.ntmps76
  go_wp2
  go_ret
  exact ⟨by rw [← HR.out]; rfl, below_one w _⟩
end Go.Proofs.YtmccomeihnaanaaDoor
