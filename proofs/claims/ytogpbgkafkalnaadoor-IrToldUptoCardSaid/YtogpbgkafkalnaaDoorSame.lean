/- R.SameTrace: are two traces one? Eq of sets alone, so far. -/
import Derived.Test.YtogpbgkafkalnaaDoorTr
import Derived.BigQuiet
import Derived.Deep.QuietTactic
namespace Go.Proofs.YtogpbgkafkalnaaDoor
open Go.RowKit

set_option maxHeartbeats 1000000 in
theorem eq_sets_c (v u : Value) (xs ys : List TSet) (B : Nat) (w : World) (hx : SliceR w B 2 SetR v xs) (hy : SliceR w B 2 SetR u ys) (hB : B ≤ w.heap.size) :
    Calls Tryd.prog 20 #[v, u] w fun e w' => e = .returned (.bool (decide (xs = ys))) ∧ Below w.heap.size w w' := by
  obtain ⟨A, cap, rfl, hc1, hc2, -⟩ := id hx
  obtain ⟨A', cap', rfl, hc1', hc2', -⟩ := id hy
  unfold maxLen at hc2 hc2'
  have HX := Lib.hid hx
  have HY := Lib.hid hy
  clear hx hy
  by_cases hl : xs.length = ys.length
  · have hl1 : xs.length ≤ ys.length := by omega
    have hl2 : ys.length ≤ xs.length := by omega
    have hb1 : ((xs.length : Int) != (ys.length : Int)) = false := by simp; omega
    clear hl
    go_enter Tryd.func20, Tryd.ntmps20
    go_wp2_with fail
    go_loopw [14] (fun k wr => ∃ kn : Nat, k = .int .i64 kn ∧ kn ≤ xs.length ∧ Hid (xs.take kn = ys.take kn) ∧ Below w.heap.size w wr) (fun k _ => xs.length - (intOf k).toNat)
    case atStart => exact ⟨0, rfl, by omega, Lib.hid rfl, Below.refl _ _⟩
    case round =>
      obtain ⟨kn, rfl, hk, he, hbw⟩ := hrel
      have HW := Lib.hid hbw
      clear hbw
      by_cases hlt : kn < xs.length
      · obtain ⟨b, off, x, cs, rfl, hb, hx0, hcl, hR, hat⟩ := HX.out.at_ hlt
        obtain ⟨b', off', y, cs', rfl, hb', hy0, hcl', hR', hat'⟩ := HY.out.at_ (i := kn) (by omega)
        obtain ⟨xr, xv⟩ := x
        obtain ⟨yr, yv⟩ := y
        obtain ⟨rfl, _⟩ := hR
        obtain ⟨rfl, _⟩ := hR'
        have g0 : wr.cell? ⟨b, off + kn * 2, none⟩ = some (.int .i64 xr) := (HW.out.cell (p := ⟨b, off + kn * 2, none⟩) (by simp; omega)).trans (hat 0 _ rfl)
        have g1 : wr.cell? ⟨b, off + kn * 2 + 1, none⟩ = some (.int .i64 xv) := (HW.out.cell (p := ⟨b, off + kn * 2 + 1, none⟩) (by simp; omega)).trans (hat 1 _ rfl)
        have g2 : wr.cell? ⟨b', off' + kn * 2, none⟩ = some (.int .i64 yr) := (HW.out.cell (p := ⟨b', off' + kn * 2, none⟩) (by simp; omega)).trans (hat' 0 _ rfl)
        have g3 : wr.cell? ⟨b', off' + kn * 2 + 1, none⟩ = some (.int .i64 yv) := (HW.out.cell (p := ⟨b', off' + kn * 2 + 1, none⟩) (by simp; omega)).trans (hat' 1 _ rfl)
        have l0 : b < wr.heap.size := Nat.lt_of_lt_of_le hb (Nat.le_trans hB HW.out.size)
        have l1 : b' < wr.heap.size := Nat.lt_of_lt_of_le hb' (Nat.le_trans hB HW.out.size)
        have HX0 := Lib.hid hx0
        have HY0 := Lib.hid hy0
        clear hx0 hy0 hat hat' hcl hcl'
        by_cases hr : xr = yr
        · by_cases hv : xv = yv
          · subst hr hv
            go_wp2_with fail
            refine wp_region_quiet_lit (by kernel_rfl) (by kernel_rfl) ?_
            repeat (go_big_quiet_step (fail))
            refine wpQuiet_nil ?_
            intro w6 hw6
            obtain ⟨nq, rfl⟩ := hw6
            go_wp2_with fail
            go_roundw
            case rel => exact ⟨kn + 1, by go_num, by omega, Lib.hid (by rw [List.take_add_one, List.take_add_one, he.out, HX0.out, HY0.out]), (HW.out.alloc HW.out.size _).trans ⟨rfl, rfl, rfl, Nat.le_refl _, fun _ _ => rfl⟩⟩
            case measure => simp [intOf]; omega
          · have n1 : (xv == yv) = false := by simpa using hv
            have HN := Lib.hid hv
            clear hv
            subst hr
            go_wp2_with fail
            refine wp_region_quiet_lit (by kernel_rfl) (by kernel_rfl) ?_
            repeat (go_big_quiet_step (fail))
            refine wpQuiet_nil ?_
            intro w6 hw6
            obtain ⟨nq, rfl⟩ := hw6
            go_wp2_with fail
            go_ret
            refine ⟨?_, (HW.out.alloc HW.out.size _).trans ⟨rfl, rfl, rfl, Nat.le_refl _, fun _ _ => rfl⟩⟩
            have : ¬ xs = ys := fun e => HN.out (by have h1 := HX0.out; rw [e, HY0.out] at h1; injection h1 with h1; injection h1 with e1 e2; first | exact e1.symm | exact e2.symm)
            simp [this]
        · have n1 : (xr == yr) = false := by simpa using hr
          have HN := Lib.hid hr
          clear hr
          go_wp2_with fail
          refine wp_region_quiet_lit (by kernel_rfl) (by kernel_rfl) ?_
          repeat (go_big_quiet_step (fail))
          refine wpQuiet_nil ?_
          intro w6 hw6
          obtain ⟨nq, rfl⟩ := hw6
          go_wp2_with fail
          go_ret
          refine ⟨?_, (HW.out.alloc HW.out.size _).trans ⟨rfl, rfl, rfl, Nat.le_refl _, fun _ _ => rfl⟩⟩
          have : ¬ xs = ys := fun e => HN.out (by have h1 := HX0.out; rw [e, HY0.out] at h1; injection h1 with h1; injection h1 with e1 e2; first | exact e1.symm | exact e2.symm)
          simp [this]
      · go_wp2_with fail
        go_ret
        refine ⟨?_, HW.out⟩
        have h1 : xs = ys := by
          have := he.out
          rw [List.take_of_length_le (by omega), List.take_of_length_le (by omega)] at this
          exact this
        simp [h1]
  · have hb1 : ((xs.length : Int) != (ys.length : Int)) = true := by simp; omega
    have HN := Lib.hid hl
    clear hl
    go_enter Tryd.func20, Tryd.ntmps20
    go_wp2_with fail
    go_ret
    refine ⟨?_, Below.refl _ _⟩
    have : ¬ xs = ys := fun e => HN.out (by rw [e])
    simp [this]
end Go.Proofs.YtogpbgkafkalnaaDoor
