/- R.SameTrace: Eq of two lists of instructions. -/
import Derived.Test.YtogpbgkafkalnaaDoorTr
import Derived.BigQuiet
import Derived.Deep.QuietTactic
namespace Go.Proofs.YtogpbgkafkalnaaDoor
open Go.RowKit

set_option maxRecDepth 100000 in
set_option maxHeartbeats 4000000 in
theorem eq_inss_c (v u : Value) (xs ys : List TIns) (B : Nat) (w : World) (hx : SliceR w B 8 InsR v xs) (hy : SliceR w B 8 InsR u ys) (hB : B ≤ w.heap.size) :
    Calls Tryd.prog 15 #[v, u] w fun e w' => e = .returned (.bool (decide (xs = ys))) ∧ Below w.heap.size w w' := by
  obtain ⟨A, cap, rfl, hc1, hc2, -⟩ := id hx
  obtain ⟨A', cap', rfl, hc1', hc2', -⟩ := id hy
  unfold maxLen at hc2 hc2'
  have HX := Lib.hid hx
  have HY := Lib.hid hy
  clear hx hy
  by_cases hl : xs.length = ys.length
  · have hl1 : xs.length ≤ ys.length := by omega
    have hl2 : ys.length ≤ xs.length := by omega
    have hb1 : ((xs.length : Int) != (ys.length : Int)) = false := by simp; omega
    clear hl
    go_enter Tryd.func15, Tryd.ntmps15
    go_wp2_with fail
    go_loopw [14] (fun k wr => ∃ kn : Nat, k = .int .i64 kn ∧ kn ≤ xs.length ∧ Hid (xs.take kn = ys.take kn) ∧ Below w.heap.size w wr) (fun k _ => xs.length - (intOf k).toNat)
    case atStart => exact ⟨0, rfl, by omega, Lib.hid rfl, Below.refl _ _⟩
    case round =>
      obtain ⟨kn, rfl, hk, he, hbw⟩ := hrel
      have HW := Lib.hid hbw
      clear hbw
      by_cases hlt : kn < xs.length
      · obtain ⟨b, off, x, cs, rfl, hb, hx0, hcl, hR, hat⟩ := HX.out.at_ hlt
        obtain ⟨b', off', y, cs', rfl, hb', hy0, hcl', hR', hat'⟩ := HY.out.at_ (i := kn) (by omega)
        obtain ⟨xo, xa, xb, xc, xn, xe, xk, xv⟩ := x
        obtain ⟨yo, ya, yb, yc, yn, ye, yk, yv⟩ := y
        obtain ⟨rfl, -⟩ := hR
        obtain ⟨rfl, -⟩ := hR'
        have g0 : wr.cell? ⟨b, off + kn * 8, none⟩ = some (.int .i64 xo) := (HW.out.cell (p := ⟨b, off + kn * 8, none⟩) (by simp; omega)).trans (hat 0 _ rfl)
        have g1 : wr.cell? ⟨b, off + kn * 8 + 1, none⟩ = some (.int .i64 xa) := (HW.out.cell (p := ⟨b, off + kn * 8 + 1, none⟩) (by simp; omega)).trans (hat 1 _ rfl)
        have g2 : wr.cell? ⟨b, off + kn * 8 + 2, none⟩ = some (.int .i64 xb) := (HW.out.cell (p := ⟨b, off + kn * 8 + 2, none⟩) (by simp; omega)).trans (hat 2 _ rfl)
        have g3 : wr.cell? ⟨b, off + kn * 8 + 3, none⟩ = some (.int .i64 xc) := (HW.out.cell (p := ⟨b, off + kn * 8 + 3, none⟩) (by simp; omega)).trans (hat 3 _ rfl)
        have g4 : wr.cell? ⟨b, off + kn * 8 + 4, none⟩ = some (.int .i64 xn) := (HW.out.cell (p := ⟨b, off + kn * 8 + 4, none⟩) (by simp; omega)).trans (hat 4 _ rfl)
        have g5 : wr.cell? ⟨b, off + kn * 8 + 5, none⟩ = some (.int .i64 xe) := (HW.out.cell (p := ⟨b, off + kn * 8 + 5, none⟩) (by simp; omega)).trans (hat 5 _ rfl)
        have g6 : wr.cell? ⟨b, off + kn * 8 + 6, none⟩ = some (.int .i64 xk) := (HW.out.cell (p := ⟨b, off + kn * 8 + 6, none⟩) (by simp; omega)).trans (hat 6 _ rfl)
        have g7 : wr.cell? ⟨b, off + kn * 8 + 7, none⟩ = some (.int .i64 xv) := (HW.out.cell (p := ⟨b, off + kn * 8 + 7, none⟩) (by simp; omega)).trans (hat 7 _ rfl)
        have e0 : wr.cell? ⟨b', off' + kn * 8, none⟩ = some (.int .i64 yo) := (HW.out.cell (p := ⟨b', off' + kn * 8, none⟩) (by simp; omega)).trans (hat' 0 _ rfl)
        have e1 : wr.cell? ⟨b', off' + kn * 8 + 1, none⟩ = some (.int .i64 ya) := (HW.out.cell (p := ⟨b', off' + kn * 8 + 1, none⟩) (by simp; omega)).trans (hat' 1 _ rfl)
        have e2 : wr.cell? ⟨b', off' + kn * 8 + 2, none⟩ = some (.int .i64 yb) := (HW.out.cell (p := ⟨b', off' + kn * 8 + 2, none⟩) (by simp; omega)).trans (hat' 2 _ rfl)
        have e3 : wr.cell? ⟨b', off' + kn * 8 + 3, none⟩ = some (.int .i64 yc) := (HW.out.cell (p := ⟨b', off' + kn * 8 + 3, none⟩) (by simp; omega)).trans (hat' 3 _ rfl)
        have e4 : wr.cell? ⟨b', off' + kn * 8 + 4, none⟩ = some (.int .i64 yn) := (HW.out.cell (p := ⟨b', off' + kn * 8 + 4, none⟩) (by simp; omega)).trans (hat' 4 _ rfl)
        have e5 : wr.cell? ⟨b', off' + kn * 8 + 5, none⟩ = some (.int .i64 ye) := (HW.out.cell (p := ⟨b', off' + kn * 8 + 5, none⟩) (by simp; omega)).trans (hat' 5 _ rfl)
        have e6 : wr.cell? ⟨b', off' + kn * 8 + 6, none⟩ = some (.int .i64 yk) := (HW.out.cell (p := ⟨b', off' + kn * 8 + 6, none⟩) (by simp; omega)).trans (hat' 6 _ rfl)
        have e7 : wr.cell? ⟨b', off' + kn * 8 + 7, none⟩ = some (.int .i64 yv) := (HW.out.cell (p := ⟨b', off' + kn * 8 + 7, none⟩) (by simp; omega)).trans (hat' 7 _ rfl)
        have l0 : b < wr.heap.size := Nat.lt_of_lt_of_le hb (Nat.le_trans hB HW.out.size)
        have l1 : b' < wr.heap.size := Nat.lt_of_lt_of_le hb' (Nat.le_trans hB HW.out.size)
        have HX0 := Lib.hid hx0
        have HY0 := Lib.hid hy0
        clear hx0 hy0 hat hat' hcl hcl'
        by_cases h0 : xo = yo
        · subst h0
          by_cases h1 : xa = ya
          · subst h1
            by_cases h2 : xb = yb
            · subst h2
              by_cases h3 : xc = yc
              · subst h3
                by_cases h4 : xn = yn
                · subst h4
                  by_cases h5 : xe = ye
                  · subst h5
                    by_cases h6 : xk = yk
                    · subst h6
                      by_cases h7 : xv = yv
                      · subst h7
                        go_wp2_with fail
                        refine wp_region_quiet_lit (by kernel_rfl) (by kernel_rfl) ?_
                        repeat (go_big_quiet_step (fail))
                        refine wpQuiet_nil ?_
                        intro w6 hw6
                        obtain ⟨nq, rfl⟩ := hw6
                        go_wp2_with fail
                        go_roundw
                        case rel => exact ⟨kn + 1, by go_num, by omega, Lib.hid (by rw [List.take_add_one, List.take_add_one, he.out, HX0.out, HY0.out]), (HW.out.alloc HW.out.size _).trans ⟨rfl, rfl, rfl, Nat.le_refl _, fun _ _ => rfl⟩⟩
                        case measure => simp [intOf]; omega
                      · have n1 : (xv == yv) = false := by simpa using h7
                        have HN := Lib.hid h7
                        clear h7
                        go_wp2_with fail
                        refine wp_region_quiet_lit (by kernel_rfl) (by kernel_rfl) ?_
                        repeat (go_big_quiet_step (fail))
                        refine wpQuiet_nil ?_
                        intro w6 hw6
                        obtain ⟨nq, rfl⟩ := hw6
                        go_wp2_with fail
                        go_ret
                        refine ⟨?_, (HW.out.alloc HW.out.size _).trans ⟨rfl, rfl, rfl, Nat.le_refl _, fun _ _ => rfl⟩⟩
                        have : ¬ xs = ys := fun e => HN.out (by have h1 := HX0.out; rw [e, HY0.out] at h1; simp only [Option.some.injEq, TIns.mk.injEq, Val.mk.injEq] at h1; omega)
                        simp [this]
                    · have n1 : (xk == yk) = false := by simpa using h6
                      have HN := Lib.hid h6
                      clear h6
                      go_wp2_with fail
                      refine wp_region_quiet_lit (by kernel_rfl) (by kernel_rfl) ?_
                      repeat (go_big_quiet_step (fail))
                      refine wpQuiet_nil ?_
                      intro w6 hw6
                      obtain ⟨nq, rfl⟩ := hw6
                      go_wp2_with fail
                      go_ret
                      refine ⟨?_, (HW.out.alloc HW.out.size _).trans ⟨rfl, rfl, rfl, Nat.le_refl _, fun _ _ => rfl⟩⟩
                      have : ¬ xs = ys := fun e => HN.out (by have h1 := HX0.out; rw [e, HY0.out] at h1; simp only [Option.some.injEq, TIns.mk.injEq, Val.mk.injEq] at h1; omega)
                      simp [this]
                  · have n1 : (xe == ye) = false := by simpa using h5
                    have HN := Lib.hid h5
                    clear h5
                    go_wp2_with fail
                    refine wp_region_quiet_lit (by kernel_rfl) (by kernel_rfl) ?_
                    repeat (go_big_quiet_step (fail))
                    refine wpQuiet_nil ?_
                    intro w6 hw6
                    obtain ⟨nq, rfl⟩ := hw6
                    go_wp2_with fail
                    go_ret
                    refine ⟨?_, (HW.out.alloc HW.out.size _).trans ⟨rfl, rfl, rfl, Nat.le_refl _, fun _ _ => rfl⟩⟩
                    have : ¬ xs = ys := fun e => HN.out (by have h1 := HX0.out; rw [e, HY0.out] at h1; simp only [Option.some.injEq, TIns.mk.injEq, Val.mk.injEq] at h1; omega)
                    simp [this]
                · have n1 : (xn == yn) = false := by simpa using h4
                  have HN := Lib.hid h4
                  clear h4
                  go_wp2_with fail
                  refine wp_region_quiet_lit (by kernel_rfl) (by kernel_rfl) ?_
                  repeat (go_big_quiet_step (fail))
                  refine wpQuiet_nil ?_
                  intro w6 hw6
                  obtain ⟨nq, rfl⟩ := hw6
                  go_wp2_with fail
                  go_ret
                  refine ⟨?_, (HW.out.alloc HW.out.size _).trans ⟨rfl, rfl, rfl, Nat.le_refl _, fun _ _ => rfl⟩⟩
                  have : ¬ xs = ys := fun e => HN.out (by have h1 := HX0.out; rw [e, HY0.out] at h1; simp only [Option.some.injEq, TIns.mk.injEq, Val.mk.injEq] at h1; omega)
                  simp [this]
              · have n1 : (xc == yc) = false := by simpa using h3
                have HN := Lib.hid h3
                clear h3
                go_wp2_with fail
                refine wp_region_quiet_lit (by kernel_rfl) (by kernel_rfl) ?_
                repeat (go_big_quiet_step (fail))
                refine wpQuiet_nil ?_
                intro w6 hw6
                obtain ⟨nq, rfl⟩ := hw6
                go_wp2_with fail
                go_ret
                refine ⟨?_, (HW.out.alloc HW.out.size _).trans ⟨rfl, rfl, rfl, Nat.le_refl _, fun _ _ => rfl⟩⟩
                have : ¬ xs = ys := fun e => HN.out (by have h1 := HX0.out; rw [e, HY0.out] at h1; simp only [Option.some.injEq, TIns.mk.injEq, Val.mk.injEq] at h1; omega)
                simp [this]
            · have n1 : (xb == yb) = false := by simpa using h2
              have HN := Lib.hid h2
              clear h2
              go_wp2_with fail
              refine wp_region_quiet_lit (by kernel_rfl) (by kernel_rfl) ?_
              repeat (go_big_quiet_step (fail))
              refine wpQuiet_nil ?_
              intro w6 hw6
              obtain ⟨nq, rfl⟩ := hw6
              go_wp2_with fail
              go_ret
              refine ⟨?_, (HW.out.alloc HW.out.size _).trans ⟨rfl, rfl, rfl, Nat.le_refl _, fun _ _ => rfl⟩⟩
              have : ¬ xs = ys := fun e => HN.out (by have h1 := HX0.out; rw [e, HY0.out] at h1; simp only [Option.some.injEq, TIns.mk.injEq, Val.mk.injEq] at h1; omega)
              simp [this]
          · have n1 : (xa == ya) = false := by simpa using h1
            have HN := Lib.hid h1
            clear h1
            go_wp2_with fail
            refine wp_region_quiet_lit (by kernel_rfl) (by kernel_rfl) ?_
            repeat (go_big_quiet_step (fail))
            refine wpQuiet_nil ?_
            intro w6 hw6
            obtain ⟨nq, rfl⟩ := hw6
            go_wp2_with fail
            go_ret
            refine ⟨?_, (HW.out.alloc HW.out.size _).trans ⟨rfl, rfl, rfl, Nat.le_refl _, fun _ _ => rfl⟩⟩
            have : ¬ xs = ys := fun e => HN.out (by have h1 := HX0.out; rw [e, HY0.out] at h1; simp only [Option.some.injEq, TIns.mk.injEq, Val.mk.injEq] at h1; omega)
            simp [this]
        · have n1 : (xo == yo) = false := by simpa using h0
          have HN := Lib.hid h0
          clear h0
          go_wp2_with fail
          refine wp_region_quiet_lit (by kernel_rfl) (by kernel_rfl) ?_
          repeat (go_big_quiet_step (fail))
          refine wpQuiet_nil ?_
          intro w6 hw6
          obtain ⟨nq, rfl⟩ := hw6
          go_wp2_with fail
          go_ret
          refine ⟨?_, (HW.out.alloc HW.out.size _).trans ⟨rfl, rfl, rfl, Nat.le_refl _, fun _ _ => rfl⟩⟩
          have : ¬ xs = ys := fun e => HN.out (by have h1 := HX0.out; rw [e, HY0.out] at h1; simp only [Option.some.injEq, TIns.mk.injEq, Val.mk.injEq] at h1; omega)
          simp [this]
      · go_wp2_with fail
        go_ret
        refine ⟨?_, HW.out⟩
        have h1 : xs = ys := by
          have := he.out
          rw [List.take_of_length_le (by omega), List.take_of_length_le (by omega)] at this
          exact this
        simp [h1]
  · have hb1 : ((xs.length : Int) != (ys.length : Int)) = true := by simp; omega
    have HN := Lib.hid hl
    clear hl
    go_enter Tryd.func15, Tryd.ntmps15
    go_wp2_with fail
    go_ret
    refine ⟨?_, Below.refl _ _⟩
    have : ¬ xs = ys := fun e => HN.out (by rw [e])
    simp [this]
end Go.Proofs.YtogpbgkafkalnaaDoor
