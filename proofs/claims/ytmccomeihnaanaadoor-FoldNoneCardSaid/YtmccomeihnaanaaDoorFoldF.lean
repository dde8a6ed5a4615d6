/- fold: neutral, twice. -/
import Derived.Test.YtmccomeihnaanaaDoorFoldE
namespace Go.Proofs.YtmccomeihnaanaaDoor
open Go.RowKit Go.IntWalk

section
variable {W : World} {B fb : Nat} {ca : List Value} {t : TTrace} {G n cG : Nat} {uT : Value} {cur : List TIns} {tl : List Int}

set_option maxHeartbeats 8000000 in
set_option maxRecDepth 100000 in
theorem neutral_c (h : FoldR W B fb ca t (.slice (some ⟨G, 0, none⟩) n cG) uT cur tl) (x : TIns) (ha : 0 ≤ x.a ∧ x.a < cur.length) (hb : 0 ≤ x.b ∧ x.b < cur.length) (i : Nat) (hi : i ≤ 300) :
    Calls Tryd.prog 123 #[.pointer (some ⟨fb, 0, none⟩), .int .i64 i, insV x] W (Gives (.int .i64 (neutralM (foldE t.ins) cur x i)) W) := by
  obtain ⟨op, xa, xb, xc, xn, xe, ⟨k0, k1⟩⟩ := x
  dsimp only at ha hb
  obtain ⟨va, rfl⟩ := Int.eq_ofNat_of_zero_le ha.1
  obtain ⟨vb, rfl⟩ := Int.eq_ofNat_of_zero_le hb.1
  have hva : va < cur.length := by omega
  have hvb : vb < cur.length := by omega
  unfold insV
  dsimp only
  obtain ⟨ya, hya⟩ : ∃ y, cur[va]? = some y := ⟨_, List.getElem?_eq_getElem hva⟩
  obtain ⟨yb, hyb⟩ : ∃ y, cur[vb]? = some y := ⟨_, List.getElem?_eq_getElem hvb⟩
  obtain ⟨w0, hw0⟩ : ∃ w0, w0 = W.alloc (.cells #[.int .i64 op, .int .i64 va, .int .i64 vb, .int .i64 xc, .int .i64 xn, .int .i64 xe, .int .i64 k0, .int .i64 k1] 43) := ⟨_, rfl⟩
  have K0 : Hid (Below W.heap.size W w0) := by rw [hw0]; exact below_one _ _
  have B0 : Hid (w0.heap[W.heap.size]? = some (.cells #[.int .i64 op, .int .i64 va, .int .i64 vb, .int .i64 xc, .int .i64 xn, .int .i64 xe, .int .i64 k0, .int .i64 k1] 43 (0, 0))) := by rw [hw0]; exact heap_last _ _
  have IA : Hid (∀ k W', Below w0.heap.size w0 W' → Calls Tryd.prog 125 #[.pointer (some ⟨fb, 0, none⟩), .int .i64 va, .agg #[.int .i64 2, .int .i64 k]] W' (Gives (.bool (isM cur va (numV k))) W')) := fun k W' kb => is_c ((h.below K0.out).below kb) hya (numV k)
  have IB : Hid (∀ k W', Below w0.heap.size w0 W' → Calls Tryd.prog 125 #[.pointer (some ⟨fb, 0, none⟩), .int .i64 vb, .agg #[.int .i64 2, .int .i64 k]] W' (Gives (.bool (isM cur vb (numV k))) W')) := fun k W' kb => is_c ((h.below K0.out).below kb) hyb (numV k)
  have WA : Hid (∀ W', Below w0.heap.size w0 W' → Calls Tryd.prog 126 #[.pointer (some ⟨fb, 0, none⟩), .int .i64 va, .int .i64 i] W' (Gives (.bool (wholeK (foldE t.ins) va i)) W')) := fun W' kb => fwhole_c ((h.below K0.out).below kb) va i (by omega) (by omega)
  have WB : Hid (∀ W', Below w0.heap.size w0 W' → Calls Tryd.prog 126 #[.pointer (some ⟨fb, 0, none⟩), .int .i64 vb, .int .i64 i] W' (Gives (.bool (wholeK (foldE t.ins) vb i)) W')) := fun W' kb => fwhole_c ((h.below K0.out).below kb) vb i (by omega) (by omega)
  unfold neutralM
  dsimp only
  generalize wholeK (foldE t.ins) va i = wA at WA ⊢
  generalize wholeK (foldE t.ins) vb i = wB at WB ⊢
  obtain ⟨r, hr⟩ : ∃ r, (if (xn = 3 ∨ xn = 5) ∧ (isM cur va (numV (unitN xn)) && wB) = true then (vb : Int) else if (xn = 3 ∨ xn = 4 ∨ xn = 5 ∨ xn = 6) ∧ (isM cur vb (numV (unitN xn)) && wA) = true then (va : Int) else -1) = r := ⟨_, rfl⟩
  rw [hr]
  have HR := Lib.hid hr
  have HW := Lib.hid hw0
  clear hw0 h hi ha hb hya hyb hva hvb hr
  by_cases c3 : xn = 3
  · subst c3
    rw [show unitN 3 = 0 from rfl] at HR
    have IA1 := Lib.hid (IA.out 0)
    have IB1 := Lib.hid (IB.out 0)
    generalize isM cur va (numV 0) = iA at IA1 HR
    generalize isM cur vb (numV 0) = iB at IB1 HR
    clear IA IB
    have KR : Hid (Below w0.heap.size w0 w0) := Below.refl _ _
    rcases Bool.eq_false_or_eq_true iA with rfl | rfl
    · rcases Bool.eq_false_or_eq_true wB with rfl | rfl
      · skip
        go_enter Tryd.func123, Tryd.ntmps123
        go_upto_region 1 with fail
        rw [← HW.out]
        have x4 : w0.cell? ⟨W.heap.size, 4, none⟩ = some (.int .i64 3) := cell_of_row w0 _ 4 _ _ _ B0.out
        go_upto_region 8 with fail
        (try dsimp only [Act.put])
        have m1 : ∀ E : Up w0, E.to.cell? ⟨W.heap.size, 1, none⟩ = some (.int .i64 va) := fun E => E.cell (cell_on KR.out (cell_of_row w0 _ 1 _ _ _ B0.out))
        have m2 : ∀ E : Up w0, E.to.cell? ⟨W.heap.size, 2, none⟩ = some (.int .i64 vb) := fun E => E.cell (cell_on KR.out (cell_of_row w0 _ 2 _ _ _ B0.out))
        have CI : Hid (∀ E : Up w0, _) := fun E => IA1.out E.to (below_to KR.out E)
        have CW : Hid (∀ E : Up w0, _) := fun E => WB.out E.to (below_to KR.out E)
        refine wp_region_up (by kernel_rfl) (by kernel_rfl) ?_
        repeat (first
          | go_big_quiet_step ((go_at_call 124; exact Calls.up (number_c 0 _)))
          | go_big_quiet_step ((go_at_call 125; exact Calls.up (CI.out _)))
          | go_big_quiet_step ((go_at_call 126; exact Calls.up (CW.out _))))
        refine wpQuiet_nil ?_
        first | (rintro _ ⟨E, rfl⟩) | (intro E) | (rename_i E)
        have K7 : Hid (Below w0.heap.size w0 E.to) := below_to KR.out E
        generalize E.to = w7 at K7 ⊢
        clear m1 m2 CI CW
        clear x4
        have x1 : w7.cell? ⟨W.heap.size, 1, none⟩ = some (.int .i64 va) := cell_on K7.out (cell_of_row w0 _ 1 _ _ _ B0.out)
        have x2 : w7.cell? ⟨W.heap.size, 2, none⟩ = some (.int .i64 vb) := cell_on K7.out (cell_of_row w0 _ 2 _ _ _ B0.out)
        have x4 : w7.cell? ⟨W.heap.size, 4, none⟩ = some (.int .i64 3) := cell_on K7.out (cell_of_row w0 _ 4 _ _ _ B0.out)
        go_wp2_with fail
        go_ret
        exact ⟨by rw [← HR.out]; simp, K0.out.trans (K7.out.mono K0.out.size)⟩
      · skip
        rcases Bool.eq_false_or_eq_true iB with rfl | rfl
        · rcases Bool.eq_false_or_eq_true wA with rfl | rfl
          · skip
            go_enter Tryd.func123, Tryd.ntmps123
            go_upto_region 1 with fail
            rw [← HW.out]
            have x4 : w0.cell? ⟨W.heap.size, 4, none⟩ = some (.int .i64 3) := cell_of_row w0 _ 4 _ _ _ B0.out
            go_upto_region 8 with fail
            (try dsimp only [Act.put])
            have m1 : ∀ E : Up w0, E.to.cell? ⟨W.heap.size, 1, none⟩ = some (.int .i64 va) := fun E => E.cell (cell_on KR.out (cell_of_row w0 _ 1 _ _ _ B0.out))
            have m2 : ∀ E : Up w0, E.to.cell? ⟨W.heap.size, 2, none⟩ = some (.int .i64 vb) := fun E => E.cell (cell_on KR.out (cell_of_row w0 _ 2 _ _ _ B0.out))
            have CI : Hid (∀ E : Up w0, _) := fun E => IA1.out E.to (below_to KR.out E)
            have CW : Hid (∀ E : Up w0, _) := fun E => WB.out E.to (below_to KR.out E)
            refine wp_region_up (by kernel_rfl) (by kernel_rfl) ?_
            repeat (first
              | go_big_quiet_step ((go_at_call 124; exact Calls.up (number_c 0 _)))
              | go_big_quiet_step ((go_at_call 125; exact Calls.up (CI.out _)))
              | go_big_quiet_step ((go_at_call 126; exact Calls.up (CW.out _))))
            refine wpQuiet_nil ?_
            first | (rintro _ ⟨E, rfl⟩) | (intro E) | (rename_i E)
            have K7 : Hid (Below w0.heap.size w0 E.to) := below_to KR.out E
            generalize E.to = w7 at K7 ⊢
            clear m1 m2 CI CW
            clear x4
            go_upto_region 12 with fail
            (try dsimp only [Act.put])
            have m1 : ∀ E : Up w7, E.to.cell? ⟨W.heap.size, 1, none⟩ = some (.int .i64 va) := fun E => E.cell (cell_on K7.out (cell_of_row w0 _ 1 _ _ _ B0.out))
            have m2 : ∀ E : Up w7, E.to.cell? ⟨W.heap.size, 2, none⟩ = some (.int .i64 vb) := fun E => E.cell (cell_on K7.out (cell_of_row w0 _ 2 _ _ _ B0.out))
            have CI : Hid (∀ E : Up w7, _) := fun E => IB1.out E.to (below_to K7.out E)
            have CW : Hid (∀ E : Up w7, _) := fun E => WA.out E.to (below_to K7.out E)
            refine wp_region_up (by kernel_rfl) (by kernel_rfl) ?_
            repeat (first
              | go_big_quiet_step ((go_at_call 124; exact Calls.up (number_c 0 _)))
              | go_big_quiet_step ((go_at_call 125; exact Calls.up (CI.out _)))
              | go_big_quiet_step ((go_at_call 126; exact Calls.up (CW.out _))))
            refine wpQuiet_nil ?_
            first | (rintro _ ⟨E, rfl⟩) | (intro E) | (rename_i E)
            have K8 : Hid (Below w0.heap.size w0 E.to) := below_to K7.out E
            generalize E.to = w8 at K8 ⊢
            clear m1 m2 CI CW
            have x1 : w8.cell? ⟨W.heap.size, 1, none⟩ = some (.int .i64 va) := cell_on K8.out (cell_of_row w0 _ 1 _ _ _ B0.out)
            have x2 : w8.cell? ⟨W.heap.size, 2, none⟩ = some (.int .i64 vb) := cell_on K8.out (cell_of_row w0 _ 2 _ _ _ B0.out)
            have x4 : w8.cell? ⟨W.heap.size, 4, none⟩ = some (.int .i64 3) := cell_on K8.out (cell_of_row w0 _ 4 _ _ _ B0.out)
            go_wp2_with fail
            go_ret
            exact ⟨by rw [← HR.out]; simp, K0.out.trans (K8.out.mono K0.out.size)⟩
          · skip
            go_enter Tryd.func123, Tryd.ntmps123
            go_upto_region 1 with fail
            rw [← HW.out]
            have x4 : w0.cell? ⟨W.heap.size, 4, none⟩ = some (.int .i64 3) := cell_of_row w0 _ 4 _ _ _ B0.out
            go_upto_region 8 with fail
            (try dsimp only [Act.put])
            have m1 : ∀ E : Up w0, E.to.cell? ⟨W.heap.size, 1, none⟩ = some (.int .i64 va) := fun E => E.cell (cell_on KR.out (cell_of_row w0 _ 1 _ _ _ B0.out))
            have m2 : ∀ E : Up w0, E.to.cell? ⟨W.heap.size, 2, none⟩ = some (.int .i64 vb) := fun E => E.cell (cell_on KR.out (cell_of_row w0 _ 2 _ _ _ B0.out))
            have CI : Hid (∀ E : Up w0, _) := fun E => IA1.out E.to (below_to KR.out E)
            have CW : Hid (∀ E : Up w0, _) := fun E => WB.out E.to (below_to KR.out E)
            refine wp_region_up (by kernel_rfl) (by kernel_rfl) ?_
            repeat (first
              | go_big_quiet_step ((go_at_call 124; exact Calls.up (number_c 0 _)))
              | go_big_quiet_step ((go_at_call 125; exact Calls.up (CI.out _)))
              | go_big_quiet_step ((go_at_call 126; exact Calls.up (CW.out _))))
            refine wpQuiet_nil ?_
            first | (rintro _ ⟨E, rfl⟩) | (intro E) | (rename_i E)
            have K7 : Hid (Below w0.heap.size w0 E.to) := below_to KR.out E
            generalize E.to = w7 at K7 ⊢
            clear m1 m2 CI CW
            clear x4
            go_upto_region 12 with fail
            (try dsimp only [Act.put])
            have m1 : ∀ E : Up w7, E.to.cell? ⟨W.heap.size, 1, none⟩ = some (.int .i64 va) := fun E => E.cell (cell_on K7.out (cell_of_row w0 _ 1 _ _ _ B0.out))
            have m2 : ∀ E : Up w7, E.to.cell? ⟨W.heap.size, 2, none⟩ = some (.int .i64 vb) := fun E => E.cell (cell_on K7.out (cell_of_row w0 _ 2 _ _ _ B0.out))
            have CI : Hid (∀ E : Up w7, _) := fun E => IB1.out E.to (below_to K7.out E)
            have CW : Hid (∀ E : Up w7, _) := fun E => WA.out E.to (below_to K7.out E)
            refine wp_region_up (by kernel_rfl) (by kernel_rfl) ?_
            repeat (first
              | go_big_quiet_step ((go_at_call 124; exact Calls.up (number_c 0 _)))
              | go_big_quiet_step ((go_at_call 125; exact Calls.up (CI.out _)))
              | go_big_quiet_step ((go_at_call 126; exact Calls.up (CW.out _))))
            refine wpQuiet_nil ?_
            first | (rintro _ ⟨E, rfl⟩) | (intro E) | (rename_i E)
            have K8 : Hid (Below w0.heap.size w0 E.to) := below_to K7.out E
            generalize E.to = w8 at K8 ⊢
            clear m1 m2 CI CW
            have x1 : w8.cell? ⟨W.heap.size, 1, none⟩ = some (.int .i64 va) := cell_on K8.out (cell_of_row w0 _ 1 _ _ _ B0.out)
            have x2 : w8.cell? ⟨W.heap.size, 2, none⟩ = some (.int .i64 vb) := cell_on K8.out (cell_of_row w0 _ 2 _ _ _ B0.out)
            have x4 : w8.cell? ⟨W.heap.size, 4, none⟩ = some (.int .i64 3) := cell_on K8.out (cell_of_row w0 _ 4 _ _ _ B0.out)
            go_wp2_with fail
            go_ret
            exact ⟨by rw [← HR.out]; simp, K0.out.trans (K8.out.mono K0.out.size)⟩
        · skip
          go_enter Tryd.func123, Tryd.ntmps123
          go_upto_region 1 with fail
          rw [← HW.out]
          have x4 : w0.cell? ⟨W.heap.size, 4, none⟩ = some (.int .i64 3) := cell_of_row w0 _ 4 _ _ _ B0.out
          go_upto_region 8 with fail
          (try dsimp only [Act.put])
          have m1 : ∀ E : Up w0, E.to.cell? ⟨W.heap.size, 1, none⟩ = some (.int .i64 va) := fun E => E.cell (cell_on KR.out (cell_of_row w0 _ 1 _ _ _ B0.out))
          have m2 : ∀ E : Up w0, E.to.cell? ⟨W.heap.size, 2, none⟩ = some (.int .i64 vb) := fun E => E.cell (cell_on KR.out (cell_of_row w0 _ 2 _ _ _ B0.out))
          have CI : Hid (∀ E : Up w0, _) := fun E => IA1.out E.to (below_to KR.out E)
          have CW : Hid (∀ E : Up w0, _) := fun E => WB.out E.to (below_to KR.out E)
          refine wp_region_up (by kernel_rfl) (by kernel_rfl) ?_
          repeat (first
            | go_big_quiet_step ((go_at_call 124; exact Calls.up (number_c 0 _)))
            | go_big_quiet_step ((go_at_call 125; exact Calls.up (CI.out _)))
            | go_big_quiet_step ((go_at_call 126; exact Calls.up (CW.out _))))
          refine wpQuiet_nil ?_
          first | (rintro _ ⟨E, rfl⟩) | (intro E) | (rename_i E)
          have K7 : Hid (Below w0.heap.size w0 E.to) := below_to KR.out E
          generalize E.to = w7 at K7 ⊢
          clear m1 m2 CI CW
          clear x4
          go_upto_region 12 with fail
          (try dsimp only [Act.put])
          have m1 : ∀ E : Up w7, E.to.cell? ⟨W.heap.size, 1, none⟩ = some (.int .i64 va) := fun E => E.cell (cell_on K7.out (cell_of_row w0 _ 1 _ _ _ B0.out))
          have m2 : ∀ E : Up w7, E.to.cell? ⟨W.heap.size, 2, none⟩ = some (.int .i64 vb) := fun E => E.cell (cell_on K7.out (cell_of_row w0 _ 2 _ _ _ B0.out))
          have CI : Hid (∀ E : Up w7, _) := fun E => IB1.out E.to (below_to K7.out E)
          have CW : Hid (∀ E : Up w7, _) := fun E => WA.out E.to (below_to K7.out E)
          refine wp_region_up (by kernel_rfl) (by kernel_rfl) ?_
          repeat (first
            | go_big_quiet_step ((go_at_call 124; exact Calls.up (number_c 0 _)))
            | go_big_quiet_step ((go_at_call 125; exact Calls.up (CI.out _)))
            | go_big_quiet_step ((go_at_call 126; exact Calls.up (CW.out _))))
          refine wpQuiet_nil ?_
          first | (rintro _ ⟨E, rfl⟩) | (intro E) | (rename_i E)
          have K8 : Hid (Below w0.heap.size w0 E.to) := below_to K7.out E
          generalize E.to = w8 at K8 ⊢
          clear m1 m2 CI CW
          have x1 : w8.cell? ⟨W.heap.size, 1, none⟩ = some (.int .i64 va) := cell_on K8.out (cell_of_row w0 _ 1 _ _ _ B0.out)
          have x2 : w8.cell? ⟨W.heap.size, 2, none⟩ = some (.int .i64 vb) := cell_on K8.out (cell_of_row w0 _ 2 _ _ _ B0.out)
          have x4 : w8.cell? ⟨W.heap.size, 4, none⟩ = some (.int .i64 3) := cell_on K8.out (cell_of_row w0 _ 4 _ _ _ B0.out)
          go_wp2_with fail
          go_ret
          exact ⟨by rw [← HR.out]; simp, K0.out.trans (K8.out.mono K0.out.size)⟩
    · skip
      rcases Bool.eq_false_or_eq_true iB with rfl | rfl
      · rcases Bool.eq_false_or_eq_true wA with rfl | rfl
        · skip
          go_enter Tryd.func123, Tryd.ntmps123
          go_upto_region 1 with fail
          rw [← HW.out]
          have x4 : w0.cell? ⟨W.heap.size, 4, none⟩ = some (.int .i64 3) := cell_of_row w0 _ 4 _ _ _ B0.out
          go_upto_region 8 with fail
          (try dsimp only [Act.put])
          have m1 : ∀ E : Up w0, E.to.cell? ⟨W.heap.size, 1, none⟩ = some (.int .i64 va) := fun E => E.cell (cell_on KR.out (cell_of_row w0 _ 1 _ _ _ B0.out))
          have m2 : ∀ E : Up w0, E.to.cell? ⟨W.heap.size, 2, none⟩ = some (.int .i64 vb) := fun E => E.cell (cell_on KR.out (cell_of_row w0 _ 2 _ _ _ B0.out))
          have CI : Hid (∀ E : Up w0, _) := fun E => IA1.out E.to (below_to KR.out E)
          have CW : Hid (∀ E : Up w0, _) := fun E => WB.out E.to (below_to KR.out E)
          refine wp_region_up (by kernel_rfl) (by kernel_rfl) ?_
          repeat (first
            | go_big_quiet_step ((go_at_call 124; exact Calls.up (number_c 0 _)))
            | go_big_quiet_step ((go_at_call 125; exact Calls.up (CI.out _)))
            | go_big_quiet_step ((go_at_call 126; exact Calls.up (CW.out _))))
          refine wpQuiet_nil ?_
          first | (rintro _ ⟨E, rfl⟩) | (intro E) | (rename_i E)
          have K7 : Hid (Below w0.heap.size w0 E.to) := below_to KR.out E
          generalize E.to = w7 at K7 ⊢
          clear m1 m2 CI CW
          clear x4
          go_upto_region 12 with fail
          (try dsimp only [Act.put])
          have m1 : ∀ E : Up w7, E.to.cell? ⟨W.heap.size, 1, none⟩ = some (.int .i64 va) := fun E => E.cell (cell_on K7.out (cell_of_row w0 _ 1 _ _ _ B0.out))
          have m2 : ∀ E : Up w7, E.to.cell? ⟨W.heap.size, 2, none⟩ = some (.int .i64 vb) := fun E => E.cell (cell_on K7.out (cell_of_row w0 _ 2 _ _ _ B0.out))
          have CI : Hid (∀ E : Up w7, _) := fun E => IB1.out E.to (below_to K7.out E)
          have CW : Hid (∀ E : Up w7, _) := fun E => WA.out E.to (below_to K7.out E)
          refine wp_region_up (by kernel_rfl) (by kernel_rfl) ?_
          repeat (first
            | go_big_quiet_step ((go_at_call 124; exact Calls.up (number_c 0 _)))
            | go_big_quiet_step ((go_at_call 125; exact Calls.up (CI.out _)))
            | go_big_quiet_step ((go_at_call 126; exact Calls.up (CW.out _))))
          refine wpQuiet_nil ?_
          first | (rintro _ ⟨E, rfl⟩) | (intro E) | (rename_i E)
          have K8 : Hid (Below w0.heap.size w0 E.to) := below_to K7.out E
          generalize E.to = w8 at K8 ⊢
          clear m1 m2 CI CW
          have x1 : w8.cell? ⟨W.heap.size, 1, none⟩ = some (.int .i64 va) := cell_on K8.out (cell_of_row w0 _ 1 _ _ _ B0.out)
          have x2 : w8.cell? ⟨W.heap.size, 2, none⟩ = some (.int .i64 vb) := cell_on K8.out (cell_of_row w0 _ 2 _ _ _ B0.out)
          have x4 : w8.cell? ⟨W.heap.size, 4, none⟩ = some (.int .i64 3) := cell_on K8.out (cell_of_row w0 _ 4 _ _ _ B0.out)
          go_wp2_with fail
          go_ret
          exact ⟨by rw [← HR.out]; simp, K0.out.trans (K8.out.mono K0.out.size)⟩
        · skip
          go_enter Tryd.func123, Tryd.ntmps123
          go_upto_region 1 with fail
          rw [← HW.out]
          have x4 : w0.cell? ⟨W.heap.size, 4, none⟩ = some (.int .i64 3) := cell_of_row w0 _ 4 _ _ _ B0.out
          go_upto_region 8 with fail
          (try dsimp only [Act.put])
          have m1 : ∀ E : Up w0, E.to.cell? ⟨W.heap.size, 1, none⟩ = some (.int .i64 va) := fun E => E.cell (cell_on KR.out (cell_of_row w0 _ 1 _ _ _ B0.out))
          have m2 : ∀ E : Up w0, E.to.cell? ⟨W.heap.size, 2, none⟩ = some (.int .i64 vb) := fun E => E.cell (cell_on KR.out (cell_of_row w0 _ 2 _ _ _ B0.out))
          have CI : Hid (∀ E : Up w0, _) := fun E => IA1.out E.to (below_to KR.out E)
          have CW : Hid (∀ E : Up w0, _) := fun E => WB.out E.to (below_to KR.out E)
          refine wp_region_up (by kernel_rfl) (by kernel_rfl) ?_
          repeat (first
            | go_big_quiet_step ((go_at_call 124; exact Calls.up (number_c 0 _)))
            | go_big_quiet_step ((go_at_call 125; exact Calls.up (CI.out _)))
            | go_big_quiet_step ((go_at_call 126; exact Calls.up (CW.out _))))
          refine wpQuiet_nil ?_
          first | (rintro _ ⟨E, rfl⟩) | (intro E) | (rename_i E)
          have K7 : Hid (Below w0.heap.size w0 E.to) := below_to KR.out E
          generalize E.to = w7 at K7 ⊢
          clear m1 m2 CI CW
          clear x4
          go_upto_region 12 with fail
          (try dsimp only [Act.put])
          have m1 : ∀ E : Up w7, E.to.cell? ⟨W.heap.size, 1, none⟩ = some (.int .i64 va) := fun E => E.cell (cell_on K7.out (cell_of_row w0 _ 1 _ _ _ B0.out))
          have m2 : ∀ E : Up w7, E.to.cell? ⟨W.heap.size, 2, none⟩ = some (.int .i64 vb) := fun E => E.cell (cell_on K7.out (cell_of_row w0 _ 2 _ _ _ B0.out))
          have CI : Hid (∀ E : Up w7, _) := fun E => IB1.out E.to (below_to K7.out E)
          have CW : Hid (∀ E : Up w7, _) := fun E => WA.out E.to (below_to K7.out E)
          refine wp_region_up (by kernel_rfl) (by kernel_rfl) ?_
          repeat (first
            | go_big_quiet_step ((go_at_call 124; exact Calls.up (number_c 0 _)))
            | go_big_quiet_step ((go_at_call 125; exact Calls.up (CI.out _)))
            | go_big_quiet_step ((go_at_call 126; exact Calls.up (CW.out _))))
          refine wpQuiet_nil ?_
          first | (rintro _ ⟨E, rfl⟩) | (intro E) | (rename_i E)
          have K8 : Hid (Below w0.heap.size w0 E.to) := below_to K7.out E
          generalize E.to = w8 at K8 ⊢
          clear m1 m2 CI CW
          have x1 : w8.cell? ⟨W.heap.size, 1, none⟩ = some (.int .i64 va) := cell_on K8.out (cell_of_row w0 _ 1 _ _ _ B0.out)
          have x2 : w8.cell? ⟨W.heap.size, 2, none⟩ = some (.int .i64 vb) := cell_on K8.out (cell_of_row w0 _ 2 _ _ _ B0.out)
          have x4 : w8.cell? ⟨W.heap.size, 4, none⟩ = some (.int .i64 3) := cell_on K8.out (cell_of_row w0 _ 4 _ _ _ B0.out)
          go_wp2_with fail
          go_ret
          exact ⟨by rw [← HR.out]; simp, K0.out.trans (K8.out.mono K0.out.size)⟩
      · skip
        go_enter Tryd.func123, Tryd.ntmps123
        go_upto_region 1 with fail
        rw [← HW.out]
        have x4 : w0.cell? ⟨W.heap.size, 4, none⟩ = some (.int .i64 3) := cell_of_row w0 _ 4 _ _ _ B0.out
        go_upto_region 8 with fail
        (try dsimp only [Act.put])
        have m1 : ∀ E : Up w0, E.to.cell? ⟨W.heap.size, 1, none⟩ = some (.int .i64 va) := fun E => E.cell (cell_on KR.out (cell_of_row w0 _ 1 _ _ _ B0.out))
        have m2 : ∀ E : Up w0, E.to.cell? ⟨W.heap.size, 2, none⟩ = some (.int .i64 vb) := fun E => E.cell (cell_on KR.out (cell_of_row w0 _ 2 _ _ _ B0.out))
        have CI : Hid (∀ E : Up w0, _) := fun E => IA1.out E.to (below_to KR.out E)
        have CW : Hid (∀ E : Up w0, _) := fun E => WB.out E.to (below_to KR.out E)
        refine wp_region_up (by kernel_rfl) (by kernel_rfl) ?_
        repeat (first
          | go_big_quiet_step ((go_at_call 124; exact Calls.up (number_c 0 _)))
          | go_big_quiet_step ((go_at_call 125; exact Calls.up (CI.out _)))
          | go_big_quiet_step ((go_at_call 126; exact Calls.up (CW.out _))))
        refine wpQuiet_nil ?_
        first | (rintro _ ⟨E, rfl⟩) | (intro E) | (rename_i E)
        have K7 : Hid (Below w0.heap.size w0 E.to) := below_to KR.out E
        generalize E.to = w7 at K7 ⊢
        clear m1 m2 CI CW
        clear x4
        go_upto_region 12 with fail
        (try dsimp only [Act.put])
        have m1 : ∀ E : Up w7, E.to.cell? ⟨W.heap.size, 1, none⟩ = some (.int .i64 va) := fun E => E.cell (cell_on K7.out (cell_of_row w0 _ 1 _ _ _ B0.out))
        have m2 : ∀ E : Up w7, E.to.cell? ⟨W.heap.size, 2, none⟩ = some (.int .i64 vb) := fun E => E.cell (cell_on K7.out (cell_of_row w0 _ 2 _ _ _ B0.out))
        have CI : Hid (∀ E : Up w7, _) := fun E => IB1.out E.to (below_to K7.out E)
        have CW : Hid (∀ E : Up w7, _) := fun E => WA.out E.to (below_to K7.out E)
        refine wp_region_up (by kernel_rfl) (by kernel_rfl) ?_
        repeat (first
          | go_big_quiet_step ((go_at_call 124; exact Calls.up (number_c 0 _)))
          | go_big_quiet_step ((go_at_call 125; exact Calls.up (CI.out _)))
          | go_big_quiet_step ((go_at_call 126; exact Calls.up (CW.out _))))
        refine wpQuiet_nil ?_
        first | (rintro _ ⟨E, rfl⟩) | (intro E) | (rename_i E)
        have K8 : Hid (Below w0.heap.size w0 E.to) := below_to K7.out E
        generalize E.to = w8 at K8 ⊢
        clear m1 m2 CI CW
        have x1 : w8.cell? ⟨W.heap.size, 1, none⟩ = some (.int .i64 va) := cell_on K8.out (cell_of_row w0 _ 1 _ _ _ B0.out)
        have x2 : w8.cell? ⟨W.heap.size, 2, none⟩ = some (.int .i64 vb) := cell_on K8.out (cell_of_row w0 _ 2 _ _ _ B0.out)
        have x4 : w8.cell? ⟨W.heap.size, 4, none⟩ = some (.int .i64 3) := cell_on K8.out (cell_of_row w0 _ 4 _ _ _ B0.out)
        go_wp2_with fail
        go_ret
        exact ⟨by rw [← HR.out]; simp, K0.out.trans (K8.out.mono K0.out.size)⟩
  by_cases c5 : xn = 5
  · subst c5
    clear c3
    rw [show unitN 5 = 1 from rfl] at HR
    have IA1 := Lib.hid (IA.out 1)
    have IB1 := Lib.hid (IB.out 1)
    generalize isM cur va (numV 1) = iA at IA1 HR
    generalize isM cur vb (numV 1) = iB at IB1 HR
    clear IA IB
    have KR : Hid (Below w0.heap.size w0 w0) := Below.refl _ _
    rcases Bool.eq_false_or_eq_true iA with rfl | rfl
    · rcases Bool.eq_false_or_eq_true wB with rfl | rfl
      · skip
        go_enter Tryd.func123, Tryd.ntmps123
        go_upto_region 1 with fail
        rw [← HW.out]
        have x4 : w0.cell? ⟨W.heap.size, 4, none⟩ = some (.int .i64 5) := cell_of_row w0 _ 4 _ _ _ B0.out
        go_upto_region 8 with fail
        (try dsimp only [Act.put])
        have m1 : ∀ E : Up w0, E.to.cell? ⟨W.heap.size, 1, none⟩ = some (.int .i64 va) := fun E => E.cell (cell_on KR.out (cell_of_row w0 _ 1 _ _ _ B0.out))
        have m2 : ∀ E : Up w0, E.to.cell? ⟨W.heap.size, 2, none⟩ = some (.int .i64 vb) := fun E => E.cell (cell_on KR.out (cell_of_row w0 _ 2 _ _ _ B0.out))
        have CI : Hid (∀ E : Up w0, _) := fun E => IA1.out E.to (below_to KR.out E)
        have CW : Hid (∀ E : Up w0, _) := fun E => WB.out E.to (below_to KR.out E)
        refine wp_region_up (by kernel_rfl) (by kernel_rfl) ?_
        repeat (first
          | go_big_quiet_step ((go_at_call 124; exact Calls.up (number_c 1 _)))
          | go_big_quiet_step ((go_at_call 125; exact Calls.up (CI.out _)))
          | go_big_quiet_step ((go_at_call 126; exact Calls.up (CW.out _))))
        refine wpQuiet_nil ?_
        first | (rintro _ ⟨E, rfl⟩) | (intro E) | (rename_i E)
        have K7 : Hid (Below w0.heap.size w0 E.to) := below_to KR.out E
        generalize E.to = w7 at K7 ⊢
        clear m1 m2 CI CW
        clear x4
        have x1 : w7.cell? ⟨W.heap.size, 1, none⟩ = some (.int .i64 va) := cell_on K7.out (cell_of_row w0 _ 1 _ _ _ B0.out)
        have x2 : w7.cell? ⟨W.heap.size, 2, none⟩ = some (.int .i64 vb) := cell_on K7.out (cell_of_row w0 _ 2 _ _ _ B0.out)
        have x4 : w7.cell? ⟨W.heap.size, 4, none⟩ = some (.int .i64 5) := cell_on K7.out (cell_of_row w0 _ 4 _ _ _ B0.out)
        go_wp2_with fail
        go_ret
        exact ⟨by rw [← HR.out]; simp, K0.out.trans (K7.out.mono K0.out.size)⟩
      · skip
        rcases Bool.eq_false_or_eq_true iB with rfl | rfl
        · rcases Bool.eq_false_or_eq_true wA with rfl | rfl
          · skip
            go_enter Tryd.func123, Tryd.ntmps123
            go_upto_region 1 with fail
            rw [← HW.out]
            have x4 : w0.cell? ⟨W.heap.size, 4, none⟩ = some (.int .i64 5) := cell_of_row w0 _ 4 _ _ _ B0.out
            go_upto_region 8 with fail
            (try dsimp only [Act.put])
            have m1 : ∀ E : Up w0, E.to.cell? ⟨W.heap.size, 1, none⟩ = some (.int .i64 va) := fun E => E.cell (cell_on KR.out (cell_of_row w0 _ 1 _ _ _ B0.out))
            have m2 : ∀ E : Up w0, E.to.cell? ⟨W.heap.size, 2, none⟩ = some (.int .i64 vb) := fun E => E.cell (cell_on KR.out (cell_of_row w0 _ 2 _ _ _ B0.out))
            have CI : Hid (∀ E : Up w0, _) := fun E => IA1.out E.to (below_to KR.out E)
            have CW : Hid (∀ E : Up w0, _) := fun E => WB.out E.to (below_to KR.out E)
            refine wp_region_up (by kernel_rfl) (by kernel_rfl) ?_
            repeat (first
              | go_big_quiet_step ((go_at_call 124; exact Calls.up (number_c 1 _)))
              | go_big_quiet_step ((go_at_call 125; exact Calls.up (CI.out _)))
              | go_big_quiet_step ((go_at_call 126; exact Calls.up (CW.out _))))
            refine wpQuiet_nil ?_
            first | (rintro _ ⟨E, rfl⟩) | (intro E) | (rename_i E)
            have K7 : Hid (Below w0.heap.size w0 E.to) := below_to KR.out E
            generalize E.to = w7 at K7 ⊢
            clear m1 m2 CI CW
            clear x4
            go_upto_region 12 with fail
            (try dsimp only [Act.put])
            have m1 : ∀ E : Up w7, E.to.cell? ⟨W.heap.size, 1, none⟩ = some (.int .i64 va) := fun E => E.cell (cell_on K7.out (cell_of_row w0 _ 1 _ _ _ B0.out))
            have m2 : ∀ E : Up w7, E.to.cell? ⟨W.heap.size, 2, none⟩ = some (.int .i64 vb) := fun E => E.cell (cell_on K7.out (cell_of_row w0 _ 2 _ _ _ B0.out))
            have CI : Hid (∀ E : Up w7, _) := fun E => IB1.out E.to (below_to K7.out E)
            have CW : Hid (∀ E : Up w7, _) := fun E => WA.out E.to (below_to K7.out E)
            refine wp_region_up (by kernel_rfl) (by kernel_rfl) ?_
            repeat (first
              | go_big_quiet_step ((go_at_call 124; exact Calls.up (number_c 1 _)))
              | go_big_quiet_step ((go_at_call 125; exact Calls.up (CI.out _)))
              | go_big_quiet_step ((go_at_call 126; exact Calls.up (CW.out _))))
            refine wpQuiet_nil ?_
            first | (rintro _ ⟨E, rfl⟩) | (intro E) | (rename_i E)
            have K8 : Hid (Below w0.heap.size w0 E.to) := below_to K7.out E
            generalize E.to = w8 at K8 ⊢
            clear m1 m2 CI CW
            have x1 : w8.cell? ⟨W.heap.size, 1, none⟩ = some (.int .i64 va) := cell_on K8.out (cell_of_row w0 _ 1 _ _ _ B0.out)
            have x2 : w8.cell? ⟨W.heap.size, 2, none⟩ = some (.int .i64 vb) := cell_on K8.out (cell_of_row w0 _ 2 _ _ _ B0.out)
            have x4 : w8.cell? ⟨W.heap.size, 4, none⟩ = some (.int .i64 5) := cell_on K8.out (cell_of_row w0 _ 4 _ _ _ B0.out)
            go_wp2_with fail
            go_ret
            exact ⟨by rw [← HR.out]; simp, K0.out.trans (K8.out.mono K0.out.size)⟩
          · skip
            go_enter Tryd.func123, Tryd.ntmps123
            go_upto_region 1 with fail
            rw [← HW.out]
            have x4 : w0.cell? ⟨W.heap.size, 4, none⟩ = some (.int .i64 5) := cell_of_row w0 _ 4 _ _ _ B0.out
            go_upto_region 8 with fail
            (try dsimp only [Act.put])
            have m1 : ∀ E : Up w0, E.to.cell? ⟨W.heap.size, 1, none⟩ = some (.int .i64 va) := fun E => E.cell (cell_on KR.out (cell_of_row w0 _ 1 _ _ _ B0.out))
            have m2 : ∀ E : Up w0, E.to.cell? ⟨W.heap.size, 2, none⟩ = some (.int .i64 vb) := fun E => E.cell (cell_on KR.out (cell_of_row w0 _ 2 _ _ _ B0.out))
            have CI : Hid (∀ E : Up w0, _) := fun E => IA1.out E.to (below_to KR.out E)
            have CW : Hid (∀ E : Up w0, _) := fun E => WB.out E.to (below_to KR.out E)
            refine wp_region_up (by kernel_rfl) (by kernel_rfl) ?_
            repeat (first
              | go_big_quiet_step ((go_at_call 124; exact Calls.up (number_c 1 _)))
              | go_big_quiet_step ((go_at_call 125; exact Calls.up (CI.out _)))
              | go_big_quiet_step ((go_at_call 126; exact Calls.up (CW.out _))))
            refine wpQuiet_nil ?_
            first | (rintro _ ⟨E, rfl⟩) | (intro E) | (rename_i E)
            have K7 : Hid (Below w0.heap.size w0 E.to) := below_to KR.out E
            generalize E.to = w7 at K7 ⊢
            clear m1 m2 CI CW
            clear x4
            go_upto_region 12 with fail
            (try dsimp only [Act.put])
            have m1 : ∀ E : Up w7, E.to.cell? ⟨W.heap.size, 1, none⟩ = some (.int .i64 va) := fun E => E.cell (cell_on K7.out (cell_of_row w0 _ 1 _ _ _ B0.out))
            have m2 : ∀ E : Up w7, E.to.cell? ⟨W.heap.size, 2, none⟩ = some (.int .i64 vb) := fun E => E.cell (cell_on K7.out (cell_of_row w0 _ 2 _ _ _ B0.out))
            have CI : Hid (∀ E : Up w7, _) := fun E => IB1.out E.to (below_to K7.out E)
            have CW : Hid (∀ E : Up w7, _) := fun E => WA.out E.to (below_to K7.out E)
            refine wp_region_up (by kernel_rfl) (by kernel_rfl) ?_
            repeat (first
              | go_big_quiet_step ((go_at_call 124; exact Calls.up (number_c 1 _)))
              | go_big_quiet_step ((go_at_call 125; exact Calls.up (CI.out _)))
              | go_big_quiet_step ((go_at_call 126; exact Calls.up (CW.out _))))
            refine wpQuiet_nil ?_
            first | (rintro _ ⟨E, rfl⟩) | (intro E) | (rename_i E)
            have K8 : Hid (Below w0.heap.size w0 E.to) := below_to K7.out E
            generalize E.to = w8 at K8 ⊢
            clear m1 m2 CI CW
            have x1 : w8.cell? ⟨W.heap.size, 1, none⟩ = some (.int .i64 va) := cell_on K8.out (cell_of_row w0 _ 1 _ _ _ B0.out)
            have x2 : w8.cell? ⟨W.heap.size, 2, none⟩ = some (.int .i64 vb) := cell_on K8.out (cell_of_row w0 _ 2 _ _ _ B0.out)
            have x4 : w8.cell? ⟨W.heap.size, 4, none⟩ = some (.int .i64 5) := cell_on K8.out (cell_of_row w0 _ 4 _ _ _ B0.out)
            go_wp2_with fail
            go_ret
            exact ⟨by rw [← HR.out]; simp, K0.out.trans (K8.out.mono K0.out.size)⟩
        · skip
          go_enter Tryd.func123, Tryd.ntmps123
          go_upto_region 1 with fail
          rw [← HW.out]
          have x4 : w0.cell? ⟨W.heap.size, 4, none⟩ = some (.int .i64 5) := cell_of_row w0 _ 4 _ _ _ B0.out
          go_upto_region 8 with fail
          (try dsimp only [Act.put])
          have m1 : ∀ E : Up w0, E.to.cell? ⟨W.heap.size, 1, none⟩ = some (.int .i64 va) := fun E => E.cell (cell_on KR.out (cell_of_row w0 _ 1 _ _ _ B0.out))
          have m2 : ∀ E : Up w0, E.to.cell? ⟨W.heap.size, 2, none⟩ = some (.int .i64 vb) := fun E => E.cell (cell_on KR.out (cell_of_row w0 _ 2 _ _ _ B0.out))
          have CI : Hid (∀ E : Up w0, _) := fun E => IA1.out E.to (below_to KR.out E)
          have CW : Hid (∀ E : Up w0, _) := fun E => WB.out E.to (below_to KR.out E)
          refine wp_region_up (by kernel_rfl) (by kernel_rfl) ?_
          repeat (first
            | go_big_quiet_step ((go_at_call 124; exact Calls.up (number_c 1 _)))
            | go_big_quiet_step ((go_at_call 125; exact Calls.up (CI.out _)))
            | go_big_quiet_step ((go_at_call 126; exact Calls.up (CW.out _))))
          refine wpQuiet_nil ?_
          first | (rintro _ ⟨E, rfl⟩) | (intro E) | (rename_i E)
          have K7 : Hid (Below w0.heap.size w0 E.to) := below_to KR.out E
          generalize E.to = w7 at K7 ⊢
          clear m1 m2 CI CW
          clear x4
          go_upto_region 12 with fail
          (try dsimp only [Act.put])
          have m1 : ∀ E : Up w7, E.to.cell? ⟨W.heap.size, 1, none⟩ = some (.int .i64 va) := fun E => E.cell (cell_on K7.out (cell_of_row w0 _ 1 _ _ _ B0.out))
          have m2 : ∀ E : Up w7, E.to.cell? ⟨W.heap.size, 2, none⟩ = some (.int .i64 vb) := fun E => E.cell (cell_on K7.out (cell_of_row w0 _ 2 _ _ _ B0.out))
          have CI : Hid (∀ E : Up w7, _) := fun E => IB1.out E.to (below_to K7.out E)
          have CW : Hid (∀ E : Up w7, _) := fun E => WA.out E.to (below_to K7.out E)
          refine wp_region_up (by kernel_rfl) (by kernel_rfl) ?_
          repeat (first
            | go_big_quiet_step ((go_at_call 124; exact Calls.up (number_c 1 _)))
            | go_big_quiet_step ((go_at_call 125; exact Calls.up (CI.out _)))
            | go_big_quiet_step ((go_at_call 126; exact Calls.up (CW.out _))))
          refine wpQuiet_nil ?_
          first | (rintro _ ⟨E, rfl⟩) | (intro E) | (rename_i E)
          have K8 : Hid (Below w0.heap.size w0 E.to) := below_to K7.out E
          generalize E.to = w8 at K8 ⊢
          clear m1 m2 CI CW
          have x1 : w8.cell? ⟨W.heap.size, 1, none⟩ = some (.int .i64 va) := cell_on K8.out (cell_of_row w0 _ 1 _ _ _ B0.out)
          have x2 : w8.cell? ⟨W.heap.size, 2, none⟩ = some (.int .i64 vb) := cell_on K8.out (cell_of_row w0 _ 2 _ _ _ B0.out)
          have x4 : w8.cell? ⟨W.heap.size, 4, none⟩ = some (.int .i64 5) := cell_on K8.out (cell_of_row w0 _ 4 _ _ _ B0.out)
          go_wp2_with fail
          go_ret
          exact ⟨by rw [← HR.out]; simp, K0.out.trans (K8.out.mono K0.out.size)⟩
    · skip
      rcases Bool.eq_false_or_eq_true iB with rfl | rfl
      · rcases Bool.eq_false_or_eq_true wA with rfl | rfl
        · skip
          go_enter Tryd.func123, Tryd.ntmps123
          go_upto_region 1 with fail
          rw [← HW.out]
          have x4 : w0.cell? ⟨W.heap.size, 4, none⟩ = some (.int .i64 5) := cell_of_row w0 _ 4 _ _ _ B0.out
          go_upto_region 8 with fail
          (try dsimp only [Act.put])
          have m1 : ∀ E : Up w0, E.to.cell? ⟨W.heap.size, 1, none⟩ = some (.int .i64 va) := fun E => E.cell (cell_on KR.out (cell_of_row w0 _ 1 _ _ _ B0.out))
          have m2 : ∀ E : Up w0, E.to.cell? ⟨W.heap.size, 2, none⟩ = some (.int .i64 vb) := fun E => E.cell (cell_on KR.out (cell_of_row w0 _ 2 _ _ _ B0.out))
          have CI : Hid (∀ E : Up w0, _) := fun E => IA1.out E.to (below_to KR.out E)
          have CW : Hid (∀ E : Up w0, _) := fun E => WB.out E.to (below_to KR.out E)
          refine wp_region_up (by kernel_rfl) (by kernel_rfl) ?_
          repeat (first
            | go_big_quiet_step ((go_at_call 124; exact Calls.up (number_c 1 _)))
            | go_big_quiet_step ((go_at_call 125; exact Calls.up (CI.out _)))
            | go_big_quiet_step ((go_at_call 126; exact Calls.up (CW.out _))))
          refine wpQuiet_nil ?_
          first | (rintro _ ⟨E, rfl⟩) | (intro E) | (rename_i E)
          have K7 : Hid (Below w0.heap.size w0 E.to) := below_to KR.out E
          generalize E.to = w7 at K7 ⊢
          clear m1 m2 CI CW
          clear x4
          go_upto_region 12 with fail
          (try dsimp only [Act.put])
          have m1 : ∀ E : Up w7, E.to.cell? ⟨W.heap.size, 1, none⟩ = some (.int .i64 va) := fun E => E.cell (cell_on K7.out (cell_of_row w0 _ 1 _ _ _ B0.out))
          have m2 : ∀ E : Up w7, E.to.cell? ⟨W.heap.size, 2, none⟩ = some (.int .i64 vb) := fun E => E.cell (cell_on K7.out (cell_of_row w0 _ 2 _ _ _ B0.out))
          have CI : Hid (∀ E : Up w7, _) := fun E => IB1.out E.to (below_to K7.out E)
          have CW : Hid (∀ E : Up w7, _) := fun E => WA.out E.to (below_to K7.out E)
          refine wp_region_up (by kernel_rfl) (by kernel_rfl) ?_
          repeat (first
            | go_big_quiet_step ((go_at_call 124; exact Calls.up (number_c 1 _)))
            | go_big_quiet_step ((go_at_call 125; exact Calls.up (CI.out _)))
            | go_big_quiet_step ((go_at_call 126; exact Calls.up (CW.out _))))
          refine wpQuiet_nil ?_
          first | (rintro _ ⟨E, rfl⟩) | (intro E) | (rename_i E)
          have K8 : Hid (Below w0.heap.size w0 E.to) := below_to K7.out E
          generalize E.to = w8 at K8 ⊢
          clear m1 m2 CI CW
          have x1 : w8.cell? ⟨W.heap.size, 1, none⟩ = some (.int .i64 va) := cell_on K8.out (cell_of_row w0 _ 1 _ _ _ B0.out)
          have x2 : w8.cell? ⟨W.heap.size, 2, none⟩ = some (.int .i64 vb) := cell_on K8.out (cell_of_row w0 _ 2 _ _ _ B0.out)
          have x4 : w8.cell? ⟨W.heap.size, 4, none⟩ = some (.int .i64 5) := cell_on K8.out (cell_of_row w0 _ 4 _ _ _ B0.out)
          go_wp2_with fail
          go_ret
          exact ⟨by rw [← HR.out]; simp, K0.out.trans (K8.out.mono K0.out.size)⟩
        · skip
          go_enter Tryd.func123, Tryd.ntmps123
          go_upto_region 1 with fail
          rw [← HW.out]
          have x4 : w0.cell? ⟨W.heap.size, 4, none⟩ = some (.int .i64 5) := cell_of_row w0 _ 4 _ _ _ B0.out
          go_upto_region 8 with fail
          (try dsimp only [Act.put])
          have m1 : ∀ E : Up w0, E.to.cell? ⟨W.heap.size, 1, none⟩ = some (.int .i64 va) := fun E => E.cell (cell_on KR.out (cell_of_row w0 _ 1 _ _ _ B0.out))
          have m2 : ∀ E : Up w0, E.to.cell? ⟨W.heap.size, 2, none⟩ = some (.int .i64 vb) := fun E => E.cell (cell_on KR.out (cell_of_row w0 _ 2 _ _ _ B0.out))
          have CI : Hid (∀ E : Up w0, _) := fun E => IA1.out E.to (below_to KR.out E)
          have CW : Hid (∀ E : Up w0, _) := fun E => WB.out E.to (below_to KR.out E)
          refine wp_region_up (by kernel_rfl) (by kernel_rfl) ?_
          repeat (first
            | go_big_quiet_step ((go_at_call 124; exact Calls.up (number_c 1 _)))
            | go_big_quiet_step ((go_at_call 125; exact Calls.up (CI.out _)))
            | go_big_quiet_step ((go_at_call 126; exact Calls.up (CW.out _))))
          refine wpQuiet_nil ?_
          first | (rintro _ ⟨E, rfl⟩) | (intro E) | (rename_i E)
          have K7 : Hid (Below w0.heap.size w0 E.to) := below_to KR.out E
          generalize E.to = w7 at K7 ⊢
          clear m1 m2 CI CW
          clear x4
          go_upto_region 12 with fail
          (try dsimp only [Act.put])
          have m1 : ∀ E : Up w7, E.to.cell? ⟨W.heap.size, 1, none⟩ = some (.int .i64 va) := fun E => E.cell (cell_on K7.out (cell_of_row w0 _ 1 _ _ _ B0.out))
          have m2 : ∀ E : Up w7, E.to.cell? ⟨W.heap.size, 2, none⟩ = some (.int .i64 vb) := fun E => E.cell (cell_on K7.out (cell_of_row w0 _ 2 _ _ _ B0.out))
          have CI : Hid (∀ E : Up w7, _) := fun E => IB1.out E.to (below_to K7.out E)
          have CW : Hid (∀ E : Up w7, _) := fun E => WA.out E.to (below_to K7.out E)
          refine wp_region_up (by kernel_rfl) (by kernel_rfl) ?_
          repeat (first
            | go_big_quiet_step ((go_at_call 124; exact Calls.up (number_c 1 _)))
            | go_big_quiet_step ((go_at_call 125; exact Calls.up (CI.out _)))
            | go_big_quiet_step ((go_at_call 126; exact Calls.up (CW.out _))))
          refine wpQuiet_nil ?_
          first | (rintro _ ⟨E, rfl⟩) | (intro E) | (rename_i E)
          have K8 : Hid (Below w0.heap.size w0 E.to) := below_to K7.out E
          generalize E.to = w8 at K8 ⊢
          clear m1 m2 CI CW
          have x1 : w8.cell? ⟨W.heap.size, 1, none⟩ = some (.int .i64 va) := cell_on K8.out (cell_of_row w0 _ 1 _ _ _ B0.out)
          have x2 : w8.cell? ⟨W.heap.size, 2, none⟩ = some (.int .i64 vb) := cell_on K8.out (cell_of_row w0 _ 2 _ _ _ B0.out)
          have x4 : w8.cell? ⟨W.heap.size, 4, none⟩ = some (.int .i64 5) := cell_on K8.out (cell_of_row w0 _ 4 _ _ _ B0.out)
          go_wp2_with fail
          go_ret
          exact ⟨by rw [← HR.out]; simp, K0.out.trans (K8.out.mono K0.out.size)⟩
      · skip
        go_enter Tryd.func123, Tryd.ntmps123
        go_upto_region 1 with fail
        rw [← HW.out]
        have x4 : w0.cell? ⟨W.heap.size, 4, none⟩ = some (.int .i64 5) := cell_of_row w0 _ 4 _ _ _ B0.out
        go_upto_region 8 with fail
        (try dsimp only [Act.put])
        have m1 : ∀ E : Up w0, E.to.cell? ⟨W.heap.size, 1, none⟩ = some (.int .i64 va) := fun E => E.cell (cell_on KR.out (cell_of_row w0 _ 1 _ _ _ B0.out))
        have m2 : ∀ E : Up w0, E.to.cell? ⟨W.heap.size, 2, none⟩ = some (.int .i64 vb) := fun E => E.cell (cell_on KR.out (cell_of_row w0 _ 2 _ _ _ B0.out))
        have CI : Hid (∀ E : Up w0, _) := fun E => IA1.out E.to (below_to KR.out E)
        have CW : Hid (∀ E : Up w0, _) := fun E => WB.out E.to (below_to KR.out E)
        refine wp_region_up (by kernel_rfl) (by kernel_rfl) ?_
        repeat (first
          | go_big_quiet_step ((go_at_call 124; exact Calls.up (number_c 1 _)))
          | go_big_quiet_step ((go_at_call 125; exact Calls.up (CI.out _)))
          | go_big_quiet_step ((go_at_call 126; exact Calls.up (CW.out _))))
        refine wpQuiet_nil ?_
        first | (rintro _ ⟨E, rfl⟩) | (intro E) | (rename_i E)
        have K7 : Hid (Below w0.heap.size w0 E.to) := below_to KR.out E
        generalize E.to = w7 at K7 ⊢
        clear m1 m2 CI CW
        clear x4
        go_upto_region 12 with fail
        (try dsimp only [Act.put])
        have m1 : ∀ E : Up w7, E.to.cell? ⟨W.heap.size, 1, none⟩ = some (.int .i64 va) := fun E => E.cell (cell_on K7.out (cell_of_row w0 _ 1 _ _ _ B0.out))
        have m2 : ∀ E : Up w7, E.to.cell? ⟨W.heap.size, 2, none⟩ = some (.int .i64 vb) := fun E => E.cell (cell_on K7.out (cell_of_row w0 _ 2 _ _ _ B0.out))
        have CI : Hid (∀ E : Up w7, _) := fun E => IB1.out E.to (below_to K7.out E)
        have CW : Hid (∀ E : Up w7, _) := fun E => WA.out E.to (below_to K7.out E)
        refine wp_region_up (by kernel_rfl) (by kernel_rfl) ?_
        repeat (first
          | go_big_quiet_step ((go_at_call 124; exact Calls.up (number_c 1 _)))
          | go_big_quiet_step ((go_at_call 125; exact Calls.up (CI.out _)))
          | go_big_quiet_step ((go_at_call 126; exact Calls.up (CW.out _))))
        refine wpQuiet_nil ?_
        first | (rintro _ ⟨E, rfl⟩) | (intro E) | (rename_i E)
        have K8 : Hid (Below w0.heap.size w0 E.to) := below_to K7.out E
        generalize E.to = w8 at K8 ⊢
        clear m1 m2 CI CW
        have x1 : w8.cell? ⟨W.heap.size, 1, none⟩ = some (.int .i64 va) := cell_on K8.out (cell_of_row w0 _ 1 _ _ _ B0.out)
        have x2 : w8.cell? ⟨W.heap.size, 2, none⟩ = some (.int .i64 vb) := cell_on K8.out (cell_of_row w0 _ 2 _ _ _ B0.out)
        have x4 : w8.cell? ⟨W.heap.size, 4, none⟩ = some (.int .i64 5) := cell_on K8.out (cell_of_row w0 _ 4 _ _ _ B0.out)
        go_wp2_with fail
        go_ret
        exact ⟨by rw [← HR.out]; simp, K0.out.trans (K8.out.mono K0.out.size)⟩
  by_cases c4 : xn = 4
  · subst c4
    clear c3
    clear c5
    rw [show unitN 4 = 0 from rfl] at HR
    have IA1 := Lib.hid (IA.out 0)
    have IB1 := Lib.hid (IB.out 0)
    generalize isM cur va (numV 0) = iA at IA1 HR
    generalize isM cur vb (numV 0) = iB at IB1 HR
    clear IA IB
    have KR : Hid (Below w0.heap.size w0 w0) := Below.refl _ _
    rcases Bool.eq_false_or_eq_true iB with rfl | rfl
    · rcases Bool.eq_false_or_eq_true wA with rfl | rfl
      · skip
        go_enter Tryd.func123, Tryd.ntmps123
        go_upto_region 1 with fail
        rw [← HW.out]
        have x4 : w0.cell? ⟨W.heap.size, 4, none⟩ = some (.int .i64 4) := cell_of_row w0 _ 4 _ _ _ B0.out
        go_upto_region 12 with fail
        (try dsimp only [Act.put])
        have m1 : ∀ E : Up w0, E.to.cell? ⟨W.heap.size, 1, none⟩ = some (.int .i64 va) := fun E => E.cell (cell_on KR.out (cell_of_row w0 _ 1 _ _ _ B0.out))
        have m2 : ∀ E : Up w0, E.to.cell? ⟨W.heap.size, 2, none⟩ = some (.int .i64 vb) := fun E => E.cell (cell_on KR.out (cell_of_row w0 _ 2 _ _ _ B0.out))
        have CI : Hid (∀ E : Up w0, _) := fun E => IB1.out E.to (below_to KR.out E)
        have CW : Hid (∀ E : Up w0, _) := fun E => WA.out E.to (below_to KR.out E)
        refine wp_region_up (by kernel_rfl) (by kernel_rfl) ?_
        repeat (first
          | go_big_quiet_step ((go_at_call 124; exact Calls.up (number_c 0 _)))
          | go_big_quiet_step ((go_at_call 125; exact Calls.up (CI.out _)))
          | go_big_quiet_step ((go_at_call 126; exact Calls.up (CW.out _))))
        refine wpQuiet_nil ?_
        first | (rintro _ ⟨E, rfl⟩) | (intro E) | (rename_i E)
        have K8 : Hid (Below w0.heap.size w0 E.to) := below_to KR.out E
        generalize E.to = w8 at K8 ⊢
        clear m1 m2 CI CW
        have x1 : w8.cell? ⟨W.heap.size, 1, none⟩ = some (.int .i64 va) := cell_on K8.out (cell_of_row w0 _ 1 _ _ _ B0.out)
        have x2 : w8.cell? ⟨W.heap.size, 2, none⟩ = some (.int .i64 vb) := cell_on K8.out (cell_of_row w0 _ 2 _ _ _ B0.out)
        have x4 : w8.cell? ⟨W.heap.size, 4, none⟩ = some (.int .i64 4) := cell_on K8.out (cell_of_row w0 _ 4 _ _ _ B0.out)
        go_wp2_with fail
        go_ret
        exact ⟨by rw [← HR.out]; simp, K0.out.trans (K8.out.mono K0.out.size)⟩
      · skip
        go_enter Tryd.func123, Tryd.ntmps123
        go_upto_region 1 with fail
        rw [← HW.out]
        have x4 : w0.cell? ⟨W.heap.size, 4, none⟩ = some (.int .i64 4) := cell_of_row w0 _ 4 _ _ _ B0.out
        go_upto_region 12 with fail
        (try dsimp only [Act.put])
        have m1 : ∀ E : Up w0, E.to.cell? ⟨W.heap.size, 1, none⟩ = some (.int .i64 va) := fun E => E.cell (cell_on KR.out (cell_of_row w0 _ 1 _ _ _ B0.out))
        have m2 : ∀ E : Up w0, E.to.cell? ⟨W.heap.size, 2, none⟩ = some (.int .i64 vb) := fun E => E.cell (cell_on KR.out (cell_of_row w0 _ 2 _ _ _ B0.out))
        have CI : Hid (∀ E : Up w0, _) := fun E => IB1.out E.to (below_to KR.out E)
        have CW : Hid (∀ E : Up w0, _) := fun E => WA.out E.to (below_to KR.out E)
        refine wp_region_up (by kernel_rfl) (by kernel_rfl) ?_
        repeat (first
          | go_big_quiet_step ((go_at_call 124; exact Calls.up (number_c 0 _)))
          | go_big_quiet_step ((go_at_call 125; exact Calls.up (CI.out _)))
          | go_big_quiet_step ((go_at_call 126; exact Calls.up (CW.out _))))
        refine wpQuiet_nil ?_
        first | (rintro _ ⟨E, rfl⟩) | (intro E) | (rename_i E)
        have K8 : Hid (Below w0.heap.size w0 E.to) := below_to KR.out E
        generalize E.to = w8 at K8 ⊢
        clear m1 m2 CI CW
        have x1 : w8.cell? ⟨W.heap.size, 1, none⟩ = some (.int .i64 va) := cell_on K8.out (cell_of_row w0 _ 1 _ _ _ B0.out)
        have x2 : w8.cell? ⟨W.heap.size, 2, none⟩ = some (.int .i64 vb) := cell_on K8.out (cell_of_row w0 _ 2 _ _ _ B0.out)
        have x4 : w8.cell? ⟨W.heap.size, 4, none⟩ = some (.int .i64 4) := cell_on K8.out (cell_of_row w0 _ 4 _ _ _ B0.out)
        go_wp2_with fail
        go_ret
        exact ⟨by rw [← HR.out]; simp, K0.out.trans (K8.out.mono K0.out.size)⟩
    · skip
      go_enter Tryd.func123, Tryd.ntmps123
      go_upto_region 1 with fail
      rw [← HW.out]
      have x4 : w0.cell? ⟨W.heap.size, 4, none⟩ = some (.int .i64 4) := cell_of_row w0 _ 4 _ _ _ B0.out
      go_upto_region 12 with fail
      (try dsimp only [Act.put])
      have m1 : ∀ E : Up w0, E.to.cell? ⟨W.heap.size, 1, none⟩ = some (.int .i64 va) := fun E => E.cell (cell_on KR.out (cell_of_row w0 _ 1 _ _ _ B0.out))
      have m2 : ∀ E : Up w0, E.to.cell? ⟨W.heap.size, 2, none⟩ = some (.int .i64 vb) := fun E => E.cell (cell_on KR.out (cell_of_row w0 _ 2 _ _ _ B0.out))
      have CI : Hid (∀ E : Up w0, _) := fun E => IB1.out E.to (below_to KR.out E)
      have CW : Hid (∀ E : Up w0, _) := fun E => WA.out E.to (below_to KR.out E)
      refine wp_region_up (by kernel_rfl) (by kernel_rfl) ?_
      repeat (first
        | go_big_quiet_step ((go_at_call 124; exact Calls.up (number_c 0 _)))
        | go_big_quiet_step ((go_at_call 125; exact Calls.up (CI.out _)))
        | go_big_quiet_step ((go_at_call 126; exact Calls.up (CW.out _))))
      refine wpQuiet_nil ?_
      first | (rintro _ ⟨E, rfl⟩) | (intro E) | (rename_i E)
      have K8 : Hid (Below w0.heap.size w0 E.to) := below_to KR.out E
      generalize E.to = w8 at K8 ⊢
      clear m1 m2 CI CW
      have x1 : w8.cell? ⟨W.heap.size, 1, none⟩ = some (.int .i64 va) := cell_on K8.out (cell_of_row w0 _ 1 _ _ _ B0.out)
      have x2 : w8.cell? ⟨W.heap.size, 2, none⟩ = some (.int .i64 vb) := cell_on K8.out (cell_of_row w0 _ 2 _ _ _ B0.out)
      have x4 : w8.cell? ⟨W.heap.size, 4, none⟩ = some (.int .i64 4) := cell_on K8.out (cell_of_row w0 _ 4 _ _ _ B0.out)
      go_wp2_with fail
      go_ret
      exact ⟨by rw [← HR.out]; simp, K0.out.trans (K8.out.mono K0.out.size)⟩
  by_cases c6 : xn = 6
  · subst c6
    clear c3
    clear c5
    clear c4
    rw [show unitN 6 = 1 from rfl] at HR
    have IA1 := Lib.hid (IA.out 1)
    have IB1 := Lib.hid (IB.out 1)
    generalize isM cur va (numV 1) = iA at IA1 HR
    generalize isM cur vb (numV 1) = iB at IB1 HR
    clear IA IB
    have KR : Hid (Below w0.heap.size w0 w0) := Below.refl _ _
    rcases Bool.eq_false_or_eq_true iB with rfl | rfl
    · rcases Bool.eq_false_or_eq_true wA with rfl | rfl
      · skip
        go_enter Tryd.func123, Tryd.ntmps123
        go_upto_region 1 with fail
        rw [← HW.out]
        have x4 : w0.cell? ⟨W.heap.size, 4, none⟩ = some (.int .i64 6) := cell_of_row w0 _ 4 _ _ _ B0.out
        go_upto_region 12 with fail
        (try dsimp only [Act.put])
        have m1 : ∀ E : Up w0, E.to.cell? ⟨W.heap.size, 1, none⟩ = some (.int .i64 va) := fun E => E.cell (cell_on KR.out (cell_of_row w0 _ 1 _ _ _ B0.out))
        have m2 : ∀ E : Up w0, E.to.cell? ⟨W.heap.size, 2, none⟩ = some (.int .i64 vb) := fun E => E.cell (cell_on KR.out (cell_of_row w0 _ 2 _ _ _ B0.out))
        have CI : Hid (∀ E : Up w0, _) := fun E => IB1.out E.to (below_to KR.out E)
        have CW : Hid (∀ E : Up w0, _) := fun E => WA.out E.to (below_to KR.out E)
        refine wp_region_up (by kernel_rfl) (by kernel_rfl) ?_
        repeat (first
          | go_big_quiet_step ((go_at_call 124; exact Calls.up (number_c 1 _)))
          | go_big_quiet_step ((go_at_call 125; exact Calls.up (CI.out _)))
          | go_big_quiet_step ((go_at_call 126; exact Calls.up (CW.out _))))
        refine wpQuiet_nil ?_
        first | (rintro _ ⟨E, rfl⟩) | (intro E) | (rename_i E)
        have K8 : Hid (Below w0.heap.size w0 E.to) := below_to KR.out E
        generalize E.to = w8 at K8 ⊢
        clear m1 m2 CI CW
        have x1 : w8.cell? ⟨W.heap.size, 1, none⟩ = some (.int .i64 va) := cell_on K8.out (cell_of_row w0 _ 1 _ _ _ B0.out)
        have x2 : w8.cell? ⟨W.heap.size, 2, none⟩ = some (.int .i64 vb) := cell_on K8.out (cell_of_row w0 _ 2 _ _ _ B0.out)
        have x4 : w8.cell? ⟨W.heap.size, 4, none⟩ = some (.int .i64 6) := cell_on K8.out (cell_of_row w0 _ 4 _ _ _ B0.out)
        go_wp2_with fail
        go_ret
        exact ⟨by rw [← HR.out]; simp, K0.out.trans (K8.out.mono K0.out.size)⟩
      · skip
        go_enter Tryd.func123, Tryd.ntmps123
        go_upto_region 1 with fail
        rw [← HW.out]
        have x4 : w0.cell? ⟨W.heap.size, 4, none⟩ = some (.int .i64 6) := cell_of_row w0 _ 4 _ _ _ B0.out
        go_upto_region 12 with fail
        (try dsimp only [Act.put])
        have m1 : ∀ E : Up w0, E.to.cell? ⟨W.heap.size, 1, none⟩ = some (.int .i64 va) := fun E => E.cell (cell_on KR.out (cell_of_row w0 _ 1 _ _ _ B0.out))
        have m2 : ∀ E : Up w0, E.to.cell? ⟨W.heap.size, 2, none⟩ = some (.int .i64 vb) := fun E => E.cell (cell_on KR.out (cell_of_row w0 _ 2 _ _ _ B0.out))
        have CI : Hid (∀ E : Up w0, _) := fun E => IB1.out E.to (below_to KR.out E)
        have CW : Hid (∀ E : Up w0, _) := fun E => WA.out E.to (below_to KR.out E)
        refine wp_region_up (by kernel_rfl) (by kernel_rfl) ?_
        repeat (first
          | go_big_quiet_step ((go_at_call 124; exact Calls.up (number_c 1 _)))
          | go_big_quiet_step ((go_at_call 125; exact Calls.up (CI.out _)))
          | go_big_quiet_step ((go_at_call 126; exact Calls.up (CW.out _))))
        refine wpQuiet_nil ?_
        first | (rintro _ ⟨E, rfl⟩) | (intro E) | (rename_i E)
        have K8 : Hid (Below w0.heap.size w0 E.to) := below_to KR.out E
        generalize E.to = w8 at K8 ⊢
        clear m1 m2 CI CW
        have x1 : w8.cell? ⟨W.heap.size, 1, none⟩ = some (.int .i64 va) := cell_on K8.out (cell_of_row w0 _ 1 _ _ _ B0.out)
        have x2 : w8.cell? ⟨W.heap.size, 2, none⟩ = some (.int .i64 vb) := cell_on K8.out (cell_of_row w0 _ 2 _ _ _ B0.out)
        have x4 : w8.cell? ⟨W.heap.size, 4, none⟩ = some (.int .i64 6) := cell_on K8.out (cell_of_row w0 _ 4 _ _ _ B0.out)
        go_wp2_with fail
        go_ret
        exact ⟨by rw [← HR.out]; simp, K0.out.trans (K8.out.mono K0.out.size)⟩
    · skip
      go_enter Tryd.func123, Tryd.ntmps123
      go_upto_region 1 with fail
      rw [← HW.out]
      have x4 : w0.cell? ⟨W.heap.size, 4, none⟩ = some (.int .i64 6) := cell_of_row w0 _ 4 _ _ _ B0.out
      go_upto_region 12 with fail
      (try dsimp only [Act.put])
      have m1 : ∀ E : Up w0, E.to.cell? ⟨W.heap.size, 1, none⟩ = some (.int .i64 va) := fun E => E.cell (cell_on KR.out (cell_of_row w0 _ 1 _ _ _ B0.out))
      have m2 : ∀ E : Up w0, E.to.cell? ⟨W.heap.size, 2, none⟩ = some (.int .i64 vb) := fun E => E.cell (cell_on KR.out (cell_of_row w0 _ 2 _ _ _ B0.out))
      have CI : Hid (∀ E : Up w0, _) := fun E => IB1.out E.to (below_to KR.out E)
      have CW : Hid (∀ E : Up w0, _) := fun E => WA.out E.to (below_to KR.out E)
      refine wp_region_up (by kernel_rfl) (by kernel_rfl) ?_
      repeat (first
        | go_big_quiet_step ((go_at_call 124; exact Calls.up (number_c 1 _)))
        | go_big_quiet_step ((go_at_call 125; exact Calls.up (CI.out _)))
        | go_big_quiet_step ((go_at_call 126; exact Calls.up (CW.out _))))
      refine wpQuiet_nil ?_
      first | (rintro _ ⟨E, rfl⟩) | (intro E) | (rename_i E)
      have K8 : Hid (Below w0.heap.size w0 E.to) := below_to KR.out E
      generalize E.to = w8 at K8 ⊢
      clear m1 m2 CI CW
      have x1 : w8.cell? ⟨W.heap.size, 1, none⟩ = some (.int .i64 va) := cell_on K8.out (cell_of_row w0 _ 1 _ _ _ B0.out)
      have x2 : w8.cell? ⟨W.heap.size, 2, none⟩ = some (.int .i64 vb) := cell_on K8.out (cell_of_row w0 _ 2 _ _ _ B0.out)
      have x4 : w8.cell? ⟨W.heap.size, 4, none⟩ = some (.int .i64 6) := cell_on K8.out (cell_of_row w0 _ 4 _ _ _ B0.out)
      go_wp2_with fail
      go_ret
      exact ⟨by rw [← HR.out]; simp, K0.out.trans (K8.out.mono K0.out.size)⟩
  have n3 : (xn == 3) = false := beq_eq_false_iff_ne.2 c3
  have n5 : (xn == 5) = false := beq_eq_false_iff_ne.2 c5
  have n4 : (xn == 4) = false := beq_eq_false_iff_ne.2 c4
  have n6 : (xn == 6) = false := beq_eq_false_iff_ne.2 c6
  rw [if_neg (by rintro ⟨h, -⟩; omega), if_neg (by rintro ⟨h, -⟩; omega)] at HR
  clear c3 c4 c5 c6
  have KR : Hid (Below w0.heap.size w0 w0) := Below.refl _ _
  go_enter Tryd.func123, Tryd.ntmps123
  go_upto_region 1 with fail
  rw [← HW.out]
  have x4 : w0.cell? ⟨W.heap.size, 4, none⟩ = some (.int .i64 xn) := cell_of_row w0 _ 4 _ _ _ B0.out
  go_wp2_with fail
  go_ret
  exact ⟨by rw [← HR.out]; rfl, K0.out⟩
/-- it became a constant, or nothing turned -/
def RekPost (W : World) (B fb : Nat) (ca : List Value) (t : TTrace) (G n cG : Nat) (uT : Value) (cur : List TIns) (tl : List Int) (i : Nat) (o : Option Val) (e : Ending) (w' : World) : Prop :=
  match o with
  | some k => e = .returned (.bool true) ∧ FoldR w' B fb ca t (.slice (some ⟨G, 0, none⟩) n cG) uT (cur.set i (becomeM k)) tl ∧ Fined G W w'
  | none => e = .returned (.bool false) ∧ Below W.heap.size W w'
set_option maxHeartbeats 8000000 in
set_option maxRecDepth 100000 in
theorem ftwice_c (h : FoldR W B fb ca t (.slice (some ⟨G, 0, none⟩) n cG) uT cur tl) (x : TIns) (i : Nat) (hi : i < cur.length) :
    Calls Tryd.prog 128 #[.pointer (some ⟨fb, 0, none⟩), .int .i64 i, insV x] W (RekPost W B fb ca t G n cG uT cur tl i (sameM (foldE t.ins) x i)) := by
  have few := h.few
  obtain ⟨op, xa, xb, xc, xn, xe, ⟨k0, k1⟩⟩ := x
  unfold insV
  obtain ⟨kv, hkv⟩ : ∃ kv, kindM t.ins xa i = kv := ⟨_, rfl⟩
  have HS : Hid (sameM (foldE t.ins) ⟨op, xa, xb, xc, xn, xe, ⟨k0, k1⟩⟩ i = if xn = 8 ∧ 0 ≤ kv ∧ kv ≠ 3 then some (boolV true) else if kv ≠ 2 then none else if xn = 4 then some (numV 0) else if xn = 9 ∨ xn = 10 then some (boolV (xn == 10)) else none) := by
    rw [← hkv]; rfl
  rw [HS.out]
  clear HS
  dsimp only
  obtain ⟨w0, hw0⟩ : ∃ w0, w0 = W.alloc (.cells #[.int .i64 op, .int .i64 xa, .int .i64 xb, .int .i64 xc, .int .i64 xn, .int .i64 xe, .int .i64 k0, .int .i64 k1] 43) := ⟨_, rfl⟩
  have K0 : Hid (Below W.heap.size W w0) := by rw [hw0]; exact below_one _ _
  have B0 : Hid (w0.heap[W.heap.size]? = some (.cells #[.int .i64 op, .int .i64 xa, .int .i64 xb, .int .i64 xc, .int .i64 xn, .int .i64 xe, .int .i64 k0, .int .i64 k1] 43 (0, 0))) := by rw [hw0]; exact heap_last _ _
  have H0 := Lib.hid (h.below K0.out)
  have HIt := Lib.hid h.tr.size13
  have KC : Hid (∀ E : Up w0, Calls Tryd.prog 18 #[.agg ⟨ca⟩, .int .i64 xa, .int .i64 i] E.to (Gives (.int .i64 kv) E.to)) := fun E => by
    have := kind_c ca t (xa.toNat + 1) xa i E.to (by omega) (H0.out.below E.below).trace (by omega) (by omega)
    rwa [hkv] at this
  have RR : Hid (∀ E : Up w0, E.to.rangeAt fb 0 ca) := fun E => (H0.out.below E.below).head.range
  have m1 : ∀ E : Up w0, E.to.cell? ⟨W.heap.size, 1, none⟩ = some (.int .i64 xa) := fun E => E.cell (cell_of_row w0 _ 1 _ _ _ B0.out)
  have HW := Lib.hid hw0
  clear hw0 h hkv
  by_cases c8 : xn = 8
  · subst c8
    by_cases c0 : 0 ≤ kv
    · by_cases c3 : kv = 3
      · subst c3
        rw [if_neg (fun h => h.2.2 rfl), if_pos (by decide)]
        go_enter Tryd.func128, Tryd.ntmps128
        go_upto_region 1 with fail
        rw [← HW.out]
        refine wp_region_up (by kernel_rfl) (by kernel_rfl) ?_
        repeat (first
          | (refine wpQuiet_load_up 34 _ rfl rfl fb 0 rfl ca _ RR.out Tryd.underlying34 rfl HIt.out ?_; go_simp)
          | go_big_quiet_step ((go_at_call 18; exact Calls.up (KC.out _))))
        refine wpQuiet_nil ?_
        first | (rintro _ ⟨E, rfl⟩) | (intro E) | (rename_i E)
        obtain ⟨w1, k1'⟩ := E
        dsimp only
        have H1 := Lib.hid (H0.out.below k1')
        have K1 : Hid (Below W.heap.size W w1) := K0.out.trans (k1'.mono K0.out.size)
        have x4 : w1.cell? ⟨W.heap.size, 4, none⟩ = some (.int .i64 8) := cell_on k1' (cell_of_row w0 _ 4 _ _ _ B0.out)
        clear m1 RR KC k1' H0
        clear H1
        go_wp2_with fail
        go_ret
        exact ⟨rfl, K1.out⟩
      · rw [if_pos ⟨rfl, c0, c3⟩]
        have n3 : (kv != 3) = true := bne_iff_ne.2 c3
        clear c3
        go_enter Tryd.func128, Tryd.ntmps128
        go_upto_region 1 with fail
        rw [← HW.out]
        refine wp_region_up (by kernel_rfl) (by kernel_rfl) ?_
        repeat (first
          | (refine wpQuiet_load_up 34 _ rfl rfl fb 0 rfl ca _ RR.out Tryd.underlying34 rfl HIt.out ?_; go_simp)
          | go_big_quiet_step ((go_at_call 18; exact Calls.up (KC.out _))))
        refine wpQuiet_nil ?_
        first | (rintro _ ⟨E, rfl⟩) | (intro E) | (rename_i E)
        obtain ⟨w1, k1'⟩ := E
        dsimp only
        have H1 := Lib.hid (H0.out.below k1')
        have K1 : Hid (Below W.heap.size W w1) := K0.out.trans (k1'.mono K0.out.size)
        have x4 : w1.cell? ⟨W.heap.size, 4, none⟩ = some (.int .i64 8) := cell_on k1' (cell_of_row w0 _ 4 _ _ _ B0.out)
        clear m1 RR KC k1' H0
        go_wp2_with fail
        refine (ftruth_c true _).mono ?_
        rintro e w2 ⟨rfl, k2⟩
        have H2 := Lib.hid (H1.out.below k2)
        have K2 : Hid (Below W.heap.size W w2) := K1.out.trans (k2.mono K1.out.size)
        clear k2 x4 H1
        go_wp2_with fail
        refine (become_c H2.out hi (boolV true) ⟨by unfold wfi; decide, by unfold wfi; decide⟩).mono ?_
        rintro e w3 ⟨rfl, h3, f3⟩
        have H3 := Lib.hid h3
        have F3 : Hid (Fined G W w3) := (Fined.of_below K2.out).trans f3
        clear h3 f3 H2
        go_wp2_with fail
        go_ret
        exact ⟨rfl, H3.out, F3.out⟩
    · rw [if_neg (fun h => c0 h.2.1), if_pos (fun h => by omega)]
      have n2 : (kv != 2) = true := bne_iff_ne.2 (fun h => by omega)
      go_enter Tryd.func128, Tryd.ntmps128
      go_upto_region 1 with fail
      rw [← HW.out]
      refine wp_region_up (by kernel_rfl) (by kernel_rfl) ?_
      repeat (first
        | (refine wpQuiet_load_up 34 _ rfl rfl fb 0 rfl ca _ RR.out Tryd.underlying34 rfl HIt.out ?_; go_simp)
        | go_big_quiet_step ((go_at_call 18; exact Calls.up (KC.out _))))
      refine wpQuiet_nil ?_
      first | (rintro _ ⟨E, rfl⟩) | (intro E) | (rename_i E)
      obtain ⟨w1, k1'⟩ := E
      dsimp only
      have H1 := Lib.hid (H0.out.below k1')
      have K1 : Hid (Below W.heap.size W w1) := K0.out.trans (k1'.mono K0.out.size)
      have x4 : w1.cell? ⟨W.heap.size, 4, none⟩ = some (.int .i64 8) := cell_on k1' (cell_of_row w0 _ 4 _ _ _ B0.out)
      clear m1 RR KC k1' H0
      clear H1
      go_wp2_with fail
      go_ret
      exact ⟨rfl, K1.out⟩
  rw [if_neg (fun h => c8 h.1)]
  have n8 : (xn == 8) = false := beq_eq_false_iff_ne.2 c8
  clear c8
  by_cases c2 : kv = 2
  · subst c2
    rw [if_neg (fun h => h rfl)]
    by_cases c4 : xn = 4
    · subst c4
      rw [if_pos rfl]
      go_enter Tryd.func128, Tryd.ntmps128
      go_upto_region 1 with fail
      rw [← HW.out]
      refine wp_region_up (by kernel_rfl) (by kernel_rfl) ?_
      repeat (first
        | (refine wpQuiet_load_up 34 _ rfl rfl fb 0 rfl ca _ RR.out Tryd.underlying34 rfl HIt.out ?_; go_simp)
        | go_big_quiet_step ((go_at_call 18; exact Calls.up (KC.out _))))
      refine wpQuiet_nil ?_
      first | (rintro _ ⟨E, rfl⟩) | (intro E) | (rename_i E)
      obtain ⟨w1, k1'⟩ := E
      dsimp only
      have H1 := Lib.hid (H0.out.below k1')
      have K1 : Hid (Below W.heap.size W w1) := K0.out.trans (k1'.mono K0.out.size)
      have x4 : w1.cell? ⟨W.heap.size, 4, none⟩ = some (.int .i64 4) := cell_on k1' (cell_of_row w0 _ 4 _ _ _ B0.out)
      clear m1 RR KC k1' H0
      go_wp2_with fail
      refine (number_c 0 _).mono ?_
      rintro e w2 ⟨rfl, k2⟩
      have H2 := Lib.hid (H1.out.below k2)
      have K2 : Hid (Below W.heap.size W w2) := K1.out.trans (k2.mono K1.out.size)
      clear k2 x4 H1
      go_wp2_with fail
      refine (become_c H2.out hi (numV 0) ⟨by unfold wfi; decide, by unfold wfi; decide⟩).mono ?_
      rintro e w3 ⟨rfl, h3, f3⟩
      have H3 := Lib.hid h3
      have F3 : Hid (Fined G W w3) := (Fined.of_below K2.out).trans f3
      clear h3 f3 H2
      go_wp2_with fail
      go_ret
      exact ⟨rfl, H3.out, F3.out⟩
    rw [if_neg c4]
    have n4 : (xn == 4) = false := beq_eq_false_iff_ne.2 c4
    clear c4
    by_cases c9 : xn = 9
    · subst c9
      rw [if_pos (.inl rfl), show ((9 : Int) == 10) = false from by decide]
      go_enter Tryd.func128, Tryd.ntmps128
      go_upto_region 1 with fail
      rw [← HW.out]
      refine wp_region_up (by kernel_rfl) (by kernel_rfl) ?_
      repeat (first
        | (refine wpQuiet_load_up 34 _ rfl rfl fb 0 rfl ca _ RR.out Tryd.underlying34 rfl HIt.out ?_; go_simp)
        | go_big_quiet_step ((go_at_call 18; exact Calls.up (KC.out _))))
      refine wpQuiet_nil ?_
      first | (rintro _ ⟨E, rfl⟩) | (intro E) | (rename_i E)
      obtain ⟨w1, k1'⟩ := E
      dsimp only
      have H1 := Lib.hid (H0.out.below k1')
      have K1 : Hid (Below W.heap.size W w1) := K0.out.trans (k1'.mono K0.out.size)
      have x4 : w1.cell? ⟨W.heap.size, 4, none⟩ = some (.int .i64 9) := cell_on k1' (cell_of_row w0 _ 4 _ _ _ B0.out)
      clear m1 RR KC k1' H0
      go_wp2_with fail
      refine (ftruth_c false _).mono ?_
      rintro e w2 ⟨rfl, k2⟩
      have H2 := Lib.hid (H1.out.below k2)
      have K2 : Hid (Below W.heap.size W w2) := K1.out.trans (k2.mono K1.out.size)
      clear k2 x4 H1
      go_wp2_with fail
      refine (become_c H2.out hi (boolV false) ⟨by unfold wfi; decide, by unfold wfi; decide⟩).mono ?_
      rintro e w3 ⟨rfl, h3, f3⟩
      have H3 := Lib.hid h3
      have F3 : Hid (Fined G W w3) := (Fined.of_below K2.out).trans f3
      clear h3 f3 H2
      go_wp2_with fail
      go_ret
      exact ⟨rfl, H3.out, F3.out⟩
    by_cases c10 : xn = 10
    · subst c10
      rw [if_pos (.inr rfl), show ((10 : Int) == 10) = true from by decide]
      clear c9
      go_enter Tryd.func128, Tryd.ntmps128
      go_upto_region 1 with fail
      rw [← HW.out]
      refine wp_region_up (by kernel_rfl) (by kernel_rfl) ?_
      repeat (first
        | (refine wpQuiet_load_up 34 _ rfl rfl fb 0 rfl ca _ RR.out Tryd.underlying34 rfl HIt.out ?_; go_simp)
        | go_big_quiet_step ((go_at_call 18; exact Calls.up (KC.out _))))
      refine wpQuiet_nil ?_
      first | (rintro _ ⟨E, rfl⟩) | (intro E) | (rename_i E)
      obtain ⟨w1, k1'⟩ := E
      dsimp only
      have H1 := Lib.hid (H0.out.below k1')
      have K1 : Hid (Below W.heap.size W w1) := K0.out.trans (k1'.mono K0.out.size)
      have x4 : w1.cell? ⟨W.heap.size, 4, none⟩ = some (.int .i64 10) := cell_on k1' (cell_of_row w0 _ 4 _ _ _ B0.out)
      clear m1 RR KC k1' H0
      go_wp2_with fail
      refine (ftruth_c true _).mono ?_
      rintro e w2 ⟨rfl, k2⟩
      have H2 := Lib.hid (H1.out.below k2)
      have K2 : Hid (Below W.heap.size W w2) := K1.out.trans (k2.mono K1.out.size)
      clear k2 x4 H1
      go_wp2_with fail
      refine (become_c H2.out hi (boolV true) ⟨by unfold wfi; decide, by unfold wfi; decide⟩).mono ?_
      rintro e w3 ⟨rfl, h3, f3⟩
      have H3 := Lib.hid h3
      have F3 : Hid (Fined G W w3) := (Fined.of_below K2.out).trans f3
      clear h3 f3 H2
      go_wp2_with fail
      go_ret
      exact ⟨rfl, H3.out, F3.out⟩
    rw [if_neg (by omega)]
    have n9 : (xn == 9) = false := beq_eq_false_iff_ne.2 c9
    have n10 : (xn == 10) = false := beq_eq_false_iff_ne.2 c10
    clear c9 c10
    go_enter Tryd.func128, Tryd.ntmps128
    go_upto_region 1 with fail
    rw [← HW.out]
    refine wp_region_up (by kernel_rfl) (by kernel_rfl) ?_
    repeat (first
      | (refine wpQuiet_load_up 34 _ rfl rfl fb 0 rfl ca _ RR.out Tryd.underlying34 rfl HIt.out ?_; go_simp)
      | go_big_quiet_step ((go_at_call 18; exact Calls.up (KC.out _))))
    refine wpQuiet_nil ?_
    first | (rintro _ ⟨E, rfl⟩) | (intro E) | (rename_i E)
    obtain ⟨w1, k1'⟩ := E
    dsimp only
    have H1 := Lib.hid (H0.out.below k1')
    have K1 : Hid (Below W.heap.size W w1) := K0.out.trans (k1'.mono K0.out.size)
    have x4 : w1.cell? ⟨W.heap.size, 4, none⟩ = some (.int .i64 xn) := cell_on k1' (cell_of_row w0 _ 4 _ _ _ B0.out)
    clear m1 RR KC k1' H0
    clear H1
    go_wp2_with fail
    go_ret
    exact ⟨rfl, K1.out⟩
  rw [if_pos c2]
  have n2 : (kv != 2) = true := bne_iff_ne.2 c2
  clear c2
  go_enter Tryd.func128, Tryd.ntmps128
  go_upto_region 1 with fail
  rw [← HW.out]
  refine wp_region_up (by kernel_rfl) (by kernel_rfl) ?_
  repeat (first
    | (refine wpQuiet_load_up 34 _ rfl rfl fb 0 rfl ca _ RR.out Tryd.underlying34 rfl HIt.out ?_; go_simp)
    | go_big_quiet_step ((go_at_call 18; exact Calls.up (KC.out _))))
  refine wpQuiet_nil ?_
  first | (rintro _ ⟨E, rfl⟩) | (intro E) | (rename_i E)
  obtain ⟨w1, k1'⟩ := E
  dsimp only
  have H1 := Lib.hid (H0.out.below k1')
  have K1 : Hid (Below W.heap.size W w1) := K0.out.trans (k1'.mono K0.out.size)
  have x4 : w1.cell? ⟨W.heap.size, 4, none⟩ = some (.int .i64 xn) := cell_on k1' (cell_of_row w0 _ 4 _ _ _ B0.out)
  clear m1 RR KC k1' H0
  clear H1
  go_wp2_with fail
  go_ret
  exact ⟨rfl, K1.out⟩
end
end Go.Proofs.YtmccomeihnaanaaDoor
