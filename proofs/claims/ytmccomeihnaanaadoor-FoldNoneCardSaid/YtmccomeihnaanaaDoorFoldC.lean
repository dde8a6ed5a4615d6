/- ops: taken, Truth, Unary, Binary. -/
import Derived.Test.YtmccomeihnaanaaDoorFoldA
import Derived.Test.YtmccomeihnaanaaDoorCutK
namespace Go.Proofs.YtmccomeihnaanaaDoor
open Go.RowKit Go.IntWalk

set_option maxHeartbeats 1000000 in
set_option maxRecDepth 100000 in
theorem taken_c (v : Val) (w : World) : Calls Tryd.prog 61 #[.agg #[.int .i64 v.kind, .int .i64 v.n]] w (Gives (.agg #[.int .i64 (takenM v).kind, .int .i64 (takenM v).n]) w) := by
  obtain ⟨k, n⟩ := v
  unfold takenM
  have RC := Lib.hid (right_c ⟨k, n⟩)
  cases h : rightV ⟨k, n⟩
  · simp only [↓reduceIte, Bool.false_eq_true]
    rw [h] at RC
    clear h
    obtain ⟨w0, hw0⟩ : ∃ w0, w0 = (w.alloc (.cells #[.int .i64 k, .int .i64 n] 41)).alloc (.cells #[.int .i64 0, .int .i64 0] 41) := ⟨_, rfl⟩
    have K0 : Hid (Below w.heap.size w w0) := by rw [hw0]; exact below_two' _ _ _
    have B0 : Hid (w0.heap[w.heap.size]? = some (.cells #[.int .i64 k, .int .i64 n] 41 (0, 0))) := by rw [hw0]; exact heap_old (heap_last _ _) _
    have B1 : Hid (w0.heap[w.heap.size + 1]? = some (.cells #[.int .i64 0, .int .i64 0] 41 (0, 0))) := by rw [hw0]; exact heap_two _ _ _
    have hz : w.heap.size + 1 < w0.heap.size := (Array.getElem?_eq_some_iff.1 B1.out).1
    have R0 : Hid (w0.rangeAt (w.heap.size) 0 [.int .i64 k, .int .i64 n]) := (HeadAt.of_row B0.out).range
    have R1 : Hid (w0.rangeAt (w.heap.size + 1) 0 [.int .i64 0, .int .i64 0]) := (HeadAt.of_row B1.out).range
    have HW := Lib.hid hw0
    clear hw0
    go_enter Tryd.func61, Tryd.ntmps61
    go_upto_region 1 with fail
    rw [← HW.out]
    go_wp2_with (first | (refine wpList_load_mid rfl 41 _ rfl (w.heap.size) 0 rfl [.int .i64 k, .int .i64 n] _ R0.out Tryd.underlying41 rfl infoValC ?_) | fail)
    refine (RC.out _).mono ?_
    rintro e w5 ⟨rfl, k5⟩
    have K5 : Hid (Below w.heap.size w w5) := K0.out.trans (k5.mono K0.out.size)
    have B05 : Hid (w5.heap[w.heap.size]? = some (.cells #[.int .i64 k, .int .i64 n] 41 (0, 0))) := (k5.block _ (Array.getElem?_eq_some_iff.1 B0.out).1).trans B0.out
    have R05 : Hid (w5.rangeAt (w.heap.size) 0 [.int .i64 k, .int .i64 n]) := (HeadAt.of_row B05.out).range
    have B15 : Hid (w5.heap[w.heap.size + 1]? = some (.cells #[.int .i64 0, .int .i64 0] 41 (0, 0))) := (k5.block _ (Array.getElem?_eq_some_iff.1 B1.out).1).trans B1.out
    have R15 : Hid (w5.rangeAt (w.heap.size + 1) 0 [.int .i64 0, .int .i64 0]) := (HeadAt.of_row B15.out).range
    clear k5
    go_wp2_with (first | (refine wpList_store_row rfl 41 _ _ rfl (w.heap.size + 1) #[.int .i64 0, .int .i64 0] rfl rfl 41 _ B15.out infoValC rfl (all_oneCell_toArray (by simp [Value.oneCell'])) ?_))
    generalize hw9 : World.setRow _ _ _ = w9
    have QR : Hid (w9.heap[w.heap.size + 1]? = some (.cells #[.int .i64 0, .int .i64 0] 41 (0, 0))) := by rw [← hw9]; exact setRow_heap _ _ _ _ _ _ B15.out
    have K9 : Hid (Below w.heap.size w w9) := by rw [← hw9]; exact Below.set_row K5.out (by omega) _
    clear hw9
    go_wp2_with fail
    have q0 := cell_of_row w9 (w.heap.size + 1) 0 _ _ _ QR.out
    have q1 := cell_of_row w9 (w.heap.size + 1) 1 _ _ _ QR.out
    refine bodyPost_ret (v := (.agg #[.int .i64 0, .int .i64 0])) (by simp [results, Tryd.results61, go_sem, q0, q1]) rfl ⟨rfl, K9.out⟩
  · simp only [↓reduceIte, Bool.false_eq_true]
    rw [h] at RC
    clear h
    obtain ⟨w0, hw0⟩ : ∃ w0, w0 = (w.alloc (.cells #[.int .i64 k, .int .i64 n] 41)).alloc (.cells #[.int .i64 0, .int .i64 0] 41) := ⟨_, rfl⟩
    have K0 : Hid (Below w.heap.size w w0) := by rw [hw0]; exact below_two' _ _ _
    have B0 : Hid (w0.heap[w.heap.size]? = some (.cells #[.int .i64 k, .int .i64 n] 41 (0, 0))) := by rw [hw0]; exact heap_old (heap_last _ _) _
    have B1 : Hid (w0.heap[w.heap.size + 1]? = some (.cells #[.int .i64 0, .int .i64 0] 41 (0, 0))) := by rw [hw0]; exact heap_two _ _ _
    have hz : w.heap.size + 1 < w0.heap.size := (Array.getElem?_eq_some_iff.1 B1.out).1
    have R0 : Hid (w0.rangeAt (w.heap.size) 0 [.int .i64 k, .int .i64 n]) := (HeadAt.of_row B0.out).range
    have R1 : Hid (w0.rangeAt (w.heap.size + 1) 0 [.int .i64 0, .int .i64 0]) := (HeadAt.of_row B1.out).range
    have HW := Lib.hid hw0
    clear hw0
    go_enter Tryd.func61, Tryd.ntmps61
    go_upto_region 1 with fail
    rw [← HW.out]
    go_wp2_with (first | (refine wpList_load_mid rfl 41 _ rfl (w.heap.size) 0 rfl [.int .i64 k, .int .i64 n] _ R0.out Tryd.underlying41 rfl infoValC ?_) | fail)
    refine (RC.out _).mono ?_
    rintro e w5 ⟨rfl, k5⟩
    have K5 : Hid (Below w.heap.size w w5) := K0.out.trans (k5.mono K0.out.size)
    have B05 : Hid (w5.heap[w.heap.size]? = some (.cells #[.int .i64 k, .int .i64 n] 41 (0, 0))) := (k5.block _ (Array.getElem?_eq_some_iff.1 B0.out).1).trans B0.out
    have R05 : Hid (w5.rangeAt (w.heap.size) 0 [.int .i64 k, .int .i64 n]) := (HeadAt.of_row B05.out).range
    have B15 : Hid (w5.heap[w.heap.size + 1]? = some (.cells #[.int .i64 0, .int .i64 0] 41 (0, 0))) := (k5.block _ (Array.getElem?_eq_some_iff.1 B1.out).1).trans B1.out
    have R15 : Hid (w5.rangeAt (w.heap.size + 1) 0 [.int .i64 0, .int .i64 0]) := (HeadAt.of_row B15.out).range
    clear k5
    go_wp2_with (first | (refine wpList_load_mid rfl 41 _ rfl (w.heap.size) 0 rfl [.int .i64 k, .int .i64 n] _ R05.out Tryd.underlying41 rfl infoValC ?_) | (refine wpList_store_row rfl 41 _ _ rfl (w.heap.size + 1) #[.int .i64 k, .int .i64 n] rfl rfl 41 _ B15.out infoValC rfl (all_oneCell_toArray (by simp [Value.oneCell'])) ?_))
    generalize hw9 : World.setRow _ _ _ = w9
    have QR : Hid (w9.heap[w.heap.size + 1]? = some (.cells #[.int .i64 k, .int .i64 n] 41 (0, 0))) := by rw [← hw9]; exact setRow_heap _ _ _ _ _ _ B15.out
    have K9 : Hid (Below w.heap.size w w9) := by rw [← hw9]; exact Below.set_row K5.out (by omega) _
    clear hw9
    go_wp2_with fail
    have q0 := cell_of_row w9 (w.heap.size + 1) 0 _ _ _ QR.out
    have q1 := cell_of_row w9 (w.heap.size + 1) 1 _ _ _ QR.out
    refine bodyPost_ret (v := (.agg #[.int .i64 k, .int .i64 n])) (by simp [results, Tryd.results61, go_sem, q0, q1]) rfl ⟨rfl, K9.out⟩
set_option maxHeartbeats 1000000 in
set_option maxRecDepth 100000 in
theorem tru_c (v : Val) (w : World) : Calls Tryd.prog 63 #[.agg #[.int .i64 v.kind, .int .i64 v.n]] w (Gives (.bool (isTrueM v)) w) := by
  obtain ⟨r, hr⟩ : ∃ r, takenM v = r := ⟨_, rfl⟩
  have TC := taken_c v
  unfold isTrueM
  rw [hr] at TC
  rw [hr]
  clear hr
  obtain ⟨k, n⟩ := v
  obtain ⟨rk, rn⟩ := r
  have HTC := Lib.hid TC
  clear TC
  dsimp only
  have FC : Hid (∀ W, Calls Tryd.prog 62 #[.bool false] W (Gives (.agg #[.int .i64 1, .int .i64 0]) W)) := fun W => otruth_c false W
  by_cases hk : rk = 0
  · skip
    subst hk
    obtain ⟨w0, hw0⟩ : ∃ w0, w0 = w.alloc (.cells #[.int .i64 k, .int .i64 n] 41) := ⟨_, rfl⟩
    have K0 : Hid (Below w.heap.size w w0) := by rw [hw0]; exact below_one _ _
    have B0 : Hid (w0.heap[w.heap.size]? = some (.cells #[.int .i64 k, .int .i64 n] 41 (0, 0))) := by rw [hw0]; exact heap_last _ _
    have hz : w.heap.size < w0.heap.size := (Array.getElem?_eq_some_iff.1 B0.out).1
    have R0 : Hid (w0.rangeAt (w.heap.size) 0 [.int .i64 k, .int .i64 n]) := (HeadAt.of_row B0.out).range
    have HW := Lib.hid hw0
    clear hw0
    go_enter Tryd.func63, Tryd.ntmps63
    go_upto_region 1 with fail
    rw [← HW.out]
    go_wp2_with (first | (refine wpList_load_mid rfl 41 _ rfl (w.heap.size) 0 rfl [.int .i64 k, .int .i64 n] _ R0.out Tryd.underlying41 rfl infoValC ?_) | fail)
    refine (HTC.out _).mono ?_
    rintro e w5 ⟨rfl, k5⟩
    have K5 : Hid (Below w.heap.size w w5) := K0.out.trans (k5.mono K0.out.size)
    have B05 : Hid (w5.heap[w.heap.size]? = some (.cells #[.int .i64 k, .int .i64 n] 41 (0, 0))) := (k5.block _ (Array.getElem?_eq_some_iff.1 B0.out).1).trans B0.out
    have R05 : Hid (w5.rangeAt (w.heap.size) 0 [.int .i64 k, .int .i64 n]) := (HeadAt.of_row B05.out).range
    clear k5
    go_wp2_with (first | (refine wpList_store_row rfl 41 _ _ rfl (w.heap.size) #[.int .i64 0, .int .i64 rn] rfl rfl 41 _ B05.out infoValC rfl (all_oneCell_toArray (by simp [Value.oneCell'])) ?_) | fail)
    generalize h6 : World.setRow _ _ _ = w6
    have K6 : Hid (Below w.heap.size w w6) := by rw [← h6]; exact Below.set_row K5.out (by omega) _
    have B06 : Hid (w6.heap[w.heap.size]? = some (.cells #[.int .i64 0, .int .i64 rn] 41 (0, 0))) := by rw [← h6]; exact setRow_heap _ _ _ _ _ _ B05.out
    have R06 : Hid (w6.rangeAt (w.heap.size) 0 [.int .i64 0, .int .i64 rn]) := (HeadAt.of_row B06.out).range
    clear h6
    have x0 : ∀ E : Up w6, E.to.cell? ⟨w.heap.size, 0, none⟩ = some (.int .i64 0) := fun E => E.cell (cell_of_row w6 w.heap.size 0 _ _ _ B06.out)
    go_upto_region 2 with fail
    dsimp only [Act.put]
    refine wp_region_up (by kernel_rfl) (by kernel_rfl) ?_
    repeat (go_big_quiet_step (fail))
    refine wpQuiet_nil ?_
    first | (rintro _ ⟨E, rfl⟩) | (intro E) | (rename_i E)
    go_wp2_with fail
    go_ret
    exact ⟨by first | rfl | simp, K6.out.trans (E.below.mono K6.out.size)⟩
  · skip
    have nk : (rk != 0) = true := bne_iff_ne.2 hk
    by_cases h1 : rk = 1
    · subst h1
      by_cases h2 : rn = 0
      · subst h2
        clear hk nk
        obtain ⟨w0, hw0⟩ : ∃ w0, w0 = w.alloc (.cells #[.int .i64 k, .int .i64 n] 41) := ⟨_, rfl⟩
        have K0 : Hid (Below w.heap.size w w0) := by rw [hw0]; exact below_one _ _
        have B0 : Hid (w0.heap[w.heap.size]? = some (.cells #[.int .i64 k, .int .i64 n] 41 (0, 0))) := by rw [hw0]; exact heap_last _ _
        have hz : w.heap.size < w0.heap.size := (Array.getElem?_eq_some_iff.1 B0.out).1
        have R0 : Hid (w0.rangeAt (w.heap.size) 0 [.int .i64 k, .int .i64 n]) := (HeadAt.of_row B0.out).range
        have HW := Lib.hid hw0
        clear hw0
        go_enter Tryd.func63, Tryd.ntmps63
        go_upto_region 1 with fail
        rw [← HW.out]
        go_wp2_with (first | (refine wpList_load_mid rfl 41 _ rfl (w.heap.size) 0 rfl [.int .i64 k, .int .i64 n] _ R0.out Tryd.underlying41 rfl infoValC ?_) | fail)
        refine (HTC.out _).mono ?_
        rintro e w5 ⟨rfl, k5⟩
        have K5 : Hid (Below w.heap.size w w5) := K0.out.trans (k5.mono K0.out.size)
        have B05 : Hid (w5.heap[w.heap.size]? = some (.cells #[.int .i64 k, .int .i64 n] 41 (0, 0))) := (k5.block _ (Array.getElem?_eq_some_iff.1 B0.out).1).trans B0.out
        have R05 : Hid (w5.rangeAt (w.heap.size) 0 [.int .i64 k, .int .i64 n]) := (HeadAt.of_row B05.out).range
        clear k5
        go_wp2_with (first | (refine wpList_store_row rfl 41 _ _ rfl (w.heap.size) #[.int .i64 1, .int .i64 0] rfl rfl 41 _ B05.out infoValC rfl (all_oneCell_toArray (by simp [Value.oneCell'])) ?_) | fail)
        generalize h6 : World.setRow _ _ _ = w6
        have K6 : Hid (Below w.heap.size w w6) := by rw [← h6]; exact Below.set_row K5.out (by omega) _
        have B06 : Hid (w6.heap[w.heap.size]? = some (.cells #[.int .i64 1, .int .i64 0] 41 (0, 0))) := by rw [← h6]; exact setRow_heap _ _ _ _ _ _ B05.out
        have R06 : Hid (w6.rangeAt (w.heap.size) 0 [.int .i64 1, .int .i64 0]) := (HeadAt.of_row B06.out).range
        clear h6
        have x0 : ∀ E : Up w6, E.to.cell? ⟨w.heap.size, 0, none⟩ = some (.int .i64 1) := fun E => E.cell (cell_of_row w6 w.heap.size 0 _ _ _ B06.out)
        have RX : Hid (∀ E : Up w6, E.to.rangeAt w.heap.size 0 [.int .i64 1, .int .i64 0]) := fun E a u hu => E.cell (R06.out a u hu)
        go_upto_region 2 with fail
        dsimp only [Act.put]
        refine wp_region_up (by kernel_rfl) (by kernel_rfl) ?_
        repeat (first
          | (refine wpQuiet_load_up 41 _ rfl rfl w.heap.size 0 rfl [.int .i64 1, .int .i64 0] _ RX.out Tryd.underlying41 rfl infoValC ?_; go_simp)
          | go_big_quiet_step ((go_at_call 62; exact Calls.up (FC.out _))))
        refine wpQuiet_nil ?_
        first | (rintro _ ⟨E, rfl⟩) | (intro E) | (rename_i E)
        go_wp2_with fail
        go_ret
        exact ⟨by simp, K6.out.trans (E.below.mono K6.out.size)⟩

      · have n2 : (rn == 0) = false := beq_eq_false_iff_ne.2 h2
        clear hk h2 nk
        obtain ⟨w0, hw0⟩ : ∃ w0, w0 = w.alloc (.cells #[.int .i64 k, .int .i64 n] 41) := ⟨_, rfl⟩
        have K0 : Hid (Below w.heap.size w w0) := by rw [hw0]; exact below_one _ _
        have B0 : Hid (w0.heap[w.heap.size]? = some (.cells #[.int .i64 k, .int .i64 n] 41 (0, 0))) := by rw [hw0]; exact heap_last _ _
        have hz : w.heap.size < w0.heap.size := (Array.getElem?_eq_some_iff.1 B0.out).1
        have R0 : Hid (w0.rangeAt (w.heap.size) 0 [.int .i64 k, .int .i64 n]) := (HeadAt.of_row B0.out).range
        have HW := Lib.hid hw0
        clear hw0
        go_enter Tryd.func63, Tryd.ntmps63
        go_upto_region 1 with fail
        rw [← HW.out]
        go_wp2_with (first | (refine wpList_load_mid rfl 41 _ rfl (w.heap.size) 0 rfl [.int .i64 k, .int .i64 n] _ R0.out Tryd.underlying41 rfl infoValC ?_) | fail)
        refine (HTC.out _).mono ?_
        rintro e w5 ⟨rfl, k5⟩
        have K5 : Hid (Below w.heap.size w w5) := K0.out.trans (k5.mono K0.out.size)
        have B05 : Hid (w5.heap[w.heap.size]? = some (.cells #[.int .i64 k, .int .i64 n] 41 (0, 0))) := (k5.block _ (Array.getElem?_eq_some_iff.1 B0.out).1).trans B0.out
        have R05 : Hid (w5.rangeAt (w.heap.size) 0 [.int .i64 k, .int .i64 n]) := (HeadAt.of_row B05.out).range
        clear k5
        go_wp2_with (first | (refine wpList_store_row rfl 41 _ _ rfl (w.heap.size) #[.int .i64 1, .int .i64 rn] rfl rfl 41 _ B05.out infoValC rfl (all_oneCell_toArray (by simp [Value.oneCell'])) ?_) | fail)
        generalize h6 : World.setRow _ _ _ = w6
        have K6 : Hid (Below w.heap.size w w6) := by rw [← h6]; exact Below.set_row K5.out (by omega) _
        have B06 : Hid (w6.heap[w.heap.size]? = some (.cells #[.int .i64 1, .int .i64 rn] 41 (0, 0))) := by rw [← h6]; exact setRow_heap _ _ _ _ _ _ B05.out
        have R06 : Hid (w6.rangeAt (w.heap.size) 0 [.int .i64 1, .int .i64 rn]) := (HeadAt.of_row B06.out).range
        clear h6
        have x0 : ∀ E : Up w6, E.to.cell? ⟨w.heap.size, 0, none⟩ = some (.int .i64 1) := fun E => E.cell (cell_of_row w6 w.heap.size 0 _ _ _ B06.out)
        have RX : Hid (∀ E : Up w6, E.to.rangeAt w.heap.size 0 [.int .i64 1, .int .i64 rn]) := fun E a u hu => E.cell (R06.out a u hu)
        go_upto_region 2 with fail
        dsimp only [Act.put]
        refine wp_region_up (by kernel_rfl) (by kernel_rfl) ?_
        repeat (first
          | (refine wpQuiet_load_up 41 _ rfl rfl w.heap.size 0 rfl [.int .i64 1, .int .i64 rn] _ RX.out Tryd.underlying41 rfl infoValC ?_; go_simp)
          | go_big_quiet_step ((go_at_call 62; exact Calls.up (FC.out _))))
        refine wpQuiet_nil ?_
        first | (rintro _ ⟨E, rfl⟩) | (intro E) | (rename_i E)
        go_wp2_with fail
        go_ret
        exact ⟨by rw [n2]; rfl, K6.out.trans (E.below.mono K6.out.size)⟩

    · have n1 : (rk == 1) = false := beq_eq_false_iff_ne.2 h1
      clear hk h1
      obtain ⟨w0, hw0⟩ : ∃ w0, w0 = w.alloc (.cells #[.int .i64 k, .int .i64 n] 41) := ⟨_, rfl⟩
      have K0 : Hid (Below w.heap.size w w0) := by rw [hw0]; exact below_one _ _
      have B0 : Hid (w0.heap[w.heap.size]? = some (.cells #[.int .i64 k, .int .i64 n] 41 (0, 0))) := by rw [hw0]; exact heap_last _ _
      have hz : w.heap.size < w0.heap.size := (Array.getElem?_eq_some_iff.1 B0.out).1
      have R0 : Hid (w0.rangeAt (w.heap.size) 0 [.int .i64 k, .int .i64 n]) := (HeadAt.of_row B0.out).range
      have HW := Lib.hid hw0
      clear hw0
      go_enter Tryd.func63, Tryd.ntmps63
      go_upto_region 1 with fail
      rw [← HW.out]
      go_wp2_with (first | (refine wpList_load_mid rfl 41 _ rfl (w.heap.size) 0 rfl [.int .i64 k, .int .i64 n] _ R0.out Tryd.underlying41 rfl infoValC ?_) | fail)
      refine (HTC.out _).mono ?_
      rintro e w5 ⟨rfl, k5⟩
      have K5 : Hid (Below w.heap.size w w5) := K0.out.trans (k5.mono K0.out.size)
      have B05 : Hid (w5.heap[w.heap.size]? = some (.cells #[.int .i64 k, .int .i64 n] 41 (0, 0))) := (k5.block _ (Array.getElem?_eq_some_iff.1 B0.out).1).trans B0.out
      have R05 : Hid (w5.rangeAt (w.heap.size) 0 [.int .i64 k, .int .i64 n]) := (HeadAt.of_row B05.out).range
      clear k5
      go_wp2_with (first | (refine wpList_store_row rfl 41 _ _ rfl (w.heap.size) #[.int .i64 rk, .int .i64 rn] rfl rfl 41 _ B05.out infoValC rfl (all_oneCell_toArray (by simp [Value.oneCell'])) ?_) | fail)
      generalize h6 : World.setRow _ _ _ = w6
      have K6 : Hid (Below w.heap.size w w6) := by rw [← h6]; exact Below.set_row K5.out (by omega) _
      have B06 : Hid (w6.heap[w.heap.size]? = some (.cells #[.int .i64 rk, .int .i64 rn] 41 (0, 0))) := by rw [← h6]; exact setRow_heap _ _ _ _ _ _ B05.out
      have R06 : Hid (w6.rangeAt (w.heap.size) 0 [.int .i64 rk, .int .i64 rn]) := (HeadAt.of_row B06.out).range
      clear h6
      have x0 : ∀ E : Up w6, E.to.cell? ⟨w.heap.size, 0, none⟩ = some (.int .i64 rk) := fun E => E.cell (cell_of_row w6 w.heap.size 0 _ _ _ B06.out)
      have RX : Hid (∀ E : Up w6, E.to.rangeAt w.heap.size 0 [.int .i64 rk, .int .i64 rn]) := fun E a u hu => E.cell (R06.out a u hu)
      go_upto_region 2 with fail
      dsimp only [Act.put]
      refine wp_region_up (by kernel_rfl) (by kernel_rfl) ?_
      repeat (first
        | (refine wpQuiet_load_up 41 _ rfl rfl w.heap.size 0 rfl [.int .i64 rk, .int .i64 rn] _ RX.out Tryd.underlying41 rfl infoValC ?_; go_simp)
        | go_big_quiet_step ((go_at_call 62; exact Calls.up (FC.out _))))
      refine wpQuiet_nil ?_
      first | (rintro _ ⟨E, rfl⟩) | (intro E) | (rename_i E)
      go_wp2_with fail
      go_ret
      exact ⟨by rw [nk, n1]; rfl, K6.out.trans (E.below.mono K6.out.size)⟩
set_option maxHeartbeats 1000000 in
set_option maxRecDepth 100000 in
theorem wholes_c (op a b : Int) (w : World) : Calls Tryd.prog 69 #[.int .i64 op, .int .i64 a, .int .i64 b] w (GivesV (wholesM op a b) w) := by
  by_cases c3 : op = 3
  · subst c3
    obtain ⟨r, hr⟩ : ∃ r, wholeM (wrap64 (a + b)) = r := ⟨_, rfl⟩
    have RC := owhole_c (wrap64 (a + b))
    rw [hr] at RC
    show Calls _ _ _ _ (GivesV (wholeM (wrap64 (a + b))) w)
    rw [hr]
    clear hr
    obtain ⟨⟨rk, rn⟩, th⟩ := r
    have HRC := Lib.hid RC
    clear RC
    unfold GivesV at HRC ⊢
    dsimp only at HRC ⊢
    obtain ⟨w0, hw0⟩ : ∃ w0, w0 = w.alloc (.cells #[.int .i64 0, .int .i64 0] 41) := ⟨_, rfl⟩
    have K0 : Hid (Below w.heap.size w w0) := by rw [hw0]; exact below_one _ _
    have B0 : Hid (w0.heap[w.heap.size]? = some (.cells #[.int .i64 0, .int .i64 0] 41 (0, 0))) := by rw [hw0]; exact heap_last _ _
    have hz : w.heap.size < w0.heap.size := (Array.getElem?_eq_some_iff.1 B0.out).1
    have R0 : Hid (w0.rangeAt (w.heap.size) 0 [.int .i64 0, .int .i64 0]) := (HeadAt.of_row B0.out).range
    have HW := Lib.hid hw0
    clear hw0
    go_enter Tryd.func69, Tryd.ntmps69
    go_upto_region 1 with fail
    rw [← HW.out]
    go_wp2_with (first | fail)
    refine (HRC.out _).mono ?_
    rintro e w5 ⟨rfl, k5⟩
    have K5 : Hid (Below w.heap.size w w5) := K0.out.trans (k5.mono K0.out.size)
    have B05 : Hid (w5.heap[w.heap.size]? = some (.cells #[.int .i64 0, .int .i64 0] 41 (0, 0))) := (k5.block _ (Array.getElem?_eq_some_iff.1 B0.out).1).trans B0.out
    have R05 : Hid (w5.rangeAt (w.heap.size) 0 [.int .i64 0, .int .i64 0]) := (HeadAt.of_row B05.out).range
    clear k5
    go_wp2_with (first | (refine wpList_store_row rfl 41 _ _ rfl (w.heap.size) #[.int .i64 rk, .int .i64 rn] rfl rfl 41 _ B05.out infoValC rfl (all_oneCell_toArray (by simp [Value.oneCell'])) ?_))
    generalize hw9 : World.setRow _ _ _ = w9
    have QR : Hid (w9.heap[w.heap.size]? = some (.cells #[.int .i64 rk, .int .i64 rn] 41 (0, 0))) := by rw [← hw9]; exact setRow_heap _ _ _ _ _ _ B05.out
    have K9 : Hid (Below w.heap.size w w9) := by rw [← hw9]; exact Below.set_row K5.out (by omega) _
    clear hw9
    go_wp2_with fail
    have q0 := cell_of_row w9 (w.heap.size) 0 _ _ _ QR.out
    have q1 := cell_of_row w9 (w.heap.size) 1 _ _ _ QR.out
    refine bodyPost_ret (v := (.tuple #[.agg #[.int .i64 rk, .int .i64 rn], .int .i64 th])) (by simp [results, Tryd.results69, go_sem, q0, q1]) rfl ⟨rfl, K9.out⟩
  by_cases c4 : op = 4
  · subst c4
    clear c3
    obtain ⟨r, hr⟩ : ∃ r, wholeM (wrap64 (a - b)) = r := ⟨_, rfl⟩
    have RC := owhole_c (wrap64 (a - b))
    rw [hr] at RC
    show Calls _ _ _ _ (GivesV (wholeM (wrap64 (a - b))) w)
    rw [hr]
    clear hr
    obtain ⟨⟨rk, rn⟩, th⟩ := r
    have HRC := Lib.hid RC
    clear RC
    unfold GivesV at HRC ⊢
    dsimp only at HRC ⊢
    obtain ⟨w0, hw0⟩ : ∃ w0, w0 = w.alloc (.cells #[.int .i64 0, .int .i64 0] 41) := ⟨_, rfl⟩
    have K0 : Hid (Below w.heap.size w w0) := by rw [hw0]; exact below_one _ _
    have B0 : Hid (w0.heap[w.heap.size]? = some (.cells #[.int .i64 0, .int .i64 0] 41 (0, 0))) := by rw [hw0]; exact heap_last _ _
    have hz : w.heap.size < w0.heap.size := (Array.getElem?_eq_some_iff.1 B0.out).1
    have R0 : Hid (w0.rangeAt (w.heap.size) 0 [.int .i64 0, .int .i64 0]) := (HeadAt.of_row B0.out).range
    have HW := Lib.hid hw0
    clear hw0
    go_enter Tryd.func69, Tryd.ntmps69
    go_upto_region 1 with fail
    rw [← HW.out]
    go_wp2_with (first | fail)
    refine (HRC.out _).mono ?_
    rintro e w5 ⟨rfl, k5⟩
    have K5 : Hid (Below w.heap.size w w5) := K0.out.trans (k5.mono K0.out.size)
    have B05 : Hid (w5.heap[w.heap.size]? = some (.cells #[.int .i64 0, .int .i64 0] 41 (0, 0))) := (k5.block _ (Array.getElem?_eq_some_iff.1 B0.out).1).trans B0.out
    have R05 : Hid (w5.rangeAt (w.heap.size) 0 [.int .i64 0, .int .i64 0]) := (HeadAt.of_row B05.out).range
    clear k5
    go_wp2_with (first | (refine wpList_store_row rfl 41 _ _ rfl (w.heap.size) #[.int .i64 rk, .int .i64 rn] rfl rfl 41 _ B05.out infoValC rfl (all_oneCell_toArray (by simp [Value.oneCell'])) ?_))
    generalize hw9 : World.setRow _ _ _ = w9
    have QR : Hid (w9.heap[w.heap.size]? = some (.cells #[.int .i64 rk, .int .i64 rn] 41 (0, 0))) := by rw [← hw9]; exact setRow_heap _ _ _ _ _ _ B05.out
    have K9 : Hid (Below w.heap.size w w9) := by rw [← hw9]; exact Below.set_row K5.out (by omega) _
    clear hw9
    go_wp2_with fail
    have q0 := cell_of_row w9 (w.heap.size) 0 _ _ _ QR.out
    have q1 := cell_of_row w9 (w.heap.size) 1 _ _ _ QR.out
    refine bodyPost_ret (v := (.tuple #[.agg #[.int .i64 rk, .int .i64 rn], .int .i64 th])) (by simp [results, Tryd.results69, go_sem, q0, q1]) rfl ⟨rfl, K9.out⟩
  by_cases c5 : op = 5
  · subst c5
    clear c3
    clear c4
    obtain ⟨r, hr⟩ : ∃ r, wholeM (wrap64 (a * b)) = r := ⟨_, rfl⟩
    have RC := owhole_c (wrap64 (a * b))
    rw [hr] at RC
    show Calls _ _ _ _ (GivesV (wholeM (wrap64 (a * b))) w)
    rw [hr]
    clear hr
    obtain ⟨⟨rk, rn⟩, th⟩ := r
    have HRC := Lib.hid RC
    clear RC
    unfold GivesV at HRC ⊢
    dsimp only at HRC ⊢
    obtain ⟨w0, hw0⟩ : ∃ w0, w0 = w.alloc (.cells #[.int .i64 0, .int .i64 0] 41) := ⟨_, rfl⟩
    have K0 : Hid (Below w.heap.size w w0) := by rw [hw0]; exact below_one _ _
    have B0 : Hid (w0.heap[w.heap.size]? = some (.cells #[.int .i64 0, .int .i64 0] 41 (0, 0))) := by rw [hw0]; exact heap_last _ _
    have hz : w.heap.size < w0.heap.size := (Array.getElem?_eq_some_iff.1 B0.out).1
    have R0 : Hid (w0.rangeAt (w.heap.size) 0 [.int .i64 0, .int .i64 0]) := (HeadAt.of_row B0.out).range
    have HW := Lib.hid hw0
    clear hw0
    go_enter Tryd.func69, Tryd.ntmps69
    go_upto_region 1 with fail
    rw [← HW.out]
    go_wp2_with (first | fail)
    refine (HRC.out _).mono ?_
    rintro e w5 ⟨rfl, k5⟩
    have K5 : Hid (Below w.heap.size w w5) := K0.out.trans (k5.mono K0.out.size)
    have B05 : Hid (w5.heap[w.heap.size]? = some (.cells #[.int .i64 0, .int .i64 0] 41 (0, 0))) := (k5.block _ (Array.getElem?_eq_some_iff.1 B0.out).1).trans B0.out
    have R05 : Hid (w5.rangeAt (w.heap.size) 0 [.int .i64 0, .int .i64 0]) := (HeadAt.of_row B05.out).range
    clear k5
    go_wp2_with (first | (refine wpList_store_row rfl 41 _ _ rfl (w.heap.size) #[.int .i64 rk, .int .i64 rn] rfl rfl 41 _ B05.out infoValC rfl (all_oneCell_toArray (by simp [Value.oneCell'])) ?_))
    generalize hw9 : World.setRow _ _ _ = w9
    have QR : Hid (w9.heap[w.heap.size]? = some (.cells #[.int .i64 rk, .int .i64 rn] 41 (0, 0))) := by rw [← hw9]; exact setRow_heap _ _ _ _ _ _ B05.out
    have K9 : Hid (Below w.heap.size w w9) := by rw [← hw9]; exact Below.set_row K5.out (by omega) _
    clear hw9
    go_wp2_with fail
    have q0 := cell_of_row w9 (w.heap.size) 0 _ _ _ QR.out
    have q1 := cell_of_row w9 (w.heap.size) 1 _ _ _ QR.out
    refine bodyPost_ret (v := (.tuple #[.agg #[.int .i64 rk, .int .i64 rn], .int .i64 th])) (by simp [results, Tryd.results69, go_sem, q0, q1]) rfl ⟨rfl, K9.out⟩
  by_cases c6 : op = 6
  · subst c6
    clear c3
    clear c4
    clear c5
    by_cases hb : b = 0
    · subst hb
      show Calls _ _ _ _ (GivesV (⟨0, 0⟩, 2) w)
      have HRC := Lib.hid (ofail_c 2)
      unfold GivesV at HRC ⊢
      dsimp only at HRC ⊢
      obtain ⟨w0, hw0⟩ : ∃ w0, w0 = w.alloc (.cells #[.int .i64 0, .int .i64 0] 41) := ⟨_, rfl⟩
      have K0 : Hid (Below w.heap.size w w0) := by rw [hw0]; exact below_one _ _
      have B0 : Hid (w0.heap[w.heap.size]? = some (.cells #[.int .i64 0, .int .i64 0] 41 (0, 0))) := by rw [hw0]; exact heap_last _ _
      have hz : w.heap.size < w0.heap.size := (Array.getElem?_eq_some_iff.1 B0.out).1
      have R0 : Hid (w0.rangeAt (w.heap.size) 0 [.int .i64 0, .int .i64 0]) := (HeadAt.of_row B0.out).range
      have HW := Lib.hid hw0
      clear hw0
      go_enter Tryd.func69, Tryd.ntmps69
      go_upto_region 1 with fail
      rw [← HW.out]
      go_wp2_with (first | fail)
      refine (HRC.out _).mono ?_
      rintro e w5 ⟨rfl, k5⟩
      have K5 : Hid (Below w.heap.size w w5) := K0.out.trans (k5.mono K0.out.size)
      have B05 : Hid (w5.heap[w.heap.size]? = some (.cells #[.int .i64 0, .int .i64 0] 41 (0, 0))) := (k5.block _ (Array.getElem?_eq_some_iff.1 B0.out).1).trans B0.out
      have R05 : Hid (w5.rangeAt (w.heap.size) 0 [.int .i64 0, .int .i64 0]) := (HeadAt.of_row B05.out).range
      clear k5
      go_wp2_with (first | (refine wpList_store_row rfl 41 _ _ rfl (w.heap.size) #[.int .i64 0, .int .i64 0] rfl rfl 41 _ B05.out infoValC rfl (all_oneCell_toArray (by simp [Value.oneCell'])) ?_))
      generalize hw9 : World.setRow _ _ _ = w9
      have QR : Hid (w9.heap[w.heap.size]? = some (.cells #[.int .i64 0, .int .i64 0] 41 (0, 0))) := by rw [← hw9]; exact setRow_heap _ _ _ _ _ _ B05.out
      have K9 : Hid (Below w.heap.size w w9) := by rw [← hw9]; exact Below.set_row K5.out (by omega) _
      clear hw9
      go_wp2_with fail
      have q0 := cell_of_row w9 (w.heap.size) 0 _ _ _ QR.out
      have q1 := cell_of_row w9 (w.heap.size) 1 _ _ _ QR.out
      refine bodyPost_ret (v := (.tuple #[.agg #[.int .i64 0, .int .i64 0], .int .i64 2])) (by simp [results, Tryd.results69, go_sem, q0, q1]) rfl ⟨rfl, K9.out⟩
    · have n0 : (b == 0) = false := beq_eq_false_iff_ne.2 hb
      rw [show wholesM 6 a b = wholeM (wrap64 (a.tdiv b)) from by unfold wholesM; rw [if_neg (by decide), if_neg (by decide), if_neg (by decide), if_pos (by decide), if_neg hb, if_pos rfl]]
      obtain ⟨r, hr⟩ : ∃ r, wholeM (wrap64 (a.tdiv b)) = r := ⟨_, rfl⟩
      have RC := owhole_c (wrap64 (a.tdiv b))
      rw [hr] at RC
      show Calls _ _ _ _ (GivesV (wholeM (wrap64 (a.tdiv b))) w)
      rw [hr]
      clear hr
      obtain ⟨⟨rk, rn⟩, th⟩ := r
      have HRC := Lib.hid RC
      clear RC
      unfold GivesV at HRC ⊢
      dsimp only at HRC ⊢
      obtain ⟨w0, hw0⟩ : ∃ w0, w0 = w.alloc (.cells #[.int .i64 0, .int .i64 0] 41) := ⟨_, rfl⟩
      have K0 : Hid (Below w.heap.size w w0) := by rw [hw0]; exact below_one _ _
      have B0 : Hid (w0.heap[w.heap.size]? = some (.cells #[.int .i64 0, .int .i64 0] 41 (0, 0))) := by rw [hw0]; exact heap_last _ _
      have hz : w.heap.size < w0.heap.size := (Array.getElem?_eq_some_iff.1 B0.out).1
      have R0 : Hid (w0.rangeAt (w.heap.size) 0 [.int .i64 0, .int .i64 0]) := (HeadAt.of_row B0.out).range
      have HW := Lib.hid hw0
      clear hw0
      go_enter Tryd.func69, Tryd.ntmps69
      go_upto_region 1 with fail
      rw [← HW.out]
      go_wp2_with (first | fail)
      refine (HRC.out _).mono ?_
      rintro e w5 ⟨rfl, k5⟩
      have K5 : Hid (Below w.heap.size w w5) := K0.out.trans (k5.mono K0.out.size)
      have B05 : Hid (w5.heap[w.heap.size]? = some (.cells #[.int .i64 0, .int .i64 0] 41 (0, 0))) := (k5.block _ (Array.getElem?_eq_some_iff.1 B0.out).1).trans B0.out
      have R05 : Hid (w5.rangeAt (w.heap.size) 0 [.int .i64 0, .int .i64 0]) := (HeadAt.of_row B05.out).range
      clear k5
      go_wp2_with (first | (refine wpList_store_row rfl 41 _ _ rfl (w.heap.size) #[.int .i64 rk, .int .i64 rn] rfl rfl 41 _ B05.out infoValC rfl (all_oneCell_toArray (by simp [Value.oneCell'])) ?_))
      generalize hw9 : World.setRow _ _ _ = w9
      have QR : Hid (w9.heap[w.heap.size]? = some (.cells #[.int .i64 rk, .int .i64 rn] 41 (0, 0))) := by rw [← hw9]; exact setRow_heap _ _ _ _ _ _ B05.out
      have K9 : Hid (Below w.heap.size w w9) := by rw [← hw9]; exact Below.set_row K5.out (by omega) _
      clear hw9
      go_wp2_with fail
      have q0 := cell_of_row w9 (w.heap.size) 0 _ _ _ QR.out
      have q1 := cell_of_row w9 (w.heap.size) 1 _ _ _ QR.out
      refine bodyPost_ret (v := (.tuple #[.agg #[.int .i64 rk, .int .i64 rn], .int .i64 th])) (by simp [results, Tryd.results69, go_sem, q0, q1]) rfl ⟨rfl, K9.out⟩
  by_cases c7 : op = 7
  · subst c7
    clear c3
    clear c4
    clear c5
    clear c6
    by_cases hb : b = 0
    · subst hb
      show Calls _ _ _ _ (GivesV (⟨0, 0⟩, 2) w)
      have HRC := Lib.hid (ofail_c 2)
      unfold GivesV at HRC ⊢
      dsimp only at HRC ⊢
      obtain ⟨w0, hw0⟩ : ∃ w0, w0 = w.alloc (.cells #[.int .i64 0, .int .i64 0] 41) := ⟨_, rfl⟩
      have K0 : Hid (Below w.heap.size w w0) := by rw [hw0]; exact below_one _ _
      have B0 : Hid (w0.heap[w.heap.size]? = some (.cells #[.int .i64 0, .int .i64 0] 41 (0, 0))) := by rw [hw0]; exact heap_last _ _
      have hz : w.heap.size < w0.heap.size := (Array.getElem?_eq_some_iff.1 B0.out).1
      have R0 : Hid (w0.rangeAt (w.heap.size) 0 [.int .i64 0, .int .i64 0]) := (HeadAt.of_row B0.out).range
      have HW := Lib.hid hw0
      clear hw0
      go_enter Tryd.func69, Tryd.ntmps69
      go_upto_region 1 with fail
      rw [← HW.out]
      go_wp2_with (first | fail)
      refine (HRC.out _).mono ?_
      rintro e w5 ⟨rfl, k5⟩
      have K5 : Hid (Below w.heap.size w w5) := K0.out.trans (k5.mono K0.out.size)
      have B05 : Hid (w5.heap[w.heap.size]? = some (.cells #[.int .i64 0, .int .i64 0] 41 (0, 0))) := (k5.block _ (Array.getElem?_eq_some_iff.1 B0.out).1).trans B0.out
      have R05 : Hid (w5.rangeAt (w.heap.size) 0 [.int .i64 0, .int .i64 0]) := (HeadAt.of_row B05.out).range
      clear k5
      go_wp2_with (first | (refine wpList_store_row rfl 41 _ _ rfl (w.heap.size) #[.int .i64 0, .int .i64 0] rfl rfl 41 _ B05.out infoValC rfl (all_oneCell_toArray (by simp [Value.oneCell'])) ?_))
      generalize hw9 : World.setRow _ _ _ = w9
      have QR : Hid (w9.heap[w.heap.size]? = some (.cells #[.int .i64 0, .int .i64 0] 41 (0, 0))) := by rw [← hw9]; exact setRow_heap _ _ _ _ _ _ B05.out
      have K9 : Hid (Below w.heap.size w w9) := by rw [← hw9]; exact Below.set_row K5.out (by omega) _
      clear hw9
      go_wp2_with fail
      have q0 := cell_of_row w9 (w.heap.size) 0 _ _ _ QR.out
      have q1 := cell_of_row w9 (w.heap.size) 1 _ _ _ QR.out
      refine bodyPost_ret (v := (.tuple #[.agg #[.int .i64 0, .int .i64 0], .int .i64 2])) (by simp [results, Tryd.results69, go_sem, q0, q1]) rfl ⟨rfl, K9.out⟩
    · have n0 : (b == 0) = false := beq_eq_false_iff_ne.2 hb
      rw [show wholesM 7 a b = wholeM (a.tmod b) from by unfold wholesM; rw [if_neg (by decide), if_neg (by decide), if_neg (by decide), if_pos (by decide), if_neg hb, if_neg (by decide)]]
      obtain ⟨r, hr⟩ : ∃ r, wholeM (a.tmod b) = r := ⟨_, rfl⟩
      have RC := owhole_c (a.tmod b)
      rw [hr] at RC
      show Calls _ _ _ _ (GivesV (wholeM (a.tmod b)) w)
      rw [hr]
      clear hr
      obtain ⟨⟨rk, rn⟩, th⟩ := r
      have HRC := Lib.hid RC
      clear RC
      unfold GivesV at HRC ⊢
      dsimp only at HRC ⊢
      obtain ⟨w0, hw0⟩ : ∃ w0, w0 = w.alloc (.cells #[.int .i64 0, .int .i64 0] 41) := ⟨_, rfl⟩
      have K0 : Hid (Below w.heap.size w w0) := by rw [hw0]; exact below_one _ _
      have B0 : Hid (w0.heap[w.heap.size]? = some (.cells #[.int .i64 0, .int .i64 0] 41 (0, 0))) := by rw [hw0]; exact heap_last _ _
      have hz : w.heap.size < w0.heap.size := (Array.getElem?_eq_some_iff.1 B0.out).1
      have R0 : Hid (w0.rangeAt (w.heap.size) 0 [.int .i64 0, .int .i64 0]) := (HeadAt.of_row B0.out).range
      have HW := Lib.hid hw0
      clear hw0
      go_enter Tryd.func69, Tryd.ntmps69
      go_upto_region 1 with fail
      rw [← HW.out]
      go_wp2_with (first | fail)
      refine (HRC.out _).mono ?_
      rintro e w5 ⟨rfl, k5⟩
      have K5 : Hid (Below w.heap.size w w5) := K0.out.trans (k5.mono K0.out.size)
      have B05 : Hid (w5.heap[w.heap.size]? = some (.cells #[.int .i64 0, .int .i64 0] 41 (0, 0))) := (k5.block _ (Array.getElem?_eq_some_iff.1 B0.out).1).trans B0.out
      have R05 : Hid (w5.rangeAt (w.heap.size) 0 [.int .i64 0, .int .i64 0]) := (HeadAt.of_row B05.out).range
      clear k5
      go_wp2_with (first | (refine wpList_store_row rfl 41 _ _ rfl (w.heap.size) #[.int .i64 rk, .int .i64 rn] rfl rfl 41 _ B05.out infoValC rfl (all_oneCell_toArray (by simp [Value.oneCell'])) ?_))
      generalize hw9 : World.setRow _ _ _ = w9
      have QR : Hid (w9.heap[w.heap.size]? = some (.cells #[.int .i64 rk, .int .i64 rn] 41 (0, 0))) := by rw [← hw9]; exact setRow_heap _ _ _ _ _ _ B05.out
      have K9 : Hid (Below w.heap.size w w9) := by rw [← hw9]; exact Below.set_row K5.out (by omega) _
      clear hw9
      go_wp2_with fail
      have q0 := cell_of_row w9 (w.heap.size) 0 _ _ _ QR.out
      have q1 := cell_of_row w9 (w.heap.size) 1 _ _ _ QR.out
      refine bodyPost_ret (v := (.tuple #[.agg #[.int .i64 rk, .int .i64 rn], .int .i64 th])) (by simp [results, Tryd.results69, go_sem, q0, q1]) rfl ⟨rfl, K9.out⟩
  rw [show wholesM op a b = orderedM op (decide (a < b)) (decide (a ≤ b)) from by unfold wholesM; rw [if_neg c3, if_neg c4, if_neg c5, if_neg (by omega)]]
  have n3 : (op == 3) = false := beq_eq_false_iff_ne.2 c3
  clear c3
  have n4 : (op == 4) = false := beq_eq_false_iff_ne.2 c4
  clear c4
  have n5 : (op == 5) = false := beq_eq_false_iff_ne.2 c5
  clear c5
  have n6 : (op == 6) = false := beq_eq_false_iff_ne.2 c6
  clear c6
  have n7 : (op == 7) = false := beq_eq_false_iff_ne.2 c7
  clear c7
  obtain ⟨r, hr⟩ : ∃ r, orderedM op (decide (a < b)) (decide (a ≤ b)) = r := ⟨_, rfl⟩
  have RC := ordered_i op a b
  rw [hr] at RC
  show Calls _ _ _ _ (GivesV (orderedM op (decide (a < b)) (decide (a ≤ b))) w)
  rw [hr]
  clear hr
  obtain ⟨⟨rk, rn⟩, th⟩ := r
  have HRC := Lib.hid RC
  clear RC
  unfold GivesV at HRC ⊢
  dsimp only at HRC ⊢
  obtain ⟨w0, hw0⟩ : ∃ w0, w0 = w.alloc (.cells #[.int .i64 0, .int .i64 0] 41) := ⟨_, rfl⟩
  have K0 : Hid (Below w.heap.size w w0) := by rw [hw0]; exact below_one _ _
  have B0 : Hid (w0.heap[w.heap.size]? = some (.cells #[.int .i64 0, .int .i64 0] 41 (0, 0))) := by rw [hw0]; exact heap_last _ _
  have hz : w.heap.size < w0.heap.size := (Array.getElem?_eq_some_iff.1 B0.out).1
  have R0 : Hid (w0.rangeAt (w.heap.size) 0 [.int .i64 0, .int .i64 0]) := (HeadAt.of_row B0.out).range
  have HW := Lib.hid hw0
  clear hw0
  go_enter Tryd.func69, Tryd.ntmps69
  go_upto_region 1 with fail
  rw [← HW.out]
  go_wp2_with (first | fail)
  refine (HRC.out _).mono ?_
  rintro e w5 ⟨rfl, k5⟩
  have K5 : Hid (Below w.heap.size w w5) := K0.out.trans (k5.mono K0.out.size)
  have B05 : Hid (w5.heap[w.heap.size]? = some (.cells #[.int .i64 0, .int .i64 0] 41 (0, 0))) := (k5.block _ (Array.getElem?_eq_some_iff.1 B0.out).1).trans B0.out
  have R05 : Hid (w5.rangeAt (w.heap.size) 0 [.int .i64 0, .int .i64 0]) := (HeadAt.of_row B05.out).range
  clear k5
  go_wp2_with (first | (refine wpList_store_row rfl 41 _ _ rfl (w.heap.size) #[.int .i64 rk, .int .i64 rn] rfl rfl 41 _ B05.out infoValC rfl (all_oneCell_toArray (by simp [Value.oneCell'])) ?_))
  generalize hw9 : World.setRow _ _ _ = w9
  have QR : Hid (w9.heap[w.heap.size]? = some (.cells #[.int .i64 rk, .int .i64 rn] 41 (0, 0))) := by rw [← hw9]; exact setRow_heap _ _ _ _ _ _ B05.out
  have K9 : Hid (Below w.heap.size w w9) := by rw [← hw9]; exact Below.set_row K5.out (by omega) _
  clear hw9
  go_wp2_with fail
  have q0 := cell_of_row w9 (w.heap.size) 0 _ _ _ QR.out
  have q1 := cell_of_row w9 (w.heap.size) 1 _ _ _ QR.out
  refine bodyPost_ret (v := (.tuple #[.agg #[.int .i64 rk, .int .i64 rn], .int .i64 th])) (by simp [results, Tryd.results69, go_sem, q0, q1]) rfl ⟨rfl, K9.out⟩
set_option maxHeartbeats 1000000 in
set_option maxRecDepth 100000 in
theorem floats_c (op : Int) (x y : Nat) (w : World) : Calls Tryd.prog 68 #[.int .i64 op, .float .f64 x, .float .f64 y] w (GivesV (floatsM op x y) w) := by
  by_cases c3 : op = 3
  · subst c3
    show Calls _ _ _ _ (GivesV (ofB .add x y, -1) w)
    unfold ofB
    cases h : floatBits .add .f64 x y with
    | some q =>
      have hb : ∀ W, (binOp .add 127 (.float .f64 x) (.float .f64 y)).run Tryd.prog W = .ok (.float .f64 q) W := fun W => run_float_arith W .add 127 .f64 x y q h
      dsimp only
      obtain ⟨r, hr⟩ : ∃ r, ofM q = r := ⟨_, rfl⟩
      have RC := fof_c q
      rw [hr] at RC
      rw [hr]
      clear hr h
      obtain ⟨rk, rn⟩ := r
      have HRC := Lib.hid RC
      clear RC
      unfold GivesV
      dsimp only at HRC ⊢
      obtain ⟨w0, hw0⟩ : ∃ w0, w0 = w.alloc (.cells #[.int .i64 0, .int .i64 0] 41) := ⟨_, rfl⟩
      have K0 : Hid (Below w.heap.size w w0) := by rw [hw0]; exact below_one _ _
      have B0 : Hid (w0.heap[w.heap.size]? = some (.cells #[.int .i64 0, .int .i64 0] 41 (0, 0))) := by rw [hw0]; exact heap_last _ _
      have hz : w.heap.size < w0.heap.size := (Array.getElem?_eq_some_iff.1 B0.out).1
      have R0 : Hid (w0.rangeAt (w.heap.size) 0 [.int .i64 0, .int .i64 0]) := (HeadAt.of_row B0.out).range
      have HW := Lib.hid hw0
      clear hw0
      go_enter Tryd.func68, Tryd.ntmps68
      go_upto_region 1 with fail
      rw [← HW.out]
      go_wp2_with (first | fail)
      refine (HRC.out _).mono ?_
      rintro e w5 ⟨rfl, k5⟩
      have K5 : Hid (Below w.heap.size w w5) := K0.out.trans (k5.mono K0.out.size)
      have B05 : Hid (w5.heap[w.heap.size]? = some (.cells #[.int .i64 0, .int .i64 0] 41 (0, 0))) := (k5.block _ (Array.getElem?_eq_some_iff.1 B0.out).1).trans B0.out
      have R05 : Hid (w5.rangeAt (w.heap.size) 0 [.int .i64 0, .int .i64 0]) := (HeadAt.of_row B05.out).range
      clear k5
      go_wp2_with (first | (refine wpList_store_row rfl 41 _ _ rfl (w.heap.size) #[.int .i64 rk, .int .i64 rn] rfl rfl 41 _ B05.out infoValC rfl (all_oneCell_toArray (by simp [Value.oneCell'])) ?_))
      generalize hw9 : World.setRow _ _ _ = w9
      have QR : Hid (w9.heap[w.heap.size]? = some (.cells #[.int .i64 rk, .int .i64 rn] 41 (0, 0))) := by rw [← hw9]; exact setRow_heap _ _ _ _ _ _ B05.out
      have K9 : Hid (Below w.heap.size w w9) := by rw [← hw9]; exact Below.set_row K5.out (by omega) _
      clear hw9
      go_wp2_with fail
      have q0 := cell_of_row w9 (w.heap.size) 0 _ _ _ QR.out
      have q1 := cell_of_row w9 (w.heap.size) 1 _ _ _ QR.out
      refine bodyPost_ret (v := (.tuple #[.agg #[.int .i64 rk, .int .i64 rn], .int .i64 (-1)])) (by simp [results, Tryd.results68, go_sem, q0, q1]) rfl ⟨rfl, K9.out⟩
    | none =>
      dsimp only
      have H := Lib.hid h
      clear h
      unfold GivesV
      dsimp only
      obtain ⟨w0, hw0⟩ : ∃ w0, w0 = w.alloc (.cells #[.int .i64 0, .int .i64 0] 41) := ⟨_, rfl⟩
      have K0 : Hid (Below w.heap.size w w0) := by rw [hw0]; exact below_one _ _
      have B0 : Hid (w0.heap[w.heap.size]? = some (.cells #[.int .i64 0, .int .i64 0] 41 (0, 0))) := by rw [hw0]; exact heap_last _ _
      have hz : w.heap.size < w0.heap.size := (Array.getElem?_eq_some_iff.1 B0.out).1
      have R0 : Hid (w0.rangeAt (w.heap.size) 0 [.int .i64 0, .int .i64 0]) := (HeadAt.of_row B0.out).range
      have HW := Lib.hid hw0
      clear hw0
      go_enter Tryd.func68, Tryd.ntmps68
      go_upto_region 1 with fail
      rw [← HW.out]
      obtain ⟨b, ho, hb⟩ : ∃ b, (FloatKind.f64.format.order b b == some .eq) = false ∧ (binOp .add 127 (.float .f64 x) (.float .f64 y)).run Tryd.prog w0 = .ok (.float .f64 b) w0.drew := by
        rcases run_float_any (P := Tryd.prog) .add 127 x y (by simp) w0 with ⟨r, h1, _⟩ | ⟨_, h2⟩
        · rw [H.out] at h1; cases h1
        · exact h2
      have RC := fof_c b w0.drew
      rw [show ofM b = ⟨3, nanM⟩ from by unfold ofM; rw [ho]; rfl] at RC
      have HRC := Lib.hid RC
      clear RC ho
      dsimp only at HRC
      go_wp2_with fail
      refine HRC.out.mono ?_
      rintro e w5 ⟨rfl, k6⟩
      have k5 : Below w0.heap.size w0 w5 := ((Below.refl _ w0).drew).trans k6
      clear k6
      have K5 : Hid (Below w.heap.size w w5) := K0.out.trans (k5.mono K0.out.size)
      have B05 : Hid (w5.heap[w.heap.size]? = some (.cells #[.int .i64 0, .int .i64 0] 41 (0, 0))) := (k5.block _ (Array.getElem?_eq_some_iff.1 B0.out).1).trans B0.out
      have R05 : Hid (w5.rangeAt (w.heap.size) 0 [.int .i64 0, .int .i64 0]) := (HeadAt.of_row B05.out).range
      clear k5
      go_wp2_with (first | (refine wpList_store_row rfl 41 _ _ rfl (w.heap.size) #[.int .i64 3, .int .i64 nanM] rfl rfl 41 _ B05.out infoValC rfl (all_oneCell_toArray (by simp [Value.oneCell'])) ?_))
      generalize hw9 : World.setRow _ _ _ = w9
      have QR : Hid (w9.heap[w.heap.size]? = some (.cells #[.int .i64 3, .int .i64 nanM] 41 (0, 0))) := by rw [← hw9]; exact setRow_heap _ _ _ _ _ _ B05.out
      have K9 : Hid (Below w.heap.size w w9) := by rw [← hw9]; exact Below.set_row K5.out (by omega) _
      clear hw9
      go_wp2_with fail
      have q0 := cell_of_row w9 (w.heap.size) 0 _ _ _ QR.out
      have q1 := cell_of_row w9 (w.heap.size) 1 _ _ _ QR.out
      refine bodyPost_ret (v := (.tuple #[.agg #[.int .i64 3, .int .i64 nanM], .int .i64 (-1)])) (by simp [results, Tryd.results68, go_sem, q0, q1]) rfl ⟨rfl, K9.out⟩
  by_cases c4 : op = 4
  · subst c4
    clear c3
    show Calls _ _ _ _ (GivesV (ofB .sub x y, -1) w)
    unfold ofB
    cases h : floatBits .sub .f64 x y with
    | some q =>
      have hb : ∀ W, (binOp .sub 127 (.float .f64 x) (.float .f64 y)).run Tryd.prog W = .ok (.float .f64 q) W := fun W => run_float_arith W .sub 127 .f64 x y q h
      dsimp only
      obtain ⟨r, hr⟩ : ∃ r, ofM q = r := ⟨_, rfl⟩
      have RC := fof_c q
      rw [hr] at RC
      rw [hr]
      clear hr h
      obtain ⟨rk, rn⟩ := r
      have HRC := Lib.hid RC
      clear RC
      unfold GivesV
      dsimp only at HRC ⊢
      obtain ⟨w0, hw0⟩ : ∃ w0, w0 = w.alloc (.cells #[.int .i64 0, .int .i64 0] 41) := ⟨_, rfl⟩
      have K0 : Hid (Below w.heap.size w w0) := by rw [hw0]; exact below_one _ _
      have B0 : Hid (w0.heap[w.heap.size]? = some (.cells #[.int .i64 0, .int .i64 0] 41 (0, 0))) := by rw [hw0]; exact heap_last _ _
      have hz : w.heap.size < w0.heap.size := (Array.getElem?_eq_some_iff.1 B0.out).1
      have R0 : Hid (w0.rangeAt (w.heap.size) 0 [.int .i64 0, .int .i64 0]) := (HeadAt.of_row B0.out).range
      have HW := Lib.hid hw0
      clear hw0
      go_enter Tryd.func68, Tryd.ntmps68
      go_upto_region 1 with fail
      rw [← HW.out]
      go_wp2_with (first | fail)
      refine (HRC.out _).mono ?_
      rintro e w5 ⟨rfl, k5⟩
      have K5 : Hid (Below w.heap.size w w5) := K0.out.trans (k5.mono K0.out.size)
      have B05 : Hid (w5.heap[w.heap.size]? = some (.cells #[.int .i64 0, .int .i64 0] 41 (0, 0))) := (k5.block _ (Array.getElem?_eq_some_iff.1 B0.out).1).trans B0.out
      have R05 : Hid (w5.rangeAt (w.heap.size) 0 [.int .i64 0, .int .i64 0]) := (HeadAt.of_row B05.out).range
      clear k5
      go_wp2_with (first | (refine wpList_store_row rfl 41 _ _ rfl (w.heap.size) #[.int .i64 rk, .int .i64 rn] rfl rfl 41 _ B05.out infoValC rfl (all_oneCell_toArray (by simp [Value.oneCell'])) ?_))
      generalize hw9 : World.setRow _ _ _ = w9
      have QR : Hid (w9.heap[w.heap.size]? = some (.cells #[.int .i64 rk, .int .i64 rn] 41 (0, 0))) := by rw [← hw9]; exact setRow_heap _ _ _ _ _ _ B05.out
      have K9 : Hid (Below w.heap.size w w9) := by rw [← hw9]; exact Below.set_row K5.out (by omega) _
      clear hw9
      go_wp2_with fail
      have q0 := cell_of_row w9 (w.heap.size) 0 _ _ _ QR.out
      have q1 := cell_of_row w9 (w.heap.size) 1 _ _ _ QR.out
      refine bodyPost_ret (v := (.tuple #[.agg #[.int .i64 rk, .int .i64 rn], .int .i64 (-1)])) (by simp [results, Tryd.results68, go_sem, q0, q1]) rfl ⟨rfl, K9.out⟩
    | none =>
      dsimp only
      have H := Lib.hid h
      clear h
      unfold GivesV
      dsimp only
      obtain ⟨w0, hw0⟩ : ∃ w0, w0 = w.alloc (.cells #[.int .i64 0, .int .i64 0] 41) := ⟨_, rfl⟩
      have K0 : Hid (Below w.heap.size w w0) := by rw [hw0]; exact below_one _ _
      have B0 : Hid (w0.heap[w.heap.size]? = some (.cells #[.int .i64 0, .int .i64 0] 41 (0, 0))) := by rw [hw0]; exact heap_last _ _
      have hz : w.heap.size < w0.heap.size := (Array.getElem?_eq_some_iff.1 B0.out).1
      have R0 : Hid (w0.rangeAt (w.heap.size) 0 [.int .i64 0, .int .i64 0]) := (HeadAt.of_row B0.out).range
      have HW := Lib.hid hw0
      clear hw0
      go_enter Tryd.func68, Tryd.ntmps68
      go_upto_region 1 with fail
      rw [← HW.out]
      obtain ⟨b, ho, hb⟩ : ∃ b, (FloatKind.f64.format.order b b == some .eq) = false ∧ (binOp .sub 127 (.float .f64 x) (.float .f64 y)).run Tryd.prog w0 = .ok (.float .f64 b) w0.drew := by
        rcases run_float_any (P := Tryd.prog) .sub 127 x y (by simp) w0 with ⟨r, h1, _⟩ | ⟨_, h2⟩
        · rw [H.out] at h1; cases h1
        · exact h2
      have RC := fof_c b w0.drew
      rw [show ofM b = ⟨3, nanM⟩ from by unfold ofM; rw [ho]; rfl] at RC
      have HRC := Lib.hid RC
      clear RC ho
      dsimp only at HRC
      go_wp2_with fail
      refine HRC.out.mono ?_
      rintro e w5 ⟨rfl, k6⟩
      have k5 : Below w0.heap.size w0 w5 := ((Below.refl _ w0).drew).trans k6
      clear k6
      have K5 : Hid (Below w.heap.size w w5) := K0.out.trans (k5.mono K0.out.size)
      have B05 : Hid (w5.heap[w.heap.size]? = some (.cells #[.int .i64 0, .int .i64 0] 41 (0, 0))) := (k5.block _ (Array.getElem?_eq_some_iff.1 B0.out).1).trans B0.out
      have R05 : Hid (w5.rangeAt (w.heap.size) 0 [.int .i64 0, .int .i64 0]) := (HeadAt.of_row B05.out).range
      clear k5
      go_wp2_with (first | (refine wpList_store_row rfl 41 _ _ rfl (w.heap.size) #[.int .i64 3, .int .i64 nanM] rfl rfl 41 _ B05.out infoValC rfl (all_oneCell_toArray (by simp [Value.oneCell'])) ?_))
      generalize hw9 : World.setRow _ _ _ = w9
      have QR : Hid (w9.heap[w.heap.size]? = some (.cells #[.int .i64 3, .int .i64 nanM] 41 (0, 0))) := by rw [← hw9]; exact setRow_heap _ _ _ _ _ _ B05.out
      have K9 : Hid (Below w.heap.size w w9) := by rw [← hw9]; exact Below.set_row K5.out (by omega) _
      clear hw9
      go_wp2_with fail
      have q0 := cell_of_row w9 (w.heap.size) 0 _ _ _ QR.out
      have q1 := cell_of_row w9 (w.heap.size) 1 _ _ _ QR.out
      refine bodyPost_ret (v := (.tuple #[.agg #[.int .i64 3, .int .i64 nanM], .int .i64 (-1)])) (by simp [results, Tryd.results68, go_sem, q0, q1]) rfl ⟨rfl, K9.out⟩
  by_cases c5 : op = 5
  · subst c5
    clear c3
    clear c4
    show Calls _ _ _ _ (GivesV (ofB .mul x y, -1) w)
    unfold ofB
    cases h : floatBits .mul .f64 x y with
    | some q =>
      have hb : ∀ W, (binOp .mul 127 (.float .f64 x) (.float .f64 y)).run Tryd.prog W = .ok (.float .f64 q) W := fun W => run_float_arith W .mul 127 .f64 x y q h
      dsimp only
      obtain ⟨r, hr⟩ : ∃ r, ofM q = r := ⟨_, rfl⟩
      have RC := fof_c q
      rw [hr] at RC
      rw [hr]
      clear hr h
      obtain ⟨rk, rn⟩ := r
      have HRC := Lib.hid RC
      clear RC
      unfold GivesV
      dsimp only at HRC ⊢
      obtain ⟨w0, hw0⟩ : ∃ w0, w0 = w.alloc (.cells #[.int .i64 0, .int .i64 0] 41) := ⟨_, rfl⟩
      have K0 : Hid (Below w.heap.size w w0) := by rw [hw0]; exact below_one _ _
      have B0 : Hid (w0.heap[w.heap.size]? = some (.cells #[.int .i64 0, .int .i64 0] 41 (0, 0))) := by rw [hw0]; exact heap_last _ _
      have hz : w.heap.size < w0.heap.size := (Array.getElem?_eq_some_iff.1 B0.out).1
      have R0 : Hid (w0.rangeAt (w.heap.size) 0 [.int .i64 0, .int .i64 0]) := (HeadAt.of_row B0.out).range
      have HW := Lib.hid hw0
      clear hw0
      go_enter Tryd.func68, Tryd.ntmps68
      go_upto_region 1 with fail
      rw [← HW.out]
      go_wp2_with (first | fail)
      refine (HRC.out _).mono ?_
      rintro e w5 ⟨rfl, k5⟩
      have K5 : Hid (Below w.heap.size w w5) := K0.out.trans (k5.mono K0.out.size)
      have B05 : Hid (w5.heap[w.heap.size]? = some (.cells #[.int .i64 0, .int .i64 0] 41 (0, 0))) := (k5.block _ (Array.getElem?_eq_some_iff.1 B0.out).1).trans B0.out
      have R05 : Hid (w5.rangeAt (w.heap.size) 0 [.int .i64 0, .int .i64 0]) := (HeadAt.of_row B05.out).range
      clear k5
      go_wp2_with (first | (refine wpList_store_row rfl 41 _ _ rfl (w.heap.size) #[.int .i64 rk, .int .i64 rn] rfl rfl 41 _ B05.out infoValC rfl (all_oneCell_toArray (by simp [Value.oneCell'])) ?_))
      generalize hw9 : World.setRow _ _ _ = w9
      have QR : Hid (w9.heap[w.heap.size]? = some (.cells #[.int .i64 rk, .int .i64 rn] 41 (0, 0))) := by rw [← hw9]; exact setRow_heap _ _ _ _ _ _ B05.out
      have K9 : Hid (Below w.heap.size w w9) := by rw [← hw9]; exact Below.set_row K5.out (by omega) _
      clear hw9
      go_wp2_with fail
      have q0 := cell_of_row w9 (w.heap.size) 0 _ _ _ QR.out
      have q1 := cell_of_row w9 (w.heap.size) 1 _ _ _ QR.out
      refine bodyPost_ret (v := (.tuple #[.agg #[.int .i64 rk, .int .i64 rn], .int .i64 (-1)])) (by simp [results, Tryd.results68, go_sem, q0, q1]) rfl ⟨rfl, K9.out⟩
    | none =>
      dsimp only
      have H := Lib.hid h
      clear h
      unfold GivesV
      dsimp only
      obtain ⟨w0, hw0⟩ : ∃ w0, w0 = w.alloc (.cells #[.int .i64 0, .int .i64 0] 41) := ⟨_, rfl⟩
      have K0 : Hid (Below w.heap.size w w0) := by rw [hw0]; exact below_one _ _
      have B0 : Hid (w0.heap[w.heap.size]? = some (.cells #[.int .i64 0, .int .i64 0] 41 (0, 0))) := by rw [hw0]; exact heap_last _ _
      have hz : w.heap.size < w0.heap.size := (Array.getElem?_eq_some_iff.1 B0.out).1
      have R0 : Hid (w0.rangeAt (w.heap.size) 0 [.int .i64 0, .int .i64 0]) := (HeadAt.of_row B0.out).range
      have HW := Lib.hid hw0
      clear hw0
      go_enter Tryd.func68, Tryd.ntmps68
      go_upto_region 1 with fail
      rw [← HW.out]
      obtain ⟨b, ho, hb⟩ : ∃ b, (FloatKind.f64.format.order b b == some .eq) = false ∧ (binOp .mul 127 (.float .f64 x) (.float .f64 y)).run Tryd.prog w0 = .ok (.float .f64 b) w0.drew := by
        rcases run_float_any (P := Tryd.prog) .mul 127 x y (by simp) w0 with ⟨r, h1, _⟩ | ⟨_, h2⟩
        · rw [H.out] at h1; cases h1
        · exact h2
      have RC := fof_c b w0.drew
      rw [show ofM b = ⟨3, nanM⟩ from by unfold ofM; rw [ho]; rfl] at RC
      have HRC := Lib.hid RC
      clear RC ho
      dsimp only at HRC
      go_wp2_with fail
      refine HRC.out.mono ?_
      rintro e w5 ⟨rfl, k6⟩
      have k5 : Below w0.heap.size w0 w5 := ((Below.refl _ w0).drew).trans k6
      clear k6
      have K5 : Hid (Below w.heap.size w w5) := K0.out.trans (k5.mono K0.out.size)
      have B05 : Hid (w5.heap[w.heap.size]? = some (.cells #[.int .i64 0, .int .i64 0] 41 (0, 0))) := (k5.block _ (Array.getElem?_eq_some_iff.1 B0.out).1).trans B0.out
      have R05 : Hid (w5.rangeAt (w.heap.size) 0 [.int .i64 0, .int .i64 0]) := (HeadAt.of_row B05.out).range
      clear k5
      go_wp2_with (first | (refine wpList_store_row rfl 41 _ _ rfl (w.heap.size) #[.int .i64 3, .int .i64 nanM] rfl rfl 41 _ B05.out infoValC rfl (all_oneCell_toArray (by simp [Value.oneCell'])) ?_))
      generalize hw9 : World.setRow _ _ _ = w9
      have QR : Hid (w9.heap[w.heap.size]? = some (.cells #[.int .i64 3, .int .i64 nanM] 41 (0, 0))) := by rw [← hw9]; exact setRow_heap _ _ _ _ _ _ B05.out
      have K9 : Hid (Below w.heap.size w w9) := by rw [← hw9]; exact Below.set_row K5.out (by omega) _
      clear hw9
      go_wp2_with fail
      have q0 := cell_of_row w9 (w.heap.size) 0 _ _ _ QR.out
      have q1 := cell_of_row w9 (w.heap.size) 1 _ _ _ QR.out
      refine bodyPost_ret (v := (.tuple #[.agg #[.int .i64 3, .int .i64 nanM], .int .i64 (-1)])) (by simp [results, Tryd.results68, go_sem, q0, q1]) rfl ⟨rfl, K9.out⟩
  by_cases c6 : op = 6
  · subst c6
    clear c3
    clear c4
    clear c5
    show Calls _ _ _ _ (GivesV (ofB .quo x y, -1) w)
    unfold ofB
    cases h : floatBits .quo .f64 x y with
    | some q =>
      have hb : ∀ W, (binOp .quo 127 (.float .f64 x) (.float .f64 y)).run Tryd.prog W = .ok (.float .f64 q) W := fun W => run_float_arith W .quo 127 .f64 x y q h
      dsimp only
      obtain ⟨r, hr⟩ : ∃ r, ofM q = r := ⟨_, rfl⟩
      have RC := fof_c q
      rw [hr] at RC
      rw [hr]
      clear hr h
      obtain ⟨rk, rn⟩ := r
      have HRC := Lib.hid RC
      clear RC
      unfold GivesV
      dsimp only at HRC ⊢
      obtain ⟨w0, hw0⟩ : ∃ w0, w0 = w.alloc (.cells #[.int .i64 0, .int .i64 0] 41) := ⟨_, rfl⟩
      have K0 : Hid (Below w.heap.size w w0) := by rw [hw0]; exact below_one _ _
      have B0 : Hid (w0.heap[w.heap.size]? = some (.cells #[.int .i64 0, .int .i64 0] 41 (0, 0))) := by rw [hw0]; exact heap_last _ _
      have hz : w.heap.size < w0.heap.size := (Array.getElem?_eq_some_iff.1 B0.out).1
      have R0 : Hid (w0.rangeAt (w.heap.size) 0 [.int .i64 0, .int .i64 0]) := (HeadAt.of_row B0.out).range
      have HW := Lib.hid hw0
      clear hw0
      go_enter Tryd.func68, Tryd.ntmps68
      go_upto_region 1 with fail
      rw [← HW.out]
      go_wp2_with (first | fail)
      refine (HRC.out _).mono ?_
      rintro e w5 ⟨rfl, k5⟩
      have K5 : Hid (Below w.heap.size w w5) := K0.out.trans (k5.mono K0.out.size)
      have B05 : Hid (w5.heap[w.heap.size]? = some (.cells #[.int .i64 0, .int .i64 0] 41 (0, 0))) := (k5.block _ (Array.getElem?_eq_some_iff.1 B0.out).1).trans B0.out
      have R05 : Hid (w5.rangeAt (w.heap.size) 0 [.int .i64 0, .int .i64 0]) := (HeadAt.of_row B05.out).range
      clear k5
      go_wp2_with (first | (refine wpList_store_row rfl 41 _ _ rfl (w.heap.size) #[.int .i64 rk, .int .i64 rn] rfl rfl 41 _ B05.out infoValC rfl (all_oneCell_toArray (by simp [Value.oneCell'])) ?_))
      generalize hw9 : World.setRow _ _ _ = w9
      have QR : Hid (w9.heap[w.heap.size]? = some (.cells #[.int .i64 rk, .int .i64 rn] 41 (0, 0))) := by rw [← hw9]; exact setRow_heap _ _ _ _ _ _ B05.out
      have K9 : Hid (Below w.heap.size w w9) := by rw [← hw9]; exact Below.set_row K5.out (by omega) _
      clear hw9
      go_wp2_with fail
      have q0 := cell_of_row w9 (w.heap.size) 0 _ _ _ QR.out
      have q1 := cell_of_row w9 (w.heap.size) 1 _ _ _ QR.out
      refine bodyPost_ret (v := (.tuple #[.agg #[.int .i64 rk, .int .i64 rn], .int .i64 (-1)])) (by simp [results, Tryd.results68, go_sem, q0, q1]) rfl ⟨rfl, K9.out⟩
    | none =>
      dsimp only
      have H := Lib.hid h
      clear h
      unfold GivesV
      dsimp only
      obtain ⟨w0, hw0⟩ : ∃ w0, w0 = w.alloc (.cells #[.int .i64 0, .int .i64 0] 41) := ⟨_, rfl⟩
      have K0 : Hid (Below w.heap.size w w0) := by rw [hw0]; exact below_one _ _
      have B0 : Hid (w0.heap[w.heap.size]? = some (.cells #[.int .i64 0, .int .i64 0] 41 (0, 0))) := by rw [hw0]; exact heap_last _ _
      have hz : w.heap.size < w0.heap.size := (Array.getElem?_eq_some_iff.1 B0.out).1
      have R0 : Hid (w0.rangeAt (w.heap.size) 0 [.int .i64 0, .int .i64 0]) := (HeadAt.of_row B0.out).range
      have HW := Lib.hid hw0
      clear hw0
      go_enter Tryd.func68, Tryd.ntmps68
      go_upto_region 1 with fail
      rw [← HW.out]
      obtain ⟨b, ho, hb⟩ : ∃ b, (FloatKind.f64.format.order b b == some .eq) = false ∧ (binOp .quo 127 (.float .f64 x) (.float .f64 y)).run Tryd.prog w0 = .ok (.float .f64 b) w0.drew := by
        rcases run_float_any (P := Tryd.prog) .quo 127 x y (by simp) w0 with ⟨r, h1, _⟩ | ⟨_, h2⟩
        · rw [H.out] at h1; cases h1
        · exact h2
      have RC := fof_c b w0.drew
      rw [show ofM b = ⟨3, nanM⟩ from by unfold ofM; rw [ho]; rfl] at RC
      have HRC := Lib.hid RC
      clear RC ho
      dsimp only at HRC
      go_wp2_with fail
      refine HRC.out.mono ?_
      rintro e w5 ⟨rfl, k6⟩
      have k5 : Below w0.heap.size w0 w5 := ((Below.refl _ w0).drew).trans k6
      clear k6
      have K5 : Hid (Below w.heap.size w w5) := K0.out.trans (k5.mono K0.out.size)
      have B05 : Hid (w5.heap[w.heap.size]? = some (.cells #[.int .i64 0, .int .i64 0] 41 (0, 0))) := (k5.block _ (Array.getElem?_eq_some_iff.1 B0.out).1).trans B0.out
      have R05 : Hid (w5.rangeAt (w.heap.size) 0 [.int .i64 0, .int .i64 0]) := (HeadAt.of_row B05.out).range
      clear k5
      go_wp2_with (first | (refine wpList_store_row rfl 41 _ _ rfl (w.heap.size) #[.int .i64 3, .int .i64 nanM] rfl rfl 41 _ B05.out infoValC rfl (all_oneCell_toArray (by simp [Value.oneCell'])) ?_))
      generalize hw9 : World.setRow _ _ _ = w9
      have QR : Hid (w9.heap[w.heap.size]? = some (.cells #[.int .i64 3, .int .i64 nanM] 41 (0, 0))) := by rw [← hw9]; exact setRow_heap _ _ _ _ _ _ B05.out
      have K9 : Hid (Below w.heap.size w w9) := by rw [← hw9]; exact Below.set_row K5.out (by omega) _
      clear hw9
      go_wp2_with fail
      have q0 := cell_of_row w9 (w.heap.size) 0 _ _ _ QR.out
      have q1 := cell_of_row w9 (w.heap.size) 1 _ _ _ QR.out
      refine bodyPost_ret (v := (.tuple #[.agg #[.int .i64 3, .int .i64 nanM], .int .i64 (-1)])) (by simp [results, Tryd.results68, go_sem, q0, q1]) rfl ⟨rfl, K9.out⟩
  by_cases c8 : op = 8
  · subst c8
    clear c3 c4 c5 c6
    show Calls _ _ _ _ (GivesV (truthM (FloatKind.f64.format.order x y == some .eq), -1) w)
    obtain ⟨r, hr⟩ : ∃ r, truthM (FloatKind.f64.format.order x y == some .eq) = r := ⟨_, rfl⟩
    have RC := otruth_c (FloatKind.f64.format.order x y == some .eq)
    rw [hr] at RC
    rw [hr]
    clear hr
    obtain ⟨rk, rn⟩ := r
    have HRC := Lib.hid RC
    clear RC
    unfold GivesV
    dsimp only at HRC ⊢
    obtain ⟨w0, hw0⟩ : ∃ w0, w0 = w.alloc (.cells #[.int .i64 0, .int .i64 0] 41) := ⟨_, rfl⟩
    have K0 : Hid (Below w.heap.size w w0) := by rw [hw0]; exact below_one _ _
    have B0 : Hid (w0.heap[w.heap.size]? = some (.cells #[.int .i64 0, .int .i64 0] 41 (0, 0))) := by rw [hw0]; exact heap_last _ _
    have hz : w.heap.size < w0.heap.size := (Array.getElem?_eq_some_iff.1 B0.out).1
    have R0 : Hid (w0.rangeAt (w.heap.size) 0 [.int .i64 0, .int .i64 0]) := (HeadAt.of_row B0.out).range
    have HW := Lib.hid hw0
    clear hw0
    go_enter Tryd.func68, Tryd.ntmps68
    go_upto_region 1 with fail
    rw [← HW.out]
    go_wp2_with (first | fail)
    refine (HRC.out _).mono ?_
    rintro e w5 ⟨rfl, k5⟩
    have K5 : Hid (Below w.heap.size w w5) := K0.out.trans (k5.mono K0.out.size)
    have B05 : Hid (w5.heap[w.heap.size]? = some (.cells #[.int .i64 0, .int .i64 0] 41 (0, 0))) := (k5.block _ (Array.getElem?_eq_some_iff.1 B0.out).1).trans B0.out
    have R05 : Hid (w5.rangeAt (w.heap.size) 0 [.int .i64 0, .int .i64 0]) := (HeadAt.of_row B05.out).range
    clear k5
    go_wp2_with (first | (refine wpList_store_row rfl 41 _ _ rfl (w.heap.size) #[.int .i64 rk, .int .i64 rn] rfl rfl 41 _ B05.out infoValC rfl (all_oneCell_toArray (by simp [Value.oneCell'])) ?_))
    generalize hw9 : World.setRow _ _ _ = w9
    have QR : Hid (w9.heap[w.heap.size]? = some (.cells #[.int .i64 rk, .int .i64 rn] 41 (0, 0))) := by rw [← hw9]; exact setRow_heap _ _ _ _ _ _ B05.out
    have K9 : Hid (Below w.heap.size w w9) := by rw [← hw9]; exact Below.set_row K5.out (by omega) _
    clear hw9
    go_wp2_with fail
    have q0 := cell_of_row w9 (w.heap.size) 0 _ _ _ QR.out
    have q1 := cell_of_row w9 (w.heap.size) 1 _ _ _ QR.out
    refine bodyPost_ret (v := (.tuple #[.agg #[.int .i64 rk, .int .i64 rn], .int .i64 (-1)])) (by simp [results, Tryd.results68, go_sem, q0, q1]) rfl ⟨rfl, K9.out⟩
  rw [show floatsM op x y = orderedM op (ltF x y) (ltF x y || eqF x y) from by unfold floatsM; rw [if_neg c3, if_neg c4, if_neg c5, if_neg c6, if_neg c8]]
  have n3 : (op == 3) = false := beq_eq_false_iff_ne.2 c3
  clear c3
  have n4 : (op == 4) = false := beq_eq_false_iff_ne.2 c4
  clear c4
  have n5 : (op == 5) = false := beq_eq_false_iff_ne.2 c5
  clear c5
  have n6 : (op == 6) = false := beq_eq_false_iff_ne.2 c6
  clear c6
  have n8 : (op == 8) = false := beq_eq_false_iff_ne.2 c8
  clear c8
  obtain ⟨r, hr⟩ : ∃ r, orderedM op (ltF x y) (ltF x y || eqF x y) = r := ⟨_, rfl⟩
  have RC := ordered_f op x y
  rw [hr] at RC
  show Calls _ _ _ _ (GivesV (orderedM op (ltF x y) (ltF x y || eqF x y)) w)
  rw [hr]
  clear hr
  obtain ⟨⟨rk, rn⟩, th⟩ := r
  have HRC := Lib.hid RC
  clear RC
  unfold GivesV at HRC ⊢
  dsimp only at HRC ⊢
  obtain ⟨w0, hw0⟩ : ∃ w0, w0 = w.alloc (.cells #[.int .i64 0, .int .i64 0] 41) := ⟨_, rfl⟩
  have K0 : Hid (Below w.heap.size w w0) := by rw [hw0]; exact below_one _ _
  have B0 : Hid (w0.heap[w.heap.size]? = some (.cells #[.int .i64 0, .int .i64 0] 41 (0, 0))) := by rw [hw0]; exact heap_last _ _
  have hz : w.heap.size < w0.heap.size := (Array.getElem?_eq_some_iff.1 B0.out).1
  have R0 : Hid (w0.rangeAt (w.heap.size) 0 [.int .i64 0, .int .i64 0]) := (HeadAt.of_row B0.out).range
  have HW := Lib.hid hw0
  clear hw0
  go_enter Tryd.func68, Tryd.ntmps68
  go_upto_region 1 with fail
  rw [← HW.out]
  go_wp2_with (first | fail)
  refine (HRC.out _).mono ?_
  rintro e w5 ⟨rfl, k5⟩
  have K5 : Hid (Below w.heap.size w w5) := K0.out.trans (k5.mono K0.out.size)
  have B05 : Hid (w5.heap[w.heap.size]? = some (.cells #[.int .i64 0, .int .i64 0] 41 (0, 0))) := (k5.block _ (Array.getElem?_eq_some_iff.1 B0.out).1).trans B0.out
  have R05 : Hid (w5.rangeAt (w.heap.size) 0 [.int .i64 0, .int .i64 0]) := (HeadAt.of_row B05.out).range
  clear k5
  go_wp2_with (first | (refine wpList_store_row rfl 41 _ _ rfl (w.heap.size) #[.int .i64 rk, .int .i64 rn] rfl rfl 41 _ B05.out infoValC rfl (all_oneCell_toArray (by simp [Value.oneCell'])) ?_))
  generalize hw9 : World.setRow _ _ _ = w9
  have QR : Hid (w9.heap[w.heap.size]? = some (.cells #[.int .i64 rk, .int .i64 rn] 41 (0, 0))) := by rw [← hw9]; exact setRow_heap _ _ _ _ _ _ B05.out
  have K9 : Hid (Below w.heap.size w w9) := by rw [← hw9]; exact Below.set_row K5.out (by omega) _
  clear hw9
  go_wp2_with fail
  have q0 := cell_of_row w9 (w.heap.size) 0 _ _ _ QR.out
  have q1 := cell_of_row w9 (w.heap.size) 1 _ _ _ QR.out
  refine bodyPost_ret (v := (.tuple #[.agg #[.int .i64 rk, .int .i64 rn], .int .i64 th])) (by simp [results, Tryd.results68, go_sem, q0, q1]) rfl ⟨rfl, K9.out⟩
end Go.Proofs.YtmccomeihnaanaaDoor
