/- ops: Unary, Binary. -/
import Derived.Test.YtmccomeihnaanaaDoorFoldC
namespace Go.Proofs.YtmccomeihnaanaaDoor
open Go.RowKit Go.IntWalk

set_option maxHeartbeats 1000000 in
set_option maxRecDepth 100000 in
theorem unary_c (op : Int) (v : Val) (w : World) : Calls Tryd.prog 32 #[.int .i64 op, .agg #[.int .i64 v.kind, .int .i64 v.n]] w (GivesV (unaryM op v) w) := by
  obtain ⟨r, hr⟩ : ∃ r, takenM v = r := ⟨_, rfl⟩
  have TC := taken_c v
  unfold unaryM
  rw [hr] at TC
  rw [hr]
  clear hr
  obtain ⟨k, n⟩ := v
  obtain ⟨rk, rn⟩ := r
  have HTC := Lib.hid TC
  clear TC
  dsimp only at HTC ⊢
  by_cases c11 : op = 11
  · subst c11
    rw [if_pos rfl]
    have TR := tru_c ⟨rk, rn⟩
    obtain ⟨tb, htb⟩ : ∃ tb, isTrueM ⟨rk, rn⟩ = tb := ⟨_, rfl⟩
    rw [htb] at TR ⊢
    clear htb
    have OT := otruth_c (!tb)
    obtain ⟨r, hr⟩ : ∃ r, truthM (!tb) = r := ⟨_, rfl⟩
    rw [hr] at OT ⊢
    clear hr
    obtain ⟨qk, qn⟩ := r
    have HTR := Lib.hid TR
    have HOT := Lib.hid OT
    clear TR OT
    unfold GivesV
    dsimp only at HTR HOT ⊢
    obtain ⟨w0, hw0⟩ : ∃ w0, w0 = (w.alloc (.cells #[.int .i64 k, .int .i64 n] 41)).alloc (.cells #[.int .i64 0, .int .i64 0] 41) := ⟨_, rfl⟩
    have K0 : Hid (Below w.heap.size w w0) := by rw [hw0]; exact below_two' _ _ _
    have B0 : Hid (w0.heap[w.heap.size]? = some (.cells #[.int .i64 k, .int .i64 n] 41 (0, 0))) := by rw [hw0]; exact heap_old (heap_last _ _) _
    have B1 : Hid (w0.heap[w.heap.size + 1]? = some (.cells #[.int .i64 0, .int .i64 0] 41 (0, 0))) := by rw [hw0]; exact heap_two _ _ _
    have hz : w.heap.size + 1 < w0.heap.size := (Array.getElem?_eq_some_iff.1 B1.out).1
    have R0 : Hid (w0.rangeAt (w.heap.size) 0 [.int .i64 k, .int .i64 n]) := (HeadAt.of_row B0.out).range
    have R1 : Hid (w0.rangeAt (w.heap.size + 1) 0 [.int .i64 0, .int .i64 0]) := (HeadAt.of_row B1.out).range
    have HW := Lib.hid hw0
    clear hw0
    go_enter Tryd.func32, Tryd.ntmps32
    go_upto_region 1 with fail
    rw [← HW.out]
    go_wp2_with (first | (refine wpList_load_mid rfl 41 _ rfl (w.heap.size) 0 rfl [.int .i64 k, .int .i64 n] _ R0.out Tryd.underlying41 rfl infoValC ?_) | fail)
    refine (HTC.out _).mono ?_
    rintro e w5 ⟨rfl, k5⟩
    have K5 : Hid (Below w.heap.size w w5) := K0.out.trans (k5.mono K0.out.size)
    have B05 : Hid (w5.heap[w.heap.size]? = some (.cells #[.int .i64 k, .int .i64 n] 41 (0, 0))) := (k5.block _ (Array.getElem?_eq_some_iff.1 B0.out).1).trans B0.out
    have R05 : Hid (w5.rangeAt (w.heap.size) 0 [.int .i64 k, .int .i64 n]) := (HeadAt.of_row B05.out).range
    have B15 : Hid (w5.heap[w.heap.size + 1]? = some (.cells #[.int .i64 0, .int .i64 0] 41 (0, 0))) := (k5.block _ (Array.getElem?_eq_some_iff.1 B1.out).1).trans B1.out
    have R15 : Hid (w5.rangeAt (w.heap.size + 1) 0 [.int .i64 0, .int .i64 0]) := (HeadAt.of_row B15.out).range
    clear k5
    go_upto_region 2 with (first | (refine wpList_store_row rfl 41 _ _ rfl (w.heap.size) #[.int .i64 rk, .int .i64 rn] rfl rfl 41 _ B05.out infoValC rfl (all_oneCell_toArray (by simp [Value.oneCell'])) ?_) | fail)
    generalize h6 : World.setRow _ _ _ = w6
    have K6 : Hid (Below w.heap.size w w6) := by rw [← h6]; exact Below.set_row K5.out (by omega) _
    have B06 : Hid (w6.heap[w.heap.size]? = some (.cells #[.int .i64 rk, .int .i64 rn] 41 (0, 0))) := by rw [← h6]; exact setRow_heap _ _ _ _ _ _ B05.out
    have R06 : Hid (w6.rangeAt (w.heap.size) 0 [.int .i64 rk, .int .i64 rn]) := (HeadAt.of_row B06.out).range
    have B16 : Hid (w6.heap[w.heap.size + 1]? = some (.cells #[.int .i64 0, .int .i64 0] 41 (0, 0))) := by rw [← h6]; exact (setRow_other _ _ _ _ (by omega)).trans B15.out
    have R16 : Hid (w6.rangeAt (w.heap.size + 1) 0 [.int .i64 0, .int .i64 0]) := (HeadAt.of_row B16.out).range
    clear h6
    (try dsimp only [Act.put])
    have x0 : w6.cell? ⟨w.heap.size, 0, none⟩ = some (.int .i64 rk) := cell_of_row w6 (w.heap.size) 0 _ _ _ B06.out
    have x1 : w6.cell? ⟨w.heap.size, 1, none⟩ = some (.int .i64 rn) := cell_of_row w6 (w.heap.size) 1 _ _ _ B06.out
    go_wp2_with (first | (refine wpList_load_mid rfl 41 _ rfl (w.heap.size) 0 rfl [.int .i64 rk, .int .i64 rn] _ R06.out Tryd.underlying41 rfl infoValC ?_) | fail)
    refine (HTR.out _).mono ?_
    rintro e w7 ⟨rfl, k7⟩
    have K7 : Hid (Below w.heap.size w w7) := K6.out.trans (k7.mono K6.out.size)
    have B07 : Hid (w7.heap[w.heap.size]? = some (.cells #[.int .i64 rk, .int .i64 rn] 41 (0, 0))) := (k7.block _ (Array.getElem?_eq_some_iff.1 B06.out).1).trans B06.out
    have R07 : Hid (w7.rangeAt (w.heap.size) 0 [.int .i64 rk, .int .i64 rn]) := (HeadAt.of_row B07.out).range
    have B17 : Hid (w7.heap[w.heap.size + 1]? = some (.cells #[.int .i64 0, .int .i64 0] 41 (0, 0))) := (k7.block _ (Array.getElem?_eq_some_iff.1 B16.out).1).trans B16.out
    have R17 : Hid (w7.rangeAt (w.heap.size + 1) 0 [.int .i64 0, .int .i64 0]) := (HeadAt.of_row B17.out).range
    clear k7
    go_wp2_with (first | fail)
    refine (HOT.out _).mono ?_
    rintro e w8 ⟨rfl, k8⟩
    have K8 : Hid (Below w.heap.size w w8) := K7.out.trans (k8.mono K7.out.size)
    have B08 : Hid (w8.heap[w.heap.size]? = some (.cells #[.int .i64 rk, .int .i64 rn] 41 (0, 0))) := (k8.block _ (Array.getElem?_eq_some_iff.1 B07.out).1).trans B07.out
    have R08 : Hid (w8.rangeAt (w.heap.size) 0 [.int .i64 rk, .int .i64 rn]) := (HeadAt.of_row B08.out).range
    have B18 : Hid (w8.heap[w.heap.size + 1]? = some (.cells #[.int .i64 0, .int .i64 0] 41 (0, 0))) := (k8.block _ (Array.getElem?_eq_some_iff.1 B17.out).1).trans B17.out
    have R18 : Hid (w8.rangeAt (w.heap.size + 1) 0 [.int .i64 0, .int .i64 0]) := (HeadAt.of_row B18.out).range
    clear k8
    go_wp2_with (first | (refine wpList_store_row rfl 41 _ _ rfl (w.heap.size + 1) #[.int .i64 qk, .int .i64 qn] rfl rfl 41 _ B18.out infoValC rfl (all_oneCell_toArray (by simp [Value.oneCell'])) ?_))
    generalize hw9 : World.setRow _ _ _ = w9
    have QR : Hid (w9.heap[w.heap.size + 1]? = some (.cells #[.int .i64 qk, .int .i64 qn] 41 (0, 0))) := by rw [← hw9]; exact setRow_heap _ _ _ _ _ _ B18.out
    have K9 : Hid (Below w.heap.size w w9) := by rw [← hw9]; exact Below.set_row K8.out (by omega) _
    clear hw9
    go_wp2_with fail
    have q0 := cell_of_row w9 (w.heap.size + 1) 0 _ _ _ QR.out
    have q1 := cell_of_row w9 (w.heap.size + 1) 1 _ _ _ QR.out
    refine bodyPost_ret (v := (.tuple #[.agg #[.int .i64 qk, .int .i64 qn], .int .i64 (-1)])) (by simp [results, Tryd.results32, go_sem, q0, q1]) rfl ⟨rfl, K9.out⟩
  rw [if_neg c11]
  have n11 : (op == 11) = false := beq_eq_false_iff_ne.2 c11
  clear c11
  by_cases c12 : op = 12
  · subst c12
    by_cases c2 : rk = 2
    · subst c2
      rw [if_pos ⟨rfl, rfl⟩]
      have RC := owhole_c (wrap64 (-rn))
      obtain ⟨r, hr⟩ : ∃ r, wholeM (wrap64 (-rn)) = r := ⟨_, rfl⟩
      rw [hr] at RC ⊢
      clear hr
      obtain ⟨⟨qk, qn⟩, th⟩ := r
      have HRC := Lib.hid RC
      clear RC n11
      unfold GivesV at HRC ⊢
      dsimp only at HRC ⊢
      obtain ⟨w0, hw0⟩ : ∃ w0, w0 = (w.alloc (.cells #[.int .i64 k, .int .i64 n] 41)).alloc (.cells #[.int .i64 0, .int .i64 0] 41) := ⟨_, rfl⟩
      have K0 : Hid (Below w.heap.size w w0) := by rw [hw0]; exact below_two' _ _ _
      have B0 : Hid (w0.heap[w.heap.size]? = some (.cells #[.int .i64 k, .int .i64 n] 41 (0, 0))) := by rw [hw0]; exact heap_old (heap_last _ _) _
      have B1 : Hid (w0.heap[w.heap.size + 1]? = some (.cells #[.int .i64 0, .int .i64 0] 41 (0, 0))) := by rw [hw0]; exact heap_two _ _ _
      have hz : w.heap.size + 1 < w0.heap.size := (Array.getElem?_eq_some_iff.1 B1.out).1
      have R0 : Hid (w0.rangeAt (w.heap.size) 0 [.int .i64 k, .int .i64 n]) := (HeadAt.of_row B0.out).range
      have R1 : Hid (w0.rangeAt (w.heap.size + 1) 0 [.int .i64 0, .int .i64 0]) := (HeadAt.of_row B1.out).range
      have HW := Lib.hid hw0
      clear hw0
      go_enter Tryd.func32, Tryd.ntmps32
      go_upto_region 1 with fail
      rw [← HW.out]
      go_wp2_with (first | (refine wpList_load_mid rfl 41 _ rfl (w.heap.size) 0 rfl [.int .i64 k, .int .i64 n] _ R0.out Tryd.underlying41 rfl infoValC ?_) | fail)
      refine (HTC.out _).mono ?_
      rintro e w5 ⟨rfl, k5⟩
      have K5 : Hid (Below w.heap.size w w5) := K0.out.trans (k5.mono K0.out.size)
      have B05 : Hid (w5.heap[w.heap.size]? = some (.cells #[.int .i64 k, .int .i64 n] 41 (0, 0))) := (k5.block _ (Array.getElem?_eq_some_iff.1 B0.out).1).trans B0.out
      have R05 : Hid (w5.rangeAt (w.heap.size) 0 [.int .i64 k, .int .i64 n]) := (HeadAt.of_row B05.out).range
      have B15 : Hid (w5.heap[w.heap.size + 1]? = some (.cells #[.int .i64 0, .int .i64 0] 41 (0, 0))) := (k5.block _ (Array.getElem?_eq_some_iff.1 B1.out).1).trans B1.out
      have R15 : Hid (w5.rangeAt (w.heap.size + 1) 0 [.int .i64 0, .int .i64 0]) := (HeadAt.of_row B15.out).range
      clear k5
      go_upto_region 2 with (first | (refine wpList_store_row rfl 41 _ _ rfl (w.heap.size) #[.int .i64 2, .int .i64 rn] rfl rfl 41 _ B05.out infoValC rfl (all_oneCell_toArray (by simp [Value.oneCell'])) ?_) | fail)
      generalize h6 : World.setRow _ _ _ = w6
      have K6 : Hid (Below w.heap.size w w6) := by rw [← h6]; exact Below.set_row K5.out (by omega) _
      have B06 : Hid (w6.heap[w.heap.size]? = some (.cells #[.int .i64 2, .int .i64 rn] 41 (0, 0))) := by rw [← h6]; exact setRow_heap _ _ _ _ _ _ B05.out
      have R06 : Hid (w6.rangeAt (w.heap.size) 0 [.int .i64 2, .int .i64 rn]) := (HeadAt.of_row B06.out).range
      have B16 : Hid (w6.heap[w.heap.size + 1]? = some (.cells #[.int .i64 0, .int .i64 0] 41 (0, 0))) := by rw [← h6]; exact (setRow_other _ _ _ _ (by omega)).trans B15.out
      have R16 : Hid (w6.rangeAt (w.heap.size + 1) 0 [.int .i64 0, .int .i64 0]) := (HeadAt.of_row B16.out).range
      clear h6
      (try dsimp only [Act.put])
      have x0 : w6.cell? ⟨w.heap.size, 0, none⟩ = some (.int .i64 2) := cell_of_row w6 (w.heap.size) 0 _ _ _ B06.out
      have x1 : w6.cell? ⟨w.heap.size, 1, none⟩ = some (.int .i64 rn) := cell_of_row w6 (w.heap.size) 1 _ _ _ B06.out
      go_wp2_with (first | fail)
      refine (HRC.out _).mono ?_
      rintro e w7 ⟨rfl, k7⟩
      have K7 : Hid (Below w.heap.size w w7) := K6.out.trans (k7.mono K6.out.size)
      have B07 : Hid (w7.heap[w.heap.size]? = some (.cells #[.int .i64 2, .int .i64 rn] 41 (0, 0))) := (k7.block _ (Array.getElem?_eq_some_iff.1 B06.out).1).trans B06.out
      have R07 : Hid (w7.rangeAt (w.heap.size) 0 [.int .i64 2, .int .i64 rn]) := (HeadAt.of_row B07.out).range
      have B17 : Hid (w7.heap[w.heap.size + 1]? = some (.cells #[.int .i64 0, .int .i64 0] 41 (0, 0))) := (k7.block _ (Array.getElem?_eq_some_iff.1 B16.out).1).trans B16.out
      have R17 : Hid (w7.rangeAt (w.heap.size + 1) 0 [.int .i64 0, .int .i64 0]) := (HeadAt.of_row B17.out).range
      clear k7
      go_wp2_with (first | (refine wpList_store_row rfl 41 _ _ rfl (w.heap.size + 1) #[.int .i64 qk, .int .i64 qn] rfl rfl 41 _ B17.out infoValC rfl (all_oneCell_toArray (by simp [Value.oneCell'])) ?_))
      generalize hw9 : World.setRow _ _ _ = w9
      have QR : Hid (w9.heap[w.heap.size + 1]? = some (.cells #[.int .i64 qk, .int .i64 qn] 41 (0, 0))) := by rw [← hw9]; exact setRow_heap _ _ _ _ _ _ B17.out
      have K9 : Hid (Below w.heap.size w w9) := by rw [← hw9]; exact Below.set_row K7.out (by omega) _
      clear hw9
      go_wp2_with fail
      have q0 := cell_of_row w9 (w.heap.size + 1) 0 _ _ _ QR.out
      have q1 := cell_of_row w9 (w.heap.size + 1) 1 _ _ _ QR.out
      refine bodyPost_ret (v := (.tuple #[.agg #[.int .i64 qk, .int .i64 qn], .int .i64 th])) (by simp [results, Tryd.results32, go_sem, q0, q1]) rfl ⟨rfl, K9.out⟩
    rw [if_neg (fun h => c2 h.2)]
    have n2 : (rk == 2) = false := beq_eq_false_iff_ne.2 c2
    clear c2
    by_cases c3 : rk = 3
    · subst c3
      rw [if_pos ⟨rfl, rfl⟩]
      have FC := float_c 3 rn
      obtain ⟨bb, hbb⟩ : ∃ b, bitsM rn = b := ⟨_, rfl⟩
      rw [hbb] at FC ⊢
      clear hbb
      have RC := fof_c (Op.negFloat .f64 bb)
      obtain ⟨r, hr⟩ : ∃ r, ofM (Op.negFloat .f64 bb) = r := ⟨_, rfl⟩
      rw [hr] at RC ⊢
      clear hr n2 n11
      obtain ⟨qk, qn⟩ := r
      have HRC := Lib.hid RC
      have HFC := Lib.hid FC
      clear RC FC
      unfold GivesV
      dsimp only at HRC ⊢
      obtain ⟨w0, hw0⟩ : ∃ w0, w0 = (w.alloc (.cells #[.int .i64 k, .int .i64 n] 41)).alloc (.cells #[.int .i64 0, .int .i64 0] 41) := ⟨_, rfl⟩
      have K0 : Hid (Below w.heap.size w w0) := by rw [hw0]; exact below_two' _ _ _
      have B0 : Hid (w0.heap[w.heap.size]? = some (.cells #[.int .i64 k, .int .i64 n] 41 (0, 0))) := by rw [hw0]; exact heap_old (heap_last _ _) _
      have B1 : Hid (w0.heap[w.heap.size + 1]? = some (.cells #[.int .i64 0, .int .i64 0] 41 (0, 0))) := by rw [hw0]; exact heap_two _ _ _
      have hz : w.heap.size + 1 < w0.heap.size := (Array.getElem?_eq_some_iff.1 B1.out).1
      have R0 : Hid (w0.rangeAt (w.heap.size) 0 [.int .i64 k, .int .i64 n]) := (HeadAt.of_row B0.out).range
      have R1 : Hid (w0.rangeAt (w.heap.size + 1) 0 [.int .i64 0, .int .i64 0]) := (HeadAt.of_row B1.out).range
      have HW := Lib.hid hw0
      clear hw0
      go_enter Tryd.func32, Tryd.ntmps32
      go_upto_region 1 with fail
      rw [← HW.out]
      go_wp2_with (first | (refine wpList_load_mid rfl 41 _ rfl (w.heap.size) 0 rfl [.int .i64 k, .int .i64 n] _ R0.out Tryd.underlying41 rfl infoValC ?_) | fail)
      refine (HTC.out _).mono ?_
      rintro e w5 ⟨rfl, k5⟩
      have K5 : Hid (Below w.heap.size w w5) := K0.out.trans (k5.mono K0.out.size)
      have B05 : Hid (w5.heap[w.heap.size]? = some (.cells #[.int .i64 k, .int .i64 n] 41 (0, 0))) := (k5.block _ (Array.getElem?_eq_some_iff.1 B0.out).1).trans B0.out
      have R05 : Hid (w5.rangeAt (w.heap.size) 0 [.int .i64 k, .int .i64 n]) := (HeadAt.of_row B05.out).range
      have B15 : Hid (w5.heap[w.heap.size + 1]? = some (.cells #[.int .i64 0, .int .i64 0] 41 (0, 0))) := (k5.block _ (Array.getElem?_eq_some_iff.1 B1.out).1).trans B1.out
      have R15 : Hid (w5.rangeAt (w.heap.size + 1) 0 [.int .i64 0, .int .i64 0]) := (HeadAt.of_row B15.out).range
      clear k5
      go_upto_region 2 with (first | (refine wpList_store_row rfl 41 _ _ rfl (w.heap.size) #[.int .i64 3, .int .i64 rn] rfl rfl 41 _ B05.out infoValC rfl (all_oneCell_toArray (by simp [Value.oneCell'])) ?_) | fail)
      generalize h6 : World.setRow _ _ _ = w6
      have K6 : Hid (Below w.heap.size w w6) := by rw [← h6]; exact Below.set_row K5.out (by omega) _
      have B06 : Hid (w6.heap[w.heap.size]? = some (.cells #[.int .i64 3, .int .i64 rn] 41 (0, 0))) := by rw [← h6]; exact setRow_heap _ _ _ _ _ _ B05.out
      have R06 : Hid (w6.rangeAt (w.heap.size) 0 [.int .i64 3, .int .i64 rn]) := (HeadAt.of_row B06.out).range
      have B16 : Hid (w6.heap[w.heap.size + 1]? = some (.cells #[.int .i64 0, .int .i64 0] 41 (0, 0))) := by rw [← h6]; exact (setRow_other _ _ _ _ (by omega)).trans B15.out
      have R16 : Hid (w6.rangeAt (w.heap.size + 1) 0 [.int .i64 0, .int .i64 0]) := (HeadAt.of_row B16.out).range
      clear h6
      (try dsimp only [Act.put])
      have x0 : w6.cell? ⟨w.heap.size, 0, none⟩ = some (.int .i64 3) := cell_of_row w6 (w.heap.size) 0 _ _ _ B06.out
      have x1 : w6.cell? ⟨w.heap.size, 1, none⟩ = some (.int .i64 rn) := cell_of_row w6 (w.heap.size) 1 _ _ _ B06.out
      have hng : ∀ W, (Op.unary .neg (.float .f64 bb)).run Tryd.prog W = .ok (.float .f64 (Op.negFloat .f64 bb)) W := fun W => by first | rfl | simp [Op.unary]
      go_wp2_with (first | (refine wpList_load_mid rfl 41 _ rfl (w.heap.size) 0 rfl [.int .i64 3, .int .i64 rn] _ R06.out Tryd.underlying41 rfl infoValC ?_) | fail)
      refine (HFC.out _).mono ?_
      rintro e w7 ⟨rfl, k7⟩
      have K7 : Hid (Below w.heap.size w w7) := K6.out.trans (k7.mono K6.out.size)
      have B07 : Hid (w7.heap[w.heap.size]? = some (.cells #[.int .i64 3, .int .i64 rn] 41 (0, 0))) := (k7.block _ (Array.getElem?_eq_some_iff.1 B06.out).1).trans B06.out
      have R07 : Hid (w7.rangeAt (w.heap.size) 0 [.int .i64 3, .int .i64 rn]) := (HeadAt.of_row B07.out).range
      have B17 : Hid (w7.heap[w.heap.size + 1]? = some (.cells #[.int .i64 0, .int .i64 0] 41 (0, 0))) := (k7.block _ (Array.getElem?_eq_some_iff.1 B16.out).1).trans B16.out
      have R17 : Hid (w7.rangeAt (w.heap.size + 1) 0 [.int .i64 0, .int .i64 0]) := (HeadAt.of_row B17.out).range
      clear k7
      go_wp2_with (first | fail)
      refine (HRC.out _).mono ?_
      rintro e w8 ⟨rfl, k8⟩
      have K8 : Hid (Below w.heap.size w w8) := K7.out.trans (k8.mono K7.out.size)
      have B08 : Hid (w8.heap[w.heap.size]? = some (.cells #[.int .i64 3, .int .i64 rn] 41 (0, 0))) := (k8.block _ (Array.getElem?_eq_some_iff.1 B07.out).1).trans B07.out
      have R08 : Hid (w8.rangeAt (w.heap.size) 0 [.int .i64 3, .int .i64 rn]) := (HeadAt.of_row B08.out).range
      have B18 : Hid (w8.heap[w.heap.size + 1]? = some (.cells #[.int .i64 0, .int .i64 0] 41 (0, 0))) := (k8.block _ (Array.getElem?_eq_some_iff.1 B17.out).1).trans B17.out
      have R18 : Hid (w8.rangeAt (w.heap.size + 1) 0 [.int .i64 0, .int .i64 0]) := (HeadAt.of_row B18.out).range
      clear k8
      go_wp2_with (first | (refine wpList_store_row rfl 41 _ _ rfl (w.heap.size + 1) #[.int .i64 qk, .int .i64 qn] rfl rfl 41 _ B18.out infoValC rfl (all_oneCell_toArray (by simp [Value.oneCell'])) ?_))
      generalize hw9 : World.setRow _ _ _ = w9
      have QR : Hid (w9.heap[w.heap.size + 1]? = some (.cells #[.int .i64 qk, .int .i64 qn] 41 (0, 0))) := by rw [← hw9]; exact setRow_heap _ _ _ _ _ _ B18.out
      have K9 : Hid (Below w.heap.size w w9) := by rw [← hw9]; exact Below.set_row K8.out (by omega) _
      clear hw9
      go_wp2_with fail
      have q0 := cell_of_row w9 (w.heap.size + 1) 0 _ _ _ QR.out
      have q1 := cell_of_row w9 (w.heap.size + 1) 1 _ _ _ QR.out
      refine bodyPost_ret (v := (.tuple #[.agg #[.int .i64 qk, .int .i64 qn], .int .i64 (-1)])) (by simp [results, Tryd.results32, go_sem, q0, q1]) rfl ⟨rfl, K9.out⟩
    rw [if_neg (fun h => c3 h.2)]
    have n3 : (rk == 3) = false := beq_eq_false_iff_ne.2 c3
    clear c3 n11
    have HRC := Lib.hid (ofail_c 0)
    unfold GivesV at HRC ⊢
    dsimp only at HRC ⊢
    obtain ⟨w0, hw0⟩ : ∃ w0, w0 = (w.alloc (.cells #[.int .i64 k, .int .i64 n] 41)).alloc (.cells #[.int .i64 0, .int .i64 0] 41) := ⟨_, rfl⟩
    have K0 : Hid (Below w.heap.size w w0) := by rw [hw0]; exact below_two' _ _ _
    have B0 : Hid (w0.heap[w.heap.size]? = some (.cells #[.int .i64 k, .int .i64 n] 41 (0, 0))) := by rw [hw0]; exact heap_old (heap_last _ _) _
    have B1 : Hid (w0.heap[w.heap.size + 1]? = some (.cells #[.int .i64 0, .int .i64 0] 41 (0, 0))) := by rw [hw0]; exact heap_two _ _ _
    have hz : w.heap.size + 1 < w0.heap.size := (Array.getElem?_eq_some_iff.1 B1.out).1
    have R0 : Hid (w0.rangeAt (w.heap.size) 0 [.int .i64 k, .int .i64 n]) := (HeadAt.of_row B0.out).range
    have R1 : Hid (w0.rangeAt (w.heap.size + 1) 0 [.int .i64 0, .int .i64 0]) := (HeadAt.of_row B1.out).range
    have HW := Lib.hid hw0
    clear hw0
    go_enter Tryd.func32, Tryd.ntmps32
    go_upto_region 1 with fail
    rw [← HW.out]
    go_wp2_with (first | (refine wpList_load_mid rfl 41 _ rfl (w.heap.size) 0 rfl [.int .i64 k, .int .i64 n] _ R0.out Tryd.underlying41 rfl infoValC ?_) | fail)
    refine (HTC.out _).mono ?_
    rintro e w5 ⟨rfl, k5⟩
    have K5 : Hid (Below w.heap.size w w5) := K0.out.trans (k5.mono K0.out.size)
    have B05 : Hid (w5.heap[w.heap.size]? = some (.cells #[.int .i64 k, .int .i64 n] 41 (0, 0))) := (k5.block _ (Array.getElem?_eq_some_iff.1 B0.out).1).trans B0.out
    have R05 : Hid (w5.rangeAt (w.heap.size) 0 [.int .i64 k, .int .i64 n]) := (HeadAt.of_row B05.out).range
    have B15 : Hid (w5.heap[w.heap.size + 1]? = some (.cells #[.int .i64 0, .int .i64 0] 41 (0, 0))) := (k5.block _ (Array.getElem?_eq_some_iff.1 B1.out).1).trans B1.out
    have R15 : Hid (w5.rangeAt (w.heap.size + 1) 0 [.int .i64 0, .int .i64 0]) := (HeadAt.of_row B15.out).range
    clear k5
    go_upto_region 2 with (first | (refine wpList_store_row rfl 41 _ _ rfl (w.heap.size) #[.int .i64 rk, .int .i64 rn] rfl rfl 41 _ B05.out infoValC rfl (all_oneCell_toArray (by simp [Value.oneCell'])) ?_) | fail)
    generalize h6 : World.setRow _ _ _ = w6
    have K6 : Hid (Below w.heap.size w w6) := by rw [← h6]; exact Below.set_row K5.out (by omega) _
    have B06 : Hid (w6.heap[w.heap.size]? = some (.cells #[.int .i64 rk, .int .i64 rn] 41 (0, 0))) := by rw [← h6]; exact setRow_heap _ _ _ _ _ _ B05.out
    have R06 : Hid (w6.rangeAt (w.heap.size) 0 [.int .i64 rk, .int .i64 rn]) := (HeadAt.of_row B06.out).range
    have B16 : Hid (w6.heap[w.heap.size + 1]? = some (.cells #[.int .i64 0, .int .i64 0] 41 (0, 0))) := by rw [← h6]; exact (setRow_other _ _ _ _ (by omega)).trans B15.out
    have R16 : Hid (w6.rangeAt (w.heap.size + 1) 0 [.int .i64 0, .int .i64 0]) := (HeadAt.of_row B16.out).range
    clear h6
    (try dsimp only [Act.put])
    have x0 : w6.cell? ⟨w.heap.size, 0, none⟩ = some (.int .i64 rk) := cell_of_row w6 (w.heap.size) 0 _ _ _ B06.out
    have x1 : w6.cell? ⟨w.heap.size, 1, none⟩ = some (.int .i64 rn) := cell_of_row w6 (w.heap.size) 1 _ _ _ B06.out
    go_wp2_with (first | fail)
    refine (HRC.out _).mono ?_
    rintro e w7 ⟨rfl, k7⟩
    have K7 : Hid (Below w.heap.size w w7) := K6.out.trans (k7.mono K6.out.size)
    have B07 : Hid (w7.heap[w.heap.size]? = some (.cells #[.int .i64 rk, .int .i64 rn] 41 (0, 0))) := (k7.block _ (Array.getElem?_eq_some_iff.1 B06.out).1).trans B06.out
    have R07 : Hid (w7.rangeAt (w.heap.size) 0 [.int .i64 rk, .int .i64 rn]) := (HeadAt.of_row B07.out).range
    have B17 : Hid (w7.heap[w.heap.size + 1]? = some (.cells #[.int .i64 0, .int .i64 0] 41 (0, 0))) := (k7.block _ (Array.getElem?_eq_some_iff.1 B16.out).1).trans B16.out
    have R17 : Hid (w7.rangeAt (w.heap.size + 1) 0 [.int .i64 0, .int .i64 0]) := (HeadAt.of_row B17.out).range
    clear k7
    go_wp2_with (first | (refine wpList_store_row rfl 41 _ _ rfl (w.heap.size + 1) #[.int .i64 0, .int .i64 0] rfl rfl 41 _ B17.out infoValC rfl (all_oneCell_toArray (by simp [Value.oneCell'])) ?_))
    generalize hw9 : World.setRow _ _ _ = w9
    have QR : Hid (w9.heap[w.heap.size + 1]? = some (.cells #[.int .i64 0, .int .i64 0] 41 (0, 0))) := by rw [← hw9]; exact setRow_heap _ _ _ _ _ _ B17.out
    have K9 : Hid (Below w.heap.size w w9) := by rw [← hw9]; exact Below.set_row K7.out (by omega) _
    clear hw9
    go_wp2_with fail
    have q0 := cell_of_row w9 (w.heap.size + 1) 0 _ _ _ QR.out
    have q1 := cell_of_row w9 (w.heap.size + 1) 1 _ _ _ QR.out
    refine bodyPost_ret (v := (.tuple #[.agg #[.int .i64 0, .int .i64 0], .int .i64 0])) (by simp [results, Tryd.results32, go_sem, q0, q1]) rfl ⟨rfl, K9.out⟩
  rw [if_neg (fun h => c12 h.1), if_neg (fun h => c12 h.1)]
  have n12 : (op == 12) = false := beq_eq_false_iff_ne.2 c12
  clear c12
  have HRC := Lib.hid (ofail_c 0)
  unfold GivesV at HRC ⊢
  dsimp only at HRC ⊢
  obtain ⟨w0, hw0⟩ : ∃ w0, w0 = (w.alloc (.cells #[.int .i64 k, .int .i64 n] 41)).alloc (.cells #[.int .i64 0, .int .i64 0] 41) := ⟨_, rfl⟩
  have K0 : Hid (Below w.heap.size w w0) := by rw [hw0]; exact below_two' _ _ _
  have B0 : Hid (w0.heap[w.heap.size]? = some (.cells #[.int .i64 k, .int .i64 n] 41 (0, 0))) := by rw [hw0]; exact heap_old (heap_last _ _) _
  have B1 : Hid (w0.heap[w.heap.size + 1]? = some (.cells #[.int .i64 0, .int .i64 0] 41 (0, 0))) := by rw [hw0]; exact heap_two _ _ _
  have hz : w.heap.size + 1 < w0.heap.size := (Array.getElem?_eq_some_iff.1 B1.out).1
  have R0 : Hid (w0.rangeAt (w.heap.size) 0 [.int .i64 k, .int .i64 n]) := (HeadAt.of_row B0.out).range
  have R1 : Hid (w0.rangeAt (w.heap.size + 1) 0 [.int .i64 0, .int .i64 0]) := (HeadAt.of_row B1.out).range
  have HW := Lib.hid hw0
  clear hw0
  go_enter Tryd.func32, Tryd.ntmps32
  go_upto_region 1 with fail
  rw [← HW.out]
  go_wp2_with (first | (refine wpList_load_mid rfl 41 _ rfl (w.heap.size) 0 rfl [.int .i64 k, .int .i64 n] _ R0.out Tryd.underlying41 rfl infoValC ?_) | fail)
  refine (HTC.out _).mono ?_
  rintro e w5 ⟨rfl, k5⟩
  have K5 : Hid (Below w.heap.size w w5) := K0.out.trans (k5.mono K0.out.size)
  have B05 : Hid (w5.heap[w.heap.size]? = some (.cells #[.int .i64 k, .int .i64 n] 41 (0, 0))) := (k5.block _ (Array.getElem?_eq_some_iff.1 B0.out).1).trans B0.out
  have R05 : Hid (w5.rangeAt (w.heap.size) 0 [.int .i64 k, .int .i64 n]) := (HeadAt.of_row B05.out).range
  have B15 : Hid (w5.heap[w.heap.size + 1]? = some (.cells #[.int .i64 0, .int .i64 0] 41 (0, 0))) := (k5.block _ (Array.getElem?_eq_some_iff.1 B1.out).1).trans B1.out
  have R15 : Hid (w5.rangeAt (w.heap.size + 1) 0 [.int .i64 0, .int .i64 0]) := (HeadAt.of_row B15.out).range
  clear k5
  go_upto_region 2 with (first | (refine wpList_store_row rfl 41 _ _ rfl (w.heap.size) #[.int .i64 rk, .int .i64 rn] rfl rfl 41 _ B05.out infoValC rfl (all_oneCell_toArray (by simp [Value.oneCell'])) ?_) | fail)
  generalize h6 : World.setRow _ _ _ = w6
  have K6 : Hid (Below w.heap.size w w6) := by rw [← h6]; exact Below.set_row K5.out (by omega) _
  have B06 : Hid (w6.heap[w.heap.size]? = some (.cells #[.int .i64 rk, .int .i64 rn] 41 (0, 0))) := by rw [← h6]; exact setRow_heap _ _ _ _ _ _ B05.out
  have R06 : Hid (w6.rangeAt (w.heap.size) 0 [.int .i64 rk, .int .i64 rn]) := (HeadAt.of_row B06.out).range
  have B16 : Hid (w6.heap[w.heap.size + 1]? = some (.cells #[.int .i64 0, .int .i64 0] 41 (0, 0))) := by rw [← h6]; exact (setRow_other _ _ _ _ (by omega)).trans B15.out
  have R16 : Hid (w6.rangeAt (w.heap.size + 1) 0 [.int .i64 0, .int .i64 0]) := (HeadAt.of_row B16.out).range
  clear h6
  (try dsimp only [Act.put])
  have x0 : w6.cell? ⟨w.heap.size, 0, none⟩ = some (.int .i64 rk) := cell_of_row w6 (w.heap.size) 0 _ _ _ B06.out
  have x1 : w6.cell? ⟨w.heap.size, 1, none⟩ = some (.int .i64 rn) := cell_of_row w6 (w.heap.size) 1 _ _ _ B06.out
  go_wp2_with (first | fail)
  refine (HRC.out _).mono ?_
  rintro e w7 ⟨rfl, k7⟩
  have K7 : Hid (Below w.heap.size w w7) := K6.out.trans (k7.mono K6.out.size)
  have B07 : Hid (w7.heap[w.heap.size]? = some (.cells #[.int .i64 rk, .int .i64 rn] 41 (0, 0))) := (k7.block _ (Array.getElem?_eq_some_iff.1 B06.out).1).trans B06.out
  have R07 : Hid (w7.rangeAt (w.heap.size) 0 [.int .i64 rk, .int .i64 rn]) := (HeadAt.of_row B07.out).range
  have B17 : Hid (w7.heap[w.heap.size + 1]? = some (.cells #[.int .i64 0, .int .i64 0] 41 (0, 0))) := (k7.block _ (Array.getElem?_eq_some_iff.1 B16.out).1).trans B16.out
  have R17 : Hid (w7.rangeAt (w.heap.size + 1) 0 [.int .i64 0, .int .i64 0]) := (HeadAt.of_row B17.out).range
  clear k7
  go_wp2_with (first | (refine wpList_store_row rfl 41 _ _ rfl (w.heap.size + 1) #[.int .i64 0, .int .i64 0] rfl rfl 41 _ B17.out infoValC rfl (all_oneCell_toArray (by simp [Value.oneCell'])) ?_))
  generalize hw9 : World.setRow _ _ _ = w9
  have QR : Hid (w9.heap[w.heap.size + 1]? = some (.cells #[.int .i64 0, .int .i64 0] 41 (0, 0))) := by rw [← hw9]; exact setRow_heap _ _ _ _ _ _ B17.out
  have K9 : Hid (Below w.heap.size w w9) := by rw [← hw9]; exact Below.set_row K7.out (by omega) _
  clear hw9
  go_wp2_with fail
  have q0 := cell_of_row w9 (w.heap.size + 1) 0 _ _ _ QR.out
  have q1 := cell_of_row w9 (w.heap.size + 1) 1 _ _ _ QR.out
  refine bodyPost_ret (v := (.tuple #[.agg #[.int .i64 0, .int .i64 0], .int .i64 0])) (by simp [results, Tryd.results32, go_sem, q0, q1]) rfl ⟨rfl, K9.out⟩
set_option maxHeartbeats 16000000 in
set_option maxRecDepth 100000 in
theorem binary_c (op : Int) (u v : Val) (w : World) : Calls Tryd.prog 33 #[.int .i64 op, .agg #[.int .i64 u.kind, .int .i64 u.n], .agg #[.int .i64 v.kind, .int .i64 v.n]] w (GivesV (binaryM op u v) w) := by
  obtain ⟨r, hr⟩ : ∃ r, takenM u = r := ⟨_, rfl⟩
  obtain ⟨s, hs⟩ : ∃ s, takenM v = s := ⟨_, rfl⟩
  have TA := taken_c u
  have TB := taken_c v
  unfold binaryM
  rw [hr] at TA
  rw [hs] at TB
  rw [hr, hs]
  clear hr hs
  obtain ⟨ka, na⟩ := u
  obtain ⟨kb, nb⟩ := v
  obtain ⟨pk, pn⟩ := r
  obtain ⟨qk, qn⟩ := s
  have HTA := Lib.hid TA
  have HTB := Lib.hid TB
  clear TA TB
  dsimp only at HTA HTB ⊢
  by_cases p3 : pk = 3
  · subst p3
    by_cases q3 : qk = 3
    · subst q3
      rw [if_pos ⟨rfl, rfl⟩]
      have FA := float_c 3 pn
      have FB := float_c 3 qn
      obtain ⟨xb, hxb⟩ : ∃ b, bitsM pn = b := ⟨_, rfl⟩
      obtain ⟨yb, hyb⟩ : ∃ b, bitsM qn = b := ⟨_, rfl⟩
      rw [hxb] at FA ⊢
      rw [hyb] at FB ⊢
      clear hxb hyb
      have RC := floats_c op xb yb
      obtain ⟨r, hr⟩ : ∃ r, floatsM op xb yb = r := ⟨_, rfl⟩
      rw [hr] at RC ⊢
      clear hr
      obtain ⟨⟨rk, rn⟩, th⟩ := r
      have HRC := Lib.hid RC
      have HFA := Lib.hid FA
      have HFB := Lib.hid FB
      clear RC FA FB
      unfold GivesV at HRC ⊢
      dsimp only at HRC ⊢
      obtain ⟨w0, hw0⟩ : ∃ w0, w0 = ((w.alloc (.cells #[.int .i64 ka, .int .i64 na] 41)).alloc (.cells #[.int .i64 kb, .int .i64 nb] 41)).alloc (.cells #[.int .i64 0, .int .i64 0] 41) := ⟨_, rfl⟩
      have K0 : Hid (Below w.heap.size w w0) := by rw [hw0]; exact (below_two' w _ _).alloc (by simp; omega) _
      have B0 : Hid (w0.heap[w.heap.size]? = some (.cells #[.int .i64 ka, .int .i64 na] 41 (0, 0))) := by rw [hw0]; exact heap_old (heap_old (heap_last w _) _) _
      have B1 : Hid (w0.heap[w.heap.size + 1]? = some (.cells #[.int .i64 kb, .int .i64 nb] 41 (0, 0))) := by rw [hw0]; exact heap_old (heap_two _ _ _) _
      have B2 : Hid (w0.heap[w.heap.size + 1 + 1]? = some (.cells #[.int .i64 0, .int .i64 0] 41 (0, 0))) := by rw [hw0]; exact heap_three _ _ _ _
      have hz : w.heap.size + 1 + 1 < w0.heap.size := (Array.getElem?_eq_some_iff.1 B2.out).1
      have R0 : Hid (w0.rangeAt (w.heap.size) 0 [.int .i64 ka, .int .i64 na]) := (HeadAt.of_row B0.out).range
      have R1 : Hid (w0.rangeAt (w.heap.size + 1) 0 [.int .i64 kb, .int .i64 nb]) := (HeadAt.of_row B1.out).range
      have R2 : Hid (w0.rangeAt (w.heap.size + 1 + 1) 0 [.int .i64 0, .int .i64 0]) := (HeadAt.of_row B2.out).range
      have HW := Lib.hid hw0
      clear hw0
      go_enter Tryd.func33, Tryd.ntmps33
      go_upto_region 1 with fail
      rw [← HW.out]
      have RU : Hid (∀ E : Up w0, E.to.rangeAt w.heap.size 0 [.int .i64 ka, .int .i64 na]) := fun E a u hu => E.cell (R0.out a u hu)
      have RV : Hid (∀ E : Up w0, E.to.rangeAt (w.heap.size + 1) 0 [.int .i64 kb, .int .i64 nb]) := fun E a u hu => E.cell (R1.out a u hu)
      refine wp_region_up_tail 4 (by kernel_rfl) (by kernel_rfl) ?_
      simp only [List.take_succ_cons, List.take_zero, List.drop_succ_cons, List.drop_zero]
      repeat (first
        | (refine wpQuiet_load_up 41 _ rfl rfl w.heap.size 0 rfl [.int .i64 ka, .int .i64 na] _ RU.out Tryd.underlying41 rfl infoValC ?_; go_simp)
        | (refine wpQuiet_load_up 41 _ rfl rfl (w.heap.size + 1) 0 rfl [.int .i64 kb, .int .i64 nb] _ RV.out Tryd.underlying41 rfl infoValC ?_; go_simp)
        | go_big_quiet_step ((go_at_call 61; first | exact Calls.up (HTA.out _) | exact Calls.up (HTB.out _))))
      refine wpQuiet_nil ?_
      first | (rintro _ ⟨E, rfl⟩) | (intro E) | (rename_i E)
      obtain ⟨w5, k5⟩ := E
      dsimp only
      have K5 : Hid (Below w.heap.size w w5) := K0.out.trans (k5.mono K0.out.size)
      have B05 : Hid (w5.heap[w.heap.size]? = some (.cells #[.int .i64 ka, .int .i64 na] 41 (0, 0))) := (k5.block _ (Array.getElem?_eq_some_iff.1 B0.out).1).trans B0.out
      have R05 : Hid (w5.rangeAt (w.heap.size) 0 [.int .i64 ka, .int .i64 na]) := (HeadAt.of_row B05.out).range
      have B15 : Hid (w5.heap[w.heap.size + 1]? = some (.cells #[.int .i64 kb, .int .i64 nb] 41 (0, 0))) := (k5.block _ (Array.getElem?_eq_some_iff.1 B1.out).1).trans B1.out
      have R15 : Hid (w5.rangeAt (w.heap.size + 1) 0 [.int .i64 kb, .int .i64 nb]) := (HeadAt.of_row B15.out).range
      have B25 : Hid (w5.heap[w.heap.size + 1 + 1]? = some (.cells #[.int .i64 0, .int .i64 0] 41 (0, 0))) := (k5.block _ (Array.getElem?_eq_some_iff.1 B2.out).1).trans B2.out
      have R25 : Hid (w5.rangeAt (w.heap.size + 1 + 1) 0 [.int .i64 0, .int .i64 0]) := (HeadAt.of_row B25.out).range
      clear k5 RU RV
      refine wpList_store_row rfl 41 _ _ rfl (w.heap.size) #[.int .i64 3, .int .i64 pn] rfl rfl 41 _ B05.out infoValC rfl (all_oneCell_toArray (by simp [Value.oneCell'])) ?_
      generalize ha : World.setRow _ _ _ = wa
      have Ka : Hid (Below w.heap.size w wa) := by rw [← ha]; exact Below.set_row K5.out (by omega) _
      have B0a : Hid (wa.heap[w.heap.size]? = some (.cells #[.int .i64 3, .int .i64 pn] 41 (0, 0))) := by rw [← ha]; exact setRow_heap _ _ _ _ _ _ B05.out
      have R0a : Hid (wa.rangeAt (w.heap.size) 0 [.int .i64 3, .int .i64 pn]) := (HeadAt.of_row B0a.out).range
      have B1a : Hid (wa.heap[w.heap.size + 1]? = some (.cells #[.int .i64 kb, .int .i64 nb] 41 (0, 0))) := by rw [← ha]; exact (setRow_other _ _ _ _ (by omega)).trans B15.out
      have R1a : Hid (wa.rangeAt (w.heap.size + 1) 0 [.int .i64 kb, .int .i64 nb]) := (HeadAt.of_row B1a.out).range
      have B2a : Hid (wa.heap[w.heap.size + 1 + 1]? = some (.cells #[.int .i64 0, .int .i64 0] 41 (0, 0))) := by rw [← ha]; exact (setRow_other _ _ _ _ (by omega)).trans B25.out
      have R2a : Hid (wa.rangeAt (w.heap.size + 1 + 1) 0 [.int .i64 0, .int .i64 0]) := (HeadAt.of_row B2a.out).range
      clear ha
      refine wpList_store_row rfl 41 _ _ rfl (w.heap.size + 1) #[.int .i64 3, .int .i64 qn] rfl rfl 41 _ B1a.out infoValC rfl (all_oneCell_toArray (by simp [Value.oneCell'])) ?_
      generalize h6 : World.setRow _ _ _ = w6
      have K6 : Hid (Below w.heap.size w w6) := by rw [← h6]; exact Below.set_row Ka.out (by omega) _
      have B06 : Hid (w6.heap[w.heap.size]? = some (.cells #[.int .i64 3, .int .i64 pn] 41 (0, 0))) := by rw [← h6]; exact (setRow_other _ _ _ _ (by omega)).trans B0a.out
      have R06 : Hid (w6.rangeAt (w.heap.size) 0 [.int .i64 3, .int .i64 pn]) := (HeadAt.of_row B06.out).range
      have B16 : Hid (w6.heap[w.heap.size + 1]? = some (.cells #[.int .i64 3, .int .i64 qn] 41 (0, 0))) := by rw [← h6]; exact setRow_heap _ _ _ _ _ _ B1a.out
      have R16 : Hid (w6.rangeAt (w.heap.size + 1) 0 [.int .i64 3, .int .i64 qn]) := (HeadAt.of_row B16.out).range
      have B26 : Hid (w6.heap[w.heap.size + 1 + 1]? = some (.cells #[.int .i64 0, .int .i64 0] 41 (0, 0))) := by rw [← h6]; exact (setRow_other _ _ _ _ (by omega)).trans B2a.out
      have R26 : Hid (w6.rangeAt (w.heap.size + 1 + 1) 0 [.int .i64 0, .int .i64 0]) := (HeadAt.of_row B26.out).range
      clear h6
      dsimp only [Act.put]
      have x0 : w6.cell? ⟨w.heap.size, 0, none⟩ = some (.int .i64 3) := cell_of_row w6 (w.heap.size) 0 _ _ _ B06.out
      have x1 : w6.cell? ⟨w.heap.size, 1, none⟩ = some (.int .i64 pn) := cell_of_row w6 (w.heap.size) 1 _ _ _ B06.out
      have y0 : w6.cell? ⟨w.heap.size + 1, 0, none⟩ = some (.int .i64 3) := cell_of_row w6 (w.heap.size + 1) 0 _ _ _ B16.out
      have y1 : w6.cell? ⟨w.heap.size + 1, 1, none⟩ = some (.int .i64 qn) := cell_of_row w6 (w.heap.size + 1) 1 _ _ _ B16.out
      go_upto_region 3 with fail
      clear x0 x1 y0 y1
      have RU : Hid (∀ E : Up w6, E.to.rangeAt w.heap.size 0 [.int .i64 3, .int .i64 pn]) := fun E a u hu => E.cell (R06.out a u hu)
      have RV : Hid (∀ E : Up w6, E.to.rangeAt (w.heap.size + 1) 0 [.int .i64 3, .int .i64 qn]) := fun E a u hu => E.cell (R16.out a u hu)
      refine wp_region_up_tail 8 (by kernel_rfl) (by kernel_rfl) ?_
      simp only [List.take_succ_cons, List.take_zero, List.drop_succ_cons, List.drop_zero]
      repeat (first
        | (refine wpQuiet_load_up 41 _ rfl rfl w.heap.size 0 rfl [.int .i64 3, .int .i64 pn] _ RU.out Tryd.underlying41 rfl infoValC ?_; go_simp)
        | (refine wpQuiet_load_up 41 _ rfl rfl (w.heap.size + 1) 0 rfl [.int .i64 3, .int .i64 qn] _ RV.out Tryd.underlying41 rfl infoValC ?_; go_simp)
        | go_big_quiet_step ((go_at_call 66; first | exact Calls.up (HFA.out _) | exact Calls.up (HFB.out _)))
        | go_big_quiet_step ((go_at_call 68; exact Calls.up (HRC.out _))))
      refine wpQuiet_nil ?_
      first | (rintro _ ⟨E, rfl⟩) | (intro E) | (rename_i E)
      obtain ⟨w8, k8⟩ := E
      dsimp only
      have K8 : Hid (Below w.heap.size w w8) := K6.out.trans (k8.mono K6.out.size)
      have B08 : Hid (w8.heap[w.heap.size]? = some (.cells #[.int .i64 3, .int .i64 pn] 41 (0, 0))) := (k8.block _ (Array.getElem?_eq_some_iff.1 B06.out).1).trans B06.out
      have R08 : Hid (w8.rangeAt (w.heap.size) 0 [.int .i64 3, .int .i64 pn]) := (HeadAt.of_row B08.out).range
      have B18 : Hid (w8.heap[w.heap.size + 1]? = some (.cells #[.int .i64 3, .int .i64 qn] 41 (0, 0))) := (k8.block _ (Array.getElem?_eq_some_iff.1 B16.out).1).trans B16.out
      have R18 : Hid (w8.rangeAt (w.heap.size + 1) 0 [.int .i64 3, .int .i64 qn]) := (HeadAt.of_row B18.out).range
      have B28 : Hid (w8.heap[w.heap.size + 1 + 1]? = some (.cells #[.int .i64 0, .int .i64 0] 41 (0, 0))) := (k8.block _ (Array.getElem?_eq_some_iff.1 B26.out).1).trans B26.out
      have R28 : Hid (w8.rangeAt (w.heap.size + 1 + 1) 0 [.int .i64 0, .int .i64 0]) := (HeadAt.of_row B28.out).range
      clear k8 RU RV
      go_wp2_with (first | (refine wpList_store_row rfl 41 _ _ rfl (w.heap.size + 1 + 1) #[.int .i64 rk, .int .i64 rn] rfl rfl 41 _ B28.out infoValC rfl (all_oneCell_toArray (by simp [Value.oneCell'])) ?_))
      generalize hw9 : World.setRow _ _ _ = w9
      have QR : Hid (w9.heap[w.heap.size + 1 + 1]? = some (.cells #[.int .i64 rk, .int .i64 rn] 41 (0, 0))) := by rw [← hw9]; exact setRow_heap _ _ _ _ _ _ B28.out
      have K9 : Hid (Below w.heap.size w w9) := by rw [← hw9]; exact Below.set_row K8.out (by omega) _
      clear hw9
      go_wp2_with fail
      have q0 := cell_of_row w9 (w.heap.size + 1 + 1) 0 _ _ _ QR.out
      have q1 := cell_of_row w9 (w.heap.size + 1 + 1) 1 _ _ _ QR.out
      refine bodyPost_ret (v := (.tuple #[.agg #[.int .i64 rk, .int .i64 rn], .int .i64 th])) (by simp [results, Tryd.results33, go_sem, q0, q1]) rfl ⟨rfl, K9.out⟩
    rw [if_neg (fun h => q3 h.2)]
    have nq3 : (qk == 3) = false := beq_eq_false_iff_ne.2 q3
    by_cases c8 : op = 8
    · subst c8
      rw [if_pos rfl, show ((3 : Int) == qk && pn == qn) = false from by rw [beq_eq_false_iff_ne.2 (Ne.symm q3)]; rfl]
      have ne : ((3 : Int) == qk) = false := beq_eq_false_iff_ne.2 (Ne.symm q3)
      clear q3
      have RC := otruth_c false
      obtain ⟨r, hr⟩ : ∃ r, truthM false = r := ⟨_, rfl⟩
      rw [hr] at RC ⊢
      clear hr
      obtain ⟨rk, rn⟩ := r
      have HRC := Lib.hid RC
      clear RC
      unfold GivesV
      dsimp only at HRC ⊢
      obtain ⟨w0, hw0⟩ : ∃ w0, w0 = ((w.alloc (.cells #[.int .i64 ka, .int .i64 na] 41)).alloc (.cells #[.int .i64 kb, .int .i64 nb] 41)).alloc (.cells #[.int .i64 0, .int .i64 0] 41) := ⟨_, rfl⟩
      have K0 : Hid (Below w.heap.size w w0) := by rw [hw0]; exact (below_two' w _ _).alloc (by simp; omega) _
      have B0 : Hid (w0.heap[w.heap.size]? = some (.cells #[.int .i64 ka, .int .i64 na] 41 (0, 0))) := by rw [hw0]; exact heap_old (heap_old (heap_last w _) _) _
      have B1 : Hid (w0.heap[w.heap.size + 1]? = some (.cells #[.int .i64 kb, .int .i64 nb] 41 (0, 0))) := by rw [hw0]; exact heap_old (heap_two _ _ _) _
      have B2 : Hid (w0.heap[w.heap.size + 1 + 1]? = some (.cells #[.int .i64 0, .int .i64 0] 41 (0, 0))) := by rw [hw0]; exact heap_three _ _ _ _
      have hz : w.heap.size + 1 + 1 < w0.heap.size := (Array.getElem?_eq_some_iff.1 B2.out).1
      have R0 : Hid (w0.rangeAt (w.heap.size) 0 [.int .i64 ka, .int .i64 na]) := (HeadAt.of_row B0.out).range
      have R1 : Hid (w0.rangeAt (w.heap.size + 1) 0 [.int .i64 kb, .int .i64 nb]) := (HeadAt.of_row B1.out).range
      have R2 : Hid (w0.rangeAt (w.heap.size + 1 + 1) 0 [.int .i64 0, .int .i64 0]) := (HeadAt.of_row B2.out).range
      have HW := Lib.hid hw0
      clear hw0
      go_enter Tryd.func33, Tryd.ntmps33
      go_upto_region 1 with fail
      rw [← HW.out]
      have RU : Hid (∀ E : Up w0, E.to.rangeAt w.heap.size 0 [.int .i64 ka, .int .i64 na]) := fun E a u hu => E.cell (R0.out a u hu)
      have RV : Hid (∀ E : Up w0, E.to.rangeAt (w.heap.size + 1) 0 [.int .i64 kb, .int .i64 nb]) := fun E a u hu => E.cell (R1.out a u hu)
      refine wp_region_up_tail 4 (by kernel_rfl) (by kernel_rfl) ?_
      simp only [List.take_succ_cons, List.take_zero, List.drop_succ_cons, List.drop_zero]
      repeat (first
        | (refine wpQuiet_load_up 41 _ rfl rfl w.heap.size 0 rfl [.int .i64 ka, .int .i64 na] _ RU.out Tryd.underlying41 rfl infoValC ?_; go_simp)
        | (refine wpQuiet_load_up 41 _ rfl rfl (w.heap.size + 1) 0 rfl [.int .i64 kb, .int .i64 nb] _ RV.out Tryd.underlying41 rfl infoValC ?_; go_simp)
        | go_big_quiet_step ((go_at_call 61; first | exact Calls.up (HTA.out _) | exact Calls.up (HTB.out _))))
      refine wpQuiet_nil ?_
      first | (rintro _ ⟨E, rfl⟩) | (intro E) | (rename_i E)
      obtain ⟨w5, k5⟩ := E
      dsimp only
      have K5 : Hid (Below w.heap.size w w5) := K0.out.trans (k5.mono K0.out.size)
      have B05 : Hid (w5.heap[w.heap.size]? = some (.cells #[.int .i64 ka, .int .i64 na] 41 (0, 0))) := (k5.block _ (Array.getElem?_eq_some_iff.1 B0.out).1).trans B0.out
      have R05 : Hid (w5.rangeAt (w.heap.size) 0 [.int .i64 ka, .int .i64 na]) := (HeadAt.of_row B05.out).range
      have B15 : Hid (w5.heap[w.heap.size + 1]? = some (.cells #[.int .i64 kb, .int .i64 nb] 41 (0, 0))) := (k5.block _ (Array.getElem?_eq_some_iff.1 B1.out).1).trans B1.out
      have R15 : Hid (w5.rangeAt (w.heap.size + 1) 0 [.int .i64 kb, .int .i64 nb]) := (HeadAt.of_row B15.out).range
      have B25 : Hid (w5.heap[w.heap.size + 1 + 1]? = some (.cells #[.int .i64 0, .int .i64 0] 41 (0, 0))) := (k5.block _ (Array.getElem?_eq_some_iff.1 B2.out).1).trans B2.out
      have R25 : Hid (w5.rangeAt (w.heap.size + 1 + 1) 0 [.int .i64 0, .int .i64 0]) := (HeadAt.of_row B25.out).range
      clear k5 RU RV
      refine wpList_store_row rfl 41 _ _ rfl (w.heap.size) #[.int .i64 3, .int .i64 pn] rfl rfl 41 _ B05.out infoValC rfl (all_oneCell_toArray (by simp [Value.oneCell'])) ?_
      generalize ha : World.setRow _ _ _ = wa
      have Ka : Hid (Below w.heap.size w wa) := by rw [← ha]; exact Below.set_row K5.out (by omega) _
      have B0a : Hid (wa.heap[w.heap.size]? = some (.cells #[.int .i64 3, .int .i64 pn] 41 (0, 0))) := by rw [← ha]; exact setRow_heap _ _ _ _ _ _ B05.out
      have R0a : Hid (wa.rangeAt (w.heap.size) 0 [.int .i64 3, .int .i64 pn]) := (HeadAt.of_row B0a.out).range
      have B1a : Hid (wa.heap[w.heap.size + 1]? = some (.cells #[.int .i64 kb, .int .i64 nb] 41 (0, 0))) := by rw [← ha]; exact (setRow_other _ _ _ _ (by omega)).trans B15.out
      have R1a : Hid (wa.rangeAt (w.heap.size + 1) 0 [.int .i64 kb, .int .i64 nb]) := (HeadAt.of_row B1a.out).range
      have B2a : Hid (wa.heap[w.heap.size + 1 + 1]? = some (.cells #[.int .i64 0, .int .i64 0] 41 (0, 0))) := by rw [← ha]; exact (setRow_other _ _ _ _ (by omega)).trans B25.out
      have R2a : Hid (wa.rangeAt (w.heap.size + 1 + 1) 0 [.int .i64 0, .int .i64 0]) := (HeadAt.of_row B2a.out).range
      clear ha
      refine wpList_store_row rfl 41 _ _ rfl (w.heap.size + 1) #[.int .i64 qk, .int .i64 qn] rfl rfl 41 _ B1a.out infoValC rfl (all_oneCell_toArray (by simp [Value.oneCell'])) ?_
      generalize h6 : World.setRow _ _ _ = w6
      have K6 : Hid (Below w.heap.size w w6) := by rw [← h6]; exact Below.set_row Ka.out (by omega) _
      have B06 : Hid (w6.heap[w.heap.size]? = some (.cells #[.int .i64 3, .int .i64 pn] 41 (0, 0))) := by rw [← h6]; exact (setRow_other _ _ _ _ (by omega)).trans B0a.out
      have R06 : Hid (w6.rangeAt (w.heap.size) 0 [.int .i64 3, .int .i64 pn]) := (HeadAt.of_row B06.out).range
      have B16 : Hid (w6.heap[w.heap.size + 1]? = some (.cells #[.int .i64 qk, .int .i64 qn] 41 (0, 0))) := by rw [← h6]; exact setRow_heap _ _ _ _ _ _ B1a.out
      have R16 : Hid (w6.rangeAt (w.heap.size + 1) 0 [.int .i64 qk, .int .i64 qn]) := (HeadAt.of_row B16.out).range
      have B26 : Hid (w6.heap[w.heap.size + 1 + 1]? = some (.cells #[.int .i64 0, .int .i64 0] 41 (0, 0))) := by rw [← h6]; exact (setRow_other _ _ _ _ (by omega)).trans B2a.out
      have R26 : Hid (w6.rangeAt (w.heap.size + 1 + 1) 0 [.int .i64 0, .int .i64 0]) := (HeadAt.of_row B26.out).range
      clear h6
      dsimp only [Act.put]
      have x0 : w6.cell? ⟨w.heap.size, 0, none⟩ = some (.int .i64 3) := cell_of_row w6 (w.heap.size) 0 _ _ _ B06.out
      have x1 : w6.cell? ⟨w.heap.size, 1, none⟩ = some (.int .i64 pn) := cell_of_row w6 (w.heap.size) 1 _ _ _ B06.out
      have y0 : w6.cell? ⟨w.heap.size + 1, 0, none⟩ = some (.int .i64 qk) := cell_of_row w6 (w.heap.size + 1) 0 _ _ _ B16.out
      have y1 : w6.cell? ⟨w.heap.size + 1, 1, none⟩ = some (.int .i64 qn) := cell_of_row w6 (w.heap.size + 1) 1 _ _ _ B16.out
      go_wp2_with (first | (refine wpList_load_mid rfl 41 _ rfl (w.heap.size) 0 rfl [.int .i64 3, .int .i64 pn] _ R06.out Tryd.underlying41 rfl infoValC ?_) | (refine wpList_load_mid rfl 41 _ rfl (w.heap.size + 1) 0 rfl [.int .i64 qk, .int .i64 qn] _ R16.out Tryd.underlying41 rfl infoValC ?_) | fail)
      refine (HRC.out _).mono ?_
      rintro e w7 ⟨rfl, k7⟩
      have K7 : Hid (Below w.heap.size w w7) := K6.out.trans (k7.mono K6.out.size)
      have B07 : Hid (w7.heap[w.heap.size]? = some (.cells #[.int .i64 3, .int .i64 pn] 41 (0, 0))) := (k7.block _ (Array.getElem?_eq_some_iff.1 B06.out).1).trans B06.out
      have R07 : Hid (w7.rangeAt (w.heap.size) 0 [.int .i64 3, .int .i64 pn]) := (HeadAt.of_row B07.out).range
      have B17 : Hid (w7.heap[w.heap.size + 1]? = some (.cells #[.int .i64 qk, .int .i64 qn] 41 (0, 0))) := (k7.block _ (Array.getElem?_eq_some_iff.1 B16.out).1).trans B16.out
      have R17 : Hid (w7.rangeAt (w.heap.size + 1) 0 [.int .i64 qk, .int .i64 qn]) := (HeadAt.of_row B17.out).range
      have B27 : Hid (w7.heap[w.heap.size + 1 + 1]? = some (.cells #[.int .i64 0, .int .i64 0] 41 (0, 0))) := (k7.block _ (Array.getElem?_eq_some_iff.1 B26.out).1).trans B26.out
      have R27 : Hid (w7.rangeAt (w.heap.size + 1 + 1) 0 [.int .i64 0, .int .i64 0]) := (HeadAt.of_row B27.out).range
      clear k7
      go_wp2_with (first | (refine wpList_store_row rfl 41 _ _ rfl (w.heap.size + 1 + 1) #[.int .i64 rk, .int .i64 rn] rfl rfl 41 _ B27.out infoValC rfl (all_oneCell_toArray (by simp [Value.oneCell'])) ?_))
      generalize hw9 : World.setRow _ _ _ = w9
      have QR : Hid (w9.heap[w.heap.size + 1 + 1]? = some (.cells #[.int .i64 rk, .int .i64 rn] 41 (0, 0))) := by rw [← hw9]; exact setRow_heap _ _ _ _ _ _ B27.out
      have K9 : Hid (Below w.heap.size w w9) := by rw [← hw9]; exact Below.set_row K7.out (by omega) _
      clear hw9
      go_wp2_with fail
      have q0 := cell_of_row w9 (w.heap.size + 1 + 1) 0 _ _ _ QR.out
      have q1 := cell_of_row w9 (w.heap.size + 1 + 1) 1 _ _ _ QR.out
      refine bodyPost_ret (v := (.tuple #[.agg #[.int .i64 rk, .int .i64 rn], .int .i64 (-1)])) (by simp [results, Tryd.results33, go_sem, q0, q1]) rfl ⟨rfl, K9.out⟩
    rw [if_neg c8, if_neg (fun h => absurd h.1 (by decide))]
    have n8 : (op == 8) = false := beq_eq_false_iff_ne.2 c8
    clear c8 q3
    have HRC := Lib.hid (ofail_c 0)
    unfold GivesV at HRC ⊢
    dsimp only at HRC ⊢
    obtain ⟨w0, hw0⟩ : ∃ w0, w0 = ((w.alloc (.cells #[.int .i64 ka, .int .i64 na] 41)).alloc (.cells #[.int .i64 kb, .int .i64 nb] 41)).alloc (.cells #[.int .i64 0, .int .i64 0] 41) := ⟨_, rfl⟩
    have K0 : Hid (Below w.heap.size w w0) := by rw [hw0]; exact (below_two' w _ _).alloc (by simp; omega) _
    have B0 : Hid (w0.heap[w.heap.size]? = some (.cells #[.int .i64 ka, .int .i64 na] 41 (0, 0))) := by rw [hw0]; exact heap_old (heap_old (heap_last w _) _) _
    have B1 : Hid (w0.heap[w.heap.size + 1]? = some (.cells #[.int .i64 kb, .int .i64 nb] 41 (0, 0))) := by rw [hw0]; exact heap_old (heap_two _ _ _) _
    have B2 : Hid (w0.heap[w.heap.size + 1 + 1]? = some (.cells #[.int .i64 0, .int .i64 0] 41 (0, 0))) := by rw [hw0]; exact heap_three _ _ _ _
    have hz : w.heap.size + 1 + 1 < w0.heap.size := (Array.getElem?_eq_some_iff.1 B2.out).1
    have R0 : Hid (w0.rangeAt (w.heap.size) 0 [.int .i64 ka, .int .i64 na]) := (HeadAt.of_row B0.out).range
    have R1 : Hid (w0.rangeAt (w.heap.size + 1) 0 [.int .i64 kb, .int .i64 nb]) := (HeadAt.of_row B1.out).range
    have R2 : Hid (w0.rangeAt (w.heap.size + 1 + 1) 0 [.int .i64 0, .int .i64 0]) := (HeadAt.of_row B2.out).range
    have HW := Lib.hid hw0
    clear hw0
    go_enter Tryd.func33, Tryd.ntmps33
    go_upto_region 1 with fail
    rw [← HW.out]
    have RU : Hid (∀ E : Up w0, E.to.rangeAt w.heap.size 0 [.int .i64 ka, .int .i64 na]) := fun E a u hu => E.cell (R0.out a u hu)
    have RV : Hid (∀ E : Up w0, E.to.rangeAt (w.heap.size + 1) 0 [.int .i64 kb, .int .i64 nb]) := fun E a u hu => E.cell (R1.out a u hu)
    refine wp_region_up_tail 4 (by kernel_rfl) (by kernel_rfl) ?_
    simp only [List.take_succ_cons, List.take_zero, List.drop_succ_cons, List.drop_zero]
    repeat (first
      | (refine wpQuiet_load_up 41 _ rfl rfl w.heap.size 0 rfl [.int .i64 ka, .int .i64 na] _ RU.out Tryd.underlying41 rfl infoValC ?_; go_simp)
      | (refine wpQuiet_load_up 41 _ rfl rfl (w.heap.size + 1) 0 rfl [.int .i64 kb, .int .i64 nb] _ RV.out Tryd.underlying41 rfl infoValC ?_; go_simp)
      | go_big_quiet_step ((go_at_call 61; first | exact Calls.up (HTA.out _) | exact Calls.up (HTB.out _))))
    refine wpQuiet_nil ?_
    first | (rintro _ ⟨E, rfl⟩) | (intro E) | (rename_i E)
    obtain ⟨w5, k5⟩ := E
    dsimp only
    have K5 : Hid (Below w.heap.size w w5) := K0.out.trans (k5.mono K0.out.size)
    have B05 : Hid (w5.heap[w.heap.size]? = some (.cells #[.int .i64 ka, .int .i64 na] 41 (0, 0))) := (k5.block _ (Array.getElem?_eq_some_iff.1 B0.out).1).trans B0.out
    have R05 : Hid (w5.rangeAt (w.heap.size) 0 [.int .i64 ka, .int .i64 na]) := (HeadAt.of_row B05.out).range
    have B15 : Hid (w5.heap[w.heap.size + 1]? = some (.cells #[.int .i64 kb, .int .i64 nb] 41 (0, 0))) := (k5.block _ (Array.getElem?_eq_some_iff.1 B1.out).1).trans B1.out
    have R15 : Hid (w5.rangeAt (w.heap.size + 1) 0 [.int .i64 kb, .int .i64 nb]) := (HeadAt.of_row B15.out).range
    have B25 : Hid (w5.heap[w.heap.size + 1 + 1]? = some (.cells #[.int .i64 0, .int .i64 0] 41 (0, 0))) := (k5.block _ (Array.getElem?_eq_some_iff.1 B2.out).1).trans B2.out
    have R25 : Hid (w5.rangeAt (w.heap.size + 1 + 1) 0 [.int .i64 0, .int .i64 0]) := (HeadAt.of_row B25.out).range
    clear k5 RU RV
    refine wpList_store_row rfl 41 _ _ rfl (w.heap.size) #[.int .i64 3, .int .i64 pn] rfl rfl 41 _ B05.out infoValC rfl (all_oneCell_toArray (by simp [Value.oneCell'])) ?_
    generalize ha : World.setRow _ _ _ = wa
    have Ka : Hid (Below w.heap.size w wa) := by rw [← ha]; exact Below.set_row K5.out (by omega) _
    have B0a : Hid (wa.heap[w.heap.size]? = some (.cells #[.int .i64 3, .int .i64 pn] 41 (0, 0))) := by rw [← ha]; exact setRow_heap _ _ _ _ _ _ B05.out
    have R0a : Hid (wa.rangeAt (w.heap.size) 0 [.int .i64 3, .int .i64 pn]) := (HeadAt.of_row B0a.out).range
    have B1a : Hid (wa.heap[w.heap.size + 1]? = some (.cells #[.int .i64 kb, .int .i64 nb] 41 (0, 0))) := by rw [← ha]; exact (setRow_other _ _ _ _ (by omega)).trans B15.out
    have R1a : Hid (wa.rangeAt (w.heap.size + 1) 0 [.int .i64 kb, .int .i64 nb]) := (HeadAt.of_row B1a.out).range
    have B2a : Hid (wa.heap[w.heap.size + 1 + 1]? = some (.cells #[.int .i64 0, .int .i64 0] 41 (0, 0))) := by rw [← ha]; exact (setRow_other _ _ _ _ (by omega)).trans B25.out
    have R2a : Hid (wa.rangeAt (w.heap.size + 1 + 1) 0 [.int .i64 0, .int .i64 0]) := (HeadAt.of_row B2a.out).range
    clear ha
    refine wpList_store_row rfl 41 _ _ rfl (w.heap.size + 1) #[.int .i64 qk, .int .i64 qn] rfl rfl 41 _ B1a.out infoValC rfl (all_oneCell_toArray (by simp [Value.oneCell'])) ?_
    generalize h6 : World.setRow _ _ _ = w6
    have K6 : Hid (Below w.heap.size w w6) := by rw [← h6]; exact Below.set_row Ka.out (by omega) _
    have B06 : Hid (w6.heap[w.heap.size]? = some (.cells #[.int .i64 3, .int .i64 pn] 41 (0, 0))) := by rw [← h6]; exact (setRow_other _ _ _ _ (by omega)).trans B0a.out
    have R06 : Hid (w6.rangeAt (w.heap.size) 0 [.int .i64 3, .int .i64 pn]) := (HeadAt.of_row B06.out).range
    have B16 : Hid (w6.heap[w.heap.size + 1]? = some (.cells #[.int .i64 qk, .int .i64 qn] 41 (0, 0))) := by rw [← h6]; exact setRow_heap _ _ _ _ _ _ B1a.out
    have R16 : Hid (w6.rangeAt (w.heap.size + 1) 0 [.int .i64 qk, .int .i64 qn]) := (HeadAt.of_row B16.out).range
    have B26 : Hid (w6.heap[w.heap.size + 1 + 1]? = some (.cells #[.int .i64 0, .int .i64 0] 41 (0, 0))) := by rw [← h6]; exact (setRow_other _ _ _ _ (by omega)).trans B2a.out
    have R26 : Hid (w6.rangeAt (w.heap.size + 1 + 1) 0 [.int .i64 0, .int .i64 0]) := (HeadAt.of_row B26.out).range
    clear h6
    dsimp only [Act.put]
    have x0 : w6.cell? ⟨w.heap.size, 0, none⟩ = some (.int .i64 3) := cell_of_row w6 (w.heap.size) 0 _ _ _ B06.out
    have x1 : w6.cell? ⟨w.heap.size, 1, none⟩ = some (.int .i64 pn) := cell_of_row w6 (w.heap.size) 1 _ _ _ B06.out
    have y0 : w6.cell? ⟨w.heap.size + 1, 0, none⟩ = some (.int .i64 qk) := cell_of_row w6 (w.heap.size + 1) 0 _ _ _ B16.out
    have y1 : w6.cell? ⟨w.heap.size + 1, 1, none⟩ = some (.int .i64 qn) := cell_of_row w6 (w.heap.size + 1) 1 _ _ _ B16.out
    go_wp2_with (first | fail)
    refine (HRC.out _).mono ?_
    rintro e w7 ⟨rfl, k7⟩
    have K7 : Hid (Below w.heap.size w w7) := K6.out.trans (k7.mono K6.out.size)
    have B07 : Hid (w7.heap[w.heap.size]? = some (.cells #[.int .i64 3, .int .i64 pn] 41 (0, 0))) := (k7.block _ (Array.getElem?_eq_some_iff.1 B06.out).1).trans B06.out
    have R07 : Hid (w7.rangeAt (w.heap.size) 0 [.int .i64 3, .int .i64 pn]) := (HeadAt.of_row B07.out).range
    have B17 : Hid (w7.heap[w.heap.size + 1]? = some (.cells #[.int .i64 qk, .int .i64 qn] 41 (0, 0))) := (k7.block _ (Array.getElem?_eq_some_iff.1 B16.out).1).trans B16.out
    have R17 : Hid (w7.rangeAt (w.heap.size + 1) 0 [.int .i64 qk, .int .i64 qn]) := (HeadAt.of_row B17.out).range
    have B27 : Hid (w7.heap[w.heap.size + 1 + 1]? = some (.cells #[.int .i64 0, .int .i64 0] 41 (0, 0))) := (k7.block _ (Array.getElem?_eq_some_iff.1 B26.out).1).trans B26.out
    have R27 : Hid (w7.rangeAt (w.heap.size + 1 + 1) 0 [.int .i64 0, .int .i64 0]) := (HeadAt.of_row B27.out).range
    clear k7
    go_wp2_with (first | (refine wpList_store_row rfl 41 _ _ rfl (w.heap.size + 1 + 1) #[.int .i64 0, .int .i64 0] rfl rfl 41 _ B27.out infoValC rfl (all_oneCell_toArray (by simp [Value.oneCell'])) ?_))
    generalize hw9 : World.setRow _ _ _ = w9
    have QR : Hid (w9.heap[w.heap.size + 1 + 1]? = some (.cells #[.int .i64 0, .int .i64 0] 41 (0, 0))) := by rw [← hw9]; exact setRow_heap _ _ _ _ _ _ B27.out
    have K9 : Hid (Below w.heap.size w w9) := by rw [← hw9]; exact Below.set_row K7.out (by omega) _
    clear hw9
    go_wp2_with fail
    have q0 := cell_of_row w9 (w.heap.size + 1 + 1) 0 _ _ _ QR.out
    have q1 := cell_of_row w9 (w.heap.size + 1 + 1) 1 _ _ _ QR.out
    refine bodyPost_ret (v := (.tuple #[.agg #[.int .i64 0, .int .i64 0], .int .i64 0])) (by simp [results, Tryd.results33, go_sem, q0, q1]) rfl ⟨rfl, K9.out⟩
  rw [if_neg (fun h => p3 h.1)]
  have np3 : (pk == 3) = false := beq_eq_false_iff_ne.2 p3
  clear p3
  by_cases c8 : op = 8
  · subst c8
    rw [if_pos rfl]
    by_cases e1 : pk = qk
    · subst e1
      by_cases e2 : pn = qn
      · subst e2
        rw [show (pk == pk && pn == pn) = true from by simp]
        have RC := otruth_c true
        obtain ⟨r, hr⟩ : ∃ r, truthM true = r := ⟨_, rfl⟩
        rw [hr] at RC ⊢
        clear hr
        obtain ⟨rk, rn⟩ := r
        have HRC := Lib.hid RC
        clear RC
        unfold GivesV
        dsimp only at HRC ⊢
        obtain ⟨w0, hw0⟩ : ∃ w0, w0 = ((w.alloc (.cells #[.int .i64 ka, .int .i64 na] 41)).alloc (.cells #[.int .i64 kb, .int .i64 nb] 41)).alloc (.cells #[.int .i64 0, .int .i64 0] 41) := ⟨_, rfl⟩
        have K0 : Hid (Below w.heap.size w w0) := by rw [hw0]; exact (below_two' w _ _).alloc (by simp; omega) _
        have B0 : Hid (w0.heap[w.heap.size]? = some (.cells #[.int .i64 ka, .int .i64 na] 41 (0, 0))) := by rw [hw0]; exact heap_old (heap_old (heap_last w _) _) _
        have B1 : Hid (w0.heap[w.heap.size + 1]? = some (.cells #[.int .i64 kb, .int .i64 nb] 41 (0, 0))) := by rw [hw0]; exact heap_old (heap_two _ _ _) _
        have B2 : Hid (w0.heap[w.heap.size + 1 + 1]? = some (.cells #[.int .i64 0, .int .i64 0] 41 (0, 0))) := by rw [hw0]; exact heap_three _ _ _ _
        have hz : w.heap.size + 1 + 1 < w0.heap.size := (Array.getElem?_eq_some_iff.1 B2.out).1
        have R0 : Hid (w0.rangeAt (w.heap.size) 0 [.int .i64 ka, .int .i64 na]) := (HeadAt.of_row B0.out).range
        have R1 : Hid (w0.rangeAt (w.heap.size + 1) 0 [.int .i64 kb, .int .i64 nb]) := (HeadAt.of_row B1.out).range
        have R2 : Hid (w0.rangeAt (w.heap.size + 1 + 1) 0 [.int .i64 0, .int .i64 0]) := (HeadAt.of_row B2.out).range
        have HW := Lib.hid hw0
        clear hw0
        go_enter Tryd.func33, Tryd.ntmps33
        go_upto_region 1 with fail
        rw [← HW.out]
        have RU : Hid (∀ E : Up w0, E.to.rangeAt w.heap.size 0 [.int .i64 ka, .int .i64 na]) := fun E a u hu => E.cell (R0.out a u hu)
        have RV : Hid (∀ E : Up w0, E.to.rangeAt (w.heap.size + 1) 0 [.int .i64 kb, .int .i64 nb]) := fun E a u hu => E.cell (R1.out a u hu)
        refine wp_region_up_tail 4 (by kernel_rfl) (by kernel_rfl) ?_
        simp only [List.take_succ_cons, List.take_zero, List.drop_succ_cons, List.drop_zero]
        repeat (first
          | (refine wpQuiet_load_up 41 _ rfl rfl w.heap.size 0 rfl [.int .i64 ka, .int .i64 na] _ RU.out Tryd.underlying41 rfl infoValC ?_; go_simp)
          | (refine wpQuiet_load_up 41 _ rfl rfl (w.heap.size + 1) 0 rfl [.int .i64 kb, .int .i64 nb] _ RV.out Tryd.underlying41 rfl infoValC ?_; go_simp)
          | go_big_quiet_step ((go_at_call 61; first | exact Calls.up (HTA.out _) | exact Calls.up (HTB.out _))))
        refine wpQuiet_nil ?_
        first | (rintro _ ⟨E, rfl⟩) | (intro E) | (rename_i E)
        obtain ⟨w5, k5⟩ := E
        dsimp only
        have K5 : Hid (Below w.heap.size w w5) := K0.out.trans (k5.mono K0.out.size)
        have B05 : Hid (w5.heap[w.heap.size]? = some (.cells #[.int .i64 ka, .int .i64 na] 41 (0, 0))) := (k5.block _ (Array.getElem?_eq_some_iff.1 B0.out).1).trans B0.out
        have R05 : Hid (w5.rangeAt (w.heap.size) 0 [.int .i64 ka, .int .i64 na]) := (HeadAt.of_row B05.out).range
        have B15 : Hid (w5.heap[w.heap.size + 1]? = some (.cells #[.int .i64 kb, .int .i64 nb] 41 (0, 0))) := (k5.block _ (Array.getElem?_eq_some_iff.1 B1.out).1).trans B1.out
        have R15 : Hid (w5.rangeAt (w.heap.size + 1) 0 [.int .i64 kb, .int .i64 nb]) := (HeadAt.of_row B15.out).range
        have B25 : Hid (w5.heap[w.heap.size + 1 + 1]? = some (.cells #[.int .i64 0, .int .i64 0] 41 (0, 0))) := (k5.block _ (Array.getElem?_eq_some_iff.1 B2.out).1).trans B2.out
        have R25 : Hid (w5.rangeAt (w.heap.size + 1 + 1) 0 [.int .i64 0, .int .i64 0]) := (HeadAt.of_row B25.out).range
        clear k5 RU RV
        refine wpList_store_row rfl 41 _ _ rfl (w.heap.size) #[.int .i64 pk, .int .i64 pn] rfl rfl 41 _ B05.out infoValC rfl (all_oneCell_toArray (by simp [Value.oneCell'])) ?_
        generalize ha : World.setRow _ _ _ = wa
        have Ka : Hid (Below w.heap.size w wa) := by rw [← ha]; exact Below.set_row K5.out (by omega) _
        have B0a : Hid (wa.heap[w.heap.size]? = some (.cells #[.int .i64 pk, .int .i64 pn] 41 (0, 0))) := by rw [← ha]; exact setRow_heap _ _ _ _ _ _ B05.out
        have R0a : Hid (wa.rangeAt (w.heap.size) 0 [.int .i64 pk, .int .i64 pn]) := (HeadAt.of_row B0a.out).range
        have B1a : Hid (wa.heap[w.heap.size + 1]? = some (.cells #[.int .i64 kb, .int .i64 nb] 41 (0, 0))) := by rw [← ha]; exact (setRow_other _ _ _ _ (by omega)).trans B15.out
        have R1a : Hid (wa.rangeAt (w.heap.size + 1) 0 [.int .i64 kb, .int .i64 nb]) := (HeadAt.of_row B1a.out).range
        have B2a : Hid (wa.heap[w.heap.size + 1 + 1]? = some (.cells #[.int .i64 0, .int .i64 0] 41 (0, 0))) := by rw [← ha]; exact (setRow_other _ _ _ _ (by omega)).trans B25.out
        have R2a : Hid (wa.rangeAt (w.heap.size + 1 + 1) 0 [.int .i64 0, .int .i64 0]) := (HeadAt.of_row B2a.out).range
        clear ha
        refine wpList_store_row rfl 41 _ _ rfl (w.heap.size + 1) #[.int .i64 pk, .int .i64 pn] rfl rfl 41 _ B1a.out infoValC rfl (all_oneCell_toArray (by simp [Value.oneCell'])) ?_
        generalize h6 : World.setRow _ _ _ = w6
        have K6 : Hid (Below w.heap.size w w6) := by rw [← h6]; exact Below.set_row Ka.out (by omega) _
        have B06 : Hid (w6.heap[w.heap.size]? = some (.cells #[.int .i64 pk, .int .i64 pn] 41 (0, 0))) := by rw [← h6]; exact (setRow_other _ _ _ _ (by omega)).trans B0a.out
        have R06 : Hid (w6.rangeAt (w.heap.size) 0 [.int .i64 pk, .int .i64 pn]) := (HeadAt.of_row B06.out).range
        have B16 : Hid (w6.heap[w.heap.size + 1]? = some (.cells #[.int .i64 pk, .int .i64 pn] 41 (0, 0))) := by rw [← h6]; exact setRow_heap _ _ _ _ _ _ B1a.out
        have R16 : Hid (w6.rangeAt (w.heap.size + 1) 0 [.int .i64 pk, .int .i64 pn]) := (HeadAt.of_row B16.out).range
        have B26 : Hid (w6.heap[w.heap.size + 1 + 1]? = some (.cells #[.int .i64 0, .int .i64 0] 41 (0, 0))) := by rw [← h6]; exact (setRow_other _ _ _ _ (by omega)).trans B2a.out
        have R26 : Hid (w6.rangeAt (w.heap.size + 1 + 1) 0 [.int .i64 0, .int .i64 0]) := (HeadAt.of_row B26.out).range
        clear h6
        dsimp only [Act.put]
        have x0 : w6.cell? ⟨w.heap.size, 0, none⟩ = some (.int .i64 pk) := cell_of_row w6 (w.heap.size) 0 _ _ _ B06.out
        have x1 : w6.cell? ⟨w.heap.size, 1, none⟩ = some (.int .i64 pn) := cell_of_row w6 (w.heap.size) 1 _ _ _ B06.out
        have y0 : w6.cell? ⟨w.heap.size + 1, 0, none⟩ = some (.int .i64 pk) := cell_of_row w6 (w.heap.size + 1) 0 _ _ _ B16.out
        have y1 : w6.cell? ⟨w.heap.size + 1, 1, none⟩ = some (.int .i64 pn) := cell_of_row w6 (w.heap.size + 1) 1 _ _ _ B16.out
        go_wp2_with (first | (refine wpList_load_mid rfl 41 _ rfl (w.heap.size) 0 rfl [.int .i64 pk, .int .i64 pn] _ R06.out Tryd.underlying41 rfl infoValC ?_) | (refine wpList_load_mid rfl 41 _ rfl (w.heap.size + 1) 0 rfl [.int .i64 pk, .int .i64 pn] _ R16.out Tryd.underlying41 rfl infoValC ?_) | fail)
        refine (HRC.out _).mono ?_
        rintro e w7 ⟨rfl, k7⟩
        have K7 : Hid (Below w.heap.size w w7) := K6.out.trans (k7.mono K6.out.size)
        have B07 : Hid (w7.heap[w.heap.size]? = some (.cells #[.int .i64 pk, .int .i64 pn] 41 (0, 0))) := (k7.block _ (Array.getElem?_eq_some_iff.1 B06.out).1).trans B06.out
        have R07 : Hid (w7.rangeAt (w.heap.size) 0 [.int .i64 pk, .int .i64 pn]) := (HeadAt.of_row B07.out).range
        have B17 : Hid (w7.heap[w.heap.size + 1]? = some (.cells #[.int .i64 pk, .int .i64 pn] 41 (0, 0))) := (k7.block _ (Array.getElem?_eq_some_iff.1 B16.out).1).trans B16.out
        have R17 : Hid (w7.rangeAt (w.heap.size + 1) 0 [.int .i64 pk, .int .i64 pn]) := (HeadAt.of_row B17.out).range
        have B27 : Hid (w7.heap[w.heap.size + 1 + 1]? = some (.cells #[.int .i64 0, .int .i64 0] 41 (0, 0))) := (k7.block _ (Array.getElem?_eq_some_iff.1 B26.out).1).trans B26.out
        have R27 : Hid (w7.rangeAt (w.heap.size + 1 + 1) 0 [.int .i64 0, .int .i64 0]) := (HeadAt.of_row B27.out).range
        clear k7
        go_wp2_with (first | (refine wpList_store_row rfl 41 _ _ rfl (w.heap.size + 1 + 1) #[.int .i64 rk, .int .i64 rn] rfl rfl 41 _ B27.out infoValC rfl (all_oneCell_toArray (by simp [Value.oneCell'])) ?_))
        generalize hw9 : World.setRow _ _ _ = w9
        have QR : Hid (w9.heap[w.heap.size + 1 + 1]? = some (.cells #[.int .i64 rk, .int .i64 rn] 41 (0, 0))) := by rw [← hw9]; exact setRow_heap _ _ _ _ _ _ B27.out
        have K9 : Hid (Below w.heap.size w w9) := by rw [← hw9]; exact Below.set_row K7.out (by omega) _
        clear hw9
        go_wp2_with fail
        have q0 := cell_of_row w9 (w.heap.size + 1 + 1) 0 _ _ _ QR.out
        have q1 := cell_of_row w9 (w.heap.size + 1 + 1) 1 _ _ _ QR.out
        refine bodyPost_ret (v := (.tuple #[.agg #[.int .i64 rk, .int .i64 rn], .int .i64 (-1)])) (by simp [results, Tryd.results33, go_sem, q0, q1]) rfl ⟨rfl, K9.out⟩
      · have ne : (pn == qn) = false := beq_eq_false_iff_ne.2 e2
        rw [show (pk == pk && pn == qn) = false from by rw [ne]; simp]
        clear e2
        have RC := otruth_c false
        obtain ⟨r, hr⟩ : ∃ r, truthM false = r := ⟨_, rfl⟩
        rw [hr] at RC ⊢
        clear hr
        obtain ⟨rk, rn⟩ := r
        have HRC := Lib.hid RC
        clear RC
        unfold GivesV
        dsimp only at HRC ⊢
        obtain ⟨w0, hw0⟩ : ∃ w0, w0 = ((w.alloc (.cells #[.int .i64 ka, .int .i64 na] 41)).alloc (.cells #[.int .i64 kb, .int .i64 nb] 41)).alloc (.cells #[.int .i64 0, .int .i64 0] 41) := ⟨_, rfl⟩
        have K0 : Hid (Below w.heap.size w w0) := by rw [hw0]; exact (below_two' w _ _).alloc (by simp; omega) _
        have B0 : Hid (w0.heap[w.heap.size]? = some (.cells #[.int .i64 ka, .int .i64 na] 41 (0, 0))) := by rw [hw0]; exact heap_old (heap_old (heap_last w _) _) _
        have B1 : Hid (w0.heap[w.heap.size + 1]? = some (.cells #[.int .i64 kb, .int .i64 nb] 41 (0, 0))) := by rw [hw0]; exact heap_old (heap_two _ _ _) _
        have B2 : Hid (w0.heap[w.heap.size + 1 + 1]? = some (.cells #[.int .i64 0, .int .i64 0] 41 (0, 0))) := by rw [hw0]; exact heap_three _ _ _ _
        have hz : w.heap.size + 1 + 1 < w0.heap.size := (Array.getElem?_eq_some_iff.1 B2.out).1
        have R0 : Hid (w0.rangeAt (w.heap.size) 0 [.int .i64 ka, .int .i64 na]) := (HeadAt.of_row B0.out).range
        have R1 : Hid (w0.rangeAt (w.heap.size + 1) 0 [.int .i64 kb, .int .i64 nb]) := (HeadAt.of_row B1.out).range
        have R2 : Hid (w0.rangeAt (w.heap.size + 1 + 1) 0 [.int .i64 0, .int .i64 0]) := (HeadAt.of_row B2.out).range
        have HW := Lib.hid hw0
        clear hw0
        go_enter Tryd.func33, Tryd.ntmps33
        go_upto_region 1 with fail
        rw [← HW.out]
        have RU : Hid (∀ E : Up w0, E.to.rangeAt w.heap.size 0 [.int .i64 ka, .int .i64 na]) := fun E a u hu => E.cell (R0.out a u hu)
        have RV : Hid (∀ E : Up w0, E.to.rangeAt (w.heap.size + 1) 0 [.int .i64 kb, .int .i64 nb]) := fun E a u hu => E.cell (R1.out a u hu)
        refine wp_region_up_tail 4 (by kernel_rfl) (by kernel_rfl) ?_
        simp only [List.take_succ_cons, List.take_zero, List.drop_succ_cons, List.drop_zero]
        repeat (first
          | (refine wpQuiet_load_up 41 _ rfl rfl w.heap.size 0 rfl [.int .i64 ka, .int .i64 na] _ RU.out Tryd.underlying41 rfl infoValC ?_; go_simp)
          | (refine wpQuiet_load_up 41 _ rfl rfl (w.heap.size + 1) 0 rfl [.int .i64 kb, .int .i64 nb] _ RV.out Tryd.underlying41 rfl infoValC ?_; go_simp)
          | go_big_quiet_step ((go_at_call 61; first | exact Calls.up (HTA.out _) | exact Calls.up (HTB.out _))))
        refine wpQuiet_nil ?_
        first | (rintro _ ⟨E, rfl⟩) | (intro E) | (rename_i E)
        obtain ⟨w5, k5⟩ := E
        dsimp only
        have K5 : Hid (Below w.heap.size w w5) := K0.out.trans (k5.mono K0.out.size)
        have B05 : Hid (w5.heap[w.heap.size]? = some (.cells #[.int .i64 ka, .int .i64 na] 41 (0, 0))) := (k5.block _ (Array.getElem?_eq_some_iff.1 B0.out).1).trans B0.out
        have R05 : Hid (w5.rangeAt (w.heap.size) 0 [.int .i64 ka, .int .i64 na]) := (HeadAt.of_row B05.out).range
        have B15 : Hid (w5.heap[w.heap.size + 1]? = some (.cells #[.int .i64 kb, .int .i64 nb] 41 (0, 0))) := (k5.block _ (Array.getElem?_eq_some_iff.1 B1.out).1).trans B1.out
        have R15 : Hid (w5.rangeAt (w.heap.size + 1) 0 [.int .i64 kb, .int .i64 nb]) := (HeadAt.of_row B15.out).range
        have B25 : Hid (w5.heap[w.heap.size + 1 + 1]? = some (.cells #[.int .i64 0, .int .i64 0] 41 (0, 0))) := (k5.block _ (Array.getElem?_eq_some_iff.1 B2.out).1).trans B2.out
        have R25 : Hid (w5.rangeAt (w.heap.size + 1 + 1) 0 [.int .i64 0, .int .i64 0]) := (HeadAt.of_row B25.out).range
        clear k5 RU RV
        refine wpList_store_row rfl 41 _ _ rfl (w.heap.size) #[.int .i64 pk, .int .i64 pn] rfl rfl 41 _ B05.out infoValC rfl (all_oneCell_toArray (by simp [Value.oneCell'])) ?_
        generalize ha : World.setRow _ _ _ = wa
        have Ka : Hid (Below w.heap.size w wa) := by rw [← ha]; exact Below.set_row K5.out (by omega) _
        have B0a : Hid (wa.heap[w.heap.size]? = some (.cells #[.int .i64 pk, .int .i64 pn] 41 (0, 0))) := by rw [← ha]; exact setRow_heap _ _ _ _ _ _ B05.out
        have R0a : Hid (wa.rangeAt (w.heap.size) 0 [.int .i64 pk, .int .i64 pn]) := (HeadAt.of_row B0a.out).range
        have B1a : Hid (wa.heap[w.heap.size + 1]? = some (.cells #[.int .i64 kb, .int .i64 nb] 41 (0, 0))) := by rw [← ha]; exact (setRow_other _ _ _ _ (by omega)).trans B15.out
        have R1a : Hid (wa.rangeAt (w.heap.size + 1) 0 [.int .i64 kb, .int .i64 nb]) := (HeadAt.of_row B1a.out).range
        have B2a : Hid (wa.heap[w.heap.size + 1 + 1]? = some (.cells #[.int .i64 0, .int .i64 0] 41 (0, 0))) := by rw [← ha]; exact (setRow_other _ _ _ _ (by omega)).trans B25.out
        have R2a : Hid (wa.rangeAt (w.heap.size + 1 + 1) 0 [.int .i64 0, .int .i64 0]) := (HeadAt.of_row B2a.out).range
        clear ha
        refine wpList_store_row rfl 41 _ _ rfl (w.heap.size + 1) #[.int .i64 pk, .int .i64 qn] rfl rfl 41 _ B1a.out infoValC rfl (all_oneCell_toArray (by simp [Value.oneCell'])) ?_
        generalize h6 : World.setRow _ _ _ = w6
        have K6 : Hid (Below w.heap.size w w6) := by rw [← h6]; exact Below.set_row Ka.out (by omega) _
        have B06 : Hid (w6.heap[w.heap.size]? = some (.cells #[.int .i64 pk, .int .i64 pn] 41 (0, 0))) := by rw [← h6]; exact (setRow_other _ _ _ _ (by omega)).trans B0a.out
        have R06 : Hid (w6.rangeAt (w.heap.size) 0 [.int .i64 pk, .int .i64 pn]) := (HeadAt.of_row B06.out).range
        have B16 : Hid (w6.heap[w.heap.size + 1]? = some (.cells #[.int .i64 pk, .int .i64 qn] 41 (0, 0))) := by rw [← h6]; exact setRow_heap _ _ _ _ _ _ B1a.out
        have R16 : Hid (w6.rangeAt (w.heap.size + 1) 0 [.int .i64 pk, .int .i64 qn]) := (HeadAt.of_row B16.out).range
        have B26 : Hid (w6.heap[w.heap.size + 1 + 1]? = some (.cells #[.int .i64 0, .int .i64 0] 41 (0, 0))) := by rw [← h6]; exact (setRow_other _ _ _ _ (by omega)).trans B2a.out
        have R26 : Hid (w6.rangeAt (w.heap.size + 1 + 1) 0 [.int .i64 0, .int .i64 0]) := (HeadAt.of_row B26.out).range
        clear h6
        dsimp only [Act.put]
        have x0 : w6.cell? ⟨w.heap.size, 0, none⟩ = some (.int .i64 pk) := cell_of_row w6 (w.heap.size) 0 _ _ _ B06.out
        have x1 : w6.cell? ⟨w.heap.size, 1, none⟩ = some (.int .i64 pn) := cell_of_row w6 (w.heap.size) 1 _ _ _ B06.out
        have y0 : w6.cell? ⟨w.heap.size + 1, 0, none⟩ = some (.int .i64 pk) := cell_of_row w6 (w.heap.size + 1) 0 _ _ _ B16.out
        have y1 : w6.cell? ⟨w.heap.size + 1, 1, none⟩ = some (.int .i64 qn) := cell_of_row w6 (w.heap.size + 1) 1 _ _ _ B16.out
        go_wp2_with (first | (refine wpList_load_mid rfl 41 _ rfl (w.heap.size) 0 rfl [.int .i64 pk, .int .i64 pn] _ R06.out Tryd.underlying41 rfl infoValC ?_) | (refine wpList_load_mid rfl 41 _ rfl (w.heap.size + 1) 0 rfl [.int .i64 pk, .int .i64 qn] _ R16.out Tryd.underlying41 rfl infoValC ?_) | fail)
        refine (HRC.out _).mono ?_
        rintro e w7 ⟨rfl, k7⟩
        have K7 : Hid (Below w.heap.size w w7) := K6.out.trans (k7.mono K6.out.size)
        have B07 : Hid (w7.heap[w.heap.size]? = some (.cells #[.int .i64 pk, .int .i64 pn] 41 (0, 0))) := (k7.block _ (Array.getElem?_eq_some_iff.1 B06.out).1).trans B06.out
        have R07 : Hid (w7.rangeAt (w.heap.size) 0 [.int .i64 pk, .int .i64 pn]) := (HeadAt.of_row B07.out).range
        have B17 : Hid (w7.heap[w.heap.size + 1]? = some (.cells #[.int .i64 pk, .int .i64 qn] 41 (0, 0))) := (k7.block _ (Array.getElem?_eq_some_iff.1 B16.out).1).trans B16.out
        have R17 : Hid (w7.rangeAt (w.heap.size + 1) 0 [.int .i64 pk, .int .i64 qn]) := (HeadAt.of_row B17.out).range
        have B27 : Hid (w7.heap[w.heap.size + 1 + 1]? = some (.cells #[.int .i64 0, .int .i64 0] 41 (0, 0))) := (k7.block _ (Array.getElem?_eq_some_iff.1 B26.out).1).trans B26.out
        have R27 : Hid (w7.rangeAt (w.heap.size + 1 + 1) 0 [.int .i64 0, .int .i64 0]) := (HeadAt.of_row B27.out).range
        clear k7
        go_wp2_with (first | (refine wpList_store_row rfl 41 _ _ rfl (w.heap.size + 1 + 1) #[.int .i64 rk, .int .i64 rn] rfl rfl 41 _ B27.out infoValC rfl (all_oneCell_toArray (by simp [Value.oneCell'])) ?_))
        generalize hw9 : World.setRow _ _ _ = w9
        have QR : Hid (w9.heap[w.heap.size + 1 + 1]? = some (.cells #[.int .i64 rk, .int .i64 rn] 41 (0, 0))) := by rw [← hw9]; exact setRow_heap _ _ _ _ _ _ B27.out
        have K9 : Hid (Below w.heap.size w w9) := by rw [← hw9]; exact Below.set_row K7.out (by omega) _
        clear hw9
        go_wp2_with fail
        have q0 := cell_of_row w9 (w.heap.size + 1 + 1) 0 _ _ _ QR.out
        have q1 := cell_of_row w9 (w.heap.size + 1 + 1) 1 _ _ _ QR.out
        refine bodyPost_ret (v := (.tuple #[.agg #[.int .i64 rk, .int .i64 rn], .int .i64 (-1)])) (by simp [results, Tryd.results33, go_sem, q0, q1]) rfl ⟨rfl, K9.out⟩
    · have ne : (pk == qk) = false := beq_eq_false_iff_ne.2 e1
      rw [ne, Bool.false_and]
      clear e1
      have RC := otruth_c false
      obtain ⟨r, hr⟩ : ∃ r, truthM false = r := ⟨_, rfl⟩
      rw [hr] at RC ⊢
      clear hr
      obtain ⟨rk, rn⟩ := r
      have HRC := Lib.hid RC
      clear RC
      unfold GivesV
      dsimp only at HRC ⊢
      obtain ⟨w0, hw0⟩ : ∃ w0, w0 = ((w.alloc (.cells #[.int .i64 ka, .int .i64 na] 41)).alloc (.cells #[.int .i64 kb, .int .i64 nb] 41)).alloc (.cells #[.int .i64 0, .int .i64 0] 41) := ⟨_, rfl⟩
      have K0 : Hid (Below w.heap.size w w0) := by rw [hw0]; exact (below_two' w _ _).alloc (by simp; omega) _
      have B0 : Hid (w0.heap[w.heap.size]? = some (.cells #[.int .i64 ka, .int .i64 na] 41 (0, 0))) := by rw [hw0]; exact heap_old (heap_old (heap_last w _) _) _
      have B1 : Hid (w0.heap[w.heap.size + 1]? = some (.cells #[.int .i64 kb, .int .i64 nb] 41 (0, 0))) := by rw [hw0]; exact heap_old (heap_two _ _ _) _
      have B2 : Hid (w0.heap[w.heap.size + 1 + 1]? = some (.cells #[.int .i64 0, .int .i64 0] 41 (0, 0))) := by rw [hw0]; exact heap_three _ _ _ _
      have hz : w.heap.size + 1 + 1 < w0.heap.size := (Array.getElem?_eq_some_iff.1 B2.out).1
      have R0 : Hid (w0.rangeAt (w.heap.size) 0 [.int .i64 ka, .int .i64 na]) := (HeadAt.of_row B0.out).range
      have R1 : Hid (w0.rangeAt (w.heap.size + 1) 0 [.int .i64 kb, .int .i64 nb]) := (HeadAt.of_row B1.out).range
      have R2 : Hid (w0.rangeAt (w.heap.size + 1 + 1) 0 [.int .i64 0, .int .i64 0]) := (HeadAt.of_row B2.out).range
      have HW := Lib.hid hw0
      clear hw0
      go_enter Tryd.func33, Tryd.ntmps33
      go_upto_region 1 with fail
      rw [← HW.out]
      have RU : Hid (∀ E : Up w0, E.to.rangeAt w.heap.size 0 [.int .i64 ka, .int .i64 na]) := fun E a u hu => E.cell (R0.out a u hu)
      have RV : Hid (∀ E : Up w0, E.to.rangeAt (w.heap.size + 1) 0 [.int .i64 kb, .int .i64 nb]) := fun E a u hu => E.cell (R1.out a u hu)
      refine wp_region_up_tail 4 (by kernel_rfl) (by kernel_rfl) ?_
      simp only [List.take_succ_cons, List.take_zero, List.drop_succ_cons, List.drop_zero]
      repeat (first
        | (refine wpQuiet_load_up 41 _ rfl rfl w.heap.size 0 rfl [.int .i64 ka, .int .i64 na] _ RU.out Tryd.underlying41 rfl infoValC ?_; go_simp)
        | (refine wpQuiet_load_up 41 _ rfl rfl (w.heap.size + 1) 0 rfl [.int .i64 kb, .int .i64 nb] _ RV.out Tryd.underlying41 rfl infoValC ?_; go_simp)
        | go_big_quiet_step ((go_at_call 61; first | exact Calls.up (HTA.out _) | exact Calls.up (HTB.out _))))
      refine wpQuiet_nil ?_
      first | (rintro _ ⟨E, rfl⟩) | (intro E) | (rename_i E)
      obtain ⟨w5, k5⟩ := E
      dsimp only
      have K5 : Hid (Below w.heap.size w w5) := K0.out.trans (k5.mono K0.out.size)
      have B05 : Hid (w5.heap[w.heap.size]? = some (.cells #[.int .i64 ka, .int .i64 na] 41 (0, 0))) := (k5.block _ (Array.getElem?_eq_some_iff.1 B0.out).1).trans B0.out
      have R05 : Hid (w5.rangeAt (w.heap.size) 0 [.int .i64 ka, .int .i64 na]) := (HeadAt.of_row B05.out).range
      have B15 : Hid (w5.heap[w.heap.size + 1]? = some (.cells #[.int .i64 kb, .int .i64 nb] 41 (0, 0))) := (k5.block _ (Array.getElem?_eq_some_iff.1 B1.out).1).trans B1.out
      have R15 : Hid (w5.rangeAt (w.heap.size + 1) 0 [.int .i64 kb, .int .i64 nb]) := (HeadAt.of_row B15.out).range
      have B25 : Hid (w5.heap[w.heap.size + 1 + 1]? = some (.cells #[.int .i64 0, .int .i64 0] 41 (0, 0))) := (k5.block _ (Array.getElem?_eq_some_iff.1 B2.out).1).trans B2.out
      have R25 : Hid (w5.rangeAt (w.heap.size + 1 + 1) 0 [.int .i64 0, .int .i64 0]) := (HeadAt.of_row B25.out).range
      clear k5 RU RV
      refine wpList_store_row rfl 41 _ _ rfl (w.heap.size) #[.int .i64 pk, .int .i64 pn] rfl rfl 41 _ B05.out infoValC rfl (all_oneCell_toArray (by simp [Value.oneCell'])) ?_
      generalize ha : World.setRow _ _ _ = wa
      have Ka : Hid (Below w.heap.size w wa) := by rw [← ha]; exact Below.set_row K5.out (by omega) _
      have B0a : Hid (wa.heap[w.heap.size]? = some (.cells #[.int .i64 pk, .int .i64 pn] 41 (0, 0))) := by rw [← ha]; exact setRow_heap _ _ _ _ _ _ B05.out
      have R0a : Hid (wa.rangeAt (w.heap.size) 0 [.int .i64 pk, .int .i64 pn]) := (HeadAt.of_row B0a.out).range
      have B1a : Hid (wa.heap[w.heap.size + 1]? = some (.cells #[.int .i64 kb, .int .i64 nb] 41 (0, 0))) := by rw [← ha]; exact (setRow_other _ _ _ _ (by omega)).trans B15.out
      have R1a : Hid (wa.rangeAt (w.heap.size + 1) 0 [.int .i64 kb, .int .i64 nb]) := (HeadAt.of_row B1a.out).range
      have B2a : Hid (wa.heap[w.heap.size + 1 + 1]? = some (.cells #[.int .i64 0, .int .i64 0] 41 (0, 0))) := by rw [← ha]; exact (setRow_other _ _ _ _ (by omega)).trans B25.out
      have R2a : Hid (wa.rangeAt (w.heap.size + 1 + 1) 0 [.int .i64 0, .int .i64 0]) := (HeadAt.of_row B2a.out).range
      clear ha
      refine wpList_store_row rfl 41 _ _ rfl (w.heap.size + 1) #[.int .i64 qk, .int .i64 qn] rfl rfl 41 _ B1a.out infoValC rfl (all_oneCell_toArray (by simp [Value.oneCell'])) ?_
      generalize h6 : World.setRow _ _ _ = w6
      have K6 : Hid (Below w.heap.size w w6) := by rw [← h6]; exact Below.set_row Ka.out (by omega) _
      have B06 : Hid (w6.heap[w.heap.size]? = some (.cells #[.int .i64 pk, .int .i64 pn] 41 (0, 0))) := by rw [← h6]; exact (setRow_other _ _ _ _ (by omega)).trans B0a.out
      have R06 : Hid (w6.rangeAt (w.heap.size) 0 [.int .i64 pk, .int .i64 pn]) := (HeadAt.of_row B06.out).range
      have B16 : Hid (w6.heap[w.heap.size + 1]? = some (.cells #[.int .i64 qk, .int .i64 qn] 41 (0, 0))) := by rw [← h6]; exact setRow_heap _ _ _ _ _ _ B1a.out
      have R16 : Hid (w6.rangeAt (w.heap.size + 1) 0 [.int .i64 qk, .int .i64 qn]) := (HeadAt.of_row B16.out).range
      have B26 : Hid (w6.heap[w.heap.size + 1 + 1]? = some (.cells #[.int .i64 0, .int .i64 0] 41 (0, 0))) := by rw [← h6]; exact (setRow_other _ _ _ _ (by omega)).trans B2a.out
      have R26 : Hid (w6.rangeAt (w.heap.size + 1 + 1) 0 [.int .i64 0, .int .i64 0]) := (HeadAt.of_row B26.out).range
      clear h6
      dsimp only [Act.put]
      have x0 : w6.cell? ⟨w.heap.size, 0, none⟩ = some (.int .i64 pk) := cell_of_row w6 (w.heap.size) 0 _ _ _ B06.out
      have x1 : w6.cell? ⟨w.heap.size, 1, none⟩ = some (.int .i64 pn) := cell_of_row w6 (w.heap.size) 1 _ _ _ B06.out
      have y0 : w6.cell? ⟨w.heap.size + 1, 0, none⟩ = some (.int .i64 qk) := cell_of_row w6 (w.heap.size + 1) 0 _ _ _ B16.out
      have y1 : w6.cell? ⟨w.heap.size + 1, 1, none⟩ = some (.int .i64 qn) := cell_of_row w6 (w.heap.size + 1) 1 _ _ _ B16.out
      go_wp2_with (first | (refine wpList_load_mid rfl 41 _ rfl (w.heap.size) 0 rfl [.int .i64 pk, .int .i64 pn] _ R06.out Tryd.underlying41 rfl infoValC ?_) | (refine wpList_load_mid rfl 41 _ rfl (w.heap.size + 1) 0 rfl [.int .i64 qk, .int .i64 qn] _ R16.out Tryd.underlying41 rfl infoValC ?_) | fail)
      refine (HRC.out _).mono ?_
      rintro e w7 ⟨rfl, k7⟩
      have K7 : Hid (Below w.heap.size w w7) := K6.out.trans (k7.mono K6.out.size)
      have B07 : Hid (w7.heap[w.heap.size]? = some (.cells #[.int .i64 pk, .int .i64 pn] 41 (0, 0))) := (k7.block _ (Array.getElem?_eq_some_iff.1 B06.out).1).trans B06.out
      have R07 : Hid (w7.rangeAt (w.heap.size) 0 [.int .i64 pk, .int .i64 pn]) := (HeadAt.of_row B07.out).range
      have B17 : Hid (w7.heap[w.heap.size + 1]? = some (.cells #[.int .i64 qk, .int .i64 qn] 41 (0, 0))) := (k7.block _ (Array.getElem?_eq_some_iff.1 B16.out).1).trans B16.out
      have R17 : Hid (w7.rangeAt (w.heap.size + 1) 0 [.int .i64 qk, .int .i64 qn]) := (HeadAt.of_row B17.out).range
      have B27 : Hid (w7.heap[w.heap.size + 1 + 1]? = some (.cells #[.int .i64 0, .int .i64 0] 41 (0, 0))) := (k7.block _ (Array.getElem?_eq_some_iff.1 B26.out).1).trans B26.out
      have R27 : Hid (w7.rangeAt (w.heap.size + 1 + 1) 0 [.int .i64 0, .int .i64 0]) := (HeadAt.of_row B27.out).range
      clear k7
      go_wp2_with (first | (refine wpList_store_row rfl 41 _ _ rfl (w.heap.size + 1 + 1) #[.int .i64 rk, .int .i64 rn] rfl rfl 41 _ B27.out infoValC rfl (all_oneCell_toArray (by simp [Value.oneCell'])) ?_))
      generalize hw9 : World.setRow _ _ _ = w9
      have QR : Hid (w9.heap[w.heap.size + 1 + 1]? = some (.cells #[.int .i64 rk, .int .i64 rn] 41 (0, 0))) := by rw [← hw9]; exact setRow_heap _ _ _ _ _ _ B27.out
      have K9 : Hid (Below w.heap.size w w9) := by rw [← hw9]; exact Below.set_row K7.out (by omega) _
      clear hw9
      go_wp2_with fail
      have q0 := cell_of_row w9 (w.heap.size + 1 + 1) 0 _ _ _ QR.out
      have q1 := cell_of_row w9 (w.heap.size + 1 + 1) 1 _ _ _ QR.out
      refine bodyPost_ret (v := (.tuple #[.agg #[.int .i64 rk, .int .i64 rn], .int .i64 (-1)])) (by simp [results, Tryd.results33, go_sem, q0, q1]) rfl ⟨rfl, K9.out⟩
  rw [if_neg c8]
  have n8 : (op == 8) = false := beq_eq_false_iff_ne.2 c8
  clear c8
  by_cases p2 : pk = 2
  · subst p2
    clear np3
    by_cases q2 : qk = 2
    · subst q2
      rw [if_pos ⟨rfl, rfl⟩]
      have RC := wholes_c op pn qn
      obtain ⟨r, hr⟩ : ∃ r, wholesM op pn qn = r := ⟨_, rfl⟩
      rw [hr] at RC ⊢
      clear hr
      obtain ⟨⟨rk, rn⟩, th⟩ := r
      have HRC := Lib.hid RC
      clear RC
      unfold GivesV at HRC ⊢
      dsimp only at HRC ⊢
      obtain ⟨w0, hw0⟩ : ∃ w0, w0 = ((w.alloc (.cells #[.int .i64 ka, .int .i64 na] 41)).alloc (.cells #[.int .i64 kb, .int .i64 nb] 41)).alloc (.cells #[.int .i64 0, .int .i64 0] 41) := ⟨_, rfl⟩
      have K0 : Hid (Below w.heap.size w w0) := by rw [hw0]; exact (below_two' w _ _).alloc (by simp; omega) _
      have B0 : Hid (w0.heap[w.heap.size]? = some (.cells #[.int .i64 ka, .int .i64 na] 41 (0, 0))) := by rw [hw0]; exact heap_old (heap_old (heap_last w _) _) _
      have B1 : Hid (w0.heap[w.heap.size + 1]? = some (.cells #[.int .i64 kb, .int .i64 nb] 41 (0, 0))) := by rw [hw0]; exact heap_old (heap_two _ _ _) _
      have B2 : Hid (w0.heap[w.heap.size + 1 + 1]? = some (.cells #[.int .i64 0, .int .i64 0] 41 (0, 0))) := by rw [hw0]; exact heap_three _ _ _ _
      have hz : w.heap.size + 1 + 1 < w0.heap.size := (Array.getElem?_eq_some_iff.1 B2.out).1
      have R0 : Hid (w0.rangeAt (w.heap.size) 0 [.int .i64 ka, .int .i64 na]) := (HeadAt.of_row B0.out).range
      have R1 : Hid (w0.rangeAt (w.heap.size + 1) 0 [.int .i64 kb, .int .i64 nb]) := (HeadAt.of_row B1.out).range
      have R2 : Hid (w0.rangeAt (w.heap.size + 1 + 1) 0 [.int .i64 0, .int .i64 0]) := (HeadAt.of_row B2.out).range
      have HW := Lib.hid hw0
      clear hw0
      go_enter Tryd.func33, Tryd.ntmps33
      go_upto_region 1 with fail
      rw [← HW.out]
      have RU : Hid (∀ E : Up w0, E.to.rangeAt w.heap.size 0 [.int .i64 ka, .int .i64 na]) := fun E a u hu => E.cell (R0.out a u hu)
      have RV : Hid (∀ E : Up w0, E.to.rangeAt (w.heap.size + 1) 0 [.int .i64 kb, .int .i64 nb]) := fun E a u hu => E.cell (R1.out a u hu)
      refine wp_region_up_tail 4 (by kernel_rfl) (by kernel_rfl) ?_
      simp only [List.take_succ_cons, List.take_zero, List.drop_succ_cons, List.drop_zero]
      repeat (first
        | (refine wpQuiet_load_up 41 _ rfl rfl w.heap.size 0 rfl [.int .i64 ka, .int .i64 na] _ RU.out Tryd.underlying41 rfl infoValC ?_; go_simp)
        | (refine wpQuiet_load_up 41 _ rfl rfl (w.heap.size + 1) 0 rfl [.int .i64 kb, .int .i64 nb] _ RV.out Tryd.underlying41 rfl infoValC ?_; go_simp)
        | go_big_quiet_step ((go_at_call 61; first | exact Calls.up (HTA.out _) | exact Calls.up (HTB.out _))))
      refine wpQuiet_nil ?_
      first | (rintro _ ⟨E, rfl⟩) | (intro E) | (rename_i E)
      obtain ⟨w5, k5⟩ := E
      dsimp only
      have K5 : Hid (Below w.heap.size w w5) := K0.out.trans (k5.mono K0.out.size)
      have B05 : Hid (w5.heap[w.heap.size]? = some (.cells #[.int .i64 ka, .int .i64 na] 41 (0, 0))) := (k5.block _ (Array.getElem?_eq_some_iff.1 B0.out).1).trans B0.out
      have R05 : Hid (w5.rangeAt (w.heap.size) 0 [.int .i64 ka, .int .i64 na]) := (HeadAt.of_row B05.out).range
      have B15 : Hid (w5.heap[w.heap.size + 1]? = some (.cells #[.int .i64 kb, .int .i64 nb] 41 (0, 0))) := (k5.block _ (Array.getElem?_eq_some_iff.1 B1.out).1).trans B1.out
      have R15 : Hid (w5.rangeAt (w.heap.size + 1) 0 [.int .i64 kb, .int .i64 nb]) := (HeadAt.of_row B15.out).range
      have B25 : Hid (w5.heap[w.heap.size + 1 + 1]? = some (.cells #[.int .i64 0, .int .i64 0] 41 (0, 0))) := (k5.block _ (Array.getElem?_eq_some_iff.1 B2.out).1).trans B2.out
      have R25 : Hid (w5.rangeAt (w.heap.size + 1 + 1) 0 [.int .i64 0, .int .i64 0]) := (HeadAt.of_row B25.out).range
      clear k5 RU RV
      refine wpList_store_row rfl 41 _ _ rfl (w.heap.size) #[.int .i64 2, .int .i64 pn] rfl rfl 41 _ B05.out infoValC rfl (all_oneCell_toArray (by simp [Value.oneCell'])) ?_
      generalize ha : World.setRow _ _ _ = wa
      have Ka : Hid (Below w.heap.size w wa) := by rw [← ha]; exact Below.set_row K5.out (by omega) _
      have B0a : Hid (wa.heap[w.heap.size]? = some (.cells #[.int .i64 2, .int .i64 pn] 41 (0, 0))) := by rw [← ha]; exact setRow_heap _ _ _ _ _ _ B05.out
      have R0a : Hid (wa.rangeAt (w.heap.size) 0 [.int .i64 2, .int .i64 pn]) := (HeadAt.of_row B0a.out).range
      have B1a : Hid (wa.heap[w.heap.size + 1]? = some (.cells #[.int .i64 kb, .int .i64 nb] 41 (0, 0))) := by rw [← ha]; exact (setRow_other _ _ _ _ (by omega)).trans B15.out
      have R1a : Hid (wa.rangeAt (w.heap.size + 1) 0 [.int .i64 kb, .int .i64 nb]) := (HeadAt.of_row B1a.out).range
      have B2a : Hid (wa.heap[w.heap.size + 1 + 1]? = some (.cells #[.int .i64 0, .int .i64 0] 41 (0, 0))) := by rw [← ha]; exact (setRow_other _ _ _ _ (by omega)).trans B25.out
      have R2a : Hid (wa.rangeAt (w.heap.size + 1 + 1) 0 [.int .i64 0, .int .i64 0]) := (HeadAt.of_row B2a.out).range
      clear ha
      refine wpList_store_row rfl 41 _ _ rfl (w.heap.size + 1) #[.int .i64 2, .int .i64 qn] rfl rfl 41 _ B1a.out infoValC rfl (all_oneCell_toArray (by simp [Value.oneCell'])) ?_
      generalize h6 : World.setRow _ _ _ = w6
      have K6 : Hid (Below w.heap.size w w6) := by rw [← h6]; exact Below.set_row Ka.out (by omega) _
      have B06 : Hid (w6.heap[w.heap.size]? = some (.cells #[.int .i64 2, .int .i64 pn] 41 (0, 0))) := by rw [← h6]; exact (setRow_other _ _ _ _ (by omega)).trans B0a.out
      have R06 : Hid (w6.rangeAt (w.heap.size) 0 [.int .i64 2, .int .i64 pn]) := (HeadAt.of_row B06.out).range
      have B16 : Hid (w6.heap[w.heap.size + 1]? = some (.cells #[.int .i64 2, .int .i64 qn] 41 (0, 0))) := by rw [← h6]; exact setRow_heap _ _ _ _ _ _ B1a.out
      have R16 : Hid (w6.rangeAt (w.heap.size + 1) 0 [.int .i64 2, .int .i64 qn]) := (HeadAt.of_row B16.out).range
      have B26 : Hid (w6.heap[w.heap.size + 1 + 1]? = some (.cells #[.int .i64 0, .int .i64 0] 41 (0, 0))) := by rw [← h6]; exact (setRow_other _ _ _ _ (by omega)).trans B2a.out
      have R26 : Hid (w6.rangeAt (w.heap.size + 1 + 1) 0 [.int .i64 0, .int .i64 0]) := (HeadAt.of_row B26.out).range
      clear h6
      dsimp only [Act.put]
      have x0 : w6.cell? ⟨w.heap.size, 0, none⟩ = some (.int .i64 2) := cell_of_row w6 (w.heap.size) 0 _ _ _ B06.out
      have x1 : w6.cell? ⟨w.heap.size, 1, none⟩ = some (.int .i64 pn) := cell_of_row w6 (w.heap.size) 1 _ _ _ B06.out
      have y0 : w6.cell? ⟨w.heap.size + 1, 0, none⟩ = some (.int .i64 2) := cell_of_row w6 (w.heap.size + 1) 0 _ _ _ B16.out
      have y1 : w6.cell? ⟨w.heap.size + 1, 1, none⟩ = some (.int .i64 qn) := cell_of_row w6 (w.heap.size + 1) 1 _ _ _ B16.out
      go_wp2_with (first | fail)
      refine (HRC.out _).mono ?_
      rintro e w7 ⟨rfl, k7⟩
      have K7 : Hid (Below w.heap.size w w7) := K6.out.trans (k7.mono K6.out.size)
      have B07 : Hid (w7.heap[w.heap.size]? = some (.cells #[.int .i64 2, .int .i64 pn] 41 (0, 0))) := (k7.block _ (Array.getElem?_eq_some_iff.1 B06.out).1).trans B06.out
      have R07 : Hid (w7.rangeAt (w.heap.size) 0 [.int .i64 2, .int .i64 pn]) := (HeadAt.of_row B07.out).range
      have B17 : Hid (w7.heap[w.heap.size + 1]? = some (.cells #[.int .i64 2, .int .i64 qn] 41 (0, 0))) := (k7.block _ (Array.getElem?_eq_some_iff.1 B16.out).1).trans B16.out
      have R17 : Hid (w7.rangeAt (w.heap.size + 1) 0 [.int .i64 2, .int .i64 qn]) := (HeadAt.of_row B17.out).range
      have B27 : Hid (w7.heap[w.heap.size + 1 + 1]? = some (.cells #[.int .i64 0, .int .i64 0] 41 (0, 0))) := (k7.block _ (Array.getElem?_eq_some_iff.1 B26.out).1).trans B26.out
      have R27 : Hid (w7.rangeAt (w.heap.size + 1 + 1) 0 [.int .i64 0, .int .i64 0]) := (HeadAt.of_row B27.out).range
      clear k7
      go_wp2_with (first | (refine wpList_store_row rfl 41 _ _ rfl (w.heap.size + 1 + 1) #[.int .i64 rk, .int .i64 rn] rfl rfl 41 _ B27.out infoValC rfl (all_oneCell_toArray (by simp [Value.oneCell'])) ?_))
      generalize hw9 : World.setRow _ _ _ = w9
      have QR : Hid (w9.heap[w.heap.size + 1 + 1]? = some (.cells #[.int .i64 rk, .int .i64 rn] 41 (0, 0))) := by rw [← hw9]; exact setRow_heap _ _ _ _ _ _ B27.out
      have K9 : Hid (Below w.heap.size w w9) := by rw [← hw9]; exact Below.set_row K7.out (by omega) _
      clear hw9
      go_wp2_with fail
      have q0 := cell_of_row w9 (w.heap.size + 1 + 1) 0 _ _ _ QR.out
      have q1 := cell_of_row w9 (w.heap.size + 1 + 1) 1 _ _ _ QR.out
      refine bodyPost_ret (v := (.tuple #[.agg #[.int .i64 rk, .int .i64 rn], .int .i64 th])) (by simp [results, Tryd.results33, go_sem, q0, q1]) rfl ⟨rfl, K9.out⟩
    rw [if_neg (fun h => q2 h.2)]
    have nq2 : (qk == 2) = false := beq_eq_false_iff_ne.2 q2
    clear q2
    have HRC := Lib.hid (ofail_c 0)
    unfold GivesV at HRC ⊢
    dsimp only at HRC ⊢
    obtain ⟨w0, hw0⟩ : ∃ w0, w0 = ((w.alloc (.cells #[.int .i64 ka, .int .i64 na] 41)).alloc (.cells #[.int .i64 kb, .int .i64 nb] 41)).alloc (.cells #[.int .i64 0, .int .i64 0] 41) := ⟨_, rfl⟩
    have K0 : Hid (Below w.heap.size w w0) := by rw [hw0]; exact (below_two' w _ _).alloc (by simp; omega) _
    have B0 : Hid (w0.heap[w.heap.size]? = some (.cells #[.int .i64 ka, .int .i64 na] 41 (0, 0))) := by rw [hw0]; exact heap_old (heap_old (heap_last w _) _) _
    have B1 : Hid (w0.heap[w.heap.size + 1]? = some (.cells #[.int .i64 kb, .int .i64 nb] 41 (0, 0))) := by rw [hw0]; exact heap_old (heap_two _ _ _) _
    have B2 : Hid (w0.heap[w.heap.size + 1 + 1]? = some (.cells #[.int .i64 0, .int .i64 0] 41 (0, 0))) := by rw [hw0]; exact heap_three _ _ _ _
    have hz : w.heap.size + 1 + 1 < w0.heap.size := (Array.getElem?_eq_some_iff.1 B2.out).1
    have R0 : Hid (w0.rangeAt (w.heap.size) 0 [.int .i64 ka, .int .i64 na]) := (HeadAt.of_row B0.out).range
    have R1 : Hid (w0.rangeAt (w.heap.size + 1) 0 [.int .i64 kb, .int .i64 nb]) := (HeadAt.of_row B1.out).range
    have R2 : Hid (w0.rangeAt (w.heap.size + 1 + 1) 0 [.int .i64 0, .int .i64 0]) := (HeadAt.of_row B2.out).range
    have HW := Lib.hid hw0
    clear hw0
    go_enter Tryd.func33, Tryd.ntmps33
    go_upto_region 1 with fail
    rw [← HW.out]
    have RU : Hid (∀ E : Up w0, E.to.rangeAt w.heap.size 0 [.int .i64 ka, .int .i64 na]) := fun E a u hu => E.cell (R0.out a u hu)
    have RV : Hid (∀ E : Up w0, E.to.rangeAt (w.heap.size + 1) 0 [.int .i64 kb, .int .i64 nb]) := fun E a u hu => E.cell (R1.out a u hu)
    refine wp_region_up_tail 4 (by kernel_rfl) (by kernel_rfl) ?_
    simp only [List.take_succ_cons, List.take_zero, List.drop_succ_cons, List.drop_zero]
    repeat (first
      | (refine wpQuiet_load_up 41 _ rfl rfl w.heap.size 0 rfl [.int .i64 ka, .int .i64 na] _ RU.out Tryd.underlying41 rfl infoValC ?_; go_simp)
      | (refine wpQuiet_load_up 41 _ rfl rfl (w.heap.size + 1) 0 rfl [.int .i64 kb, .int .i64 nb] _ RV.out Tryd.underlying41 rfl infoValC ?_; go_simp)
      | go_big_quiet_step ((go_at_call 61; first | exact Calls.up (HTA.out _) | exact Calls.up (HTB.out _))))
    refine wpQuiet_nil ?_
    first | (rintro _ ⟨E, rfl⟩) | (intro E) | (rename_i E)
    obtain ⟨w5, k5⟩ := E
    dsimp only
    have K5 : Hid (Below w.heap.size w w5) := K0.out.trans (k5.mono K0.out.size)
    have B05 : Hid (w5.heap[w.heap.size]? = some (.cells #[.int .i64 ka, .int .i64 na] 41 (0, 0))) := (k5.block _ (Array.getElem?_eq_some_iff.1 B0.out).1).trans B0.out
    have R05 : Hid (w5.rangeAt (w.heap.size) 0 [.int .i64 ka, .int .i64 na]) := (HeadAt.of_row B05.out).range
    have B15 : Hid (w5.heap[w.heap.size + 1]? = some (.cells #[.int .i64 kb, .int .i64 nb] 41 (0, 0))) := (k5.block _ (Array.getElem?_eq_some_iff.1 B1.out).1).trans B1.out
    have R15 : Hid (w5.rangeAt (w.heap.size + 1) 0 [.int .i64 kb, .int .i64 nb]) := (HeadAt.of_row B15.out).range
    have B25 : Hid (w5.heap[w.heap.size + 1 + 1]? = some (.cells #[.int .i64 0, .int .i64 0] 41 (0, 0))) := (k5.block _ (Array.getElem?_eq_some_iff.1 B2.out).1).trans B2.out
    have R25 : Hid (w5.rangeAt (w.heap.size + 1 + 1) 0 [.int .i64 0, .int .i64 0]) := (HeadAt.of_row B25.out).range
    clear k5 RU RV
    refine wpList_store_row rfl 41 _ _ rfl (w.heap.size) #[.int .i64 2, .int .i64 pn] rfl rfl 41 _ B05.out infoValC rfl (all_oneCell_toArray (by simp [Value.oneCell'])) ?_
    generalize ha : World.setRow _ _ _ = wa
    have Ka : Hid (Below w.heap.size w wa) := by rw [← ha]; exact Below.set_row K5.out (by omega) _
    have B0a : Hid (wa.heap[w.heap.size]? = some (.cells #[.int .i64 2, .int .i64 pn] 41 (0, 0))) := by rw [← ha]; exact setRow_heap _ _ _ _ _ _ B05.out
    have R0a : Hid (wa.rangeAt (w.heap.size) 0 [.int .i64 2, .int .i64 pn]) := (HeadAt.of_row B0a.out).range
    have B1a : Hid (wa.heap[w.heap.size + 1]? = some (.cells #[.int .i64 kb, .int .i64 nb] 41 (0, 0))) := by rw [← ha]; exact (setRow_other _ _ _ _ (by omega)).trans B15.out
    have R1a : Hid (wa.rangeAt (w.heap.size + 1) 0 [.int .i64 kb, .int .i64 nb]) := (HeadAt.of_row B1a.out).range
    have B2a : Hid (wa.heap[w.heap.size + 1 + 1]? = some (.cells #[.int .i64 0, .int .i64 0] 41 (0, 0))) := by rw [← ha]; exact (setRow_other _ _ _ _ (by omega)).trans B25.out
    have R2a : Hid (wa.rangeAt (w.heap.size + 1 + 1) 0 [.int .i64 0, .int .i64 0]) := (HeadAt.of_row B2a.out).range
    clear ha
    refine wpList_store_row rfl 41 _ _ rfl (w.heap.size + 1) #[.int .i64 qk, .int .i64 qn] rfl rfl 41 _ B1a.out infoValC rfl (all_oneCell_toArray (by simp [Value.oneCell'])) ?_
    generalize h6 : World.setRow _ _ _ = w6
    have K6 : Hid (Below w.heap.size w w6) := by rw [← h6]; exact Below.set_row Ka.out (by omega) _
    have B06 : Hid (w6.heap[w.heap.size]? = some (.cells #[.int .i64 2, .int .i64 pn] 41 (0, 0))) := by rw [← h6]; exact (setRow_other _ _ _ _ (by omega)).trans B0a.out
    have R06 : Hid (w6.rangeAt (w.heap.size) 0 [.int .i64 2, .int .i64 pn]) := (HeadAt.of_row B06.out).range
    have B16 : Hid (w6.heap[w.heap.size + 1]? = some (.cells #[.int .i64 qk, .int .i64 qn] 41 (0, 0))) := by rw [← h6]; exact setRow_heap _ _ _ _ _ _ B1a.out
    have R16 : Hid (w6.rangeAt (w.heap.size + 1) 0 [.int .i64 qk, .int .i64 qn]) := (HeadAt.of_row B16.out).range
    have B26 : Hid (w6.heap[w.heap.size + 1 + 1]? = some (.cells #[.int .i64 0, .int .i64 0] 41 (0, 0))) := by rw [← h6]; exact (setRow_other _ _ _ _ (by omega)).trans B2a.out
    have R26 : Hid (w6.rangeAt (w.heap.size + 1 + 1) 0 [.int .i64 0, .int .i64 0]) := (HeadAt.of_row B26.out).range
    clear h6
    dsimp only [Act.put]
    have x0 : w6.cell? ⟨w.heap.size, 0, none⟩ = some (.int .i64 2) := cell_of_row w6 (w.heap.size) 0 _ _ _ B06.out
    have x1 : w6.cell? ⟨w.heap.size, 1, none⟩ = some (.int .i64 pn) := cell_of_row w6 (w.heap.size) 1 _ _ _ B06.out
    have y0 : w6.cell? ⟨w.heap.size + 1, 0, none⟩ = some (.int .i64 qk) := cell_of_row w6 (w.heap.size + 1) 0 _ _ _ B16.out
    have y1 : w6.cell? ⟨w.heap.size + 1, 1, none⟩ = some (.int .i64 qn) := cell_of_row w6 (w.heap.size + 1) 1 _ _ _ B16.out
    go_wp2_with (first | fail)
    refine (HRC.out _).mono ?_
    rintro e w7 ⟨rfl, k7⟩
    have K7 : Hid (Below w.heap.size w w7) := K6.out.trans (k7.mono K6.out.size)
    have B07 : Hid (w7.heap[w.heap.size]? = some (.cells #[.int .i64 2, .int .i64 pn] 41 (0, 0))) := (k7.block _ (Array.getElem?_eq_some_iff.1 B06.out).1).trans B06.out
    have R07 : Hid (w7.rangeAt (w.heap.size) 0 [.int .i64 2, .int .i64 pn]) := (HeadAt.of_row B07.out).range
    have B17 : Hid (w7.heap[w.heap.size + 1]? = some (.cells #[.int .i64 qk, .int .i64 qn] 41 (0, 0))) := (k7.block _ (Array.getElem?_eq_some_iff.1 B16.out).1).trans B16.out
    have R17 : Hid (w7.rangeAt (w.heap.size + 1) 0 [.int .i64 qk, .int .i64 qn]) := (HeadAt.of_row B17.out).range
    have B27 : Hid (w7.heap[w.heap.size + 1 + 1]? = some (.cells #[.int .i64 0, .int .i64 0] 41 (0, 0))) := (k7.block _ (Array.getElem?_eq_some_iff.1 B26.out).1).trans B26.out
    have R27 : Hid (w7.rangeAt (w.heap.size + 1 + 1) 0 [.int .i64 0, .int .i64 0]) := (HeadAt.of_row B27.out).range
    clear k7
    go_wp2_with (first | (refine wpList_store_row rfl 41 _ _ rfl (w.heap.size + 1 + 1) #[.int .i64 0, .int .i64 0] rfl rfl 41 _ B27.out infoValC rfl (all_oneCell_toArray (by simp [Value.oneCell'])) ?_))
    generalize hw9 : World.setRow _ _ _ = w9
    have QR : Hid (w9.heap[w.heap.size + 1 + 1]? = some (.cells #[.int .i64 0, .int .i64 0] 41 (0, 0))) := by rw [← hw9]; exact setRow_heap _ _ _ _ _ _ B27.out
    have K9 : Hid (Below w.heap.size w w9) := by rw [← hw9]; exact Below.set_row K7.out (by omega) _
    clear hw9
    go_wp2_with fail
    have q0 := cell_of_row w9 (w.heap.size + 1 + 1) 0 _ _ _ QR.out
    have q1 := cell_of_row w9 (w.heap.size + 1 + 1) 1 _ _ _ QR.out
    refine bodyPost_ret (v := (.tuple #[.agg #[.int .i64 0, .int .i64 0], .int .i64 0])) (by simp [results, Tryd.results33, go_sem, q0, q1]) rfl ⟨rfl, K9.out⟩
  rw [if_neg (fun h => p2 h.1)]
  have np2 : (pk == 2) = false := beq_eq_false_iff_ne.2 p2
  clear p2
  have HRC := Lib.hid (ofail_c 0)
  unfold GivesV at HRC ⊢
  dsimp only at HRC ⊢
  obtain ⟨w0, hw0⟩ : ∃ w0, w0 = ((w.alloc (.cells #[.int .i64 ka, .int .i64 na] 41)).alloc (.cells #[.int .i64 kb, .int .i64 nb] 41)).alloc (.cells #[.int .i64 0, .int .i64 0] 41) := ⟨_, rfl⟩
  have K0 : Hid (Below w.heap.size w w0) := by rw [hw0]; exact (below_two' w _ _).alloc (by simp; omega) _
  have B0 : Hid (w0.heap[w.heap.size]? = some (.cells #[.int .i64 ka, .int .i64 na] 41 (0, 0))) := by rw [hw0]; exact heap_old (heap_old (heap_last w _) _) _
  have B1 : Hid (w0.heap[w.heap.size + 1]? = some (.cells #[.int .i64 kb, .int .i64 nb] 41 (0, 0))) := by rw [hw0]; exact heap_old (heap_two _ _ _) _
  have B2 : Hid (w0.heap[w.heap.size + 1 + 1]? = some (.cells #[.int .i64 0, .int .i64 0] 41 (0, 0))) := by rw [hw0]; exact heap_three _ _ _ _
  have hz : w.heap.size + 1 + 1 < w0.heap.size := (Array.getElem?_eq_some_iff.1 B2.out).1
  have R0 : Hid (w0.rangeAt (w.heap.size) 0 [.int .i64 ka, .int .i64 na]) := (HeadAt.of_row B0.out).range
  have R1 : Hid (w0.rangeAt (w.heap.size + 1) 0 [.int .i64 kb, .int .i64 nb]) := (HeadAt.of_row B1.out).range
  have R2 : Hid (w0.rangeAt (w.heap.size + 1 + 1) 0 [.int .i64 0, .int .i64 0]) := (HeadAt.of_row B2.out).range
  have HW := Lib.hid hw0
  clear hw0
  go_enter Tryd.func33, Tryd.ntmps33
  go_upto_region 1 with fail
  rw [← HW.out]
  have RU : Hid (∀ E : Up w0, E.to.rangeAt w.heap.size 0 [.int .i64 ka, .int .i64 na]) := fun E a u hu => E.cell (R0.out a u hu)
  have RV : Hid (∀ E : Up w0, E.to.rangeAt (w.heap.size + 1) 0 [.int .i64 kb, .int .i64 nb]) := fun E a u hu => E.cell (R1.out a u hu)
  refine wp_region_up_tail 4 (by kernel_rfl) (by kernel_rfl) ?_
  simp only [List.take_succ_cons, List.take_zero, List.drop_succ_cons, List.drop_zero]
  repeat (first
    | (refine wpQuiet_load_up 41 _ rfl rfl w.heap.size 0 rfl [.int .i64 ka, .int .i64 na] _ RU.out Tryd.underlying41 rfl infoValC ?_; go_simp)
    | (refine wpQuiet_load_up 41 _ rfl rfl (w.heap.size + 1) 0 rfl [.int .i64 kb, .int .i64 nb] _ RV.out Tryd.underlying41 rfl infoValC ?_; go_simp)
    | go_big_quiet_step ((go_at_call 61; first | exact Calls.up (HTA.out _) | exact Calls.up (HTB.out _))))
  refine wpQuiet_nil ?_
  first | (rintro _ ⟨E, rfl⟩) | (intro E) | (rename_i E)
  obtain ⟨w5, k5⟩ := E
  dsimp only
  have K5 : Hid (Below w.heap.size w w5) := K0.out.trans (k5.mono K0.out.size)
  have B05 : Hid (w5.heap[w.heap.size]? = some (.cells #[.int .i64 ka, .int .i64 na] 41 (0, 0))) := (k5.block _ (Array.getElem?_eq_some_iff.1 B0.out).1).trans B0.out
  have R05 : Hid (w5.rangeAt (w.heap.size) 0 [.int .i64 ka, .int .i64 na]) := (HeadAt.of_row B05.out).range
  have B15 : Hid (w5.heap[w.heap.size + 1]? = some (.cells #[.int .i64 kb, .int .i64 nb] 41 (0, 0))) := (k5.block _ (Array.getElem?_eq_some_iff.1 B1.out).1).trans B1.out
  have R15 : Hid (w5.rangeAt (w.heap.size + 1) 0 [.int .i64 kb, .int .i64 nb]) := (HeadAt.of_row B15.out).range
  have B25 : Hid (w5.heap[w.heap.size + 1 + 1]? = some (.cells #[.int .i64 0, .int .i64 0] 41 (0, 0))) := (k5.block _ (Array.getElem?_eq_some_iff.1 B2.out).1).trans B2.out
  have R25 : Hid (w5.rangeAt (w.heap.size + 1 + 1) 0 [.int .i64 0, .int .i64 0]) := (HeadAt.of_row B25.out).range
  clear k5 RU RV
  refine wpList_store_row rfl 41 _ _ rfl (w.heap.size) #[.int .i64 pk, .int .i64 pn] rfl rfl 41 _ B05.out infoValC rfl (all_oneCell_toArray (by simp [Value.oneCell'])) ?_
  generalize ha : World.setRow _ _ _ = wa
  have Ka : Hid (Below w.heap.size w wa) := by rw [← ha]; exact Below.set_row K5.out (by omega) _
  have B0a : Hid (wa.heap[w.heap.size]? = some (.cells #[.int .i64 pk, .int .i64 pn] 41 (0, 0))) := by rw [← ha]; exact setRow_heap _ _ _ _ _ _ B05.out
  have R0a : Hid (wa.rangeAt (w.heap.size) 0 [.int .i64 pk, .int .i64 pn]) := (HeadAt.of_row B0a.out).range
  have B1a : Hid (wa.heap[w.heap.size + 1]? = some (.cells #[.int .i64 kb, .int .i64 nb] 41 (0, 0))) := by rw [← ha]; exact (setRow_other _ _ _ _ (by omega)).trans B15.out
  have R1a : Hid (wa.rangeAt (w.heap.size + 1) 0 [.int .i64 kb, .int .i64 nb]) := (HeadAt.of_row B1a.out).range
  have B2a : Hid (wa.heap[w.heap.size + 1 + 1]? = some (.cells #[.int .i64 0, .int .i64 0] 41 (0, 0))) := by rw [← ha]; exact (setRow_other _ _ _ _ (by omega)).trans B25.out
  have R2a : Hid (wa.rangeAt (w.heap.size + 1 + 1) 0 [.int .i64 0, .int .i64 0]) := (HeadAt.of_row B2a.out).range
  clear ha
  refine wpList_store_row rfl 41 _ _ rfl (w.heap.size + 1) #[.int .i64 qk, .int .i64 qn] rfl rfl 41 _ B1a.out infoValC rfl (all_oneCell_toArray (by simp [Value.oneCell'])) ?_
  generalize h6 : World.setRow _ _ _ = w6
  have K6 : Hid (Below w.heap.size w w6) := by rw [← h6]; exact Below.set_row Ka.out (by omega) _
  have B06 : Hid (w6.heap[w.heap.size]? = some (.cells #[.int .i64 pk, .int .i64 pn] 41 (0, 0))) := by rw [← h6]; exact (setRow_other _ _ _ _ (by omega)).trans B0a.out
  have R06 : Hid (w6.rangeAt (w.heap.size) 0 [.int .i64 pk, .int .i64 pn]) := (HeadAt.of_row B06.out).range
  have B16 : Hid (w6.heap[w.heap.size + 1]? = some (.cells #[.int .i64 qk, .int .i64 qn] 41 (0, 0))) := by rw [← h6]; exact setRow_heap _ _ _ _ _ _ B1a.out
  have R16 : Hid (w6.rangeAt (w.heap.size + 1) 0 [.int .i64 qk, .int .i64 qn]) := (HeadAt.of_row B16.out).range
  have B26 : Hid (w6.heap[w.heap.size + 1 + 1]? = some (.cells #[.int .i64 0, .int .i64 0] 41 (0, 0))) := by rw [← h6]; exact (setRow_other _ _ _ _ (by omega)).trans B2a.out
  have R26 : Hid (w6.rangeAt (w.heap.size + 1 + 1) 0 [.int .i64 0, .int .i64 0]) := (HeadAt.of_row B26.out).range
  clear h6
  dsimp only [Act.put]
  have x0 : w6.cell? ⟨w.heap.size, 0, none⟩ = some (.int .i64 pk) := cell_of_row w6 (w.heap.size) 0 _ _ _ B06.out
  have x1 : w6.cell? ⟨w.heap.size, 1, none⟩ = some (.int .i64 pn) := cell_of_row w6 (w.heap.size) 1 _ _ _ B06.out
  have y0 : w6.cell? ⟨w.heap.size + 1, 0, none⟩ = some (.int .i64 qk) := cell_of_row w6 (w.heap.size + 1) 0 _ _ _ B16.out
  have y1 : w6.cell? ⟨w.heap.size + 1, 1, none⟩ = some (.int .i64 qn) := cell_of_row w6 (w.heap.size + 1) 1 _ _ _ B16.out
  go_wp2_with (first | fail)
  refine (HRC.out _).mono ?_
  rintro e w7 ⟨rfl, k7⟩
  have K7 : Hid (Below w.heap.size w w7) := K6.out.trans (k7.mono K6.out.size)
  have B07 : Hid (w7.heap[w.heap.size]? = some (.cells #[.int .i64 pk, .int .i64 pn] 41 (0, 0))) := (k7.block _ (Array.getElem?_eq_some_iff.1 B06.out).1).trans B06.out
  have R07 : Hid (w7.rangeAt (w.heap.size) 0 [.int .i64 pk, .int .i64 pn]) := (HeadAt.of_row B07.out).range
  have B17 : Hid (w7.heap[w.heap.size + 1]? = some (.cells #[.int .i64 qk, .int .i64 qn] 41 (0, 0))) := (k7.block _ (Array.getElem?_eq_some_iff.1 B16.out).1).trans B16.out
  have R17 : Hid (w7.rangeAt (w.heap.size + 1) 0 [.int .i64 qk, .int .i64 qn]) := (HeadAt.of_row B17.out).range
  have B27 : Hid (w7.heap[w.heap.size + 1 + 1]? = some (.cells #[.int .i64 0, .int .i64 0] 41 (0, 0))) := (k7.block _ (Array.getElem?_eq_some_iff.1 B26.out).1).trans B26.out
  have R27 : Hid (w7.rangeAt (w.heap.size + 1 + 1) 0 [.int .i64 0, .int .i64 0]) := (HeadAt.of_row B27.out).range
  clear k7
  go_wp2_with (first | (refine wpList_store_row rfl 41 _ _ rfl (w.heap.size + 1 + 1) #[.int .i64 0, .int .i64 0] rfl rfl 41 _ B27.out infoValC rfl (all_oneCell_toArray (by simp [Value.oneCell'])) ?_))
  generalize hw9 : World.setRow _ _ _ = w9
  have QR : Hid (w9.heap[w.heap.size + 1 + 1]? = some (.cells #[.int .i64 0, .int .i64 0] 41 (0, 0))) := by rw [← hw9]; exact setRow_heap _ _ _ _ _ _ B27.out
  have K9 : Hid (Below w.heap.size w w9) := by rw [← hw9]; exact Below.set_row K7.out (by omega) _
  clear hw9
  go_wp2_with fail
  have q0 := cell_of_row w9 (w.heap.size + 1 + 1) 0 _ _ _ QR.out
  have q1 := cell_of_row w9 (w.heap.size + 1 + 1) 1 _ _ _ QR.out
  refine bodyPost_ret (v := (.tuple #[.agg #[.int .i64 0, .int .i64 0], .int .i64 0])) (by simp [results, Tryd.results33, go_sem, q0, q1]) rfl ⟨rfl, K9.out⟩
end Go.Proofs.YtmccomeihnaanaaDoor
