/- fold: put. -/
import Derived.Test.YtmccomeihnaanaaDoorFoldI
import Derived.Test.YtmccomeihnaanaaDoorCseB
namespace Go.Proofs.YtmccomeihnaanaaDoor
open Go.RowKit

set_option maxHeartbeats 8000000 in
set_option maxRecDepth 100000 in
theorem fput_c (x : TIns) (uT : Value) (tl : List Int) (W : World) (hx : WfIns x) (hs : SliceR W W.heap.size 1 IntR uT tl) (ho : ∀ o ∈ asksM x, 0 ≤ o ∧ o < tl.length) (few : tl.length ≤ 300) :
    Calls Tryd.prog 59 #[insV x, uT] W (Gives (insV (putM (fun v => tl.getD v.toNat 0) x)) W) := by
  obtain ⟨A, cA, rfl, hc1, hc2, -⟩ := id hs
  unfold maxLen at hc2
  have HS := Lib.hid hs
  have HO := Lib.hid ho
  have WX := Lib.hid hx
  obtain ⟨w0, hw0⟩ : ∃ w0, w0 = (W.alloc (.cells ⟨insCells x⟩ 43)).alloc (.cells #[.int .i64 0, .int .i64 0, .int .i64 0, .int .i64 0, .int .i64 0, .int .i64 0, .int .i64 0, .int .i64 0] 43) := ⟨_, rfl⟩
  have K0 : Hid (Below W.heap.size W w0) := by rw [hw0]; exact below_two' _ _ _
  have X0 : Hid (w0.heap[W.heap.size]? = some (.cells ⟨insCells x⟩ 43 (0, 0))) := by rw [hw0]; exact heap_old (heap_last W _) _
  have Z0 : Hid (w0.heap[W.heap.size + 1]? = some (.cells #[.int .i64 0, .int .i64 0, .int .i64 0, .int .i64 0, .int .i64 0, .int .i64 0, .int .i64 0, .int .i64 0] 43 (0, 0))) := by rw [hw0]; exact heap_two _ _ _
  have hz0 : W.heap.size + 1 < w0.heap.size := (Array.getElem?_eq_some_iff.1 Z0.out).1
  unfold insCells at hw0
  have HW := Lib.hid hw0
  obtain ⟨y, hy⟩ : ∃ y, putM (fun v => tl.getD v.toNat 0) x = y := ⟨_, rfl⟩
  have XA : Hid (xCells tl (asksM x).length x = insCells y) := by
    rw [← hy]; exact xCells_all ⟨[], tl⟩ x
  rw [hy]
  clear hw0 hx hs ho hy
  unfold insV
  go_enter Tryd.func59, Tryd.ntmps59
  go_upto_region 1 with fail
  rw [← HW.out]
  obtain ⟨w1, hw1⟩ : ∃ w1, w1 = w0.alloc (.cells #[.pointer (some ⟨W.heap.size, 1, none⟩), .pointer (some ⟨W.heap.size, 2, none⟩), .pointer (some ⟨W.heap.size, 3, none⟩)] 84) := ⟨_, rfl⟩
  have L1 : Hid (Below w0.heap.size w0 w1) := by rw [hw1]; exact below_one _ _
  have K1 : Hid (Below W.heap.size W w1) := K0.out.trans (L1.out.mono K0.out.size)
  have P1 : Hid (w1.heap[w0.heap.size]? = some (.cells ⟨[.pointer (some ⟨W.heap.size, 1, none⟩), .pointer (some ⟨W.heap.size, 2, none⟩), .pointer (some ⟨W.heap.size, 3, none⟩)]⟩ 84 (0, 0))) := by rw [hw1]; exact heap_last _ _
  have X1 := Lib.hid ((L1.out.block _ (by omega)).trans X0.out)
  have Z1 := Lib.hid ((L1.out.block _ hz0).trans Z0.out)
  have hz1 : w0.heap.size < w1.heap.size := (Array.getElem?_eq_some_iff.1 P1.out).1
  have HW1 := Lib.hid hw1
  clear hw1
  go_upto_region 2 with fail
  rw [← HW1.out]
  have AC := Lib.hid (asks_c x WX.out w1)
  have RX : Hid (w1.rangeAt W.heap.size 0 (insCells x)) := (HeadAt.of_row X1.out).range
  have LX : Hid ((Tryd.prog.info? 43).map (·.size) = some (insCells x).length) := infoIns8
  go_wp2_with (first | (refine wpList_load_mid rfl 43 _ rfl W.heap.size 0 rfl (insCells x) _ RX.out Tryd.underlying43 rfl LX.out ?_) | fail)
  refine AC.out.mono ?_
  rintro e w2 ⟨v, rfl, hv, k2⟩
  obtain ⟨A7, cap7, rfl, lv, lc7, -⟩ := hv
  unfold maxLen at lc7
  have L2 := Lib.hid (L1.out.trans (k2.mono L1.out.size))
  have K2 : Hid (Below W.heap.size W w2) := K1.out.trans (k2.mono K1.out.size)
  have X2 := Lib.hid ((k2.block _ (by omega)).trans X1.out)
  have Z2 := Lib.hid ((k2.block _ (by omega)).trans Z1.out)
  have P2 := Lib.hid ((k2.block _ hz1).trans P1.out)
  have hz2 : w0.heap.size < w2.heap.size := (Array.getElem?_eq_some_iff.1 P2.out).1
  obtain ⟨bl, hbl⟩ : ∃ b, b = w0.heap.size := ⟨_, rfl⟩
  rw [← hbl] at P2 hz0 hz2
  have ha3 := asks_len x
  clear k2 AC RX X0 X1 Z0 Z1 P1 L1 L2 HW1 hz1 K0 K1
  rw [← hbl]
  clear hbl HW
  go_wp2_with fail
  go_loopw [14] (fun i wx => ∃ m : Nat, i = .int .i64 m ∧ m ≤ (asksM x).length ∧ Hid (wx.heap[W.heap.size]? = some (.cells ⟨xCells tl m x⟩ 43 (0, 0))) ∧ Hid (Fined W.heap.size w2 wx)) (fun i _ => (asksM x).length - (RowKit.intOf i).toNat)
  case atStart => exact ⟨0, rfl, by omega, by rw [xCells_zero]; exact X2.out, Fined.refl _ _⟩
  case round =>
    obtain ⟨m, rfl, hm, XR, XF⟩ := hrel
    have XL := Lib.hid (XF.out.row P2.out (by omega))
    by_cases hlm : m < (asksM x).length
    · have hmi : (m : Int) < (asksM x).length := by omega
      obtain ⟨v, hv⟩ : ∃ v, (asksM x)[m]? = some v := ⟨_, List.getElem?_eq_getElem hlm⟩
      obtain ⟨a1, a2⟩ := HO.out v (List.mem_of_getElem? hv)
      obtain ⟨kv, rfl⟩ := Int.eq_ofNat_of_zero_le a1
      have hkj : kv < tl.length := by omega
      have hki : (kv : Int) < tl.length := by omega
      have hm3 : (m : Int) < 3 := by omega
      have xc := HeadAt.of_row XR.out (1 + m) _ (xCells_cell (asks_at hv))
      have lc := HeadAt.of_row XL.out m (.pointer (some ⟨W.heap.size, 1 + m, none⟩)) (by
        rcases (by omega : m = 0 ∨ m = 1 ∨ m = 2) with rfl | rfl | rfl <;> rfl)
      obtain ⟨b2, off2, u, us, hA, hb2, hu, -, ⟨rfl, wu⟩, hat2⟩ := HS.out.at_ hkj
      subst hA
      have gc : wr.cell? ⟨b2, off2 + kv, none⟩ = some (.int .i64 u) := by
        have h1 : w2.cell? ⟨b2, off2 + kv, none⟩ = some (.int .i64 u) := (K2.out.cell hb2).trans (by simpa using hat2 0 _ rfl)
        exact XF.out.cell h1 (by show b2 ≠ W.heap.size; omega)
      have hgd : tl.getD kv 0 = u := by rw [List.getD_eq_getElem?_getD, hu]; rfl
      have e1 : ∀ E : Up wr, E.to.cell? ⟨W.heap.size, 1 + m, none⟩ = some (.int .i64 (kv : Int)) := fun E => E.cell xc
      have e2 : ∀ E : Up wr, E.to.cell? ⟨bl, m, none⟩ = some (.pointer (some ⟨W.heap.size, 1 + m, none⟩)) := fun E => E.cell lc
      have e3 : ∀ E : Up wr, E.to.cell? ⟨b2, off2 + kv, none⟩ = some (.int .i64 u) := fun E => E.cell gc
      have HV := Lib.hid hv
      have HU := Lib.hid hgd
      clear hv lc gc hu hgd hat2 wu a1 xc
      go_upto_region 5 with fail
      refine wp_region_up_tail 13 (by kernel_rfl) (by kernel_rfl) ?_
      simp only [List.take_succ_cons, List.take_zero]
      repeat (go_big_quiet_step (fail))
      refine wpQuiet_nil ?_
      intro w' hE
      obtain ⟨E, rfl⟩ := hE
      obtain ⟨wy, ky⟩ := E
      dsimp only
      have XY := Lib.hid ((ky.block _ (Array.getElem?_eq_some_iff.1 XR.out).1).trans XR.out)
      have yc := HeadAt.of_row XY.out (1 + m) _ (xCells_cell (asks_at HV.out))
      have fy := frozen_of_row wy W.heap.size (1 + m) _ _ XY.out
      have KY := Lib.hid ky
      have hset := xCells_set (tl := tl) (asks_at HV.out)
      rw [Int.toNat_natCast, HU.out] at hset
      have HSET := Lib.hid hset
      clear ky e1 e2 e3 hset
      simp only [List.drop_succ_cons, List.drop_zero]
      go_wp2_with fail
      go_roundw
      case rel => exact ⟨m + 1, by go_num, by omega, by (rw [heap_setCell_same wy W.heap.size (1 + m) _ _ _ XY.out, HSET.out]; rfl), (XF.out.below_ KY.out).set_ _ _⟩
      case measure => simp [RowKit.intOf]; omega
    · obtain rfl : m = (asksM x).length := by omega
      have hmi : ¬ ((asksM x).length : Int) < (asksM x).length := by omega
      obtain ⟨wo, hwo⟩ : ∃ wo, wo = wr := ⟨_, rfl⟩
      subst hwo
      have XE : Hid (wo.heap[W.heap.size]? = some (.cells ⟨insCells y⟩ 43 (0, 0))) := by rw [← XA.out]; exact XR.out
      have ZE := Lib.hid (XF.out.row Z2.out (by omega))
      have RE : Hid (wo.rangeAt W.heap.size 0 [.int .i64 y.op, .int .i64 y.a, .int .i64 y.b, .int .i64 y.c, .int .i64 y.n, .int .i64 y.exit, .int .i64 y.k.kind, .int .i64 y.k.n]) := (HeadAt.of_row XE.out).range
      have KE : Hid (Below W.heap.size W wo) := K2.out.trans (XF.out.under (Nat.le_refl _) K2.out.size)
      clear XR
      go_wp2_with (first
        | (refine wpList_load_mid rfl 43 _ rfl W.heap.size 0 rfl [.int .i64 y.op, .int .i64 y.a, .int .i64 y.b, .int .i64 y.c, .int .i64 y.n, .int .i64 y.exit, .int .i64 y.k.kind, .int .i64 y.k.n] _ RE.out Tryd.underlying43 rfl infoIns8 ?_)
        | (refine wpList_store_row rfl 43 _ _ rfl (W.heap.size + 1) #[.int .i64 y.op, .int .i64 y.a, .int .i64 y.b, .int .i64 y.c, .int .i64 y.n, .int .i64 y.exit, .int .i64 y.k.kind, .int .i64 y.k.n] rfl rfl 43 _ ZE.out infoIns8 rfl (all_oneCell_toArray (by simp [Value.oneCell'])) ?_)
        | fail)
      generalize hw9 : World.setRow _ _ _ = w9
      have QR : Hid (w9.heap[W.heap.size + 1]? = some (.cells #[.int .i64 y.op, .int .i64 y.a, .int .i64 y.b, .int .i64 y.c, .int .i64 y.n, .int .i64 y.exit, .int .i64 y.k.kind, .int .i64 y.k.n] 43 (0, 0))) := by rw [← hw9]; exact setRow_heap _ _ _ _ _ _ ZE.out
      have K9 : Hid (Below W.heap.size W w9) := by rw [← hw9]; exact Below.set_row KE.out (by omega) _
      clear hw9
      go_wp2_with fail
      have q0 := cell_of_row w9 (W.heap.size + 1) 0 _ _ _ QR.out
      have q1 := cell_of_row w9 (W.heap.size + 1) 1 _ _ _ QR.out
      have q2 := cell_of_row w9 (W.heap.size + 1) 2 _ _ _ QR.out
      have q3 := cell_of_row w9 (W.heap.size + 1) 3 _ _ _ QR.out
      have q4 := cell_of_row w9 (W.heap.size + 1) 4 _ _ _ QR.out
      have q5 := cell_of_row w9 (W.heap.size + 1) 5 _ _ _ QR.out
      have q6 := cell_of_row w9 (W.heap.size + 1) 6 _ _ _ QR.out
      have q7 := cell_of_row w9 (W.heap.size + 1) 7 _ _ _ QR.out
      refine bodyPost_ret (v := insV y) (by simp [results, Tryd.results59, go_sem, insV, q0, q1, q2, q3, q4, q5, q6, q7]) rfl ⟨rfl, K9.out⟩
end Go.Proofs.YtmccomeihnaanaaDoor
