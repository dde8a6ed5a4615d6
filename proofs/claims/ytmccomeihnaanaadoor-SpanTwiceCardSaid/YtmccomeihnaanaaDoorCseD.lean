/- cse.Do: the walk. -/
import Derived.Test.YtmccomeihnaanaaDoorChkG
import Derived.Test.YtmccomeihnaanaaDoorCseB
import Derived.Test.YtmccomeihnaanaaDoorNone
namespace Go.Proofs.YtmccomeihnaanaaDoor
open Go.RowKit Go.Maps

def ceOf (p : CProg) (t : TTrace) : Int := checkM rightV (codeCheckM p) (p.fns.map fnOf) t
def CsePost (p : CProg) (t : TTrace) (w : World) (e : Ending) (w' : World) : Prop :=
  ∃ cs, e = .returned (.tuple #[.agg ⟨cs⟩, .int .i64 (cseM (ceOf p t) t).2]) ∧ TraceR w' w'.heap.size cs (cseM (ceOf p t) t).1 ∧ Below w.heap.size w w'
set_option maxHeartbeats 8000000 in
set_option maxRecDepth 100000 in
theorem cseDo_c (pcs ca : List Value) (p : CProg) (t : TTrace) (w : World) (hp : ProgR w w.heap.size pcs p) (ht : TraceR w w.heap.size ca t) (tab : Tab w) :
    Calls Tryd.prog 21 #[.agg ⟨pcs⟩, .agg ⟨ca⟩] w (CsePost p t w) := by
  have HT := Lib.hid ht
  have HIp := Lib.hid hp.size3
  have HIt := Lib.hid ht.size13
  obtain ⟨Ai, ni, p3, qi⟩ := ht.at3
  obtain ⟨-, -, p2, -, -, -⟩ := ht.at012
  have QI := Lib.hid qi
  have P3 := Lib.hid p3
  have P2 := Lib.hid p2
  obtain ⟨w0, hw0⟩ : ∃ w0, w0 = ((w.alloc (.cells ⟨pcs⟩ 26)).alloc (.cells ⟨ca⟩ 34)).alloc (.cells ⟨zeroTrace⟩ 34) := ⟨_, rfl⟩
  have K0 : Hid (Below w.heap.size w w0) := by rw [hw0]; exact (below_two' w _ _).alloc (by simp; omega) _
  have D0 : Hid (w0.heap[w.heap.size]? = some (.cells ⟨pcs⟩ 26 (0, 0))) := by rw [hw0]; exact heap_old (heap_old (heap_last w _) _) _
  have D1 : Hid (w0.heap[w.heap.size + 1]? = some (.cells ⟨ca⟩ 34 (0, 0))) := by rw [hw0]; exact heap_old (heap_two _ _ _) _
  have D2 : Hid (w0.heap[w.heap.size + 1 + 1]? = some (.cells ⟨zeroTrace⟩ 34 (0, 0))) := by rw [hw0]; exact heap_three _ _ _ _
  have hz0 : w.heap.size + 1 + 1 < w0.heap.size := (Array.getElem?_eq_some_iff.1 D2.out).1
  have R1 : Hid (w0.rangeAt w.heap.size 0 pcs) := (HeadAt.of_row D0.out).range
  have R2 : Hid (w0.rangeAt (w.heap.size + 1) 0 ca) := (HeadAt.of_row D1.out).range
  unfold zeroTrace at hw0
  have HW := Lib.hid hw0
  unfold CsePost
  obtain ⟨ce, hce⟩ : ∃ ce, ceOf p t = ce := ⟨_, rfl⟩
  have CE := Lib.hid (check_c pcs ca p t w0 (hp.below K0.out) (ht.below K0.out) (tab.below K0.out))
  unfold ceOf at hce
  rw [hce] at CE
  have HCE := Lib.hid hce
  rw [show ceOf p t = ce from hce]
  clear hp ht hw0 qi hce p3 p2 tab
  go_enter Tryd.func21, Tryd.ntmps21
  go_wp2_with (first | (refine wpList_load_mid rfl 26 _ rfl w.heap.size 0 rfl pcs _ (by rw [← HW.out]; exact R1.out) Tryd.underlying26 rfl HIp.out ?_) | (refine wpList_load_mid rfl 34 _ rfl (w.heap.size + 1) 0 rfl ca _ (by rw [← HW.out]; exact R2.out) Tryd.underlying34 rfl HIt.out ?_) | fail)
  rw [← HW.out]
  refine CE.out.mono ?_
  rintro e w1 ⟨rfl, k1⟩
  have K1 := Lib.hid (K0.out.trans (k1.mono K0.out.size))
  have E1 := Lib.hid ((k1.block _ (by omega)).trans D1.out)
  have E2 := Lib.hid ((k1.block _ (by omega)).trans D2.out)
  have hz1 : w.heap.size + 1 + 1 < w1.heap.size := (Array.getElem?_eq_some_iff.1 E2.out).1
  clear k1 R1 R2 CE
  by_cases hc : ce = 0
  case neg =>
    have hc' : (ce != 0) = true := by simpa using hc
    have HN : Hid (cseM ce t = (trace0, ce)) := by unfold cseM Hid; rw [if_pos hc]
    go_wp2_with (refine wpList_store_row rfl 34 _ _ rfl (w.heap.size + 1 + 1) #[.int .i64 0, .int .i64 0, .int .i64 0, .slice none 0 0, .slice none 0 0, .int .i64 0, .int .i64 0, .slice none 0 0, .slice none 0 0, .int .i64 0, .int .i64 0, .slice none 0 0, .slice none 0 0] rfl rfl 34 _ E2.out infoTr13 rfl (all_oneCell_toArray (by simp [Value.oneCell'])) ?_)
    generalize hw9 : World.setRow _ _ _ = w9
    have QR : Hid (w9.heap[w.heap.size + 1 + 1]? = some (.cells #[.int .i64 0, .int .i64 0, .int .i64 0, .slice none 0 0, .slice none 0 0, .int .i64 0, .int .i64 0, .slice none 0 0, .slice none 0 0, .int .i64 0, .int .i64 0, .slice none 0 0, .slice none 0 0] 34 (0, 0))) := by rw [← hw9]; exact setRow_heap _ _ _ _ _ _ E2.out
    have K9 : Hid (Below w.heap.size w w9) := by rw [← hw9]; exact Below.set_row K1.out (by omega) _
    clear hw9
    go_wp2_with fail
    have r0 := cell_of_row w9 (w.heap.size + 1 + 1) 0 _ _ _ QR.out
    have r1 := cell_of_row w9 (w.heap.size + 1 + 1) 1 _ _ _ QR.out
    have r2 := cell_of_row w9 (w.heap.size + 1 + 1) 2 _ _ _ QR.out
    have r3 := cell_of_row w9 (w.heap.size + 1 + 1) 3 _ _ _ QR.out
    have r4 := cell_of_row w9 (w.heap.size + 1 + 1) 4 _ _ _ QR.out
    have r5 := cell_of_row w9 (w.heap.size + 1 + 1) 5 _ _ _ QR.out
    have r6 := cell_of_row w9 (w.heap.size + 1 + 1) 6 _ _ _ QR.out
    have r7 := cell_of_row w9 (w.heap.size + 1 + 1) 7 _ _ _ QR.out
    have r8 := cell_of_row w9 (w.heap.size + 1 + 1) 8 _ _ _ QR.out
    have r9 := cell_of_row w9 (w.heap.size + 1 + 1) 9 _ _ _ QR.out
    have r10 := cell_of_row w9 (w.heap.size + 1 + 1) 10 _ _ _ QR.out
    have r11 := cell_of_row w9 (w.heap.size + 1 + 1) 11 _ _ _ QR.out
    have r12 := cell_of_row w9 (w.heap.size + 1 + 1) 12 _ _ _ QR.out
    rw [HN.out]
    refine bodyPost_ret (v := .tuple #[.agg ⟨zeroTrace⟩, .int .i64 ce]) (by simp [results, Tryd.results21, go_sem, zeroTrace, r0, r1, r2, r3, r4, r5, r6, r7, r8, r9, r10, r11, r12]) rfl ⟨_, rfl, zeroTrace_R _ _, K9.out⟩
  subst hc
  have SM := Lib.hid (check_small HCE.out)
  have hlen := SM.out.ins
  have HM : Hid (cseM 0 t = cutM t (cseTo t)) := by unfold cseM Hid; rw [if_neg (by simp)]
  have hmm := @run_makeMap Tryd.prog
  have hmk := fun W => mk_ints t.ins.length (by omega) W
  have hmi : (t.ins.length : Int) ≤ 300 := by omega
  have hz1a : w.heap.size + 1 < w1.heap.size := by omega
  have l3 : w1.cell? ⟨w.heap.size + 1, 3, none⟩ = some (.slice Ai t.ins.length ni) := by rw [cell_of_row w1 _ 3 _ _ _ E1.out]; simpa using P3.out
  obtain ⟨w2, hw2⟩ : ∃ w2, w2 = (w1.alloc (.map #[] 0)).alloc (.cells (Array.replicate t.ins.length (.int .i64 0)) 3) := ⟨_, rfl⟩
  have K2 : Hid (Below w.heap.size w w2) := by rw [hw2]; exact (K1.out.alloc (by omega) _).alloc (by simp; omega) _
  have L2 : Hid (Below w1.heap.size w1 w2) := by rw [hw2]; exact ((Below.refl _ _).alloc (by omega) _).alloc (by simp) _
  have F1 := Lib.hid ((L2.out.block _ (by omega)).trans E1.out)
  have F2 := Lib.hid ((L2.out.block _ (by omega)).trans E2.out)
  have FG : Hid (w2.heap[w1.heap.size + 1]? = some (.cells ⟨toRow [] t.ins.length⟩ 3 (0, 0))) := by rw [hw2, toRow_zero]; exact heap_two _ _ _
  have FM : Hid (w2.ownsMap Tryd.prog 87 (plainElem Tryd.prog 3) w1.heap.size 0 (seenDK [])) := by rw [hw2]; exact (World.ownsMap_made _ _ _ _).alloc _
  have hz2 : w1.heap.size + 1 < w2.heap.size := (Array.getElem?_eq_some_iff.1 FG.out).1
  have HW2 := Lib.hid hw2
  clear hw2
  go_upto_region 6 with fail
  rw [← HW2.out]
  clear l3 hmm hmk
  have l3 : w2.cell? ⟨w.heap.size + 1, 3, none⟩ = some (.slice Ai t.ins.length ni) := by rw [cell_of_row w2 _ 3 _ _ _ F1.out]; simpa using P3.out
  go_wp2_with fail
  clear l3
  have HS0 : Hid (cseRun t.loop (t.ins.take 0) ⟨[], []⟩ = ⟨[], []⟩) := by rw [List.take_zero]; rfl
  go_loopw [32] (fun i wr => ∃ j : Nat, i = .int .i64 j ∧ j ≤ t.ins.length ∧ Hid (wr.heap[w1.heap.size + 1]? = some (.cells ⟨toRow (cseRun t.loop (t.ins.take j) ⟨[], []⟩).tl t.ins.length⟩ 3 (0, 0))) ∧
    Hid (wr.ownsMap Tryd.prog 87 (plainElem Tryd.prog 3) w1.heap.size j (seenDK (cseRun t.loop (t.ins.take j) ⟨[], []⟩).seen)) ∧ Hid (∀ q ∈ (cseRun t.loop (t.ins.take j) ⟨[], []⟩).seen, WfKey q.1) ∧ Hid (Kept2 w1.heap.size (w1.heap.size + 1) w2 wr)) (fun i _ => t.ins.length - (RowKit.intOf i).toNat)
  case atStart => exact ⟨0, rfl, by omega, by rw [HS0.out]; exact FG.out, by rw [HS0.out]; exact FM.out, by rw [HS0.out]; exact fun q hq => (by simp at hq), Kept2.refl _ _ _⟩
  case round =>
    obtain ⟨j, rfl, hj, RG, RM, RW, RK⟩ := hrel
    obtain ⟨wo, hwo⟩ : ∃ wo, wo = wr := ⟨_, rfl⟩
    subst hwo
    have CI := Lib.hid (cse_at t.loop t.ins j hj)
    obtain ⟨s, hs⟩ : ∃ s, cseRun t.loop (t.ins.take j) ⟨[], []⟩ = s := ⟨_, rfl⟩
    rw [hs] at RG RM RW CI
    have HS := Lib.hid hs
    clear hs
    have hsl := CI.out.len
    have hw2o : w2.heap.size ≤ wo.heap.size := RK.out.size
    have BW := Lib.hid (K2.out.trans (RK.out.below (B := w.heap.size) (by omega) (by omega) K2.out.size))
    have RT := Lib.hid (RK.out.row F1.out (by omega) (by omega))
    have RZ := Lib.hid (RK.out.row F2.out (by omega) (by omega))
    have hzr : w1.heap.size + 1 < wo.heap.size := (Array.getElem?_eq_some_iff.1 RG.out).1
    by_cases hlt : j < t.ins.length
    · obtain ⟨b, off, x, rfl, hb, hx, wx, hat⟩ := ins_op QI.out hlt
      obtain ⟨g0, g1, g2, g3, g4, g5, g6, g7⟩ := ins_at hat hb BW.out
      have hbz : b < wo.heap.size := by omega
      have hji : (j : Int) < t.ins.length := by omega
      have HX := Lib.hid hx
      have WX := Lib.hid wx
      have AH := Lib.hid (checkM_ahead HCE.out hx)
      clear hx wx hat
      obtain ⟨wa, hwa⟩ : ∃ wa, wa = wo.alloc (.cells ⟨insCells x⟩ 43) := ⟨_, rfl⟩
      have LA : Hid (Below wo.heap.size wo wa) := by rw [hwa]; exact below_one _ _
      have AX : Hid (wa.heap[wo.heap.size]? = some (.cells ⟨insCells x⟩ 43 (0, 0))) := by rw [hwa]; exact heap_last _ _
      have hza : wo.heap.size < wa.heap.size := (Array.getElem?_eq_some_iff.1 AX.out).1
      have AG := Lib.hid ((LA.out.block _ hzr).trans RG.out)
      have AM := Lib.hid (map_below RM.out LA.out)
      have AK := Lib.hid (RK.out.then (LA.out.mono (by have := RK.out.size; omega)))
      unfold insCells at hwa
      have HWA := Lib.hid hwa
      clear hwa RG RM RK
      go_upto_region 9 with fail
      rw [← HWA.out]
      clear g0 g1 g2 g3 g4 g5 g6 g7
      have cg := HeadAt.of_row AG.out j (.int .i64 0) (by rw [toRow_next (by omega), List.getElem?_append_right (by simp; omega)]; simp [hsl])
      have fg := frozen_of_row wa (w1.heap.size + 1) j _ _ AG.out
      obtain ⟨wb, hwb⟩ : ∃ wb, wb = wa.setCell ⟨w1.heap.size + 1, j, none⟩ (.int .i64 (j : Int)) := ⟨_, rfl⟩
      have BG : Hid (wb.heap[w1.heap.size + 1]? = some (.cells ⟨toRow (s.tl ++ [(j : Int)]) t.ins.length⟩ 3 (0, 0))) := by
        rw [hwb, heap_setCell_same wa (w1.heap.size + 1) j _ _ _ AG.out, toRow_push (by omega) hsl.symm]; rfl
      have BX : Hid (wb.heap[wo.heap.size]? = some (.cells ⟨insCells x⟩ 43 (0, 0))) := by rw [hwb, heap_setCell_other wa _ _ _ (by show _ ≠ w1.heap.size + 1; omega)]; exact AX.out
      have BM : Hid (wb.ownsMap Tryd.prog 87 (plainElem Tryd.prog 3) w1.heap.size j (seenDK s.seen)) := by rw [hwb]; exact map_set AM.out (by omega) _ _
      have BK : Hid (Kept2 w1.heap.size (w1.heap.size + 1) w2 wb) := by rw [hwb]; exact AK.out.set_ _ _
      have hzb : wo.heap.size < wb.heap.size := (Array.getElem?_eq_some_iff.1 BX.out).1
      have HWB := Lib.hid hwb
      clear hwb
      go_upto_region 10 with fail
      rw [← HWB.out]
      clear cg fg
      obtain ⟨wc, hwc⟩ : ∃ wc, wc = wb.alloc (.cells #[.pointer (some ⟨wo.heap.size, 1, none⟩), .pointer (some ⟨wo.heap.size, 2, none⟩), .pointer (some ⟨wo.heap.size, 3, none⟩)] 84) := ⟨_, rfl⟩
      have LC : Hid (Below wb.heap.size wb wc) := by rw [hwc]; exact below_one _ _
      have CL : Hid (wc.heap[wb.heap.size]? = some (.cells ⟨[.pointer (some ⟨wo.heap.size, 1, none⟩), .pointer (some ⟨wo.heap.size, 2, none⟩), .pointer (some ⟨wo.heap.size, 3, none⟩)]⟩ 84 (0, 0))) := by rw [hwc]; exact heap_last _ _
      have hzc : wb.heap.size < wc.heap.size := (Array.getElem?_eq_some_iff.1 CL.out).1
      have hgb : w1.heap.size + 1 < wb.heap.size := (Array.getElem?_eq_some_iff.1 BG.out).1
      have CX := Lib.hid ((LC.out.block _ hzb).trans BX.out)
      have HWC := Lib.hid hwc
      clear hwc
      go_upto_region 11 with fail
      rw [← HWC.out]
      have AC := Lib.hid (asks_c x WX.out wc)
      have RX : Hid (wc.rangeAt wo.heap.size 0 (insCells x)) := (HeadAt.of_row CX.out).range
      have LX : Hid ((Tryd.prog.info? 43).map (·.size) = some (insCells x).length) := infoIns8
      go_wp2_with (refine wpList_load_mid rfl 43 _ rfl wo.heap.size 0 rfl (insCells x) _ RX.out Tryd.underlying43 rfl LX.out ?_)
      refine AC.out.mono ?_
      rintro e wd ⟨v, rfl, hv, kd⟩
      obtain ⟨A7, cap7, rfl, lv, lc7, -⟩ := hv
      unfold maxLen at lc7
      have LD := Lib.hid (LC.out.trans (kd.mono LC.out.size))
      have DX := Lib.hid ((kd.block _ (by omega)).trans CX.out)
      have DL := Lib.hid ((kd.block _ hzc).trans CL.out)
      have DG := Lib.hid ((LD.out.block _ hgb).trans BG.out)
      have DM := Lib.hid (map_below BM.out LD.out)
      have DK := Lib.hid (BK.out.then (LD.out.mono (by have := BK.out.size; omega)))
      have DT := Lib.hid (DK.out.row F1.out (by omega) (by omega))
      have hzd : wb.heap.size < wd.heap.size := (Array.getElem?_eq_some_iff.1 DL.out).1
      have ha3 := asks_len x
      clear kd AC RX CL LC CX HWC BX BG BM BK AX AG AM AK LA HWB HWA
      go_wp2_with fail
      go_loopw [48] (fun i wx => ∃ m : Nat, i = .int .i64 m ∧ m ≤ (asksM x).length ∧ Hid (wx.heap[wo.heap.size]? = some (.cells ⟨xCells s.tl m x⟩ 43 (0, 0))) ∧ Hid (Fined wo.heap.size wd wx)) (fun i _ => (asksM x).length - (RowKit.intOf i).toNat)
      case atStart => exact ⟨0, rfl, by omega, by rw [xCells_zero]; exact DX.out, Fined.refl _ _⟩
      case round =>
        obtain ⟨m, rfl, hm, XR, XF⟩ := hrel
        have XG := Lib.hid (XF.out.row DG.out (by omega))
        have XL := Lib.hid (XF.out.row DL.out (by omega))
        have hxz : wb.heap.size < wr.heap.size := (Array.getElem?_eq_some_iff.1 XL.out).1
        by_cases hlm : m < (asksM x).length
        · have hmi : (m : Int) < (asksM x).length := by omega
          obtain ⟨v, hv⟩ : ∃ v, (asksM x)[m]? = some v := ⟨_, List.getElem?_eq_getElem hlm⟩
          obtain ⟨a1, a2, a3, -⟩ := AH.out v (List.mem_of_getElem? hv)
          obtain ⟨kv, rfl⟩ := Int.eq_ofNat_of_zero_le a1
          have hkj : kv < s.tl.length := by omega
          have hki : (kv : Int) < t.ins.length := by omega
          have hm3 : (m : Int) < 3 := by omega
          have xc := HeadAt.of_row XR.out (1 + m) _ (xCells_cell (asks_at hv))
          have fx := frozen_of_row wr wo.heap.size (1 + m) _ _ XR.out
          have lc := HeadAt.of_row XL.out m (.pointer (some ⟨wo.heap.size, 1 + m, none⟩)) (by
            rcases (by omega : m = 0 ∨ m = 1 ∨ m = 2) with rfl | rfl | rfl <;> rfl)
          obtain ⟨u, hu⟩ : ∃ u, s.tl.getD kv 0 = u := ⟨_, rfl⟩
          have gc := HeadAt.of_row XG.out kv (.int .i64 u) (by
            rw [toRow_at (by simp; omega), ← hu]
            simp [List.getD_eq_getElem?_getD, List.getElem?_append_left hkj])
          have e1 : ∀ E : Up wr, E.to.cell? ⟨wo.heap.size, 1 + m, none⟩ = some (.int .i64 (kv : Int)) := fun E => E.cell xc
          have e2 : ∀ E : Up wr, E.to.cell? ⟨wb.heap.size, m, none⟩ = some (.pointer (some ⟨wo.heap.size, 1 + m, none⟩)) := fun E => E.cell lc
          have e3 : ∀ E : Up wr, E.to.cell? ⟨w1.heap.size + 1, kv, none⟩ = some (.int .i64 u) := fun E => E.cell gc
          have HV := Lib.hid hv
          have HU := Lib.hid hu
          clear hv lc gc hu
          go_upto_region 14 with fail
          refine wp_region_up_tail 13 (by kernel_rfl) (by kernel_rfl) ?_
          simp only [List.take_succ_cons, List.take_zero]
          repeat (go_big_quiet_step (fail))
          refine wpQuiet_nil ?_
          intro w' hE
          obtain ⟨E, rfl⟩ := hE
          obtain ⟨wy, ky⟩ := E
          dsimp only
          have XY := Lib.hid ((ky.block _ (by omega)).trans XR.out)
          have yc := HeadAt.of_row XY.out (1 + m) _ (xCells_cell (asks_at HV.out))
          have fy := frozen_of_row wy wo.heap.size (1 + m) _ _ XY.out
          have KY := Lib.hid ky
          have hset := xCells_set (tl := s.tl) (asks_at HV.out)
          rw [Int.toNat_natCast, HU.out] at hset
          have HSET := Lib.hid hset
          clear ky e1 e2 e3 xc fx hset
          simp only [List.drop_succ_cons, List.drop_zero]
          go_wp2_with fail
          go_roundw
          case rel => exact ⟨m + 1, by go_num, by omega, by (rw [heap_setCell_same wy wo.heap.size (1 + m) _ _ _ XY.out, HSET.out]; rfl), (XF.out.below_ KY.out).set_ _ _⟩
          case measure => simp [RowKit.intOf]; omega
        · obtain rfl : m = (asksM x).length := by omega
          have hmi : ¬ ((asksM x).length : Int) < (asksM x).length := by omega
          obtain ⟨y, hy⟩ : ∃ y, cseX s x = y := ⟨_, rfl⟩
          have XA : Hid (wr.heap[wo.heap.size]? = some (.cells ⟨insCells y⟩ 43 (0, 0))) := by
            have := XR.out
            rw [xCells_all, hy] at this
            exact this
          have WY : Hid (WfIns y) := by rw [← hy]; exact cseX_wf WX.out (fun v hv => by have := CI.out.bd v hv; unfold wfi; omega)
          obtain ⟨ko, hko⟩ : ∃ ko, keyM y (decide ((j : Int) < t.loop)) = ko := ⟨_, rfl⟩
          have ST : Hid (cseRun t.loop (t.ins.take (j + 1)) ⟨[], []⟩ = cseNext s (j : Int) ko) := by
            show _ = _
            have e : keyM (cseX s x) (decide ((s.tl.length : Int) < t.loop)) = ko := by
              rw [hy]
              simp only [hsl]
              exact hko
            rw [cse_take HX.out, HS.out, cseStep_next, e, hsl]
          have OF := Lib.hid (cseOf_c y (decide ((j : Int) < t.loop)) wr WY.out)
          rw [hko] at OF
          have HKW : Hid (∀ k, ko = some k → WfKey k) := fun k e => keyM_wf WY.out (hko.trans e)
          have XT := Lib.hid (XF.out.row DT.out (by omega))
          have XM := Lib.hid (map_fined DM.out XF.out (by omega))
          have XK := Lib.hid (DK.out.fined_ XF.out hw2o)
          have p2' : wr.cell? ⟨w.heap.size + 1, 2, none⟩ = some (.int .i64 t.loop) := HeadAt.of_row XT.out 2 _ P2.out
          have RX : Hid (wr.rangeAt wo.heap.size 0 (insCells y)) := (HeadAt.of_row XA.out).range
          have LY : Hid ((Tryd.prog.info? 43).map (·.size) = some (insCells y).length) := infoIns8
          clear hy hko XF XR XL DX DL DG DM DK DT
          go_wp2_with (refine wpList_load_mid rfl 43 _ rfl wo.heap.size 0 rfl (insCells y) _ RX.out Tryd.underlying43 rfl LY.out ?_)
          refine OF.out.mono ?_
          rintro e wf ⟨rfl, kf⟩
          have FG2 := Lib.hid ((kf.block _ (by omega)).trans XG.out)
          have FM2 := Lib.hid (map_below XM.out kf)
          have FK2 := Lib.hid (XK.out.then (kf.mono (by have := XK.out.size; omega)))
          have hzf : wb.heap.size < wf.heap.size := Nat.lt_of_lt_of_le hxz kf.size
          clear kf OF RX p2' XM XK XG XT XA
          unfold keyV
          cases ko
          case none =>
            dsimp only [Option.getD_none, Option.isSome_none, key0]
            go_wp2_with fail
            go_roundw
            case rel =>
              refine ⟨j + 1, by go_num, by omega, ?_, ?_, ?_, ?_⟩
              · rw [ST.out]; exact heap_old FG2.out _
              · rw [ST.out]; exact (FM2.out.alloc _).mono (by omega)
              · rw [ST.out]; exact RW.out
              · exact FK2.out.then ((below_one wf _).mono (by have := FK2.out.size; omega))
            case measure => simp [RowKit.intOf]; omega
          case some k =>
            dsimp only [Option.getD_some, Option.isSome_some]
            have WK := HKW.out k rfl
            have HKEY := Lib.hid (keyOf_lit WK)
            have SP := seenDK_spec WK s.seen RW.out
            have SP1 := Lib.hid SP.1
            have SP2 := Lib.hid SP.2
            have WKH := Lib.hid WK
            clear SP WK
            obtain ⟨wk, hwk⟩ : ∃ wk, wk = wf.alloc (.cells #[.int .i64 k.op, .int .i64 k.n, .int .i64 k.a, .int .i64 k.b, .bool k.ahead, .int .i64 k.k.kind, .int .i64 k.k.n] 87) := ⟨_, rfl⟩
            have LKK : Hid (Below wf.heap.size wf wk) := by rw [hwk]; exact below_one _ _
            have KR : Hid (wk.heap[wf.heap.size]? = some (.cells ⟨[.int .i64 k.op, .int .i64 k.n, .int .i64 k.a, .int .i64 k.b, .bool k.ahead, .int .i64 k.k.kind, .int .i64 k.k.n]⟩ 87 (0, 0))) := by rw [hwk]; exact heap_last _ _
            have RGK : Hid (wk.rangeAt wf.heap.size 0 [.int .i64 k.op, .int .i64 k.n, .int .i64 k.a, .int .i64 k.b, .bool k.ahead, .int .i64 k.k.kind, .int .i64 k.k.n]) := (HeadAt.of_row KR.out).range
            have LK : Hid ((Tryd.prog.info? 87).map (·.size) = some ([.int .i64 k.op, .int .i64 k.n, .int .i64 k.a, .int .i64 k.b, .bool k.ahead, .int .i64 k.k.kind, .int .i64 k.k.n] : List Value).length) := infoKey7
            have KG := Lib.hid ((LKK.out.block _ (by omega)).trans FG2.out)
            have KM := Lib.hid (map_below FM2.out LKK.out)
            have KK := Lib.hid (FK2.out.then (LKK.out.mono (by have := FK2.out.size; omega)))
            have hgk : w1.heap.size + 1 < wk.heap.size := (Array.getElem?_eq_some_iff.1 KG.out).1
            have HWK := Lib.hid hwk
            clear hwk FG2 FM2 FK2
            go_upto_region 18 with fail
            rw [← HWK.out]
            cases hsn : seenM k s.seen
            case none =>
              have HAS := Lib.hid (SP1.out hsn)
              have ST' : Hid (cseRun t.loop (t.ins.take (j + 1)) ⟨[], []⟩ = ⟨(k, (j : Int)) :: s.seen, s.tl ++ [(j : Int)]⟩) := by
                show _ = _
                rw [ST.out]; unfold cseNext; dsimp only; rw [hsn]
              have hjw : (Lit.int .i64 (j : Int)).wf = true := int_wf (by unfold wfi; omega)
              have HJW := Lib.hid hjw
              clear hsn hjw
              go_wp2_with (first
                | (refine wpList_load_mid rfl 87 _ rfl wf.heap.size 0 rfl [.int .i64 k.op, .int .i64 k.n, .int .i64 k.a, .int .i64 k.b, .bool k.ahead, .int .i64 k.k.kind, .int .i64 k.k.n] _ RGK.out Tryd.underlying87 rfl LK.out ?_)
                | (at_lookup; refine wpList_lookup_own_ok_int _ rfl _ _ 83 rfl 87 3 .i64 keyLawK Tryd.underlying83 Tryd.underlying3 (zeroInt _) w1.heap.size j _ rfl KM.out _ _ rfl HKEY.out ?_; intro c hc hwc; rw [HAS.out]; clear hc hwc)
                | (at_mapUpdate; refine wpList_mapUpdate_own _ rfl _ _ _ 83 rfl 87 3 keyLawK Tryd.underlying83 _ w1.heap.size j _ rfl KM.out (by unfold maxLen; omega) _ _ _ rfl rfl HKEY.out _ [] (plainElem_int Tryd.underlying3 HJW.out) ?_; intro w8 hown1 hgrow1)
                | fail)
              have MN := Lib.hid hown1
              have MK := Lib.hid (KK.out.grown_ hgrow1)
              have MG := Lib.hid ((hgrow1.block _ hgk (by simp)).trans KG.out)
              clear hown1 hgrow1
              go_wp2_with fail
              go_roundw
              case rel =>
                refine ⟨j + 1, by go_num, by omega, ?_, ?_, ?_, ?_⟩
                · rw [ST'.out]; exact MG.out
                · rw [ST'.out]; exact MN.out
                · rw [ST'.out]
                  intro q hq
                  rcases List.mem_cons.1 hq with rfl | hq
                  · exact WKH.out
                  · exact RW.out q hq
                · exact MK.out
              case measure => simp [RowKit.intOf]; omega
            case some f =>
              have HAS := Lib.hid (SP2.out f hsn).1
              have HAT := Lib.hid (SP2.out f hsn).2
              have ST' : Hid (cseRun t.loop (t.ins.take (j + 1)) ⟨[], []⟩ = ⟨s.seen, s.tl ++ [f]⟩) := by
                show _ = _
                rw [ST.out]; unfold cseNext; dsimp only; rw [hsn]
              clear hsn
              have cg := HeadAt.of_row KG.out j (.int .i64 (j : Int)) (by rw [toRow_snoc (by omega), List.getElem?_append_right (by simp; omega)]; simp [hsl])
              have fg := frozen_of_row wk (w1.heap.size + 1) j _ _ KG.out
              go_wp2_with (first
                | (refine wpList_load_mid rfl 87 _ rfl wf.heap.size 0 rfl [.int .i64 k.op, .int .i64 k.n, .int .i64 k.a, .int .i64 k.b, .bool k.ahead, .int .i64 k.k.kind, .int .i64 k.k.n] _ RGK.out Tryd.underlying87 rfl LK.out ?_)
                | (at_lookup; refine wpList_lookup_own_ok_int _ rfl _ _ 83 rfl 87 3 .i64 keyLawK Tryd.underlying83 Tryd.underlying3 (zeroInt _) w1.heap.size j _ rfl KM.out _ _ rfl HKEY.out ?_; intro c hc hwc; rw [HAS.out]; obtain rfl : c = f := lit_inj (hc.symm.trans (HAT.out _)); clear hc hwc)
                | fail)
              go_roundw
              case rel =>
                refine ⟨j + 1, by go_num, by omega, ?_, ?_, ?_, ?_⟩
                · rw [ST'.out, heap_setCell_same wk (w1.heap.size + 1) j _ _ _ KG.out, toRow_again (by omega) hsl.symm]; rfl
                · rw [ST'.out]; exact (map_set KM.out (by omega) _ _).mono (by omega)
                · rw [ST'.out]; exact RW.out
                · exact KK.out.set_ _ _
              case measure => simp [RowKit.intOf]; omega
    · obtain rfl : j = t.ins.length := by omega
      have hji : ¬ (t.ins.length : Int) < t.ins.length := by omega
      have HTO : cseTo t = s.tl := by
        have h1 := HS.out
        rw [List.take_length] at h1
        unfold cseTo; rw [h1]
      have TL : Hid (SliceR wo wo.heap.size 1 IntR (.slice (some ⟨w1.heap.size + 1, 0, none⟩) t.ins.length t.ins.length) (cseTo t)) := by
        have h1 := RG.out
        rw [toRow_full hsl] at h1
        rw [HTO]
        have h2 := sliceR_of_row h1 (fun v hv => by have := CI.out.bd v hv; unfold wfi; omega) (by unfold maxLen; omega)
        rw [hsl] at h2
        exact h2
      have CC : Hid (Calls Tryd.prog 19 #[.agg ⟨ca⟩, .slice (some ⟨w1.heap.size + 1, 0, none⟩) t.ins.length t.ins.length] wo (CutPost t (cseTo t) wo)) := cut_c ca t _ (cseTo t) wo (HT.out.below BW.out) TL.out SM.out
      have RRT : Hid (wo.rangeAt (w.heap.size + 1) 0 ca) := (HeadAt.of_row RT.out).range
      have hzo : w.heap.size + 1 + 1 < wo.heap.size := (Array.getElem?_eq_some_iff.1 RZ.out).1
      clear HTO RG RM RW TL
      go_wp2_with (refine wpList_load_mid rfl 34 _ rfl (w.heap.size + 1) 0 rfl ca _ RRT.out Tryd.underlying34 rfl HIt.out ?_)
      refine CC.out.mono ?_
      rintro e w5 ⟨cs, rfl, tr, k5, kg⟩
      obtain ⟨zr, hzr⟩ : ∃ z, cutM t (cseTo t) = z := ⟨_, rfl⟩
      rw [hzr] at tr kg
      rw [hzr]
      have HZR := Lib.hid hzr
      clear hzr CC
      obtain ⟨z, r⟩ := zr
      dsimp only at tr kg ⊢
      obtain ⟨B1, m1, B2, m2, B3, m3, B4, m4, B5, m5, B6, m6, rfl, lz⟩ := tr.cells
      have KG := Lib.hid kg
      have K5 := Lib.hid (BW.out.trans (k5.mono BW.out.size))
      have Z5 := Lib.hid ((k5.block _ hzo).trans RZ.out)
      clear tr kg k5
      go_wp2_with (refine wpList_store_row rfl 34 _ _ rfl (w.heap.size + 1 + 1) #[.int .i64 z.fn, .int .i64 z.at_, .int .i64 z.loop, .slice B1 z.ins.length m1, .slice B2 z.exits.length m2, .int .i64 z.turn.at_, .int .i64 z.turn.steps, .slice B3 z.turn.sets.length m3, .slice B4 z.turn.makes.length m4, .int .i64 z.back.at_, .int .i64 z.back.steps, .slice B5 z.back.sets.length m5, .slice B6 z.back.makes.length m6] rfl rfl 34 _ Z5.out infoTr13 rfl (all_oneCell_toArray (by simp [Value.oneCell'])) ?_)
      have TR9 := Lib.hid (KG.out (w.heap.size + 1 + 1) #[.int .i64 z.fn, .int .i64 z.at_, .int .i64 z.loop, .slice B1 z.ins.length m1, .slice B2 z.exits.length m2, .int .i64 z.turn.at_, .int .i64 z.turn.steps, .slice B3 z.turn.sets.length m3, .slice B4 z.turn.makes.length m4, .int .i64 z.back.at_, .int .i64 z.back.steps, .slice B5 z.back.sets.length m5, .slice B6 z.back.makes.length m6] hzo)
      generalize hw9 : World.setRow _ _ _ = w9
      rw [hw9] at TR9
      have QR : Hid (w9.heap[w.heap.size + 1 + 1]? = some (.cells #[.int .i64 z.fn, .int .i64 z.at_, .int .i64 z.loop, .slice B1 z.ins.length m1, .slice B2 z.exits.length m2, .int .i64 z.turn.at_, .int .i64 z.turn.steps, .slice B3 z.turn.sets.length m3, .slice B4 z.turn.makes.length m4, .int .i64 z.back.at_, .int .i64 z.back.steps, .slice B5 z.back.sets.length m5, .slice B6 z.back.makes.length m6] 34 (0, 0))) := by rw [← hw9]; exact setRow_heap _ _ _ _ _ _ Z5.out
      have K9 : Hid (Below w.heap.size w w9) := by rw [← hw9]; exact Below.set_row K5.out (by omega) _
      clear hw9 KG
      go_wp2_with fail
      have r0 := cell_of_row w9 (w.heap.size + 1 + 1) 0 _ _ _ QR.out
      have r1 := cell_of_row w9 (w.heap.size + 1 + 1) 1 _ _ _ QR.out
      have r2 := cell_of_row w9 (w.heap.size + 1 + 1) 2 _ _ _ QR.out
      have r3 := cell_of_row w9 (w.heap.size + 1 + 1) 3 _ _ _ QR.out
      have r4 := cell_of_row w9 (w.heap.size + 1 + 1) 4 _ _ _ QR.out
      have r5 := cell_of_row w9 (w.heap.size + 1 + 1) 5 _ _ _ QR.out
      have r6 := cell_of_row w9 (w.heap.size + 1 + 1) 6 _ _ _ QR.out
      have r7 := cell_of_row w9 (w.heap.size + 1 + 1) 7 _ _ _ QR.out
      have r8 := cell_of_row w9 (w.heap.size + 1 + 1) 8 _ _ _ QR.out
      have r9 := cell_of_row w9 (w.heap.size + 1 + 1) 9 _ _ _ QR.out
      have r10 := cell_of_row w9 (w.heap.size + 1 + 1) 10 _ _ _ QR.out
      have r11 := cell_of_row w9 (w.heap.size + 1 + 1) 11 _ _ _ QR.out
      have r12 := cell_of_row w9 (w.heap.size + 1 + 1) 12 _ _ _ QR.out
      rw [HM.out, HZR.out]
      refine bodyPost_ret (v := .tuple #[.agg ⟨[.int .i64 z.fn, .int .i64 z.at_, .int .i64 z.loop, .slice B1 z.ins.length m1, .slice B2 z.exits.length m2, .int .i64 z.turn.at_, .int .i64 z.turn.steps, .slice B3 z.turn.sets.length m3, .slice B4 z.turn.makes.length m4, .int .i64 z.back.at_, .int .i64 z.back.steps, .slice B5 z.back.sets.length m5, .slice B6 z.back.makes.length m6]⟩, .int .i64 r]) (by simp [results, Tryd.results21, go_sem, r0, r1, r2, r3, r4, r5, r6, r7, r8, r9, r10, r11, r12]) rfl ⟨_, rfl, TR9.out, K9.out⟩
end Go.Proofs.YtmccomeihnaanaaDoor
