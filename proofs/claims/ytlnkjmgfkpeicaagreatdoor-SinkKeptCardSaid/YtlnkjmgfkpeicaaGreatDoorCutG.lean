/- ir.Cut: the instructions' loop. -/
import Derived.Test.YtlnkjmgfkpeicaaGreatDoorCutK
import Derived.Deep.DeepCutAuto
namespace Go.Proofs.YtlnkjmgfkpeicaaGreatDoor
open Go.RowKit

set_option maxHeartbeats 8000000 in
set_option maxRecDepth 100000 in
theorem cut_go2 (ca : List Value) (t : TTrace) (v : Value) (tl : List Int) (w : World) (ht : TraceR w w.heap.size ca t) (hv : SliceR w w.heap.size 1 IntR v tl) (heq : tl.length = t.ins.length) (hsm : SmallT t) :
    Calls Tryz.prog 7 #[.agg ⟨ca⟩, v] w (CutPost2 t tl w) := by
  have HT := Lib.hid ht
  have HV := Lib.hid hv
  have HSM := Lib.hid hsm
  have hfew := hsm.ins
  clear hsm
  obtain ⟨Ai, ni, p3, qi⟩ := ht.at3
  obtain ⟨p0, p1, p2, wf0, wf1, wf2⟩ := ht.at012
  have QI := Lib.hid qi
  have P0 := Lib.hid p0
  have P1 := Lib.hid p1
  have P2 := Lib.hid p2
  have P3 := Lib.hid p3
  obtain ⟨V, cV, rfl, lv1, lv2, -⟩ := hv
  unfold maxLen at lv2
  rw [heq] at lv1
  have HEQ := Lib.hid heq
  have HV : Hid (SliceR w w.heap.size 1 IntR (.slice V t.ins.length cV) tl) := by rw [← heq]; exact HV.out
  rw [show (Value.slice V tl.length cV) = .slice V t.ins.length cV by rw [heq]]
  clear heq
  have hfi : (t.ins.length : Int) ≤ 300 := by omega
  obtain ⟨w1, hw1⟩ : ∃ w1, w1 = (((w.alloc (.cells ⟨ca⟩ 34)).alloc (.cells ⟨zeroTrace⟩ 34)).alloc (.cells #[.slice none 0 0, .bool true] 69)).alloc (.cells #[.int .i64 t.fn, .int .i64 t.at_, .int .i64 0, .slice none 0 0, .slice none 0 0, .int .i64 0, .int .i64 0, .slice none 0 0, .slice none 0 0, .int .i64 0, .int .i64 0, .slice none 0 0, .slice none 0 0] 34) := ⟨_, rfl⟩
  have K1 : Hid (Below w.heap.size w w1) := by rw [hw1]; exact ((below_two' w _ _).alloc (by simp; omega) _).alloc (by simp; omega) _
  have D0 : Hid (w1.heap[w.heap.size]? = some (.cells ⟨ca⟩ 34 (0, 0))) := by rw [hw1]; exact heap_old (heap_old (heap_old (heap_last w _) _) _) _
  have D1 : Hid (w1.heap[w.heap.size + 1]? = some (.cells ⟨zeroTrace⟩ 34 (0, 0))) := by rw [hw1]; exact heap_old (heap_old (heap_two _ _ _) _) _
  have D2 : Hid (w1.heap[w.heap.size + 1 + 1]? = some (.cells #[.slice none 0 0, .bool true] 69 (0, 0))) := by rw [hw1]; exact heap_old (heap_three _ _ _ _) _
  have D3 : Hid (w1.heap[w.heap.size + 1 + 1 + 1]? = some (.cells #[.int .i64 t.fn, .int .i64 t.at_, .int .i64 0, .slice none 0 0, .slice none 0 0, .int .i64 0, .int .i64 0, .slice none 0 0, .slice none 0 0, .int .i64 0, .int .i64 0, .slice none 0 0, .slice none 0 0] 34 (0, 0))) := by rw [hw1]; exact heap_four _ _ _ _ _
  have hz : w.heap.size + 1 + 1 + 1 < w1.heap.size := (Array.getElem?_eq_some_iff.1 D3.out).1
  unfold zeroTrace at hw1
  have HW := Lib.hid hw1
  clear ht qi wf0 wf1 wf2 hw1
  go_enter Tryz.func7, Tryz.ntmps7
  go_upto_region 5 with fail
  rw [← HW.out]
  have d3 : w1.cell? ⟨w.heap.size, 3, none⟩ = some (.slice Ai t.ins.length ni) := by rw [cell_of_row w1 w.heap.size 3 _ _ _ D0.out]; simpa using P3.out
  go_wp2_with fail
  clear d3
  obtain ⟨S0, hS0⟩ : ∃ S0 : CutS, S0 = ⟨[], true, 0, []⟩ := ⟨_, rfl⟩
  go_loopw [30] (fun i wr => ∃ (j : Nat) (S : CutS) (tv iv : Value), i = .int .i64 j ∧ j ≤ t.ins.length ∧ S.at_.length = j ∧ S.ins.length ≤ j ∧ (0 ≤ S.loop ∧ S.loop ≤ 300) ∧ Hid (cutRun t.loop (t.ins.drop j) (tl.drop j) S = cutRun t.loop t.ins tl S0) ∧ Hid (∀ x ∈ S.ins, WfIns x) ∧
      Hid (CutAt wr (w.heap.size + 1 + 1) tv S.at_ S.fine) ∧ Hid (wr.heap[w.heap.size]? = some (.cells ⟨ca⟩ 34 (0, 0))) ∧ Hid (wr.heap[w.heap.size + 1]? = some (.cells ⟨zeroTrace⟩ 34 (0, 0))) ∧
      Hid (wr.heap[w.heap.size + 1 + 1 + 1]? = some (.cells #[.int .i64 t.fn, .int .i64 t.at_, .int .i64 S.loop, iv, .slice none 0 0, .int .i64 0, .int .i64 0, .slice none 0 0, .slice none 0 0, .int .i64 0, .int .i64 0, .slice none 0 0, .slice none 0 0] 34 (0, 0))) ∧
      Hid (wr.ownsRow (w.heap.size + 1 + 1 + 1) 42 8 iv S.ins.length (S.ins.flatMap insCells)) ∧ Hid (Below w.heap.size w wr)) (fun i _ => t.ins.length - (RowKit.intOf i).toNat)
  case atStart =>
    subst hS0
    exact ⟨0, ⟨[], true, 0, []⟩, _, _, rfl, by omega, rfl, by simp, ⟨by simp, by simp⟩, rfl, fun x hx => by simp at hx, ⟨D2.out, World.ownsRow_nil _ _ _ _, fun a ha => by simp at ha, by simp⟩, D0.out, D1.out, D3.out, World.ownsRow_nil _ _ _ _, K1.out⟩
  case round =>
    obtain ⟨j, S, tv, iv, rfl, hj, hS, hSi, ⟨hl0, hl1⟩, SR, SW, SC, R0, R1, RO, OI, BW⟩ := hrel
    obtain ⟨A1, c1, rfl⟩ := own_len OI.out
    have hzr : w.heap.size + 1 + 1 + 1 < wr.heap.size := (Array.getElem?_eq_some_iff.1 RO.out).1
    by_cases hlt : j < t.ins.length
    · obtain ⟨b, off, x, rfl, hb, hx, wx, hat⟩ := ins_op QI.out hlt
      obtain ⟨g0, g1, g2, g3, g4, g5, g6, g7⟩ := ins_at hat hb BW.out
      obtain ⟨b2, off2, n, ns, rfl, hb2, hnn, -, ⟨rfl, wn⟩, hat2⟩ := HV.out.at_ (i := j) (by have := HEQ.out; omega)
      have n0 : wr.cell? ⟨b2, off2 + j, none⟩ = some (.int .i64 n) := (BW.out.cell hb2).trans (by simpa using hat2 0 _ rfl)
      have hz0 : w.heap.size < wr.heap.size := by omega
      have hz1 : b2 < wr.heap.size := by omega
      have hz2 : w.heap.size + 1 < wr.heap.size := by omega
      have hji : (j : Int) < t.ins.length := by omega
      have HX := Lib.hid hx
      have WX := Lib.hid wx
      have HN := Lib.hid hnn
      have l2 := cell_of_row wr w.heap.size 2 _ _ _ R0.out
      have l2' : wr.cell? ⟨w.heap.size, 2, none⟩ = some (.int .i64 t.loop) := by rw [l2]; simpa using P2.out
      have hSR : Hid (∀ S', cutStep t.loop S x n = some S' → cutRun t.loop (t.ins.drop (j + 1)) (tl.drop (j + 1)) S' = cutRun t.loop t.ins tl S0) := fun S' e => by
        rw [← SR.out, drop_at hx, drop_at hnn]
        show _ = (match cutStep t.loop S x n with | none => none | some s' => cutRun t.loop _ _ s')
        rw [e]
      have hSN : Hid (cutStep t.loop S x n = none → cutRun t.loop t.ins tl S0 = none) := fun e => by
        rw [← SR.out, drop_at hx, drop_at hnn]
        show (match cutStep t.loop S x n with | none => none | some s' => cutRun t.loop _ _ s') = none
        rw [e]
      have NW := Lib.hid (show w.cell? ⟨b2, off2 + j, none⟩ = some (.int .i64 n) by simpa using hat2 0 _ rfl)
      clear hat hat2 hx wx hnn wn l2
      obtain ⟨wa, hwa⟩ : ∃ wa, wa = wr.alloc (.cells ⟨insCells x⟩ 42) := ⟨_, rfl⟩
      have KA : Hid (Below wr.heap.size wr wa) := by rw [hwa]; exact below_one _ _
      have YA : Hid (wa.heap[wr.heap.size]? = some (.cells ⟨insCells x⟩ 42 (0, 0))) := by rw [hwa]; exact heap_last _ _
      have hza : wr.heap.size < wa.heap.size := by rw [hwa]; simp
      have na : wa.cell? ⟨b2, off2 + j, none⟩ = some (.int .i64 n) := (KA.out.cell hz1).trans n0
      have la : wa.cell? ⟨w.heap.size, 2, none⟩ = some (.int .i64 t.loop) := (KA.out.cell hz0).trans l2'
      unfold insCells at hwa
      have HWA := Lib.hid hwa
      have CA := Lib.hid (SC.out.below KA.out)
      have A0 := Lib.hid ((KA.out.block _ hz0).trans R0.out)
      have A1' := Lib.hid ((KA.out.block _ hz2).trans R1.out)
      have AO := Lib.hid ((KA.out.block _ hzr).trans RO.out)
      have OA : Hid (wa.ownsRow (w.heap.size + 1 + 1 + 1) 42 8 (.slice A1 S.ins.length c1) S.ins.length (S.ins.flatMap insCells)) := by rw [hwa]; exact OI.out.alloc _
      have BA := Lib.hid (BW.out.trans (KA.out.mono BW.out.size))
      clear hwa
      obtain ⟨lp, hlp⟩ : ∃ lp, lp = (if (j : Int) = t.loop then (S.ins.length : Int) else S.loop) := ⟨_, rfl⟩
      go_upto_region 8 with fail
      rw [← HWA.out]
      clear n0 l2' g0 g1 g2 g3 g4 g5 g6 g7
      go_upto_if 38 with fail
      go_cut [] (fun wx => Hid (CutAt wx (w.heap.size + 1 + 1) tv S.at_ S.fine) ∧ Hid (wx.heap[w.heap.size]? = some (.cells ⟨ca⟩ 34 (0, 0))) ∧ Hid (wx.heap[w.heap.size + 1]? = some (.cells ⟨zeroTrace⟩ 34 (0, 0))) ∧
        Hid (wx.heap[w.heap.size + 1 + 1 + 1]? = some (.cells #[.int .i64 t.fn, .int .i64 t.at_, .int .i64 lp, .slice A1 S.ins.length c1, .slice none 0 0, .int .i64 0, .int .i64 0, .slice none 0 0, .slice none 0 0, .int .i64 0, .int .i64 0, .slice none 0 0, .slice none 0 0] 34 (0, 0))) ∧
        Hid (wx.ownsRow (w.heap.size + 1 + 1 + 1) 42 8 (.slice A1 S.ins.length c1) S.ins.length (S.ins.flatMap insCells)) ∧ Hid (wx.heap[wr.heap.size]? = some (.cells ⟨insCells x⟩ 42 (0, 0))) ∧ Hid (wr.heap.size < wx.heap.size) ∧ Hid (Below w.heap.size w wx))
      case first =>
        have a3 := cell_of_row wa (w.heap.size + 1 + 1 + 1) 3 _ _ _ AO.out
        have fz := frozen_of_row wa (w.heap.size + 1 + 1 + 1) 2 _ _ AO.out
        have cz := cell_of_row wa (w.heap.size + 1 + 1 + 1) 2 _ _ _ AO.out
        have hsi : S.ins.length ≤ maxLen := by unfold maxLen; omega
        unfold maxLen at hsi
        by_cases cl : (j : Int) = t.loop
        · have cl' : ((j : Int) == t.loop) = true := beq_iff_eq.2 cl
          rw [if_pos cl] at hlp
          subst hlp
          go_wp2_with fail
          go_meet
          · refine ⟨?_, ?_, ?_, ?_, own_far OA.out AO.out (by decide) _ _, ?_, ?_, Below.set_at BA.out (by omega) _ _⟩
            · refine ⟨?_, own_far CA.out.own AO.out (by decide) _ _, CA.out.bd, CA.out.few⟩
              rw [heap_setCell_other wa _ _ _ (by show _ ≠ w.heap.size + 1 + 1 + 1; omega)]; exact CA.out.here
            · show _ = _
              rw [heap_setCell_other wa _ _ _ (by show _ ≠ w.heap.size + 1 + 1 + 1; omega)]; exact A0.out
            · show _ = _
              rw [heap_setCell_other wa _ _ _ (by show _ ≠ w.heap.size + 1 + 1 + 1; omega)]; exact A1'.out
            · show _ = _
              rw [heap_setCell_same wa _ _ _ _ _ AO.out]; rfl
            · show _ = _
              rw [heap_setCell_other wa _ _ _ (by show _ ≠ w.heap.size + 1 + 1 + 1; omega)]; exact YA.out
            · show _ < _
              simp [World.setCell]; exact hza
        · have cl' : ((j : Int) == t.loop) = false := beq_eq_false_iff_ne.2 cl
          rw [if_neg cl] at hlp
          subst hlp
          go_wp2_with fail
          go_meet
          · exact ⟨CA.out, A0.out, A1'.out, AO.out, OA.out, YA.out, hza, BA.out⟩
      case rest =>
        obtain ⟨wi, hwi⟩ : ∃ wi, wi = wc := ⟨_, rfl⟩
        subst hwi
        obtain ⟨CI, B0, B1, BO, OB, YB, hzi, KI⟩ := hcut
        have nI : wi.cell? ⟨b2, off2 + j, none⟩ = some (.int .i64 n) := (KI.out.cell hb2).trans NW.out
        have hzj : wr.heap.size < wi.heap.size := hzi.out
        have hsi : S.ins.length ≤ 300 := by omega
        have hS3 : S.at_.length + 1 ≤ 300 := by omega
        have HLP := Lib.hid hlp
        have hl9 : 0 ≤ lp ∧ lp ≤ 300 := by rw [hlp]; split <;> omega
        obtain ⟨hl90, hl91⟩ := hl9
        clear CA A0 A1' AO OA YA BA KA HWA hza hzi hlp na la
        obtain ⟨q0, hq0, hq1, hq2, hq3⟩ := info_parts infoInt
        have h0 := cell_of_row wi (w.heap.size + 1 + 1) 0 _ _ _ CI.out.here
        by_cases cj : n = (j : Int)
        · subst cj
          have st : Hid (cutStep t.loop S x (j : Int) = some ⟨S.at_ ++ [(S.ins.length : Int)], S.fine && fineI (S.at_ ++ [(S.ins.length : Int)]) x, lp, S.ins ++ [insC (S.at_ ++ [(S.ins.length : Int)]) x]⟩) := by
            unfold cutStep Hid
            dsimp only
            rw [hS, if_pos rfl, ← HLP.out]
          have h3 := cell_of_row wi (w.heap.size + 1 + 1 + 1) 3 _ _ _ BO.out
          have e0 : ∀ E : Up wi, E.to.cell? ⟨w.heap.size + 1 + 1, 0, none⟩ = some tv := fun E => E.cell h0
          have e3 : ∀ E : Up wi, E.to.cell? ⟨w.heap.size + 1 + 1 + 1, 3, none⟩ = some (.slice A1 S.ins.length c1) := fun E => E.cell h3
          clear h0 h3
          go_upto_region 13 with fail
          clear nI
          refine wp_region_moves (fun w' => ∃ E : Up wi, w' = E.to) [0] [1, 2, 3, 4, 5, 6, 7] [8, 9, 10, 11, 12] [8] _ (by kernel_rfl) (by kernel_rfl) (by simp only [List.cons_append, List.nil_append, List.filterMap_cons, List.filterMap_nil, List.getElem?_toArray, List.getElem?_cons_zero, List.getElem?_cons_succ]; rfl) (fun _ _ d _ _ h => by cases d <;> exact h) ⟨⟨_, (Below.refl _ wi).drew⟩, rfl⟩ ?_
          show wpQuiet _ _ _ _ [_, _, _, _, _, _, _, _] _
          generalize hqq : (fun a' => wpMs _ _ _ _ _ _ a' _) = qq
          have HQQ := Lib.hid hqq
          clear hqq
          repeat (go_big_quiet_step (fail))
          refine wpQuiet_nil ?_
          rw [← HQQ.out]
          clear HQQ qq e0 e3
          refine wpMs_step rfl (fun K hK => ?_)
          go_simp
          refine hK _ _ (fun _ => ⟨⟨_, (Below.refl _ wi).drew.alloc (Nat.le_refl _) _⟩, rfl⟩) ?_
          clear hK K
          refine wpMs_list [9, 10, 11, 12] _ _ (by kernel_rfl) (by kernel_rfl) ?_
          simp only [List.filterMap_cons, List.filterMap_nil, List.getElem?_toArray, List.getElem?_cons_zero, List.getElem?_cons_succ]
          have KW : Hid (Below wi.heap.size wi (wi.drew.alloc (.cells #[.int .i64 (S.ins.length : Int)] 3))) := (Below.refl _ wi).drew.alloc (Nat.le_refl _) _
          have CW := Lib.hid (CI.out.below KW.out)
          refine wpList_append_own _ rfl _ _ 47 rfl (w.heap.size + 1 + 1 + 1) 3 q0 (.int .i64 0) 1 8 Tryz.underlying47 hq0 hq1 hq2 hq3 rfl (by decide) tv S.at_.length (S.at_.map (.int .i64)) rfl CW.out.own ⟨wi.heap.size, 0, none⟩ 1 1 [.int .i64 (S.ins.length : Int)] rfl rfl ?c1 ?c2 ?c3 ?c4 ?c5 ?_
          case c1 => exact World.news_of_block (cs := #[.int .i64 (S.ins.length : Int)]) (heap_last wi.drew _)
          case c2 => intro u hu; simp at hu; subst hu; rfl
          case c3 => unfold maxLen; omega
          case c4 => omega
          case c5 => simp [World.drew]; omega
          intro v' w6 hown hg _
          have O7 := Lib.hid hown
          have KG := Lib.hid hg
          obtain ⟨A', n', c', rfl⟩ := own_is_slice hown
          have GC := Lib.hid (grow_far CW.out.own hg CW.out.here (by decide))
          have c7 := cell_of_row w6 (w.heap.size + 1 + 1) 0 _ _ _ GC.out
          have f7 := frozen_of_row w6 (w.heap.size + 1 + 1) 0 _ _ GC.out
          clear hown hg
          go_upto_region 14 with fail
          obtain ⟨w7, hw7⟩ : ∃ w7, w7 = w6.setCell ⟨w.heap.size + 1 + 1, 0, none⟩ (.slice A' n' c') := ⟨_, rfl⟩
          have C7 : Hid (CutAt w7 (w.heap.size + 1 + 1) (.slice A' n' c') (S.at_ ++ [(S.ins.length : Int)]) S.fine) := by rw [hw7]; exact cut_push CW.out O7.out KG.out ⟨by omega, by omega⟩ hS3
          have S0 := Lib.hid (push_row (v' := Value.slice A' n' c') CW.out KG.out ((KW.out.block _ (by omega)).trans B0.out) (by decide) (by omega))
          rw [← hw7] at S0
          have S1 := Lib.hid (push_row (v' := Value.slice A' n' c') CW.out KG.out ((KW.out.block _ (by omega)).trans B1.out) (by decide) (by omega))
          rw [← hw7] at S1
          have SO := Lib.hid (push_row (v' := Value.slice A' n' c') CW.out KG.out ((KW.out.block _ (by omega)).trans BO.out) (by decide) (by omega))
          rw [← hw7] at SO
          have SI : Hid (w7.ownsRow (w.heap.size + 1 + 1 + 1) 42 8 (.slice A1 S.ins.length c1) S.ins.length (S.ins.flatMap insCells)) := by rw [hw7]; exact push_own CW.out KG.out ((Fined.of_below (bc := w.heap.size) KW.out).own OB.out (by omega)) (by decide) (by decide)
          have SX := Lib.hid (push_row (v' := Value.slice A' n' c') CW.out KG.out ((KW.out.block _ (by omega)).trans YB.out) (by decide) (by omega))
          rw [← hw7] at SX
          have K7 : Hid (Below w.heap.size w w7) := by rw [hw7]; exact (KI.out.trans (KW.out.mono KI.out.size)).trans (push_below CW.out KG.out (by omega) (by have := KI.out.size; have := KW.out.size; omega))
          rw [← hw7]
          clear hw7 c7 f7 GC O7 KG CW KW CI B0 B1 BO OB YB
          have hz7 : wr.heap.size < w7.heap.size := (Array.getElem?_eq_some_iff.1 SX.out).1
          obtain ⟨i0, hi, hy0, hy1, hy2⟩ := info_parts infoInsG
          have t3 := cell_of_row w7 (w.heap.size + 1 + 1 + 1) 3 _ _ _ SO.out
          have e3 : ∀ E : Fin_ (w.heap.size + 1 + 1) w7, E.wd.cell? ⟨w.heap.size + 1 + 1 + 1, 3, none⟩ = some (.slice A1 S.ins.length c1) := fun E => E.cell t3 (by show w.heap.size + 1 + 1 + 1 ≠ w.heap.size + 1 + 1; omega)
          have RX : Hid (∀ E : Fin_ (w.heap.size + 1 + 1) w7, E.wd.rangeAt wr.heap.size 0 (insCells x)) := fun E a v hv => E.cell ((HeadAt.of_row SX.out).range a v hv) (by show wr.heap.size ≠ w.heap.size + 1 + 1; omega)
          have LX : Hid ((Tryz.prog.info? 42).map (·.size) = some (insCells x).length) := infoIns8
          clear t3
          refine wp_region_first (fun w' => ∃ E : Fin_ (w.heap.size + 1 + 1) w7, w' = E.wd) 4 [4, 5, 6, 7, 8] [4, 5] (by kernel_rfl) (by decide) (by kernel_rfl) (fun _ _ d _ _ h => by cases d <;> exact h) ⟨⟨_, (Fined.refl _ w7).drew⟩, rfl⟩ ?_
          simp only [List.take_succ_cons, List.take_zero]
          generalize hqq : (fun a' => wpMs _ _ _ _ _ _ a' _) = qq
          have HQQ := Lib.hid hqq
          clear hqq
          repeat (first
            | (refine wpQuiet_load_fin 42 _ rfl rfl wr.heap.size 0 rfl (insCells x) _ RX.out Tryz.underlying42 rfl LX.out ?_; go_simp)
            | go_big_quiet_step (fail))
          refine wpQuiet_nil ?_
          rw [← HQQ.out]
          clear HQQ qq e3
          obtain ⟨y, hy⟩ : ∃ y, insC (S.at_ ++ [(S.ins.length : Int)]) x = y := ⟨_, rfl⟩
          obtain ⟨fi, hfi⟩ : ∃ b, fineI (S.at_ ++ [(S.ins.length : Int)]) x = b := ⟨_, rfl⟩
          have OC : Hid (Calls Tryz.prog 17 #[.pointer (some ⟨w.heap.size + 1 + 1, 0, none⟩), .agg ⟨insCells x⟩] w7.drew (fun e w' => e = .returned (.agg #[.int .i64 y.op, .int .i64 y.a, .int .i64 y.b, .int .i64 y.c, .int .i64 y.n, .int .i64 y.exit, .int .i64 y.k.kind, .int .i64 y.k.n]) ∧ CutAt w' (w.heap.size + 1 + 1) (.slice A' n' c') (S.at_ ++ [(S.ins.length : Int)]) (S.fine && fi) ∧ Fined (w.heap.size + 1 + 1) w7.drew w')) := by
            rw [← hy, ← hfi]
            exact ins_c _ _ _ _ x w7.drew (C7.out.fined ((Fined.refl _ w7).drew) rfl) WX.out
          have WY : Hid (WfIns y) := by rw [← hy]; exact insC_wf (C7.out.bd) WX.out
          have ST : Hid (cutStep t.loop S x (j : Int) = some ⟨(S.at_ ++ [(S.ins.length : Int)]), S.fine && fi, lp, S.ins ++ [y]⟩) := by rw [← hy, ← hfi]; exact st.out
          clear hy hfi st
          refine wpMs_step rfl (fun K hK => ?_)
          go_simp
          refine OC.out.mono ?_
          rintro e w8 ⟨rfl, c8, k8⟩
          have C8 := Lib.hid c8
          have K8 : Hid (Fined (w.heap.size + 1 + 1) w7 w8) := (Fined.refl _ w7).drew.trans k8
          have hz8 : wr.heap.size < w8.heap.size := Nat.lt_of_lt_of_le hz7 K8.out.size
          clear c8 k8
          refine hK _ _ (fun _ => ⟨⟨w8, K8.out⟩, rfl⟩) ?_
          clear hK K
          refine wpMs_step rfl (fun K hK => ?_)
          go_simp
          have O8 : Hid ((w8.alloc (.cells #[.int .i64 y.op, .int .i64 y.a, .int .i64 y.b, .int .i64 y.c, .int .i64 y.n, .int .i64 y.exit, .int .i64 y.k.kind, .int .i64 y.k.n] 42)).ownsRow (w.heap.size + 1 + 1 + 1) 42 8 (.slice A1 S.ins.length c1) S.ins.length (S.ins.flatMap insCells)) := (K8.out.own SI.out (by omega)).alloc _
          have U0 : Hid ((w8.alloc (.cells #[.int .i64 y.op, .int .i64 y.a, .int .i64 y.b, .int .i64 y.c, .int .i64 y.n, .int .i64 y.exit, .int .i64 y.k.kind, .int .i64 y.k.n] 42)).heap[w.heap.size]? = _) := heap_old (K8.out.row S0.out (by omega)) _
          have U1 : Hid ((w8.alloc (.cells #[.int .i64 y.op, .int .i64 y.a, .int .i64 y.b, .int .i64 y.c, .int .i64 y.n, .int .i64 y.exit, .int .i64 y.k.kind, .int .i64 y.k.n] 42)).heap[w.heap.size + 1]? = _) := heap_old (K8.out.row S1.out (by omega)) _
          have UO : Hid ((w8.alloc (.cells #[.int .i64 y.op, .int .i64 y.a, .int .i64 y.b, .int .i64 y.c, .int .i64 y.n, .int .i64 y.exit, .int .i64 y.k.kind, .int .i64 y.k.n] 42)).heap[w.heap.size + 1 + 1 + 1]? = _) := heap_old (K8.out.row SO.out (by omega)) _
          have UC := Lib.hid (C8.out.below (below_one w8 (.cells #[.int .i64 y.op, .int .i64 y.a, .int .i64 y.b, .int .i64 y.c, .int .i64 y.n, .int .i64 y.exit, .int .i64 y.k.kind, .int .i64 y.k.n] 42)))
          refine hK _ _ (fun _ => ⟨⟨_, K8.out.alloc _⟩, rfl⟩) ?_
          clear hK K
          refine wpMs_list [6, 7, 8] _ _ (by kernel_rfl) (by kernel_rfl) ?_
          simp only [List.filterMap_cons, List.filterMap_nil, List.getElem?_toArray, List.getElem?_cons_zero, List.getElem?_cons_succ]
          refine wpList_append_own _ rfl _ _ 27 rfl (w.heap.size + 1 + 1 + 1) 42 i0 (.agg #[.int .i64 0, .int .i64 0, .int .i64 0, .int .i64 0, .int .i64 0, .int .i64 0, .int .i64 0, .int .i64 0]) 8 64 Tryz.underlying27 hi hy0 hy1 hy2 rfl (by decide) (.slice A1 S.ins.length c1) S.ins.length (S.ins.flatMap insCells) rfl O8.out ⟨w8.heap.size, 0, none⟩ 1 1 [.int .i64 y.op, .int .i64 y.a, .int .i64 y.b, .int .i64 y.c, .int .i64 y.n, .int .i64 y.exit, .int .i64 y.k.kind, .int .i64 y.k.n] rfl rfl ?k1 ?k2 ?k3 ?k4 ?k5 ?_
          case k1 => exact World.news_of_block (cs := #[.int .i64 y.op, .int .i64 y.a, .int .i64 y.b, .int .i64 y.c, .int .i64 y.n, .int .i64 y.exit, .int .i64 y.k.kind, .int .i64 y.k.n]) (heap_last w8 _)
          case k2 => exact ins_ones y
          case k3 => unfold maxLen; omega
          case k4 => omega
          case k5 => simp; omega
          intro v' w10 hown hg _
          have O9 := Lib.hid hown
          have V0 := Lib.hid (grow_far O8.out hg U0.out (by decide))
          have V1 := Lib.hid (grow_far O8.out hg U1.out (by decide))
          have VO := Lib.hid (grow_far O8.out hg UO.out (by decide))
          have VC := Lib.hid (UC.out.grow_ O8.out hg (by decide) (by decide))
          obtain ⟨A2, n2, c2, rfl⟩ := own_is_slice hown
          have KB := Lib.hid (grow_below (B' := w.heap.size) O8.out hg (by omega) (by simp; omega))
          have c9 := cell_of_row w10 (w.heap.size + 1 + 1 + 1) 3 _ _ _ VO.out
          have f9 := frozen_of_row w10 (w.heap.size + 1 + 1 + 1) 3 _ _ VO.out
          clear hown hg
          go_wp2_with fail
          go_roundw
          case rel =>
            refine ⟨j + 1, ⟨(S.at_ ++ [(S.ins.length : Int)]), S.fine && fi, lp, S.ins ++ [y]⟩, .slice A' n' c', .slice A2 n2 c2, by go_num, by omega, by simp [hS], by simp; omega, ⟨hl90, hl91⟩, hSR.out _ ST.out, ?_, ?_, ?_, ?_, ?_, ?_, ?_⟩
            · intro z hz
              rcases List.mem_append.1 hz with hz | hz
              · exact SW.out z hz
              · simp at hz; subst hz; exact WY.out
            · exact VC.out.set_far VO.out (by omega) (by decide) _ _
            · show _ = _
              rw [heap_setCell_other w10 _ _ _ (by show _ ≠ w.heap.size + 1 + 1 + 1; omega)]; exact V0.out
            · show _ = _
              rw [heap_setCell_other w10 _ _ _ (by show _ ≠ w.heap.size + 1 + 1 + 1; omega)]; exact V1.out
            · show _ = _
              rw [heap_setCell_same w10 (w.heap.size + 1 + 1 + 1) 3 _ _ _ VO.out]; rfl
            · have e8 : (S.ins ++ [y]).flatMap insCells = S.ins.flatMap insCells ++ insCells y := by simp
              show World.ownsRow _ _ _ _ _ _ _
              rw [e8, List.length_append]
              exact own_far O9.out VO.out (by decide) _ _
            · exact Below.set_at (((K7.out.trans (K8.out.under (by omega) (by have := K7.out.size; omega))).alloc (by have := K7.out.size; have := K8.out.size; omega) _).trans KB.out) (by omega) _ _
          case measure => simp [RowKit.intOf]; omega
        · by_cases c1' : n = -1
          · subst c1'
            have st : Hid (cutStep t.loop S x (-1) = some ⟨S.at_ ++ [-1], S.fine, lp, S.ins⟩) := by
              unfold cutStep Hid
              dsimp only
              rw [hS, if_neg (by omega), if_pos rfl, ← HLP.out]
            have cn : ((-1 : Int) == (j : Int)) = false := beq_eq_false_iff_ne.2 (by omega)
            have KW : Hid (Below wi.heap.size wi (wi.alloc (.cells #[.int .i64 (-1)] 3))) := below_one _ _
            have CW := Lib.hid (CI.out.below KW.out)
            have HAB : Hid (-1 ≤ (-1 : Int) ∧ (-1 : Int) ≤ 300) := ⟨by omega, by omega⟩
            go_wp2_with (at_builtin; refine wpList_append_own _ rfl _ _ 47 rfl (w.heap.size + 1 + 1 + 1) 3 q0 (.int .i64 0) 1 8 Tryz.underlying47 hq0 hq1 hq2 hq3 rfl (by decide) tv S.at_.length (S.at_.map (.int .i64)) rfl CW.out.own ⟨wi.heap.size, 0, none⟩ 1 1 [.int .i64 (-1)] rfl rfl ?c1 ?c2 ?c3 ?c4 ?c5 ?_)
            case c1 => exact World.news_of_block (cs := #[.int .i64 (-1)]) (heap_last wi _)
            case c2 => intro u hu; simp at hu; subst hu; rfl
            case c3 => unfold maxLen; omega
            case c4 => omega
            case c5 => simp; omega
            intro v' w6 hown hg _
            have O7 : Hid (w6.ownsRow (w.heap.size + 1 + 1 + 1) 3 1 v' (S.at_.length + 1) (S.at_.map (.int .i64) ++ [.int .i64 (-1)])) := by first | exact hown | (rw [hS]; exact hown)
            have KG := Lib.hid hg
            obtain ⟨A', n', c', rfl⟩ := own_is_slice hown
            have GC := Lib.hid (grow_far CW.out.own hg CW.out.here (by decide))
            have c7 := cell_of_row w6 (w.heap.size + 1 + 1) 0 _ _ _ GC.out
            have f7 := frozen_of_row w6 (w.heap.size + 1 + 1) 0 _ _ GC.out
            clear hown hg
            go_wp2_with fail
            go_roundw
            case rel =>
              refine ⟨j + 1, ⟨S.at_ ++ [(-1)], S.fine, lp, S.ins⟩, .slice A' n' c', .slice A1 S.ins.length c1, by go_num, by omega, by simp [hS], by (show S.ins.length ≤ j + 1); omega, ⟨hl90, hl91⟩, hSR.out _ st.out, SW.out, ?_, ?_, ?_, ?_, ?_, ?_⟩
              · exact cut_push CW.out O7.out KG.out HAB.out hS3
              · exact push_row CW.out KG.out ((KW.out.block _ (by omega)).trans B0.out) (by decide) (by omega)
              · exact push_row CW.out KG.out ((KW.out.block _ (by omega)).trans B1.out) (by decide) (by omega)
              · exact push_row CW.out KG.out ((KW.out.block _ (by omega)).trans BO.out) (by decide) (by omega)
              · exact push_own CW.out KG.out ((Fined.of_below (bc := w.heap.size) KW.out).own OB.out (by omega)) (by decide) (by decide)
              · exact (KI.out.trans (KW.out.mono KI.out.size)).trans (push_below CW.out KG.out (by omega) (by have := KI.out.size; have := KW.out.size; omega))
            case measure => simp [RowKit.intOf]; omega
          · by_cases c2' : 0 ≤ n ∧ n < (j : Int)
            · obtain ⟨d0, d1⟩ := c2'
              obtain ⟨k, rfl⟩ := Int.eq_ofNat_of_zero_le d0
              have hk : k < S.at_.length := by omega
              have hs := CI.out.slice
              obtain ⟨A5, cap5, rfl, l1, l2, -⟩ := id hs
              unfold maxLen at l2
              obtain ⟨b3, off3, a, cs3, rfl, hb3, ha, -, ⟨rfl, wa5⟩, hat3⟩ := hs.at_ (i := k) hk
              have a5 : wi.cell? ⟨b3, off3 + k, none⟩ = some (.int .i64 a) := by simpa using hat3 0 _ rfl
              have st : Hid (cutStep t.loop S x (k : Int) = some ⟨S.at_ ++ [a], S.fine, lp, S.ins⟩) := by
                unfold cutStep Hid
                dsimp only
                rw [hS, if_neg (by omega), if_neg (by omega), if_pos (by omega), ← HLP.out, Int.toNat_natCast, List.getD_eq_getElem?_getD, ha]; rfl
              have HAB : Hid (-1 ≤ a ∧ a ≤ 300) := CI.out.bd a (List.mem_of_getElem? ha)
              have e0 : ∀ E : Up wi, E.to.cell? ⟨w.heap.size + 1 + 1, 0, none⟩ = some (.slice (some ⟨b3, off3, none⟩) S.at_.length cap5) := fun E => E.cell h0
              have e5 : ∀ E : Up wi, E.to.cell? ⟨b3, off3 + k, none⟩ = some (.int .i64 a) := fun E => E.cell a5
              have hki : (k : Int) < S.at_.length := by omega
              have cn : ((k : Int) == (j : Int)) = false := beq_eq_false_iff_ne.2 cj
              have cn2 : ((k : Int) == -1) = false := beq_eq_false_iff_ne.2 c1'
              have hzb3 : b3 < wi.heap.size := hb3
              clear hs hat3 ha a5 h0
              go_upto_region 18 with fail
              clear nI cn cn2
              refine wp_region_moves (fun w' => ∃ E : Up wi, w' = E.to) [0] [1, 2, 3, 4, 5, 6, 7, 8, 9, 10, 11] [12, 13, 14, 15, 16] [12] _ (by kernel_rfl) (by kernel_rfl) (by simp only [List.cons_append, List.nil_append, List.filterMap_cons, List.filterMap_nil, List.getElem?_toArray, List.getElem?_cons_zero, List.getElem?_cons_succ]; rfl) (fun _ _ d _ _ h => by cases d <;> exact h) ⟨⟨_, (Below.refl _ wi).drew⟩, rfl⟩ ?_
              show wpQuiet _ _ _ _ [_, _, _, _, _, _, _, _, _, _, _, _] _
              generalize hqq : (fun a' => wpMs _ _ _ _ _ _ a' _) = qq
              have HQQ := Lib.hid hqq
              clear hqq
              repeat (go_big_quiet_step (fail))
              refine wpQuiet_nil ?_
              rw [← HQQ.out]
              clear HQQ qq e0 e5
              refine wpMs_step rfl (fun K hK => ?_)
              go_simp
              refine hK _ _ (fun _ => ⟨⟨_, (Below.refl _ wi).drew.alloc (Nat.le_refl _) _⟩, rfl⟩) ?_
              clear hK K
              refine wpMs_list [13, 14, 15, 16] _ _ (by kernel_rfl) (by kernel_rfl) ?_
              simp only [List.filterMap_cons, List.filterMap_nil, List.getElem?_toArray, List.getElem?_cons_zero, List.getElem?_cons_succ]
              have KW : Hid (Below wi.heap.size wi (wi.drew.alloc (.cells #[.int .i64 a] 3))) := (Below.refl _ wi).drew.alloc (Nat.le_refl _) _
              have CW := Lib.hid (CI.out.below KW.out)
              refine wpList_append_own _ rfl _ _ 47 rfl (w.heap.size + 1 + 1 + 1) 3 q0 (.int .i64 0) 1 8 Tryz.underlying47 hq0 hq1 hq2 hq3 rfl (by decide) (.slice (some ⟨b3, off3, none⟩) S.at_.length cap5) S.at_.length (S.at_.map (.int .i64)) (by first | rfl | (rw [hS]; rfl)) CW.out.own ⟨wi.heap.size, 0, none⟩ 1 1 [.int .i64 a] rfl rfl ?c1 ?c2 ?c3 ?c4 ?c5 ?_
              case c1 => exact World.news_of_block (cs := #[.int .i64 a]) (heap_last wi.drew _)
              case c2 => intro u hu; simp at hu; subst hu; rfl
              case c3 => unfold maxLen; omega
              case c4 => omega
              case c5 => simp [World.drew]; omega
              intro v' w6 hown hg _
              have O7 : Hid (w6.ownsRow (w.heap.size + 1 + 1 + 1) 3 1 v' (S.at_.length + 1) (S.at_.map (.int .i64) ++ [.int .i64 a])) := by first | exact hown | (rw [hS]; exact hown)
              have KG := Lib.hid hg
              obtain ⟨A', n', c', rfl⟩ := own_is_slice hown
              have GC := Lib.hid (grow_far CW.out.own hg CW.out.here (by decide))
              have c7 := cell_of_row w6 (w.heap.size + 1 + 1) 0 _ _ _ GC.out
              have f7 := frozen_of_row w6 (w.heap.size + 1 + 1) 0 _ _ GC.out
              clear hown hg
              go_wp2_with fail
              go_roundw
              case rel =>
                refine ⟨j + 1, ⟨S.at_ ++ [a], S.fine, lp, S.ins⟩, .slice A' n' c', .slice A1 S.ins.length c1, by go_num, by omega, by simp [hS], by (show S.ins.length ≤ j + 1); omega, ⟨hl90, hl91⟩, hSR.out _ st.out, SW.out, ?_, ?_, ?_, ?_, ?_, ?_⟩
                · exact cut_push CW.out O7.out KG.out HAB.out hS3
                · exact push_row CW.out KG.out ((KW.out.block _ (by omega)).trans B0.out) (by decide) (by omega)
                · exact push_row CW.out KG.out ((KW.out.block _ (by omega)).trans B1.out) (by decide) (by omega)
                · exact push_row CW.out KG.out ((KW.out.block _ (by omega)).trans BO.out) (by decide) (by omega)
                · exact push_own CW.out KG.out ((Fined.of_below (bc := w.heap.size) KW.out).own OB.out (by omega)) (by decide) (by decide)
                · exact (KI.out.trans (KW.out.mono KI.out.size)).trans (push_below CW.out KG.out (by omega) (by have := KI.out.size; have := KW.out.size; omega))
              case measure => simp [RowKit.intOf]; omega
            · have HN : Hid (cutM t tl = (trace0, 3)) := by
                have h1 := hSN.out (by
                  unfold cutStep
                  dsimp only
                  rw [hS, if_neg cj, if_neg c1', if_neg c2'])
                rw [hS0] at h1
                unfold cutM Hid
                rw [if_neg (fun h => h HEQ.out), h1]
              have cn : (n == (j : Int)) = false := beq_eq_false_iff_ne.2 cj
              have cn2 : (n == -1) = false := beq_eq_false_iff_ne.2 c1'
              clear h0
              by_cases d0 : 0 ≤ n
              · have d1 : ¬ n < (j : Int) := fun h => c2' ⟨d0, h⟩
                have d2 : (j : Int) ≤ n := by omega
                go_wp2_with (refine wpList_store_row rfl 34 _ _ rfl (w.heap.size + 1) #[.int .i64 0, .int .i64 0, .int .i64 0, .slice none 0 0, .slice none 0 0, .int .i64 0, .int .i64 0, .slice none 0 0, .slice none 0 0, .int .i64 0, .int .i64 0, .slice none 0 0, .slice none 0 0] rfl rfl 34 _ B1.out infoTr13 rfl (all_oneCell_toArray (by simp [Value.oneCell'])) ?_)
                generalize hw9 : World.setRow _ _ _ = w9
                have QR : Hid (w9.heap[w.heap.size + 1]? = some (.cells #[.int .i64 0, .int .i64 0, .int .i64 0, .slice none 0 0, .slice none 0 0, .int .i64 0, .int .i64 0, .slice none 0 0, .slice none 0 0, .int .i64 0, .int .i64 0, .slice none 0 0, .slice none 0 0] 34 (0, 0))) := by rw [← hw9]; exact setRow_heap _ _ _ _ _ _ B1.out
                have K9 : Hid (Below w.heap.size w w9) := by rw [← hw9]; exact Below.set_row KI.out (by omega) _
                clear hw9
                go_wp2_with fail
                have r0 := cell_of_row w9 (w.heap.size + 1) 0 _ _ _ QR.out
                have r1 := cell_of_row w9 (w.heap.size + 1) 1 _ _ _ QR.out
                have r2 := cell_of_row w9 (w.heap.size + 1) 2 _ _ _ QR.out
                have r3 := cell_of_row w9 (w.heap.size + 1) 3 _ _ _ QR.out
                have r4 := cell_of_row w9 (w.heap.size + 1) 4 _ _ _ QR.out
                have r5 := cell_of_row w9 (w.heap.size + 1) 5 _ _ _ QR.out
                have r6 := cell_of_row w9 (w.heap.size + 1) 6 _ _ _ QR.out
                have r7 := cell_of_row w9 (w.heap.size + 1) 7 _ _ _ QR.out
                have r8 := cell_of_row w9 (w.heap.size + 1) 8 _ _ _ QR.out
                have r9 := cell_of_row w9 (w.heap.size + 1) 9 _ _ _ QR.out
                have r10 := cell_of_row w9 (w.heap.size + 1) 10 _ _ _ QR.out
                have r11 := cell_of_row w9 (w.heap.size + 1) 11 _ _ _ QR.out
                have r12 := cell_of_row w9 (w.heap.size + 1) 12 _ _ _ QR.out
                unfold CutPost2
                rw [HN.out]
                refine bodyPost_ret (v := .tuple #[.agg ⟨zeroTrace⟩, .int .i64 3]) (by simp [results, Tryz.results7, go_sem, zeroTrace, r0, r1, r2, r3, r4, r5, r6, r7, r8, r9, r10, r11, r12]) rfl ⟨_, rfl, zeroTrace_R _ _, K9.out, fun _ _ => zeroTrace_R _ _⟩
              · have d1 : n < 0 := by omega
                go_wp2_with (refine wpList_store_row rfl 34 _ _ rfl (w.heap.size + 1) #[.int .i64 0, .int .i64 0, .int .i64 0, .slice none 0 0, .slice none 0 0, .int .i64 0, .int .i64 0, .slice none 0 0, .slice none 0 0, .int .i64 0, .int .i64 0, .slice none 0 0, .slice none 0 0] rfl rfl 34 _ B1.out infoTr13 rfl (all_oneCell_toArray (by simp [Value.oneCell'])) ?_)
                generalize hw9 : World.setRow _ _ _ = w9
                have QR : Hid (w9.heap[w.heap.size + 1]? = some (.cells #[.int .i64 0, .int .i64 0, .int .i64 0, .slice none 0 0, .slice none 0 0, .int .i64 0, .int .i64 0, .slice none 0 0, .slice none 0 0, .int .i64 0, .int .i64 0, .slice none 0 0, .slice none 0 0] 34 (0, 0))) := by rw [← hw9]; exact setRow_heap _ _ _ _ _ _ B1.out
                have K9 : Hid (Below w.heap.size w w9) := by rw [← hw9]; exact Below.set_row KI.out (by omega) _
                clear hw9
                go_wp2_with fail
                have r0 := cell_of_row w9 (w.heap.size + 1) 0 _ _ _ QR.out
                have r1 := cell_of_row w9 (w.heap.size + 1) 1 _ _ _ QR.out
                have r2 := cell_of_row w9 (w.heap.size + 1) 2 _ _ _ QR.out
                have r3 := cell_of_row w9 (w.heap.size + 1) 3 _ _ _ QR.out
                have r4 := cell_of_row w9 (w.heap.size + 1) 4 _ _ _ QR.out
                have r5 := cell_of_row w9 (w.heap.size + 1) 5 _ _ _ QR.out
                have r6 := cell_of_row w9 (w.heap.size + 1) 6 _ _ _ QR.out
                have r7 := cell_of_row w9 (w.heap.size + 1) 7 _ _ _ QR.out
                have r8 := cell_of_row w9 (w.heap.size + 1) 8 _ _ _ QR.out
                have r9 := cell_of_row w9 (w.heap.size + 1) 9 _ _ _ QR.out
                have r10 := cell_of_row w9 (w.heap.size + 1) 10 _ _ _ QR.out
                have r11 := cell_of_row w9 (w.heap.size + 1) 11 _ _ _ QR.out
                have r12 := cell_of_row w9 (w.heap.size + 1) 12 _ _ _ QR.out
                unfold CutPost2
                rw [HN.out]
                refine bodyPost_ret (v := .tuple #[.agg ⟨zeroTrace⟩, .int .i64 3]) (by simp [results, Tryz.results7, go_sem, zeroTrace, r0, r1, r2, r3, r4, r5, r6, r7, r8, r9, r10, r11, r12]) rfl ⟨_, rfl, zeroTrace_R _ _, K9.out, fun _ _ => zeroTrace_R _ _⟩
    · obtain rfl : j = t.ins.length := by omega
      have hji : ¬ (t.ins.length : Int) < t.ins.length := by omega
      have HC : Hid (cutRun t.loop t.ins tl ⟨[], true, 0, []⟩ = some S) := by
        have h1 := SR.out
        rw [List.drop_length, hS0] at h1
        rw [show Hid _ = _ from rfl, ← h1]
        cases tl.drop t.ins.length <;> rfl
      obtain ⟨lp1, hlp1⟩ : ∃ x, x = (if (t.ins.length : Int) ≤ t.loop then (S.ins.length : Int) else S.loop) := ⟨_, rfl⟩
      obtain ⟨lp2, hlp2⟩ : ∃ x, x = (if t.loop ≤ 0 then 0 else lp1) := ⟨_, rfl⟩
      have HL1 := Lib.hid hlp1
      have HL2 := Lib.hid hlp2
      have hsi : S.ins.length ≤ 300 := by omega
      have hb1 : 0 ≤ lp1 ∧ lp1 ≤ 300 := by rw [hlp1]; split <;> omega
      have hb2 : 0 ≤ lp2 ∧ lp2 ≤ 300 := by rw [hlp2]; split <;> omega
      have HB1 := Lib.hid hb1
      have HB2 := Lib.hid hb2
      clear hlp1 hlp2 hb1 hb2 SR
      have l2 : wr.cell? ⟨w.heap.size, 2, none⟩ = some (.int .i64 t.loop) := by rw [cell_of_row wr w.heap.size 2 _ _ _ R0.out]; simpa using P2.out
      have l3 : wr.cell? ⟨w.heap.size, 3, none⟩ = some (.slice Ai t.ins.length ni) := by rw [cell_of_row wr w.heap.size 3 _ _ _ R0.out]; simpa using P3.out
      go_upto_if 114 with fail
      go_cut [] (fun wx => Hid (CutAt wx (w.heap.size + 1 + 1) tv S.at_ S.fine) ∧ Hid (wx.heap[w.heap.size]? = some (.cells ⟨ca⟩ 34 (0, 0))) ∧ Hid (wx.heap[w.heap.size + 1]? = some (.cells ⟨zeroTrace⟩ 34 (0, 0))) ∧
        Hid (wx.heap[w.heap.size + 1 + 1 + 1]? = some (.cells #[.int .i64 t.fn, .int .i64 t.at_, .int .i64 lp1, .slice A1 S.ins.length c1, .slice none 0 0, .int .i64 0, .int .i64 0, .slice none 0 0, .slice none 0 0, .int .i64 0, .int .i64 0, .slice none 0 0, .slice none 0 0] 34 (0, 0))) ∧
        Hid (wx.ownsRow (w.heap.size + 1 + 1 + 1) 42 8 (.slice A1 S.ins.length c1) S.ins.length (S.ins.flatMap insCells)) ∧ Hid (Below w.heap.size w wx))
      case first =>
        have a3 := cell_of_row wr (w.heap.size + 1 + 1 + 1) 3 _ _ _ RO.out
        have fz := frozen_of_row wr (w.heap.size + 1 + 1 + 1) 2 _ _ RO.out
        have cz := cell_of_row wr (w.heap.size + 1 + 1 + 1) 2 _ _ _ RO.out
        have h1 := HL1.out
        by_cases b1 : (t.ins.length : Int) ≤ t.loop
        · rw [if_pos b1] at h1
          subst h1
          go_wp2_with fail
          go_meet
          · refine ⟨SC.out.set_far RO.out (by omega) (by decide) _ _, ?_, ?_, ?_, own_far OI.out RO.out (by decide) _ _, Below.set_at BW.out (by omega) _ _⟩
            · show _ = _
              rw [heap_setCell_other wr _ _ _ (by show _ ≠ w.heap.size + 1 + 1 + 1; omega)]; exact R0.out
            · show _ = _
              rw [heap_setCell_other wr _ _ _ (by show _ ≠ w.heap.size + 1 + 1 + 1; omega)]; exact R1.out
            · show _ = _
              rw [heap_setCell_same wr _ _ _ _ _ RO.out]; rfl
        · rw [if_neg b1] at h1
          subst h1
          go_wp2_with fail
          go_meet
          · exact ⟨SC.out, R0.out, R1.out, RO.out, OI.out, BW.out⟩
      case rest =>
        obtain ⟨wi, hwi⟩ : ∃ wi, wi = wc := ⟨_, rfl⟩
        subst hwi
        clear l2 l3 R0 R1 RO OI BW SC
        obtain ⟨SC, R0, R1, RO, OI, BW⟩ := hcut
        have hzi : w.heap.size + 1 + 1 + 1 < wi.heap.size := (Array.getElem?_eq_some_iff.1 RO.out).1
        have l2 : wi.cell? ⟨w.heap.size, 2, none⟩ = some (.int .i64 t.loop) := by rw [cell_of_row wi w.heap.size 2 _ _ _ R0.out]; simpa using P2.out
        go_upto_if 121 with fail
        go_cut [] (fun wx => Hid (CutAt wx (w.heap.size + 1 + 1) tv S.at_ S.fine) ∧ Hid (wx.heap[w.heap.size]? = some (.cells ⟨ca⟩ 34 (0, 0))) ∧ Hid (wx.heap[w.heap.size + 1]? = some (.cells ⟨zeroTrace⟩ 34 (0, 0))) ∧
          Hid (wx.heap[w.heap.size + 1 + 1 + 1]? = some (.cells #[.int .i64 t.fn, .int .i64 t.at_, .int .i64 lp2, .slice A1 S.ins.length c1, .slice none 0 0, .int .i64 0, .int .i64 0, .slice none 0 0, .slice none 0 0, .int .i64 0, .int .i64 0, .slice none 0 0, .slice none 0 0] 34 (0, 0))) ∧
          Hid (wx.ownsRow (w.heap.size + 1 + 1 + 1) 42 8 (.slice A1 S.ins.length c1) S.ins.length (S.ins.flatMap insCells)) ∧ Hid (Below w.heap.size w wx))
        case first =>
          have a3 := cell_of_row wi (w.heap.size + 1 + 1 + 1) 3 _ _ _ RO.out
          have fz := frozen_of_row wi (w.heap.size + 1 + 1 + 1) 2 _ _ RO.out
          have cz := cell_of_row wi (w.heap.size + 1 + 1 + 1) 2 _ _ _ RO.out
          have h1 := HL2.out
          by_cases b1 : t.loop ≤ 0
          · rw [if_pos b1] at h1
            subst h1
            go_wp2_with fail
            go_meet
            · refine ⟨SC.out.set_far RO.out (by omega) (by decide) _ _, ?_, ?_, ?_, own_far OI.out RO.out (by decide) _ _, Below.set_at BW.out (by omega) _ _⟩
              · show _ = _
                rw [heap_setCell_other wi _ _ _ (by show _ ≠ w.heap.size + 1 + 1 + 1; omega)]; exact R0.out
              · show _ = _
                rw [heap_setCell_other wi _ _ _ (by show _ ≠ w.heap.size + 1 + 1 + 1; omega)]; exact R1.out
              · show _ = _
                rw [heap_setCell_same wi _ _ _ _ _ RO.out]; rfl
          · rw [if_neg b1] at h1
            subst h1
            go_wp2_with fail
            go_meet
            · exact ⟨SC.out, R0.out, R1.out, RO.out, OI.out, BW.out⟩
        case rest =>
          clear l2 R0 R1 RO OI BW SC
          obtain ⟨wj, hwj⟩ : ∃ wj, wj = wc := ⟨_, rfl⟩
          subst hwj
          obtain ⟨SC, R0, R1, RO, OI, BW⟩ := hcut
          obtain ⟨Ae, ne, p4, qe⟩ := HT.out.at4
          have QE := Lib.hid qe
          have P4 := Lib.hid p4
          have hxl := HSM.out.exitsLen
          have l4 : wj.cell? ⟨w.heap.size, 4, none⟩ = some (.slice Ae t.exits.length ne) := by rw [cell_of_row wj w.heap.size 4 _ _ _ R0.out]; simpa using P4.out
          obtain ⟨x0, hx0, hx1, hx2, hx3⟩ := info_parts infoEx
          clear qe p4
          go_wp2_with fail
          go_loopw [126] (fun i wr => ∃ (j : Nat) (xv : Value) (rows : List (List Value)), i = .int .i64 j ∧ j ≤ t.exits.length ∧ rows.length = j ∧ Hid (wr.heap[w.heap.size]? = some (.cells ⟨ca⟩ 34 (0, 0))) ∧ Hid (wr.heap[w.heap.size + 1]? = some (.cells ⟨zeroTrace⟩ 34 (0, 0))) ∧
            Hid (wr.heap[w.heap.size + 1 + 1 + 1]? = some (.cells #[.int .i64 t.fn, .int .i64 t.at_, .int .i64 lp2, .slice A1 S.ins.length c1, xv, .int .i64 0, .int .i64 0, .slice none 0 0, .slice none 0 0, .int .i64 0, .int .i64 0, .slice none 0 0, .slice none 0 0] 34 (0, 0))) ∧
            Hid (wr.ownsRow (w.heap.size + 1 + 1 + 1) 42 8 (.slice A1 S.ins.length c1) S.ins.length (S.ins.flatMap insCells)) ∧ Hid (wr.ownsRow (w.heap.size + 1 + 1 + 1) 32 4 xv j (rows.flatMap id)) ∧
            Hid (∀ (i : Nat) x, (t.exits.take j)[i]? = some x → ∃ c, rows[i]? = some c ∧ c.length = 4 ∧ ExitT wr (w.heap.size + 1 + 1 + 1) c (exitC S.at_ x)) ∧
            Hid (CutAt wr (w.heap.size + 1 + 1) tv S.at_ (S.fine && (t.exits.take j).all (fineX S.at_))) ∧ Hid (Below w.heap.size w wr)) (fun i _ => t.exits.length - (RowKit.intOf i).toNat)
          case atStart => exact ⟨0, _, [], rfl, by omega, rfl, R0.out, R1.out, RO.out, OI.out, World.ownsRow_nil _ _ _ _, fun i m hm => by simp at hm, by rw [List.take_zero, List.all_nil, Bool.and_true]; exact SC.out, BW.out⟩
          case round =>
            clear R0 R1 RO OI BW SC l4
            obtain ⟨j, xv, rows, rfl, hj, hrl, R0, R1, RO, OI, OX, XS, SC, BW⟩ := hrel
            obtain ⟨wo, hwo⟩ : ∃ wo, wo = wr := ⟨_, rfl⟩
            subst hwo
            have hzo : w.heap.size + 1 + 1 + 1 < wo.heap.size := (Array.getElem?_eq_some_iff.1 RO.out).1
            by_cases hlt : j < t.exits.length
            · have hji2 : (j : Int) < t.exits.length := by omega
              obtain ⟨b, off, y, ys, rfl, hb, hy, -, ⟨s, m, rfl, hs, hm, wy1, wy2⟩, hat⟩ := QE.out.at_ hlt
              obtain ⟨SS, cS, rfl, ls1, ls2, -⟩ := id hs
              obtain ⟨MM, cM, rfl, lm1, lm2, -⟩ := id hm
              have XR : Hid (ExitR w w.heap.size [.int .i64 y.at_, .int .i64 y.steps, .slice SS y.sets.length cS, .slice MM y.makes.length cM] y) := ⟨_, _, rfl, hs, hm, wy1, wy2⟩
              have g0 : wo.cell? ⟨b, off + j * 4, none⟩ = some (.int .i64 y.at_) := (BW.out.cell hb).trans (hat 0 _ rfl)
              have g1 : wo.cell? ⟨b, off + j * 4 + 1, none⟩ = some (.int .i64 y.steps) := (BW.out.cell hb).trans (hat 1 _ rfl)
              have g2 : wo.cell? ⟨b, off + j * 4 + 2, none⟩ = some (.slice SS y.sets.length cS) := (BW.out.cell hb).trans (hat 2 _ rfl)
              have g3 : wo.cell? ⟨b, off + j * 4 + 3, none⟩ = some (.slice MM y.makes.length cM) := (BW.out.cell hb).trans (hat 3 _ rfl)
              have HY := Lib.hid hy
              have hbz : b < wo.heap.size := by omega
              have SM := Lib.hid (HSM.out.exits y (List.mem_of_getElem? hy))
              obtain ⟨wa, hwa⟩ : ∃ wa, wa = wo.alloc (.cells #[.int .i64 y.at_, .int .i64 y.steps, .slice SS y.sets.length cS, .slice MM y.makes.length cM] 32) := ⟨_, rfl⟩
              have KA : Hid (Below wo.heap.size wo wa) := by rw [hwa]; exact below_one _ _
              have AX : Hid (wa.heap[wo.heap.size]? = some (.cells #[.int .i64 y.at_, .int .i64 y.steps, .slice SS y.sets.length cS, .slice MM y.makes.length cM] 32 (0, 0))) := by rw [hwa]; exact heap_last _ _
              have hza : wo.heap.size < wa.heap.size := (Array.getElem?_eq_some_iff.1 AX.out).1
              have A0 := Lib.hid ((KA.out.block _ (by omega)).trans R0.out)
              have A1' := Lib.hid ((KA.out.block _ (by omega)).trans R1.out)
              have AO := Lib.hid ((KA.out.block _ hzo).trans RO.out)
              have AI := Lib.hid ((Fined.of_below (bc := w.heap.size) KA.out).own OI.out (by omega))
              have AE := Lib.hid ((Fined.of_below (bc := w.heap.size) KA.out).own OX.out (by omega))
              have AC := Lib.hid (SC.out.below KA.out)
              have AB := Lib.hid (BW.out.trans (KA.out.mono BW.out.size))
              have AT : Hid (∀ (i : Nat) x, (t.exits.take j)[i]? = some x → ∃ c, rows[i]? = some c ∧ c.length = 4 ∧ ExitT wa (w.heap.size + 1 + 1 + 1) c (exitC S.at_ x)) := fun i x hx => by
                obtain ⟨c, h1, h2, h3⟩ := XS.out i x hx
                exact ⟨c, h1, h2, h3.below KA.out⟩
              have HWA := Lib.hid hwa
              clear hwa hat hy wy1 wy2 hs hm ls1 ls2 lm1 lm2 R0 R1 RO OI OX XS SC BW
              go_upto_region 27 with fail
              rw [← HWA.out]
              clear g0 g1 g2 g3
              have t4 := cell_of_row wa (w.heap.size + 1 + 1 + 1) 4 _ _ _ AO.out
              have e4 : ∀ E : Fin_ (w.heap.size + 1 + 1) wa, E.wd.cell? ⟨w.heap.size + 1 + 1 + 1, 4, none⟩ = some xv := fun E => E.cell t4 (by show w.heap.size + 1 + 1 + 1 ≠ w.heap.size + 1 + 1; omega)
              have RX : Hid (∀ E : Fin_ (w.heap.size + 1 + 1) wa, E.wd.rangeAt wo.heap.size 0 [.int .i64 y.at_, .int .i64 y.steps, .slice SS y.sets.length cS, .slice MM y.makes.length cM]) := fun E a v hv => E.cell ((HeadAt.of_row AX.out).range a v hv) (by show wo.heap.size ≠ w.heap.size + 1 + 1; omega)
              have LX : Hid ((Tryz.prog.info? 32).map (·.size) = some ([.int .i64 y.at_, .int .i64 y.steps, .slice SS y.sets.length cS, .slice MM y.makes.length cM] : List Value).length) := infoEx4
              clear t4
              refine wp_region_first (fun w' => ∃ E : Fin_ (w.heap.size + 1 + 1) wa, w' = E.wd) 4 [4, 5, 6, 7, 8] [4, 5] (by kernel_rfl) (by decide) (by kernel_rfl) (fun _ _ d _ _ h => by cases d <;> exact h) ⟨⟨_, (Fined.refl _ wa).drew⟩, rfl⟩ ?_
              simp only [List.take_succ_cons, List.take_zero]
              generalize hqq : (fun a' => wpMs _ _ _ _ _ _ a' _) = qq
              have HQQ := Lib.hid hqq
              clear hqq
              repeat (first
                | (refine wpQuiet_load_fin 32 _ rfl rfl wo.heap.size 0 rfl [.int .i64 y.at_, .int .i64 y.steps, .slice SS y.sets.length cS, .slice MM y.makes.length cM] _ RX.out Tryz.underlying32 rfl LX.out ?_; go_simp)
                | go_big_quiet_step (fail))
              refine wpQuiet_nil ?_
              rw [← HQQ.out]
              clear HQQ qq e4
              obtain ⟨z, hz⟩ : ∃ z, exitC S.at_ y = z := ⟨_, rfl⟩
              have OC : Hid (Calls Tryz.prog 18 #[.pointer (some ⟨w.heap.size + 1 + 1, 0, none⟩), .agg #[.int .i64 y.at_, .int .i64 y.steps, .slice SS y.sets.length cS, .slice MM y.makes.length cM]] wa.drew (fun e w' => ∃ cs, e = .returned (.agg ⟨cs⟩) ∧ ExitT w' wa.heap.size cs z ∧ CutAt w' (w.heap.size + 1 + 1) tv S.at_ ((S.fine && (t.exits.take j).all (fineX S.at_)) && fineX S.at_ y) ∧ Fined (w.heap.size + 1 + 1) wa.drew w')) := by
                rw [← hz]
                exact exit_c _ _ _ _ _ y wa.drew (AC.out.fined ((Fined.refl _ wa).drew) rfl) (XR.out.keep AB.out.size (fun _ hp => AB.out.cell hp)) (by have := SM.out.1; omega) (by have := SM.out.2.1; omega) (fun m hm => by have := SM.out.2.2 m hm; omega)
              have HZ := Lib.hid hz
              clear hz
              refine wpMs_step rfl (fun K hK => ?_)
              go_simp
              refine OC.out.mono ?_
              rintro e w8 ⟨cs, rfl, xT, c8, k8⟩
              have XT := Lib.hid xT
              obtain ⟨s8, m8, rfl, hs8, hm8, -⟩ := xT
              obtain ⟨A8, n8, rfl, -⟩ := hs8
              obtain ⟨A9, n9, rfl, -⟩ := hm8
              have C8 := Lib.hid c8
              have K8 : Hid (Fined (w.heap.size + 1 + 1) wa w8) := (Fined.refl _ wa).drew.trans k8
              have hz8 : wo.heap.size < w8.heap.size := Nat.lt_of_lt_of_le hza K8.out.size
              clear c8 k8
              refine hK _ _ (fun _ => ⟨⟨w8, K8.out⟩, rfl⟩) ?_
              clear hK K
              refine wpMs_step rfl (fun K hK => ?_)
              go_simp
              have O8 : Hid ((w8.alloc (.cells #[.int .i64 z.at_, .int .i64 z.steps, .slice A8 z.sets.length n8, .slice A9 z.makes.length n9] 32)).ownsRow (w.heap.size + 1 + 1 + 1) 32 4 xv j (rows.flatMap id)) := (K8.out.own AE.out (by omega)).alloc _
              have U0 := Lib.hid (heap_old (K8.out.row A0.out (by omega)) (.cells #[.int .i64 z.at_, .int .i64 z.steps, .slice A8 z.sets.length n8, .slice A9 z.makes.length n9] 32))
              have U1 := Lib.hid (heap_old (K8.out.row A1'.out (by omega)) (.cells #[.int .i64 z.at_, .int .i64 z.steps, .slice A8 z.sets.length n8, .slice A9 z.makes.length n9] 32))
              have UO := Lib.hid (heap_old (K8.out.row AO.out (by omega)) (.cells #[.int .i64 z.at_, .int .i64 z.steps, .slice A8 z.sets.length n8, .slice A9 z.makes.length n9] 32))
              have UI := Lib.hid ((K8.out.own AI.out (by omega)).alloc (.cells #[.int .i64 z.at_, .int .i64 z.steps, .slice A8 z.sets.length n8, .slice A9 z.makes.length n9] 32))
              have UC := Lib.hid (C8.out.below (below_one w8 (.cells #[.int .i64 z.at_, .int .i64 z.steps, .slice A8 z.sets.length n8, .slice A9 z.makes.length n9] 32)))
              have UX := Lib.hid (XT.out.below (below_one w8 (.cells #[.int .i64 z.at_, .int .i64 z.steps, .slice A8 z.sets.length n8, .slice A9 z.makes.length n9] 32)))
              have UT : Hid (∀ (i : Nat) x, (t.exits.take j)[i]? = some x → ∃ c, rows[i]? = some c ∧ c.length = 4 ∧ ExitT (w8.alloc (.cells #[.int .i64 z.at_, .int .i64 z.steps, .slice A8 z.sets.length n8, .slice A9 z.makes.length n9] 32)) (w.heap.size + 1 + 1 + 1) c (exitC S.at_ x)) := fun i x hx => by
                obtain ⟨c, h1, h2, h3⟩ := AT.out i x hx
                exact ⟨c, h1, h2, (h3.fin K8.out (by omega)).below (below_one _ _)⟩
              refine hK _ _ (fun _ => ⟨⟨_, K8.out.alloc _⟩, rfl⟩) ?_
              clear hK K
              refine wpMs_list [6, 7, 8] _ _ (by kernel_rfl) (by kernel_rfl) ?_
              simp only [List.filterMap_cons, List.filterMap_nil, List.getElem?_toArray, List.getElem?_cons_zero, List.getElem?_cons_succ]
              refine wpList_append_own _ rfl _ _ 28 rfl (w.heap.size + 1 + 1 + 1) 32 x0 (.agg #[.int .i64 0, .int .i64 0, .slice none 0 0, .slice none 0 0]) 4 64 Tryz.underlying28 hx0 hx1 hx2 hx3 rfl (by decide) xv j (rows.flatMap id) rfl O8.out ⟨w8.heap.size, 0, none⟩ 1 1 [.int .i64 z.at_, .int .i64 z.steps, .slice A8 z.sets.length n8, .slice A9 z.makes.length n9] rfl rfl ?m1 ?m2 ?m3 ?m4 ?m5 ?_
              case m1 => exact World.news_of_block (cs := #[.int .i64 z.at_, .int .i64 z.steps, .slice A8 z.sets.length n8, .slice A9 z.makes.length n9]) (heap_last w8 _)
              case m2 => intro u hu; simp at hu; rcases hu with rfl | rfl | rfl | rfl <;> rfl
              case m3 => unfold maxLen; omega
              case m4 => omega
              case m5 => simp; omega
              intro v' w10 hown hg _
              have O9 := Lib.hid hown
              have V0 := Lib.hid (grow_far O8.out hg U0.out (by decide))
              have V1 := Lib.hid (grow_far O8.out hg U1.out (by decide))
              have VO := Lib.hid (grow_far O8.out hg UO.out (by decide))
              have VI := Lib.hid (own_grow UI.out O8.out hg (by decide))
              have VC := Lib.hid (UC.out.grow_ O8.out hg (by decide) (by decide))
              have VX := Lib.hid (UX.out.grow O8.out hg (by decide) (by decide) (by decide))
              have VT : Hid (∀ (i : Nat) x, (t.exits.take j)[i]? = some x → ∃ c, rows[i]? = some c ∧ c.length = 4 ∧ ExitT w10 (w.heap.size + 1 + 1 + 1) c (exitC S.at_ x)) := fun i x hx => by
                obtain ⟨c, h1, h2, h3⟩ := UT.out i x hx
                exact ⟨c, h1, h2, h3.grow O8.out hg (by decide) (by decide) (by decide)⟩
              obtain ⟨A2, n2, c2, rfl⟩ := own_is_slice hown
              have KB := Lib.hid (grow_below (B' := w.heap.size) O8.out hg (by omega) (by simp; omega))
              have c9 := cell_of_row w10 (w.heap.size + 1 + 1 + 1) 4 _ _ _ VO.out
              have f9 := frozen_of_row w10 (w.heap.size + 1 + 1 + 1) 4 _ _ VO.out
              clear hown hg
              go_wp2_with fail
              go_roundw
              case rel =>
                refine ⟨j + 1, .slice A2 n2 c2, rows ++ [[.int .i64 z.at_, .int .i64 z.steps, .slice A8 z.sets.length n8, .slice A9 z.makes.length n9]], by go_num, by omega, by simp; omega, ?_, ?_, ?_, ?_, ?_, ?_, ?_, ?_⟩
                · show _ = _
                  rw [heap_setCell_other w10 _ _ _ (by show _ ≠ w.heap.size + 1 + 1 + 1; omega)]; exact V0.out
                · show _ = _
                  rw [heap_setCell_other w10 _ _ _ (by show _ ≠ w.heap.size + 1 + 1 + 1; omega)]; exact V1.out
                · show _ = _
                  rw [heap_setCell_same w10 (w.heap.size + 1 + 1 + 1) 4 _ _ _ VO.out]; rfl
                · exact own_far VI.out VO.out (by decide) _ _
                · have e8 : (rows ++ [([.int .i64 z.at_, .int .i64 z.steps, .slice A8 z.sets.length n8, .slice A9 z.makes.length n9] : List Value)]).flatMap id = rows.flatMap id ++ [.int .i64 z.at_, .int .i64 z.steps, .slice A8 z.sets.length n8, .slice A9 z.makes.length n9] := by simp
                  show World.ownsRow _ _ _ _ _ _ _
                  rw [e8]
                  exact own_far O9.out VO.out (by decide) _ _
                · intro i x hx
                  rw [take_snoc HY.out] at hx
                  have hlj : (t.exits.take j).length = j := by rw [List.length_take]; omega
                  rcases Nat.lt_or_ge i j with hi | hi
                  · rw [List.getElem?_append_left (by omega)] at hx
                    obtain ⟨c, h1, h2, h3⟩ := VT.out i x hx
                    exact ⟨c, by rw [List.getElem?_append_left (by omega)]; exact h1, h2, h3.set_ VO.out (by decide) (by decide) (by decide) _ _⟩
                  · rw [List.getElem?_append_right (by omega)] at hx
                    have hi0 : i - (t.exits.take j).length = 0 := by
                      have := (List.getElem?_eq_some_iff.1 hx).1
                      simp only [List.length_cons, List.length_nil] at this; omega
                    rw [hi0] at hx
                    obtain rfl : y = x := by simpa using hx
                    refine ⟨_, ?_, rfl, by rw [HZ.out]; exact (VX.out.more (by omega)).set_ VO.out (by decide) (by decide) (by decide) _ _⟩
                    rw [List.getElem?_append_right (by omega), show i - rows.length = 0 by omega]; rfl
                · have h9 := VC.out.set_far VO.out (by omega) (by decide) 4 (.slice A2 n2 c2)
                  rw [take_snoc HY.out, List.all_append]
                  exact Lib.hid (by simpa [Bool.and_assoc] using h9)
                · exact Below.set_at (((AB.out.trans (K8.out.under (by omega) (by have := AB.out.size; omega))).alloc (by have := AB.out.size; have := K8.out.size; omega) _).trans KB.out) (by omega) _ _
              case measure => simp [RowKit.intOf]; omega
            · obtain rfl : j = t.exits.length := by omega
              have hji2 : ¬ (t.exits.length : Int) < t.exits.length := by omega
              obtain ⟨A5, n5, rfl⟩ := own_len OX.out
              have FA : Hid (CutAt wo (w.heap.size + 1 + 1) tv S.at_ (S.fine && t.exits.all (fineX S.at_))) := by
                have h1 := SC.out
                rw [take_all_len (Nat.le_refl _)] at h1
                exact h1
              have XTY : Hid (SliceTy wo (w.heap.size + 1 + 1 + 1) 32 4 (ExitT wo (w.heap.size + 1 + 1 + 1)) (.slice A5 t.exits.length n5) (t.exits.map (exitC S.at_))) := by
                have hm := XS.out
                rw [take_all_len (Nat.le_refl _)] at hm
                have hlen4 : ∀ r ∈ rows, r.length = 4 := fun r hr => by
                  obtain ⟨i, hi⟩ := List.getElem?_of_mem hr
                  have hil := (List.getElem?_eq_some_iff.1 hi).1
                  obtain ⟨c, h1, h2, _⟩ := hm i _ (List.getElem?_eq_getElem (by omega))
                  rw [hi] at h1; injection h1 with h1; rw [h1]; exact h2
                refine SliceTy.of_raw (rows := rows) (sliceTy_of_own (f := id) (by decide) hlen4 (fun r hr => ⟨rfl, hlen4 r hr⟩) (by rw [hrl]; exact OX.out)) (by rw [List.length_map]; exact hrl) (fun i m' hm' => ?_)
                rw [List.getElem?_map] at hm'
                obtain ⟨m0, h0, rfl⟩ := Option.map_eq_some_iff.1 hm'
                obtain ⟨c, h1, _, h3⟩ := hm i m0 h0
                exact ⟨c, h1, h3⟩
              obtain ⟨ct, cb, hct, hcb, et, eb⟩ := TraceR.at59 HT.out
              have ET := Lib.hid et
              have EB := Lib.hid eb
              obtain ⟨s1, m1, rfl, hs1, hm1, -⟩ := et
              obtain ⟨s2, m2, rfl, hs2, hm2, -⟩ := eb
              obtain ⟨ST, cST, rfl, -⟩ := hs1
              obtain ⟨MT, cMT, rfl, -⟩ := hm1
              obtain ⟨SB, cSB, rfl, -⟩ := hs2
              obtain ⟨MB, cMB, rfl, -⟩ := hm2
              have RX1 : Hid (∀ E : Fin_ (w.heap.size + 1 + 1) wo, E.wd.rangeAt w.heap.size 5 [.int .i64 t.turn.at_, .int .i64 t.turn.steps, .slice ST t.turn.sets.length cST, .slice MT t.turn.makes.length cMT]) := fun E a v hv => E.cell (HeadAt.of_row R0.out (5 + a) v (hct a v hv)) (by show w.heap.size ≠ w.heap.size + 1 + 1; omega)
              have RX2 : Hid (∀ E : Fin_ (w.heap.size + 1 + 1) wo, E.wd.rangeAt w.heap.size 9 [.int .i64 t.back.at_, .int .i64 t.back.steps, .slice SB t.back.sets.length cSB, .slice MB t.back.makes.length cMB]) := fun E a v hv => E.cell (HeadAt.of_row R0.out (9 + a) v (hcb a v hv)) (by show w.heap.size ≠ w.heap.size + 1 + 1; omega)
              have LX1 : Hid ((Tryz.prog.info? 32).map (·.size) = some ([.int .i64 t.turn.at_, .int .i64 t.turn.steps, .slice ST t.turn.sets.length cST, .slice MT t.turn.makes.length cMT] : List Value).length) := infoEx4
              have LX2 : Hid ((Tryz.prog.info? 32).map (·.size) = some ([.int .i64 t.back.at_, .int .i64 t.back.steps, .slice SB t.back.sets.length cSB, .slice MB t.back.makes.length cMB] : List Value).length) := infoEx4
              obtain ⟨z1, hz1⟩ : ∃ z, exitC S.at_ t.turn = z := ⟨_, rfl⟩
              obtain ⟨z2, hz2⟩ : ∃ z, exitC S.at_ t.back = z := ⟨_, rfl⟩
              have HZ1 := Lib.hid hz1
              have HZ2 := Lib.hid hz2
              have OC1 : Hid (Calls Tryz.prog 18 #[.pointer (some ⟨w.heap.size + 1 + 1, 0, none⟩), .agg #[.int .i64 t.turn.at_, .int .i64 t.turn.steps, .slice ST t.turn.sets.length cST, .slice MT t.turn.makes.length cMT]] wo.drew (fun e w' => ∃ cs, e = .returned (.agg ⟨cs⟩) ∧ ExitT w' wo.drew.heap.size cs z1 ∧ CutAt w' (w.heap.size + 1 + 1) tv S.at_ (S.fine && t.exits.all (fineX S.at_) && fineX S.at_ t.turn) ∧ Fined (w.heap.size + 1 + 1) wo.drew w')) := by
                rw [← hz1]
                exact exit_c _ _ _ _ _ t.turn wo.drew (FA.out.fined ((Fined.refl _ wo).drew) rfl) (ET.out.keep BW.out.size (fun _ hp => BW.out.cell hp)) (by have := HSM.out.turn.1; omega) (by have := HSM.out.turn.2.1; omega) (fun m hm => by have := HSM.out.turn.2.2 m hm; omega)
              have OC2 : Hid (∀ W, Below w.heap.size w W → CutAt W (w.heap.size + 1 + 1) tv S.at_ (S.fine && t.exits.all (fineX S.at_) && fineX S.at_ t.turn) → Calls Tryz.prog 18 #[.pointer (some ⟨w.heap.size + 1 + 1, 0, none⟩), .agg #[.int .i64 t.back.at_, .int .i64 t.back.steps, .slice SB t.back.sets.length cSB, .slice MB t.back.makes.length cMB]] W (fun e w' => ∃ cs, e = .returned (.agg ⟨cs⟩) ∧ ExitT w' W.heap.size cs z2 ∧ CutAt w' (w.heap.size + 1 + 1) tv S.at_ (S.fine && t.exits.all (fineX S.at_) && fineX S.at_ t.turn && fineX S.at_ t.back) ∧ Fined (w.heap.size + 1 + 1) W w')) := fun W hW hC => by
                rw [← hz2]
                exact exit_c _ _ _ _ _ t.back W hC (EB.out.keep hW.size (fun _ hp => hW.cell hp)) (by have := HSM.out.back.1; omega) (by have := HSM.out.back.2.1; omega) (fun m hm => by have := HSM.out.back.2.2 m hm; omega)
              clear hct hcb hz1 hz2 OX XS SC QE
              go_upto_region 29 with fail
              go_cut [] (fun wx => ∃ B1s b1s B1m b1m B2s b2s B2m b2m, Hid (EndAt w tv S t lp2 A1 c1 A5 n5 [.int .i64 z1.at_, .int .i64 z1.steps, .slice B1s z1.sets.length b1s, .slice B1m z1.makes.length b1m] [.int .i64 z2.at_, .int .i64 z2.steps, .slice B2s z2.sets.length b2s, .slice B2m z2.makes.length b2m] z1 z2 wx))
              case first =>
                refine wp_region_readers (fun w' => ∃ E : Fin_ (w.heap.size + 1 + 1) wo, w' = E.wd) [0, 1, 2, 4, 5, 6] [3, 8] 6 #[true, true, true, false, true, true, true, false, false, false, false, false] _ (by kernel_rfl) (by kernel_rfl) (by simp only [List.filterMap_cons, List.filterMap_nil, List.getElem?_toArray, List.getElem?_cons_zero, List.getElem?_cons_succ]; rfl) (fun _ _ d _ _ h => by cases d <;> exact h) ⟨⟨_, (Fined.refl _ wo).drew⟩, rfl⟩ ?_
                generalize hqq : (fun a' => wpAnyC _ _ _ _ _ _ _ _ a' _) = qq
                have HQQ := Lib.hid hqq
                clear hqq
                show wpQuiet _ _ _ _ [_, _, _, _, _, _] _
                repeat (first
                  | (refine wpQuiet_load_fin 32 _ rfl rfl w.heap.size 5 rfl [.int .i64 t.turn.at_, .int .i64 t.turn.steps, .slice ST t.turn.sets.length cST, .slice MT t.turn.makes.length cMT] _ RX1.out Tryz.underlying32 rfl LX1.out ?_; go_simp)
                  | (refine wpQuiet_load_fin 32 _ rfl rfl w.heap.size 9 rfl [.int .i64 t.back.at_, .int .i64 t.back.steps, .slice SB t.back.sets.length cSB, .slice MB t.back.makes.length cMB] _ RX2.out Tryz.underlying32 rfl LX2.out ?_; go_simp)
                  | go_big_quiet_step (fail))
                refine wpQuiet_nil ?_
                rw [← HQQ.out]
                clear HQQ qq RX1 RX2 LX1 LX2
                refine wpAnyC_one (i := 3) (by kernel_rfl) rfl (fun K hK => ?_)
                go_simp
                refine OC1.out.mono ?_
                rintro e w8 ⟨cs1, rfl, xT1, c8, k8⟩
                have XT1 := Lib.hid xT1
                obtain ⟨s8, m8, rfl, hs8, hm8, -⟩ := xT1
                obtain ⟨B1s, b1s, rfl, -⟩ := hs8
                obtain ⟨B1m, b1m, rfl, -⟩ := hm8
                have C8 := Lib.hid c8
                have K8 : Hid (Fined (w.heap.size + 1 + 1) wo w8) := (Fined.refl _ wo).drew.trans k8
                clear c8 k8
                refine hK _ _ (fun _ => ⟨⟨w8, K8.out⟩, rfl⟩) ?_
                clear hK K
                refine wpAnyC_two (i := 7) (k := 8) (by kernel_rfl) rfl rfl (fun K hK => ?_) (fun K hK => ?_)
                · go_simp
                  refine (OC2.out w8 (BW.out.trans (K8.out.under (by omega) BW.out.size)) C8.out).mono ?_
                  rintro e w9 ⟨cs2, rfl, xT2, c9, k9⟩
                  have XT2 := Lib.hid xT2
                  obtain ⟨s9, m9, rfl, hs9, hm9, -⟩ := xT2
                  obtain ⟨B2s, b2s, rfl, -⟩ := hs9
                  obtain ⟨B2m, b2m, rfl, -⟩ := hm9
                  have C9 := Lib.hid c9
                  have K9 := Lib.hid k9
                  clear c9 k9
                  refine hK _ _ (fun h => by cases h) ?_
                  clear hK K
                  refine wpAnyC_of_ms [8, 9, 10, 11] _ _ _ (by kernel_rfl) ?_
                  refine wpMs_step rfl (fun K hK => ?_)
                  go_simp
                  refine hK _ _ (fun _ => ⟨⟨w9, K8.out.trans K9.out⟩, rfl⟩) ?_
                  clear hK K
                  refine wpMs_list [9, 10, 11] _ _ (by kernel_rfl) (by kernel_rfl) ?_
                  simp only [List.filterMap_cons, List.filterMap_nil, List.getElem?_toArray, List.getElem?_cons_zero, List.getElem?_cons_succ]
                  have D0 := Lib.hid (K9.out.row (K8.out.row RO.out (by omega)) (by omega))
                  have TH1 := Lib.hid (there_at (o := 5) (n := 4) D0.out (by simp))
                  refine wpList_store_mid rfl 32 _ _ rfl (w.heap.size + 1 + 1 + 1) 5 #[.int .i64 z1.at_, .int .i64 z1.steps, .slice B1s z1.sets.length b1s, .slice B1m z1.makes.length b1m] rfl rfl TH1.out infoEx4 (all_oneCell_toArray (by simp [Value.oneCell'])) ?_
                  have TH2 := Lib.hid (there_at (o := 9) (n := 4) (setCells_row (g := w.heap.size + 1 + 1 + 1) [.int .i64 z1.at_, .int .i64 z1.steps, .slice B1s z1.sets.length b1s, .slice B1m z1.makes.length b1m] 5 w9 _ D0.out) (by rw [setAll_size]; simp))
                  refine wpList_plain rfl (fun K hK => ?_)
                  go_simp
                  refine hK _ _ ?_
                  clear hK K
                  refine wpList_store_mid rfl 32 _ _ rfl (w.heap.size + 1 + 1 + 1) 9 #[.int .i64 z2.at_, .int .i64 z2.steps, .slice B2s z2.sets.length b2s, .slice B2m z2.makes.length b2m] rfl rfl TH2.out infoEx4 (all_oneCell_toArray (by simp [Value.oneCell'])) ?_
                  generalize hwz : World.setCells _ _ _ _ = wz
                  have EN : Hid (EndAt w tv S t lp2 A1 c1 A5 n5 [.int .i64 z1.at_, .int .i64 z1.steps, .slice B1s z1.sets.length b1s, .slice B1m z1.makes.length b1m] [.int .i64 z2.at_, .int .i64 z2.steps, .slice B2s z2.sets.length b2s, .slice B2m z2.makes.length b2m] z1 z2 wz) := by
                    rw [← hwz]
                    refine EndAt.make D0.out C9.out (K9.out.row (K8.out.row R1.out (by omega)) (by omega)) (K9.out.own (K8.out.own OI.out (by omega)) (by omega)) ((K9.out.ty (K8.out.ty XTY.out (by omega)) (by omega)).keep (fun _ _ _ _ _ => rfl) (fun _ _ h => (h.fin K8.out (by omega)).fin K9.out (by omega))) ((XT1.out.fin K9.out (by have := K8.out.size; show _ < wo.heap.size; omega)).more (show w.heap.size + 1 + 1 + 1 ≤ wo.heap.size by omega)) (XT2.out.more (show w.heap.size + 1 + 1 + 1 ≤ w8.heap.size by have := K8.out.size; omega)) ((BW.out.trans (K8.out.under (by omega) BW.out.size)).trans (K9.out.under (by omega) (Nat.le_trans BW.out.size K8.out.size)))
                  clear hwz
                  go_wp2_with fail
                  go_meet
                  case rel => exact ⟨B1s, b1s, B1m, b1m, B2s, b2s, B2m, b2m, EN⟩
                · go_simp
                  refine hK _ _ (fun _ => ⟨⟨w8, K8.out⟩, rfl⟩) ?_
                  clear hK K
                  refine wpAnyC_of_ms [7, 9, 10, 11] _ _ _ (by kernel_rfl) ?_
                  refine wpMs_step rfl (fun K hK => ?_)
                  go_simp
                  refine (OC2.out w8 (BW.out.trans (K8.out.under (by omega) BW.out.size)) C8.out).mono ?_
                  rintro e w9 ⟨cs2, rfl, xT2, c9, k9⟩
                  have XT2 := Lib.hid xT2
                  obtain ⟨s9, m9, rfl, hs9, hm9, -⟩ := xT2
                  obtain ⟨B2s, b2s, rfl, -⟩ := hs9
                  obtain ⟨B2m, b2m, rfl, -⟩ := hm9
                  have C9 := Lib.hid c9
                  have K9 := Lib.hid k9
                  clear c9 k9
                  refine hK _ _ (fun h => by cases h) ?_
                  clear hK K
                  refine wpMs_list [9, 10, 11] _ _ (by kernel_rfl) (by kernel_rfl) ?_
                  simp only [List.filterMap_cons, List.filterMap_nil, List.getElem?_toArray, List.getElem?_cons_zero, List.getElem?_cons_succ]
                  have D0 := Lib.hid (K9.out.row (K8.out.row RO.out (by omega)) (by omega))
                  have TH1 := Lib.hid (there_at (o := 5) (n := 4) D0.out (by simp))
                  refine wpList_store_mid rfl 32 _ _ rfl (w.heap.size + 1 + 1 + 1) 5 #[.int .i64 z1.at_, .int .i64 z1.steps, .slice B1s z1.sets.length b1s, .slice B1m z1.makes.length b1m] rfl rfl TH1.out infoEx4 (all_oneCell_toArray (by simp [Value.oneCell'])) ?_
                  have TH2 := Lib.hid (there_at (o := 9) (n := 4) (setCells_row (g := w.heap.size + 1 + 1 + 1) [.int .i64 z1.at_, .int .i64 z1.steps, .slice B1s z1.sets.length b1s, .slice B1m z1.makes.length b1m] 5 w9 _ D0.out) (by rw [setAll_size]; simp))
                  refine wpList_plain rfl (fun K hK => ?_)
                  go_simp
                  refine hK _ _ ?_
                  clear hK K
                  refine wpList_store_mid rfl 32 _ _ rfl (w.heap.size + 1 + 1 + 1) 9 #[.int .i64 z2.at_, .int .i64 z2.steps, .slice B2s z2.sets.length b2s, .slice B2m z2.makes.length b2m] rfl rfl TH2.out infoEx4 (all_oneCell_toArray (by simp [Value.oneCell'])) ?_
                  generalize hwz : World.setCells _ _ _ _ = wz
                  have EN : Hid (EndAt w tv S t lp2 A1 c1 A5 n5 [.int .i64 z1.at_, .int .i64 z1.steps, .slice B1s z1.sets.length b1s, .slice B1m z1.makes.length b1m] [.int .i64 z2.at_, .int .i64 z2.steps, .slice B2s z2.sets.length b2s, .slice B2m z2.makes.length b2m] z1 z2 wz) := by
                    rw [← hwz]
                    refine EndAt.make D0.out C9.out (K9.out.row (K8.out.row R1.out (by omega)) (by omega)) (K9.out.own (K8.out.own OI.out (by omega)) (by omega)) ((K9.out.ty (K8.out.ty XTY.out (by omega)) (by omega)).keep (fun _ _ _ _ _ => rfl) (fun _ _ h => (h.fin K8.out (by omega)).fin K9.out (by omega))) ((XT1.out.fin K9.out (by have := K8.out.size; show _ < wo.heap.size; omega)).more (show w.heap.size + 1 + 1 + 1 ≤ wo.heap.size by omega)) (XT2.out.more (show w.heap.size + 1 + 1 + 1 ≤ w8.heap.size by have := K8.out.size; omega)) ((BW.out.trans (K8.out.under (by omega) BW.out.size)).trans (K9.out.under (by omega) (Nat.le_trans BW.out.size K8.out.size)))
                  clear hwz
                  go_wp2_with fail
                  go_meet
                  case rel => exact ⟨B1s, b1s, B1m, b1m, B2s, b2s, B2m, b2m, EN⟩
              case rest =>
                obtain ⟨we, hwe⟩ : ∃ we, we = wc := ⟨_, rfl⟩
                subst hwe
                obtain ⟨B1s, b1s, B1m, b1m, B2s, b2s, B2m, b2m, EN⟩ := hcut
                obtain ⟨fb, hfb⟩ : ∃ b, (S.fine && t.exits.all (fineX S.at_) && fineX S.at_ t.turn && fineX S.at_ t.back) = b := ⟨_, rfl⟩
                have HM : Hid (cutM t tl = if fb then (cutEnd t S, 0) else (trace0, 3)) := by
                  unfold cutM Hid
                  rw [if_neg (fun h => h HEQ.out), HC.out, ← hfb]
                have hze : w.heap.size + 1 + 1 + 1 < we.heap.size := (Array.getElem?_eq_some_iff.1 EN.out.row).1
                have fc : we.cell? ⟨w.heap.size + 1 + 1, 1, none⟩ = some (.bool fb) := by rw [← hfb]; exact cell_of_row we _ 1 _ _ _ EN.out.cut.here
                have HN0 := Lib.hid EN.out.zero
                have KN := Lib.hid EN.out.below
                have HRW : Hid (we.heap[w.heap.size + 1 + 1 + 1]? = some (.cells #[.int .i64 t.fn, .int .i64 t.at_, .int .i64 lp2, .slice A1 S.ins.length c1, .slice A5 t.exits.length n5, .int .i64 z1.at_, .int .i64 z1.steps, .slice B1s z1.sets.length b1s, .slice B1m z1.makes.length b1m, .int .i64 z2.at_, .int .i64 z2.steps, .slice B2s z2.sets.length b2s, .slice B2m z2.makes.length b2m] 34 (0, 0))) := EN.out.row
                clear hfb R0 R1 RO OI BW
                cases fb
                case false =>
                  have HN : Hid (cutM t tl = (trace0, 3)) := HM.out
                  have HN0' : Hid (we.heap[w.heap.size + 1]? = some (.cells #[.int .i64 0, .int .i64 0, .int .i64 0, .slice none 0 0, .slice none 0 0, .int .i64 0, .int .i64 0, .slice none 0 0, .slice none 0 0, .int .i64 0, .int .i64 0, .slice none 0 0, .slice none 0 0] 34 (0, 0))) := HN0.out
                  go_wp2_with (refine wpList_store_row rfl 34 _ _ rfl (w.heap.size + 1) #[.int .i64 0, .int .i64 0, .int .i64 0, .slice none 0 0, .slice none 0 0, .int .i64 0, .int .i64 0, .slice none 0 0, .slice none 0 0, .int .i64 0, .int .i64 0, .slice none 0 0, .slice none 0 0] rfl rfl 34 _ HN0'.out infoTr13 rfl (all_oneCell_toArray (by simp [Value.oneCell'])) ?_)
                  generalize hw9 : World.setRow _ _ _ = w9
                  have QR : Hid (w9.heap[w.heap.size + 1]? = some (.cells #[.int .i64 0, .int .i64 0, .int .i64 0, .slice none 0 0, .slice none 0 0, .int .i64 0, .int .i64 0, .slice none 0 0, .slice none 0 0, .int .i64 0, .int .i64 0, .slice none 0 0, .slice none 0 0] 34 (0, 0))) := by rw [← hw9]; exact setRow_heap _ _ _ _ _ _ HN0'.out
                  have K9 : Hid (Below w.heap.size w w9) := by rw [← hw9]; exact Below.set_row KN.out (by omega) _
                  clear hw9
                  go_wp2_with fail
                  have r0 := cell_of_row w9 (w.heap.size + 1) 0 _ _ _ QR.out
                  have r1 := cell_of_row w9 (w.heap.size + 1) 1 _ _ _ QR.out
                  have r2 := cell_of_row w9 (w.heap.size + 1) 2 _ _ _ QR.out
                  have r3 := cell_of_row w9 (w.heap.size + 1) 3 _ _ _ QR.out
                  have r4 := cell_of_row w9 (w.heap.size + 1) 4 _ _ _ QR.out
                  have r5 := cell_of_row w9 (w.heap.size + 1) 5 _ _ _ QR.out
                  have r6 := cell_of_row w9 (w.heap.size + 1) 6 _ _ _ QR.out
                  have r7 := cell_of_row w9 (w.heap.size + 1) 7 _ _ _ QR.out
                  have r8 := cell_of_row w9 (w.heap.size + 1) 8 _ _ _ QR.out
                  have r9 := cell_of_row w9 (w.heap.size + 1) 9 _ _ _ QR.out
                  have r10 := cell_of_row w9 (w.heap.size + 1) 10 _ _ _ QR.out
                  have r11 := cell_of_row w9 (w.heap.size + 1) 11 _ _ _ QR.out
                  have r12 := cell_of_row w9 (w.heap.size + 1) 12 _ _ _ QR.out
                  unfold CutPost2
                  rw [HN.out]
                  refine bodyPost_ret (v := .tuple #[.agg ⟨zeroTrace⟩, .int .i64 3]) (by simp [results, Tryz.results7, go_sem, zeroTrace, r0, r1, r2, r3, r4, r5, r6, r7, r8, r9, r10, r11, r12]) rfl ⟨_, rfl, zeroTrace_R _ _, K9.out, fun _ _ => zeroTrace_R _ _⟩
                case true =>
                  have HN : Hid (cutM t tl = (cutEnd t S, 0)) := HM.out
                  have LT : Hid ((Tryz.prog.info? 34).map (·.size) = some ([.int .i64 t.fn, .int .i64 t.at_, .int .i64 lp2, .slice A1 S.ins.length c1, .slice A5 t.exits.length n5, .int .i64 z1.at_, .int .i64 z1.steps, .slice B1s z1.sets.length b1s, .slice B1m z1.makes.length b1m, .int .i64 z2.at_, .int .i64 z2.steps, .slice B2s z2.sets.length b2s, .slice B2m z2.makes.length b2m] : List Value).length) := infoTr13
                  have RG : Hid (we.rangeAt (w.heap.size + 1 + 1 + 1) 0 [.int .i64 t.fn, .int .i64 t.at_, .int .i64 lp2, .slice A1 S.ins.length c1, .slice A5 t.exits.length n5, .int .i64 z1.at_, .int .i64 z1.steps, .slice B1s z1.sets.length b1s, .slice B1m z1.makes.length b1m, .int .i64 z2.at_, .int .i64 z2.steps, .slice B2s z2.sets.length b2s, .slice B2m z2.makes.length b2m]) := (HeadAt.of_row HRW.out).range
                  go_upto_region 32 with fail
                  clear fc
                  go_wp2_with (first
                    | (refine wpList_load_mid rfl 34 _ rfl (w.heap.size + 1 + 1 + 1) 0 rfl [.int .i64 t.fn, .int .i64 t.at_, .int .i64 lp2, .slice A1 S.ins.length c1, .slice A5 t.exits.length n5, .int .i64 z1.at_, .int .i64 z1.steps, .slice B1s z1.sets.length b1s, .slice B1m z1.makes.length b1m, .int .i64 z2.at_, .int .i64 z2.steps, .slice B2s z2.sets.length b2s, .slice B2m z2.makes.length b2m] _ RG.out Tryz.underlying34 rfl LT.out ?_)
                    | (refine wpList_store_row rfl 34 _ _ rfl (w.heap.size + 1) #[.int .i64 t.fn, .int .i64 t.at_, .int .i64 lp2, .slice A1 S.ins.length c1, .slice A5 t.exits.length n5, .int .i64 z1.at_, .int .i64 z1.steps, .slice B1s z1.sets.length b1s, .slice B1m z1.makes.length b1m, .int .i64 z2.at_, .int .i64 z2.steps, .slice B2s z2.sets.length b2s, .slice B2m z2.makes.length b2m] rfl rfl 34 _ HN0.out infoTr13 rfl (all_oneCell_toArray (by simp [Value.oneCell'])) ?_)
                    | fail)
                  generalize hw9 : World.setRow _ _ _ = w9
                  have QR : Hid (w9.heap[w.heap.size + 1]? = some (.cells #[.int .i64 t.fn, .int .i64 t.at_, .int .i64 lp2, .slice A1 S.ins.length c1, .slice A5 t.exits.length n5, .int .i64 z1.at_, .int .i64 z1.steps, .slice B1s z1.sets.length b1s, .slice B1m z1.makes.length b1m, .int .i64 z2.at_, .int .i64 z2.steps, .slice B2s z2.sets.length b2s, .slice B2m z2.makes.length b2m] 34 (0, 0))) := by rw [← hw9]; exact setRow_heap _ _ _ _ _ _ HN0.out
                  have K9 : Hid (Below w.heap.size w w9) := by rw [← hw9]; exact Below.set_row KN.out (by omega) _
                  have TR : Hid (TraceR w9 w9.heap.size [.int .i64 t.fn, .int .i64 t.at_, .int .i64 lp2, .slice A1 S.ins.length c1, .slice A5 t.exits.length n5, .int .i64 z1.at_, .int .i64 z1.steps, .slice B1s z1.sets.length b1s, .slice B1m z1.makes.length b1m, .int .i64 z2.at_, .int .i64 z2.steps, .slice B2s z2.sets.length b2s, .slice B2m z2.makes.length b2m] (cutEnd t S) ∧ ∀ w2 : World, (∀ k, w.heap.size ≤ k → k < w9.heap.size → w2.heap[k]? = w9.heap[k]?) → TraceR w2 w2.heap.size [.int .i64 t.fn, .int .i64 t.at_, .int .i64 lp2, .slice A1 S.ins.length c1, .slice A5 t.exits.length n5, .int .i64 z1.at_, .int .i64 z1.steps, .slice B1s z1.sets.length b1s, .slice B1m z1.makes.length b1m, .int .i64 z2.at_, .int .i64 z2.steps, .slice B2s z2.sets.length b2s, .slice B2m z2.makes.length b2m] (cutEnd t S)) := by
                    have hl : (cutEnd t S).loop = lp2 := by unfold cutEnd; dsimp only; rw [HL2.out, HL1.out]
                    obtain ⟨-, -, -, wf0, wf1, -⟩ := TraceR.at012 HT.out
                    have wfl : wfi t.fn ∧ wfi t.at_ ∧ wfi lp2 := ⟨wf0, wf1, by have := HB2.out; unfold wfi; omega⟩
                    have hk9 : ∀ k, w.heap.size + 1 + 1 + 1 ≤ k → w9.heap[k]? = we.heap[k]? := fun k hk => by rw [← hw9]; exact setRow_other _ _ _ _ (by omega)
                    have hs9 : w9.heap.size = we.heap.size := by rw [← hw9, size_setRow]
                    exact ⟨EN.out.trace SW.out HZ1.out HZ2.out hl wfl (fun k hk _ => hk9 k hk), fun w2 h2 => EN.out.trace SW.out HZ1.out HZ2.out hl wfl (fun k hk hk2 => (h2 k (by omega) (by omega)).trans (hk9 k hk))⟩
                  clear hw9
                  go_wp2_with fail
                  have r0 := cell_of_row w9 (w.heap.size + 1) 0 _ _ _ QR.out
                  have r1 := cell_of_row w9 (w.heap.size + 1) 1 _ _ _ QR.out
                  have r2 := cell_of_row w9 (w.heap.size + 1) 2 _ _ _ QR.out
                  have r3 := cell_of_row w9 (w.heap.size + 1) 3 _ _ _ QR.out
                  have r4 := cell_of_row w9 (w.heap.size + 1) 4 _ _ _ QR.out
                  have r5 := cell_of_row w9 (w.heap.size + 1) 5 _ _ _ QR.out
                  have r6 := cell_of_row w9 (w.heap.size + 1) 6 _ _ _ QR.out
                  have r7 := cell_of_row w9 (w.heap.size + 1) 7 _ _ _ QR.out
                  have r8 := cell_of_row w9 (w.heap.size + 1) 8 _ _ _ QR.out
                  have r9 := cell_of_row w9 (w.heap.size + 1) 9 _ _ _ QR.out
                  have r10 := cell_of_row w9 (w.heap.size + 1) 10 _ _ _ QR.out
                  have r11 := cell_of_row w9 (w.heap.size + 1) 11 _ _ _ QR.out
                  have r12 := cell_of_row w9 (w.heap.size + 1) 12 _ _ _ QR.out
                  unfold CutPost2
                  rw [HN.out]
                  refine bodyPost_ret (v := .tuple #[.agg ⟨[.int .i64 t.fn, .int .i64 t.at_, .int .i64 lp2, .slice A1 S.ins.length c1, .slice A5 t.exits.length n5, .int .i64 z1.at_, .int .i64 z1.steps, .slice B1s z1.sets.length b1s, .slice B1m z1.makes.length b1m, .int .i64 z2.at_, .int .i64 z2.steps, .slice B2s z2.sets.length b2s, .slice B2m z2.makes.length b2m]⟩, .int .i64 0]) (by simp [results, Tryz.results7, go_sem, r0, r1, r2, r3, r4, r5, r6, r7, r8, r9, r10, r11, r12]) rfl ⟨_, rfl, TR.out.1, K9.out, TR.out.2⟩
theorem cut_go (ca : List Value) (t : TTrace) (v : Value) (tl : List Int) (w : World) (ht : TraceR w w.heap.size ca t) (hv : SliceR w w.heap.size 1 IntR v tl) (heq : tl.length = t.ins.length) (hsm : SmallT t) :
    Calls Tryz.prog 7 #[.agg ⟨ca⟩, v] w (CutPost t tl w) :=
  (cut_go2 ca t v tl w ht hv heq hsm).mono fun _ _ h => h.one
end Go.Proofs.YtlnkjmgfkpeicaaGreatDoor
