/- IrCutNone: the walk. -/
import Derived.Test.YtmccomeihnaanaaDoorChkG
import Derived.Test.YtmccomeihnaanaaDoorCutG
import Derived.Test.YtmccomeihnaanaaDoorSameN
import Derived.Test.YtmccomeihnaanaaDoorRest
namespace Go.Proofs.YtmccomeihnaanaaDoor
open Go.RowKit

theorem cut_c (ca : List Value) (t : TTrace) (v : Value) (tl : List Int) (w : World) (ht : TraceR w w.heap.size ca t) (hv : SliceR w w.heap.size 1 IntR v tl) (hsm : SmallT t) :
    Calls Tryd.prog 19 #[.agg ⟨ca⟩, v] w (CutPost t tl w) := by
  by_cases h : tl.length = t.ins.length
  · exact cut_go ca t v tl w ht hv h hsm
  · exact cut_len ca t v tl w ht hv h
/-- a trace's 13 cells -/
theorem TraceR.cells {w : World} {B : Nat} {cs : List Value} {t : TTrace} (h : TraceR w B cs t) : ∃ A1 n1 A2 n2 A3 n3 A4 n4 A5 n5 A6 n6, cs = [.int .i64 t.fn, .int .i64 t.at_, .int .i64 t.loop, .slice A1 t.ins.length n1, .slice A2 t.exits.length n2, .int .i64 t.turn.at_, .int .i64 t.turn.steps, .slice A3 t.turn.sets.length n3, .slice A4 t.turn.makes.length n4, .int .i64 t.back.at_, .int .i64 t.back.steps, .slice A5 t.back.sets.length n5, .slice A6 t.back.makes.length n6] ∧ t.ins.length ≤ maxLen := by
  obtain ⟨i, e, ct, cb, rfl, ⟨A1, n1, rfl, l1, l2, -⟩, ⟨A2, n2, rfl, -⟩, ⟨s1, m1, rfl, ⟨A3, n3, rfl, -⟩, ⟨A4, n4, rfl, -⟩, -⟩, ⟨s2, m2, rfl, ⟨A5, n5, rfl, -⟩, ⟨A6, n6, rfl, -⟩, -⟩, -⟩ := h
  exact ⟨A1, n1, A2, n2, A3, n3, A4, n4, A5, n5, A6, n6, rfl, Nat.le_trans l1 l2⟩
set_option maxHeartbeats 4000000 in
set_option maxRecDepth 100000 in
theorem irCutNone_walk (pcs ca : List Value) (tv : Value) (p : CProg) (t : TTrace) (tl : List Int) (w : World) (hp : ProgR w w.heap.size pcs p) (ht : TraceR w w.heap.size ca t) (hv : SliceR w w.heap.size 1 IntR tv tl) (tab : Tab w) :
    Calls Tryd.prog 5 #[.agg ⟨pcs⟩, .agg ⟨ca⟩, tv] w (Gives (.bool true) w) := by
  have HT := Lib.hid ht
  have HV := Lib.hid hv
  have HIp := Lib.hid hp.size3
  have HIt := Lib.hid ht.size13
  obtain ⟨Ai, ni, p3, qi⟩ := ht.at3
  have P3 := Lib.hid p3
  obtain ⟨w0, hw0⟩ : ∃ w0, w0 = (w.alloc (.cells ⟨pcs⟩ 26)).alloc (.cells ⟨ca⟩ 34) := ⟨_, rfl⟩
  have TB := two_box w pcs ca 26 34
  rw [← hw0] at TB
  obtain ⟨t1, t2, t3⟩ := TB
  have H1 := Lib.hid t1
  have H2 := Lib.hid t2
  have K0 := Lib.hid t3
  have HW := Lib.hid hw0
  have R1 := Lib.hid H1.out.range
  have R2 := Lib.hid H2.out.range
  obtain ⟨ce, hce⟩ : ∃ ce, checkM rightV (codeCheckM p) (p.fns.map fnOf) t = ce := ⟨_, rfl⟩
  have CE := Lib.hid (check_c pcs ca p t w0 (hp.below K0.out) (ht.below K0.out) (tab.below K0.out))
  rw [hce] at CE
  have HCE := Lib.hid hce
  clear hp ht hw0 t1 t2 t3 qi hce p3 tab hv
  go_enter Tryd.func5, Tryd.ntmps5
  go_wp2_with (first | (refine wpList_load_mid rfl 26 _ rfl w.heap.size 0 rfl pcs _ (by rw [← HW.out]; exact R1.out) Tryd.underlying26 rfl HIp.out ?_) | (refine wpList_load_mid rfl 34 _ rfl (w.heap.size + 1) 0 rfl ca _ (by rw [← HW.out]; exact R2.out) Tryd.underlying34 rfl HIt.out ?_) | fail)
  rw [← HW.out]
  refine CE.out.mono ?_
  rintro e w1 ⟨rfl, k1⟩
  have K1 := Lib.hid (K0.out.trans (k1.mono K0.out.size))
  have G2 := Lib.hid (H2.out.on k1)
  clear k1
  by_cases hc : ce = 0
  case neg =>
    have hc' : (ce != 0) = true := by simpa using hc
    go_wp2_with fail
    refine (irred_c w1).mono ?_
    rintro e w2 ⟨rfl, k2⟩
    have K2 := Lib.hid (K1.out.trans (k2.mono K1.out.size))
    clear k2
    go_wp2_with fail
    go_ret
    exact ⟨rfl, K2.out⟩
  subst hc
  have SM := Lib.hid (check_small HCE.out)
  have CU := Lib.hid (cutM_upto (checkM_cuts HCE.out))
  have hlen := SM.out.ins
  have e3 := G2.out 3 _ P3.out
  have hz : w.heap.size + 1 < w1.heap.size := cell_lt e3
  obtain ⟨q0, hq0, hq1, hq2, hq3⟩ := info_parts infoInt
  go_wp2_with fail
  clear e3
  go_loopw [7, 21] (fun a i wr => ∃ j : Nat, i = .int .i64 j ∧ j ≤ t.ins.length ∧ Hid (wr.ownsRow w1.heap.size 3 1 a j ((upto j).map (.int .i64))) ∧ Hid (Below w1.heap.size w1 wr)) (fun _ i _ => t.ins.length - (RowKit.intOf i).toNat)
  case atStart => exact ⟨0, rfl, by omega, World.ownsRow_nil _ _ _ _, Below.refl _ _⟩
  case round =>
    obtain ⟨j, rfl, hj, OA, KW⟩ := hrel
    obtain ⟨wo, hwo⟩ : ∃ wo, wo = wr := ⟨_, rfl⟩
    subst hwo
    obtain ⟨A7, c7, rfl⟩ := own_len OA.out
    have hsz := KW.out.size
    by_cases hlt : j < t.ins.length
    · have hji : (j : Int) < t.ins.length := by omega
      go_wp2_with (at_builtin; refine wpList_append_own _ rfl _ _ 38 rfl w1.heap.size 3 q0 (.int .i64 0) 1 8 Tryd.underlying38 hq0 hq1 hq2 hq3 rfl (by decide) (.slice A7 j c7) j ((upto j).map (.int .i64)) rfl (OA.out.alloc _) ⟨wo.heap.size, 0, none⟩ 1 1 [.int .i64 (j : Int)] rfl rfl ?c1 ?c2 ?c3 ?c4 ?c5 ?_)
      case c1 => exact World.news_of_block (cs := #[.int .i64 (j : Int)]) (heap_last wo _)
      case c2 => intro u hu; simp at hu; subst hu; rfl
      case c3 => unfold maxLen; omega
      case c4 => omega
      case c5 => simp; omega
      intro v' w6 hown hg _
      have O7 := Lib.hid hown
      have KB := Lib.hid (grow_below (B' := w1.heap.size) (OA.out.alloc (.cells #[.int .i64 (j : Int)] 3)) hg (Nat.le_refl _) (by simp; omega))
      clear hown hg
      go_wp2_with fail
      go_roundw
      case rel => exact ⟨j + 1, by go_num, by omega, by rw [upto_succ, List.map_append]; exact O7.out, (KW.out.alloc (by omega) _).trans KB.out⟩
      case measure => simp [RowKit.intOf]; omega
    · obtain rfl : j = t.ins.length := by omega
      have hji : ¬ (t.ins.length : Int) < t.ins.length := by omega
      have KO := Lib.hid (K1.out.trans (KW.out.mono K1.out.size))
      have F2 := Lib.hid (G2.out.on KW.out)
      have e3 := F2.out 3 _ P3.out
      have SU : Hid (SliceR wo wo.heap.size 1 IntR (.slice A7 t.ins.length c7) (upto t.ins.length)) :=
        sliceR_of_own (base := w1.heap.size) (by rw [upto_len]; exact OA.out) (fun x hx => by
          obtain ⟨i, hi, rfl⟩ := List.mem_map.1 hx
          have := List.mem_range.1 hi
          unfold wfi; omega)
      have CC : Hid (Calls Tryd.prog 19 #[.agg ⟨ca⟩, .slice A7 t.ins.length c7] wo (fun e w' => ∃ cs, e = .returned (.tuple #[.agg ⟨cs⟩, .int .i64 0]) ∧ TraceR w' w'.heap.size cs t ∧ Below wo.heap.size wo w')) := by
        have h := cut_c ca t _ (upto t.ins.length) wo (HT.out.below KO.out) SU.out SM.out
        unfold CutPost at h
        rw [CU.out] at h
        exact h.mono (fun e w' ⟨cs, he, htr, hk, _⟩ => ⟨cs, he, htr, hk⟩)
      clear e3 OA
      go_wp2_with (refine wpList_load_mid rfl 34 _ rfl (w.heap.size + 1) 0 rfl ca _ F2.out.range Tryd.underlying34 rfl HIt.out ?_)
      refine CC.out.mono ?_
      rintro e w2 ⟨cs, rfl, tr, k2⟩
      have TS := Lib.hid tr
      obtain ⟨A1, n1, A2, n2, A3, n3, A4, n4, A5, n5, A6, n6, rfl, -⟩ := tr.cells
      have K2 := Lib.hid (KO.out.trans (k2.mono KO.out.size))
      have F3 := Lib.hid (F2.out.on k2)
      have hz2 : w.heap.size + 1 < w2.heap.size := cell_lt (F3.out 3 _ P3.out)
      clear k2 tr CC SU
      obtain ⟨w3, hw3⟩ : ∃ w3, w3 = w2.alloc (.cells #[.int .i64 t.fn, .int .i64 t.at_, .int .i64 t.loop, .slice A1 t.ins.length n1, .slice A2 t.exits.length n2, .int .i64 t.turn.at_, .int .i64 t.turn.steps, .slice A3 t.turn.sets.length n3, .slice A4 t.turn.makes.length n4, .int .i64 t.back.at_, .int .i64 t.back.steps, .slice A5 t.back.sets.length n5, .slice A6 t.back.makes.length n6] 34) := ⟨_, rfl⟩
      have L3 : Hid (Below w2.heap.size w2 w3) := by rw [hw3]; exact below_one _ _
      have Q3 : Hid (w3.heap[w2.heap.size]? = some (.cells #[.int .i64 t.fn, .int .i64 t.at_, .int .i64 t.loop, .slice A1 t.ins.length n1, .slice A2 t.exits.length n2, .int .i64 t.turn.at_, .int .i64 t.turn.steps, .slice A3 t.turn.sets.length n3, .slice A4 t.turn.makes.length n4, .int .i64 t.back.at_, .int .i64 t.back.steps, .slice A5 t.back.sets.length n5, .slice A6 t.back.makes.length n6] 34 (0, 0))) := by rw [hw3]; exact heap_last _ _
      have K3 := Lib.hid (K2.out.trans (L3.out.mono K2.out.size))
      have F4 := Lib.hid (F3.out.on L3.out)
      have hz3 : w2.heap.size < w3.heap.size := (Array.getElem?_eq_some_iff.1 Q3.out).1
      have SC : Hid (Calls Tryd.prog 20 #[.agg #[.int .i64 t.fn, .int .i64 t.at_, .int .i64 t.loop, .slice A1 t.ins.length n1, .slice A2 t.exits.length n2, .int .i64 t.turn.at_, .int .i64 t.turn.steps, .slice A3 t.turn.sets.length n3, .slice A4 t.turn.makes.length n4, .int .i64 t.back.at_, .int .i64 t.back.steps, .slice A5 t.back.sets.length n5, .slice A6 t.back.makes.length n6], .agg ⟨ca⟩] w3 (Gives (.bool true) w3)) := by
        have h := same_trace_c _ ca t t w3 (TS.out.below L3.out) (HT.out.below K3.out)
        rw [decide_eq_true rfl] at h
        exact h
      have HW3 := Lib.hid hw3
      have RG : Hid (w3.rangeAt w2.heap.size 0 [.int .i64 t.fn, .int .i64 t.at_, .int .i64 t.loop, .slice A1 t.ins.length n1, .slice A2 t.exits.length n2, .int .i64 t.turn.at_, .int .i64 t.turn.steps, .slice A3 t.turn.sets.length n3, .slice A4 t.turn.makes.length n4, .int .i64 t.back.at_, .int .i64 t.back.steps, .slice A5 t.back.sets.length n5, .slice A6 t.back.makes.length n6]) := (HeadAt.of_row Q3.out).range
      have RT := Lib.hid F4.out.range
      have LT : Hid ((Tryd.prog.info? 34).map (·.size) = some ([.int .i64 t.fn, .int .i64 t.at_, .int .i64 t.loop, .slice A1 t.ins.length n1, .slice A2 t.exits.length n2, .int .i64 t.turn.at_, .int .i64 t.turn.steps, .slice A3 t.turn.sets.length n3, .slice A4 t.turn.makes.length n4, .int .i64 t.back.at_, .int .i64 t.back.steps, .slice A5 t.back.sets.length n5, .slice A6 t.back.makes.length n6] : List Value).length) := infoTr13
      clear hw3
      go_upto_region 10 with fail
      rw [← HW3.out]
      go_wp2_with (first
        | (refine wpList_load_on 34 _ rfl rfl (w2.heap.size) 0 rfl [.int .i64 t.fn, .int .i64 t.at_, .int .i64 t.loop, .slice A1 t.ins.length n1, .slice A2 t.exits.length n2, .int .i64 t.turn.at_, .int .i64 t.turn.steps, .slice A3 t.turn.sets.length n3, .slice A4 t.turn.makes.length n4, .int .i64 t.back.at_, .int .i64 t.back.steps, .slice A5 t.back.sets.length n5, .slice A6 t.back.makes.length n6] _ RG.out Tryd.underlying34 rfl LT.out ?_)
        | (refine wpList_load_on 34 _ rfl rfl (w.heap.size + 1) 0 rfl ca _ RT.out Tryd.underlying34 rfl HIt.out ?_)
        | fail)
      refine SC.out.mono ?_
      rintro e w4 ⟨rfl, k4⟩
      have K4 := Lib.hid (K3.out.trans (k4.mono K3.out.size))
      have F5 := Lib.hid (F4.out.on k4)
      have hz4 : w.heap.size + 1 < w4.heap.size := cell_lt (F5.out 3 _ P3.out)
      have CD : Hid (Calls Tryd.prog 19 #[.agg ⟨ca⟩, tv] w4 (CutPost t tl w4)) := cut_c ca t tv tl w4 (HT.out.below K4.out) (HV.out.keep K4.out.size (fun _ hp => K4.out.cell hp) (fun _ _ h => h)) SM.out
      have RT5 := Lib.hid F5.out.range
      clear k4 RG RT SC HW3 Q3 L3 hz3
      go_wp2_with (refine wpList_load_mid rfl 34 _ rfl (w.heap.size + 1) 0 rfl ca _ RT5.out Tryd.underlying34 rfl HIt.out ?_)
      refine CD.out.mono ?_
      rintro e w5 ⟨cs, rfl, tr, k5, -⟩
      have HL := cutM_len t tl
      obtain ⟨zr, hzr⟩ : ∃ z, cutM t tl = z := ⟨_, rfl⟩
      rw [hzr] at tr HL
      rw [hzr]
      clear hzr CD
      obtain ⟨z, r⟩ := zr
      dsimp only at tr HL ⊢
      obtain ⟨B1, m1, B2, m2, B3, m3, B4, m4, B5, m5, B6, m6, rfl, lz⟩ := tr.cells
      unfold maxLen at lz
      have HZL := Lib.hid HL
      have K5 := Lib.hid (K4.out.trans (k5.mono K4.out.size))
      have F6 := Lib.hid (F5.out.on k5)
      obtain ⟨w6, hw6⟩ : ∃ w6, w6 = w5.alloc (.cells #[.int .i64 z.fn, .int .i64 z.at_, .int .i64 z.loop, .slice B1 z.ins.length m1, .slice B2 z.exits.length m2, .int .i64 z.turn.at_, .int .i64 z.turn.steps, .slice B3 z.turn.sets.length m3, .slice B4 z.turn.makes.length m4, .int .i64 z.back.at_, .int .i64 z.back.steps, .slice B5 z.back.sets.length m5, .slice B6 z.back.makes.length m6] 34) := ⟨_, rfl⟩
      have L6 : Hid (Below w5.heap.size w5 w6) := by rw [hw6]; exact below_one _ _
      have Q6 : Hid (w6.heap[w5.heap.size]? = some (.cells #[.int .i64 z.fn, .int .i64 z.at_, .int .i64 z.loop, .slice B1 z.ins.length m1, .slice B2 z.exits.length m2, .int .i64 z.turn.at_, .int .i64 z.turn.steps, .slice B3 z.turn.sets.length m3, .slice B4 z.turn.makes.length m4, .int .i64 z.back.at_, .int .i64 z.back.steps, .slice B5 z.back.sets.length m5, .slice B6 z.back.makes.length m6] 34 (0, 0))) := by rw [hw6]; exact heap_last _ _
      have K6 := Lib.hid (K5.out.trans (L6.out.mono K5.out.size))
      have HW6 := Lib.hid hw6
      have F7 := Lib.hid (F6.out.on L6.out)
      clear hw6 tr k5 HL RT5
      go_upto_region 13 with fail
      rw [← HW6.out]
      go_wp2_with fail
      refine (irred_c w6).mono ?_
      rintro e w7 ⟨rfl, k7⟩
      have K7 := Lib.hid (K6.out.trans (k7.mono K6.out.size))
      have F8 := Lib.hid (F7.out.on k7)
      have Q7 := Lib.hid ((k7.block _ (Array.getElem?_eq_some_iff.1 Q6.out).1).trans Q6.out)
      have x3 := F8.out 3 _ P3.out
      have y3 := cell_of_row w7 w5.heap.size 3 _ _ _ Q7.out
      have hz7 : w.heap.size + 1 < w7.heap.size := cell_lt x3
      have hz75 : w5.heap.size < w7.heap.size := cell_lt y3
      clear k7
      rcases HZL.out with ⟨rfl, h1⟩ | ⟨rfl, h1⟩
      · have h1' : (z.ins.length : Int) ≤ t.ins.length := by omega
        go_wp2_with fail
        go_ret
        exact ⟨rfl, K7.out⟩
      · have h1' : z.ins.length = 0 := by rw [h1]; rfl
        rw [h1'] at y3
        go_wp2_with fail
        go_ret
        exact ⟨rfl, K7.out⟩
end Go.Proofs.YtmccomeihnaanaaDoor
