/- ir.cutter's method exit: the walk. -/
import Derived.Test.YtlnkjmgfkpeicaaGreatDoorCutN
import Derived.Deep.DeepCutAuto
namespace Go.Proofs.YtlnkjmgfkpeicaaGreatDoor
open Go.RowKit

theorem heap_three (w : World) (o p q : Obj) : (((w.alloc o).alloc p).alloc q).heap[w.heap.size + 1 + 1]? = some q := by
  show (((w.heap.push o).push p).push q)[w.heap.size + 1 + 1]? = _
  rw [Array.getElem?_push, if_pos (by simp)]
def ExitPost (bc : Nat) (tv : Value) (at_ : List Int) (fine : Bool) (x : TExit) (w : World) (e : Ending) (w' : World) : Prop :=
  ∃ cs, e = .returned (.agg ⟨cs⟩) ∧ ExitT w' w.heap.size cs (exitC at_ x) ∧ CutAt w' bc tv at_ (fine && fineX at_ x) ∧ Fined bc w w'
theorem take_snoc {α : Type} {l : List α} {k : Nat} {x : α} (h : l[k]? = some x) : l.take (k + 1) = l.take k ++ [x] := by
  obtain ⟨h1, h2⟩ := List.getElem?_eq_some_iff.1 h
  rw [List.take_succ_eq_append_getElem h1, h2]
theorem take_all_len {α : Type} {l : List α} {k : Nat} (h : l.length ≤ k) : l.take k = l := List.take_of_length_le h

theorem infoEx4 : (Tryz.prog.info? 32).map (·.size) = some 4 := by kernel_rfl
theorem infoMk4 : (Tryz.prog.info? 89).map (·.size) = some 4 := by kernel_rfl
set_option maxHeartbeats 8000000 in
set_option maxRecDepth 100000 in
theorem exit_c (bc : Nat) (tv : Value) (at_ : List Int) (fine : Bool) (xs : List Value) (x : TExit) (w : World) (h : CutAt w bc tv at_ fine) (hx : ExitR w w.heap.size xs x) (hsets : x.sets.length ≤ 100000) (hmakes : x.makes.length ≤ 100000) (hvals : ∀ m ∈ x.makes, m.vals.length ≤ 100000) :
    Calls Tryz.prog 18 #[.pointer (some ⟨bc, 0, none⟩), .agg ⟨xs⟩] w (ExitPost bc tv at_ fine x w) := by
  have HH := Lib.hid h
  have hbc : bc < w.heap.size := (Array.getElem?_eq_some_iff.1 h.here).1
  obtain ⟨s, m, rfl, hs, hm, wa, ws⟩ := hx
  have HS := Lib.hid hs
  have HM := Lib.hid hm
  obtain ⟨S, cS, rfl, ls1, ls2, -⟩ := hs
  obtain ⟨M, cM, rfl, lm1, lm2, -⟩ := hm
  unfold maxLen at ls2 lm2
  have WA := Lib.hid wa
  have WS := Lib.hid ws
  have HVL := Lib.hid hvals
  obtain ⟨i0, hi, hz0, hz1, hz2⟩ := info_parts infoSet
  obtain ⟨w1, hw1⟩ : ∃ w1, w1 = ((w.alloc (.cells #[.int .i64 x.at_, .int .i64 x.steps, .slice S x.sets.length cS, .slice M x.makes.length cM] 32)).alloc (.cells #[.int .i64 0, .int .i64 0, .slice none 0 0, .slice none 0 0] 32)).alloc (.cells #[.int .i64 x.at_, .int .i64 x.steps, .slice none 0 0, .slice none 0 0] 32) := ⟨_, rfl⟩
  have K1 : Hid (Below w.heap.size w w1) := by rw [hw1]; exact (below_two' w _ _).alloc (by simp; omega) _
  have D0 : Hid (w1.heap[w.heap.size]? = some (.cells #[.int .i64 x.at_, .int .i64 x.steps, .slice S x.sets.length cS, .slice M x.makes.length cM] 32 (0, 0))) := by rw [hw1]; exact heap_old (heap_old (heap_last w _) _) _
  have D1 : Hid (w1.heap[w.heap.size + 1]? = some (.cells #[.int .i64 0, .int .i64 0, .slice none 0 0, .slice none 0 0] 32 (0, 0))) := by rw [hw1]; exact heap_old (heap_two _ _ _) _
  have D2 : Hid (w1.heap[w.heap.size + 1 + 1]? = some (.cells #[.int .i64 x.at_, .int .i64 x.steps, .slice none 0 0, .slice none 0 0] 32 (0, 0))) := by rw [hw1]; exact heap_three _ _ _ _
  have KF : Hid (Fined bc w w1) := Fined.of_below K1.out
  have HC1 := Lib.hid (HH.out.below K1.out)
  have hz : w.heap.size + 1 + 1 < w1.heap.size := (Array.getElem?_eq_some_iff.1 D2.out).1
  have HW := Lib.hid hw1
  clear h hw1 wa ws hvals
  go_enter Tryz.func18, Tryz.ntmps18
  go_upto_region 2 with fail
  rw [← HW.out]
  have d2 := cell_of_row w1 w.heap.size 2 _ _ _ D0.out
  go_wp2_with fail
  clear d2
  go_loopw [21] (fun i wr => ∃ (j : Nat) (sv : Value), i = .int .i64 j ∧ j ≤ x.sets.length ∧ Hid (wr.heap[w.heap.size]? = some (.cells #[.int .i64 x.at_, .int .i64 x.steps, .slice S x.sets.length cS, .slice M x.makes.length cM] 32 (0, 0))) ∧ Hid (wr.heap[w.heap.size + 1]? = some (.cells #[.int .i64 0, .int .i64 0, .slice none 0 0, .slice none 0 0] 32 (0, 0))) ∧
      Hid (wr.heap[w.heap.size + 1 + 1]? = some (.cells #[.int .i64 x.at_, .int .i64 x.steps, sv, .slice none 0 0] 32 (0, 0))) ∧ Hid (wr.ownsRow (w.heap.size + 1) 44 2 sv j (((x.sets.take j).map (setC at_)).flatMap setCs)) ∧
      Hid (wr.heap[bc]? = some (.cells #[tv, .bool (fine && (x.sets.take j).all (fineS at_))] 69 (0, 0))) ∧ Hid (Fined bc w wr)) (fun i _ => x.sets.length - (RowKit.intOf i).toNat)
  case atStart => exact ⟨0, _, rfl, by omega, D0.out, D1.out, D2.out, by rw [List.take_zero]; exact World.ownsRow_nil _ _ _ _, by rw [List.take_zero, List.all_nil, Bool.and_true]; exact HC1.out.here, KF.out⟩
  case round =>
    obtain ⟨j, sv, rfl, hj, R0, R1, R2, OW, RC, RF⟩ := hrel
    have hzr : w.heap.size + 1 + 1 < wr.heap.size := (Array.getElem?_eq_some_iff.1 R2.out).1
    have hbr : bc < wr.heap.size := by omega
    by_cases hlt : j < x.sets.length
    · have hji : (j : Int) < x.sets.length := by omega
      obtain ⟨b, off, y, ys, rfl, hb, hy, -, ⟨rfl, wy1, wy2⟩, hat⟩ := HS.out.at_ hlt
      have hbc2 : b ≠ bc := HH.out.far (hat 0 _ rfl)
      have g0 : wr.cell? ⟨b, off + j * 2, none⟩ = some (.int .i64 y.reg) := RF.out.cell (hat 0 _ rfl) hbc2
      have g1 : wr.cell? ⟨b, off + j * 2 + 1, none⟩ = some (.int .i64 y.val) := RF.out.cell (hat 1 _ rfl) hbc2
      have HY := Lib.hid hy
      have WY := Lib.hid wy1
      obtain ⟨wa, hwa⟩ : ∃ wa, wa = wr.alloc (.cells #[.int .i64 y.reg, .int .i64 y.val] 44) := ⟨_, rfl⟩
      have KA : Hid (Below wr.heap.size wr wa) := by rw [hwa]; exact below_one _ _
      have A0 : Hid (HeadAt wa wr.heap.size [.int .i64 y.reg, .int .i64 y.val]) := by rw [hwa]; exact HeadAt.box wr _ _
      have hza : wr.heap.size < wa.heap.size := by rw [hwa]; simp
      have CA : Hid (CutAt wa bc tv at_ (fine && (x.sets.take j).all (fineS at_))) := (HH.out.at_end RF.out RC.out).below KA.out
      have OA : Hid (wa.ownsRow (w.heap.size + 1) 44 2 sv j (((x.sets.take j).map (setC at_)).flatMap setCs)) := by rw [hwa]; exact OW.out.alloc _
      have Q0 := Lib.hid ((KA.out.block _ (by omega)).trans R0.out)
      have Q1 := Lib.hid ((KA.out.block _ (by omega)).trans R1.out)
      have Q2 := Lib.hid ((KA.out.block _ hzr).trans R2.out)
      have HWA := Lib.hid hwa
      have cw := cell_of_row wa (w.heap.size + 1 + 1) 2 _ _ _ Q2.out
      have e2 : ∀ E : Fin_ bc wa, E.wd.cell? ⟨w.heap.size + 1 + 1, 2, none⟩ = some sv := fun E => E.cell cw (by show w.heap.size + 1 + 1 ≠ bc; omega)
      have f0 : ∀ E : Fin_ bc wa, E.wd.cell? ⟨wr.heap.size, 0, none⟩ = some (.int .i64 y.reg) := fun E => E.cell (A0.out 0 _ rfl) (by show wr.heap.size ≠ bc; omega)
      have f1 : ∀ E : Fin_ bc wa, E.wd.cell? ⟨wr.heap.size, 1, none⟩ = some (.int .i64 y.val) := fun E => E.cell (A0.out 1 _ rfl) (by show wr.heap.size ≠ bc; omega)
      clear hwa hat hy wy1 wy2 cw
      go_upto_region 5 with fail
      rw [← HWA.out]
      refine wp_region_first (fun w' => ∃ E : Fin_ bc wa, w' = E.wd) 7 [7, 8, 9, 10, 11, 12] [7, 8, 9] (by kernel_rfl) (by decide) (by kernel_rfl) (fun _ _ d _ _ h => by cases d <;> exact h) ⟨⟨_, (Fined.refl bc wa).drew⟩, rfl⟩ ?_
      simp only [List.take_succ_cons, List.take_zero]
      generalize hqq : (fun a' => wpMs _ _ _ _ _ _ a' _) = qq
      have HQQ := Lib.hid hqq
      clear hqq
      repeat (go_big_quiet_step (fail))
      refine wpQuiet_nil ?_
      rw [← HQQ.out]
      clear HQQ qq e2 f0 f1
      have OC := Lib.hid (one_c bc tv at_ _ y.val wa.drew ((CA.out.fined ((Fined.refl bc wa).drew) rfl)))
      refine wpMs_step rfl (fun K hK => ?_)
      go_simp
      refine OC.out.mono ?_
      rintro e w5 ⟨rfl, c5, k5⟩
      have C5 := Lib.hid c5
      have K5 : Hid (Fined bc wa w5) := (Fined.refl bc wa).drew.trans k5
      clear c5 k5
      refine hK _ _ (fun _ => ⟨⟨w5, K5.out⟩, rfl⟩) ?_
      clear hK K
      refine wpMs_step rfl (fun K hK => ?_)
      go_simp
      refine hK _ _ (fun _ => ⟨⟨w5, K5.out⟩, rfl⟩) ?_
      clear hK K
      refine wpMs_step rfl (fun K hK => ?_)
      go_simp
      have O5 : Hid (w5.ownsRow (w.heap.size + 1) 44 2 sv j (((x.sets.take j).map (setC at_)).flatMap setCs)) := K5.out.own OA.out (by omega)
      have O6 : Hid ((w5.alloc (.cells #[.int .i64 y.reg, .int .i64 (oneM at_ y.val)] 44)).ownsRow (w.heap.size + 1) 44 2 sv j (((x.sets.take j).map (setC at_)).flatMap setCs)) := O5.out.alloc _
      have hz5 : wr.heap.size < w5.heap.size := Nat.lt_of_lt_of_le hza K5.out.size
      have S0 : Hid ((w5.alloc (.cells #[.int .i64 y.reg, .int .i64 (oneM at_ y.val)] 44)).heap[w.heap.size]? = _) := heap_old (K5.out.row Q0.out (by omega)) _
      have S1 : Hid ((w5.alloc (.cells #[.int .i64 y.reg, .int .i64 (oneM at_ y.val)] 44)).heap[w.heap.size + 1]? = _) := heap_old (K5.out.row Q1.out (by omega)) _
      have S2 : Hid ((w5.alloc (.cells #[.int .i64 y.reg, .int .i64 (oneM at_ y.val)] 44)).heap[w.heap.size + 1 + 1]? = _) := heap_old (K5.out.row Q2.out (by omega)) _
      have SC : Hid ((w5.alloc (.cells #[.int .i64 y.reg, .int .i64 (oneM at_ y.val)] 44)).heap[bc]? = _) := heap_old C5.out.here _
      refine hK _ _ (fun _ => ⟨⟨_, K5.out.alloc _⟩, rfl⟩) ?_
      clear hK K
      refine wpMs_list [10, 11, 12] _ _ (by kernel_rfl) (by kernel_rfl) ?_
      simp only [List.filterMap_cons, List.filterMap_nil, List.getElem?_toArray, List.getElem?_cons_zero, List.getElem?_cons_succ]
      refine wpList_append_own _ rfl _ _ 29 rfl (w.heap.size + 1) 44 i0 (.agg #[.int .i64 0, .int .i64 0]) 2 16 Tryz.underlying29 hi hz0 hz1 hz2 rfl (by decide) sv j (((x.sets.take j).map (setC at_)).flatMap setCs) rfl O6.out ⟨w5.heap.size, 0, none⟩ 1 1 [.int .i64 y.reg, .int .i64 (oneM at_ y.val)] rfl rfl ?c1 ?c2 ?c3 ?c4 ?c5 ?_
      case c1 => exact World.news_of_block (cs := #[.int .i64 y.reg, .int .i64 (oneM at_ y.val)]) (heap_last w5 _)
      case c2 => intro u hu; simp at hu; rcases hu with rfl | rfl <;> rfl
      case c3 => unfold maxLen; omega
      case c4 => omega
      case c5 => simp; omega
      intro v' w6 hown hg _
      have O7 := Lib.hid hown
      have KG := Lib.hid hg
      have T0 := Lib.hid (grow_far O6.out hg S0.out (by decide))
      have T1 := Lib.hid (grow_far O6.out hg S1.out (by decide))
      have T2 := Lib.hid (grow_far O6.out hg S2.out (by decide))
      have TC := Lib.hid (grow_far O6.out hg SC.out (by decide))
      obtain ⟨A', n', c', rfl⟩ := own_is_slice hown
      have KB := Lib.hid (grow_below (B' := w.heap.size) O6.out hg (by omega) (by simp; omega))
      have c7 := cell_of_row w6 (w.heap.size + 1 + 1) 2 _ _ _ T2.out
      have f7 := frozen_of_row w6 (w.heap.size + 1 + 1) 2 _ _ T2.out
      clear hown hg
      go_wp2_with fail
      go_roundw
      case rel =>
        refine ⟨j + 1, .slice A' n' c', by go_num, by omega, ?_, ?_, ?_, ?_, ?_, ?_⟩
        · show _ = _
          rw [heap_setCell_other w6 _ _ _ (by show _ ≠ w.heap.size + 1 + 1; omega)]; exact T0.out
        · show _ = _
          rw [heap_setCell_other w6 _ _ _ (by show _ ≠ w.heap.size + 1 + 1; omega)]; exact T1.out
        · show _ = _
          rw [heap_setCell_same w6 (w.heap.size + 1 + 1) 2 _ _ _ T2.out]; rfl
        · have hl : ((x.sets.take (j + 1)).map (setC at_)).flatMap setCs = ((x.sets.take j).map (setC at_)).flatMap setCs ++ [.int .i64 y.reg, .int .i64 (oneM at_ y.val)] := by
            rw [take_snoc HY.out, List.map_append, List.flatMap_append]; rfl
          show World.ownsRow _ _ _ _ _ _ _
          rw [hl]
          exact own_far O7.out T2.out (by decide) _ _
        · show _ = _
          rw [heap_setCell_other w6 _ _ _ (by show _ ≠ w.heap.size + 1 + 1; omega), TC.out, take_snoc HY.out, List.all_append]
          simp [fineS, Bool.and_assoc]
        · exact ((((RF.out.below_ KA.out).trans K5.out).alloc _).then KB.out).then (Below.set_at (Below.refl _ _) (by omega) _ _)
      case measure => simp [RowKit.intOf]; omega
    · obtain rfl : j = x.sets.length := by omega
      have hji : ¬ (x.sets.length : Int) < x.sets.length := by omega
      have TS : Hid (SliceTy wr (w.heap.size + 1) 44 2 SetR sv (x.sets.map (setC at_))) := by
        have h1 := OW.out
        rw [take_all_len (Nat.le_refl _)] at h1
        refine sliceTy_of_own (f := setCs) (by decide) (fun _ _ => rfl) (fun y hy => ?_) (by rw [List.length_map]; exact h1)
        obtain ⟨z, hz, rfl⟩ := List.mem_map.1 hy
        obtain ⟨cs, _, hr, _⟩ := HS.out.mem hz
        exact setR_setC HH.out.bd hr
      have RC1 : Hid (wr.heap[bc]? = some (.cells #[tv, .bool (fine && x.sets.all (fineS at_))] 69 (0, 0))) := by
        have h1 := RC.out
        rw [take_all_len (Nat.le_refl _)] at h1
        exact h1
      have d3 := cell_of_row wr w.heap.size 3 _ _ _ R0.out
      clear OW RC hj hlt
      go_wp2_with fail
      clear d3
      obtain ⟨j0, hj0, hj1, hj2, hj3⟩ := info_parts infoMake
      go_loopw [41] (fun i wx => ∃ (j : Nat) (mv : Value) (rows : List (List Value)), i = .int .i64 j ∧ j ≤ x.makes.length ∧ rows.length = j ∧ Hid (wx.heap[w.heap.size]? = some (.cells #[.int .i64 x.at_, .int .i64 x.steps, .slice S x.sets.length cS, .slice M x.makes.length cM] 32 (0, 0))) ∧ Hid (wx.heap[w.heap.size + 1]? = some (.cells #[.int .i64 0, .int .i64 0, .slice none 0 0, .slice none 0 0] 32 (0, 0))) ∧
        Hid (wx.heap[w.heap.size + 1 + 1]? = some (.cells #[.int .i64 x.at_, .int .i64 x.steps, sv, mv] 32 (0, 0))) ∧ Hid (SliceTy wx (w.heap.size + 1) 44 2 SetR sv (x.sets.map (setC at_))) ∧ Hid (wx.ownsRow (w.heap.size + 1) 89 4 mv j (rows.flatMap id)) ∧
        Hid (∀ (i : Nat) m, (x.makes.take j)[i]? = some m → ∃ c, rows[i]? = some c ∧ c.length = 4 ∧ MakeT wx (w.heap.size + 1) c (makeC at_ m)) ∧
        Hid (wx.heap[bc]? = some (.cells #[tv, .bool (fine && x.sets.all (fineS at_) && (x.makes.take j).all (fineK at_))] 69 (0, 0))) ∧ Hid (Fined bc w wx)) (fun i _ => x.makes.length - (RowKit.intOf i).toNat)
      case atStart => exact ⟨0, _, [], rfl, by omega, rfl, R0.out, R1.out, R2.out, TS.out, World.ownsRow_nil _ _ _ _, fun i m hm => by simp at hm, by rw [List.take_zero, List.all_nil, Bool.and_true]; exact RC1.out, RF.out⟩
      case round =>
        clear R0 R1 R2 TS RC1 RF hzr hbr
        obtain ⟨j, mv, rows, rfl, hj, hrl, R0, R1, R2, TS, OM, MS, RC, RF⟩ := hrel
        obtain ⟨wo, hwo⟩ : ∃ wo, wo = wr := ⟨_, rfl⟩
        subst hwo
        have hzr : w.heap.size + 1 + 1 < wo.heap.size := (Array.getElem?_eq_some_iff.1 R2.out).1
        have hbr : bc < wo.heap.size := by omega
        by_cases hlt : j < x.makes.length
        · have hji2 : (j : Int) < x.makes.length := by omega
          obtain ⟨b, off, y, ys, rfl, hb, hy, -, ⟨vv, rfl, hvv, wy1, wy2, wy3⟩, hat⟩ := HM.out.at_ hlt
          have HV := Lib.hid hvv
          obtain ⟨V, cV, rfl, lv1, lv2, -⟩ := hvv
          unfold maxLen at lv2
          have hbc2 : b ≠ bc := HH.out.far (hat 0 _ rfl)
          have g0 : wo.cell? ⟨b, off + j * 4, none⟩ = some (.int .i64 y.cell) := RF.out.cell (hat 0 _ rfl) hbc2
          have g1 : wo.cell? ⟨b, off + j * 4 + 1, none⟩ = some (.int .i64 y.kind) := RF.out.cell (hat 1 _ rfl) hbc2
          have g2 : wo.cell? ⟨b, off + j * 4 + 2, none⟩ = some (.int .i64 y.num) := RF.out.cell (hat 2 _ rfl) hbc2
          have g3 : wo.cell? ⟨b, off + j * 4 + 3, none⟩ = some (.slice V y.vals.length cV) := RF.out.cell (hat 3 _ rfl) hbc2
          have HY := Lib.hid hy
          have hvl := HVL.out y (List.mem_of_getElem? hy)
          obtain ⟨wa, hwa⟩ : ∃ wa, wa = wo.alloc (.cells #[.int .i64 y.cell, .int .i64 y.kind, .int .i64 y.num, .slice V y.vals.length cV] 89) := ⟨_, rfl⟩
          have KA : Hid (Below wo.heap.size wo wa) := by rw [hwa]; exact below_one _ _
          have A0 : Hid (wa.heap[wo.heap.size]? = some (.cells #[.int .i64 y.cell, .int .i64 y.kind, .int .i64 y.num, .slice V y.vals.length cV] 89 (0, 0))) := by rw [hwa]; exact heap_last _ _
          have hza : wo.heap.size < wa.heap.size := (Array.getElem?_eq_some_iff.1 A0.out).1
          have RCa : Hid (wa.heap[bc]? = _) := (KA.out.block _ hbr).trans RC.out
          have HWA := Lib.hid hwa
          have OC : Hid (∀ W, Fined bc w W → W.heap[bc]? = some (.cells #[tv, .bool (fine && x.sets.all (fineS at_) && (x.makes.take j).all (fineK at_))] 69 (0, 0)) → Calls Tryz.prog 31 #[.pointer (some ⟨bc, 0, none⟩), .int .i64 y.cell] W (OnePost bc tv at_ (fine && x.sets.all (fineS at_) && (x.makes.take j).all (fineK at_)) y.cell W)) := fun W k1 k2 => one_c bc tv at_ _ y.cell W (HH.out.at_end k1 k2)
          have n0 : wa.cell? ⟨wo.heap.size, 0, none⟩ = some (.int .i64 y.cell) := cell_of_row wa wo.heap.size 0 _ _ _ A0.out
          have n1 : wa.cell? ⟨wo.heap.size, 1, none⟩ = some (.int .i64 y.kind) := cell_of_row wa wo.heap.size 1 _ _ _ A0.out
          have n2 : wa.cell? ⟨wo.heap.size, 2, none⟩ = some (.int .i64 y.num) := cell_of_row wa wo.heap.size 2 _ _ _ A0.out
          have RFa : Hid (Fined bc w wa) := RF.out.below_ (KA.out)
          clear hwa hat hy wy1 wy2 wy3
          go_upto_region 10 with fail
          rw [← HWA.out]
          go_cut [10] (fun s10 wx => ∃ nb : Nat, s10 = .pointer (some ⟨nb, 0, none⟩) ∧ wa.heap.size ≤ nb ∧ Hid (wx.heap[nb]? = some (.cells #[.int .i64 (oneM at_ y.cell), .int .i64 y.kind, .int .i64 y.num, .slice none 0 0] 89 (0, 0))) ∧
            Hid (wx.heap[bc]? = some (.cells #[tv, .bool (fine && x.sets.all (fineS at_) && (x.makes.take j).all (fineK at_) && fineM at_ y.cell)] 69 (0, 0))) ∧ Hid (Fined bc wa wx))
          case first =>
            have e0 : ∀ E : Fin_ bc wa, E.wd.cell? ⟨wo.heap.size, 0, none⟩ = some (.int .i64 y.cell) := fun E => E.cell n0 (by show wo.heap.size ≠ bc; omega)
            have e1 : ∀ E : Fin_ bc wa, E.wd.cell? ⟨wo.heap.size, 1, none⟩ = some (.int .i64 y.kind) := fun E => E.cell n1 (by show wo.heap.size ≠ bc; omega)
            have e2 : ∀ E : Fin_ bc wa, E.wd.cell? ⟨wo.heap.size, 2, none⟩ = some (.int .i64 y.num) := fun E => E.cell n2 (by show wo.heap.size ≠ bc; omega)
            have hba : bc < wa.heap.size := by omega
            clear n0 n1 n2
            refine wp_region_readers (fun w' => ∃ E : Fin_ bc wa, w' = E.wd) [0, 1, 2, 4, 5, 6, 7] [3, 9] 4 #[true, true, true, false, true, true, true, true, false, false, false] _ (by kernel_rfl) (by kernel_rfl) (by simp only [List.filterMap_cons, List.filterMap_nil, List.getElem?_toArray, List.getElem?_cons_zero, List.getElem?_cons_succ]; rfl) (fun _ _ d _ _ h => by cases d <;> exact h) ⟨⟨_, (Fined.refl bc wa).drew⟩, rfl⟩ ?_
            generalize hqq : (fun a' => wpAnyC _ _ _ _ _ _ _ _ a' _) = qq
            have HQQ := Lib.hid hqq
            clear hqq
            show wpQuiet _ _ _ _ [_, _, _, _, _, _, _] _
            repeat (go_big_quiet_step (fail))
            refine wpQuiet_nil ?_
            rw [← HQQ.out]
            clear HQQ qq e0 e1 e2
            refine wpAnyC_two (i := 3) (k := 9) (by kernel_rfl) rfl rfl (fun K hK => ?_) (fun K hK => ?_)
            · go_simp
              refine (OC.out wa.drew RFa.out.drew RCa.out).mono ?_
              rintro e w5 ⟨rfl, c5, k5⟩
              have C5 := Lib.hid c5.here
              have K5 : Hid (Fined bc wa w5) := (Fined.refl bc wa).drew.trans k5
              have hz5 : wa.heap.size ≤ w5.heap.size := k5.size
              clear c5 k5
              refine hK _ _ (fun _ => ⟨⟨w5, K5.out⟩, rfl⟩) ?_
              clear hK K
              refine wpAnyC_two (i := 8) (k := 9) (by kernel_rfl) rfl rfl (fun K hK => ?_) (fun K hK => ?_)
              · go_simp
                refine hK _ _ (fun h => by cases h) ?_
                clear hK K
                refine wpAnyC_of_ms [9, 10] _ _ _ (by kernel_rfl) ?_
                refine wpMs_step rfl (fun K hK => ?_)
                go_simp
                refine hK _ _ (fun _ => ⟨⟨_, K5.out.alloc _⟩, rfl⟩) ?_
                clear hK K
                refine wpMs_list [10] _ _ (by kernel_rfl) (by kernel_rfl) ?_
                simp only [List.filterMap_cons, List.filterMap_nil, List.getElem?_toArray, List.getElem?_cons_zero, List.getElem?_cons_succ]
                have HR := Lib.hid (heap_last w5 (.cells #[.int .i64 0, .int .i64 0, .int .i64 0, .slice none 0 0] 89))
                have HB := Lib.hid (heap_old C5.out (.cells #[.int .i64 0, .int .i64 0, .int .i64 0, .slice none 0 0] 89))
                have HD := Lib.hid (K5.out.alloc (.cells #[.int .i64 0, .int .i64 0, .int .i64 0, .slice none 0 0] 89))
                go_wp2_with (refine wpList_store_row rfl 89 _ _ rfl (w5.heap.size) #[.int .i64 (oneM at_ y.cell), .int .i64 y.kind, .int .i64 y.num, .slice none 0 0] rfl rfl 89 _ HR.out infoMk4 rfl (all_oneCell_toArray (by simp [Value.oneCell'])) ?_)
                generalize hw9 : World.setRow _ _ _ = w9
                have HR9 : Hid (w9.heap[w5.heap.size]? = some (.cells #[.int .i64 (oneM at_ y.cell), .int .i64 y.kind, .int .i64 y.num, .slice none 0 0] 89 (0, 0))) := by rw [← hw9]; exact setRow_heap _ _ _ _ _ _ HR.out
                have HB9 : Hid (w9.heap[bc]? = some (.cells #[tv, .bool (fine && x.sets.all (fineS at_) && (x.makes.take j).all (fineK at_) && fineM at_ y.cell)] 69 (0, 0))) := by rw [← hw9]; exact (setRow_other _ _ _ _ (by omega)).trans HB.out
                have HD9 : Hid (Fined bc wa w9) := by rw [← hw9]; exact HD.out.then (Below.set_row (Below.refl _ _) (by omega) _)
                clear hw9
                go_wp2_with fail
                go_meet
                case rel => first | exact ⟨w5.heap.size, rfl, by omega, HR9.out, HB9.out, HD9.out⟩ | exact ⟨w5.heap.size, rfl, by omega, heap_last w5 _, heap_old C5.out _, K5.out.alloc _⟩
              · go_simp
                refine hK _ _ (fun _ => ⟨⟨_, K5.out.alloc _⟩, rfl⟩) ?_
                clear hK K
                refine wpAnyC_of_ms [8, 10] _ _ _ (by kernel_rfl) ?_
                refine wpMs_list [8, 10] _ _ (by kernel_rfl) (by kernel_rfl) ?_
                simp only [List.filterMap_cons, List.filterMap_nil, List.getElem?_toArray, List.getElem?_cons_zero, List.getElem?_cons_succ]
                show wpList _ _ _ [_, _] _ _
                have HR := Lib.hid (heap_last w5 (.cells #[.int .i64 0, .int .i64 0, .int .i64 0, .slice none 0 0] 89))
                have HB := Lib.hid (heap_old C5.out (.cells #[.int .i64 0, .int .i64 0, .int .i64 0, .slice none 0 0] 89))
                have HD := Lib.hid (K5.out.alloc (.cells #[.int .i64 0, .int .i64 0, .int .i64 0, .slice none 0 0] 89))
                go_wp2_with (refine wpList_store_row rfl 89 _ _ rfl (w5.heap.size) #[.int .i64 (oneM at_ y.cell), .int .i64 y.kind, .int .i64 y.num, .slice none 0 0] rfl rfl 89 _ HR.out infoMk4 rfl (all_oneCell_toArray (by simp [Value.oneCell'])) ?_)
                generalize hw9 : World.setRow _ _ _ = w9
                have HR9 : Hid (w9.heap[w5.heap.size]? = some (.cells #[.int .i64 (oneM at_ y.cell), .int .i64 y.kind, .int .i64 y.num, .slice none 0 0] 89 (0, 0))) := by rw [← hw9]; exact setRow_heap _ _ _ _ _ _ HR.out
                have HB9 : Hid (w9.heap[bc]? = some (.cells #[tv, .bool (fine && x.sets.all (fineS at_) && (x.makes.take j).all (fineK at_) && fineM at_ y.cell)] 69 (0, 0))) := by rw [← hw9]; exact (setRow_other _ _ _ _ (by omega)).trans HB.out
                have HD9 : Hid (Fined bc wa w9) := by rw [← hw9]; exact HD.out.then (Below.set_row (Below.refl _ _) (by omega) _)
                clear hw9
                go_wp2_with fail
                go_meet
                case rel => first | exact ⟨w5.heap.size, rfl, by omega, HR9.out, HB9.out, HD9.out⟩ | exact ⟨w5.heap.size, rfl, by omega, heap_last w5 _, heap_old C5.out _, K5.out.alloc _⟩
            · go_simp
              refine hK _ _ (fun _ => ⟨⟨_, ((Fined.refl bc wa).alloc _).drew⟩, rfl⟩) ?_
              clear hK K
              refine wpAnyC_of_ms [3, 8, 10] _ _ _ (by kernel_rfl) ?_
              refine wpMs_step rfl (fun K hK => ?_)
              go_simp
              refine (OC.out (wa.alloc (.cells #[.int .i64 0, .int .i64 0, .int .i64 0, .slice none 0 0] 89)).drew (RFa.out.alloc _).drew (heap_old RCa.out _)).mono ?_
              rintro e w5 ⟨rfl, c5, k5⟩
              have C5 := Lib.hid c5.here
              have E5 : Hid (w5.heap[wa.heap.size]? = some (.cells #[.int .i64 0, .int .i64 0, .int .i64 0, .slice none 0 0] 89)) := k5.row (heap_last wa (.cells #[.int .i64 0, .int .i64 0, .int .i64 0, .slice none 0 0] 89)) (by omega)
              have K5 : Hid (Fined bc wa w5) := ((Fined.refl bc wa).alloc _).drew.trans k5
              have hz5 : wa.heap.size ≤ w5.heap.size := K5.out.size
              clear c5 k5
              refine hK _ _ (fun _ => ⟨⟨w5, K5.out⟩, rfl⟩) ?_
              clear hK K
              refine wpMs_list [8, 10] _ _ (by kernel_rfl) (by kernel_rfl) ?_
              simp only [List.filterMap_cons, List.filterMap_nil, List.getElem?_toArray, List.getElem?_cons_zero, List.getElem?_cons_succ]
              show wpList _ _ _ [_, _] _ _
              have HR := Lib.hid (E5.out)
              have HB := Lib.hid (C5.out)
              have HD := Lib.hid (K5.out)
              go_wp2_with (refine wpList_store_row rfl 89 _ _ rfl (wa.heap.size) #[.int .i64 (oneM at_ y.cell), .int .i64 y.kind, .int .i64 y.num, .slice none 0 0] rfl rfl 89 _ HR.out infoMk4 rfl (all_oneCell_toArray (by simp [Value.oneCell'])) ?_)
              generalize hw9 : World.setRow _ _ _ = w9
              have HR9 : Hid (w9.heap[wa.heap.size]? = some (.cells #[.int .i64 (oneM at_ y.cell), .int .i64 y.kind, .int .i64 y.num, .slice none 0 0] 89 (0, 0))) := by rw [← hw9]; exact setRow_heap _ _ _ _ _ _ HR.out
              have HB9 : Hid (w9.heap[bc]? = some (.cells #[tv, .bool (fine && x.sets.all (fineS at_) && (x.makes.take j).all (fineK at_) && fineM at_ y.cell)] 69 (0, 0))) := by rw [← hw9]; exact (setRow_other _ _ _ _ (by omega)).trans HB.out
              have HD9 : Hid (Fined bc wa w9) := by rw [← hw9]; exact HD.out.then (Below.set_row (Below.refl _ _) (by omega) _)
              clear hw9
              go_wp2_with fail
              go_meet
              case rel => exact ⟨wa.heap.size, rfl, by omega, HR9.out, HB9.out, HD9.out⟩
          case rest =>
            obtain ⟨wi, hwi⟩ : ∃ wi, wi = wc := ⟨_, rfl⟩
            subst hwi
            obtain ⟨nb, rfl, hnb, N0, NC, NF⟩ := hcut
            have A1 := Lib.hid (NF.out.row A0.out (by omega))
            have B0 := Lib.hid (NF.out.row ((KA.out.block _ (by omega)).trans R0.out) (by omega))
            have B1 := Lib.hid (NF.out.row ((KA.out.block _ (by omega)).trans R1.out) (by omega))
            have B2 := Lib.hid (NF.out.row ((KA.out.block _ hzr).trans R2.out) (by omega))
            have KI : Hid (Fined bc w wi) := RFa.out.trans NF.out
            have hzi : nb < wi.heap.size := (Array.getElem?_eq_some_iff.1 N0.out).1
            have hbi : bc < wi.heap.size := by omega
            have c3 := cell_of_row wi wo.heap.size 3 _ _ _ A1.out
            obtain ⟨q0, hq0, hq1, hq2, hq3⟩ := info_parts infoInt
            have FO : Hid (Fined bc wo wi) := (Fined.of_below KA.out).trans NF.out
            go_wp2_with fail
            clear c3
            go_loopw [57] (fun i wx => ∃ (q : Nat) (nv : Value), i = .int .i64 q ∧ q ≤ y.vals.length ∧ Hid (wx.heap[nb]? = some (.cells #[.int .i64 (oneM at_ y.cell), .int .i64 y.kind, .int .i64 y.num, nv] 89 (0, 0))) ∧ Hid (wx.ownsRow wi.heap.size 3 1 nv q (((y.vals.take q).map (oneM at_)).map (.int .i64))) ∧
              Hid (wx.heap[bc]? = some (.cells #[tv, .bool (fine && x.sets.all (fineS at_) && (x.makes.take j).all (fineK at_) && fineM at_ y.cell && (y.vals.take q).all (fineM at_))] 69 (0, 0))) ∧ Hid (Kept2 bc nb wi wx)) (fun i _ => y.vals.length - (RowKit.intOf i).toNat)
            case atStart => exact ⟨0, _, rfl, by omega, N0.out, World.ownsRow_nil _ _ _ _, by rw [List.take_zero, List.all_nil, Bool.and_true]; exact NC.out, Kept2.refl _ _ _⟩
            case round =>
              obtain ⟨q, nv, rfl, hq, M0, OV, VC, VK⟩ := hrel
              have hzq : nb < wr.heap.size := (Array.getElem?_eq_some_iff.1 M0.out).1
              have hzq2 : wi.heap.size ≤ wr.heap.size := VK.out.size
              have VF : Hid (Fined bc w wr) := VK.out.fined KI.out (by omega)
              by_cases hlq : q < y.vals.length
              · obtain ⟨b3, off3, v, vs, rfl, hb3, hv, -, ⟨rfl, wv⟩, hat3⟩ := HV.out.at_ hlq
                have hqi : (q : Int) < y.vals.length := by omega
                have hw3 : w.cell? ⟨b3, off3 + q, none⟩ = some (.int .i64 v) := by simpa using hat3 0 _ rfl
                have hb3c : b3 ≠ bc := HH.out.far hw3
                have g0 : wr.cell? ⟨b3, off3 + q, none⟩ = some (.int .i64 v) := VF.out.cell hw3 hb3c
                have cw := cell_of_row wr nb 3 _ _ _ M0.out
                have hnc : nb ≠ bc := by omega
                have e3 : ∀ E : Fin_ bc wr, E.wd.cell? ⟨nb, 3, none⟩ = some nv := fun E => E.cell cw hnc
                have HVV := Lib.hid hv
                clear hat3 hv hw3 cw wv
                go_upto_region 14 with fail
                refine wp_region_first (fun w' => ∃ E : Fin_ bc wr, w' = E.wd) 4 [4, 5, 6, 7, 8] [4, 5] (by kernel_rfl) (by decide) (by kernel_rfl) (fun _ _ d _ _ h => by cases d <;> exact h) ⟨⟨_, (Fined.refl bc wr).drew⟩, rfl⟩ ?_
                simp only [List.take_succ_cons, List.take_zero]
                generalize hqq : (fun a' => wpMs _ _ _ _ _ _ a' _) = qq
                have HQQ := Lib.hid hqq
                clear hqq
                repeat (go_big_quiet_step (fail))
                refine wpQuiet_nil ?_
                rw [← HQQ.out]
                clear HQQ qq e3 g0
                have OD := Lib.hid (one_c bc tv at_ _ v wr.drew (HH.out.at_end VF.out.drew VC.out))
                refine wpMs_step rfl (fun K hK => ?_)
                go_simp
                refine OD.out.mono ?_
                rintro e w5 ⟨rfl, c5, k5⟩
                have C5 := Lib.hid c5.here
                have K5 : Hid (Fined bc wr w5) := (Fined.refl bc wr).drew.trans k5
                have hz5 : wr.heap.size ≤ w5.heap.size := k5.size
                clear c5 k5
                refine hK _ _ (fun _ => ⟨⟨w5, K5.out⟩, rfl⟩) ?_
                clear hK K
                refine wpMs_step rfl (fun K hK => ?_)
                go_simp
                have O5 : Hid (w5.ownsRow wi.heap.size 3 1 nv q (((y.vals.take q).map (oneM at_)).map (.int .i64))) := K5.out.own OV.out hbi
                have O6 : Hid ((w5.alloc (.cells #[.int .i64 (oneM at_ v)] 3)).ownsRow wi.heap.size 3 1 nv q (((y.vals.take q).map (oneM at_)).map (.int .i64))) := O5.out.alloc _
                have M5 : Hid ((w5.alloc (.cells #[.int .i64 (oneM at_ v)] 3)).heap[nb]? = _) := heap_old (K5.out.row M0.out hnc) _
                have SC : Hid ((w5.alloc (.cells #[.int .i64 (oneM at_ v)] 3)).heap[bc]? = _) := heap_old C5.out _
                refine hK _ _ (fun _ => ⟨⟨_, K5.out.alloc _⟩, rfl⟩) ?_
                clear hK K
                refine wpMs_list [6, 7, 8] _ _ (by kernel_rfl) (by kernel_rfl) ?_
                simp only [List.filterMap_cons, List.filterMap_nil, List.getElem?_toArray, List.getElem?_cons_zero, List.getElem?_cons_succ]
                refine wpList_append_own _ rfl _ _ 47 rfl wi.heap.size 3 q0 (.int .i64 0) 1 8 Tryz.underlying47 hq0 hq1 hq2 hq3 rfl (by decide) nv q (((y.vals.take q).map (oneM at_)).map (.int .i64)) rfl O6.out ⟨w5.heap.size, 0, none⟩ 1 1 [.int .i64 (oneM at_ v)] rfl rfl ?v1 ?v2 ?v3 ?v4 ?v5 ?_
                case v1 => exact World.news_of_block (cs := #[.int .i64 (oneM at_ v)]) (heap_last w5 _)
                case v2 => intro u hu; simp at hu; subst hu; rfl
                case v3 => unfold maxLen; omega
                case v4 => omega
                case v5 => simp; omega
                intro v' w6 hown hg _
                have O7 := Lib.hid hown
                have T0 := Lib.hid (grow_far O6.out hg M5.out (by decide))
                have TC := Lib.hid (grow_far O6.out hg SC.out (by decide))
                obtain ⟨A', n', c', rfl⟩ := own_is_slice hown
                have KB := Lib.hid (grow_below (B' := wi.heap.size) O6.out hg (by omega) (by simp; omega))
                have c7 := cell_of_row w6 nb 3 _ _ _ T0.out
                have f7 := frozen_of_row w6 nb 3 _ _ T0.out
                clear hown hg
                go_wp2_with fail
                go_roundw
                case rel =>
                  refine ⟨q + 1, .slice A' n' c', by go_num, by omega, ?_, ?_, ?_, ?_⟩
                  · show _ = _
                    rw [heap_setCell_same w6 nb 3 _ _ _ T0.out]; rfl
                  · have hl : ((y.vals.take (q + 1)).map (oneM at_)).map (Value.int .i64) = ((y.vals.take q).map (oneM at_)).map (Value.int .i64) ++ [.int .i64 (oneM at_ v)] := by
                      rw [take_snoc HVV.out, List.map_append, List.map_append]; rfl
                    show World.ownsRow _ _ _ _ _ _ _
                    rw [hl]
                    exact own_far O7.out T0.out (by decide) _ _
                  · show _ = _
                    rw [heap_setCell_other w6 _ _ _ (by show bc ≠ nb; omega), TC.out, take_snoc HVV.out, List.all_append]
                    simp [Bool.and_assoc]
                  · exact (((VK.out.trans (Kept2.of_fined (K5.out.alloc _))).then KB.out).set_ _ _)
                case measure => simp [RowKit.intOf]; omega
              · obtain rfl : q = y.vals.length := by omega
                have hqi : ¬ (y.vals.length : Int) < y.vals.length := by omega
                have FW : Hid (Fined bc wo wr) := VK.out.fined FO.out (by omega)
                have W0 := Lib.hid (FW.out.row R0.out (by omega))
                have W1 := Lib.hid (FW.out.row R1.out (by omega))
                have W2 := Lib.hid (FW.out.row R2.out (by omega))
                have WT := Lib.hid (FW.out.ty TS.out (by omega))
                have WO := Lib.hid (FW.out.own OM.out (by omega))
                have HV2 : Hid (MakeT wr (w.heap.size + 1) [.int .i64 (oneM at_ y.cell), .int .i64 y.kind, .int .i64 y.num, nv] (makeC at_ y)) := by
                  obtain ⟨cs, hcs⟩ := HM.out.mem (List.mem_of_getElem? HY.out)
                  obtain ⟨_, -, -, -, w2, w3⟩ := hcs
                  have h1 := OV.out
                  rw [take_all_len (Nat.le_refl _), ← flat_one (Value.int .i64)] at h1
                  have b1 := one_bd HH.out.bd y.cell
                  refine ⟨nv, rfl, ?_, by unfold wfi makeC; dsimp only; omega, w2, w3⟩
                  refine SliceTy.more (B := wi.heap.size) ?_ (by omega)
                  refine sliceTy_of_own (f := fun x => [Value.int .i64 x]) (by decide) (fun _ _ => rfl) (fun z hz => ?_) (by unfold makeC; dsimp only; rw [List.length_map]; exact h1)
                  obtain ⟨u, -, rfl⟩ := List.mem_map.1 hz
                  have := one_bd HH.out.bd u
                  exact ⟨rfl, by unfold wfi; omega⟩
                obtain ⟨A3, n3, c3, rfl⟩ := own_is_slice OV.out
                have VC2 : Hid (wr.heap[bc]? = some (.cells #[tv, .bool (fine && x.sets.all (fineS at_) && (x.makes.take j).all (fineK at_) && fineM at_ y.cell && y.vals.all (fineM at_))] 69 (0, 0))) := by
                  have h1 := VC.out
                  rw [take_all_len (Nat.le_refl _)] at h1
                  exact h1
                have b3 := cell_of_row wr (w.heap.size + 1 + 1) 3 _ _ _ W2.out
                have p0 := cell_of_row wr nb 0 _ _ _ M0.out
                have p1 := cell_of_row wr nb 1 _ _ _ M0.out
                have p2 := cell_of_row wr nb 2 _ _ _ M0.out
                have p3 := cell_of_row wr nb 3 _ _ _ M0.out
                have O8 : Hid ((wr.alloc (.cells #[.int .i64 (oneM at_ y.cell), .int .i64 y.kind, .int .i64 y.num, .slice A3 n3 c3] 89)).ownsRow (w.heap.size + 1) 89 4 mv j (rows.flatMap id)) := WO.out.alloc _
                go_wp2_with (at_builtin; refine wpList_append_own _ rfl _ _ 30 rfl (w.heap.size + 1) 89 j0 (.agg #[.int .i64 0, .int .i64 0, .int .i64 0, .slice none 0 0]) 4 48 Tryz.underlying30 hj0 hj1 hj2 hj3 rfl (by decide) mv j (rows.flatMap id) rfl O8.out ⟨wr.heap.size, 0, none⟩ 1 1 [.int .i64 (oneM at_ y.cell), .int .i64 y.kind, .int .i64 y.num, .slice A3 n3 c3] rfl rfl ?k1 ?k2 ?k3 ?k4 ?k5 ?_)
                case k2 => exact ⟨rfl, rfl, rfl, rfl⟩
                case k3 => unfold maxLen; omega
                case k4 => omega
                case k5 => omega
                intro v' w6 hown hg _
                have O9 := Lib.hid hown
                have G0 := Lib.hid (grow_far O8.out hg (heap_old W0.out _) (by decide))
                have G1 := Lib.hid (grow_far O8.out hg (heap_old W1.out _) (by decide))
                have G2 := Lib.hid (grow_far O8.out hg (heap_old W2.out _) (by decide))
                have GC := Lib.hid (grow_far O8.out hg (heap_old VC2.out _) (by decide))
                have GT := Lib.hid ((WT.out.below (below_one _ _)).grow O8.out hg (by decide))
                have GM : Hid (∀ (i : Nat) m, (x.makes.take (j + 1))[i]? = some m → ∃ c, (rows ++ [[.int .i64 (oneM at_ y.cell), .int .i64 y.kind, .int .i64 y.num, .slice A3 n3 c3]])[i]? = some c ∧ c.length = 4 ∧ MakeT w6 (w.heap.size + 1) c (makeC at_ m)) := fun i m hm => by
                  rw [take_snoc HY.out] at hm
                  have hlj : (x.makes.take j).length = j := by rw [List.length_take]; omega
                  rcases Nat.lt_or_ge i j with hi | hi
                  · rw [List.getElem?_append_left (by omega)] at hm
                    obtain ⟨c, h1, h2, h3⟩ := MS.out i m hm
                    exact ⟨c, by rw [List.getElem?_append_left (by omega)]; exact h1, h2, ((h3.fin FW.out (by omega)).below (below_one _ _)).grow O8.out hg (by decide)⟩
                  · rw [List.getElem?_append_right (by omega)] at hm
                    have hi0 : i - (x.makes.take j).length = 0 := by
                      have := (List.getElem?_eq_some_iff.1 hm).1
                      simp only [List.length_cons, List.length_nil] at this; omega
                    rw [hi0] at hm
                    obtain rfl : y = m := by simpa using hm
                    refine ⟨_, ?_, rfl, (HV2.out.below (below_one _ _)).grow O8.out hg (by decide)⟩
                    rw [List.getElem?_append_right (by omega), show i - rows.length = 0 by omega]; rfl
                obtain ⟨A', n', c', rfl⟩ := own_is_slice hown
                have KB := Lib.hid (grow_below (B' := w.heap.size) O8.out hg (by omega) (by simp; omega))
                have c7 := cell_of_row w6 (w.heap.size + 1 + 1) 3 _ _ _ G2.out
                have f7 := frozen_of_row w6 (w.heap.size + 1 + 1) 3 _ _ G2.out
                clear hown hg b3 p0 p1 p2 p3
                go_wp2_with fail
                go_roundw
                case rel =>
                  refine ⟨j + 1, .slice A' n' c', rows ++ [[.int .i64 (oneM at_ y.cell), .int .i64 y.kind, .int .i64 y.num, .slice A3 n3 c3]], by go_num, by omega, by simp; omega, ?_, ?_, ?_, ?_, ?_, ?_, ?_, ?_⟩
                  · show _ = _
                    rw [heap_setCell_other w6 _ _ _ (by show _ ≠ w.heap.size + 1 + 1; omega)]; exact G0.out
                  · show _ = _
                    rw [heap_setCell_other w6 _ _ _ (by show _ ≠ w.heap.size + 1 + 1; omega)]; exact G1.out
                  · show _ = _
                    rw [heap_setCell_same w6 (w.heap.size + 1 + 1) 3 _ _ _ G2.out]; rfl
                  · exact GT.out.set_ G2.out (by decide) _ _
                  · show World.ownsRow _ _ _ _ _ _ _
                    have e9 : (rows ++ [[Value.int .i64 (oneM at_ y.cell), .int .i64 y.kind, .int .i64 y.num, .slice A3 n3 c3]]).flatMap id = rows.flatten ++ [.int .i64 (oneM at_ y.cell), .int .i64 y.kind, .int .i64 y.num, .slice A3 n3 c3] := by simp
                    rw [e9]
                    exact own_far O9.out G2.out (by decide) _ _
                  · exact fun i m hm => by
                      obtain ⟨c, h1, h2, h3⟩ := GM.out i m hm
                      exact ⟨c, h1, h2, h3.set_ G2.out (by decide) _ _⟩
                  · show _ = _
                    rw [heap_setCell_other w6 _ _ _ (by show _ ≠ w.heap.size + 1 + 1; omega), GC.out, take_snoc HY.out, List.all_append]
                    simp [fineK, Bool.and_assoc]
                  · exact (((RF.out.trans FW.out).alloc _).then KB.out).then (Below.set_at (Below.refl _ _) (by omega) _ _)
                case measure => simp [RowKit.intOf]; omega
        · obtain rfl : j = x.makes.length := by omega
          have hji2 : ¬ (x.makes.length : Int) < x.makes.length := by omega
          obtain ⟨A4, n4, c4, rfl⟩ : ∃ A n c, sv = .slice A n c := by obtain ⟨A, c, e, _⟩ := TS.out; exact ⟨_, _, _, e⟩
          obtain ⟨A5, n5, c5, rfl⟩ := own_is_slice OM.out
          have MT : Hid (SliceTy wo (w.heap.size + 1) 89 4 (MakeT wo (w.heap.size + 1)) (.slice A5 n5 c5) (x.makes.map (makeC at_))) := by
            have hm := MS.out
            rw [take_all_len (Nat.le_refl _)] at hm
            have hlen4 : ∀ r ∈ rows, r.length = 4 := fun r hr => by
              obtain ⟨i, hi⟩ := List.getElem?_of_mem hr
              have hil := (List.getElem?_eq_some_iff.1 hi).1
              obtain ⟨c, h1, h2, _⟩ := hm i _ (List.getElem?_eq_getElem (by omega))
              rw [hi] at h1; injection h1 with h1; rw [h1]; exact h2
            refine SliceTy.of_raw (rows := rows) (sliceTy_of_own (f := id) (by decide) hlen4 (fun r hr => ⟨rfl, hlen4 r hr⟩) (by rw [hrl]; exact OM.out)) (by rw [List.length_map]; exact hrl) (fun i m' hm' => ?_)
            rw [List.getElem?_map] at hm'
            obtain ⟨m0, h0, rfl⟩ := Option.map_eq_some_iff.1 hm'
            obtain ⟨c, h1, _, h3⟩ := hm i m0 h0
            exact ⟨c, h1, h3⟩
          have RC2 : Hid (wo.heap[bc]? = some (.cells #[tv, .bool (fine && x.sets.all (fineS at_) && x.makes.all (fineK at_))] 69 (0, 0))) := by
            have h1 := RC.out
            rw [take_all_len (Nat.le_refl _)] at h1
            exact h1
          have b0 := cell_of_row wo (w.heap.size + 1 + 1) 0 _ _ _ R2.out
          have b1 := cell_of_row wo (w.heap.size + 1 + 1) 1 _ _ _ R2.out
          have b2 := cell_of_row wo (w.heap.size + 1 + 1) 2 _ _ _ R2.out
          have b3 := cell_of_row wo (w.heap.size + 1 + 1) 3 _ _ _ R2.out
          go_wp2_with (refine wpList_store_row rfl 32 _ _ rfl (w.heap.size + 1) #[.int .i64 x.at_, .int .i64 x.steps, .slice A4 n4 c4, .slice A5 n5 c5] rfl rfl 32 _ R1.out infoEx4 rfl (all_oneCell_toArray (by simp [Value.oneCell'])) ?_)
          generalize hw9 : World.setRow _ _ _ = w9
          have QR : Hid (w9.heap[w.heap.size + 1]? = some (.cells #[.int .i64 x.at_, .int .i64 x.steps, .slice A4 n4 c4, .slice A5 n5 c5] 32 (0, 0))) := by rw [← hw9]; exact setRow_heap _ _ _ _ _ _ R1.out
          have QC : Hid (w9.heap[bc]? = some (.cells #[tv, .bool (fine && x.sets.all (fineS at_) && x.makes.all (fineK at_))] 69 (0, 0))) := by rw [← hw9]; exact (setRow_other _ _ _ _ (by omega)).trans RC2.out
          have QF : Hid (Fined bc w w9) := by rw [← hw9]; exact RF.out.then (Below.set_row (Below.refl _ _) (by omega) _)
          have QS : Hid (SliceTy w9 (w.heap.size + 1) 44 2 SetR (.slice A4 n4 c4) (x.sets.map (setC at_))) := by rw [← hw9]; exact TS.out.set_row R1.out (by decide) _
          have QM : Hid (SliceTy w9 w.heap.size 89 4 (MakeT w9 w.heap.size) (.slice A5 n5 c5) (x.makes.map (makeC at_))) := by
            rw [← hw9]
            exact ((MT.out.set_row R1.out (by decide) _).keep (fun _ _ _ _ _ => rfl) (fun _ _ h => (h.set_row R1.out (by decide) _).more (by omega))).more (by omega)
          clear hw9 b0 b1 b2 b3
          go_wp2_with fail
          have r0 := cell_of_row w9 (w.heap.size + 1) 0 _ _ _ QR.out
          have r1 := cell_of_row w9 (w.heap.size + 1) 1 _ _ _ QR.out
          have r2 := cell_of_row w9 (w.heap.size + 1) 2 _ _ _ QR.out
          have r3 := cell_of_row w9 (w.heap.size + 1) 3 _ _ _ QR.out
          refine bodyPost_ret (v := .agg #[.int .i64 x.at_, .int .i64 x.steps, .slice A4 n4 c4, .slice A5 n5 c5]) (by simp [results, Tryz.results18, go_sem, r0, r1, r2, r3]) rfl ⟨_, rfl, ⟨_, _, rfl, QS.out.more (by omega), QM.out, WA.out, WS.out⟩, ?_, QF.out⟩
          unfold fineX
          rw [← Bool.and_assoc]
          exact HH.out.at_end QF.out QC.out
end Go.Proofs.YtlnkjmgfkpeicaaGreatDoor
