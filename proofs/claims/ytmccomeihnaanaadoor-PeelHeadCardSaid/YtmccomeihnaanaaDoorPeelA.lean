/- peel.moved: the walk. -/
import Derived.Test.YtmccomeihnaanaaDoorPeelM
import Derived.Test.YtmccomeihnaanaaDoorCutE
import Derived.Test.YtmccomeihnaanaaDoorCutK
namespace Go.Proofs.YtmccomeihnaanaaDoor
open Go.RowKit

def setN (n : Int) (s : TSet) : TSet := ⟨s.reg, s.val + n⟩
def makeN (n : Int) (m : TMake) : TMake := ⟨m.cell + n, m.kind, m.num, m.vals.map (· + n)⟩
theorem movedM_eq (x : TExit) (n : Int) : movedM x n = ⟨x.at_, x.steps, x.sets.map (setN n), x.makes.map (makeN n)⟩ := rfl
def MovedPost (n : Int) (x : TExit) (w : World) (e : Ending) (w' : World) : Prop :=
  ∃ cs, e = .returned (.agg ⟨cs⟩) ∧ ExitT w' w.heap.size cs (movedM x n) ∧ Below w.heap.size w w'

set_option maxHeartbeats 8000000 in
set_option maxRecDepth 100000 in
theorem moved_c (xs : List Value) (x : TExit) (n : Int) (k : Nat) (w : World) (hx : ExitR w w.heap.size xs x) (hin : exitIn k x) (hk : k ≤ 1000) (hn0 : 0 ≤ n) (hn1 : n ≤ 1000) (hsm : Small x) :
    Calls Tryd.prog 85 #[.agg ⟨xs⟩, .int .i64 n] w (MovedPost n x w) := by
  have HI := Lib.hid hin
  have SM := Lib.hid hsm
  have hsets := hsm.1
  have hmakes := hsm.2.1
  obtain ⟨s, m, rfl, hs, hm, wa, ws⟩ := hx
  have HS := Lib.hid hs
  have HM := Lib.hid hm
  obtain ⟨S, cS, rfl, ls1, ls2, -⟩ := hs
  obtain ⟨M, cM, rfl, lm1, lm2, -⟩ := hm
  unfold maxLen at ls2 lm2
  have WA := Lib.hid wa
  have WS := Lib.hid ws
  obtain ⟨i0, hi, hz0, hz1, hz2⟩ := info_parts infoSet
  obtain ⟨w1, hw1⟩ : ∃ w1, w1 = ((w.alloc (.cells #[.int .i64 x.at_, .int .i64 x.steps, .slice S x.sets.length cS, .slice M x.makes.length cM] 32)).alloc (.cells #[.int .i64 0, .int .i64 0, .slice none 0 0, .slice none 0 0] 32)).alloc (.cells #[.int .i64 x.at_, .int .i64 x.steps, .slice none 0 0, .slice none 0 0] 32) := ⟨_, rfl⟩
  have K1 : Hid (Below w.heap.size w w1) := by rw [hw1]; exact (below_two' w _ _).alloc (by simp; omega) _
  have D0 : Hid (w1.heap[w.heap.size]? = some (.cells #[.int .i64 x.at_, .int .i64 x.steps, .slice S x.sets.length cS, .slice M x.makes.length cM] 32 (0, 0))) := by rw [hw1]; exact heap_old (heap_old (heap_last w _) _) _
  have D1 : Hid (w1.heap[w.heap.size + 1]? = some (.cells #[.int .i64 0, .int .i64 0, .slice none 0 0, .slice none 0 0] 32 (0, 0))) := by rw [hw1]; exact heap_old (heap_two _ _ _) _
  have D2 : Hid (w1.heap[w.heap.size + 1 + 1]? = some (.cells #[.int .i64 x.at_, .int .i64 x.steps, .slice none 0 0, .slice none 0 0] 32 (0, 0))) := by rw [hw1]; exact heap_three _ _ _ _
  have hz : w.heap.size + 1 + 1 < w1.heap.size := (Array.getElem?_eq_some_iff.1 D2.out).1
  have HW := Lib.hid hw1
  clear hw1 wa ws hsm hin
  go_enter Tryd.func85, Tryd.ntmps85
  go_upto_region 2 with fail
  rw [← HW.out]
  have d2 := cell_of_row w1 w.heap.size 2 _ _ _ D0.out
  go_wp2_with fail
  clear d2
  go_loopw [21] (fun i wr => ∃ (j : Nat) (sv : Value), i = .int .i64 j ∧ j ≤ x.sets.length ∧ Hid (wr.heap[w.heap.size]? = some (.cells #[.int .i64 x.at_, .int .i64 x.steps, .slice S x.sets.length cS, .slice M x.makes.length cM] 32 (0, 0))) ∧ Hid (wr.heap[w.heap.size + 1]? = some (.cells #[.int .i64 0, .int .i64 0, .slice none 0 0, .slice none 0 0] 32 (0, 0))) ∧
      Hid (wr.heap[w.heap.size + 1 + 1]? = some (.cells #[.int .i64 x.at_, .int .i64 x.steps, sv, .slice none 0 0] 32 (0, 0))) ∧ Hid (wr.ownsRow (w.heap.size + 1) 99 2 sv j (((x.sets.take j).map (setN n)).flatMap setCs)) ∧
      Hid (Below w.heap.size w wr)) (fun i _ => x.sets.length - (RowKit.intOf i).toNat)
  case atStart => exact ⟨0, _, rfl, by omega, D0.out, D1.out, D2.out, by rw [List.take_zero]; exact World.ownsRow_nil _ _ _ _, K1.out⟩
  case round =>
    obtain ⟨j, sv, rfl, hj, R0, R1, R2, OW, RF⟩ := hrel
    have hzr : w.heap.size + 1 + 1 < wr.heap.size := (Array.getElem?_eq_some_iff.1 R2.out).1
    by_cases hlt : j < x.sets.length
    · have hji : (j : Int) < x.sets.length := by omega
      obtain ⟨b, off, y, ys, rfl, hb, hy, -, ⟨rfl, wy1, wy2⟩, hat⟩ := HS.out.at_ hlt
      have hzb : b < wr.heap.size := Nat.lt_of_lt_of_le hb RF.out.size
      have g0 : wr.cell? ⟨b, off + j * 2, none⟩ = some (.int .i64 y.reg) := (RF.out.cell hb).trans (hat 0 _ rfl)
      have g1 : wr.cell? ⟨b, off + j * 2 + 1, none⟩ = some (.int .i64 y.val) := (RF.out.cell hb).trans (hat 1 _ rfl)
      have HY := Lib.hid hy
      obtain ⟨hv0, hv1⟩ := HI.out.1 y (List.mem_of_getElem? hy)
      have cw := cell_of_row wr (w.heap.size + 1 + 1) 2 _ _ _ R2.out
      obtain ⟨L, hL⟩ : ∃ L, ((x.sets.take j).map (setN n)).flatMap setCs = L := ⟨_, rfl⟩
      rw [hL] at OW
      have HL := Lib.hid hL
      have O6 : Hid (((wr.alloc (.cells #[.int .i64 y.reg, .int .i64 y.val] 99)).alloc (.cells #[.int .i64 y.reg, .int .i64 (y.val + n)] 99)).ownsRow (w.heap.size + 1) 99 2 sv j L) := (OW.out.alloc _).alloc _
      clear hat hy wy1 wy2 hL
      go_wp2_with (at_builtin; refine wpList_append_own _ rfl _ _ 29 rfl (w.heap.size + 1) 99 i0 (.agg #[.int .i64 0, .int .i64 0]) 2 16 Tryd.underlying29 hi hz0 hz1 hz2 rfl (by decide) sv j L rfl O6.out ⟨wr.heap.size + 1, 0, none⟩ 1 1 [.int .i64 y.reg, .int .i64 (y.val + n)] rfl rfl ?c1 ?c2 ?c3 ?c4 ?c5 ?_)
      case c1 => exact World.news_of_block (cs := #[.int .i64 y.reg, .int .i64 (y.val + n)]) (by have := heap_last (wr.alloc (.cells #[.int .i64 y.reg, .int .i64 y.val] 99)) (.cells #[.int .i64 y.reg, .int .i64 (y.val + n)] 99); simpa using this)
      case c2 => intro u hu; simp at hu; rcases hu with rfl | rfl <;> rfl
      case c3 => unfold maxLen; omega
      case c4 => omega
      case c5 => simp; omega
      intro v' w6 hown hg _
      have O7 := Lib.hid hown
      have T0 := Lib.hid (grow_far O6.out hg (heap_old (heap_old R0.out _) _) (by decide))
      have T1 := Lib.hid (grow_far O6.out hg (heap_old (heap_old R1.out _) _) (by decide))
      have T2 := Lib.hid (grow_far O6.out hg (heap_old (heap_old R2.out _) _) (by decide))
      obtain ⟨A', n', c', rfl⟩ := own_is_slice hown
      have KB := Lib.hid (grow_below (B' := w.heap.size) O6.out hg (by omega) (by simp; omega))
      have c7 := cell_of_row w6 (w.heap.size + 1 + 1) 2 _ _ _ T2.out
      have f7 := frozen_of_row w6 (w.heap.size + 1 + 1) 2 _ _ T2.out
      clear hown hg
      go_wp2_with fail
      go_roundw
      case rel =>
        refine ⟨j + 1, .slice A' n' c', by go_num, by omega, ?_, ?_, ?_, ?_, ?_⟩
        · show _ = _
          rw [heap_setCell_other w6 _ _ _ (by show _ ≠ w.heap.size + 1 + 1; omega)]; exact T0.out
        · show _ = _
          rw [heap_setCell_other w6 _ _ _ (by show _ ≠ w.heap.size + 1 + 1; omega)]; exact T1.out
        · show _ = _
          rw [heap_setCell_same w6 (w.heap.size + 1 + 1) 2 _ _ _ T2.out]; rfl
        · have hl : ((x.sets.take (j + 1)).map (setN n)).flatMap setCs = L ++ [.int .i64 y.reg, .int .i64 (y.val + n)] := by
            rw [take_snoc HY.out, List.map_append, List.flatMap_append, HL.out]; rfl
          show World.ownsRow _ _ _ _ _ _ _
          rw [hl]
          exact own_far O7.out T2.out (by decide) _ _
        · exact Below.set_at (((RF.out.alloc (by omega) _).alloc (by simp; omega) _).trans KB.out) (by omega) _ _
      case measure => simp [RowKit.intOf]; omega
    · obtain rfl : j = x.sets.length := by omega
      have hji : ¬ (x.sets.length : Int) < x.sets.length := by omega
      have TS : Hid (SliceTy wr (w.heap.size + 1) 99 2 SetR sv (x.sets.map (setN n))) := by
        have h1 := OW.out
        rw [take_all_len (Nat.le_refl _)] at h1
        refine sliceTy_of_own (f := setCs) (by decide) (fun _ _ => rfl) (fun y hy => ?_) (by rw [List.length_map]; exact h1)
        obtain ⟨z, hz, rfl⟩ := List.mem_map.1 hy
        obtain ⟨cs, _, hr, _⟩ := HS.out.mem hz
        obtain ⟨h0, h2⟩ := HI.out.1 z hz
        exact ⟨rfl, hr, by unfold wfi setN; dsimp only; omega⟩
      have d3 := cell_of_row wr w.heap.size 3 _ _ _ R0.out
      clear OW hj hlt
      go_wp2_with fail
      clear d3
      obtain ⟨j0, hj0, hj1, hj2, hj3⟩ := info_parts infoMake
      go_loopw [41] (fun i wx => ∃ (j : Nat) (mv : Value) (rows : List (List Value)), i = .int .i64 j ∧ j ≤ x.makes.length ∧ rows.length = j ∧ Hid (wx.heap[w.heap.size]? = some (.cells #[.int .i64 x.at_, .int .i64 x.steps, .slice S x.sets.length cS, .slice M x.makes.length cM] 32 (0, 0))) ∧ Hid (wx.heap[w.heap.size + 1]? = some (.cells #[.int .i64 0, .int .i64 0, .slice none 0 0, .slice none 0 0] 32 (0, 0))) ∧
        Hid (wx.heap[w.heap.size + 1 + 1]? = some (.cells #[.int .i64 x.at_, .int .i64 x.steps, sv, mv] 32 (0, 0))) ∧ Hid (SliceTy wx (w.heap.size + 1) 99 2 SetR sv (x.sets.map (setN n))) ∧ Hid (wx.ownsRow (w.heap.size + 1) 101 4 mv j (rows.flatMap id)) ∧
        Hid (∀ (i : Nat) m, (x.makes.take j)[i]? = some m → ∃ c, rows[i]? = some c ∧ c.length = 4 ∧ MakeT wx (w.heap.size + 1) c (makeN n m)) ∧
        Hid (Below w.heap.size w wx)) (fun i _ => x.makes.length - (RowKit.intOf i).toNat)
      case atStart => exact ⟨0, _, [], rfl, by omega, rfl, R0.out, R1.out, R2.out, TS.out, World.ownsRow_nil _ _ _ _, fun i m hm => by simp at hm, RF.out⟩
      case round =>
        clear R0 R1 R2 TS RF hzr
        obtain ⟨j, mv, rows, rfl, hj, hrl, R0, R1, R2, TS, OM, MS, RF⟩ := hrel
        obtain ⟨wo, hwo⟩ : ∃ wo, wo = wr := ⟨_, rfl⟩
        subst hwo
        have hzr : w.heap.size + 1 + 1 < wo.heap.size := (Array.getElem?_eq_some_iff.1 R2.out).1
        by_cases hlt : j < x.makes.length
        · have hji2 : (j : Int) < x.makes.length := by omega
          obtain ⟨b, off, y, ys, rfl, hb, hy, -, ⟨vv, rfl, hvv, wy1, wy2, wy3⟩, hat⟩ := HM.out.at_ hlt
          have HV := Lib.hid hvv
          obtain ⟨V, cV, rfl, lv1, lv2, -⟩ := hvv
          unfold maxLen at lv2
          have hzb : b < wo.heap.size := Nat.lt_of_lt_of_le hb RF.out.size
          have g0 : wo.cell? ⟨b, off + j * 4, none⟩ = some (.int .i64 y.cell) := (RF.out.cell hb).trans (hat 0 _ rfl)
          have g1 : wo.cell? ⟨b, off + j * 4 + 1, none⟩ = some (.int .i64 y.kind) := (RF.out.cell hb).trans (hat 1 _ rfl)
          have g2 : wo.cell? ⟨b, off + j * 4 + 2, none⟩ = some (.int .i64 y.num) := (RF.out.cell hb).trans (hat 2 _ rfl)
          have g3 : wo.cell? ⟨b, off + j * 4 + 3, none⟩ = some (.slice V y.vals.length cV) := (RF.out.cell hb).trans (hat 3 _ rfl)
          have HY := Lib.hid hy
          have hvl := SM.out.2.2 y (List.mem_of_getElem? hy)
          obtain ⟨⟨hc0, hc1⟩, hvv2⟩ := HI.out.2 y (List.mem_of_getElem? hy)
          have HVB := Lib.hid hvv2
          have WY2 := Lib.hid wy2
          have WY3 := Lib.hid wy3
          obtain ⟨wa, hwa⟩ : ∃ wa, wa = (wo.alloc (.cells #[.int .i64 y.cell, .int .i64 y.kind, .int .i64 y.num, .slice V y.vals.length cV] 101)).alloc (.cells #[.int .i64 (y.cell + n), .int .i64 y.kind, .int .i64 y.num, .slice none 0 0] 101) := ⟨_, rfl⟩
          have KA : Hid (Below wo.heap.size wo wa) := by rw [hwa]; exact below_two' _ _ _
          have A0 : Hid (wa.heap[wo.heap.size]? = some (.cells #[.int .i64 y.cell, .int .i64 y.kind, .int .i64 y.num, .slice V y.vals.length cV] 101 (0, 0))) := by rw [hwa]; exact heap_old (heap_last _ _) _
          have A1 : Hid (wa.heap[wo.heap.size + 1]? = some (.cells #[.int .i64 (y.cell + n), .int .i64 y.kind, .int .i64 y.num, .slice none 0 0] 101 (0, 0))) := by rw [hwa]; exact heap_two _ _ _
          have hza : wo.heap.size + 1 < wa.heap.size := (Array.getElem?_eq_some_iff.1 A1.out).1
          have KI : Hid (Below w.heap.size w wa) := RF.out.trans (KA.out.mono (by omega))
          have HWA := Lib.hid hwa
          clear hwa hat hy wy1 wy2 wy3 hvv2
          go_upto_region 11 with fail
          rw [← HWA.out]
          have c3 := cell_of_row wa wo.heap.size 3 _ _ _ A0.out
          obtain ⟨q0, hq0, hq1, hq2, hq3⟩ := info_parts infoInt
          clear g0 g1 g2 g3
          go_wp2_with fail
          clear c3
          go_loopw [57] (fun i wx => ∃ (q : Nat) (nv : Value), i = .int .i64 q ∧ q ≤ y.vals.length ∧ Hid (wx.heap[wo.heap.size + 1]? = some (.cells #[.int .i64 (y.cell + n), .int .i64 y.kind, .int .i64 y.num, nv] 101 (0, 0))) ∧ Hid (wx.ownsRow wa.heap.size 3 1 nv q (((y.vals.take q).map (· + n)).map (.int .i64))) ∧
              Hid (Fined (wo.heap.size + 1) wa wx)) (fun i _ => y.vals.length - (RowKit.intOf i).toNat)
          case atStart => exact ⟨0, _, rfl, by omega, A1.out, World.ownsRow_nil _ _ _ _, Fined.refl _ _⟩
          case round =>
            obtain ⟨q, nv, rfl, hq, M0, OV, VK⟩ := hrel
            have hzq : wo.heap.size + 1 < wr.heap.size := (Array.getElem?_eq_some_iff.1 M0.out).1
            have hzq2 : wa.heap.size ≤ wr.heap.size := VK.out.size
            have VB : Hid (Below wo.heap.size wo wr) := KA.out.trans (VK.out.under (by omega) (by omega))
            have VF : Hid (Below w.heap.size w wr) := RF.out.trans (VB.out.mono (by omega))
            by_cases hlq : q < y.vals.length
            · obtain ⟨b3, off3, v, vs, rfl, hb3, hv, -, ⟨rfl, wv⟩, hat3⟩ := HV.out.at_ hlq
              have hqi : (q : Int) < y.vals.length := by omega
              have hzb3 : b3 < wr.heap.size := Nat.lt_of_lt_of_le hb3 VF.out.size
              have g0 : wr.cell? ⟨b3, off3 + q, none⟩ = some (.int .i64 v) := (VF.out.cell hb3).trans (by simpa using hat3 0 _ rfl)
              have cw := cell_of_row wr (wo.heap.size + 1) 3 _ _ _ M0.out
              obtain ⟨hv0, hv1⟩ := HVB.out v (List.mem_of_getElem? hv)
              have HVV := Lib.hid hv
              obtain ⟨L, hL⟩ : ∃ L, ((y.vals.take q).map (· + n)).map (Value.int .i64) = L := ⟨_, rfl⟩
              rw [hL] at OV
              have HL := Lib.hid hL
              have O6 : Hid ((wr.alloc (.cells #[.int .i64 (v + n)] 3)).ownsRow wa.heap.size 3 1 nv q L) := OV.out.alloc _
              clear hat3 hv wv hL
              go_wp2_with (at_builtin; refine wpList_append_own _ rfl _ _ 38 rfl wa.heap.size 3 q0 (.int .i64 0) 1 8 Tryd.underlying38 hq0 hq1 hq2 hq3 rfl (by decide) nv q L rfl O6.out ⟨wr.heap.size, 0, none⟩ 1 1 [.int .i64 (v + n)] rfl rfl ?v1 ?v2 ?v3 ?v4 ?v5 ?_)
              case v1 => exact World.news_of_block (cs := #[.int .i64 (v + n)]) (heap_last wr _)
              case v2 => intro u hu; simp at hu; subst hu; rfl
              case v3 => unfold maxLen; omega
              case v4 => omega
              case v5 => simp; omega
              intro v' w6 hown hg _
              have O7 := Lib.hid hown
              have T0 := Lib.hid (grow_far O6.out hg (heap_old M0.out _) (by decide))
              obtain ⟨A', n', c', rfl⟩ := own_is_slice hown
              have KB := Lib.hid (grow_below (B' := wa.heap.size) O6.out hg (by omega) (by simp; omega))
              have c7 := cell_of_row w6 (wo.heap.size + 1) 3 _ _ _ T0.out
              have f7 := frozen_of_row w6 (wo.heap.size + 1) 3 _ _ T0.out
              clear hown hg
              go_wp2_with fail
              go_roundw
              case rel =>
                refine ⟨q + 1, .slice A' n' c', by go_num, by omega, ?_, ?_, ?_⟩
                · show _ = _
                  rw [heap_setCell_same w6 (wo.heap.size + 1) 3 _ _ _ T0.out]; rfl
                · have hl : ((y.vals.take (q + 1)).map (· + n)).map (Value.int .i64) = L ++ [.int .i64 (v + n)] := by
                    rw [take_snoc HVV.out, List.map_append, List.map_append, HL.out]; rfl
                  show World.ownsRow _ _ _ _ _ _ _
                  rw [hl]
                  exact own_far O7.out T0.out (by decide) _ _
                · exact ((VK.out.alloc _).then KB.out).set_ _ _
              case measure => simp [RowKit.intOf]; omega
            · obtain rfl : q = y.vals.length := by omega
              have hqi : ¬ (y.vals.length : Int) < y.vals.length := by omega
              have FW : Hid (Fined w.heap.size wo wr) := Fined.of_below VB.out
              have W0 := Lib.hid ((VB.out.block _ (by omega)).trans R0.out)
              have W1 := Lib.hid ((VB.out.block _ (by omega)).trans R1.out)
              have W2 := Lib.hid ((VB.out.block _ hzr).trans R2.out)
              have WT := Lib.hid (FW.out.ty TS.out (by omega))
              have WO := Lib.hid (FW.out.own OM.out (by omega))
              have HV2 : Hid (MakeT wr (w.heap.size + 1) [.int .i64 (y.cell + n), .int .i64 y.kind, .int .i64 y.num, nv] (makeN n y)) := by
                have h1 := OV.out
                rw [take_all_len (Nat.le_refl _), ← flat_one (Value.int .i64)] at h1
                refine ⟨nv, rfl, ?_, by unfold wfi makeN; dsimp only; omega, WY2.out, WY3.out⟩
                refine SliceTy.more (B := wa.heap.size) ?_ (by omega)
                refine sliceTy_of_own (f := fun x => [Value.int .i64 x]) (by decide) (fun _ _ => rfl) (fun z hz => ?_) (by unfold makeN; dsimp only; rw [List.length_map]; exact h1)
                obtain ⟨u, hu, rfl⟩ := List.mem_map.1 hz
                have := HVB.out u hu
                exact ⟨rfl, by unfold wfi; omega⟩
              obtain ⟨A3, n3, c3, rfl⟩ := own_is_slice OV.out
              have b3 := cell_of_row wr (w.heap.size + 1 + 1) 3 _ _ _ W2.out
              have p0 := cell_of_row wr (wo.heap.size + 1) 0 _ _ _ M0.out
              have p1 := cell_of_row wr (wo.heap.size + 1) 1 _ _ _ M0.out
              have p2 := cell_of_row wr (wo.heap.size + 1) 2 _ _ _ M0.out
              have p3 := cell_of_row wr (wo.heap.size + 1) 3 _ _ _ M0.out
              have O8 : Hid ((wr.alloc (.cells #[.int .i64 (y.cell + n), .int .i64 y.kind, .int .i64 y.num, .slice A3 n3 c3] 101)).ownsRow (w.heap.size + 1) 101 4 mv j (rows.flatMap id)) := WO.out.alloc _
              go_wp2_with (at_builtin; refine wpList_append_own _ rfl _ _ 30 rfl (w.heap.size + 1) 101 j0 (.agg #[.int .i64 0, .int .i64 0, .int .i64 0, .slice none 0 0]) 4 48 Tryd.underlying30 hj0 hj1 hj2 hj3 rfl (by decide) mv j (rows.flatMap id) rfl O8.out ⟨wr.heap.size, 0, none⟩ 1 1 [.int .i64 (y.cell + n), .int .i64 y.kind, .int .i64 y.num, .slice A3 n3 c3] rfl rfl ?k1 ?k2 ?k3 ?k4 ?k5 ?_)
              case k2 => exact ⟨rfl, rfl, rfl, rfl⟩
              case k3 => unfold maxLen; omega
              case k4 => omega
              case k5 => omega
              intro v' w6 hown hg _
              have O9 := Lib.hid hown
              have G0 := Lib.hid (grow_far O8.out hg (heap_old W0.out _) (by decide))
              have G1 := Lib.hid (grow_far O8.out hg (heap_old W1.out _) (by decide))
              have G2 := Lib.hid (grow_far O8.out hg (heap_old W2.out _) (by decide))
              have GT := Lib.hid ((WT.out.below (below_one _ _)).grow O8.out hg (by decide))
              have GM : Hid (∀ (i : Nat) m, (x.makes.take (j + 1))[i]? = some m → ∃ c, (rows ++ [[.int .i64 (y.cell + n), .int .i64 y.kind, .int .i64 y.num, .slice A3 n3 c3]])[i]? = some c ∧ c.length = 4 ∧ MakeT w6 (w.heap.size + 1) c (makeN n m)) := fun i m hm => by
                rw [take_snoc HY.out] at hm
                have hlj : (x.makes.take j).length = j := by rw [List.length_take]; omega
                rcases Nat.lt_or_ge i j with hi | hi
                · rw [List.getElem?_append_left (by omega)] at hm
                  obtain ⟨c, h1, h2, h3⟩ := MS.out i m hm
                  exact ⟨c, by rw [List.getElem?_append_left (by omega)]; exact h1, h2, ((h3.fin FW.out (by omega)).below (below_one _ _)).grow O8.out hg (by decide)⟩
                · rw [List.getElem?_append_right (by omega)] at hm
                  have hi0 : i - (x.makes.take j).length = 0 := by
                    have := (List.getElem?_eq_some_iff.1 hm).1
                    simp only [List.length_cons, List.length_nil] at this; omega
                  rw [hi0] at hm
                  obtain rfl : y = m := by simpa using hm
                  refine ⟨_, ?_, rfl, (HV2.out.below (below_one _ _)).grow O8.out hg (by decide)⟩
                  rw [List.getElem?_append_right (by omega), show i - rows.length = 0 by omega]; rfl
              obtain ⟨A', n', c', rfl⟩ := own_is_slice hown
              have KB := Lib.hid (grow_below (B' := w.heap.size) O8.out hg (by omega) (by simp; omega))
              have c7 := cell_of_row w6 (w.heap.size + 1 + 1) 3 _ _ _ G2.out
              have f7 := frozen_of_row w6 (w.heap.size + 1 + 1) 3 _ _ G2.out
              clear hown hg b3 p0 p1 p2 p3
              go_wp2_with fail
              go_roundw
              case rel =>
                refine ⟨j + 1, .slice A' n' c', rows ++ [[.int .i64 (y.cell + n), .int .i64 y.kind, .int .i64 y.num, .slice A3 n3 c3]], by go_num, by omega, by simp; omega, ?_, ?_, ?_, ?_, ?_, ?_, ?_⟩
                · show _ = _
                  rw [heap_setCell_other w6 _ _ _ (by show _ ≠ w.heap.size + 1 + 1; omega)]; exact G0.out
                · show _ = _
                  rw [heap_setCell_other w6 _ _ _ (by show _ ≠ w.heap.size + 1 + 1; omega)]; exact G1.out
                · show _ = _
                  rw [heap_setCell_same w6 (w.heap.size + 1 + 1) 3 _ _ _ G2.out]; rfl
                · exact GT.out.set_ G2.out (by decide) _ _
                · show World.ownsRow _ _ _ _ _ _ _
                  have e9 : (rows ++ [[Value.int .i64 (y.cell + n), .int .i64 y.kind, .int .i64 y.num, .slice A3 n3 c3]]).flatMap id = rows.flatten ++ [.int .i64 (y.cell + n), .int .i64 y.kind, .int .i64 y.num, .slice A3 n3 c3] := by simp
                  rw [e9]
                  exact own_far O9.out G2.out (by decide) _ _
                · exact fun i m hm => by
                    obtain ⟨c, h1, h2, h3⟩ := GM.out i m hm
                    exact ⟨c, h1, h2, h3.set_ G2.out (by decide) _ _⟩
                · exact Below.set_at ((VF.out.alloc (by omega) _).trans KB.out) (by omega) _ _
              case measure => simp [RowKit.intOf]; omega
        · obtain rfl : j = x.makes.length := by omega
          have hji2 : ¬ (x.makes.length : Int) < x.makes.length := by omega
          obtain ⟨A4, n4, c4, rfl⟩ : ∃ A n c, sv = .slice A n c := by obtain ⟨A, c, e, _⟩ := TS.out; exact ⟨_, _, _, e⟩
          obtain ⟨A5, n5, c5, rfl⟩ := own_is_slice OM.out
          have MT : Hid (SliceTy wo (w.heap.size + 1) 101 4 (MakeT wo (w.heap.size + 1)) (.slice A5 n5 c5) (x.makes.map (makeN n))) := by
            have hm := MS.out
            rw [take_all_len (Nat.le_refl _)] at hm
            have hlen4 : ∀ r ∈ rows, r.length = 4 := fun r hr => by
              obtain ⟨i, hi⟩ := List.getElem?_of_mem hr
              have hil := (List.getElem?_eq_some_iff.1 hi).1
              obtain ⟨c, h1, h2, _⟩ := hm i _ (List.getElem?_eq_getElem (by omega))
              rw [hi] at h1; injection h1 with h1; rw [h1]; exact h2
            refine SliceTy.of_raw (rows := rows) (sliceTy_of_own (f := id) (by decide) hlen4 (fun r hr => ⟨rfl, hlen4 r hr⟩) (by rw [hrl]; exact OM.out)) (by rw [List.length_map]; exact hrl) (fun i m' hm' => ?_)
            rw [List.getElem?_map] at hm'
            obtain ⟨m0, h0, rfl⟩ := Option.map_eq_some_iff.1 hm'
            obtain ⟨c, h1, _, h3⟩ := hm i m0 h0
            exact ⟨c, h1, h3⟩
          have b0 := cell_of_row wo (w.heap.size + 1 + 1) 0 _ _ _ R2.out
          have b1 := cell_of_row wo (w.heap.size + 1 + 1) 1 _ _ _ R2.out
          have b2 := cell_of_row wo (w.heap.size + 1 + 1) 2 _ _ _ R2.out
          have b3 := cell_of_row wo (w.heap.size + 1 + 1) 3 _ _ _ R2.out
          go_wp2_with (refine wpList_store_row rfl 32 _ _ rfl (w.heap.size + 1) #[.int .i64 x.at_, .int .i64 x.steps, .slice A4 n4 c4, .slice A5 n5 c5] rfl rfl 32 _ R1.out infoEx4 rfl (all_oneCell_toArray (by simp [Value.oneCell'])) ?_)
          generalize hw9 : World.setRow _ _ _ = w9
          have QR : Hid (w9.heap[w.heap.size + 1]? = some (.cells #[.int .i64 x.at_, .int .i64 x.steps, .slice A4 n4 c4, .slice A5 n5 c5] 32 (0, 0))) := by rw [← hw9]; exact setRow_heap _ _ _ _ _ _ R1.out
          have QF : Hid (Below w.heap.size w w9) := by rw [← hw9]; exact Below.set_row RF.out (by omega) _
          have QS : Hid (SliceTy w9 (w.heap.size + 1) 99 2 SetR (.slice A4 n4 c4) (x.sets.map (setN n))) := by rw [← hw9]; exact TS.out.set_row R1.out (by decide) _
          have QM : Hid (SliceTy w9 w.heap.size 101 4 (MakeT w9 w.heap.size) (.slice A5 n5 c5) (x.makes.map (makeN n))) := by
            rw [← hw9]
            exact ((MT.out.set_row R1.out (by decide) _).keep (fun _ _ _ _ _ => rfl) (fun _ _ h => (h.set_row R1.out (by decide) _).more (by omega))).more (by omega)
          clear hw9 b0 b1 b2 b3
          go_wp2_with fail
          have r0 := cell_of_row w9 (w.heap.size + 1) 0 _ _ _ QR.out
          have r1 := cell_of_row w9 (w.heap.size + 1) 1 _ _ _ QR.out
          have r2 := cell_of_row w9 (w.heap.size + 1) 2 _ _ _ QR.out
          have r3 := cell_of_row w9 (w.heap.size + 1) 3 _ _ _ QR.out
          refine bodyPost_ret (v := .agg #[.int .i64 x.at_, .int .i64 x.steps, .slice A4 n4 c4, .slice A5 n5 c5]) (by simp [results, Tryd.results85, go_sem, r0, r1, r2, r3]) rfl ⟨_, rfl, ⟨_, _, rfl, QS.out.more (by omega), QM.out, WA.out, WS.out⟩, QF.out⟩
end Go.Proofs.YtmccomeihnaanaaDoor
