/- R.Has of ints; R.Names: is a value among those of an exit? -/
import Derived.Test.YtmccomeihnaanaaDoorCutK
import Derived.Test.YtmccomeihnaanaaDoorDeadM
namespace Go.Proofs.YtmccomeihnaanaaDoor
open Go.RowKit

set_option maxHeartbeats 1000000 in
set_option maxRecDepth 100000 in
theorem has_c (v : Value) (xs : List Int) (x : Int) (w : World) (hs : SliceR w w.heap.size 1 IntR v xs) : Calls Tryd.prog 24 #[v, .int .i64 x] w (Gives (.bool (decide (x ∈ xs))) w) := by
  have HS := Lib.hid hs
  obtain ⟨A, cap, rfl, l1, l2, -⟩ := id hs
  unfold maxLen at l2
  clear hs
  go_enter Tryd.func24, Tryd.ntmps24
  go_wp2_with fail
  go_loopw [9] (fun i wr => ∃ j : Nat, i = .int .i64 j ∧ j ≤ xs.length ∧ Hid (x ∉ xs.take j) ∧ Hid (Below w.heap.size w wr)) (fun i _ => xs.length - (RowKit.intOf i).toNat)
  case atStart => exact ⟨0, rfl, by omega, by rw [List.take_zero]; exact List.not_mem_nil, Below.refl _ _⟩
  case round =>
    obtain ⟨j, rfl, hj, KN, KW⟩ := hrel
    by_cases hlt : j < xs.length
    · obtain ⟨b, off, y, ys, rfl, hb, hy, -, ⟨rfl, wy⟩, hat⟩ := HS.out.at_ hlt
      have hji : (j : Int) < xs.length := by omega
      have g0 : wr.cell? ⟨b, off + j, none⟩ = some (.int .i64 y) := (KW.out.cell hb).trans (by simpa using hat 0 _ rfl)
      have HY := Lib.hid hy
      clear hat hy wy
      by_cases c : x = y
      · have HM : Hid (decide (x ∈ xs) = true) := decide_eq_true (by rw [c]; exact List.mem_of_getElem? HY.out)
        have b1 : (x == y) = true := beq_iff_eq.2 c
        go_wp2_with fail
        go_ret
        exact ⟨by rw [HM.out]; rfl, KW.out⟩
      · have b1 : (x == y) = false := beq_eq_false_iff_ne.2 c
        have HN : Hid (x ∉ xs.take (j + 1)) := by
          rw [show Hid _ = (x ∉ xs.take (j + 1)) from rfl, take_snoc HY.out, List.mem_append]
          rintro (h | h)
          · exact KN.out h
          · simp at h; exact c h
        go_wp2_with fail
        go_roundw
        case rel => exact ⟨j + 1, by go_num, by omega, HN.out, KW.out⟩
        case measure => simp [RowKit.intOf]; omega
    · have hji : ¬ (j : Int) < xs.length := by omega
      have HM : Hid (decide (x ∈ xs) = false) := decide_eq_false (by have := KN.out; rwa [List.take_of_length_le (by omega)] at this)
      go_wp2_with fail
      go_ret
      exact ⟨by rw [HM.out]; rfl, KW.out⟩
theorem exitVals_no {x : TExit} {v : Int} (h1 : v ∉ x.sets.map (·.val)) (h2 : v ∉ x.makes.flatMap (fun m => m.cell :: m.vals)) : decide (v ∈ exitVals x) = false := by
  refine decide_eq_false (fun h => ?_)
  rcases List.mem_append.1 h with h | h
  · exact h1 h
  · exact h2 h
set_option maxHeartbeats 2000000 in
set_option maxRecDepth 100000 in
theorem exitNames_c (cs : List Value) (x : TExit) (v : Int) (w : World) (hx : ExitR w w.heap.size cs x) : Calls Tryd.prog 23 #[.agg ⟨cs⟩, .int .i64 v] w (Gives (.bool (decide (v ∈ exitVals x))) w) := by
  obtain ⟨s, m, rfl, hs, hm, wa, ws⟩ := hx
  have HS := Lib.hid hs
  have HM := Lib.hid hm
  obtain ⟨S, cS, rfl, ls1, ls2, -⟩ := hs
  obtain ⟨M, cM, rfl, lm1, lm2, -⟩ := hm
  unfold maxLen at ls2 lm2
  obtain ⟨w1, hw1⟩ : ∃ w1, w1 = w.alloc (.cells #[.int .i64 x.at_, .int .i64 x.steps, .slice S x.sets.length cS, .slice M x.makes.length cM] 32) := ⟨_, rfl⟩
  have K1 : Hid (Below w.heap.size w w1) := by rw [hw1]; exact below_one _ _
  have D0 : Hid (w1.heap[w.heap.size]? = some (.cells #[.int .i64 x.at_, .int .i64 x.steps, .slice S x.sets.length cS, .slice M x.makes.length cM] 32 (0, 0))) := by rw [hw1]; exact heap_last _ _
  have hz1 : w.heap.size < w1.heap.size := (Array.getElem?_eq_some_iff.1 D0.out).1
  have HW := Lib.hid hw1
  clear hw1 wa ws
  go_enter Tryd.func23, Tryd.ntmps23
  go_upto_region 1 with fail
  rw [← HW.out]
  have d2 := cell_of_row w1 w.heap.size 2 _ _ _ D0.out
  go_wp2_with fail
  clear d2
  go_loopw [12] (fun i wr => ∃ j : Nat, i = .int .i64 j ∧ j ≤ x.sets.length ∧ Hid (v ∉ (x.sets.take j).map (·.val)) ∧ Hid (Below w1.heap.size w1 wr)) (fun i _ => x.sets.length - (RowKit.intOf i).toNat)
  case atStart => exact ⟨0, rfl, by omega, by rw [List.take_zero]; exact List.not_mem_nil, Below.refl _ _⟩
  case round =>
    obtain ⟨j, rfl, hj, KN, KW⟩ := hrel
    have KK := Lib.hid (K1.out.trans (KW.out.mono K1.out.size))
    by_cases hlt : j < x.sets.length
    · obtain ⟨b, off, y, ys, rfl, hb, hy, -, ⟨rfl, wy1, wy2⟩, hat⟩ := HS.out.at_ hlt
      have hji : (j : Int) < x.sets.length := by omega
      have g0 : wr.cell? ⟨b, off + j * 2, none⟩ = some (.int .i64 y.reg) := (KK.out.cell hb).trans (hat 0 _ rfl)
      have g1 : wr.cell? ⟨b, off + j * 2 + 1, none⟩ = some (.int .i64 y.val) := (KK.out.cell hb).trans (hat 1 _ rfl)
      have hzb : b < wr.heap.size := Nat.lt_of_lt_of_le hb KK.out.size
      have HY := Lib.hid hy
      clear hat hy wy1 wy2
      by_cases c : y.val = v
      · have HD : Hid (decide (v ∈ exitVals x) = true) := decide_eq_true (List.mem_append_left _ (List.mem_map.2 ⟨y, List.mem_of_getElem? HY.out, c⟩))
        have b1 : (y.val == v) = true := beq_iff_eq.2 c
        go_wp2_with fail
        go_ret
        exact ⟨by rw [HD.out]; rfl, KK.out.alloc KK.out.size _⟩
      · have b1 : (y.val == v) = false := beq_eq_false_iff_ne.2 c
        have HN : Hid (v ∉ (x.sets.take (j + 1)).map (·.val)) := by
          rw [show Hid _ = (v ∉ (x.sets.take (j + 1)).map (·.val)) from rfl, take_snoc HY.out, List.map_append, List.mem_append]
          rintro (h | h)
          · exact KN.out h
          · simp at h; exact c h.symm
        go_wp2_with fail
        go_roundw
        case rel => exact ⟨j + 1, by go_num, by omega, HN.out, KW.out.alloc KW.out.size _⟩
        case measure => simp [RowKit.intOf]; omega
    · have hji : ¬ (j : Int) < x.sets.length := by omega
      have N1 : Hid (v ∉ x.sets.map (·.val)) := by have := KN.out; rwa [List.take_of_length_le (by omega)] at this
      have d3 := cell_on KW.out (cell_of_row w1 w.heap.size 3 _ _ _ D0.out)
      clear KN hj hlt
      go_wp2_with fail
      clear d3
      go_loopw [24] (fun i wx => ∃ j : Nat, i = .int .i64 j ∧ j ≤ x.makes.length ∧ Hid (v ∉ (x.makes.take j).flatMap (fun m => m.cell :: m.vals)) ∧ Hid (Below w1.heap.size w1 wx)) (fun i _ => x.makes.length - (RowKit.intOf i).toNat)
      case atStart => exact ⟨0, rfl, by omega, by rw [List.take_zero]; exact List.not_mem_nil, KW⟩
      case round =>
        clear KW KK hji
        obtain ⟨j, rfl, hj, KN, KW⟩ := hrel
        have KK := Lib.hid (K1.out.trans (KW.out.mono K1.out.size))
        by_cases hlt : j < x.makes.length
        · obtain ⟨b, off, y, ys, rfl, hb, hy, -, ⟨vv, rfl, hvv, wy1, wy2, wy3⟩, hat⟩ := HM.out.at_ hlt
          have HV := Lib.hid hvv
          obtain ⟨V, cV, rfl, lv1, lv2, -⟩ := hvv
          unfold maxLen at lv2
          have hji : (j : Int) < x.makes.length := by omega
          have g0 : wr.cell? ⟨b, off + j * 4, none⟩ = some (.int .i64 y.cell) := (KK.out.cell hb).trans (hat 0 _ rfl)
          have g1 : wr.cell? ⟨b, off + j * 4 + 1, none⟩ = some (.int .i64 y.kind) := (KK.out.cell hb).trans (hat 1 _ rfl)
          have g2 : wr.cell? ⟨b, off + j * 4 + 2, none⟩ = some (.int .i64 y.num) := (KK.out.cell hb).trans (hat 2 _ rfl)
          have g3 : wr.cell? ⟨b, off + j * 4 + 3, none⟩ = some (.slice V y.vals.length cV) := (KK.out.cell hb).trans (hat 3 _ rfl)
          have hzb : b < wr.heap.size := Nat.lt_of_lt_of_le hb KK.out.size
          have HY := Lib.hid hy
          obtain ⟨wa, hwa⟩ : ∃ wa, wa = wr.alloc (.cells #[.int .i64 y.cell, .int .i64 y.kind, .int .i64 y.num, .slice V y.vals.length cV] 101) := ⟨_, rfl⟩
          have KA := Lib.hid (show Below w.heap.size w wa by rw [hwa]; exact KK.out.alloc KK.out.size _)
          have KB := Lib.hid (show Below w1.heap.size w1 wa by rw [hwa]; exact KW.out.alloc KW.out.size _)
          have HC := Lib.hid (has_c (.slice V y.vals.length cV) y.vals v wa (HV.out.keep KA.out.size (fun _ hp => KA.out.cell hp) (fun _ _ h => h)))
          have HWA := Lib.hid hwa
          have HIN : Hid ((y.cell = v ∨ v ∈ y.vals) → decide (v ∈ exitVals x) = true) := fun h => decide_eq_true (List.mem_append_right _ (List.mem_flatMap.2 ⟨y, List.mem_of_getElem? HY.out, by
            rcases h with h | h
            · rw [h]; exact List.mem_cons_self
            · exact List.mem_cons_of_mem _ h⟩))
          clear hat hy wy1 wy2 wy3 hwa
          by_cases c : y.cell = v
          · have HD := Lib.hid (HIN.out (.inl c))
            have b1 : (y.cell == v) = true := beq_iff_eq.2 c
            clear HC
            go_wp2_with fail
            go_ret
            exact ⟨by rw [HD.out]; rfl, KK.out.alloc KK.out.size _⟩
          · have b1 : (y.cell == v) = false := beq_eq_false_iff_ne.2 c
            obtain ⟨r, hr⟩ : ∃ r, decide (v ∈ y.vals) = r := ⟨_, rfl⟩
            rw [hr] at HC
            have HR := Lib.hid hr
            clear hr
            go_wp2_with fail
            rw [← HWA.out]
            refine HC.out.mono ?_
            rintro e w5 ⟨rfl, k5⟩
            have K5 := Lib.hid (KA.out.trans (k5.mono KA.out.size))
            have K6 := Lib.hid (KB.out.trans (k5.mono KB.out.size))
            clear k5
            cases r
            · have HN : Hid (v ∉ (x.makes.take (j + 1)).flatMap (fun m => m.cell :: m.vals)) := by
                rw [show Hid _ = (v ∉ (x.makes.take (j + 1)).flatMap (fun m => m.cell :: m.vals)) from rfl, take_snoc HY.out, List.flatMap_append, List.mem_append]
                rintro (h | h)
                · exact KN.out h
                · simp at h
                  rcases h with h | h
                  · exact c h.symm
                  · exact (of_decide_eq_false HR.out) h
              go_wp2_with fail
              go_roundw
              case rel => exact ⟨j + 1, by go_num, by omega, HN.out, K6.out⟩
              case measure => simp [RowKit.intOf]; omega
            · have HD := Lib.hid (HIN.out (.inr (of_decide_eq_true HR.out)))
              go_wp2_with fail
              go_ret
              exact ⟨by rw [HD.out]; rfl, K5.out⟩
        · have hji : ¬ (j : Int) < x.makes.length := by omega
          have HD : Hid (decide (v ∈ exitVals x) = false) := exitVals_no N1.out (by have := KN.out; rwa [List.take_of_length_le (by omega)] at this)
          go_wp2_with fail
          go_ret
          exact ⟨by rw [HD.out]; rfl, KK.out⟩
end Go.Proofs.YtmccomeihnaanaaDoor
