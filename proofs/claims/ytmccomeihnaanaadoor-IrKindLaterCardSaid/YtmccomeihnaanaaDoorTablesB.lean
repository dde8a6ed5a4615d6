/- code.tables: the walk. -/
import Derived.Test.YtmccomeihnaanaaDoorTables
namespace Go.Proofs.YtmccomeihnaanaaDoor
open Go.RowKit Go.Maps Go.WideMaps

theorem mapLaw : Keyed Tryd.prog 9 := string_keyed Tryd.underlying9
theorem zeroInt (w : World) : (zeroValue 3).run Tryd.prog w = .ok (.int .i64 0) w := by kernel_rfl

theorem words_slice (w : World) : SliceR (w.alloc (.cells (wordsM.map Value.string).toArray 9)) (w.heap.size + 1) 1 StrR (.slice (some ⟨w.heap.size, 0, none⟩) 19 19) wordsM := by
  refine ⟨some ⟨w.heap.size, 0, none⟩, 19, by rw [wordsM_len], by rw [wordsM_len]; decide, by decide, fun _ => ⟨w.heap.size, 0, rfl, by omega, fun i x hx => ⟨[.string x], rfl, ⟨rfl, ?_⟩, fun j v hj => ?_⟩⟩⟩
  · have hm := List.mem_of_getElem? hx
    have : wordsM.all (fun t => decide (t.size ≤ 200)) = true := by kernel_rfl
    have := List.all_eq_true.1 this x hm
    simp at this
    unfold maxLen
    omega
  · match j, hj with
    | 0, hj =>
      simp only [List.getElem?_cons_zero, Option.some.injEq] at hj
      subst hj
      rw [one_cell]
      simp [hx]

theorem takes_next {xs : List ByteArray} {k : Nat} {x : ByteArray} (hx : xs[k]? = some x) : xs.take (k + 1) = xs.take k ++ [x] := by rw [List.take_add_one, hx]; rfl
theorem nodup_next {xs : List ByteArray} {k : Nat} {x : ByteArray} (h : (xs.take k).Nodup) (hx : xs[k]? = some x) (hm : x ∉ xs.take k) : (xs.take (k + 1)).Nodup := by
  rw [takes_next hx, List.nodup_append]
  exact ⟨h, by simp, fun a ha b hb => by
    rw [List.mem_singleton] at hb
    subst hb
    exact fun e => hm (e ▸ ha)⟩
theorem nodup_not {xs : List ByteArray} {k : Nat} {x : ByteArray} (hx : xs[k]? = some x) (hm : x ∈ xs.take k) : ¬ xs.Nodup := by
  intro h
  have := (List.take_sublist (k + 1) xs).nodup h
  rw [takes_next hx, List.nodup_append] at this
  exact this.2.2 x hm x (by simp) rfl

set_option maxHeartbeats 4000000 in
set_option maxRecDepth 100000 in
theorem tables_c (pcs : List Value) (p : CProg) (w : World) (hp : ProgR w w.heap.size pcs p) (ht : Tab w) (h200 : p.texts.length ≤ 200) : Calls Tryd.prog 71 #[.agg ⟨pcs⟩] w (Gives (.bool (tablesM p)) w) := by
  obtain ⟨r, hr⟩ : ∃ r, tablesM p = r := ⟨_, rfl⟩
  rw [hr]
  unfold tablesM at hr
  obtain ⟨A1, n1, A2, n2, A3, n3, rfl, q1, q2, q3⟩ := hp
  obtain ⟨w0, hw0⟩ : ∃ w0, w0 = w.alloc (.cells #[.slice A1 p.fns.length n1, .slice A2 p.consts.length n2, .slice A3 p.texts.length n3] 26) := ⟨_, rfl⟩
  have k0 : Hid (Below w.heap.size w w0) := by rw [hw0]; exact below_one w _
  have hz : w.heap.size < w0.heap.size := by rw [hw0]; simp
  have T0 : Hid (Tab w0) := ht.below k0.out
  obtain ⟨w1, hw1⟩ : ∃ w1, w1 = w0.alloc (.cells (wordsM.map Value.string).toArray 9) := ⟨_, rfl⟩
  have k1 : Hid (Below w0.heap.size w0 w1) := by rw [hw1]; exact below_one w0 _
  have k01 : Hid (Below w.heap.size w w1) := k0.out.trans (k1.out.mono k0.out.size)
  have c0 : ∀ i, w1.cell? ⟨w.heap.size, i, none⟩ = (#[.slice A1 p.fns.length n1, .slice A2 p.consts.length n2, .slice A3 p.texts.length n3] : Array Value)[i]? := by rw [hw1, hw0]; exact two_cell0 _ _ _ _
  have d1 : w1.cell? ⟨w.heap.size, 1, none⟩ = some (.slice A2 p.consts.length n2) := c0 1
  have d2 : w1.cell? ⟨w.heap.size, 2, none⟩ = some (.slice A3 p.texts.length n3) := c0 2
  have C0 : Hid (Calls Tryd.prog 105 #[] w0 fun e w' => e = .returned (.slice (some ⟨w0.heap.size, 0, none⟩) 19 19) ∧ w' = w1) := by rw [hw1]; exact words_c w0 T0.out
  have s1 : Hid (SliceR w1 w1.heap.size 1 StrR (.slice (some ⟨w0.heap.size, 0, none⟩) 19 19) wordsM) := by
    have := words_slice w0
    rw [← hw1] at this
    have e : w1.heap.size = w0.heap.size + 1 := by rw [hw1]; simp
    rw [e]; exact this
  have s3 : Hid (SliceR w1 w1.heap.size 1 StrR (.slice A3 p.texts.length n3) p.texts) := q3.below k01.out
  have s2 : Hid (SliceR w1 w1.heap.size 2 ValR (.slice A2 p.consts.length n2) p.consts) := q2.below k01.out
  have D1 := Lib.hid d1
  have D2 := Lib.hid d2
  have HW := Lib.hid hw0
  obtain ⟨l1, l0⟩ : p.texts.length ≤ n3 ∧ n3 ≤ maxLen := (s3.out.len).2
  unfold maxLen at l0
  have hz1 : w.heap.size < w1.heap.size := Nat.lt_of_lt_of_le hz k1.out.size
  clear q1 q2 q3 hw0 hw1 c0 ht d1
  by_cases h19 : p.texts.length < 19
  · have i19 : (p.texts.length : Int) < 19 := by omega
    have HR : Hid (false = r) := by rw [← hr, decide_eq_false (by omega)]; rfl
    clear hr h19
    go_enter Tryd.func71, Tryd.ntmps71
    go_wp2_with fail
    rw [← HW.out]
    refine C0.out.mono ?_
    rintro e w' ⟨rfl, rfl⟩
    go_wp2_with fail
    go_ret
    exact ⟨by rw [← HR.out]; rfl, k01.out⟩
  have i19 : decide ((p.texts.length : Int) < 19) = false := by simp; omega
  rw [decide_eq_true (by omega : 19 ≤ p.texts.length), Bool.true_and] at hr
  have C1 : Hid (Calls Tryd.prog 106 #[.slice A3 19 n3, .slice (some ⟨w0.heap.size, 0, none⟩) 19 19] w1 (Gives (.bool (decide (p.texts.take 19 = wordsM))) w1)) := by
    refine equal_str_c _ _ _ _ w1 ?_ s1.out
    exact s3.out.take (by omega)
  have h19' : 19 ≤ p.texts.length := by omega
  obtain ⟨q, hq⟩ : ∃ q, decide (p.texts.take 19 = wordsM) = q := ⟨_, rfl⟩
  rw [hq] at C1 hr
  clear hq
  cases q
  · have HR : Hid (false = r) := by rw [← hr]; rfl
    clear hr h19
    go_enter Tryd.func71, Tryd.ntmps71
    go_wp2_with fail
    rw [← HW.out]
    refine C0.out.mono ?_
    rintro e w' ⟨rfl, rfl⟩
    go_wp2_with fail
    refine C1.out.mono ?_
    rintro e w2 ⟨rfl, k2⟩
    have K := Lib.hid (k01.out.trans (k2.mono k01.out.size))
    clear k2
    go_wp2_with fail
    go_ret
    exact ⟨by rw [← HR.out]; rfl, K.out⟩
  rw [Bool.true_and] at hr
  have HR := Lib.hid hr
  clear hr h19
  have hmm := @run_makeMap Tryd.prog
  go_enter Tryd.func71, Tryd.ntmps71
  go_wp2_with fail
  rw [← HW.out]
  refine C0.out.mono ?_
  rintro e w' ⟨rfl, rfl⟩
  go_wp2_with fail
  refine C1.out.mono ?_
  rintro e w2 ⟨rfl, k2⟩
  have K := Lib.hid (k01.out.trans (k2.mono k01.out.size))
  have E1 := Lib.hid (cell_on k2 D1.out)
  have E2 := Lib.hid (cell_on k2 D2.out)
  have e1 := E1.out
  have e2 := E2.out
  have S2 := Lib.hid (s2.out.below k2)
  have S3 := Lib.hid (s3.out.below k2)
  have hz2 : w.heap.size < w2.heap.size := Nat.lt_of_lt_of_le hz1 k2.size
  clear k2 d2
  go_wp2_with fail
  go_loopw [28] (fun k wr => ∃ kn : Nat, k = .int .i64 kn ∧ kn ≤ p.texts.length ∧ Hid ((p.texts.take kn).Nodup) ∧ Hid (wr.ownsMap Tryd.prog 9 (plainElem Tryd.prog 3) w2.heap.size kn (seenD (p.texts.take kn))) ∧ Hid (Below w2.heap.size w2 wr)) (fun k _ => p.texts.length - (RowKit.intOf k).toNat)
  case atStart => exact ⟨0, rfl, by omega, by show (p.texts.take 0).Nodup; simp, World.ownsMap_made _ _ _ _, below_one w2 _⟩
  case round =>
    obtain ⟨kn, rfl, hk, KD, KO, KW⟩ := hrel
    clear e1 e2
    by_cases hlt : kn < p.texts.length
    · obtain ⟨b, off, x, cs, rfl, hb, hx0, hcl, hR, hat⟩ := S3.out.at_ hlt
      obtain ⟨rfl, hxs⟩ := hR
      have hi1 : (kn : Int) < p.texts.length := by omega
      have g0 : wr.cell? ⟨b, off + kn, none⟩ = some (.string x) := (KW.out.cell hb).trans (by have := hat 0 _ rfl; simpa using this)
      have HX := Lib.hid hx0
      have hkey := Lib.hid (keyOf_string_mk (P := Tryd.prog) (k := 9) Tryd.underlying9 hxs)
      clear hx0 hat hcl
      by_cases hm : x ∈ p.texts.take kn
      · have HM := Lib.hid (seenD_hit hm)
        have HN : Hid (false = r) := by rw [← HR.out, decide_eq_false (nodup_not HX.out hm)]; rfl
        clear hm
        go_wp2_with (first
          | (at_lookup; refine wpList_lookup_own_int _ rfl _ _ 162 rfl 9 3 .i64 mapLaw Tryd.underlying162 Tryd.underlying3 (zeroInt _) w2.heap.size kn _ rfl KO.out _ _ rfl hkey.out ?_; intro c hc hwc; obtain rfl : c = 1 := lit_inj (hc.symm.trans HM.out); clear hc hwc)
          | fail)
        go_ret
        exact ⟨by rw [← HN.out]; rfl, K.out.trans (KW.out.mono (Nat.le_of_lt hz2))⟩
      · have HM := Lib.hid (seenD_miss hm)
        have HN := Lib.hid hm
        clear hm
        go_wp2_with (first
          | (at_lookup; refine wpList_lookup_own_int _ rfl _ _ 162 rfl 9 3 .i64 mapLaw Tryd.underlying162 Tryd.underlying3 (zeroInt _) w2.heap.size kn _ rfl KO.out _ _ rfl hkey.out ?_; intro c hc hwc; obtain rfl : c = 0 := lit_inj (hc.symm.trans HM.out); clear hc hwc)
          | (at_mapUpdate; refine wpList_mapUpdate_own _ rfl _ _ _ 162 rfl 9 3 mapLaw Tryd.underlying162 _ w2.heap.size kn _ rfl KO.out (by unfold maxLen; omega) _ _ _ rfl rfl hkey.out _ [] (plainElem_int Tryd.underlying3 (by decide)) ?_; intro w3 hown1 hgrow1)
          | fail)
        have R1 : Hid (w3.ownsMap Tryd.prog 9 (plainElem Tryd.prog 3) w2.heap.size (kn + 1) (seenD (p.texts.take (kn + 1)))) := by rw [takes_next HX.out, seenD_snoc]; exact hown1
        have R2 := Lib.hid (KW.out.grown hgrow1 KW.out.size (fun j hj => by cases hj; exact Nat.le_refl _))
        clear hown1 hgrow1 g0
        go_wp2_with fail
        go_roundw
        case rel => exact ⟨kn + 1, by go_num, by omega, nodup_next KD.out HX.out HN.out, R1, R2⟩
        case measure => simp [RowKit.intOf]; omega
    · have hke : kn = p.texts.length := by omega
      have HN : Hid ((!p.consts.any (badC p.texts.length)) = r) := by
        have := KD.out
        rw [hke, List.take_length] at this
        rw [← HR.out, decide_eq_true this, Bool.true_and]
        exact rfl
      have g1 := cell_on KW.out E1.out
      have G2 := Lib.hid (cell_on KW.out E2.out)
      have CF := Lib.hid (containsFunc_vals ValR (badC p.texts.length) A2 n2 p.consts 108 enters_tables1 #[.pointer (some ⟨w.heap.size, 0, none⟩)] wr (S2.out.below KW.out) (fun w4 k4 x cs hx hR => by
        obtain ⟨rfl, -, -⟩ := hR
        exact tables1_c x w.heap.size A3 p.texts.length n3 w4 (cell_on k4 G2.out)))
      have KZ := Lib.hid (K.out.trans (KW.out.mono (Nat.le_of_lt hz2)))
      have hz3 : w.heap.size ≤ wr.heap.size := KZ.out.size
      clear hke
      go_wp2_with fail
      refine CF.out.mono ?_
      rintro e w5 ⟨rfl, k5⟩
      have KY := Lib.hid (KZ.out.trans (k5.mono hz3))
      clear k5 g1
      go_wp2_with fail
      go_ret
      exact ⟨by rw [← HN.out]; rfl, KY.out⟩
end Go.Proofs.YtmccomeihnaanaaDoor
