/- sink: may. -/
import Derived.Test.YtlnkjmgfkpeicaaGreatDoorSinkF
set_option linter.all false
namespace Go.Proofs.YtlnkjmgfkpeicaaGreatDoor
open Go.RowKit

theorem tail_read {w : World} {B b off cap n : Nat} {x : Int} {l : List Int} (h : SliceR w B 1 IntR (.slice (some ⟨b, off, none⟩) n cap) (x :: l)) :
    SliceR w B 1 IntR (.slice (some ⟨b, if cap = 1 then off else off + 1, none⟩) (n - 1) (cap - 1)) l := by
  obtain ⟨A, cap', e, h1, h2, h3⟩ := h
  injection e with e1 e2 e3
  subst e3; subst e1
  simp only [List.length_cons] at h1 h3 e2
  subst e2
  refine ⟨_, _, by rw [Nat.add_sub_cancel], by omega, by omega, fun hp => ?_⟩
  obtain ⟨b', off', e, hb, hat⟩ := h3 (by omega)
  injection e with e; injection e with e1 e2
  subst e1; subst e2
  rw [if_neg (by omega)]
  refine ⟨b, off + 1, rfl, hb, fun i y hi => ?_⟩
  obtain ⟨cs, c1, c2, c3⟩ := hat (i + 1) y (by simpa using hi)
  exact ⟨cs, c1, c2, by rw [show off + 1 + i * 1 = off + (i + 1) * 1 by omega]; exact c3⟩
def MayPost (B sb mb c : Nat) (kind : Int) (ca : List Value) (t : TTrace) (s : SinkS) (w : World) (e : Ending) (w' : World) : Prop :=
  ∃ (b : Bool) (s' : SinkS), e = .returned (.bool b) ∧ SinkR w' B sb mb c kind ca t s' ∧ SinkTo sb mb w s w' s' ∧ (b = true → ∀ x ∈ t.back.sets, x.val ≠ c)
section
variable {B sb mb c : Nat} {kind : Int} {ca : List Value} {t : TTrace}
theorem SinkR.ends {w : World} {s : SinkS} (h : SinkR w B sb mb c kind ca t s) : ∃ ct cb, (ct.length = 4 ∧ cb.length = 4) ∧ w.rangeAt sb 5 ct ∧ w.rangeAt sb 9 cb ∧ ExitR w B ct t.turn ∧ ExitR w B cb t.back := by
  obtain ⟨i, e, ct, cb, h1, -, -, h4, h5, -⟩ := id h.tr
  have l1 : ct.length = 4 := by obtain ⟨s, m, e, -⟩ := h4; rw [e]; rfl
  have l2 : cb.length = 4 := by obtain ⟨s, m, e, -⟩ := h5; rw [e]; rfl
  refine ⟨ct, cb, ⟨l1, l2⟩, fun k u hu => h.head (5 + k) u ?_, fun k u hu => h.head (9 + k) u ?_, h4, h5⟩
  · have := (List.getElem?_eq_some_iff.1 hu).1
    rw [h1, List.getElem?_append_left (by simp; omega), List.getElem?_append_right (by simp)]
    simpa using hu
  · rw [h1, List.getElem?_append_right (by simp; omega)]
    simp only [List.length_append, List.length_cons, List.length_nil]
    rw [show 9 + k - (0 + 1 + 1 + 1 + 1 + 1 + ct.length) = k by omega]
    exact hu
theorem named_not {x : TExit} (h : sinkNm x c = false) : ∀ s ∈ x.sets, s.val ≠ c := fun s hs e => by
  unfold sinkNm at h
  rw [Bool.or_eq_false_iff] at h
  have := List.any_eq_false.1 h.1 s hs
  simp [e] at this
set_option maxHeartbeats 16000000 in
set_option maxRecDepth 100000 in
theorem may_c (s : SinkS) (w : World) (h : SinkR w B sb mb c kind ca t s) (hf : s.vals.length ≤ 100) (hc : c < t.ins.length) :
    Calls Tryz.prog 20 #[.pointer (some ⟨sb, 0, none⟩)] w (MayPost B sb mb c kind ca t s w) := by
  have hlt := h.lt
  have h300 := h.fit.ins
  have HS := Lib.hid h
  have HF := Lib.hid hf
  obtain ⟨ct, cb, ⟨l1, l2⟩, r1, r2, x1, x2⟩ := h.ends
  have RT : Hid (∀ E : Up w, E.to.rangeAt sb 5 ct) := fun E k u hu => E.cell (r1 k u hu)
  have RB : Hid (∀ E : Up w, E.to.rangeAt sb 9 cb) := fun E k u hu => E.cell (r2 k u hu)
  have LT : Hid ((Tryz.prog.info? 32).map (·.size) = some ct.length) := by rw [l1]; exact infoSinkEx
  have LB : Hid ((Tryz.prog.info? 32).map (·.size) = some cb.length) := by rw [l2]; exact infoSinkEx
  have hBw : B ≤ w.heap.size := Nat.le_trans h.hB (Nat.le_of_lt hlt)
  obtain ⟨n1, hn1⟩ : ∃ b, sinkNm t.turn c = b := ⟨_, rfl⟩
  obtain ⟨n2, hn2⟩ : ∃ b, sinkNm t.back c = b := ⟨_, rfl⟩
  have C1 : Hid (∀ E : Up w, Calls Tryz.prog 32 #[.agg ⟨ct⟩, .int .i64 c] E.to (Gives (.bool n1) E.to)) := fun E => by
    rw [← hn1]
    exact sinkNm_c ct t.turn c E.to (x1.keep (Nat.le_trans hBw E.below.size) (fun _ hp => E.below.cell (Nat.lt_of_lt_of_le hp hBw)))
  have C2 : Hid (∀ E : Up w, Calls Tryz.prog 32 #[.agg ⟨cb⟩, .int .i64 c] E.to (Gives (.bool n2) E.to)) := fun E => by
    rw [← hn2]
    exact sinkNm_c cb t.back c E.to (x2.keep (Nat.le_trans hBw E.below.size) (fun _ hp => E.below.cell (Nat.lt_of_lt_of_le hp hBw)))
  have HN2 := Lib.hid hn2
  have ec : ∀ E : Up w, E.to.cell? ⟨sb, 13, none⟩ = some (.int .i64 c) := fun E => E.cell (h.cellAt (k := 0) rfl)
  clear h hf r1 r2 x1 x2 l1 l2 hn1 hn2 hBw
  go_enter Tryz.func20, Tryz.ntmps20
  go_upto_region 1 with fail
  cases n1
  case true =>
    refine wp_region_up (by kernel_rfl) (by kernel_rfl) ?_
    iterate 4 (go_big_quiet_step (fail))
    (refine wpQuiet_load_up 32 _ rfl rfl sb 5 rfl ct _ RT.out Tryz.underlying32 rfl LT.out ?_; go_simp)
    repeat (go_big_quiet_step ((go_at_call 32; with_reducible exact Calls.up (C1.out _))))
    refine wpQuiet_nil ?_
    (first | rintro _ ⟨E, rfl⟩ | intro E)
    have SE := Lib.hid (HS.out.below E.below)
    have TE : Hid (SinkTo sb mb w s E.to s) := SinkTo.of E.below
    clear ec RT RB LT LB C1 C2
    go_wp2_with fail
    go_ret
    exact ⟨_, s, rfl, SE.out, TE.out, nofun⟩
  cases n2
  case true =>
    refine wp_region_up (by kernel_rfl) (by kernel_rfl) ?_
    iterate 4 (go_big_quiet_step (fail))
    (refine wpQuiet_load_up 32 _ rfl rfl sb 5 rfl ct _ RT.out Tryz.underlying32 rfl LT.out ?_; go_simp)
    iterate 10 (go_big_quiet_step ((go_at_call 32; first | with_reducible exact Calls.up (C1.out _) | with_reducible exact Calls.up (C2.out _))))
    (refine wpQuiet_load_up 32 _ rfl rfl sb 9 rfl cb _ RB.out Tryz.underlying32 rfl LB.out ?_; go_simp)
    repeat (go_big_quiet_step ((go_at_call 32; first | with_reducible exact Calls.up (C1.out _) | with_reducible exact Calls.up (C2.out _))))
    refine wpQuiet_nil ?_
    (first | rintro _ ⟨E, rfl⟩ | intro E)
    have SE := Lib.hid (HS.out.below E.below)
    have TE : Hid (SinkTo sb mb w s E.to s) := SinkTo.of E.below
    clear ec RT RB LT LB C1 C2
    go_wp2_with fail
    go_ret
    exact ⟨_, s, rfl, SE.out, TE.out, nofun⟩
  refine wp_region_up (by kernel_rfl) (by kernel_rfl) ?_
  iterate 4 (go_big_quiet_step (fail))
  (refine wpQuiet_load_up 32 _ rfl rfl sb 5 rfl ct _ RT.out Tryz.underlying32 rfl LT.out ?_; go_simp)
  iterate 10 (go_big_quiet_step ((go_at_call 32; first | with_reducible exact Calls.up (C1.out _) | with_reducible exact Calls.up (C2.out _))))
  (refine wpQuiet_load_up 32 _ rfl rfl sb 9 rfl cb _ RB.out Tryz.underlying32 rfl LB.out ?_; go_simp)
  repeat (go_big_quiet_step ((go_at_call 32; first | with_reducible exact Calls.up (C1.out _) | with_reducible exact Calls.up (C2.out _))))
  refine wpQuiet_nil ?_
  (first | rintro _ ⟨E, rfl⟩ | intro E)
  obtain ⟨w1, k1⟩ := E
  dsimp only
  have S1 := Lib.hid (HS.out.below k1)
  have T1 : Hid (SinkTo sb mb w s w1 s) := SinkTo.of k1
  have e13 : w1.cell? ⟨sb, 13, none⟩ = some (.int .i64 c) := S1.out.cellAt (k := 0) rfl
  have BK : Hid (∀ x ∈ t.back.sets, x.val ≠ (c : Int)) := named_not HN2.out
  clear ec RT RB LT LB C1 C2 k1 HN2
  go_wp2_with fail
  go_loopw [3] (fun i wr => ∃ (j : Nat) (sr : SinkS), i = .int .i64 j ∧ c < j ∧ j ≤ t.ins.length ∧ Hid (SinkR wr B sb mb c kind ca t sr) ∧ Hid (SinkTo sb mb w s wr sr) ∧ Hid (sr.vals.length ≤ 100)) (fun i _ => t.ins.length - (RowKit.intOf i).toNat)
  case atStart => exact ⟨c + 1, s, by go_num, by omega, by omega, S1, T1, HF⟩
  case round =>
    obtain ⟨j, sr, rfl, hcj, hj, SR, TR, FR⟩ := hrel
    obtain ⟨A3, n3, p3, q3⟩ := SR.out.trace.at3
    have e3 : wr.cell? ⟨sb, 3, none⟩ = some (.slice A3 t.ins.length n3) := SR.out.head 3 _ p3
    by_cases hlt2 : j < t.ins.length
    case neg =>
      obtain rfl : j = t.ins.length := by omega
      have hji : ¬ (t.ins.length : Int) < t.ins.length := by omega
      clear p3 q3
      go_wp2_with fail
      go_ret
      exact ⟨_, sr, rfl, SR.out, TR.out, fun _ => BK.out⟩
    -- the round
    have hji : (j : Int) < t.ins.length := by omega
    obtain ⟨b, off, x, cs, rfl, hb, hx, -, ⟨rfl, wx⟩, hat⟩ := q3.at_ hlt2
    obtain ⟨hex, -⟩ := HS.out.fit.ok x (List.mem_of_getElem? hx)
    have RX : Hid (wr.rangeAt b (off + j * 8) [.int .i64 x.op, .int .i64 x.a, .int .i64 x.b, .int .i64 x.c, .int .i64 x.n, .int .i64 x.exit, .int .i64 x.k.kind, .int .i64 x.k.n]) := fun k u hu => hat k u hu
    have HX := Lib.hid hx
    have WX := Lib.hid wx
    have HE := Lib.hid hex
    have hltr := SR.out.lt
    obtain ⟨wo, hwo⟩ : ∃ wo, wo = wr := ⟨_, rfl⟩
    subst hwo
    clear hx wx hex hat p3 q3
    go_upto_region 7 with (first
      | (refine wpList_load_mid rfl 42 _ rfl b (off + j * 8) rfl [.int .i64 x.op, .int .i64 x.a, .int .i64 x.b, .int .i64 x.c, .int .i64 x.n, .int .i64 x.exit, .int .i64 x.k.kind, .int .i64 x.k.n] _ RX.out Tryz.underlying42 rfl infoIns8 ?_)
      | (refine wpList_store_row rfl 42 _ _ rfl wo.heap.size #[.int .i64 x.op, .int .i64 x.a, .int .i64 x.b, .int .i64 x.c, .int .i64 x.n, .int .i64 x.exit, .int .i64 x.k.kind, .int .i64 x.k.n] rfl rfl 42 _ (heap_last wo _) infoIns8 rfl (all_oneCell_toArray (by simp [Value.oneCell'])) ?_)
      | fail)
    generalize hw2 : World.setRow _ _ _ = w2
    have K2 : Hid (Below wo.heap.size wo w2) := by rw [← hw2]; exact below_setRow wo _ _
    have X2 : Hid (w2.heap[wo.heap.size]? = some (.cells ⟨[.int .i64 x.op, .int .i64 x.a, .int .i64 x.b, .int .i64 x.c, .int .i64 x.n, .int .i64 x.exit, .int .i64 x.k.kind, .int .i64 x.k.n]⟩ 42 (0, 0))) := by rw [← hw2]; exact setRow_heap _ _ _ _ _ _ (heap_last wo _)
    have S2 := Lib.hid (SR.out.below K2.out)
    have T2 : Hid (SinkTo sb mb w s w2 sr) := TR.out.trans (SinkTo.of K2.out)
    obtain ⟨xb, hxb⟩ : ∃ xb, xb = wo.heap.size := ⟨_, rfl⟩
    have hsx : sb < xb := by omega
    rw [← hxb] at X2
    rw [← hxb]
    clear hw2 hxb e3 RX K2 SR TR hltr
    have RX2 := Lib.hid (HeadAt.of_row X2.out).range
    have AC := Lib.hid (asks_c x WX.out w2)
    unfold insV at AC
    (try dsimp only [Act.put])
    go_wp2_with (first | (refine wpList_load_mid rfl 42 _ rfl xb 0 rfl [.int .i64 x.op, .int .i64 x.a, .int .i64 x.b, .int .i64 x.c, .int .i64 x.n, .int .i64 x.exit, .int .i64 x.k.kind, .int .i64 x.k.n] _ RX2.out Tryz.underlying42 rfl infoIns8 ?_) | fail)
    refine AC.out.mono ?_
    rintro e w3 ⟨v, rfl, hv, k3⟩
    have S3 := Lib.hid (S2.out.below k3)
    have T3 : Hid (SinkTo sb mb w s w3 sr) := T2.out.trans (SinkTo.of k3)
    have X3 := Lib.hid ((k3.block _ (Array.getElem?_eq_some_iff.1 X2.out).1).trans X2.out)
    have VR := Lib.hid hv
    have IC := Lib.hid (index_c v (asksM x) c w3 hv)
    obtain ⟨Av, cv, rfl, lv1, lv2, -⟩ := hv
    have e13' : w3.cell? ⟨sb, 13, none⟩ = some (.int .i64 c) := S3.out.cellAt (k := 0) rfl
    clear k3 AC RX2 S2 T2 X2
    go_wp2_with fail
    refine IC.out.mono ?_
    rintro e w4 ⟨k, rfl, hk, ⟨hk1, hk2, hk3⟩, k4⟩
    have S4 := Lib.hid (S3.out.below k4)
    have T4 : Hid (SinkTo sb mb w s w4 sr) := T3.out.trans (SinkTo.of k4)
    have X4 := Lib.hid ((k4.block _ (Array.getElem?_eq_some_iff.1 X3.out).1).trans X3.out)
    have V4 := Lib.hid (VR.out.below k4)
    have HK3 := Lib.hid hk3
    have LV := Lib.hid lv1
    clear k4 IC S3 T3 X3 VR e13' hk hk3 lv1
    obtain ⟨lp, hlp⟩ : ∃ lp, t.loop = lp := ⟨_, rfl⟩
    obtain ⟨ot, hot⟩ : ∃ o, (!(decide ((j : Int) < lp) == decide ((c : Int) < lp))) = o := ⟨_, rfl⟩
    have f2 : ∀ E : Up w4, E.to.cell? ⟨sb, 2, none⟩ = some (.int .i64 lp) := fun E => by rw [← hlp]; exact E.cell (S4.out.head 2 _ S4.out.tr.at012.2.2.1)
    have f13 : ∀ E : Up w4, E.to.cell? ⟨sb, 13, none⟩ = some (.int .i64 c) := fun E => E.cell (S4.out.cellAt (k := 0) rfl)
    clear hlp
    go_upto_region 9 with fail
    refine wp_region_up (by kernel_rfl) (by kernel_rfl) ?_
    repeat (go_big_quiet_step (fail))
    refine wpQuiet_nil ?_
    (first | rintro _ ⟨E, rfl⟩ | intro E)
    obtain ⟨w5, k5⟩ := E
    dsimp only
    (try rw [hot])
    have S5 := Lib.hid (S4.out.below k5)
    have T5 : Hid (SinkTo sb mb w s w5 sr) := T4.out.trans (SinkTo.of k5)
    have X5 := Lib.hid ((k5.block _ (Array.getElem?_eq_some_iff.1 X4.out).1).trans X4.out)
    have V5 := Lib.hid (V4.out.below k5)
    clear f2 f13 k5 S4 T4 X4 V4 hot
    have f13 : ∀ E : Up w5, E.to.cell? ⟨sb, 13, none⟩ = some (.int .i64 c) := fun E => E.cell (S5.out.cellAt (k := 0) rfl)
    rcases (by omega : 0 < k ∨ k = 0 ∨ k = -1) with hkp | rfl | rfl
    · go_upto_region 10 with fail
      refine wp_region_up (by kernel_rfl) (by kernel_rfl) ?_
      repeat (go_big_quiet_step (fail))
      refine wpQuiet_nil ?_
      (first | rintro _ ⟨E, rfl⟩ | intro E)
      obtain ⟨w6, k6⟩ := E
      dsimp only
      have S6 := Lib.hid (S5.out.below k6)
      have T6 : Hid (SinkTo sb mb w s w6 sr) := T5.out.trans (SinkTo.of k6)
      have X6 := Lib.hid ((k6.block _ (Array.getElem?_eq_some_iff.1 X5.out).1).trans X5.out)
      clear f13 V5 HK3 k6 S5 T5 X5
      go_wp2_with fail
      go_ret
      exact ⟨_, sr, rfl, S6.out, T6.out, nofun⟩
    · have h0 := HK3.out rfl
      obtain ⟨y, l, hl⟩ : ∃ y l, asksM x = y :: l := by
        cases hq : asksM x with
        | nil => rw [hq] at h0; cases h0
        | cons y l => exact ⟨y, l, rfl⟩
      have N16 : Hid (x.op ≠ 16) := fun e => by
        have : asksM x = [] := by unfold asksM; rw [e]; rfl
        rw [this] at hl; cases hl
      obtain ⟨la, hla⟩ : ∃ n, (asksM x).length = n := ⟨_, rfl⟩
      rw [hla] at V5 LV
      rw [hla]
      have hla1 : 1 ≤ la := by rw [← hla, hl]; simp
      rw [hl] at V5
      clear hla
      obtain ⟨bv, ov, hAv⟩ : ∃ bv ov, Av = some ⟨bv, ov, none⟩ := by
        obtain ⟨A, c1, e, -, -, h3⟩ := V5.out
        injection e with e1 e2 e3
        obtain ⟨b, o, e4, _⟩ := h3 (by simp)
        exact ⟨b, o, e1.trans e4⟩
      subst hAv
      have HT := Lib.hid (tail_read V5.out)
      rw [show (some ⟨bv, if cv = 1 then ov else ov + 1, none⟩ : Option Addr) = if cv = 1 then some ⟨bv, ov, none⟩ else some ⟨bv, ov + 1, none⟩ by split <;> rfl] at HT
      have hle : Hid (la - 1 = l.length) := by
        obtain ⟨A, c1, e, -⟩ := HT.out
        injection e
      obtain ⟨cb2, hcb⟩ : ∃ b, decide ((c : Int) ∈ l) = b := ⟨_, rfl⟩
      have CT : Hid (∀ E : Up w5, Calls Tryz.prog 34 #[.slice (if cv = 1 then some ⟨bv, ov, none⟩ else some ⟨bv, ov + 1, none⟩) (la - 1) (cv - 1), .int .i64 c] E.to (Gives (.bool cb2) E.to)) := fun E => by
        rw [← hcb]
        exact contains_c _ l c E.to (HT.out.below E.below)
      have hlc := LV.out
      clear hcb h0 hl HK3 LV hle
      go_upto_region 10 with fail
      refine wp_region_up (by kernel_rfl) (by kernel_rfl) ?_
      repeat (go_big_quiet_step ((go_at_call 34; with_reducible exact Calls.up (CT.out _))))
      refine wpQuiet_nil ?_
      (first | rintro _ ⟨E, rfl⟩ | intro E)
      obtain ⟨w6, k6⟩ := E
      dsimp only
      have S6 := Lib.hid (S5.out.below k6)
      have T6 : Hid (SinkTo sb mb w s w6 sr) := T5.out.trans (SinkTo.of k6)
      have X6 := Lib.hid ((k6.block _ (Array.getElem?_eq_some_iff.1 X5.out).1).trans X5.out)
      clear f13 V5 CT HT k6 S5 T5 X5
      generalize hAA : (if cv = 1 then (some ⟨bv, ov, none⟩ : Option Addr) else some ⟨bv, ov + 1, none⟩) = AA
      clear hAA
      cases cb2
      case true =>
        go_wp2_with fail
        go_ret
        exact ⟨_, sr, rfl, S6.out, T6.out, nofun⟩
      cases ot
      case true =>
        go_upto_region 12 with fail
        refine wp_region_up (by kernel_rfl) (by kernel_rfl) ?_
        repeat (go_big_quiet_step (fail))
        refine wpQuiet_nil ?_
        (first | rintro _ ⟨E, rfl⟩ | intro E)
        obtain ⟨w7, k7⟩ := E
        dsimp only
        have S7 := Lib.hid (S6.out.below k7)
        have T7 : Hid (SinkTo sb mb w s w7 sr) := T6.out.trans (SinkTo.of k7)
        have X7 := Lib.hid ((k7.block _ (Array.getElem?_eq_some_iff.1 X6.out).1).trans X6.out)
        clear hk1 k7 S6 T6 X6
        go_wp2_with fail
        go_ret
        exact ⟨_, sr, rfl, S7.out, T7.out, nofun⟩
      go_upto_region 12 with fail
      refine wp_region_up (by kernel_rfl) (by kernel_rfl) ?_
      repeat (go_big_quiet_step (fail))
      refine wpQuiet_nil ?_
      (first | rintro _ ⟨E, rfl⟩ | intro E)
      obtain ⟨w7, k7⟩ := E
      dsimp only
      have S7 := Lib.hid (S6.out.below k7)
      have T7 : Hid (SinkTo sb mb w s w7 sr) := T6.out.trans (SinkTo.of k7)
      have X7 := Lib.hid ((k7.block _ (Array.getElem?_eq_some_iff.1 X6.out).1).trans X6.out)
      clear hk1 k7 S6 T6 X6
      have RL := Lib.hid (HeadAt.of_row X7.out).range
      have LC := Lib.hid (left_c x sr w7 S7.out HE.out FR.out)
      unfold insV at LC
      go_wp2_with (first | (refine wpList_load_mid rfl 42 _ rfl xb 0 rfl [.int .i64 x.op, .int .i64 x.a, .int .i64 x.b, .int .i64 x.c, .int .i64 x.n, .int .i64 x.exit, .int .i64 x.k.kind, .int .i64 x.k.n] _ RL.out Tryz.underlying42 rfl infoIns8 ?_) | fail)
      refine LC.out.mono ?_
      rintro e w8 ⟨bb, s6, rfl, g6, h6, i6⟩
      have S8 := Lib.hid g6
      have T8 := Lib.hid (T7.out.trans h6)
      have I6 := Lib.hid i6
      clear RL LC g6 h6 i6 S7 T7 X7
      cases bb
      case false =>
        go_wp2_with fail
        go_ret
        exact ⟨_, s6, rfl, S8.out, T8.out, nofun⟩
      have AK := Lib.hid (ask_c j x s6 w8 S8.out HX.out N16.out (I6.out (by simp)))
      go_wp2_with fail
      refine AK.out.mono ?_
      rintro e w9 ⟨b7, s7, rfl, g7, h7, i7⟩
      have S9 := Lib.hid g7
      have T9 := Lib.hid (T8.out.trans h7)
      have I7 := Lib.hid i7
      clear AK g7 h7 i7 S8 T8
      cases b7
      case false =>
        go_wp2_with fail
        go_ret
        exact ⟨_, s7, rfl, S9.out, T9.out, nofun⟩
      go_wp2_with fail
      go_roundw
      case rel => exact ⟨j + 1, s7, by go_num, by omega, by omega, S9, T9, I7.out (by simp)⟩
      case measure => simp [RowKit.intOf]; omega
    · go_upto_region 10 with fail
      refine wp_region_up (by kernel_rfl) (by kernel_rfl) ?_
      repeat (go_big_quiet_step (fail))
      refine wpQuiet_nil ?_
      (first | rintro _ ⟨E, rfl⟩ | intro E)
      obtain ⟨w6, k6⟩ := E
      dsimp only
      have S6 := Lib.hid (S5.out.below k6)
      have T6 : Hid (SinkTo sb mb w s w6 sr) := T5.out.trans (SinkTo.of k6)
      have X6 := Lib.hid ((k6.block _ (Array.getElem?_eq_some_iff.1 X5.out).1).trans X5.out)
      clear f13 V5 HK3 k6 S5 T5 X5
      cases ot
      case false =>
        go_upto_region 12 with fail
        refine wp_region_up (by kernel_rfl) (by kernel_rfl) ?_
        repeat (go_big_quiet_step (fail))
        refine wpQuiet_nil ?_
        (first | rintro _ ⟨E, rfl⟩ | intro E)
        obtain ⟨w7, k7⟩ := E
        dsimp only
        have S7 := Lib.hid (S6.out.below k7)
        have T7 : Hid (SinkTo sb mb w s w7 sr) := T6.out.trans (SinkTo.of k7)
        have X7 := Lib.hid ((k7.block _ (Array.getElem?_eq_some_iff.1 X6.out).1).trans X6.out)
        clear hk1 k7 S6 T6 X6
        have RL := Lib.hid (HeadAt.of_row X7.out).range
        have LC := Lib.hid (left_c x sr w7 S7.out HE.out FR.out)
        unfold insV at LC
        go_wp2_with (first | (refine wpList_load_mid rfl 42 _ rfl xb 0 rfl [.int .i64 x.op, .int .i64 x.a, .int .i64 x.b, .int .i64 x.c, .int .i64 x.n, .int .i64 x.exit, .int .i64 x.k.kind, .int .i64 x.k.n] _ RL.out Tryz.underlying42 rfl infoIns8 ?_) | fail)
        refine LC.out.mono ?_
        rintro e w8 ⟨bb, s6, rfl, g6, h6, i6⟩
        have S8 := Lib.hid g6
        have T8 := Lib.hid (T7.out.trans h6)
        have I6 := Lib.hid i6
        clear RL LC g6 h6 i6 S7 T7 X7
        cases bb
        case false =>
          go_wp2_with fail
          go_ret
          exact ⟨_, s6, rfl, S8.out, T8.out, nofun⟩
        go_wp2_with fail
        go_roundw
        case rel => exact ⟨j + 1, s6, by go_num, by omega, by omega, S8, T8, I6.out (by simp)⟩
        case measure => simp [RowKit.intOf]; omega
      have x5 : ∀ E : Up w6, E.to.cell? ⟨xb, 5, none⟩ = some (.int .i64 x.exit) := fun E => E.cell (HeadAt.of_row X6.out 5 _ rfl)
      by_cases hneg : x.exit < 0
      · have hnn : ¬ (0 ≤ x.exit) := by omega
        go_upto_region 12 with fail
        refine wp_region_up (by kernel_rfl) (by kernel_rfl) ?_
        repeat (go_big_quiet_step (fail))
        refine wpQuiet_nil ?_
        (first | rintro _ ⟨E, rfl⟩ | intro E)
        obtain ⟨w7, k7⟩ := E
        dsimp only
        have S7 := Lib.hid (S6.out.below k7)
        have T7 : Hid (SinkTo sb mb w s w7 sr) := T6.out.trans (SinkTo.of k7)
        have X7 := Lib.hid ((k7.block _ (Array.getElem?_eq_some_iff.1 X6.out).1).trans X6.out)
        clear x5 hnn k7 S6 T6 X6
        have RL := Lib.hid (HeadAt.of_row X7.out).range
        have LC := Lib.hid (left_c x sr w7 S7.out HE.out FR.out)
        unfold insV at LC
        go_wp2_with (first | (refine wpList_load_mid rfl 42 _ rfl xb 0 rfl [.int .i64 x.op, .int .i64 x.a, .int .i64 x.b, .int .i64 x.c, .int .i64 x.n, .int .i64 x.exit, .int .i64 x.k.kind, .int .i64 x.k.n] _ RL.out Tryz.underlying42 rfl infoIns8 ?_) | fail)
        refine LC.out.mono ?_
        rintro e w8 ⟨bb, s6, rfl, g6, h6, i6⟩
        have S8 := Lib.hid g6
        have T8 := Lib.hid (T7.out.trans h6)
        have I6 := Lib.hid i6
        clear RL LC g6 h6 i6 S7 T7 X7
        cases bb
        case false =>
          go_wp2_with fail
          go_ret
          exact ⟨_, s6, rfl, S8.out, T8.out, nofun⟩
        go_wp2_with fail
        go_roundw
        case rel => exact ⟨j + 1, s6, by go_num, by omega, by omega, S8, T8, I6.out (by simp)⟩
        case measure => simp [RowKit.intOf]; omega
      · obtain ⟨ke, hke⟩ := Int.eq_ofNat_of_zero_le (Int.not_lt.1 hneg)
        have hk : ke < t.exits.length := by have := HE.out; omega
        have hki : (ke : Int) < t.exits.length := by omega
        obtain ⟨Ae, ne, p4, q4⟩ := S6.out.trace.at4
        obtain ⟨be, off4, y, cx, rfl, hbe, hy, -, hR, hat⟩ := q4.at_ hk
        have hl4 : cx.length = 4 := by obtain ⟨s1, m1, e, -⟩ := hR; rw [e]; rfl
        have x5' : ∀ E : Up w6, E.to.cell? ⟨xb, 5, none⟩ = some (.int .i64 (ke : Int)) := fun E => by rw [← hke]; exact x5 E
        have e4 : ∀ E : Up w6, E.to.cell? ⟨sb, 4, none⟩ = some (.slice (some ⟨be, off4, none⟩) t.exits.length ne) := fun E => E.cell (S6.out.head 4 _ p4)
        have f13 : ∀ E : Up w6, E.to.cell? ⟨sb, 13, none⟩ = some (.int .i64 c) := fun E => E.cell (S6.out.cellAt (k := 0) rfl)
        have RY : Hid (∀ E : Up w6, E.to.rangeAt be (off4 + ke * 4) cx) := fun E i u hu => E.cell (hat i u hu)
        have LY : Hid ((Tryz.prog.info? 32).map (·.size) = some cx.length) := by rw [hl4]; exact infoSinkEx
        obtain ⟨nm, hnm⟩ : ∃ nm, sinkNm y c = nm := ⟨_, rfl⟩
        have CN : Hid (∀ E : Up w6, Calls Tryz.prog 32 #[.agg ⟨cx⟩, .int .i64 c] E.to (Gives (.bool nm) E.to)) := fun E => by
          rw [← hnm]
          exact sinkNm_c cx y c E.to (hR.keep E.below.size (fun _ hp => E.below.cell hp))
        clear hR hat hy p4 q4 hnm hl4 hk x5 hke
        go_upto_region 12 with fail
        refine wp_region_up (by kernel_rfl) (by kernel_rfl) ?_
        repeat (first
          | (refine wpQuiet_load_up 32 _ rfl rfl be (off4 + ke * 4) rfl cx _ RY.out Tryz.underlying32 rfl LY.out ?_; go_simp)
          | go_big_quiet_step ((go_at_call 32; with_reducible exact Calls.up (CN.out _))))
        refine wpQuiet_nil ?_
        (first | rintro _ ⟨E, rfl⟩ | intro E)
        obtain ⟨w7, k7⟩ := E
        dsimp only
        have S7 := Lib.hid (S6.out.below k7)
        have T7 : Hid (SinkTo sb mb w s w7 sr) := T6.out.trans (SinkTo.of k7)
        have X7 := Lib.hid ((k7.block _ (Array.getElem?_eq_some_iff.1 X6.out).1).trans X6.out)
        clear x5' e4 f13 RY LY CN k7 S6 T6 X6
        cases nm
        case true =>
          go_wp2_with fail
          go_ret
          exact ⟨_, sr, rfl, S7.out, T7.out, nofun⟩
        have RL := Lib.hid (HeadAt.of_row X7.out).range
        have LC := Lib.hid (left_c x sr w7 S7.out HE.out FR.out)
        unfold insV at LC
        go_wp2_with (first | (refine wpList_load_mid rfl 42 _ rfl xb 0 rfl [.int .i64 x.op, .int .i64 x.a, .int .i64 x.b, .int .i64 x.c, .int .i64 x.n, .int .i64 x.exit, .int .i64 x.k.kind, .int .i64 x.k.n] _ RL.out Tryz.underlying42 rfl infoIns8 ?_) | fail)
        refine LC.out.mono ?_
        rintro e w8 ⟨bb, s6, rfl, g6, h6, i6⟩
        have S8 := Lib.hid g6
        have T8 := Lib.hid (T7.out.trans h6)
        have I6 := Lib.hid i6
        clear RL LC g6 h6 i6 S7 T7 X7
        cases bb
        case false =>
          go_wp2_with fail
          go_ret
          exact ⟨_, s6, rfl, S8.out, T8.out, nofun⟩
        go_wp2_with fail
        go_roundw
        case rel => exact ⟨j + 1, s6, by go_num, by omega, by omega, S8, T8, I6.out (by simp)⟩
        case measure => simp [RowKit.intOf]; omega
    -- its end
end
end Go.Proofs.YtlnkjmgfkpeicaaGreatDoor
