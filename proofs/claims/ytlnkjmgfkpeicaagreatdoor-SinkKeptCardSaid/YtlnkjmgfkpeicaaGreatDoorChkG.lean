/- ir.Check: the walk. -/
import Derived.Test.YtlnkjmgfkpeicaaGreatDoorChkF
import Derived.Test.YtlnkjmgfkpeicaaGreatDoorKindP
import Derived.Test.YtlnkjmgfkpeicaaGreatDoorComm
set_option linter.all false
namespace Go.Proofs.YtlnkjmgfkpeicaaGreatDoor
open Go.RowKit

theorem infoFn : (Tryz.prog.info? 57).map (·.size) = some 5 := by kernel_rfl
theorem infoProg : (Tryz.prog.info? 26).map (·.size) = some 3 := by kernel_rfl
theorem ProgR.size3 {w : World} {B : Nat} {cs : List Value} {p : CProg} (h : ProgR w B cs p) : (Tryz.prog.info? 26).map (·.size) = some cs.length := by
  obtain ⟨A, n, C, m, D, k, rfl, -⟩ := h
  exact infoProg
theorem ProgR.at0 {w : World} {B : Nat} {cs : List Value} {p : CProg} (h : ProgR w B cs p) : ∃ A n, cs[0]? = some (.slice A p.fns.length n) ∧ SliceR w B 5 (FnR w B) (.slice A p.fns.length n) p.fns := by
  obtain ⟨A, n, C, m, D, k, rfl, h, -⟩ := h
  exact ⟨A, n, rfl, h⟩
theorem ProgR.below {w w' : World} {cs : List Value} {p : CProg} (h : ProgR w w.heap.size cs p) (k : Below w.heap.size w w') : ProgR w' w'.heap.size cs p := h.keep k.size (fun _ h => k.cell h)

theorem TraceR.at510 {w : World} {B : Nat} {cs : List Value} {t : TTrace} (h : TraceR w B cs t) : ∃ ct cb, (∀ i v, ct[i]? = some v → cs[5 + i]? = some v) ∧ (∀ i v, cb[i]? = some v → cs[9 + i]? = some v) ∧ ExitR w B ct t.turn ∧ ExitR w B cb t.back := by
  obtain ⟨i, e, ct, cb, rfl, -, -, ht, hb, -⟩ := h
  have l1 : ct.length = 4 := by obtain ⟨_, _, rfl, -⟩ := ht; rfl
  refine ⟨ct, cb, fun i v hv => ?_, fun i v hv => ?_, ht, hb⟩
  · have hi := (List.getElem?_eq_some_iff.1 hv).1
    rw [List.append_assoc, List.getElem?_append_right (by simp), show 5 + i - ([.int .i64 t.fn, .int .i64 t.at_, .int .i64 t.loop, _, _] : List Value).length = i by simp, List.getElem?_append_left (by omega)]
    exact hv
  · rw [List.getElem?_append_right (by simp; omega)]
    simp only [List.length_append, List.length_cons, List.length_nil, l1]
    rw [show 9 + i - (0 + 1 + 1 + 1 + 1 + 1 + 4) = i by omega]
    exact hv

set_option maxHeartbeats 8000000 in
set_option maxRecDepth 100000 in
theorem check_c (pcs ca : List Value) (p : CProg) (t : TTrace) (w : World) (hp : ProgR w w.heap.size pcs p) (ht : TraceR w w.heap.size ca t) (tab : Tab w) :
    Calls Tryz.prog 6 #[.agg ⟨pcs⟩, .agg ⟨ca⟩] w (Gives (.int .i64 (checkM rightV (codeCheckM p) (p.fns.map fnOf) t)) w) := by
  obtain ⟨r, hr⟩ : ∃ r, checkM rightV (codeCheckM p) (p.fns.map fnOf) t = r := ⟨_, rfl⟩
  rw [hr]
  unfold checkM at hr
  have HP := Lib.hid hp
  have HT := Lib.hid ht
  have HIp := Lib.hid hp.size3
  have HIt := Lib.hid ht.size13
  obtain ⟨Af, nf, pf, qf⟩ := hp.at0
  obtain ⟨Ai, ni, p3, qi⟩ := ht.at3
  obtain ⟨Ae, ne, p4, qe⟩ := ht.at4
  obtain ⟨p0, p1, p2, wf0, wf1, wf2⟩ := ht.at012
  have lf := len_le qf
  have li := len_le qi
  have le := len_le qe
  have QF := Lib.hid qf
  have QI := Lib.hid qi
  have QE := Lib.hid qe
  have P0 := Lib.hid p0
  have P1 := Lib.hid p1
  have P2 := Lib.hid p2
  have P3 := Lib.hid p3
  have P4 := Lib.hid p4
  have PF := Lib.hid pf
  have hpz : pcs.length = 3 := by obtain ⟨_, _, _, _, _, _, rfl, -⟩ := hp; rfl
  have htz : ca.length = 13 := by obtain ⟨_, _, _, _, rfl, -, -, ⟨_, _, rfl, -⟩, ⟨_, _, rfl, -⟩, -⟩ := ht; rfl
  have HPZ := Lib.hid hpz
  have HTZ := Lib.hid htz
  obtain ⟨ce, hce⟩ : ∃ ce, codeCheckM p = ce := ⟨_, rfl⟩
  rw [hce] at hr
  obtain ⟨w0, hw0⟩ : ∃ w0, w0 = (w.alloc (.cells ⟨pcs⟩ 26)).alloc (.cells ⟨ca⟩ 34) := ⟨_, rfl⟩
  have TB := two_box w pcs ca 26 34
  rw [← hw0] at TB
  obtain ⟨t1, t2, t3⟩ := TB
  have H1 := Lib.hid t1
  have H2 := Lib.hid t2
  have K0 := Lib.hid t3
  have HW := Lib.hid hw0
  have R1 := Lib.hid H1.out.range
  have CE := Lib.hid (codeCheck_c pcs p w0 (hp.below K0.out) (tab.below K0.out))
  rw [hce] at CE
  clear hp ht hw0 t1 t2 t3 qf qi qe hce pf p3 p4 p0 p1 p2 hpz htz
  go_enter Tryz.func6, Tryz.ntmps6
  go_wp2_with (first | (refine wpList_load_mid rfl 26 _ rfl w.heap.size 0 rfl pcs _ (by rw [← HW.out]; exact R1.out) Tryz.underlying26 rfl HIp.out ?_) | fail)
  rw [← HW.out]
  refine CE.out.mono ?_
  rintro e w1 ⟨rfl, k1⟩
  have K1 := Lib.hid (K0.out.trans (k1.mono K0.out.size))
  have G1 := Lib.hid (H1.out.on k1)
  have G2 := Lib.hid (H2.out.on k1)
  clear k1
  by_cases hc : ce = 0
  case neg =>
    rw [if_pos hc] at hr
    have hc' : (ce != 0) = true := by simpa using hc
    have HR := Lib.hid hr
    clear hr
    go_wp2_with fail
    go_ret
    exact ⟨by rw [← HR.out]; first | done | rfl, K1.out⟩
  rw [if_neg (by simp [hc])] at hr
  subst hc
  have e3 := G2.out 3 _ P3.out
  have e4 := G2.out 4 _ P4.out
  by_cases l1 : 300 < t.ins.length
  · have l1' : (300 : Int) < t.ins.length := by omega
    rw [if_pos (.inl l1)] at hr
    have HR := Lib.hid hr
    clear hr
    go_wp2_with fail
    go_ret
    exact ⟨by rw [← HR.out]; first | done | rfl, K1.out⟩
  have l1' : ¬ (300 : Int) < t.ins.length := by omega
  by_cases l2 : 200 < t.exits.length
  · have l2' : (200 : Int) < t.exits.length := by omega
    rw [if_pos (.inr l2)] at hr
    have HR := Lib.hid hr
    clear hr
    go_wp2_with fail
    go_ret
    exact ⟨by rw [← HR.out]; first | done | rfl, K1.out⟩
  have l2' : ¬ (200 : Int) < t.exits.length := by omega
  rw [if_neg (by omega)] at hr
  clear li le
  have l1i : (t.ins.length : Int) ≤ 300 := by omega
  have l2i : (t.exits.length : Int) ≤ 200 := by omega
  go_upto_region 6 with fail
  have a0 : ∀ E : Up w1, E.to.cell? ⟨w.heap.size + 1, 0, none⟩ = some (.int .i64 t.fn) := fun E => E.cell (G2.out 0 _ P0.out)
  have a1 : ∀ E : Up w1, E.to.cell? ⟨w.heap.size + 1, 1, none⟩ = some (.int .i64 t.at_) := fun E => E.cell (G2.out 1 _ P1.out)
  have a2 : ∀ E : Up w1, E.to.cell? ⟨w.heap.size + 1, 2, none⟩ = some (.int .i64 t.loop) := fun E => E.cell (G2.out 2 _ P2.out)
  have a3 : ∀ E : Up w1, E.to.cell? ⟨w.heap.size + 1, 3, none⟩ = some (.slice Ai t.ins.length ni) := fun E => E.cell (G2.out 3 _ P3.out)
  have b0 : ∀ E : Up w1, E.to.cell? ⟨w.heap.size, 0, none⟩ = some (.slice Af p.fns.length nf) := fun E => E.cell (G1.out 0 _ PF.out)
  clear e3 e4
  by_cases f0 : t.fn < 0
  · rw [if_pos f0] at hr
    dsimp only at hr
    have f0' : decide (t.fn < 0) = true := decide_eq_true f0
    have HR := Lib.hid hr
    clear hr
    refine wp_region_up (by kernel_rfl) (by kernel_rfl) ?_
    repeat (go_big_quiet_step (fail))
    refine wpQuiet_nil ?_
    intro w2 hE
    obtain ⟨E, rfl⟩ := hE
    obtain ⟨w2, k2⟩ := E
    have K2 := Lib.hid (K1.out.trans (k2.mono K1.out.size))
    dsimp only
    clear k2
    go_wp2_with fail
    go_ret
    exact ⟨by rw [← HR.out]; first | done | rfl, K2.out⟩
  rw [if_neg f0] at hr
  obtain ⟨k, hk⟩ := Int.eq_ofNat_of_zero_le (Int.not_lt.1 f0)
  rw [hk, Int.toNat_natCast] at hr
  have f0' : decide ((k : Int) < 0) = false := decide_eq_false (by omega)
  rw [hk] at a0
  have HKF := Lib.hid hk
  clear hk f0
  by_cases f1 : p.fns.length ≤ k
  · rw [List.getElem?_eq_none (by simpa using f1)] at hr
    dsimp only at hr
    have f1' : (p.fns.length : Int) ≤ k := by omega
    have f1'' : decide ((p.fns.length : Int) ≤ (k : Int)) = true := decide_eq_true f1'
    have f1n : decide (p.fns.length ≤ k) = true := decide_eq_true f1
    have HR := Lib.hid hr
    clear hr
    refine wp_region_up (by kernel_rfl) (by kernel_rfl) ?_
    repeat (go_big_quiet_step (fail))
    refine wpQuiet_nil ?_
    intro w2 hE
    obtain ⟨E, rfl⟩ := hE
    obtain ⟨w2, k2⟩ := E
    have K2 := Lib.hid (K1.out.trans (k2.mono K1.out.size))
    dsimp only
    clear k2
    go_wp2_with fail
    go_ret
    exact ⟨by rw [← HR.out]; first | done | rfl, K2.out⟩
  obtain ⟨b, off, f, fcs, rfl, hb, hf, hfl, hFR, hat⟩ := QF.out.at_ (i := k) (by omega)
  rw [List.getElem?_map, hf] at hr
  dsimp only [Option.map_some, fnOf] at hr
  obtain ⟨A4, n4, A5, n5, hfcs, -, q5, -⟩ := id hFR
  have l5 := len_le q5
  have RF : Hid (w1.rangeAt b (off + k * 5) fcs) := fun j v hj => (K1.out.cell hb).trans (hat j v hj)
  have e4 : fcs[4]? = some (.slice A5 f.code.length n5) := by rw [hfcs]; rfl
  have FR := Lib.hid hFR
  have c4 : ∀ E : Up w1, E.to.cell? ⟨b, off + k * 5 + 4, none⟩ = some (.slice A5 f.code.length n5) := fun E => E.cell (RF.out 4 _ e4)
  have f1' : (k : Int) < p.fns.length := by omega
  have f1'' : decide ((p.fns.length : Int) ≤ (k : Int)) = false := decide_eq_false (by omega)
  have f1n : decide (p.fns.length ≤ k) = false := decide_eq_false f1
  clear q5 hFR hat hfcs e4 f1
  by_cases g1 : t.at_ < 0
  · rw [if_pos (.inl g1)] at hr
    have g1' : decide (t.at_ < 0) = true := decide_eq_true g1
    have HR := Lib.hid hr
    clear hr
    refine wp_region_up (by kernel_rfl) (by kernel_rfl) ?_
    repeat (go_big_quiet_step (fail))
    refine wpQuiet_nil ?_
    intro w2 hE
    obtain ⟨E, rfl⟩ := hE
    obtain ⟨w2, k2⟩ := E
    have K2 := Lib.hid (K1.out.trans (k2.mono K1.out.size))
    dsimp only
    clear k2
    go_wp2_with fail
    go_ret
    exact ⟨by rw [← HR.out]; first | done | rfl, K2.out⟩
  have g1' : decide (t.at_ < 0) = false := decide_eq_false g1
  by_cases g2 : (f.code.length : Int) ≤ t.at_
  · rw [if_pos (.inr (.inl g2))] at hr
    have g2' : decide ((f.code.length : Int) ≤ t.at_) = true := decide_eq_true g2
    have HR := Lib.hid hr
    clear hr
    refine wp_region_up (by kernel_rfl) (by kernel_rfl) ?_
    repeat (go_big_quiet_step (fail))
    refine wpQuiet_nil ?_
    intro w2 hE
    obtain ⟨E, rfl⟩ := hE
    obtain ⟨w2, k2⟩ := E
    have K2 := Lib.hid (K1.out.trans (k2.mono K1.out.size))
    dsimp only
    clear k2
    go_wp2_with fail
    go_ret
    exact ⟨by rw [← HR.out]; first | done | rfl, K2.out⟩
  have g2' : decide ((f.code.length : Int) ≤ t.at_) = false := decide_eq_false g2
  by_cases g3 : t.loop < 0
  · rw [if_pos (.inr (.inr (.inl g3)))] at hr
    have g3' : decide (t.loop < 0) = true := decide_eq_true g3
    have HR := Lib.hid hr
    clear hr
    refine wp_region_up (by kernel_rfl) (by kernel_rfl) ?_
    repeat (go_big_quiet_step (fail))
    refine wpQuiet_nil ?_
    intro w2 hE
    obtain ⟨E, rfl⟩ := hE
    obtain ⟨w2, k2⟩ := E
    have K2 := Lib.hid (K1.out.trans (k2.mono K1.out.size))
    dsimp only
    clear k2
    go_wp2_with fail
    go_ret
    exact ⟨by rw [← HR.out]; first | done | rfl, K2.out⟩
  have g3' : decide (t.loop < 0) = false := decide_eq_false g3
  by_cases g4 : (t.ins.length : Int) < t.loop
  · rw [if_pos (.inr (.inr (.inr g4)))] at hr
    have g4' : decide ((t.ins.length : Int) < t.loop) = true := decide_eq_true g4
    have HR := Lib.hid hr
    clear hr
    refine wp_region_up (by kernel_rfl) (by kernel_rfl) ?_
    repeat (go_big_quiet_step (fail))
    refine wpQuiet_nil ?_
    intro w2 hE
    obtain ⟨E, rfl⟩ := hE
    obtain ⟨w2, k2⟩ := E
    have K2 := Lib.hid (K1.out.trans (k2.mono K1.out.size))
    dsimp only
    clear k2
    go_wp2_with fail
    go_ret
    exact ⟨by rw [← HR.out]; first | done | rfl, K2.out⟩
  have g4' : decide ((t.ins.length : Int) < t.loop) = false := decide_eq_false g4
  rw [if_neg (by omega)] at hr
  refine wp_region_up (by kernel_rfl) (by kernel_rfl) ?_
  repeat (go_big_quiet_step (fail))
  refine wpQuiet_nil ?_
  intro w2 hE
  obtain ⟨E, rfl⟩ := hE
  obtain ⟨w2, k2⟩ := E
  have K2 := Lib.hid (K1.out.trans (k2.mono K1.out.size))
  have D1 := Lib.hid (G1.out.on k2)
  have D2 := Lib.hid (G2.out.on k2)
  have RF2 : Hid (w2.rangeAt b (off + k * 5) fcs) := fun j v hj => (k2.cell (Nat.lt_of_lt_of_le hb K1.out.size)).trans (RF.out j v hj)
  dsimp only
  clear k2 a0 a1 a2 a3 b0 c4 G1 G2 RF
  go_upto_region 8 with fail
  go_cut [6] (fun s6 wx => ∃ g : Nat, s6 = .pointer (some ⟨g, 0, none⟩) ∧ w2.heap.size ≤ g ∧ Hid (HeadAt wx g (fcs ++ ca)) ∧ Hid (Below w2.heap.size w2 wx))
  case first =>
    obtain ⟨A4, n4, A5', n5', rfl, -⟩ := FR.out
    obtain ⟨fi, fe, ct, cb, rfl, -, -, ⟨s1, m1, rfl, ⟨S1, n1, rfl, -⟩, ⟨M1, o1, rfl, -⟩, -⟩, ⟨s2, m2, rfl, ⟨S2, n2, rfl, -⟩, ⟨M2, o2, rfl, -⟩, -⟩, -⟩ := HT.out
    obtain rfl : fi = .slice Ai t.ins.length ni := by have := P3.out; injection this
    obtain rfl : fe = .slice Ae t.exits.length ne := by have := P4.out; injection this
    have RA : Hid (∀ E : Up w2, E.to.rangeAt (w.heap.size + 1) 0 ([.int .i64 t.fn, .int .i64 t.at_, .int .i64 t.loop, .slice Ai t.ins.length ni, .slice Ae t.exits.length ne] ++ [.int .i64 t.turn.at_, .int .i64 t.turn.steps, .slice S1 t.turn.sets.length n1, .slice M1 t.turn.makes.length o1] ++ [.int .i64 t.back.at_, .int .i64 t.back.steps, .slice S2 t.back.sets.length n2, .slice M2 t.back.makes.length o2])) := fun E => (D2.out.on E.below).range
    have RB : Hid (∀ E : Up w2, E.to.rangeAt b (off + k * 5) [.int .i64 f.params, .int .i64 f.regs, .bool f.gen, .slice A4 f.caught.length n4, .slice A5' f.code.length n5']) := fun E j v hj => E.cell (RF2.out j v hj)
    have a0 : ∀ E : Up w2, E.to.cell? ⟨w.heap.size + 1, 0, none⟩ = some (.int .i64 k) := fun E => E.cell (by have := D2.out 0 _ rfl; rw [HKF.out] at this; exact this)
    have b0 : ∀ E : Up w2, E.to.cell? ⟨w.heap.size, 0, none⟩ = some (.slice (some ⟨b, off, none⟩) p.fns.length nf) := fun E => E.cell (D1.out 0 _ PF.out)
    have LA : Hid ((Tryz.prog.info? 34).map (·.size) = some 13) := infoTrace
    have LF : Hid ((Tryz.prog.info? 57).map (·.size) = some 5) := infoFn
    refine wp_region_first (fun w' => ∃ E : Up w2, w' = E.to) 8 [8, 9] [8] (by kernel_rfl) (by decide) (by kernel_rfl) (fun _ _ d _ _ h => by cases d <;> exact h) ⟨⟨_, (Below.refl _ w2).drew⟩, rfl⟩ ?_
    simp only [List.take_succ_cons, List.take_zero]
    generalize hqq : (fun a' => wpMs _ _ _ _ _ _ a' _) = qq
    have HQQ := Lib.hid hqq
    clear hqq
    repeat (first
      | (refine wpQuiet_load_up 34 _ rfl rfl (w.heap.size + 1) 0 rfl _ _ RA.out Tryz.underlying34 rfl LA.out ?_; go_simp)
      | (refine wpQuiet_load_up 57 _ rfl rfl b (off + k * 5) rfl _ _ RB.out Tryz.underlying57 rfl LF.out ?_; go_simp)
      | go_big_quiet_step (fail))
    refine wpQuiet_nil ?_
    rw [← HQQ.out]
    refine wpMs_step rfl (fun K hK => ?_)
    go_simp
    refine hK _ _ (fun _ => ⟨⟨_, ((Below.refl _ w2).alloc (Nat.le_refl _) _).drew⟩, rfl⟩) ?_
    clear hK K
    refine wpMs_list [9] _ _ (by kernel_rfl) (by kernel_rfl) ?_
    simp only [List.filterMap_cons, List.filterMap_nil, List.getElem?_toArray, List.getElem?_cons_zero, List.getElem?_cons_succ]
    have TH : (w2.alloc (.cells #[.int .i64 0, .int .i64 0, .bool false, .slice none 0 0, .slice none 0 0, .int .i64 0, .int .i64 0, .int .i64 0, .slice none 0 0, .slice none 0 0, .int .i64 0, .int .i64 0, .slice none 0 0, .slice none 0 0, .int .i64 0, .int .i64 0, .slice none 0 0, .slice none 0 0] 59)).drew.there w2.heap.size 0 18 := there_of_row (heap_new _ _) (by decide)
    refine wpList_store_mid rfl 59 _ _ rfl w2.heap.size 0 _ rfl rfl TH infoCheck (all_oneCell_toArray (by simp [Value.oneCell'])) ?_
    have RW := World.rangeAt_setCells_same _ _ _ ([.int .i64 f.params, .int .i64 f.regs, .bool f.gen, .slice A4 f.caught.length n4, .slice A5' f.code.length n5', .int .i64 t.fn, .int .i64 t.at_, .int .i64 t.loop, .slice Ai t.ins.length ni, .slice Ae t.exits.length ne, .int .i64 t.turn.at_, .int .i64 t.turn.steps, .slice S1 t.turn.sets.length n1, .slice M1 t.turn.makes.length o1, .int .i64 t.back.at_, .int .i64 t.back.steps, .slice S2 t.back.sets.length n2, .slice M2 t.back.makes.length o2] : List Value) TH
    have KW := Below.setCells_ (B := w2.heap.size) (Nat.le_refl _) ([.int .i64 f.params, .int .i64 f.regs, .bool f.gen, .slice A4 f.caught.length n4, .slice A5' f.code.length n5', .int .i64 t.fn, .int .i64 t.at_, .int .i64 t.loop, .slice Ai t.ins.length ni, .slice Ae t.exits.length ne, .int .i64 t.turn.at_, .int .i64 t.turn.steps, .slice S1 t.turn.sets.length n1, .slice M1 t.turn.makes.length o1, .int .i64 t.back.at_, .int .i64 t.back.steps, .slice S2 t.back.sets.length n2, .slice M2 t.back.makes.length o2] : List Value) 0 _ ((below_one w2 (.cells #[.int .i64 0, .int .i64 0, .bool false, .slice none 0 0, .slice none 0 0, .int .i64 0, .int .i64 0, .int .i64 0, .slice none 0 0, .slice none 0 0, .int .i64 0, .int .i64 0, .slice none 0 0, .slice none 0 0, .int .i64 0, .int .i64 0, .slice none 0 0, .slice none 0 0] 59)).drew)
    generalize hw9 : World.setCells _ _ _ _ = w9
    have RW := Lib.hid (show w9.rangeAt w2.heap.size 0 _ by rw [← hw9]; exact RW)
    have KW := Lib.hid (show Below w2.heap.size w2 w9 by rw [← hw9]; exact KW)
    clear hw9
    go_wp2_with fail
    go_meet
    case rel => exact ⟨w2.heap.size, rfl, Nat.le_refl _, fun j v hj => by have := RW.out j v hj; rw [Nat.zero_add] at this; exact this, KW.out⟩
  case rest =>
    obtain ⟨w3, hw3⟩ : ∃ w3, w3 = wc := ⟨_, rfl⟩
    subst hw3
    obtain ⟨g, rfl, hg, HC, K3⟩ := hcut
    have KK := Lib.hid (K2.out.trans (K3.out.mono K2.out.size))
    have CR : Hid (CheckR w3 w3.heap.size (fcs ++ ca) f t) := ⟨fcs, ca, rfl, FR.out.keep KK.out.size (fun _ h => KK.out.cell h), HT.out.below KK.out⟩
    have HI := Lib.hid CR.out.len
    have F2 := Lib.hid (D2.out.on K3.out)
    have hz : g < w3.heap.size := by
      obtain ⟨_, _, _, _, hfc, -⟩ := FR.out
      refine cell_lt (HC.out 0 (.int .i64 f.params) ?_)
      rw [hfc]; rfl
    have hz2 : w.heap.size + 1 < w3.heap.size := cell_lt (F2.out 0 _ P0.out)
    clear hg
    have e3 := F2.out 3 _ P3.out
    go_wp2_with fail
    clear e3
    obtain ⟨e0, he0⟩ : ∃ e0, insM rightV (fnOf f) t 0 t.ins = e0 := ⟨_, rfl⟩
    have hr1 : (if e0 ≠ 0 then e0 else if (t.loop = 0 ∧ bareM t.turn = false) ∨ (0 < t.loop ∧ (t.turn.at_ ≠ t.at_ ∨ rightM (fnOf f) t.ins t.turn t.loop = false)) then 3 else
      if t.back.at_ ≠ t.at_ ∨ rightM (fnOf f) t.ins t.back t.ins.length = false then 3 else if t.exits.all (rightM (fnOf f) t.ins · t.ins.length) then 0 else 3) = r := by rw [← hr, ← he0]; rfl
    have HR := Lib.hid hr1
    have HE0 := Lib.hid he0
    clear hr hr1 he0
    go_loopw [83] (fun i wr => ∃ j : Nat, i = .int .i64 j ∧ j ≤ t.ins.length ∧ Hid (insM rightV (fnOf f) t j (t.ins.drop j) = e0) ∧ Hid (Below w3.heap.size w3 wr)) (fun i _ => t.ins.length - (RowKit.intOf i).toNat)
    case atStart => exact ⟨0, rfl, by omega, HE0.out, Below.refl _ _⟩
    case round =>
      obtain ⟨j, rfl, hj, KP, KW⟩ := hrel
      have kk := Lib.hid (KK.out.trans (KW.out.mono KK.out.size))
      by_cases hlt : j < t.ins.length
      · obtain ⟨b', off', y, rfl, hb', hy, wy, hat'⟩ := ins_op QI.out hlt
        obtain ⟨g0, g1, g2, g3, g4, g5, g6, g7⟩ := ins_at hat' hb' kk.out
        have hji : (j : Int) < t.ins.length := by omega
        have e := KP.out
        rw [drop_at hy] at e
        have E : Hid ((if !isOp y.op then 7 else if !formedM rightV (fnOf f) t y j then 3 else insM rightV (fnOf f) t (j + 1) (t.ins.drop (j + 1))) = e0) := by rw [← e]; rfl
        have hzr : g < wr.heap.size := Nat.lt_of_lt_of_le hz KW.out.size
        have HCr := Lib.hid (HC.out.on KW.out)
        have WY := Lib.hid wy
        obtain ⟨wa, hwa⟩ : ∃ wa, wa = wr.alloc (.cells ⟨insCells y⟩ 42) := ⟨_, rfl⟩
        have KA : Hid (Below wr.heap.size wr wa) := by rw [hwa]; exact below_one _ _
        have YA : Hid (HeadAt wa wr.heap.size (insCells y)) := by rw [hwa]; exact HeadAt.box _ _ _
        have HWA := Lib.hid hwa
        have hza : wr.heap.size < wa.heap.size := by rw [hwa]; simp
        unfold insCells at HWA
        clear hat' hy e hwa
        go_wp2_with fail
        rw [← HWA.out]
        refine (of_c y.op wa).mono ?_
        rintro e w4 ⟨rfl, k4⟩
        have K4 := Lib.hid (KA.out.trans (k4.mono KA.out.size))
        have YB := Lib.hid (YA.out.on k4)
        obtain ⟨is, his⟩ : ∃ is, isOp y.op = is := ⟨_, rfl⟩
        have E1 := E.out
        rw [his] at E1 ⊢
        have HCs := Lib.hid ((HCr.out.on KA.out).on k4)
        have hz4 : wr.heap.size < w4.heap.size := Nat.lt_of_lt_of_le hza k4.size
        have hg4 : g < w4.heap.size := by omega
        have y0 := YB.out 0 _ rfl
        have y1 := YB.out 1 _ rfl
        have y2 := YB.out 2 _ rfl
        have y3 := YB.out 3 _ rfl
        have y4 := YB.out 4 _ rfl
        have y5 := YB.out 5 _ rfl
        have y6 := YB.out 6 _ rfl
        have y7 := YB.out 7 _ rfl
        clear his g0 g1 g2 g3 g4 g5 g6 g7 k4
        unfold formV
        have KB : Hid (Below w4.heap.size w4 (w4.alloc (.cells #[.int .i64 (formM y.op).asks, .int .i64 (formM y.op).low, .int .i64 (formM y.op).high, .bool (formM y.op).k, .bool (formM y.op).tells, .int .i64 (formM y.op).exit] 61))) := below_one _ _
        cases is
        case false =>
          have E2 : Hid (7 = e0) := by rw [← E1]; exact rfl
          have HN : Hid (7 = r) := by
            have e := HR.out
            rw [← E2.out, if_pos (by decide)] at e
            exact e
          clear E1
          go_wp2_with fail
          go_ret
          exact ⟨by rw [← HN.out]; first | done | rfl, kk.out.trans ((K4.out.trans (KB.out.mono K4.out.size)).mono kk.out.size)⟩
        have E2 : Hid ((if !formedM rightV (fnOf f) t y j then 3 else insM rightV (fnOf f) t (j + 1) (t.ins.drop (j + 1))) = e0) := by rw [← E1]; exact rfl
        clear E1
        have KD := Lib.hid (KW.out.trans ((K4.out.trans (KB.out.mono K4.out.size)).mono KW.out.size))
        have FC := Lib.hid (formed_c (fcs ++ ca) f t y j _ (CR.out.below KD.out) WY.out)
        unfold formV insV at FC
        obtain ⟨fo, hfo⟩ : ∃ fo, formedM rightV (fnOf f) t y j = fo := ⟨_, rfl⟩
        have E3 := E2.out
        rw [hfo] at E3 FC
        have HCb := Lib.hid (HCs.out.on KB.out)
        clear hfo E2
        go_wp2_with (refine wpList_load_mid rfl 59 _ rfl g 0 rfl (fcs ++ ca) _ HCb.out.range Tryz.underlying59 rfl HI.out ?_)
        refine FC.out.mono ?_
        rintro e w5 ⟨rfl, k5⟩
        have KE := Lib.hid (KD.out.trans (k5.mono KD.out.size))
        clear k5 y0 y1 y2 y3 y4 y5 y6 y7
        cases fo
        case false =>
          have E4 : Hid (3 = e0) := by rw [← E3]; exact rfl
          have HN : Hid (3 = r) := by
            have e := HR.out
            rw [← E4.out, if_pos (by decide)] at e
            exact e
          clear E3
          go_wp2_with fail
          go_ret
          exact ⟨by rw [← HN.out]; first | done | rfl, KK.out.trans (KE.out.mono KK.out.size)⟩
        have E4 : Hid (insM rightV (fnOf f) t (j + 1) (t.ins.drop (j + 1)) = e0) := by rw [← E3]; exact rfl
        clear E3
        go_wp2_with fail
        go_roundw
        case rel => exact ⟨j + 1, by go_num, by omega, E4.out, KE.out⟩
        case measure => simp [RowKit.intOf]; omega
      · have hd : t.ins.drop j = [] := List.drop_eq_nil_of_le (by omega)
        have e := KP.out
        rw [hd] at e
        have e00 : e0 = 0 := by rw [← e]; rfl
        have hji : ¬ (j : Int) < t.ins.length := by omega
        have e := HR.out
        rw [if_neg (by rw [e00]; simp)] at e
        have HR1 := Lib.hid e
        have F2r := Lib.hid (F2.out.on KW.out)
        have HCr := Lib.hid (HC.out.on KW.out)
        have hzr : g < wr.heap.size := Nat.lt_of_lt_of_le hz KW.out.size
        have hzr2 : w.heap.size + 1 < wr.heap.size := Nat.lt_of_lt_of_le hz2 KW.out.size
        obtain ⟨ct, cb, p5, p10, xt, xb⟩ := HT.out.at510
        have XT := Lib.hid xt
        have XB := Lib.hid xb
        have P5 := Lib.hid p5
        have P10 := Lib.hid p10
        clear e e00 hd KP hlt hj HE0 p5 p10 xt xb
        have kw := Lib.hid (KK.out.trans (KW.out.mono KK.out.size))
        have LT : Hid ((Tryz.prog.info? 32).map (·.size) = some ct.length) := by obtain ⟨_, _, rfl, -⟩ := XT.out; exact infoExit
        have LB : Hid ((Tryz.prog.info? 32).map (·.size) = some cb.length) := by obtain ⟨_, _, rfl, -⟩ := XB.out; exact infoExit
        -- the part ahead's end
        obtain ⟨bt, hbt⟩ : ∃ b, (decide (t.loop = 0) && !bareM t.turn) = b := ⟨_, rfl⟩
        obtain ⟨bu, hbu⟩ : ∃ b, (decide (0 < t.loop) && (t.turn.at_ != t.at_ || !rightM (fnOf f) t.ins t.turn t.loop)) = b := ⟨_, rfl⟩
        obtain ⟨bv, hbv⟩ : ∃ b, (t.back.at_ != t.at_ || !rightM (fnOf f) t.ins t.back t.ins.length) = b := ⟨_, rfl⟩
        have HR2 : Hid ((if bt = true then 3 else if bu = true then 3 else if bv = true then 3 else if t.exits.all (rightM (fnOf f) t.ins · t.ins.length) then 0 else 3) = r) := by
          rw [← HR1.out, ← hbt, ← hbu, ← hbv]
          cases bareM t.turn <;> cases rightM (fnOf f) t.ins t.turn t.loop <;> cases rightM (fnOf f) t.ins t.back t.ins.length <;> by_cases c1 : t.loop = 0 <;> by_cases c2 : 0 < t.loop <;> by_cases c3 : t.turn.at_ = t.at_ <;> by_cases c4 : t.back.at_ = t.at_ <;> simp [c1, c2, c3, c4, Hid]
        have HBT := Lib.hid hbt
        have HBU := Lib.hid hbu
        have HBV := Lib.hid hbv
        clear hbt hbu hbv HR1
        go_upto_region 18 with fail
        go_cut [103] (fun c wx => c = .bool bt ∧ Hid (Below wr.heap.size wr wx))
        case first =>
          have e2 := F2r.out 2 _ P2.out
          have RT : Hid (wr.rangeAt (w.heap.size + 1) 5 ct) := fun a v hv => F2r.out _ _ (P5.out a v hv)
          have BC := Lib.hid (bare_c ct t.turn wr w.heap.size w XT.out)
          obtain ⟨q, hq⟩ : ∃ q, bareM t.turn = q := ⟨_, rfl⟩
          have e := HBT.out
          rw [hq] at BC e
          have E := Lib.hid e
          clear hq e
          by_cases c : t.loop = 0
          · have e := E.out
            rw [decide_eq_true c, Bool.true_and] at e
            have E := Lib.hid e
            rw [c] at e2
            clear e c
            go_wp2_with (refine wpList_load_on 32 _ rfl rfl (w.heap.size + 1) 5 rfl ct _ RT.out Tryz.underlying32 rfl LT.out ?_)
            refine BC.out.mono ?_
            rintro e w5 ⟨rfl, k5⟩
            have K5 := Lib.hid k5
            clear k5 e2
            go_wp2_with fail
            go_meet
            case rel => exact ⟨by rw [← E.out]; first | done | rfl, K5.out⟩
          · have c' : (t.loop == 0) = false := beq_eq_false_iff_ne.2 c
            have e := E.out
            rw [decide_eq_false c, Bool.false_and] at e
            have E := Lib.hid e
            clear e
            go_wp2_with fail
            go_meet
            case rel => exact ⟨by rw [← E.out]; first | done | rfl, Below.refl _ _⟩
        case rest =>
        obtain ⟨wa, hwa⟩ : ∃ wa, wa = wc := ⟨_, rfl⟩
        subst hwa
        obtain ⟨rfl, ka⟩ := hcut
        have KA := Lib.hid (kw.out.trans (ka.out.mono kw.out.size))
        have F3 := Lib.hid (F2r.out.on ka.out)
        have HC3 := Lib.hid (HCr.out.on ka.out)
        have hza : g < wa.heap.size := Nat.lt_of_lt_of_le hzr ka.out.size
        have hza2 : w.heap.size + 1 < wa.heap.size := Nat.lt_of_lt_of_le hzr2 ka.out.size
        have KC := Lib.hid (KW.out.trans (ka.out.mono KW.out.size))
        cases bt
        case true =>
          have HN : Hid (3 = r) := by rw [← HR2.out]; rfl
          go_wp2_with fail
          go_ret
          exact ⟨by rw [← HN.out]; first | done | rfl, KA.out⟩
        go_upto_region 19 with fail
        go_cut [103] (fun c wx => c = .bool bu ∧ Hid (Below wa.heap.size wa wx))
        case first =>
          have e2 := F3.out 2 _ P2.out
          have e1 := F3.out 1 _ P1.out
          have RT : Hid (wa.rangeAt (w.heap.size + 1) 5 ct) := fun a v hv => F3.out _ _ (P5.out a v hv)
          have e5 : wa.cell? ⟨w.heap.size + 1, 5, none⟩ = some (.int .i64 t.turn.at_) := by
            obtain ⟨_, _, hct, -⟩ := XT.out
            exact RT.out 0 _ (by rw [hct]; rfl)
          have BC := Lib.hid (right_e (fcs ++ ca) ct f t t.turn t.loop wa (CR.out.below KC.out) (XT.out.keep KA.out.size (fun _ h => KA.out.cell h)))
          obtain ⟨q, hq⟩ : ∃ q, rightM (fnOf f) t.ins t.turn t.loop = q := ⟨_, rfl⟩
          have e := HBU.out
          rw [hq] at BC e
          have E := Lib.hid e
          clear hq e
          by_cases c : 0 < t.loop
          · have e := E.out
            rw [decide_eq_true c, Bool.true_and] at e
            have E := Lib.hid e
            have c' : decide (0 < t.loop) = true := decide_eq_true c
            clear e
            by_cases d : t.turn.at_ = t.at_
            · have d' : (t.turn.at_ != t.at_) = false := by simp [d]
              have e := E.out
              rw [d', Bool.false_or] at e
              have E := Lib.hid e
              rw [d] at e5
              clear e d d'
              go_wp2_with (first | (refine wpList_load_on 59 _ rfl rfl g 0 rfl (fcs ++ ca) _ HC3.out.range Tryz.underlying59 rfl HI.out ?_) | (refine wpList_load_on 32 _ rfl rfl (w.heap.size + 1) 5 rfl ct _ RT.out Tryz.underlying32 rfl LT.out ?_))
              refine BC.out.mono ?_
              rintro e w5 ⟨rfl, k5⟩
              have K5 := Lib.hid k5
              clear k5 e2 e1 e5
              go_wp2_with fail
              go_meet
              case rel => exact ⟨by rw [← E.out]; first | done | rfl, K5.out⟩
            · have d' : (t.turn.at_ != t.at_) = true := by simp [d]
              have e := E.out
              rw [d', Bool.true_or] at e
              have E := Lib.hid e
              clear e
              go_wp2_with fail
              go_meet
              case rel => exact ⟨by rw [← E.out]; first | done | rfl, Below.refl _ _⟩
          · have c' : decide (0 < t.loop) = false := decide_eq_false c
            have e := E.out
            rw [c', Bool.false_and] at e
            have E := Lib.hid e
            clear e
            go_wp2_with fail
            go_meet
            case rel => exact ⟨by rw [← E.out]; first | done | rfl, Below.refl _ _⟩
        case rest =>
        obtain ⟨wb, hwb⟩ : ∃ wb, wb = wc := ⟨_, rfl⟩
        subst hwb
        obtain ⟨rfl, kb⟩ := hcut
        have KB := Lib.hid (KA.out.trans (kb.out.mono KA.out.size))
        have F4 := Lib.hid (F3.out.on kb.out)
        have HC4 := Lib.hid (HC3.out.on kb.out)
        have hzb : g < wb.heap.size := Nat.lt_of_lt_of_le hza kb.out.size
        have hzb2 : w.heap.size + 1 < wb.heap.size := Nat.lt_of_lt_of_le hza2 kb.out.size
        have KD := Lib.hid (KC.out.trans (kb.out.mono KC.out.size))
        cases bu
        case true =>
          have HN : Hid (3 = r) := by rw [← HR2.out]; rfl
          go_wp2_with fail
          go_ret
          exact ⟨by rw [← HN.out]; first | done | rfl, KB.out⟩
        go_upto_region 21 with fail
        go_cut [133] (fun c wx => c = .bool bv ∧ Hid (Below wb.heap.size wb wx))
        case first =>
          have e3 := F4.out 3 _ P3.out
          have e1 := F4.out 1 _ P1.out
          have RT : Hid (wb.rangeAt (w.heap.size + 1) 9 cb) := fun a v hv => F4.out _ _ (P10.out a v hv)
          have e9 : wb.cell? ⟨w.heap.size + 1, 9, none⟩ = some (.int .i64 t.back.at_) := by
            obtain ⟨_, _, hct, -⟩ := XB.out
            exact RT.out 0 _ (by rw [hct]; rfl)
          have BC := Lib.hid (right_e (fcs ++ ca) cb f t t.back t.ins.length wb (CR.out.below KD.out) (XB.out.keep KB.out.size (fun _ h => KB.out.cell h)))
          obtain ⟨q, hq⟩ : ∃ q, rightM (fnOf f) t.ins t.back t.ins.length = q := ⟨_, rfl⟩
          have e := HBV.out
          rw [hq] at BC e
          have E := Lib.hid e
          clear hq e
          by_cases d : t.back.at_ = t.at_
          · have d' : (t.back.at_ != t.at_) = false := by simp [d]
            have e := E.out
            rw [d', Bool.false_or] at e
            have E := Lib.hid e
            rw [d] at e9
            clear e d d'
            go_wp2_with (first | (refine wpList_load_on 59 _ rfl rfl g 0 rfl (fcs ++ ca) _ HC4.out.range Tryz.underlying59 rfl HI.out ?_) | (refine wpList_load_on 32 _ rfl rfl (w.heap.size + 1) 9 rfl cb _ RT.out Tryz.underlying32 rfl LB.out ?_))
            refine BC.out.mono ?_
            rintro e w5 ⟨rfl, k5⟩
            have K5 := Lib.hid k5
            clear k5 e3 e1 e9
            go_wp2_with fail
            go_meet
            case rel => exact ⟨by rw [← E.out]; first | done | rfl, K5.out⟩
          · have d' : (t.back.at_ != t.at_) = true := by simp [d]
            have e := E.out
            rw [d', Bool.true_or] at e
            have E := Lib.hid e
            clear e
            go_wp2_with fail
            go_meet
            case rel => exact ⟨by rw [← E.out]; first | done | rfl, Below.refl _ _⟩
        case rest =>
        obtain ⟨wd, hwd⟩ : ∃ wd, wd = wc := ⟨_, rfl⟩
        subst hwd
        obtain ⟨rfl, kd⟩ := hcut
        have KE := Lib.hid (KB.out.trans (kd.out.mono KB.out.size))
        have F5 := Lib.hid (F4.out.on kd.out)
        have HC5 := Lib.hid (HC4.out.on kd.out)
        have hzd : g < wd.heap.size := Nat.lt_of_lt_of_le hzb kd.out.size
        have hzd2 : w.heap.size + 1 < wd.heap.size := Nat.lt_of_lt_of_le hzb2 kd.out.size
        have KF := Lib.hid (KD.out.trans (kd.out.mono KD.out.size))
        cases bv
        case true =>
          have HN : Hid (3 = r) := by rw [← HR2.out]; rfl
          go_wp2_with fail
          go_ret
          exact ⟨by rw [← HN.out]; first | done | rfl, KE.out⟩
        have HR3 : Hid ((if t.exits.all (rightM (fnOf f) t.ins · t.ins.length) then 0 else 3) = r) := by rw [← HR2.out]; rfl
        have e4 := F5.out 4 _ P4.out
        go_wp2_with fail
        clear e4
        go_loopw [153] (fun i wx => ∃ j : Nat, i = .int .i64 j ∧ j ≤ t.exits.length ∧ Hid (∀ i x, i < j → t.exits[i]? = some x → rightM (fnOf f) t.ins x t.ins.length = true) ∧ Hid (Below wd.heap.size wd wx)) (fun i _ => t.exits.length - (RowKit.intOf i).toNat)
        case atStart => exact ⟨0, rfl, by omega, fun i x hi _ => by omega, Below.refl _ _⟩
        case round =>
          obtain ⟨j, rfl, hj, KP, KX⟩ := hrel
          have kx := Lib.hid (KE.out.trans (KX.out.mono KE.out.size))
          have KG := Lib.hid (KF.out.trans (KX.out.mono KF.out.size))
          have F6 := Lib.hid (F5.out.on KX.out)
          have HC6 := Lib.hid (HC5.out.on KX.out)
          have hzx : g < wr.heap.size := Nat.lt_of_lt_of_le hzd KX.out.size
          have hzx2 : w.heap.size + 1 < wr.heap.size := Nat.lt_of_lt_of_le hzd2 KX.out.size
          by_cases hlt : j < t.exits.length
          · obtain ⟨b', off', y, ys, rfl, hb', hy, hyl, hR, hat'⟩ := QE.out.at_ hlt
            have hji : (j : Int) < t.exits.length := by omega
            have HY := Lib.hid hR
            obtain ⟨s1, m1, rfl, ⟨S1, n1, rfl, -⟩, ⟨M1, o1, rfl, -⟩, -⟩ := hR
            have RY : Hid (wr.rangeAt b' (off' + j * 4) [.int .i64 y.at_, .int .i64 y.steps, .slice S1 y.sets.length n1, .slice M1 y.makes.length o1]) := fun a v hv => (kx.out.cell hb').trans (hat' a v hv)
            have g0 : wr.cell? ⟨b', off' + j * 4, none⟩ = some (.int .i64 y.at_) := RY.out 0 _ rfl
            have g1 : wr.cell? ⟨b', off' + j * 4 + 1, none⟩ = some (.int .i64 y.steps) := RY.out 1 _ rfl
            have g2 : wr.cell? ⟨b', off' + j * 4 + 2, none⟩ = some (.slice S1 y.sets.length n1) := RY.out 2 _ rfl
            have g3 : wr.cell? ⟨b', off' + j * 4 + 3, none⟩ = some (.slice M1 y.makes.length o1) := RY.out 3 _ rfl
            have HX := Lib.hid hy
            have KY : Hid (Below wr.heap.size wr (wr.alloc (.cells #[.int .i64 y.at_, .int .i64 y.steps, .slice S1 y.sets.length n1, .slice M1 y.makes.length o1] 32))) := below_one _ _
            have KZ := Lib.hid (kx.out.trans (KY.out.mono kx.out.size))
            have BC := Lib.hid (right_e (fcs ++ ca) _ f t y t.ins.length (wr.alloc (.cells #[.int .i64 y.at_, .int .i64 y.steps, .slice S1 y.sets.length n1, .slice M1 y.makes.length o1] 32)) (CR.out.below (KG.out.trans (KY.out.mono KG.out.size))) (HY.out.keep KZ.out.size (fun _ h => KZ.out.cell h)))
            have HCy := Lib.hid (HC6.out.on KY.out)
            have e3 := F6.out 3 _ P3.out
            obtain ⟨q, hq⟩ : ∃ q, rightM (fnOf f) t.ins y t.ins.length = q := ⟨_, rfl⟩
            rw [hq] at BC
            have HQ := Lib.hid hq
            clear hat' hy hyl hq
            go_wp2_with (refine wpList_load_mid rfl 59 _ rfl g 0 rfl (fcs ++ ca) _ HCy.out.range Tryz.underlying59 rfl HI.out ?_)
            refine BC.out.mono ?_
            rintro e w5 ⟨rfl, k5⟩
            have K5 := Lib.hid (KX.out.trans ((KY.out.trans (k5.mono KY.out.size)).mono KX.out.size))
            clear k5 g0 g1 g2 g3 e3
            cases q
            case false =>
              have HN : Hid (3 = r) := by rw [← HR3.out, all_not HX.out HQ.out]; exact rfl
              go_wp2_with fail
              go_ret
              exact ⟨by rw [← HN.out]; first | done | rfl, KE.out.trans (K5.out.mono KE.out.size)⟩
            go_wp2_with fail
            go_roundw
            case rel => exact ⟨j + 1, by go_num, by omega, upto_next KP.out HX.out HQ.out, K5.out⟩
            case measure => simp [RowKit.intOf]; omega
          · have hji : ¬ (j : Int) < t.exits.length := by omega
            have HN : Hid (0 = r) := by rw [← HR3.out, all_yes (p := fun x => rightM (fnOf f) t.ins x t.ins.length) (k := j) (by omega) KP.out]; exact rfl
            go_wp2_with fail
            go_ret
            exact ⟨by rw [← HN.out]; first | done | rfl, kx.out⟩
end Go.Proofs.YtlnkjmgfkpeicaaGreatDoor
