/- PeelHead: the walk. Printed by gen_peel.py. -/
import Derived.Test.YtmccomeihnaanaaDoorPeelE
import Derived.Test.YtmccomeihnaanaaDoorPeelM
import Derived.Test.YtmccomeihnaanaaDoorSameN
namespace Go.Proofs.YtmccomeihnaanaaDoor
open Go.RowKit Go.Maps

/-- the turn ahead is the trace's own -/
def HeadOf (t z : TTrace) : Prop := z.loop = t.ins.length ∧ t.ins.length ≤ z.ins.length ∧ z.ins.take t.ins.length = t.ins ∧ z.exits.length = 2 * t.exits.length ∧ z.turn = t.back ∧
      ∀ (i : Nat) (x : TExit), t.exits[i]? = some x → z.exits[i]? = some x ∧ ∃ y, z.exits[t.exits.length + i]? = some y ∧ y.at_ = x.at_ ∧ y.steps = x.steps
theorem peeled_ok {p : CProg} {t z : TTrace} (h : Peeled (ceP p t) t z 0) : ceP p t = 0 ∧ (z = t ∨ (t.loop ≤ 0 ∧ 0 < t.ins.length ∧ HeadOf t z)) := by
  rcases h with ⟨h1, h2⟩ | ⟨h1, h2, _⟩ | ⟨h1, h2, h3, tl, h4, h5⟩
  · exact absurd h2.symm h1
  · exact ⟨h1, .inl h2⟩
  · exact ⟨h1, .inr ⟨h2, h3, peel_head (checkM_cuts h1) h3 h4 h5⟩⟩
set_option maxHeartbeats 4000000 in
set_option maxRecDepth 100000 in
theorem peelHead_walk (pcs ca : List Value) (p : CProg) (t : TTrace) (w : World) (hp : ProgR w w.heap.size pcs p) (ht : TraceR w w.heap.size ca t) (tab : Tab w) :
    Calls Tryd.prog 8 #[.agg ⟨pcs⟩, .agg ⟨ca⟩] w (Gives (.bool true) w) := by
  have HIp := Lib.hid hp.size3
  have HIt := Lib.hid ht.size13
  have HT0 := Lib.hid ht
  obtain ⟨Ai, ni, p3, qi⟩ := ht.at3
  obtain ⟨Ae, ne, p4, qe⟩ := ht.at4
  obtain ⟨p0, p1, p2, -, -, -⟩ := ht.at012
  obtain ⟨ct, cb, -, p9, -, qb⟩ := ht.at59
  have QB := Lib.hid qb
  obtain ⟨s, m, rfl, ⟨S, cS, rfl, -⟩, ⟨M, cM, rfl, -⟩, -⟩ := qb
  have P2 := Lib.hid p2
  have P3 := Lib.hid p3
  have P4 := Lib.hid p4
  have P9 := Lib.hid p9
  have QI := Lib.hid qi
  have QE := Lib.hid qe
  have hni : t.ins.length ≤ ni ∧ ni ≤ 9223372036854775807 := by obtain ⟨_, _, e, h1, h2, -⟩ := id qi; injection e with _ e1 e2; unfold maxLen at h2; omega
  have hne : t.exits.length ≤ ne ∧ ne ≤ 9223372036854775807 := by obtain ⟨_, _, e, h1, h2, -⟩ := id qe; injection e with _ e1 e2; unfold maxLen at h2; omega
  obtain ⟨hni1, hni2⟩ := hni
  obtain ⟨hne1, hne2⟩ := hne
  obtain ⟨w0, hw0⟩ : ∃ w0, w0 = (w.alloc (.cells ⟨pcs⟩ 26)).alloc (.cells ⟨ca⟩ 34) := ⟨_, rfl⟩
  have TB := two_box w pcs ca 26 34
  rw [← hw0] at TB
  obtain ⟨t1, t2, t3⟩ := TB
  have H1 := Lib.hid t1
  have H2 := Lib.hid t2
  have K0 := Lib.hid t3
  have HW := Lib.hid hw0
  have R1 := Lib.hid H1.out.range
  have R2 := Lib.hid H2.out.range
  have CE := Lib.hid (peelDo_c pcs ca p t w0 (hp.below K0.out) (ht.below K0.out) (tab.below K0.out))
  clear hp ht hw0 t1 t2 t3 tab qi qe p0 p1 p2 p3 p4 p9
  go_enter Tryd.func8, Tryd.ntmps8
  go_wp2_with (first | (refine wpList_load_mid rfl 26 _ rfl w.heap.size 0 rfl pcs _ (by rw [← HW.out]; exact R1.out) Tryd.underlying26 rfl HIp.out ?_) | (refine wpList_load_mid rfl 34 _ rfl (w.heap.size + 1) 0 rfl ca _ (by rw [← HW.out]; exact R2.out) Tryd.underlying34 rfl HIt.out ?_) | fail)
  rw [← HW.out]
  refine CE.out.mono ?_
  rintro e w1 ⟨cs, z, r, rfl, tr, k1, hpe⟩
  have HPE := Lib.hid hpe
  have HTR := Lib.hid tr
  obtain ⟨_, _, cz, cy, rfl, zi, ze, zt, zb, -⟩ := id tr
  have ZI := Lib.hid zi
  have ZE := Lib.hid ze
  have ZT := Lib.hid zt
  obtain ⟨B1, m1, rfl, b1, b2, -⟩ := zi
  obtain ⟨B2, m2, rfl, b3, b4, -⟩ := ze
  obtain ⟨_, _, rfl, ⟨B3, m3, rfl, -⟩, ⟨B4, m4, rfl, -⟩, -⟩ := zt
  obtain ⟨_, _, rfl, ⟨B5, m5, rfl, -⟩, ⟨B6, m6, rfl, -⟩, -⟩ := zb
  simp only [List.cons_append, List.nil_append] at HTR
  simp only [List.cons_append, List.nil_append]
  unfold maxLen at b2 b4
  have K1 := Lib.hid (K0.out.trans (k1.mono K0.out.size))
  have G1 := Lib.hid (H2.out.on k1)
  clear tr k1 hpe CE R1 R2 H1
  obtain ⟨w2, hw2⟩ : ∃ w2, w2 = w1.alloc (.cells #[.int .i64 z.fn, .int .i64 z.at_, .int .i64 z.loop, .slice B1 z.ins.length m1, .slice B2 z.exits.length m2, .int .i64 z.turn.at_, .int .i64 z.turn.steps, .slice B3 z.turn.sets.length m3, .slice B4 z.turn.makes.length m4, .int .i64 z.back.at_, .int .i64 z.back.steps, .slice B5 z.back.sets.length m5, .slice B6 z.back.makes.length m6] 34) := ⟨_, rfl⟩
  have L2 : Hid (Below w1.heap.size w1 w2) := by rw [hw2]; exact below_one _ _
  have O2 : Hid (HeadAt w2 w1.heap.size [.int .i64 z.fn, .int .i64 z.at_, .int .i64 z.loop, .slice B1 z.ins.length m1, .slice B2 z.exits.length m2, .int .i64 z.turn.at_, .int .i64 z.turn.steps, .slice B3 z.turn.sets.length m3, .slice B4 z.turn.makes.length m4, .int .i64 z.back.at_, .int .i64 z.back.steps, .slice B5 z.back.sets.length m5, .slice B6 z.back.makes.length m6]) := HeadAt.of_row (by rw [hw2]; exact heap_last _ _)
  have K2 := Lib.hid (K1.out.trans (L2.out.mono K1.out.size))
  have G2 := Lib.hid (G1.out.on L2.out)
  have hz2 : w1.heap.size < w2.heap.size := by rw [hw2]; simp
  have HW2 := Lib.hid hw2
  clear hw2
  go_upto_region 2 with fail
  rw [← HW2.out]
  by_cases hr : r = 0
  case neg =>
    have hr' : (r != 0) = true := by simpa using hr
    go_wp2_with fail
    refine (irred_c w2).mono ?_
    rintro e w3 ⟨rfl, k3⟩
    have K3 := Lib.hid (K2.out.trans (k3.mono K2.out.size))
    clear k3
    go_wp2_with fail
    go_ret
    exact ⟨rfl, K3.out⟩
  subst hr
  have OK := Lib.hid (peeled_ok HPE.out)
  have SM := Lib.hid (check_small OK.out.1)
  have CUTS := Lib.hid (checkM_cuts OK.out.1)
  have hlen := SM.out.ins
  have hxl := SM.out.exitsLen
  have hmi : (t.ins.length : Int) ≤ 300 := by omega
  have hme : (t.exits.length : Int) ≤ 200 := by omega
  obtain ⟨o, ho⟩ : ∃ o, o = w1.heap.size := ⟨_, rfl⟩
  rw [← ho] at O2 hz2
  rw [← ho]
  clear ho
  go_upto_region 4 with fail
  have l3 : ∀ E : Up w2, E.to.cell? ⟨w.heap.size + 1, 3, none⟩ = some (.slice Ai t.ins.length ni) := fun E => E.cell (G2.out 3 _ P3.out)
  have l4 : ∀ E : Up w2, E.to.cell? ⟨w.heap.size + 1, 4, none⟩ = some (.slice Ae t.exits.length ne) := fun E => E.cell (G2.out 4 _ P4.out)
  refine wp_region_up (by kernel_rfl) (by kernel_rfl) ?_
  repeat (go_big_quiet_step (fail))
  refine wpQuiet_nil ?_
  rintro w3 hE
  obtain ⟨E, rfl⟩ := hE
  obtain ⟨w3, k3⟩ := E
  have L3 := Lib.hid (L2.out.trans (k3.mono L2.out.size))
  have K3 := Lib.hid (K2.out.trans (k3.mono K2.out.size))
  have G3 := Lib.hid (G2.out.on k3)
  have O3 := Lib.hid (O2.out.on k3)
  have hz3 : o < w3.heap.size := Nat.lt_of_lt_of_le hz2 k3.size
  dsimp only
  clear k3 l3 l4 O2 G2
  have c2 : w3.cell? ⟨w.heap.size + 1, 2, none⟩ = some (.int .i64 t.loop) := G3.out 2 _ P2.out
  have d2 : w3.cell? ⟨o, 2, none⟩ = some (.int .i64 z.loop) := O3.out 2 _ rfl
  obtain ⟨hce, hcase⟩ := OK.out
  clear hce
  by_cases hzt : z = t
  · have HZT := Lib.hid hzt
    have SC := Lib.hid (fun W (k : Below w3.heap.size w3 W) => same_trace_c [.int .i64 z.fn, .int .i64 z.at_, .int .i64 z.loop, .slice B1 z.ins.length m1, .slice B2 z.exits.length m2, .int .i64 z.turn.at_, .int .i64 z.turn.steps, .slice B3 z.turn.sets.length m3, .slice B4 z.turn.makes.length m4, .int .i64 z.back.at_, .int .i64 z.back.steps, .slice B5 z.back.sets.length m5, .slice B6 z.back.makes.length m6] ca z t W (HTR.out.below (L3.out.trans (k.mono L3.out.size))) (HT0.out.below (K3.out.trans (k.mono K3.out.size))))
    rw [decide_eq_true hzt] at SC
    have LD : Hid ((Tryd.prog.info? 34).map (·.size) = some ([.int .i64 z.fn, .int .i64 z.at_, .int .i64 z.loop, .slice B1 z.ins.length m1, .slice B2 z.exits.length m2, .int .i64 z.turn.at_, .int .i64 z.turn.steps, .slice B3 z.turn.sets.length m3, .slice B4 z.turn.makes.length m4, .int .i64 z.back.at_, .int .i64 z.back.steps, .slice B5 z.back.sets.length m5, .slice B6 z.back.makes.length m6] : List Value).length) := infoTr13
    have HZ : 0 < t.loop ∨ (¬ 0 < t.loop ∧ (z.loop == 0) = true) := by
      by_cases c : 0 < t.loop
      · exact .inl c
      · refine .inr ⟨c, ?_⟩
        rw [hzt]
        have := CUTS.out.loop0
        exact beq_iff_eq.2 (by omega)
    clear hzt hcase
    rcases HZ with h1 | ⟨h1, h2⟩
    · skip
      go_upto_region 6 with fail
      clear c2 d2
      go_wp2_with fail
      refine (irred_c w3).mono ?_
      rintro e w5 ⟨rfl, k5⟩
      have K5 := Lib.hid (K3.out.trans (k5.mono K3.out.size))
      have RA := Lib.hid (O3.out.on k5).range
      have RB := Lib.hid (G3.out.on k5).range
      have SC5 := Lib.hid (SC.out w5 k5)
      clear k5 SC
      go_wp2_with (first
        | (refine wpList_load_on 34 _ rfl rfl o 0 rfl [.int .i64 z.fn, .int .i64 z.at_, .int .i64 z.loop, .slice B1 z.ins.length m1, .slice B2 z.exits.length m2, .int .i64 z.turn.at_, .int .i64 z.turn.steps, .slice B3 z.turn.sets.length m3, .slice B4 z.turn.makes.length m4, .int .i64 z.back.at_, .int .i64 z.back.steps, .slice B5 z.back.sets.length m5, .slice B6 z.back.makes.length m6] _ RA.out Tryd.underlying34 rfl LD.out ?_)
        | (refine wpList_load_on 34 _ rfl rfl (w.heap.size + 1) 0 rfl ca _ RB.out Tryd.underlying34 rfl HIt.out ?_)
        | fail)
      refine SC5.out.mono ?_
      rintro e w6 ⟨rfl, k6⟩
      have K6 := Lib.hid (K5.out.trans (k6.mono K5.out.size))
      clear k6
      go_wp2_with fail
      go_ret
      exact ⟨rfl, K6.out⟩
    · skip
      go_upto_region 6 with fail
      clear c2 d2
      go_wp2_with fail
      refine (irred_c w3).mono ?_
      rintro e w5 ⟨rfl, k5⟩
      have K5 := Lib.hid (K3.out.trans (k5.mono K3.out.size))
      have RA := Lib.hid (O3.out.on k5).range
      have RB := Lib.hid (G3.out.on k5).range
      have SC5 := Lib.hid (SC.out w5 k5)
      clear k5 SC
      go_wp2_with (first
        | (refine wpList_load_on 34 _ rfl rfl o 0 rfl [.int .i64 z.fn, .int .i64 z.at_, .int .i64 z.loop, .slice B1 z.ins.length m1, .slice B2 z.exits.length m2, .int .i64 z.turn.at_, .int .i64 z.turn.steps, .slice B3 z.turn.sets.length m3, .slice B4 z.turn.makes.length m4, .int .i64 z.back.at_, .int .i64 z.back.steps, .slice B5 z.back.sets.length m5, .slice B6 z.back.makes.length m6] _ RA.out Tryd.underlying34 rfl LD.out ?_)
        | (refine wpList_load_on 34 _ rfl rfl (w.heap.size + 1) 0 rfl ca _ RB.out Tryd.underlying34 rfl HIt.out ?_)
        | fail)
      refine SC5.out.mono ?_
      rintro e w6 ⟨rfl, k6⟩
      have K6 := Lib.hid (K5.out.trans (k6.mono K5.out.size))
      clear k6
      go_wp2_with fail
      go_ret
      exact ⟨rfl, K6.out⟩
  · have hco : t.loop ≤ 0 ∧ 0 < t.ins.length ∧ HeadOf t z := by
      rcases hcase with h | h
      · exact absurd h hzt
      · exact h
    obtain ⟨hlp, hpos, e1, e2, e3, e4, e5, e6⟩ := hco
    have h1 : ¬ 0 < t.loop := by omega
    have h2 : (z.loop == 0) = false := beq_eq_false_iff_ne.2 (by omega)
    have h3 : (z.loop != (t.ins.length : Int)) = false := by rw [e1]; exact bne_self_eq_false _
    have h4 : ¬ (z.ins.length : Int) < t.ins.length := by omega
    have h5 : ((z.exits.length : Int) != 2 * (t.exits.length : Int)) = false := by rw [e4]; simp
    have h6 : t.ins.length ≤ m1 := by omega
    obtain ⟨b, off, rfl⟩ : ∃ b off, B1 = some ⟨b, off, none⟩ := by
      obtain ⟨b, off, x, cs, h, _⟩ := ZI.out.at_ (i := 0) (by omega)
      exact ⟨b, off, h⟩
    have E6 := Lib.hid e6
    have E3 := Lib.hid e3
    have E4 := Lib.hid e4
    have E5 := Lib.hid e5
    clear hlp e1 e3 e4 e5 e6 hcase hzt
    go_upto_region 7 with fail
    clear c2 d2
    have KU : ∀ E : Up w3, Below w.heap.size w E.to := fun E => K3.out.trans (E.below.mono K3.out.size)
    have LU : ∀ E : Up w3, Below w1.heap.size w1 E.to := fun E => L3.out.trans (E.below.mono L3.out.size)
    have KU' := Lib.hid KU
    have LU' := Lib.hid LU
    have EQ : Hid (∀ E : Up w3, Calls Tryd.prog 26 #[.slice (some ⟨b, off, none⟩) t.ins.length m1, .slice Ai t.ins.length ni] E.to (Gives (.bool true) E.to)) := fun E => by
      have hx := (ZI.out.take e2).keep (w' := E.to) (B' := E.to.heap.size) (LU E).size (fun _ hp => (LU E).cell hp) (fun _ _ h => h)
      rw [E3.out] at hx
      have := eq_inss_c _ _ t.ins t.ins E.to.heap.size E.to hx (QI.out.keep (KU E).size (fun _ hp => (KU E).cell hp) (fun _ _ h => h)) (Nat.le_refl _)
      rw [decide_eq_true rfl] at this
      exact this
    have SX : Hid (∀ E : Up w3, Calls Tryd.prog 27 #[.agg #[.int .i64 z.turn.at_, .int .i64 z.turn.steps, .slice B3 z.turn.sets.length m3, .slice B4 z.turn.makes.length m4], .agg #[.int .i64 t.back.at_, .int .i64 t.back.steps, .slice S t.back.sets.length cS, .slice M t.back.makes.length cM]] E.to (Gives (.bool true) E.to)) := fun E => by
      have := same_exit_c [.int .i64 z.turn.at_, .int .i64 z.turn.steps, .slice B3 z.turn.sets.length m3, .slice B4 z.turn.makes.length m4] [.int .i64 t.back.at_, .int .i64 t.back.steps, .slice S t.back.sets.length cS, .slice M t.back.makes.length cM] z.turn t.back E.to (ZT.out.keep (LU E).size (fun _ hp => (LU E).cell hp)) (QB.out.keep (KU E).size (fun _ hp => (KU E).cell hp))
      rw [decide_eq_true E5.out] at this
      exact this
    have f2 : ∀ E : Up w3, E.to.cell? ⟨o, 2, none⟩ = some (.int .i64 z.loop) := fun E => E.cell (O3.out 2 _ rfl)
    have f3 : ∀ E : Up w3, E.to.cell? ⟨o, 3, none⟩ = some (.slice (some ⟨b, off, none⟩) z.ins.length m1) := fun E => E.cell (O3.out 3 _ rfl)
    have f4 : ∀ E : Up w3, E.to.cell? ⟨o, 4, none⟩ = some (.slice B2 z.exits.length m2) := fun E => E.cell (O3.out 4 _ rfl)
    have f5 : ∀ E : Up w3, E.to.cell? ⟨o, 5, none⟩ = some (.int .i64 z.turn.at_) := fun E => E.cell (O3.out 5 _ rfl)
    have f6 : ∀ E : Up w3, E.to.cell? ⟨o, 5 + 1, none⟩ = some (.int .i64 z.turn.steps) := fun E => E.cell (O3.out 6 _ rfl)
    have f7 : ∀ E : Up w3, E.to.cell? ⟨o, 5 + 2, none⟩ = some (.slice B3 z.turn.sets.length m3) := fun E => E.cell (O3.out 7 _ rfl)
    have f8 : ∀ E : Up w3, E.to.cell? ⟨o, 5 + 3, none⟩ = some (.slice B4 z.turn.makes.length m4) := fun E => E.cell (O3.out 8 _ rfl)
    have g3 : ∀ E : Up w3, E.to.cell? ⟨w.heap.size + 1, 3, none⟩ = some (.slice Ai t.ins.length ni) := fun E => E.cell (G3.out 3 _ P3.out)
    have RX : Hid (∀ E : Up w3, E.to.rangeAt o 5 [.int .i64 z.turn.at_, .int .i64 z.turn.steps, .slice B3 z.turn.sets.length m3, .slice B4 z.turn.makes.length m4]) := fun E a v hv => E.cell (O3.out (5 + a) v (by
      rcases a with _ | _ | _ | _ | a <;> first | exact hv | (exact absurd hv (by simp))))
    have RY : Hid (∀ E : Up w3, E.to.rangeAt (w.heap.size + 1) 9 [.int .i64 t.back.at_, .int .i64 t.back.steps, .slice S t.back.sets.length cS, .slice M t.back.makes.length cM]) := fun E a v hv => E.cell (G3.out (9 + a) v (P9.out a v hv))
    have LX : Hid ((Tryd.prog.info? 32).map (·.size) = some ([.int .i64 z.turn.at_, .int .i64 z.turn.steps, .slice B3 z.turn.sets.length m3, .slice B4 z.turn.makes.length m4] : List Value).length) := infoEx4
    have LY : Hid ((Tryd.prog.info? 32).map (·.size) = some ([.int .i64 t.back.at_, .int .i64 t.back.steps, .slice S t.back.sets.length cS, .slice M t.back.makes.length cM] : List Value).length) := infoEx4
    clear f5 f6 f7 f8 KU LU
    refine wp_region_up (by kernel_rfl) (by kernel_rfl) ?_
    repeat (first
      | (refine wpQuiet_load_up 32 _ rfl rfl o 5 rfl [.int .i64 z.turn.at_, .int .i64 z.turn.steps, .slice B3 z.turn.sets.length m3, .slice B4 z.turn.makes.length m4] _ RX.out Tryd.underlying32 rfl LX.out ?_; go_simp)
      | (refine wpQuiet_load_up 32 _ rfl rfl (w.heap.size + 1) 9 rfl [.int .i64 t.back.at_, .int .i64 t.back.steps, .slice S t.back.sets.length cS, .slice M t.back.makes.length cM] _ RY.out Tryd.underlying32 rfl LY.out ?_; go_simp)
      | go_big_quiet_step ((go_at_call 26; exact Calls.up (EQ.out _)))
      | go_big_quiet_step ((go_at_call 27; exact Calls.up (SX.out _))))
    refine wpQuiet_nil ?_
    intro E
    clear f2 f3 f4 g3 RX RY h1 h2 h3 h4 h5
    obtain ⟨w4, k4⟩ := E
    have L4 := Lib.hid (L3.out.trans (k4.mono L3.out.size))
    have K4 := Lib.hid (K3.out.trans (k4.mono K3.out.size))
    have G4 := Lib.hid (G3.out.on k4)
    have O4 := Lib.hid (O3.out.on k4)
    have hz4 : o < w4.heap.size := Nat.lt_of_lt_of_le hz3 k4.size
    dsimp only
    clear k4 O3 G3 KU' LU' EQ SX
    go_wp2_with fail
    go_loopw [77] (fun i wr => ∃ j : Nat, i = .int .i64 j ∧ j ≤ t.exits.length ∧ Hid (Below w4.heap.size w4 wr)) (fun i _ => t.exits.length - (RowKit.intOf i).toNat)
    case atStart => exact ⟨0, rfl, by omega, Below.refl _ _⟩
    case round =>
      obtain ⟨j, rfl, hj, KW⟩ := hrel
      by_cases hlt : j < t.exits.length
      · have hji : (j : Int) < t.exits.length := by omega
        have hlz : z.exits.length = 2 * t.exits.length := E4.out
        obtain ⟨a2, off2, x, cs2, rfl, hb2, hx2, hcl2, hR2, hat2⟩ := QE.out.at_ hlt
        obtain ⟨a3, off3, y, cs3, rfl, hb3, hy3, hcl3, hR3, hat3⟩ := ZE.out.at_ (i := j) (by omega)
        obtain ⟨a4, off4, v, cs4, e4, hb4, hy4, hcl4, hR4, hat4⟩ := ZE.out.at_ (i := t.exits.length + j) (by omega)
        injection e4 with e4
        injection e4 with e4 e5
        subst e4 e5
        obtain ⟨q1, y', q2, q3, q4⟩ := E6.out j x hx2
        obtain rfl : y = x := by rw [hy3] at q1; injection q1
        obtain rfl : y' = v := by rw [hy4] at q2; injection q2 with q2; exact q2.symm
        obtain ⟨s2, s3, rfl, -⟩ := id hR2
        obtain ⟨s4, s5, rfl, -⟩ := id hR3
        obtain ⟨s6, s7, rfl, -⟩ := hR4
        have KA : ∀ E : Up wr, Below w.heap.size w E.to := fun E => (K4.out.trans (KW.out.mono K4.out.size)).trans (E.below.mono (K4.out.trans (KW.out.mono K4.out.size)).size)
        have LA : ∀ E : Up wr, Below w1.heap.size w1 E.to := fun E => (L4.out.trans (KW.out.mono L4.out.size)).trans (E.below.mono (L4.out.trans (KW.out.mono L4.out.size)).size)
        have SM2 : Hid (∀ E : Up wr, Calls Tryd.prog 27 #[.agg #[.int .i64 y.at_, .int .i64 y.steps, s4, s5], .agg #[.int .i64 y.at_, .int .i64 y.steps, s2, s3]] E.to (Gives (.bool true) E.to)) := fun E => by
          have := same_exit_c _ _ y y E.to (hR3.keep (LA E).size (fun _ h => (LA E).cell h)) (hR2.keep (KA E).size (fun _ h => (KA E).cell h))
          rw [decide_eq_true rfl] at this
          exact this
        have f4 : ∀ E : Up wr, E.to.cell? ⟨o, 4, none⟩ = some (.slice (some ⟨a3, off3, none⟩) z.exits.length m2) := fun E => E.cell (cell_on KW.out (O4.out 4 _ rfl))
        have g4 : ∀ E : Up wr, E.to.cell? ⟨w.heap.size + 1, 4, none⟩ = some (.slice (some ⟨a2, off2, none⟩) t.exits.length ne) := fun E => E.cell (cell_on KW.out (G4.out 4 _ P4.out))
        have x0 : ∀ E : Up wr, E.to.cell? ⟨a2, off2 + j * 4, none⟩ = some (.int .i64 y.at_) := fun E => ((KA E).cell hb2).trans (hat2 0 _ rfl)
        have x1 : ∀ E : Up wr, E.to.cell? ⟨a2, off2 + j * 4 + 1, none⟩ = some (.int .i64 y.steps) := fun E => ((KA E).cell hb2).trans (hat2 1 _ rfl)
        have x2 : ∀ E : Up wr, E.to.cell? ⟨a2, off2 + j * 4 + 2, none⟩ = some s2 := fun E => ((KA E).cell hb2).trans (hat2 2 _ rfl)
        have x3 : ∀ E : Up wr, E.to.cell? ⟨a2, off2 + j * 4 + 3, none⟩ = some s3 := fun E => ((KA E).cell hb2).trans (hat2 3 _ rfl)
        have y0 : ∀ E : Up wr, E.to.cell? ⟨a3, off3 + j * 4, none⟩ = some (.int .i64 y.at_) := fun E => ((LA E).cell hb3).trans (hat3 0 _ rfl)
        have y1 : ∀ E : Up wr, E.to.cell? ⟨a3, off3 + j * 4 + 1, none⟩ = some (.int .i64 y.steps) := fun E => ((LA E).cell hb3).trans (hat3 1 _ rfl)
        have y2 : ∀ E : Up wr, E.to.cell? ⟨a3, off3 + j * 4 + 2, none⟩ = some s4 := fun E => ((LA E).cell hb3).trans (hat3 2 _ rfl)
        have y3 : ∀ E : Up wr, E.to.cell? ⟨a3, off3 + j * 4 + 3, none⟩ = some s5 := fun E => ((LA E).cell hb3).trans (hat3 3 _ rfl)
        have v0 : ∀ E : Up wr, E.to.cell? ⟨a3, off3 + (t.exits.length + j) * 4, none⟩ = some (.int .i64 y.at_) := fun E => ((LA E).cell hb4).trans (by rw [← q3]; exact hat4 0 _ rfl)
        have v1 : ∀ E : Up wr, E.to.cell? ⟨a3, off3 + (t.exits.length + j) * 4 + 1, none⟩ = some (.int .i64 y.steps) := fun E => ((LA E).cell hb4).trans (by rw [← q4]; exact hat4 1 _ rfl)
        have hi3 : (j : Int) < z.exits.length := by omega
        have hi4 : (t.exits.length : Int) + j < z.exits.length := by omega
        clear hx2 hat2 hcl2 hR2 hy3 hat3 hcl3 hR3 hy4 hat4 hcl4 q1 q2 q3 q4 KA LA
        go_upto_region 12 with fail
        refine wp_region_up (by kernel_rfl) (by kernel_rfl) ?_
        repeat (go_big_quiet_step ((go_at_call 27; exact Calls.up (SM2.out _))))
        refine wpQuiet_nil ?_
        rintro _ ⟨E, rfl⟩
        have HBB := Lib.hid (below_to KW.out E)
        clear f4 g4 x0 x1 x2 x3 y0 y1 y2 y3 v0 v1
        go_wp2_with fail
        go_roundw
        case rel => exact ⟨j + 1, by go_num, by omega, HBB⟩
        case measure => simp [RowKit.intOf]; omega
      · obtain rfl : j = t.exits.length := by omega
        have hji : ¬ (t.exits.length : Int) < t.exits.length := by omega
        go_wp2_with fail
        refine (irred_c wr).mono ?_
        rintro e w5 ⟨rfl, k5⟩
        have K5 := Lib.hid ((K4.out.trans (KW.out.mono K4.out.size)).trans (k5.mono (K4.out.trans (KW.out.mono K4.out.size)).size))
        clear k5
        go_wp2_with fail
        go_ret
        exact ⟨rfl, K5.out⟩
end Go.Proofs.YtmccomeihnaanaaDoor
