/- peel.twice: the walk. Printed by gen_peelC.py. -/
import Derived.Test.YtmccomeihnaanaaDoorPeelB
namespace Go.Proofs.YtmccomeihnaanaaDoor
open Go.RowKit

def TwicePost (t : TTrace) (w : World) (e : Ending) (w' : World) : Prop := ∃ cs, e = .returned (.agg ⟨cs⟩) ∧ TraceR w' w'.heap.size cs (twiceM t) ∧ Below w.heap.size w w'
theorem asked_bd {op xa xb xc xn xe : Int} {k : Val} {na : Nat} (hna : (formM op).asks = na) {j : Int} (hj : j ≤ 300) (h : ∀ v ∈ asksM ⟨op, xa, xb, xc, xn, xe, k⟩, 0 ≤ v ∧ v < j) :
    (0 < na → 0 ≤ xa ∧ xa ≤ 1000) ∧ (1 < na → 0 ≤ xb ∧ xb ≤ 1000) ∧ (2 < na → 0 ≤ xc ∧ xc ≤ 1000) := by
  have e : asksM ⟨op, xa, xb, xc, xn, xe, k⟩ = [xa, xb, xc].take na := by unfold asksM; dsimp only; rw [hna, Int.toNat_natCast]
  rw [e] at h
  refine ⟨fun c => ?_, fun c => ?_, fun c => ?_⟩
  · have := h xa (by obtain ⟨m, rfl⟩ : ∃ m, na = m + 1 := ⟨na - 1, by omega⟩
                     simp)
    omega
  · have := h xb (by obtain ⟨m, rfl⟩ : ∃ m, na = m + 1 + 1 := ⟨na - 2, by omega⟩
                     simp)
    omega
  · have := h xc (by obtain ⟨m, rfl⟩ : ∃ m, na = m + 1 + 1 + 1 := ⟨na - 3, by omega⟩
                     simp)
    omega
theorem asks_length {op xa xb xc xn xe : Int} {k : Val} {na : Nat} (hna : (formM op).asks = na) (h3 : na ≤ 3) : (asksM ⟨op, xa, xb, xc, xn, xe, k⟩).length = na := by
  unfold asksM; dsimp only; rw [hna, Int.toNat_natCast, List.length_take]; simp; omega
theorem again_wf {n m : Int} {x : TIns} {j : Int} (hn0 : 0 ≤ n) (hn1 : n ≤ 300) (hm0 : 0 ≤ m) (hm1 : m ≤ 200) (hj : j ≤ 300) (h : ∀ v ∈ asksM x, 0 ≤ v ∧ v < j) (he : x.exit < 1000) (hw : WfIns x) : WfIns (againI n m x) := by
  obtain ⟨op, xa, xb, xc, xn, xe, k⟩ := x
  obtain ⟨a0, a3, aN⟩ := asks_bd op
  obtain ⟨na, hna⟩ := Int.eq_ofNat_of_zero_le a0
  obtain ⟨ha, hb, hc⟩ := asked_bd hna hj h
  obtain ⟨w1, w2, w3, w4, w5, w6, w7, w8⟩ := hw
  rw [putG_all n m op xa xb xc xn xe k na hna]
  refine ⟨w1, putG_wf w2 ha hn0 (by omega), putG_wf w3 hb hn0 (by omega), putG_wf w4 hc hn0 (by omega), w5, ?_, w7, w8⟩
  dsimp only at *
  split
  · unfold wfi at *; omega
  · exact w6
set_option maxHeartbeats 8000000 in
set_option maxRecDepth 100000 in
theorem twice_c (ca : List Value) (t : TTrace) (w : World) (ht : TraceR w w.heap.size ca t) (hc : Cuts t) (hsm : SmallT t) (hex : ∀ (k : Nat) x, t.ins[k]? = some x → x.exit < 1000) :
    Calls Tryd.prog 51 #[.agg ⟨ca⟩] w (TwicePost t w) := by
  have HC := Lib.hid hc
  have SM := Lib.hid hsm
  have HEX := Lib.hid hex
  have hlen := hsm.ins
  have hxl := hsm.exitsLen
  have HIt := Lib.hid ht.size13
  obtain ⟨Ai, ni, p3, qi⟩ := ht.at3
  obtain ⟨Ae, ne, p4, qe⟩ := ht.at4
  obtain ⟨p0, p1, p2, wf0, wf1, wf2⟩ := ht.at012
  obtain ⟨ct, cb, -, p9, -, qb⟩ := ht.at59
  have QB := Lib.hid qb
  obtain ⟨s, m, rfl, ⟨S, cS, rfl, -⟩, ⟨M, cM, rfl, -⟩, -⟩ := qb
  have P0 := Lib.hid p0
  have P1 := Lib.hid p1
  have P3 := Lib.hid p3
  have P4 := Lib.hid p4
  have P9 := Lib.hid p9
  have QI := Lib.hid qi
  have QE := Lib.hid qe
  have WF0 := Lib.hid wf0
  have WF1 := Lib.hid wf1
  have hni : t.ins.length ≤ ni ∧ ni ≤ 9223372036854775807 := by obtain ⟨_, _, e, h1, h2, -⟩ := id qi; injection e with _ e1 e2; unfold maxLen at h2; omega
  have hne : t.exits.length ≤ ne ∧ ne ≤ 9223372036854775807 := by obtain ⟨_, _, e, h1, h2, -⟩ := id qe; injection e with _ e1 e2; unfold maxLen at h2; omega
  obtain ⟨hni1, hni2⟩ := hni
  obtain ⟨hne1, hne2⟩ := hne
  obtain ⟨rows, hr1, hr2, hr3⟩ := QE.out.raw
  have hones : ∀ r ∈ rows, ∀ u ∈ r, u.oneCell' = true := fun r hr u hu => by
    obtain ⟨i, hi⟩ := List.getElem?_of_mem hr
    have hil := (List.getElem?_eq_some_iff.1 hi).1
    obtain ⟨c, h1, h2⟩ := hr3 i _ (List.getElem?_eq_getElem (by omega))
    rw [hi] at h1
    injection h1 with h1
    subst h1
    obtain ⟨s, m, rfl, ⟨_, _, rfl, -⟩, ⟨_, _, rfl, -⟩, -⟩ := h2
    simp at hu; rcases hu with rfl | rfl | rfl | rfl <;> rfl
  obtain ⟨irows, ir1, ir2, ir3⟩ := QI.out.raw
  have hirows : irows.flatMap id = t.ins.flatMap insCells := by
    have e : irows = t.ins.map insCells := by
      apply List.ext_getElem?
      intro i
      rw [List.getElem?_map]
      rcases Nat.lt_or_ge i t.ins.length with h | h
      · obtain ⟨c, h1, h2⟩ := ir3 i _ (List.getElem?_eq_getElem h)
        rw [h1, List.getElem?_eq_getElem h]
        obtain ⟨rfl, -⟩ := h2
        rfl
      · rw [List.getElem?_eq_none (by omega), List.getElem?_eq_none (by omega)]; rfl
    rw [e, List.flatMap_map]; rfl
  have hiones : ∀ r ∈ irows, ∀ u ∈ r, u.oneCell' = true := fun r hr u hu => by
    obtain ⟨i, hi⟩ := List.getElem?_of_mem hr
    have hil := (List.getElem?_eq_some_iff.1 hi).1
    obtain ⟨c, h1, h2⟩ := ir3 i _ (List.getElem?_eq_getElem (by omega))
    rw [hi] at h1
    injection h1 with h1
    subst h1
    obtain ⟨rfl, -⟩ := h2
    exact ins_ones _ u hu
  have NEAR : Hid (∀ (i : Nat) x, t.exits[i]? = some x → ∃ c, rows[i]? = some c ∧ c.length = 4 ∧ ExitR w w.heap.size c x) := fun i x hx => by
    obtain ⟨c, h1, h2⟩ := hr3 i x hx
    exact ⟨c, h1, by obtain ⟨s, m, rfl, -⟩ := h2; rfl, h2⟩
  have HR1 := Lib.hid hr1
  obtain ⟨w0, hw0⟩ : ∃ w0, w0 = (w.alloc (.cells ⟨ca⟩ 34)).alloc (.cells #[.int .i64 0, .int .i64 0, .int .i64 0, .slice none 0 0, .slice none 0 0, .int .i64 0, .int .i64 0, .slice none 0 0, .slice none 0 0, .int .i64 0, .int .i64 0, .slice none 0 0, .slice none 0 0] 34) := ⟨_, rfl⟩
  have K0 : Hid (Below w.heap.size w w0) := by rw [hw0]; exact below_two' _ _ _
  have D0 : Hid (w0.heap[w.heap.size]? = some (.cells ⟨ca⟩ 34 (0, 0))) := by rw [hw0]; exact heap_old (heap_last w _) _
  have D1 : Hid (w0.heap[w.heap.size + 1]? = some (.cells #[.int .i64 0, .int .i64 0, .int .i64 0, .slice none 0 0, .slice none 0 0, .int .i64 0, .int .i64 0, .slice none 0 0, .slice none 0 0, .int .i64 0, .int .i64 0, .slice none 0 0, .slice none 0 0] 34 (0, 0))) := by rw [hw0]; exact heap_two _ _ _
  have HW := Lib.hid hw0
  have CI : Hid (∀ W, Below w.heap.size w W → Calls Tryd.prog 57 #[.slice Ai t.ins.length ni] W (fun e w' => ∃ u, e = .returned u ∧ w'.ownsRow W.heap.size 43 8 u t.ins.length (t.ins.flatMap insCells) ∧ Below W.heap.size W w')) := fun W k => by
    have := clone_ins (.slice Ai t.ins.length ni) irows W (ir2.keep k.size (fun _ hp => k.cell hp) (fun _ _ h => h)) hiones (by rw [ir1]; omega)
    rw [ir1, hirows] at this
    exact this
  have CX : Hid (∀ W, Below w.heap.size w W → Calls Tryd.prog 45 #[.slice Ae t.exits.length ne] W (fun e w' => ∃ u, e = .returned u ∧ w'.ownsRow W.heap.size 32 4 u rows.length (rows.flatMap id) ∧ Below W.heap.size W w')) := fun W k =>
    clone_ext (.slice Ae t.exits.length ne) rows W (hr2.keep k.size (fun _ hp => k.cell hp) (fun _ _ h => h)) hones (by rw [hr1]; omega)
  have CM : Hid (∀ W, Below w.heap.size w W → Calls Tryd.prog 85 #[.agg #[.int .i64 t.back.at_, .int .i64 t.back.steps, .slice S t.back.sets.length cS, .slice M t.back.makes.length cM], .int .i64 t.ins.length] W (fun e w' => ∃ A9 n9 c9 A0 n0 c0, e = .returned (.agg #[.int .i64 t.back.at_, .int .i64 t.back.steps, .slice A9 n9 c9, .slice A0 n0 c0]) ∧ ExitT w' W.heap.size [.int .i64 t.back.at_, .int .i64 t.back.steps, .slice A9 n9 c9, .slice A0 n0 c0] (movedM t.back t.ins.length) ∧ Below W.heap.size W w')) := fun W k => by
    refine (moved_c _ t.back t.ins.length t.ins.length W (QB.out.keep k.size (fun _ hp => k.cell hp)) HC.out.back (by omega) (by omega) (by omega) SM.out.back).mono ?_
    rintro e w' ⟨cs, rfl, h1, h2⟩
    obtain ⟨s, m, rfl, ⟨A9, c9, rfl, -⟩, ⟨A0, c0, rfl, -⟩, -⟩ := id h1
    exact ⟨_, _, _, _, _, _, rfl, h1, h2⟩
  clear ht hc hsm hex hw0 qi qe p0 p1 p2 p3 p4 p9 wf0 wf1 wf2 hr2 hr3 hones ir1 ir2 ir3 hirows hiones
  go_enter Tryd.func51, Tryd.ntmps51
  go_upto_region 1 with fail
  rw [← HW.out]
  have l3 : ∀ E : Up w0, E.to.cell? ⟨w.heap.size, 3, none⟩ = some (.slice Ai t.ins.length ni) := fun E => E.cell (HeadAt.of_row D0.out 3 _ P3.out)
  have l4 : ∀ E : Up w0, E.to.cell? ⟨w.heap.size, 4, none⟩ = some (.slice Ae t.exits.length ne) := fun E => E.cell (HeadAt.of_row D0.out 4 _ P4.out)
  refine wp_region_up (by kernel_rfl) (by kernel_rfl) ?_
  repeat (go_big_quiet_step (fail))
  refine wpQuiet_nil ?_
  intro w1 hE
  obtain ⟨E, rfl⟩ := hE
  obtain ⟨w1, k1⟩ := E
  have K1 := Lib.hid (K0.out.trans (k1.mono K0.out.size))
  have E0 := Lib.hid ((k1.block _ (Array.getElem?_eq_some_iff.1 D0.out).1).trans D0.out)
  have E1 := Lib.hid ((k1.block _ (Array.getElem?_eq_some_iff.1 D1.out).1).trans D1.out)
  have hz1 : w.heap.size + 1 < w1.heap.size := (Array.getElem?_eq_some_iff.1 E1.out).1
  dsimp only
  clear k1 l3 l4
  go_upto_region 2 with fail
  go_cut [5] (fun s5 wx => ∃ (g : Nat) (iv ev : Value) (bc : List Value), s5 = .pointer (some ⟨g, 0, none⟩) ∧ Hid (Tw w1 t [.int .i64 t.back.at_, .int .i64 t.back.steps, .slice S t.back.sets.length cS, .slice M t.back.makes.length cM] bc g iv ev t.ins rows 0 wx))
  case first =>
    have q0 : ∀ E : Up w1, E.to.cell? ⟨w.heap.size, 0, none⟩ = some (.int .i64 t.fn) := fun E => E.cell (HeadAt.of_row E0.out 0 _ P0.out)
    have q1 : ∀ E : Up w1, E.to.cell? ⟨w.heap.size, 1, none⟩ = some (.int .i64 t.at_) := fun E => E.cell (HeadAt.of_row E0.out 1 _ P1.out)
    have q3 : ∀ E : Up w1, E.to.cell? ⟨w.heap.size, 3, none⟩ = some (.slice Ai t.ins.length ni) := fun E => E.cell (HeadAt.of_row E0.out 3 _ P3.out)
    have q4 : ∀ E : Up w1, E.to.cell? ⟨w.heap.size, 4, none⟩ = some (.slice Ae t.exits.length ne) := fun E => E.cell (HeadAt.of_row E0.out 4 _ P4.out)
    have RX : Hid (∀ E : Up w1, E.to.rangeAt w.heap.size 9 [.int .i64 t.back.at_, .int .i64 t.back.steps, .slice S t.back.sets.length cS, .slice M t.back.makes.length cM]) := fun E a v hv => E.cell (HeadAt.of_row E0.out (9 + a) v (P9.out a v hv))
    have LX : Hid ((Tryd.prog.info? 32).map (·.size) = some ([.int .i64 t.back.at_, .int .i64 t.back.steps, .slice S t.back.sets.length cS, .slice M t.back.makes.length cM] : List Value).length) := infoEx4
    have KW : Hid (Below w1.heap.size w1 w1.drew) := (Below.refl _ _).drew
    have CI : Hid (∀ W, Below w1.heap.size w1 W → Calls Tryd.prog 57 #[.slice Ai t.ins.length ni] W (fun e w' => ∃ u, e = .returned u ∧ w'.ownsRow w1.heap.size 43 8 u t.ins.length (t.ins.flatMap insCells) ∧ Below W.heap.size W w')) := fun W k => by
      refine (CI.out W (K1.out.trans (k.mono K1.out.size))).mono ?_
      rintro e w' ⟨u, h1, h2, h3⟩
      exact ⟨u, h1, own_more h2 k.size, h3⟩
    have CX : Hid (∀ W, Below w1.heap.size w1 W → Calls Tryd.prog 45 #[.slice Ae t.exits.length ne] W (fun e w' => ∃ u, e = .returned u ∧ w'.ownsRow w1.heap.size 32 4 u rows.length (rows.flatMap id) ∧ Below W.heap.size W w')) := fun W k => by
      refine (CX.out W (K1.out.trans (k.mono K1.out.size))).mono ?_
      rintro e w' ⟨u, h1, h2, h3⟩
      exact ⟨u, h1, own_more h2 k.size, h3⟩
    have CM : Hid (∀ W, Below w1.heap.size w1 W → Calls Tryd.prog 85 #[.agg #[.int .i64 t.back.at_, .int .i64 t.back.steps, .slice S t.back.sets.length cS, .slice M t.back.makes.length cM], .int .i64 t.ins.length] W (fun e w' => ∃ A9 n9 c9 A0 n0 c0, e = .returned (.agg #[.int .i64 t.back.at_, .int .i64 t.back.steps, .slice A9 n9 c9, .slice A0 n0 c0]) ∧ ExitT w' w1.heap.size [.int .i64 t.back.at_, .int .i64 t.back.steps, .slice A9 n9 c9, .slice A0 n0 c0] (movedM t.back t.ins.length) ∧ Below W.heap.size W w')) := fun W k => by
      refine (CM.out W (K1.out.trans (k.mono K1.out.size))).mono ?_
      rintro e w' ⟨A9, n9, c9, A0, n0, c0, h1, h2, h3⟩
      exact ⟨A9, n9, c9, A0, n0, c0, h1, h2.more k.size, h3⟩
    refine wp_region_readers (fun w' => ∃ E : Up w1, w' = E.to) [0, 1, 2, 3, 4, 5, 6, 8, 9, 11, 12, 13, 14, 15] [7, 10, 16, 18] 6 #[true, true, true, true, true, true, true, false, true, true, false, true, true, true, true, true, false, false, false, false] _ (by kernel_rfl) (by kernel_rfl) (by simp only [List.filterMap_cons, List.filterMap_nil, List.getElem?_toArray, List.getElem?_cons_zero, List.getElem?_cons_succ]; rfl) (fun _ _ d _ _ h => by cases d <;> exact h) ⟨⟨_, KW.out⟩, rfl⟩ ?_
    generalize hqq : (fun a' => wpAnyC _ _ _ _ _ _ _ _ a' _) = qq
    have HQQ := Lib.hid hqq
    clear hqq
    show wpQuiet _ _ _ _ [_, _, _, _, _, _, _, _, _, _, _, _, _, _] _
    repeat (first
      | (refine wpQuiet_load_up 32 _ rfl rfl w.heap.size 9 rfl [.int .i64 t.back.at_, .int .i64 t.back.steps, .slice S t.back.sets.length cS, .slice M t.back.makes.length cM] _ RX.out Tryd.underlying32 rfl LX.out ?_; go_simp)
      | go_big_quiet_step (fail))
    refine wpQuiet_nil ?_
    rw [← HQQ.out]
    clear HQQ qq RX LX q0 q1 q3 q4
    generalize hv0 : World.drew w1 = v0
    rw [hv0] at KW
    clear hv0
    refine wpAnyC_two (i := 7) (k := 18) (by kernel_rfl) rfl rfl (fun K hK => ?_) (fun K hK => ?_)
    · go_simp
      refine (CI.out v0 KW.out).mono ?_
      rintro e v1 ⟨u', rfl, o', k'⟩
      obtain ⟨A7, n7, c7, rfl⟩ := own_is_slice o'
      have OI := Lib.hid o'
      have KW' := Lib.hid (KW.out.trans (k'.mono KW.out.size))
      clear KW
      have KW := KW'
      clear KW'
      refine hK _ _ (fun _ => ⟨⟨v1, KW.out⟩, rfl⟩) ?_
      clear hK K k' o'
      refine wpAnyC_two (i := 10) (k := 18) (by kernel_rfl) rfl rfl (fun K hK => ?_) (fun K hK => ?_)
      · go_simp
        refine (CX.out v1 KW.out).mono ?_
        rintro e v2 ⟨u', rfl, o', k'⟩
        obtain ⟨A8, n8, c8, rfl⟩ := own_is_slice o'
        have OX := Lib.hid o'
        have KW' := Lib.hid (KW.out.trans (k'.mono KW.out.size))
        have OI' := Lib.hid (own_below OI.out k')
        clear KW OI
        have KW := KW'
        clear KW'
        have OI := OI'
        clear OI'
        refine hK _ _ (fun _ => ⟨⟨v2, KW.out⟩, rfl⟩) ?_
        clear hK K k' o'
        refine wpAnyC_two (i := 16) (k := 18) (by kernel_rfl) rfl rfl (fun K hK => ?_) (fun K hK => ?_)
        · go_simp
          refine (CM.out v2 KW.out).mono ?_
          rintro e v3 ⟨A9, n9, c9, A0, n0, c0, rfl, mt', k'⟩
          have MT := Lib.hid mt'
          have KW' := Lib.hid (KW.out.trans (k'.mono KW.out.size))
          have OI' := Lib.hid (own_below OI.out k')
          have OX' := Lib.hid (own_below OX.out k')
          clear KW OI OX
          have KW := KW'
          clear KW'
          have OI := OI'
          clear OI'
          have OX := OX'
          clear OX'
          refine hK _ _ (fun _ => ⟨⟨v3, KW.out⟩, rfl⟩) ?_
          clear hK K k' mt'
          refine wpAnyC_two (i := 17) (k := 18) (by kernel_rfl) rfl rfl (fun K hK => ?_) (fun K hK => ?_)
          · go_simp
            refine hK _ _ (fun h => by cases h) ?_
            clear hK K
            refine wpAnyC_one (i := 18) (by kernel_rfl) rfl (fun K hK => ?_)
            go_simp
            obtain ⟨v4, hv'⟩ : ∃ v', v' = v3.alloc (.cells #[.int .i64 0, .int .i64 0, .int .i64 0, .slice none 0 0, .slice none 0 0, .int .i64 0, .int .i64 0, .slice none 0 0, .slice none 0 0, .int .i64 0, .int .i64 0, .slice none 0 0, .slice none 0 0] 34) := ⟨_, rfl⟩
            obtain ⟨g, hg'⟩ : ∃ g', g' = v3.heap.size := ⟨_, rfl⟩
            have HG : Hid (v4.heap[g]? = some (.cells #[.int .i64 0, .int .i64 0, .int .i64 0, .slice none 0 0, .slice none 0 0, .int .i64 0, .int .i64 0, .slice none 0 0, .slice none 0 0, .int .i64 0, .int .i64 0, .slice none 0 0, .slice none 0 0] 34 (0, 0))) := by rw [hv', hg']; exact heap_last _ _
            have hgw : w1.heap.size ≤ g := by rw [hg']; exact KW.out.size
            have KW' : Hid (Below w1.heap.size w1 v4) := by rw [hv']; exact KW.out.alloc KW.out.size _
            have OI' : Hid (v4.ownsRow w1.heap.size 43 8 (.slice A7 n7 c7) t.ins.length (t.ins.flatMap insCells)) := by rw [hv']; exact OI.out.alloc _
            have OX' : Hid (v4.ownsRow w1.heap.size 32 4 (.slice A8 n8 c8) rows.length (rows.flatMap id)) := by rw [hv']; exact OX.out.alloc _
            have MT' : Hid (ExitT v4 w1.heap.size [.int .i64 t.back.at_, .int .i64 t.back.steps, .slice A9 n9 c9, .slice A0 n0 c0] (movedM t.back t.ins.length)) := by rw [hv']; exact MT.out.below (below_one _ _)
            clear KW OI OX MT
            have KW := KW'
            clear KW'
            have OI := OI'
            clear OI'
            have OX := OX'
            clear OX'
            have MT := MT'
            clear MT'
            rw [← hv', ← hg']
            refine hK _ _ (fun _ => ⟨⟨v4, KW.out⟩, rfl⟩) ?_
            clear hK K hv' hg'
            refine wpAnyC_of_ms [19] _ _ _ (by kernel_rfl) ?_
            refine wpMs_list [19] _ _ (by kernel_rfl) (by kernel_rfl) ?_
            simp only [List.filterMap_cons, List.filterMap_nil, List.getElem?_toArray, List.getElem?_cons_zero, List.getElem?_cons_succ]
            show wpList _ _ _ [_] _ _
            go_wp2_with (refine wpList_store_row rfl 34 _ _ rfl g #[.int .i64 t.fn, .int .i64 t.at_, .int .i64 t.ins.length, .slice A7 n7 c7, .slice A8 n8 c8, .int .i64 t.back.at_, .int .i64 t.back.steps, .slice S t.back.sets.length cS, .slice M t.back.makes.length cM, .int .i64 t.back.at_, .int .i64 t.back.steps, .slice A9 n9 c9, .slice A0 n0 c0] rfl rfl 34 _ HG.out infoTr13 rfl (all_oneCell_toArray (by simp [Value.oneCell'])) ?_)
            generalize hw9 : World.setRow _ _ _ = w9
            have TW : Hid (Tw w1 t [.int .i64 t.back.at_, .int .i64 t.back.steps, .slice S t.back.sets.length cS, .slice M t.back.makes.length cM] [.int .i64 t.back.at_, .int .i64 t.back.steps, .slice A9 n9 c9, .slice A0 n0 c0] g (.slice A7 n7 c7) (.slice A8 n8 c8) t.ins rows 0 w9) := by rw [← hw9]; exact Tw.start KW.out hgw HG.out OI.out OX.out MT.out
            clear hw9
            go_wp2_with fail
            go_meet
            case rel => exact ⟨g, _, _, _, rfl, TW⟩
          · go_simp
            obtain ⟨v4, hv'⟩ : ∃ v', v' = v3.alloc (.cells #[.int .i64 0, .int .i64 0, .int .i64 0, .slice none 0 0, .slice none 0 0, .int .i64 0, .int .i64 0, .slice none 0 0, .slice none 0 0, .int .i64 0, .int .i64 0, .slice none 0 0, .slice none 0 0] 34) := ⟨_, rfl⟩
            obtain ⟨g, hg'⟩ : ∃ g', g' = v3.heap.size := ⟨_, rfl⟩
            have HG : Hid (v4.heap[g]? = some (.cells #[.int .i64 0, .int .i64 0, .int .i64 0, .slice none 0 0, .slice none 0 0, .int .i64 0, .int .i64 0, .slice none 0 0, .slice none 0 0, .int .i64 0, .int .i64 0, .slice none 0 0, .slice none 0 0] 34 (0, 0))) := by rw [hv', hg']; exact heap_last _ _
            have hgw : w1.heap.size ≤ g := by rw [hg']; exact KW.out.size
            have KW' : Hid (Below w1.heap.size w1 v4) := by rw [hv']; exact KW.out.alloc KW.out.size _
            have OI' : Hid (v4.ownsRow w1.heap.size 43 8 (.slice A7 n7 c7) t.ins.length (t.ins.flatMap insCells)) := by rw [hv']; exact OI.out.alloc _
            have OX' : Hid (v4.ownsRow w1.heap.size 32 4 (.slice A8 n8 c8) rows.length (rows.flatMap id)) := by rw [hv']; exact OX.out.alloc _
            have MT' : Hid (ExitT v4 w1.heap.size [.int .i64 t.back.at_, .int .i64 t.back.steps, .slice A9 n9 c9, .slice A0 n0 c0] (movedM t.back t.ins.length)) := by rw [hv']; exact MT.out.below (below_one _ _)
            clear KW OI OX MT
            have KW := KW'
            clear KW'
            have OI := OI'
            clear OI'
            have OX := OX'
            clear OX'
            have MT := MT'
            clear MT'
            rw [← hv', ← hg']
            refine hK _ _ (fun _ => ⟨⟨v4, KW.out⟩, rfl⟩) ?_
            clear hK K hv' hg'
            refine wpAnyC_of_ms [17, 19] _ _ _ (by kernel_rfl) ?_
            refine wpMs_list [17, 19] _ _ (by kernel_rfl) (by kernel_rfl) ?_
            simp only [List.filterMap_cons, List.filterMap_nil, List.getElem?_toArray, List.getElem?_cons_zero, List.getElem?_cons_succ]
            show wpList _ _ _ [_, _] _ _
            go_wp2_with (refine wpList_store_row rfl 34 _ _ rfl g #[.int .i64 t.fn, .int .i64 t.at_, .int .i64 t.ins.length, .slice A7 n7 c7, .slice A8 n8 c8, .int .i64 t.back.at_, .int .i64 t.back.steps, .slice S t.back.sets.length cS, .slice M t.back.makes.length cM, .int .i64 t.back.at_, .int .i64 t.back.steps, .slice A9 n9 c9, .slice A0 n0 c0] rfl rfl 34 _ HG.out infoTr13 rfl (all_oneCell_toArray (by simp [Value.oneCell'])) ?_)
            generalize hw9 : World.setRow _ _ _ = w9
            have TW : Hid (Tw w1 t [.int .i64 t.back.at_, .int .i64 t.back.steps, .slice S t.back.sets.length cS, .slice M t.back.makes.length cM] [.int .i64 t.back.at_, .int .i64 t.back.steps, .slice A9 n9 c9, .slice A0 n0 c0] g (.slice A7 n7 c7) (.slice A8 n8 c8) t.ins rows 0 w9) := by rw [← hw9]; exact Tw.start KW.out hgw HG.out OI.out OX.out MT.out
            clear hw9
            go_wp2_with fail
            go_meet
            case rel => exact ⟨g, _, _, _, rfl, TW⟩
        · go_simp
          obtain ⟨v3, hv'⟩ : ∃ v', v' = v2.alloc (.cells #[.int .i64 0, .int .i64 0, .int .i64 0, .slice none 0 0, .slice none 0 0, .int .i64 0, .int .i64 0, .slice none 0 0, .slice none 0 0, .int .i64 0, .int .i64 0, .slice none 0 0, .slice none 0 0] 34) := ⟨_, rfl⟩
          obtain ⟨g, hg'⟩ : ∃ g', g' = v2.heap.size := ⟨_, rfl⟩
          have HG : Hid (v3.heap[g]? = some (.cells #[.int .i64 0, .int .i64 0, .int .i64 0, .slice none 0 0, .slice none 0 0, .int .i64 0, .int .i64 0, .slice none 0 0, .slice none 0 0, .int .i64 0, .int .i64 0, .slice none 0 0, .slice none 0 0] 34 (0, 0))) := by rw [hv', hg']; exact heap_last _ _
          have hgw : w1.heap.size ≤ g := by rw [hg']; exact KW.out.size
          have KW' : Hid (Below w1.heap.size w1 v3) := by rw [hv']; exact KW.out.alloc KW.out.size _
          have OI' : Hid (v3.ownsRow w1.heap.size 43 8 (.slice A7 n7 c7) t.ins.length (t.ins.flatMap insCells)) := by rw [hv']; exact OI.out.alloc _
          have OX' : Hid (v3.ownsRow w1.heap.size 32 4 (.slice A8 n8 c8) rows.length (rows.flatMap id)) := by rw [hv']; exact OX.out.alloc _
          clear KW OI OX
          have KW := KW'
          clear KW'
          have OI := OI'
          clear OI'
          have OX := OX'
          clear OX'
          rw [← hv', ← hg']
          refine hK _ _ (fun _ => ⟨⟨v3, KW.out⟩, rfl⟩) ?_
          clear hK K hv' hg'
          refine wpAnyC_one (i := 16) (by kernel_rfl) rfl (fun K hK => ?_)
          go_simp
          refine (CM.out v3 KW.out).mono ?_
          rintro e v4 ⟨A9, n9, c9, A0, n0, c0, rfl, mt', k'⟩
          have MT := Lib.hid mt'
          have KW' := Lib.hid (KW.out.trans (k'.mono KW.out.size))
          have OI' := Lib.hid (own_below OI.out k')
          have OX' := Lib.hid (own_below OX.out k')
          have HG' := Lib.hid ((k'.block g (Array.getElem?_eq_some_iff.1 HG.out).1).trans HG.out)
          clear KW OI OX HG
          have KW := KW'
          clear KW'
          have OI := OI'
          clear OI'
          have OX := OX'
          clear OX'
          have HG := HG'
          clear HG'
          refine hK _ _ (fun _ => ⟨⟨v4, KW.out⟩, rfl⟩) ?_
          clear hK K k' mt'
          refine wpAnyC_of_ms [17, 19] _ _ _ (by kernel_rfl) ?_
          refine wpMs_list [17, 19] _ _ (by kernel_rfl) (by kernel_rfl) ?_
          simp only [List.filterMap_cons, List.filterMap_nil, List.getElem?_toArray, List.getElem?_cons_zero, List.getElem?_cons_succ]
          show wpList _ _ _ [_, _] _ _
          go_wp2_with (refine wpList_store_row rfl 34 _ _ rfl g #[.int .i64 t.fn, .int .i64 t.at_, .int .i64 t.ins.length, .slice A7 n7 c7, .slice A8 n8 c8, .int .i64 t.back.at_, .int .i64 t.back.steps, .slice S t.back.sets.length cS, .slice M t.back.makes.length cM, .int .i64 t.back.at_, .int .i64 t.back.steps, .slice A9 n9 c9, .slice A0 n0 c0] rfl rfl 34 _ HG.out infoTr13 rfl (all_oneCell_toArray (by simp [Value.oneCell'])) ?_)
          generalize hw9 : World.setRow _ _ _ = w9
          have TW : Hid (Tw w1 t [.int .i64 t.back.at_, .int .i64 t.back.steps, .slice S t.back.sets.length cS, .slice M t.back.makes.length cM] [.int .i64 t.back.at_, .int .i64 t.back.steps, .slice A9 n9 c9, .slice A0 n0 c0] g (.slice A7 n7 c7) (.slice A8 n8 c8) t.ins rows 0 w9) := by rw [← hw9]; exact Tw.start KW.out hgw HG.out OI.out OX.out MT.out
          clear hw9
          go_wp2_with fail
          go_meet
          case rel => exact ⟨g, _, _, _, rfl, TW⟩
      · go_simp
        obtain ⟨v2, hv'⟩ : ∃ v', v' = v1.alloc (.cells #[.int .i64 0, .int .i64 0, .int .i64 0, .slice none 0 0, .slice none 0 0, .int .i64 0, .int .i64 0, .slice none 0 0, .slice none 0 0, .int .i64 0, .int .i64 0, .slice none 0 0, .slice none 0 0] 34) := ⟨_, rfl⟩
        obtain ⟨g, hg'⟩ : ∃ g', g' = v1.heap.size := ⟨_, rfl⟩
        have HG : Hid (v2.heap[g]? = some (.cells #[.int .i64 0, .int .i64 0, .int .i64 0, .slice none 0 0, .slice none 0 0, .int .i64 0, .int .i64 0, .slice none 0 0, .slice none 0 0, .int .i64 0, .int .i64 0, .slice none 0 0, .slice none 0 0] 34 (0, 0))) := by rw [hv', hg']; exact heap_last _ _
        have hgw : w1.heap.size ≤ g := by rw [hg']; exact KW.out.size
        have KW' : Hid (Below w1.heap.size w1 v2) := by rw [hv']; exact KW.out.alloc KW.out.size _
        have OI' : Hid (v2.ownsRow w1.heap.size 43 8 (.slice A7 n7 c7) t.ins.length (t.ins.flatMap insCells)) := by rw [hv']; exact OI.out.alloc _
        clear KW OI
        have KW := KW'
        clear KW'
        have OI := OI'
        clear OI'
        rw [← hv', ← hg']
        refine hK _ _ (fun _ => ⟨⟨v2, KW.out⟩, rfl⟩) ?_
        clear hK K hv' hg'
        refine wpAnyC_one (i := 10) (by kernel_rfl) rfl (fun K hK => ?_)
        go_simp
        refine (CX.out v2 KW.out).mono ?_
        rintro e v3 ⟨u', rfl, o', k'⟩
        obtain ⟨A8, n8, c8, rfl⟩ := own_is_slice o'
        have OX := Lib.hid o'
        have KW' := Lib.hid (KW.out.trans (k'.mono KW.out.size))
        have OI' := Lib.hid (own_below OI.out k')
        have HG' := Lib.hid ((k'.block g (Array.getElem?_eq_some_iff.1 HG.out).1).trans HG.out)
        clear KW OI HG
        have KW := KW'
        clear KW'
        have OI := OI'
        clear OI'
        have HG := HG'
        clear HG'
        refine hK _ _ (fun _ => ⟨⟨v3, KW.out⟩, rfl⟩) ?_
        clear hK K k' o'
        refine wpAnyC_one (i := 16) (by kernel_rfl) rfl (fun K hK => ?_)
        go_simp
        refine (CM.out v3 KW.out).mono ?_
        rintro e v4 ⟨A9, n9, c9, A0, n0, c0, rfl, mt', k'⟩
        have MT := Lib.hid mt'
        have KW' := Lib.hid (KW.out.trans (k'.mono KW.out.size))
        have OI' := Lib.hid (own_below OI.out k')
        have OX' := Lib.hid (own_below OX.out k')
        have HG' := Lib.hid ((k'.block g (Array.getElem?_eq_some_iff.1 HG.out).1).trans HG.out)
        clear KW OI OX HG
        have KW := KW'
        clear KW'
        have OI := OI'
        clear OI'
        have OX := OX'
        clear OX'
        have HG := HG'
        clear HG'
        refine hK _ _ (fun _ => ⟨⟨v4, KW.out⟩, rfl⟩) ?_
        clear hK K k' mt'
        refine wpAnyC_of_ms [17, 19] _ _ _ (by kernel_rfl) ?_
        refine wpMs_list [17, 19] _ _ (by kernel_rfl) (by kernel_rfl) ?_
        simp only [List.filterMap_cons, List.filterMap_nil, List.getElem?_toArray, List.getElem?_cons_zero, List.getElem?_cons_succ]
        show wpList _ _ _ [_, _] _ _
        go_wp2_with (refine wpList_store_row rfl 34 _ _ rfl g #[.int .i64 t.fn, .int .i64 t.at_, .int .i64 t.ins.length, .slice A7 n7 c7, .slice A8 n8 c8, .int .i64 t.back.at_, .int .i64 t.back.steps, .slice S t.back.sets.length cS, .slice M t.back.makes.length cM, .int .i64 t.back.at_, .int .i64 t.back.steps, .slice A9 n9 c9, .slice A0 n0 c0] rfl rfl 34 _ HG.out infoTr13 rfl (all_oneCell_toArray (by simp [Value.oneCell'])) ?_)
        generalize hw9 : World.setRow _ _ _ = w9
        have TW : Hid (Tw w1 t [.int .i64 t.back.at_, .int .i64 t.back.steps, .slice S t.back.sets.length cS, .slice M t.back.makes.length cM] [.int .i64 t.back.at_, .int .i64 t.back.steps, .slice A9 n9 c9, .slice A0 n0 c0] g (.slice A7 n7 c7) (.slice A8 n8 c8) t.ins rows 0 w9) := by rw [← hw9]; exact Tw.start KW.out hgw HG.out OI.out OX.out MT.out
        clear hw9
        go_wp2_with fail
        go_meet
        case rel => exact ⟨g, _, _, _, rfl, TW⟩
    · go_simp
      obtain ⟨v1, hv'⟩ : ∃ v', v' = v0.alloc (.cells #[.int .i64 0, .int .i64 0, .int .i64 0, .slice none 0 0, .slice none 0 0, .int .i64 0, .int .i64 0, .slice none 0 0, .slice none 0 0, .int .i64 0, .int .i64 0, .slice none 0 0, .slice none 0 0] 34) := ⟨_, rfl⟩
      obtain ⟨g, hg'⟩ : ∃ g', g' = v0.heap.size := ⟨_, rfl⟩
      have HG : Hid (v1.heap[g]? = some (.cells #[.int .i64 0, .int .i64 0, .int .i64 0, .slice none 0 0, .slice none 0 0, .int .i64 0, .int .i64 0, .slice none 0 0, .slice none 0 0, .int .i64 0, .int .i64 0, .slice none 0 0, .slice none 0 0] 34 (0, 0))) := by rw [hv', hg']; exact heap_last _ _
      have hgw : w1.heap.size ≤ g := by rw [hg']; exact KW.out.size
      have KW' : Hid (Below w1.heap.size w1 v1) := by rw [hv']; exact KW.out.alloc KW.out.size _
      clear KW
      have KW := KW'
      clear KW'
      rw [← hv', ← hg']
      refine hK _ _ (fun _ => ⟨⟨v1, KW.out⟩, rfl⟩) ?_
      clear hK K hv' hg'
      refine wpAnyC_one (i := 7) (by kernel_rfl) rfl (fun K hK => ?_)
      go_simp
      refine (CI.out v1 KW.out).mono ?_
      rintro e v2 ⟨u', rfl, o', k'⟩
      obtain ⟨A7, n7, c7, rfl⟩ := own_is_slice o'
      have OI := Lib.hid o'
      have KW' := Lib.hid (KW.out.trans (k'.mono KW.out.size))
      have HG' := Lib.hid ((k'.block g (Array.getElem?_eq_some_iff.1 HG.out).1).trans HG.out)
      clear KW HG
      have KW := KW'
      clear KW'
      have HG := HG'
      clear HG'
      refine hK _ _ (fun _ => ⟨⟨v2, KW.out⟩, rfl⟩) ?_
      clear hK K k' o'
      refine wpAnyC_one (i := 10) (by kernel_rfl) rfl (fun K hK => ?_)
      go_simp
      refine (CX.out v2 KW.out).mono ?_
      rintro e v3 ⟨u', rfl, o', k'⟩
      obtain ⟨A8, n8, c8, rfl⟩ := own_is_slice o'
      have OX := Lib.hid o'
      have KW' := Lib.hid (KW.out.trans (k'.mono KW.out.size))
      have OI' := Lib.hid (own_below OI.out k')
      have HG' := Lib.hid ((k'.block g (Array.getElem?_eq_some_iff.1 HG.out).1).trans HG.out)
      clear KW OI HG
      have KW := KW'
      clear KW'
      have OI := OI'
      clear OI'
      have HG := HG'
      clear HG'
      refine hK _ _ (fun _ => ⟨⟨v3, KW.out⟩, rfl⟩) ?_
      clear hK K k' o'
      refine wpAnyC_one (i := 16) (by kernel_rfl) rfl (fun K hK => ?_)
      go_simp
      refine (CM.out v3 KW.out).mono ?_
      rintro e v4 ⟨A9, n9, c9, A0, n0, c0, rfl, mt', k'⟩
      have MT := Lib.hid mt'
      have KW' := Lib.hid (KW.out.trans (k'.mono KW.out.size))
      have OI' := Lib.hid (own_below OI.out k')
      have OX' := Lib.hid (own_below OX.out k')
      have HG' := Lib.hid ((k'.block g (Array.getElem?_eq_some_iff.1 HG.out).1).trans HG.out)
      clear KW OI OX HG
      have KW := KW'
      clear KW'
      have OI := OI'
      clear OI'
      have OX := OX'
      clear OX'
      have HG := HG'
      clear HG'
      refine hK _ _ (fun _ => ⟨⟨v4, KW.out⟩, rfl⟩) ?_
      clear hK K k' mt'
      refine wpAnyC_of_ms [17, 19] _ _ _ (by kernel_rfl) ?_
      refine wpMs_list [17, 19] _ _ (by kernel_rfl) (by kernel_rfl) ?_
      simp only [List.filterMap_cons, List.filterMap_nil, List.getElem?_toArray, List.getElem?_cons_zero, List.getElem?_cons_succ]
      show wpList _ _ _ [_, _] _ _
      go_wp2_with (refine wpList_store_row rfl 34 _ _ rfl g #[.int .i64 t.fn, .int .i64 t.at_, .int .i64 t.ins.length, .slice A7 n7 c7, .slice A8 n8 c8, .int .i64 t.back.at_, .int .i64 t.back.steps, .slice S t.back.sets.length cS, .slice M t.back.makes.length cM, .int .i64 t.back.at_, .int .i64 t.back.steps, .slice A9 n9 c9, .slice A0 n0 c0] rfl rfl 34 _ HG.out infoTr13 rfl (all_oneCell_toArray (by simp [Value.oneCell'])) ?_)
      generalize hw9 : World.setRow _ _ _ = w9
      have TW : Hid (Tw w1 t [.int .i64 t.back.at_, .int .i64 t.back.steps, .slice S t.back.sets.length cS, .slice M t.back.makes.length cM] [.int .i64 t.back.at_, .int .i64 t.back.steps, .slice A9 n9 c9, .slice A0 n0 c0] g (.slice A7 n7 c7) (.slice A8 n8 c8) t.ins rows 0 w9) := by rw [← hw9]; exact Tw.start KW.out hgw HG.out OI.out OX.out MT.out
      clear hw9
      go_wp2_with fail
      go_meet
      case rel => exact ⟨g, _, _, _, rfl, TW⟩
  case rest =>
    obtain ⟨g, iv, ev, bc, rfl, T0⟩ := hcut
    have hz2 := T0.out.keep.size
    have E2 := Lib.hid ((T0.out.keep.block _ (by omega)).trans E0.out)
    have l3 : wc.cell? ⟨w.heap.size, 3, none⟩ = some (.slice Ai t.ins.length ni) := HeadAt.of_row E2.out 3 _ P3.out
    go_wp2_with fail
    clear l3 E2
    go_loopw [39] (fun i wr => ∃ (j : Nat) (iv : Value), i = .int .i64 j ∧ j ≤ t.ins.length ∧ Hid (Tw w1 t [.int .i64 t.back.at_, .int .i64 t.back.steps, .slice S t.back.sets.length cS, .slice M t.back.makes.length cM] bc g iv ev (t.ins ++ (t.ins.take j).map (againI t.ins.length t.exits.length)) rows 0 wr)) (fun i _ => t.ins.length - (RowKit.intOf i).toNat)
    case atStart => exact ⟨0, iv, rfl, by omega, Lib.hid (by rw [List.take_zero, List.map_nil, List.append_nil]; exact T0.out)⟩
    case round =>
      clear T0 hz2
      obtain ⟨j, iv, rfl, hj, T⟩ := hrel
      obtain ⟨wo, hwo⟩ : ∃ wo, wo = wr := ⟨_, rfl⟩
      subst hwo
      have hzo := T.out.keep.size
      have BW := Lib.hid (K1.out.trans (T.out.keep.mono K1.out.size))
      by_cases hlt : j < t.ins.length
      · obtain ⟨b, off, x, rfl, hb, hx, wx, hat⟩ := ins_op QI.out hlt
        obtain ⟨g0, g1, g2, g3, g4, g5, g6, g7⟩ := ins_at hat hb BW.out
        have hbz : b < wo.heap.size := by omega
        have hji : (j : Int) < t.ins.length := by omega
        have HX := Lib.hid hx
        have hxe := HEX.out j x hx
        have hask := HC.out.ins j x hx
        obtain ⟨op, xa, xb, xc, xn, xe, ⟨kk, kn⟩⟩ := x
        dsimp only at g0 g1 g2 g3 g4 g5 g6 g7 hxe
        obtain ⟨a0, a3, aN⟩ := asks_bd op
        obtain ⟨na, hna⟩ := Int.eq_ofNat_of_zero_le a0
        have hna3 : na ≤ 3 := by omega
        have hna4 : (na : Int) ≤ 3 := by omega
        obtain ⟨ba, bb, bc'⟩ := asked_bd hna (by omega) hask
        have HAL := Lib.hid (asks_length (xa := xa) (xb := xb) (xc := xc) (xn := xn) (xe := xe) (k := ⟨kk, kn⟩) hna hna3)
        have HPA := Lib.hid (putG_all t.ins.length t.exits.length op xa xb xc xn xe ⟨kk, kn⟩ na hna)
        obtain ⟨wa, hwa⟩ : ∃ wa, wa = (wo.alloc (.cells #[.int .i64 op, .int .i64 xa, .int .i64 xb, .int .i64 xc, .int .i64 xn, .int .i64 xe, .int .i64 kk, .int .i64 kn] 43)).alloc (.cells #[.pointer (some ⟨wo.heap.size, 1, none⟩), .pointer (some ⟨wo.heap.size, 2, none⟩), .pointer (some ⟨wo.heap.size, 3, none⟩)] 84) := ⟨_, rfl⟩
        have KA : Hid (Below wo.heap.size wo wa) := by rw [hwa]; exact below_two' _ _ _
        have B0 : Hid (wa.heap[wo.heap.size]? = some (.cells #[.int .i64 op, .int .i64 xa, .int .i64 xb, .int .i64 xc, .int .i64 xn, .int .i64 xe, .int .i64 kk, .int .i64 kn] 43 (0, 0))) := by rw [hwa]; exact heap_old (heap_last _ _) _
        have B1 : Hid (wa.heap[wo.heap.size + 1]? = some (.cells #[.pointer (some ⟨wo.heap.size, 1, none⟩), .pointer (some ⟨wo.heap.size, 2, none⟩), .pointer (some ⟨wo.heap.size, 3, none⟩)] 84 (0, 0))) := by rw [hwa]; exact heap_two _ _ _
        have hza : wo.heap.size + 1 < wa.heap.size := (Array.getElem?_eq_some_iff.1 B1.out).1
        have OA := Lib.hid (asks_c ⟨op, xa, xb, xc, xn, xe, ⟨kk, kn⟩⟩ wx wa)
        unfold insV at OA
        dsimp only at OA
        have HWA := Lib.hid hwa
        clear hat hx wx hask hwa a0 a3 aN hna
        go_wp2_with fail
        rw [← HWA.out]
        refine OA.out.mono ?_
        rintro e w5 ⟨u, rfl, hu, k5⟩
        obtain ⟨A5, c5, rfl, u1, u2, -⟩ := hu
        rw [HAL.out] at u1
        rw [HAL.out]
        unfold maxLen at u2
        have K5 := Lib.hid (KA.out.trans (k5.mono KA.out.size))
        have F0 := Lib.hid ((k5.block _ (by omega)).trans B0.out)
        have F1 := Lib.hid ((k5.block _ hza).trans B1.out)
        clear k5 g0 g1 g2 g3 g4 g5 g6 g7
        go_wp2_with fail
        go_loopw [50] (fun i wx => ∃ q : Nat, i = .int .i64 q ∧ q ≤ na ∧ Hid (wx.heap[wo.heap.size]? = some (.cells #[.int .i64 op, .int .i64 (putG t.ins.length q 0 xa), .int .i64 (putG t.ins.length q 1 xb), .int .i64 (putG t.ins.length q 2 xc), .int .i64 xn, .int .i64 xe, .int .i64 kk, .int .i64 kn] 43 (0, 0))) ∧ Hid (wx.heap[wo.heap.size + 1]? = some (.cells #[.pointer (some ⟨wo.heap.size, 1, none⟩), .pointer (some ⟨wo.heap.size, 2, none⟩), .pointer (some ⟨wo.heap.size, 3, none⟩)] 84 (0, 0))) ∧ Hid (Below wo.heap.size wo wx)) (fun i _ => na - (RowKit.intOf i).toNat)
        case atStart => exact ⟨0, rfl, by omega, F0.out, F1.out, K5.out⟩
        case round =>
          obtain ⟨q, rfl, hq, R0, R1, RB⟩ := hrel
          have hzr : wo.heap.size + 1 < wr.heap.size := (Array.getElem?_eq_some_iff.1 R1.out).1
          by_cases hlq : q < na
          · have hqi : (q : Int) < na := by omega
            have h3 : q = 0 ∨ q = 1 ∨ q = 2 := by omega
            rcases h3 with rfl | rfl | rfl
            · have p0 := cell_of_row wr (wo.heap.size + 1) 0 _ _ _ R1.out
              obtain ⟨y0, y1, y2, y3, y4, y5, y6, y7⟩ := ins_row R0.out
              have p1 : wr.cell? ⟨wo.heap.size, 1, none⟩ = some (.int .i64 xa) := y1
              have fz := frozen_of_row wr wo.heap.size 1 _ _ R0.out
              obtain ⟨hv0, hv1⟩ := ba (by omega)
              clear y0 y1 y2 y3 y4 y5 y6 y7
              go_wp2_with fail
              go_roundw
              case rel =>
                refine ⟨1, rfl, by omega, ?_, ?_, ?_⟩
                · show _ = _
                  rw [heap_setCell_same wr wo.heap.size 1 _ _ _ R0.out]; rfl
                · show _ = _
                  rw [heap_setCell_other wr _ _ _ (by show _ ≠ wo.heap.size; omega)]; exact R1.out
                · exact Below.set_at RB.out (Nat.le_refl _) _ _
              case measure => simp [RowKit.intOf]; omega
            · have p0 := cell_of_row wr (wo.heap.size + 1) 1 _ _ _ R1.out
              obtain ⟨y0, y1, y2, y3, y4, y5, y6, y7⟩ := ins_row R0.out
              have p1 : wr.cell? ⟨wo.heap.size, 2, none⟩ = some (.int .i64 xb) := y2
              have fz := frozen_of_row wr wo.heap.size 2 _ _ R0.out
              obtain ⟨hv0, hv1⟩ := bb (by omega)
              clear y0 y1 y2 y3 y4 y5 y6 y7
              go_wp2_with fail
              go_roundw
              case rel =>
                refine ⟨2, rfl, by omega, ?_, ?_, ?_⟩
                · show _ = _
                  rw [heap_setCell_same wr wo.heap.size 2 _ _ _ R0.out]; rfl
                · show _ = _
                  rw [heap_setCell_other wr _ _ _ (by show _ ≠ wo.heap.size; omega)]; exact R1.out
                · exact Below.set_at RB.out (Nat.le_refl _) _ _
              case measure => simp [RowKit.intOf]; omega
            · have p0 := cell_of_row wr (wo.heap.size + 1) 2 _ _ _ R1.out
              obtain ⟨y0, y1, y2, y3, y4, y5, y6, y7⟩ := ins_row R0.out
              have p1 : wr.cell? ⟨wo.heap.size, 3, none⟩ = some (.int .i64 xc) := y3
              have fz := frozen_of_row wr wo.heap.size 3 _ _ R0.out
              obtain ⟨hv0, hv1⟩ := bc' (by omega)
              clear y0 y1 y2 y3 y4 y5 y6 y7
              go_wp2_with fail
              go_roundw
              case rel =>
                refine ⟨3, rfl, by omega, ?_, ?_, ?_⟩
                · show _ = _
                  rw [heap_setCell_same wr wo.heap.size 3 _ _ _ R0.out]; rfl
                · show _ = _
                  rw [heap_setCell_other wr _ _ _ (by show _ ≠ wo.heap.size; omega)]; exact R1.out
                · exact Below.set_at RB.out (Nat.le_refl _) _ _
              case measure => simp [RowKit.intOf]; omega
          · obtain rfl : q = na := by omega
            have hqi : ¬ (q : Int) < q := by omega
            have y5 := cell_of_row wr wo.heap.size 5 _ _ _ R0.out
            have fz := frozen_of_row wr wo.heap.size 5 _ _ R0.out
            by_cases hxe0 : 0 ≤ xe
            · obtain ⟨wq, hwq⟩ : ∃ wq, wq = wr.setCell ⟨wo.heap.size, 5, none⟩ (.int .i64 (xe + t.exits.length)) := ⟨_, rfl⟩
              have Q0 : Hid (wq.heap[wo.heap.size]? = some (.cells #[.int .i64 op, .int .i64 (putG t.ins.length q 0 xa), .int .i64 (putG t.ins.length q 1 xb), .int .i64 (putG t.ins.length q 2 xc), .int .i64 xn, .int .i64 (xe + t.exits.length), .int .i64 kk, .int .i64 kn] 43 (0, 0))) := by
                rw [hwq, heap_setCell_same wr wo.heap.size 5 _ _ _ R0.out]; rfl
              have QB2 : Hid (Below wo.heap.size wo wq) := by rw [hwq]; exact Below.set_at RB.out (Nat.le_refl _) _ _
              have HWQ := Lib.hid hwq
              clear hwq
              go_upto_region 14 with fail
              rw [← HWQ.out]
              clear y5 fz
              have TB := Lib.hid (T.out.below QB2.out)
              have hzb : wo.heap.size < wq.heap.size := (Array.getElem?_eq_some_iff.1 Q0.out).1
              obtain ⟨y0, y1, y2, y3, y4, y5, y6, y7⟩ := ins_row Q0.out
              have c3 : wq.cell? ⟨g, 3, none⟩ = some iv := HeadAt.of_row TB.out.row 3 _ rfl
              have z3 := frozen_of_row wq g 3 _ _ TB.out.row
              have hgz : g < wq.heap.size := (Array.getElem?_eq_some_iff.1 TB.out.row).1
              obtain ⟨xs, hxs⟩ : ∃ xs, xs = t.ins ++ (t.ins.take j).map (againI t.ins.length t.exits.length) := ⟨_, rfl⟩
              rw [← hxs] at TB
              obtain ⟨nx, hnx⟩ : ∃ nx, nx = xs.length := ⟨_, rfl⟩
              have hnx2 : nx ≤ 600 := by rw [hnx, hxs]; simp; omega
              have O6 : Hid ((wq.alloc (.cells #[.int .i64 op, .int .i64 (putG t.ins.length q 0 xa), .int .i64 (putG t.ins.length q 1 xb), .int .i64 (putG t.ins.length q 2 xc), .int .i64 xn, .int .i64 (xe + t.exits.length), .int .i64 kk, .int .i64 kn] 43)).ownsRow w1.heap.size 43 8 iv nx (xs.flatMap insCells)) := by rw [hnx]; exact TB.out.own.alloc _
              have HXS := Lib.hid hxs
              have HNX := Lib.hid hnx
              obtain ⟨i0, hi, hi0, hi1, hi2⟩ := info_parts infoInsG
              clear hxs hnx
              go_wp2_with (at_builtin; refine wpList_append_own _ rfl _ _ 27 rfl w1.heap.size 43 i0 (.agg #[.int .i64 0, .int .i64 0, .int .i64 0, .int .i64 0, .int .i64 0, .int .i64 0, .int .i64 0, .int .i64 0]) 8 64 Tryd.underlying27 hi hi0 hi1 hi2 rfl (by decide) iv nx (xs.flatMap insCells) rfl O6.out ⟨wq.heap.size, 0, none⟩ 1 1 [.int .i64 op, .int .i64 (putG t.ins.length q 0 xa), .int .i64 (putG t.ins.length q 1 xb), .int .i64 (putG t.ins.length q 2 xc), .int .i64 xn, .int .i64 (xe + t.exits.length), .int .i64 kk, .int .i64 kn] rfl rfl ?c1 ?c2 ?c3 ?c4 ?c5 ?_)
              case c2 => exact ⟨rfl, rfl, rfl, rfl, rfl, rfl, rfl, rfl⟩
              case c3 => unfold maxLen; omega
              case c4 => omega
              case c5 => first | omega | (simp; omega)
              intro v' w6 hown hg _
              have TN : Hid (Tw w1 t [.int .i64 t.back.at_, .int .i64 t.back.steps, .slice S t.back.sets.length cS, .slice M t.back.makes.length cM] bc g v' ev (xs ++ [⟨op, putG t.ins.length q 0 xa, putG t.ins.length q 1 xb, putG t.ins.length q 2 xc, xn, (xe + t.exits.length), ⟨kk, kn⟩⟩]) rows 0 (w6.setCell ⟨g, 3, none⟩ v')) :=
                (TB.out.below (below_one _ _)).addIns (by rw [← HNX.out]; exact hown) hg
              have T6 := Lib.hid (grow_far O6.out hg (heap_old TB.out.row _) (by decide))
              obtain ⟨A', n', c', rfl⟩ := own_is_slice hown
              have c7 := HeadAt.of_row T6.out 3 _ rfl
              have f7 := frozen_of_row w6 g 3 _ _ T6.out
              clear hown hg c3 z3 y0 y1 y2 y3 y4 y5 y6 y7
              go_wp2_with fail
              go_roundw
              case rel =>
                refine ⟨j + 1, .slice A' n' c', by go_num, by omega, Lib.hid ?_⟩
                rw [take_snoc HX.out, List.map_append, ← List.append_assoc, ← HXS.out, List.map_cons, List.map_nil, HPA.out]
                first | exact TN.out | (rw [if_pos hxe0]; exact TN.out) | (rw [if_neg (by omega)]; exact TN.out)
              case measure => simp [RowKit.intOf]; omega
            · have hxn : ¬ (0 : Int) ≤ xe := hxe0
              have hxl2 : xe < 0 := by omega
              go_upto_region 14 with fail
              clear y5 fz
              have TB := Lib.hid (T.out.below RB.out)
              have hzb : wo.heap.size < wr.heap.size := (Array.getElem?_eq_some_iff.1 R0.out).1
              obtain ⟨y0, y1, y2, y3, y4, y5, y6, y7⟩ := ins_row R0.out
              have c3 : wr.cell? ⟨g, 3, none⟩ = some iv := HeadAt.of_row TB.out.row 3 _ rfl
              have z3 := frozen_of_row wr g 3 _ _ TB.out.row
              have hgz : g < wr.heap.size := (Array.getElem?_eq_some_iff.1 TB.out.row).1
              obtain ⟨xs, hxs⟩ : ∃ xs, xs = t.ins ++ (t.ins.take j).map (againI t.ins.length t.exits.length) := ⟨_, rfl⟩
              rw [← hxs] at TB
              obtain ⟨nx, hnx⟩ : ∃ nx, nx = xs.length := ⟨_, rfl⟩
              have hnx2 : nx ≤ 600 := by rw [hnx, hxs]; simp; omega
              have O6 : Hid ((wr.alloc (.cells #[.int .i64 op, .int .i64 (putG t.ins.length q 0 xa), .int .i64 (putG t.ins.length q 1 xb), .int .i64 (putG t.ins.length q 2 xc), .int .i64 xn, .int .i64 xe, .int .i64 kk, .int .i64 kn] 43)).ownsRow w1.heap.size 43 8 iv nx (xs.flatMap insCells)) := by rw [hnx]; exact TB.out.own.alloc _
              have HXS := Lib.hid hxs
              have HNX := Lib.hid hnx
              obtain ⟨i0, hi, hi0, hi1, hi2⟩ := info_parts infoInsG
              clear hxs hnx
              go_wp2_with (at_builtin; refine wpList_append_own _ rfl _ _ 27 rfl w1.heap.size 43 i0 (.agg #[.int .i64 0, .int .i64 0, .int .i64 0, .int .i64 0, .int .i64 0, .int .i64 0, .int .i64 0, .int .i64 0]) 8 64 Tryd.underlying27 hi hi0 hi1 hi2 rfl (by decide) iv nx (xs.flatMap insCells) rfl O6.out ⟨wr.heap.size, 0, none⟩ 1 1 [.int .i64 op, .int .i64 (putG t.ins.length q 0 xa), .int .i64 (putG t.ins.length q 1 xb), .int .i64 (putG t.ins.length q 2 xc), .int .i64 xn, .int .i64 xe, .int .i64 kk, .int .i64 kn] rfl rfl ?d1 ?d2 ?d3 ?d4 ?d5 ?_)
              case d2 => exact ⟨rfl, rfl, rfl, rfl, rfl, rfl, rfl, rfl⟩
              case d3 => unfold maxLen; omega
              case d4 => omega
              case d5 => first | omega | (simp; omega)
              intro v' w6 hown hg _
              have TN : Hid (Tw w1 t [.int .i64 t.back.at_, .int .i64 t.back.steps, .slice S t.back.sets.length cS, .slice M t.back.makes.length cM] bc g v' ev (xs ++ [⟨op, putG t.ins.length q 0 xa, putG t.ins.length q 1 xb, putG t.ins.length q 2 xc, xn, xe, ⟨kk, kn⟩⟩]) rows 0 (w6.setCell ⟨g, 3, none⟩ v')) :=
                (TB.out.below (below_one _ _)).addIns (by rw [← HNX.out]; exact hown) hg
              have T6 := Lib.hid (grow_far O6.out hg (heap_old TB.out.row _) (by decide))
              obtain ⟨A', n', c', rfl⟩ := own_is_slice hown
              have c7 := HeadAt.of_row T6.out 3 _ rfl
              have f7 := frozen_of_row w6 g 3 _ _ T6.out
              clear hown hg c3 z3 y0 y1 y2 y3 y4 y5 y6 y7
              go_wp2_with fail
              go_roundw
              case rel =>
                refine ⟨j + 1, .slice A' n' c', by go_num, by omega, Lib.hid ?_⟩
                rw [take_snoc HX.out, List.map_append, ← List.append_assoc, ← HXS.out, List.map_cons, List.map_nil, HPA.out]
                first | exact TN.out | (rw [if_pos hxe0]; exact TN.out) | (rw [if_neg (by omega)]; exact TN.out)
              case measure => simp [RowKit.intOf]; omega
      · obtain rfl : j = t.ins.length := by omega
        have hji : ¬ (t.ins.length : Int) < t.ins.length := by omega
        have TX : Hid (Tw w1 t [.int .i64 t.back.at_, .int .i64 t.back.steps, .slice S t.back.sets.length cS, .slice M t.back.makes.length cM] bc g iv ev (t.ins ++ t.ins.map (againI t.ins.length t.exits.length)) rows 0 wo) := by
          have := T.out
          rw [take_all_len (Nat.le_refl _)] at this
          exact this
        have E2 := Lib.hid ((T.out.keep.block _ (by omega)).trans E0.out)
        have l4 : wo.cell? ⟨w.heap.size, 4, none⟩ = some (.slice Ae t.exits.length ne) := HeadAt.of_row E2.out 4 _ P4.out
        clear T
        go_wp2_with fail
        clear l4 E2
        go_loopw [81] (fun i wr => ∃ (j : Nat) (ev : Value) (more : List (List Value)), i = .int .i64 j ∧ j ≤ t.exits.length ∧ more.length = j ∧ Hid (Tw w1 t [.int .i64 t.back.at_, .int .i64 t.back.steps, .slice S t.back.sets.length cS, .slice M t.back.makes.length cM] bc g iv ev (t.ins ++ t.ins.map (againI t.ins.length t.exits.length)) (rows ++ more) j wr)) (fun i _ => t.exits.length - (RowKit.intOf i).toNat)
        case atStart => exact ⟨0, ev, [], rfl, by omega, rfl, Lib.hid (by rw [List.append_nil]; exact TX.out)⟩
        case round =>
          clear TX hzo BW hj hlt
          obtain ⟨j, ev, more, rfl, hj, hml, T⟩ := hrel
          obtain ⟨wq, hwq⟩ : ∃ wq, wq = wr := ⟨_, rfl⟩
          subst hwq
          have hzo := T.out.keep.size
          have BW := Lib.hid (K1.out.trans (T.out.keep.mono K1.out.size))
          have hrl : (rows ++ more).length = t.exits.length + j := by rw [List.length_append, HR1.out, hml]
          by_cases hlt : j < t.exits.length
          · obtain ⟨b, off, x, xcs, rfl, hb, hx, -, hxr, hat⟩ := QE.out.at_ hlt
            obtain ⟨s, m, rfl, ⟨S2, cS2, rfl, -⟩, ⟨M2, cM2, rfl, -⟩, -⟩ := id hxr
            have hbz : b < wq.heap.size := by omega
            have hji2 : (j : Int) < t.exits.length := by omega
            have g0 : wq.cell? ⟨b, off + j * 4, none⟩ = some (.int .i64 x.at_) := (BW.out.cell hb).trans (hat 0 _ rfl)
            have g1 : wq.cell? ⟨b, off + j * 4 + 1, none⟩ = some (.int .i64 x.steps) := (BW.out.cell hb).trans (hat 1 _ rfl)
            have g2 : wq.cell? ⟨b, off + j * 4 + 2, none⟩ = some (.slice S2 x.sets.length cS2) := (BW.out.cell hb).trans (hat 2 _ rfl)
            have g3 : wq.cell? ⟨b, off + j * 4 + 3, none⟩ = some (.slice M2 x.makes.length cM2) := (BW.out.cell hb).trans (hat 3 _ rfl)
            have HX := Lib.hid hx
            have hxm := List.mem_of_getElem? hx
            obtain ⟨wa, hwa⟩ : ∃ wa, wa = wq.alloc (.cells #[.int .i64 x.at_, .int .i64 x.steps, .slice S2 x.sets.length cS2, .slice M2 x.makes.length cM2] 32) := ⟨_, rfl⟩
            have KA : Hid (Below wq.heap.size wq wa) := by rw [hwa]; exact below_one _ _
            have TA := Lib.hid (T.out.below KA.out)
            have B0 : Hid (wa.heap[wq.heap.size]? = some (.cells #[.int .i64 x.at_, .int .i64 x.steps, .slice S2 x.sets.length cS2, .slice M2 x.makes.length cM2] 32 (0, 0))) := by rw [hwa]; exact heap_last _ _
            have HWA := Lib.hid hwa
            have KAW := Lib.hid (BW.out.trans (KA.out.mono BW.out.size))
            have CM2 : Hid (Calls Tryd.prog 85 #[.agg #[.int .i64 x.at_, .int .i64 x.steps, .slice S2 x.sets.length cS2, .slice M2 x.makes.length cM2], .int .i64 t.ins.length] wa.drew (MovedPost t.ins.length x wa.drew)) :=
              moved_c _ x t.ins.length t.ins.length wa.drew (hxr.keep (Nat.le_trans (by omega) KAW.out.drew.size) (fun _ hp => KAW.out.drew.cell hp)) (HC.out.exits x hxm) (by omega) (by omega) (by omega) (SM.out.exits x hxm)
            clear hwa hat hx hxr hxm
            go_upto_region 19 with fail
            rw [← HWA.out]
            clear g0 g1 g2 g3
            have e4 : ∀ E : Up wa, E.to.cell? ⟨g, 4, none⟩ = some ev := fun E => E.cell (HeadAt.of_row TA.out.row 4 _ rfl)
            have RX : Hid (∀ E : Up wa, E.to.rangeAt wq.heap.size 0 [.int .i64 x.at_, .int .i64 x.steps, .slice S2 x.sets.length cS2, .slice M2 x.makes.length cM2]) := fun E a v hv => by rw [Nat.zero_add]; exact E.cell (HeadAt.of_row B0.out a v hv)
            have LX : Hid ((Tryd.prog.info? 32).map (·.size) = some ([.int .i64 x.at_, .int .i64 x.steps, .slice S2 x.sets.length cS2, .slice M2 x.makes.length cM2] : List Value).length) := infoEx4
            refine wp_region_first (fun w' => ∃ E : Up wa, w' = E.to) 4 [4, 5, 6, 7, 8] [4, 5] (by kernel_rfl) (by decide) (by kernel_rfl) (fun _ _ d _ _ h => by cases d <;> exact h) ⟨⟨_, (Below.refl _ wa).drew⟩, rfl⟩ ?_
            simp only [List.take_succ_cons, List.take_zero]
            generalize hqq : (fun a' => wpMs _ _ _ _ _ _ a' _) = qq
            have HQQ := Lib.hid hqq
            clear hqq
            repeat (first
              | (refine wpQuiet_load_up 32 _ rfl rfl wq.heap.size 0 rfl [.int .i64 x.at_, .int .i64 x.steps, .slice S2 x.sets.length cS2, .slice M2 x.makes.length cM2] _ RX.out Tryd.underlying32 rfl LX.out ?_; go_simp)
              | go_big_quiet_step (fail))
            refine wpQuiet_nil ?_
            rw [← HQQ.out]
            clear HQQ qq e4 RX LX
            refine wpMs_step rfl (fun K hK => ?_)
            go_simp
            refine CM2.out.mono ?_
            rintro e w5 ⟨cs, rfl, mt, k5⟩
            have k5' : Below wa.heap.size wa w5 := ((Below.refl _ wa).drew).trans k5
            obtain ⟨s', m', rfl, ⟨A9, c9, rfl, -⟩, ⟨A0, c0, rfl, -⟩, -⟩ := id mt
            have K5 := Lib.hid k5'
            have MT := Lib.hid mt
            have T5 := Lib.hid (TA.out.below k5')
            refine hK _ _ (fun _ => ⟨⟨w5, K5.out⟩, rfl⟩) ?_
            clear hK K k5 k5' mt
            refine wpMs_step rfl (fun K hK => ?_)
            go_simp
            refine hK _ _ (fun _ => ⟨⟨_, K5.out.alloc K5.out.size _⟩, rfl⟩) ?_
            clear hK K
            obtain ⟨rs, hrs⟩ : ∃ rs, rs = rows ++ more := ⟨_, rfl⟩
            rw [← hrs] at T5 hrl
            obtain ⟨nx, hnx⟩ : ∃ nx, nx = rs.length := ⟨_, rfl⟩
            have hnx2 : nx ≤ 400 := by omega
            have O6 : Hid ((w5.alloc (.cells #[.int .i64 (movedM x t.ins.length).at_, .int .i64 (movedM x t.ins.length).steps, .slice A9 (movedM x t.ins.length).sets.length c9, .slice A0 (movedM x t.ins.length).makes.length c0] 32)).ownsRow w1.heap.size 32 4 ev nx (rs.flatMap id)) := by rw [hnx]; exact T5.out.owx.alloc _
            obtain ⟨x0, hx0, hx1, hx2, hx3⟩ := info_parts infoEx
            have HNX := Lib.hid hnx
            have HRS := Lib.hid hrs
            clear hnx hrs
            refine wpMs_list [6, 7, 8] _ _ (by kernel_rfl) (by kernel_rfl) ?_
            simp only [List.filterMap_cons, List.filterMap_nil, List.getElem?_toArray, List.getElem?_cons_zero, List.getElem?_cons_succ]
            refine wpList_append_own _ rfl _ _ 28 rfl w1.heap.size 32 x0 (.agg #[.int .i64 0, .int .i64 0, .slice none 0 0, .slice none 0 0]) 4 64 Tryd.underlying28 hx0 hx1 hx2 hx3 rfl (by decide) ev nx (rs.flatMap id) rfl O6.out ⟨w5.heap.size, 0, none⟩ 1 1 [.int .i64 (movedM x t.ins.length).at_, .int .i64 (movedM x t.ins.length).steps, .slice A9 (movedM x t.ins.length).sets.length c9, .slice A0 (movedM x t.ins.length).makes.length c0] rfl rfl ?m1 ?m2 ?m3 ?m4 ?m5 ?_
            case m1 => exact World.news_of_block (cs := #[.int .i64 (movedM x t.ins.length).at_, .int .i64 (movedM x t.ins.length).steps, .slice A9 (movedM x t.ins.length).sets.length c9, .slice A0 (movedM x t.ins.length).makes.length c0]) (heap_last w5 _)
            case m2 => intro u hu; simp at hu; rcases hu with rfl | rfl | rfl | rfl <;> rfl
            case m3 => unfold maxLen; omega
            case m4 => omega
            case m5 => have h1 := K5.out.size; have h2 := KA.out.size; simp; omega
            intro v' w6 hown hg _
            have TN := Lib.hid ((T5.out.below (below_one _ _)).addExt HX.out hrl ((MT.out.below (below_one _ _)).more (by have := KA.out.size; show _ ≤ wa.heap.size; omega)) (by rw [← HNX.out]; exact hown) hg)
            have T6 := Lib.hid (grow_far O6.out hg (heap_old T5.out.row _) (by decide))
            obtain ⟨A', n', c', rfl⟩ := own_is_slice hown
            have c7 := HeadAt.of_row T6.out 4 _ rfl
            have f7 := frozen_of_row w6 g 4 _ _ T6.out
            clear hown hg
            go_wp2_with fail
            go_roundw
            case rel =>
              refine ⟨j + 1, .slice A' n' c', more ++ [[.int .i64 (movedM x t.ins.length).at_, .int .i64 (movedM x t.ins.length).steps, .slice A9 (movedM x t.ins.length).sets.length c9, .slice A0 (movedM x t.ins.length).makes.length c0]], by go_num, by omega, by simp; omega, Lib.hid ?_⟩
              rw [← List.append_assoc, ← HRS.out]
              exact TN.out
            case measure => simp [RowKit.intOf]; omega
          · obtain rfl : j = t.exits.length := by omega
            have hji2 : ¬ (t.exits.length : Int) < t.exits.length := by omega
            obtain ⟨A1, n1, c1, rfl⟩ := own_is_slice T.out.own
            obtain ⟨A2, n2, c2, rfl⟩ := own_is_slice T.out.owx
            obtain ⟨s', m', rfl, ⟨A9, c9, rfl, -⟩, ⟨A0, c0, rfl, -⟩, -⟩ := id T.out.back
            have RG : Hid (wq.rangeAt g 0 [.int .i64 t.fn, .int .i64 t.at_, .int .i64 t.ins.length, .slice A1 n1 c1, .slice A2 n2 c2, .int .i64 t.back.at_, .int .i64 t.back.steps, .slice S t.back.sets.length cS, .slice M t.back.makes.length cM, .int .i64 (movedM t.back t.ins.length).at_, .int .i64 (movedM t.back t.ins.length).steps, .slice A9 (movedM t.back t.ins.length).sets.length c9, .slice A0 (movedM t.back t.ins.length).makes.length c0]) := (HeadAt.of_row T.out.row).range
            have LG : Hid ((Tryd.prog.info? 34).map (·.size) = some ([.int .i64 t.fn, .int .i64 t.at_, .int .i64 t.ins.length, .slice A1 n1 c1, .slice A2 n2 c2, .int .i64 t.back.at_, .int .i64 t.back.steps, .slice S t.back.sets.length cS, .slice M t.back.makes.length cM, .int .i64 (movedM t.back t.ins.length).at_, .int .i64 (movedM t.back t.ins.length).steps, .slice A9 (movedM t.back t.ins.length).sets.length c9, .slice A0 (movedM t.back t.ins.length).makes.length c0] : List Value).length) := infoTr13
            have E3 := Lib.hid ((T.out.keep.block _ hz1).trans E1.out)
            have BG : Hid (g ≠ w.heap.size + 1) := by have := T.out.hg; show g ≠ _; omega
            go_wp2_with (first | (refine wpList_load_mid rfl 34 _ rfl g 0 rfl [.int .i64 t.fn, .int .i64 t.at_, .int .i64 t.ins.length, .slice A1 n1 c1, .slice A2 n2 c2, .int .i64 t.back.at_, .int .i64 t.back.steps, .slice S t.back.sets.length cS, .slice M t.back.makes.length cM, .int .i64 (movedM t.back t.ins.length).at_, .int .i64 (movedM t.back t.ins.length).steps, .slice A9 (movedM t.back t.ins.length).sets.length c9, .slice A0 (movedM t.back t.ins.length).makes.length c0] _ RG.out Tryd.underlying34 rfl LG.out ?_) | (refine wpList_store_row rfl 34 _ _ rfl (w.heap.size + 1) #[.int .i64 t.fn, .int .i64 t.at_, .int .i64 t.ins.length, .slice A1 n1 c1, .slice A2 n2 c2, .int .i64 t.back.at_, .int .i64 t.back.steps, .slice S t.back.sets.length cS, .slice M t.back.makes.length cM, .int .i64 (movedM t.back t.ins.length).at_, .int .i64 (movedM t.back t.ins.length).steps, .slice A9 (movedM t.back t.ins.length).sets.length c9, .slice A0 (movedM t.back t.ins.length).makes.length c0] rfl rfl 34 _ E3.out infoTr13 rfl (all_oneCell_toArray (by simp [Value.oneCell'])) ?_) | fail)
            generalize hw9 : World.setRow _ _ _ = w9
            have HN9 : Hid (Below w.heap.size wq w9) := by rw [← hw9]; exact Below.set_row (Below.refl _ _) (by omega) _
            have R9 : Hid (w9.heap[w.heap.size + 1]? = some (.cells #[.int .i64 t.fn, .int .i64 t.at_, .int .i64 t.ins.length, .slice A1 n1 c1, .slice A2 n2 c2, .int .i64 t.back.at_, .int .i64 t.back.steps, .slice S t.back.sets.length cS, .slice M t.back.makes.length cM, .int .i64 (movedM t.back t.ins.length).at_, .int .i64 (movedM t.back t.ins.length).steps, .slice A9 (movedM t.back t.ins.length).sets.length c9, .slice A0 (movedM t.back t.ins.length).makes.length c0] 34 (0, 0))) := by rw [← hw9]; exact setRow_heap _ _ _ _ _ _ E3.out
            have TR9 : Hid (TraceR w9 w9.heap.size (twCells t (.slice A1 n1 c1) (.slice A2 n2 c2) [.int .i64 t.back.at_, .int .i64 t.back.steps, .slice S t.back.sets.length cS, .slice M t.back.makes.length cM] [.int .i64 (movedM t.back t.ins.length).at_, .int .i64 (movedM t.back t.ins.length).steps, .slice A9 (movedM t.back t.ins.length).sets.length c9, .slice A0 (movedM t.back t.ins.length).makes.length c0]) (twiceM t)) := by
              have BW9 := Lib.hid (BW.out.trans HN9.out)
              refine T.out.trace_row E3.out _ hw9.symm hrl (fun i x hx => ?_) (QB.out.keep BW9.out.size (fun _ hp => BW9.out.cell hp)) (fun x hx => ?_) WF0.out WF1.out hlen
              · obtain ⟨c, h1, h2, h3⟩ := NEAR.out i x hx
                exact ⟨c, by rw [List.getElem?_append_left (by have := (List.getElem?_eq_some_iff.1 h1).1; omega)]; exact h1, h2, h3.keep BW9.out.size (fun _ hp => BW9.out.cell hp)⟩
              · have hwf : ∀ x ∈ t.ins, WfIns x := fun x hx => by
                  obtain ⟨_, _, h⟩ := QI.out.mem hx
                  exact h
                rcases List.mem_append.1 hx with hx | hx
                · exact hwf x hx
                · obtain ⟨y, hy, rfl⟩ := List.mem_map.1 hx
                  obtain ⟨k, hk⟩ := List.getElem?_of_mem hy
                  have hkl := (List.getElem?_eq_some_iff.1 hk).1
                  exact again_wf (j := (k : Int)) (by omega) (by omega) (by omega) (by omega) (by omega) (HC.out.ins k y hk) (HEX.out k y hk) (hwf y hy)
            clear hw9 RG LG
            go_wp2_with fail
            have r0 := cell_of_row w9 (w.heap.size + 1) 0 _ _ _ R9.out
            have r1 := cell_of_row w9 (w.heap.size + 1) 1 _ _ _ R9.out
            have r2 := cell_of_row w9 (w.heap.size + 1) 2 _ _ _ R9.out
            have r3 := cell_of_row w9 (w.heap.size + 1) 3 _ _ _ R9.out
            have r4 := cell_of_row w9 (w.heap.size + 1) 4 _ _ _ R9.out
            have r5 := cell_of_row w9 (w.heap.size + 1) 5 _ _ _ R9.out
            have r6 := cell_of_row w9 (w.heap.size + 1) 6 _ _ _ R9.out
            have r7 := cell_of_row w9 (w.heap.size + 1) 7 _ _ _ R9.out
            have r8 := cell_of_row w9 (w.heap.size + 1) 8 _ _ _ R9.out
            have r9 := cell_of_row w9 (w.heap.size + 1) 9 _ _ _ R9.out
            have r10 := cell_of_row w9 (w.heap.size + 1) 10 _ _ _ R9.out
            have r11 := cell_of_row w9 (w.heap.size + 1) 11 _ _ _ R9.out
            have r12 := cell_of_row w9 (w.heap.size + 1) 12 _ _ _ R9.out
            refine bodyPost_ret (v := .agg #[.int .i64 t.fn, .int .i64 t.at_, .int .i64 t.ins.length, .slice A1 n1 c1, .slice A2 n2 c2, .int .i64 t.back.at_, .int .i64 t.back.steps, .slice S t.back.sets.length cS, .slice M t.back.makes.length cM, .int .i64 (movedM t.back t.ins.length).at_, .int .i64 (movedM t.back t.ins.length).steps, .slice A9 (movedM t.back t.ins.length).sets.length c9, .slice A0 (movedM t.back t.ins.length).makes.length c0]) (by simp [results, Tryd.results51, go_sem, r0, r1, r2, r3, r4, r5, r6, r7, r8, r9, r10, r11, r12]) rfl ⟨_, rfl, TR9.out, BW.out.trans HN9.out⟩
      end Go.Proofs.YtmccomeihnaanaaDoor
