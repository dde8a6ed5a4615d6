/- SinkKept: the walk. -/
import Derived.Test.YtlnkjmgfkpeicaaGreatDoorSinkK
set_option linter.all false
namespace Go.Proofs.YtlnkjmgfkpeicaaGreatDoor
open Go.RowKit

theorem TraceR.cellsK {w : World} {B : Nat} {cs : List Value} {z : TTrace} (h : TraceR w B cs z) : ∃ B1 m1 B2 m2 B3 m3 B4 m4 B5 m5 B6 m6, cs = [.int .i64 z.fn, .int .i64 z.at_, .int .i64 z.loop, .slice B1 z.ins.length m1, .slice B2 z.exits.length m2, .int .i64 z.turn.at_, .int .i64 z.turn.steps, .slice B3 z.turn.sets.length m3, .slice B4 z.turn.makes.length m4, .int .i64 z.back.at_, .int .i64 z.back.steps, .slice B5 z.back.sets.length m5, .slice B6 z.back.makes.length m6] ∧ SliceR w B 8 InsR (.slice B1 z.ins.length m1) z.ins ∧ SliceR w B 2 SetR (.slice B5 z.back.sets.length m5) z.back.sets := by
  obtain ⟨i, e, ct, cb, rfl, hi, ⟨A2, n2, rfl, -⟩, ⟨s1, m1, rfl, ⟨A3, n3, rfl, -⟩, ⟨A4, n4, rfl, -⟩, -⟩, ⟨s2, m2, rfl, hs, ⟨A6, n6, rfl, -⟩, -⟩, -⟩ := h
  obtain ⟨A1, n1, rfl, -⟩ := id hi
  obtain ⟨A5, n5, rfl, -⟩ := id hs
  exact ⟨A1, n1, A2, n2, A3, n3, A4, n4, A5, n5, A6, n6, rfl, hi, hs⟩
set_option maxHeartbeats 8000000 in
set_option maxRecDepth 100000 in
theorem sinkKept_walk (pcs ca : List Value) (p : CProg) (t : TTrace) (w : World) (hp : ProgR w w.heap.size pcs p) (ht : TraceR w w.heap.size ca t) (tab : Tab w) :
    Calls Tryz.prog 3 #[.agg ⟨pcs⟩, .agg ⟨ca⟩] w (Gives (.bool true) w) := by
  have HIp := Lib.hid hp.size3
  have HT := Lib.hid ht
  obtain ⟨A1, n1, A2, n2, A3, n3, A4, n4, A5, n5, A6, n6, hca, qi, qs⟩ := ht.cellsK
  subst hca
  have LTT : Hid ((Tryz.prog.info? 34).map (·.size) = some ([.int .i64 t.fn, .int .i64 t.at_, .int .i64 t.loop, .slice A1 t.ins.length n1, .slice A2 t.exits.length n2, .int .i64 t.turn.at_, .int .i64 t.turn.steps, .slice A3 t.turn.sets.length n3, .slice A4 t.turn.makes.length n4, .int .i64 t.back.at_, .int .i64 t.back.steps, .slice A5 t.back.sets.length n5, .slice A6 t.back.makes.length n6] : List Value).length) := infoTr13
  have li := len_le qi
  have ls := len_le qs
  have QI := Lib.hid qi
  have QS := Lib.hid qs
  obtain ⟨w0, hw0⟩ : ∃ w0, w0 = (w.alloc (.cells ⟨pcs⟩ 26)).alloc (.cells #[.int .i64 t.fn, .int .i64 t.at_, .int .i64 t.loop, .slice A1 t.ins.length n1, .slice A2 t.exits.length n2, .int .i64 t.turn.at_, .int .i64 t.turn.steps, .slice A3 t.turn.sets.length n3, .slice A4 t.turn.makes.length n4, .int .i64 t.back.at_, .int .i64 t.back.steps, .slice A5 t.back.sets.length n5, .slice A6 t.back.makes.length n6] 34) := ⟨_, rfl⟩
  have TB := two_box w pcs [.int .i64 t.fn, .int .i64 t.at_, .int .i64 t.loop, .slice A1 t.ins.length n1, .slice A2 t.exits.length n2, .int .i64 t.turn.at_, .int .i64 t.turn.steps, .slice A3 t.turn.sets.length n3, .slice A4 t.turn.makes.length n4, .int .i64 t.back.at_, .int .i64 t.back.steps, .slice A5 t.back.sets.length n5, .slice A6 t.back.makes.length n6] 26 34
  obtain ⟨t1, t2, t3⟩ := TB
  have H1 : Hid (HeadAt w0 w.heap.size pcs) := by rw [hw0]; exact t1
  have H2 : Hid (HeadAt w0 (w.heap.size + 1) [.int .i64 t.fn, .int .i64 t.at_, .int .i64 t.loop, .slice A1 t.ins.length n1, .slice A2 t.exits.length n2, .int .i64 t.turn.at_, .int .i64 t.turn.steps, .slice A3 t.turn.sets.length n3, .slice A4 t.turn.makes.length n4, .int .i64 t.back.at_, .int .i64 t.back.steps, .slice A5 t.back.sets.length n5, .slice A6 t.back.makes.length n6]) := by rw [hw0]; exact t2
  have K0 : Hid (Below w.heap.size w w0) := by rw [hw0]; exact t3
  have HW := Lib.hid hw0
  have R1 := Lib.hid H1.out.range
  have R2 := Lib.hid H2.out.range
  have CE := Lib.hid (sinkDo_c pcs [.int .i64 t.fn, .int .i64 t.at_, .int .i64 t.loop, .slice A1 t.ins.length n1, .slice A2 t.exits.length n2, .int .i64 t.turn.at_, .int .i64 t.turn.steps, .slice A3 t.turn.sets.length n3, .slice A4 t.turn.makes.length n4, .int .i64 t.back.at_, .int .i64 t.back.steps, .slice A5 t.back.sets.length n5, .slice A6 t.back.makes.length n6] p t w0 (hp.below K0.out) (ht.below K0.out) (tab.below K0.out))
  have hzw : w.heap.size + 1 < w0.heap.size := by rw [hw0]; simp
  clear hp ht hw0 t1 t2 t3 tab qi qs
  go_enter Tryz.func3, Tryz.ntmps3
  go_upto_region 1 with fail
  rw [← HW.out]
  go_wp2_with (first
    | (refine wpList_load_mid rfl 26 _ rfl w.heap.size 0 rfl pcs _ R1.out Tryz.underlying26 rfl HIp.out ?_)
    | (refine wpList_load_mid rfl 34 _ rfl (w.heap.size + 1) 0 rfl [.int .i64 t.fn, .int .i64 t.at_, .int .i64 t.loop, .slice A1 t.ins.length n1, .slice A2 t.exits.length n2, .int .i64 t.turn.at_, .int .i64 t.turn.steps, .slice A3 t.turn.sets.length n3, .slice A4 t.turn.makes.length n4, .int .i64 t.back.at_, .int .i64 t.back.steps, .slice A5 t.back.sets.length n5, .slice A6 t.back.makes.length n6] _ R2.out Tryz.underlying34 rfl LTT.out ?_)
    | fail)
  refine CE.out.mono ?_
  rintro e w1 ⟨cs, z, r, rfl, tr, k1, law⟩
  obtain ⟨B1, m1, B2, m2, B3, m3, B4, m4, B5, m5, B6, m6, hcs, qi, qs⟩ := tr.cellsK
  subst hcs
  have lz := len_le qi
  have LAW := Lib.hid law
  have ZI := Lib.hid qi
  have ZS := Lib.hid qs
  have K1 := Lib.hid (K0.out.trans (k1.mono K0.out.size))
  have G2 := Lib.hid (H2.out.on k1)
  have hz1 := k1.size
  clear tr k1 qi qs law CE R1 R2
  obtain ⟨w2, hw2⟩ : ∃ w2, w2 = w1.alloc (.cells #[.int .i64 z.fn, .int .i64 z.at_, .int .i64 z.loop, .slice B1 z.ins.length m1, .slice B2 z.exits.length m2, .int .i64 z.turn.at_, .int .i64 z.turn.steps, .slice B3 z.turn.sets.length m3, .slice B4 z.turn.makes.length m4, .int .i64 z.back.at_, .int .i64 z.back.steps, .slice B5 z.back.sets.length m5, .slice B6 z.back.makes.length m6] 34) := ⟨_, rfl⟩
  have L2 : Hid (Below w1.heap.size w1 w2) := by rw [hw2]; exact below_one _ _
  have O2 : Hid (HeadAt w2 w1.heap.size [.int .i64 z.fn, .int .i64 z.at_, .int .i64 z.loop, .slice B1 z.ins.length m1, .slice B2 z.exits.length m2, .int .i64 z.turn.at_, .int .i64 z.turn.steps, .slice B3 z.turn.sets.length m3, .slice B4 z.turn.makes.length m4, .int .i64 z.back.at_, .int .i64 z.back.steps, .slice B5 z.back.sets.length m5, .slice B6 z.back.makes.length m6]) := HeadAt.of_row (by rw [hw2]; exact heap_last _ _)
  have K2 := Lib.hid (K1.out.trans (L2.out.mono K1.out.size))
  have F2 := Lib.hid (G2.out.on L2.out)
  have hz2 : w1.heap.size < w2.heap.size := by rw [hw2]; simp
  have HW2 := Lib.hid hw2
  clear hw2
  go_upto_region 2 with fail
  rw [← HW2.out]
  by_cases hr : r = 0
  case neg =>
    have hr' : (r != 0) = true := by simpa using hr
    go_wp2_with fail
    refine (irred_c w2).mono ?_
    rintro e w3 ⟨rfl, k3⟩
    have K3 := Lib.hid (K2.out.trans (k3.mono K2.out.size))
    clear k3
    go_wp2_with fail
    go_ret
    exact ⟨rfl, K3.out⟩
  subst hr
  obtain ⟨hchk, hkeep⟩ := LAW.out rfl
  have CU := Lib.hid (checkM_cuts hchk)
  have KP := Lib.hid hkeep
  clear hchk hkeep LAW
  have o11 : w2.cell? ⟨w1.heap.size, 11, none⟩ = some (.slice B5 t.back.sets.length m5) := by rw [← KP.out.back]; exact O2.out 11 _ rfl
  have o7 : w2.cell? ⟨w1.heap.size, 7, none⟩ = some (.slice B3 t.turn.sets.length m3) := by rw [← KP.out.turn]; exact O2.out 7 _ rfl
  have f11 : w2.cell? ⟨w.heap.size + 1, 11, none⟩ = some (.slice A5 t.back.sets.length n5) := F2.out 11 _ rfl
  have f7 : w2.cell? ⟨w.heap.size + 1, 7, none⟩ = some (.slice A3 t.turn.sets.length n3) := F2.out 7 _ rfl
  go_wp2_with fail
  have F11 := Lib.hid f11
  have O11 := Lib.hid o11
  clear f11 f7 o11 o7
  go_loopw [41] (fun i wr => ∃ j : Nat, i = .int .i64 j ∧ j ≤ t.back.sets.length ∧ Hid (Below w2.heap.size w2 wr)) (fun i _ => t.back.sets.length - (RowKit.intOf i).toNat)
  case atStart => exact ⟨0, rfl, by omega, Below.refl _ _⟩
  case round =>
    obtain ⟨j, rfl, hj, KW⟩ := hrel
    obtain ⟨wo, hwo⟩ : ∃ wo, wo = wr := ⟨_, rfl⟩
    subst hwo
    have KT := Lib.hid (K2.out.trans (KW.out.mono K2.out.size))
    have KZ := Lib.hid (L2.out.trans (KW.out.mono L2.out.size))
    by_cases hlt : j < t.back.sets.length
    · have hji : (j : Int) < t.back.sets.length := by omega
      obtain ⟨b, off, s, cs, rfl, hb, hs, -, ⟨rfl, -, -⟩, hat⟩ := QS.out.at_ hlt
      have hv := CU.out.back.1 s (List.mem_of_getElem? hs)
      obtain ⟨k, hk⟩ := Int.eq_ofNat_of_zero_le hv.1
      have hkl : k < t.ins.length := by omega
      have hki : (k : Int) < t.ins.length := by omega
      obtain ⟨b1, off1, x, cs, rfl, hb1, hx, -, ⟨rfl, -⟩, hat1⟩ := QI.out.at_ hkl
      have e3 : ∀ E : Up wo, E.to.cell? ⟨w.heap.size + 1, 3, none⟩ = some (.slice (some ⟨b1, off1, none⟩) t.ins.length n1) := fun E => E.cell (cell_on KW.out (F2.out 3 _ rfl))
      have e11 : ∀ E : Up wo, E.to.cell? ⟨w.heap.size + 1, 11, none⟩ = some (.slice (some ⟨b, off, none⟩) t.back.sets.length n5) := fun E => E.cell (cell_on KW.out F11.out)
      have ev : ∀ E : Up wo, E.to.cell? ⟨b, off + j * 2 + 1, none⟩ = some (.int .i64 k) := fun E => E.cell ((KT.out.cell hb).trans (by rw [← hk]; exact hat 1 _ rfl))
      have eo : ∀ E : Up wo, E.to.cell? ⟨b1, off1 + k * 8, none⟩ = some (.int .i64 x.op) := fun E => E.cell ((KT.out.cell hb1).trans (hat1 0 _ rfl))
      by_cases ho : x.op = 16
      · have hjz : j < z.back.sets.length := by rw [KP.out.back]; exact hlt
        obtain ⟨b2, off2, s', cs, rfl, hb2, hs', -, ⟨rfl, -, -⟩, hat2⟩ := ZS.out.at_ hjz
        obtain ⟨k', y, hk', hy, hyo⟩ := KP.out.new_ j s s' hs hs' ⟨k, x, hk, hx, ho⟩
        have hkz : k' < z.ins.length := (List.getElem?_eq_some_iff.1 hy).1
        have hkzi : (k' : Int) < z.ins.length := by omega
        obtain ⟨b3, off3, y', cs, rfl, hb3, hy', -, ⟨rfl, -⟩, hat3⟩ := ZI.out.at_ hkz
        obtain rfl : y = y' := by rw [hy] at hy'; injection hy'
        rw [ho] at eo
        have z3 : ∀ E : Up wo, E.to.cell? ⟨w1.heap.size, 3, none⟩ = some (.slice (some ⟨b3, off3, none⟩) z.ins.length m1) := fun E => E.cell (cell_on KW.out (O2.out 3 _ rfl))
        have z11 : ∀ E : Up wo, E.to.cell? ⟨w1.heap.size, 11, none⟩ = some (.slice (some ⟨b2, off2, none⟩) t.back.sets.length m5) := fun E => E.cell (cell_on KW.out O11.out)
        have zv : ∀ E : Up wo, E.to.cell? ⟨b2, off2 + j * 2 + 1, none⟩ = some (.int .i64 k') := fun E => E.cell ((KZ.out.cell hb2).trans (by rw [← hk']; exact hat2 1 _ rfl))
        have zo : ∀ E : Up wo, E.to.cell? ⟨b3, off3 + k' * 8, none⟩ = some (.int .i64 16) := fun E => E.cell ((KZ.out.cell hb3).trans (by rw [← hyo]; exact hat3 0 _ rfl))
        clear hat hat1 hat2 hat3 hs hs' hx hy hy' hk hk' hyo ho hv
        go_upto_region 9 with fail
        refine wp_region_up (by kernel_rfl) (by kernel_rfl) ?_
        repeat (go_big_quiet_step (fail))
        refine wpQuiet_nil ?_
        intro w9 hE
        obtain ⟨E, rfl⟩ := hE
        obtain ⟨w9, k9⟩ := E
        have K9 := Lib.hid (KW.out.trans (k9.mono KW.out.size))
        dsimp only
        clear k9
        go_wp2_with fail
        go_roundw
        case rel => exact ⟨j + 1, by go_num, by omega, K9.out⟩
        case measure => simp [RowKit.intOf]; omega
      · have hof : (x.op == 16) = false := beq_eq_false_iff_ne.2 ho
        clear hat hat1 hs hx hk ho hv
        go_upto_region 9 with fail
        refine wp_region_up (by kernel_rfl) (by kernel_rfl) ?_
        repeat (go_big_quiet_step (fail))
        refine wpQuiet_nil ?_
        intro w9 hE
        obtain ⟨E, rfl⟩ := hE
        obtain ⟨w9, k9⟩ := E
        have K9 := Lib.hid (KW.out.trans (k9.mono KW.out.size))
        dsimp only
        clear k9
        go_wp2_with fail
        go_roundw
        case rel => exact ⟨j + 1, by go_num, by omega, K9.out⟩
        case measure => simp [RowKit.intOf]; omega
    · have hji : ¬ (j : Int) < t.back.sets.length := by omega
      go_wp2_with fail
      refine (irred_c wo).mono ?_
      rintro e w5 ⟨rfl, k5⟩
      have K5 := Lib.hid (KT.out.trans (k5.mono KT.out.size))
      clear k5
      go_wp2_with fail
      go_ret
      exact ⟨rfl, K5.out⟩
end Go.Proofs.YtlnkjmgfkpeicaaGreatDoor
