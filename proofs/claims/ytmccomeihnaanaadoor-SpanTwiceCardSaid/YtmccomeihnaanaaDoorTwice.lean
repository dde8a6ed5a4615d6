/- SpanTwice: the walk. -/
import Derived.Test.YtmccomeihnaanaaDoorSpanR
import Derived.Test.YtmccomeihnaanaaDoorSameN
namespace Go.Proofs.YtmccomeihnaanaaDoor
open Go.RowKit Go.Maps

theorem spanDo_zero {p : CProg} {t z : TTrace} (h : spanDoM (ceOf p t) t = (z, 0)) : spanDoM (ceOf p z) z = (z, 0) := by
  have hc : ceOf p t = 0 := by
    by_cases c : ceOf p t = 0
    · exact c
    · unfold spanDoM at h
      rw [if_pos c] at h
      injection h with _ h
  have hk : checkM rightV (codeCheckM p) (p.fns.map fnOf) t = 0 := hc
  rw [hc, spanDo_ok (checkM_cuts hk)] at h
  injection h with h _
  subst h
  have hk2 := check_out hk
  have hc2 : ceOf p (outT t) = 0 := hk2
  rw [hc2, spanDo_ok (checkM_cuts hk2), outT_twice]
set_option maxHeartbeats 4000000 in
set_option maxRecDepth 100000 in
theorem spanTwice_walk (pcs ca : List Value) (p : CProg) (t : TTrace) (w : World) (hp : ProgR w w.heap.size pcs p) (ht : TraceR w w.heap.size ca t) (tab : Tab w) :
    Calls Tryd.prog 11 #[.agg ⟨pcs⟩, .agg ⟨ca⟩] w (Gives (.bool true) w) := by
  have HIp := Lib.hid hp.size3
  have HIt := Lib.hid ht.size13
  have HPR := Lib.hid hp
  have HTAB := Lib.hid tab
  obtain ⟨w0, hw0⟩ : ∃ w0, w0 = (w.alloc (.cells ⟨pcs⟩ 26)).alloc (.cells ⟨ca⟩ 34) := ⟨_, rfl⟩
  have TB := two_box w pcs ca 26 34
  rw [← hw0] at TB
  obtain ⟨t1, t2, t3⟩ := TB
  have H1 := Lib.hid t1
  have H2 := Lib.hid t2
  have K0 := Lib.hid t3
  have HW := Lib.hid hw0
  have R1 := Lib.hid H1.out.range
  have R2 := Lib.hid H2.out.range
  have CE := Lib.hid (spanDo_c pcs ca p t w0 (hp.below K0.out) (ht.below K0.out) (tab.below K0.out))
  clear hp ht hw0 t1 t2 t3 tab
  go_enter Tryd.func11, Tryd.ntmps11
  go_wp2_with (first | (refine wpList_load_mid rfl 26 _ rfl w.heap.size 0 rfl pcs _ (by rw [← HW.out]; exact R1.out) Tryd.underlying26 rfl HIp.out ?_) | (refine wpList_load_mid rfl 34 _ rfl (w.heap.size + 1) 0 rfl ca _ (by rw [← HW.out]; exact R2.out) Tryd.underlying34 rfl HIt.out ?_) | fail)
  rw [← HW.out]
  refine CE.out.mono ?_
  rintro e w1 ⟨cs, rfl, tr, k1⟩
  obtain ⟨zr, hzr⟩ : ∃ z, spanDoM (ceOf p t) t = z := ⟨_, rfl⟩
  rw [hzr] at tr
  rw [hzr]
  obtain ⟨z, r⟩ := zr
  dsimp only at tr ⊢
  have HOK : Hid (r = 0 → spanDoM (ceOf p z) z = (z, 0)) := fun e => spanDo_zero (hzr.trans (by rw [e]))
  have HTR := Lib.hid tr
  obtain ⟨B1, m1, B2, m2, B3, m3, B4, m4, B5, m5, B6, m6, rfl, -⟩ := tr.cells
  have K1 := Lib.hid (K0.out.trans (k1.mono K0.out.size))
  have G1 := Lib.hid (H1.out.on k1)
  clear tr k1 hzr CE R1 R2
  obtain ⟨w2, hw2⟩ : ∃ w2, w2 = w1.alloc (.cells #[.int .i64 z.fn, .int .i64 z.at_, .int .i64 z.loop, .slice B1 z.ins.length m1, .slice B2 z.exits.length m2, .int .i64 z.turn.at_, .int .i64 z.turn.steps, .slice B3 z.turn.sets.length m3, .slice B4 z.turn.makes.length m4, .int .i64 z.back.at_, .int .i64 z.back.steps, .slice B5 z.back.sets.length m5, .slice B6 z.back.makes.length m6] 34) := ⟨_, rfl⟩
  have L2 : Hid (Below w1.heap.size w1 w2) := by rw [hw2]; exact below_one _ _
  have O2 : Hid (HeadAt w2 w1.heap.size [.int .i64 z.fn, .int .i64 z.at_, .int .i64 z.loop, .slice B1 z.ins.length m1, .slice B2 z.exits.length m2, .int .i64 z.turn.at_, .int .i64 z.turn.steps, .slice B3 z.turn.sets.length m3, .slice B4 z.turn.makes.length m4, .int .i64 z.back.at_, .int .i64 z.back.steps, .slice B5 z.back.sets.length m5, .slice B6 z.back.makes.length m6]) := HeadAt.of_row (by rw [hw2]; exact heap_last _ _)
  have K2 := Lib.hid (K1.out.trans (L2.out.mono K1.out.size))
  have G2 := Lib.hid (G1.out.on L2.out)
  have hz2 : w1.heap.size < w2.heap.size := by rw [hw2]; simp
  have HW2 := Lib.hid hw2
  clear hw2
  go_upto_region 2 with fail
  rw [← HW2.out]
  by_cases hr : r = 0
  case neg =>
    have hr' : (r != 0) = true := by simpa using hr
    go_wp2_with fail
    refine (irred_c w2).mono ?_
    rintro e w3 ⟨rfl, k3⟩
    have K3 := Lib.hid (K2.out.trans (k3.mono K2.out.size))
    clear k3
    go_wp2_with fail
    go_ret
    exact ⟨rfl, K3.out⟩
  subst hr
  have OK := Lib.hid (HOK.out rfl)
  have TZ := Lib.hid (HTR.out.below L2.out)
  have CF := spanDo_c pcs _ p z w2 (HPR.out.below K2.out) TZ.out (HTAB.out.below K2.out)
  rw [OK.out] at CF
  have HCF := Lib.hid CF
  have RP := Lib.hid G2.out.range
  have RO := Lib.hid O2.out.range
  have LO : Hid ((Tryd.prog.info? 34).map (·.size) = some ([.int .i64 z.fn, .int .i64 z.at_, .int .i64 z.loop, .slice B1 z.ins.length m1, .slice B2 z.exits.length m2, .int .i64 z.turn.at_, .int .i64 z.turn.steps, .slice B3 z.turn.sets.length m3, .slice B4 z.turn.makes.length m4, .int .i64 z.back.at_, .int .i64 z.back.steps, .slice B5 z.back.sets.length m5, .slice B6 z.back.makes.length m6] : List Value).length) := infoTr13
  clear CF HOK
  go_wp2_with (first | (refine wpList_load_mid rfl 26 _ rfl w.heap.size 0 rfl pcs _ RP.out Tryd.underlying26 rfl HIp.out ?_) | (refine wpList_load_mid rfl 34 _ rfl w1.heap.size 0 rfl [.int .i64 z.fn, .int .i64 z.at_, .int .i64 z.loop, .slice B1 z.ins.length m1, .slice B2 z.exits.length m2, .int .i64 z.turn.at_, .int .i64 z.turn.steps, .slice B3 z.turn.sets.length m3, .slice B4 z.turn.makes.length m4, .int .i64 z.back.at_, .int .i64 z.back.steps, .slice B5 z.back.sets.length m5, .slice B6 z.back.makes.length m6] _ RO.out Tryd.underlying34 rfl LO.out ?_) | fail)
  refine HCF.out.mono ?_
  rintro e w3 ⟨cs, rfl, tr, k3⟩
  have HTR3 := Lib.hid tr
  obtain ⟨D1, d1, D2, d2, D3, d3, D4, d4, D5, d5, D6, d6, rfl, -⟩ := tr.cells
  have K3 := Lib.hid (K2.out.trans (k3.mono K2.out.size))
  have O3 := Lib.hid (O2.out.on k3)
  have TZ3 := Lib.hid (TZ.out.below k3)
  have hz3 : w1.heap.size < w3.heap.size := Nat.lt_of_lt_of_le hz2 k3.size
  clear tr k3 HCF RP RO
  obtain ⟨w4, hw4⟩ : ∃ w4, w4 = w3.alloc (.cells #[.int .i64 z.fn, .int .i64 z.at_, .int .i64 z.loop, .slice D1 z.ins.length d1, .slice D2 z.exits.length d2, .int .i64 z.turn.at_, .int .i64 z.turn.steps, .slice D3 z.turn.sets.length d3, .slice D4 z.turn.makes.length d4, .int .i64 z.back.at_, .int .i64 z.back.steps, .slice D5 z.back.sets.length d5, .slice D6 z.back.makes.length d6] 34) := ⟨_, rfl⟩
  have L4 : Hid (Below w3.heap.size w3 w4) := by rw [hw4]; exact below_one _ _
  have Q4 : Hid (HeadAt w4 w3.heap.size [.int .i64 z.fn, .int .i64 z.at_, .int .i64 z.loop, .slice D1 z.ins.length d1, .slice D2 z.exits.length d2, .int .i64 z.turn.at_, .int .i64 z.turn.steps, .slice D3 z.turn.sets.length d3, .slice D4 z.turn.makes.length d4, .int .i64 z.back.at_, .int .i64 z.back.steps, .slice D5 z.back.sets.length d5, .slice D6 z.back.makes.length d6]) := HeadAt.of_row (by rw [hw4]; exact heap_last _ _)
  have K4 := Lib.hid (K3.out.trans (L4.out.mono K3.out.size))
  have O4 := Lib.hid (O3.out.on L4.out)
  have hz4 : w3.heap.size < w4.heap.size := by rw [hw4]; simp
  have HW4 := Lib.hid hw4
  clear hw4
  go_upto_region 5 with fail
  rw [← HW4.out]
  go_wp2_with fail
  refine (irred_c w4).mono ?_
  rintro e w5 ⟨rfl, k5⟩
  have K5 := Lib.hid (K4.out.trans (k5.mono K4.out.size))
  have O5 := Lib.hid (O4.out.on k5)
  have Q5 := Lib.hid (Q4.out.on k5)
  have L5 := Lib.hid (L4.out.trans (k5.mono L4.out.size))
  have hz5 : w3.heap.size < w5.heap.size := Nat.lt_of_lt_of_le hz4 k5.size
  have SC := same_trace_c _ _ z z w5 (HTR3.out.below L5.out) (TZ3.out.below L5.out)
  rw [decide_eq_true rfl] at SC
  have HSC := Lib.hid SC
  have RA := Lib.hid Q5.out.range
  have RB := Lib.hid O5.out.range
  have LD : Hid ((Tryd.prog.info? 34).map (·.size) = some ([.int .i64 z.fn, .int .i64 z.at_, .int .i64 z.loop, .slice D1 z.ins.length d1, .slice D2 z.exits.length d2, .int .i64 z.turn.at_, .int .i64 z.turn.steps, .slice D3 z.turn.sets.length d3, .slice D4 z.turn.makes.length d4, .int .i64 z.back.at_, .int .i64 z.back.steps, .slice D5 z.back.sets.length d5, .slice D6 z.back.makes.length d6] : List Value).length) := infoTr13
  clear k5 SC
  go_wp2_with (first
    | (refine wpList_load_on 34 _ rfl rfl w3.heap.size 0 rfl [.int .i64 z.fn, .int .i64 z.at_, .int .i64 z.loop, .slice D1 z.ins.length d1, .slice D2 z.exits.length d2, .int .i64 z.turn.at_, .int .i64 z.turn.steps, .slice D3 z.turn.sets.length d3, .slice D4 z.turn.makes.length d4, .int .i64 z.back.at_, .int .i64 z.back.steps, .slice D5 z.back.sets.length d5, .slice D6 z.back.makes.length d6] _ RA.out Tryd.underlying34 rfl LD.out ?_)
    | (refine wpList_load_on 34 _ rfl rfl w1.heap.size 0 rfl [.int .i64 z.fn, .int .i64 z.at_, .int .i64 z.loop, .slice B1 z.ins.length m1, .slice B2 z.exits.length m2, .int .i64 z.turn.at_, .int .i64 z.turn.steps, .slice B3 z.turn.sets.length m3, .slice B4 z.turn.makes.length m4, .int .i64 z.back.at_, .int .i64 z.back.steps, .slice B5 z.back.sets.length m5, .slice B6 z.back.makes.length m6] _ RB.out Tryd.underlying34 rfl LO.out ?_)
    | fail)
  refine HSC.out.mono ?_
  rintro e w6 ⟨rfl, k6⟩
  have K6 := Lib.hid (K5.out.trans (k6.mono K5.out.size))
  clear k6
  go_wp2_with fail
  go_ret
  exact ⟨rfl, K6.out⟩
end Go.Proofs.YtmccomeihnaanaaDoor
