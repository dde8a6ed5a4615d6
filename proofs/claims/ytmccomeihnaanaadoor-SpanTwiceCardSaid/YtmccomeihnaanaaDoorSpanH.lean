/- span.fine, span.Of. -/
import Derived.Test.YtmccomeihnaanaaDoorSpanG
namespace Go.Proofs.YtmccomeihnaanaaDoor
open Go.RowKit Go.Maps

set_option maxHeartbeats 4000000 in
set_option maxRecDepth 100000 in
theorem fine_c (ca : List Value) (t : TTrace) (w : World) (ht : TraceR w w.heap.size ca t) (hl : t.ins.length ≤ 300) (hfi : FineM t.ins) : Calls Tryd.prog 54 #[.agg ⟨ca⟩] w (Gives (.bool true) w) := by
  obtain ⟨Ai, ni, p3, qi⟩ := ht.at3
  have QI := Lib.hid qi
  have hil : (t.ins.length : Int) ≤ 300 := by omega
  obtain ⟨w1, hw1⟩ : ∃ w1, w1 = w.alloc (.cells ⟨ca⟩ 34) := ⟨_, rfl⟩
  have K1 : Hid (Below w.heap.size w w1) := by rw [hw1]; exact below_one _ _
  have D1 : Hid (w1.heap[w.heap.size]? = some (.cells ⟨ca⟩ 34 (0, 0))) := by rw [hw1]; exact heap_last _ _
  have hz1 : w.heap.size < w1.heap.size := (Array.getElem?_eq_some_iff.1 D1.out).1
  have l3 := HeadAt.of_row D1.out 3 _ p3
  have HW1 := Lib.hid hw1
  clear hw1 ht qi p3
  go_enter Tryd.func54, Tryd.ntmps54
  go_upto_region 1 with fail
  rw [← HW1.out]
  go_wp2_with fail
  clear l3
  go_loopw [10] (fun i wr => ∃ j : Nat, i = .int .i64 j ∧ j ≤ t.ins.length ∧ Hid (Below w1.heap.size w1 wr)) (fun i _ => t.ins.length - (RowKit.intOf i).toNat)
  case atStart => exact ⟨0, rfl, by omega, Below.refl _ _⟩
  case round =>
    obtain ⟨j, rfl, hj, KW⟩ := hrel
    obtain ⟨wo, hwo⟩ : ∃ wo, wo = wr := ⟨_, rfl⟩
    subst hwo
    have kk := Lib.hid (K1.out.trans (KW.out.mono K1.out.size))
    by_cases hlt : j < t.ins.length
    · obtain ⟨b, off, x, rfl, hb, hx, wx, hat⟩ := ins_op QI.out hlt
      have hji : (j : Int) < t.ins.length := by omega
      obtain ⟨g0, g1, g2, g3, g4, g5, g6, g7⟩ := ins_at hat hb kk.out
      have hbz : b < wo.heap.size := Nat.lt_of_lt_of_le hb kk.out.size
      have AH := Lib.hid (hfi j x hx)
      obtain ⟨wa, hwa⟩ : ∃ wa, wa = wo.alloc (.cells #[.int .i64 x.op, .int .i64 x.a, .int .i64 x.b, .int .i64 x.c, .int .i64 x.n, .int .i64 x.exit, .int .i64 x.k.kind, .int .i64 x.k.n] 43) := ⟨_, rfl⟩
      have LA : Hid (Below wo.heap.size wo wa) := by rw [hwa]; exact below_one _ _
      have XA : Hid (wa.heap[wo.heap.size]? = some (.cells ⟨insCells x⟩ 43 (0, 0))) := by rw [hwa]; exact heap_last _ _
      have hza : wo.heap.size < wa.heap.size := (Array.getElem?_eq_some_iff.1 XA.out).1
      have RX : Hid (wa.rangeAt wo.heap.size 0 (insCells x)) := (HeadAt.of_row XA.out).range
      have LX : Hid ((Tryd.prog.info? 43).map (·.size) = some (insCells x).length) := infoIns8
      have AC := Lib.hid (asks_c x wx wa)
      have KA := Lib.hid (KW.out.trans (LA.out.mono KW.out.size))
      have HWA := Lib.hid hwa
      clear hwa hat hx wx
      go_upto_region 4 with fail
      rw [← HWA.out]
      clear g0 g1 g2 g3 g4 g5 g6 g7
      go_wp2_with (refine wpList_load_mid rfl 43 _ rfl wo.heap.size 0 rfl (insCells x) _ RX.out Tryd.underlying43 rfl LX.out ?_)
      refine AC.out.mono ?_
      rintro e w2 ⟨v, rfl, hv, k2⟩
      have HV := Lib.hid hv
      obtain ⟨A, cap, rfl, lv, lc, -⟩ := hv
      unfold maxLen at lc
      have K2 := Lib.hid (KA.out.trans (k2.mono KA.out.size))
      clear k2
      go_wp2_with fail
      go_loopw [18] (fun i wr => ∃ m : Nat, i = .int .i64 m ∧ m ≤ (asksM x).length ∧ Hid (Below w2.heap.size w2 wr)) (fun i _ => (asksM x).length - (RowKit.intOf i).toNat)
      case atStart => exact ⟨0, rfl, by omega, Below.refl _ _⟩
      case round =>
        obtain ⟨m, rfl, hm, KX⟩ := hrel
        have KY := Lib.hid (K2.out.trans (KX.out.mono K2.out.size))
        by_cases hlm : m < (asksM x).length
        · obtain ⟨b2, off2, y, ys, rfl, hb2, hy, -, ⟨rfl, wy⟩, hat⟩ := HV.out.at_ hlm
          have hmi : (m : Int) < (asksM x).length := by omega
          obtain ⟨a1, a2⟩ := AH.out y (List.mem_of_getElem? hy)
          have f2 : wr.cell? ⟨b2, off2 + m, none⟩ = some (.int .i64 y) := (KX.out.cell hb2).trans (by simpa using hat 0 _ rfl)
          have hbz2 : b2 < wr.heap.size := Nat.lt_of_lt_of_le hb2 KX.out.size
          have d1 : ¬ y < 0 := by omega
          have d2 : ¬ (j : Int) ≤ y := by omega
          clear hat hy wy
          go_wp2_with fail
          go_roundw
          case rel => exact ⟨m + 1, by go_num, by omega, KX.out⟩
          case measure => simp [RowKit.intOf]; omega
        · have hmi : ¬ (m : Int) < (asksM x).length := by omega
          go_wp2_with fail
          go_roundw
          case rel => exact ⟨j + 1, by go_num, by omega, KY.out⟩
          case measure => simp [RowKit.intOf]; omega
    · have hji : ¬ (j : Int) < t.ins.length := by omega
      go_wp2_with fail
      go_ret
      exact ⟨rfl, kk.out⟩
theorem TraceR.cellsS {w : World} {B : Nat} {cs : List Value} {z : TTrace} (h : TraceR w B cs z) : ∃ B1 m1 B2 m2 B3 m3 B4 m4 B5 m5 B6 m6, cs = [.int .i64 z.fn, .int .i64 z.at_, .int .i64 z.loop, .slice B1 z.ins.length m1, .slice B2 z.exits.length m2, .int .i64 z.turn.at_, .int .i64 z.turn.steps, .slice B3 z.turn.sets.length m3, .slice B4 z.turn.makes.length m4, .int .i64 z.back.at_, .int .i64 z.back.steps, .slice B5 z.back.sets.length m5, .slice B6 z.back.makes.length m6] ∧ SliceR w B 8 InsR (.slice B1 z.ins.length m1) z.ins := by
  obtain ⟨i, e, ct, cb, rfl, hi, ⟨A2, n2, rfl, -⟩, ⟨s1, m1, rfl, ⟨A3, n3, rfl, -⟩, ⟨A4, n4, rfl, -⟩, -⟩, ⟨s2, m2, rfl, ⟨A5, n5, rfl, -⟩, ⟨A6, n6, rfl, -⟩, -⟩, -⟩ := h
  obtain ⟨A1, n1, rfl, -⟩ := id hi
  exact ⟨A1, n1, A2, n2, A3, n3, A4, n4, A5, n5, A6, n6, rfl, hi⟩
/-- span.Of, at a place that is in order -/
noncomputable def ofM (ins : List TIns) (v a : Int) : Int × Int := if tellsM (opOf ins v) then spanM ins v a else (0, 0)
set_option maxHeartbeats 8000000 in
set_option maxRecDepth 100000 in
theorem spanOf_c (ca : List Value) (t : TTrace) (v a : Nat) (w : World) (ht : TraceR w w.heap.size ca t) (hc : ConstOk t.ins) (hl : t.ins.length ≤ 300) (hfi : FineM t.ins) (hv : v < a) (ha : a ≤ t.ins.length) :
    Calls Tryd.prog 28 #[.agg ⟨ca⟩, .int .i64 (v : Int), .int .i64 (a : Int)] w (fun e w' => e = .returned (.tuple #[.int .i64 (ofM t.ins v a).1, .int .i64 (ofM t.ins v a).2]) ∧ Below w.heap.size w w') := by
  obtain ⟨Ai, ni, B2, m2, B3, m3, B4, m4, B5, m5, B6, m6, rfl, qi⟩ := ht.cellsS
  obtain ⟨b, off, y, rfl, hb, hy, wy, hat⟩ := ins_op qi (i := v) (by omega)
  obtain ⟨ca, hca⟩ : ∃ ca : List Value, ca = [.int .i64 t.fn, .int .i64 t.at_, .int .i64 t.loop, .slice (some ⟨b, off, none⟩) t.ins.length ni, .slice B2 t.exits.length m2, .int .i64 t.turn.at_, .int .i64 t.turn.steps, .slice B3 t.turn.sets.length m3, .slice B4 t.turn.makes.length m4, .int .i64 t.back.at_, .int .i64 t.back.steps, .slice B5 t.back.sets.length m5, .slice B6 t.back.makes.length m6] := ⟨_, rfl⟩
  have p3 : ca[3]? = some (.slice (some ⟨b, off, none⟩) t.ins.length ni) := by rw [hca]; rfl
  rw [← hca] at ht
  have HCA := Lib.hid hca
  obtain ⟨tb, htb⟩ : ∃ tb, tellsM y.op = tb := ⟨_, rfl⟩
  have hop : opOf t.ins (v : Int) = y.op := (insAt_some hy).2
  have hil : (t.ins.length : Int) ≤ 300 := by omega
  have hai : (a : Int) ≤ t.ins.length := by omega
  have hva : (v : Int) < a := by omega
  have hvl : (v : Int) < t.ins.length := by omega
  have HIt := Lib.hid ht.size13
  obtain ⟨w1, hw1⟩ : ∃ w1, w1 = w.alloc (.cells ⟨ca⟩ 34) := ⟨_, rfl⟩
  have K1 : Hid (Below w.heap.size w w1) := by rw [hw1]; exact below_one _ _
  have D1 : Hid (w1.heap[w.heap.size]? = some (.cells ⟨ca⟩ 34 (0, 0))) := by rw [hw1]; exact heap_last _ _
  have hz1 : w.heap.size < w1.heap.size := (Array.getElem?_eq_some_iff.1 D1.out).1
  have P3 := Lib.hid p3
  have l3 := HeadAt.of_row D1.out 3 _ p3
  have HT := Lib.hid (ht.below K1.out)
  have FC := Lib.hid (fine_c ca t w1 HT.out hl hfi)
  have c0 : w.cell? ⟨b, off + v * 8, none⟩ = some (.int .i64 y.op) := hat 0 _ rfl
  have HC0 := Lib.hid c0
  have RT : Hid (w1.rangeAt w.heap.size 0 ca) := (HeadAt.of_row D1.out).range
  have HW1 := Lib.hid hw1
  have q1 : ¬ (v : Int) < 0 := by omega
  have q2 : ¬ (a : Int) ≤ v := by omega
  have q3 : ¬ (t.ins.length : Int) < a := by omega
  have q4 : ¬ (300 : Int) < t.ins.length := by omega
  unfold ofM
  rw [hop, htb]
  rw [← hca]
  clear hw1 ht hca p3 qi hat hy wy c0 hop
  go_enter Tryd.func28, Tryd.ntmps28
  go_upto_region 1 with fail
  rw [← HW1.out]
  go_wp2_with (refine wpList_load_on 34 _ rfl rfl w.heap.size 0 rfl ca _ RT.out Tryd.underlying34 rfl HIt.out ?_)
  refine FC.out.mono ?_
  rintro e w2 ⟨rfl, k2⟩
  have K2 := Lib.hid (K1.out.trans (k2.mono K1.out.size))
  have L12 := Lib.hid k2
  have D2 := Lib.hid ((k2.block _ hz1).trans D1.out)
  have hz2 : w.heap.size < w2.heap.size := Nat.lt_of_lt_of_le hz1 k2.size
  have l3 := HeadAt.of_row D2.out 3 _ P3.out
  have c0 := (K2.out.cell (p := ⟨b, off + v * 8, none⟩) hb).trans HC0.out
  have hbz : b < w2.heap.size := Nat.lt_of_lt_of_le hb K2.out.size
  have TC := tells_c y.op w2
  rw [htb] at TC
  have HTC := Lib.hid TC
  clear k2 TC htb FC RT
  go_wp2_with fail
  refine HTC.out.mono ?_
  rintro e w3 ⟨rfl, k3⟩
  have K3 := Lib.hid (K2.out.trans (k3.mono K2.out.size))
  have L13 := Lib.hid (L12.out.trans (k3.mono L12.out.size))
  have D3 := Lib.hid ((k3.block _ hz2).trans D2.out)
  have hz3 : w.heap.size < w3.heap.size := Nat.lt_of_lt_of_le hz2 k3.size
  clear k3 HTC l3 c0
  cases tb
  case false =>
    go_wp2_with fail
    go_ret2
    exact ⟨rfl, K3.out⟩
  case true =>
  have hmm := @run_makeMap Tryd.prog
  rw [HCA.out] at D3
  have l0 := HeadAt.of_row D3.out 0 _ rfl
  have l1 := HeadAt.of_row D3.out 1 _ rfl
  have l2 := HeadAt.of_row D3.out 2 _ rfl
  have l3 := HeadAt.of_row D3.out 3 _ rfl
  have l4 := HeadAt.of_row D3.out 4 _ rfl
  have l5 := HeadAt.of_row D3.out 5 _ rfl
  have l6 := HeadAt.of_row D3.out 6 _ rfl
  have l7 := HeadAt.of_row D3.out 7 _ rfl
  have l8 := HeadAt.of_row D3.out 8 _ rfl
  have l9 := HeadAt.of_row D3.out 9 _ rfl
  have l10 := HeadAt.of_row D3.out 10 _ rfl
  have l11 := HeadAt.of_row D3.out 11 _ rfl
  have l12 := HeadAt.of_row D3.out 12 _ rfl
  obtain ⟨w4, hw4⟩ : ∃ w4, w4 = (w3.alloc (.map #[] 0)).alloc (.cells #[.int .i64 t.fn, .int .i64 t.at_, .int .i64 t.loop, .slice (some ⟨b, off, none⟩) t.ins.length ni, .slice B2 t.exits.length m2, .int .i64 t.turn.at_, .int .i64 t.turn.steps, .slice B3 t.turn.sets.length m3, .slice B4 t.turn.makes.length m4, .int .i64 t.back.at_, .int .i64 t.back.steps, .slice B5 t.back.sets.length m5, .slice B6 t.back.makes.length m6, .map (some w3.heap.size)] 111) := ⟨_, rfl⟩
  have L34 : Hid (Below w3.heap.size w3 w4) := by rw [hw4]; exact below_two' w3 _ _
  have M4 : Hid (MapAt w4 w3.heap.size t.ins []) := by
    rw [hw4]; exact ⟨(World.ownsMap_made _ _ _ _).alloc _, List.nodup_nil, fun k hk => by cases hk⟩
  have F4 : Hid (FindR w4 w3.heap.size (w3.heap.size + 1) w3.heap.size ca t) := by
    refine ⟨by rw [hw4, HCA.out]; exact heap_two _ _ _, ?_, by omega, Nat.le_refl _, by omega⟩
    have k14 := L13.out.trans (L34.out.mono L13.out.size)
    exact HT.out.keep L13.out.size (fun p hp => k14.cell hp)
  have SC := span_all hc hfi hl a v w4 [] hv ha F4.out M4.out
  obtain ⟨⟨lo, hi⟩, hlh⟩ : ∃ r, spanM t.ins v a = r := ⟨_, rfl⟩
  rw [hlh] at SC
  have HSC := Lib.hid SC
  have HLH := Lib.hid hlh
  have HW4 := Lib.hid hw4
  clear hw4 SC hlh F4 M4
  go_upto_region 4 with fail
  rw [← HW4.out]
  clear l0 l1 l2 l3 l4 l5 l6 l7 l8 l9 l10 l11 l12 hmm
  go_wp2_with fail
  refine HSC.out.mono ?_
  rintro e w5 ⟨rfl, k5, -⟩
  have K5 : Hid (Below w.heap.size w w5) := (K3.out.trans (L34.out.mono K3.out.size)).trans (k5.under K3.out.size (by have := L34.out.size; have := K3.out.size; omega))
  obtain ⟨w6, hw6⟩ : ∃ w6, w6 = w5.alloc (.cells #[.int .i64 lo, .int .i64 hi] 113) := ⟨_, rfl⟩
  have K6 : Hid (Below w.heap.size w w6) := by rw [hw6]; exact K5.out.alloc K5.out.size _
  have Q6 : Hid (w6.heap[w5.heap.size]? = some (.cells ⟨[.int .i64 lo, .int .i64 hi]⟩ 113 (0, 0))) := by rw [hw6]; exact heap_last _ _
  have hz6 : w5.heap.size < w6.heap.size := (Array.getElem?_eq_some_iff.1 Q6.out).1
  have HW6 := Lib.hid hw6
  clear hw6 k5 HSC
  go_upto_region 5 with fail
  rw [← HW6.out]
  have e0 : ∀ E : Up w6, E.to.cell? ⟨w5.heap.size, 0, none⟩ = some (.int .i64 lo) := fun E => E.cell (HeadAt.of_row Q6.out 0 _ rfl)
  have e1 : ∀ E : Up w6, E.to.cell? ⟨w5.heap.size, 1, none⟩ = some (.int .i64 hi) := fun E => E.cell (HeadAt.of_row Q6.out 1 _ rfl)
  refine wp_region_first (fun w' => ∃ E : Up w6, w' = E.to) 4 [4, 5] [4] (by kernel_rfl) (by decide) (by kernel_rfl) (fun _ _ d _ _ h => by cases d <;> exact h) ⟨⟨_, (Below.refl _ w6).drew⟩, rfl⟩ ?_
  simp only [List.take_succ_cons, List.take_zero]
  generalize hqq : (fun a' => wpMs _ _ _ _ _ _ a' _) = qq
  have HQQ := Lib.hid hqq
  clear hqq
  repeat (go_big_quiet_step (fail))
  refine wpQuiet_nil ?_
  rw [← HQQ.out]
  clear HQQ qq e0 e1
  refine wpMs_step rfl (fun K hK => ?_)
  go_simp
  refine hK _ _ (fun _ => ⟨⟨_, (Below.refl _ w6).drew⟩, rfl⟩) ?_
  clear hK K
  refine wpMs_list [5] _ _ (by kernel_rfl) (by kernel_rfl) ?_
  simp only [List.filterMap_cons, List.filterMap_nil, List.getElem?_toArray, List.getElem?_cons_zero, List.getElem?_cons_succ]
  go_wp2_with fail
  rw [HLH.out]
  go_ret2
  exact ⟨rfl, K6.out.drew⟩
end Go.Proofs.YtmccomeihnaanaaDoor
