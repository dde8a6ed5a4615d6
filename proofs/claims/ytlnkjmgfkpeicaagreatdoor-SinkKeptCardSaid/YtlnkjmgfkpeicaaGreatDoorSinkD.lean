/- sink: left. -/
import Derived.Test.YtlnkjmgfkpeicaaGreatDoorSinkC
import Derived.Test.YtlnkjmgfkpeicaaGreatDoorMoves
set_option linter.all false
namespace Go.Proofs.YtlnkjmgfkpeicaaGreatDoor
open Go.RowKit

section
variable {B sb mb c : Nat} {kind : Int} {ca : List Value} {t : TTrace}
set_option maxHeartbeats 8000000 in
set_option maxRecDepth 100000 in
theorem left_c (x : TIns) (s : SinkS) (w : World) (h : SinkR w B sb mb c kind ca t s) (hx : -1 ≤ x.exit ∧ x.exit < t.exits.length) (hf : s.vals.length ≤ 100) :
    Calls Tryz.prog 35 #[.pointer (some ⟨sb, 0, none⟩), insV x] w (SinkPost B sb mb c kind ca t s w) := by
  have hlt := h.lt
  obtain ⟨w0, hw0⟩ : ∃ w0, w0 = w.alloc (.cells ⟨insCells x⟩ 42) := ⟨_, rfl⟩
  have K0 : Hid (Below w.heap.size w w0) := by rw [hw0]; exact below_one _ _
  have X0 : Hid (w0.heap[w.heap.size]? = some (.cells ⟨insCells x⟩ 42 (0, 0))) := by rw [hw0]; exact heap_last _ _
  have hlt0 : sb < w0.heap.size := Nat.lt_of_lt_of_le hlt K0.out.size
  have S0 := Lib.hid (h.below K0.out)
  have HF := Lib.hid hf
  unfold insCells at hw0
  unfold insV
  have HW := Lib.hid hw0
  have e5 : ∀ E : Up w0, E.to.cell? ⟨w.heap.size, 5, none⟩ = some (.int .i64 x.exit) := fun E => E.cell (HeadAt.of_row X0.out 5 _ rfl)
  clear hw0 hf
  by_cases hneg : x.exit < 0
  · clear hx
    go_enter Tryz.func35, Tryz.ntmps35
    go_upto_region 1 with fail
    rw [← HW.out]
    refine wp_region_up (by kernel_rfl) (by kernel_rfl) ?_
    repeat (go_big_quiet_step (fail))
    refine wpQuiet_nil ?_
    rintro _ ⟨E, rfl⟩
    have KE := Lib.hid (K0.out.trans (E.below.mono K0.out.size))
    have SE := Lib.hid (S0.out.below E.below)
    clear e5
    go_wp2_with fail
    go_ret
    exact ⟨_, s, rfl, SE.out, SinkTo.of KE.out, fun _ => HF.out⟩
  obtain ⟨xop, xa, xb, xc, xn, xe, xk⟩ := x
  dsimp only at *
  obtain ⟨k, rfl⟩ := Int.eq_ofNat_of_zero_le (Int.not_lt.1 hneg)
  have hk : k < t.exits.length := by omega
  have hki : (k : Int) < t.exits.length := by omega
  have HK : Hid (0 ≤ (k : Int) ∧ (k : Int) < t.exits.length) := ⟨by omega, hki⟩
  obtain ⟨Ae, ne, p4, q4⟩ := S0.out.trace.at4
  obtain ⟨be, off, y, cx, rfl, hbe, hy, -, hR, hat⟩ := q4.at_ hk
  have hl4 : cx.length = 4 := by obtain ⟨s1, m1, e, -⟩ := hR; rw [e]; rfl
  have e4 : ∀ E : Up w0, E.to.cell? ⟨sb, 4, none⟩ = some (.slice (some ⟨be, off, none⟩) t.exits.length ne) := fun E => E.cell (S0.out.head 4 _ p4)
  have ec : ∀ E : Up w0, E.to.cell? ⟨sb, 13, none⟩ = some (.int .i64 c) := fun E => E.cell (S0.out.cellAt (k := 0) rfl)
  have RX : Hid (∀ E : Up w0, E.to.rangeAt be (off + k * 4) cx) := fun E i u hu => E.cell (hat i u hu)
  have LX : Hid ((Tryz.prog.info? 32).map (·.size) = some cx.length) := by rw [hl4]; exact infoSinkEx
  obtain ⟨nm, hnm⟩ : ∃ nm, sinkNm y c = nm := ⟨_, rfl⟩
  have CN : Hid (∀ E : Up w0, Calls Tryz.prog 32 #[.agg ⟨cx⟩, .int .i64 c] E.to (Gives (.bool nm) E.to)) := fun E => by
    rw [← hnm]
    refine sinkNm_c cx y c E.to ?_
    obtain ⟨s1, m1, e, h1, h2, h3⟩ := hR
    exact ⟨s1, m1, e, h1.below E.below, h2.keep E.below.size (fun _ hp => E.below.cell hp) (fun _ _ ⟨v, e, h⟩ => ⟨v, e, h.1.below E.below, h.2⟩), h3⟩
  clear hR hat hy hx p4 q4 hnm hl4 hk
  go_enter Tryz.func35, Tryz.ntmps35
  go_upto_region 1 with fail
  rw [← HW.out]
  refine wp_region_up (by kernel_rfl) (by kernel_rfl) ?_
  repeat (first
    | (refine wpQuiet_load_up 32 _ rfl rfl be (off + k * 4) rfl cx _ RX.out Tryz.underlying32 rfl LX.out ?_; go_simp)
    | go_big_quiet_step ((go_at_call 32; with_reducible exact Calls.up (CN.out _))))
  refine wpQuiet_nil ?_
  (first | rintro _ ⟨E, rfl⟩ | intro E)
  obtain ⟨w1, k1⟩ := E
  dsimp only
  have K1 := Lib.hid (K0.out.trans (k1.mono K0.out.size))
  have S1 := Lib.hid (S0.out.below k1)
  have X1 := Lib.hid ((k1.block _ (Array.getElem?_eq_some_iff.1 X0.out).1).trans X0.out)
  clear e4 e5 ec RX LX CN k1
  cases nm
  · go_wp2_with fail
    go_ret
    exact ⟨_, s, rfl, S1.out, SinkTo.of K1.out, fun _ => HF.out⟩
  obtain ⟨sh, u, l, ki, hq0, hsl, hno, h1c⟩ := S1.out.lookAt k
  obtain ⟨Au, cu, rfl, -⟩ := id hsl
  have HSL := Lib.hid hsl
  have HNO := Lib.hid hno
  have HL := Lib.hid hq0
  clear hsl hno h1c hq0
  have e19 : ∀ E : Up w1, E.to.cell? ⟨sb, 19, none⟩ = some (.map (some mb)) := fun E => E.cell (S1.out.cellAt (k := 6) rfl)
  have e5 : ∀ E : Up w1, E.to.cell? ⟨w.heap.size, 5, none⟩ = some (.int .i64 k) := fun E => E.cell (HeadAt.of_row X1.out 5 _ rfl)
  have hq : ∀ E : Up w1, (Instr.lookup 74 (.map (some mb)) (.int .i64 k) true).run Tryz.prog E.to = .ok (.tuple #[.agg #[.int .i64 sh, .slice Au l.length cu], .bool ki]) E.to := fun E => HL.out _ E.below
  go_upto_region 3 with fail
  refine wp_region_first (fun w' => ∃ E : Up w1, w' = E.to) 10 [10, 11, 12] [10, 11] (by kernel_rfl) (by decide) (by kernel_rfl) (fun _ _ d _ _ h => by cases d <;> exact h) ⟨⟨_, (Below.refl _ w1).drew⟩, rfl⟩ ?_
  simp only [List.take_succ_cons, List.take_zero]
  generalize hqq : (fun a' => wpMs _ _ _ _ _ _ a' _) = qq
  have HQQ := Lib.hid hqq
  clear hqq
  repeat (go_big_quiet_step (fail))
  refine wpQuiet_nil ?_
  rw [← HQQ.out]
  clear HQQ qq e19 e5 hq
  refine wpMs_step rfl (fun K hK => ?_)
  go_simp
  obtain ⟨w2, hw2⟩ : ∃ w2, w2 = (w1.alloc (.cells #[.int .i64 0, .slice none 0 0] 76)).drew := ⟨_, rfl⟩
  have L2 : Hid (Below w1.heap.size w1 w2) := by rw [hw2]; exact (below_one w1 _).drew
  have V2 : Hid (w2.heap[w1.heap.size]? = some (.cells ⟨[.int .i64 0, .slice none 0 0]⟩ 76 (0, 0))) := by rw [hw2]; exact heap_last w1 _
  rw [← hw2]
  refine hK _ _ (fun _ => ⟨⟨w2, L2.out⟩, rfl⟩) ?_
  clear hK K hw2
  obtain ⟨w3, hw3⟩ : ∃ w3, w3 = w2.setCells w1.heap.size 0 [.int .i64 sh, .slice Au l.length cu] := ⟨_, rfl⟩
  have L3 : Hid (Below w1.heap.size w1 w3) := by rw [hw3]; exact Below.setCells_ (Nat.le_refl _) _ _ _ L2.out
  have V3 : Hid (w3.heap[w1.heap.size]? = some (.cells ⟨[.int .i64 sh, .slice Au l.length cu]⟩ 76 (0, 0))) := by
    rw [hw3]
    show (((w2.setCell ⟨w1.heap.size, 0, none⟩ _).setCell ⟨w1.heap.size, 1, none⟩ _).heap[w1.heap.size]?) = _
    rw [heap_setCell_same _ _ 1 _ _ _ (heap_setCell_same _ _ 0 _ _ _ V2.out)]; rfl
  have TH := Lib.hid (there_of_row (n := 2) V2.out (by simp))
  refine wpMs_step rfl (fun K hK => ?_)
  refine Eq.mpr (if_pos ?hw) ?_
  case hw => rfl
  refine wp_store_mid 76 _ _ rfl w1.heap.size 0 #[.int .i64 sh, .slice Au l.length cu] rfl rfl TH.out infoHeld2 (all_oneCell_toArray (by simp [Value.oneCell'])) ?_
  show K _ (w2.setCells w1.heap.size 0 [.int .i64 sh, .slice Au l.length cu])
  rw [← hw3]
  refine hK _ _ (fun _ => ⟨⟨w3, L3.out⟩, rfl⟩) ?_
  clear hK K hw3 TH L2 V2
  refine wpMs_list [12] _ _ (by kernel_rfl) (by kernel_rfl) ?_
  simp only [List.filterMap_cons, List.filterMap_nil, List.getElem?_toArray, List.getElem?_cons_zero, List.getElem?_cons_succ]
  have K3 : Hid (Below w.heap.size w w3) := K1.out.trans (L3.out.mono K1.out.size)
  have S3 := Lib.hid (S1.out.below L3.out)
  have HSL3 := Lib.hid (HSL.out.below L3.out)
  have X3 := Lib.hid ((L3.out.block _ (Array.getElem?_eq_some_iff.1 X1.out).1).trans X1.out)
  have hz3 : w1.heap.size < w3.heap.size := (Array.getElem?_eq_some_iff.1 V3.out).1
  obtain ⟨hb, hhb⟩ : ∃ hb, hb = w1.heap.size := ⟨_, rfl⟩
  have v0 := HeadAt.of_row V3.out 0 _ rfl
  have v1 := HeadAt.of_row V3.out 1 _ rfl
  have CS := Lib.hid (same_c sh (.slice Au l.length cu) l s w3 S3.out HSL3.out)
  rw [← hhb] at v0 v1 hz3
  rw [← hhb]
  clear hhb V3
  cases ki
  case true =>
    clear HNO
    go_wp2_with fail
    refine CS.out.mono ?_
    rintro e w4 ⟨rfl, k4⟩
    have K4 := Lib.hid (K3.out.trans (k4.mono K3.out.size))
    have S4 := Lib.hid (S3.out.below k4)
    clear k4 v0 v1
    go_wp2_with fail
    go_ret
    exact ⟨_, s, rfl, S4.out, SinkTo.of K4.out, fun _ => HF.out⟩
  have NO := Lib.hid (HNO.out rfl)
  clear CS HNO v0 v1
  obtain ⟨A', c', eV⟩ := own_len S3.out.vals
  have EV := Lib.hid eV
  have e19 : ∀ E : Up w3, E.to.cell? ⟨sb, 19, none⟩ = some (.map (some mb)) := fun E => E.cell (S3.out.cellAt (k := 6) rfl)
  have e15 : ∀ E : Up w3, E.to.cell? ⟨sb, 15, none⟩ = some (.int .i64 s.shape) := fun E => E.cell (S3.out.cellAt (k := 2) rfl)
  have e16 : ∀ E : Up w3, E.to.cell? ⟨sb, 16, none⟩ = some (.slice A' s.vals.length c') := fun E => E.cell (S3.out.cellAt (k := 3) (by rw [EV.out]; rfl))
  have e5 : ∀ E : Up w3, E.to.cell? ⟨w.heap.size, 5, none⟩ = some (.int .i64 k) := fun E => E.cell (HeadAt.of_row X3.out 5 _ rfl)
  have CL : Hid (Calls Tryz.prog 59 #[.slice A' s.vals.length c'] w3.drew fun e w' => ∃ u, e = .returned u ∧ w'.ownsRow w3.heap.size 3 1 u s.vals.length (s.vals.map (.int .i64)) ∧ Below w3.heap.size w3 w') := by
    have h1 := sliceR_of_own S3.out.vals S3.out.wfV
    rw [eV] at h1
    exact (cloneInt_c _ s.vals w3.drew h1 (by have := HF.out; omega)).mono fun _ _ ⟨u, e, h1, h2⟩ => ⟨u, e, h1, (Below.refl _ w3).drew.trans h2⟩
  clear eV
  go_upto_region 6 with fail
  refine wp_region_first (fun w' => ∃ E : Up w3, w' = E.to) 16 [16, 17, 18] [16, 17] (by kernel_rfl) (by decide) (by kernel_rfl) (fun _ _ d _ _ h => by cases d <;> exact h) ⟨⟨_, (Below.refl _ w3).drew⟩, rfl⟩ ?_
  simp only [List.take_succ_cons, List.take_zero]
  generalize hqq : (fun a' => wpMs _ _ _ _ _ _ a' _) = qq
  have HQQ := Lib.hid hqq
  clear hqq
  repeat (go_big_quiet_step (fail))
  refine wpQuiet_nil ?_
  rw [← HQQ.out]
  clear HQQ qq e19 e15 e16 e5
  refine wpMs_step rfl (fun K hK => ?_)
  go_simp
  refine CL.out.mono ?_
  rintro e w5 ⟨u', rfl, hown, k5⟩
  obtain ⟨Au', cu', rfl⟩ := own_len hown
  refine hK _ _ (fun _ => ⟨⟨w5, k5⟩, rfl⟩) ?_
  have L5 := Lib.hid k5
  have O5 := Lib.hid hown
  have S5 := Lib.hid (S3.out.below k5)
  have K5 : Hid (Below w.heap.size w w5) := K3.out.trans (k5.mono K3.out.size)
  clear hK K k5 hown CL
  refine wpMs_step rfl (fun K hK => ?_)
  go_simp
  refine hK _ _ (fun _ => ⟨⟨w5, L5.out⟩, rfl⟩) ?_
  clear hK K
  have HH : Hid (HeldR w5 B s.uV s.uT (.agg #[.int .i64 s.shape, .slice Au' s.vals.length cu'])) :=
    ⟨s.shape, _, s.vals, rfl, S5.out.wfS, row_more O5.out (Nat.le_trans S3.out.hB (Nat.le_of_lt S3.out.lt)), by have := HF.out; omega, S5.out.wfV, fun G e => by
      have h1 := (row_ty O5.out e).1
      exact ⟨fun e2 => by have := (row_ty S3.out.vals e2).2.1; omega, fun e2 => by have := (row_ty S3.out.tl e2).2.1; omega⟩⟩
  refine wpMs_list [18] _ _ (by kernel_rfl) (by kernel_rfl) ?_
  simp only [List.filterMap_cons, List.filterMap_nil, List.getElem?_toArray, List.getElem?_cons_zero, List.getElem?_cons_succ]
  refine wpList_mapUpdate_n rfl _ _ _ 74 rfl 3 76 Tryz.underlying74 Tryz.underlying3 mb s.E k (.agg #[.int .i64 s.shape, .slice Au' s.vals.length cu']) rfl rfl rfl S5.out.map_ NO.out ?_
  intro w6 hm hg
  have S6 := Lib.hid (S5.out.keepAt hm hg HK.out NO.out HH.out)
  clear hm hg
  go_wp2_with fail
  go_ret
  exact ⟨_, _, rfl, S6.out.1, (SinkTo.of K5.out).trans S6.out.2, fun _ => HF.out⟩
end
end Go.Proofs.YtlnkjmgfkpeicaaGreatDoor
