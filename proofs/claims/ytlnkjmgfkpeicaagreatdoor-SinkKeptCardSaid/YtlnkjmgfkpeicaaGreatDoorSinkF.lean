/- sink: ask. -/
import Derived.Test.YtlnkjmgfkpeicaaGreatDoorSinkE
set_option linter.all false
namespace Go.Proofs.YtlnkjmgfkpeicaaGreatDoor
open Go.RowKit

theorem wf_ins {a b c d e f g h : Int} (h1 : wfi a) (h2 : wfi b) (h3 : wfi c) (h4 : wfi d) (h5 : wfi e) (h6 : wfi f) (h7 : wfi g) (h8 : wfi h) : WfIns ⟨a, b, c, d, e, f, ⟨g, h⟩⟩ := ⟨h1, h2, h3, h4, h5, h6, h7, h8⟩
section
variable {B sb mb c : Nat} {kind : Int} {ca : List Value} {t : TTrace}
set_option maxHeartbeats 16000000 in
set_option maxRecDepth 100000 in
theorem ask_c (i : Nat) (x : TIns) (s : SinkS) (w : World) (h : SinkR w B sb mb c kind ca t s) (hx : t.ins[i]? = some x) (hn16 : x.op ≠ 16) (hf : s.vals.length ≤ 100) :
    Calls Tryz.prog 36 #[.pointer (some ⟨sb, 0, none⟩), .int .i64 i] w (SinkPost B sb mb c kind ca t s w) := by
  have hlt := h.lt
  have hi : i < t.ins.length := (List.getElem?_eq_some_iff.1 hx).1
  have hii : (i : Int) < t.ins.length := by omega
  obtain ⟨hex, hn0⟩ := h.fit.ok x (List.mem_of_getElem? hx)
  obtain ⟨nn, hnn⟩ := Int.eq_ofNat_of_zero_le hn0
  obtain ⟨xop, xa, xb, xc, xn, xe, xk⟩ := x
  dsimp only at *
  subst hnn
  have HX := Lib.hid hx
  have HE := Lib.hid hex
  have HO := Lib.hid hn16
  have HF := Lib.hid hf
  obtain ⟨Ai, ni, p3, q3⟩ := h.trace.at3
  obtain ⟨b, off, y, cx, rfl, hb, hy, -, ⟨rfl, wx⟩, hat⟩ := q3.at_ hi
  rw [hx] at hy
  injection hy with hy
  subst hy
  have WX := Lib.hid wx
  have RX : Hid (w.rangeAt b (off + i * 8) [.int .i64 xop, .int .i64 xa, .int .i64 xb, .int .i64 xc, .int .i64 (nn : Int), .int .i64 xe, .int .i64 xk.kind, .int .i64 xk.n]) := fun k u hu => hat k u hu
  have e3 : w.cell? ⟨sb, 3, none⟩ = some (.slice (some ⟨b, off, none⟩) t.ins.length ni) := h.head 3 _ p3
  have HS := Lib.hid h
  clear hx hex hn16 hf p3 q3 hat wx h hn0
  go_enter Tryz.func36, Tryz.ntmps36
  go_upto_region 2 with (first
    | (refine wpList_load_mid rfl 42 _ rfl b (off + i * 8) rfl [.int .i64 xop, .int .i64 xa, .int .i64 xb, .int .i64 xc, .int .i64 (nn : Int), .int .i64 xe, .int .i64 xk.kind, .int .i64 xk.n] _ RX.out Tryz.underlying42 rfl infoIns8 ?_)
    | (refine wpList_store_row rfl 42 _ _ rfl w.heap.size #[.int .i64 xop, .int .i64 xa, .int .i64 xb, .int .i64 xc, .int .i64 (nn : Int), .int .i64 xe, .int .i64 xk.kind, .int .i64 xk.n] rfl rfl 42 _ (heap_last w _) infoIns8 rfl (all_oneCell_toArray (by simp [Value.oneCell'])) ?_)
    | fail)
  generalize hw1 : World.setRow _ _ _ = w1
  have K1 : Hid (Below w.heap.size w w1) := by rw [← hw1]; exact below_setRow w _ _
  have X1 : Hid (w1.heap[w.heap.size]? = some (.cells ⟨[.int .i64 xop, .int .i64 xa, .int .i64 xb, .int .i64 xc, .int .i64 (nn : Int), .int .i64 xe, .int .i64 xk.kind, .int .i64 xk.n]⟩ 42 (0, 0))) := by rw [← hw1]; exact setRow_heap _ _ _ _ _ _ (heap_last w _)
  have S1 := Lib.hid (HS.out.below K1.out)
  clear hw1 e3 RX
  obtain ⟨A', c', eV⟩ := own_len S1.out.vals
  have EV := Lib.hid eV
  obtain ⟨inn, hin⟩ : ∃ r, decide (nn < s.vals.length) = r := ⟨_, rfl⟩
  have e4 : ∀ E : Up w1, E.to.cell? ⟨w.heap.size, 4, none⟩ = some (.int .i64 (nn : Int)) := fun E => E.cell (HeadAt.of_row X1.out 4 _ rfl)
  have e16 : ∀ E : Up w1, E.to.cell? ⟨sb, 16, none⟩ = some (.slice A' s.vals.length c') := fun E => E.cell (S1.out.cellAt (k := 3) (by rw [EV.out]; rfl))
  clear eV
  (try dsimp only [Act.put])
  refine wp_region_up (by kernel_rfl) (by kernel_rfl) ?_
  repeat (go_big_quiet_step (fail))
  refine wpQuiet_nil ?_
  rintro _ ⟨E, rfl⟩
  obtain ⟨w2, k2⟩ := E
  dsimp only
  have HIN := Lib.hid hin
  have K2 := Lib.hid (K1.out.trans (k2.mono K1.out.size))
  have S2 := Lib.hid (S1.out.below k2)
  have X2 := Lib.hid ((k2.block _ (Array.getElem?_eq_some_iff.1 X1.out).1).trans X1.out)
  obtain ⟨T, cT, eT⟩ := S2.out.openT (by omega)
  obtain ⟨old, t0, t1⟩ := S2.out.toAt eT hi
  have ET := Lib.hid eT
  have e17 : w2.cell? ⟨sb, 17, none⟩ = some (.slice (some ⟨T, 0, none⟩) t.ins.length cT) := S2.out.cellAt (k := 4) (by rw [eT]; rfl)
  clear e4 e16 k2 K1 S1 X1 hin eT
  go_upto_region 4 with fail
  generalize hw3 : World.setCell _ _ _ = w3
  have MV := Lib.hid (S2.out.setTo ET.out hi HX.out HO.out (v := -1) (by unfold wfi; omega))
  rw [hw3] at MV
  have L3 : Hid (Fined T w2 w3) := by rw [← hw3]; exact (Fined.refl T w2).set_ _ _
  obtain ⟨s3, hs3⟩ : ∃ s3, s3 = { s with tl := s.tl.set i (-1) } := ⟨_, rfl⟩
  rw [← hs3] at MV
  have S3 := Lib.hid MV.out.1
  have T3 : Hid (SinkTo sb mb w s w3 s3) := (SinkTo.of K2.out).trans MV.out.2
  have hT := (row_ty HS.out.tl (by rw [ET.out]; rfl : s.uT.ownBlock = some T)).2.1
  have X3 : Hid (w3.heap[w.heap.size]? = some (.cells ⟨[.int .i64 xop, .int .i64 xa, .int .i64 xb, .int .i64 xc, .int .i64 (nn : Int), .int .i64 xe, .int .i64 xk.kind, .int .i64 xk.n]⟩ 42 (0, 0))) := L3.out.row X2.out (by omega)
  have V3 : Hid (s3.vals = s.vals ∧ s3.uT = s.uT ∧ s3.uV = s.uV) := by rw [hs3]; exact ⟨rfl, rfl, rfl⟩
  clear hw3 hs3 MV L3 S2 X2 e17 t0 t1 hT K2
  have q0 := HeadAt.of_row X3.out 0 _ rfl
  have q2 := HeadAt.of_row X3.out 2 _ rfl
  have e14 : w3.cell? ⟨sb, 14, none⟩ = some (.int .i64 kind) := S3.out.cellAt (k := 1) rfl
  have few3 : s3.vals.length ≤ 100 := by rw [V3.out.1]; exact HF.out
  have F3 := Lib.hid few3
  clear few3
  have wfi_i : Hid (wfi (i : Int)) := by have := HS.out.fit.ins; unfold wfi Hid; omega
  by_cases c17 : xop = 17
  · subst c17
    by_cases kk : kind = 1
    · have b1 : (kind != 1) = false := by simpa using kk
      clear kk
      go_wp2_with fail
      go_ret
      exact ⟨_, s3, rfl, S3.out, T3.out, nofun⟩
    · have b1 : (kind != 1) = true := by simpa using kk
      have HC := Lib.hid (hold_c xb s3 w3 S3.out WX.out.2.2.1 F3.out)
      clear kk
      go_wp2_with fail
      refine HC.out.mono ?_
      rintro e w4 ⟨bb, s4, rfl, g4, h4, f4⟩
      have S4 := Lib.hid g4
      have T4 := Lib.hid (T3.out.trans h4)
      have F4 := Lib.hid f4
      clear g4 h4 f4
      go_wp2_with fail
      go_ret
      exact ⟨_, s4, rfl, S4.out, T4.out, F4.out⟩
  by_cases c12 : xop = 12
  · subst c12
    clear c17
    have e17 : w3.cell? ⟨sb, 17, none⟩ = some (.slice (some ⟨T, 0, none⟩) t.ins.length cT) := S3.out.cellAt (k := 4) (by rw [V3.out.2.1, ET.out]; rfl)
    obtain ⟨old3, t3, t4⟩ := S3.out.toAt (V3.out.2.1.trans ET.out) hi
    go_upto_region 9 with fail
    generalize hw4 : World.setCell _ _ _ = w4
    have MV := Lib.hid (S3.out.setTo (V3.out.2.1.trans ET.out) hi HX.out HO.out (v := i) wfi_i.out)
    rw [hw4] at MV
    have L4 : Hid (Fined T w3 w4) := by rw [← hw4]; exact (Fined.refl T w3).set_ _ _
    obtain ⟨s4, hs4⟩ : ∃ s4, s4 = { s3 with tl := s3.tl.set i (i : Int) } := ⟨_, rfl⟩
    rw [← hs4] at MV
    have S4 := Lib.hid MV.out.1
    have T4 : Hid (SinkTo sb mb w s w4 s4) := T3.out.trans MV.out.2
    have hTs := (row_ty HS.out.tl (by rw [ET.out]; rfl : s.uT.ownBlock = some T)).2.1
    have X4 := Lib.hid (L4.out.row X3.out (by omega))
    have V4 : Hid (s4.vals = s3.vals ∧ s4.shape = s3.shape ∧ s4.uO = s3.uO) := by rw [hs4]; exact ⟨rfl, rfl, rfl⟩
    have WS4 := S4.out.wfS
    obtain ⟨O, cO, eO⟩ := S4.out.openO (by omega)
    have EO := Lib.hid eO
    have e18 : ∀ E : Up w4, E.to.cell? ⟨sb, 18, none⟩ = some (.slice (some ⟨O, 0, none⟩) t.ins.length cO) := fun E => E.cell (S4.out.cellAt (k := 5) (by rw [EO.out]; rfl))
    clear hw4 hs4 MV L4 S3 X3 T3 e17 t3 t4 hTs q0 q2 e14 eO
    have e15 : ∀ E : Up w4, E.to.cell? ⟨sb, 15, none⟩ = some (.int .i64 s4.shape) := fun E => E.cell (S4.out.cellAt (k := 2) rfl)
    have x4 : ∀ E : Up w4, E.to.cell? ⟨w.heap.size, 4, none⟩ = some (.int .i64 (nn : Int)) := fun E => E.cell (HeadAt.of_row X4.out 4 _ rfl)
    have x5 : ∀ E : Up w4, E.to.cell? ⟨w.heap.size, 5, none⟩ = some (.int .i64 xe) := fun E => E.cell (HeadAt.of_row X4.out 5 _ rfl)
    (try dsimp only [Act.put])
    refine wp_region_up_tail 16 (by kernel_rfl) (by kernel_rfl) ?_
    simp only [List.take_succ_cons, List.take_zero]
    repeat (go_big_quiet_step (fail))
    refine wpQuiet_nil ?_
    (first | rintro _ ⟨E, rfl⟩ | intro E)
    obtain ⟨w5, k5⟩ := E
    dsimp only
    have S5 := Lib.hid (S4.out.below k5)
    have T5 : Hid (SinkTo sb mb w s w5 s4) := T4.out.trans (SinkTo.of k5)
    have X5 := Lib.hid ((k5.block _ (Array.getElem?_eq_some_iff.1 X4.out).1).trans X4.out)
    have TH := Lib.hid (S5.out.outThere EO.out hi)
    clear k5 e18 e15 x4 x5
    simp only [List.drop_succ_cons, List.drop_zero]
    refine wpList_store_mid rfl 42 _ _ rfl O (i * 8) #[.int .i64 19, .int .i64 (-1), .int .i64 s4.shape, .int .i64 (-1), .int .i64 (nn : Int), .int .i64 xe, .int .i64 0, .int .i64 0] rfl rfl TH.out infoIns8 (all_oneCell_toArray (by simp [Value.oneCell'])) ?_
    generalize hw6 : World.setCells _ _ _ _ = w6
    have MV := Lib.hid (S5.out.setOut EO.out hi HX.out HO.out (y := ⟨19, -1, s4.shape, -1, (nn : Int), xe, ⟨0, 0⟩⟩) (wf_ins (by unfold wfi; omega) (by unfold wfi; omega) WS4 (by unfold wfi; omega) WX.out.2.2.2.2.1 WX.out.2.2.2.2.2.1 (by unfold wfi; omega) (by unfold wfi; omega)) (show (19 : Int) ≠ 16 by decide) HE.out (Int.natCast_nonneg nn))
    have hw6' : w5.setCells O (i * 8) (insCells ⟨19, -1, s4.shape, -1, (nn : Int), xe, ⟨0, 0⟩⟩) = w6 := hw6
    rw [hw6'] at MV
    have S6 := Lib.hid MV.out.1
    have T6 := Lib.hid (T5.out.trans MV.out.2)
    have L6 : Hid (Fined O w5 w6) := by rw [← hw6']; exact fined_setCells _ _ _ (Fined.refl O w5)
    have hOl := HS.out.outG O (by rw [← T4.out.uO, EO.out]; rfl)
    have X6 := Lib.hid (L6.out.row X5.out (by omega))
    obtain ⟨s6, hs6⟩ : ∃ s6, s6 = { s4 with out := s4.out.set i ⟨19, -1, s4.shape, -1, (nn : Int), xe, ⟨0, 0⟩⟩ } := ⟨_, rfl⟩
    rw [← hs6] at S6 T6
    have V6 : Hid (s6.vals.length ≤ 100) := by rw [hs6]; show s4.vals.length ≤ 100; rw [V4.out.1]; exact F3.out
    clear hw6 hw6' MV L6 S5 T5 X5 TH S4 T4 X4 hs6 hOl
    have fz := frozen_of_row w6 sb 15 _ _ S6.out.row
    have y15 : w6.cell? ⟨sb, 15, none⟩ = some (.int .i64 s6.shape) := S6.out.cellAt (k := 2) rfl
    have y4 : w6.cell? ⟨w.heap.size, 4, none⟩ = some (.int .i64 (nn : Int)) := HeadAt.of_row X6.out 4 _ rfl
    go_upto_region 11 with fail
    generalize hw7 : World.setCell _ _ _ = w7
    have MV := Lib.hid (S6.out.setShape (n := (nn : Int)) (by have := V6.out; omega) WX.out.2.2.2.2.1)
    rw [hw7] at MV
    have L7 : Hid (Fined sb w6 w7) := by rw [← hw7]; exact (Fined.refl sb w6).set_ _ _
    have X7 := Lib.hid (L7.out.row X6.out (by omega))
    have S7 := Lib.hid MV.out.1
    have T7 := Lib.hid (T6.out.trans MV.out.2)
    obtain ⟨s7, hs7⟩ : ∃ s7, s7 = { s6 with shape := (nn : Int) } := ⟨_, rfl⟩
    rw [← hs7] at S7 T7
    have V7 : Hid (s7.vals.length ≤ 100) := by rw [hs7]; exact V6.out
    clear hw7 MV L7 S6 T6 X6 fz y15 y4 hs7
    have z2 : w7.cell? ⟨w.heap.size, 2, none⟩ = some (.int .i64 xb) := HeadAt.of_row X7.out 2 _ rfl
    have z14 : w7.cell? ⟨sb, 14, none⟩ = some (.int .i64 kind) := S7.out.cellAt (k := 1) rfl
    by_cases kk : kind = 1
    · have b1 : (kind == 1) = true := by simpa using kk
      have HC := Lib.hid (hold_c xb s7 w7 S7.out WX.out.2.2.1 V7.out)
      clear kk
      go_wp2_with fail
      refine HC.out.mono ?_
      rintro e w8 ⟨bb, s8, rfl, g4, h4, f4⟩
      have S8 := Lib.hid g4
      have T8 := Lib.hid (T7.out.trans h4)
      have F8 := Lib.hid f4
      clear g4 h4 f4
      go_wp2_with fail
      go_ret
      exact ⟨_, s8, rfl, S8.out, T8.out, F8.out⟩
    · have b1 : (kind == 1) = false := by simpa using kk
      clear kk
      go_wp2_with fail
      go_ret
      exact ⟨_, s7, rfl, S7.out, T7.out, nofun⟩
  by_cases c11 : xop = 11
  · subst c11
    clear c17 c12
    cases inn
    · go_wp2_with fail
      go_ret
      exact ⟨_, s3, rfl, S3.out, T3.out, nofun⟩
    · have hnv : nn < s3.vals.length := by rw [V3.out.1]; exact of_decide_eq_true HIN.out
      have hni : (nn : Int) < s3.vals.length := by omega
      obtain ⟨A3, c3, eV3⟩ := own_len S3.out.vals
      have EV3 := Lib.hid eV3
      have e16 : w3.cell? ⟨sb, 16, none⟩ = some (.slice A3 s3.vals.length c3) := S3.out.cellAt (k := 3) (by rw [EV3.out]; rfl)
      have CL : Hid (Calls Tryz.prog 59 #[.slice A3 s3.vals.length c3] w3 fun e w' => ∃ u, e = .returned u ∧ w'.ownsRow w3.heap.size 3 1 u s3.vals.length (s3.vals.map (.int .i64)) ∧ Below w3.heap.size w3 w') := by
        have h1 := sliceR_of_own S3.out.vals S3.out.wfV
        rw [eV3] at h1
        exact cloneInt_c _ s3.vals w3 h1 (by have := F3.out; omega)
      clear eV3
      go_wp2_with fail
      refine CL.out.mono ?_
      rintro e w4 ⟨u', rfl, hown, k4⟩
      obtain ⟨g, cV, rfl, -⟩ := own_open hown (by omega)
      have O4 := Lib.hid hown
      have K4 := Lib.hid k4
      have S4 := Lib.hid (S3.out.below k4)
      have X4 := Lib.hid ((k4.block _ (Array.getElem?_eq_some_iff.1 X3.out).1).trans X3.out)
      have fz := frozen_of_row w4 sb 16 _ _ S4.out.row
      have y16 : w4.cell? ⟨sb, 16, none⟩ = some (.slice A3 s3.vals.length c3) := S4.out.cellAt (k := 3) (by rw [EV3.out]; rfl)
      clear k4 hown CL e16 q0 q2 e14
      go_upto_region 15 with fail
      generalize hw5 : World.setCell _ _ _ = w5
      have MV := Lib.hid (S3.out.setVals K4.out O4.out)
      rw [hw5] at MV
      have L5 : Hid (Fined sb w4 w5) := by rw [← hw5]; exact (Fined.refl sb w4).set_ _ _
      have X5 := Lib.hid (L5.out.row X4.out (by omega))
      have S5 := Lib.hid MV.out.1
      have T5 := Lib.hid (T3.out.trans MV.out.2)
      obtain ⟨s5, hs5⟩ : ∃ s5, s5 = { s3 with uV := .slice (some ⟨g, 0, none⟩) s3.vals.length cV } := ⟨_, rfl⟩
      rw [← hs5] at S5 T5
      have V5 : Hid (s5.vals = s3.vals ∧ s5.uV = .slice (some ⟨g, 0, none⟩) s5.vals.length cV) := by rw [hs5]; exact ⟨rfl, rfl⟩
      have hn5 : (nn : Int) < s5.vals.length := by rw [V5.out.1]; exact hni
      have few5 : Hid (s5.vals.length ≤ 100) := by rw [V5.out.1]; exact F3.out
      clear hw5 hs5 MV L5 X4 S4 S3 T3 X3 fz y16 O4 K4
      have e16 : ∀ E : Up w5, E.to.cell? ⟨sb, 16, none⟩ = some (.slice (some ⟨g, 0, none⟩) s5.vals.length cV) := fun E => E.cell (S5.out.cellAt (k := 3) (by rw [V5.out.2]; rfl))
      have x4 : ∀ E : Up w5, E.to.cell? ⟨w.heap.size, 4, none⟩ = some (.int .i64 (nn : Int)) := fun E => E.cell (HeadAt.of_row X5.out 4 _ rfl)
      have x2 : ∀ E : Up w5, E.to.cell? ⟨w.heap.size, 2, none⟩ = some (.int .i64 xb) := fun E => E.cell (HeadAt.of_row X5.out 2 _ rfl)
      (try dsimp only [Act.put])
      refine wp_region_up_tail 10 (by kernel_rfl) (by kernel_rfl) ?_
      simp only [List.take_succ_cons, List.take_zero]
      repeat (go_big_quiet_step (fail))
      refine wpQuiet_nil ?_
      (first | rintro _ ⟨E, rfl⟩ | intro E)
      obtain ⟨w6, k6⟩ := E
      dsimp only
      have S6 := Lib.hid (S5.out.below k6)
      have T6 : Hid (SinkTo sb mb w s w6 s5) := T5.out.trans (SinkTo.of k6)
      obtain ⟨oldv, hov⟩ : ∃ v, s5.vals[nn]? = some v := ⟨_, List.getElem?_eq_getElem (by omega)⟩
      obtain ⟨v5, v6⟩ := S6.out.valAt V5.out.2 hov
      clear k6 e16 x4 x2 hov
      simp only [List.drop_succ_cons, List.drop_zero]
      go_wp2_with fail
      go_ret
      have MV := S6.out.setVal V5.out.2 (i := nn) (by omega) WX.out.2.2.1
      exact ⟨_, _, rfl, MV.1, T6.out.trans MV.2, fun _ => by show (s5.vals.set nn xb).length ≤ 100; rw [List.length_set]; exact few5.out⟩
  by_cases c10 : xop = 10
  · subst c10
    clear c17 c12 c11
    cases inn
    · go_wp2_with fail
      go_ret
      exact ⟨_, s3, rfl, S3.out, T3.out, nofun⟩
    · have hnv : nn < s3.vals.length := by rw [V3.out.1]; exact of_decide_eq_true HIN.out
      obtain ⟨g, cV, eg, -⟩ := own_open S3.out.vals (by omega)
      have EG := Lib.hid eg
      obtain ⟨val, hval⟩ : ∃ v, s3.vals[nn]? = some v := ⟨_, List.getElem?_eq_getElem hnv⟩
      have HVAL := Lib.hid hval
      have hni : (nn : Int) < s3.vals.length := by omega
      have e17 : ∀ E : Up w3, E.to.cell? ⟨sb, 17, none⟩ = some (.slice (some ⟨T, 0, none⟩) t.ins.length cT) := fun E => E.cell (S3.out.cellAt (k := 4) (by rw [V3.out.2.1, ET.out]; rfl))
      have e16 : ∀ E : Up w3, E.to.cell? ⟨sb, 16, none⟩ = some (.slice (some ⟨g, 0, none⟩) s3.vals.length cV) := fun E => E.cell (S3.out.cellAt (k := 3) (by rw [EG.out]; rfl))
      have x4 : ∀ E : Up w3, E.to.cell? ⟨w.heap.size, 4, none⟩ = some (.int .i64 (nn : Int)) := fun E => E.cell (HeadAt.of_row X3.out 4 _ rfl)
      have xv : ∀ E : Up w3, E.to.cell? ⟨g, nn, none⟩ = some (.int .i64 val) := fun E => E.cell (S3.out.valAt EG.out HVAL.out).1
      clear eg hval
      go_upto_region 19 with fail
      (try dsimp only [Act.put])
      refine wp_region_up_tail 15 (by kernel_rfl) (by kernel_rfl) ?_
      simp only [List.take_succ_cons, List.take_zero]
      repeat (go_big_quiet_step (fail))
      refine wpQuiet_nil ?_
      (first | rintro _ ⟨E, rfl⟩ | intro E)
      obtain ⟨w5, k5⟩ := E
      dsimp only
      have S5 := Lib.hid (S3.out.below k5)
      have T5 : Hid (SinkTo sb mb w s w5 s3) := T3.out.trans (SinkTo.of k5)
      obtain ⟨old5, t5, t6⟩ := S5.out.toAt (V3.out.2.1.trans ET.out) hi
      clear k5 e17 e16 x4 xv
      simp only [List.drop_succ_cons, List.drop_zero]
      go_wp2_with fail
      go_ret
      have MV := S5.out.setTo (V3.out.2.1.trans ET.out) hi HX.out HO.out (v := val) (S5.out.wfV val (List.mem_of_getElem? HVAL.out))
      exact ⟨_, _, rfl, MV.1, T5.out.trans MV.2, fun _ => F3.out⟩
  by_cases c15 : xop = 15
  · subst c15
    clear c17 c12 c11 c10
    have e17 : w3.cell? ⟨sb, 17, none⟩ = some (.slice (some ⟨T, 0, none⟩) t.ins.length cT) := S3.out.cellAt (k := 4) (by rw [V3.out.2.1, ET.out]; rfl)
    obtain ⟨old3, t3, t4⟩ := S3.out.toAt (V3.out.2.1.trans ET.out) hi
    go_upto_region 23 with fail
    generalize hw4 : World.setCell _ _ _ = w4
    have MV := Lib.hid (S3.out.setTo (V3.out.2.1.trans ET.out) hi HX.out HO.out (v := i) wfi_i.out)
    rw [hw4] at MV
    have L4 : Hid (Fined T w3 w4) := by rw [← hw4]; exact (Fined.refl T w3).set_ _ _
    obtain ⟨s4, hs4⟩ : ∃ s4, s4 = { s3 with tl := s3.tl.set i (i : Int) } := ⟨_, rfl⟩
    rw [← hs4] at MV
    have S4 := Lib.hid MV.out.1
    have T4 : Hid (SinkTo sb mb w s w4 s4) := T3.out.trans MV.out.2
    have hTs := (row_ty HS.out.tl (by rw [ET.out]; rfl : s.uT.ownBlock = some T)).2.1
    have X4 := Lib.hid (L4.out.row X3.out (by omega))
    have V4 : Hid (s4.vals = s3.vals ∧ s4.shape = s3.shape ∧ s4.uO = s3.uO) := by rw [hs4]; exact ⟨rfl, rfl, rfl⟩
    have WS4 := S4.out.wfS
    obtain ⟨O, cO, eO⟩ := S4.out.openO (by omega)
    have EO := Lib.hid eO
    have e18 : ∀ E : Up w4, E.to.cell? ⟨sb, 18, none⟩ = some (.slice (some ⟨O, 0, none⟩) t.ins.length cO) := fun E => E.cell (S4.out.cellAt (k := 5) (by rw [EO.out]; rfl))
    clear hw4 hs4 MV L4 S3 X3 T3 e17 t3 t4 hTs q0 q2 e14 eO
    obtain ⟨A4, c4, eV4⟩ := own_len S4.out.vals
    have EV4 := Lib.hid eV4
    have x16 : ∀ E : Up w4, E.to.cell? ⟨sb, 16, none⟩ = some (.slice A4 s4.vals.length c4) := fun E => E.cell (S4.out.cellAt (k := 3) (by rw [EV4.out]; rfl))
    have few4 : Hid (s4.vals.length ≤ 100) := by rw [V4.out.1]; exact F3.out
    clear eV4
    (try dsimp only [Act.put])
    refine wp_region_up_tail 14 (by kernel_rfl) (by kernel_rfl) ?_
    simp only [List.take_succ_cons, List.take_zero]
    repeat (go_big_quiet_step (fail))
    refine wpQuiet_nil ?_
    (first | rintro _ ⟨E, rfl⟩ | intro E)
    obtain ⟨w5, k5⟩ := E
    dsimp only
    have S5 := Lib.hid (S4.out.below k5)
    have T5 : Hid (SinkTo sb mb w s w5 s4) := T4.out.trans (SinkTo.of k5)
    have X5 := Lib.hid ((k5.block _ (Array.getElem?_eq_some_iff.1 X4.out).1).trans X4.out)
    have TH := Lib.hid (S5.out.outThere EO.out hi)
    clear k5 e18 x16
    simp only [List.drop_succ_cons, List.drop_zero]
    refine wpList_store_mid rfl 42 _ _ rfl O (i * 8) #[.int .i64 2, .int .i64 (-1), .int .i64 (-1), .int .i64 (-1), .int .i64 0, .int .i64 (-1), .int .i64 2, .int .i64 (s4.vals.length : Int)] rfl rfl TH.out infoIns8 (all_oneCell_toArray (by simp [Value.oneCell'])) ?_
    generalize hw6 : World.setCells _ _ _ _ = w6
    have MV := Lib.hid (S5.out.setOut EO.out hi HX.out HO.out (y := ⟨2, -1, -1, -1, 0, -1, ⟨2, (s4.vals.length : Int)⟩⟩) (wf_ins (by unfold wfi; omega) (by unfold wfi; omega) (by unfold wfi; omega) (by unfold wfi; omega) (by unfold wfi; omega) (by unfold wfi; omega) (by unfold wfi; omega) (by have := few4.out; unfold wfi; omega)) (show (2 : Int) ≠ 16 by decide) ⟨show (-1 : Int) ≤ -1 by decide, by have := HE.out; show (-1 : Int) < _; omega⟩ (show (0 : Int) ≤ 0 by decide))
    have hw6' : w5.setCells O (i * 8) (insCells ⟨2, -1, -1, -1, 0, -1, ⟨2, (s4.vals.length : Int)⟩⟩) = w6 := hw6
    rw [hw6'] at MV
    have S6 := Lib.hid MV.out.1
    have T6 := Lib.hid (T5.out.trans MV.out.2)
    clear hw6 hw6' MV
    go_wp2_with fail
    go_ret
    exact ⟨_, _, rfl, S6.out, T6.out, fun _ => few4.out⟩
  by_cases c9 : xop = 9
  · subst c9
    clear c17 c12 c11 c10 c15
    have x4 : ∀ E : Up w3, E.to.cell? ⟨w.heap.size, 4, none⟩ = some (.int .i64 (nn : Int)) := fun E => E.cell (HeadAt.of_row X3.out 4 _ rfl)
    have x2 : ∀ E : Up w3, E.to.cell? ⟨w.heap.size, 2, none⟩ = some (.int .i64 xb) := fun E => E.cell (HeadAt.of_row X3.out 2 _ rfl)
    have x14 : ∀ E : Up w3, E.to.cell? ⟨sb, 14, none⟩ = some (.int .i64 kind) := fun E => E.cell e14
    have x15 : ∀ E : Up w3, E.to.cell? ⟨sb, 15, none⟩ = some (.int .i64 s3.shape) := fun E => E.cell (S3.out.cellAt (k := 2) rfl)
    clear q2 e14
    by_cases k1 : kind = (nn : Int)
    · subst k1
      by_cases k2 : nn = 1
      · subst k2
        by_cases k3 : xb = s3.shape
        · have b3 : (xb == s3.shape) = true := by simpa using k3
          clear k3
          go_upto_region 26 with fail
          (try dsimp only [Act.put])
          refine wp_region_up (by kernel_rfl) (by kernel_rfl) ?_
          repeat (go_big_quiet_step (fail))
          refine wpQuiet_nil ?_
          (first | rintro _ ⟨E, rfl⟩ | intro E)
          have S4 := Lib.hid (S3.out.below E.below)
          have T4 : Hid (SinkTo sb mb w s E.to s3) := T3.out.trans (SinkTo.of E.below)
          clear x4 x2 x14 x15
          go_wp2_with fail
          go_ret
          exact ⟨_, s3, rfl, S4.out, T4.out, fun _ => F3.out⟩
        · have b3 : (xb == s3.shape) = false := by simpa using k3
          clear k3
          go_upto_region 26 with fail
          (try dsimp only [Act.put])
          refine wp_region_up (by kernel_rfl) (by kernel_rfl) ?_
          repeat (go_big_quiet_step (fail))
          refine wpQuiet_nil ?_
          (first | rintro _ ⟨E, rfl⟩ | intro E)
          have S4 := Lib.hid (S3.out.below E.below)
          have T4 : Hid (SinkTo sb mb w s E.to s3) := T3.out.trans (SinkTo.of E.below)
          clear x4 x2 x14 x15
          go_wp2_with fail
          go_ret
          exact ⟨_, s3, rfl, S4.out, T4.out, fun _ => F3.out⟩
      · have b2 : (nn == 1) = false := by simpa using k2
        have b2' : ((nn : Int) == 1) = false := by simp; omega
        have b2n : (nn != 1) = true := by simpa using k2
        have b2m : ((nn : Int) != 1) = true := by simp; omega
        clear k2
        go_upto_region 26 with fail
        (try dsimp only [Act.put])
        refine wp_region_up (by kernel_rfl) (by kernel_rfl) ?_
        repeat (go_big_quiet_step (fail))
        refine wpQuiet_nil ?_
        (first | rintro _ ⟨E, rfl⟩ | intro E)
        have S4 := Lib.hid (S3.out.below E.below)
        have T4 : Hid (SinkTo sb mb w s E.to s3) := T3.out.trans (SinkTo.of E.below)
        clear x4 x2 x14 x15
        go_wp2_with fail
        go_ret
        exact ⟨_, s3, rfl, S4.out, T4.out, fun _ => F3.out⟩
    · have b1 : ((nn : Int) == kind) = false := by simpa using fun e => k1 e.symm
      clear k1
      go_upto_region 26 with fail
      (try dsimp only [Act.put])
      refine wp_region_up (by kernel_rfl) (by kernel_rfl) ?_
      repeat (go_big_quiet_step (fail))
      refine wpQuiet_nil ?_
      (first | rintro _ ⟨E, rfl⟩ | intro E)
      have S4 := Lib.hid (S3.out.below E.below)
      have T4 : Hid (SinkTo sb mb w s E.to s3) := T3.out.trans (SinkTo.of E.below)
      clear x4 x2 x14 x15
      go_wp2_with fail
      go_ret
      exact ⟨_, s3, rfl, S4.out, T4.out, fun _ => F3.out⟩
  have d1 : (xop == 17) = false := by simpa using c17
  have d2 : (xop == 12) = false := by simpa using c12
  have d3 : (xop == 11) = false := by simpa using c11
  have d4 : (xop == 10) = false := by simpa using c10
  have d5 : (xop == 15) = false := by simpa using c15
  have d6 : (xop == 9) = false := by simpa using c9
  clear c17 c12 c11 c10 c15 c9
  go_wp2_with fail
  go_ret
  exact ⟨_, s3, rfl, S3.out, T3.out, nofun⟩
end
end Go.Proofs.YtlnkjmgfkpeicaaGreatDoor
