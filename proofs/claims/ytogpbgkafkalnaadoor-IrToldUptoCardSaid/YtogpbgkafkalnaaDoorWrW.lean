/- ir.Write. -/
import Derived.Test.YtogpbgkafkalnaaDoorWrX
namespace Go.Proofs.YtogpbgkafkalnaaDoor
open Go.RowKit Go.Lib

def exL (x : TExit) : List UInt8 := [101, 120, 105, 116] ++ [32] ++ exitP x

set_option maxHeartbeats 2000000 in
set_option maxRecDepth 100000 in
theorem write_c (cs : List Value) (t : TTrace) (w : World) (h : TraceR w w.heap.size cs t) (hi : t.ins.length ≤ 300) (hlen : (traceP t).length ≤ 140737488355328) (ht : ∀ w', Below w.heap.size w w' → Tab w') :
    Calls Tryd.prog 4 #[.agg ⟨cs⟩] w (Gives (.tuple #[.string ⟨(traceP t).toArray⟩, .int .i64 0]) w) := by
  obtain ⟨fn, at_, loop, xs, es, tu, ba⟩ := t
  obtain ⟨iv, ev, ct, cb, rfl, a1, a2, a3, a4, w1', w2', w3'⟩ := h
  obtain ⟨M1, mc1, rfl, m1, m2, -⟩ := id a1
  obtain ⟨M2, mc2, rfl, m3, m4, -⟩ := id a2
  have A1 := Lib.hid a1
  have A2 := Lib.hid a2
  have A3 := Lib.hid a3
  have A4 := Lib.hid a4
  have HT := Lib.hid ht
  obtain ⟨sv1, mv1, rfl, -⟩ := a3
  obtain ⟨sv2, mv2, rfl, -⟩ := a4
  simp only at m1 m3 hi w1' w2' w3'
  unfold maxLen at m2 m4
  have hi1 : (xs.length : Int) ≤ 300 := by omega
  obtain ⟨b, hb⟩ : ∃ b, w.heap.size + 1 = b := ⟨_, rfl⟩
  obtain ⟨w0, hw0⟩ : ∃ w0, w0 = (w.alloc (.cells #[.int .i64 fn, .int .i64 at_, .int .i64 loop, .slice M1 xs.length mc1, .slice M2 es.length mc2, .int .i64 tu.at_, .int .i64 tu.steps, sv1, mv1, .int .i64 ba.at_, .int .i64 ba.steps, sv2, mv2] 29)).alloc (.cells #[.pointer none, .slice none 0 0] 41) := ⟨_, rfl⟩
  have r0 : Hid (Row w0 w.heap.size #[.int .i64 fn, .int .i64 at_, .int .i64 loop, .slice M1 xs.length mc1, .slice M2 es.length mc2, .int .i64 tu.at_, .int .i64 tu.steps, sv1, mv1, .int .i64 ba.at_, .int .i64 ba.steps, sv2, mv2] 29) := by
    rw [hw0]; exact (Lib.alloc_old _ _ _ (by simp)).trans (heap_alloc_new w _)
  have s0 : Hid (Says b b [] w0) := by
    rw [hw0, ← hb]
    have := Lib.fresh_isBuilder 41 5 (w.alloc (.cells #[.int .i64 fn, .int .i64 at_, .int .i64 loop, .slice M1 xs.length mc1, .slice M2 es.length mc2, .int .i64 tu.at_, .int .i64 tu.steps, sv1, mv1, .int .i64 ba.at_, .int .i64 ba.steps, sv2, mv2] 29))
    rw [World.size_alloc] at this
    exact this
  have k0 : Hid (Below w.heap.size w w0) := by rw [hw0]; exact below_two' w _ _
  have hz0 : b < w0.heap.size := s0.out.lt
  have HB := Lib.hid hb
  have hbw : w.heap.size < b := by omega
  have HW := Lib.hid hw0
  -- the parts
  obtain ⟨P1, hP1⟩ : ∃ P1, P1 = ([116, 114, 97, 99, 101, 32] : List UInt8) := ⟨_, rfl⟩
  obtain ⟨P2, hP2⟩ : ∃ P2, P2 = P1 ++ numsFrom 0 [fn, at_, loop] := ⟨_, rfl⟩
  obtain ⟨P3, hP3⟩ : ∃ P3, P3 = P2 ++ [10] := ⟨_, rfl⟩
  obtain ⟨P4, hP4⟩ : ∃ P4, P4 = P3 ++ xs.flatMap insP := ⟨_, rfl⟩
  obtain ⟨P5, hP5⟩ : ∃ P5, P5 = P4 ++ es.flatMap exL := ⟨_, rfl⟩
  obtain ⟨P6, hP6⟩ : ∃ P6, P6 = P5 ++ [116, 117, 114, 110] ++ [32] ++ exitP tu := ⟨_, rfl⟩
  obtain ⟨P7, hP7⟩ : ∃ P7, P7 = P6 ++ [98, 97, 99, 107] ++ [32] ++ exitP ba := ⟨_, rfl⟩
  have e7 : traceP ⟨fn, at_, loop, xs, es, tu, ba⟩ = P7 := by
    rw [hP7, hP6, hP5, hP4, hP3, hP2, hP1]; simp [traceP]; rfl
  rw [e7] at hlen ⊢
  have l7 : (P6 ++ [98, 97, 99, 107] ++ [32] ++ exitP ba).length ≤ 140737488355328 := by rw [← hP7]; exact hlen
  have l6 : (P5 ++ [116, 117, 114, 110] ++ [32] ++ exitP tu).length ≤ 140737488355328 := by rw [← hP6]; simp only [List.length_append] at l7; omega
  have l5 : P4.length + (es.flatMap exL).length ≤ 140737488355328 := by have := congrArg List.length hP5; simp only [List.length_append] at this l6; omega
  have l4 : P3.length + (xs.flatMap insP).length ≤ 140737488355328 := by have := congrArg List.length hP4; simp only [List.length_append] at this; omega
  have l3 : P2.length + 1 ≤ 140737488355328 := by have := congrArg List.length hP3; simp only [List.length_append, List.length_singleton] at this; omega
  have l2 : P1.length + (numsFrom 0 [fn, at_, loop]).length ≤ 140737488355328 := by have := congrArg List.length hP2; simp only [List.length_append] at this; omega
  have n7 : P7 ≠ [] := by rw [hP7]; simp
  have E1 := Lib.hid hP1
  have E2 := Lib.hid hP2
  have E3 := Lib.hid hP3
  have E4 := Lib.hid hP4
  have E5 := Lib.hid hP5
  have E6 := Lib.hid hP6
  have E7 := Lib.hid hP7
  have L2 := Lib.hid l2
  have L3 := Lib.hid l3
  have L4 := Lib.hid l4
  have L5 := Lib.hid l5
  have L6 := Lib.hid l6
  have L7 := Lib.hid l7
  have N7 := Lib.hid n7
  -- what holds behind any writing
  have TB : Hid (∀ w1, Wrote b b w0 w1 → ∀ w', Below b w1 w' → Tab w') := fun w1 k w' k' => HT.out _ ((k0.out.trans ((k.under (Nat.le_of_lt hz0)).mono (Nat.le_of_lt hbw))).trans (k'.mono (Nat.le_of_lt hbw)))
  have OB : Hid (∀ w1, Wrote b b w0 w1 → Below w.heap.size w w1) := fun w1 k => k0.out.trans ((k.under (Nat.le_of_lt hz0)).mono (Nat.le_of_lt hbw))
  clear hlen l2 l3 l4 l5 l6 l7 n7 hP1 hP2 hP3 hP4 hP5 hP6 hP7 e7 ht a1 a2 hw0 hb
  go_enter Tryd.func4, Tryd.ntmps4
  go_wp2_with fail
  rw [← HW.out, HB.out]
  refine (ws_c b b [] ⟨#[116, 114, 97, 99, 101, 32]⟩ P1 (by rw [E1.out]) w0 s0.out (by rw [E1.out]; decide)).mono ?_
  rintro e w1 ⟨rfl, k1, k2⟩
  have S1 : Hid (Says b b P1 w1) := by simpa [Hid] using k1
  have W1 := Lib.hid k2
  have R1 := Lib.hid (r0.out.wrote k2 (by omega) (by decide))
  have c0 : w1.cell? ⟨w.heap.size, 0, none⟩ = some (.int .i64 fn) := R1.out.cell 0
  have c1 : w1.cell? ⟨w.heap.size, 1, none⟩ = some (.int .i64 at_) := R1.out.cell 1
  have c2 : w1.cell? ⟨w.heap.size, 2, none⟩ = some (.int .i64 loop) := R1.out.cell 2
  have hz1 : w.heap.size < w1.heap.size := R1.out.lt
  clear k1 k2
  go_wp2_with fail
  refine (nums_c b b w1.heap.size 3 P1 [fn, at_, loop] _ (S1.out.below (below_one _ _)) ⟨(0, 0), heap_alloc_new _ _⟩ (by have := S1.out.lt; omega) (by intro z hz; simp at hz; rcases hz with rfl | rfl | rfl <;> assumption) L2.out (by simp) (by simp) (TB.out _ (W1.out.alloc _))).mono ?_
  rintro e w2 ⟨rfl, k1, k2⟩
  rw [← E2.out] at k1
  have S2 := Lib.hid k1
  have W2 := Lib.hid ((W1.out.alloc _).trans k2)
  clear k1 k2 c0 c1 c2 hz1
  go_wp2_with fail
  refine (wb_c b b P2 10 _ S2.out L3.out).mono ?_
  rintro e w3 ⟨rfl, k1, k2⟩
  rw [← E3.out] at k1
  have S3 := Lib.hid k1
  have W3 := Lib.hid (W2.out.trans k2)
  have R3 := Lib.hid (r0.out.wrote W3.out (by omega) (by decide))
  have c3 : w3.cell? ⟨w.heap.size, 3, none⟩ = some (.slice M1 xs.length mc1) := R3.out.cell 3
  clear k1 k2
  go_wp2_with fail
  go_loopw [35] (fun k wr => ∃ kn : Nat, k = .int .i64 kn ∧ kn ≤ xs.length ∧ Hid (Says b b (P3 ++ (xs.take kn).flatMap insP) wr) ∧ Hid (Wrote b b w0 wr)) (fun k _ => xs.length - (RowKit.intOf k).toNat)
  case atStart => exact ⟨0, rfl, by omega, by simpa [Hid] using S3, W3⟩
  case round =>
    obtain ⟨kn, rfl, hk, KS, KW⟩ := hrel
    clear c3
    by_cases hlt : kn < xs.length
    · obtain ⟨b1, off, x, rfl, hb1, hx0, wx, hat⟩ := ins_op A1.out (i := kn) hlt
      have KB := Lib.hid (OB.out _ KW.out)
      have g0 : wr.cell? ⟨b1, off + kn * 8, none⟩ = some (.int .i64 x.op) := (KB.out.cell hb1).trans (hat 0 _ rfl)
      have g1 : wr.cell? ⟨b1, off + kn * 8 + 1, none⟩ = some (.int .i64 x.a) := (KB.out.cell hb1).trans (hat 1 _ rfl)
      have g2 : wr.cell? ⟨b1, off + kn * 8 + 2, none⟩ = some (.int .i64 x.b) := (KB.out.cell hb1).trans (hat 2 _ rfl)
      have g3 : wr.cell? ⟨b1, off + kn * 8 + 3, none⟩ = some (.int .i64 x.c) := (KB.out.cell hb1).trans (hat 3 _ rfl)
      have g4 : wr.cell? ⟨b1, off + kn * 8 + 4, none⟩ = some (.int .i64 x.n) := (KB.out.cell hb1).trans (hat 4 _ rfl)
      have g5 : wr.cell? ⟨b1, off + kn * 8 + 5, none⟩ = some (.int .i64 x.exit) := (KB.out.cell hb1).trans (hat 5 _ rfl)
      have g6 : wr.cell? ⟨b1, off + kn * 8 + 6, none⟩ = some (.int .i64 x.k.kind) := (KB.out.cell hb1).trans (hat 6 _ rfl)
      have g7 : wr.cell? ⟨b1, off + kn * 8 + 7, none⟩ = some (.int .i64 x.k.n) := (KB.out.cell hb1).trans (hat 7 _ rfl)
      have NS := Lib.hid (flat_step (f := insP) hx0)
      have ln := flat_le (f := insP) xs (kn + 1)
      rw [NS.out] at ln
      simp only [List.length_append, insP, List.length_singleton] at ln
      have LN := Lib.hid ln
      have WX := Lib.hid wx
      clear hx0 ln hat wx
      go_wp2_with fail
      refine (nums_c b b (wr.heap.size + 1) 8 _ [x.op, x.a, x.b, x.c, x.n, x.exit, x.k.kind, x.k.n] _ ((KS.out.below (below_one _ _)).below (below_one _ _)) ⟨(0, 0), heap_two _ _ _⟩ (by have := KS.out.lt; omega) ?wf ?len (by simp) (by simp) (TB.out _ ((KW.out.alloc _).alloc _))).mono ?_
      case wf =>
        obtain ⟨v0, v1, v2, v3, v4, v5, v6, v7⟩ := WX.out
        intro z hz
        simp only [List.mem_cons, List.not_mem_nil, or_false] at hz
        rcases hz with rfl | rfl | rfl | rfl | rfl | rfl | rfl | rfl <;> assumption
      case len => have := LN.out; have := L4.out; simp only [List.length_append, insP, List.length_singleton] at *; omega
      rintro e w5 ⟨rfl, k1, k2⟩
      have K1 := Lib.hid k1
      have K2 := Lib.hid (((KW.out.alloc _).alloc _).trans k2)
      clear k1 k2 g0 g1 g2 g3 g4 g5 g6 g7
      go_wp2_with fail
      refine (wb_c b b _ 10 _ K1.out (by have := LN.out; have := L4.out; simp only [List.length_append, insP, List.length_singleton] at *; omega)).mono ?_
      rintro e w6 ⟨rfl, k1, k2⟩
      have K3 := Lib.hid k1
      have K4 := Lib.hid (K2.out.trans k2)
      clear k1 k2
      go_wp2_with fail
      go_roundw
      case rel => exact ⟨kn + 1, by go_num, by omega, by rw [NS.out]; simpa [Hid, insP] using K3.out, K4⟩
      case measure => simp [RowKit.intOf]; omega
    · have hkl : xs.length ≤ kn := by omega
      have S4 : Hid (Says b b P4 wr) := by have := KS.out; rw [flat_all _ hkl, ← E4.out] at this; exact this
      have R4 := Lib.hid (r0.out.wrote KW.out (by omega) (by decide))
      have c4 : wr.cell? ⟨w.heap.size, 4, none⟩ = some (.slice M2 es.length mc2) := R4.out.cell 4
      have KW4 := KW
      clear KS hk
      go_wp2_with fail
      go_loopw [68] (fun k wr => ∃ kn : Nat, k = .int .i64 kn ∧ kn ≤ es.length ∧ Hid (Says b b (P4 ++ (es.take kn).flatMap exL) wr) ∧ Hid (Wrote b b w0 wr)) (fun k _ => es.length - (RowKit.intOf k).toNat)
      case atStart => exact ⟨0, rfl, by omega, by simpa [Hid] using S4, KW4⟩
      case round =>
        clear KW4 S4 R4 c4 hlt hkl KW
        obtain ⟨kn, rfl, hk, KS, KW⟩ := hrel
        obtain ⟨wo, rfl⟩ : ∃ wo : World, wo = wr := ⟨_, rfl⟩
        by_cases hlt : kn < es.length
        · obtain ⟨b1, off, x, ecs, rfl, hb1, hx0, -, hR, hat⟩ := A2.out.at_ hlt
          have KB := Lib.hid (OB.out _ KW.out)
          have XR : Hid (ExitR (wo.alloc (.cells ⟨ecs⟩ 27)) b ecs x) := hR.keep (Nat.le_of_lt hbw) (fun p hp => (Below.alloc KB.out KB.out.size _).cell hp)
          obtain ⟨sv, mv, rfl, r1, r2, -⟩ := hR
          obtain ⟨S1, sc, rfl, -⟩ := r1
          obtain ⟨S2, mc, rfl, -⟩ := r2
          have g0 : wo.cell? ⟨b1, off + kn * 4, none⟩ = some (.int .i64 x.at_) := (KB.out.cell hb1).trans (hat 0 _ rfl)
          have g1 : wo.cell? ⟨b1, off + kn * 4 + 1, none⟩ = some (.int .i64 x.steps) := (KB.out.cell hb1).trans (hat 1 _ rfl)
          have g2 : wo.cell? ⟨b1, off + kn * 4 + 2, none⟩ = some (.slice S1 x.sets.length sc) := (KB.out.cell hb1).trans (hat 2 _ rfl)
          have g3 : wo.cell? ⟨b1, off + kn * 4 + 3, none⟩ = some (.slice S2 x.makes.length mc) := (KB.out.cell hb1).trans (hat 3 _ rfl)
          have NS := Lib.hid (flat_step (f := exL) hx0)
          have ln := flat_le (f := exL) es (kn + 1)
          rw [NS.out] at ln
          simp only [List.length_append, exL] at ln
          have LN := Lib.hid ln
          clear hx0 ln hat
          go_wp2_with fail
          refine (exit_c b b _ ⟨#[101, 120, 105, 116]⟩ [101, 120, 105, 116] rfl (by simp) _ x _ (KS.out.below (below_one _ _)) XR.out (by have := LN.out; have := L5.out; simp only [List.length_append, exL] at *; omega) (TB.out _ (KW.out.alloc _))).mono ?_
          rintro e w5 ⟨rfl, k1, k2⟩
          have K1 := Lib.hid k1
          have K2 := Lib.hid ((KW.out.alloc _).trans k2)
          clear k1 k2 g0 g1 g2 g3
          go_wp2_with fail
          go_roundw
          case rel => exact ⟨kn + 1, by go_num, by omega, by rw [NS.out]; simpa [Hid, exL] using K1.out, K2⟩
          case measure => simp [RowKit.intOf]; omega
        · have hkl : es.length ≤ kn := by omega
          have S5 : Hid (Says b b P5 wo) := by have := KS.out; rw [flat_all _ hkl, ← E5.out] at this; exact this
          have R5 := Lib.hid (r0.out.wrote KW.out (by omega) (by decide))
          have c5 : wo.cell? ⟨w.heap.size, 5, none⟩ = some (.int .i64 tu.at_) := R5.out.cell 5
          have c6 : wo.cell? ⟨w.heap.size, 6, none⟩ = some (.int .i64 tu.steps) := R5.out.cell 6
          have c7 : wo.cell? ⟨w.heap.size, 7, none⟩ = some sv1 := R5.out.cell 7
          have c8 : wo.cell? ⟨w.heap.size, 8, none⟩ = some mv1 := R5.out.cell 8
          clear KS hk
          go_wp2_with fail
          refine (exit_c b b P5 ⟨#[116, 117, 114, 110]⟩ [116, 117, 114, 110] rfl (by simp) _ tu _ S5.out (A3.out.keep (Nat.le_of_lt hbw) (fun p hp => (OB.out _ KW.out).cell hp)) L6.out (TB.out _ KW.out)).mono ?_
          rintro e w5 ⟨rfl, k1, k2⟩
          rw [← E6.out] at k1
          have S6 := Lib.hid k1
          have W6 := Lib.hid (KW.out.trans k2)
          have R6 := Lib.hid (r0.out.wrote W6.out (by omega) (by decide))
          clear k1 k2 c5 c6 c7 c8
          have c9 : w5.cell? ⟨w.heap.size, 9, none⟩ = some (.int .i64 ba.at_) := R6.out.cell 9
          have c10 : w5.cell? ⟨w.heap.size, 10, none⟩ = some (.int .i64 ba.steps) := R6.out.cell 10
          have c11 : w5.cell? ⟨w.heap.size, 11, none⟩ = some sv2 := R6.out.cell 11
          have c12 : w5.cell? ⟨w.heap.size, 12, none⟩ = some mv2 := R6.out.cell 12
          go_wp2_with fail
          refine (exit_c b b P6 ⟨#[98, 97, 99, 107]⟩ [98, 97, 99, 107] rfl (by simp) _ ba _ S6.out (A4.out.keep (Nat.le_of_lt hbw) (fun p hp => (OB.out _ W6.out).cell hp)) L7.out (TB.out _ W6.out)).mono ?_
          rintro e w7 ⟨rfl, k1, k2⟩
          rw [← E7.out] at k1
          have S7 := Lib.hid k1
          have W7 := Lib.hid (W6.out.trans k2)
          clear k1 k2 c9 c10 c11 c12
          go_wp2_with fail
          have hp : ∃ p, WrAt b b p (byteCells P7) w7 := by
            rcases S7.out with h | h <;> exact ⟨_, h⟩
          obtain ⟨p, hp⟩ := hp
          refine (string_c b b p P7 w7 hp N7.out).mono ?_
          rintro e w8 ⟨rfl, k1⟩
          have K8 := Lib.hid k1
          clear k1 hp
          go_wp2_with fail
          go_ret2
          exact ⟨rfl, (OB.out _ W7.out).trans (K8.out.mono (Nat.le_of_lt hbw))⟩

set_option maxHeartbeats 1000000 in
theorem write_large (cs : List Value) (t : TTrace) (w : World) (h : TraceR w w.heap.size cs t) (hi : 300 < t.ins.length) :
    Calls Tryd.prog 4 #[.agg ⟨cs⟩] w (Gives (.tuple #[.string ⟨#[]⟩, .int .i64 2]) w) := by
  obtain ⟨fn, at_, loop, xs, es, tu, ba⟩ := t
  obtain ⟨iv, ev, ct, cb, rfl, a1, a2, a3, a4, -⟩ := h
  obtain ⟨M1, mc1, rfl, m1, m2, -⟩ := id a1
  obtain ⟨sv1, mv1, rfl, -⟩ := a3
  obtain ⟨sv2, mv2, rfl, -⟩ := a4
  simp only at m1 hi
  unfold maxLen at m2
  have hi1 : (300 : Int) < xs.length := by omega
  clear a1 a2
  go_enter Tryd.func4, Tryd.ntmps4
  go_wp2_with fail
  go_ret2
  exact ⟨rfl, below_one w _⟩
end Go.Proofs.YtogpbgkafkalnaaDoor
