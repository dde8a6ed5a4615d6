/- ir.checker's methods: formed. -/
import Derived.Test.YtlnkjmgfkpeicaaGreatDoorChkN
import Derived.Test.YtlnkjmgfkpeicaaGreatDoorIrT
import Derived.Deep.DeepCutAuto
set_option linter.all false
namespace Go.Proofs.YtlnkjmgfkpeicaaGreatDoor
open Go.RowKit

theorem four_box (w : World) (A B C D : List Value) (t u v s : TypeId) {W : World} (hW : W = (((w.alloc (.cells ⟨A⟩ t)).alloc (.cells ⟨B⟩ u)).alloc (.cells ⟨C⟩ v)).alloc (.cells ⟨D⟩ s)) :
    HeadAt W w.heap.size A ∧ HeadAt W (w.heap.size + 1) B ∧ HeadAt W (w.heap.size + 1 + 1) C ∧ HeadAt W (w.heap.size + 1 + 1 + 1) D ∧ Below w.heap.size w W ∧ W.heap.size = w.heap.size + 4 := by
  obtain ⟨h1, h2, h3⟩ := two_box w A B t u
  subst hW
  refine ⟨(h1.old _).old _, (h2.old _).old _, ?_, ?_, (h3.alloc (by simp; omega) _).alloc (by simp; omega) _, by simp⟩
  · refine HeadAt.old ?_ _
    have := HeadAt.box ((w.alloc (.cells ⟨A⟩ t)).alloc (.cells ⟨B⟩ u)) C v
    simpa only [World.size_alloc] using this
  · have := HeadAt.box (((w.alloc (.cells ⟨A⟩ t)).alloc (.cells ⟨B⟩ u)).alloc (.cells ⟨C⟩ v)) D s
    simpa only [World.size_alloc] using this

theorem infoExit : (Tryz.prog.info? 32).map (·.size) = some 4 := by kernel_rfl
theorem CheckR.at9 {w : World} {B : Nat} {cs : List Value} {f : CFn} {t : TTrace} (h : CheckR w B cs f t) : ∃ Ae ne, cs[9]? = some (.slice Ae t.exits.length ne) ∧ SliceR w B 4 (ExitR w B) (.slice Ae t.exits.length ne) t.exits := by
  obtain ⟨A4, n4, A5, n5, Ai, ni, Ae, ne, s1, m1, s2, m2, rfl, -, -, h⟩ := h.cells
  exact ⟨Ae, ne, rfl, h⟩

set_option maxHeartbeats 4000000 in
set_option maxRecDepth 100000 in
theorem formed_c (cs : List Value) (f : CFn) (t : TTrace) (x : TIns) (at_ : Int) (w : World) (h : CheckR w w.heap.size cs f t) (hx : WfIns x) :
    Calls Tryz.prog 14 #[.agg ⟨cs⟩, formV (formM x.op), insV x, .int .i64 at_] w (Gives (.bool (formedM rightV (fnOf f) t x at_)) w) := by
  obtain ⟨r, hr⟩ : ∃ r, formedM rightV (fnOf f) t x at_ = r := ⟨_, rfl⟩
  rw [hr]
  have HR := Lib.hid hr
  have HC := Lib.hid h
  have HI := Lib.hid h.len
  have WX := Lib.hid hx
  obtain ⟨a0, a3, -⟩ := asks_bd x.op
  have HA := Lib.hid (show asksM x = [x.a, x.b, x.c].take (formM x.op).asks.toNat from rfl)
  obtain ⟨F, hF⟩ : ∃ F, formM x.op = F := ⟨_, rfl⟩
  rw [hF] at a0 a3 HA ⊢
  have HF := Lib.hid hF
  clear hr hF h
  obtain ⟨asks, low, high, kf, tells, ex⟩ := F
  obtain ⟨op, xa, xb, xc, xn, xe, ⟨kk, kn⟩⟩ := x
  dsimp only at a0 a3 HA
  obtain ⟨n, rfl⟩ := Int.eq_ofNat_of_zero_le a0
  obtain ⟨w0, hw0⟩ : ∃ w0, w0 = (((w.alloc (.cells ⟨cs⟩ 59)).alloc (.cells #[.int .i64 n, .int .i64 low, .int .i64 high, .bool kf, .bool tells, .int .i64 ex] 61)).alloc (.cells #[.int .i64 op, .int .i64 xa, .int .i64 xb, .int .i64 xc, .int .i64 xn, .int .i64 xe, .int .i64 kk, .int .i64 kn] 42)).alloc (.cells #[.int .i64 xa, .int .i64 xb, .int .i64 xc] 80) := ⟨_, rfl⟩
  obtain ⟨h1, h2, h3, h4, h5, h6⟩ := four_box _ _ _ _ _ _ _ _ _ hw0
  have H1 := Lib.hid h1
  have H2 := Lib.hid h2
  have H3 := Lib.hid h3
  have H4 := Lib.hid h4
  have K0 := Lib.hid h5
  have HW := Lib.hid hw0
  have RU : Hid (∀ E : Up w0, E.to.rangeAt w.heap.size 0 cs) := fun E => (H1.out.on E.below).range
  have f0 : ∀ E : Up w0, E.to.cell? ⟨w.heap.size + 1, 0, none⟩ = some (.int .i64 n) := fun E => cell_on E.below (H2.out 0 _ rfl)
  clear h1 h2 h3 h4 h5 hw0
  go_enter Tryz.func14, Tryz.ntmps14
  unfold formV insV
  dsimp only
  go_wp2_with fail
  rw [← HW.out]
  have a3' : (n : Int) ≤ 3 := a3
  have SV : Hid (∀ W, Below w0.heap.size w0 W → SliceR W W.heap.size 1 IntR (.slice (some ⟨w.heap.size + 1 + 1 + 1, 0, none⟩) ([xa, xb, xc].take n).length 3) ([xa, xb, xc].take n)) := fun W kW => by
    have h7 := H4.out.on kW
    refine ⟨_, 3, rfl, ?_, by decide, fun _ => ⟨_, 0, rfl, ?_, fun i y hy => ⟨[.int .i64 y], rfl, ⟨rfl, ?_⟩, fun j v hj => ?_⟩⟩⟩
    · rw [List.length_take]; simp; omega
    · exact cell_lt (h7 0 _ rfl)
    · have hm := List.mem_of_mem_take (List.mem_of_getElem? hy)
      simp only [List.mem_cons, List.not_mem_nil, or_false] at hm
      rcases hm with rfl | rfl | rfl
      · exact WX.out.2.1
      · exact WX.out.2.2.1
      · exact WX.out.2.2.2.1
    · match j, hj with
      | 0, hj =>
        simp only [List.getElem?_cons_zero, Option.some.injEq] at hj
        subst hj
        refine h7 _ _ ?_
        rw [List.getElem?_take] at hy
        split at hy
        · match i, hy with
          | 0, hy => injection hy with hy; subst hy; rfl
          | 1, hy => injection hy with hy; subst hy; rfl
          | 2, hy => injection hy with hy; subst hy; rfl
        · cases hy
  have CV : Hid (∀ E : Up w0, Calls Tryz.prog 27 #[.agg ⟨cs⟩, .slice (some ⟨w.heap.size + 1 + 1 + 1, 0, none⟩) n 3, .int .i64 at_] E.to (Gives (.bool (valuesM t.ins ([xa, xb, xc].take n) at_)) E.to)) := fun E => by
    have hl : ([xa, xb, xc].take n).length = n := by rw [List.length_take]; simp; omega
    have := values_c cs f t _ _ at_ E.to (HC.out.below (K0.out.trans (E.below.mono K0.out.size))) (SV.out _ E.below)
    rwa [hl] at this
  refine wp_region_up (by kernel_rfl) (by kernel_rfl) ?_
  repeat (first
    | (refine wpQuiet_load_up 59 _ rfl rfl w.heap.size 0 rfl cs _ RU.out Tryz.underlying59 rfl HI.out ?_; go_simp)
    | go_big_quiet_step ((go_at_call 27; with_reducible exact Calls.up (CV.out _))))
  refine wpQuiet_nil ?_
  intro E
  obtain ⟨w1, k1⟩ := E
  have K1 := Lib.hid k1
  have KK := Lib.hid (K0.out.trans (k1.mono K0.out.size))
  obtain ⟨q, hq⟩ : ∃ q, valuesM t.ins ([xa, xb, xc].take n) at_ = q := ⟨_, rfl⟩
  rw [hq]
  dsimp only
  have HQ := Lib.hid hq
  have g0 := cell_on k1 (H2.out 0 _ rfl)
  clear k1 hq f0
  cases q
  case false =>
    have HN : Hid (false = r) := by rw [← HR.out]; unfold formedM; rw [HA.out, Int.toNat_natCast, HQ.out]; rfl
    go_wp2_with fail
    go_ret
    exact ⟨by rw [← HN.out]; rfl, KK.out⟩
  have FM : Hid (r = (shapesM ⟨op, xa, xb, xc, xn, xe, ⟨kk, kn⟩⟩ ⟨n, low, high, kf, tells, ex⟩ &&
      !(decide (xn < low) || decide (high < xn) || (op == 1 && decide (f.regs ≤ xn))) &&
      !((!kf && (⟨kk, kn⟩ : Val) != ⟨0, 0⟩) || (kf && !rightV ⟨kk, kn⟩) || (op == 2 && kk == 5)) &&
      (if ex == 0 || (ex == 1 && xe == -1) then xe == -1
       else decide (0 ≤ xe) && decide (xe < t.exits.length) && (t.exits[xe.toNat]?).any (rightM (fnOf f) t.ins · at_)))) := by
    rw [← HR.out]
    unfold formedM
    dsimp only
    rw [HA.out, Int.toNat_natCast, HQ.out, HF.out, Bool.true_and]
    exact rfl
  go_wp2_with fail
  have a0 := cell_on K1.out (H3.out 0 _ rfl)
  have a4 := cell_on K1.out (H3.out 4 _ rfl)
  have v0 := cell_on K1.out (H4.out 0 _ rfl)
  have v1 := cell_on K1.out (H4.out 1 _ rfl)
  have v2 := cell_on K1.out (H4.out 2 _ rfl)
  go_loopw [10] (fun k wr => ∃ jn : Nat, k = .int .i64 jn ∧ n ≤ jn ∧ jn ≤ 3 ∧ Hid (∀ j v, n ≤ j → j < jn → [xa, xb, xc][j]? = some v → shapedM ⟨op, xa, xb, xc, xn, xe, ⟨kk, kn⟩⟩ j v = true) ∧ wr = w1) (fun k _ => 3 - (RowKit.intOf k).toNat)
  case atStart => exact ⟨n, rfl, Nat.le_refl _, by omega, fun j v h1 h2 => by omega, rfl⟩
  case round =>
    obtain ⟨jn, rfl, h1, h2, HP, rfl⟩ := hrel
    have hj : jn = 0 ∨ jn = 1 ∨ jn = 2 ∨ jn = 3 := by omega
    rcases hj with rfl | rfl | rfl | rfl
    · have hn : n = 0 := by omega
      subst hn
      by_cases c : xa = -1
      case neg =>
        have c' : (xa != -1) = true := by simpa using c
        have HN : Hid (false = r) := by
          rw [FM.out]
          have : shapesM ⟨op, xa, xb, xc, xn, xe, ⟨kk, kn⟩⟩ ⟨((0 : Nat) : Int), low, high, kf, tells, ex⟩ = false := by simp [shapesM, shapedM, c]
          rw [this]; rfl
        go_wp2_with fail
        go_ret
        exact ⟨by rw [← HN.out]; rfl, KK.out⟩
      subst c
      go_wp2_with fail
      go_roundw
      case rel => exact ⟨1, rfl, by omega, by omega, fun j v g1 g2 g3 => by
        obtain rfl : j = 0 := by omega
        injection g3 with g3; subst g3; rfl, by first | rfl | trivial⟩
      case measure => simp [RowKit.intOf]
    · by_cases c : op = 19
      · have SH : Hid (shapedM ⟨op, xa, xb, xc, xn, xe, ⟨kk, kn⟩⟩ 1 xb = decide (0 ≤ xb)) := by simp [shapedM, c, Hid]
        rw [c] at a0
        by_cases d : 0 ≤ xb
        case neg =>
          have d' : xb < 0 := by omega
          have HN : Hid (false = r) := by
            rw [FM.out]
            have : shapesM ⟨op, xa, xb, xc, xn, xe, ⟨kk, kn⟩⟩ ⟨(n : Int), low, high, kf, tells, ex⟩ = false := by
              unfold shapesM
              dsimp only
              rw [SH.out, decide_eq_false d, decide_eq_false (by omega : ¬ (1 : Int) < n), Bool.or_false, Bool.and_false, Bool.false_and]
            rw [this]; rfl
          go_wp2_with fail
          go_ret
          exact ⟨by rw [← HN.out]; rfl, KK.out⟩
        have d' : ¬ xb < 0 := by omega
        go_wp2_with fail
        go_roundw
        case rel => exact ⟨2, rfl, by omega, by omega, fun j v g1 g2 g3 => by
          rcases Nat.lt_or_ge j 1 with g4 | g4
          · exact HP.out j v g1 g4 g3
          · obtain rfl : j = 1 := by omega
            injection g3 with g3; subst g3; exact SH.out.trans (decide_eq_true d), by first | rfl | trivial⟩
        case measure => simp [RowKit.intOf]
      have c' : (op == 19) = false := beq_eq_false_iff_ne.2 c
      by_cases c9 : op = 9 ∧ xn = 1
      · have SH : Hid (shapedM ⟨op, xa, xb, xc, xn, xe, ⟨kk, kn⟩⟩ 1 xb = decide (0 ≤ xb)) := by simp [shapedM, c9.1, c9.2, Hid]
        rw [c9.1] at a0
        rw [c9.2] at a4
        by_cases d : 0 ≤ xb
        case neg =>
          have d' : xb < 0 := by omega
          have HN : Hid (false = r) := by
            rw [FM.out]
            have : shapesM ⟨op, xa, xb, xc, xn, xe, ⟨kk, kn⟩⟩ ⟨(n : Int), low, high, kf, tells, ex⟩ = false := by
              unfold shapesM
              dsimp only
              rw [SH.out, decide_eq_false d, decide_eq_false (by omega : ¬ (1 : Int) < n), Bool.or_false, Bool.and_false, Bool.false_and]
            rw [this]; rfl
          go_wp2_with fail
          go_ret
          exact ⟨by rw [← HN.out]; rfl, KK.out⟩
        have d' : ¬ xb < 0 := by omega
        go_wp2_with fail
        go_roundw
        case rel => exact ⟨2, rfl, by omega, by omega, fun j v g1 g2 g3 => by
          rcases Nat.lt_or_ge j 1 with g4 | g4
          · exact HP.out j v g1 g4 g3
          · obtain rfl : j = 1 := by omega
            injection g3 with g3; subst g3; exact SH.out.trans (decide_eq_true d), by first | rfl | trivial⟩
        case measure => simp [RowKit.intOf]
      by_cases o9 : op = 9
      · have n1 : ¬ xn = 1 := fun h => c9 ⟨o9, h⟩
        have n1' : (xn == 1) = false := beq_eq_false_iff_ne.2 n1
        have SH : Hid (shapedM ⟨op, xa, xb, xc, xn, xe, ⟨kk, kn⟩⟩ 1 xb = (xb == -1)) := by simp [shapedM, o9, n1, Hid]
        rw [o9] at a0
        by_cases d : xb = -1
        case neg =>
          have d' : (xb != -1) = true := by simpa using d
          have HN : Hid (false = r) := by
            rw [FM.out]
            have : shapesM ⟨op, xa, xb, xc, xn, xe, ⟨kk, kn⟩⟩ ⟨(n : Int), low, high, kf, tells, ex⟩ = false := by
              unfold shapesM
              dsimp only
              rw [SH.out, beq_eq_false_iff_ne.2 d, decide_eq_false (by omega : ¬ (1 : Int) < n), Bool.or_false, Bool.and_false, Bool.false_and]
            rw [this]; rfl
          go_wp2_with fail
          go_ret
          exact ⟨by rw [← HN.out]; rfl, KK.out⟩
        subst d
        go_wp2_with fail
        go_roundw
        case rel => exact ⟨2, rfl, by omega, by omega, fun j v g1 g2 g3 => by
          rcases Nat.lt_or_ge j 1 with g4 | g4
          · exact HP.out j v g1 g4 g3
          · obtain rfl : j = 1 := by omega
            injection g3 with g3; subst g3; exact SH.out.trans rfl, by first | rfl | trivial⟩
        case measure => simp [RowKit.intOf]
      · have o9' : (op == 9) = false := beq_eq_false_iff_ne.2 o9
        have SH : Hid (shapedM ⟨op, xa, xb, xc, xn, xe, ⟨kk, kn⟩⟩ 1 xb = (xb == -1)) := by simp [shapedM, o9, c, Hid]
        by_cases d : xb = -1
        case neg =>
          have d' : (xb != -1) = true := by simpa using d
          have HN : Hid (false = r) := by
            rw [FM.out]
            have : shapesM ⟨op, xa, xb, xc, xn, xe, ⟨kk, kn⟩⟩ ⟨(n : Int), low, high, kf, tells, ex⟩ = false := by
              unfold shapesM
              dsimp only
              rw [SH.out, beq_eq_false_iff_ne.2 d, decide_eq_false (by omega : ¬ (1 : Int) < n), Bool.or_false, Bool.and_false, Bool.false_and]
            rw [this]; rfl
          go_wp2_with fail
          go_ret
          exact ⟨by rw [← HN.out]; rfl, KK.out⟩
        subst d
        go_wp2_with fail
        go_roundw
        case rel => exact ⟨2, rfl, by omega, by omega, fun j v g1 g2 g3 => by
          rcases Nat.lt_or_ge j 1 with g4 | g4
          · exact HP.out j v g1 g4 g3
          · obtain rfl : j = 1 := by omega
            injection g3 with g3; subst g3; exact SH.out.trans rfl, by first | rfl | trivial⟩
        case measure => simp [RowKit.intOf]
    · by_cases c : xc = -1
      case neg =>
        have c' : (xc != -1) = true := by simpa using c
        have HN : Hid (false = r) := by
          rw [FM.out]
          have : shapesM ⟨op, xa, xb, xc, xn, xe, ⟨kk, kn⟩⟩ ⟨(n : Int), low, high, kf, tells, ex⟩ = false := by
            unfold shapesM
            dsimp only
            rw [show shapedM ⟨op, xa, xb, xc, xn, xe, ⟨kk, kn⟩⟩ 2 xc = false from beq_eq_false_iff_ne.2 c, decide_eq_false (by omega : ¬ (2 : Int) < n), Bool.or_false, Bool.and_false]
          rw [this]; rfl
        go_wp2_with fail
        go_ret
        exact ⟨by rw [← HN.out]; rfl, KK.out⟩
      subst c
      go_wp2_with fail
      go_roundw
      case rel => exact ⟨3, rfl, by omega, by omega, fun j v g1 g2 g3 => by
        rcases Nat.lt_or_ge j 2 with g4 | g4
        · exact HP.out j v g1 g4 g3
        · obtain rfl : j = 2 := by omega
          injection g3 with g3; subst g3; rfl, by first | rfl | trivial⟩
      case measure => simp [RowKit.intOf]
    · clear a0 a4 v0 v1 v2
      have SH : Hid (shapesM ⟨op, xa, xb, xc, xn, xe, ⟨kk, kn⟩⟩ ⟨(n : Int), low, high, kf, tells, ex⟩ = true) := by
        unfold shapesM Hid
        dsimp only
        have q : ∀ (j : Nat) v, j < 3 → [xa, xb, xc][j]? = some v → (decide ((j : Int) < n) || shapedM ⟨op, xa, xb, xc, xn, xe, ⟨kk, kn⟩⟩ j v) = true := fun j v hj hv => by
          by_cases c : (j : Int) < n
          · rw [decide_eq_true c]; rfl
          · rw [HP.out j v (by omega) hj hv, Bool.or_true]
        have q0 := q 0 xa (by omega) rfl
        have q1 := q 1 xb (by omega) rfl
        have q2 := q 2 xc (by omega) rfl
        rw [show ((0 : Nat) : Int) = 0 from rfl] at q0
        rw [show ((1 : Nat) : Int) = 1 from rfl] at q1
        rw [show ((2 : Nat) : Int) = 2 from rfl] at q2
        rw [q0, q1, q2]; rfl
      obtain ⟨bad1, hb1⟩ : ∃ b, (decide (xn < low) || decide (high < xn) || (op == 1 && decide (f.regs ≤ xn))) = b := ⟨_, rfl⟩
      have FM1 : Hid (r = (!bad1 && !((!kf && (⟨kk, kn⟩ : Val) != ⟨0, 0⟩) || (kf && !rightV ⟨kk, kn⟩) || (op == 2 && kk == 5)) &&
          (if ex == 0 || (ex == 1 && xe == -1) then xe == -1
           else decide (0 ≤ xe) && decide (xe < t.exits.length) && (t.exits[xe.toNat]?).any (rightM (fnOf f) t.ins · at_)))) := by
        rw [FM.out, SH.out, hb1, Bool.true_and]; exact rfl
      have HB1 := Lib.hid hb1
      clear hb1 HP
      go_upto_region 10 with fail
      go_cut [66] (fun c wx => c = .bool bad1 ∧ wx = wr)
      case first =>
        have a0 := cell_on K1.out (H3.out 0 _ rfl)
        have a4 := cell_on K1.out (H3.out 4 _ rfl)
        have b1 := cell_on K1.out (H2.out 1 _ rfl)
        have b2 := cell_on K1.out (H2.out 2 _ rfl)
        have c1 := cell_on K1.out (H1.out 1 _ HC.out.at1.1)
        by_cases d1 : xn < low
        · have e := HB1.out
          rw [decide_eq_true d1] at e
          have E := Lib.hid e
          clear e
          go_wp2_with fail
          go_meet
          case rel => exact ⟨by rw [← E.out]; first | done | rfl, rfl⟩
        by_cases d2 : high < xn
        · have e := HB1.out
          rw [decide_eq_true d2, Bool.or_true] at e
          have E := Lib.hid e
          clear e
          go_wp2_with fail
          go_meet
          case rel => exact ⟨by rw [← E.out]; first | done | rfl, rfl⟩
        by_cases d3 : op = 1
        · by_cases d4 : f.regs ≤ xn
          · have e := HB1.out
            rw [decide_eq_true d4, d3, show ((1 : Int) == 1) = true from rfl, Bool.and_true, Bool.or_true] at e
            have E := Lib.hid e
            rw [d3] at a0
            clear e d3
            go_wp2_with fail
            go_meet
            case rel => exact ⟨by rw [← E.out]; first | done | rfl, rfl⟩
          · have e := HB1.out
            rw [decide_eq_false d1, decide_eq_false d2, decide_eq_false d4, Bool.and_false] at e
            have E := Lib.hid e
            rw [d3] at a0
            have d4' : xn < f.regs := by omega
            clear e d3
            go_wp2_with fail
            go_meet
            case rel => exact ⟨by rw [← E.out]; first | done | rfl, rfl⟩
        · have e := HB1.out
          rw [decide_eq_false d1, decide_eq_false d2, beq_eq_false_iff_ne.2 d3] at e
          have E := Lib.hid e
          have d3' : (op == 1) = false := beq_eq_false_iff_ne.2 d3
          clear e
          go_wp2_with fail
          go_meet
          case rel => exact ⟨by rw [← E.out]; first | done | rfl, rfl⟩
      case rest =>
        obtain ⟨rfl, hwc⟩ := hcut
        have hwc := hwc.symm
        subst hwc
        cases bad1
        case true =>
          have HN : Hid (false = r) := by rw [FM1.out]; rfl
          go_wp2_with fail
          go_ret
          exact ⟨by rw [← HN.out]; rfl, KK.out⟩
        obtain ⟨bad2, hb2⟩ : ∃ b, ((!kf && (⟨kk, kn⟩ : Val) != ⟨0, 0⟩) || (kf && !rightV ⟨kk, kn⟩) || (op == 2 && kk == 5)) = b := ⟨_, rfl⟩
        have FM2 : Hid (r = (!bad2 && (if ex == 0 || (ex == 1 && xe == -1) then xe == -1
           else decide (0 ≤ xe) && decide (xe < t.exits.length) && (t.exits[xe.toNat]?).any (rightM (fnOf f) t.ins · at_)))) := by
          rw [FM1.out, hb2]; exact rfl
        have HB2 := Lib.hid hb2
        clear hb2
        go_upto_region 12 with fail
        go_cut [92] (fun c wx => c = .bool bad2 ∧ Hid (Below wr.heap.size wr wx))
        case first =>
          have a0 := cell_on K1.out (H3.out 0 _ rfl)
          have a6 := cell_on K1.out (H3.out 6 _ rfl)
          have a7 := cell_on K1.out (H3.out 7 _ rfl)
          have b3 := cell_on K1.out (H2.out 3 _ rfl)
          cases kf
          case false =>
            by_cases z1 : kk = 0
            · by_cases z2 : kn = 0
              · subst z1
                subst z2
                have o2 : ¬ op = 2 := fun h => by
                  have := HF.out
                  rw [h] at this
                  injection this with _ _ _ this
                  cases this
                have o2' : (op == 2) = false := beq_eq_false_iff_ne.2 o2
                have e := HB2.out
                rw [o2'] at e
                have E := Lib.hid e
                clear e
                go_wp2_with fail
                go_meet
                case rel => exact ⟨by rw [← E.out]; first | done | rfl, Below.refl _ _⟩
              · have e := HB2.out
                have nz : ((⟨kk, kn⟩ : Val) != ⟨0, 0⟩) = true := by simp [z2]
                rw [nz] at e
                have E := Lib.hid e
                have z2' : (kn == 0) = false := beq_eq_false_iff_ne.2 z2
                subst z1
                clear e nz
                go_wp2_with fail
                go_meet
                case rel => exact ⟨by rw [← E.out]; first | done | rfl, Below.refl _ _⟩
            · have e := HB2.out
              have nz : ((⟨kk, kn⟩ : Val) != ⟨0, 0⟩) = true := by simp [z1]
              rw [nz] at e
              have E := Lib.hid e
              have z1' : (kk == 0) = false := beq_eq_false_iff_ne.2 z1
              clear e nz
              go_wp2_with fail
              go_meet
              case rel => exact ⟨by rw [← E.out]; first | done | rfl, Below.refl _ _⟩
          case true =>
            have RC := Lib.hid (right_c ⟨kk, kn⟩ wr)
            obtain ⟨rv, hrv⟩ : ∃ b, rightV ⟨kk, kn⟩ = b := ⟨_, rfl⟩
            have e := HB2.out
            rw [hrv] at RC e
            have E := Lib.hid e
            clear e hrv
            go_wp2_with fail
            refine RC.out.mono ?_
            rintro e w2 ⟨rfl, k2⟩
            have K2 := Lib.hid k2
            have c0 := cell_on k2 a0
            have c6 := cell_on k2 a6
            clear k2 a0 a6 a7 b3
            cases rv
            case false =>
              go_wp2_with fail
              go_meet
              case rel => exact ⟨by rw [← E.out]; first | done | rfl, K2.out⟩
            by_cases o2 : op = 2
            · subst o2
              by_cases k5 : kk = 5
              · subst k5
                go_wp2_with fail
                go_meet
                case rel => exact ⟨by rw [← E.out]; first | done | rfl, K2.out⟩
              · have e := E.out
                have k5' : (kk == 5) = false := beq_eq_false_iff_ne.2 k5
                rw [k5'] at e
                have E := Lib.hid e
                clear e
                go_wp2_with fail
                go_meet
                case rel => exact ⟨by rw [← E.out]; first | done | rfl, K2.out⟩
            · have o2' : (op == 2) = false := beq_eq_false_iff_ne.2 o2
              have e := E.out
              rw [o2'] at e
              have E := Lib.hid e
              clear e
              go_wp2_with fail
              go_meet
              case rel => exact ⟨by rw [← E.out]; first | done | rfl, K2.out⟩
        case rest =>
          rename_i wc
          obtain ⟨rfl, kx⟩ := hcut
          have K3 : Hid (Below w0.heap.size w0 wc) := K1.out.trans (kx.out.mono K1.out.size)
          have KK3 : Hid (Below w.heap.size w wc) := KK.out.trans (kx.out.mono KK.out.size)
          cases bad2
          case true =>
            have HN : Hid (false = r) := by rw [FM2.out]; rfl
            go_wp2_with fail
            go_ret
            exact ⟨by rw [← HN.out]; first | done | rfl, KK3.out⟩
          obtain ⟨bad3, hb3⟩ : ∃ b, (ex == 0 || (ex == 1 && xe == -1)) = b := ⟨_, rfl⟩
          have FM3 : Hid (r = (if bad3 = true then xe == -1 else decide (0 ≤ xe) && decide (xe < t.exits.length) && (t.exits[xe.toNat]?).any (rightM (fnOf f) t.ins · at_))) := by
            rw [FM2.out, hb3]; exact rfl
          have HB3 := Lib.hid hb3
          clear hb3
          go_upto_region 14 with fail
          go_cut [123] (fun c wx => c = .bool bad3 ∧ wx = wc)
          case first =>
            have b5 := cell_on K3.out (H2.out 5 _ rfl)
            have a5 := cell_on K3.out (H3.out 5 _ rfl)
            have e := HB3.out
            by_cases x0 : ex = 0
            · rw [x0, show ((0 : Int) == 0) = true from rfl, Bool.true_or] at e
              have E := Lib.hid e
              rw [x0] at b5
              clear e x0
              go_wp2_with fail
              go_meet
              case rel => exact ⟨by rw [← E.out]; first | done | rfl, rfl⟩
            have x0' : (ex == 0) = false := beq_eq_false_iff_ne.2 x0
            rw [x0', Bool.false_or] at e
            by_cases x1 : ex = 1
            · rw [x1, show ((1 : Int) == 1) = true from rfl, Bool.true_and] at e
              rw [x1] at b5
              clear x0 x0' x1
              by_cases x2 : xe = -1
              · rw [x2] at a5 e
                have E := Lib.hid e
                clear e x2
                go_wp2_with fail
                go_meet
                case rel => exact ⟨by rw [← E.out]; first | done | rfl, rfl⟩
              · have x2' : (xe == -1) = false := beq_eq_false_iff_ne.2 x2
                rw [x2'] at e
                have E := Lib.hid e
                clear e
                go_wp2_with fail
                go_meet
                case rel => exact ⟨by rw [← E.out]; first | done | rfl, rfl⟩
            · have x1' : (ex == 1) = false := beq_eq_false_iff_ne.2 x1
              rw [x1', Bool.false_and] at e
              have E := Lib.hid e
              clear e
              go_wp2_with fail
              go_meet
              case rel => exact ⟨by rw [← E.out]; first | done | rfl, rfl⟩
          case rest =>
            obtain ⟨rfl, hwd⟩ := hcut
            have hwd := hwd.symm
            subst hwd
            have a5 := cell_on K3.out (H3.out 5 _ rfl)
            cases bad3
            case true =>
              have e := FM3.out
              rw [if_pos rfl] at e
              by_cases x2 : xe = -1
              · rw [x2] at a5 e
                have E := Lib.hid e
                clear e x2
                go_wp2_with fail
                go_ret
                exact ⟨by rw [E.out]; first | done | rfl, KK3.out⟩
              · have x2' : (xe == -1) = false := beq_eq_false_iff_ne.2 x2
                rw [x2'] at e
                have E := Lib.hid e
                clear e
                go_wp2_with fail
                go_ret
                exact ⟨by rw [E.out]; first | done | rfl, KK3.out⟩
            have FM4 : Hid (r = (decide (0 ≤ xe) && decide (xe < t.exits.length) && (t.exits[xe.toNat]?).any (rightM (fnOf f) t.ins · at_))) := by
              rw [FM3.out, if_neg (by simp)]; exact rfl
            clear a5
            obtain ⟨Ae, ne, p9, qx⟩ := HC.out.at9
            have lx := len_le qx
            have HX := Lib.hid qx
            clear qx
            have RU3 : Hid (∀ E : Up wc, E.to.rangeAt w.heap.size 0 cs) := fun E => (H1.out.on (K3.out.trans (E.below.mono K3.out.size))).range
            have f5 : ∀ E : Up wc, E.to.cell? ⟨w.heap.size + 1 + 1, 5, none⟩ = some (.int .i64 xe) := fun E => cell_to K3.out E (H3.out 5 _ rfl)
            have f9 : ∀ E : Up wc, E.to.cell? ⟨w.heap.size, 9, none⟩ = some (.slice Ae t.exits.length ne) := fun E => cell_to K3.out E (H1.out 9 _ p9)
            go_wp2_with fail
            by_cases y0 : 0 ≤ xe
            case neg =>
              have y0' : decide (0 ≤ xe) = false := decide_eq_false y0
              have y0n : xe < 0 := by omega
              have y0m : decide (xe < 0) = true := decide_eq_true y0n
              have HN : Hid (false = r) := by rw [FM4.out, y0']; rfl
              refine wp_region_up (by kernel_rfl) (by kernel_rfl) ?_
              repeat (go_big_quiet_step (fail))
              refine wpQuiet_nil ?_
              intro w3 hE
              obtain ⟨E, rfl⟩ := hE
              obtain ⟨w3, k3⟩ := E
              have KZ := Lib.hid (KK3.out.trans (k3.mono KK3.out.size))
              dsimp only
              clear k3
              go_wp2_with fail
              go_ret
              exact ⟨by rw [← HN.out]; first | done | rfl, KZ.out⟩
            by_cases y1 : xe < t.exits.length
            case neg =>
              have y0' : decide (0 ≤ xe) = true := decide_eq_true y0
              have y1' : decide (xe < (t.exits.length : Int)) = false := decide_eq_false y1
              have HN : Hid (false = r) := by rw [FM4.out, y1', Bool.and_false]; rfl
              refine wp_region_up (by kernel_rfl) (by kernel_rfl) ?_
              repeat (go_big_quiet_step (fail))
              refine wpQuiet_nil ?_
              intro w3 hE
              obtain ⟨E, rfl⟩ := hE
              obtain ⟨w3, k3⟩ := E
              have KZ := Lib.hid (KK3.out.trans (k3.mono KK3.out.size))
              dsimp only
              clear k3
              go_wp2_with fail
              go_ret
              exact ⟨by rw [← HN.out]; first | done | rfl, KZ.out⟩
            obtain ⟨k, rfl⟩ := Int.eq_ofNat_of_zero_le y0
            have hk : k < t.exits.length := by omega
            obtain ⟨b, off, y, ys, rfl, hb, hy, hcl, hR, hat⟩ := HX.out.at_ hk
            have HN : Hid (rightM (fnOf f) t.ins y at_ = r) := by
              rw [FM4.out, decide_eq_true y0, decide_eq_true y1, Int.toNat_natCast, hy]; rfl
            have RX : Hid (∀ E : Up wc, E.to.rangeAt b (off + k * 4) ys) := fun E j v hj => ((KK3.out.trans (E.below.mono KK3.out.size)).cell hb).trans (hat j v hj)
            have LX : Hid ((Tryz.prog.info? 32).map (·.size) = some ys.length) := by rw [hcl]; exact infoExit
            have CR : Hid (∀ E : Up wc, Calls Tryz.prog 16 #[.agg ⟨cs⟩, .agg ⟨ys⟩, .int .i64 at_] E.to (Gives (.bool (rightM (fnOf f) t.ins y at_)) E.to)) := fun E => by
              have kz := KK3.out.trans (E.below.mono KK3.out.size)
              exact right_e cs ys f t y at_ E.to (HC.out.below kz) (hR.keep kz.size (fun _ h => kz.cell h))
            rw [HN.out] at CR
            have y0' : decide (0 ≤ (k : Int)) = true := decide_eq_true y0
            have y1' : decide ((k : Int) < (t.exits.length : Int)) = true := decide_eq_true y1
            clear hat hR hy hcl
            refine wp_region_up (by kernel_rfl) (by kernel_rfl) ?_
            repeat (first
              | (refine wpQuiet_load_up 59 _ rfl rfl w.heap.size 0 rfl cs _ RU3.out Tryz.underlying59 rfl HI.out ?_; go_simp)
              | (refine wpQuiet_load_up 32 _ rfl rfl b (off + k * 4) rfl ys _ RX.out Tryz.underlying32 rfl LX.out ?_; go_simp)
              | go_big_quiet_step ((go_at_call 16; with_reducible exact Calls.up (CR.out _))))
            refine wpQuiet_nil ?_
            intro E
            obtain ⟨w3, k3⟩ := E
            have KZ := Lib.hid (KK3.out.trans (k3.mono KK3.out.size))
            dsimp only
            clear k3
            go_wp2_with fail
            go_ret
            exact ⟨rfl, KZ.out⟩
end Go.Proofs.YtlnkjmgfkpeicaaGreatDoor
