/- ir.writer: exit. -/
import Derived.Test.YtogpbgkafkalnaaDoorWrN
import Derived.Test.YtogpbgkafkalnaaDoorTr
import Derived.Lib.ItoaLen
namespace Go.Proofs.YtogpbgkafkalnaaDoor
open Go.RowKit Go.Lib

/-- block g holds just cs, of type t -/
def Row (w : World) (g : Nat) (cs : Array Value) (t : TypeId) : Prop := w.heap[g]? = some (.cells cs t (0, 0))
section
variable {w w' : World} {g B b : Nat} {cs : Array Value} {t : TypeId}
theorem Row.cell (h : Row w g cs t) (i : Nat) : w.cell? ⟨g, i, none⟩ = cs[i]? := Lib.cell_of_heap h i
theorem Row.lt (h : Row w g cs t) : g < w.heap.size := (Array.getElem?_eq_some_iff.1 h).1
theorem Row.new (w : World) (cs : Array Value) (t : TypeId) : Row (w.alloc (.cells cs t)) w.heap.size cs t := heap_alloc_new w _
theorem Row.below (h : Row w g cs t) (hb : Below w.heap.size w w') : Row w' g cs t := (hb.block g h.lt).trans h
theorem Row.wrote (h : Row w g cs t) (hb : Wrote B b w w') (h1 : g ≠ b) (h2 : t ≠ 5) : Row w' g cs t := hb.row h h1 h2
end

/-- two strings, one behind the other, under a name -/
theorem cat_ex (a b : ByteArray) (x y : List UInt8) (ha : a.data.toList = x) (hb : b.data.toList = y) (h : x.length + y.length ≤ 1000000) :
    ∃ c : ByteArray, c.data.toList = x ++ y ∧ ∀ W, (Op.stringOp .add a b).run Tryd.prog W = .ok (.string c) W := by
  refine ⟨a ++ b, by simp [ha, hb], fun W => run_string_add_sum W a b ?_⟩
  have e1 : a.size = x.length := by rw [← ha, Array.length_toList]; rfl
  have e2 : b.size = y.length := by rw [← hb, Array.length_toList]; rfl
  omega
theorem itoa_ex (n : Int) (hn : wfi n) : ∃ s : ByteArray, s.data.toList = itoa n ∧ (itoa n).length ≤ 21 ∧ ∀ w, Tab w → Calls Tryd.prog 18 #[.int .i64 n] w (Gives (.string s) w) :=
  ⟨⟨(itoa n).toArray⟩, by simp, itoa_length_le n hn.1 hn.2, fun w ht => itoa_c n hn w ht⟩

set_option maxHeartbeats 2000000 in
set_option maxRecDepth 100000 in
theorem exit_c (B b : Nat) (l : List UInt8) (nm : ByteArray) (nl : List UInt8) (hnm : nm.data.toList = nl) (hnl : nl.length ≤ 1000) (cs : List Value) (x : TExit) (w : World) (h : Says B b l w) (hx : ExitR w B cs x)
    (hlen : (l ++ nl ++ [32] ++ exitP x).length ≤ 140737488355328) (ht : ∀ w', Below B w w' → Tab w') :
    Calls Tryd.prog 10 #[.pointer (some ⟨b, 0, none⟩), .string nm, .agg ⟨cs⟩] w (Wrote2 (.tuple #[]) B b (l ++ nl ++ [32] ++ exitP x) w) := by
  obtain ⟨xa, xt, xs, xm⟩ := x
  obtain ⟨sv, mv, rfl, a1, a2, wa, wt⟩ := hx
  obtain ⟨M1, mc1, rfl, m1, m2, -⟩ := id a1
  obtain ⟨M2, mc2, rfl, m3, m4, -⟩ := id a2
  have A1 := Lib.hid a1
  have A2 := Lib.hid a2
  have HT := Lib.hid ht
  have HH := Lib.hid h
  have HN := Lib.hid hnm
  have hbb : B ≤ w.heap.size := by have := h.lt; have := h.le; omega
  have hbl : b < w.heap.size := h.lt
  have hBb : B ≤ b := h.le
  simp only at m1 m3 wa wt
  unfold maxLen at m2 m4
  obtain ⟨w1, hw1⟩ : ∃ w1, w1 = w.alloc (.cells #[.int .i64 xa, .int .i64 xt, .slice M1 xs.length mc1, .slice M2 xm.length mc2] 27) := ⟨_, rfl⟩
  have HW := Lib.hid hw1
  have k0 : Hid (Below w.heap.size w w1) := by rw [hw1]; exact below_one w _
  have r5 : Hid (Row w1 w.heap.size #[.int .i64 xa, .int .i64 xt, .slice M1 xs.length mc1, .slice M2 xm.length mc2] 27) := by rw [hw1]; exact Row.new w _ _
  have s1 : Hid (Says B b l w1) := h.below k0.out
  have hz1 : w.heap.size < w1.heap.size := r5.out.lt
  -- the parts
  obtain ⟨P0, hP0⟩ : ∃ P0, P0 = l ++ nl ++ [32] := ⟨_, rfl⟩
  obtain ⟨P1, hP1⟩ : ∃ P1, P1 = P0 ++ numsFrom 0 [xa, xt] := ⟨_, rfl⟩
  obtain ⟨P2, hP2⟩ : ∃ P2, P2 = P1 ++ xs.flatMap setP := ⟨_, rfl⟩
  obtain ⟨P3, hP3⟩ : ∃ P3, P3 = P2 ++ xm.flatMap makeP := ⟨_, rfl⟩
  have hP4 : l ++ nl ++ [32] ++ exitP ⟨xa, xt, xs, xm⟩ = P3 ++ [10] := by rw [hP3, hP2, hP1, hP0]; simp [exitP]
  rw [hP4] at hlen ⊢
  have l4 : P3.length + 1 ≤ 140737488355328 := by rw [List.length_append] at hlen; exact hlen
  have l3 : P2.length + (xm.flatMap makeP).length ≤ 140737488355328 := by have := congrArg List.length hP3; rw [List.length_append] at this; omega
  have l2 : P1.length + (xs.flatMap setP).length ≤ 140737488355328 := by have := congrArg List.length hP2; rw [List.length_append] at this; omega
  have l1 : P0.length + (numsFrom 0 [xa, xt]).length ≤ 140737488355328 := by have := congrArg List.length hP1; rw [List.length_append] at this; omega
  have l0 : l.length + (nl ++ [32]).length ≤ 140737488355328 := by have := congrArg List.length hP0; simp only [List.length_append] at this ⊢; omega
  have e0 : l ++ (nl ++ [32]) = P0 := by rw [hP0]; simp
  have E0 := Lib.hid e0
  have E1 := Lib.hid hP1
  have E2 := Lib.hid hP2
  have E3 := Lib.hid hP3
  have L0 := Lib.hid l0
  have L1 := Lib.hid l1
  have L2 := Lib.hid l2
  have L3 := Lib.hid l3
  have L4 := Lib.hid l4
  obtain ⟨q0, hq0, cat0⟩ := cat_ex nm ⟨#[32]⟩ nl [32] hnm rfl (by simp; omega)
  have Q0 := Lib.hid hq0
  clear hq0 hlen l0 l1 l2 l3 l4 hP0 hP1 hP2 hP3 hP4 e0 h hnm ht a1 a2 hw1
  go_enter Tryd.func10, Tryd.ntmps10
  go_wp2_with fail
  rw [← HW.out]
  refine (ws_c B b l q0 (nl ++ [32]) Q0.out w1 s1.out L0.out).mono ?_
  rintro e w2 ⟨rfl, k1, k2⟩
  rw [E0.out] at k1
  have S2 := Lib.hid k1
  have W2 := Lib.hid k2
  have R2 := Lib.hid (r5.out.wrote k2 (by omega) (by decide))
  have c0 : w2.cell? ⟨w.heap.size, 0, none⟩ = some (.int .i64 xa) := R2.out.cell 0
  have c1 : w2.cell? ⟨w.heap.size, 1, none⟩ = some (.int .i64 xt) := R2.out.cell 1
  have hz2 : w.heap.size < w2.heap.size := Nat.lt_of_lt_of_le hz1 k2.size
  clear k1 k2
  go_wp2_with fail
  refine (nums_c B b w2.heap.size 2 P0 [xa, xt] _ (S2.out.below (below_one _ _)) ⟨(0, 0), heap_alloc_new _ _⟩ (by have := S2.out.lt; omega) (by intro z hz; simp at hz; rcases hz with rfl | rfl <;> assumption) L1.out (by simp) (by simp) ?ht).mono ?_
  case ht =>
    intro w' hb'
    exact HT.out _ ((k0.out.mono hbb).trans ((W2.out.under (by omega)).trans ((Below.mono (below_one w2 _) (by omega)).trans hb')))
  rintro e w3 ⟨rfl, k1, k2⟩
  rw [← E1.out] at k1
  have S3 := Lib.hid k1
  have W3 := Lib.hid ((W2.out.alloc _).trans k2)
  have R3 := Lib.hid (r5.out.wrote W3.out (by omega) (by decide))
  have d2 : w3.cell? ⟨w.heap.size, 2, none⟩ = some (.slice M1 xs.length mc1) := R3.out.cell 2
  have hz3 : w.heap.size < w3.heap.size := Nat.lt_of_lt_of_le hz1 W3.out.size
  clear k1 k2 c0 c1 hz2
  go_wp2_with fail
  go_loopw [28] (fun k wr => ∃ kn : Nat, k = .int .i64 kn ∧ kn ≤ xs.length ∧ Hid (Says B b (P1 ++ (xs.take kn).flatMap setP) wr) ∧ Hid (Wrote B b w1 wr)) (fun k _ => xs.length - (RowKit.intOf k).toNat)
  case atStart => exact ⟨0, rfl, by omega, by simpa [Hid] using S3, W3⟩
  case round =>
    obtain ⟨kn, rfl, hk, KS, KW⟩ := hrel
    clear d2 hz3
    have hzr : w.heap.size < wr.heap.size := Nat.lt_of_lt_of_le hz1 KW.out.size
    by_cases hlt : kn < xs.length
    · obtain ⟨b1, off, p, cs, rfl, hb1, hx0, -, ⟨rfl, wp1, wp2⟩, hat⟩ := A1.out.at_ hlt
      have KB : Hid (Below B w wr) := (k0.out.mono hbb).trans (KW.out.under (by omega))
      have g0 : wr.cell? ⟨b1, off + kn * 2, none⟩ = some (.int .i64 p.reg) := (KB.out.cell hb1).trans (hat 0 _ rfl)
      have g1 : wr.cell? ⟨b1, off + kn * 2 + 1, none⟩ = some (.int .i64 p.val) := (KB.out.cell hb1).trans (hat 1 _ rfl)
      obtain ⟨u1, hu1, lu1, cu1⟩ := itoa_ex p.reg wp1
      obtain ⟨u2, hu2, lu2, cu2⟩ := itoa_ex p.val wp2
      obtain ⟨q1, hq1, cat1⟩ := cat_ex ⟨#[32, 114]⟩ u1 [32, 114] _ rfl hu1 (by simp; omega)
      obtain ⟨q2, hq2, cat2⟩ := cat_ex q1 ⟨#[61]⟩ _ [61] hq1 rfl (by simp; omega)
      obtain ⟨q3, hq3, cat3⟩ := cat_ex q2 u2 _ _ hq2 hu2 (by simp; omega)
      have Q3 := Lib.hid hq3
      have C1 := Lib.hid cu1
      have C2 := Lib.hid cu2
      have NS := Lib.hid (flat_step (f := setP) hx0)
      have ln := flat_le (f := setP) xs (kn + 1)
      rw [NS.out] at ln
      simp only [List.length_append] at ln
      have LN := Lib.hid ln
      have f0 : ∀ E : Up (wr.alloc (.cells #[.int .i64 p.reg, .int .i64 p.val] 62)), E.to.cell? ⟨wr.heap.size, 0, none⟩ = some (.int .i64 p.reg) := fun E => E.cell (one_cell _ _ _ _)
      have f1 : ∀ E : Up (wr.alloc (.cells #[.int .i64 p.reg, .int .i64 p.val] 62)), E.to.cell? ⟨wr.heap.size, 1, none⟩ = some (.int .i64 p.val) := fun E => E.cell (one_cell _ _ _ _)
      have TB : Hid (∀ E : Up (wr.alloc (.cells #[.int .i64 p.reg, .int .i64 p.val] 62)), Tab E.to) := fun E => HT.out _ (KB.out.trans ((Below.alloc (Below.refl _ _) (by omega) _).trans (E.below.mono (by simp; omega))))
      clear hx0 ln hat hu1 hu2 hq1 hq2 hq3 cu1 cu2 lu1 lu2
      go_wp2_with fail
      refine wp_region_up_tail 12 (by kernel_rfl) (by kernel_rfl) ?_
      simp only [List.take_succ_cons, List.take_zero, List.drop_succ_cons, List.drop_zero]
      repeat (go_big_quiet_step ((first | (go_at_call 18; with_reducible exact Calls.up (C1.out _ (TB.out _))) | (go_at_call 18; with_reducible exact Calls.up (C2.out _ (TB.out _))))))
      refine wpQuiet_nil ?_
      rintro _ ⟨E, rfl⟩
      go_wp2_with fail
      refine (ws_c B b _ q3 _ Q3.out E.to ((KS.out.below (below_one _ _)).below E.below) (by have := L2.out; have := LN.out; simp only [List.length_append, setP] at *; omega)).mono ?_
      rintro e w5 ⟨rfl, k1, k2⟩
      have K1 := Lib.hid k1
      have K2 := Lib.hid (((KW.out.alloc _).below_ E.below).trans k2)
      clear k1 k2 f0 f1 g0 g1 cat0 cat1 cat2 cat3
      go_wp2_with fail
      go_roundw
      case rel => exact ⟨kn + 1, by go_num, by omega, by rw [NS.out]; simpa [Hid, setP] using K1.out, K2⟩
      case measure => simp [RowKit.intOf]; omega
    · have hkl : xs.length ≤ kn := by omega
      have S4 : Hid (Says B b P2 wr) := by have := KS.out; rw [flat_all _ hkl, ← E2.out] at this; exact this
      have R4 := Lib.hid (r5.out.wrote KW.out (by omega) (by decide))
      have d3 : wr.cell? ⟨w.heap.size, 3, none⟩ = some (.slice M2 xm.length mc2) := R4.out.cell 3
      have KW4 := KW
      clear KS hk
      go_wp2_with fail
      go_loopw [49] (fun k wr => ∃ kn : Nat, k = .int .i64 kn ∧ kn ≤ xm.length ∧ Hid (Says B b (P2 ++ (xm.take kn).flatMap makeP) wr) ∧ Hid (Wrote B b w1 wr)) (fun k _ => xm.length - (RowKit.intOf k).toNat)
      case atStart => exact ⟨0, rfl, by omega, by simpa [Hid] using S4, KW4⟩
      case round =>
        clear KW4 S4 R4 d3 hzr hlt hkl KW
        obtain ⟨kn, rfl, hk, KS, KW⟩ := hrel
        obtain ⟨wo, rfl⟩ : ∃ wo : World, wo = wr := ⟨_, rfl⟩
        have hzr : w.heap.size < wo.heap.size := Nat.lt_of_lt_of_le hz1 KW.out.size
        by_cases hlt : kn < xm.length
        · obtain ⟨b1, off, p, cs, rfl, hb1, hx0, -, ⟨pv, rfl, pvs, wp1, wp2, wp3⟩, hat⟩ := A2.out.at_ hlt
          obtain ⟨M3, mc3, rfl, m5, m6, -⟩ := id pvs
          unfold maxLen at m6
          have PV := Lib.hid pvs
          have KB : Hid (Below B w wo) := (k0.out.mono hbb).trans (KW.out.under (by omega))
          have g0 : wo.cell? ⟨b1, off + kn * 4, none⟩ = some (.int .i64 p.cell) := (KB.out.cell hb1).trans (hat 0 _ rfl)
          have g1 : wo.cell? ⟨b1, off + kn * 4 + 1, none⟩ = some (.int .i64 p.kind) := (KB.out.cell hb1).trans (hat 1 _ rfl)
          have g2 : wo.cell? ⟨b1, off + kn * 4 + 2, none⟩ = some (.int .i64 p.num) := (KB.out.cell hb1).trans (hat 2 _ rfl)
          have g3 : wo.cell? ⟨b1, off + kn * 4 + 3, none⟩ = some (.slice M3 p.vals.length mc3) := (KB.out.cell hb1).trans (hat 3 _ rfl)
          obtain ⟨u1, hu1, lu1, cu1⟩ := itoa_ex p.cell wp1
          obtain ⟨u2, hu2, lu2, cu2⟩ := itoa_ex p.kind wp2
          obtain ⟨u3, hu3, lu3, cu3⟩ := itoa_ex p.num wp3
          obtain ⟨q1, hq1, cat1⟩ := cat_ex ⟨#[32, 109]⟩ u1 [32, 109] _ rfl hu1 (by simp; omega)
          obtain ⟨q2, hq2, cat2⟩ := cat_ex q1 ⟨#[58]⟩ _ [58] hq1 rfl (by simp; omega)
          obtain ⟨q3, hq3, cat3⟩ := cat_ex q2 u2 _ _ hq2 hu2 (by simp; omega)
          obtain ⟨q4, hq4, cat4⟩ := cat_ex q3 ⟨#[58]⟩ _ [58] hq3 rfl (by simp; omega)
          obtain ⟨q5, hq5, cat5⟩ := cat_ex q4 u3 _ _ hq4 hu3 (by simp; omega)
          have Q5 : Hid (q5.data.toList = headP p) := by rw [hq5]; simp [headP, Hid]
          have C1 := Lib.hid cu1
          have C2 := Lib.hid cu2
          have C3 := Lib.hid cu3
          have NS := Lib.hid (flat_step (f := makeP) hx0)
          have ln := flat_le (f := makeP) xm (kn + 1)
          rw [NS.out] at ln
          simp only [List.length_append, makeP] at ln
          have LN : Hid (P2.length + ((List.flatMap makeP (List.take kn xm)).length + ((headP p).length + (List.flatMap valP p.vals).length)) ≤ 140737488355328) := by have := L3.out; simp only [Hid, makeP] at *; omega
          obtain ⟨wn, hwn⟩ : ∃ wn, wn = wo.alloc (.cells #[.int .i64 p.cell, .int .i64 p.kind, .int .i64 p.num, .slice M3 p.vals.length mc3] 64) := ⟨_, rfl⟩
          have rn : Hid (Row wn wo.heap.size #[.int .i64 p.cell, .int .i64 p.kind, .int .i64 p.num, .slice M3 p.vals.length mc3] 64) := by rw [hwn]; exact Row.new _ _ _
          have kn' : Hid (Below wo.heap.size wo wn) := by rw [hwn]; exact below_one wo _
          have f0 : ∀ E : Up wn, E.to.cell? ⟨wo.heap.size, 0, none⟩ = some (.int .i64 p.cell) := fun E => E.cell (rn.out.cell 0)
          have f1 : ∀ E : Up wn, E.to.cell? ⟨wo.heap.size, 1, none⟩ = some (.int .i64 p.kind) := fun E => E.cell (rn.out.cell 1)
          have f2 : ∀ E : Up wn, E.to.cell? ⟨wo.heap.size, 2, none⟩ = some (.int .i64 p.num) := fun E => E.cell (rn.out.cell 2)
          have TB : Hid (∀ E : Up wn, Tab E.to) := fun E => HT.out _ (KB.out.trans ((kn'.out.mono (by omega)).trans (E.below.mono (by have := kn'.out.size; omega))))
          have HWN := Lib.hid hwn
          clear hx0 ln hat hu1 hu2 hu3 hq1 hq2 hq3 hq4 hq5 cu1 cu2 cu3 lu1 lu2 lu3 hwn pvs
          go_wp2_with fail
          rw [← HWN.out]
          refine wp_region_up_tail 17 (by kernel_rfl) (by kernel_rfl) ?_
          simp only [List.take_succ_cons, List.take_zero, List.drop_succ_cons, List.drop_zero]
          repeat (go_big_quiet_step ((first | (go_at_call 18; with_reducible exact Calls.up (C1.out _ (TB.out _))) | (go_at_call 18; with_reducible exact Calls.up (C2.out _ (TB.out _))) | (go_at_call 18; with_reducible exact Calls.up (C3.out _ (TB.out _))))))
          refine wpQuiet_nil ?_
          rintro _ ⟨E, rfl⟩
          go_wp2_with fail
          refine (ws_c B b _ q5 _ Q5.out E.to ((KS.out.below kn'.out).below E.below) (by have := LN.out; simp only [List.length_append] at *; omega)).mono ?_
          rintro e w5 ⟨rfl, k1, k2⟩
          have K1 := Lib.hid k1
          have K2 := Lib.hid (((KW.out.below_ kn'.out).below_ E.below).trans k2)
          have R5 := Lib.hid ((rn.out.below E.below).wrote k2 (by have := KS.out.lt; omega) (by decide))
          have d3 : w5.cell? ⟨wo.heap.size, 3, none⟩ = some (.slice M3 p.vals.length mc3) := R5.out.cell 3
          have hz5 : wo.heap.size < w5.heap.size := R5.out.lt
          clear k1 k2 f0 f1 f2 g0 g1 g2 g3 cat0 cat1 cat2 cat3 cat4 cat5
          go_wp2_with fail
          go_loopw [74] (fun k wr => ∃ jn : Nat, k = .int .i64 jn ∧ jn ≤ p.vals.length ∧ Hid (Says B b ((P2 ++ (xm.take kn).flatMap makeP ++ headP p) ++ (p.vals.take jn).flatMap valP) wr) ∧ Hid (Wrote B b w1 wr)) (fun k _ => p.vals.length - (RowKit.intOf k).toNat)
          case atStart => exact ⟨0, rfl, by omega, by simpa [Hid] using K1, K2⟩
          case round =>
            clear K1 K2 R5 d3 hz5
            obtain ⟨jn, rfl, hj, JS, JW⟩ := hrel
            by_cases hjl : jn < p.vals.length
            · obtain ⟨b2, off2, x2, cs2, rfl, hb2, hy0, -, ⟨rfl, wx2⟩, hat2⟩ := PV.out.at_ hjl
              have JB : Hid (Below B w wr) := (k0.out.mono hbb).trans (JW.out.under (by omega))
              have g0 : wr.cell? ⟨b2, off2 + jn, none⟩ = some (.int .i64 x2) := (JB.out.cell hb2).trans (by simpa using hat2 0 _ rfl)
              obtain ⟨u1, hu1, lu1, cu1⟩ := itoa_ex x2 wx2
              obtain ⟨q1, hq1, cat1⟩ := cat_ex ⟨#[44]⟩ u1 [44] _ rfl hu1 (by simp; omega)
              have Q1 : Hid (q1.data.toList = valP x2) := hq1
              have C1' := Lib.hid cu1
              have NV := Lib.hid (flat_step (f := valP) hy0)
              have lv := flat_le (f := valP) p.vals (jn + 1)
              rw [NV.out] at lv
              simp only [List.length_append] at lv
              have LV := Lib.hid lv
              have TB2 : Hid (∀ E : Up wr, Tab E.to) := fun E => HT.out _ (JB.out.trans (E.below.mono (by have := JW.out.size; omega)))
              clear hy0 lv hat2 hu1 hq1 cu1 lu1
              go_wp2_with fail
              refine wp_region_up_tail 6 (by kernel_rfl) (by kernel_rfl) ?_
              simp only [List.take_succ_cons, List.take_zero, List.drop_succ_cons, List.drop_zero]
              repeat (go_big_quiet_step ((go_at_call 18; with_reducible exact Calls.up (C1'.out _ (TB2.out _)))))
              refine wpQuiet_nil ?_
              rintro _ ⟨E2, rfl⟩
              go_wp2_with fail
              refine (ws_c B b _ q1 _ Q1.out E2.to (JS.out.below E2.below) (by have := LN.out; have := LV.out; simp only [List.length_append] at *; omega)).mono ?_
              rintro e w7 ⟨rfl, k1, k2⟩
              have K1 := Lib.hid k1
              have K2 := Lib.hid ((JW.out.below_ E2.below).trans k2)
              clear k1 k2 g0 cat1
              go_wp2_with fail
              go_roundw
              case rel => exact ⟨jn + 1, by go_num, by omega, by rw [NV.out]; simpa [Hid] using K1.out, K2⟩
              case measure => simp [RowKit.intOf]; omega
            · have hjj : p.vals.length ≤ jn := by omega
              have S6 : Hid (Says B b (P2 ++ (xm.take (kn + 1)).flatMap makeP) wr) := by
                have := JS.out
                rw [flat_all _ hjj] at this
                rw [NS.out]
                simpa [Hid, makeP] using this
              clear JS hj
              go_wp2_with fail
              go_roundw
              case rel => exact ⟨kn + 1, by go_num, by omega, S6, JW⟩
              case measure => simp [RowKit.intOf]; omega
        · have hkl : xm.length ≤ kn := by omega
          have S4 : Hid (Says B b P3 wo) := by have := KS.out; rw [flat_all _ hkl, ← E3.out] at this; exact this
          clear KS hk
          go_wp2_with fail
          refine (wb_c B b _ 10 _ S4.out L4.out).mono ?_
          rintro e w9 ⟨rfl, k1, k2⟩
          have K1 := Lib.hid k1
          have K2 := Lib.hid (KW.out.trans k2)
          clear k1 k2
          go_wp2_with fail
          go_end0
          exact ⟨rfl, K1.out, (Wrote.of_below k0.out).trans K2.out⟩
end Go.Proofs.YtogpbgkafkalnaaDoor
