/- R.SameTrace: are two traces the same? -/
import Derived.Test.YtogpbgkafkalnaaDoorSameX
import Derived.Test.YtogpbgkafkalnaaDoorSameI
namespace Go.Proofs.YtogpbgkafkalnaaDoor
open Go.RowKit

set_option maxRecDepth 100000 in
set_option maxHeartbeats 4000000 in
theorem same_trace_c (ca cb : List Value) (x y : TTrace) (w : World) (hx : TraceR w w.heap.size ca x) (hy : TraceR w w.heap.size cb y) :
    Calls Tryd.prog 6 #[.agg ⟨ca⟩, .agg ⟨cb⟩] w (Gives (.bool (decide (x = y))) w) := by
  obtain ⟨xf, xa, xl, xs, xe, xt, xb⟩ := x
  obtain ⟨yf, ya, yl, ys, ye, yt, yb⟩ := y
  obtain ⟨iv, ev, ct, cb1, rfl, a1, a2, a3, a4, -⟩ := hx
  obtain ⟨iv', ev', ct', cb1', rfl, b1, b2, b3, b4, -⟩ := hy
  obtain ⟨r, hr⟩ : ∃ r : Bool, decide ((⟨xf, xa, xl, xs, xe, xt, xb⟩ : TTrace) = ⟨yf, ya, yl, ys, ye, yt, yb⟩) = r := ⟨_, rfl⟩
  rw [hr]
  have HE : Hid (∀ b : Bool, ((xf = yf ∧ xa = ya ∧ xl = yl) ∧ xs = ys ∧ xt = yt ∧ xb = yb → b = decide (xe = ye)) → (¬ ((xf = yf ∧ xa = ya ∧ xl = yl) ∧ xs = ys ∧ xt = yt ∧ xb = yb) → b = false) → r = b) := by
    intro b h1 h2
    rw [← hr]
    symm
    by_cases h : (xf = yf ∧ xa = ya ∧ xl = yl) ∧ xs = ys ∧ xt = yt ∧ xb = yb
    · obtain ⟨⟨rfl, rfl, rfl⟩, rfl, rfl, rfl⟩ := h
      rw [h1 ⟨⟨rfl, rfl, rfl⟩, rfl, rfl, rfl⟩]; simp
    · rw [h2 h]
      symm
      rw [decide_eq_false_iff_not]
      intro e
      injection e with e1 e2 e3 e4 e5 e6 e7
      exact h ⟨⟨e1, e2, e3⟩, e4, e6, e7⟩
  clear hr
  obtain ⟨M, mc, rfl, m1, m2, -⟩ := id a1
  obtain ⟨M', mc', rfl, m1', m2', -⟩ := id b1
  obtain ⟨N, nc, rfl, n1, n2, -⟩ := id a2
  obtain ⟨N', nc', rfl, n1', n2', -⟩ := id b2
  have A1 := Lib.hid a1
  have A2 := Lib.hid a2
  have A3 := Lib.hid a3
  have A4 := Lib.hid a4
  have B1 := Lib.hid b1
  have B2 := Lib.hid b2
  have B3 := Lib.hid b3
  have B4 := Lib.hid b4
  obtain ⟨t1, t2, rfl, -⟩ := a3
  obtain ⟨t3, t4, rfl, -⟩ := a4
  obtain ⟨t1', t2', rfl, -⟩ := b3
  obtain ⟨t3', t4', rfl, -⟩ := b4
  clear a1 a2 b1 b2
  simp only at n1 n1' m1 m1'
  unfold maxLen at m2 m2' n2 n2'
  by_cases h0 : xf = yf ∧ xa = ya ∧ xl = yl
  case neg =>
    have HN := Lib.hid (HE.out false (fun h => absurd h.1 h0) (fun _ => rfl))
    clear HE
    by_cases h1 : xf = yf
    · subst h1
      by_cases h2 : xa = ya
      · subst h2
        have hn : (xl != yl) = true := by simp; intro e; exact h0 ⟨rfl, rfl, e⟩
        clear h0
        go_enter Tryd.func6, Tryd.ntmps6
        go_wp2_with fail
        go_ret
        exact ⟨by rw [HN.out]; rfl, below_two' w _ _⟩
      · have hn : (xa != ya) = true := by simpa using h2
        clear h0 h2
        go_enter Tryd.func6, Tryd.ntmps6
        go_wp2_with fail
        go_ret
        exact ⟨by rw [HN.out]; rfl, below_two' w _ _⟩
    · have hn : (xf != yf) = true := by simpa using h1
      clear h0 h1
      go_enter Tryd.func6, Tryd.ntmps6
      go_wp2_with fail
      go_ret
      exact ⟨by rw [HN.out]; rfl, below_two' w _ _⟩
  obtain ⟨rfl, rfl, rfl⟩ := h0
  obtain ⟨c0, hc0⟩ : ∃ c0 : Array Value, c0 = #[.int .i64 xf, .int .i64 xa, .int .i64 xl, .slice M xs.length mc, .slice N xe.length nc, .int .i64 xt.at_, .int .i64 xt.steps, t1, t2, .int .i64 xb.at_, .int .i64 xb.steps, t3, t4] := ⟨_, rfl⟩
  obtain ⟨c1, hc1⟩ : ∃ c1 : Array Value, c1 = #[.int .i64 xf, .int .i64 xa, .int .i64 xl, .slice M' ys.length mc', .slice N' ye.length nc', .int .i64 yt.at_, .int .i64 yt.steps, t1', t2', .int .i64 yb.at_, .int .i64 yb.steps, t3', t4'] := ⟨_, rfl⟩
  obtain ⟨w0, hw0⟩ : ∃ w0, w0 = (w.alloc (.cells c0 29)).alloc (.cells c1 29) := ⟨_, rfl⟩
  have k0 : Hid (Below w.heap.size w w0) := by rw [hw0]; exact below_two' w _ _
  have f0 : Hid (∀ i, w0.cell? ⟨w.heap.size, i, none⟩ = c0[i]?) := by rw [hw0]; exact fun i => two_cell0 _ _ _ _ _
  have f1 : Hid (∀ i, w0.cell? ⟨w.heap.size + 1, i, none⟩ = c1[i]?) := by rw [hw0]; exact fun i => two_cell1 _ _ _ _ _
  rw [hc0, hc1] at hw0
  rw [hc0] at f0
  rw [hc1] at f1
  clear hc0 hc1
  have HW := Lib.hid hw0
  clear hw0
  -- what holds at each later world
  have KX : Hid (∀ w1, Below w0.heap.size w0 w1 → Below w.heap.size w w1) := fun w1 k => Below.then k0.out k k0.out.size
  have G0 : Hid (∀ w1, Below w0.heap.size w0 w1 → ∀ i v, (#[.int .i64 xf, .int .i64 xa, .int .i64 xl, .slice M xs.length mc, .slice N xe.length nc, .int .i64 xt.at_, .int .i64 xt.steps, t1, t2, .int .i64 xb.at_, .int .i64 xb.steps, t3, t4] : Array Value)[i]? = some v → w1.cell? ⟨w.heap.size, i, none⟩ = some v) := fun w1 k i v hv => cell_on k ((f0.out i).trans hv)
  have G1 : Hid (∀ w1, Below w0.heap.size w0 w1 → ∀ i v, (#[.int .i64 xf, .int .i64 xa, .int .i64 xl, .slice M' ys.length mc', .slice N' ye.length nc', .int .i64 yt.at_, .int .i64 yt.steps, t1', t2', .int .i64 yb.at_, .int .i64 yb.steps, t3', t4'] : Array Value)[i]? = some v → w1.cell? ⟨w.heap.size + 1, i, none⟩ = some v) := fun w1 k i v hv => cell_on k ((f1.out i).trans hv)
  have kn0 : Hid (Below w0.heap.size w0 w0) := Below.refl _ _
  go_enter Tryd.func6, Tryd.ntmps6
  go_wp2_with fail
  rw [← HW.out]
  refine (eq_inss_c _ _ xs ys w.heap.size w0 (A1.out.keep (Nat.le_refl _) (fun p hp => k0.out.cell hp) (fun _ _ h => h)) (B1.out.keep (Nat.le_refl _) (fun p hp => k0.out.cell hp) (fun _ _ h => h)) k0.out.size).mono ?_
  rintro e w1 ⟨rfl, k1⟩
  have K1 := Lib.hid k1
  clear k1
  by_cases hs : xs = ys
  case neg =>
    have HN := Lib.hid (HE.out false (fun h => absurd h.2.1 hs) (fun _ => rfl))
    have hd : decide (xs = ys) = false := by simpa using hs
    rw [hd]
    clear hs hd
    go_wp2_with fail
    go_ret
    exact ⟨by rw [HN.out]; rfl, KX.out _ K1.out⟩
  have hd : decide (xs = ys) = true := by simpa using hs
  rw [hd]
  have HS := Lib.hid hs
  clear hs hd
  have d0 : w1.cell? ⟨w.heap.size, 4, none⟩ = some (.slice N xe.length nc) := G0.out _ K1.out 4 _ rfl
  have d1 : w1.cell? ⟨w.heap.size + 1, 4, none⟩ = some (.slice N' ye.length nc') := G1.out _ K1.out 4 _ rfl
  by_cases hl : xe.length = ye.length
  case neg =>
    have HN := Lib.hid (HE.out false (fun _ => by symm; rw [decide_eq_false_iff_not]; intro e; rw [e] at hl; exact hl rfl) (fun _ => rfl))
    have hn : ((xe.length : Int) != (ye.length : Int)) = true := by simp; omega
    clear hl
    go_wp2_with fail
    go_ret
    exact ⟨by rw [HN.out]; rfl, KX.out _ K1.out⟩
  have hl1 : xe.length ≤ ye.length := by omega
  have hl2 : ye.length ≤ xe.length := by omega
  have hn : ((xe.length : Int) != (ye.length : Int)) = false := by simp; omega
  have d2 : w1.cell? ⟨w.heap.size, 5, none⟩ = some (.int .i64 xt.at_) := G0.out _ K1.out 5 _ rfl
  have d3 : w1.cell? ⟨w.heap.size, 6, none⟩ = some (.int .i64 xt.steps) := G0.out _ K1.out 6 _ rfl
  have d4 : w1.cell? ⟨w.heap.size, 7, none⟩ = some t1 := G0.out _ K1.out 7 _ rfl
  have d5 : w1.cell? ⟨w.heap.size, 8, none⟩ = some t2 := G0.out _ K1.out 8 _ rfl
  have d6 : w1.cell? ⟨w.heap.size + 1, 5, none⟩ = some (.int .i64 yt.at_) := G1.out _ K1.out 5 _ rfl
  have d7 : w1.cell? ⟨w.heap.size + 1, 6, none⟩ = some (.int .i64 yt.steps) := G1.out _ K1.out 6 _ rfl
  have d8 : w1.cell? ⟨w.heap.size + 1, 7, none⟩ = some t1' := G1.out _ K1.out 7 _ rfl
  have d9 : w1.cell? ⟨w.heap.size + 1, 8, none⟩ = some t2' := G1.out _ K1.out 8 _ rfl
  clear hl
  go_wp2_with fail
  refine (same_exit_c _ _ xt yt w1 (A3.out.keep (KX.out _ K1.out).size (fun p hp => (KX.out _ K1.out).cell hp)) (B3.out.keep (KX.out _ K1.out).size (fun p hp => (KX.out _ K1.out).cell hp))).mono ?_
  rintro e w2 ⟨rfl, k2⟩
  have K2 := Lib.hid (Below.next K1.out k2)
  clear k2 d0 d1 d2 d3 d4 d5 d6 d7 d8 d9
  by_cases ht : xt = yt
  case neg =>
    have HN := Lib.hid (HE.out false (fun h => absurd h.2.2.1 ht) (fun _ => rfl))
    have hd : decide (xt = yt) = false := by simpa using ht
    rw [hd]
    clear ht hd
    go_wp2_with fail
    go_ret
    exact ⟨by rw [HN.out]; rfl, KX.out _ K2.out⟩
  have hd : decide (xt = yt) = true := by simpa using ht
  rw [hd]
  have HT := Lib.hid ht
  clear ht hd
  have d2 : w2.cell? ⟨w.heap.size, 9, none⟩ = some (.int .i64 xb.at_) := G0.out _ K2.out 9 _ rfl
  have d3 : w2.cell? ⟨w.heap.size, 10, none⟩ = some (.int .i64 xb.steps) := G0.out _ K2.out 10 _ rfl
  have d4 : w2.cell? ⟨w.heap.size, 11, none⟩ = some t3 := G0.out _ K2.out 11 _ rfl
  have d5 : w2.cell? ⟨w.heap.size, 12, none⟩ = some t4 := G0.out _ K2.out 12 _ rfl
  have d6 : w2.cell? ⟨w.heap.size + 1, 9, none⟩ = some (.int .i64 yb.at_) := G1.out _ K2.out 9 _ rfl
  have d7 : w2.cell? ⟨w.heap.size + 1, 10, none⟩ = some (.int .i64 yb.steps) := G1.out _ K2.out 10 _ rfl
  have d8 : w2.cell? ⟨w.heap.size + 1, 11, none⟩ = some t3' := G1.out _ K2.out 11 _ rfl
  have d9 : w2.cell? ⟨w.heap.size + 1, 12, none⟩ = some t4' := G1.out _ K2.out 12 _ rfl
  go_wp2_with fail
  refine (same_exit_c _ _ xb yb w2 (A4.out.keep (KX.out _ K2.out).size (fun p hp => (KX.out _ K2.out).cell hp)) (B4.out.keep (KX.out _ K2.out).size (fun p hp => (KX.out _ K2.out).cell hp))).mono ?_
  rintro e w3 ⟨rfl, k3⟩
  have K3 := Lib.hid (Below.next K2.out k3)
  clear k3 d2 d3 d4 d5 d6 d7 d8 d9
  by_cases hb : xb = yb
  case neg =>
    have HN := Lib.hid (HE.out false (fun h => absurd h.2.2.2 hb) (fun _ => rfl))
    have hd : decide (xb = yb) = false := by simpa using hb
    rw [hd]
    clear hb hd
    go_wp2_with fail
    go_ret
    exact ⟨by rw [HN.out]; rfl, KX.out _ K3.out⟩
  have hd : decide (xb = yb) = true := by simpa using hb
  rw [hd]
  have HB := Lib.hid hb
  clear hb hd
  have d0 : w3.cell? ⟨w.heap.size, 4, none⟩ = some (.slice N xe.length nc) := G0.out _ K3.out 4 _ rfl
  go_wp2_with fail
  go_loopw [61] (fun k wr => ∃ kn : Nat, k = .int .i64 kn ∧ kn ≤ xe.length ∧ Hid (xe.take kn = ye.take kn) ∧ Hid (Below w0.heap.size w0 wr)) (fun k _ => xe.length - (intOf k).toNat)
  case atStart => exact ⟨0, rfl, by omega, Lib.hid rfl, K3⟩
  case round =>
    obtain ⟨kn, rfl, hk, he, KW⟩ := hrel
    clear d0
    by_cases hlt : kn < xe.length
    · obtain ⟨b, off, p, cs, rfl, hb, hx0, hcl, hR, hat⟩ := A2.out.at_ hlt
      obtain ⟨b', off', q, cs', rfl, hb', hy0, hcl', hR', hat'⟩ := B2.out.at_ (i := kn) (by omega)
      have KA : ∀ E : Up wr, Below w.heap.size w E.to := fun E => KX.out _ (below_to KW.out E)
      have SM : Hid (∀ E : Up wr, Calls Tryd.prog 16 #[.agg ⟨cs⟩, .agg ⟨cs'⟩] E.to (Gives (.bool (decide (p = q))) E.to)) := fun E =>
        same_exit_c cs cs' p q E.to (hR.keep (KA E).size (fun _ h => (KA E).cell h)) (hR'.keep (KA E).size (fun _ h => (KA E).cell h))
      obtain ⟨p2, p3, rfl, -⟩ := hR
      obtain ⟨q2, q3, rfl, -⟩ := hR'
      have f0 : ∀ E : Up wr, E.to.cell? ⟨w.heap.size, 4, none⟩ = some (.slice (some ⟨b, off, none⟩) xe.length nc) := fun E => G0.out _ (below_to KW.out E) 4 _ rfl
      have f1 : ∀ E : Up wr, E.to.cell? ⟨w.heap.size + 1, 4, none⟩ = some (.slice (some ⟨b', off', none⟩) ye.length nc') := fun E => G1.out _ (below_to KW.out E) 4 _ rfl
      have g0 : ∀ E : Up wr, E.to.cell? ⟨b, off + kn * 4, none⟩ = some (.int .i64 p.at_) := fun E => ((KA E).cell hb).trans (hat 0 _ rfl)
      have g1 : ∀ E : Up wr, E.to.cell? ⟨b, off + kn * 4 + 1, none⟩ = some (.int .i64 p.steps) := fun E => ((KA E).cell hb).trans (hat 1 _ rfl)
      have g2 : ∀ E : Up wr, E.to.cell? ⟨b, off + kn * 4 + 2, none⟩ = some p2 := fun E => ((KA E).cell hb).trans (hat 2 _ rfl)
      have g3 : ∀ E : Up wr, E.to.cell? ⟨b, off + kn * 4 + 3, none⟩ = some p3 := fun E => ((KA E).cell hb).trans (hat 3 _ rfl)
      have e0 : ∀ E : Up wr, E.to.cell? ⟨b', off' + kn * 4, none⟩ = some (.int .i64 q.at_) := fun E => ((KA E).cell hb').trans (hat' 0 _ rfl)
      have e1 : ∀ E : Up wr, E.to.cell? ⟨b', off' + kn * 4 + 1, none⟩ = some (.int .i64 q.steps) := fun E => ((KA E).cell hb').trans (hat' 1 _ rfl)
      have e2 : ∀ E : Up wr, E.to.cell? ⟨b', off' + kn * 4 + 2, none⟩ = some q2 := fun E => ((KA E).cell hb').trans (hat' 2 _ rfl)
      have e3 : ∀ E : Up wr, E.to.cell? ⟨b', off' + kn * 4 + 3, none⟩ = some q3 := fun E => ((KA E).cell hb').trans (hat' 3 _ rfl)
      have HX0 := Lib.hid hx0
      have HY0 := Lib.hid hy0
      have KA' := Lib.hid KA
      have hi1 : (kn : Int) < xe.length := by omega
      have hi2 : (kn : Int) < ye.length := by omega
      clear hx0 hy0 hat hat' hcl hcl' KA
      go_wp2_with fail
      refine wp_region_up (by kernel_rfl) (by kernel_rfl) ?_
      repeat (go_big_quiet_step ((go_at_call 16; exact Calls.up (SM.out _))))
      refine wpQuiet_nil ?_
      rintro _ ⟨E, rfl⟩
      have HBB := Lib.hid (below_to KW.out E)
      clear f0 f1 g0 g1 g2 g3 e0 e1 e2 e3
      by_cases hpq : p = q
      · subst hpq
        simp only [decide_true]
        go_wp2_with fail
        go_roundw
        case rel => exact ⟨kn + 1, by go_num, by omega, Lib.hid (by rw [List.take_add_one, List.take_add_one, he.out, HX0.out, HY0.out]), HBB⟩
        case measure => simp [intOf]; omega
      · have hd : decide (p = q) = false := by simpa using hpq
        rw [hd]
        have HN := Lib.hid hpq
        clear hpq hd
        go_wp2_with fail
        go_ret
        refine ⟨?_, KA'.out E⟩
        rw [HE.out false (fun _ => ?_) (fun _ => rfl)]
        · rfl
        symm
        rw [decide_eq_false_iff_not]
        intro e
        have h1 := HX0.out
        rw [e, HY0.out] at h1
        injection h1 with h1
        exact HN.out h1.symm
    · go_wp2_with fail
      go_ret
      refine ⟨?_, KX.out _ KW.out⟩
      rw [HE.out true (fun _ => ?_) (fun h => absurd ⟨⟨by trivial, by trivial, by trivial⟩, HS.out, HT.out, HB.out⟩ h)]
      · rfl
      have h1 := he.out
      rw [List.take_of_length_le (by omega), List.take_of_length_le (by omega)] at h1
      simp [h1]
end Go.Proofs.YtogpbgkafkalnaaDoor
