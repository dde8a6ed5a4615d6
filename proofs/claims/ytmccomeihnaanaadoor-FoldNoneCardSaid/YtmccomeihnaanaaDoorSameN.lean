/- R.SameTrace: are two traces one? Eq of sets alone, so far. R.SameMake, SameExit: under way. R.SameExit: are two exits the same? R.SameTrace: Eq of two lists of instructions. R.SameTrace: are two traces the same? -/
import Derived.Test.YtmccomeihnaanaaDoorIrT
import Derived.BigQuiet
import Derived.Deep.QuietTactic
namespace Go.Proofs.YtmccomeihnaanaaDoor
open Go.RowKit

set_option maxHeartbeats 1000000 in
theorem eq_sets_c (v u : Value) (xs ys : List TSet) (B : Nat) (w : World) (hx : SliceR w B 2 SetR v xs) (hy : SliceR w B 2 SetR u ys) (hB : B ≤ w.heap.size) :
    Calls Tryd.prog 52 #[v, u] w fun e w' => e = .returned (.bool (decide (xs = ys))) ∧ Below w.heap.size w w' := by
  obtain ⟨A, cap, rfl, hc1, hc2, -⟩ := id hx
  obtain ⟨A', cap', rfl, hc1', hc2', -⟩ := id hy
  unfold maxLen at hc2 hc2'
  have HX := Lib.hid hx
  have HY := Lib.hid hy
  clear hx hy
  by_cases hl : xs.length = ys.length
  · have hl1 : xs.length ≤ ys.length := by omega
    have hl2 : ys.length ≤ xs.length := by omega
    have hb1 : ((xs.length : Int) != (ys.length : Int)) = false := by simp; omega
    clear hl
    go_enter Tryd.func52, Tryd.ntmps52
    go_wp2_with fail
    go_loopw [14] (fun k wr => ∃ kn : Nat, k = .int .i64 kn ∧ kn ≤ xs.length ∧ Hid (xs.take kn = ys.take kn) ∧ Below w.heap.size w wr) (fun k _ => xs.length - (intOf k).toNat)
    case atStart => exact ⟨0, rfl, by omega, Lib.hid rfl, Below.refl _ _⟩
    case round =>
      obtain ⟨kn, rfl, hk, he, hbw⟩ := hrel
      have HW := Lib.hid hbw
      clear hbw
      by_cases hlt : kn < xs.length
      · obtain ⟨b, off, x, cs, rfl, hb, hx0, hcl, hR, hat⟩ := HX.out.at_ hlt
        obtain ⟨b', off', y, cs', rfl, hb', hy0, hcl', hR', hat'⟩ := HY.out.at_ (i := kn) (by omega)
        obtain ⟨xr, xv⟩ := x
        obtain ⟨yr, yv⟩ := y
        obtain ⟨rfl, _⟩ := hR
        obtain ⟨rfl, _⟩ := hR'
        have g0 : wr.cell? ⟨b, off + kn * 2, none⟩ = some (.int .i64 xr) := (HW.out.cell (p := ⟨b, off + kn * 2, none⟩) (by simp; omega)).trans (hat 0 _ rfl)
        have g1 : wr.cell? ⟨b, off + kn * 2 + 1, none⟩ = some (.int .i64 xv) := (HW.out.cell (p := ⟨b, off + kn * 2 + 1, none⟩) (by simp; omega)).trans (hat 1 _ rfl)
        have g2 : wr.cell? ⟨b', off' + kn * 2, none⟩ = some (.int .i64 yr) := (HW.out.cell (p := ⟨b', off' + kn * 2, none⟩) (by simp; omega)).trans (hat' 0 _ rfl)
        have g3 : wr.cell? ⟨b', off' + kn * 2 + 1, none⟩ = some (.int .i64 yv) := (HW.out.cell (p := ⟨b', off' + kn * 2 + 1, none⟩) (by simp; omega)).trans (hat' 1 _ rfl)
        have l0 : b < wr.heap.size := Nat.lt_of_lt_of_le hb (Nat.le_trans hB HW.out.size)
        have l1 : b' < wr.heap.size := Nat.lt_of_lt_of_le hb' (Nat.le_trans hB HW.out.size)
        have HX0 := Lib.hid hx0
        have HY0 := Lib.hid hy0
        clear hx0 hy0 hat hat' hcl hcl'
        by_cases hr : xr = yr
        · by_cases hv : xv = yv
          · subst hr hv
            go_wp2_with fail
            refine wp_region_quiet_lit (by kernel_rfl) (by kernel_rfl) ?_
            repeat (go_big_quiet_step (fail))
            refine wpQuiet_nil ?_
            intro w6 hw6
            obtain ⟨nq, rfl⟩ := hw6
            go_wp2_with fail
            go_roundw
            case rel => exact ⟨kn + 1, by go_num, by omega, Lib.hid (by rw [List.take_add_one, List.take_add_one, he.out, HX0.out, HY0.out]), (HW.out.alloc HW.out.size _).trans ⟨rfl, rfl, rfl, Nat.le_refl _, fun _ _ => rfl⟩⟩
            case measure => simp [intOf]; omega
          · have n1 : (xv == yv) = false := by simpa using hv
            have HN := Lib.hid hv
            clear hv
            subst hr
            go_wp2_with fail
            refine wp_region_quiet_lit (by kernel_rfl) (by kernel_rfl) ?_
            repeat (go_big_quiet_step (fail))
            refine wpQuiet_nil ?_
            intro w6 hw6
            obtain ⟨nq, rfl⟩ := hw6
            go_wp2_with fail
            go_ret
            refine ⟨?_, (HW.out.alloc HW.out.size _).trans ⟨rfl, rfl, rfl, Nat.le_refl _, fun _ _ => rfl⟩⟩
            have : ¬ xs = ys := fun e => HN.out (by have h1 := HX0.out; rw [e, HY0.out] at h1; injection h1 with h1; injection h1 with e1 e2; first | exact e1.symm | exact e2.symm)
            simp [this]
        · have n1 : (xr == yr) = false := by simpa using hr
          have HN := Lib.hid hr
          clear hr
          go_wp2_with fail
          refine wp_region_quiet_lit (by kernel_rfl) (by kernel_rfl) ?_
          repeat (go_big_quiet_step (fail))
          refine wpQuiet_nil ?_
          intro w6 hw6
          obtain ⟨nq, rfl⟩ := hw6
          go_wp2_with fail
          go_ret
          refine ⟨?_, (HW.out.alloc HW.out.size _).trans ⟨rfl, rfl, rfl, Nat.le_refl _, fun _ _ => rfl⟩⟩
          have : ¬ xs = ys := fun e => HN.out (by have h1 := HX0.out; rw [e, HY0.out] at h1; injection h1 with h1; injection h1 with e1 e2; first | exact e1.symm | exact e2.symm)
          simp [this]
      · go_wp2_with fail
        go_ret
        refine ⟨?_, HW.out⟩
        have h1 : xs = ys := by
          have := he.out
          rw [List.take_of_length_le (by omega), List.take_of_length_le (by omega)] at this
          exact this
        simp [h1]
  · have hb1 : ((xs.length : Int) != (ys.length : Int)) = true := by simp; omega
    have HN := Lib.hid hl
    clear hl
    go_enter Tryd.func52, Tryd.ntmps52
    go_wp2_with fail
    go_ret
    refine ⟨?_, Below.refl _ _⟩
    have : ¬ xs = ys := fun e => HN.out (by rw [e])
    simp [this]
end Go.Proofs.YtmccomeihnaanaaDoor
namespace Go.Proofs.YtmccomeihnaanaaDoor
open Go.RowKit

theorem below_laid2 (w : World) (a b : Obj) : Below w.heap.size w ((w.alloc a).alloc b) := ((Below.refl w.heap.size w).alloc (Nat.le_refl _) a).alloc (by simp) b

set_option maxHeartbeats 1000000 in
theorem same_make_c (ca cb : List Value) (x y : TMake) (w : World) (hx : MakeR w w.heap.size ca x) (hy : MakeR w w.heap.size cb y) :
    Calls Tryd.prog 53 #[.agg ⟨ca⟩, .agg ⟨cb⟩] w fun e w' => e = .returned (.bool (decide (x = y))) ∧ Below w.heap.size w w' := by
  obtain ⟨va, rfl, sa, -⟩ := hx
  obtain ⟨vb, rfl, sb, -⟩ := hy
  obtain ⟨xc, xk, xn, xs⟩ := x
  obtain ⟨yc, yk, yn, ys⟩ := y
  have SA := Lib.hid sa
  have SB := Lib.hid sb
  clear sa sb
  go_enter Tryd.func53, Tryd.ntmps53
  go_wp2_with fail
  · refine (eq_ints_c va vb xs ys w.heap.size _ (SA.out.keep (Nat.le_refl _) (fun p hp => (below_laid2 w _ _).cell hp) (fun _ _ h => h)) (SB.out.keep (Nat.le_refl _) (fun p hp => (below_laid2 w _ _).cell hp) (fun _ _ h => h))).mono ?_
    rintro e w4 ⟨rfl, rfl⟩
    go_wp2_with fail
    go_ret
    exact ⟨by simp [*], below_laid2 w _ _⟩
  all_goals
    go_ret
    exact ⟨rfl, below_laid2 w _ _⟩
end Go.Proofs.YtmccomeihnaanaaDoor
namespace Go.Proofs.YtmccomeihnaanaaDoor
open Go.RowKit

set_option maxRecDepth 100000 in
set_option maxHeartbeats 2000000 in
theorem same_exit_c (ca cb : List Value) (x y : TExit) (w : World) (hx : ExitR w w.heap.size ca x) (hy : ExitR w w.heap.size cb y) :
    Calls Tryd.prog 27 #[.agg ⟨ca⟩, .agg ⟨cb⟩] w (Gives (.bool (decide (x = y))) w) := by
  obtain ⟨sa, ma, rfl, a1, a2, -⟩ := hx
  obtain ⟨sb, mb, rfl, b1, b2, -⟩ := hy
  obtain ⟨xa, xt, xs, xm⟩ := x
  obtain ⟨ya, yt, ys, ym⟩ := y
  obtain ⟨M, mc, rfl, m1, m2, -⟩ := id a2
  obtain ⟨M', mc', rfl, m1', m2', -⟩ := id b2
  have A1 := Lib.hid a1
  have A2 := Lib.hid a2
  have B1 := Lib.hid b1
  have B2 := Lib.hid b2
  clear a1 a2 b1 b2
  simp only at m1 m1'
  unfold maxLen at m2 m2'
  obtain ⟨r, hr⟩ : ∃ r : Bool, decide ((⟨xa, xt, xs, xm⟩ : TExit) = ⟨ya, yt, ys, ym⟩) = r := ⟨_, rfl⟩
  rw [hr]
  have HE : Hid (∀ b : Bool, (xa = ya ∧ xt = yt ∧ xs = ys → b = decide (xm = ym)) → (¬ (xa = ya ∧ xt = yt ∧ xs = ys) → b = false) → r = b) := by
    intro b h1 h2
    rw [← hr]
    symm
    by_cases h : xa = ya ∧ xt = yt ∧ xs = ys
    · obtain ⟨rfl, rfl, rfl⟩ := h
      rw [h1 ⟨rfl, rfl, rfl⟩]; simp
    · rw [h2 h]
      symm
      rw [decide_eq_false_iff_not]
      intro e
      injection e with e1 e2 e3 e4
      exact h ⟨e1, e2, e3⟩
  clear hr
  by_cases h0 : xa = ya ∧ xt = yt
  case neg =>
    have HN := Lib.hid (HE.out false (fun h => absurd ⟨h.1, h.2.1⟩ h0) (fun _ => rfl))
    have hb : ((xa != ya) || (xt != yt)) = true := by simp; omega
    clear HE
    by_cases h1 : xa = ya
    · have hn : (xt != yt) = true := by simp; omega
      subst h1
      clear h0 hb
      go_enter Tryd.func27, Tryd.ntmps27
      go_wp2_with fail
      go_ret
      exact ⟨by rw [HN.out]; rfl, below_two' w _ _⟩
    · have hn : (xa != ya) = true := by simp; omega
      clear h0 hb h1
      go_enter Tryd.func27, Tryd.ntmps27
      go_wp2_with fail
      go_ret
      exact ⟨by rw [HN.out]; rfl, below_two' w _ _⟩
  obtain ⟨rfl, rfl⟩ := h0
  obtain ⟨w0, hw0⟩ : ∃ w0, w0 = (w.alloc (.cells #[.int .i64 xa, .int .i64 xt, sa, .slice M xm.length mc] 32)).alloc (.cells #[.int .i64 xa, .int .i64 xt, sb, .slice M' ym.length mc'] 32) := ⟨_, rfl⟩
  have k0 : Hid (Below w.heap.size w w0) := by rw [hw0]; exact below_two' w _ _
  have ks : Hid (w.heap.size + 2 = w0.heap.size) := by rw [hw0]; simp [Hid]
  have c0 : Hid (w0.cell? ⟨w.heap.size, 3, none⟩ = some (.slice M xm.length mc)) := by rw [hw0]; exact two_cell0 _ _ _ _ _
  have c1 : Hid (w0.cell? ⟨w.heap.size + 1, 3, none⟩ = some (.slice M' ym.length mc')) := by rw [hw0]; exact two_cell1 _ _ _ _ _
  have HW := Lib.hid hw0
  clear hw0
  go_enter Tryd.func27, Tryd.ntmps27
  go_wp2_with fail
  rw [← HW.out]
  have e1 : SliceR w0 w0.heap.size 2 SetR sa xs := A1.out.keep k0.out.size (fun p hp => k0.out.cell hp) (fun _ _ h => h)
  have e2 : SliceR w0 w0.heap.size 2 SetR sb ys := B1.out.keep k0.out.size (fun p hp => k0.out.cell hp) (fun _ _ h => h)
  refine (eq_sets_c sa sb xs ys _ w0 e1 e2 (Nat.le_refl _)).mono ?_
  clear e1 e2
  rintro e w1 ⟨rfl, b1⟩
  have K1 := Lib.hid b1
  clear b1
  have d0 : w1.cell? ⟨w.heap.size, 3, none⟩ = some (.slice M xm.length mc) := cell_on K1.out c0.out
  have d1 : w1.cell? ⟨w.heap.size + 1, 3, none⟩ = some (.slice M' ym.length mc') := cell_on K1.out c1.out
  by_cases hs : xs = ys
  case neg =>
    have HN := Lib.hid (HE.out false (fun h => absurd h.2.2 hs) (fun _ => rfl))
    have hd : decide (xs = ys) = false := by simpa using hs
    rw [hd]
    clear hs hd
    go_wp2_with fail
    go_ret
    exact ⟨by rw [HN.out]; rfl, Below.then k0.out K1.out k0.out.size⟩
  have hd : decide (xs = ys) = true := by simpa using hs
  rw [hd]
  have HS := Lib.hid hs
  clear hs hd
  by_cases hl : xm.length = ym.length
  case neg =>
    have HN := Lib.hid (HE.out false (fun _ => by symm; rw [decide_eq_false_iff_not]; intro e; rw [e] at hl; exact hl rfl) (fun _ => rfl))
    have hn : ((xm.length : Int) != (ym.length : Int)) = true := by simp; omega
    clear hl
    go_wp2_with fail
    go_ret
    exact ⟨by rw [HN.out]; rfl, Below.then k0.out K1.out k0.out.size⟩
  have hl1 : xm.length ≤ ym.length := by omega
  have hl2 : ym.length ≤ xm.length := by omega
  have hn : ((xm.length : Int) != (ym.length : Int)) = false := by simp; omega
  clear hl
  go_wp2_with fail
  go_loopw [38] (fun k wr => ∃ kn : Nat, k = .int .i64 kn ∧ kn ≤ xm.length ∧ Hid (xm.take kn = ym.take kn) ∧ Hid (Below w0.heap.size w0 wr)) (fun k _ => xm.length - (intOf k).toNat)
  case atStart => exact ⟨0, rfl, by omega, Lib.hid rfl, K1⟩
  case round =>
    obtain ⟨kn, rfl, hk, he, KW⟩ := hrel
    clear d0 d1
    by_cases hlt : kn < xm.length
    · obtain ⟨b, off, p, cs, rfl, hb, hx0, hcl, hR, hat⟩ := A2.out.at_ hlt
      obtain ⟨b', off', q, cs', rfl, hb', hy0, hcl', hR', hat'⟩ := B2.out.at_ (i := kn) (by omega)
      have KA : ∀ E : Up wr, Below w.heap.size w E.to := fun E => Below.then k0.out (below_to KW.out E) k0.out.size
      have SM : Hid (∀ E : Up wr, Calls Tryd.prog 53 #[.agg ⟨cs⟩, .agg ⟨cs'⟩] E.to fun e w' => e = .returned (.bool (decide (p = q))) ∧ Below E.to.heap.size E.to w') := fun E =>
        same_make_c cs cs' p q E.to (hR.keep (KA E).size (fun _ h => (KA E).cell h)) (hR'.keep (KA E).size (fun _ h => (KA E).cell h))
      obtain ⟨pv, rfl, -⟩ := hR
      obtain ⟨qv, rfl, -⟩ := hR'
      have f0 : ∀ E : Up wr, E.to.cell? ⟨w.heap.size, 3, none⟩ = some (.slice (some ⟨b, off, none⟩) xm.length mc) := fun E => cell_to KW.out E c0.out
      have f1 : ∀ E : Up wr, E.to.cell? ⟨w.heap.size + 1, 3, none⟩ = some (.slice (some ⟨b', off', none⟩) ym.length mc') := fun E => cell_to KW.out E c1.out
      have g0 : ∀ E : Up wr, E.to.cell? ⟨b, off + kn * 4, none⟩ = some (.int .i64 p.cell) := fun E => ((KA E).cell hb).trans (hat 0 _ rfl)
      have g1 : ∀ E : Up wr, E.to.cell? ⟨b, off + kn * 4 + 1, none⟩ = some (.int .i64 p.kind) := fun E => ((KA E).cell hb).trans (hat 1 _ rfl)
      have g2 : ∀ E : Up wr, E.to.cell? ⟨b, off + kn * 4 + 2, none⟩ = some (.int .i64 p.num) := fun E => ((KA E).cell hb).trans (hat 2 _ rfl)
      have g3 : ∀ E : Up wr, E.to.cell? ⟨b, off + kn * 4 + 3, none⟩ = some pv := fun E => ((KA E).cell hb).trans (hat 3 _ rfl)
      have e0 : ∀ E : Up wr, E.to.cell? ⟨b', off' + kn * 4, none⟩ = some (.int .i64 q.cell) := fun E => ((KA E).cell hb').trans (hat' 0 _ rfl)
      have e1 : ∀ E : Up wr, E.to.cell? ⟨b', off' + kn * 4 + 1, none⟩ = some (.int .i64 q.kind) := fun E => ((KA E).cell hb').trans (hat' 1 _ rfl)
      have e2 : ∀ E : Up wr, E.to.cell? ⟨b', off' + kn * 4 + 2, none⟩ = some (.int .i64 q.num) := fun E => ((KA E).cell hb').trans (hat' 2 _ rfl)
      have e3 : ∀ E : Up wr, E.to.cell? ⟨b', off' + kn * 4 + 3, none⟩ = some qv := fun E => ((KA E).cell hb').trans (hat' 3 _ rfl)
      have HX0 := Lib.hid hx0
      have HY0 := Lib.hid hy0
      have KA' := Lib.hid KA
      have hi1 : (kn : Int) < xm.length := by omega
      have hi2 : (kn : Int) < ym.length := by omega
      clear hx0 hy0 hat hat' hcl hcl' KA
      go_wp2_with fail
      refine wp_region_up (by kernel_rfl) (by kernel_rfl) ?_
      repeat (go_big_quiet_step ((go_at_call 53; exact Calls.up (SM.out _))))
      refine wpQuiet_nil ?_
      rintro _ ⟨E, rfl⟩
      have HB := Lib.hid (below_to KW.out E)
      clear f0 f1 g0 g1 g2 g3 e0 e1 e2 e3
      by_cases hpq : p = q
      · subst hpq
        simp only [decide_true]
        go_wp2_with fail
        go_roundw
        case rel => exact ⟨kn + 1, by go_num, by omega, Lib.hid (by rw [List.take_add_one, List.take_add_one, he.out, HX0.out, HY0.out]), HB⟩
        case measure => simp [intOf]; omega
      · have hd : decide (p = q) = false := by simpa using hpq
        rw [hd]
        have HN := Lib.hid hpq
        clear hpq hd
        go_wp2_with fail
        go_ret
        refine ⟨?_, KA'.out E⟩
        rw [HE.out false (fun _ => ?_) (fun _ => rfl)]
        · rfl
        symm
        rw [decide_eq_false_iff_not]
        intro e
        have h1 := HX0.out
        rw [e, HY0.out] at h1
        injection h1 with h1
        exact HN.out h1.symm
    · go_wp2_with fail
      go_ret
      refine ⟨?_, Below.then k0.out KW.out k0.out.size⟩
      rw [HE.out true (fun _ => ?_) (fun h => absurd ⟨by trivial, by trivial, HS.out⟩ h)]
      · rfl
      have h1 := he.out
      rw [List.take_of_length_le (by omega), List.take_of_length_le (by omega)] at h1
      simp [h1]
end Go.Proofs.YtmccomeihnaanaaDoor
namespace Go.Proofs.YtmccomeihnaanaaDoor
open Go.RowKit

set_option maxRecDepth 100000 in
set_option maxHeartbeats 4000000 in
theorem eq_inss_c (v u : Value) (xs ys : List TIns) (B : Nat) (w : World) (hx : SliceR w B 8 InsR v xs) (hy : SliceR w B 8 InsR u ys) (hB : B ≤ w.heap.size) :
    Calls Tryd.prog 26 #[v, u] w fun e w' => e = .returned (.bool (decide (xs = ys))) ∧ Below w.heap.size w w' := by
  obtain ⟨A, cap, rfl, hc1, hc2, -⟩ := id hx
  obtain ⟨A', cap', rfl, hc1', hc2', -⟩ := id hy
  unfold maxLen at hc2 hc2'
  have HX := Lib.hid hx
  have HY := Lib.hid hy
  clear hx hy
  by_cases hl : xs.length = ys.length
  · have hl1 : xs.length ≤ ys.length := by omega
    have hl2 : ys.length ≤ xs.length := by omega
    have hb1 : ((xs.length : Int) != (ys.length : Int)) = false := by simp; omega
    clear hl
    go_enter Tryd.func26, Tryd.ntmps26
    go_wp2_with fail
    go_loopw [14] (fun k wr => ∃ kn : Nat, k = .int .i64 kn ∧ kn ≤ xs.length ∧ Hid (xs.take kn = ys.take kn) ∧ Below w.heap.size w wr) (fun k _ => xs.length - (intOf k).toNat)
    case atStart => exact ⟨0, rfl, by omega, Lib.hid rfl, Below.refl _ _⟩
    case round =>
      obtain ⟨kn, rfl, hk, he, hbw⟩ := hrel
      have HW := Lib.hid hbw
      clear hbw
      by_cases hlt : kn < xs.length
      · obtain ⟨b, off, x, cs, rfl, hb, hx0, hcl, hR, hat⟩ := HX.out.at_ hlt
        obtain ⟨b', off', y, cs', rfl, hb', hy0, hcl', hR', hat'⟩ := HY.out.at_ (i := kn) (by omega)
        obtain ⟨xo, xa, xb, xc, xn, xe, xk, xv⟩ := x
        obtain ⟨yo, ya, yb, yc, yn, ye, yk, yv⟩ := y
        obtain ⟨rfl, -⟩ := hR
        obtain ⟨rfl, -⟩ := hR'
        have g0 : wr.cell? ⟨b, off + kn * 8, none⟩ = some (.int .i64 xo) := (HW.out.cell (p := ⟨b, off + kn * 8, none⟩) (by simp; omega)).trans (hat 0 _ rfl)
        have g1 : wr.cell? ⟨b, off + kn * 8 + 1, none⟩ = some (.int .i64 xa) := (HW.out.cell (p := ⟨b, off + kn * 8 + 1, none⟩) (by simp; omega)).trans (hat 1 _ rfl)
        have g2 : wr.cell? ⟨b, off + kn * 8 + 2, none⟩ = some (.int .i64 xb) := (HW.out.cell (p := ⟨b, off + kn * 8 + 2, none⟩) (by simp; omega)).trans (hat 2 _ rfl)
        have g3 : wr.cell? ⟨b, off + kn * 8 + 3, none⟩ = some (.int .i64 xc) := (HW.out.cell (p := ⟨b, off + kn * 8 + 3, none⟩) (by simp; omega)).trans (hat 3 _ rfl)
        have g4 : wr.cell? ⟨b, off + kn * 8 + 4, none⟩ = some (.int .i64 xn) := (HW.out.cell (p := ⟨b, off + kn * 8 + 4, none⟩) (by simp; omega)).trans (hat 4 _ rfl)
        have g5 : wr.cell? ⟨b, off + kn * 8 + 5, none⟩ = some (.int .i64 xe) := (HW.out.cell (p := ⟨b, off + kn * 8 + 5, none⟩) (by simp; omega)).trans (hat 5 _ rfl)
        have g6 : wr.cell? ⟨b, off + kn * 8 + 6, none⟩ = some (.int .i64 xk) := (HW.out.cell (p := ⟨b, off + kn * 8 + 6, none⟩) (by simp; omega)).trans (hat 6 _ rfl)
        have g7 : wr.cell? ⟨b, off + kn * 8 + 7, none⟩ = some (.int .i64 xv) := (HW.out.cell (p := ⟨b, off + kn * 8 + 7, none⟩) (by simp; omega)).trans (hat 7 _ rfl)
        have e0 : wr.cell? ⟨b', off' + kn * 8, none⟩ = some (.int .i64 yo) := (HW.out.cell (p := ⟨b', off' + kn * 8, none⟩) (by simp; omega)).trans (hat' 0 _ rfl)
        have e1 : wr.cell? ⟨b', off' + kn * 8 + 1, none⟩ = some (.int .i64 ya) := (HW.out.cell (p := ⟨b', off' + kn * 8 + 1, none⟩) (by simp; omega)).trans (hat' 1 _ rfl)
        have e2 : wr.cell? ⟨b', off' + kn * 8 + 2, none⟩ = some (.int .i64 yb) := (HW.out.cell (p := ⟨b', off' + kn * 8 + 2, none⟩) (by simp; omega)).trans (hat' 2 _ rfl)
        have e3 : wr.cell? ⟨b', off' + kn * 8 + 3, none⟩ = some (.int .i64 yc) := (HW.out.cell (p := ⟨b', off' + kn * 8 + 3, none⟩) (by simp; omega)).trans (hat' 3 _ rfl)
        have e4 : wr.cell? ⟨b', off' + kn * 8 + 4, none⟩ = some (.int .i64 yn) := (HW.out.cell (p := ⟨b', off' + kn * 8 + 4, none⟩) (by simp; omega)).trans (hat' 4 _ rfl)
        have e5 : wr.cell? ⟨b', off' + kn * 8 + 5, none⟩ = some (.int .i64 ye) := (HW.out.cell (p := ⟨b', off' + kn * 8 + 5, none⟩) (by simp; omega)).trans (hat' 5 _ rfl)
        have e6 : wr.cell? ⟨b', off' + kn * 8 + 6, none⟩ = some (.int .i64 yk) := (HW.out.cell (p := ⟨b', off' + kn * 8 + 6, none⟩) (by simp; omega)).trans (hat' 6 _ rfl)
        have e7 : wr.cell? ⟨b', off' + kn * 8 + 7, none⟩ = some (.int .i64 yv) := (HW.out.cell (p := ⟨b', off' + kn * 8 + 7, none⟩) (by simp; omega)).trans (hat' 7 _ rfl)
        have l0 : b < wr.heap.size := Nat.lt_of_lt_of_le hb (Nat.le_trans hB HW.out.size)
        have l1 : b' < wr.heap.size := Nat.lt_of_lt_of_le hb' (Nat.le_trans hB HW.out.size)
        have HX0 := Lib.hid hx0
        have HY0 := Lib.hid hy0
        clear hx0 hy0 hat hat' hcl hcl'
        by_cases h0 : xo = yo
        · subst h0
          by_cases h1 : xa = ya
          · subst h1
            by_cases h2 : xb = yb
            · subst h2
              by_cases h3 : xc = yc
              · subst h3
                by_cases h4 : xn = yn
                · subst h4
                  by_cases h5 : xe = ye
                  · subst h5
                    by_cases h6 : xk = yk
                    · subst h6
                      by_cases h7 : xv = yv
                      · subst h7
                        go_wp2_with fail
                        refine wp_region_quiet_lit (by kernel_rfl) (by kernel_rfl) ?_
                        repeat (go_big_quiet_step (fail))
                        refine wpQuiet_nil ?_
                        intro w6 hw6
                        obtain ⟨nq, rfl⟩ := hw6
                        go_wp2_with fail
                        go_roundw
                        case rel => exact ⟨kn + 1, by go_num, by omega, Lib.hid (by rw [List.take_add_one, List.take_add_one, he.out, HX0.out, HY0.out]), (HW.out.alloc HW.out.size _).trans ⟨rfl, rfl, rfl, Nat.le_refl _, fun _ _ => rfl⟩⟩
                        case measure => simp [intOf]; omega
                      · have n1 : (xv == yv) = false := by simpa using h7
                        have HN := Lib.hid h7
                        clear h7
                        go_wp2_with fail
                        refine wp_region_quiet_lit (by kernel_rfl) (by kernel_rfl) ?_
                        repeat (go_big_quiet_step (fail))
                        refine wpQuiet_nil ?_
                        intro w6 hw6
                        obtain ⟨nq, rfl⟩ := hw6
                        go_wp2_with fail
                        go_ret
                        refine ⟨?_, (HW.out.alloc HW.out.size _).trans ⟨rfl, rfl, rfl, Nat.le_refl _, fun _ _ => rfl⟩⟩
                        have : ¬ xs = ys := fun e => HN.out (by have h1 := HX0.out; rw [e, HY0.out] at h1; simp only [Option.some.injEq, TIns.mk.injEq, Val.mk.injEq] at h1; omega)
                        simp [this]
                    · have n1 : (xk == yk) = false := by simpa using h6
                      have HN := Lib.hid h6
                      clear h6
                      go_wp2_with fail
                      refine wp_region_quiet_lit (by kernel_rfl) (by kernel_rfl) ?_
                      repeat (go_big_quiet_step (fail))
                      refine wpQuiet_nil ?_
                      intro w6 hw6
                      obtain ⟨nq, rfl⟩ := hw6
                      go_wp2_with fail
                      go_ret
                      refine ⟨?_, (HW.out.alloc HW.out.size _).trans ⟨rfl, rfl, rfl, Nat.le_refl _, fun _ _ => rfl⟩⟩
                      have : ¬ xs = ys := fun e => HN.out (by have h1 := HX0.out; rw [e, HY0.out] at h1; simp only [Option.some.injEq, TIns.mk.injEq, Val.mk.injEq] at h1; omega)
                      simp [this]
                  · have n1 : (xe == ye) = false := by simpa using h5
                    have HN := Lib.hid h5
                    clear h5
                    go_wp2_with fail
                    refine wp_region_quiet_lit (by kernel_rfl) (by kernel_rfl) ?_
                    repeat (go_big_quiet_step (fail))
                    refine wpQuiet_nil ?_
                    intro w6 hw6
                    obtain ⟨nq, rfl⟩ := hw6
                    go_wp2_with fail
                    go_ret
                    refine ⟨?_, (HW.out.alloc HW.out.size _).trans ⟨rfl, rfl, rfl, Nat.le_refl _, fun _ _ => rfl⟩⟩
                    have : ¬ xs = ys := fun e => HN.out (by have h1 := HX0.out; rw [e, HY0.out] at h1; simp only [Option.some.injEq, TIns.mk.injEq, Val.mk.injEq] at h1; omega)
                    simp [this]
                · have n1 : (xn == yn) = false := by simpa using h4
                  have HN := Lib.hid h4
                  clear h4
                  go_wp2_with fail
                  refine wp_region_quiet_lit (by kernel_rfl) (by kernel_rfl) ?_
                  repeat (go_big_quiet_step (fail))
                  refine wpQuiet_nil ?_
                  intro w6 hw6
                  obtain ⟨nq, rfl⟩ := hw6
                  go_wp2_with fail
                  go_ret
                  refine ⟨?_, (HW.out.alloc HW.out.size _).trans ⟨rfl, rfl, rfl, Nat.le_refl _, fun _ _ => rfl⟩⟩
                  have : ¬ xs = ys := fun e => HN.out (by have h1 := HX0.out; rw [e, HY0.out] at h1; simp only [Option.some.injEq, TIns.mk.injEq, Val.mk.injEq] at h1; omega)
                  simp [this]
              · have n1 : (xc == yc) = false := by simpa using h3
                have HN := Lib.hid h3
                clear h3
                go_wp2_with fail
                refine wp_region_quiet_lit (by kernel_rfl) (by kernel_rfl) ?_
                repeat (go_big_quiet_step (fail))
                refine wpQuiet_nil ?_
                intro w6 hw6
                obtain ⟨nq, rfl⟩ := hw6
                go_wp2_with fail
                go_ret
                refine ⟨?_, (HW.out.alloc HW.out.size _).trans ⟨rfl, rfl, rfl, Nat.le_refl _, fun _ _ => rfl⟩⟩
                have : ¬ xs = ys := fun e => HN.out (by have h1 := HX0.out; rw [e, HY0.out] at h1; simp only [Option.some.injEq, TIns.mk.injEq, Val.mk.injEq] at h1; omega)
                simp [this]
            · have n1 : (xb == yb) = false := by simpa using h2
              have HN := Lib.hid h2
              clear h2
              go_wp2_with fail
              refine wp_region_quiet_lit (by kernel_rfl) (by kernel_rfl) ?_
              repeat (go_big_quiet_step (fail))
              refine wpQuiet_nil ?_
              intro w6 hw6
              obtain ⟨nq, rfl⟩ := hw6
              go_wp2_with fail
              go_ret
              refine ⟨?_, (HW.out.alloc HW.out.size _).trans ⟨rfl, rfl, rfl, Nat.le_refl _, fun _ _ => rfl⟩⟩
              have : ¬ xs = ys := fun e => HN.out (by have h1 := HX0.out; rw [e, HY0.out] at h1; simp only [Option.some.injEq, TIns.mk.injEq, Val.mk.injEq] at h1; omega)
              simp [this]
          · have n1 : (xa == ya) = false := by simpa using h1
            have HN := Lib.hid h1
            clear h1
            go_wp2_with fail
            refine wp_region_quiet_lit (by kernel_rfl) (by kernel_rfl) ?_
            repeat (go_big_quiet_step (fail))
            refine wpQuiet_nil ?_
            intro w6 hw6
            obtain ⟨nq, rfl⟩ := hw6
            go_wp2_with fail
            go_ret
            refine ⟨?_, (HW.out.alloc HW.out.size _).trans ⟨rfl, rfl, rfl, Nat.le_refl _, fun _ _ => rfl⟩⟩
            have : ¬ xs = ys := fun e => HN.out (by have h1 := HX0.out; rw [e, HY0.out] at h1; simp only [Option.some.injEq, TIns.mk.injEq, Val.mk.injEq] at h1; omega)
            simp [this]
        · have n1 : (xo == yo) = false := by simpa using h0
          have HN := Lib.hid h0
          clear h0
          go_wp2_with fail
          refine wp_region_quiet_lit (by kernel_rfl) (by kernel_rfl) ?_
          repeat (go_big_quiet_step (fail))
          refine wpQuiet_nil ?_
          intro w6 hw6
          obtain ⟨nq, rfl⟩ := hw6
          go_wp2_with fail
          go_ret
          refine ⟨?_, (HW.out.alloc HW.out.size _).trans ⟨rfl, rfl, rfl, Nat.le_refl _, fun _ _ => rfl⟩⟩
          have : ¬ xs = ys := fun e => HN.out (by have h1 := HX0.out; rw [e, HY0.out] at h1; simp only [Option.some.injEq, TIns.mk.injEq, Val.mk.injEq] at h1; omega)
          simp [this]
      · go_wp2_with fail
        go_ret
        refine ⟨?_, HW.out⟩
        have h1 : xs = ys := by
          have := he.out
          rw [List.take_of_length_le (by omega), List.take_of_length_le (by omega)] at this
          exact this
        simp [h1]
  · have hb1 : ((xs.length : Int) != (ys.length : Int)) = true := by simp; omega
    have HN := Lib.hid hl
    clear hl
    go_enter Tryd.func26, Tryd.ntmps26
    go_wp2_with fail
    go_ret
    refine ⟨?_, Below.refl _ _⟩
    have : ¬ xs = ys := fun e => HN.out (by rw [e])
    simp [this]
end Go.Proofs.YtmccomeihnaanaaDoor
namespace Go.Proofs.YtmccomeihnaanaaDoor
open Go.RowKit

set_option maxRecDepth 100000 in
set_option maxHeartbeats 4000000 in
theorem same_trace_c (ca cb : List Value) (x y : TTrace) (w : World) (hx : TraceR w w.heap.size ca x) (hy : TraceR w w.heap.size cb y) :
    Calls Tryd.prog 20 #[.agg ⟨ca⟩, .agg ⟨cb⟩] w (Gives (.bool (decide (x = y))) w) := by
  obtain ⟨xf, xa, xl, xs, xe, xt, xb⟩ := x
  obtain ⟨yf, ya, yl, ys, ye, yt, yb⟩ := y
  obtain ⟨iv, ev, ct, cb1, rfl, a1, a2, a3, a4, -⟩ := hx
  obtain ⟨iv', ev', ct', cb1', rfl, b1, b2, b3, b4, -⟩ := hy
  obtain ⟨r, hr⟩ : ∃ r : Bool, decide ((⟨xf, xa, xl, xs, xe, xt, xb⟩ : TTrace) = ⟨yf, ya, yl, ys, ye, yt, yb⟩) = r := ⟨_, rfl⟩
  rw [hr]
  have HE : Hid (∀ b : Bool, ((xf = yf ∧ xa = ya ∧ xl = yl) ∧ xs = ys ∧ xt = yt ∧ xb = yb → b = decide (xe = ye)) → (¬ ((xf = yf ∧ xa = ya ∧ xl = yl) ∧ xs = ys ∧ xt = yt ∧ xb = yb) → b = false) → r = b) := by
    intro b h1 h2
    rw [← hr]
    symm
    by_cases h : (xf = yf ∧ xa = ya ∧ xl = yl) ∧ xs = ys ∧ xt = yt ∧ xb = yb
    · obtain ⟨⟨rfl, rfl, rfl⟩, rfl, rfl, rfl⟩ := h
      rw [h1 ⟨⟨rfl, rfl, rfl⟩, rfl, rfl, rfl⟩]; simp
    · rw [h2 h]
      symm
      rw [decide_eq_false_iff_not]
      intro e
      injection e with e1 e2 e3 e4 e5 e6 e7
      exact h ⟨⟨e1, e2, e3⟩, e4, e6, e7⟩
  clear hr
  obtain ⟨M, mc, rfl, m1, m2, -⟩ := id a1
  obtain ⟨M', mc', rfl, m1', m2', -⟩ := id b1
  obtain ⟨N, nc, rfl, n1, n2, -⟩ := id a2
  obtain ⟨N', nc', rfl, n1', n2', -⟩ := id b2
  have A1 := Lib.hid a1
  have A2 := Lib.hid a2
  have A3 := Lib.hid a3
  have A4 := Lib.hid a4
  have B1 := Lib.hid b1
  have B2 := Lib.hid b2
  have B3 := Lib.hid b3
  have B4 := Lib.hid b4
  obtain ⟨t1, t2, rfl, -⟩ := a3
  obtain ⟨t3, t4, rfl, -⟩ := a4
  obtain ⟨t1', t2', rfl, -⟩ := b3
  obtain ⟨t3', t4', rfl, -⟩ := b4
  clear a1 a2 b1 b2
  simp only at n1 n1' m1 m1'
  unfold maxLen at m2 m2' n2 n2'
  by_cases h0 : xf = yf ∧ xa = ya ∧ xl = yl
  case neg =>
    have HN := Lib.hid (HE.out false (fun h => absurd h.1 h0) (fun _ => rfl))
    clear HE
    by_cases h1 : xf = yf
    · subst h1
      by_cases h2 : xa = ya
      · subst h2
        have hn : (xl != yl) = true := by simp; intro e; exact h0 ⟨rfl, rfl, e⟩
        clear h0
        go_enter Tryd.func20, Tryd.ntmps20
        go_wp2_with fail
        go_ret
        exact ⟨by rw [HN.out]; rfl, below_two' w _ _⟩
      · have hn : (xa != ya) = true := by simpa using h2
        clear h0 h2
        go_enter Tryd.func20, Tryd.ntmps20
        go_wp2_with fail
        go_ret
        exact ⟨by rw [HN.out]; rfl, below_two' w _ _⟩
    · have hn : (xf != yf) = true := by simpa using h1
      clear h0 h1
      go_enter Tryd.func20, Tryd.ntmps20
      go_wp2_with fail
      go_ret
      exact ⟨by rw [HN.out]; rfl, below_two' w _ _⟩
  obtain ⟨rfl, rfl, rfl⟩ := h0
  obtain ⟨c0, hc0⟩ : ∃ c0 : Array Value, c0 = #[.int .i64 xf, .int .i64 xa, .int .i64 xl, .slice M xs.length mc, .slice N xe.length nc, .int .i64 xt.at_, .int .i64 xt.steps, t1, t2, .int .i64 xb.at_, .int .i64 xb.steps, t3, t4] := ⟨_, rfl⟩
  obtain ⟨c1, hc1⟩ : ∃ c1 : Array Value, c1 = #[.int .i64 xf, .int .i64 xa, .int .i64 xl, .slice M' ys.length mc', .slice N' ye.length nc', .int .i64 yt.at_, .int .i64 yt.steps, t1', t2', .int .i64 yb.at_, .int .i64 yb.steps, t3', t4'] := ⟨_, rfl⟩
  obtain ⟨w0, hw0⟩ : ∃ w0, w0 = (w.alloc (.cells c0 34)).alloc (.cells c1 34) := ⟨_, rfl⟩
  have k0 : Hid (Below w.heap.size w w0) := by rw [hw0]; exact below_two' w _ _
  have f0 : Hid (∀ i, w0.cell? ⟨w.heap.size, i, none⟩ = c0[i]?) := by rw [hw0]; exact fun i => two_cell0 _ _ _ _ _
  have f1 : Hid (∀ i, w0.cell? ⟨w.heap.size + 1, i, none⟩ = c1[i]?) := by rw [hw0]; exact fun i => two_cell1 _ _ _ _ _
  rw [hc0, hc1] at hw0
  rw [hc0] at f0
  rw [hc1] at f1
  clear hc0 hc1
  have HW := Lib.hid hw0
  clear hw0
  -- what holds at each later world
  have KX : Hid (∀ w1, Below w0.heap.size w0 w1 → Below w.heap.size w w1) := fun w1 k => Below.then k0.out k k0.out.size
  have G0 : Hid (∀ w1, Below w0.heap.size w0 w1 → ∀ i v, (#[.int .i64 xf, .int .i64 xa, .int .i64 xl, .slice M xs.length mc, .slice N xe.length nc, .int .i64 xt.at_, .int .i64 xt.steps, t1, t2, .int .i64 xb.at_, .int .i64 xb.steps, t3, t4] : Array Value)[i]? = some v → w1.cell? ⟨w.heap.size, i, none⟩ = some v) := fun w1 k i v hv => cell_on k ((f0.out i).trans hv)
  have G1 : Hid (∀ w1, Below w0.heap.size w0 w1 → ∀ i v, (#[.int .i64 xf, .int .i64 xa, .int .i64 xl, .slice M' ys.length mc', .slice N' ye.length nc', .int .i64 yt.at_, .int .i64 yt.steps, t1', t2', .int .i64 yb.at_, .int .i64 yb.steps, t3', t4'] : Array Value)[i]? = some v → w1.cell? ⟨w.heap.size + 1, i, none⟩ = some v) := fun w1 k i v hv => cell_on k ((f1.out i).trans hv)
  have kn0 : Hid (Below w0.heap.size w0 w0) := Below.refl _ _
  go_enter Tryd.func20, Tryd.ntmps20
  go_wp2_with fail
  rw [← HW.out]
  refine (eq_inss_c _ _ xs ys w.heap.size w0 (A1.out.keep (Nat.le_refl _) (fun p hp => k0.out.cell hp) (fun _ _ h => h)) (B1.out.keep (Nat.le_refl _) (fun p hp => k0.out.cell hp) (fun _ _ h => h)) k0.out.size).mono ?_
  rintro e w1 ⟨rfl, k1⟩
  have K1 := Lib.hid k1
  clear k1
  by_cases hs : xs = ys
  case neg =>
    have HN := Lib.hid (HE.out false (fun h => absurd h.2.1 hs) (fun _ => rfl))
    have hd : decide (xs = ys) = false := by simpa using hs
    rw [hd]
    clear hs hd
    go_wp2_with fail
    go_ret
    exact ⟨by rw [HN.out]; rfl, KX.out _ K1.out⟩
  have hd : decide (xs = ys) = true := by simpa using hs
  rw [hd]
  have HS := Lib.hid hs
  clear hs hd
  have d0 : w1.cell? ⟨w.heap.size, 4, none⟩ = some (.slice N xe.length nc) := G0.out _ K1.out 4 _ rfl
  have d1 : w1.cell? ⟨w.heap.size + 1, 4, none⟩ = some (.slice N' ye.length nc') := G1.out _ K1.out 4 _ rfl
  by_cases hl : xe.length = ye.length
  case neg =>
    have HN := Lib.hid (HE.out false (fun _ => by symm; rw [decide_eq_false_iff_not]; intro e; rw [e] at hl; exact hl rfl) (fun _ => rfl))
    have hn : ((xe.length : Int) != (ye.length : Int)) = true := by simp; omega
    clear hl
    go_wp2_with fail
    go_ret
    exact ⟨by rw [HN.out]; rfl, KX.out _ K1.out⟩
  have hl1 : xe.length ≤ ye.length := by omega
  have hl2 : ye.length ≤ xe.length := by omega
  have hn : ((xe.length : Int) != (ye.length : Int)) = false := by simp; omega
  have d2 : w1.cell? ⟨w.heap.size, 5, none⟩ = some (.int .i64 xt.at_) := G0.out _ K1.out 5 _ rfl
  have d3 : w1.cell? ⟨w.heap.size, 6, none⟩ = some (.int .i64 xt.steps) := G0.out _ K1.out 6 _ rfl
  have d4 : w1.cell? ⟨w.heap.size, 7, none⟩ = some t1 := G0.out _ K1.out 7 _ rfl
  have d5 : w1.cell? ⟨w.heap.size, 8, none⟩ = some t2 := G0.out _ K1.out 8 _ rfl
  have d6 : w1.cell? ⟨w.heap.size + 1, 5, none⟩ = some (.int .i64 yt.at_) := G1.out _ K1.out 5 _ rfl
  have d7 : w1.cell? ⟨w.heap.size + 1, 6, none⟩ = some (.int .i64 yt.steps) := G1.out _ K1.out 6 _ rfl
  have d8 : w1.cell? ⟨w.heap.size + 1, 7, none⟩ = some t1' := G1.out _ K1.out 7 _ rfl
  have d9 : w1.cell? ⟨w.heap.size + 1, 8, none⟩ = some t2' := G1.out _ K1.out 8 _ rfl
  clear hl
  go_wp2_with fail
  refine (same_exit_c _ _ xt yt w1 (A3.out.keep (KX.out _ K1.out).size (fun p hp => (KX.out _ K1.out).cell hp)) (B3.out.keep (KX.out _ K1.out).size (fun p hp => (KX.out _ K1.out).cell hp))).mono ?_
  rintro e w2 ⟨rfl, k2⟩
  have K2 := Lib.hid (Below.next K1.out k2)
  clear k2 d0 d1 d2 d3 d4 d5 d6 d7 d8 d9
  by_cases ht : xt = yt
  case neg =>
    have HN := Lib.hid (HE.out false (fun h => absurd h.2.2.1 ht) (fun _ => rfl))
    have hd : decide (xt = yt) = false := by simpa using ht
    rw [hd]
    clear ht hd
    go_wp2_with fail
    go_ret
    exact ⟨by rw [HN.out]; rfl, KX.out _ K2.out⟩
  have hd : decide (xt = yt) = true := by simpa using ht
  rw [hd]
  have HT := Lib.hid ht
  clear ht hd
  have d2 : w2.cell? ⟨w.heap.size, 9, none⟩ = some (.int .i64 xb.at_) := G0.out _ K2.out 9 _ rfl
  have d3 : w2.cell? ⟨w.heap.size, 10, none⟩ = some (.int .i64 xb.steps) := G0.out _ K2.out 10 _ rfl
  have d4 : w2.cell? ⟨w.heap.size, 11, none⟩ = some t3 := G0.out _ K2.out 11 _ rfl
  have d5 : w2.cell? ⟨w.heap.size, 12, none⟩ = some t4 := G0.out _ K2.out 12 _ rfl
  have d6 : w2.cell? ⟨w.heap.size + 1, 9, none⟩ = some (.int .i64 yb.at_) := G1.out _ K2.out 9 _ rfl
  have d7 : w2.cell? ⟨w.heap.size + 1, 10, none⟩ = some (.int .i64 yb.steps) := G1.out _ K2.out 10 _ rfl
  have d8 : w2.cell? ⟨w.heap.size + 1, 11, none⟩ = some t3' := G1.out _ K2.out 11 _ rfl
  have d9 : w2.cell? ⟨w.heap.size + 1, 12, none⟩ = some t4' := G1.out _ K2.out 12 _ rfl
  go_wp2_with fail
  refine (same_exit_c _ _ xb yb w2 (A4.out.keep (KX.out _ K2.out).size (fun p hp => (KX.out _ K2.out).cell hp)) (B4.out.keep (KX.out _ K2.out).size (fun p hp => (KX.out _ K2.out).cell hp))).mono ?_
  rintro e w3 ⟨rfl, k3⟩
  have K3 := Lib.hid (Below.next K2.out k3)
  clear k3 d2 d3 d4 d5 d6 d7 d8 d9
  by_cases hb : xb = yb
  case neg =>
    have HN := Lib.hid (HE.out false (fun h => absurd h.2.2.2 hb) (fun _ => rfl))
    have hd : decide (xb = yb) = false := by simpa using hb
    rw [hd]
    clear hb hd
    go_wp2_with fail
    go_ret
    exact ⟨by rw [HN.out]; rfl, KX.out _ K3.out⟩
  have hd : decide (xb = yb) = true := by simpa using hb
  rw [hd]
  have HB := Lib.hid hb
  clear hb hd
  have d0 : w3.cell? ⟨w.heap.size, 4, none⟩ = some (.slice N xe.length nc) := G0.out _ K3.out 4 _ rfl
  go_wp2_with fail
  go_loopw [61] (fun k wr => ∃ kn : Nat, k = .int .i64 kn ∧ kn ≤ xe.length ∧ Hid (xe.take kn = ye.take kn) ∧ Hid (Below w0.heap.size w0 wr)) (fun k _ => xe.length - (intOf k).toNat)
  case atStart => exact ⟨0, rfl, by omega, Lib.hid rfl, K3⟩
  case round =>
    obtain ⟨kn, rfl, hk, he, KW⟩ := hrel
    clear d0
    by_cases hlt : kn < xe.length
    · obtain ⟨b, off, p, cs, rfl, hb, hx0, hcl, hR, hat⟩ := A2.out.at_ hlt
      obtain ⟨b', off', q, cs', rfl, hb', hy0, hcl', hR', hat'⟩ := B2.out.at_ (i := kn) (by omega)
      have KA : ∀ E : Up wr, Below w.heap.size w E.to := fun E => KX.out _ (below_to KW.out E)
      have SM : Hid (∀ E : Up wr, Calls Tryd.prog 27 #[.agg ⟨cs⟩, .agg ⟨cs'⟩] E.to (Gives (.bool (decide (p = q))) E.to)) := fun E =>
        same_exit_c cs cs' p q E.to (hR.keep (KA E).size (fun _ h => (KA E).cell h)) (hR'.keep (KA E).size (fun _ h => (KA E).cell h))
      obtain ⟨p2, p3, rfl, -⟩ := hR
      obtain ⟨q2, q3, rfl, -⟩ := hR'
      have f0 : ∀ E : Up wr, E.to.cell? ⟨w.heap.size, 4, none⟩ = some (.slice (some ⟨b, off, none⟩) xe.length nc) := fun E => G0.out _ (below_to KW.out E) 4 _ rfl
      have f1 : ∀ E : Up wr, E.to.cell? ⟨w.heap.size + 1, 4, none⟩ = some (.slice (some ⟨b', off', none⟩) ye.length nc') := fun E => G1.out _ (below_to KW.out E) 4 _ rfl
      have g0 : ∀ E : Up wr, E.to.cell? ⟨b, off + kn * 4, none⟩ = some (.int .i64 p.at_) := fun E => ((KA E).cell hb).trans (hat 0 _ rfl)
      have g1 : ∀ E : Up wr, E.to.cell? ⟨b, off + kn * 4 + 1, none⟩ = some (.int .i64 p.steps) := fun E => ((KA E).cell hb).trans (hat 1 _ rfl)
      have g2 : ∀ E : Up wr, E.to.cell? ⟨b, off + kn * 4 + 2, none⟩ = some p2 := fun E => ((KA E).cell hb).trans (hat 2 _ rfl)
      have g3 : ∀ E : Up wr, E.to.cell? ⟨b, off + kn * 4 + 3, none⟩ = some p3 := fun E => ((KA E).cell hb).trans (hat 3 _ rfl)
      have e0 : ∀ E : Up wr, E.to.cell? ⟨b', off' + kn * 4, none⟩ = some (.int .i64 q.at_) := fun E => ((KA E).cell hb').trans (hat' 0 _ rfl)
      have e1 : ∀ E : Up wr, E.to.cell? ⟨b', off' + kn * 4 + 1, none⟩ = some (.int .i64 q.steps) := fun E => ((KA E).cell hb').trans (hat' 1 _ rfl)
      have e2 : ∀ E : Up wr, E.to.cell? ⟨b', off' + kn * 4 + 2, none⟩ = some q2 := fun E => ((KA E).cell hb').trans (hat' 2 _ rfl)
      have e3 : ∀ E : Up wr, E.to.cell? ⟨b', off' + kn * 4 + 3, none⟩ = some q3 := fun E => ((KA E).cell hb').trans (hat' 3 _ rfl)
      have HX0 := Lib.hid hx0
      have HY0 := Lib.hid hy0
      have KA' := Lib.hid KA
      have hi1 : (kn : Int) < xe.length := by omega
      have hi2 : (kn : Int) < ye.length := by omega
      clear hx0 hy0 hat hat' hcl hcl' KA
      go_wp2_with fail
      refine wp_region_up (by kernel_rfl) (by kernel_rfl) ?_
      repeat (go_big_quiet_step ((go_at_call 27; exact Calls.up (SM.out _))))
      refine wpQuiet_nil ?_
      rintro _ ⟨E, rfl⟩
      have HBB := Lib.hid (below_to KW.out E)
      clear f0 f1 g0 g1 g2 g3 e0 e1 e2 e3
      by_cases hpq : p = q
      · subst hpq
        simp only [decide_true]
        go_wp2_with fail
        go_roundw
        case rel => exact ⟨kn + 1, by go_num, by omega, Lib.hid (by rw [List.take_add_one, List.take_add_one, he.out, HX0.out, HY0.out]), HBB⟩
        case measure => simp [intOf]; omega
      · have hd : decide (p = q) = false := by simpa using hpq
        rw [hd]
        have HN := Lib.hid hpq
        clear hpq hd
        go_wp2_with fail
        go_ret
        refine ⟨?_, KA'.out E⟩
        rw [HE.out false (fun _ => ?_) (fun _ => rfl)]
        · rfl
        symm
        rw [decide_eq_false_iff_not]
        intro e
        have h1 := HX0.out
        rw [e, HY0.out] at h1
        injection h1 with h1
        exact HN.out h1.symm
    · go_wp2_with fail
      go_ret
      refine ⟨?_, KX.out _ KW.out⟩
      rw [HE.out true (fun _ => ?_) (fun h => absurd ⟨⟨by trivial, by trivial, by trivial⟩, HS.out, HT.out, HB.out⟩ h)]
      · rfl
      have h1 := he.out
      rw [List.take_of_length_le (by omega), List.take_of_length_le (by omega)] at h1
      simp [h1]
end Go.Proofs.YtmccomeihnaanaaDoor
