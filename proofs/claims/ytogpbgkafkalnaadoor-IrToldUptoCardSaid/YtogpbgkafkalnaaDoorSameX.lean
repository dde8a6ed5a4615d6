/- R.SameExit: are two exits the same? -/
import Derived.Test.YtogpbgkafkalnaaDoorSameE
import Derived.Test.YtogpbgkafkalnaaDoorKeep
namespace Go.Proofs.YtogpbgkafkalnaaDoor
open Go.RowKit

set_option maxRecDepth 100000 in
set_option maxHeartbeats 2000000 in
theorem same_exit_c (ca cb : List Value) (x y : TExit) (w : World) (hx : ExitR w w.heap.size ca x) (hy : ExitR w w.heap.size cb y) :
    Calls Tryd.prog 16 #[.agg ⟨ca⟩, .agg ⟨cb⟩] w (Gives (.bool (decide (x = y))) w) := by
  obtain ⟨sa, ma, rfl, a1, a2, -⟩ := hx
  obtain ⟨sb, mb, rfl, b1, b2, -⟩ := hy
  obtain ⟨xa, xt, xs, xm⟩ := x
  obtain ⟨ya, yt, ys, ym⟩ := y
  obtain ⟨M, mc, rfl, m1, m2, -⟩ := id a2
  obtain ⟨M', mc', rfl, m1', m2', -⟩ := id b2
  have A1 := Lib.hid a1
  have A2 := Lib.hid a2
  have B1 := Lib.hid b1
  have B2 := Lib.hid b2
  clear a1 a2 b1 b2
  simp only at m1 m1'
  unfold maxLen at m2 m2'
  obtain ⟨r, hr⟩ : ∃ r : Bool, decide ((⟨xa, xt, xs, xm⟩ : TExit) = ⟨ya, yt, ys, ym⟩) = r := ⟨_, rfl⟩
  rw [hr]
  have HE : Hid (∀ b : Bool, (xa = ya ∧ xt = yt ∧ xs = ys → b = decide (xm = ym)) → (¬ (xa = ya ∧ xt = yt ∧ xs = ys) → b = false) → r = b) := by
    intro b h1 h2
    rw [← hr]
    symm
    by_cases h : xa = ya ∧ xt = yt ∧ xs = ys
    · obtain ⟨rfl, rfl, rfl⟩ := h
      rw [h1 ⟨rfl, rfl, rfl⟩]; simp
    · rw [h2 h]
      symm
      rw [decide_eq_false_iff_not]
      intro e
      injection e with e1 e2 e3 e4
      exact h ⟨e1, e2, e3⟩
  clear hr
  by_cases h0 : xa = ya ∧ xt = yt
  case neg =>
    have HN := Lib.hid (HE.out false (fun h => absurd ⟨h.1, h.2.1⟩ h0) (fun _ => rfl))
    have hb : ((xa != ya) || (xt != yt)) = true := by simp; omega
    clear HE
    by_cases h1 : xa = ya
    · have hn : (xt != yt) = true := by simp; omega
      subst h1
      clear h0 hb
      go_enter Tryd.func16, Tryd.ntmps16
      go_wp2_with fail
      go_ret
      exact ⟨by rw [HN.out]; rfl, below_two' w _ _⟩
    · have hn : (xa != ya) = true := by simp; omega
      clear h0 hb h1
      go_enter Tryd.func16, Tryd.ntmps16
      go_wp2_with fail
      go_ret
      exact ⟨by rw [HN.out]; rfl, below_two' w _ _⟩
  obtain ⟨rfl, rfl⟩ := h0
  obtain ⟨w0, hw0⟩ : ∃ w0, w0 = (w.alloc (.cells #[.int .i64 xa, .int .i64 xt, sa, .slice M xm.length mc] 27)).alloc (.cells #[.int .i64 xa, .int .i64 xt, sb, .slice M' ym.length mc'] 27) := ⟨_, rfl⟩
  have k0 : Hid (Below w.heap.size w w0) := by rw [hw0]; exact below_two' w _ _
  have ks : Hid (w.heap.size + 2 = w0.heap.size) := by rw [hw0]; simp [Hid]
  have c0 : Hid (w0.cell? ⟨w.heap.size, 3, none⟩ = some (.slice M xm.length mc)) := by rw [hw0]; exact two_cell0 _ _ _ _ _
  have c1 : Hid (w0.cell? ⟨w.heap.size + 1, 3, none⟩ = some (.slice M' ym.length mc')) := by rw [hw0]; exact two_cell1 _ _ _ _ _
  have HW := Lib.hid hw0
  clear hw0
  go_enter Tryd.func16, Tryd.ntmps16
  go_wp2_with fail
  rw [← HW.out]
  have e1 : SliceR w0 w0.heap.size 2 SetR sa xs := A1.out.keep k0.out.size (fun p hp => k0.out.cell hp) (fun _ _ h => h)
  have e2 : SliceR w0 w0.heap.size 2 SetR sb ys := B1.out.keep k0.out.size (fun p hp => k0.out.cell hp) (fun _ _ h => h)
  refine (eq_sets_c sa sb xs ys _ w0 e1 e2 (Nat.le_refl _)).mono ?_
  clear e1 e2
  rintro e w1 ⟨rfl, b1⟩
  have K1 := Lib.hid b1
  clear b1
  have d0 : w1.cell? ⟨w.heap.size, 3, none⟩ = some (.slice M xm.length mc) := cell_on K1.out c0.out
  have d1 : w1.cell? ⟨w.heap.size + 1, 3, none⟩ = some (.slice M' ym.length mc') := cell_on K1.out c1.out
  by_cases hs : xs = ys
  case neg =>
    have HN := Lib.hid (HE.out false (fun h => absurd h.2.2 hs) (fun _ => rfl))
    have hd : decide (xs = ys) = false := by simpa using hs
    rw [hd]
    clear hs hd
    go_wp2_with fail
    go_ret
    exact ⟨by rw [HN.out]; rfl, Below.then k0.out K1.out k0.out.size⟩
  have hd : decide (xs = ys) = true := by simpa using hs
  rw [hd]
  have HS := Lib.hid hs
  clear hs hd
  by_cases hl : xm.length = ym.length
  case neg =>
    have HN := Lib.hid (HE.out false (fun _ => by symm; rw [decide_eq_false_iff_not]; intro e; rw [e] at hl; exact hl rfl) (fun _ => rfl))
    have hn : ((xm.length : Int) != (ym.length : Int)) = true := by simp; omega
    clear hl
    go_wp2_with fail
    go_ret
    exact ⟨by rw [HN.out]; rfl, Below.then k0.out K1.out k0.out.size⟩
  have hl1 : xm.length ≤ ym.length := by omega
  have hl2 : ym.length ≤ xm.length := by omega
  have hn : ((xm.length : Int) != (ym.length : Int)) = false := by simp; omega
  clear hl
  go_wp2_with fail
  go_loopw [38] (fun k wr => ∃ kn : Nat, k = .int .i64 kn ∧ kn ≤ xm.length ∧ Hid (xm.take kn = ym.take kn) ∧ Hid (Below w0.heap.size w0 wr)) (fun k _ => xm.length - (intOf k).toNat)
  case atStart => exact ⟨0, rfl, by omega, Lib.hid rfl, K1⟩
  case round =>
    obtain ⟨kn, rfl, hk, he, KW⟩ := hrel
    clear d0 d1
    by_cases hlt : kn < xm.length
    · obtain ⟨b, off, p, cs, rfl, hb, hx0, hcl, hR, hat⟩ := A2.out.at_ hlt
      obtain ⟨b', off', q, cs', rfl, hb', hy0, hcl', hR', hat'⟩ := B2.out.at_ (i := kn) (by omega)
      have KA : ∀ E : Up wr, Below w.heap.size w E.to := fun E => Below.then k0.out (below_to KW.out E) k0.out.size
      have SM : Hid (∀ E : Up wr, Calls Tryd.prog 21 #[.agg ⟨cs⟩, .agg ⟨cs'⟩] E.to fun e w' => e = .returned (.bool (decide (p = q))) ∧ Below E.to.heap.size E.to w') := fun E =>
        same_make_c cs cs' p q E.to (hR.keep (KA E).size (fun _ h => (KA E).cell h)) (hR'.keep (KA E).size (fun _ h => (KA E).cell h))
      obtain ⟨pv, rfl, -⟩ := hR
      obtain ⟨qv, rfl, -⟩ := hR'
      have f0 : ∀ E : Up wr, E.to.cell? ⟨w.heap.size, 3, none⟩ = some (.slice (some ⟨b, off, none⟩) xm.length mc) := fun E => cell_to KW.out E c0.out
      have f1 : ∀ E : Up wr, E.to.cell? ⟨w.heap.size + 1, 3, none⟩ = some (.slice (some ⟨b', off', none⟩) ym.length mc') := fun E => cell_to KW.out E c1.out
      have g0 : ∀ E : Up wr, E.to.cell? ⟨b, off + kn * 4, none⟩ = some (.int .i64 p.cell) := fun E => ((KA E).cell hb).trans (hat 0 _ rfl)
      have g1 : ∀ E : Up wr, E.to.cell? ⟨b, off + kn * 4 + 1, none⟩ = some (.int .i64 p.kind) := fun E => ((KA E).cell hb).trans (hat 1 _ rfl)
      have g2 : ∀ E : Up wr, E.to.cell? ⟨b, off + kn * 4 + 2, none⟩ = some (.int .i64 p.num) := fun E => ((KA E).cell hb).trans (hat 2 _ rfl)
      have g3 : ∀ E : Up wr, E.to.cell? ⟨b, off + kn * 4 + 3, none⟩ = some pv := fun E => ((KA E).cell hb).trans (hat 3 _ rfl)
      have e0 : ∀ E : Up wr, E.to.cell? ⟨b', off' + kn * 4, none⟩ = some (.int .i64 q.cell) := fun E => ((KA E).cell hb').trans (hat' 0 _ rfl)
      have e1 : ∀ E : Up wr, E.to.cell? ⟨b', off' + kn * 4 + 1, none⟩ = some (.int .i64 q.kind) := fun E => ((KA E).cell hb').trans (hat' 1 _ rfl)
      have e2 : ∀ E : Up wr, E.to.cell? ⟨b', off' + kn * 4 + 2, none⟩ = some (.int .i64 q.num) := fun E => ((KA E).cell hb').trans (hat' 2 _ rfl)
      have e3 : ∀ E : Up wr, E.to.cell? ⟨b', off' + kn * 4 + 3, none⟩ = some qv := fun E => ((KA E).cell hb').trans (hat' 3 _ rfl)
      have HX0 := Lib.hid hx0
      have HY0 := Lib.hid hy0
      have KA' := Lib.hid KA
      have hi1 : (kn : Int) < xm.length := by omega
      have hi2 : (kn : Int) < ym.length := by omega
      clear hx0 hy0 hat hat' hcl hcl' KA
      go_wp2_with fail
      refine wp_region_up (by kernel_rfl) (by kernel_rfl) ?_
      repeat (go_big_quiet_step ((go_at_call 21; exact Calls.up (SM.out _))))
      refine wpQuiet_nil ?_
      rintro _ ⟨E, rfl⟩
      have HB := Lib.hid (below_to KW.out E)
      clear f0 f1 g0 g1 g2 g3 e0 e1 e2 e3
      by_cases hpq : p = q
      · subst hpq
        simp only [decide_true]
        go_wp2_with fail
        go_roundw
        case rel => exact ⟨kn + 1, by go_num, by omega, Lib.hid (by rw [List.take_add_one, List.take_add_one, he.out, HX0.out, HY0.out]), HB⟩
        case measure => simp [intOf]; omega
      · have hd : decide (p = q) = false := by simpa using hpq
        rw [hd]
        have HN := Lib.hid hpq
        clear hpq hd
        go_wp2_with fail
        go_ret
        refine ⟨?_, KA'.out E⟩
        rw [HE.out false (fun _ => ?_) (fun _ => rfl)]
        · rfl
        symm
        rw [decide_eq_false_iff_not]
        intro e
        have h1 := HX0.out
        rw [e, HY0.out] at h1
        injection h1 with h1
        exact HN.out h1.symm
    · go_wp2_with fail
      go_ret
      refine ⟨?_, Below.then k0.out KW.out k0.out.size⟩
      rw [HE.out true (fun _ => ?_) (fun h => absurd ⟨by trivial, by trivial, HS.out⟩ h)]
      · rfl
      have h1 := he.out
      rw [List.take_of_length_le (by omega), List.take_of_length_le (by omega)] at h1
      simp [h1]
end Go.Proofs.YtogpbgkafkalnaaDoor
