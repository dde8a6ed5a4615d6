/- IrKindLater: the walk. -/
import Derived.Test.YtmccomeihnaanaaDoorChkG
import Derived.Test.YtmccomeihnaanaaDoorKindV
import Derived.Test.YtmccomeihnaanaaDoorRest
import Derived.IntWalk
namespace Go.Proofs.YtmccomeihnaanaaDoor
open Go.RowKit

theorem rightV_bd (k : Val) (h : rightV k = true) : 0 ≤ k.kind ∧ k.kind ≤ 6 := by
  obtain ⟨k, n⟩ := k
  dsimp only
  unfold rightV at h
  dsimp only at h
  by_cases c : 0 ≤ k ∧ k ≤ 6
  · exact c
  · exfalso
    revert h
    repeat (rw [if_neg (by omega)])
    simp
set_option maxHeartbeats 4000000 in
set_option maxRecDepth 100000 in
theorem irKindLater_walk (pcs ca : List Value) (p : CProg) (t : TTrace) (v a0 b0 : Int) (w : World) (hp : ProgR w w.heap.size pcs p) (ht : TraceR w w.heap.size ca t) (hv : wfi v) (ha : wfi a0) (hb : wfi b0) (tab : Tab w) :
    Calls Tryd.prog 4 #[.agg ⟨pcs⟩, .agg ⟨ca⟩, .int .i64 v, .int .i64 a0, .int .i64 b0] w (Gives (.bool true) w) := by
  have HT := Lib.hid ht
  have HIp := Lib.hid hp.size3
  have HIt := Lib.hid ht.size13
  obtain ⟨Ai, ni, p3, qi⟩ := ht.at3
  have P3 := Lib.hid p3
  obtain ⟨w0, hw0⟩ : ∃ w0, w0 = (w.alloc (.cells ⟨pcs⟩ 26)).alloc (.cells ⟨ca⟩ 34) := ⟨_, rfl⟩
  have TB := two_box w pcs ca 26 34
  rw [← hw0] at TB
  obtain ⟨t1, t2, t3⟩ := TB
  have H1 := Lib.hid t1
  have H2 := Lib.hid t2
  have K0 := Lib.hid t3
  have HW := Lib.hid hw0
  have R1 := Lib.hid H1.out.range
  have R2 := Lib.hid H2.out.range
  obtain ⟨ce, hce⟩ : ∃ ce, checkM rightV (codeCheckM p) (p.fns.map fnOf) t = ce := ⟨_, rfl⟩
  have CE := Lib.hid (check_c pcs ca p t w0 (hp.below K0.out) (ht.below K0.out) (tab.below K0.out))
  rw [hce] at CE
  have HCE := Lib.hid hce
  clear hp ht hw0 t1 t2 t3 qi hce p3 tab hv ha hb
  go_enter Tryd.func4, Tryd.ntmps4
  go_wp2_with (first | (refine wpList_load_mid rfl 26 _ rfl w.heap.size 0 rfl pcs _ (by rw [← HW.out]; exact R1.out) Tryd.underlying26 rfl HIp.out ?_) | (refine wpList_load_mid rfl 34 _ rfl (w.heap.size + 1) 0 rfl ca _ (by rw [← HW.out]; exact R2.out) Tryd.underlying34 rfl HIt.out ?_) | fail)
  rw [← HW.out]
  refine CE.out.mono ?_
  rintro e w1 ⟨rfl, k1⟩
  have K1 := Lib.hid (K0.out.trans (k1.mono K0.out.size))
  have G2 := Lib.hid (H2.out.on k1)
  clear k1
  by_cases hc : ce = 0
  case neg =>
    have hc' : (ce != 0) = true := by simpa using hc
    go_wp2_with fail
    refine (irred_c w1).mono ?_
    rintro e w2 ⟨rfl, k2⟩
    have K2 := Lib.hid (K1.out.trans (k2.mono K1.out.size))
    clear k2
    go_wp2_with fail
    go_ret
    exact ⟨rfl, K2.out⟩
  subst hc
  have KF := Lib.hid (rightV_kind rightV rightV_bd HCE.out)
  have hlen := (checkM_ins HCE.out).1
  have hw1 : IntKind.i64.wrap ((t.ins.length : Int) + 1) = (t.ins.length : Int) + 1 := IntWalk.i64_in _ (by omega)
  have e3 : ∀ E : Up w1, E.to.cell? ⟨w.heap.size + 1, 3, none⟩ = some (.slice Ai t.ins.length ni) := fun E => E.cell (G2.out 3 _ P3.out)
  obtain ⟨a1, ha1⟩ : ∃ x, restM a0 ((t.ins.length : Int) + 1) = x := ⟨_, rfl⟩
  obtain ⟨b1, hb1⟩ : ∃ x, restM b0 ((t.ins.length : Int) + 1) = x := ⟨_, rfl⟩
  have bda := restM_bd a0 ((t.ins.length : Int) + 1) (by omega)
  have bdb := restM_bd b0 ((t.ins.length : Int) + 1) (by omega)
  have RA : Hid (∀ E : Up w1, Calls Tryd.prog 17 #[.int .i64 a0, .int .i64 ((t.ins.length : Int) + 1)] E.to (Gives (.int .i64 a1) E.to)) := fun E => by rw [← ha1]; exact rest_c _ _ _ (by omega) (by omega)
  have RB : Hid (∀ E : Up w1, Calls Tryd.prog 17 #[.int .i64 b0, .int .i64 ((t.ins.length : Int) + 1)] E.to (Gives (.int .i64 b1) E.to)) := fun E => by rw [← hb1]; exact rest_c _ _ _ (by omega) (by omega)
  rw [ha1] at bda
  rw [hb1] at bdb
  obtain ⟨a, ha⟩ : ∃ x, min a1 b1 = x := ⟨_, rfl⟩
  obtain ⟨b, hb⟩ : ∃ x, max a1 b1 = x := ⟨_, rfl⟩
  have hab : Hid (0 ≤ a ∧ a ≤ b ∧ b ≤ t.ins.length) := by unfold Hid; omega
  have HA := Lib.hid ha
  have HB := Lib.hid hb
  clear ha1 hb1 bda bdb ha hb
  go_upto_region 3 with fail
  refine wp_region_up (by kernel_rfl) (by kernel_rfl) ?_
  repeat (go_big_quiet_step ((first | (go_at_call 17; with_reducible exact Calls.up (RA.out _)) | (go_at_call 17; with_reducible exact Calls.up (RB.out _)))))
  refine wpQuiet_nil ?_
  intro w2 hE
  obtain ⟨E, rfl⟩ := hE
  obtain ⟨w2, k2⟩ := E
  have K2 := Lib.hid (K1.out.trans (k2.mono K1.out.size))
  have F2 := Lib.hid (G2.out.on k2)
  dsimp only
  clear k2 e3 hw1
  go_upto_region 5 with fail
  rw [HA.out, HB.out]
  clear HA HB RA RB
  obtain ⟨h0, h1, h2⟩ := hab.out
  obtain ⟨k, hk⟩ : ∃ k, kindM t.ins v a = k := ⟨_, rfl⟩
  have bk := kindM_bd KF.out v a
  rw [hk] at bk
  have KC := Lib.hid (kind_c ca t (v.toNat + 1) v a w2 (by omega) (HT.out.below K2.out) (by omega) (by omega))
  rw [hk] at KC
  have HK := Lib.hid hk
  clear hk
  go_wp2_with (refine wpList_load_mid rfl 34 _ rfl (w.heap.size + 1) 0 rfl ca _ F2.out.range Tryd.underlying34 rfl HIt.out ?_)
  refine KC.out.mono ?_
  rintro e w3 ⟨rfl, k3⟩
  have K3 := Lib.hid (K2.out.trans (k3.mono K2.out.size))
  have F3 := Lib.hid (F2.out.on k3)
  clear k3
  go_wp2_with fail
  refine (irred_c w3).mono ?_
  rintro e w4 ⟨rfl, k4⟩
  have K4 := Lib.hid (K3.out.trans (k4.mono K3.out.size))
  have F4 := Lib.hid (F3.out.on k4)
  clear k4
  have d1 : decide (-1 ≤ k) = true := decide_eq_true bk.1
  have d2 : decide (k ≤ 6) = true := decide_eq_true bk.2
  obtain ⟨bk1, bk2⟩ := bk
  by_cases c : k < 0
  · have d3 : decide (k < 0) = true := decide_eq_true c
    go_wp2_with fail
    go_ret
    exact ⟨rfl, K4.out⟩
  · have d3 : decide (k < 0) = false := decide_eq_false c
    have KD := Lib.hid (kind_c ca t (v.toNat + 1) v b w4 (by omega) (HT.out.below K4.out) (by omega) (by omega))
    rw [kindM_later (a := a) (b := b) h1 h2 (by rw [HK.out]; omega), HK.out] at KD
    go_wp2_with (refine wpList_load_on 34 _ rfl rfl (w.heap.size + 1) 0 rfl ca _ F4.out.range Tryd.underlying34 rfl HIt.out ?_)
    refine KD.out.mono ?_
    rintro e w5 ⟨rfl, k5⟩
    have K5 := Lib.hid (K4.out.trans (k5.mono K4.out.size))
    clear k5
    go_wp2_with fail
    go_ret
    exact ⟨rfl, K5.out⟩
end Go.Proofs.YtmccomeihnaanaaDoor
