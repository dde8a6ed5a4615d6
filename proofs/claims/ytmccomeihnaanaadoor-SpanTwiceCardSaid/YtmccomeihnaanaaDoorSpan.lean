/- SpanLater: the walk. -/
import Derived.Test.YtmccomeihnaanaaDoorChkG
import Derived.Test.YtmccomeihnaanaaDoorSpanH
import Derived.Test.YtmccomeihnaanaaDoorRest
import Derived.IntWalk
namespace Go.Proofs.YtmccomeihnaanaaDoor
open Go.RowKit Go.Maps

theorem rightV_int {k : Val} (h : rightV k = true) (h2 : k.kind = 2) : -2147483648 ≤ k.n ∧ k.n ≤ 2147483647 := by
  unfold rightV at h
  rw [if_neg (by omega), if_neg (by omega), if_pos h2] at h
  simp only [Bool.and_eq_true, decide_eq_true_eq] at h
  exact h
theorem const_ok {p : CProg} {t : TTrace} (h : checkM rightV (codeCheckM p) (p.fns.map fnOf) t = 0) : ConstOk t.ins := by
  intro x hx hop hk
  obtain ⟨i, hi⟩ := List.getElem?_of_mem hx
  obtain ⟨_, fn, h1⟩ := checkM_ins h
  obtain ⟨_, h2⟩ := insM_formed t.ins 0 h1 i x hi
  simp only [formedM, Bool.and_eq_true] at h2
  have h3 := h2.1.2
  have hf : (formM x.op).k = true := by rw [hop]; rfl
  refine rightV_int ?_ hk
  cases hr : rightV x.k with
  | true => rfl
  | false => simp [hf, hr] at h3
theorem fine_ok {p : CProg} {t : TTrace} (h : checkM rightV (codeCheckM p) (p.fns.map fnOf) t = 0) : FineM t.ins := fun k y hy u hu => by
  have := checkM_ahead h hy u hu
  exact ⟨this.1, this.2.1⟩
theorem of_later {ins : List TIns} (hc : ConstOk ins) {v a b : Int} (h0 : 0 ≤ v) (h1 : v < a) (h2 : a ≤ b) : (ofM ins v a).1 ≤ (ofM ins v b).1 ∧ (ofM ins v b).1 ≤ (ofM ins v b).2 ∧ (ofM ins v b).2 ≤ (ofM ins v a).2 := by
  unfold ofM
  split
  · exact span_later hc h0 h1 h2
  · exact ⟨Int.le_refl _, Int.le_refl _, Int.le_refl _⟩
set_option maxHeartbeats 4000000 in
set_option maxRecDepth 100000 in
theorem spanLater_walk (pcs ca : List Value) (p : CProg) (t : TTrace) (v a0 b0 : Int) (w : World) (hp : ProgR w w.heap.size pcs p) (ht : TraceR w w.heap.size ca t) (hv : wfi v) (ha : wfi a0) (hb : wfi b0) (tab : Tab w) :
    Calls Tryd.prog 9 #[.agg ⟨pcs⟩, .agg ⟨ca⟩, .int .i64 v, .int .i64 a0, .int .i64 b0] w (Gives (.bool true) w) := by
  have HT := Lib.hid ht
  have HIp := Lib.hid hp.size3
  have HIt := Lib.hid ht.size13
  obtain ⟨Ai, ni, p3, qi⟩ := ht.at3
  have P3 := Lib.hid p3
  obtain ⟨w0, hw0⟩ : ∃ w0, w0 = (w.alloc (.cells ⟨pcs⟩ 26)).alloc (.cells ⟨ca⟩ 34) := ⟨_, rfl⟩
  have TB := two_box w pcs ca 26 34
  rw [← hw0] at TB
  obtain ⟨t1, t2, t3⟩ := TB
  have H1 := Lib.hid t1
  have H2 := Lib.hid t2
  have K0 := Lib.hid t3
  have HW := Lib.hid hw0
  have R1 := Lib.hid H1.out.range
  have R2 := Lib.hid H2.out.range
  obtain ⟨ce, hce⟩ : ∃ ce, checkM rightV (codeCheckM p) (p.fns.map fnOf) t = ce := ⟨_, rfl⟩
  have CE := Lib.hid (check_c pcs ca p t w0 (hp.below K0.out) (ht.below K0.out) (tab.below K0.out))
  rw [hce] at CE
  have HCE := Lib.hid hce
  clear hp ht hw0 t1 t2 t3 qi hce p3 tab hv ha hb
  go_enter Tryd.func9, Tryd.ntmps9
  go_wp2_with (first | (refine wpList_load_mid rfl 26 _ rfl w.heap.size 0 rfl pcs _ (by rw [← HW.out]; exact R1.out) Tryd.underlying26 rfl HIp.out ?_) | (refine wpList_load_mid rfl 34 _ rfl (w.heap.size + 1) 0 rfl ca _ (by rw [← HW.out]; exact R2.out) Tryd.underlying34 rfl HIt.out ?_) | fail)
  rw [← HW.out]
  refine CE.out.mono ?_
  rintro e w1 ⟨rfl, k1⟩
  have K1 := Lib.hid (K0.out.trans (k1.mono K0.out.size))
  have G2 := Lib.hid (H2.out.on k1)
  clear k1
  by_cases hc : ce = 0
  case neg =>
    have hc' : (ce != 0) = true := by simpa using hc
    go_wp2_with fail
    refine (irred_c w1).mono ?_
    rintro e w2 ⟨rfl, k2⟩
    have K2 := Lib.hid (K1.out.trans (k2.mono K1.out.size))
    clear k2
    go_wp2_with fail
    go_ret
    exact ⟨rfl, K2.out⟩
  subst hc
  have HCO := Lib.hid (const_ok HCE.out)
  have HFI := Lib.hid (fine_ok HCE.out)
  have hlen := (checkM_ins HCE.out).1
  have hw1 : IntKind.i64.wrap ((t.ins.length : Int) + 1) = (t.ins.length : Int) + 1 := IntWalk.i64_in _ (by omega)
  have e3 : ∀ E : Up w1, E.to.cell? ⟨w.heap.size + 1, 3, none⟩ = some (.slice Ai t.ins.length ni) := fun E => E.cell (G2.out 3 _ P3.out)
  obtain ⟨a1, ha1⟩ : ∃ x, restM a0 ((t.ins.length : Int) + 1) = x := ⟨_, rfl⟩
  obtain ⟨b1, hb1⟩ : ∃ x, restM b0 ((t.ins.length : Int) + 1) = x := ⟨_, rfl⟩
  have bda := restM_bd a0 ((t.ins.length : Int) + 1) (by omega)
  have bdb := restM_bd b0 ((t.ins.length : Int) + 1) (by omega)
  have RA : Hid (∀ E : Up w1, Calls Tryd.prog 17 #[.int .i64 a0, .int .i64 ((t.ins.length : Int) + 1)] E.to (Gives (.int .i64 a1) E.to)) := fun E => by rw [← ha1]; exact rest_c _ _ _ (by omega) (by omega)
  have RB : Hid (∀ E : Up w1, Calls Tryd.prog 17 #[.int .i64 b0, .int .i64 ((t.ins.length : Int) + 1)] E.to (Gives (.int .i64 b1) E.to)) := fun E => by rw [← hb1]; exact rest_c _ _ _ (by omega) (by omega)
  rw [ha1] at bda
  rw [hb1] at bdb
  obtain ⟨a, ha⟩ : ∃ x, min a1 b1 = x := ⟨_, rfl⟩
  obtain ⟨b, hb⟩ : ∃ x, max a1 b1 = x := ⟨_, rfl⟩
  have hab : Hid (0 ≤ a ∧ a ≤ b ∧ b ≤ t.ins.length) := by unfold Hid; omega
  have HA := Lib.hid ha
  have HB := Lib.hid hb
  clear ha1 hb1 bda bdb ha hb
  go_upto_region 3 with fail
  refine wp_region_up (by kernel_rfl) (by kernel_rfl) ?_
  repeat (go_big_quiet_step ((first | (go_at_call 17; with_reducible exact Calls.up (RA.out _)) | (go_at_call 17; with_reducible exact Calls.up (RB.out _)))))
  refine wpQuiet_nil ?_
  intro w2 hE
  obtain ⟨E, rfl⟩ := hE
  obtain ⟨w2, k2⟩ := E
  have K2 := Lib.hid (K1.out.trans (k2.mono K1.out.size))
  have F2 := Lib.hid (G2.out.on k2)
  dsimp only
  clear k2 e3 hw1
  go_upto_region 5 with fail
  rw [HA.out, HB.out]
  clear HA HB RA RB
  obtain ⟨h0, h1, h2⟩ := hab.out
  by_cases hvn : v < 0
  · go_wp2_with fail
    refine (irred_c w2).mono ?_
    rintro e w4 ⟨rfl, k4⟩
    have K4 := Lib.hid (K2.out.trans (k4.mono K2.out.size))
    clear k4
    go_wp2_with fail
    go_ret
    exact ⟨rfl, K4.out⟩
  by_cases hva : a ≤ v
  · go_wp2_with fail
    refine (irred_c w2).mono ?_
    rintro e w4 ⟨rfl, k4⟩
    have K4 := Lib.hid (K2.out.trans (k4.mono K2.out.size))
    clear k4
    go_wp2_with fail
    go_ret
    exact ⟨rfl, K4.out⟩
  obtain ⟨n, hn⟩ := Int.eq_ofNat_of_zero_le (show 0 ≤ v by omega)
  obtain ⟨k, hk⟩ := Int.eq_ofNat_of_zero_le h0
  obtain ⟨m, hm⟩ := Int.eq_ofNat_of_zero_le (show 0 ≤ b by omega)
  have LT := of_later (v := v) (a := a) (b := b) HCO.out (by omega) (by omega) h1
  subst hn; subst hk; subst hm
  obtain ⟨⟨x, y⟩, hxy⟩ : ∃ r, ofM t.ins n k = r := ⟨_, rfl⟩
  obtain ⟨⟨z, u⟩, hzu⟩ : ∃ r, ofM t.ins n m = r := ⟨_, rfl⟩
  rw [hxy, hzu] at LT
  dsimp only at LT
  obtain ⟨LT1, LT2, LT3⟩ := LT
  have KC := spanOf_c ca t n k w2 (HT.out.below K2.out) HCO.out hlen HFI.out (by omega) (by omega)
  rw [hxy] at KC
  have HKC := Lib.hid KC
  have HZU := Lib.hid hzu
  clear KC hxy hzu
  go_wp2_with (refine wpList_load_mid rfl 34 _ rfl (w.heap.size + 1) 0 rfl ca _ F2.out.range Tryd.underlying34 rfl HIt.out ?_)
  refine HKC.out.mono ?_
  rintro e w3 ⟨rfl, k3⟩
  have K3 := Lib.hid (K2.out.trans (k3.mono K2.out.size))
  have F3 := Lib.hid (F2.out.on k3)
  have KD := spanOf_c ca t n m w3 (HT.out.below K3.out) HCO.out hlen HFI.out (by omega) (by omega)
  rw [HZU.out] at KD
  have HKD := Lib.hid KD
  clear k3 KD HKC
  go_wp2_with (refine wpList_load_mid rfl 34 _ rfl (w.heap.size + 1) 0 rfl ca _ F3.out.range Tryd.underlying34 rfl HIt.out ?_)
  refine HKD.out.mono ?_
  rintro e w4 ⟨rfl, k4⟩
  have K4 := Lib.hid (K3.out.trans (k4.mono K3.out.size))
  clear k4 HKD
  go_wp2_with fail
  refine (irred_c w4).mono ?_
  rintro e w5 ⟨rfl, k5⟩
  have K5 := Lib.hid (K4.out.trans (k5.mono K4.out.size))
  clear k5
  have d1 : decide (x ≤ z) = true := decide_eq_true LT1
  have d2 : decide (z ≤ u) = true := decide_eq_true LT2
  have d3 : decide (u ≤ y) = true := decide_eq_true LT3
  go_wp2_with fail
  go_ret
  exact ⟨rfl, K5.out⟩
end Go.Proofs.YtmccomeihnaanaaDoor
