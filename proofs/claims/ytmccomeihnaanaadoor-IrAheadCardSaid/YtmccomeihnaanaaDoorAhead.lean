/- IrAhead: the walk. -/
import Derived.Test.YtmccomeihnaanaaDoorChkG
import Derived.Test.YtmccomeihnaanaaDoorKindM
namespace Go.Proofs.YtmccomeihnaanaaDoor
open Go.RowKit

theorem infoInsZ : (Tryd.prog.info? 43).map (·.size) = some 8 := by kernel_rfl
set_option maxHeartbeats 4000000 in
set_option maxRecDepth 100000 in
theorem irAhead_walk (pcs ca : List Value) (p : CProg) (t : TTrace) (w : World) (hp : ProgR w w.heap.size pcs p) (ht : TraceR w w.heap.size ca t) (tab : Tab w) :
    Calls Tryd.prog 3 #[.agg ⟨pcs⟩, .agg ⟨ca⟩] w (Gives (.bool true) w) := by
  have HT := Lib.hid ht
  have HIp := Lib.hid hp.size3
  have HIt := Lib.hid ht.size13
  obtain ⟨Ai, ni, p3, qi⟩ := ht.at3
  have li := len_le qi
  have QI := Lib.hid qi
  have P3 := Lib.hid p3
  obtain ⟨w0, hw0⟩ : ∃ w0, w0 = (w.alloc (.cells ⟨pcs⟩ 26)).alloc (.cells ⟨ca⟩ 34) := ⟨_, rfl⟩
  have TB := two_box w pcs ca 26 34
  rw [← hw0] at TB
  obtain ⟨t1, t2, t3⟩ := TB
  have H1 := Lib.hid t1
  have H2 := Lib.hid t2
  have K0 := Lib.hid t3
  have HW := Lib.hid hw0
  have R1 := Lib.hid H1.out.range
  have R2 := Lib.hid H2.out.range
  obtain ⟨ce, hce⟩ : ∃ ce, checkM rightV (codeCheckM p) (p.fns.map fnOf) t = ce := ⟨_, rfl⟩
  have CE := Lib.hid (check_c pcs ca p t w0 (hp.below K0.out) (ht.below K0.out) (tab.below K0.out))
  rw [hce] at CE
  have HCE := Lib.hid hce
  clear hp ht hw0 t1 t2 t3 qi hce p3 tab
  go_enter Tryd.func3, Tryd.ntmps3
  go_wp2_with (first | (refine wpList_load_mid rfl 26 _ rfl w.heap.size 0 rfl pcs _ (by rw [← HW.out]; exact R1.out) Tryd.underlying26 rfl HIp.out ?_) | (refine wpList_load_mid rfl 34 _ rfl (w.heap.size + 1) 0 rfl ca _ (by rw [← HW.out]; exact R2.out) Tryd.underlying34 rfl HIt.out ?_) | fail)
  rw [← HW.out]
  refine CE.out.mono ?_
  rintro e w1 ⟨rfl, k1⟩
  have K1 := Lib.hid (K0.out.trans (k1.mono K0.out.size))
  have G2 := Lib.hid (H2.out.on k1)
  clear k1
  by_cases hc : ce = 0
  case neg =>
    have hc' : (ce != 0) = true := by simpa using hc
    go_wp2_with fail
    refine (irred_c w1).mono ?_
    rintro e w2 ⟨rfl, k2⟩
    have K2 := Lib.hid (K1.out.trans (k2.mono K1.out.size))
    clear k2
    go_wp2_with fail
    go_ret
    exact ⟨rfl, K2.out⟩
  subst hc
  have e3 := G2.out 3 _ P3.out
  have hz : w.heap.size + 1 < w1.heap.size := cell_lt e3
  go_wp2_with fail
  clear e3
  go_loopw [16] (fun i wr => ∃ j : Nat, i = .int .i64 j ∧ j ≤ t.ins.length ∧ Hid (Below w1.heap.size w1 wr)) (fun i _ => t.ins.length - (RowKit.intOf i).toNat)
  case atStart => exact ⟨0, rfl, by omega, Below.refl _ _⟩
  case round =>
    obtain ⟨j, rfl, hj, KW⟩ := hrel
    obtain ⟨wo, hwo⟩ : ∃ wo, wo = wr := ⟨_, rfl⟩
    subst hwo
    have kk := Lib.hid (K1.out.trans (KW.out.mono K1.out.size))
    have F2 := Lib.hid (G2.out.on KW.out)
    have hzr : w.heap.size + 1 < wo.heap.size := Nat.lt_of_lt_of_le hz KW.out.size
    by_cases hlt : j < t.ins.length
    · obtain ⟨b, off, x, rfl, hb, hx, wx, hat⟩ := ins_op QI.out hlt
      have hji : (j : Int) < t.ins.length := by omega
      have e3 := F2.out 3 _ P3.out
      have RX : Hid (wo.rangeAt b (off + j * 8) (insCells x)) := fun a v hv => (kk.out.cell hb).trans (hat a v hv)
      have LX : Hid ((Tryd.prog.info? 43).map (·.size) = some (insCells x).length) := infoInsZ
      have AH := Lib.hid (checkM_ahead HCE.out hx)
      have AC := Lib.hid (asks_c x wx wo)
      clear hat hx wx
      go_wp2_with (refine wpList_load_mid rfl 43 _ rfl b (off + j * 8) rfl (insCells x) _ RX.out Tryd.underlying43 rfl LX.out ?_)
      refine AC.out.mono ?_
      rintro e w2 ⟨v, rfl, hv, k2⟩
      have HV := Lib.hid hv
      obtain ⟨A, cap, rfl, lv, lc, -⟩ := hv
      unfold maxLen at lc
      have K2 := Lib.hid (KW.out.trans (k2.mono KW.out.size))
      clear k2 e3
      go_wp2_with fail
      go_loopw [27] (fun i wr => ∃ m : Nat, i = .int .i64 m ∧ m ≤ (asksM x).length ∧ Hid (Below w2.heap.size w2 wr)) (fun i _ => (asksM x).length - (RowKit.intOf i).toNat)
      case atStart => exact ⟨0, rfl, by omega, Below.refl _ _⟩
      case round =>
        obtain ⟨m, rfl, hm, KX⟩ := hrel
        have KY := Lib.hid (K2.out.trans (KX.out.mono K2.out.size))
        have kz := Lib.hid (K1.out.trans (KY.out.mono K1.out.size))
        by_cases hlm : m < (asksM x).length
        · obtain ⟨b2, off2, y, ys, rfl, hb2, hy, -, ⟨rfl, wy⟩, hat⟩ := HV.out.at_ hlm
          have hmi : (m : Int) < (asksM x).length := by omega
          obtain ⟨a1, a2, a3, a4⟩ := AH.out y (List.mem_of_getElem? hy)
          obtain ⟨k, rfl⟩ := Int.eq_ofNat_of_zero_le a1
          have hk : k < t.ins.length := by omega
          obtain ⟨b3, off3, z, hbz, hb3, hz3, -, hat3⟩ := ins_op QI.out hk
          have hbo : b = b3 ∧ off = off3 := by injection hbz with hbz; injection hbz with h1 h2; exact ⟨h1, h2⟩
          obtain ⟨rfl, rfl⟩ := hbo
          have hop : tellsM z.op = true := by rw [← (insAt_some hz3).2]; exact a4
          have f2 : ∀ E : Up wr, E.to.cell? ⟨b2, off2 + m, none⟩ = some (.int .i64 k) := fun E => E.cell ((KX.out.cell hb2).trans (by simpa using hat 0 _ rfl))
          have f3 : ∀ E : Up wr, E.to.cell? ⟨w.heap.size + 1, 3, none⟩ = some (.slice (some ⟨b, off, none⟩) t.ins.length ni) := fun E => E.cell (cell_on KY.out (G2.out 3 _ P3.out))
          have f4 : ∀ E : Up wr, E.to.cell? ⟨b, off + k * 8, none⟩ = some (.int .i64 z.op) := fun E => E.cell ((kz.out.cell hb3).trans (by have := hat3 0 _ rfl; simpa using this))
          have d1 : decide ((k : Int) < 0) = false := decide_eq_false (by omega)
          have d2 : decide ((j : Int) ≤ (k : Int)) = false := decide_eq_false (by omega)
          have d2n : decide (j ≤ k) = false := decide_eq_false (by omega)
          have d3 : (k : Int) < t.ins.length := by omega
          have TC : Hid (∀ E : Up wr, Calls Tryd.prog 16 #[.int .i64 z.op] E.to (Gives (.bool true) E.to)) := fun E => by rw [← hop]; exact tells_c _ _
          clear hat hat3 hz3 hy a1 a4 hop hbz
          go_wp2_with fail
          refine wp_region_up (by kernel_rfl) (by kernel_rfl) ?_
          repeat (go_big_quiet_step ((go_at_call 16; with_reducible exact Calls.up (TC.out _))))
          refine wpQuiet_nil ?_
          intro w4 hE
          obtain ⟨E, rfl⟩ := hE
          obtain ⟨w4, k4⟩ := E
          have K4 := Lib.hid (KX.out.trans (k4.mono KX.out.size))
          dsimp only
          clear k4 f2 f3 f4
          go_wp2_with fail
          go_roundw
          case rel => exact ⟨m + 1, by go_num, by omega, K4.out⟩
          case measure => simp [RowKit.intOf]; omega
        · have hmi : ¬ (m : Int) < (asksM x).length := by omega
          go_wp2_with fail
          go_roundw
          case rel => exact ⟨j + 1, by go_num, by omega, KY.out⟩
          case measure => simp [RowKit.intOf]; omega
    · have hji : ¬ (j : Int) < t.ins.length := by omega
      go_wp2_with fail
      refine (irred_c wo).mono ?_
      rintro e w2 ⟨rfl, k2⟩
      have K2 := Lib.hid (kk.out.trans (k2.mono kk.out.size))
      clear k2
      go_wp2_with fail
      go_ret
      exact ⟨rfl, K2.out⟩
end Go.Proofs.YtmccomeihnaanaaDoor
