/- code.Check: the walk. -/
import Derived.Test.YtmccomeihnaanaaDoorCheck
namespace Go.Proofs.YtmccomeihnaanaaDoor
open Go.RowKit

set_option maxHeartbeats 4000000 in
set_option maxRecDepth 100000 in
theorem codeCheck_c (pcs : List Value) (p : CProg) (w : World) (hp : ProgR w w.heap.size pcs p) (ht : Tab w) : Calls Tryd.prog 34 #[.agg ⟨pcs⟩] w (Gives (.int .i64 (codeCheckM p)) w) := by
  obtain ⟨r, hr⟩ : ∃ r, codeCheckM p = r := ⟨_, rfl⟩
  rw [hr]
  unfold codeCheckM at hr
  have HP := Lib.hid hp
  obtain ⟨A1, n1, A2, n2, A3, n3, hpcs, q1, q2, q3⟩ := hp
  obtain ⟨w0, hw0⟩ : ∃ w0, w0 = w.alloc (.cells ⟨pcs⟩ 26) := ⟨_, rfl⟩
  have k0 : Hid (Below w.heap.size w w0) := by rw [hw0]; exact below_one w _
  have T0 : Hid (Tab w0) := ht.below k0.out
  have hz : w.heap.size < w0.heap.size := by rw [hw0]; simp
  have H0 : Hid (HeadAt w0 w.heap.size pcs) := by rw [hw0]; exact HeadAt.box _ _ _
  have P0 : Hid (ProgR w0 w0.heap.size pcs p) := HP.out.keep k0.out.size (fun _ h => k0.out.cell h)
  have C1 := Lib.hid (large_c pcs p w0 P0.out)
  have l1 : p.fns.length ≤ 9223372036854775807 := len_le q1
  have S1 : Hid (SliceR w w.heap.size 5 (FnR w w.heap.size) (.slice A1 p.fns.length n1) p.fns) := q1
  subst hpcs
  have HW := Lib.hid hw0
  clear q1 q2 q3 hw0 ht
  obtain ⟨q, hq⟩ : ∃ q, largeM p = q := ⟨_, rfl⟩
  rw [hq] at C1 hr
  cases q
  case true =>
    have HR : Hid (2 = r) := by rw [← hr]; rfl
    clear hr hq
    go_enter Tryd.func34, Tryd.ntmps34
    go_wp2_with fail
    rw [← HW.out]
    refine C1.out.mono ?_
    rintro e w' ⟨rfl, k1⟩
    have K := Lib.hid (k0.out.trans (k1.mono k0.out.size))
    clear k1
    go_wp2_with fail
    go_ret
    exact ⟨by rw [← HR.out]; rfl, K.out⟩
  rw [if_neg (by simp)] at hr
  have HL := Lib.hid (large_no hq)
  have C2 : Hid (∀ w1, Below w0.heap.size w0 w1 → Calls Tryd.prog 71 #[.agg #[.slice A1 p.fns.length n1, .slice A2 p.consts.length n2, .slice A3 p.texts.length n3]] w1 (Gives (.bool (tablesM p)) w1)) := fun w1 k1 =>
    tables_c _ p w1 (P0.out.keep k1.size (fun _ h => k1.cell h)) (T0.out.below k1) HL.out.1
  obtain ⟨q, hq2⟩ : ∃ q, tablesM p = q := ⟨_, rfl⟩
  rw [hq2] at C2 hr
  clear hq hq2
  cases q
  case false =>
    have HR : Hid (3 = r) := by rw [← hr]; rfl
    clear hr
    go_enter Tryd.func34, Tryd.ntmps34
    go_wp2_with fail
    rw [← HW.out]
    refine C1.out.mono ?_
    rintro e w1 ⟨rfl, k1⟩
    have a0 : w1.cell? ⟨w.heap.size, 0, none⟩ = some (.slice A1 p.fns.length n1) := cell_on k1 (H0.out 0 _ rfl)
    have a1 : w1.cell? ⟨w.heap.size, 1, none⟩ = some (.slice A2 p.consts.length n2) := cell_on k1 (H0.out 1 _ rfl)
    have a2 : w1.cell? ⟨w.heap.size, 2, none⟩ = some (.slice A3 p.texts.length n3) := cell_on k1 (H0.out 2 _ rfl)
    have K := Lib.hid (k0.out.trans (k1.mono k0.out.size))
    have C3 := Lib.hid (C2.out w1 k1)
    clear k1
    go_wp2_with fail
    refine C3.out.mono ?_
    rintro e w2 ⟨rfl, k2⟩
    have K2 := Lib.hid (K.out.trans (k2.mono K.out.size))
    clear k2 a0 a1 a2
    go_wp2_with fail
    go_ret
    exact ⟨by rw [← HR.out]; rfl, K2.out⟩
  rw [Bool.not_true, Bool.false_or] at hr
  obtain ⟨fl, hfs⟩ : ∃ fl, p.fns = fl := ⟨_, rfl⟩
  cases fl with
  | nil =>
    have hh : headM p = true := by unfold headM; rw [hfs]
    rw [hh] at hr
    have HR : Hid (3 = r) := by rw [← hr]; rfl
    have z1 : p.fns.length = 0 := by rw [hfs]; rfl
    rw [z1] at C2 HW H0
    clear hr hfs hh
    rw [z1]
    go_enter Tryd.func34, Tryd.ntmps34
    go_wp2_with fail
    rw [← HW.out]
    rw [z1] at C1
    refine C1.out.mono ?_
    rintro e w1 ⟨rfl, k1⟩
    have a0 : w1.cell? ⟨w.heap.size, 0, none⟩ = some (.slice A1 (0 : Nat) n1) := cell_on k1 (H0.out 0 _ rfl)
    have a1 : w1.cell? ⟨w.heap.size, 1, none⟩ = some (.slice A2 p.consts.length n2) := cell_on k1 (H0.out 1 _ rfl)
    have a2 : w1.cell? ⟨w.heap.size, 2, none⟩ = some (.slice A3 p.texts.length n3) := cell_on k1 (H0.out 2 _ rfl)
    have K := Lib.hid (k0.out.trans (k1.mono k0.out.size))
    have C3 := Lib.hid (C2.out w1 k1)
    have K1 := Lib.hid k1
    clear k1
    go_wp2_with fail
    refine C3.out.mono ?_
    rintro e w2 ⟨rfl, k2⟩
    have b0 := cell_on k2 a0
    have K2 := Lib.hid (K.out.trans (k2.mono K.out.size))
    clear k2 a0 a1 a2
    go_wp2_with fail
    go_ret
    exact ⟨by rw [← HR.out]; rfl, K2.out⟩
  | cons f fs =>
    have hh : headM p = (decide (f.params ≠ 0) || decide (0 < f.caught.length) || f.gen) := by unfold headM; rw [hfs]
    rw [hh] at hr
    have h0 : p.fns[0]? = some f := by rw [hfs]; rfl
    have hpos : 0 < p.fns.length := by rw [hfs]; simp
    have ipos : (0 : Int) < p.fns.length := by omega
    have z1 : ((p.fns.length : Int) == 0) = false := by rw [beq_eq_false_iff_ne]; omega
    have z2 : ¬ (p.fns.length : Int) = 0 := by omega
    obtain ⟨b, off, x, cs, hA, hb, hx0, hcl, hR, hat⟩ := S1.out.at_ hpos
    rw [h0] at hx0
    injection hx0 with hx0
    subst hx0
    subst hA
    obtain ⟨A4, n4, A5, n5, rfl, q4, q5, v1, v2⟩ := hR
    have l4 := len_le q4
    have hat' := Lib.hid hat
    clear hfs h0 hcl hat q4 q5 hh
    have CF : Hid (∀ w1, Below w0.heap.size w0 w1 → Calls Tryd.prog 72 #[.slice (some ⟨b, off, none⟩) p.fns.length n1, .func (.func 73) #[] #[.pointer (some ⟨w.heap.size, 0, none⟩)]] w1 (Gives (.bool (p.fns.any (fun f => !functionM p f))) w1)) := fun w1 k1 => by
      have P1 := P0.out.keep k1.size (fun _ h => k1.cell h)
      refine containsFunc_fns (FnR w1 w1.heap.size) (fun f => !functionM p f) _ n1 p.fns 73 enters_check1 _ w1 ?_ (fun w4 k4 x cs hx hR => ?_)
      · have k01 := k0.out.trans (k1.mono k0.out.size)
        exact S1.out.keep k01.size (fun _ h => k01.cell h) (fun _ _ h => h.keep k01.size (fun _ h => k01.cell h))
      · exact check1_c _ cs p x w.heap.size w4 (P1.keep k4.size (fun _ h => k4.cell h)) (hR.keep k4.size (fun _ h => k4.cell h)) (HL.out.2 x hx).1 (HL.out.2 x hx).2 ((H0.out.on k1).on k4)
    have D0 : Hid (w.cell? ⟨b, off, none⟩ = some (.int .i64 f.params)) := by have := hat'.out 0 _ rfl; simpa [Hid] using this
    have D2 : Hid (w.cell? ⟨b, off + 2, none⟩ = some (.bool f.gen)) := by have := hat'.out 2 _ rfl; simpa [Hid] using this
    have D3 : Hid (w.cell? ⟨b, off + 3, none⟩ = some (.slice A4 f.caught.length n4)) := by have := hat'.out 3 _ rfl; simpa [Hid] using this
    clear hat'
    by_cases h1 : f.params = 0
    case neg =>
      have h1' : (f.params != 0) = true := by simpa using h1
      have HR : Hid (3 = r) := by rw [← hr, decide_eq_true h1]; rfl
      clear hr
      go_enter Tryd.func34, Tryd.ntmps34
      go_wp2_with fail
      rw [← HW.out]
      refine C1.out.mono ?_
      rintro e w1 ⟨rfl, k1⟩
      have a0 : w1.cell? ⟨w.heap.size, 0, none⟩ = some (.slice (some ⟨b, off, none⟩) p.fns.length n1) := cell_on k1 (H0.out 0 _ rfl)
      have a1 : w1.cell? ⟨w.heap.size, 1, none⟩ = some (.slice A2 p.consts.length n2) := cell_on k1 (H0.out 1 _ rfl)
      have a2 : w1.cell? ⟨w.heap.size, 2, none⟩ = some (.slice A3 p.texts.length n3) := cell_on k1 (H0.out 2 _ rfl)
      have K := Lib.hid (k0.out.trans (k1.mono k0.out.size))
      have C3 := Lib.hid (C2.out w1 k1)
      have K1 := Lib.hid k1
      clear k1
      go_wp2_with fail
      refine C3.out.mono ?_
      rintro e w2 ⟨rfl, k2⟩
      have b0 := cell_on k2 a0
      have K2 := Lib.hid (K.out.trans (k2.mono K.out.size))
      have K3 := Lib.hid (K1.out.trans (k2.mono K1.out.size))
      clear k2 a0 a1 a2
      have c0 : w2.cell? ⟨b, off, none⟩ = some (.int .i64 f.params) := (K2.out.cell hb).trans D0.out
      have c2 : w2.cell? ⟨b, off + 2, none⟩ = some (.bool f.gen) := (K2.out.cell hb).trans D2.out
      have c3 : w2.cell? ⟨b, off + 3, none⟩ = some (.slice A4 f.caught.length n4) := (K2.out.cell hb).trans D3.out
      go_wp2_with fail
      go_ret
      exact ⟨by rw [← HR.out]; rfl, K2.out⟩
    rw [h1] at D0
    rw [decide_eq_false (by simp [h1] : ¬ f.params ≠ 0), Bool.false_or] at hr
    by_cases h2 : 0 < f.caught.length
    case pos =>
      have h2' : (0 : Int) < f.caught.length := by omega
      have HR : Hid (3 = r) := by rw [← hr, decide_eq_true h2]; rfl
      clear hr
      go_enter Tryd.func34, Tryd.ntmps34
      go_wp2_with fail
      rw [← HW.out]
      refine C1.out.mono ?_
      rintro e w1 ⟨rfl, k1⟩
      have a0 : w1.cell? ⟨w.heap.size, 0, none⟩ = some (.slice (some ⟨b, off, none⟩) p.fns.length n1) := cell_on k1 (H0.out 0 _ rfl)
      have a1 : w1.cell? ⟨w.heap.size, 1, none⟩ = some (.slice A2 p.consts.length n2) := cell_on k1 (H0.out 1 _ rfl)
      have a2 : w1.cell? ⟨w.heap.size, 2, none⟩ = some (.slice A3 p.texts.length n3) := cell_on k1 (H0.out 2 _ rfl)
      have K := Lib.hid (k0.out.trans (k1.mono k0.out.size))
      have C3 := Lib.hid (C2.out w1 k1)
      have K1 := Lib.hid k1
      clear k1
      go_wp2_with fail
      refine C3.out.mono ?_
      rintro e w2 ⟨rfl, k2⟩
      have b0 := cell_on k2 a0
      have K2 := Lib.hid (K.out.trans (k2.mono K.out.size))
      have K3 := Lib.hid (K1.out.trans (k2.mono K1.out.size))
      clear k2 a0 a1 a2
      have c0 : w2.cell? ⟨b, off, none⟩ = some (.int .i64 0) := (K2.out.cell hb).trans D0.out
      have c2 : w2.cell? ⟨b, off + 2, none⟩ = some (.bool f.gen) := (K2.out.cell hb).trans D2.out
      have c3 : w2.cell? ⟨b, off + 3, none⟩ = some (.slice A4 f.caught.length n4) := (K2.out.cell hb).trans D3.out
      go_wp2_with fail
      go_ret
      exact ⟨by rw [← HR.out]; rfl, K2.out⟩
    have h2' : decide ((0 : Int) < f.caught.length) = false := decide_eq_false (by omega)
    rw [decide_eq_false h2, Bool.false_or] at hr
    obtain ⟨g, hg⟩ : ∃ g, f.gen = g := ⟨_, rfl⟩
    rw [hg] at hr D2
    cases g
    case true =>
      have HR : Hid (3 = r) := by rw [← hr]; rfl
      clear hr
      go_enter Tryd.func34, Tryd.ntmps34
      go_wp2_with fail
      rw [← HW.out]
      refine C1.out.mono ?_
      rintro e w1 ⟨rfl, k1⟩
      have a0 : w1.cell? ⟨w.heap.size, 0, none⟩ = some (.slice (some ⟨b, off, none⟩) p.fns.length n1) := cell_on k1 (H0.out 0 _ rfl)
      have a1 : w1.cell? ⟨w.heap.size, 1, none⟩ = some (.slice A2 p.consts.length n2) := cell_on k1 (H0.out 1 _ rfl)
      have a2 : w1.cell? ⟨w.heap.size, 2, none⟩ = some (.slice A3 p.texts.length n3) := cell_on k1 (H0.out 2 _ rfl)
      have K := Lib.hid (k0.out.trans (k1.mono k0.out.size))
      have C3 := Lib.hid (C2.out w1 k1)
      have K1 := Lib.hid k1
      clear k1
      go_wp2_with fail
      refine C3.out.mono ?_
      rintro e w2 ⟨rfl, k2⟩
      have b0 := cell_on k2 a0
      have K2 := Lib.hid (K.out.trans (k2.mono K.out.size))
      have K3 := Lib.hid (K1.out.trans (k2.mono K1.out.size))
      clear k2 a0 a1 a2
      have c0 : w2.cell? ⟨b, off, none⟩ = some (.int .i64 0) := (K2.out.cell hb).trans D0.out
      have c2 : w2.cell? ⟨b, off + 2, none⟩ = some (.bool true) := (K2.out.cell hb).trans D2.out
      have c3 : w2.cell? ⟨b, off + 3, none⟩ = some (.slice A4 f.caught.length n4) := (K2.out.cell hb).trans D3.out
      go_wp2_with fail
      go_ret
      exact ⟨by rw [← HR.out]; rfl, K2.out⟩
    rw [if_neg (by simp)] at hr
    clear hg
    obtain ⟨q, hq⟩ : ∃ q, p.fns.any (fun f => !functionM p f) = q := ⟨_, rfl⟩
    rw [hq] at hr CF
    clear hq
    cases q
    case true =>
      have HR : Hid (3 = r) := by rw [← hr]; rfl
      clear hr
      go_enter Tryd.func34, Tryd.ntmps34
      go_wp2_with fail
      rw [← HW.out]
      refine C1.out.mono ?_
      rintro e w1 ⟨rfl, k1⟩
      have a0 : w1.cell? ⟨w.heap.size, 0, none⟩ = some (.slice (some ⟨b, off, none⟩) p.fns.length n1) := cell_on k1 (H0.out 0 _ rfl)
      have a1 : w1.cell? ⟨w.heap.size, 1, none⟩ = some (.slice A2 p.consts.length n2) := cell_on k1 (H0.out 1 _ rfl)
      have a2 : w1.cell? ⟨w.heap.size, 2, none⟩ = some (.slice A3 p.texts.length n3) := cell_on k1 (H0.out 2 _ rfl)
      have K := Lib.hid (k0.out.trans (k1.mono k0.out.size))
      have C3 := Lib.hid (C2.out w1 k1)
      have K1 := Lib.hid k1
      clear k1
      go_wp2_with fail
      refine C3.out.mono ?_
      rintro e w2 ⟨rfl, k2⟩
      have b0 := cell_on k2 a0
      have K2 := Lib.hid (K.out.trans (k2.mono K.out.size))
      have K3 := Lib.hid (K1.out.trans (k2.mono K1.out.size))
      clear k2 a0 a1 a2
      have c0 : w2.cell? ⟨b, off, none⟩ = some (.int .i64 0) := (K2.out.cell hb).trans D0.out
      have c2 : w2.cell? ⟨b, off + 2, none⟩ = some (.bool false) := (K2.out.cell hb).trans D2.out
      have c3 : w2.cell? ⟨b, off + 3, none⟩ = some (.slice A4 f.caught.length n4) := (K2.out.cell hb).trans D3.out
      have CG := Lib.hid (CF.out w2 K3.out)
      go_wp2_with fail
      refine CG.out.mono ?_
      rintro e w3 ⟨rfl, k3⟩
      have K4 := Lib.hid (K2.out.trans (k3.mono K2.out.size))
      clear k3
      go_wp2_with fail
      go_ret
      exact ⟨by rw [← HR.out]; rfl, K4.out⟩
    case false =>
      have HR : Hid (0 = r) := by rw [← hr]; rfl
      clear hr
      go_enter Tryd.func34, Tryd.ntmps34
      go_wp2_with fail
      rw [← HW.out]
      refine C1.out.mono ?_
      rintro e w1 ⟨rfl, k1⟩
      have a0 : w1.cell? ⟨w.heap.size, 0, none⟩ = some (.slice (some ⟨b, off, none⟩) p.fns.length n1) := cell_on k1 (H0.out 0 _ rfl)
      have a1 : w1.cell? ⟨w.heap.size, 1, none⟩ = some (.slice A2 p.consts.length n2) := cell_on k1 (H0.out 1 _ rfl)
      have a2 : w1.cell? ⟨w.heap.size, 2, none⟩ = some (.slice A3 p.texts.length n3) := cell_on k1 (H0.out 2 _ rfl)
      have K := Lib.hid (k0.out.trans (k1.mono k0.out.size))
      have C3 := Lib.hid (C2.out w1 k1)
      have K1 := Lib.hid k1
      clear k1
      go_wp2_with fail
      refine C3.out.mono ?_
      rintro e w2 ⟨rfl, k2⟩
      have b0 := cell_on k2 a0
      have K2 := Lib.hid (K.out.trans (k2.mono K.out.size))
      have K3 := Lib.hid (K1.out.trans (k2.mono K1.out.size))
      clear k2 a0 a1 a2
      have c0 : w2.cell? ⟨b, off, none⟩ = some (.int .i64 0) := (K2.out.cell hb).trans D0.out
      have c2 : w2.cell? ⟨b, off + 2, none⟩ = some (.bool false) := (K2.out.cell hb).trans D2.out
      have c3 : w2.cell? ⟨b, off + 3, none⟩ = some (.slice A4 f.caught.length n4) := (K2.out.cell hb).trans D3.out
      have CG := Lib.hid (CF.out w2 K3.out)
      go_wp2_with fail
      refine CG.out.mono ?_
      rintro e w3 ⟨rfl, k3⟩
      have K4 := Lib.hid (K2.out.trans (k3.mono K2.out.size))
      clear k3
      go_wp2_with fail
      go_ret
      exact ⟨by rw [← HR.out]; rfl, K4.out⟩
end Go.Proofs.YtmccomeihnaanaaDoor
