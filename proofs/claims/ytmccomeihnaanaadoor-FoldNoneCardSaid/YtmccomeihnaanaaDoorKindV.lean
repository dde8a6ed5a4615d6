/- ir.Kind: the walk. -/
import Derived.Test.YtmccomeihnaanaaDoorKindN
namespace Go.Proofs.YtmccomeihnaanaaDoor
open Go.RowKit

theorem guardM_skip {v : Int} {x : TIns} {l : List TIns} (h : x.a ≠ v) : guardM v (x :: l) = guardM v l := by simp only [guardM]; rw [if_pos h]
theorem kindM_out {ins : List TIns} {v at_ : Int} (h : v < 0 ∨ at_ ≤ v ∨ (ins.length : Int) < at_) : kindM ins v at_ = -1 := by
  rw [kindM_eq, if_pos]
  rcases h with h | h | h
  · exact .inl h
  · exact .inr (.inl h)
  · exact .inr (.inr (.inl h))
set_option maxHeartbeats 2000000 in
set_option maxRecDepth 100000 in
theorem kind_base (ca : List Value) (t : TTrace) (v at_ : Int) (w : World) (h : TraceR w w.heap.size ca t) (a1 : -9223372036854775808 ≤ at_) (a2 : at_ ≤ 9223372036854775807) (hb : v < 0 ∨ at_ ≤ v ∨ (t.ins.length : Int) < at_) :
    Calls Tryd.prog 18 #[.agg ⟨ca⟩, .int .i64 v, .int .i64 at_] w (Gives (.int .i64 (-1)) w) := by
  obtain ⟨Ai, ni, p3, q⟩ := h.at3
  have ll := len_le q
  clear h q
  by_cases v0 : v < 0
  · clear hb
    go_enter Tryd.func18, Tryd.ntmps18
    go_wp2_with fail
    go_ret
    exact ⟨rfl, below_one w _⟩
  by_cases v1 : at_ ≤ v
  · clear hb
    go_enter Tryd.func18, Tryd.ntmps18
    go_wp2_with fail
    go_ret
    exact ⟨rfl, below_one w _⟩
  have v2 : (t.ins.length : Int) < at_ := by omega
  clear hb
  go_enter Tryd.func18, Tryd.ntmps18
  go_wp2_with fail
  go_ret
  exact ⟨rfl, below_one w _⟩

set_option maxHeartbeats 2000000 in
set_option maxRecDepth 100000 in
theorem kind_c (ca : List Value) (t : TTrace) : ∀ (n : Nat) (v at_ : Int) (w : World), v < n → TraceR w w.heap.size ca t → -9223372036854775808 ≤ at_ → at_ ≤ 9223372036854775807 →
    Calls Tryd.prog 18 #[.agg ⟨ca⟩, .int .i64 v, .int .i64 at_] w (Gives (.int .i64 (kindM t.ins v at_)) w) := by
  intro n
  induction n with
  | zero =>
    intro v at_ w hv h a1 a2
    rw [kindM_out (.inl (by omega))]
    exact kind_base ca t v at_ w h a1 a2 (.inl (by omega))
  | succ n ih =>
    intro v at_ w hv h a1 a2
    by_cases hbase : v < 0 ∨ at_ ≤ v ∨ (t.ins.length : Int) < at_
    · rw [kindM_out hbase]
      exact kind_base ca t v at_ w h a1 a2 hbase
    obtain ⟨r, hr⟩ : ∃ r, kindM t.ins v at_ = r := ⟨_, rfl⟩
    rw [hr]
    rw [kindM_eq] at hr
    have HI := Lib.hid h.size13
    obtain ⟨Ai, ni, p3, q⟩ := h.at3
    have ll := len_le q
    have HQ := Lib.hid q
    obtain ⟨k, rfl⟩ := Int.eq_ofNat_of_zero_le (show 0 ≤ v by omega)
    obtain ⟨m, rfl⟩ := Int.eq_ofNat_of_zero_le (show 0 ≤ at_ by omega)
    have hkm : k < m := by omega
    have hm : m ≤ t.ins.length := by omega
    obtain ⟨b, off, x, rfl, hb, hx, wx, hat⟩ := ins_op q (i := k) (by omega)
    obtain ⟨e1, e2⟩ := insAt_some hx
    rw [e1, e2] at hr
    have K0 : Hid (Below w.heap.size w (w.alloc (.cells ⟨ca⟩ 34))) := below_one w _
    have H0 : Hid (HeadAt (w.alloc (.cells ⟨ca⟩ 34)) w.heap.size ca) := HeadAt.box w ca _
    have g0 := (ins_at hat hb K0.out).1
    have hz : w.heap.size < (w.alloc (.cells ⟨ca⟩ 34)).heap.size := by simp
    have HH := Lib.hid h
    have HO : Hid (∀ W, Below w.heap.size w W → Calls Tryd.prog 40 #[.agg ⟨ca⟩, .int .i64 k] W (Gives (.int .i64 (ownM (kindM t.ins · k) x)) W)) := fun W kW => by
      refine own_c ca t k x W (h.below kW) hx (fun w1 k1 => ?_)
      rcases Int.lt_or_le x.a k with c | c
      · exact ih x.a k w1 (by omega) (h.below (kW.trans (k1.mono kW.size))) (by omega) (by omega)
      · rw [kindM_out (.inr (.inl c))]
        exact kind_base ca t x.a k w1 (h.below (kW.trans (k1.mono kW.size))) (by omega) (by omega) (.inr (.inl c))
    have hr2 : (if tellsM x.op = false then (-1 : Int) else if 0 ≤ ownM (kindM t.ins · k) x then ownM (kindM t.ins · k) x else guardM k ((t.ins.take m).drop (k + 1))) = r := by
      rw [← hr]
      by_cases c : tellsM x.op = false
      · rw [if_pos c]
        exact (if_pos (.inr (.inr (.inr c)))).symm
      · rw [if_neg c]
        refine Eq.trans ?_ (if_neg ?_).symm
        · rfl
        · rintro (c1 | c1 | c1 | c1)
          · omega
          · omega
          · omega
          · exact c c1
    obtain ⟨k0, hk0⟩ : ∃ k0, ownM (kindM t.ins · k) x = k0 := ⟨_, rfl⟩
    simp only [hk0] at hr2 HO
    obtain ⟨tl, htl⟩ : ∃ tl, tellsM x.op = tl := ⟨_, rfl⟩
    have TC := Lib.hid (tells_c x.op (w.alloc (.cells ⟨ca⟩ 34)))
    simp only [htl] at hr2 TC
    have hkm' : (k : Int) < m := by omega
    have hm' : (m : Int) ≤ t.ins.length := by omega
    clear hr hk0 htl h q hat hx e1 e2 ih hv hbase
    go_enter Tryd.func18, Tryd.ntmps18
    go_wp2_with fail
    refine TC.out.mono ?_
    rintro e w1 ⟨rfl, k1⟩
    have K1 := Lib.hid (K0.out.trans (k1.mono K0.out.size))
    have H1 := Lib.hid (H0.out.on k1)
    have hz1 : w.heap.size < w1.heap.size := Nat.lt_of_lt_of_le hz k1.size
    clear k1
    cases tl
    · rw [if_pos rfl] at hr2
      have HR := Lib.hid hr2
      clear hr2
      go_wp2_with fail
      go_ret
      exact ⟨by rw [← HR.out]; rfl, K1.out⟩
    rw [if_neg (by simp)] at hr2
    go_wp2_with (refine wpList_load_mid rfl 34 _ rfl w.heap.size 0 rfl ca _ H1.out.range Tryd.underlying34 rfl HI.out ?_)
    refine (HO.out w1 K1.out).mono ?_
    rintro e w2 ⟨rfl, k2⟩
    have K2 := Lib.hid (K1.out.trans (k2.mono K1.out.size))
    have H2 := Lib.hid (H1.out.on k2)
    have hz2 : w.heap.size < w2.heap.size := Nat.lt_of_lt_of_le hz1 k2.size
    clear k2
    by_cases hk0 : 0 ≤ k0
    · rw [if_pos hk0] at hr2
      have HR := Lib.hid hr2
      clear hr2
      go_wp2_with fail
      go_ret
      exact ⟨by rw [← HR.out]; rfl, K2.out⟩
    rw [if_neg hk0] at hr2
    have HR := Lib.hid hr2
    clear hr2
    go_wp2_with fail
    go_loopw [8] (fun i wr => ∃ j : Nat, i = .int .i64 j ∧ k + 1 ≤ j ∧ j ≤ m ∧ Hid (guardM k ((t.ins.take m).drop j) = r) ∧ Hid (Below w2.heap.size w2 wr)) (fun i _ => m - (RowKit.intOf i).toNat)
    case atStart => exact ⟨k + 1, by go_num, by omega, by omega, HR.out, Below.refl _ _⟩
    case round =>
      obtain ⟨j, rfl, j1, j2, KP, KW⟩ := hrel
      have d3 : wr.cell? ⟨w.heap.size, 3, none⟩ = some (.slice (some ⟨b, off, none⟩) t.ins.length ni) := cell_on KW.out (H2.out 3 _ p3)
      have kk := Lib.hid (K2.out.trans (KW.out.mono K2.out.size))
      by_cases hlt : j < m
      · obtain ⟨b', off', y, hbo, hb', hy, wy, hat⟩ := ins_op HQ.out (i := j) (by omega)
        have hbo2 : b = b' ∧ off = off' := by injection hbo with hbo; injection hbo with h1 h2; exact ⟨h1, h2⟩
        obtain ⟨rfl, rfl⟩ := hbo2
        obtain ⟨g0, g1, g2, g3, g4, g5, g6, g7⟩ := ins_at hat hb kk.out
        have hj : (j : Int) < t.ins.length := by omega
        have hjm : (j : Int) < m := by omega
        have hd : (t.ins.take m).drop j = y :: (t.ins.take m).drop (j + 1) := drop_at (by rw [List.getElem?_take, if_pos hlt]; exact hy)
        have e := KP.out
        rw [hd] at e
        have hzr : w2.heap.size ≤ wr.heap.size := KW.out.size
        have KW3 : Hid (Below w2.heap.size w2 (wr.alloc (.cells ⟨insCells y⟩ 43))) := KW.out.alloc KW.out.size _
        obtain ⟨op, ya, yb, yc, yn, ye, ⟨yk, ykn⟩⟩ := y
        dsimp only [guardM] at e g0 g1 g2 g3 g4 g5 g6 g7
        clear hat hy hd hbo
        by_cases c1 : ya = k
        case neg =>
          have c1' : (ya != (k : Int)) = true := by simpa using c1
          rw [if_pos c1] at e
          have E := Lib.hid e
          clear e
          go_wp2_with fail
          go_roundw
          case rel => exact ⟨j + 1, by go_num, by omega, by omega, E.out, KW3.out⟩
          case measure => simp [RowKit.intOf]; omega
        rw [if_neg (by omega)] at e
        subst c1
        by_cases c4 : op = 4
        · rw [if_pos c4] at e
          have E := Lib.hid e
          subst c4
          clear e
          go_wp2_with fail
          go_ret
          exact ⟨by rw [← E.out]; rfl, K2.out.trans (KW3.out.mono K2.out.size)⟩
        rw [if_neg c4] at e
        have c4' : (op == 4) = false := beq_eq_false_iff_ne.2 c4
        by_cases c6 : op = 6
        · rw [if_pos c6] at e
          have E := Lib.hid e
          subst c6
          clear e c4'
          go_wp2_with fail
          go_ret
          exact ⟨by rw [← E.out]; rfl, K2.out.trans (KW3.out.mono K2.out.size)⟩
        rw [if_neg c6] at e
        have c6' : (op == 6) = false := beq_eq_false_iff_ne.2 c6
        by_cases c9 : op = 9
        · rw [if_pos c9] at e
          have E := Lib.hid e
          subst c9
          clear e c4' c6'
          go_wp2_with fail
          go_ret
          exact ⟨by rw [← E.out]; rfl, K2.out.trans (KW3.out.mono K2.out.size)⟩
        rw [if_neg c9] at e
        have c9' : (op == 9) = false := beq_eq_false_iff_ne.2 c9
        have E := Lib.hid e
        clear e
        go_wp2_with fail
        go_roundw
        case rel => exact ⟨j + 1, by go_num, by omega, by omega, E.out, KW3.out⟩
        case measure => simp [RowKit.intOf]; omega
      · have hj : (t.ins.take m).drop j = [] := List.drop_eq_nil_of_le (by rw [List.length_take]; omega)
        have e := KP.out
        rw [hj] at e
        have E := Lib.hid e
        have hjm : ¬ (j : Int) < m := by omega
        clear e hj
        go_wp2_with fail
        go_ret
        exact ⟨by rw [← E.out]; rfl, kk.out⟩
end Go.Proofs.YtmccomeihnaanaaDoor
