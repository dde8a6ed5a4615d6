/- ir.own and ir.Kind: the walk. -/
import Derived.Test.YtmccomeihnaanaaDoorKindM
import Derived.Test.YtmccomeihnaanaaDoorChkE
namespace Go.Proofs.YtmccomeihnaanaaDoor
open Go.RowKit

theorem infoTrace : (Tryd.prog.info? 34).map (·.size) = some 13 := by kernel_rfl
theorem TraceR.size13 {w : World} {B : Nat} {cs : List Value} {t : TTrace} (h : TraceR w B cs t) : (Tryd.prog.info? 34).map (·.size) = some cs.length := by
  obtain ⟨i, e, ct, cb, rfl, -, -, ⟨_, _, rfl, -⟩, ⟨_, _, rfl, -⟩, -⟩ := h
  exact infoTrace
theorem TraceR.at3 {w : World} {B : Nat} {cs : List Value} {t : TTrace} (h : TraceR w B cs t) : ∃ Ai ni, cs[3]? = some (.slice Ai t.ins.length ni) ∧ SliceR w B 8 InsR (.slice Ai t.ins.length ni) t.ins := by
  obtain ⟨i, e, ct, cb, rfl, hi, -, ⟨_, _, rfl, -⟩, ⟨_, _, rfl, -⟩, -⟩ := h
  obtain ⟨Ai, ni, rfl, -⟩ := id hi
  exact ⟨Ai, ni, rfl, hi⟩
theorem TraceR.at4 {w : World} {B : Nat} {cs : List Value} {t : TTrace} (h : TraceR w B cs t) : ∃ Ae ne, cs[4]? = some (.slice Ae t.exits.length ne) ∧ SliceR w B 4 (ExitR w B) (.slice Ae t.exits.length ne) t.exits := by
  obtain ⟨i, e, ct, cb, rfl, -, he, ⟨_, _, rfl, -⟩, ⟨_, _, rfl, -⟩, -⟩ := h
  obtain ⟨Ae, ne, rfl, -⟩ := id he
  exact ⟨Ae, ne, rfl, he⟩
theorem TraceR.at012 {w : World} {B : Nat} {cs : List Value} {t : TTrace} (h : TraceR w B cs t) : cs[0]? = some (.int .i64 t.fn) ∧ cs[1]? = some (.int .i64 t.at_) ∧ cs[2]? = some (.int .i64 t.loop) ∧ wfi t.fn ∧ wfi t.at_ ∧ wfi t.loop := by
  obtain ⟨i, e, ct, cb, rfl, -, -, ⟨_, _, rfl, -⟩, ⟨_, _, rfl, -⟩, h1, h2, h3⟩ := h
  exact ⟨rfl, rfl, rfl, h1, h2, h3⟩

theorem insAt_some {ins : List TIns} {k : Nat} {x : TIns} (h : ins[k]? = some x) : insAt ins k = x ∧ opOf ins k = x.op := by
  unfold insAt opOf
  rw [Int.toNat_natCast, h]
  exact ⟨rfl, rfl⟩

theorem ins_at {w W : World} {b o : Nat} {x : TIns} (hat : CellsAt w b o (insCells x)) (hb : b < w.heap.size) (hk : Below w.heap.size w W) :
    W.cell? ⟨b, o, none⟩ = some (.int .i64 x.op) ∧ W.cell? ⟨b, o + 1, none⟩ = some (.int .i64 x.a) ∧ W.cell? ⟨b, o + 2, none⟩ = some (.int .i64 x.b) ∧ W.cell? ⟨b, o + 3, none⟩ = some (.int .i64 x.c) ∧
      W.cell? ⟨b, o + 4, none⟩ = some (.int .i64 x.n) ∧ W.cell? ⟨b, o + 5, none⟩ = some (.int .i64 x.exit) ∧ W.cell? ⟨b, o + 6, none⟩ = some (.int .i64 x.k.kind) ∧ W.cell? ⟨b, o + 7, none⟩ = some (.int .i64 x.k.n) :=
  ⟨(hk.cell hb).trans (hat 0 _ rfl), (hk.cell hb).trans (hat 1 _ rfl), (hk.cell hb).trans (hat 2 _ rfl), (hk.cell hb).trans (hat 3 _ rfl), (hk.cell hb).trans (hat 4 _ rfl), (hk.cell hb).trans (hat 5 _ rfl), (hk.cell hb).trans (hat 6 _ rfl), (hk.cell hb).trans (hat 7 _ rfl)⟩

set_option maxHeartbeats 2000000 in
set_option maxRecDepth 100000 in
theorem own_c (ca : List Value) (t : TTrace) (k : Nat) (x : TIns) (w : World) (h : TraceR w w.heap.size ca t) (hx : t.ins[k]? = some x)
    (hk : ∀ w1, Below w.heap.size w w1 → Calls Tryd.prog 18 #[.agg ⟨ca⟩, .int .i64 x.a, .int .i64 k] w1 (Gives (.int .i64 (kindM t.ins x.a k)) w1)) :
    Calls Tryd.prog 40 #[.agg ⟨ca⟩, .int .i64 k] w (Gives (.int .i64 (ownM (kindM t.ins · k) x)) w) := by
  obtain ⟨r, hr⟩ : ∃ r, ownM (kindM t.ins · k) x = r := ⟨_, rfl⟩
  rw [hr]
  unfold ownM at hr
  dsimp only at hr
  have HI := Lib.hid h.size13
  obtain ⟨Ai, ni, p3, q⟩ := h.at3
  have ll := len_le q
  have hlt : k < t.ins.length := (List.getElem?_eq_some_iff.1 hx).1
  obtain ⟨b, off, y, rfl, hb, hy, wy, hat⟩ := ins_op q hlt
  rw [hx] at hy
  obtain rfl : x = y := by injection hy
  have hk1 : (k : Int) < t.ins.length := by omega
  obtain ⟨op, xa, xb, xc, xn, xe, ⟨kk, kn⟩⟩ := x
  have K2 : Hid (Below w.heap.size w ((w.alloc (.cells ⟨ca⟩ 34)).alloc (.cells #[.int .i64 op, .int .i64 xa, .int .i64 xb, .int .i64 xc, .int .i64 xn, .int .i64 xe, .int .i64 kk, .int .i64 kn] 43))) := below_two' w _ _
  have H0 : Hid (HeadAt ((w.alloc (.cells ⟨ca⟩ 34)).alloc (.cells #[.int .i64 op, .int .i64 xa, .int .i64 xb, .int .i64 xc, .int .i64 xn, .int .i64 xe, .int .i64 kk, .int .i64 kn] 43)) w.heap.size ca) := (two_box w ca _ _ _).1
  obtain ⟨g0, g1, g2, g3, g4, g5, g6, g7⟩ := ins_at hat hb (below_one w (.cells ⟨ca⟩ 34))
  dsimp only at g0 g1 g2 g3 g4 g5 g6 g7 hr
  obtain ⟨z, hz⟩ : ∃ z, kindM t.ins xa k = z := ⟨_, rfl⟩
  simp only [hz] at hr
  have HK : Hid (Calls Tryd.prog 18 #[.agg ⟨ca⟩, .int .i64 xa, .int .i64 k] ((w.alloc (.cells ⟨ca⟩ 34)).alloc (.cells #[.int .i64 op, .int .i64 xa, .int .i64 xb, .int .i64 xc, .int .i64 xn, .int .i64 xe, .int .i64 kk, .int .i64 kn] 43)) (fun e w1 => e = .returned (.int .i64 z) ∧ Below w.heap.size w w1)) := (hk _ K2.out).mono fun e w1 ⟨h1, h2⟩ => ⟨by rw [h1, ← hz], K2.out.trans (h2.mono K2.out.size)⟩
  clear h q hat hx hy hk hz
  by_cases o2 : op = 2
  · rw [if_pos o2] at hr
    subst o2
    have HR := Lib.hid hr
    clear hr
    go_enter Tryd.func40, Tryd.ntmps40
    go_wp2_with fail
    go_ret
    exact ⟨by rw [← HR.out]; rfl, K2.out⟩
  rw [if_neg o2] at hr
  by_cases o15 : op = 15
  · rw [if_pos o15] at hr
    subst o15
    have HR := Lib.hid hr
    clear hr
    go_enter Tryd.func40, Tryd.ntmps40
    go_wp2_with fail
    go_ret
    exact ⟨by rw [← HR.out]; rfl, K2.out⟩
  rw [if_neg o15] at hr
  by_cases o16 : op = 16
  · rw [if_pos o16] at hr
    subst o16
    have HR := Lib.hid hr
    clear hr
    go_enter Tryd.func40, Tryd.ntmps40
    go_wp2_with fail
    go_ret
    exact ⟨by rw [← HR.out]; rfl, K2.out⟩
  rw [if_neg o16] at hr
  by_cases o18 : op = 18
  · rw [if_pos o18] at hr
    subst o18
    have HR := Lib.hid hr
    clear hr
    go_enter Tryd.func40, Tryd.ntmps40
    go_wp2_with fail
    go_ret
    exact ⟨by rw [← HR.out]; rfl, K2.out⟩
  rw [if_neg o18] at hr
  by_cases o7 : op = 7
  · rw [if_pos (by omega)] at hr
    have hcl : ((8 ≤ xn ∧ xn ≤ 10) ∨ ¬ (8 ≤ xn ∧ xn ≤ 10)) := Classical.em _
    rcases hcl with hc | hc
    · rw [if_pos (by omega)] at hr
      subst o7
      obtain ⟨c1, c2⟩ := hc
      have HR := Lib.hid hr
      clear hr
      go_enter Tryd.func40, Tryd.ntmps40
      go_wp2_with fail
      go_ret
      exact ⟨by rw [← HR.out]; rfl, K2.out⟩
    · rw [if_neg (by omega)] at hr
      subst o7
      have hs : (¬ 8 ≤ xn ∧ xn ≤ 10 ∧ ¬ xn = 11) ∨ (8 ≤ xn ∧ ¬ xn ≤ 10 ∧ xn = 11) ∨ (8 ≤ xn ∧ ¬ xn ≤ 10 ∧ ¬ xn = 11) := by omega
      have n11 : xn = 11 ∨ (xn == 11) = false := by
        by_cases h : xn = 11
        · exact .inl h
        · exact .inr (beq_eq_false_iff_ne.2 h)
      clear hc
      rcases hs with hs | hs
      · obtain ⟨b1, b2, b3⟩ := hs
        clear n11
        have b3' : (xn == 11) = false := beq_eq_false_iff_ne.2 b3
        go_enter Tryd.func40, Tryd.ntmps40
        go_wp2_with (refine wpList_load_mid rfl 34 _ rfl w.heap.size 0 rfl ca _ H0.out.range Tryd.underlying34 rfl HI.out ?_)
        refine HK.out.mono ?_
        rintro e w1 ⟨rfl, k1⟩
        have K1 := Lib.hid k1
        clear k1
        by_cases z2 : z = 2
        · subst z2
          have HR := Lib.hid hr
          clear hr
          go_wp2_with fail
          go_ret
          exact ⟨by rw [← HR.out]; rfl, K1.out⟩
        by_cases z3 : z = 3
        · subst z3
          have HR := Lib.hid hr
          clear hr
          go_wp2_with fail
          go_ret
          exact ⟨by rw [← HR.out]; rfl, K1.out⟩
        rw [if_neg (by omega)] at hr
        have z2' : (z == 2) = false := beq_eq_false_iff_ne.2 z2
        have z3' : (z == 3) = false := beq_eq_false_iff_ne.2 z3
        have HR := Lib.hid hr
        clear hr
        go_wp2_with fail
        go_ret
        exact ⟨by rw [← HR.out]; rfl, K1.out⟩
      rcases hs with hs | hs
      · obtain ⟨b1, b2, b3⟩ := hs
        clear n11
        subst b3
        go_enter Tryd.func40, Tryd.ntmps40
        go_wp2_with (refine wpList_load_mid rfl 34 _ rfl w.heap.size 0 rfl ca _ H0.out.range Tryd.underlying34 rfl HI.out ?_)
        refine HK.out.mono ?_
        rintro e w1 ⟨rfl, k1⟩
        have K1 := Lib.hid k1
        clear k1
        by_cases z2 : z = 2
        · subst z2
          have HR := Lib.hid hr
          clear hr
          go_wp2_with fail
          go_ret
          exact ⟨by rw [← HR.out]; rfl, K1.out⟩
        by_cases z3 : z = 3
        · subst z3
          have HR := Lib.hid hr
          clear hr
          go_wp2_with fail
          go_ret
          exact ⟨by rw [← HR.out]; rfl, K1.out⟩
        rw [if_neg (by omega)] at hr
        have z2' : (z == 2) = false := beq_eq_false_iff_ne.2 z2
        have z3' : (z == 3) = false := beq_eq_false_iff_ne.2 z3
        have HR := Lib.hid hr
        clear hr
        go_wp2_with fail
        go_ret
        exact ⟨by rw [← HR.out]; rfl, K1.out⟩
      obtain ⟨b1, b2, b3⟩ := hs
      clear n11
      have b3' : (xn == 11) = false := beq_eq_false_iff_ne.2 b3
      go_enter Tryd.func40, Tryd.ntmps40
      go_wp2_with (refine wpList_load_mid rfl 34 _ rfl w.heap.size 0 rfl ca _ H0.out.range Tryd.underlying34 rfl HI.out ?_)
      refine HK.out.mono ?_
      rintro e w1 ⟨rfl, k1⟩
      have K1 := Lib.hid k1
      clear k1
      by_cases z2 : z = 2
      · subst z2
        have HR := Lib.hid hr
        clear hr
        go_wp2_with fail
        go_ret
        exact ⟨by rw [← HR.out]; rfl, K1.out⟩
      by_cases z3 : z = 3
      · subst z3
        have HR := Lib.hid hr
        clear hr
        go_wp2_with fail
        go_ret
        exact ⟨by rw [← HR.out]; rfl, K1.out⟩
      rw [if_neg (by omega)] at hr
      have z2' : (z == 2) = false := beq_eq_false_iff_ne.2 z2
      have z3' : (z == 3) = false := beq_eq_false_iff_ne.2 z3
      have HR := Lib.hid hr
      clear hr
      go_wp2_with fail
      go_ret
      exact ⟨by rw [← HR.out]; rfl, K1.out⟩
  by_cases o8 : op = 8
  · rw [if_pos (by omega)] at hr
    have hcl : ((xn = 11) ∨ ¬ (xn = 11)) := Classical.em _
    rcases hcl with hc | hc
    · rw [if_pos (by omega)] at hr
      subst o8
      subst hc
      have HR := Lib.hid hr
      clear hr
      go_enter Tryd.func40, Tryd.ntmps40
      go_wp2_with fail
      go_ret
      exact ⟨by rw [← HR.out]; rfl, K2.out⟩
    · rw [if_neg (by omega)] at hr
      subst o8
      have hs : (¬ 8 ≤ xn ∧ xn ≤ 10 ∧ ¬ xn = 11) ∨ (8 ≤ xn ∧ xn ≤ 10 ∧ ¬ xn = 11) ∨ (8 ≤ xn ∧ ¬ xn ≤ 10 ∧ ¬ xn = 11) := by omega
      have n11 : xn = 11 ∨ (xn == 11) = false := by
        by_cases h : xn = 11
        · exact .inl h
        · exact .inr (beq_eq_false_iff_ne.2 h)
      clear hc
      rcases hs with hs | hs
      · obtain ⟨b1, b2, b3⟩ := hs
        clear n11
        have b3' : (xn == 11) = false := beq_eq_false_iff_ne.2 b3
        go_enter Tryd.func40, Tryd.ntmps40
        go_wp2_with (refine wpList_load_mid rfl 34 _ rfl w.heap.size 0 rfl ca _ H0.out.range Tryd.underlying34 rfl HI.out ?_)
        refine HK.out.mono ?_
        rintro e w1 ⟨rfl, k1⟩
        have K1 := Lib.hid k1
        clear k1
        by_cases z2 : z = 2
        · subst z2
          have HR := Lib.hid hr
          clear hr
          go_wp2_with fail
          go_ret
          exact ⟨by rw [← HR.out]; rfl, K1.out⟩
        by_cases z3 : z = 3
        · subst z3
          have HR := Lib.hid hr
          clear hr
          go_wp2_with fail
          go_ret
          exact ⟨by rw [← HR.out]; rfl, K1.out⟩
        rw [if_neg (by omega)] at hr
        have z2' : (z == 2) = false := beq_eq_false_iff_ne.2 z2
        have z3' : (z == 3) = false := beq_eq_false_iff_ne.2 z3
        have HR := Lib.hid hr
        clear hr
        go_wp2_with fail
        go_ret
        exact ⟨by rw [← HR.out]; rfl, K1.out⟩
      rcases hs with hs | hs
      · obtain ⟨b1, b2, b3⟩ := hs
        clear n11
        have b3' : (xn == 11) = false := beq_eq_false_iff_ne.2 b3
        go_enter Tryd.func40, Tryd.ntmps40
        go_wp2_with (refine wpList_load_mid rfl 34 _ rfl w.heap.size 0 rfl ca _ H0.out.range Tryd.underlying34 rfl HI.out ?_)
        refine HK.out.mono ?_
        rintro e w1 ⟨rfl, k1⟩
        have K1 := Lib.hid k1
        clear k1
        by_cases z2 : z = 2
        · subst z2
          have HR := Lib.hid hr
          clear hr
          go_wp2_with fail
          go_ret
          exact ⟨by rw [← HR.out]; rfl, K1.out⟩
        by_cases z3 : z = 3
        · subst z3
          have HR := Lib.hid hr
          clear hr
          go_wp2_with fail
          go_ret
          exact ⟨by rw [← HR.out]; rfl, K1.out⟩
        rw [if_neg (by omega)] at hr
        have z2' : (z == 2) = false := beq_eq_false_iff_ne.2 z2
        have z3' : (z == 3) = false := beq_eq_false_iff_ne.2 z3
        have HR := Lib.hid hr
        clear hr
        go_wp2_with fail
        go_ret
        exact ⟨by rw [← HR.out]; rfl, K1.out⟩
      obtain ⟨b1, b2, b3⟩ := hs
      clear n11
      have b3' : (xn == 11) = false := beq_eq_false_iff_ne.2 b3
      go_enter Tryd.func40, Tryd.ntmps40
      go_wp2_with (refine wpList_load_mid rfl 34 _ rfl w.heap.size 0 rfl ca _ H0.out.range Tryd.underlying34 rfl HI.out ?_)
      refine HK.out.mono ?_
      rintro e w1 ⟨rfl, k1⟩
      have K1 := Lib.hid k1
      clear k1
      by_cases z2 : z = 2
      · subst z2
        have HR := Lib.hid hr
        clear hr
        go_wp2_with fail
        go_ret
        exact ⟨by rw [← HR.out]; rfl, K1.out⟩
      by_cases z3 : z = 3
      · subst z3
        have HR := Lib.hid hr
        clear hr
        go_wp2_with fail
        go_ret
        exact ⟨by rw [← HR.out]; rfl, K1.out⟩
      rw [if_neg (by omega)] at hr
      have z2' : (z == 2) = false := beq_eq_false_iff_ne.2 z2
      have z3' : (z == 3) = false := beq_eq_false_iff_ne.2 z3
      have HR := Lib.hid hr
      clear hr
      go_wp2_with fail
      go_ret
      exact ⟨by rw [← HR.out]; rfl, K1.out⟩
  rw [if_neg (by omega)] at hr
  have m2 : (op == 2) = false := beq_eq_false_iff_ne.2 o2
  have m15 : (op == 15) = false := beq_eq_false_iff_ne.2 o15
  have m16 : (op == 16) = false := beq_eq_false_iff_ne.2 o16
  have m18 : (op == 18) = false := beq_eq_false_iff_ne.2 o18
  have m7 : (op == 7) = false := beq_eq_false_iff_ne.2 o7
  have m8 : (op == 8) = false := beq_eq_false_iff_ne.2 o8
  have HR := Lib.hid hr
  clear hr
  go_enter Tryd.func40, Tryd.ntmps40
  go_wp2_with fail
  go_ret
  exact ⟨by rw [← HR.out]; rfl, K2.out⟩
end Go.Proofs.YtmccomeihnaanaaDoor
