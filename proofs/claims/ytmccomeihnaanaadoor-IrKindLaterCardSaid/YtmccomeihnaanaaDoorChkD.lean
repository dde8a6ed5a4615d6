/- ir.checker's methods: right. -/
import Derived.Test.YtmccomeihnaanaaDoorChkC
namespace Go.Proofs.YtmccomeihnaanaaDoor
open Go.RowKit

theorem CheckR.at1 {w : World} {B : Nat} {cs : List Value} {f : CFn} {t : TTrace} (h : CheckR w B cs f t) : cs[1]? = some (.int .i64 f.regs) ∧ ∃ A5 n5, cs[4]? = some (.slice A5 f.code.length n5) ∧ f.code.length ≤ 9223372036854775807 := by
  obtain ⟨A4, n4, A5, n5, Ai, ni, Ae, ne, s1, m1, s2, m2, rfl, h, -⟩ := h.cells
  exact ⟨rfl, A5, n5, rfl, len_le h⟩
theorem drop_at {α : Type} {l : List α} {k : Nat} {x : α} (h : l[k]? = some x) : l.drop k = x :: l.drop (k + 1) := by
  obtain ⟨h1, h2⟩ := List.getElem?_eq_some_iff.1 h
  rw [← h2]
  exact List.drop_eq_getElem_cons h1
def fnOf (f : CFn) : FnM := ⟨f.regs, f.code.length⟩

set_option maxHeartbeats 4000000 in
set_option maxRecDepth 100000 in
theorem right_e (cs xs : List Value) (f : CFn) (t : TTrace) (x : TExit) (at_ : Int) (w : World) (h : CheckR w w.heap.size cs f t) (hx : ExitR w w.heap.size xs x) :
    Calls Tryd.prog 38 #[.agg ⟨cs⟩, .agg ⟨xs⟩, .int .i64 at_] w (Gives (.bool (rightM (fnOf f) t.ins x at_)) w) := by
  obtain ⟨r, hr⟩ : ∃ r, rightM (fnOf f) t.ins x at_ = r := ⟨_, rfl⟩
  rw [hr]
  unfold rightM fnOf at hr
  dsimp only at hr
  have HC := Lib.hid h
  have HI := Lib.hid h.len
  obtain ⟨Ai, ni, p8, qs⟩ := h.at8
  obtain ⟨p1, A5, n5, p4, l5⟩ := h.at1
  obtain ⟨s, m, rfl, hs, hm, wa, ws⟩ := hx
  have HS := Lib.hid hs
  have HM := Lib.hid hm
  obtain ⟨S, cS, rfl, ls1, ls2, -⟩ := hs
  obtain ⟨M, cM, rfl, lm1, lm2, -⟩ := hm
  unfold maxLen at ls2 lm2
  obtain ⟨w0, hw0⟩ : ∃ w0, w0 = (w.alloc (.cells ⟨cs⟩ 68)).alloc (.cells #[.int .i64 x.at_, .int .i64 x.steps, .slice S x.sets.length cS, .slice M x.makes.length cM] 32) := ⟨_, rfl⟩
  have TB := two_box w cs [.int .i64 x.at_, .int .i64 x.steps, .slice S x.sets.length cS, .slice M x.makes.length cM] 68 32
  rw [← hw0] at TB
  obtain ⟨t1, t2, t3⟩ := TB
  have H1 := Lib.hid t1
  have H2 := Lib.hid t2
  have k0 := Lib.hid t3
  have HW := Lib.hid hw0
  clear h hw0 t1 t2 t3 qs p1 p8
  by_cases b1 : x.at_ < 0
  · have HR : Hid (false = r) := by rw [← hr]; simp [b1, Hid]
    clear hr
    go_enter Tryd.func38, Tryd.ntmps38
    go_wp2_with fail
    go_ret
    exact ⟨by rw [← HR.out]; rfl, by rw [← HW.out]; exact k0.out⟩
  by_cases b2 : (f.code.length : Int) ≤ x.at_
  · have HR : Hid (false = r) := by rw [← hr]; simp [b2, Hid]
    clear hr
    go_enter Tryd.func38, Tryd.ntmps38
    go_wp2_with fail
    go_ret
    exact ⟨by rw [← HR.out]; rfl, by rw [← HW.out]; exact k0.out⟩
  by_cases b3 : x.steps < 0
  · have HR : Hid (false = r) := by rw [← hr]; simp [b3, Hid]
    clear hr
    go_enter Tryd.func38, Tryd.ntmps38
    go_wp2_with fail
    go_ret
    exact ⟨by rw [← HR.out]; rfl, by rw [← HW.out]; exact k0.out⟩
  by_cases b4 : 200 < x.steps
  · have HR : Hid (false = r) := by rw [← hr]; simp [b4, Hid]
    clear hr
    go_enter Tryd.func38, Tryd.ntmps38
    go_wp2_with fail
    go_ret
    exact ⟨by rw [← HR.out]; rfl, by rw [← HW.out]; exact k0.out⟩
  rw [decide_eq_false b1, decide_eq_false b2, decide_eq_false b3, decide_eq_false b4, Bool.or_false, Bool.or_false, Bool.or_false, Bool.not_false, Bool.true_and] at hr
  have HR := Lib.hid hr
  have P := Lib.hid p4
  clear hr
  go_enter Tryd.func38, Tryd.ntmps38
  go_wp2_with fail
  rw [← HW.out]
  clear p4 b1 b2 b3 b4
  go_loopw [37, 7] (fun k la wr => ∃ (kn : Nat) (l0 : Int), k = .int .i64 kn ∧ la = .int .i64 l0 ∧ kn ≤ x.sets.length ∧ Hid (setsM f.regs t.ins at_ l0 (x.sets.drop kn) = setsM f.regs t.ins at_ (-1) x.sets) ∧ Hid (Below w0.heap.size w0 wr)) (fun k _ _ => x.sets.length - (RowKit.intOf k).toNat)
  case atStart => exact ⟨0, -1, rfl, rfl, by omega, rfl, Below.refl _ _⟩
  case round =>
    obtain ⟨kn, l0, rfl, rfl, hk, KP, KW⟩ := hrel
    by_cases hlt : kn < x.sets.length
    · obtain ⟨b, off, y, ys, rfl, hb, hy, hcl, hR, hat⟩ := HS.out.at_ hlt
      obtain ⟨rfl, wy1, wy2⟩ := hR
      have hi1 : (kn : Int) < x.sets.length := by omega
      have kk := Lib.hid (k0.out.trans (KW.out.mono k0.out.size))
      have hz : w.heap.size < wr.heap.size := by have := cell_lt (H1.out 4 _ P.out); exact Nat.lt_of_lt_of_le this KW.out.size
      have hbr : b < wr.heap.size := by omega
      have g0 : wr.cell? ⟨b, off + kn * 2, none⟩ = some (.int .i64 y.reg) := (kk.out.cell hb).trans (hat 0 _ rfl)
      have g1 : wr.cell? ⟨b, off + kn * 2 + 1, none⟩ = some (.int .i64 y.val) := (kk.out.cell hb).trans (hat 1 _ rfl)
      have d1 : wr.cell? ⟨w.heap.size, 1, none⟩ = some (.int .i64 f.regs) := cell_on KW.out (H1.out 1 _ HC.out.at1.1)
      have HB := Lib.hid (H1.out.on KW.out)
      have HY : Hid (setsM f.regs t.ins at_ (-1) x.sets = (decide (l0 < y.reg) && decide (y.reg < f.regs) && valueM t.ins y.val at_ && setsM f.regs t.ins at_ y.reg (x.sets.drop (kn + 1)))) := by rw [← KP.out, drop_at hy]; rfl
      clear hy hat hcl
      by_cases c1 : l0 < y.reg
      case neg =>
        have HN : Hid (false = r) := by rw [← HR.out, HY.out, decide_eq_false c1]; rfl
        have c1' : y.reg ≤ l0 := by omega
        go_wp2_with fail
        go_ret
        exact ⟨by rw [← HN.out]; rfl, (by repeat (first | exact kk.out | refine Below.drew ?_ | refine Below.setCell ?_ (by first | omega | (simp; omega)) _ | refine Below.alloc ?_ (by first | omega | (simp; omega)) _))⟩
      by_cases c2 : y.reg < f.regs
      case neg =>
        have HN : Hid (false = r) := by rw [← HR.out, HY.out, decide_eq_false c2, Bool.and_false]; rfl
        have c1' : ¬ y.reg ≤ l0 := by omega
        have c2' : f.regs ≤ y.reg := by omega
        go_wp2_with fail
        go_ret
        exact ⟨by rw [← HN.out]; rfl, (by repeat (first | exact kk.out | refine Below.drew ?_ | refine Below.setCell ?_ (by first | omega | (simp; omega)) _ | refine Below.alloc ?_ (by first | omega | (simp; omega)) _))⟩
      have CV : Hid (∀ W, Below wr.heap.size wr W → Calls Tryd.prog 77 #[.agg ⟨cs⟩, .int .i64 y.val, .int .i64 at_] W (fun e w2 => e = .returned (.bool (valueM t.ins y.val at_)) ∧ Below wr.heap.size wr w2 ∧ Below W.heap.size W w2)) := fun W kW =>
        (value_c cs f t y.val at_ W (HC.out.below (kk.out.trans (kW.mono kk.out.size)))).mono fun e w2 ⟨h1, h2⟩ => ⟨h1, kW.trans (h2.mono kW.size), h2⟩
      obtain ⟨q, hq⟩ : ∃ q, valueM t.ins y.val at_ = q := ⟨_, rfl⟩
      rw [hq] at CV HY
      have c1' : ¬ y.reg ≤ l0 := by omega
      have c2' : ¬ f.regs ≤ y.reg := by omega
      clear hq
      go_wp2_with (refine wpList_load_on 68 _ rfl rfl w.heap.size 0 rfl cs _ ((HB.out.on (by repeat (first | exact Below.refl _ _ | refine Below.drew ?_ | refine Below.setCell ?_ (by simp) _ | refine Below.alloc ?_ (by simp) _))).range) Tryd.underlying68 rfl HI.out ?_)
      refine (CV.out _ (by repeat (first | exact Below.refl _ _ | refine Below.drew ?_ | refine Below.setCell ?_ (by simp) _ | refine Below.alloc ?_ (by simp) _))).mono ?_
      rintro e w2 ⟨rfl, k2, k3⟩
      have K2 := Lib.hid (KW.out.trans (k2.mono KW.out.size))
      have g2 := cell_on k3 (a := ⟨wr.heap.size, 0, none⟩) (v := .int .i64 y.reg) (one_cell _ _ _ _)
      clear k2 k3 g0 g1 d1
      cases q
      case false =>
        have HN : Hid (false = r) := by rw [← HR.out, HY.out, Bool.and_false]; rfl
        go_wp2_with fail
        go_ret
        exact ⟨by rw [← HN.out]; rfl, k0.out.trans (K2.out.mono k0.out.size)⟩
      go_wp2_with fail
      go_roundw
      case rel => exact ⟨kn + 1, y.reg, by go_num, rfl, by omega, by rw [HY.out, decide_eq_true c1, decide_eq_true c2]; rfl, K2.out⟩
      case measure => simp [RowKit.intOf]; omega
    · have hke : x.sets.drop kn = [] := List.drop_eq_nil_of_le (by omega)
      have HR2 : Hid (makesM t.ins at_ (-1) x.makes = r) := by
        have e := KP.out
        rw [hke] at e
        rw [← HR.out, ← e]; rfl
      have e3 := cell_on KW.out (H2.out 3 _ rfl)
      clear KP hke
      go_wp2_with fail
      clear e3
      go_loopw [67, 7] (fun k la wx => ∃ (jn : Nat) (l0 : Int), k = .int .i64 jn ∧ la = .int .i64 l0 ∧ jn ≤ x.makes.length ∧ Hid (makesM t.ins at_ l0 (x.makes.drop jn) = makesM t.ins at_ (-1) x.makes) ∧ Hid (Below w0.heap.size w0 wx)) (fun k _ _ => x.makes.length - (RowKit.intOf k).toNat)
      case atStart => exact ⟨0, -1, rfl, rfl, by omega, rfl, KW.out⟩
      case round =>
        rename_i wq
        clear KW hlt
        obtain ⟨jn, l0, rfl, rfl, hk, KP, KW⟩ := hrel
        by_cases hlt : jn < x.makes.length
        · obtain ⟨b, off, y, ys, rfl, hb, hy, hcl, hR, hat⟩ := HM.out.at_ hlt
          have HY0 := Lib.hid hR
          obtain ⟨v, rfl, hv, -⟩ := hR
          obtain ⟨V, cv, rfl, -⟩ := hv
          have hi1 : (jn : Int) < x.makes.length := by omega
          have kk := Lib.hid (k0.out.trans (KW.out.mono k0.out.size))
          have hz : w.heap.size < wr.heap.size := by have := cell_lt (H1.out 4 _ P.out); exact Nat.lt_of_lt_of_le this KW.out.size
          have hbr : b < wr.heap.size := by omega
          have g0 : wr.cell? ⟨b, off + jn * 4, none⟩ = some (.int .i64 y.cell) := (kk.out.cell hb).trans (hat 0 _ rfl)
          have g1 : wr.cell? ⟨b, off + jn * 4 + 1, none⟩ = some (.int .i64 y.kind) := (kk.out.cell hb).trans (hat 1 _ rfl)
          have g2 : wr.cell? ⟨b, off + jn * 4 + 2, none⟩ = some (.int .i64 y.num) := (kk.out.cell hb).trans (hat 2 _ rfl)
          have g3 : wr.cell? ⟨b, off + jn * 4 + 3, none⟩ = some (.slice V y.vals.length cv) := (kk.out.cell hb).trans (hat 3 _ rfl)
          have HB := Lib.hid (H1.out.on KW.out)
          have HY : Hid (makesM t.ins at_ (-1) x.makes = (decide (l0 < y.cell) && makeM t.ins y at_ && makesM t.ins at_ y.cell (x.makes.drop (jn + 1)))) := by rw [← KP.out, drop_at hy]; rfl
          clear hy hat hcl
          by_cases c1 : l0 < y.cell
          case neg =>
            have HN : Hid (false = r) := by rw [← HR2.out, HY.out, decide_eq_false c1]; rfl
            have c1' : y.cell ≤ l0 := by omega
            go_wp2_with fail
            go_ret
            exact ⟨by rw [← HN.out]; rfl, (by repeat (first | exact kk.out | refine Below.drew ?_ | refine Below.setCell ?_ (by first | omega | (simp; omega)) _ | refine Below.alloc ?_ (by first | omega | (simp; omega)) _))⟩
          have CV : Hid (∀ W, Below wr.heap.size wr W → Calls Tryd.prog 78 #[.agg ⟨cs⟩, .agg #[.int .i64 y.cell, .int .i64 y.kind, .int .i64 y.num, .slice V y.vals.length cv], .int .i64 at_] W (fun e w2 => e = .returned (.bool (makeM t.ins y at_)) ∧ Below wr.heap.size wr w2 ∧ Below W.heap.size W w2)) := fun W kW =>
            have kz := kk.out.trans (kW.mono kk.out.size)
            (make_c cs _ f t y at_ W (HC.out.below kz) (HY0.out.keep kz.size (fun _ h => kz.cell h))).mono fun e w2 ⟨h1, h2⟩ => ⟨h1, kW.trans (h2.mono kW.size), h2⟩
          obtain ⟨q, hq⟩ : ∃ q, makeM t.ins y at_ = q := ⟨_, rfl⟩
          rw [hq] at CV HY
          have c1' : ¬ y.cell ≤ l0 := by omega
          clear hq
          go_wp2_with (refine wpList_load_on 68 _ rfl rfl w.heap.size 0 rfl cs _ ((HB.out.on (by repeat (first | exact Below.refl _ _ | refine Below.drew ?_ | refine Below.setCell ?_ (by simp) _ | refine Below.alloc ?_ (by simp) _))).range) Tryd.underlying68 rfl HI.out ?_)
          refine (CV.out _ (by repeat (first | exact Below.refl _ _ | refine Below.drew ?_ | refine Below.setCell ?_ (by simp) _ | refine Below.alloc ?_ (by simp) _))).mono ?_
          rintro e w2 ⟨rfl, k2, k3⟩
          have K2 := Lib.hid (KW.out.trans (k2.mono KW.out.size))
          have g4 := cell_on k3 (a := ⟨wr.heap.size, 0, none⟩) (v := .int .i64 y.cell) (one_cell _ _ _ _)
          clear k2 k3 g0 g1 g2 g3
          cases q
          case false =>
            have HN : Hid (false = r) := by rw [← HR2.out, HY.out, Bool.and_false]; rfl
            go_wp2_with fail
            go_ret
            exact ⟨by rw [← HN.out]; rfl, k0.out.trans (K2.out.mono k0.out.size)⟩
          go_wp2_with fail
          go_roundw
          case rel => exact ⟨jn + 1, y.cell, by go_num, rfl, by omega, by rw [HY.out, decide_eq_true c1]; rfl, K2.out⟩
          case measure => simp [RowKit.intOf]; omega
        · have hke : x.makes.drop jn = [] := List.drop_eq_nil_of_le (by omega)
          have HN : Hid (true = r) := by
            have e := KP.out
            rw [hke] at e
            rw [← HR2.out, ← e]; rfl
          go_wp2_with fail
          go_ret
          exact ⟨by rw [← HN.out]; rfl, k0.out.trans (KW.out.mono k0.out.size)⟩
end Go.Proofs.YtmccomeihnaanaaDoor
