/- ir.checker's methods: make. -/
import Derived.Test.YtmccomeihnaanaaDoorChkB
namespace Go.Proofs.YtmccomeihnaanaaDoor
open Go.RowKit

theorem two_box (w : World) (A B : List Value) (t u : TypeId) : HeadAt ((w.alloc (.cells ⟨A⟩ t)).alloc (.cells ⟨B⟩ u)) w.heap.size A ∧ HeadAt ((w.alloc (.cells ⟨A⟩ t)).alloc (.cells ⟨B⟩ u)) (w.heap.size + 1) B ∧ Below w.heap.size w ((w.alloc (.cells ⟨A⟩ t)).alloc (.cells ⟨B⟩ u)) := by
  refine ⟨(HeadAt.box w A t).old _, ?_, below_two' w _ _⟩
  have := HeadAt.box (w.alloc (.cells ⟨A⟩ t)) B u
  rwa [World.size_alloc] at this
theorem valueM_lt {ins : List TIns} {v at_ : Int} (h : valueM ins v at_ = true) : ∃ k : Nat, v = k ∧ (k : Int) < at_ ∧ k < ins.length ∧ tellsM (opOf ins v) = true := by
  unfold valueM at h
  simp only [Bool.and_eq_true, decide_eq_true_eq] at h
  obtain ⟨⟨⟨h1, h2⟩, h3⟩, h4⟩ := h
  obtain ⟨k, rfl⟩ := Int.eq_ofNat_of_zero_le h1
  exact ⟨k, rfl, h2, by omega, h4⟩

theorem CheckR.at8 {w : World} {B : Nat} {cs : List Value} {f : CFn} {t : TTrace} (h : CheckR w B cs f t) : ∃ Ai ni, cs[8]? = some (.slice Ai t.ins.length ni) ∧ SliceR w B 8 InsR (.slice Ai t.ins.length ni) t.ins := by
  obtain ⟨A4, n4, A5, n5, Ai, ni, Ae, ne, s1, m1, s2, m2, rfl, -, h, -⟩ := h.cells
  exact ⟨Ai, ni, rfl, h⟩

set_option maxHeartbeats 4000000 in
set_option maxRecDepth 100000 in
theorem make_c (cs ms : List Value) (f : CFn) (t : TTrace) (m : TMake) (at_ : Int) (w : World) (h : CheckR w w.heap.size cs f t) (hm : MakeR w w.heap.size ms m) :
    Calls Tryd.prog 78 #[.agg ⟨cs⟩, .agg ⟨ms⟩, .int .i64 at_] w (Gives (.bool (makeM t.ins m at_)) w) := by
  obtain ⟨r, hr⟩ : ∃ r, makeM t.ins m at_ = r := ⟨_, rfl⟩
  rw [hr]
  unfold makeM at hr
  have HC := Lib.hid h
  have HI := Lib.hid h.len
  obtain ⟨Ai, ni, p8, qs⟩ := h.at8
  obtain ⟨v, rfl, hv, wc, wk, wn⟩ := hm
  obtain ⟨V, cv, rfl, hv1, hv2, -⟩ := id hv
  unfold maxLen at hv2
  have HV := Lib.hid hv
  have HQ := Lib.hid qs
  obtain ⟨w0, hw0⟩ : ∃ w0, w0 = (w.alloc (.cells ⟨cs⟩ 68)).alloc (.cells #[.int .i64 m.cell, .int .i64 m.kind, .int .i64 m.num, .slice V m.vals.length cv] 101) := ⟨_, rfl⟩
  have TB := two_box w cs [.int .i64 m.cell, .int .i64 m.kind, .int .i64 m.num, .slice V m.vals.length cv] 68 101
  rw [← hw0] at TB
  obtain ⟨t1, t2, t3⟩ := TB
  have H1 := Lib.hid t1
  have H2 := Lib.hid t2
  have k0 := Lib.hid t3
  have HW := Lib.hid hw0
  have R0 := Lib.hid H1.out.range
  have CV := Lib.hid (value_c _ f t m.cell at_ w0 (HC.out.below k0.out))
  obtain ⟨q, hq⟩ : ∃ q, valueM t.ins m.cell at_ = q := ⟨_, rfl⟩
  rw [hq] at CV hr
  have HVM := Lib.hid hq
  clear h hv hw0 t1 t2 t3 qs hq
  go_enter Tryd.func78, Tryd.ntmps78
  go_wp2_with (first | (refine wpList_load_mid rfl 68 _ rfl w.heap.size 0 rfl cs _ (by rw [← HW.out]; exact R0.out) Tryd.underlying68 rfl HI.out ?_) | fail)
  rw [← HW.out]
  refine CV.out.mono ?_
  rintro e w1 ⟨rfl, k1⟩
  have K := Lib.hid (k0.out.trans (k1.mono k0.out.size))
  cases q
  case false =>
    have HR : Hid (false = r) := by rw [← hr]; rfl
    clear hr k1
    go_wp2_with fail
    go_ret
    exact ⟨by rw [← HR.out]; rfl, K.out⟩
  rw [Bool.true_and] at hr
  obtain ⟨k, hk, -, hlt, -⟩ := valueM_lt HVM.out
  obtain ⟨b, off, x, rfl, hb, hx, -, hat⟩ := ins_op HQ.out hlt
  have g0 : w1.cell? ⟨b, off + k * 8, none⟩ = some (.int .i64 x.op) := (K.out.cell hb).trans (by have := hat 0 _ rfl; simpa using this)
  have d8 := (H1.out.on k1) 8 _ p8
  have e0 := (H2.out.on k1) 0 _ rfl
  have e1 := (H2.out.on k1) 1 _ rfl
  have e2 := (H2.out.on k1) 2 _ rfl
  have e3 := (H2.out.on k1) 3 _ rfl
  have ll := len_le HQ.out
  have hop : opOf t.ins m.cell = x.op := by unfold opOf; rw [hk, Int.toNat_natCast, hx]; rfl
  rw [hop] at hr
  have hE1 := Lib.hid e1
  have hE2 := Lib.hid e2
  have hE3 := Lib.hid e3
  rw [hk] at e0
  have HB1 := Lib.hid (H1.out.on k1).range
  clear k1 hop hat hx
  by_cases ho : x.op = 18
  case neg =>
    have HR : Hid (false = r) := by rw [← hr, beq_eq_false_iff_ne.2 ho]; rfl
    clear hr
    go_wp2_with fail
    go_ret
    exact ⟨by rw [← HR.out]; rfl, K.out⟩
  rw [ho, show ((18 : Int) == 18) = true from rfl, Bool.true_and] at hr
  rw [ho] at g0
  obtain ⟨bad, hbad⟩ : ∃ bad, (decide (m.kind < 1) || decide (3 < m.kind) || decide (m.num < 0) || (decide (0 < m.num) && m.kind != 1)) = bad := ⟨_, rfl⟩
  rw [hbad] at hr
  cases bad
  case true =>
    have HR : Hid (false = r) := by rw [← hr]; rfl
    clear hr
    by_cases b1 : m.kind < 1
    · clear hbad
      go_wp2_with fail
      go_ret
      exact ⟨by rw [← HR.out]; rfl, K.out⟩
    by_cases b2 : 3 < m.kind
    · clear hbad
      go_wp2_with fail
      go_ret
      exact ⟨by rw [← HR.out]; rfl, K.out⟩
    by_cases b3 : m.num < 0
    · clear hbad
      go_wp2_with fail
      go_ret
      exact ⟨by rw [← HR.out]; rfl, K.out⟩
    have b4 : 0 < m.num ∧ (m.kind != 1) = true := by simpa [b1, b2, b3] using hbad
    obtain ⟨b4, b5⟩ := b4
    clear hbad
    go_wp2_with fail
    go_ret
    exact ⟨by rw [← HR.out]; rfl, K.out⟩
  simp only [Bool.or_eq_false_iff, decide_eq_false_iff_not] at hbad
  obtain ⟨⟨⟨b1, b2⟩, b3⟩, b4⟩ := hbad
  rw [Bool.not_false, Bool.true_and] at hr
  have hb6 : (0 < m.num ∧ m.kind = 1) ∨ ¬ 0 < m.num := by
    by_cases h : 0 < m.num
    · left; refine ⟨h, ?_⟩; simpa [h] using b4
    · exact .inr h
  clear b4
  have b1' : decide (m.kind < 1) = false := decide_eq_false b1
  have b2' : decide (3 < m.kind) = false := decide_eq_false b2
  have b3' : decide (m.num < 0) = false := decide_eq_false b3
  have CS := Lib.hid (values_c _ f t (.slice V m.vals.length cv) m.vals at_ w1 (HC.out.below K.out) (HV.out.below K.out))
  by_cases hlen : m.vals.length ≤ 100
  case neg =>
    have hln : ¬ (m.vals.length : Int) ≤ 100 := by omega
    have HR : Hid (false = r) := by rw [← hr, decide_eq_false hlen]; rfl
    clear hr
    rcases hb6 with ⟨b5, b6⟩ | b5
    · rw [b6] at e1
      clear b1 b2 b1' b2'
      go_wp2_with fail
      go_ret
      exact ⟨by rw [← HR.out]; rfl, K.out⟩
    · go_wp2_with fail
      go_ret
      exact ⟨by rw [← HR.out]; rfl, K.out⟩
  have hln : (m.vals.length : Int) ≤ 100 := by omega
  rw [decide_eq_true hlen, Bool.true_and] at hr
  rw [hr] at CS
  clear hr
  rcases hb6 with ⟨b5, b6⟩ | b5
  · rw [b6] at e1
    clear b1 b2 b1' b2'
    go_wp2_with (refine wpList_load_on 68 _ rfl rfl w.heap.size 0 rfl cs _ HB1.out Tryd.underlying68 rfl HI.out ?_)
    refine CS.out.mono ?_
    rintro e w2 ⟨rfl, k2⟩
    have K2 := Lib.hid (K.out.trans (k2.mono K.out.size))
    clear k2
    go_wp2_with fail
    go_ret
    exact ⟨rfl, K2.out⟩
  · go_wp2_with (refine wpList_load_on 68 _ rfl rfl w.heap.size 0 rfl cs _ HB1.out Tryd.underlying68 rfl HI.out ?_)
    refine CS.out.mono ?_
    rintro e w2 ⟨rfl, k2⟩
    have K2 := Lib.hid (K.out.trans (k2.mono K.out.size))
    clear k2
    go_wp2_with fail
    go_ret
    exact ⟨rfl, K2.out⟩
end Go.Proofs.YtmccomeihnaanaaDoor
