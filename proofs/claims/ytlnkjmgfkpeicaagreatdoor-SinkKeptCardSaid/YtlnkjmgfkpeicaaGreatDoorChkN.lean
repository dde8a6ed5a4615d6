/- ir.checker's methods: value, values. ir.checker's methods: values, make. ir.checker's methods: make. ir.checker's methods: right. ir.bare. -/
import Derived.Test.YtlnkjmgfkpeicaaGreatDoorChk
import Derived.Test.YtlnkjmgfkpeicaaGreatDoorCheckN
import Derived.Test.YtlnkjmgfkpeicaaGreatDoorIrT
import Derived.Deep.MidRow
namespace Go.Proofs.YtlnkjmgfkpeicaaGreatDoor
open Go.RowKit

def CheckR (w : World) (B : Nat) (cs : List Value) (f : CFn) (t : TTrace) : Prop := ∃ fc tc, cs = fc ++ tc ∧ FnR w B fc f ∧ TraceR w B tc t
theorem CheckR.keep {w w' : World} {B B' : Nat} {cs : List Value} {f : CFn} {t : TTrace} (h : CheckR w B cs f t) (hB : B ≤ B') (hk : ∀ p : Addr, p.block < B → w'.cell? p = w.cell? p) : CheckR w' B' cs f t := by
  obtain ⟨fc, tc, h1, h2, h3⟩ := h
  exact ⟨fc, tc, h1, h2.keep hB hk, h3.keep hB hk⟩
theorem CheckR.below {w w' : World} {cs : List Value} {f : CFn} {t : TTrace} (h : CheckR w w.heap.size cs f t) (k : Below w.heap.size w w') : CheckR w' w'.heap.size cs f t := h.keep k.size (fun _ h => k.cell h)
theorem CheckR.cells {w : World} {B : Nat} {cs : List Value} {f : CFn} {t : TTrace} (h : CheckR w B cs f t) : ∃ A4 n4 A5 n5 Ai ni Ae ne s1 m1 s2 m2,
    cs = [.int .i64 f.params, .int .i64 f.regs, .bool f.gen, .slice A4 f.caught.length n4, .slice A5 f.code.length n5, .int .i64 t.fn, .int .i64 t.at_, .int .i64 t.loop, .slice Ai t.ins.length ni, .slice Ae t.exits.length ne,
      .int .i64 t.turn.at_, .int .i64 t.turn.steps, s1, m1, .int .i64 t.back.at_, .int .i64 t.back.steps, s2, m2] ∧
    SliceR w B 5 CInsR (.slice A5 f.code.length n5) f.code ∧ SliceR w B 8 InsR (.slice Ai t.ins.length ni) t.ins ∧ SliceR w B 4 (ExitR w B) (.slice Ae t.exits.length ne) t.exits := by
  obtain ⟨fc, tc, rfl, ⟨A4, n4, A5, n5, rfl, q4, q5, -⟩, ⟨i, e, ct, cb, rfl, hi, he, ⟨s1, m1, rfl, -⟩, ⟨s2, m2, rfl, -⟩, -⟩⟩ := h
  obtain ⟨Ai, ni, rfl, -⟩ := id hi
  obtain ⟨Ae, ne, rfl, -⟩ := id he
  exact ⟨A4, n4, A5, n5, Ai, ni, Ae, ne, s1, m1, s2, m2, rfl, q5, hi, he⟩

set_option maxHeartbeats 1000000 in
set_option maxRecDepth 100000 in
theorem value_c (cs : List Value) (f : CFn) (t : TTrace) (v at_ : Int) (w : World) (h : CheckR w w.heap.size cs f t) :
    Calls Tryz.prog 29 #[.agg ⟨cs⟩, .int .i64 v, .int .i64 at_] w (Gives (.bool (valueM t.ins v at_)) w) := by
  obtain ⟨r, hr⟩ : ∃ r, valueM t.ins v at_ = r := ⟨_, rfl⟩
  rw [hr]
  unfold valueM at hr
  obtain ⟨A4, n4, A5, n5, Ai, ni, Ae, ne, s1, m1, s2, m2, rfl, -, q, -⟩ := h.cells
  have ll := len_le q
  clear h
  by_cases h1 : 0 ≤ v
  case neg =>
    have HR : Hid (false = r) := by rw [← hr, decide_eq_false h1]; rfl
    clear hr q
    go_enter Tryz.func29, Tryz.ntmps29
    go_wp2_with fail
    go_ret
    exact ⟨by rw [← HR.out]; rfl, below_one w _⟩
  rw [decide_eq_true h1, Bool.true_and] at hr
  by_cases h2 : v < at_
  case neg =>
    have HR : Hid (false = r) := by rw [← hr, decide_eq_false h2]; rfl
    clear hr q
    go_enter Tryz.func29, Tryz.ntmps29
    go_wp2_with fail
    go_ret
    exact ⟨by rw [← HR.out]; rfl, below_one w _⟩
  rw [decide_eq_true h2, Bool.true_and] at hr
  by_cases h3 : v < t.ins.length
  case neg =>
    have HR : Hid (false = r) := by rw [← hr, decide_eq_false h3]; rfl
    clear hr q
    go_enter Tryz.func29, Tryz.ntmps29
    go_wp2_with fail
    go_ret
    exact ⟨by rw [← HR.out]; rfl, below_one w _⟩
  rw [decide_eq_true h3, Bool.true_and] at hr
  obtain ⟨k, rfl⟩ := Int.eq_ofNat_of_zero_le h1
  have hk : k < t.ins.length := by omega
  obtain ⟨b, off, x, rfl, hb, hx, -, hat⟩ := ins_op q hk
  have g0 : w.cell? ⟨b, off + k * 8, none⟩ = some (.int .i64 x.op) := by have := hat 0 _ rfl; simpa using this
  have HR : Hid (tellsM x.op = r) := by rw [← hr]; unfold opOf Hid; rw [Int.toNat_natCast, hx]; rfl
  clear hr q hx hat
  obtain ⟨w0, hw0⟩ : ∃ w0, w0 = w.alloc (.cells #[.int .i64 f.params, .int .i64 f.regs, .bool f.gen, .slice A4 f.caught.length n4, .slice A5 f.code.length n5, .int .i64 t.fn, .int .i64 t.at_, .int .i64 t.loop, .slice (some ⟨b, off, none⟩) t.ins.length ni, .slice Ae t.exits.length ne,
      .int .i64 t.turn.at_, .int .i64 t.turn.steps, s1, m1, .int .i64 t.back.at_, .int .i64 t.back.steps, s2, m2] 59) := ⟨_, rfl⟩
  have k0 : Hid (Below w.heap.size w w0) := by rw [hw0]; exact below_one w _
  have HW := Lib.hid hw0
  clear hw0
  go_enter Tryz.func29, Tryz.ntmps29
  go_wp2_with fail
  rw [← HW.out]
  refine (tells_c _ _).mono ?_
  rintro e w1 ⟨rfl, k1⟩
  have K1 := Lib.hid (k0.out.trans (k1.mono k0.out.size))
  clear k1
  go_wp2_with fail
  go_ret
  exact ⟨by rw [← HR.out]; rfl, K1.out⟩
end Go.Proofs.YtlnkjmgfkpeicaaGreatDoor
namespace Go.Proofs.YtlnkjmgfkpeicaaGreatDoor
open Go.RowKit

theorem all_not {α : Type} {p : α → Bool} {l : List α} {k : Nat} {x : α} (hx : l[k]? = some x) (hp : p x = false) : l.all p = false := by
  rw [List.all_eq_false]
  exact ⟨x, List.mem_of_getElem? hx, by simp [hp]⟩
theorem all_yes {α : Type} {p : α → Bool} {l : List α} {k : Nat} (hk : k = l.length) (h : ∀ i x, i < k → l[i]? = some x → p x = true) : l.all p = true := by
  rw [List.all_eq_true]
  intro x hx
  obtain ⟨i, hi⟩ := List.getElem?_of_mem hx
  exact h i x (by have := (List.getElem?_eq_some_iff.1 hi).1; omega) hi
theorem upto_next {α : Type} {p : α → Bool} {l : List α} {k : Nat} {x : α} (h : ∀ i x, i < k → l[i]? = some x → p x = true) (hx : l[k]? = some x) (hp : p x = true) : ∀ i y, i < k + 1 → l[i]? = some y → p y = true := fun i y hi hy => by
  rcases Nat.lt_or_ge i k with h1 | h1
  · exact h i y h1 hy
  · have : i = k := by omega
    subst this
    rw [hx] at hy
    injection hy with hy
    exact hy ▸ hp

/-- the load of a whole struct, guarded or not -/
theorem wpList_load_on {P : Program} {ops : Array Oper} {rest : List Oper} {op : Oper} {a : Act} {w : World} {Q : Exit → Act → World → Prop} (ty : TypeId) (x : Operand) (ho : op.op = .load ty x)
    (hgd : Region.wanted op (yielded ops a.tmps) = true)
    (b o : Nat) (hx : a.eval x = .pointer (some ⟨b, o, none⟩)) (cs : List Value) (d : TypeDesc) (hc : w.rangeAt b o cs)
    (hu : P.underlying ty = some d) (hd : d.isRow = true) (hi : (P.info? ty).map (·.size) = some cs.length)
    (h : wpList P ops Q rest (a.put op.dst (.agg cs.toArray)) w) : wpList P ops Q (op :: rest) a w :=
  wpList_step fun K hK => by rw [if_pos hgd]; exact wp_load_mid ty x ho b o hx cs d hc hu hd hi (hK _ _ h)
theorem infoCheck : (Tryz.prog.info? 59).map (·.size) = some 18 := by kernel_rfl
theorem CheckR.len {w : World} {B : Nat} {cs : List Value} {f : CFn} {t : TTrace} (h : CheckR w B cs f t) : (Tryz.prog.info? 59).map (·.size) = some cs.length := by
  obtain ⟨A4, n4, A5, n5, Ai, ni, Ae, ne, s1, m1, s2, m2, rfl, -⟩ := h.cells
  exact infoCheck
theorem HeadAt.range {w : World} {g : Nat} {cs : List Value} (h : HeadAt w g cs) : w.rangeAt g 0 cs := fun j v hv => by rw [Nat.zero_add]; exact h j v hv

set_option maxHeartbeats 2000000 in
set_option maxRecDepth 100000 in
theorem values_c (cs : List Value) (f : CFn) (t : TTrace) (v : Value) (l : List Int) (at_ : Int) (w : World) (h : CheckR w w.heap.size cs f t) (hl : SliceR w w.heap.size 1 IntR v l) :
    Calls Tryz.prog 27 #[.agg ⟨cs⟩, v, .int .i64 at_] w (Gives (.bool (valuesM t.ins l at_)) w) := by
  obtain ⟨r, hr⟩ : ∃ r, valuesM t.ins l at_ = r := ⟨_, rfl⟩
  rw [hr]
  have HR := Lib.hid hr
  clear hr
  have HC := Lib.hid h
  have HS := Lib.hid hl
  obtain ⟨A, cap, rfl, l1, l2, -⟩ := hl
  unfold maxLen at l2
  obtain ⟨w0, hw0⟩ : ∃ w0, w0 = w.alloc (.cells ⟨cs⟩ 59) := ⟨_, rfl⟩
  have k0 : Hid (Below w.heap.size w w0) := by rw [hw0]; exact below_one w _
  have H0 : Hid (HeadAt w0 w.heap.size cs) := by rw [hw0]; exact HeadAt.box _ _ _
  have hz : w.heap.size < w0.heap.size := by rw [hw0]; simp
  have HI := Lib.hid h.len
  have HW := Lib.hid hw0
  clear hw0 h
  go_enter Tryz.func27, Tryz.ntmps27
  go_wp2_with fail
  rw [← HW.out]
  go_loopw [11] (fun k wr => ∃ kn : Nat, k = .int .i64 kn ∧ kn ≤ l.length ∧ Hid (∀ i x, i < kn → l[i]? = some x → valueM t.ins x at_ = true) ∧ Hid (Below w0.heap.size w0 wr)) (fun k _ => l.length - (RowKit.intOf k).toNat)
  case atStart => exact ⟨0, rfl, by omega, fun i x hi _ => by omega, Below.refl _ _⟩
  case round =>
    obtain ⟨kn, rfl, hk, KP, KW⟩ := hrel
    by_cases hlt : kn < l.length
    · obtain ⟨b, off, x, ys, rfl, hb, hx0, hcl, hR, hat⟩ := HS.out.at_ hlt
      obtain ⟨rfl, hwx⟩ := hR
      have hi1 : (kn : Int) < l.length := by omega
      have kk := Lib.hid (k0.out.trans (KW.out.mono k0.out.size))
      have g0 : wr.cell? ⟨b, off + kn, none⟩ = some (.int .i64 x) := (kk.out.cell hb).trans (by simpa using hat 0 _ rfl)
      have h0 := Lib.hid (H0.out.on KW.out).range
      have HX := Lib.hid hx0
      have C := Lib.hid (value_c _ f t x at_ wr (HC.out.below kk.out))
      obtain ⟨q, hq⟩ : ∃ q, valueM t.ins x at_ = q := ⟨_, rfl⟩
      rw [hq] at C
      have HQ := Lib.hid hq
      clear hx0 hat hcl hq
      cases q
      · have HN : Hid (false = r) := by rw [← HR.out, valuesM, all_not HX.out HQ.out]; rfl
        go_wp2_with (refine wpList_load_mid rfl 59 _ rfl w.heap.size 0 rfl cs _ h0.out Tryz.underlying59 rfl HI.out ?_)
        refine C.out.mono ?_
        rintro e w2 ⟨rfl, k2⟩
        have K2 := Lib.hid (kk.out.trans (k2.mono kk.out.size))
        clear k2
        go_wp2_with fail
        go_ret
        exact ⟨by rw [← HN.out]; rfl, K2.out⟩
      · go_wp2_with (refine wpList_load_mid rfl 59 _ rfl w.heap.size 0 rfl cs _ h0.out Tryz.underlying59 rfl HI.out ?_)
        refine C.out.mono ?_
        rintro e w2 ⟨rfl, k2⟩
        have K2 := Lib.hid (KW.out.trans (k2.mono KW.out.size))
        clear k2 g0
        go_wp2_with fail
        go_roundw
        case rel => exact ⟨kn + 1, by go_num, by omega, upto_next KP.out HX.out HQ.out, K2⟩
        case measure => simp [RowKit.intOf]; omega
    · have hke : kn = l.length := by omega
      have HN : Hid (true = r) := by rw [← HR.out, valuesM, all_yes hke KP.out]; rfl
      clear hke
      go_wp2_with fail
      go_ret
      exact ⟨by rw [← HN.out]; rfl, k0.out.trans (KW.out.mono k0.out.size)⟩
end Go.Proofs.YtlnkjmgfkpeicaaGreatDoor
namespace Go.Proofs.YtlnkjmgfkpeicaaGreatDoor
open Go.RowKit

theorem two_box (w : World) (A B : List Value) (t u : TypeId) : HeadAt ((w.alloc (.cells ⟨A⟩ t)).alloc (.cells ⟨B⟩ u)) w.heap.size A ∧ HeadAt ((w.alloc (.cells ⟨A⟩ t)).alloc (.cells ⟨B⟩ u)) (w.heap.size + 1) B ∧ Below w.heap.size w ((w.alloc (.cells ⟨A⟩ t)).alloc (.cells ⟨B⟩ u)) := by
  refine ⟨(HeadAt.box w A t).old _, ?_, below_two' w _ _⟩
  have := HeadAt.box (w.alloc (.cells ⟨A⟩ t)) B u
  rwa [World.size_alloc] at this
theorem valueM_lt {ins : List TIns} {v at_ : Int} (h : valueM ins v at_ = true) : ∃ k : Nat, v = k ∧ (k : Int) < at_ ∧ k < ins.length ∧ tellsM (opOf ins v) = true := by
  unfold valueM at h
  simp only [Bool.and_eq_true, decide_eq_true_eq] at h
  obtain ⟨⟨⟨h1, h2⟩, h3⟩, h4⟩ := h
  obtain ⟨k, rfl⟩ := Int.eq_ofNat_of_zero_le h1
  exact ⟨k, rfl, h2, by omega, h4⟩

theorem CheckR.at8 {w : World} {B : Nat} {cs : List Value} {f : CFn} {t : TTrace} (h : CheckR w B cs f t) : ∃ Ai ni, cs[8]? = some (.slice Ai t.ins.length ni) ∧ SliceR w B 8 InsR (.slice Ai t.ins.length ni) t.ins := by
  obtain ⟨A4, n4, A5, n5, Ai, ni, Ae, ne, s1, m1, s2, m2, rfl, -, h, -⟩ := h.cells
  exact ⟨Ai, ni, rfl, h⟩

set_option maxHeartbeats 4000000 in
set_option maxRecDepth 100000 in
theorem make_c (cs ms : List Value) (f : CFn) (t : TTrace) (m : TMake) (at_ : Int) (w : World) (h : CheckR w w.heap.size cs f t) (hm : MakeR w w.heap.size ms m) :
    Calls Tryz.prog 30 #[.agg ⟨cs⟩, .agg ⟨ms⟩, .int .i64 at_] w (Gives (.bool (makeM t.ins m at_)) w) := by
  obtain ⟨r, hr⟩ : ∃ r, makeM t.ins m at_ = r := ⟨_, rfl⟩
  rw [hr]
  unfold makeM at hr
  have HC := Lib.hid h
  have HI := Lib.hid h.len
  obtain ⟨Ai, ni, p8, qs⟩ := h.at8
  obtain ⟨v, rfl, hv, wc, wk, wn⟩ := hm
  obtain ⟨V, cv, rfl, hv1, hv2, -⟩ := id hv
  unfold maxLen at hv2
  have HV := Lib.hid hv
  have HQ := Lib.hid qs
  obtain ⟨w0, hw0⟩ : ∃ w0, w0 = (w.alloc (.cells ⟨cs⟩ 59)).alloc (.cells #[.int .i64 m.cell, .int .i64 m.kind, .int .i64 m.num, .slice V m.vals.length cv] 89) := ⟨_, rfl⟩
  have TB := two_box w cs [.int .i64 m.cell, .int .i64 m.kind, .int .i64 m.num, .slice V m.vals.length cv] 59 89
  rw [← hw0] at TB
  obtain ⟨t1, t2, t3⟩ := TB
  have H1 := Lib.hid t1
  have H2 := Lib.hid t2
  have k0 := Lib.hid t3
  have HW := Lib.hid hw0
  have R0 := Lib.hid H1.out.range
  have CV := Lib.hid (value_c _ f t m.cell at_ w0 (HC.out.below k0.out))
  obtain ⟨q, hq⟩ : ∃ q, valueM t.ins m.cell at_ = q := ⟨_, rfl⟩
  rw [hq] at CV hr
  have HVM := Lib.hid hq
  clear h hv hw0 t1 t2 t3 qs hq
  go_enter Tryz.func30, Tryz.ntmps30
  go_wp2_with (first | (refine wpList_load_mid rfl 59 _ rfl w.heap.size 0 rfl cs _ (by rw [← HW.out]; exact R0.out) Tryz.underlying59 rfl HI.out ?_) | fail)
  rw [← HW.out]
  refine CV.out.mono ?_
  rintro e w1 ⟨rfl, k1⟩
  have K := Lib.hid (k0.out.trans (k1.mono k0.out.size))
  cases q
  case false =>
    have HR : Hid (false = r) := by rw [← hr]; rfl
    clear hr k1
    go_wp2_with fail
    go_ret
    exact ⟨by rw [← HR.out]; rfl, K.out⟩
  rw [Bool.true_and] at hr
  obtain ⟨k, hk, -, hlt, -⟩ := valueM_lt HVM.out
  obtain ⟨b, off, x, rfl, hb, hx, -, hat⟩ := ins_op HQ.out hlt
  have g0 : w1.cell? ⟨b, off + k * 8, none⟩ = some (.int .i64 x.op) := (K.out.cell hb).trans (by have := hat 0 _ rfl; simpa using this)
  have d8 := (H1.out.on k1) 8 _ p8
  have e0 := (H2.out.on k1) 0 _ rfl
  have e1 := (H2.out.on k1) 1 _ rfl
  have e2 := (H2.out.on k1) 2 _ rfl
  have e3 := (H2.out.on k1) 3 _ rfl
  have ll := len_le HQ.out
  have hop : opOf t.ins m.cell = x.op := by unfold opOf; rw [hk, Int.toNat_natCast, hx]; rfl
  rw [hop] at hr
  have hE1 := Lib.hid e1
  have hE2 := Lib.hid e2
  have hE3 := Lib.hid e3
  rw [hk] at e0
  have HB1 := Lib.hid (H1.out.on k1).range
  clear k1 hop hat hx
  by_cases ho : x.op = 18
  case neg =>
    have HR : Hid (false = r) := by rw [← hr, beq_eq_false_iff_ne.2 ho]; rfl
    clear hr
    go_wp2_with fail
    go_ret
    exact ⟨by rw [← HR.out]; rfl, K.out⟩
  rw [ho, show ((18 : Int) == 18) = true from rfl, Bool.true_and] at hr
  rw [ho] at g0
  obtain ⟨bad, hbad⟩ : ∃ bad, (decide (m.kind < 1) || decide (3 < m.kind) || decide (m.num < 0) || (decide (0 < m.num) && m.kind != 1)) = bad := ⟨_, rfl⟩
  rw [hbad] at hr
  cases bad
  case true =>
    have HR : Hid (false = r) := by rw [← hr]; rfl
    clear hr
    by_cases b1 : m.kind < 1
    · clear hbad
      go_wp2_with fail
      go_ret
      exact ⟨by rw [← HR.out]; rfl, K.out⟩
    by_cases b2 : 3 < m.kind
    · clear hbad
      go_wp2_with fail
      go_ret
      exact ⟨by rw [← HR.out]; rfl, K.out⟩
    by_cases b3 : m.num < 0
    · clear hbad
      go_wp2_with fail
      go_ret
      exact ⟨by rw [← HR.out]; rfl, K.out⟩
    have b4 : 0 < m.num ∧ (m.kind != 1) = true := by simpa [b1, b2, b3] using hbad
    obtain ⟨b4, b5⟩ := b4
    clear hbad
    go_wp2_with fail
    go_ret
    exact ⟨by rw [← HR.out]; rfl, K.out⟩
  simp only [Bool.or_eq_false_iff, decide_eq_false_iff_not] at hbad
  obtain ⟨⟨⟨b1, b2⟩, b3⟩, b4⟩ := hbad
  rw [Bool.not_false, Bool.true_and] at hr
  have hb6 : (0 < m.num ∧ m.kind = 1) ∨ ¬ 0 < m.num := by
    by_cases h : 0 < m.num
    · left; refine ⟨h, ?_⟩; simpa [h] using b4
    · exact .inr h
  clear b4
  have b1' : decide (m.kind < 1) = false := decide_eq_false b1
  have b2' : decide (3 < m.kind) = false := decide_eq_false b2
  have b3' : decide (m.num < 0) = false := decide_eq_false b3
  have CS := Lib.hid (values_c _ f t (.slice V m.vals.length cv) m.vals at_ w1 (HC.out.below K.out) (HV.out.below K.out))
  by_cases hlen : m.vals.length ≤ 100
  case neg =>
    have hln : ¬ (m.vals.length : Int) ≤ 100 := by omega
    have HR : Hid (false = r) := by rw [← hr, decide_eq_false hlen]; rfl
    clear hr
    rcases hb6 with ⟨b5, b6⟩ | b5
    · rw [b6] at e1
      clear b1 b2 b1' b2'
      go_wp2_with fail
      go_ret
      exact ⟨by rw [← HR.out]; rfl, K.out⟩
    · go_wp2_with fail
      go_ret
      exact ⟨by rw [← HR.out]; rfl, K.out⟩
  have hln : (m.vals.length : Int) ≤ 100 := by omega
  rw [decide_eq_true hlen, Bool.true_and] at hr
  rw [hr] at CS
  clear hr
  rcases hb6 with ⟨b5, b6⟩ | b5
  · rw [b6] at e1
    clear b1 b2 b1' b2'
    go_wp2_with (refine wpList_load_on 59 _ rfl rfl w.heap.size 0 rfl cs _ HB1.out Tryz.underlying59 rfl HI.out ?_)
    refine CS.out.mono ?_
    rintro e w2 ⟨rfl, k2⟩
    have K2 := Lib.hid (K.out.trans (k2.mono K.out.size))
    clear k2
    go_wp2_with fail
    go_ret
    exact ⟨rfl, K2.out⟩
  · go_wp2_with (refine wpList_load_on 59 _ rfl rfl w.heap.size 0 rfl cs _ HB1.out Tryz.underlying59 rfl HI.out ?_)
    refine CS.out.mono ?_
    rintro e w2 ⟨rfl, k2⟩
    have K2 := Lib.hid (K.out.trans (k2.mono K.out.size))
    clear k2
    go_wp2_with fail
    go_ret
    exact ⟨rfl, K2.out⟩
end Go.Proofs.YtlnkjmgfkpeicaaGreatDoor
namespace Go.Proofs.YtlnkjmgfkpeicaaGreatDoor
open Go.RowKit

theorem CheckR.at1 {w : World} {B : Nat} {cs : List Value} {f : CFn} {t : TTrace} (h : CheckR w B cs f t) : cs[1]? = some (.int .i64 f.regs) ∧ ∃ A5 n5, cs[4]? = some (.slice A5 f.code.length n5) ∧ f.code.length ≤ 9223372036854775807 := by
  obtain ⟨A4, n4, A5, n5, Ai, ni, Ae, ne, s1, m1, s2, m2, rfl, h, -⟩ := h.cells
  exact ⟨rfl, A5, n5, rfl, len_le h⟩
theorem drop_at {α : Type} {l : List α} {k : Nat} {x : α} (h : l[k]? = some x) : l.drop k = x :: l.drop (k + 1) := by
  obtain ⟨h1, h2⟩ := List.getElem?_eq_some_iff.1 h
  rw [← h2]
  exact List.drop_eq_getElem_cons h1
def fnOf (f : CFn) : FnM := ⟨f.regs, f.code.length⟩

set_option maxHeartbeats 4000000 in
set_option maxRecDepth 100000 in
theorem right_e (cs xs : List Value) (f : CFn) (t : TTrace) (x : TExit) (at_ : Int) (w : World) (h : CheckR w w.heap.size cs f t) (hx : ExitR w w.heap.size xs x) :
    Calls Tryz.prog 16 #[.agg ⟨cs⟩, .agg ⟨xs⟩, .int .i64 at_] w (Gives (.bool (rightM (fnOf f) t.ins x at_)) w) := by
  obtain ⟨r, hr⟩ : ∃ r, rightM (fnOf f) t.ins x at_ = r := ⟨_, rfl⟩
  rw [hr]
  unfold rightM fnOf at hr
  dsimp only at hr
  have HC := Lib.hid h
  have HI := Lib.hid h.len
  obtain ⟨Ai, ni, p8, qs⟩ := h.at8
  obtain ⟨p1, A5, n5, p4, l5⟩ := h.at1
  obtain ⟨s, m, rfl, hs, hm, wa, ws⟩ := hx
  have HS := Lib.hid hs
  have HM := Lib.hid hm
  obtain ⟨S, cS, rfl, ls1, ls2, -⟩ := hs
  obtain ⟨M, cM, rfl, lm1, lm2, -⟩ := hm
  unfold maxLen at ls2 lm2
  obtain ⟨w0, hw0⟩ : ∃ w0, w0 = (w.alloc (.cells ⟨cs⟩ 59)).alloc (.cells #[.int .i64 x.at_, .int .i64 x.steps, .slice S x.sets.length cS, .slice M x.makes.length cM] 32) := ⟨_, rfl⟩
  have TB := two_box w cs [.int .i64 x.at_, .int .i64 x.steps, .slice S x.sets.length cS, .slice M x.makes.length cM] 59 32
  rw [← hw0] at TB
  obtain ⟨t1, t2, t3⟩ := TB
  have H1 := Lib.hid t1
  have H2 := Lib.hid t2
  have k0 := Lib.hid t3
  have HW := Lib.hid hw0
  clear h hw0 t1 t2 t3 qs p1 p8
  by_cases b1 : x.at_ < 0
  · have HR : Hid (false = r) := by rw [← hr]; simp [b1, Hid]
    clear hr
    go_enter Tryz.func16, Tryz.ntmps16
    go_wp2_with fail
    go_ret
    exact ⟨by rw [← HR.out]; rfl, by rw [← HW.out]; exact k0.out⟩
  by_cases b2 : (f.code.length : Int) ≤ x.at_
  · have HR : Hid (false = r) := by rw [← hr]; simp [b2, Hid]
    clear hr
    go_enter Tryz.func16, Tryz.ntmps16
    go_wp2_with fail
    go_ret
    exact ⟨by rw [← HR.out]; rfl, by rw [← HW.out]; exact k0.out⟩
  by_cases b3 : x.steps < 0
  · have HR : Hid (false = r) := by rw [← hr]; simp [b3, Hid]
    clear hr
    go_enter Tryz.func16, Tryz.ntmps16
    go_wp2_with fail
    go_ret
    exact ⟨by rw [← HR.out]; rfl, by rw [← HW.out]; exact k0.out⟩
  by_cases b4 : 200 < x.steps
  · have HR : Hid (false = r) := by rw [← hr]; simp [b4, Hid]
    clear hr
    go_enter Tryz.func16, Tryz.ntmps16
    go_wp2_with fail
    go_ret
    exact ⟨by rw [← HR.out]; rfl, by rw [← HW.out]; exact k0.out⟩
  rw [decide_eq_false b1, decide_eq_false b2, decide_eq_false b3, decide_eq_false b4, Bool.or_false, Bool.or_false, Bool.or_false, Bool.not_false, Bool.true_and] at hr
  have HR := Lib.hid hr
  have P := Lib.hid p4
  clear hr
  go_enter Tryz.func16, Tryz.ntmps16
  go_wp2_with fail
  rw [← HW.out]
  clear p4 b1 b2 b3 b4
  go_loopw [37, 7] (fun k la wr => ∃ (kn : Nat) (l0 : Int), k = .int .i64 kn ∧ la = .int .i64 l0 ∧ kn ≤ x.sets.length ∧ Hid (setsM f.regs t.ins at_ l0 (x.sets.drop kn) = setsM f.regs t.ins at_ (-1) x.sets) ∧ Hid (Below w0.heap.size w0 wr)) (fun k _ _ => x.sets.length - (RowKit.intOf k).toNat)
  case atStart => exact ⟨0, -1, rfl, rfl, by omega, rfl, Below.refl _ _⟩
  case round =>
    obtain ⟨kn, l0, rfl, rfl, hk, KP, KW⟩ := hrel
    by_cases hlt : kn < x.sets.length
    · obtain ⟨b, off, y, ys, rfl, hb, hy, hcl, hR, hat⟩ := HS.out.at_ hlt
      obtain ⟨rfl, wy1, wy2⟩ := hR
      have hi1 : (kn : Int) < x.sets.length := by omega
      have kk := Lib.hid (k0.out.trans (KW.out.mono k0.out.size))
      have hz : w.heap.size < wr.heap.size := by have := cell_lt (H1.out 4 _ P.out); exact Nat.lt_of_lt_of_le this KW.out.size
      have hbr : b < wr.heap.size := by omega
      have g0 : wr.cell? ⟨b, off + kn * 2, none⟩ = some (.int .i64 y.reg) := (kk.out.cell hb).trans (hat 0 _ rfl)
      have g1 : wr.cell? ⟨b, off + kn * 2 + 1, none⟩ = some (.int .i64 y.val) := (kk.out.cell hb).trans (hat 1 _ rfl)
      have d1 : wr.cell? ⟨w.heap.size, 1, none⟩ = some (.int .i64 f.regs) := cell_on KW.out (H1.out 1 _ HC.out.at1.1)
      have HB := Lib.hid (H1.out.on KW.out)
      have HY : Hid (setsM f.regs t.ins at_ (-1) x.sets = (decide (l0 < y.reg) && decide (y.reg < f.regs) && valueM t.ins y.val at_ && setsM f.regs t.ins at_ y.reg (x.sets.drop (kn + 1)))) := by rw [← KP.out, drop_at hy]; rfl
      clear hy hat hcl
      by_cases c1 : l0 < y.reg
      case neg =>
        have HN : Hid (false = r) := by rw [← HR.out, HY.out, decide_eq_false c1]; rfl
        have c1' : y.reg ≤ l0 := by omega
        go_wp2_with fail
        go_ret
        exact ⟨by rw [← HN.out]; rfl, (by repeat (first | exact kk.out | refine Below.drew ?_ | refine Below.setCell ?_ (by first | omega | (simp; omega)) _ | refine Below.alloc ?_ (by first | omega | (simp; omega)) _))⟩
      by_cases c2 : y.reg < f.regs
      case neg =>
        have HN : Hid (false = r) := by rw [← HR.out, HY.out, decide_eq_false c2, Bool.and_false]; rfl
        have c1' : ¬ y.reg ≤ l0 := by omega
        have c2' : f.regs ≤ y.reg := by omega
        go_wp2_with fail
        go_ret
        exact ⟨by rw [← HN.out]; rfl, (by repeat (first | exact kk.out | refine Below.drew ?_ | refine Below.setCell ?_ (by first | omega | (simp; omega)) _ | refine Below.alloc ?_ (by first | omega | (simp; omega)) _))⟩
      have CV : Hid (∀ W, Below wr.heap.size wr W → Calls Tryz.prog 29 #[.agg ⟨cs⟩, .int .i64 y.val, .int .i64 at_] W (fun e w2 => e = .returned (.bool (valueM t.ins y.val at_)) ∧ Below wr.heap.size wr w2 ∧ Below W.heap.size W w2)) := fun W kW =>
        (value_c cs f t y.val at_ W (HC.out.below (kk.out.trans (kW.mono kk.out.size)))).mono fun e w2 ⟨h1, h2⟩ => ⟨h1, kW.trans (h2.mono kW.size), h2⟩
      obtain ⟨q, hq⟩ : ∃ q, valueM t.ins y.val at_ = q := ⟨_, rfl⟩
      rw [hq] at CV HY
      have c1' : ¬ y.reg ≤ l0 := by omega
      have c2' : ¬ f.regs ≤ y.reg := by omega
      clear hq
      go_wp2_with (refine wpList_load_on 59 _ rfl rfl w.heap.size 0 rfl cs _ ((HB.out.on (by repeat (first | exact Below.refl _ _ | refine Below.drew ?_ | refine Below.setCell ?_ (by simp) _ | refine Below.alloc ?_ (by simp) _))).range) Tryz.underlying59 rfl HI.out ?_)
      refine (CV.out _ (by repeat (first | exact Below.refl _ _ | refine Below.drew ?_ | refine Below.setCell ?_ (by simp) _ | refine Below.alloc ?_ (by simp) _))).mono ?_
      rintro e w2 ⟨rfl, k2, k3⟩
      have K2 := Lib.hid (KW.out.trans (k2.mono KW.out.size))
      have g2 := cell_on k3 (a := ⟨wr.heap.size, 0, none⟩) (v := .int .i64 y.reg) (one_cell _ _ _ _)
      clear k2 k3 g0 g1 d1
      cases q
      case false =>
        have HN : Hid (false = r) := by rw [← HR.out, HY.out, Bool.and_false]; rfl
        go_wp2_with fail
        go_ret
        exact ⟨by rw [← HN.out]; rfl, k0.out.trans (K2.out.mono k0.out.size)⟩
      go_wp2_with fail
      go_roundw
      case rel => exact ⟨kn + 1, y.reg, by go_num, rfl, by omega, by rw [HY.out, decide_eq_true c1, decide_eq_true c2]; rfl, K2.out⟩
      case measure => simp [RowKit.intOf]; omega
    · have hke : x.sets.drop kn = [] := List.drop_eq_nil_of_le (by omega)
      have HR2 : Hid (makesM t.ins at_ (-1) x.makes = r) := by
        have e := KP.out
        rw [hke] at e
        rw [← HR.out, ← e]; rfl
      have e3 := cell_on KW.out (H2.out 3 _ rfl)
      clear KP hke
      go_wp2_with fail
      clear e3
      go_loopw [67, 7] (fun k la wx => ∃ (jn : Nat) (l0 : Int), k = .int .i64 jn ∧ la = .int .i64 l0 ∧ jn ≤ x.makes.length ∧ Hid (makesM t.ins at_ l0 (x.makes.drop jn) = makesM t.ins at_ (-1) x.makes) ∧ Hid (Below w0.heap.size w0 wx)) (fun k _ _ => x.makes.length - (RowKit.intOf k).toNat)
      case atStart => exact ⟨0, -1, rfl, rfl, by omega, rfl, KW.out⟩
      case round =>
        rename_i wq
        clear KW hlt
        obtain ⟨jn, l0, rfl, rfl, hk, KP, KW⟩ := hrel
        by_cases hlt : jn < x.makes.length
        · obtain ⟨b, off, y, ys, rfl, hb, hy, hcl, hR, hat⟩ := HM.out.at_ hlt
          have HY0 := Lib.hid hR
          obtain ⟨v, rfl, hv, -⟩ := hR
          obtain ⟨V, cv, rfl, -⟩ := hv
          have hi1 : (jn : Int) < x.makes.length := by omega
          have kk := Lib.hid (k0.out.trans (KW.out.mono k0.out.size))
          have hz : w.heap.size < wr.heap.size := by have := cell_lt (H1.out 4 _ P.out); exact Nat.lt_of_lt_of_le this KW.out.size
          have hbr : b < wr.heap.size := by omega
          have g0 : wr.cell? ⟨b, off + jn * 4, none⟩ = some (.int .i64 y.cell) := (kk.out.cell hb).trans (hat 0 _ rfl)
          have g1 : wr.cell? ⟨b, off + jn * 4 + 1, none⟩ = some (.int .i64 y.kind) := (kk.out.cell hb).trans (hat 1 _ rfl)
          have g2 : wr.cell? ⟨b, off + jn * 4 + 2, none⟩ = some (.int .i64 y.num) := (kk.out.cell hb).trans (hat 2 _ rfl)
          have g3 : wr.cell? ⟨b, off + jn * 4 + 3, none⟩ = some (.slice V y.vals.length cv) := (kk.out.cell hb).trans (hat 3 _ rfl)
          have HB := Lib.hid (H1.out.on KW.out)
          have HY : Hid (makesM t.ins at_ (-1) x.makes = (decide (l0 < y.cell) && makeM t.ins y at_ && makesM t.ins at_ y.cell (x.makes.drop (jn + 1)))) := by rw [← KP.out, drop_at hy]; rfl
          clear hy hat hcl
          by_cases c1 : l0 < y.cell
          case neg =>
            have HN : Hid (false = r) := by rw [← HR2.out, HY.out, decide_eq_false c1]; rfl
            have c1' : y.cell ≤ l0 := by omega
            go_wp2_with fail
            go_ret
            exact ⟨by rw [← HN.out]; rfl, (by repeat (first | exact kk.out | refine Below.drew ?_ | refine Below.setCell ?_ (by first | omega | (simp; omega)) _ | refine Below.alloc ?_ (by first | omega | (simp; omega)) _))⟩
          have CV : Hid (∀ W, Below wr.heap.size wr W → Calls Tryz.prog 30 #[.agg ⟨cs⟩, .agg #[.int .i64 y.cell, .int .i64 y.kind, .int .i64 y.num, .slice V y.vals.length cv], .int .i64 at_] W (fun e w2 => e = .returned (.bool (makeM t.ins y at_)) ∧ Below wr.heap.size wr w2 ∧ Below W.heap.size W w2)) := fun W kW =>
            have kz := kk.out.trans (kW.mono kk.out.size)
            (make_c cs _ f t y at_ W (HC.out.below kz) (HY0.out.keep kz.size (fun _ h => kz.cell h))).mono fun e w2 ⟨h1, h2⟩ => ⟨h1, kW.trans (h2.mono kW.size), h2⟩
          obtain ⟨q, hq⟩ : ∃ q, makeM t.ins y at_ = q := ⟨_, rfl⟩
          rw [hq] at CV HY
          have c1' : ¬ y.cell ≤ l0 := by omega
          clear hq
          go_wp2_with (refine wpList_load_on 59 _ rfl rfl w.heap.size 0 rfl cs _ ((HB.out.on (by repeat (first | exact Below.refl _ _ | refine Below.drew ?_ | refine Below.setCell ?_ (by simp) _ | refine Below.alloc ?_ (by simp) _))).range) Tryz.underlying59 rfl HI.out ?_)
          refine (CV.out _ (by repeat (first | exact Below.refl _ _ | refine Below.drew ?_ | refine Below.setCell ?_ (by simp) _ | refine Below.alloc ?_ (by simp) _))).mono ?_
          rintro e w2 ⟨rfl, k2, k3⟩
          have K2 := Lib.hid (KW.out.trans (k2.mono KW.out.size))
          have g4 := cell_on k3 (a := ⟨wr.heap.size, 0, none⟩) (v := .int .i64 y.cell) (one_cell _ _ _ _)
          clear k2 k3 g0 g1 g2 g3
          cases q
          case false =>
            have HN : Hid (false = r) := by rw [← HR2.out, HY.out, Bool.and_false]; rfl
            go_wp2_with fail
            go_ret
            exact ⟨by rw [← HN.out]; rfl, k0.out.trans (K2.out.mono k0.out.size)⟩
          go_wp2_with fail
          go_roundw
          case rel => exact ⟨jn + 1, y.cell, by go_num, rfl, by omega, by rw [HY.out, decide_eq_true c1]; rfl, K2.out⟩
          case measure => simp [RowKit.intOf]; omega
        · have hke : x.makes.drop jn = [] := List.drop_eq_nil_of_le (by omega)
          have HN : Hid (true = r) := by
            have e := KP.out
            rw [hke] at e
            rw [← HR2.out, ← e]; rfl
          go_wp2_with fail
          go_ret
          exact ⟨by rw [← HN.out]; rfl, k0.out.trans (KW.out.mono k0.out.size)⟩
end Go.Proofs.YtlnkjmgfkpeicaaGreatDoor
namespace Go.Proofs.YtlnkjmgfkpeicaaGreatDoor
open Go.RowKit

/-- the load of a whole struct, in a region that draws its order (wp_region_up's quiet walk) -/
theorem wpQuiet_load_up {P : Program} {ops : Array Oper} {rest : List Oper} {o : Oper} {a : Act} {w : World} {Q : Act → Prop} (ty : TypeId) (x : Operand) (ho : o.op = .load ty x)
    (hgd : Region.wanted o (yielded ops a.tmps) = true)
    (b off : Nat) (hx : a.eval x = .pointer (some ⟨b, off, none⟩)) (cs : List Value) (d : TypeDesc) (hc : ∀ E : Up w, E.to.rangeAt b off cs)
    (hu : P.underlying ty = some d) (hd : d.isRow = true) (hi : (P.info? ty).map (·.size) = some cs.length)
    (h : wpQuiet P ops (fun w' => ∃ E : Up w, w' = E.to) Q rest (a.put o.dst (.agg cs.toArray))) : wpQuiet P ops (fun w' => ∃ E : Up w, w' = E.to) Q (o :: rest) a :=
  wpQuiet_step fun K hK => by
    rw [if_pos hgd]
    refine ⟨.agg cs.toArray, fun w' ⟨E, e⟩ => ?_, hK _ h⟩
    subst e
    unfold Oper.quietAt execOp
    simp only [ho, hx, Instr.loadAt, Instr.sureAddr, Sem.run_bind, Sem.run_pure, Result.andThen_ok, run_loadVar_mid E.to b off ty cs d (hc E) hu hd hi]
    exact ⟨rfl, rfl⟩

set_option maxHeartbeats 1000000 in
set_option maxRecDepth 100000 in
theorem bare_c (xs : List Value) (x : TExit) (w : World) (B : Nat) (w' : World) (hx : ExitR w' B xs x) : Calls Tryz.prog 15 #[.agg ⟨xs⟩] w (Gives (.bool (bareM x)) w) := by
  obtain ⟨r, hr⟩ : ∃ r, bareM x = r := ⟨_, rfl⟩
  rw [hr]
  unfold bareM at hr
  obtain ⟨s, m, rfl, hs, hm, wa, ws⟩ := hx
  obtain ⟨S, cS, rfl, ls1, ls2, -⟩ := hs
  obtain ⟨M, cM, rfl, lm1, lm2, -⟩ := hm
  unfold maxLen at ls2 lm2
  by_cases b1 : x.at_ = 0
  case neg =>
    have HR : Hid (false = r) := by rw [← hr, beq_eq_false_iff_ne.2 b1]; rfl
    have b1' : (x.at_ == 0) = false := beq_eq_false_iff_ne.2 b1
    clear hr
    go_enter Tryz.func15, Tryz.ntmps15
    go_wp2_with fail
    go_ret
    exact ⟨by rw [← HR.out]; rfl, below_one w _⟩
  rw [b1, show ((0 : Int) == 0) = true from rfl, Bool.true_and] at hr
  rw [b1]
  by_cases b2 : x.steps = 0
  case neg =>
    have HR : Hid (false = r) := by rw [← hr, beq_eq_false_iff_ne.2 b2]; rfl
    have b2' : (x.steps == 0) = false := beq_eq_false_iff_ne.2 b2
    clear hr b1
    go_enter Tryz.func15, Tryz.ntmps15
    go_wp2_with fail
    go_ret
    exact ⟨by rw [← HR.out]; rfl, below_one w _⟩
  rw [b2, show ((0 : Int) == 0) = true from rfl, Bool.true_and] at hr
  rw [b2]
  by_cases b3 : x.sets.length = 0
  case neg =>
    have e3 : x.sets.isEmpty = false := by cases h : x.sets <;> simp_all
    have HR : Hid (false = r) := by rw [← hr, e3]; rfl
    have b3' : ((x.sets.length : Int) == 0) = false := by rw [beq_eq_false_iff_ne]; omega
    have b3'' : ¬ (x.sets.length : Int) = 0 := by omega
    clear hr b1 b2
    go_enter Tryz.func15, Tryz.ntmps15
    go_wp2_with fail
    go_ret
    exact ⟨by rw [← HR.out]; rfl, below_one w _⟩
  have e3 : x.sets.isEmpty = true := by cases h : x.sets <;> simp_all
  rw [e3, Bool.true_and] at hr
  rw [b3]
  by_cases b4 : x.makes.length = 0
  case neg =>
    have e4 : x.makes.isEmpty = false := by cases h : x.makes <;> simp_all
    have HR : Hid (false = r) := by rw [← hr, e4]; exact rfl
    have b4' : ((x.makes.length : Int) == 0) = false := by rw [beq_eq_false_iff_ne]; omega
    have b4'' : ¬ (x.makes.length : Int) = 0 := by omega
    clear hr b1 b2 b3
    go_enter Tryz.func15, Tryz.ntmps15
    go_wp2_with fail
    go_ret
    refine ⟨?_, below_one w _⟩
    rw [← HR.out]
    show Ending.returned (.bool _) = _
    congr 2
  have e4 : x.makes.isEmpty = true := by cases h : x.makes <;> simp_all
  have HR : Hid (true = r) := by rw [← hr, e4]; exact rfl
  rw [b4]
  clear hr b1 b2 b3 b4
  go_enter Tryz.func15, Tryz.ntmps15
  go_wp2_with fail
  go_ret
  exact ⟨by rw [← HR.out]; rfl, below_one w _⟩
end Go.Proofs.YtlnkjmgfkpeicaaGreatDoor
