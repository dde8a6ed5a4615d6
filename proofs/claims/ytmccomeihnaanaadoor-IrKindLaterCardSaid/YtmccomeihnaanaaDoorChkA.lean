/- ir.checker's methods: value, values. -/
import Derived.Test.YtmccomeihnaanaaDoorChk
import Derived.Test.YtmccomeihnaanaaDoorCheckB
import Derived.Test.YtmccomeihnaanaaDoorIrD
import Derived.Test.YtmccomeihnaanaaDoorIns
namespace Go.Proofs.YtmccomeihnaanaaDoor
open Go.RowKit

def CheckR (w : World) (B : Nat) (cs : List Value) (f : CFn) (t : TTrace) : Prop := ∃ fc tc, cs = fc ++ tc ∧ FnR w B fc f ∧ TraceR w B tc t
theorem CheckR.keep {w w' : World} {B B' : Nat} {cs : List Value} {f : CFn} {t : TTrace} (h : CheckR w B cs f t) (hB : B ≤ B') (hk : ∀ p : Addr, p.block < B → w'.cell? p = w.cell? p) : CheckR w' B' cs f t := by
  obtain ⟨fc, tc, h1, h2, h3⟩ := h
  exact ⟨fc, tc, h1, h2.keep hB hk, h3.keep hB hk⟩
theorem CheckR.below {w w' : World} {cs : List Value} {f : CFn} {t : TTrace} (h : CheckR w w.heap.size cs f t) (k : Below w.heap.size w w') : CheckR w' w'.heap.size cs f t := h.keep k.size (fun _ h => k.cell h)
theorem CheckR.cells {w : World} {B : Nat} {cs : List Value} {f : CFn} {t : TTrace} (h : CheckR w B cs f t) : ∃ A4 n4 A5 n5 Ai ni Ae ne s1 m1 s2 m2,
    cs = [.int .i64 f.params, .int .i64 f.regs, .bool f.gen, .slice A4 f.caught.length n4, .slice A5 f.code.length n5, .int .i64 t.fn, .int .i64 t.at_, .int .i64 t.loop, .slice Ai t.ins.length ni, .slice Ae t.exits.length ne,
      .int .i64 t.turn.at_, .int .i64 t.turn.steps, s1, m1, .int .i64 t.back.at_, .int .i64 t.back.steps, s2, m2] ∧
    SliceR w B 5 CInsR (.slice A5 f.code.length n5) f.code ∧ SliceR w B 8 InsR (.slice Ai t.ins.length ni) t.ins ∧ SliceR w B 4 (ExitR w B) (.slice Ae t.exits.length ne) t.exits := by
  obtain ⟨fc, tc, rfl, ⟨A4, n4, A5, n5, rfl, q4, q5, -⟩, ⟨i, e, ct, cb, rfl, hi, he, ⟨s1, m1, rfl, -⟩, ⟨s2, m2, rfl, -⟩, -⟩⟩ := h
  obtain ⟨Ai, ni, rfl, -⟩ := id hi
  obtain ⟨Ae, ne, rfl, -⟩ := id he
  exact ⟨A4, n4, A5, n5, Ai, ni, Ae, ne, s1, m1, s2, m2, rfl, q5, hi, he⟩

set_option maxHeartbeats 1000000 in
set_option maxRecDepth 100000 in
theorem value_c (cs : List Value) (f : CFn) (t : TTrace) (v at_ : Int) (w : World) (h : CheckR w w.heap.size cs f t) :
    Calls Tryd.prog 77 #[.agg ⟨cs⟩, .int .i64 v, .int .i64 at_] w (Gives (.bool (valueM t.ins v at_)) w) := by
  obtain ⟨r, hr⟩ : ∃ r, valueM t.ins v at_ = r := ⟨_, rfl⟩
  rw [hr]
  unfold valueM at hr
  obtain ⟨A4, n4, A5, n5, Ai, ni, Ae, ne, s1, m1, s2, m2, rfl, -, q, -⟩ := h.cells
  have ll := len_le q
  clear h
  by_cases h1 : 0 ≤ v
  case neg =>
    have HR : Hid (false = r) := by rw [← hr, decide_eq_false h1]; rfl
    clear hr q
    go_enter Tryd.func77, Tryd.ntmps77
    go_wp2_with fail
    go_ret
    exact ⟨by rw [← HR.out]; rfl, below_one w _⟩
  rw [decide_eq_true h1, Bool.true_and] at hr
  by_cases h2 : v < at_
  case neg =>
    have HR : Hid (false = r) := by rw [← hr, decide_eq_false h2]; rfl
    clear hr q
    go_enter Tryd.func77, Tryd.ntmps77
    go_wp2_with fail
    go_ret
    exact ⟨by rw [← HR.out]; rfl, below_one w _⟩
  rw [decide_eq_true h2, Bool.true_and] at hr
  by_cases h3 : v < t.ins.length
  case neg =>
    have HR : Hid (false = r) := by rw [← hr, decide_eq_false h3]; rfl
    clear hr q
    go_enter Tryd.func77, Tryd.ntmps77
    go_wp2_with fail
    go_ret
    exact ⟨by rw [← HR.out]; rfl, below_one w _⟩
  rw [decide_eq_true h3, Bool.true_and] at hr
  obtain ⟨k, rfl⟩ := Int.eq_ofNat_of_zero_le h1
  have hk : k < t.ins.length := by omega
  obtain ⟨b, off, x, rfl, hb, hx, -, hat⟩ := ins_op q hk
  have g0 : w.cell? ⟨b, off + k * 8, none⟩ = some (.int .i64 x.op) := by have := hat 0 _ rfl; simpa using this
  have HR : Hid (tellsM x.op = r) := by rw [← hr]; unfold opOf Hid; rw [Int.toNat_natCast, hx]; rfl
  clear hr q hx hat
  obtain ⟨w0, hw0⟩ : ∃ w0, w0 = w.alloc (.cells #[.int .i64 f.params, .int .i64 f.regs, .bool f.gen, .slice A4 f.caught.length n4, .slice A5 f.code.length n5, .int .i64 t.fn, .int .i64 t.at_, .int .i64 t.loop, .slice (some ⟨b, off, none⟩) t.ins.length ni, .slice Ae t.exits.length ne,
      .int .i64 t.turn.at_, .int .i64 t.turn.steps, s1, m1, .int .i64 t.back.at_, .int .i64 t.back.steps, s2, m2] 68) := ⟨_, rfl⟩
  have k0 : Hid (Below w.heap.size w w0) := by rw [hw0]; exact below_one w _
  have HW := Lib.hid hw0
  clear hw0
  go_enter Tryd.func77, Tryd.ntmps77
  go_wp2_with fail
  rw [← HW.out]
  refine (tells_c _ _).mono ?_
  rintro e w1 ⟨rfl, k1⟩
  have K1 := Lib.hid (k0.out.trans (k1.mono k0.out.size))
  clear k1
  go_wp2_with fail
  go_ret
  exact ⟨by rw [← HR.out]; rfl, K1.out⟩
end Go.Proofs.YtmccomeihnaanaaDoor
