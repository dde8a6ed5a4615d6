/- AliasEither returns true at every input, and leaves its arguments as they were. No conditions. -/
import Derived.Test.YtdcikaenepnliaaLaw
import Derived.Test.YtdcikaenepnliaaTr
import Derived.Test.YtdcikaenepnliaaAe
namespace Go.Proofs.Ytdcikaenepnliaa.aliasEither
open Go.ChangeShapes Go.WideShapes Go.ChangeAt Go.RowKit
set_option linter.unusedVariables false

theorem own : ownKnob Try.prog.godebug = none := by kernel_rfl
theorem laidOut : laidOutB Try.prog = true := by kernel_rfl

theorem walk (W : World) (cs : List Value) (t : TTrace) (p q : Int) (h : TraceR W W.heap.size cs t) :
    Calls Try.prog 5 #[.agg ⟨cs⟩, .int .i64 p, .int .i64 q] W (Gives (.bool true) W) := by
  obtain ⟨i, e, ct, cb, rfl, h2, _, ⟨s1, m1, rfl, _⟩, ⟨s2, m2, rfl, _⟩, _⟩ := h
  obtain ⟨A, cap, rfl, h3⟩ := id h2
  exact ae_walk t.fn t.at_ t.loop p q A cap _ _ _ _ _ _ _ _ _ t.ins W h2

set_option maxRecDepth 100000 in
theorem lifted (os : Os) (started : os.Started) (H : Type) (enc : TypeId × Value → H) :
    ReturnsInHanded {} Try.checked os 5 .any (Rows.aliasEitherSpec.pre6 enc Try.prog Try.f5 Rows.aliasEitherRow.domain false) (Rows.aliasEitherSpec.post enc Try.prog Try.f5 false true false false) := by
  refine law_lift (C := Try.checked) own started (by kernel_rfl) Try.func5
    (ChangeSpec.witness6 (enc := enc) (C := Try.checked) false ⟨#[], #[.agg #[.int .i64 0, .int .i64 0, .int .i64 0, .slice none 0 0, .slice none 0 0, .int .i64 0, .int .i64 0, .slice none 0 0, .slice none 0 0, .int .i64 0, .int .i64 0, .slice none 0 0, .slice none 0 0], .int .i64 0, .int .i64 0], []⟩ 8 (by kernel_rfl) (by kernel_rfl) (by kernel_rfl) (by kernel_rfl))
    laidOut rfl (by kernel_rfl) Try.underlying4 (by rw [Try.params5]; intro t ht; simp at ht; rcases ht with rfl | rfl <;> exact ⟨by kernel_rfl, of_decide_eq_true (by kernel_rfl)⟩) ?_ ?_
  · rw [Try.params5]
    intro ds hd
    match ds, hd with
    | [_, _, _], _ => exact ⟨rfl, rfl, rfl⟩
  · intro W base args ds before hval hA _ _
    rw [Try.params5] at hA hval
    obtain ⟨v0, v1, v2, d0, d1, d2, p0, p1, p2, rfl, rfl, rfl, h0, h1, h2⟩ := trodAll_three hA
    obtain ⟨cs, t, rfl, ht⟩ := open_trace (hval 0 42 v0 rfl rfl) h0
    obtain ⟨a1, rfl, rfl, rfl, w1⟩ := open_int Try.underlying3 (hval 1 3 v1 rfl rfl) h1
    obtain ⟨a2, rfl, rfl, rfl, w2⟩ := open_int Try.underlying3 (hval 2 3 v2 rfl rfl) h2
    exact walk W cs t a1 a2 ht

/-- The statement. -/
theorem proved : Rows.AliasEitherSaid :=
  OpenClaim.holds_of_wide 5 Try.f5 rfl rfl rfl rfl rfl rfl rfl ⟨rfl, rfl, rfl, rfl, rfl⟩ rfl rfl rfl rfl rfl (by kernel_rfl) Try.func5 (by kernel_rfl)
    (of_decide_eq_true (by kernel_rfl)) (by unfold Func.isWrapper; first | (rw [if_pos (by decide +kernel)]; kernel_rfl) | (rw [if_neg (by decide +kernel)]; exact ⟨rfl, rfl⟩))
    (fun os started H enc _ => lifted os started H enc)
#print axioms proved
end Go.Proofs.Ytdcikaenepnliaa.aliasEither
