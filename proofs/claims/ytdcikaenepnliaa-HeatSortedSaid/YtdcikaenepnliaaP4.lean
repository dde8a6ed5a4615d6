/- HeatSorted returns true at every input, and leaves its arguments as they were. No conditions. -/
import Derived.Test.YtdcikaenepnliaaLaw
import Derived.Test.YtdcikaenepnliaaHzV
namespace Go.Proofs.Ytdcikaenepnliaa.heatSorted
open Go.ChangeShapes Go.WideShapes Go.ChangeAt Go.RowKit
set_option linter.unusedVariables false

theorem own : ownKnob Try.prog.godebug = none := by kernel_rfl
theorem laidOut : laidOutB Try.prog = true := by kernel_rfl
theorem flat33 : flatB Try.prog 3 33 = true := by kernel_rfl
theorem cells33 : Try.prog.cellsOf 33 = 3 := by kernel_rfl

set_option maxRecDepth 100000 in
theorem lifted (os : Os) (started : os.Started) (H : Type) (enc : TypeId × Value → H) :
    ReturnsInHanded {} Try.checked os 6 .any (Rows.heatSortedSpec.pre6 enc Try.prog Try.f6 Rows.heatSortedRow.domain false) (Rows.heatSortedSpec.post enc Try.prog Try.f6 false true false false) := by
  refine law_lift (C := Try.checked) own started (by kernel_rfl) Try.func6
    (ChangeSpec.witness6 (enc := enc) (C := Try.checked) false ⟨#[], #[.int .i64 0, .slice none 0 0], []⟩ 8 (by kernel_rfl) (by kernel_rfl) (by kernel_rfl) (by kernel_rfl))
    laidOut rfl (by kernel_rfl) Try.underlying4 (by rw [Try.params6]; intro t ht; simp at ht; rcases ht with rfl | rfl <;> exact ⟨by kernel_rfl, of_decide_eq_true (by kernel_rfl)⟩) ?_ ?_
  · rw [Try.params6]
    intro ds hd
    match ds, hd with
    | [_, _], _ => exact ⟨rfl, rfl, rfl⟩
  · intro W base args ds before hval hA _ _
    rw [Try.params6] at hA hval
    obtain ⟨v0, v1, d0, d1, p0, p1, rfl, rfl, rfl, h0, h1⟩ := trodAll_two hA
    obtain ⟨a0, rfl, rfl, rfl, w0⟩ := open_int Try.underlying3 (hval 0 3 v0 rfl rfl) h0
    obtain ⟨a1, len, cap, rfl⟩ := okWide_slice Try.underlying32 (hval 1 32 v1 rfl rfl)
    obtain ⟨fuel, hf⟩ := h1
    obtain ⟨A, len', cap', xss, hcs, hlc, hcm, hlen, hrows⟩ := flat_slice (d := 3) (n := 3) Try.underlying32 flat33 cells33 (by decide) hf
    simp [Value.cells] at hcs
    obtain ⟨rfl, rfl, rfl⟩ := hcs
    exact hz_walk a0 a1 len cap xss W hlc hcm hlen hrows

/-- The statement. -/
theorem proved : Rows.HeatSortedSaid :=
  OpenClaim.holds_of_wide 6 Try.f6 rfl rfl rfl rfl rfl rfl rfl ⟨rfl, rfl, rfl, rfl, rfl⟩ rfl rfl rfl rfl rfl (by kernel_rfl) Try.func6 (by kernel_rfl)
    (of_decide_eq_true (by kernel_rfl)) (by unfold Func.isWrapper; first | (rw [if_pos (by decide +kernel)]; kernel_rfl) | (rw [if_neg (by decide +kernel)]; exact ⟨rfl, rfl⟩))
    (fun os started H enc _ => lifted os started H enc)
#print axioms proved
end Go.Proofs.Ytdcikaenepnliaa.heatSorted
