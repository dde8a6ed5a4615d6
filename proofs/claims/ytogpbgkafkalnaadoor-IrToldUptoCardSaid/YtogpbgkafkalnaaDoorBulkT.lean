/- A trace that came in: its reading, with its bulk. -/
import Derived.Test.YtogpbgkafkalnaaDoorBulk
namespace Go.Proofs.YtogpbgkafkalnaaDoor
open Go.ChangeShapes Go.WideShapes Go.ChangeAt Go.RowKit Go.Lib
section
variable {H : Type} {enc : TypeId × Value → H} {w : World} {spare : Nat → Bool} {held : Bool}

theorem bulk_len (ps : List (DataW H)) : ps.length ≤ Rows.uptoBulkAll ps := by
  induction ps with
  | nil => simp
  | cons d ps ih => have := bulk_one d; simp only [Rows.uptoBulkAll, List.length_cons]; omega

theorem b_ints : OpensB enc Tryd.prog w spare held 55 (fun cs (xs : List Int) => ∃ v, cs = [v] ∧ SliceR w w.heap.size 1 IntR v xs) (fun xs => (xs.map fun _ => 1).sum + 1) := opens_slice_b Tryd.underlying55 cInt (by decide) cSInt (Opens.one o_int)
theorem b_set : OpensB enc Tryd.prog w spare held 62 SetR (fun _ => 2) := fun fuel cs x h => by
  obtain ⟨h1, a, h2⟩ := o_set fuel cs x h
  obtain ⟨ps, h3, h4, -⟩ := opens_fields_b Tryd.underlying62 h
  have := bulk_len ps
  rw [h3] at this
  exact ⟨h1, a, h2, by dsimp only; rw [h4]; simp at this; omega⟩
theorem b_ins : OpensB enc Tryd.prog w spare held 51 InsR (fun _ => 8) := fun fuel cs x h => by
  obtain ⟨h1, a, h2⟩ := o_ins fuel cs x h
  obtain ⟨ps, h3, h4, -⟩ := opens_fields_b Tryd.underlying51 h
  have := bulk_len ps
  rw [h3] at this
  exact ⟨h1, a, h2, by dsimp only; rw [h4]; simp at this; omega⟩
theorem b_sets : OpensB enc Tryd.prog w spare held 24 (fun cs (xs : List TSet) => ∃ v, cs = [v] ∧ SliceR w w.heap.size 2 SetR v xs) (fun xs => (xs.map fun _ => 2).sum + 1) := opens_slice_b Tryd.underlying24 cSet (by decide) cSSet b_set
theorem b_inss : OpensB enc Tryd.prog w spare held 22 (fun cs (xs : List TIns) => ∃ v, cs = [v] ∧ SliceR w w.heap.size 8 InsR v xs) (fun xs => (xs.map fun _ => 8).sum + 1) := opens_slice_b Tryd.underlying22 cIns (by decide) cSIns b_ins

theorem b_make : OpensB enc Tryd.prog w spare held 64 (MakeR w w.heap.size) szM := by
  intro fuel cs x h
  have hl := opens_len Tryd.underlying64 h
  refine ⟨hl, ?_⟩
  rw [cMake] at hl
  obtain ⟨ps, p1, p2, hf⟩ := opens_fields_b Tryd.underlying64 h
  obtain ⟨a0, h0, d0, q0, -⟩ := hf 0 _ rfl (Opens.one o_int)
  obtain ⟨a1, h1, d1, q1, -⟩ := hf 1 _ rfl (Opens.one o_int)
  obtain ⟨a2, h2, d2, q2, -⟩ := hf 2 _ rfl (Opens.one o_int)
  obtain ⟨a3, ⟨v, h3, hs⟩, d3, q3, s3⟩ := hf 3 _ rfl b_ints
  match cs, hl, ps, p1 with
  | [c0, c1, c2, c3], _, [e0, e1, e2, e3], _ =>
    simp only [List.getElem_toArray, List.getElem_cons_zero, List.getElem_cons_succ, cInt, cSInt, IntR, List.drop_zero, List.take_succ_cons, List.take_zero, List.drop_succ_cons, List.cons.injEq, and_true] at h0 h1 h2 h3
    simp only [List.getElem?_cons_succ, List.getElem?_cons_zero, Option.some.injEq] at q0 q1 q2 q3
    subst q0; subst q1; subst q2; subst q3
    obtain ⟨rfl, w0⟩ := h0
    obtain ⟨rfl, w1⟩ := h1
    obtain ⟨rfl, w2⟩ := h2
    subst h3
    refine ⟨⟨a0, a1, a2, a3⟩, ⟨_, rfl, hs, w0, w1, w2⟩, ?_⟩
    have b0 := bulk_one e0
    have b1 := bulk_one e1
    have b2 := bulk_one e2
    rw [p2]
    rw [sum_const] at s3
    simp only [szM, Rows.uptoBulkAll]
    omega
theorem b_makes : OpensB enc Tryd.prog w spare held 25 (fun cs (xs : List TMake) => ∃ v, cs = [v] ∧ SliceR w w.heap.size 4 (MakeR w w.heap.size) v xs) (fun xs => (xs.map szM).sum + 1) := opens_slice_b Tryd.underlying25 cMake (by decide) cSMake b_make

theorem b_exit : OpensB enc Tryd.prog w spare held 27 (ExitR w w.heap.size) szX := by
  intro fuel cs x h
  have hl := opens_len Tryd.underlying27 h
  refine ⟨hl, ?_⟩
  rw [cExit] at hl
  obtain ⟨ps, p1, p2, hf⟩ := opens_fields_b Tryd.underlying27 h
  obtain ⟨a0, h0, d0, q0, -⟩ := hf 0 _ rfl (Opens.one o_int)
  obtain ⟨a1, h1, d1, q1, -⟩ := hf 1 _ rfl (Opens.one o_int)
  obtain ⟨a2, ⟨v, h2, hs⟩, d2, q2, s2⟩ := hf 2 _ rfl b_sets
  obtain ⟨a3, ⟨u, h3, hm⟩, d3, q3, s3⟩ := hf 3 _ rfl b_makes
  match cs, hl, ps, p1 with
  | [c0, c1, c2, c3], _, [e0, e1, e2, e3], _ =>
    simp only [List.getElem_toArray, List.getElem_cons_zero, List.getElem_cons_succ, cInt, cSSet, cSMake, IntR, List.drop_zero, List.take_succ_cons, List.take_zero, List.drop_succ_cons, List.cons.injEq, and_true] at h0 h1 h2 h3
    simp only [List.getElem?_cons_succ, List.getElem?_cons_zero, Option.some.injEq] at q0 q1 q2 q3
    subst q0; subst q1; subst q2; subst q3
    obtain ⟨rfl, w0⟩ := h0
    obtain ⟨rfl, w1⟩ := h1
    subst h2; subst h3
    refine ⟨⟨a0, a1, a2, a3⟩, ⟨_, _, rfl, hs, hm, w0, w1⟩, ?_⟩
    have b0 := bulk_one e0
    have b1 := bulk_one e1
    rw [p2]
    rw [sum_const] at s2
    simp only [szX, Rows.uptoBulkAll]
    omega
theorem b_exits : OpensB enc Tryd.prog w spare held 23 (fun cs (xs : List TExit) => ∃ v, cs = [v] ∧ SliceR w w.heap.size 4 (ExitR w w.heap.size) v xs) (fun xs => (xs.map szX).sum + 1) := opens_slice_b Tryd.underlying23 cExit (by decide) cSExit b_exit

theorem b_trace : OpensB enc Tryd.prog w spare held 29 (TraceR w w.heap.size) szT := by
  intro fuel cs x h
  have hl := opens_len Tryd.underlying29 h
  refine ⟨hl, ?_⟩
  rw [cTrace] at hl
  obtain ⟨ps, p1, p2, hf⟩ := opens_fields_b Tryd.underlying29 h
  obtain ⟨a0, h0, d0, q0, -⟩ := hf 0 _ rfl (Opens.one o_int)
  obtain ⟨a1, h1, d1, q1, -⟩ := hf 1 _ rfl (Opens.one o_int)
  obtain ⟨a2, h2, d2, q2, -⟩ := hf 2 _ rfl (Opens.one o_int)
  obtain ⟨a3, ⟨v, h3, hs⟩, d3, q3, s3⟩ := hf 3 _ rfl b_inss
  obtain ⟨a4, ⟨u, h4, hm⟩, d4, q4, s4⟩ := hf 4 _ rfl b_exits
  obtain ⟨a5, h5, d5, q5, s5⟩ := hf 5 _ rfl b_exit
  obtain ⟨a6, h6, d6, q6, s6⟩ := hf 6 _ rfl b_exit
  match cs, hl, ps, p1 with
  | [c0, c1, c2, c3, c4, c5, c6, c7, c8, c9, c10, c11, c12], _, [e0, e1, e2, e3, e4, e5, e6], _ =>
    simp only [List.getElem_toArray, List.getElem_cons_zero, List.getElem_cons_succ, cInt, cSIns, cSExit, cExit, IntR, List.drop_zero, List.take_succ_cons, List.take_zero, List.drop_succ_cons, List.cons.injEq, and_true] at h0 h1 h2 h3 h4 h5 h6
    simp only [List.getElem?_cons_succ, List.getElem?_cons_zero, Option.some.injEq] at q0 q1 q2 q3 q4 q5 q6
    subst q0; subst q1; subst q2; subst q3; subst q4; subst q5; subst q6
    obtain ⟨rfl, w0⟩ := h0
    obtain ⟨rfl, w1⟩ := h1
    obtain ⟨rfl, w2⟩ := h2
    subst h3; subst h4
    refine ⟨⟨a0, a1, a2, a3, a4, a5, a6⟩, ⟨_, _, _, _, rfl, hs, hm, h5, h6, w0, w1, w2⟩, ?_⟩
    have b0 := bulk_one e0
    have b1 := bulk_one e1
    have b2 := bulk_one e2
    rw [p2]
    rw [sum_const] at s3
    simp only [szT, Rows.uptoBulkAll]
    omega

theorem open_trace_b {v : Value} {d : DataW H} {ps : List MemPlace} {r : Reach} {b0 : Nat} (hv : Value.okWide Tryd.prog w r b0 29 v) (h : DataW.Trod enc Tryd.prog w 0 spare held 29 v d ps) : ∃ cs t, v = .agg ⟨cs⟩ ∧ TraceR w w.heap.size cs t ∧ szT t ≤ Rows.uptoBulk d := by
  obtain ⟨cs, rfl, _⟩ := okWide_struct Tryd.underlying29 hv
  obtain ⟨fuel, hf⟩ := h
  obtain ⟨_, t, ht, hs⟩ := b_trace _ _ _ hf
  exact ⟨cs.toList, t, rfl, ht, hs⟩
end
end Go.Proofs.YtogpbgkafkalnaaDoor
