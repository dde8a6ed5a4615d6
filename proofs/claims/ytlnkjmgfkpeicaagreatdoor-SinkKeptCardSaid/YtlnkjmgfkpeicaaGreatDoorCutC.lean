/- ir.Cut: the whole contract. -/
import Derived.Test.YtlnkjmgfkpeicaaGreatDoorCutG
namespace Go.Proofs.YtlnkjmgfkpeicaaGreatDoor
open Go.RowKit

theorem cut_c (ca : List Value) (t : TTrace) (v : Value) (tl : List Int) (w : World) (ht : TraceR w w.heap.size ca t) (hv : SliceR w w.heap.size 1 IntR v tl) (hsm : SmallT t) :
    Calls Tryz.prog 7 #[.agg ⟨ca⟩, v] w (CutPost t tl w) := by
  by_cases h : tl.length = t.ins.length
  · exact cut_go ca t v tl w ht hv h hsm
  · exact cut_len ca t v tl w ht hv h
theorem cut_c2 (ca : List Value) (t : TTrace) (v : Value) (tl : List Int) (w : World) (ht : TraceR w w.heap.size ca t) (hv : SliceR w w.heap.size 1 IntR v tl) (hsm : SmallT t) :
    Calls Tryz.prog 7 #[.agg ⟨ca⟩, v] w (CutPost2 t tl w) := by
  by_cases h : tl.length = t.ins.length
  · exact cut_go2 ca t v tl w ht hv h hsm
  · exact cut_len2 ca t v tl w ht hv h
/-- a trace's 13 cells -/
theorem TraceR.cells {w : World} {B : Nat} {cs : List Value} {t : TTrace} (h : TraceR w B cs t) : ∃ A1 n1 A2 n2 A3 n3 A4 n4 A5 n5 A6 n6, cs = [.int .i64 t.fn, .int .i64 t.at_, .int .i64 t.loop, .slice A1 t.ins.length n1, .slice A2 t.exits.length n2, .int .i64 t.turn.at_, .int .i64 t.turn.steps, .slice A3 t.turn.sets.length n3, .slice A4 t.turn.makes.length n4, .int .i64 t.back.at_, .int .i64 t.back.steps, .slice A5 t.back.sets.length n5, .slice A6 t.back.makes.length n6] ∧ t.ins.length ≤ maxLen := by
  obtain ⟨i, e, ct, cb, rfl, ⟨A1, n1, rfl, l1, l2, -⟩, ⟨A2, n2, rfl, -⟩, ⟨s1, m1, rfl, ⟨A3, n3, rfl, -⟩, ⟨A4, n4, rfl, -⟩, -⟩, ⟨s2, m2, rfl, ⟨A5, n5, rfl, -⟩, ⟨A6, n6, rfl, -⟩, -⟩, -⟩ := h
  exact ⟨A1, n1, A2, n2, A3, n3, A4, n4, A5, n5, A6, n6, rfl, Nat.le_trans l1 l2⟩
end Go.Proofs.YtlnkjmgfkpeicaaGreatDoor
