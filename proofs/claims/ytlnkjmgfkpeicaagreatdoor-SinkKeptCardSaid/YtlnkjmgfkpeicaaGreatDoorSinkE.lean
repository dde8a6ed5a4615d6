/- sink: what a sinker's stores do. -/
import Derived.Test.YtlnkjmgfkpeicaaGreatDoorSinkD
set_option linter.all false
namespace Go.Proofs.YtlnkjmgfkpeicaaGreatDoor
open Go.RowKit

theorem sink_row15 {ca : List Value} (hlen : ca.length = 13) (a0 a1 a2 a3 a4 a5 a6 v : Value) : (⟨ca ++ [a0, a1, a2, a3, a4, a5, a6]⟩ : Array Value).setIfInBounds 15 v = ⟨ca ++ [a0, a1, v, a3, a4, a5, a6]⟩ := by
  apply Array.toList_inj.1
  rw [Array.toList_setIfInBounds]
  show (ca ++ _).set 15 _ = ca ++ _
  rw [List.set_append_right _ _ (by omega), hlen]; rfl
theorem sink_row16 {ca : List Value} (hlen : ca.length = 13) (a0 a1 a2 a3 a4 a5 a6 v : Value) : (⟨ca ++ [a0, a1, a2, a3, a4, a5, a6]⟩ : Array Value).setIfInBounds 16 v = ⟨ca ++ [a0, a1, a2, v, a4, a5, a6]⟩ := by
  apply Array.toList_inj.1
  rw [Array.toList_setIfInBounds]
  show (ca ++ _).set 16 _ = ca ++ _
  rw [List.set_append_right _ _ (by omega), hlen]; rfl
section
variable {w w' : World} {B sb mb c : Nat} {kind : Int} {ca : List Value} {t : TTrace} {s : SinkS}
theorem own_open {w : World} {B n size : Nat} {e : TypeId} {v : Value} {xs : List Value} (h : w.ownsRow B e size v n xs) (hn : 0 < n) : ∃ g cap, v = .slice (some ⟨g, 0, none⟩) n cap ∧ ∃ cs, w.heap[g]? = some (.cells cs e (0, 0)) ∧ n * size ≤ cs.size := by
  rcases h.2 with ⟨_, h0⟩ | ⟨g, cap, cs, e1, hb, hg, h1, h2, h3, h5⟩
  · omega
  · exact ⟨g, cap, e1, cs, hg, by rw [h3]; exact Nat.mul_le_mul_right _ h1⟩
theorem SinkR.openT (h : SinkR w B sb mb c kind ca t s) (hn : 0 < t.ins.length) : ∃ T cap, s.uT = .slice (some ⟨T, 0, none⟩) t.ins.length cap := by
  have hl := h.sinks.lenT
  obtain ⟨g, cap, e, _⟩ := own_open h.tl (by omega)
  exact ⟨g, cap, by rw [e, hl]⟩
theorem SinkR.openO (h : SinkR w B sb mb c kind ca t s) (hn : 0 < t.ins.length) : ∃ T cap, s.uO = .slice (some ⟨T, 0, none⟩) t.ins.length cap := by
  have hl := h.sinks.lenO
  obtain ⟨g, cap, e, _⟩ := own_open h.out (by omega)
  exact ⟨g, cap, by rw [e, hl]⟩
/-- a cell of a row of whole numbers -/
theorem ints_at {w : World} {B g cap i : Nat} {v : Value} {l : List Int} {e : TypeId} (h : w.ownsRow B e 1 v l.length (l.map (.int .i64))) (ev : v = .slice (some ⟨g, 0, none⟩) l.length cap) {x : Int} (hi : l[i]? = some x) : w.cell? ⟨g, i, none⟩ = some (.int .i64 x) ∧ w.frozen? ⟨g, i, none⟩ = false := by
  have hil := (List.getElem?_eq_some_iff.1 hi).1
  subst ev
  obtain ⟨g', cap', e1, cs, hg, _⟩ := own_open h (by omega)
  injection e1 with e1; injection e1 with e1; injection e1 with e1
  subst e1
  exact ⟨by rw [World.ownsRow.cellAt h i (by omega), List.getElem?_map, hi]; rfl, frozen_of_row w g i _ _ hg⟩
theorem SinkR.toAt (h : SinkR w B sb mb c kind ca t s) {T cap i : Nat} (eT : s.uT = .slice (some ⟨T, 0, none⟩) t.ins.length cap) (hi : i < t.ins.length) : ∃ x, w.cell? ⟨T, i, none⟩ = some (.int .i64 x) ∧ w.frozen? ⟨T, i, none⟩ = false := by
  have hl := h.sinks.lenT
  exact ⟨_, ints_at h.tl (by rw [eT, hl]) (List.getElem?_eq_getElem (by omega))⟩
theorem SinkR.valAt (h : SinkR w B sb mb c kind ca t s) {V cap i : Nat} (eV : s.uV = .slice (some ⟨V, 0, none⟩) s.vals.length cap) {x : Int} (hi : s.vals[i]? = some x) : w.cell? ⟨V, i, none⟩ = some (.int .i64 x) ∧ w.frozen? ⟨V, i, none⟩ = false := ints_at h.vals eV hi
theorem SinkR.outThere (h : SinkR w B sb mb c kind ca t s) {T cap i : Nat} (eO : s.uO = .slice (some ⟨T, 0, none⟩) t.ins.length cap) (hi : i < t.ins.length) : w.there T (i * 8) 8 := by
  have hl := h.sinks.lenO
  obtain ⟨g, cap', e1, cs, hg, hc⟩ := own_open h.out (by omega)
  rw [eO] at e1
  injection e1 with e1; injection e1 with e1; injection e1 with e1
  subst e1
  exact there_at hg (by omega)
/-- its shape is told anew -/
theorem SinkR.setShape (h : SinkR w B sb mb c kind ca t s) (hf : s.vals.length ≤ 101) {n : Int} (hn : wfi n) :
    SinkR (w.setCell ⟨sb, 15, none⟩ (.int .i64 n)) B sb mb c kind ca t { s with shape := n } ∧ SinkTo sb mb w s (w.setCell ⟨sb, 15, none⟩ (.int .i64 n)) { s with shape := n } := by
  have k : Fined sb w (w.setCell ⟨sb, 15, none⟩ (.int .i64 n)) := (Fined.refl sb w).set_ _ _
  exact h.moved (w' := w.setCell ⟨sb, 15, none⟩ (.int .i64 n)) (sh := n) (vs := s.vals) (u := s.uV) rfl rfl rfl k.size (fun j hj hne _ => k.block j hj hne)
    (by rw [heap_setCell_same w sb 15 _ _ _ h.row, sink_row15 h.len]) (row_stays h.vals (fun G e => k.block G (row_ty h.vals e).2.1 (fun c => h.sbV (by rw [e, c])))) (fun G e => .inl e) h.wfV hn hf
/-- its values are others: a row of their own -/
theorem SinkR.setVals (h : SinkR w B sb mb c kind ca t s) (k : Below w.heap.size w w') {u : Value} (hu : w'.ownsRow w.heap.size 3 1 u s.vals.length (s.vals.map (.int .i64))) :
    SinkR (w'.setCell ⟨sb, 16, none⟩ u) B sb mb c kind ca t { s with uV := u } ∧ SinkTo sb mb w s (w'.setCell ⟨sb, 16, none⟩ u) { s with uV := u } := by
  have k2 : Fined sb w' (w'.setCell ⟨sb, 16, none⟩ u) := (Fined.refl sb w').set_ _ _
  have hr := (h.below k).row
  exact h.moved (w' := w'.setCell ⟨sb, 16, none⟩ u) (sh := s.shape) (vs := s.vals) (u := u) (k2.os.trans k.os) (k2.tape.trans k.tape) (k2.output.trans k.output) (Nat.le_trans k.size k2.size) (fun j hj hne _ => (k2.block j (Nat.lt_of_lt_of_le hj k.size) hne).trans (k.block j hj))
    (by rw [heap_setCell_same w' sb 16 _ _ _ hr, sink_row16 h.len]) (row_more (row_stays hu (fun G e => k2.block G (row_ty hu e).2.1 (fun c => row_ne hu hr (by decide) (by rw [e, c])))) (Nat.le_trans h.hB (Nat.le_of_lt h.lt)))
    (fun G e => .inr (row_ty hu e).1) h.wfV h.wfS h.few
/-- one of its values is another -/
theorem SinkR.setVal (h : SinkR w B sb mb c kind ca t s) {V cap i : Nat} (eV : s.uV = .slice (some ⟨V, 0, none⟩) s.vals.length cap) (hi : i < s.vals.length) {x : Int} (hx : wfi x) :
    SinkR (w.setCell ⟨V, i, none⟩ (.int .i64 x)) B sb mb c kind ca t { s with vals := s.vals.set i x } ∧ SinkTo sb mb w s (w.setCell ⟨V, i, none⟩ (.int .i64 x)) { s with vals := s.vals.set i x } := by
  have k : Fined V w (w.setCell ⟨V, i, none⟩ (.int .i64 x)) := (Fined.refl V w).set_ _ _
  have hVb : s.uV.ownBlock = some V := by rw [eV]; rfl
  have hne : sb ≠ V := fun e => h.sbV (by rw [hVb, e])
  refine h.moved (w' := w.setCell ⟨V, i, none⟩ (.int .i64 x)) (sh := s.shape) (vs := s.vals.set i x) (u := s.uV) rfl rfl rfl k.size (fun j hj _ hV => k.block j hj (fun e => hV (by rw [hVb, e]))) (k.row h.row hne) ?_ (fun G e => .inl e) (fun y hy => ?_) h.wfS (by rw [List.length_set]; exact h.few)
  · have h1 := h.vals
    rw [eV] at h1
    have h2 := own_cell h1 (k := i) (by omega) (.int .i64 x)
    rw [eV, List.length_set, List.map_set]
    exact h2
  · rcases List.mem_or_eq_of_mem_set hy with hy | rfl
    · exact h.wfV y hy
    · exact hx
end
end Go.Proofs.YtlnkjmgfkpeicaaGreatDoor
