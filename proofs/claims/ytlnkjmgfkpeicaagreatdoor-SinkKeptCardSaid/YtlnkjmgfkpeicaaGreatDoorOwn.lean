/- Rows of their own: a list of instructions that is cloned and changed. -/
import Derived.Test.YtlnkjmgfkpeicaaGreatDoorCutK
set_option linter.all false
namespace Go.Proofs.YtlnkjmgfkpeicaaGreatDoor
open Go.RowKit


theorem infoOf_ins : (Tryz.prog.info? 42).map (fun i => (i.zero.map (·.cells.size), i.size, i.bytes)) = some (some 8, 8, 64) := by kernel_rfl
set_option maxHeartbeats 1000000 in
set_option maxRecDepth 100000 in
theorem clone_ins (v : Value) (rows : List (List Value)) (w : World) (hs : SliceR w w.heap.size 8 (Raw 8) v rows) (h1 : ∀ r ∈ rows, ∀ u ∈ r, u.oneCell' = true) (hlen : rows.length * 64 ≤ 140737488355328) :
    Calls Tryz.prog 19 #[v] w fun e w' => ∃ u, e = .returned u ∧ w'.ownsRow w.heap.size 42 8 u rows.length (rows.flatMap id) ∧ Below w.heap.size w w' := by
  have hraw : ∀ x ∈ rows, x.length = 8 := fun x hx => by obtain ⟨cs, _, h⟩ := hs.mem hx; exact h
  obtain ⟨A, cap, rfl, hc1, hc2, hc3⟩ := id hs
  cases A with
  | none =>
    have e : rows = [] := by
      rcases Nat.eq_zero_or_pos rows.length with h | h
      · exact List.length_eq_zero_iff.1 h
      · obtain ⟨b, off, h, _⟩ := hc3 h; cases h
    subst e
    have hn : ∀ W, (binOp .eql 27 (.slice none 0 cap) (.slice none 0 0)).run Tryz.prog W = .ok (.bool true) W := fun W => Lib.run_eql_slice_nil W _ _ _ _ _ _ _ Tryz.underlying27
    clear hc3 hs hraw h1
    simp only [List.length_nil] at *
    go_enter Tryz.func19, Tryz.ntmps19
    go_wp2_with fail
    go_ret
    exact ⟨_, rfl, World.ownsRow_nil _ _ _ _, Below.refl _ _⟩
  | some ad =>
    have hn : ∀ W, (binOp .eql 27 (.slice (some ad) rows.length cap) (.slice none 0 0)).run Tryz.prog W = .ok (.bool false) W := fun W => Lib.run_eql_slice_nil W _ _ _ _ _ _ _ Tryz.underlying27
    have hnews : ∀ j u, (rows.flatMap id)[j]? = some u → w.cell? (ad.add j) = some u := by
      rcases Nat.eq_zero_or_pos rows.length with h | h
      · have e : rows = [] := List.length_eq_zero_iff.1 h
        subst e; simp
      · obtain ⟨b, off, h, _⟩ := hc3 h
        injection h with h
        subst h
        exact news_of_slice (by decide) hraw (fun cs x h => h.1) hs
    obtain ⟨i0, hi, hq⟩ := Option.map_eq_some_iff.1 infoOf_ins
    simp only [Prod.mk.injEq] at hq
    obtain ⟨hz, hz1, hz2⟩ := hq
    obtain ⟨z, hz0, hz3⟩ := Option.map_eq_some_iff.1 hz
    have HS := Lib.hid hnews
    have HI := Lib.hid hi
    have HZ := Lib.hid hz0
    have HZ1 := Lib.hid hz1
    have HZ2 := Lib.hid hz2
    have HZ3 := Lib.hid hz3
    have hl : rows.length ≤ maxLen := by unfold maxLen; omega
    have HL := Lib.hid hl
    have HR := Lib.hid hraw
    have HO := Lib.hid (ones_flat (f := id) rows h1)
    have HF := Lib.hid (flat_len (f := id) rows hraw)
    clear hnews hi hz0 hz1 hz2 hz3 hz hl hraw h1 hs hc3
    go_enter Tryz.func19, Tryz.ntmps19
    go_wp2_with (at_builtin; refine wpList_append_own _ rfl _ _ 27 rfl w.heap.size 42 i0 z 8 64 Tryz.underlying27 HI.out HZ.out HZ1.out HZ2.out HZ3.out (by decide) (.slice (some ⟨w.heap.size, 0, none⟩) 0 0) 0 [] rfl (own_empty _ _ _) ad rows.length cap (rows.flatMap id) rfl HF.out (fun j u hj => old_one (HS.out j u hj) _) HO.out (by rw [Nat.zero_add]; exact HL.out) (by rw [Nat.zero_add]; exact hlen) (by simp) ?_)
    intro v' w6 hown hg _
    have KG := Lib.hid hg
    have KO := Lib.hid hown
    clear hg hown
    go_wp2_with fail
    go_ret
    refine ⟨_, rfl, by simpa using KO.out, Below.grown (below_one w _) KG.out (by simp) (by simp [Value.ownBlock])⟩

theorem own_cell {w : World} {B g cap n size k : Nat} {e : TypeId} {xs : List Value} (h : w.ownsRow B e size (.slice (some ⟨g, 0, none⟩) n cap) n xs) (hk : k < n * size) (v : Value) : (w.setCell ⟨g, k, none⟩ v).ownsRow B e size (.slice (some ⟨g, 0, none⟩) n cap) n (xs.set k v) := by
  obtain ⟨hl, h2⟩ := h
  rcases h2 with ⟨e1, _⟩ | ⟨g', cap', cur, e1, hb, hg, h3, h4, h5, h6⟩
  · cases e1
  · injection e1 with e1 e2 e3
    injection e1 with e1
    injection e1 with e1
    subst e1; subst e3
    refine ⟨by rw [List.length_set]; exact hl, .inr ⟨g, cap, cur.setIfInBounds k v, rfl, hb, ?_, h3, h4, by simp [h5], ?_⟩⟩
    · exact heap_setCell_same w g k _ _ _ hg
    · rw [Array.toList_setIfInBounds, List.take_set, h6]
theorem flat_ins : ∀ (xs : List TIns) (i k : Nat) (x : TIns), xs[i]? = some x → k < 8 → (xs.flatMap insCells)[i * 8 + k]? = (insCells x)[k]?
  | [], _, _, _, h, _ => by simp at h
  | y :: l, 0, k, x, h, hk => by
    obtain rfl : y = x := by simpa using h
    rw [List.flatMap_cons, List.getElem?_append_left (by simp [insCells]; omega)]; simp
  | y :: l, i + 1, k, x, h, hk => by
    rw [List.flatMap_cons, List.getElem?_append_right (by simp [insCells]; omega), show (i + 1) * 8 + k - (insCells y).length = i * 8 + k by simp [insCells]; omega]
    exact flat_ins l i k x (by simpa using h) hk
theorem sliceR_ins {w : World} {base : Nat} {e : TypeId} {A : Option Addr} {c : Nat} {xs : List TIns} (h : w.ownsRow base e 8 (.slice A xs.length c) xs.length (xs.flatMap insCells)) (hw : ∀ x ∈ xs, WfIns x) : SliceR w w.heap.size 8 InsR (.slice A xs.length c) xs := by
  rcases h.2 with ⟨e0, h0⟩ | ⟨g, cap, cur, e0, hb, hg, h1, h2, h3, h5⟩
  · have : xs = [] := List.length_eq_zero_iff.1 h0
    subst this
    rw [e0]
    exact SliceR.nil _ _ _ _
  · injection e0 with e0 e1 e2
    subst e0; subst e2
    refine ⟨_, _, rfl, h1, h2, fun hp => ⟨g, 0, rfl, (Array.getElem?_eq_some_iff.1 hg).1, fun i x hi => ?_⟩⟩
    have hi' := (List.getElem?_eq_some_iff.1 hi).1
    refine ⟨insCells x, rfl, ⟨rfl, hw x (List.mem_of_getElem? hi)⟩, fun k u hk => ?_⟩
    have hk8 : k < 8 := (List.getElem?_eq_some_iff.1 hk).1
    rw [Nat.zero_add, World.ownsRow.cellAt h (i * 8 + k) (by omega), flat_ins xs i k x hi hk8]
    exact hk
theorem traceR_ins {w0 w : World} {B0 : Nat} {ca : List Value} {t : TTrace} (h : TraceR w0 B0 ca t) (hB : B0 ≤ w.heap.size) (hk : ∀ p : Addr, p.block < B0 → w.cell? p = w0.cell? p) {u : Value} {xs : List TIns} (hu : SliceR w w.heap.size 8 InsR u xs) :
    TraceR w w.heap.size (ca.set 3 u) { t with ins := xs } := by
  obtain ⟨i, e, ct, cb, h1, h2, h3, h4, h5⟩ := h.keep hB hk
  exact ⟨u, e, ct, cb, by rw [h1]; rfl, hu, h3, h4, h5⟩
theorem own_keep {w w' : World} {B n size : Nat} {e : TypeId} {v : Value} {xs : List Value} (h : w.ownsRow B e size v n xs) (hk : ∀ G, v.ownBlock = some G → G < w.heap.size → w'.heap[G]? = w.heap[G]?) : w'.ownsRow B e size v n xs := by
  obtain ⟨hl, h2⟩ := h
  refine ⟨hl, ?_⟩
  rcases h2 with ⟨rfl, h0⟩ | ⟨g, cap, cur, rfl, hb, hg, h1⟩
  · exact .inl ⟨rfl, h0⟩
  · exact .inr ⟨g, cap, cur, rfl, hb, (hk g rfl (Array.getElem?_eq_some_iff.1 hg).1).trans hg, h1⟩
end Go.Proofs.YtlnkjmgfkpeicaaGreatDoor
