/- sink: exits in the midst of a sinking. -/
import Derived.Test.YtlnkjmgfkpeicaaGreatDoorSinkG
import Derived.Test.YtlnkjmgfkpeicaaGreatDoorSinkS
set_option linter.all false
namespace Go.Proofs.YtlnkjmgfkpeicaaGreatDoor
open Go.RowKit

def IntsX (w : World) (B : Nat) (v : Value) (l : List Int) : Prop := SliceR w B 1 IntR v l ∨ (w.ownsRow B 3 1 v l.length (l.map (.int .i64)) ∧ ∀ x ∈ l, wfi x)
def RowX (w : World) (B : Nat) (r : MkRow) (m : TMake) : Prop :=
  m.cell = r.a ∧ m.kind = r.b ∧ m.num = r.c ∧ IntsX w B (.slice r.A r.n r.k) m.vals ∧ (wfi r.a ∧ wfi r.b ∧ wfi r.c) ∧ m.vals.length ≤ 1000
/-- an exit's cells: what it sets as it was, what it makes in a row of its own -/
def ExitX (w : World) (B : Nat) (cs : List Value) (x : TExit) : Prop :=
  ∃ (sv mv : Value) (rows : List MkRow), cs = [.int .i64 x.at_, .int .i64 x.steps, sv, mv] ∧ SliceR w B 2 SetR sv x.sets ∧ (wfi x.at_ ∧ wfi x.steps) ∧
    w.ownsRow B 89 4 mv rows.length (rows.flatMap mkCells) ∧ rows.length = x.makes.length ∧ ∀ (i : Nat) r m, rows[i]? = some r → x.makes[i]? = some m → RowX w B r m
section
variable {w w' : World} {B : Nat}
theorem IntsX.keep {v : Value} {l : List Int} (h : IntsX w B v l) (hB : ∀ p : Addr, p.block < B → w'.cell? p = w.cell? p) (hk : ∀ k, k < w.heap.size → (∃ cs, w.heap[k]? = some (.cells cs 3 (0, 0))) → w'.heap[k]? = w.heap[k]?) : IntsX w' B v l := by
  rcases h with h | ⟨h1, h2⟩
  · exact .inl (h.keep (Nat.le_refl _) hB (fun _ _ h => h))
  · exact .inr ⟨row_stays h1 (fun G e => hk G (row_ty h1 e).2.1 (row_ty h1 e).2.2), h2⟩
theorem IntsX.read {v : Value} {l : List Int} (h : IntsX w B v l) (hw : B ≤ w.heap.size) : SliceR w w.heap.size 1 IntR v l := by
  rcases h with h | ⟨h1, h2⟩
  · exact h.keep hw (fun _ _ => rfl) (fun _ _ h => h)
  · exact sliceR_of_own h1 h2
theorem RowX.keep {r : MkRow} {m : TMake} (h : RowX w B r m) (hB : ∀ p : Addr, p.block < B → w'.cell? p = w.cell? p) (hk : ∀ k, k < w.heap.size → (∃ cs, w.heap[k]? = some (.cells cs 3 (0, 0))) → w'.heap[k]? = w.heap[k]?) : RowX w' B r m := by
  obtain ⟨a, b, c, d, e⟩ := h
  exact ⟨a, b, c, d.keep hB hk, e⟩
theorem RowX.make {r : MkRow} {m : TMake} (h : RowX w B r m) (hw : B ≤ w.heap.size) : MakeR w w.heap.size (mkCells r) m := by
  obtain ⟨a, b, c, d, ⟨e1, e2, e3⟩, _⟩ := h
  exact ⟨.slice r.A r.n r.k, by unfold mkCells; rw [a, b, c], d.read hw, by rw [a]; exact e1, by rw [b]; exact e2, by rw [c]; exact e3⟩
theorem ExitX.keep {cs : List Value} {x : TExit} (h : ExitX w B cs x) (hB : ∀ p : Addr, p.block < B → w'.cell? p = w.cell? p)
    (hk : ∀ k, k < w.heap.size → (∃ cs, w.heap[k]? = some (.cells cs 3 (0, 0))) → w'.heap[k]? = w.heap[k]?) (hm : ∀ k, k < w.heap.size → (∃ cs, w.heap[k]? = some (.cells cs 89 (0, 0))) → w'.heap[k]? = w.heap[k]?) : ExitX w' B cs x := by
  obtain ⟨sv, mv, rows, e, h1, h2, h3, h4, h5⟩ := h
  exact ⟨sv, mv, rows, e, h1.keep (Nat.le_refl _) hB (fun _ _ h => h), h2, row_stays h3 (fun G e => hm G (row_ty h3 e).2.1 (row_ty h3 e).2.2), h4, fun i r m hr hm' => (h5 i r m hr hm').keep hB hk⟩
theorem flat_mk_at : ∀ (D : List MkRow) (i k : Nat) (r : MkRow), D[i]? = some r → k < 4 → (D.flatMap mkCells)[i * 4 + k]? = (mkCells r)[k]?
  | [], _, _, _, h, _ => by simp at h
  | y :: l, 0, k, r, h, hk => by
    obtain rfl : y = r := by simpa using h
    rw [List.flatMap_cons, List.getElem?_append_left (by simp [mkCells]; omega)]; simp
  | y :: l, i + 1, k, r, h, hk => by
    rw [List.flatMap_cons, List.getElem?_append_right (by simp [mkCells]; omega), show (i + 1) * 4 + k - (mkCells y).length = i * 4 + k by simp [mkCells]; omega]
    exact flat_mk_at l i k r (by simpa using h) hk
theorem ExitX.read {cs : List Value} {x : TExit} (h : ExitX w B cs x) (hw : B ≤ w.heap.size) : ExitR w w.heap.size cs x := by
  obtain ⟨sv, mv, rows, e, h1, ⟨w1, w2⟩, h3, h4, h5⟩ := h
  refine ⟨sv, mv, e, h1.keep hw (fun _ _ => rfl) (fun _ _ h => h), ?_, w1, w2⟩
  rcases h3.2 with ⟨e0, h0⟩ | ⟨g, cap, cur, e0, hb, hg, hc1, hc2, hc3, hc5⟩
  · have : x.makes = [] := List.length_eq_zero_iff.1 (by omega)
    rw [this, e0]
    exact SliceR.nil _ _ _ _
  · refine ⟨some ⟨g, 0, none⟩, cap, by rw [e0, h4], by omega, hc2, fun hp => ⟨g, 0, rfl, (Array.getElem?_eq_some_iff.1 hg).1, fun i m hi => ?_⟩⟩
    have hil : i < rows.length := by rw [h4]; exact (List.getElem?_eq_some_iff.1 hi).1
    have hr := List.getElem?_eq_getElem hil
    refine ⟨mkCells rows[i], rfl, (h5 i _ m hr hi).make hw, fun k u hku => ?_⟩
    have hk4 : k < 4 := (List.getElem?_eq_some_iff.1 hku).1
    rw [Nat.zero_add]
    subst e0
    rw [World.ownsRow.cellAt h3 (i * 4 + k) (by omega), flat_mk_at rows i k _ hr hk4]
    exact hku
theorem rows_of {mv : Value} {ms : List TMake} (h : SliceR w B 4 (MakeR w B) mv ms) (hl : ∀ m ∈ ms, m.vals.length ≤ 1000) : ∃ rows : List MkRow, rows.length = ms.length ∧ SliceR w B 4 (Raw 4) mv (rows.map mkCells) ∧ ∀ (i : Nat) r m, rows[i]? = some r → ms[i]? = some m → RowX w B r m := by
  obtain ⟨raws, r1, r2, r3⟩ := h.raw
  obtain ⟨rows, q1, q2⟩ := choose_list (len := ms.length) (p := fun i (r : MkRow) => ∀ c m, raws[i]? = some c → ms[i]? = some m → c = mkCells r ∧ RowX w B r m) (fun i hi => by
    have hm := List.getElem?_eq_getElem hi
    obtain ⟨c, hc, v, e, hv, w1, w2, w3⟩ := r3 i _ hm
    obtain ⟨A, cap, rfl, -⟩ := id hv
    refine ⟨⟨ms[i].cell, ms[i].kind, ms[i].num, A, ms[i].vals.length, cap⟩, fun c' m' hc' hm' => ?_⟩
    rw [hc] at hc'; injection hc' with hc'; subst hc'
    rw [hm] at hm'; injection hm' with hm'; subst hm'
    exact ⟨e, rfl, rfl, rfl, .inl hv, ⟨w1, w2, w3⟩, hl _ (List.mem_of_getElem? hm)⟩)
  have e : raws = rows.map mkCells := by
    refine List.ext_getElem? (fun i => ?_)
    rcases Nat.lt_or_ge i ms.length with hi | hi
    · have h1 := List.getElem?_eq_getElem (l := raws) (i := i) (by omega)
      have h2 := List.getElem?_eq_getElem (l := rows) (i := i) (by omega)
      rw [List.getElem?_map, h2, h1, (q2 i _ h2 _ _ h1 (List.getElem?_eq_getElem hi)).1]; rfl
    · rw [List.getElem?_eq_none (by omega), List.getElem?_eq_none (by rw [List.length_map]; omega)]
  subst e
  refine ⟨rows, q1, r2, fun i r m hr hm => ?_⟩
  have hm' := (List.getElem?_eq_some_iff.1 hm).1
  exact (q2 i r hr (mkCells r) m (by rw [List.getElem?_map, hr]; rfl) hm).2
/-- rows each of which reads: a list that they read as -/
theorem makes_of {rows : List MkRow} (h : ∀ r ∈ rows, ∃ m, RowX w B r m) : ∃ ms : List TMake, rows.length = ms.length ∧ (∀ (i : Nat) r m, rows[i]? = some r → ms[i]? = some m → RowX w B r m) ∧ ∀ m ∈ ms, m.vals.length ≤ 1000 := by
  obtain ⟨ms, q1, q2⟩ := choose_list (len := rows.length) (p := fun i (m : TMake) => ∀ r, rows[i]? = some r → RowX w B r m) (fun i hi => by
    obtain ⟨m, hm⟩ := h _ (List.getElem_mem hi)
    exact ⟨m, fun r hr => by rw [List.getElem?_eq_getElem hi] at hr; injection hr with hr; subst hr; exact hm⟩)
  refine ⟨ms, q1.symm, fun i r m hr hm => q2 i m hm r hr, fun m hm => ?_⟩
  obtain ⟨i, hi⟩ := List.getElem?_of_mem hm
  have hil : i < rows.length := by rw [← q1]; exact (List.getElem?_eq_some_iff.1 hi).1
  exact (q2 i m hi _ (List.getElem?_eq_getElem hil)).2.2.2.2.2
end
end Go.Proofs.YtlnkjmgfkpeicaaGreatDoor
