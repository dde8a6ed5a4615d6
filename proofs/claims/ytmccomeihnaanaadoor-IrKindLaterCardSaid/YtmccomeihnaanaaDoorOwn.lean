/- Slices of structs that a call makes: rows of one element type. -/
import Derived.Test.YtmccomeihnaanaaDoorIrB
import Derived.Test.YtmccomeihnaanaaDoorKeep
namespace Go.Proofs.YtmccomeihnaanaaDoor
open Go.RowKit

/-- lists of blocks of cells -/
theorem flat_len {α : Type} {f : α → List Value} {n : Nat} : ∀ (xs : List α), (∀ x ∈ xs, (f x).length = n) → (xs.flatMap f).length = xs.length * n
  | [], _ => by simp
  | x :: xs, hf => by
    have h1 := hf x (by simp)
    have h2 := flat_len xs (fun y hy => hf y (by simp [hy]))
    simp [h1, h2, Nat.add_mul]; omega
theorem flat_get {α : Type} {f : α → List Value} {n : Nat} : ∀ (xs : List α), (∀ x ∈ xs, (f x).length = n) → ∀ (i : Nat) (x : α), xs[i]? = some x → ∀ j, j < n → (xs.flatMap f)[i * n + j]? = (f x)[j]?
  | [], _, i, x, h, _, _ => by simp at h
  | y :: xs, hf, 0, x, h, j, hj => by
    simp at h; subst h
    simp only [List.flatMap_cons, Nat.zero_mul, Nat.zero_add]
    rw [List.getElem?_append_left (by rw [hf _ (by simp)]; exact hj)]
  | y :: xs, hf, i + 1, x, h, j, hj => by
    simp only [List.flatMap_cons]
    rw [List.getElem?_append_right (by rw [hf y (by simp), Nat.add_mul]; omega), hf y (by simp)]
    have e : (i + 1) * n + j - n = i * n + j := by rw [Nat.add_mul]; omega
    rw [e]
    exact flat_get xs (fun z hz => hf z (by simp [hz])) i x (by simpa using h) j hj
theorem flat_at {α : Type} {f : α → List Value} {n : Nat} (hn : 0 < n) (xs : List α) (hf : ∀ x ∈ xs, (f x).length = n) (j : Nat) (u : Value) (h : (xs.flatMap f)[j]? = some u) :
    ∃ x, xs[j / n]? = some x ∧ (f x)[j % n]? = some u := by
  have hl : j < xs.length * n := by rw [← flat_len xs hf]; exact (List.getElem?_eq_some_iff.1 h).1
  have hi : j / n < xs.length := (Nat.div_lt_iff_lt_mul hn).2 hl
  refine ⟨xs[j / n], List.getElem?_eq_getElem hi, ?_⟩
  have := flat_get xs hf (j / n) _ (List.getElem?_eq_getElem hi) (j % n) (Nat.mod_lt _ hn)
  rw [← this, Nat.div_add_mod' j n]
  exact h

/-- THE SLICE v HOLDS xs, in a row of element type ty, from block B on. -/
def SliceTy {α : Type} (w : World) (B : Nat) (ty : TypeId) (size : Nat) (R : List Value → α → Prop) (v : Value) (xs : List α) : Prop :=
  ∃ A cap, v = .slice A xs.length cap ∧ xs.length ≤ cap ∧ cap ≤ maxLen ∧
    (0 < xs.length → ∃ b off cs fr, A = some ⟨b, off, none⟩ ∧ B ≤ b ∧ w.heap[b]? = some (.cells cs ty fr) ∧ ∀ i x, xs[i]? = some x → ∃ c, c.length = size ∧ R c x ∧ ∀ j u, c[j]? = some u → cs[off + i * size + j]? = some u)

theorem SliceTy.slice {α : Type} {w : World} {B : Nat} {ty : TypeId} {size : Nat} {R : List Value → α → Prop} {v : Value} {xs : List α} (h : SliceTy w B ty size R v xs) : SliceR w w.heap.size size R v xs := by
  obtain ⟨A, cap, h1, h2, h3, h4⟩ := h
  refine ⟨A, cap, h1, h2, h3, fun hp => ?_⟩
  obtain ⟨b, off, cs, fr, h5, h6, h7, h8⟩ := h4 hp
  refine ⟨b, off, h5, (Array.getElem?_eq_some_iff.1 h7).1, fun i x hi => ?_⟩
  obtain ⟨c, c1, c2, c3⟩ := h8 i x hi
  exact ⟨c, c1, c2, fun j u hj => by rw [cell_of_row w b _ cs ty fr h7]; exact c3 j u hj⟩
theorem SliceTy.keep {α : Type} {w w' : World} {B : Nat} {ty : TypeId} {size : Nat} {R R' : List Value → α → Prop} {v : Value} {xs : List α} (h : SliceTy w B ty size R v xs)
    (hk : ∀ k cs fr, B ≤ k → w.heap[k]? = some (.cells cs ty fr) → w'.heap[k]? = w.heap[k]?) (hR : ∀ cs x, R cs x → R' cs x) : SliceTy w' B ty size R' v xs := by
  obtain ⟨A, cap, h1, h2, h3, h4⟩ := h
  refine ⟨A, cap, h1, h2, h3, fun hp => ?_⟩
  obtain ⟨b, off, cs, fr, h5, h6, h7, h8⟩ := h4 hp
  exact ⟨b, off, cs, fr, h5, h6, (hk b cs fr h6 h7).trans h7, fun i x hi => by
    obtain ⟨c, c1, c2, c3⟩ := h8 i x hi
    exact ⟨c, c1, hR c x c2, c3⟩⟩
theorem SliceTy.below {α : Type} {w w' : World} {B : Nat} {ty : TypeId} {size : Nat} {R : List Value → α → Prop} {v : Value} {xs : List α} (h : SliceTy w B ty size R v xs) (hb : Below w.heap.size w w') : SliceTy w' B ty size R v xs :=
  h.keep (fun k cs fr _ hk => hb.block k (Array.getElem?_eq_some_iff.1 hk).1) (fun _ _ h => h)
theorem SliceTy.more {α : Type} {w : World} {B B' : Nat} {ty : TypeId} {size : Nat} {R : List Value → α → Prop} {v : Value} {xs : List α} (h : SliceTy w B ty size R v xs) (hB : B' ≤ B) : SliceTy w B' ty size R v xs := by
  obtain ⟨A, cap, h1, h2, h3, h4⟩ := h
  refine ⟨A, cap, h1, h2, h3, fun hp => ?_⟩
  obtain ⟨b, off, cs, fr, h5, h6, h7⟩ := h4 hp
  exact ⟨b, off, cs, fr, h5, Nat.le_trans hB h6, h7⟩
theorem SliceTy.nil {α : Type} (w : World) (B : Nat) (ty : TypeId) (size : Nat) (R : List Value → α → Prop) : SliceTy w B ty size R (.slice none 0 0) [] := ⟨none, 0, rfl, Nat.le_refl _, by decide, by simp⟩
/-- a prefix, of the same row -/
theorem SliceTy.take {α : Type} {w : World} {B : Nat} {ty : TypeId} {size : Nat} {R : List Value → α → Prop} {A : Option Addr} {n cap k : Nat} {xs : List α} (h : SliceTy w B ty size R (.slice A n cap) xs) (hk : k ≤ n) :
    SliceTy w B ty size R (.slice A k cap) (xs.take k) := by
  obtain ⟨A', cap', h1, h2, h3, h4⟩ := h
  injection h1 with e1 e2 e3
  subst e1; subst e2; subst e3
  have hl : (xs.take k).length = k := by simp; omega
  refine ⟨A, cap, by rw [hl], by omega, h3, fun hp => ?_⟩
  obtain ⟨b, off, cs, fr, h5, h6, h7, h8⟩ := h4 (by omega)
  refine ⟨b, off, cs, fr, h5, h6, h7, fun i x hi => h8 i x ?_⟩
  rw [List.getElem?_take] at hi
  split at hi
  · exact hi
  · cases hi
/-- what a call owns reads so -/
theorem sliceTy_of_own {α : Type} {w : World} {base : Nat} {ty : TypeId} {size : Nat} {R : List Value → α → Prop} {f : α → List Value} {v : Value} {xs : List α} (hsz : 0 < size) (hf : ∀ x ∈ xs, (f x).length = size) (hR : ∀ x ∈ xs, R (f x) x)
    (h : w.ownsRow base ty size v xs.length (xs.flatMap f)) : SliceTy w base ty size R v xs := by
  rcases h.2 with ⟨rfl, h0⟩ | ⟨g, cap, cur, rfl, hb, hg, h1, h2, h3, h4⟩
  · have : xs = [] := List.length_eq_zero_iff.1 h0
    subst this
    exact SliceTy.nil _ _ _ _ _
  · refine ⟨_, cap, rfl, h1, h2, fun hp => ⟨g, 0, cur, (0, 0), rfl, hb, hg, fun i x hi => ⟨f x, hf x (List.mem_of_getElem? hi), hR x (List.mem_of_getElem? hi), fun j u hj => ?_⟩⟩⟩
    have hjl : j < size := by rw [← hf x (List.mem_of_getElem? hi)]; exact (List.getElem?_eq_some_iff.1 hj).1
    have hil : i < xs.length := (List.getElem?_eq_some_iff.1 hi).1
    have e := flat_get xs hf i x hi j hjl
    rw [← h4, List.getElem?_take, if_pos (by
      have : (i + 1) * size ≤ xs.length * size := Nat.mul_le_mul_right _ (by omega)
      rw [Nat.add_mul] at this; omega)] at e
    rw [Nat.zero_add, ← Array.getElem?_toList, e]
    exact hj
/-- what is to be appended, out of a slice that reads so -/
theorem news_of_slice {α : Type} {w : World} {B size : Nat} {R : List Value → α → Prop} {f : α → List Value} {b off n cap : Nat} {xs : List α} (hsz : 0 < size) (hf : ∀ x ∈ xs, (f x).length = size) (hR : ∀ cs x, R cs x → cs = f x)
    (h : SliceR w B size R (.slice (some ⟨b, off, none⟩) n cap) xs) : ∀ j u, (xs.flatMap f)[j]? = some u → w.cell? ((⟨b, off, none⟩ : Addr).add j) = some u := by
  intro j u hj
  obtain ⟨x, hx, hu⟩ := flat_at hsz xs hf j u hj
  have hl : j / size < xs.length := (List.getElem?_eq_some_iff.1 hx).1
  obtain ⟨b', off', y, cs, e, _, hy, _, hr, hat⟩ := h.at_ hl
  injection e with e
  injection e with e1 e2
  subst e1; subst e2
  rw [hx] at hy
  injection hy with hy
  subst hy
  have := hat (j % size) u (by rw [hR cs x hr]; exact hu)
  rw [Nat.add_assoc, Nat.div_add_mod' j size] at this
  rw [Addr.add]
  split
  · rename_i h0; subst h0; simpa using this
  · exact this
theorem ones_flat {α : Type} {f : α → List Value} (xs : List α) (hf : ∀ x ∈ xs, ∀ u ∈ f x, u.oneCell' = true) : ∀ u ∈ xs.flatMap f, u.oneCell' = true := by
  intro u hu
  obtain ⟨x, hm, hx⟩ := List.mem_flatMap.1 hu
  exact hf x hm u hx
/-- the same, its elements as rows of cells -/
def Raw (size : Nat) (c x : List Value) : Prop := c = x ∧ x.length = size
theorem SliceR.raw {α : Type} {w : World} {B size : Nat} {R : List Value → α → Prop} {v : Value} {xs : List α} (h : SliceR w B size R v xs) :
    ∃ rows : List (List Value), rows.length = xs.length ∧ SliceR w B size (Raw size) v rows ∧ ∀ (i : Nat) x, xs[i]? = some x → ∃ c, rows[i]? = some c ∧ R c x := by
  obtain ⟨A, cap, h1, h2, h3, h4⟩ := h
  by_cases hp : 0 < xs.length
  · obtain ⟨b, off, h5, h6, h7⟩ := h4 hp
    obtain ⟨rows, r1, r2⟩ := choose_list (len := xs.length) (p := fun i (c : List Value) => ∀ x, xs[i]? = some x → c.length = size ∧ R c x ∧ CellsAt w b (off + i * size) c) (fun i hi => by
      obtain ⟨c, c1, c2, c3⟩ := h7 i _ (List.getElem?_eq_getElem hi)
      exact ⟨c, fun x hx => by rw [List.getElem?_eq_getElem hi] at hx; injection hx with hx; subst hx; exact ⟨c1, c2, c3⟩⟩)
    refine ⟨rows, r1, ⟨A, cap, by rw [h1, r1], by omega, h3, fun _ => ⟨b, off, h5, h6, fun i c hc => ?_⟩⟩, fun i x hx => ?_⟩
    · have hi : i < xs.length := by rw [← r1]; exact (List.getElem?_eq_some_iff.1 hc).1
      obtain ⟨c1, c2, c3⟩ := r2 i c hc _ (List.getElem?_eq_getElem hi)
      exact ⟨c, c1, ⟨rfl, c1⟩, c3⟩
    · have hi : i < rows.length := by rw [r1]; exact (List.getElem?_eq_some_iff.1 hx).1
      have hc := List.getElem?_eq_getElem hi
      exact ⟨_, hc, (r2 i _ hc x hx).2.1⟩
  · have e : xs = [] := List.length_eq_zero_iff.1 (by omega)
    subst e
    exact ⟨[], rfl, ⟨A, cap, h1, h2, h3, by simp⟩, by simp⟩
theorem SliceTy.of_raw {α : Type} {w : World} {B : Nat} {ty : TypeId} {size : Nat} {R : List Value → α → Prop} {v : Value} {rows : List (List Value)} {xs : List α} (h : SliceTy w B ty size (Raw size) v rows) (hl : rows.length = xs.length)
    (hr : ∀ (i : Nat) x, xs[i]? = some x → ∃ c, rows[i]? = some c ∧ R c x) : SliceTy w B ty size R v xs := by
  obtain ⟨A, cap, h1, h2, h3, h4⟩ := h
  refine ⟨A, cap, by rw [h1, hl], by omega, h3, fun hp => ?_⟩
  obtain ⟨b, off, cs, fr, h5, h6, h7, h8⟩ := h4 (by omega)
  refine ⟨b, off, cs, fr, h5, h6, h7, fun i x hi => ?_⟩
  obtain ⟨c, c1, c2⟩ := hr i x hi
  obtain ⟨c', d1, ⟨rfl, _⟩, d3⟩ := h8 i c c1
  exact ⟨c', d1, c2, d3⟩
end Go.Proofs.YtmccomeihnaanaaDoor
