/- A row of one's own, of which one part is written anew. -/
import Derived.Test.YtmccomeihnaanaaDoorDeadC
import Derived.RangeFuncFrom
import Derived.RangeFuncWrites
import Derived.RangeFuncOwn
namespace Go.Proofs.YtmccomeihnaanaaDoor
open Go.RowKit

theorem setAll_list : ∀ (vs : List Value) (cs : Array Value) (o : Nat), o + vs.length ≤ cs.size → (setAll cs o vs).toList = cs.toList.take o ++ vs ++ cs.toList.drop (o + vs.length)
  | [], cs, o, _ => by simp [setAll]
  | v :: r, cs, o, h => by
    simp only [List.length_cons] at h
    rw [setAll, setAll_list r _ (o + 1) (by simp; omega), Array.toList_setIfInBounds]
    have ho : o < cs.toList.length := by simp; omega
    obtain ⟨A, c, D, hA, hD⟩ : ∃ (A : List Value) (c : Value) (D : List Value), A.length = o ∧ cs.toList = A ++ c :: D :=
      ⟨cs.toList.take o, cs.toList[o], cs.toList.drop (o + 1), by simp; omega, by rw [← List.drop_eq_getElem_cons ho, List.take_append_drop]⟩
    rw [hD, List.set_append_right _ _ (by omega), hA, Nat.sub_self]
    have e1 : (A ++ (c :: D).set 0 v).take (o + 1) = A ++ [v] := by
      rw [List.take_append, hA, List.take_of_length_le (by omega), show o + 1 - o = 1 by omega]; rfl
    have e2 : (A ++ (c :: D).set 0 v).drop (o + 1 + r.length) = (A ++ c :: D).drop (o + (r.length + 1)) := by
      have hd : ∀ Y : List Value, (A ++ Y).drop (o + 1 + r.length) = Y.drop (r.length + 1) := fun Y => by
        rw [List.drop_append, List.drop_of_length_le (by omega), hA, show o + 1 + r.length - o = r.length + 1 by omega, List.nil_append]
      rw [show o + (r.length + 1) = o + 1 + r.length by omega, hd, hd]; rfl
    have e3 : (A ++ c :: D).take o = A := by rw [← hA, List.take_left]
    rw [e1, e2, e3]
    simp
theorem own_set {w : World} {B g cap n size i : Nat} {e : TypeId} {xs vs : List Value} (h : w.ownsRow B e size (.slice (some ⟨g, 0, none⟩) n cap) n xs) (hi : i < n) (hv : vs.length = size) :
    (w.setCells g (i * size) vs).ownsRow B e size (.slice (some ⟨g, 0, none⟩) n cap) n (xs.take (i * size) ++ vs ++ xs.drop ((i + 1) * size)) := by
  obtain ⟨hl, h2⟩ := h
  rcases h2 with ⟨e1, _⟩ | ⟨g', cap', cur, e1, hb, hg, h3, h4, h5, h6⟩
  · cases e1
  · injection e1 with e1 e2 e3
    injection e1 with e1
    injection e1 with e1
    subst e1; subst e3
    have hle : (i + 1) * size ≤ n * size := Nat.mul_le_mul_right size hi
    have hcap : n * size ≤ cap * size := Nat.mul_le_mul_right size h3
    have e9 : (i + 1) * size = i * size + size := Nat.succ_mul i size
    refine ⟨?_, .inr ⟨g, cap, setAll cur (i * size) vs, rfl, hb, setCells_row vs _ w cur hg, h3, h4, by rw [setAll_size]; exact h5, ?_⟩⟩
    · simp only [List.length_append, List.length_take, List.length_drop, hl, hv]
      omega
    · have hk : i * size + size ≤ cur.toList.length := by simp only [Array.length_toList, h5]; omega
      rw [setAll_list vs cur _ (by rw [h5, hv]; omega), ← h6, hv, e9, List.take_append, List.take_of_length_le (by simp only [List.length_append, List.length_take, hv]; omega), List.take_take, Nat.min_eq_left (by omega), List.drop_take]
      congr 2
      simp only [List.length_append, List.length_take, hv]
      omega
/-- all that was there is as it was, but for block a and block o, if there is one -/
structure KeptU (a : Nat) (o : Option Nat) (w w' : World) : Prop where
  os : w'.os = w.os
  tape : w'.tape = w.tape
  output : w'.output = w.output
  size : w.heap.size ≤ w'.heap.size
  block : ∀ k, k < w.heap.size → k ≠ a → o ≠ some k → w'.heap[k]? = w.heap[k]?
section
variable {a : Nat} {o : Option Nat} {w w1 w2 : World}
theorem KeptU.refl (a : Nat) (o : Option Nat) (w : World) : KeptU a o w w := ⟨rfl, rfl, rfl, Nat.le_refl _, fun _ _ _ _ => rfl⟩
theorem KeptU.trans (h : KeptU a o w w1) (k : KeptU a o w1 w2) : KeptU a o w w2 :=
  ⟨k.os.trans h.os, k.tape.trans h.tape, k.output.trans h.output, Nat.le_trans h.size k.size, fun i hi h1 h2 => (k.block i (Nat.lt_of_lt_of_le hi h.size) h1 h2).trans (h.block i hi h1 h2)⟩
theorem KeptU.then (h : KeptU a o w w1) (k : Below w.heap.size w1 w2) : KeptU a o w w2 :=
  ⟨k.os.trans h.os, k.tape.trans h.tape, k.output.trans h.output, Nat.le_trans h.size k.size, fun i hi h1 h2 => (k.block i hi).trans (h.block i hi h1 h2)⟩
theorem KeptU.fined (h : KeptU a o w w1) (k : Fined a w1 w2) : KeptU a o w w2 :=
  ⟨k.os.trans h.os, k.tape.trans h.tape, k.output.trans h.output, Nat.le_trans h.size k.size, fun i hi h1 h2 => (k.block i (Nat.lt_of_lt_of_le hi h.size) h1).trans (h.block i hi h1 h2)⟩
theorem KeptU.cells {g : Nat} (h : KeptU a (some g) w w1) (i : Nat) (vs : List Value) : KeptU a (some g) w (w1.setCells g i vs) := by
  have k := Below.setCells_ (B := 0) (b := g) (Nat.zero_le _) vs i w1 (Below.refl 0 w1)
  refine ⟨k.os.trans h.os, k.tape.trans h.tape, k.output.trans h.output, Nat.le_trans h.size k.size, fun j hj h1 h2 => ?_⟩
  have hne : j ≠ g := fun e => h2 (by rw [e])
  have far : ∀ (vs : List Value) (o : Nat) (w : World), (w.setCells g o vs).heap[j]? = w.heap[j]? := fun vs => by
    induction vs with
    | nil => intro _ _; rfl
    | cons v r ih =>
      intro o w
      rw [World.setCells, ih]
      exact heap_setCell_other w ⟨g, o, none⟩ j v (by show j ≠ g; exact hne)
  rw [far]
  exact h.block j hj h1 h2
theorem KeptU.below (h : KeptU a o w w1) {B : Nat} (ha : B ≤ a) (ho : ∀ k, o = some k → B ≤ k) (hB : B ≤ w.heap.size) : Below B w w1 :=
  ⟨h.os, h.tape, h.output, h.size, fun k hk => h.block k (by omega) (by omega) (fun e => by have := ho k e; omega)⟩
theorem KeptU.row (h : KeptU a o w w1) {k : Nat} {x : Obj} (hk : w.heap[k]? = some x) (h1 : k ≠ a) (h2 : o ≠ some k) : w1.heap[k]? = some x := (h.block k (Array.getElem?_eq_some_iff.1 hk).1 h1 h2).trans hk
end
theorem below_row {B : Nat} {w w' : World} (h : Below B w w') {k : Nat} {x : Obj} (hk : w.heap[k]? = some x) (hb : k < B := by first | omega | exact (Array.getElem?_eq_some_iff.1 hk).1) : w'.heap[k]? = some x := (h.block k hb).trans hk
theorem keptU_own {β : Type} {a : Nat} {o : Option Nat} {w0 : World} {B : Nat} (hB : w0.heap.size ≤ B) : OwnFrom B (fun (_ : β) W => KeptU a o w0 W) := fun _ _ _ _ hs hg hr =>
  ⟨hg.os.trans hs.os, hg.tape.trans hs.tape, hg.output.trans hs.output, Nat.le_trans hs.size hg.size, fun k hk h1 h2 => (hg.block k (Nat.lt_of_lt_of_le hk hs.size) (fun e => by have := (hr k e.symm).1; omega)).trans (hs.block k hk h1 h2)⟩
theorem row_own {β : Type} {k B : Nat} {t : TypeId} {fr : Nat × Nat} (f : β → Array Value) : OwnFrom B (fun s W => W.heap[k]? = some (.cells (f s) t fr)) := fun _ _ _ _ hs hg hr =>
  (hg.block k (Array.getElem?_eq_some_iff.1 hs).1 (fun e => by obtain ⟨_, o, ho, hc⟩ := hr k e.symm; rw [hs] at ho; cases ho; cases hc)).trans hs
theorem KeptU.from {a tb : Nat} {w w' : World} (h : KeptU a (some tb) w w') {B : Nat} (h1 : a < B) (h2 : tb < B) : KeepsFrom B w w' :=
  ⟨h.size, fun k _ hk ho _ => h.row ho (by omega) (by simp; omega)⟩
theorem KeptU.set {a tb : Nat} {w w1 : World} (h : KeptU a (some tb) w w1) (i : Nat) (v : Value) : KeptU a (some tb) w (w1.setCell ⟨tb, i, none⟩ v) := h.cells i [v]
theorem setMap {tl : List Int} (i : Nat) (v : Int) : (⟨tl.map (.int .i64)⟩ : Array Value).setIfInBounds i (.int .i64 v) = ⟨(tl.set i v).map (.int .i64)⟩ := by
  apply Array.toList_inj.1
  rw [Array.toList_setIfInBounds]
  show (tl.map (Value.int .i64)).set i _ = _
  rw [List.map_set]
def insZ : List Value := [.int .i64 0, .int .i64 0, .int .i64 0, .int .i64 0, .int .i64 0, .int .i64 0, .int .i64 0, .int .i64 0]
theorem insZ_row {w : World} {g : Nat} {x : TIns} (h : w.heap[g]? = some (.cells ⟨insZ⟩ 43 (0, 0))) : (w.setCells g 0 (insCells x)).heap[g]? = some (.cells ⟨insCells x⟩ 43 (0, 0)) := by
  rw [setCells_row _ _ _ _ h]
  simp [insZ, insCells, setAll]
/-- an exit's cells without its sets and makes -/
def cutRow (r : List Value) : List Value := [r.getD 0 undef, r.getD 1 undef, .slice none 0 0, .slice none 0 0]
def dRows (f : Nat → Bool) (rows : List (List Value)) (j : Nat) : List (List Value) := rows.mapIdx (fun k r => if k < j ∧ f k = false then cutRow r else r)
theorem dRows_zero (f : Nat → Bool) (rows : List (List Value)) : dRows f rows 0 = rows := by
  unfold dRows
  apply List.ext_getElem?
  intro i
  rw [List.getElem?_mapIdx]
  cases rows[i]? <;> simp
theorem dRows_len (f : Nat → Bool) (rows : List (List Value)) (j : Nat) : (dRows f rows j).length = rows.length := by simp [dRows]
theorem dRows_here (f : Nat → Bool) (rows : List (List Value)) (j : Nat) : (dRows f rows j)[j]? = rows[j]? := by
  unfold dRows
  rw [List.getElem?_mapIdx]
  cases rows[j]? <;> simp
theorem dRows_used {f : Nat → Bool} {rows : List (List Value)} {j : Nat} (h : f j = true) : dRows f rows (j + 1) = dRows f rows j := by
  unfold dRows
  apply List.ext_getElem?
  intro i
  rw [List.getElem?_mapIdx, List.getElem?_mapIdx]
  cases rows[i]? with
  | none => rfl
  | some r =>
    simp only [Option.map_some, Option.some.injEq]
    by_cases c : i = j
    · subst c; simp [h]
    · simp only [show (i < j + 1 ∧ f i = false) ↔ (i < j ∧ f i = false) from (by constructor <;> rintro ⟨a, b⟩ <;> exact ⟨by omega, b⟩)]
theorem dRows_cut {f : Nat → Bool} {rows : List (List Value)} {j : Nat} {r : List Value} (h : f j = false) (hr : rows[j]? = some r) : dRows f rows (j + 1) = (dRows f rows j).set j (cutRow r) := by
  have hj := (List.getElem?_eq_some_iff.1 hr).1
  apply List.ext_getElem?
  intro i
  by_cases c : j = i
  · subst c
    rw [List.getElem?_set_self (by rw [dRows_len]; exact hj)]
    unfold dRows
    rw [List.getElem?_mapIdx, hr]
    simp [h]
  · rw [List.getElem?_set_ne c]
    unfold dRows
    rw [List.getElem?_mapIdx, List.getElem?_mapIdx]
    cases rows[i]? with
    | none => rfl
    | some r =>
      simp only [Option.map_some, Option.some.injEq]
      simp only [show (i < j + 1 ∧ f i = false) ↔ (i < j ∧ f i = false) from (by constructor <;> rintro ⟨a, b⟩ <;> exact ⟨by omega, b⟩)]
theorem flat_set {size : Nat} : ∀ (rows : List (List Value)) (i : Nat) (r : List Value), (∀ x ∈ rows, x.length = size) → r.length = size → i < rows.length →
    (rows.set i r).flatMap id = (rows.flatMap id).take (i * size) ++ r ++ (rows.flatMap id).drop ((i + 1) * size)
  | [], _, _, _, _, h => by simp at h
  | x :: l, 0, r, hx, hr, _ => by
    have h1 := hx x (by simp)
    rw [List.set_cons_zero, List.flatMap_cons, List.flatMap_cons]
    simp only [id, Nat.zero_mul, List.take_zero, List.nil_append, Nat.zero_add, Nat.one_mul]
    rw [← h1, List.drop_left]
  | x :: l, i + 1, r, hx, hr, h => by
    have h1 := hx x (by simp)
    have ih := flat_set l i r (fun y hy => hx y (by simp [hy])) hr (by simpa using h)
    rw [List.set_cons_succ, List.flatMap_cons, List.flatMap_cons, ih]
    have e1 : (i + 1) * size = x.length + i * size := by rw [Nat.succ_mul, h1]; omega
    have e2 : (i + 1 + 1) * size = x.length + (i + 1) * size := by rw [Nat.succ_mul, h1]; omega
    simp only [id]
    rw [e2, e1, List.take_length_add_append, List.drop_length_add_append]
    rw [← e1]
    simp
theorem flat_row {size : Nat} : ∀ (rows : List (List Value)) (i k : Nat) (r : List Value), (∀ x ∈ rows, x.length = size) → rows[i]? = some r → k < size → (rows.flatMap id)[i * size + k]? = r[k]?
  | [], _, _, _, _, h, _ => by simp at h
  | x :: l, 0, k, r, hx, h, hk => by
    have h1 := hx x (by simp)
    obtain rfl : x = r := by simpa using h
    rw [List.flatMap_cons]
    simp only [id, Nat.zero_mul, Nat.zero_add]
    rw [List.getElem?_append_left (by omega)]
  | x :: l, i + 1, k, r, hx, h, hk => by
    have h1 := hx x (by simp)
    have ih := flat_row l i k r (fun y hy => hx y (by simp [hy])) (by simpa using h) hk
    rw [List.flatMap_cons]
    simp only [id]
    rw [List.getElem?_append_right (by rw [Nat.succ_mul]; omega), show (i + 1) * size + k - x.length = i * size + k by rw [Nat.succ_mul, h1]; omega]
    exact ih
theorem dRows_four {f : Nat → Bool} {rows : List (List Value)} (h : ∀ x ∈ rows, x.length = 4) (j : Nat) : ∀ x ∈ dRows f rows j, x.length = 4 := by
  intro x hx
  obtain ⟨i, hi⟩ := List.getElem?_of_mem hx
  unfold dRows at hi
  rw [List.getElem?_mapIdx] at hi
  obtain ⟨r, hr, rfl⟩ := Option.map_eq_some_iff.1 hi
  split
  · rfl
  · exact h r (List.mem_of_getElem? hr)
theorem used_eq (t : TTrace) (i : Nat) : (t.ins.map (·.exit)).contains (i : Int) = usedM t i := by
  unfold usedM
  rw [Bool.eq_iff_iff, List.contains_iff_mem, List.any_eq_true, List.mem_map]
  constructor
  · rintro ⟨x, hx, e⟩; exact ⟨x, hx, beq_iff_eq.2 e⟩
  · rintro ⟨x, hx, e⟩; exact ⟨x, hx, beq_iff_eq.1 e⟩
theorem own_head {w : World} {B : Nat} {e : TypeId} {size n c : Nat} {A : Option Addr} {xs : List Value} (h : w.ownsRow B e size (.slice A n c) n xs) (hn : 0 < n) : ∃ G, A = some ⟨G, 0, none⟩ ∧ B ≤ G := by
  rcases h.2 with ⟨_, h0⟩ | ⟨g, cap, cur, e1, hb, _⟩
  · omega
  · injection e1 with e1 e2 e3
    exact ⟨g, e1, hb⟩
theorem deadExits_take {t : TTrace} {j : Nat} {y : TExit} (h : t.exits[j]? = some y) : (deadExits t).take (j + 1) = (deadExits t).take j ++ [deadX t j y] := by
  refine take_snoc ?_
  unfold deadExits
  rw [List.getElem?_mapIdx, h]; rfl
theorem setCells_other {g : Nat} : ∀ (vs : List Value) (o : Nat) (w : World) (k : Nat), k ≠ g → (w.setCells g o vs).heap[k]? = w.heap[k]?
  | [], _, _, _, _ => rfl
  | v :: r, o, w, k, h => by
    rw [World.setCells, setCells_other r (o + 1) _ k h]
    exact heap_setCell_other w ⟨g, o, none⟩ k v (by show k ≠ g; exact h)
/-- a row of one's own, a cell of another block turned -/
theorem own_other {w : World} {B g : Nat} {e : TypeId} {size n : Nat} {v : Value} {xs : List Value} (h : w.ownsRow B e size v n xs) (hg : v.ownBlock ≠ some g) (i : Nat) (u : Value) : (w.setCell ⟨g, i, none⟩ u).ownsRow B e size v n xs :=
  h.kept (row := some g) ⟨rfl, rfl, rfl, by simp [World.setCell], fun k _ hk => Below.heap_setCell _ _ _ _ (fun e => hk (by rw [e]))⟩ (.inr hg)
theorem own_there {w : World} {B G n c size i : Nat} {e : TypeId} {xs : List Value} (h : w.ownsRow B e size (.slice (some ⟨G, 0, none⟩) n c) n xs) (hi : i < n) : w.there G (i * size) size := by
  rcases h.2 with ⟨e1, _⟩ | ⟨g', cap', cur, e1, hb, hg, h3, h4, h5, h6⟩
  · cases e1
  · injection e1 with e1 e2 e3
    injection e1 with e1
    injection e1 with e1
    subst e1
    refine there_at hg ?_
    have h7 : (i + 1) * size ≤ n * size := Nat.mul_le_mul_right size hi
    have h8 : n * size ≤ cap' * size := Nat.mul_le_mul_right size h3
    rw [Nat.succ_mul] at h7
    omega
theorem exitVals_in {n : Nat} {x : TExit} (h : exitIn n x) : ∀ v ∈ exitVals x, 0 ≤ v ∧ v < (n : Int) := by
  intro v hv
  rcases List.mem_append.1 hv with hv | hv
  · obtain ⟨s, hs, rfl⟩ := List.mem_map.1 hv
    exact h.1 s hs
  · obtain ⟨m, hm, hv⟩ := List.mem_flatMap.1 hv
    rcases List.mem_cons.1 hv with rfl | hv
    · exact (h.2 m hm).1
    · exact (h.2 m hm).2 v hv
theorem deadX_in {n : Nat} {t : TTrace} {j : Nat} {x : TExit} (h : exitIn n x) : exitIn n (deadX t j x) := by
  unfold deadX
  split
  · exact h
  · exact ⟨fun s hs => by simp at hs, fun m hm => by simp at hm⟩
theorem deadX_small {t : TTrace} {j : Nat} {x : TExit} (h : Small x) : Small (deadX t j x) := by
  unfold deadX
  split
  · exact h
  · exact ⟨by simp, by simp, fun m hm => by simp at hm⟩
/-- code that does not panic: what is asked of a panic does not matter -/
theorem wp_nopanic {P : Program} {c : Code} {Q : Exit → Act → World → Prop} {a : Act} {w : World} (h : c.wp P (fun e a w => (∀ x, e ≠ .panic x) ∧ Q e a w) a w) : c.wp P Q a w :=
  Code.wp_mono (fun _ _ _ h => h.2) h
theorem sliceR_exits {w : World} {base : Nat} {e : TypeId} {A : Option Addr} {c : Nat} {xs : List TExit} {rows : List (List Value)} (h : w.ownsRow base e 4 (.slice A xs.length c) xs.length (rows.flatMap id)) (h4 : ∀ r ∈ rows, r.length = 4)
    (hr : ∀ (j : Nat) (x : TExit), xs[j]? = some x → ∃ r, rows[j]? = some r ∧ ExitR w w.heap.size r x) : SliceR w w.heap.size 4 (ExitR w w.heap.size) (.slice A xs.length c) xs := by
  rcases h.2 with ⟨e0, h0⟩ | ⟨g, cap, cur, e0, hb, hg, h1, h2, h3, h5⟩
  · have : xs = [] := List.length_eq_zero_iff.1 h0
    subst this
    rw [e0]
    exact SliceR.nil _ _ _ _
  · injection e0 with e0 e1 e2
    subst e0; subst e2
    refine ⟨_, _, rfl, h1, h2, fun hp => ⟨g, 0, rfl, (Array.getElem?_eq_some_iff.1 hg).1, fun i x hi => ?_⟩⟩
    obtain ⟨r, hr1, hr2⟩ := hr i x hi
    have hi' := (List.getElem?_eq_some_iff.1 hi).1
    have hr4 := h4 r (List.mem_of_getElem? hr1)
    refine ⟨r, hr4, hr2, fun k u hk => ?_⟩
    have hk4 : k < 4 := by have := (List.getElem?_eq_some_iff.1 hk).1; omega
    rw [Nat.zero_add, World.ownsRow.cellAt h (i * 4 + k) (by omega), flat_row rows i k r h4 hr1 hk4]
    exact hk
theorem dead_row {w : World} {B : Nat} {t : TTrace} {rows : List (List Value)} {j n : Nat} {y : TExit} {r : List Value} (hr : rows[j]? = some r) (hj : j < n) (hx : ExitR w B r y) : ∃ r', (dRows (usedM t) rows n)[j]? = some r' ∧ ExitR w B r' (deadX t j y) := by
  obtain ⟨s, m, rfl, hs, hm, h4, h5⟩ := hx
  cases hu : usedM t j
  · refine ⟨[.int .i64 y.at_, .int .i64 y.steps, .slice none 0 0, .slice none 0 0], ?_, ?_⟩
    · unfold dRows
      rw [List.getElem?_mapIdx, hr]
      simp [hj, hu, cutRow]
    · unfold deadX
      rw [hu]
      exact ⟨_, _, rfl, SliceR.nil _ _ _ _, SliceR.nil _ _ _ _, h4, h5⟩
  · refine ⟨[.int .i64 y.at_, .int .i64 y.steps, s, m], ?_, ?_⟩
    · unfold dRows
      rw [List.getElem?_mapIdx, hr]
      simp only [Option.map_some]
      rw [if_neg (by simp [hu])]
    · unfold deadX
      rw [hu]
      exact ⟨_, _, rfl, hs, hm, h4, h5⟩
theorem smallT_dead {t : TTrace} (h : SmallT t) : SmallT (deadT t) := by
  refine ⟨h.ins, ?_, fun x hx => ?_, h.turn, h.back⟩
  · show (deadExits t).length ≤ 200
    unfold deadExits
    rw [List.length_mapIdx]
    exact h.exitsLen
  · have hx' : x ∈ deadExits t := hx
    unfold deadExits at hx'
    obtain ⟨j, hj⟩ := List.getElem?_of_mem hx'
    rw [List.getElem?_mapIdx] at hj
    cases hy : t.exits[j]? with
    | none => rw [hy] at hj; cases hj
    | some y =>
      rw [hy] at hj
      injection hj with hj
      subst hj
      exact deadX_small (h.exits y (List.mem_of_getElem? hy))
/-- a trace's cells with other exits -/
theorem traceR_exits {w0 w : World} {B0 : Nat} {ca : List Value} {t : TTrace} (h : TraceR w0 B0 ca t) (hB : B0 ≤ w.heap.size) (hk : ∀ p : Addr, p.block < B0 → w.cell? p = w0.cell? p) {u : Value} {xs : List TExit} (hu : SliceR w w.heap.size 4 (ExitR w w.heap.size) u xs) :
    TraceR w w.heap.size (ca.set 4 u) { t with exits := xs } := by
  obtain ⟨i, e, ct, cb, h1, h2, h3, h4, h5⟩ := h.keep hB hk
  exact ⟨i, u, ct, cb, by rw [h1]; rfl, h2, hu, h4, h5⟩
theorem KeptU.own {a : Nat} {o : Option Nat} {w w' : World} (k : KeptU a o w w') {B n size : Nat} {e : TypeId} {v : Value} {xs : List Value} (h : w.ownsRow B e size v n xs) (hv : ∀ G, v.ownBlock = some G → G ≠ a ∧ o ≠ some G) : w'.ownsRow B e size v n xs := by
  obtain ⟨hl, h2⟩ := h
  refine ⟨hl, ?_⟩
  rcases h2 with ⟨rfl, h0⟩ | ⟨g, cap, cur, rfl, hb, hg, h1⟩
  · exact .inl ⟨rfl, h0⟩
  · have := hv g rfl
    exact .inr ⟨g, cap, cur, rfl, hb, k.row hg this.1 this.2, h1⟩
/-- the block of deferred calls is shut: no cell turns -/
theorem cell_shut {w : World} {D : Nat} {ds : Option (List Deferred)} (h : w.heap[D]? = some (.deferred ds)) (p : Addr) : (w.putObj D (.deferred none)).cell? p = w.cell? p := by
  have hD := (Array.getElem?_eq_some_iff.1 h).1
  unfold World.cell?
  by_cases c : p.block = D
  · rw [c, h, World.putObj_heap_same hD]
  · rw [World.putObj_heap_other c]
theorem below_shut {B : Nat} {w0 w : World} (k : Below B w0 w) {D : Nat} (hD : B ≤ D) (hw : B ≤ w.heap.size) : Below B w0 (w.putObj D (.deferred none)) :=
  k.grown (grownBy_putObj' w D _) hw (fun j e => by cases e; exact hD)
theorem deadGo_wf (t : TTrace) : ∀ (i : Nat) (marks acc : List Int), i ≤ t.ins.length → (∀ v ∈ acc, -1 ≤ v ∧ v < (t.ins.length : Int)) → ∀ v ∈ deadGo t i marks acc, -1 ≤ v ∧ v < (t.ins.length : Int)
  | 0, _, _, _, h => h
  | i + 1, marks, acc, hi, h => by
    unfold deadGo
    rw [List.getElem?_eq_getElem (by omega)]
    dsimp only
    split
    · exact deadGo_wf t i _ _ (by omega) (fun v hv => by rcases List.mem_cons.1 hv with rfl | hv; exact ⟨by omega, by omega⟩; exact h v hv)
    · exact deadGo_wf t i _ _ (by omega) (fun v hv => by rcases List.mem_cons.1 hv with rfl | hv; exact ⟨by omega, by omega⟩; exact h v hv)
theorem deadTo_wf {t : TTrace} (hs : t.ins.length ≤ 300) : ∀ v ∈ deadTo t, wfi v := fun v hv => by
  have := deadGo_wf t t.ins.length (marks0 t) [] (Nat.le_refl _) (fun v hv => by cases hv) v hv
  unfold wfi; omega
end Go.Proofs.YtmccomeihnaanaaDoor
