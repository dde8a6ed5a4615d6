/- The walk through a function's orders, and code.Check, as plain Lean. No program of the seat's. Slices of structs that a call makes: rows of one element type. slices.Clone. Package code: form. Package code: names, caught, order. A region that draws its order: reads and calls that leave all that was there as it was, and behind them a forced tail that may write: one walk (the twin of the library's law on a still head, at a class of worlds). Package code: caught, order. -/
import Derived.Test.YtlnkjmgfkpeicaaGreatDoorIrT
import Derived.WalkSpells
import Derived.Test.YtlnkjmgfkpeicaaGreatDoorCodeA
import Derived.Laws.Tables
import Derived.StillTailTactics
import Derived.Shelf.Abstract
set_option linter.all false
namespace Go.Proofs.YtlnkjmgfkpeicaaGreatDoor

structure WalkS where
  seen : List Bool
  out : List (List CTry)
  todo : List Int
  bad : Bool

def comeM (s : WalkS) (at_ : Int) (l : List CTry) : WalkS :=
  if (s.seen.length : Int) ≤ at_ ∨ 20 < l.length then { s with bad := true }
  else if s.seen[at_.toNat]? = some false then { s with seen := s.seen.set at_.toNat true, out := s.out.set at_.toNat l, todo := s.todo ++ [at_] }
  else if s.out[at_.toNat]? = some l then s else { s with bad := true }
def fromM (code : List CIns) (s : WalkS) (at_ : Int) : WalkS :=
  match code[at_.toNat]?, s.out[at_.toNat]? with
  | some i, some l =>
    if i.op = 28 ∨ i.op = 29 then s
    else if i.op = 13 ∨ i.op = 14 then comeM s i.a l
    else if i.op = 15 then comeM (comeM s i.b l) (at_ + 1) l
    else if i.op = 30 then comeM (comeM s i.b l) (at_ + 1) (l ++ [⟨i.a, i.b⟩])
    else if i.op = 31 then (if l = [] then { s with bad := true } else comeM s (at_ + 1) l.dropLast)
    else comeM s (at_ + 1) l
  | _, _ => s
def meas (s : WalkS) : Nat := s.seen.count false + s.todo.length
def popM (s : WalkS) : WalkS := { s with todo := s.todo.dropLast }
def runW (code : List CIns) : Nat → WalkS → WalkS
  | 0, s => s
  | f + 1, s => if s.todo ≠ [] ∧ s.bad = false then runW code f (fromM code (popM s) (s.todo.getLast?.getD 0)) else s
def startM (n : Nat) : WalkS := comeM ⟨List.replicate n false, List.replicate n [], [], false⟩ 0 []
def triesM (code : List CIns) : WalkS := runW code (meas (startM code.length)) (startM code.length)

/-- what holds of the walk's state all the while -/
structure WOk (n : Nat) (s : WalkS) : Prop where
  seen : s.seen.length = n
  out : s.out.length = n
  todo : ∀ t ∈ s.todo, 0 ≤ t ∧ t < n
  few : ∀ l ∈ s.out, l.length ≤ 20
  small : meas s ≤ n
  wf : ∀ l ∈ s.out, ∀ x ∈ l, (-9223372036854775808 ≤ x.reg ∧ x.reg ≤ 9223372036854775807) ∧ (-9223372036854775808 ≤ x.at_ ∧ x.at_ ≤ 9223372036854775807)

theorem count_set (l : List Bool) (i : Nat) (h : l[i]? = some false) : (l.set i true).count false + 1 = l.count false := by
  have hl : i < l.length := (List.getElem?_eq_some_iff.1 h).1
  have hp := List.count_pos_iff.2 (List.mem_of_getElem? h)
  rw [List.count_set hl]
  have e : l[i] = false := by rw [List.getElem?_eq_getElem hl] at h; injection h
  simp [e]
  omega
theorem meas_come (s : WalkS) (at_ : Int) (l : List CTry) : meas (comeM s at_ l) = meas s := by
  unfold comeM
  split
  · rfl
  · split
    · rename_i h
      have := count_set _ _ h
      simp only [meas, List.length_append, List.length_singleton]
      omega
    · split <;> rfl
abbrev TryWf (l : List CTry) : Prop := ∀ x ∈ l, (-9223372036854775808 ≤ x.reg ∧ x.reg ≤ 9223372036854775807) ∧ (-9223372036854775808 ≤ x.at_ ∧ x.at_ ≤ 9223372036854775807)
theorem WOk.come {n : Nat} {s : WalkS} (h : WOk n s) {at_ : Int} (h0 : 0 ≤ at_) {l : List CTry} (hl : TryWf l) : WOk n (comeM s at_ l) := by
  have hm := meas_come s at_ l
  have hx : meas (comeM s at_ l) ≤ n := by rw [hm]; exact h.small
  unfold comeM at hx ⊢
  split
  · exact ⟨h.seen, h.out, h.todo, h.few, h.small, h.wf⟩
  · rename_i hc
    rw [if_neg hc] at hx
    split
    · rename_i hs
      rw [if_pos hs] at hx
      have hc' : ¬ (s.seen.length : Int) ≤ at_ ∧ ¬ 20 < l.length := by omega
      have := h.seen
      refine ⟨by simp [h.seen], by simp [h.out], fun t ht => ?_, fun m hm' => ?_, hx, fun m hm' => ?_⟩
      · rcases List.mem_append.1 ht with ht | ht
        · exact h.todo t ht
        · simp at ht; subst ht; omega
      · rcases List.mem_or_eq_of_mem_set hm' with hm' | rfl
        · exact h.few m hm'
        · omega
      · rcases List.mem_or_eq_of_mem_set hm' with hm' | rfl
        · exact h.wf m hm'
        · exact hl
    · split
      · exact h
      · exact ⟨h.seen, h.out, h.todo, h.few, h.small, h.wf⟩
/-- the orders' places that are gone to -/
def JumpsOk (code : List CIns) : Prop := ∀ i ∈ code, ((i.op = 13 ∨ i.op = 14) → 0 ≤ i.a ∧ i.a ≤ 9223372036854775807) ∧ ((i.op = 15 ∨ i.op = 30) → 0 ≤ i.b ∧ i.b ≤ 9223372036854775807) ∧ (-9223372036854775808 ≤ i.a ∧ i.a ≤ 9223372036854775807)
theorem meas_from (code : List CIns) (s : WalkS) (at_ : Int) : meas (fromM code s at_) = meas s := by
  unfold fromM
  split
  · repeat' split
    all_goals first | rfl | (simp only [meas_come])
  · rfl
theorem WOk.from_ {n : Nat} {s : WalkS} (h : WOk n s) {code : List CIns} (hj : JumpsOk code) {at_ : Int} (h0 : 0 ≤ at_) : WOk n (fromM code s at_) := by
  unfold fromM
  split
  · rename_i i l hi ho
    have hm := List.mem_of_getElem? hi
    have hl : TryWf l := h.wf l (List.mem_of_getElem? ho)
    obtain ⟨j1, j2, j3⟩ := hj i hm
    repeat' split
    · exact h
    · exact h.come (j1 (by assumption)).1 hl
    · exact (h.come (j2 (.inl (by assumption))).1 hl).come (by omega) hl
    · have j4 := j2 (.inr (by assumption))
      refine (h.come j4.1 hl).come (by omega) (fun x hx => ?_)
      rcases List.mem_append.1 hx with hx | hx
      · exact hl x hx
      · simp at hx; subst hx; exact ⟨j3, by dsimp only; omega⟩
    · exact ⟨h.seen, h.out, h.todo, h.few, h.small, h.wf⟩
    · exact h.come (by omega) (fun x hx => hl x (List.dropLast_subset l hx))
    · exact h.come (by omega) hl
  · exact h
theorem WOk.pop {n : Nat} {s : WalkS} (h : WOk n s) : WOk n (popM s) :=
  ⟨h.seen, h.out, fun t ht => h.todo t (List.dropLast_subset _ ht), h.few, by have := h.small; simp only [meas, popM, List.length_dropLast] at *; omega, h.wf⟩
theorem meas_pop {s : WalkS} (h : s.todo ≠ []) : meas (popM s) + 1 = meas s := by
  have : 0 < s.todo.length := List.length_pos_iff.2 h
  simp only [meas, popM, List.length_dropLast]; omega
/-- one round -/
theorem run_step {code : List CIns} {s : WalkS} {t : Int} (h : s.todo.getLast? = some t) (hb : s.bad = false) : runW code (meas s) s = runW code (meas (fromM code (popM s) t)) (fromM code (popM s) t) := by
  have hn : s.todo ≠ [] := by intro e; rw [e] at h; cases h
  rw [meas_from, ← meas_pop hn]
  show (if s.todo ≠ [] ∧ s.bad = false then _ else _) = _
  rw [if_pos ⟨hn, hb⟩, h]
  rfl
theorem run_end {code : List CIns} {s : WalkS} (h : s.todo = [] ∨ s.bad = true) (f : Nat) : runW code f s = s := by
  cases f with
  | zero => rfl
  | succ f =>
    unfold runW
    rw [if_neg]
    rcases h with h | h <;> simp [h]
theorem startM_ok (n : Nat) : WOk n (startM n) := by
  refine WOk.come ⟨by simp, by simp, by simp, by simp, by simp [meas], by simp⟩ (Int.le_refl _) (by intro x hx; cases hx)

def functionM (p : CProg) (f : CFn) : Bool :=
  !(decide (f.params < 0) || decide (f.regs < 1) || decide (f.regs < f.params)) && (f.code.zipIdx.all fun x => orderM p f x.2 x.1) && !(triesM f.code).bad
theorem names_a {p : CProg} {f : CFn} {n : Int} (h : namesM p f 97 n = true) : 0 ≤ n ∧ n < f.code.length := by
  have : withinM n 0 ((f.code.length : Int) - 1) = true := h
  rw [withinM_iff] at this; omega
theorem order_jumps {p : CProg} {f : CFn} {at_ : Int} {i : CIns} (h : orderM p f at_ i = true) : ((i.op = 13 ∨ i.op = 14) → 0 ≤ i.a ∧ i.a < f.code.length) ∧ ((i.op = 15 ∨ i.op = 30) → 0 ≤ i.b ∧ i.b < f.code.length) := by
  unfold orderM at h
  simp only [Bool.and_eq_true] at h
  have h1 := h.1
  unfold namedM at h1
  split at h1
  · rename_i x y z hf
    simp only [Bool.and_eq_true] at h1
    refine ⟨fun ho => ?_, fun ho => ?_⟩
    · have : formS i.op = [97, 45, 45] := by rcases ho with ho | ho <;> rw [ho] <;> decide
      rw [this] at hf
      injection hf with e1
      exact names_a (by rw [e1]; exact h1.1.1.2)
    · have : formS i.op = [114, 97, 45] := by rcases ho with ho | ho <;> rw [ho] <;> decide
      rw [this] at hf
      injection hf with e1 e2
      injection e2 with e2
      exact names_a (by rw [e2]; exact h1.1.2)
  · cases h1
def largeM (p : CProg) : Bool :=
  decide (60 < p.fns.length) || decide (200 < p.consts.length) || decide (200 < p.texts.length) || p.texts.any (fun t => decide (200 < t.size)) || p.fns.any (fun f => decide (600 < f.code.length) || decide (60 < f.regs))
end Go.Proofs.YtlnkjmgfkpeicaaGreatDoor
namespace Go.Proofs.YtlnkjmgfkpeicaaGreatDoor
open Go.RowKit

/-- lists of blocks of cells -/
theorem flat_len {α : Type} {f : α → List Value} {n : Nat} : ∀ (xs : List α), (∀ x ∈ xs, (f x).length = n) → (xs.flatMap f).length = xs.length * n
  | [], _ => by simp
  | x :: xs, hf => by
    have h1 := hf x (by simp)
    have h2 := flat_len xs (fun y hy => hf y (by simp [hy]))
    simp [h1, h2, Nat.add_mul]; omega
theorem flat_get {α : Type} {f : α → List Value} {n : Nat} : ∀ (xs : List α), (∀ x ∈ xs, (f x).length = n) → ∀ (i : Nat) (x : α), xs[i]? = some x → ∀ j, j < n → (xs.flatMap f)[i * n + j]? = (f x)[j]?
  | [], _, i, x, h, _, _ => by simp at h
  | y :: xs, hf, 0, x, h, j, hj => by
    simp at h; subst h
    simp only [List.flatMap_cons, Nat.zero_mul, Nat.zero_add]
    rw [List.getElem?_append_left (by rw [hf _ (by simp)]; exact hj)]
  | y :: xs, hf, i + 1, x, h, j, hj => by
    simp only [List.flatMap_cons]
    rw [List.getElem?_append_right (by rw [hf y (by simp), Nat.add_mul]; omega), hf y (by simp)]
    have e : (i + 1) * n + j - n = i * n + j := by rw [Nat.add_mul]; omega
    rw [e]
    exact flat_get xs (fun z hz => hf z (by simp [hz])) i x (by simpa using h) j hj
theorem flat_at {α : Type} {f : α → List Value} {n : Nat} (hn : 0 < n) (xs : List α) (hf : ∀ x ∈ xs, (f x).length = n) (j : Nat) (u : Value) (h : (xs.flatMap f)[j]? = some u) :
    ∃ x, xs[j / n]? = some x ∧ (f x)[j % n]? = some u := by
  have hl : j < xs.length * n := by rw [← flat_len xs hf]; exact (List.getElem?_eq_some_iff.1 h).1
  have hi : j / n < xs.length := (Nat.div_lt_iff_lt_mul hn).2 hl
  refine ⟨xs[j / n], List.getElem?_eq_getElem hi, ?_⟩
  have := flat_get xs hf (j / n) _ (List.getElem?_eq_getElem hi) (j % n) (Nat.mod_lt _ hn)
  rw [← this, Nat.div_add_mod' j n]
  exact h

/-- THE SLICE v HOLDS xs, in a row of element type ty, from block B on. -/
def SliceTy {α : Type} (w : World) (B : Nat) (ty : TypeId) (size : Nat) (R : List Value → α → Prop) (v : Value) (xs : List α) : Prop :=
  ∃ A cap, v = .slice A xs.length cap ∧ xs.length ≤ cap ∧ cap ≤ maxLen ∧
    (0 < xs.length → ∃ b off cs fr, A = some ⟨b, off, none⟩ ∧ B ≤ b ∧ w.heap[b]? = some (.cells cs ty fr) ∧ ∀ i x, xs[i]? = some x → ∃ c, c.length = size ∧ R c x ∧ ∀ j u, c[j]? = some u → cs[off + i * size + j]? = some u)

theorem SliceTy.slice {α : Type} {w : World} {B : Nat} {ty : TypeId} {size : Nat} {R : List Value → α → Prop} {v : Value} {xs : List α} (h : SliceTy w B ty size R v xs) : SliceR w w.heap.size size R v xs := by
  obtain ⟨A, cap, h1, h2, h3, h4⟩ := h
  refine ⟨A, cap, h1, h2, h3, fun hp => ?_⟩
  obtain ⟨b, off, cs, fr, h5, h6, h7, h8⟩ := h4 hp
  refine ⟨b, off, h5, (Array.getElem?_eq_some_iff.1 h7).1, fun i x hi => ?_⟩
  obtain ⟨c, c1, c2, c3⟩ := h8 i x hi
  exact ⟨c, c1, c2, fun j u hj => by rw [cell_of_row w b _ cs ty fr h7]; exact c3 j u hj⟩
theorem SliceTy.keep {α : Type} {w w' : World} {B : Nat} {ty : TypeId} {size : Nat} {R R' : List Value → α → Prop} {v : Value} {xs : List α} (h : SliceTy w B ty size R v xs)
    (hk : ∀ k cs fr, B ≤ k → w.heap[k]? = some (.cells cs ty fr) → w'.heap[k]? = w.heap[k]?) (hR : ∀ cs x, R cs x → R' cs x) : SliceTy w' B ty size R' v xs := by
  obtain ⟨A, cap, h1, h2, h3, h4⟩ := h
  refine ⟨A, cap, h1, h2, h3, fun hp => ?_⟩
  obtain ⟨b, off, cs, fr, h5, h6, h7, h8⟩ := h4 hp
  exact ⟨b, off, cs, fr, h5, h6, (hk b cs fr h6 h7).trans h7, fun i x hi => by
    obtain ⟨c, c1, c2, c3⟩ := h8 i x hi
    exact ⟨c, c1, hR c x c2, c3⟩⟩
theorem SliceTy.below {α : Type} {w w' : World} {B : Nat} {ty : TypeId} {size : Nat} {R : List Value → α → Prop} {v : Value} {xs : List α} (h : SliceTy w B ty size R v xs) (hb : Below w.heap.size w w') : SliceTy w' B ty size R v xs :=
  h.keep (fun k cs fr _ hk => hb.block k (Array.getElem?_eq_some_iff.1 hk).1) (fun _ _ h => h)
theorem SliceTy.more {α : Type} {w : World} {B B' : Nat} {ty : TypeId} {size : Nat} {R : List Value → α → Prop} {v : Value} {xs : List α} (h : SliceTy w B ty size R v xs) (hB : B' ≤ B) : SliceTy w B' ty size R v xs := by
  obtain ⟨A, cap, h1, h2, h3, h4⟩ := h
  refine ⟨A, cap, h1, h2, h3, fun hp => ?_⟩
  obtain ⟨b, off, cs, fr, h5, h6, h7⟩ := h4 hp
  exact ⟨b, off, cs, fr, h5, Nat.le_trans hB h6, h7⟩
theorem SliceTy.nil {α : Type} (w : World) (B : Nat) (ty : TypeId) (size : Nat) (R : List Value → α → Prop) : SliceTy w B ty size R (.slice none 0 0) [] := ⟨none, 0, rfl, Nat.le_refl _, by decide, by simp⟩
/-- a prefix, of the same row -/
theorem SliceTy.take {α : Type} {w : World} {B : Nat} {ty : TypeId} {size : Nat} {R : List Value → α → Prop} {A : Option Addr} {n cap k : Nat} {xs : List α} (h : SliceTy w B ty size R (.slice A n cap) xs) (hk : k ≤ n) :
    SliceTy w B ty size R (.slice A k cap) (xs.take k) := by
  obtain ⟨A', cap', h1, h2, h3, h4⟩ := h
  injection h1 with e1 e2 e3
  subst e1; subst e2; subst e3
  have hl : (xs.take k).length = k := by simp; omega
  refine ⟨A, cap, by rw [hl], by omega, h3, fun hp => ?_⟩
  obtain ⟨b, off, cs, fr, h5, h6, h7, h8⟩ := h4 (by omega)
  refine ⟨b, off, cs, fr, h5, h6, h7, fun i x hi => h8 i x ?_⟩
  rw [List.getElem?_take] at hi
  split at hi
  · exact hi
  · cases hi
/-- what a call owns reads so -/
theorem sliceTy_of_own {α : Type} {w : World} {base : Nat} {ty : TypeId} {size : Nat} {R : List Value → α → Prop} {f : α → List Value} {v : Value} {xs : List α} (hsz : 0 < size) (hf : ∀ x ∈ xs, (f x).length = size) (hR : ∀ x ∈ xs, R (f x) x)
    (h : w.ownsRow base ty size v xs.length (xs.flatMap f)) : SliceTy w base ty size R v xs := by
  rcases h.2 with ⟨rfl, h0⟩ | ⟨g, cap, cur, rfl, hb, hg, h1, h2, h3, h4⟩
  · have : xs = [] := List.length_eq_zero_iff.1 h0
    subst this
    exact SliceTy.nil _ _ _ _ _
  · refine ⟨_, cap, rfl, h1, h2, fun hp => ⟨g, 0, cur, (0, 0), rfl, hb, hg, fun i x hi => ⟨f x, hf x (List.mem_of_getElem? hi), hR x (List.mem_of_getElem? hi), fun j u hj => ?_⟩⟩⟩
    have hjl : j < size := by rw [← hf x (List.mem_of_getElem? hi)]; exact (List.getElem?_eq_some_iff.1 hj).1
    have hil : i < xs.length := (List.getElem?_eq_some_iff.1 hi).1
    have e := flat_get xs hf i x hi j hjl
    rw [← h4, List.getElem?_take, if_pos (by
      have : (i + 1) * size ≤ xs.length * size := Nat.mul_le_mul_right _ (by omega)
      rw [Nat.add_mul] at this; omega)] at e
    rw [Nat.zero_add, ← Array.getElem?_toList, e]
    exact hj
/-- what is to be appended, out of a slice that reads so -/
theorem news_of_slice {α : Type} {w : World} {B size : Nat} {R : List Value → α → Prop} {f : α → List Value} {b off n cap : Nat} {xs : List α} (hsz : 0 < size) (hf : ∀ x ∈ xs, (f x).length = size) (hR : ∀ cs x, R cs x → cs = f x)
    (h : SliceR w B size R (.slice (some ⟨b, off, none⟩) n cap) xs) : ∀ j u, (xs.flatMap f)[j]? = some u → w.cell? ((⟨b, off, none⟩ : Addr).add j) = some u := by
  intro j u hj
  obtain ⟨x, hx, hu⟩ := flat_at hsz xs hf j u hj
  have hl : j / size < xs.length := (List.getElem?_eq_some_iff.1 hx).1
  obtain ⟨b', off', y, cs, e, _, hy, _, hr, hat⟩ := h.at_ hl
  injection e with e
  injection e with e1 e2
  subst e1; subst e2
  rw [hx] at hy
  injection hy with hy
  subst hy
  have := hat (j % size) u (by rw [hR cs x hr]; exact hu)
  rw [Nat.add_assoc, Nat.div_add_mod' j size] at this
  rw [Addr.add]
  split
  · rename_i h0; subst h0; simpa using this
  · exact this
theorem ones_flat {α : Type} {f : α → List Value} (xs : List α) (hf : ∀ x ∈ xs, ∀ u ∈ f x, u.oneCell' = true) : ∀ u ∈ xs.flatMap f, u.oneCell' = true := by
  intro u hu
  obtain ⟨x, hm, hx⟩ := List.mem_flatMap.1 hu
  exact hf x hm u hx
/-- the same, its elements as rows of cells -/
def Raw (size : Nat) (c x : List Value) : Prop := c = x ∧ x.length = size
theorem SliceR.raw {α : Type} {w : World} {B size : Nat} {R : List Value → α → Prop} {v : Value} {xs : List α} (h : SliceR w B size R v xs) :
    ∃ rows : List (List Value), rows.length = xs.length ∧ SliceR w B size (Raw size) v rows ∧ ∀ (i : Nat) x, xs[i]? = some x → ∃ c, rows[i]? = some c ∧ R c x := by
  obtain ⟨A, cap, h1, h2, h3, h4⟩ := h
  by_cases hp : 0 < xs.length
  · obtain ⟨b, off, h5, h6, h7⟩ := h4 hp
    obtain ⟨rows, r1, r2⟩ := choose_list (len := xs.length) (p := fun i (c : List Value) => ∀ x, xs[i]? = some x → c.length = size ∧ R c x ∧ CellsAt w b (off + i * size) c) (fun i hi => by
      obtain ⟨c, c1, c2, c3⟩ := h7 i _ (List.getElem?_eq_getElem hi)
      exact ⟨c, fun x hx => by rw [List.getElem?_eq_getElem hi] at hx; injection hx with hx; subst hx; exact ⟨c1, c2, c3⟩⟩)
    refine ⟨rows, r1, ⟨A, cap, by rw [h1, r1], by omega, h3, fun _ => ⟨b, off, h5, h6, fun i c hc => ?_⟩⟩, fun i x hx => ?_⟩
    · have hi : i < xs.length := by rw [← r1]; exact (List.getElem?_eq_some_iff.1 hc).1
      obtain ⟨c1, c2, c3⟩ := r2 i c hc _ (List.getElem?_eq_getElem hi)
      exact ⟨c, c1, ⟨rfl, c1⟩, c3⟩
    · have hi : i < rows.length := by rw [r1]; exact (List.getElem?_eq_some_iff.1 hx).1
      have hc := List.getElem?_eq_getElem hi
      exact ⟨_, hc, (r2 i _ hc x hx).2.1⟩
  · have e : xs = [] := List.length_eq_zero_iff.1 (by omega)
    subst e
    exact ⟨[], rfl, ⟨A, cap, h1, h2, h3, by simp⟩, by simp⟩
theorem SliceTy.of_raw {α : Type} {w : World} {B : Nat} {ty : TypeId} {size : Nat} {R : List Value → α → Prop} {v : Value} {rows : List (List Value)} {xs : List α} (h : SliceTy w B ty size (Raw size) v rows) (hl : rows.length = xs.length)
    (hr : ∀ (i : Nat) x, xs[i]? = some x → ∃ c, rows[i]? = some c ∧ R c x) : SliceTy w B ty size R v xs := by
  obtain ⟨A, cap, h1, h2, h3, h4⟩ := h
  refine ⟨A, cap, by rw [h1, hl], by omega, h3, fun hp => ?_⟩
  obtain ⟨b, off, cs, fr, h5, h6, h7, h8⟩ := h4 (by omega)
  refine ⟨b, off, cs, fr, h5, h6, h7, fun i x hi => ?_⟩
  obtain ⟨c, c1, c2⟩ := hr i x hi
  obtain ⟨c', d1, ⟨rfl, _⟩, d3⟩ := h8 i c c1
  exact ⟨c', d1, c2, d3⟩
end Go.Proofs.YtlnkjmgfkpeicaaGreatDoor
namespace Go.Proofs.YtlnkjmgfkpeicaaGreatDoor
open Go.RowKit
theorem SliceR.mem {α : Type} {w : World} {B size : Nat} {R : List Value → α → Prop} {v : Value} {xs : List α} (h : SliceR w B size R v xs) {x : α} (hx : x ∈ xs) : ∃ cs, R cs x := by
  obtain ⟨A, cap, h1, h2, h3, h4⟩ := h
  obtain ⟨i, hi⟩ := List.getElem?_of_mem hx
  obtain ⟨b, off, _, _, h7⟩ := h4 (by have := (List.getElem?_eq_some_iff.1 hi).1; omega)
  obtain ⟨cs, _, c2, _⟩ := h7 i x hi
  exact ⟨cs, c2⟩
theorem own_empty (w : World) (e : TypeId) (size : Nat) : (w.alloc (.cells #[] e)).ownsRow w.heap.size e size (.slice (some ⟨w.heap.size, 0, none⟩) 0 0) 0 [] :=
  ⟨by simp, .inr ⟨w.heap.size, 0, #[], rfl, Nat.le_refl _, heap_alloc_new w _, Nat.le_refl _, by unfold maxLen; omega, by simp, by simp⟩⟩

theorem infoOf_try : (Tryz.prog.info? 164).map (fun i => (i.zero.map (·.cells.size), i.size, i.bytes)) = some (some 2, 2, 16) := by kernel_rfl
set_option maxHeartbeats 1000000 in
set_option maxRecDepth 100000 in
theorem clone_try (v : Value) (rows : List (List Value)) (w : World) (hs : SliceR w w.heap.size 2 (Raw 2) v rows) (h1 : ∀ r ∈ rows, ∀ u ∈ r, u.oneCell' = true) (hlen : rows.length * 16 ≤ 140737488355328) :
    Calls Tryz.prog 95 #[v] w fun e w' => ∃ u, e = .returned u ∧ w'.ownsRow w.heap.size 164 2 u rows.length (rows.flatMap id) ∧ Below w.heap.size w w' := by
  have hraw : ∀ x ∈ rows, x.length = 2 := fun x hx => by obtain ⟨cs, _, h⟩ := hs.mem hx; exact h
  obtain ⟨A, cap, rfl, hc1, hc2, hc3⟩ := id hs
  cases A with
  | none =>
    have e : rows = [] := by
      rcases Nat.eq_zero_or_pos rows.length with h | h
      · exact List.length_eq_zero_iff.1 h
      · obtain ⟨b, off, h, _⟩ := hc3 h; cases h
    subst e
    have hn : ∀ W, (binOp .eql 161 (.slice none 0 cap) (.slice none 0 0)).run Tryz.prog W = .ok (.bool true) W := fun W => Lib.run_eql_slice_nil W _ _ _ _ _ _ _ Tryz.underlying161
    clear hc3 hs hraw h1
    simp only [List.length_nil] at *
    go_enter Tryz.func95, Tryz.ntmps95
    go_wp2_with fail
    go_ret
    exact ⟨_, rfl, World.ownsRow_nil _ _ _ _, Below.refl _ _⟩
  | some ad =>
    have hn : ∀ W, (binOp .eql 161 (.slice (some ad) rows.length cap) (.slice none 0 0)).run Tryz.prog W = .ok (.bool false) W := fun W => Lib.run_eql_slice_nil W _ _ _ _ _ _ _ Tryz.underlying161
    have hnews : ∀ j u, (rows.flatMap id)[j]? = some u → w.cell? (ad.add j) = some u := by
      rcases Nat.eq_zero_or_pos rows.length with h | h
      · have e : rows = [] := List.length_eq_zero_iff.1 h
        subst e; simp
      · obtain ⟨b, off, h, _⟩ := hc3 h
        injection h with h
        subst h
        exact news_of_slice (by decide) hraw (fun cs x h => h.1) hs
    obtain ⟨i0, hi, hq⟩ := Option.map_eq_some_iff.1 infoOf_try
    simp only [Prod.mk.injEq] at hq
    obtain ⟨hz, hz1, hz2⟩ := hq
    obtain ⟨z, hz0, hz3⟩ := Option.map_eq_some_iff.1 hz
    have HS := Lib.hid hnews
    have HI := Lib.hid hi
    have HZ := Lib.hid hz0
    have HZ1 := Lib.hid hz1
    have HZ2 := Lib.hid hz2
    have HZ3 := Lib.hid hz3
    have hl : rows.length ≤ maxLen := by unfold maxLen; omega
    have HL := Lib.hid hl
    have HR := Lib.hid hraw
    have HO := Lib.hid (ones_flat (f := id) rows h1)
    have HF := Lib.hid (flat_len (f := id) rows hraw)
    clear hnews hi hz0 hz1 hz2 hz3 hz hl hraw h1 hs hc3
    go_enter Tryz.func95, Tryz.ntmps95
    go_wp2_with (at_builtin; refine wpList_append_own _ rfl _ _ 161 rfl w.heap.size 164 i0 z 2 16 Tryz.underlying161 HI.out HZ.out HZ1.out HZ2.out HZ3.out (by decide) (.slice (some ⟨w.heap.size, 0, none⟩) 0 0) 0 [] rfl (own_empty _ _ _) ad rows.length cap (rows.flatMap id) rfl HF.out (fun j u hj => old_one (HS.out j u hj) _) HO.out (by rw [Nat.zero_add]; exact HL.out) (by rw [Nat.zero_add]; exact hlen) (by simp) ?_)
    intro v' w6 hown hg _
    have KG := Lib.hid hg
    have KO := Lib.hid hown
    clear hg hown
    go_wp2_with fail
    go_ret
    refine ⟨_, rfl, by simpa using KO.out, Below.grown (below_one w _) KG.out (by simp) (by simp [Value.ownBlock])⟩

end Go.Proofs.YtlnkjmgfkpeicaaGreatDoor
namespace Go.Proofs.YtlnkjmgfkpeicaaGreatDoor
open Go.RowKit

theorem formArr : (Tryz.prog.info? 159).map (·.size) = some 39 := by kernel_rfl
theorem forms_len : (forms.map fun l => Value.string ⟨l.toArray⟩).toArray.size = 39 := rfl
theorem forms_one : ((forms.map fun l => Value.string ⟨l.toArray⟩).toArray).all (·.oneCell') = true := by kernel_rfl
theorem below_setRow (w : World) (o : Obj) (C : Array Value) : Below w.heap.size w ((w.alloc o).setRow w.heap.size C) := by
  refine (below_one w o).trans ⟨rfl, rfl, rfl, by simp [World.setRow], fun k hk => ?_⟩
  simp only [World.setRow, Array.getElem?_modify]
  rw [if_neg (by omega)]
theorem row_setRow (w : World) (c C : Array Value) (t : TypeId) : ((w.alloc (.cells c t)).setRow w.heap.size C).heap[w.heap.size]? = some (.cells C t (0, 0)) := by
  simp only [World.setRow, Array.getElem?_modify, if_true]
  rw [heap_alloc_new]; rfl

set_option maxHeartbeats 1000000 in
set_option maxRecDepth 100000 in
theorem form_c (op : Int) (w : World) : Calls Tryz.prog 67 #[.int .i64 op] w (Gives (.string ⟨(formS op).toArray⟩) w) := by
  obtain ⟨s, hs⟩ : ∃ s : ByteArray, (⟨(formS op).toArray⟩ : ByteArray) = s := ⟨_, rfl⟩
  rw [hs]
  by_cases h : op < 1 ∨ 39 ≤ op
  · have hs' : (⟨#[]⟩ : ByteArray) = s := by rw [← hs]; simp [formS, h]
    subst hs'
    clear hs
    rcases h with h | h
    · go_enter Tryz.func67, Tryz.ntmps67
      go_wp2_with (first
        | (refine wpList_build rfl 159 _ rfl (by kernel_rfl) ?_; generalize hC : Option.getD _ _ = C; have hC2 : C = (forms.map fun l => Value.string ⟨l.toArray⟩).toArray := (by rw [← hC]; kernel_rfl); have HC := Lib.hid hC2; clear hC hC2)
        | (refine wpList_store_row rfl 159 _ _ rfl w.heap.size C rfl rfl 159 _ (heap_alloc_new _ _) (by rw [HC.out]; exact formArr) (by rw [HC.out]; rfl) (by rw [HC.out]; exact forms_one) ?_; generalize hw1 : World.setRow _ _ _ = w1; have KB : Hid (Below w.heap.size w w1) := (by rw [← hw1]; exact below_setRow _ _ _); clear hw1))
      go_ret
      exact ⟨rfl, KB.out⟩
    · have h' : ¬ op < 1 := by omega
      go_enter Tryz.func67, Tryz.ntmps67
      go_wp2_with (first
        | (refine wpList_build rfl 159 _ rfl (by kernel_rfl) ?_; generalize hC : Option.getD _ _ = C; have hC2 : C = (forms.map fun l => Value.string ⟨l.toArray⟩).toArray := (by rw [← hC]; kernel_rfl); have HC := Lib.hid hC2; clear hC hC2)
        | (refine wpList_store_row rfl 159 _ _ rfl w.heap.size C rfl rfl 159 _ (heap_alloc_new _ _) (by rw [HC.out]; exact formArr) (by rw [HC.out]; rfl) (by rw [HC.out]; exact forms_one) ?_; generalize hw1 : World.setRow _ _ _ = w1; have KB : Hid (Below w.heap.size w w1) := (by rw [← hw1]; exact below_setRow _ _ _); clear hw1))
      go_ret
      exact ⟨rfl, KB.out⟩
  · obtain ⟨n, rfl⟩ : ∃ n : Nat, op = n := ⟨op.toNat, by omega⟩
    have h2 : n < 39 := by omega
    have hi1 : ¬ (n : Int) < 1 := by omega
    have hi2 : ¬ 39 ≤ (n : Int) := by omega
    have hi3 : (n : Int) < 39 := by omega
    have hc : Hid ((forms.map fun l => Value.string ⟨l.toArray⟩).toArray[n]? = some (.string s)) := by
      show _ = _
      rw [List.getElem?_toArray, List.getElem?_map, List.getElem?_eq_getElem (show n < forms.length from h2), ← hs]
      unfold formS
      rw [if_neg (by omega), Int.toNat_natCast, List.getD_eq_getElem?_getD, List.getElem?_eq_getElem (show n < forms.length from h2)]
      rfl
    clear h hs
    go_enter Tryz.func67, Tryz.ntmps67
    go_wp2_with (first
      | (refine wpList_build rfl 159 _ rfl (by kernel_rfl) ?_; generalize hC : Option.getD _ _ = C; have hC2 : C = (forms.map fun l => Value.string ⟨l.toArray⟩).toArray := (by rw [← hC]; kernel_rfl); have HC := Lib.hid hC2; clear hC hC2)
      | (refine wpList_store_row rfl 159 _ _ rfl w.heap.size C rfl rfl 159 _ (heap_alloc_new _ _) (by rw [HC.out]; exact formArr) (by rw [HC.out]; rfl) (by rw [HC.out]; exact forms_one) ?_; generalize hw1 : World.setRow _ _ _ = w1; have KB : Hid (Below w.heap.size w w1) := (by rw [← hw1]; exact below_setRow _ _ _); have hcell : w1.cell? ⟨w.heap.size, n, none⟩ = some (.string s) := (by rw [← hw1, cell_of_row _ _ _ _ _ _ (row_setRow _ _ _ _), HC.out]; exact hc.out); clear hw1))
    go_ret
    exact ⟨rfl, KB.out⟩
end Go.Proofs.YtlnkjmgfkpeicaaGreatDoor
namespace Go.Proofs.YtlnkjmgfkpeicaaGreatDoor
open Go.RowKit

set_option maxHeartbeats 400000 in
set_option maxRecDepth 100000 in
theorem names_114 (cs : List Value) (p : CProg) (f : CFn) (n : Int) (w : World) (h : LookR w w.heap.size cs p f) (hr : 1 ≤ f.regs) :
    Calls Tryz.prog 69 #[.agg ⟨cs⟩, .int .u8 114, .int .i64 n] w (Gives (.bool (regM f n)) w) := by
  have HL := Lib.hid h
  obtain ⟨pc, fc, rfl, ⟨A1, n1, A2, n2, A3, n3, rfl, p1, p2, p3⟩, ⟨A4, n4, A5, n5, rfl, q1, q2, w1, w2⟩⟩ := h
  have l1 := len_le p1
  have l2 := len_le p2
  have l3 := len_le p3
  have l4 := len_le q1
  have l5 := len_le q2
  clear p1 p2 p3 q1 q2
  go_enter Tryz.func69, Tryz.ntmps69
  go_wp2_with fail
  refine (lreg_c _ p f n _ (HL.out.keep (by simp) (fun _ h => (below_one w _).cell h)) hr).mono ?_
  rintro e w1 ⟨rfl, k1⟩
  have K1 := Lib.hid ((below_one w _).trans (k1.mono (by simp)))
  clear k1
  go_wp2_with fail
  go_ret
  exact ⟨rfl, K1.out⟩
set_option maxHeartbeats 400000 in
set_option maxRecDepth 100000 in
theorem names_107 (cs : List Value) (p : CProg) (f : CFn) (n : Int) (w : World) (h : LookR w w.heap.size cs p f) (hr : 1 ≤ f.regs) :
    Calls Tryz.prog 69 #[.agg ⟨cs⟩, .int .u8 107, .int .i64 n] w (Gives (.bool (withinM n 0 ((p.consts.length : Int) - 1))) w) := by
  obtain ⟨pc, fc, rfl, ⟨A1, n1, A2, n2, A3, n3, rfl, p1, p2, p3⟩, ⟨A4, n4, A5, n5, rfl, q1, q2, w1, w2⟩⟩ := h
  have l1 := len_le p1
  have l2 := len_le p2
  have l3 := len_le p3
  have l4 := len_le q1
  have l5 := len_le q2
  clear p1 p2 p3 q1 q2
  go_enter Tryz.func69, Tryz.ntmps69
  go_wp2_with fail
  refine (within_c _ _ _ _).mono ?_
  rintro e w' ⟨rfl, rfl⟩
  go_wp2_with fail
  go_ret
  exact ⟨rfl, below_one w _⟩
set_option maxHeartbeats 400000 in
set_option maxRecDepth 100000 in
theorem names_116 (cs : List Value) (p : CProg) (f : CFn) (n : Int) (w : World) (h : LookR w w.heap.size cs p f) (hr : 1 ≤ f.regs) :
    Calls Tryz.prog 69 #[.agg ⟨cs⟩, .int .u8 116, .int .i64 n] w (Gives (.bool (withinM n 0 ((p.texts.length : Int) - 1))) w) := by
  have HL := Lib.hid h
  obtain ⟨pc, fc, rfl, ⟨A1, n1, A2, n2, A3, n3, rfl, p1, p2, p3⟩, ⟨A4, n4, A5, n5, rfl, q1, q2, w1, w2⟩⟩ := h
  have l1 := len_le p1
  have l2 := len_le p2
  have l3 := len_le p3
  have l4 := len_le q1
  have l5 := len_le q2
  clear p1 p2 p3 q1 q2
  go_enter Tryz.func69, Tryz.ntmps69
  go_wp2_with fail
  refine (ltext_c _ p f n _ (HL.out.keep (by simp) (fun _ h => (below_one w _).cell h))).mono ?_
  rintro e w1 ⟨rfl, k1⟩
  have K1 := Lib.hid ((below_one w _).trans (k1.mono (by simp)))
  clear k1
  go_wp2_with fail
  go_ret
  exact ⟨rfl, K1.out⟩
set_option maxHeartbeats 400000 in
set_option maxRecDepth 100000 in
theorem names_97 (cs : List Value) (p : CProg) (f : CFn) (n : Int) (w : World) (h : LookR w w.heap.size cs p f) (hr : 1 ≤ f.regs) :
    Calls Tryz.prog 69 #[.agg ⟨cs⟩, .int .u8 97, .int .i64 n] w (Gives (.bool (withinM n 0 ((f.code.length : Int) - 1))) w) := by
  have HL := Lib.hid h
  obtain ⟨pc, fc, rfl, ⟨A1, n1, A2, n2, A3, n3, rfl, p1, p2, p3⟩, ⟨A4, n4, A5, n5, rfl, q1, q2, w1, w2⟩⟩ := h
  have l1 := len_le p1
  have l2 := len_le p2
  have l3 := len_le p3
  have l4 := len_le q1
  have l5 := len_le q2
  clear p1 p2 p3 q1 q2
  go_enter Tryz.func69, Tryz.ntmps69
  go_wp2_with fail
  refine (lat_c _ p f n _ (HL.out.keep (by simp) (fun _ h => (below_one w _).cell h))).mono ?_
  rintro e w1 ⟨rfl, k1⟩
  have K1 := Lib.hid ((below_one w _).trans (k1.mono (by simp)))
  clear k1
  go_wp2_with fail
  go_ret
  exact ⟨rfl, K1.out⟩
set_option maxHeartbeats 400000 in
set_option maxRecDepth 100000 in
theorem names_117 (cs : List Value) (p : CProg) (f : CFn) (n : Int) (w : World) (h : LookR w w.heap.size cs p f) (hr : 1 ≤ f.regs) :
    Calls Tryz.prog 69 #[.agg ⟨cs⟩, .int .u8 117, .int .i64 n] w (Gives (.bool (withinM n 0 ((f.caught.length : Int) - 1))) w) := by
  obtain ⟨pc, fc, rfl, ⟨A1, n1, A2, n2, A3, n3, rfl, p1, p2, p3⟩, ⟨A4, n4, A5, n5, rfl, q1, q2, w1, w2⟩⟩ := h
  have l1 := len_le p1
  have l2 := len_le p2
  have l3 := len_le p3
  have l4 := len_le q1
  have l5 := len_le q2
  clear p1 p2 p3 q1 q2
  go_enter Tryz.func69, Tryz.ntmps69
  go_wp2_with fail
  refine (within_c _ _ _ _).mono ?_
  rintro e w' ⟨rfl, rfl⟩
  go_wp2_with fail
  go_ret
  exact ⟨rfl, below_one w _⟩
set_option maxHeartbeats 400000 in
set_option maxRecDepth 100000 in
theorem names_102 (cs : List Value) (p : CProg) (f : CFn) (n : Int) (w : World) (h : LookR w w.heap.size cs p f) (hr : 1 ≤ f.regs) :
    Calls Tryz.prog 69 #[.agg ⟨cs⟩, .int .u8 102, .int .i64 n] w (Gives (.bool (withinM n 1 ((p.fns.length : Int) - 1))) w) := by
  obtain ⟨pc, fc, rfl, ⟨A1, n1, A2, n2, A3, n3, rfl, p1, p2, p3⟩, ⟨A4, n4, A5, n5, rfl, q1, q2, w1, w2⟩⟩ := h
  have l1 := len_le p1
  have l2 := len_le p2
  have l3 := len_le p3
  have l4 := len_le q1
  have l5 := len_le q2
  clear p1 p2 p3 q1 q2
  go_enter Tryz.func69, Tryz.ntmps69
  go_wp2_with fail
  refine (within_c _ _ _ _).mono ?_
  rintro e w' ⟨rfl, rfl⟩
  go_wp2_with fail
  go_ret
  exact ⟨rfl, below_one w _⟩
set_option maxHeartbeats 400000 in
set_option maxRecDepth 100000 in
theorem names_108 (cs : List Value) (p : CProg) (f : CFn) (n : Int) (w : World) (h : LookR w w.heap.size cs p f) (hr : 1 ≤ f.regs) :
    Calls Tryz.prog 69 #[.agg ⟨cs⟩, .int .u8 108, .int .i64 n] w (Gives (.bool (withinM n 0 f.regs)) w) := by
  obtain ⟨pc, fc, rfl, ⟨A1, n1, A2, n2, A3, n3, rfl, p1, p2, p3⟩, ⟨A4, n4, A5, n5, rfl, q1, q2, w1, w2⟩⟩ := h
  have l1 := len_le p1
  have l2 := len_le p2
  have l3 := len_le p3
  have l4 := len_le q1
  have l5 := len_le q2
  clear p1 p2 p3 q1 q2
  go_enter Tryz.func69, Tryz.ntmps69
  go_wp2_with fail
  refine (within_c _ _ _ _).mono ?_
  rintro e w' ⟨rfl, rfl⟩
  go_wp2_with fail
  go_ret
  exact ⟨rfl, below_one w _⟩
set_option maxHeartbeats 400000 in
set_option maxRecDepth 100000 in
theorem names_99 (cs : List Value) (p : CProg) (f : CFn) (n : Int) (w : World) (h : LookR w w.heap.size cs p f) (hr : 1 ≤ f.regs) :
    Calls Tryz.prog 69 #[.agg ⟨cs⟩, .int .u8 99, .int .i64 n] w (Gives (.bool (withinM n 0 f.regs)) w) := by
  obtain ⟨pc, fc, rfl, ⟨A1, n1, A2, n2, A3, n3, rfl, p1, p2, p3⟩, ⟨A4, n4, A5, n5, rfl, q1, q2, w1, w2⟩⟩ := h
  have l1 := len_le p1
  have l2 := len_le p2
  have l3 := len_le p3
  have l4 := len_le q1
  have l5 := len_le q2
  clear p1 p2 p3 q1 q2
  go_enter Tryz.func69, Tryz.ntmps69
  go_wp2_with fail
  refine (within_c _ _ _ _).mono ?_
  rintro e w' ⟨rfl, rfl⟩
  go_wp2_with fail
  go_ret
  exact ⟨rfl, below_one w _⟩
set_option maxHeartbeats 400000 in
set_option maxRecDepth 100000 in
theorem names_110 (cs : List Value) (p : CProg) (f : CFn) (n : Int) (w : World) (h : LookR w w.heap.size cs p f) (hr : 1 ≤ f.regs) :
    Calls Tryz.prog 69 #[.agg ⟨cs⟩, .int .u8 110, .int .i64 n] w (Gives (.bool (withinM n 0 f.regs)) w) := by
  obtain ⟨pc, fc, rfl, ⟨A1, n1, A2, n2, A3, n3, rfl, p1, p2, p3⟩, ⟨A4, n4, A5, n5, rfl, q1, q2, w1, w2⟩⟩ := h
  have l1 := len_le p1
  have l2 := len_le p2
  have l3 := len_le p3
  have l4 := len_le q1
  have l5 := len_le q2
  clear p1 p2 p3 q1 q2
  go_enter Tryz.func69, Tryz.ntmps69
  go_wp2_with fail
  refine (within_c _ _ _ _).mono ?_
  rintro e w' ⟨rfl, rfl⟩
  go_wp2_with fail
  go_ret
  exact ⟨rfl, below_one w _⟩
set_option maxHeartbeats 400000 in
set_option maxRecDepth 100000 in
theorem names_c (cs : List Value) (p : CProg) (f : CFn) (c : UInt8) (n : Int) (w : World) (h : LookR w w.heap.size cs p f) (hr : 1 ≤ f.regs) :
    Calls Tryz.prog 69 #[.agg ⟨cs⟩, .int .u8 c.toNat, .int .i64 n] w (Gives (.bool (namesM p f c n)) w) := by
  by_cases h114 : c = 114
  · subst h114
    exact names_114 cs p f n w h hr
  by_cases h107 : c = 107
  · subst h107
    exact names_107 cs p f n w h hr
  by_cases h116 : c = 116
  · subst h116
    exact names_116 cs p f n w h hr
  by_cases h97 : c = 97
  · subst h97
    exact names_97 cs p f n w h hr
  by_cases h117 : c = 117
  · subst h117
    exact names_117 cs p f n w h hr
  by_cases h102 : c = 102
  · subst h102
    exact names_102 cs p f n w h hr
  by_cases h108 : c = 108
  · subst h108
    exact names_108 cs p f n w h hr
  by_cases h99 : c = 99
  · subst h99
    exact names_99 cs p f n w h hr
  by_cases h110 : c = 110
  · subst h110
    exact names_110 cs p f n w h hr
  have e : namesM p f c n = (n == 0) := by
    unfold namesM
    rw [if_neg h114, if_neg h107, if_neg h116, if_neg h97, if_neg h117, if_neg h102, if_neg (by simp [h108, h99, h110])]
  rw [e]
  clear e
  have hx : ∀ k : UInt8, c ≠ k → ((c.toNat : Int) == (k.toNat : Int)) = false := fun k hk => by
    simp only [beq_eq_false_iff_ne, ne_eq, Int.natCast_inj]
    exact fun e => hk (UInt8.toNat_inj.1 e)
  have x114 : ((c.toNat : Int) == 114) = false := hx 114 h114
  have x107 : ((c.toNat : Int) == 107) = false := hx 107 h107
  have x116 : ((c.toNat : Int) == 116) = false := hx 116 h116
  have x97 : ((c.toNat : Int) == 97) = false := hx 97 h97
  have x117 : ((c.toNat : Int) == 117) = false := hx 117 h117
  have x102 : ((c.toNat : Int) == 102) = false := hx 102 h102
  have x108 : ((c.toNat : Int) == 108) = false := hx 108 h108
  have x99 : ((c.toNat : Int) == 99) = false := hx 99 h99
  have x110 : ((c.toNat : Int) == 110) = false := hx 110 h110
  clear hx h114 h107 h116 h97 h117 h102 h108 h99 h110
  obtain ⟨pc, fc, rfl, ⟨A1, n1, A2, n2, A3, n3, rfl, -⟩, ⟨A4, n4, A5, n5, rfl, -⟩⟩ := h
  go_enter Tryz.func69, Tryz.ntmps69
  go_wp2_with fail
  go_ret
  exact ⟨rfl, below_one w _⟩
end Go.Proofs.YtlnkjmgfkpeicaaGreatDoor
namespace Go.Proofs.YtlnkjmgfkpeicaaGreatDoor
open Go.RowKit
section
variable {P : Program} {ops : Array Oper} {md : Region.Mode} {C : World → Prop}
def wpAnyLQ (P : Program) (md : Region.Mode) (ops : Array Oper) (C : World → Prop) (n : Nat) (L : Array Bool → Act → Prop) : Nat → Array Bool → Act → Prop
  | 0, listed, a => L listed a
  | f + 1, listed, a => Region.ready md ops listed ≠ [] ∧ ∀ i ∈ Region.ready md ops listed, i < n ∧ qOp P ops C i (wpAnyLQ P md ops C n L f (listed.setIfInBounds i true)) a
theorem wpAny_of_headQ {n g : Nat} {L : Array Bool → Act → Prop} {Q' : Exit → Act → World → Prop} (hL : ∀ listed a w, C w → L listed a → wpAny P md ops Q' g listed a w) :
    ∀ (f : Nat) (listed : Array Bool) (a : Act) (w : World), C w → wpAnyLQ P md ops C n L f listed a → wpAny P md ops Q' (f + g) listed a w
  | 0, listed, a, w, hw, h => by rw [Nat.zero_add]; exact hL _ _ _ hw h
  | f + 1, listed, a, w, hw, h => by
    rw [show f + 1 + g = (f + g) + 1 by omega]
    exact ⟨fun h0 => absurd h0 h.1, fun i hi => wpOp_of_qOp hw (fun a' w' hw' h' => wpAny_of_headQ hL f _ a' w' hw' h') (h.2 i hi).2⟩
theorem wpAnyLQ_first {n i : Nat} {oi : Oper} {v : Value} {L : Array Bool → Act → Prop} (hi : ops[i]? = some oi) (hsel : ∀ (j : Nat) (o : Oper) cs b, ops[j]? = some o → o.op ≠ .select cs b)
    (hs : Region.sinkB md ops n = true) (hc : Region.chainB md ops n = true) (hn : n < ops.size) (hin : i < n)
    (hdone : ∀ listed a, L listed a → ∀ j ∈ Region.ready md ops listed, n ≤ j) :
    ∀ (f : Nat) (listed : Array Bool) (a : Act), HeadInv md ops n listed →
      (∀ j oj, ops[j]? = some oj → j ≠ i → listed.getD j true = false → (∀ e ∈ oj.after, Region.binds md e = true → e.on ≠ i) → oi.apart ops oj = true) →
      i ∈ Region.ready md ops listed → YieldsIn P ops C oi v a →
      wpAnyLQ P md ops C n L f (listed.setIfInBounds i true) (a.put oi.dst v) → wpAnyLQ P md ops C n L (f + 1) listed a := by
  intro f
  induction f with
  | zero =>
    intro listed a inv _ hr hy H
    have hun := (mem_ready.1 hr).1
    refine ⟨fun h => (by rw [h] at hr; cases hr), fun j hj => ?_⟩
    have hjn : j < n := by
      rcases Nat.lt_or_ge j n with h | h
      · exact h
      · exact absurd hj (tail_waits hs hc hn inv _ i rfl hin hun j h)
    refine ⟨hjn, ?_⟩
    by_cases hji : j = i
    · subst hji; exact hy.qOp hi H
    · have := hdone _ _ H j (ready_mono hj hji)
      omega
  | succ f ih =>
    intro listed a inv hfree hr hy H
    have hun := (mem_ready.1 hr).1
    refine ⟨fun h => (by rw [h] at hr; cases hr), fun j hj => ?_⟩
    have hjn : j < n := by
      rcases Nat.lt_or_ge j n with h | h
      · exact h
      · exact absurd hj (tail_waits hs hc hn inv _ i rfl hin hun j h)
    refine ⟨hjn, ?_⟩
    by_cases hji : j = i
    · subst hji; exact hy.qOp hi H
    · have h1 := (H.2 j (ready_mono hj hji)).2
      obtain ⟨hjun, oj, hoj, hall⟩ := mem_ready.1 hj
      have hnot : ∀ e ∈ oj.after, Region.binds md e = true → e.on ≠ i := fun e he hb heq => by
        have h1 := hall e he hb
        rw [heq, getD_both hun] at h1
        cases h1
      have h2 := qOp_put hoj (hfree j oj hoj hji hjun hnot) (fun cs b => hsel i oi cs b hi) (fun cs b => hsel j oj cs b hoj) hy h1
      have hfree' : ∀ k ok, ops[k]? = some ok → k ≠ i → (listed.setIfInBounds j true).getD k true = false →
          (∀ e ∈ ok.after, Region.binds md e = true → e.on ≠ i) → oi.apart ops ok = true := fun k ok hk hki hun hno => by
        refine hfree k ok hk hki ?_ hno
        by_cases hjk : j = k
        · subst hjk; exact hjun
        · rw [getD_set_ne true hjk] at hun; exact hun
      refine qOp_mono (fun a' h3 => ih (listed.setIfInBounds j true) a' (inv.set hj hjn) hfree' (ready_mono hr (Ne.symm hji)) h3.1 ?_) h2
      rw [Array.setIfInBounds_comm _ _ hji]
      exact h3.2
theorem wpAnyLQ_lex {n g : Nat} {Lq : Act → Prop} (hsel : Region.noSelect ops = true) (hs : Region.sinkB md ops n = true) (hc : Region.chainB md ops n = true) (hn : n < ops.size) :
    ∀ (l : List Oper) (k : Nat) (listed : Array Bool) (a : Act), (∀ j, j < l.length → l[j]? = ops[k + j]?) → k + l.length = n → HeadInv md ops n listed →
    Region.lexHead md ops g l.length k listed = true → wpQuiet P ops C Lq l a →
    wpAnyLQ P md ops C n (fun listed' a' => Region.seqB md ops g n listed' = true ∧ Lq a') l.length listed a
  | [], k, listed, a, _, hk, _, hB, h => by
    have : k = n := by simpa using hk
    subst this
    exact ⟨by simpa [Region.lexHead] using hB, h⟩
  | o :: l, k, listed, a, hl, hk, inv, hB, h => by
    have h0 : ops[k]? = some o := by simpa using (hl 0 (by simp)).symm
    simp only [List.length_cons, Region.lexHead, Bool.and_eq_true] at hB
    obtain ⟨⟨hr, hf⟩, hB'⟩ := hB
    have hkn : k < n := by simp only [List.length_cons] at hk; omega
    have hr' : k ∈ Region.ready md ops listed := by simpa using hr
    have hst : qOp P ops C k (wpQuiet P ops C Lq l) a := by unfold qOp; simp only [h0]; exact h
    obtain ⟨v, hy, hK⟩ := yieldsIn_of_qOp h0 hst
    exact wpAnyLQ_first h0 (Region.noSelect_spec hsel) hs hc hn hkn (fun listed' a' hL => seqB_ready hL.1) l.length listed a inv (Region.free_spec h0 hf) hr' hy
      (wpAnyLQ_lex hsel hs hc hn l (k + 1) _ _ (fun j hj => by have := hl (j + 1) (by simp; omega); simpa [Nat.add_assoc, Nat.add_comm 1 j] using this) (by simp only [List.length_cons] at hk; omega) (inv.set hr' hkn) hB' hK)
theorem wp_region_quiet_tail {id : Nat} {Q : Exit → Act → World → Prop} {a : Act} {w : World} {l : List Oper} (n : Nat) (hm : P.follows .mixedOrders = true) (hB : Region.lexTailB .any l.toArray n = true)
    (hC : C { w with drawn := w.drawn + 1 }) (h : wpQuiet P l.toArray C (fun a' => ∀ w', C w' → wpList P l.toArray Q (l.drop n) a' w') (l.take n) a) : (Code.region id l.toArray true).wp P Q a w := by
  simp only [Region.lexTailB, Bool.and_eq_true, decide_eq_true_eq] at hB
  obtain ⟨⟨⟨⟨hsel, hn⟩, hs⟩, hc⟩, hlex⟩ := hB
  have hn' : n < l.length := by simpa using hn
  have htl : (l.take n).length = n := by simp; omega
  have hdl : (l.drop n).length = l.toArray.size - n := by simp
  have inv0 : HeadInv .any l.toArray n (Array.replicate l.toArray.size false) :=
    ⟨by simp, fun j oj _ hl => (by rw [getD_replicate_false] at hl; cases hl), fun t _ ht => getD_in (by simpa using ht) (getD_replicate_false _ _)⟩
  have H := wpAnyLQ_lex (md := .any) (g := l.toArray.size - n) hsel hs hc hn (l.take n) 0 _ a (fun j hj => by
    have hj' : j < n := by rw [htl] at hj; exact hj
    simp [hj']) (by simpa using htl) inv0 (by rw [htl]; exact hlex) h
  refine wp_region_any hm ?_
  have := wpAny_of_headQ (Q' := Q) (g := l.toArray.size - n) (fun listed a' w' hw' hL => by
    have := wpAny_of_seq (md := .any) (Q' := Q) (l.drop n) n listed a' w' (fun j => by simp [List.getElem?_drop]) (by rw [hdl]; exact hL.1) (hL.2 w' hw')
    rwa [hdl] at this) _ _ _ _ hC H
  rw [htl, show n + (l.toArray.size - n) = l.toArray.size by omega] at this
  exact this
/-- .. at the class 'what was there is as it was'. -/
theorem wp_region_up_tail {id : Nat} {Q : Exit → Act → World → Prop} {a : Act} {w : World} {l : List Oper} (n : Nat) (hm : P.follows .mixedOrders = true) (hB : Region.lexTailB .any l.toArray n = true)
    (h : wpQuiet P l.toArray (fun w' => ∃ E : Up w, w' = E.to) (fun a' => ∀ w', (∃ E : Up w, w' = E.to) → wpList P l.toArray Q (l.drop n) a' w') (l.take n) a) : (Code.region id l.toArray true).wp P Q a w :=
  wp_region_quiet_tail n hm hB ⟨⟨_, (Below.refl _ w).drew⟩, rfl⟩ h
end
end Go.Proofs.YtlnkjmgfkpeicaaGreatDoor
namespace Go.Proofs.YtlnkjmgfkpeicaaGreatDoor
open Go.RowKit

/-- block g holds cs from its head on -/
def HeadAt (w : World) (g : Nat) (cs : List Value) : Prop := ∀ i v, cs[i]? = some v → w.cell? ⟨g, i, none⟩ = some v
theorem HeadAt.on {w w' : World} {g : Nat} {cs : List Value} (h : HeadAt w g cs) (hb : Below w.heap.size w w') : HeadAt w' g cs := fun i v hv => cell_on hb (h i v hv)
theorem HeadAt.box (w : World) (cs : List Value) (t : TypeId) : HeadAt (w.alloc (.cells ⟨cs⟩ t)) w.heap.size cs := fun i v hv => by
  rw [one_cell]; simpa using hv
theorem HeadAt.old {w : World} {g : Nat} {cs : List Value} (h : HeadAt w g cs) (o : Obj) : HeadAt (w.alloc o) g cs := fun i v hv => old_one (h i v hv) o

def caughtF (f : CFn) (c : Int) : Bool := !regM f c && !withinM c (-(f.caught.length : Int)) (-1)
set_option maxHeartbeats 400000 in
set_option maxRecDepth 100000 in
theorem caughtF_c (cs : List Value) (p : CProg) (f : CFn) (g : Nat) (c : Int) (w : World) (h : LookR w w.heap.size cs p f) (hr : 1 ≤ f.regs) (hg : HeadAt w g cs) :
    Calls Tryz.prog 93 #[.int .i64 c, .pointer (some ⟨g, 0, none⟩)] w (Gives (.bool (caughtF f c)) w) := by
  obtain ⟨r, hrr⟩ : ∃ r, caughtF f c = r := ⟨_, rfl⟩
  rw [hrr]
  have HL := Lib.hid h
  obtain ⟨pc, fc, rfl, ⟨A1, n1, A2, n2, A3, n3, rfl, p1, p2, p3⟩, ⟨A4, n4, A5, n5, rfl, q1, q2, w1, w2⟩⟩ := h
  have l4 := len_le q1
  have HG := Lib.hid hg
  clear p1 p2 p3 q1 q2
  have c0 : w.cell? ⟨g, 0, none⟩ = some (.slice A1 p.fns.length n1) := hg 0 _ rfl
  have c1 : w.cell? ⟨g, 1, none⟩ = some (.slice A2 p.consts.length n2) := hg 1 _ rfl
  have c2 : w.cell? ⟨g, 2, none⟩ = some (.slice A3 p.texts.length n3) := hg 2 _ rfl
  have c3 : w.cell? ⟨g, 3, none⟩ = some (.int .i64 f.params) := hg 3 _ rfl
  have c4 : w.cell? ⟨g, 4, none⟩ = some (.int .i64 f.regs) := hg 4 _ rfl
  have c5 : w.cell? ⟨g, 5, none⟩ = some (.bool f.gen) := hg 5 _ rfl
  have c6 : w.cell? ⟨g, 6, none⟩ = some (.slice A4 f.caught.length n4) := hg 6 _ rfl
  have c7 : w.cell? ⟨g, 7, none⟩ = some (.slice A5 f.code.length n5) := hg 7 _ rfl
  clear hg
  go_enter Tryz.func93, Tryz.ntmps93
  go_wp2_with fail
  refine (lreg_c _ p f c _ HL.out hr).mono ?_
  rintro e w3 ⟨rfl, k3⟩
  have K3 := Lib.hid k3
  have d6 : w3.cell? ⟨g, 6, none⟩ = some (.slice A4 f.caught.length n4) := cell_on k3 c6
  clear k3 c0 c1 c2 c3 c4 c5 c6 c7
  cases hq : regM f c
  · have HR : Hid (r = !withinM c (-(f.caught.length : Int)) (-1)) := by rw [← hrr]; simp [caughtF, hq, Hid]
    clear hrr hq
    go_wp2_with fail
    refine (within_c _ _ _ _).mono ?_
    rintro e w' ⟨rfl, rfl⟩
    go_wp2_with fail
    go_ret
    exact ⟨by rw [HR.out]; rfl, K3.out⟩
  · have HR : Hid (r = false) := by rw [← hrr]; simp [caughtF, hq, Hid]
    clear hrr hq
    go_wp2_with fail
    go_ret
    exact ⟨by rw [HR.out]; rfl, K3.out⟩

theorem caught_enters : ∀ args W, (callFunc 93 args).run Tryz.prog W = .ok (.enter 93 args) W := enters_of Tryz.func93 (by kernel_rfl) rfl
set_option maxHeartbeats 400000 in
set_option maxRecDepth 100000 in
theorem caught_c (cs fcs : List Value) (p : CProg) (f g : CFn) (w : World) (h : LookR w w.heap.size cs p f) (hr : 1 ≤ f.regs) (hg : FnR w w.heap.size fcs g) :
    Calls Tryz.prog 71 #[.agg ⟨cs⟩, .agg ⟨fcs⟩] w (Gives (.bool (caughtM f g)) w) := by
  obtain ⟨w0, hw0⟩ : ∃ w0, w0 = (w.alloc (.cells ⟨cs⟩ 110)).alloc (.cells ⟨fcs⟩ 57) := ⟨_, rfl⟩
  have k0 : Hid (Below w.heap.size w w0) := by rw [hw0]; exact below_two' w _ _
  have hh : Hid (HeadAt w0 w.heap.size cs) := by rw [hw0]; exact (HeadAt.box w cs _).old _
  have HL : Hid (LookR w0 w0.heap.size cs p f) := h.keep k0.out.size (fun _ h => k0.out.cell h)
  obtain ⟨A4, n4, A5, n5, rfl, q1, q2, w1, w2⟩ := hg
  have Q1 : Hid (SliceR w0 w0.heap.size 1 IntR (.slice A4 g.caught.length n4) g.caught) := q1.keep k0.out.size (fun _ h => k0.out.cell h) (fun _ _ h => h)
  obtain ⟨pc, fc, rfl, ⟨B1, m1, B2, m2, B3, m3, rfl, -⟩, ⟨B4, m4, B5, m5, rfl, -⟩⟩ := h
  simp only [List.cons_append, List.nil_append] at hw0
  have HW := Lib.hid hw0
  have HC := Lib.hid (containsFunc_ints IntR (caughtF f) A4 n4 g.caught 93 caught_enters #[.pointer (some ⟨w.heap.size, 0, none⟩)] w0 Q1.out (fun w1 k x cs hx hR => by
    obtain ⟨rfl, -⟩ := hR
    exact caughtF_c _ p f w.heap.size x w1 (HL.out.keep k.size (fun _ h => k.cell h)) hr (hh.out.on k)))
  clear hw0 q1 q2
  go_enter Tryz.func71, Tryz.ntmps71
  go_wp2_with fail
  rw [← HW.out]
  refine HC.out.mono ?_
  rintro e w3 ⟨rfl, k3⟩
  have K3 := Lib.hid (k0.out.trans (k3.mono k0.out.size))
  clear k3
  go_wp2_with fail
  go_ret
  exact ⟨rfl, K3.out⟩
end Go.Proofs.YtlnkjmgfkpeicaaGreatDoor
