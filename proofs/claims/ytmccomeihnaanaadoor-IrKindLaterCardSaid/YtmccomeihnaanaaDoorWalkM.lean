/- The walk through a function's orders, and code.Check, as plain Lean. No program of the seat's. -/
import Derived.Test.YtmccomeihnaanaaDoorCode
namespace Go.Proofs.YtmccomeihnaanaaDoor

structure WalkS where
  seen : List Bool
  out : List (List CTry)
  todo : List Int
  bad : Bool

def comeM (s : WalkS) (at_ : Int) (l : List CTry) : WalkS :=
  if (s.seen.length : Int) ≤ at_ ∨ 20 < l.length then { s with bad := true }
  else if s.seen[at_.toNat]? = some false then { s with seen := s.seen.set at_.toNat true, out := s.out.set at_.toNat l, todo := s.todo ++ [at_] }
  else if s.out[at_.toNat]? = some l then s else { s with bad := true }
def fromM (code : List CIns) (s : WalkS) (at_ : Int) : WalkS :=
  match code[at_.toNat]?, s.out[at_.toNat]? with
  | some i, some l =>
    if i.op = 28 ∨ i.op = 29 then s
    else if i.op = 13 ∨ i.op = 14 then comeM s i.a l
    else if i.op = 15 then comeM (comeM s i.b l) (at_ + 1) l
    else if i.op = 30 then comeM (comeM s i.b l) (at_ + 1) (l ++ [⟨i.a, i.b⟩])
    else if i.op = 31 then (if l = [] then { s with bad := true } else comeM s (at_ + 1) l.dropLast)
    else comeM s (at_ + 1) l
  | _, _ => s
def meas (s : WalkS) : Nat := s.seen.count false + s.todo.length
def popM (s : WalkS) : WalkS := { s with todo := s.todo.dropLast }
def runW (code : List CIns) : Nat → WalkS → WalkS
  | 0, s => s
  | f + 1, s => if s.todo ≠ [] ∧ s.bad = false then runW code f (fromM code (popM s) (s.todo.getLast?.getD 0)) else s
def startM (n : Nat) : WalkS := comeM ⟨List.replicate n false, List.replicate n [], [], false⟩ 0 []
def triesM (code : List CIns) : WalkS := runW code (meas (startM code.length)) (startM code.length)

/-- what holds of the walk's state all the while -/
structure WOk (n : Nat) (s : WalkS) : Prop where
  seen : s.seen.length = n
  out : s.out.length = n
  todo : ∀ t ∈ s.todo, 0 ≤ t ∧ t < n
  few : ∀ l ∈ s.out, l.length ≤ 20
  small : meas s ≤ n
  wf : ∀ l ∈ s.out, ∀ x ∈ l, (-9223372036854775808 ≤ x.reg ∧ x.reg ≤ 9223372036854775807) ∧ (-9223372036854775808 ≤ x.at_ ∧ x.at_ ≤ 9223372036854775807)

theorem count_set (l : List Bool) (i : Nat) (h : l[i]? = some false) : (l.set i true).count false + 1 = l.count false := by
  have hl : i < l.length := (List.getElem?_eq_some_iff.1 h).1
  have hp := List.count_pos_iff.2 (List.mem_of_getElem? h)
  rw [List.count_set hl]
  have e : l[i] = false := by rw [List.getElem?_eq_getElem hl] at h; injection h
  simp [e]
  omega
theorem meas_come (s : WalkS) (at_ : Int) (l : List CTry) : meas (comeM s at_ l) = meas s := by
  unfold comeM
  split
  · rfl
  · split
    · rename_i h
      have := count_set _ _ h
      simp only [meas, List.length_append, List.length_singleton]
      omega
    · split <;> rfl
abbrev TryWf (l : List CTry) : Prop := ∀ x ∈ l, (-9223372036854775808 ≤ x.reg ∧ x.reg ≤ 9223372036854775807) ∧ (-9223372036854775808 ≤ x.at_ ∧ x.at_ ≤ 9223372036854775807)
theorem WOk.come {n : Nat} {s : WalkS} (h : WOk n s) {at_ : Int} (h0 : 0 ≤ at_) {l : List CTry} (hl : TryWf l) : WOk n (comeM s at_ l) := by
  have hm := meas_come s at_ l
  have hx : meas (comeM s at_ l) ≤ n := by rw [hm]; exact h.small
  unfold comeM at hx ⊢
  split
  · exact ⟨h.seen, h.out, h.todo, h.few, h.small, h.wf⟩
  · rename_i hc
    rw [if_neg hc] at hx
    split
    · rename_i hs
      rw [if_pos hs] at hx
      have hc' : ¬ (s.seen.length : Int) ≤ at_ ∧ ¬ 20 < l.length := by omega
      have := h.seen
      refine ⟨by simp [h.seen], by simp [h.out], fun t ht => ?_, fun m hm' => ?_, hx, fun m hm' => ?_⟩
      · rcases List.mem_append.1 ht with ht | ht
        · exact h.todo t ht
        · simp at ht; subst ht; omega
      · rcases List.mem_or_eq_of_mem_set hm' with hm' | rfl
        · exact h.few m hm'
        · omega
      · rcases List.mem_or_eq_of_mem_set hm' with hm' | rfl
        · exact h.wf m hm'
        · exact hl
    · split
      · exact h
      · exact ⟨h.seen, h.out, h.todo, h.few, h.small, h.wf⟩
/-- the orders' places that are gone to -/
def JumpsOk (code : List CIns) : Prop := ∀ i ∈ code, ((i.op = 13 ∨ i.op = 14) → 0 ≤ i.a ∧ i.a ≤ 9223372036854775807) ∧ ((i.op = 15 ∨ i.op = 30) → 0 ≤ i.b ∧ i.b ≤ 9223372036854775807) ∧ (-9223372036854775808 ≤ i.a ∧ i.a ≤ 9223372036854775807)
theorem meas_from (code : List CIns) (s : WalkS) (at_ : Int) : meas (fromM code s at_) = meas s := by
  unfold fromM
  split
  · repeat' split
    all_goals first | rfl | (simp only [meas_come])
  · rfl
theorem WOk.from_ {n : Nat} {s : WalkS} (h : WOk n s) {code : List CIns} (hj : JumpsOk code) {at_ : Int} (h0 : 0 ≤ at_) : WOk n (fromM code s at_) := by
  unfold fromM
  split
  · rename_i i l hi ho
    have hm := List.mem_of_getElem? hi
    have hl : TryWf l := h.wf l (List.mem_of_getElem? ho)
    obtain ⟨j1, j2, j3⟩ := hj i hm
    repeat' split
    · exact h
    · exact h.come (j1 (by assumption)).1 hl
    · exact (h.come (j2 (.inl (by assumption))).1 hl).come (by omega) hl
    · have j4 := j2 (.inr (by assumption))
      refine (h.come j4.1 hl).come (by omega) (fun x hx => ?_)
      rcases List.mem_append.1 hx with hx | hx
      · exact hl x hx
      · simp at hx; subst hx; exact ⟨j3, by dsimp only; omega⟩
    · exact ⟨h.seen, h.out, h.todo, h.few, h.small, h.wf⟩
    · exact h.come (by omega) (fun x hx => hl x (List.dropLast_subset l hx))
    · exact h.come (by omega) hl
  · exact h
theorem WOk.pop {n : Nat} {s : WalkS} (h : WOk n s) : WOk n (popM s) :=
  ⟨h.seen, h.out, fun t ht => h.todo t (List.dropLast_subset _ ht), h.few, by have := h.small; simp only [meas, popM, List.length_dropLast] at *; omega, h.wf⟩
theorem meas_pop {s : WalkS} (h : s.todo ≠ []) : meas (popM s) + 1 = meas s := by
  have : 0 < s.todo.length := List.length_pos_iff.2 h
  simp only [meas, popM, List.length_dropLast]; omega
/-- one round -/
theorem run_step {code : List CIns} {s : WalkS} {t : Int} (h : s.todo.getLast? = some t) (hb : s.bad = false) : runW code (meas s) s = runW code (meas (fromM code (popM s) t)) (fromM code (popM s) t) := by
  have hn : s.todo ≠ [] := by intro e; rw [e] at h; cases h
  rw [meas_from, ← meas_pop hn]
  show (if s.todo ≠ [] ∧ s.bad = false then _ else _) = _
  rw [if_pos ⟨hn, hb⟩, h]
  rfl
theorem run_end {code : List CIns} {s : WalkS} (h : s.todo = [] ∨ s.bad = true) (f : Nat) : runW code f s = s := by
  cases f with
  | zero => rfl
  | succ f =>
    unfold runW
    rw [if_neg]
    rcases h with h | h <;> simp [h]
theorem startM_ok (n : Nat) : WOk n (startM n) := by
  refine WOk.come ⟨by simp, by simp, by simp, by simp, by simp [meas], by simp⟩ (Int.le_refl _) (by intro x hx; cases hx)

def functionM (p : CProg) (f : CFn) : Bool :=
  !(decide (f.params < 0) || decide (f.regs < 1) || decide (f.regs < f.params)) && (f.code.zipIdx.all fun x => orderM p f x.2 x.1) && !(triesM f.code).bad
theorem names_a {p : CProg} {f : CFn} {n : Int} (h : namesM p f 97 n = true) : 0 ≤ n ∧ n < f.code.length := by
  have : withinM n 0 ((f.code.length : Int) - 1) = true := h
  rw [withinM_iff] at this; omega
theorem order_jumps {p : CProg} {f : CFn} {at_ : Int} {i : CIns} (h : orderM p f at_ i = true) : ((i.op = 13 ∨ i.op = 14) → 0 ≤ i.a ∧ i.a < f.code.length) ∧ ((i.op = 15 ∨ i.op = 30) → 0 ≤ i.b ∧ i.b < f.code.length) := by
  unfold orderM at h
  simp only [Bool.and_eq_true] at h
  have h1 := h.1
  unfold namedM at h1
  split at h1
  · rename_i x y z hf
    simp only [Bool.and_eq_true] at h1
    refine ⟨fun ho => ?_, fun ho => ?_⟩
    · have : formS i.op = [97, 45, 45] := by rcases ho with ho | ho <;> rw [ho] <;> decide
      rw [this] at hf
      injection hf with e1
      exact names_a (by rw [e1]; exact h1.1.1.2)
    · have : formS i.op = [114, 97, 45] := by rcases ho with ho | ho <;> rw [ho] <;> decide
      rw [this] at hf
      injection hf with e1 e2
      injection e2 with e2
      exact names_a (by rw [e2]; exact h1.1.2)
  · cases h1
def largeM (p : CProg) : Bool :=
  decide (60 < p.fns.length) || decide (200 < p.consts.length) || decide (200 < p.texts.length) || p.texts.any (fun t => decide (200 < t.size)) || p.fns.any (fun f => decide (600 < f.code.length) || decide (60 < f.regs))
end Go.Proofs.YtmccomeihnaanaaDoor
