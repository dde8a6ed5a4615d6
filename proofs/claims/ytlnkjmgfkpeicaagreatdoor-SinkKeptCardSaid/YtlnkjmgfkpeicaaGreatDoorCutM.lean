/- ir.Cut as a plain function; where nothing is left out all is as it was. No program. -/
import Derived.Test.YtlnkjmgfkpeicaaGreatDoorChk
set_option linter.all false
namespace Go.Proofs.YtlnkjmgfkpeicaaGreatDoor

def oneM (at_ : List Int) (v : Int) : Int := if v < 0 then -1 else match at_[v.toNat]? with | none => -1 | some a => if a < 0 then -1 else a
def fineM (at_ : List Int) (v : Int) : Bool := decide (0 ≤ oneM at_ v)
def setC (at_ : List Int) (s : TSet) : TSet := ⟨s.reg, oneM at_ s.val⟩
def makeC (at_ : List Int) (m : TMake) : TMake := ⟨oneM at_ m.cell, m.kind, m.num, m.vals.map (oneM at_)⟩
def exitC (at_ : List Int) (x : TExit) : TExit := ⟨x.at_, x.steps, x.sets.map (setC at_), x.makes.map (makeC at_)⟩
def fineS (at_ : List Int) (s : TSet) : Bool := fineM at_ s.val
def fineK (at_ : List Int) (m : TMake) : Bool := fineM at_ m.cell && m.vals.all (fineM at_)
def fineX (at_ : List Int) (x : TExit) : Bool := x.sets.all (fineS at_) && x.makes.all (fineK at_)
/-- operands put anew -/
def putM (F : Int → Int) (x : TIns) : TIns :=
  { x with a := if 0 < (formM x.op).asks then F x.a else x.a, b := if 1 < (formM x.op).asks then F x.b else x.b, c := if 2 < (formM x.op).asks then F x.c else x.c }
def insC (at_ : List Int) (x : TIns) : TIns := putM (oneM at_) x
def fineI (at_ : List Int) (x : TIns) : Bool := (asksM x).all (fineM at_)

structure CutS where
  at_ : List Int
  fine : Bool
  loop : Int
  ins : List TIns
def cutStep (loop0 : Int) (s : CutS) (x : TIns) (n : Int) : Option CutS :=
  let lp := if (s.at_.length : Int) = loop0 then (s.ins.length : Int) else s.loop
  if n = s.at_.length then some ⟨s.at_ ++ [(s.ins.length : Int)], s.fine && fineI (s.at_ ++ [(s.ins.length : Int)]) x, lp, s.ins ++ [insC (s.at_ ++ [(s.ins.length : Int)]) x]⟩
  else if n = -1 then some ⟨s.at_ ++ [-1], s.fine, lp, s.ins⟩
  else if 0 ≤ n ∧ n < s.at_.length then some ⟨s.at_ ++ [s.at_.getD n.toNat 0], s.fine, lp, s.ins⟩
  else none
def cutRun (loop0 : Int) : List TIns → List Int → CutS → Option CutS
  | x :: l, n :: m, s => match cutStep loop0 s x n with | none => none | some s' => cutRun loop0 l m s'
  | _, _, s => some s
def exit0 : TExit := ⟨0, 0, [], []⟩
def trace0 : TTrace := ⟨0, 0, 0, [], [], exit0, exit0⟩
def cutEnd (t : TTrace) (s : CutS) : TTrace :=
  ⟨t.fn, t.at_, if t.loop ≤ 0 then 0 else if (t.ins.length : Int) ≤ t.loop then (s.ins.length : Int) else s.loop, s.ins, t.exits.map (exitC s.at_), exitC s.at_ t.turn, exitC s.at_ t.back⟩
def cutM (t : TTrace) (to : List Int) : TTrace × Int :=
  if to.length ≠ t.ins.length then (trace0, 3)
  else match cutRun t.loop t.ins to ⟨[], true, 0, []⟩ with
    | none => (trace0, 3)
    | some s => if s.fine && t.exits.all (fineX s.at_) && fineX s.at_ t.turn && fineX s.at_ t.back then (cutEnd t s, 0) else (trace0, 3)

/-- no more than there was -/
theorem cutRun_len (loop0 : Int) : ∀ (l : List TIns) (m : List Int) (s s' : CutS), cutRun loop0 l m s = some s' → s'.ins.length ≤ s.ins.length + l.length
  | [], m, s, s', h => by
    cases m <;> (simp only [cutRun, Option.some.injEq] at h; subst h; simp)
  | x :: l, [], s, s', h => by simp only [cutRun, Option.some.injEq] at h; subst h; omega
  | x :: l, n :: m, s, s', h => by
    simp only [cutRun] at h
    split at h
    · cases h
    rename_i s1 e
    have h1 := cutRun_len loop0 l m s1 s' h
    have h2 : s1.ins.length ≤ s.ins.length + 1 := by
      unfold cutStep at e
      dsimp only at e
      split at e
      · injection e with e; subst e; simp
      split at e
      · injection e with e; subst e; simp
      split at e
      · injection e with e; subst e; simp
      · cases e
    simp only [List.length_cons]; omega
theorem cutM_len (t : TTrace) (to : List Int) : ((cutM t to).2 = 0 ∧ (cutM t to).1.ins.length ≤ t.ins.length) ∨ ((cutM t to).2 = 3 ∧ (cutM t to).1.ins = []) := by
  unfold cutM
  split
  · exact .inr ⟨rfl, rfl⟩
  split
  · exact .inr ⟨rfl, rfl⟩
  rename_i s e
  have h := cutRun_len _ _ _ _ _ e
  split
  · left; refine ⟨rfl, ?_⟩
    simpa [cutEnd] using h
  · exact .inr ⟨rfl, rfl⟩

def upto (n : Nat) : List Int := (List.range n).map (fun i : Nat => (i : Int))
theorem upto_len (n : Nat) : (upto n).length = n := by simp [upto]
theorem upto_succ (n : Nat) : upto (n + 1) = upto n ++ [(n : Int)] := by simp [upto, List.range_succ]
theorem upto_at {n i : Nat} (h : i < n) : (upto n)[i]? = some (i : Int) := by
  unfold upto
  rw [List.getElem?_map, List.getElem?_range h]; rfl
theorem one_upto {n : Nat} {v : Int} (h0 : 0 ≤ v) (h : v < n) : oneM (upto n) v = v := by
  unfold oneM
  rw [if_neg (by omega), upto_at (by omega)]
  dsimp only
  rw [if_neg (by omega)]; omega
theorem fine_upto {n : Nat} {v : Int} (h0 : 0 ≤ v) (h : v < n) : fineM (upto n) v = true := by
  unfold fineM
  rw [one_upto h0 h]; simpa using h0
theorem putM_id {F : Int → Int} {x : TIns} (h : ∀ v ∈ asksM x, F v = v) : putM F x = x := by
  unfold putM
  have hm : ∀ (k : Nat) (v : Int), [x.a, x.b, x.c][k]? = some v → (k : Int) < (formM x.op).asks → v ∈ asksM x := fun k v hv hk => by
    unfold asksM
    refine List.mem_of_getElem? (i := k) ?_
    rw [List.getElem?_take, if_pos (by omega)]
    exact hv
  obtain ⟨op, a, b, c, n, e, k⟩ := x
  dsimp only at hm ⊢
  simp only [TIns.mk.injEq, true_and, and_true]
  refine ⟨?_, ?_, ?_⟩
  · split
    · rename_i h1; exact h _ (hm 0 _ rfl h1)
    · rfl
  · split
    · rename_i h1; exact h _ (hm 1 _ rfl h1)
    · rfl
  · split
    · rename_i h1; exact h _ (hm 2 _ rfl h1)
    · rfl
def exitIn (n : Nat) (x : TExit) : Prop := (∀ s ∈ x.sets, 0 ≤ s.val ∧ s.val < n) ∧ ∀ m ∈ x.makes, (0 ≤ m.cell ∧ m.cell < n) ∧ ∀ v ∈ m.vals, 0 ≤ v ∧ v < n
theorem map_id_of {α : Type} {f : α → α} : ∀ (l : List α), (∀ x ∈ l, f x = x) → l.map f = l
  | [], _ => rfl
  | x :: l, h => by rw [List.map_cons, h x (by simp), map_id_of l (fun y hy => h y (by simp [hy]))]
theorem exit_upto {n : Nat} {x : TExit} (h : exitIn n x) : exitC (upto n) x = x ∧ fineX (upto n) x = true := by
  obtain ⟨h1, h2⟩ := h
  obtain ⟨a, s, sets, makes⟩ := x
  constructor
  · unfold exitC
    simp only [TExit.mk.injEq, true_and]
    refine ⟨map_id_of _ fun s hs => ?_, map_id_of _ fun m hm => ?_⟩
    · unfold setC
      rw [one_upto (h1 s hs).1 (h1 s hs).2]
    · obtain ⟨h3, h4⟩ := h2 m hm
      unfold makeC
      rw [one_upto h3.1 h3.2, map_id_of _ fun v hv => one_upto (h4 v hv).1 (h4 v hv).2]
  · unfold fineX
    rw [Bool.and_eq_true, List.all_eq_true, List.all_eq_true]
    refine ⟨fun s hs => fine_upto (h1 s hs).1 (h1 s hs).2, fun m hm => ?_⟩
    obtain ⟨h3, h4⟩ := h2 m hm
    unfold fineK
    rw [Bool.and_eq_true, List.all_eq_true]
    exact ⟨fine_upto h3.1 h3.2, fun v hv => fine_upto (h4 v hv).1 (h4 v hv).2⟩

theorem cutRun_id (loop0 : Int) : ∀ (l pre : List TIns) (lp : Int), (∀ (k : Nat) (x : TIns), l[k]? = some x → ∀ v ∈ asksM x, 0 ≤ v ∧ v < ((pre.length + k : Nat) : Int)) →
    ∃ lp', cutRun loop0 l ((List.range' pre.length l.length).map (fun i : Nat => (i : Int))) ⟨upto pre.length, true, lp, pre⟩ = some ⟨upto (pre.length + l.length), true, lp', pre ++ l⟩ ∧
      lp' = if (pre.length : Int) ≤ loop0 ∧ loop0 < pre.length + l.length then loop0 else lp
  | [], pre, lp, _ => ⟨lp, by simp [cutRun], by rw [if_neg (by simp only [List.length_nil]; omega)]⟩
  | x :: l, pre, lp, h => by
    have hx := h 0 x rfl
    have hi : insC (upto (pre.length + 1)) x = x := putM_id fun v hv => one_upto (hx v hv).1 (by have := (hx v hv).2; omega)
    have hf : fineI (upto (pre.length + 1)) x = true := by
      unfold fineI
      rw [List.all_eq_true]
      exact fun v hv => fine_upto (hx v hv).1 (by have := (hx v hv).2; omega)
    obtain ⟨lp', e1, e2⟩ := cutRun_id loop0 l (pre ++ [x]) (if (pre.length : Int) = loop0 then (pre.length : Int) else lp) (fun k y hy v hv => by
      have := h (k + 1) y (by simpa using hy) v hv
      simp only [List.length_append, List.length_cons, List.length_nil]
      omega)
    refine ⟨lp', ?_, ?_⟩
    · rw [List.length_cons, List.range'_succ, List.map_cons]
      unfold cutRun cutStep
      dsimp only
      rw [upto_len, if_pos rfl, ← upto_succ, hf, hi, Bool.and_true]
      simp only [List.length_append, List.length_cons, List.length_nil] at e1
      dsimp only
      rw [e1]
      simp only [List.append_assoc, List.singleton_append, Option.some.injEq, CutS.mk.injEq, and_true, true_and]
      congr 1
      omega
    · rw [e2]
      simp only [List.length_append, List.length_cons, List.length_nil]
      by_cases c : (pre.length : Int) = loop0
      · rw [if_pos c]
        by_cases c2 : ((pre.length + (0 + 1) : Nat) : Int) ≤ loop0 ∧ loop0 < ((pre.length + (0 + 1) : Nat) : Int) + l.length
        · omega
        · rw [if_neg c2, if_pos (by omega), c]
      · rw [if_neg c]
        by_cases c2 : ((pre.length + (0 + 1) : Nat) : Int) ≤ loop0 ∧ loop0 < ((pre.length + (0 + 1) : Nat) : Int) + l.length
        · rw [if_pos c2, if_pos (by omega)]
        · rw [if_neg c2, if_neg (by omega)]
theorem range'_upto (n : Nat) : (List.range' 0 n).map (fun i : Nat => (i : Int)) = upto n := by
  unfold upto; rw [List.range_eq_range']
/-- what a checked trace owes to ir.Cut -/
structure Cuts (t : TTrace) : Prop where
  ins : ∀ (k : Nat) (x : TIns), t.ins[k]? = some x → ∀ v ∈ asksM x, 0 ≤ v ∧ v < (k : Int)
  exits : ∀ x ∈ t.exits, exitIn t.ins.length x
  turn : exitIn t.ins.length t.turn
  back : exitIn t.ins.length t.back
  loop0 : 0 ≤ t.loop
  loop1 : t.loop ≤ t.ins.length
theorem cutM_upto {t : TTrace} (h : Cuts t) : cutM t (upto t.ins.length) = (t, 0) := by
  unfold cutM
  rw [if_neg (by rw [upto_len]; simp)]
  obtain ⟨lp', e1, e2⟩ := cutRun_id t.loop t.ins [] 0 (fun k x hx v hv => by simpa using h.ins k x hx v hv)
  rw [List.length_nil, range'_upto] at e1
  rw [show (⟨[], true, 0, []⟩ : CutS) = ⟨upto 0, true, 0, []⟩ from rfl, e1]
  simp only [Nat.zero_add, List.nil_append]
  have hx : t.exits.all (fineX (upto t.ins.length)) = true := by
    rw [List.all_eq_true]; exact fun x hx => (exit_upto (h.exits x hx)).2
  rw [hx, (exit_upto h.turn).2, (exit_upto h.back).2, if_pos (by rfl)]
  have hm : t.exits.map (exitC (upto t.ins.length)) = t.exits := map_id_of _ fun x hx => (exit_upto (h.exits x hx)).1
  have h0 := h.loop0
  have h1 := h.loop1
  have hl : (if t.loop ≤ 0 then 0 else if (t.ins.length : Int) ≤ t.loop then (t.ins.length : Int) else lp') = t.loop := by
    simp only [List.length_nil] at e2
    split
    · omega
    · split
      · omega
      · rw [e2, if_pos (by omega)]
  unfold cutEnd
  dsimp only
  rw [hm, (exit_upto h.turn).1, (exit_upto h.back).1, hl]

theorem valuesM_in {ins : List TIns} {l : List Int} {at_ : Int} (h : valuesM ins l at_ = true) : ∀ v ∈ l, 0 ≤ v ∧ v < at_ ∧ v < ins.length := fun v hv => by
  unfold valuesM at h
  have := List.all_eq_true.1 h v hv
  simp only [valueM, Bool.and_eq_true, decide_eq_true_eq] at this
  exact ⟨this.1.1.1, this.1.1.2, this.1.2⟩
theorem setsM_in {regs : Int} {ins : List TIns} {at_ : Int} : ∀ (last : Int) (l : List TSet), setsM regs ins at_ last l = true → ∀ s ∈ l, 0 ≤ s.val ∧ s.val < at_ ∧ s.val < ins.length
  | _, [], _, _, hs => by simp at hs
  | last, x :: l, h, s, hs => by
    simp only [setsM, valueM, Bool.and_eq_true, decide_eq_true_eq] at h
    rcases List.mem_cons.1 hs with rfl | hs
    · exact ⟨h.1.2.1.1.1, h.1.2.1.1.2, h.1.2.1.2⟩
    · exact setsM_in _ l h.2 s hs
theorem makesM_in {ins : List TIns} {at_ : Int} : ∀ (last : Int) (l : List TMake), makesM ins at_ last l = true → ∀ m ∈ l, (0 ≤ m.cell ∧ m.cell < at_ ∧ m.cell < ins.length) ∧ ∀ v ∈ m.vals, 0 ≤ v ∧ v < at_ ∧ v < ins.length
  | _, [], _, _, hs => by simp at hs
  | last, x :: l, h, m, hm => by
    simp only [makesM, Bool.and_eq_true, decide_eq_true_eq] at h
    rcases List.mem_cons.1 hm with rfl | hm
    · have h2 := h.1.2
      simp only [makeM, Bool.and_eq_true] at h2
      have h3 := h2.1.1.1.1
      simp only [valueM, Bool.and_eq_true, decide_eq_true_eq] at h3
      exact ⟨⟨h3.1.1.1, h3.1.1.2, h3.1.2⟩, valuesM_in h2.2⟩
    · exact makesM_in _ l h.2 m hm
theorem rightM_in {fn : FnM} {ins : List TIns} {x : TExit} {at_ : Int} (h : rightM fn ins x at_ = true) : exitIn ins.length x := by
  simp only [rightM, Bool.and_eq_true] at h
  refine ⟨fun s hs => ?_, fun m hm => ?_⟩
  · have := setsM_in _ _ h.1.2 s hs; exact ⟨this.1, this.2.2⟩
  · have := makesM_in _ _ h.2 m hm
    exact ⟨⟨this.1.1, this.1.2.2⟩, fun v hv => ⟨(this.2 v hv).1, (this.2 v hv).2.2⟩⟩
theorem bareM_in {n : Nat} {x : TExit} (h : bareM x = true) : exitIn n x := by
  simp only [bareM, Bool.and_eq_true, List.isEmpty_iff] at h
  refine ⟨fun s hs => ?_, fun m hm => ?_⟩
  · rw [h.1.2] at hs; simp at hs
  · rw [h.2] at hm; simp at hm
/-- what ir.Check has asked -/
theorem checkM_parts {rightV : Val → Bool} {ce : Int} {fns : List FnM} {t : TTrace} (h : checkM rightV ce fns t = 0) :
    t.ins.length ≤ 300 ∧ t.exits.length ≤ 200 ∧ ∃ fn, (0 ≤ t.fn ∧ fns[t.fn.toNat]? = some fn) ∧ (0 ≤ t.at_ ∧ t.at_ < fn.len) ∧ (0 ≤ t.loop ∧ t.loop ≤ t.ins.length) ∧ insM rightV fn t 0 t.ins = 0 ∧
      (t.loop = 0 → bareM t.turn = true) ∧ (0 < t.loop → t.turn.at_ = t.at_ ∧ rightM fn t.ins t.turn t.loop = true) ∧ (t.back.at_ = t.at_ ∧ rightM fn t.ins t.back t.ins.length = true) ∧ t.exits.all (rightM fn t.ins · t.ins.length) = true := by
  unfold checkM at h
  split at h
  · omega
  split at h
  · cases h
  split at h
  · cases h
  rename_i h2 _ fn h3
  have h4 : 0 ≤ t.fn ∧ fns[t.fn.toNat]? = some fn := by
    split at h3
    · cases h3
    · exact ⟨by omega, h3⟩
  split at h
  · cases h
  simp only at h
  split at h
  · rename_i h1; exact (h1 h).elim
  rename_i h5
  split at h
  · cases h
  rename_i h6
  split at h
  · cases h
  rename_i h7
  split at h
  case isFalse => cases h
  rename_i h8
  refine ⟨by omega, by omega, fn, h4, by omega, by omega, by simpa using h5, fun c => ?_, fun c => ?_, ?_, h8⟩
  · cases hb : bareM t.turn
    · exact (h6 (.inl ⟨c, hb⟩)).elim
    · rfl
  · refine ⟨?_, ?_⟩
    · by_cases e : t.turn.at_ = t.at_
      · exact e
      · exact (h6 (.inr ⟨c, .inl e⟩)).elim
    · cases hb : rightM fn t.ins t.turn t.loop
      · exact (h6 (.inr ⟨c, .inr hb⟩)).elim
      · rfl
  · refine ⟨?_, ?_⟩
    · by_cases e : t.back.at_ = t.at_
      · exact e
      · exact (h7 (.inl e)).elim
    · cases hb : rightM fn t.ins t.back t.ins.length
      · exact (h7 (.inr hb)).elim
      · rfl
theorem checkM_cuts {rightV : Val → Bool} {ce : Int} {fns : List FnM} {t : TTrace} (h : checkM rightV ce fns t = 0) : Cuts t := by
  obtain ⟨_, _, fn, _, _, hl, hi, ht0, ht1, hb, hx⟩ := checkM_parts h
  refine ⟨fun k x hx v hv => ?_, fun x hx' => rightM_in (List.all_eq_true.1 hx x hx'), ?_, rightM_in hb.2, hl.1, hl.2⟩
  · have := checkM_ahead h hx v hv
    exact ⟨this.1, this.2.1⟩
  · rcases Int.lt_or_le 0 t.loop with c | c
    · exact rightM_in (ht1 c).2
    · exact bareM_in (ht0 (by omega))
end Go.Proofs.YtlnkjmgfkpeicaaGreatDoor
