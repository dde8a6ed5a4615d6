/- cse.Do as a plain function; behind it nothing is told twice. No program. -/
import Derived.Test.YtmccomeihnaanaaDoorKept
namespace Go.Proofs.YtmccomeihnaanaaDoor

structure Key where
  op : Int
  n : Int
  a : Int
  b : Int
  ahead : Bool
  k : Val
deriving DecidableEq
def keyM (x : TIns) (ahead : Bool) : Option Key :=
  if x.op = 2 then some ⟨2, 0, 0, 0, false, x.k⟩
  else if x.op = 3 then some ⟨3, 0, 0, 0, false, ⟨0, 0⟩⟩
  else if x.op = 1 then some ⟨1, x.n, 0, 0, ahead, ⟨0, 0⟩⟩
  else if x.op = 8 then some ⟨8, x.n, x.a, 0, false, ⟨0, 0⟩⟩
  else if x.op = 7 then some (if x.n = 3 ∨ x.n = 5 ∨ x.n = 8 then ⟨7, x.n, min x.a x.b, max x.a x.b, false, ⟨0, 0⟩⟩ else ⟨7, x.n, x.a, x.b, false, ⟨0, 0⟩⟩)
  else none
def seenM (k : Key) : List (Key × Int) → Option Int
  | [] => none
  | (q, i) :: l => if q = k then some i else seenM k l
structure CseS where
  seen : List (Key × Int)
  tl : List Int
/-- the instruction with what its operands are now -/
def cseX (s : CseS) (x : TIns) : TIns := putM (fun v => s.tl.getD v.toNat 0) x
def cseStep (loop : Int) (s : CseS) (x : TIns) : CseS :=
  match keyM (cseX s x) (decide ((s.tl.length : Int) < loop)) with
  | none => ⟨s.seen, s.tl ++ [(s.tl.length : Int)]⟩
  | some k => match seenM k s.seen with
    | some f => ⟨s.seen, s.tl ++ [f]⟩
    | none => ⟨(k, (s.tl.length : Int)) :: s.seen, s.tl ++ [(s.tl.length : Int)]⟩
def cseRun (loop : Int) (l : List TIns) (s : CseS) : CseS := l.foldl (cseStep loop) s
def cseTo (t : TTrace) : List Int := (cseRun t.loop t.ins ⟨[], []⟩).tl
/-- ce: what ir.Check says -/
def cseM (ce : Int) (t : TTrace) : TTrace × Int := if ce ≠ 0 then (trace0, ce) else cutM t (cseTo t)

/-- those whose key does not hang on operands -/
theorem keyM_put {x : TIns} (h : x.op = 1 ∨ x.op = 2 ∨ x.op = 3) (F : Int → Int) (ah : Bool) : keyM (putM F x) ah = keyM x ah := by
  unfold keyM putM
  dsimp only
  rcases h with h | h | h <;> rw [h] <;> rfl
structure CseI (loop : Int) (l : List TIns) (j : Nat) (s : CseS) : Prop where
  len : s.tl.length = j
  few : ∀ k i, seenM k s.seen = some i → 0 ≤ i ∧ i < j
  bd : ∀ v ∈ s.tl, 0 ≤ v ∧ v < j
  once : ∀ (i : Nat) x, i < j → l[i]? = some x → (x.op = 1 ∨ x.op = 2 ∨ x.op = 3) → s.tl[i]? = some (i : Int) → ∃ k, keyM x (decide ((i : Int) < loop)) = some k ∧ seenM k s.seen = some (i : Int)
theorem key_some {x : TIns} (h : x.op = 1 ∨ x.op = 2 ∨ x.op = 3) (ah : Bool) : ∃ k, keyM x ah = some k := by
  unfold keyM
  rcases h with h | h | h <;> rw [h] <;> exact ⟨_, rfl⟩
theorem cse_step {loop : Int} {l : List TIns} {j : Nat} {s : CseS} (h : CseI loop l j s) {x : TIns} (hx : l[j]? = some x) : CseI loop l (j + 1) (cseStep loop s x) := by
  have hl := h.len
  have old : ∀ {v : Int} {i : Nat}, i < j → (s.tl ++ [v])[i]? = some (i : Int) → s.tl[i]? = some (i : Int) := fun hi e => by
    rwa [List.getElem?_append_left (by omega)] at e
  have new : ∀ {v : Int} {i : Nat}, i = j → (s.tl ++ [v])[i]? = some (i : Int) → v = j := fun hi e => by
    subst hi
    rw [List.getElem?_append_right (by omega), hl, Nat.sub_self] at e
    simpa using e
  have grow : ∀ {v : Int}, 0 ≤ v ∧ v < ((j + 1 : Nat) : Int) → ∀ u ∈ s.tl ++ [v], 0 ≤ u ∧ u < ((j + 1 : Nat) : Int) := fun hv u hu => by
    rcases List.mem_append.1 hu with hu | hu
    · have := h.bd u hu; omega
    · simp at hu; subst hu; exact hv
  unfold cseStep
  cases hk : keyM (cseX s x) (decide ((s.tl.length : Int) < loop)) with
  | none =>
    dsimp only
    refine ⟨by simp [hl], fun k i e => by have := h.few k i e; omega, grow ⟨by omega, by omega⟩, fun i y hi hy ho e => ?_⟩
    rcases Nat.lt_or_ge i j with c | c
    · exact h.once i y c hy ho (old c e)
    · obtain rfl : i = j := by omega
      rw [hx] at hy; injection hy with hy; subst hy
      obtain ⟨k, hk'⟩ := key_some ho (decide ((s.tl.length : Int) < loop))
      unfold cseX at hk
      rw [keyM_put ho, hk'] at hk; cases hk
  | some k =>
    dsimp only
    cases hs : seenM k s.seen with
    | some f =>
      dsimp only
      refine ⟨by simp [hl], fun k i e => by have := h.few k i e; omega, grow (by have := h.few k f hs; omega), fun i y hi hy ho e => ?_⟩
      rcases Nat.lt_or_ge i j with c | c
      · exact h.once i y c hy ho (old c e)
      · obtain rfl : i = j := by omega
        have := new rfl e
        have := h.few k f hs
        omega
    | none =>
      dsimp only
      refine ⟨by simp [hl], fun q i e => ?_, grow ⟨by omega, by omega⟩, fun i y hi hy ho e => ?_⟩
      · unfold seenM at e
        split at e
        · injection e with e; omega
        · have := h.few q i e; omega
      · rcases Nat.lt_or_ge i j with c | c
        · obtain ⟨q, h1, h2⟩ := h.once i y c hy ho (old c e)
          refine ⟨q, h1, ?_⟩
          unfold seenM
          rw [if_neg (by rintro rfl; rw [hs] at h2; cases h2)]
          exact h2
        · obtain rfl : i = j := by omega
          rw [hx] at hy; injection hy with hy; subst hy
          unfold cseX at hk
          rw [keyM_put ho, hl] at hk
          refine ⟨k, hk, ?_⟩
          unfold seenM
          rw [if_pos rfl, hl]
theorem cse_run {loop : Int} {l : List TIns} : ∀ (k j : Nat) (s : CseS), j + k = l.length → CseI loop l j s → CseI loop l l.length (cseRun loop (l.drop j) s)
  | 0, j, s, hk, h => by
    obtain rfl : j = l.length := by omega
    rw [List.drop_length]; exact h
  | k + 1, j, s, hk, h => by
    have hj : j < l.length := by omega
    rw [List.drop_eq_getElem_cons hj]
    exact cse_run k (j + 1) _ (by omega) (cse_step h (List.getElem?_eq_getElem hj))
/-- the places so far -/
theorem cse_take {loop : Int} {l : List TIns} {j : Nat} {x : TIns} (hx : l[j]? = some x) (s : CseS) : cseRun loop (l.take (j + 1)) s = cseStep loop (cseRun loop (l.take j) s) x := by
  obtain ⟨h1, h2⟩ := List.getElem?_eq_some_iff.1 hx
  unfold cseRun
  rw [List.take_succ_eq_append_getElem h1, h2, List.foldl_append]; rfl
theorem cse_at (loop : Int) (l : List TIns) : ∀ j, j ≤ l.length → CseI loop l j (cseRun loop (l.take j) ⟨[], []⟩)
  | 0, _ => by
    rw [List.take_zero]
    exact ⟨rfl, fun k i e => (by cases e), fun v hv => (by simp [cseRun] at hv), fun i _ hi => by omega⟩
  | j + 1, h => by
    have hx : l[j]? = some (l[j]'(by omega)) := List.getElem?_eq_getElem (by omega)
    rw [cse_take hx]
    exact cse_step (cse_at loop l j (by omega)) hx
theorem cse_to (t : TTrace) : CseI t.loop t.ins t.ins.length (cseRun t.loop t.ins ⟨[], []⟩) := by
  have := cse_run (loop := t.loop) (l := t.ins) t.ins.length 0 ⟨[], []⟩ (by omega) ⟨rfl, fun k i e => (by cases e), fun v hv => (by simp at hv), fun i _ hi => by omega⟩
  simpa using this
/-- NO CONSTANT IS TOLD TWICE, nor the function that runs, nor a register on one side of the loop's begin. -/
theorem cse_none {t : TTrace} (h : (cutM t (cseTo t)).2 = 0) {i k : Nat} {x y : TIns} (hk : k < i) (hx : (cutM t (cseTo t)).1.ins[i]? = some x) (hy : (cutM t (cseTo t)).1.ins[k]? = some y) (ho : x.op = y.op) :
    ¬ ((x.op = 2 ∧ x.k = y.k) ∨ x.op = 3 ∨ (x.op = 1 ∧ x.n = y.n ∧ ((i : Int) < (cutM t (cseTo t)).1.loop ↔ (k : Int) < (cutM t (cseTo t)).1.loop))) := by
  obtain ⟨S, ks, hK, e, -, -⟩ := cutM_kept h
  rw [e] at hx hy ⊢
  have hx' : S.ins[i]? = some x := hx
  have hy' : S.ins[k]? = some y := hy
  have hi := (List.getElem?_eq_some_iff.1 hx').1
  have hl := hK.len
  have h1 : ks[i]? = some (ks[i]'(by omega)) := List.getElem?_eq_getElem (by omega)
  have h2 : ks[k]? = some (ks[k]'(by omega)) := List.getElem?_eq_getElem (by omega)
  have hup := (List.pairwise_iff_getElem.1 hK.up) k i (by omega) (by omega) hk
  have s1 := kept_side hK h1
  have s2 := kept_side hK h2
  obtain ⟨a, a', a1, a2, a3, a4, -, a6⟩ := hK.like i _ h1
  obtain ⟨b, b', b1, b2, b3, b4, -, b6⟩ := hK.like k _ h2
  rw [hx'] at a2; injection a2 with a2; subst a2
  rw [hy'] at b2; injection b2 with b2; subst b2
  have m1 := (hK.all _).1 (List.mem_of_getElem? h1)
  have m2 := (hK.all _).1 (List.mem_of_getElem? h2)
  have C := cse_to t
  intro hc
  have oa : a.op = 1 ∨ a.op = 2 ∨ a.op = 3 := by rcases hc with ⟨c, _⟩ | c | ⟨c, _⟩ <;> omega
  have ob : b.op = 1 ∨ b.op = 2 ∨ b.op = 3 := by omega
  obtain ⟨q, q1, q2⟩ := C.once _ a m1.1 a1 oa m1.2
  obtain ⟨r, r1, r2⟩ := C.once _ b m2.1 b1 ob m2.2
  have hq : q = r := by
    have e1 : keyM a (decide (((ks[i]'(by omega) : Nat) : Int) < t.loop)) = keyM b (decide (((ks[k]'(by omega) : Nat) : Int) < t.loop)) := by
      have eop : a.op = b.op := by omega
      rcases hc with ⟨c, d⟩ | c | ⟨c, d, f⟩
      · unfold keyM; rw [if_pos (by omega), if_pos (by omega), ← a6, ← b6, d]
      · unfold keyM; rw [if_neg (by omega), if_pos (by omega), if_neg (by omega), if_pos (by omega)]
      · have g : (((ks[i]'(by omega) : Nat) : Int) < t.loop) ↔ (((ks[k]'(by omega) : Nat) : Int) < t.loop) := s1.symm.trans (f.trans s2)
        have gd : decide (((ks[i]'(by omega) : Nat) : Int) < t.loop) = decide (((ks[k]'(by omega) : Nat) : Int) < t.loop) := decide_eq_decide.2 g
        unfold keyM; rw [if_neg (by omega), if_neg (by omega), if_pos (by omega), if_neg (by omega), if_neg (by omega), if_pos (by omega), gd, ← a4, ← b4, d]
    rw [q1, r1] at e1
    injection e1
  subst hq
  rw [q2] at r2
  injection r2 with r2
  omega
end Go.Proofs.YtmccomeihnaanaaDoor
