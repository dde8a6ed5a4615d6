/- fold.Do as a plain function; folded, there is nothing left to reckon ahead. No program. -/
import Derived.Test.YtmccomeihnaanaaDoorKept
namespace Go.Proofs.YtmccomeihnaanaaDoor

/-- what folding asks: of one operand, of two, what is true, and what is known of kinds -/
structure FoldE where
  U : Int → Val → Val × Int
  B : Int → Val → Val → Val × Int
  T : Val → Bool
  K : Int → Int → Int
def insF (ins : List TIns) (v : Int) : TIns := (ins[v.toNat]?).getD ⟨0, 0, 0, 0, 0, 0, ⟨0, 0⟩⟩
def becomeM (k : Val) : TIns := ⟨2, -1, -1, -1, 0, -1, k⟩
def numV (n : Int) : Val := ⟨2, n⟩
def boolV (b : Bool) : Val := ⟨1, if b then 1 else 0⟩
def constM (done : List TIns) (v : Int) : Bool := (insF done v).op == 2
def holdsM (E : FoldE) (x : TIns) (v : Val) : Bool := if x.op = 4 then v.kind == x.n else if x.op = 5 then E.T v == (x.n == 1) else decide (v = x.k)
def reckonM (E : FoldE) (done : List TIns) (x : TIns) : Option Val :=
  if constM done x.a = false then none
  else if x.op = 7 then (if constM done x.b = false then none else if (E.B x.n (insF done x.a).k (insF done x.b).k).2 < 0 then some (E.B x.n (insF done x.a).k (insF done x.b).k).1 else none)
  else if (E.U x.n (insF done x.a).k).2 < 0 then some (E.U x.n (insF done x.a).k).1 else none
def isM (done : List TIns) (v : Int) (k : Val) : Bool := constM done v && decide ((insF done v).k = k)
def wholeK (E : FoldE) (v i : Int) : Bool := E.K v i == 2
def unitN (n : Int) : Int := if n = 5 ∨ n = 6 then 1 else 0
def neutralM (E : FoldE) (done : List TIns) (x : TIns) (i : Int) : Int :=
  if (x.n = 3 ∨ x.n = 5) ∧ (isM done x.a (numV (unitN x.n)) && wholeK E x.b i) = true then x.b
  else if (x.n = 3 ∨ x.n = 4 ∨ x.n = 5 ∨ x.n = 6) ∧ (isM done x.b (numV (unitN x.n)) && wholeK E x.a i) = true then x.a
  else -1
def sameM (E : FoldE) (x : TIns) (i : Int) : Option Val :=
  if x.n = 8 ∧ 0 ≤ E.K x.a i ∧ E.K x.a i ≠ 3 then some (boolV true)
  else if E.K x.a i ≠ 2 then none
  else if x.n = 4 then some (numV 0)
  else if x.n = 9 ∨ x.n = 10 then some (boolV (x.n == 10))
  else none
def twoM (E : FoldE) (done : List TIns) (x : TIns) (i : Int) : TIns × Int :=
  match reckonM E done x with
  | some k => (becomeM k, i)
  | none =>
    if 0 ≤ neutralM E done x i then (x, neutralM E done x i)
    else if x.n = 5 ∧ ((isM done x.a (numV 0) && wholeK E x.b i) || (isM done x.b (numV 0) && wholeK E x.a i)) = true then (becomeM (numV 0), i)
    else if x.a = x.b then (match sameM E x i with | some k => (becomeM k, i) | none => (x, i))
    else (x, i)
def foldOne (E : FoldE) (done : List TIns) (x : TIns) (i : Int) : TIns × Int :=
  if x.op = 7 then twoM E done x i
  else if x.op = 8 then
    match reckonM E done x with
    | some k => (becomeM k, i)
    | none => if x.n = 11 ∧ (insF done x.a).op = 8 ∧ (insF done x.a).n = 11 ∧ E.K (insF done x.a).a i = 1 then (x, (insF done x.a).a) else (x, i)
  else if x.op = 4 ∨ x.op = 5 ∨ x.op = 6 then (if (constM done x.a && holdsM E x (insF done x.a).k) = true then (x, -1) else (x, i))
  else (x, i)
structure FoldS where
  ins : List TIns
  tl : List Int
def foldX (s : FoldS) (x : TIns) : TIns := putM (fun v => s.tl.getD v.toNat 0) x
def foldStep (E : FoldE) (s : FoldS) (x : TIns) : FoldS := ⟨s.ins ++ [(foldOne E s.ins (foldX s x) s.tl.length).1], s.tl ++ [(foldOne E s.ins (foldX s x) s.tl.length).2]⟩
def foldRun (E : FoldE) (l : List TIns) (s : FoldS) : FoldS := l.foldl (foldStep E) s
def foldT (E : FoldE) (t : TTrace) : TTrace := { t with ins := (foldRun E t.ins ⟨[], []⟩).ins }
/-- ce: what ir.Check says -/
def foldM (E : FoldE) (ce : Int) (t : TTrace) : TTrace × Int := if ce ≠ 0 then (trace0, ce) else cutM (foldT E t) (foldRun E t.ins ⟨[], []⟩).tl

/-- nothing can be reckoned ahead of it -/
structure Left (E : FoldE) (ins : List TIns) (x : TIns) : Prop where
  un : x.op = 8 → (insF ins x.a).op = 2 → 0 ≤ (E.U x.n (insF ins x.a).k).2
  bin : x.op = 7 → (insF ins x.a).op = 2 → (insF ins x.b).op = 2 → 0 ≤ (E.B x.n (insF ins x.a).k (insF ins x.b).k).2
  is_ : x.op = 4 → (insF ins x.a).op = 2 → (insF ins x.a).k.kind ≠ x.n
  same : x.op = 6 → (insF ins x.a).op = 2 → (insF ins x.a).k ≠ x.k
/-- operands: values ahead that stand for themselves -/
def OpOk (tl : List Int) (i : Nat) (x : TIns) : Prop := ∀ o ∈ asksM x, 0 ≤ o ∧ o < i ∧ tl[o.toNat]? = some o
def AskOk (l : List TIns) : Prop := ∀ (k : Nat) (x : TIns), l[k]? = some x → ∀ v ∈ asksM x, 0 ≤ v ∧ v < k ∧ tellsM (opOf l v) = true
structure FoldI (E : FoldE) (l : List TIns) (j : Nat) (s : FoldS) : Prop where
  len : s.tl.length = j
  lin : s.ins.length = j
  idem : ∀ (v : Nat) u, s.tl[v]? = some u → (u = -1 ∧ tellsM (opOf l v) = false) ∨ (0 ≤ u ∧ u ≤ v ∧ s.tl[u.toNat]? = some u)
  opnd : ∀ (i : Nat) x, s.ins[i]? = some x → OpOk s.tl i x
  left : ∀ (i : Nat) x, s.ins[i]? = some x → s.tl[i]? = some (i : Int) → Left E s.ins x

theorem insF_append {ins r : List TIns} {v : Int} (h : v.toNat < ins.length) : insF (ins ++ r) v = insF ins v := by
  unfold insF; rw [List.getElem?_append_left h]
theorem asks_one {x : TIns} (h : 0 < (formM x.op).asks) : x.a ∈ asksM x := by
  unfold asksM
  obtain ⟨n, hn⟩ : ∃ n, (formM x.op).asks.toNat = n + 1 := ⟨(formM x.op).asks.toNat - 1, by omega⟩
  rw [hn]; simp
theorem asks_two {x : TIns} (h : 1 < (formM x.op).asks) : x.b ∈ asksM x := by
  unfold asksM
  obtain ⟨n, hn⟩ : ∃ n, (formM x.op).asks.toNat = n + 2 := ⟨(formM x.op).asks.toNat - 2, by omega⟩
  rw [hn]; simp
theorem asks_form {x : TIns} : (x.op = 7 → (formM x.op).asks = 2) ∧ (x.op = 8 → (formM x.op).asks = 1) ∧ (x.op = 4 → (formM x.op).asks = 1) ∧ (x.op = 5 → (formM x.op).asks = 1) ∧ (x.op = 6 → (formM x.op).asks = 1) ∧ (x.op = 2 → (formM x.op).asks = 0) := by
  refine ⟨fun h => ?_, fun h => ?_, fun h => ?_, fun h => ?_, fun h => ?_, fun h => ?_⟩ <;> rw [h] <;> rfl
/-- operands that are put anew -/
theorem asks_put {F : Int → Int} {x : TIns} {o : Int} (h : o ∈ asksM (putM F x)) : ∃ v ∈ asksM x, o = F v := by
  unfold asksM at h
  rw [show (putM F x).op = x.op from rfl] at h
  obtain ⟨k, hk⟩ := List.mem_iff_getElem?.1 h
  rw [List.getElem?_take] at hk
  split at hk
  case isFalse => cases hk
  rename_i hlt
  have mem : ∀ (v : Int), [x.a, x.b, x.c][k]? = some v → v ∈ asksM x := fun v hv => by
    refine List.mem_of_getElem? (i := k) ?_
    unfold asksM
    rw [List.getElem?_take, if_pos hlt]; exact hv
  rcases k with _ | _ | _ | k
  · refine ⟨x.a, mem _ rfl, ?_⟩
    simp only [List.getElem?_cons_zero, Option.some.injEq] at hk
    rw [← hk]; unfold putM; dsimp only; rw [if_pos (by omega)]
  · refine ⟨x.b, mem _ rfl, ?_⟩
    simp only [List.getElem?_cons_succ, List.getElem?_cons_zero, Option.some.injEq] at hk
    rw [← hk]; unfold putM; dsimp only; rw [if_pos (by omega)]
  · refine ⟨x.c, mem _ rfl, ?_⟩
    simp only [List.getElem?_cons_succ, List.getElem?_cons_zero, Option.some.injEq] at hk
    rw [← hk]; unfold putM; dsimp only; rw [if_pos (by omega)]
  · simp at hk
theorem asks_become {k : Val} : asksM (becomeM k) = [] := rfl
theorem left_become (E : FoldE) (ins : List TIns) (k : Val) : Left E ins (becomeM k) := by
  refine ⟨fun h => ?_, fun h => ?_, fun h => ?_, fun h => ?_⟩ <;> cases h
/-- the four ways out -/
inductive OneWay (E : FoldE) (done : List TIns) (x : TIns) (i : Int) : TIns × Int → Prop
  | const (k : Val) : tellsM x.op = true → OneWay E done x i (becomeM k, i)
  | stands (v : Int) : tellsM x.op = true → (v ∈ asksM x ∨ ∃ u ∈ asksM x, v ∈ asksM (insF done u)) → OneWay E done x i (x, v)
  | gone : tellsM x.op = false → OneWay E done x i (x, -1)
  | stays : Left E done x → OneWay E done x i (x, i)
theorem reckon_none {E : FoldE} {done : List TIns} {x : TIns} (h : reckonM E done x = none) : (x.op = 8 → (insF done x.a).op = 2 → 0 ≤ (E.U x.n (insF done x.a).k).2) ∧ (x.op = 7 → (insF done x.a).op = 2 → (insF done x.b).op = 2 → 0 ≤ (E.B x.n (insF done x.a).k (insF done x.b).k).2) := by
  unfold reckonM constM at h
  constructor
  · intro h8 ha
    rw [ha, h8] at h
    simp only [BEq.rfl, Bool.true_eq_false, ↓reduceIte] at h
    rw [if_neg (by decide)] at h
    split at h
    · cases h
    · omega
  · intro h7 ha hb
    rw [ha, h7, hb] at h
    simp only [BEq.rfl, Bool.true_eq_false, ↓reduceIte] at h
    split at h
    · cases h
    · omega
theorem tells_bin {x : TIns} (h : x.op = 7 ∨ x.op = 8) : tellsM x.op = true := by rcases h with h | h <;> rw [h] <;> rfl
theorem one_way (E : FoldE) (done : List TIns) (x : TIns) (i : Int) : OneWay E done x i (foldOne E done x i) := by
  obtain ⟨f7, f8, f4, f5, f6, -⟩ := asks_form (x := x)
  unfold foldOne
  split
  · rename_i h7
    have ta : x.a ∈ asksM x := asks_one (by rw [f7 h7]; decide)
    have tb : x.b ∈ asksM x := asks_two (by rw [f7 h7]; decide)
    have tt := tells_bin (.inl h7)
    unfold twoM
    cases hr : reckonM E done x with
    | some k => exact .const k tt
    | none =>
      have hn := (reckon_none hr).2
      have stay : Left E done x := ⟨fun c => by omega, hn, fun c => by omega, fun c => by omega⟩
      dsimp only
      split
      · rename_i hv
        refine .stands _ tt (.inl ?_)
        unfold neutralM at hv ⊢
        split
        · exact tb
        · rename_i c
          rw [if_neg c] at hv
          split
          · exact ta
          · rename_i c2
            rw [if_neg c2] at hv; omega
      · split
        · exact .const _ tt
        · split
          · cases sameM E x i with
            | some k => exact .const k tt
            | none => exact .stays stay
          · exact .stays stay
  · rename_i h7
    split
    · rename_i h8
      have ta : x.a ∈ asksM x := asks_one (by rw [f8 h8]; decide)
      have tt := tells_bin (.inr h8)
      cases hr : reckonM E done x with
      | some k => exact .const k tt
      | none =>
        have hn := (reckon_none hr).1
        dsimp only
        split
        · rename_i c
          exact .stands _ tt (.inr ⟨_, ta, asks_one (by rw [(asks_form (x := insF done x.a)).2.1 c.2.1]; decide)⟩)
        · exact .stays ⟨hn, fun c => by omega, fun c => by omega, fun c => by omega⟩
    · rename_i h8
      split
      · rename_i h
        split
        · refine .gone ?_
          rcases h with h | h | h <;> rw [h] <;> rfl
        · rename_i c
          refine .stays ⟨fun c => by omega, fun c => by omega, fun e ha hk => c ?_, fun e ha hk => c ?_⟩
          · unfold constM holdsM
            rw [ha, if_pos e, hk]; simp
          · unfold constM holdsM
            rw [ha, if_neg (by omega), if_neg (by omega), hk]; simp
      · exact .stays ⟨fun c => by omega, fun c => by omega, fun c => by omega, fun c => by omega⟩
theorem asks_pos {x : TIns} (h : x.op = 7 ∨ x.op = 8 ∨ x.op = 4 ∨ x.op = 6) : 0 < (formM x.op).asks := by rcases h with h | h | h | h <;> rw [h] <;> decide
theorem left_append {E : FoldE} {ins r : List TIns} {x : TIns} (ho : ∀ o ∈ asksM x, 0 ≤ o ∧ o.toNat < ins.length) : Left E (ins ++ r) x ↔ Left E ins x := by
  obtain ⟨f7, f8, f4, f5, f6, -⟩ := asks_form (x := x)
  have e1 : (x.op = 7 ∨ x.op = 8 ∨ x.op = 4 ∨ x.op = 6) → insF (ins ++ r) x.a = insF ins x.a := fun h => insF_append (ho _ (asks_one (asks_pos h))).2
  have e2 : x.op = 7 → insF (ins ++ r) x.b = insF ins x.b := fun h => insF_append (ho _ (asks_two (by rw [f7 h]; decide))).2
  constructor
  · rintro ⟨h1, h2, h3, h4⟩
    refine ⟨fun c => ?_, fun c => ?_, fun c => ?_, fun c => ?_⟩
    · have := h1 c; rwa [e1 (by omega)] at this
    · have := h2 c; rwa [e1 (by omega), e2 c] at this
    · have := h3 c; rwa [e1 (by omega)] at this
    · have := h4 c; rwa [e1 (by omega)] at this
  · rintro ⟨h1, h2, h3, h4⟩
    refine ⟨fun c => ?_, fun c => ?_, fun c => ?_, fun c => ?_⟩
    · rw [e1 (by omega)]; exact h1 c
    · rw [e1 (by omega), e2 c]; exact h2 c
    · rw [e1 (by omega)]; exact h3 c
    · rw [e1 (by omega)]; exact h4 c
/-- of an instruction to come: its operands stand for themselves -/
theorem fold_put {E : FoldE} {l : List TIns} {j : Nat} {s : FoldS} (h : FoldI E l j s) (ha : AskOk l) {x : TIns} (hx : l[j]? = some x) : OpOk s.tl j (foldX s x) := by
  intro o ho
  obtain ⟨v, hv, rfl⟩ := asks_put ho
  obtain ⟨a1, a2, a3⟩ := ha j x hx v hv
  have hl := h.len
  have e : s.tl[v.toNat]? = some (s.tl[v.toNat]'(by omega)) := List.getElem?_eq_getElem (by omega)
  have e2 : s.tl.getD v.toNat 0 = s.tl[v.toNat]'(by omega) := by rw [List.getD_eq_getElem?_getD, e]; rfl
  rw [e2]
  rcases h.idem _ _ e with ⟨_, c⟩ | ⟨c1, c2, c3⟩
  · rw [show ((v.toNat : Nat) : Int) = v by omega, a3] at c; cases c
  · exact ⟨c1, by omega, c3⟩
theorem fold_step {E : FoldE} {l : List TIns} {j : Nat} {s : FoldS} (h : FoldI E l j s) (ha : AskOk l) {x : TIns} (hx : l[j]? = some x) : FoldI E l (j + 1) (foldStep E s x) := by
  have hl := h.len
  have hi := h.lin
  have hp := fold_put h ha hx
  have hop : opOf l (j : Int) = x.op := by unfold opOf; rw [show (j : Int).toNat = j from rfl, hx]; rfl
  have hw := one_way E s.ins (foldX s x) s.tl.length
  unfold foldStep
  generalize hr : foldOne E s.ins (foldX s x) s.tl.length = r at hw ⊢
  obtain ⟨y, u⟩ := r
  dsimp only
  -- what the new value is
  have hu : (u = -1 ∧ tellsM (opOf l (j : Int)) = false) ∨ (0 ≤ u ∧ u < j ∧ s.tl[u.toNat]? = some u) ∨ u = j := by
    rw [hop]
    cases hw with
    | const k ht => exact .inr (.inr (by omega))
    | stands v ht hv =>
      refine .inr (.inl ?_)
      rcases hv with hv | ⟨o, ho, hv⟩
      · exact hp _ hv
      · obtain ⟨b1, b2, b3⟩ := hp o ho
        have e : s.ins[o.toNat]? = some (insF s.ins o) := by
          unfold insF
          rw [List.getElem?_eq_getElem (show o.toNat < s.ins.length by omega)]; rfl
        obtain ⟨c1, c2, c3⟩ := h.opnd _ _ e _ hv
        exact ⟨c1, by omega, c3⟩
    | gone ht => exact .inl ⟨rfl, ht⟩
    | stays hs => exact .inr (.inr (by omega))
  have hy : OpOk s.tl j y := by
    cases hw with
    | const k ht => intro o ho; rw [asks_become] at ho; simp at ho
    | stands v ht hv => exact hp
    | gone ht => exact hp
    | stays hs => exact hp
  have hyl : u = j → Left E s.ins y := fun e => by
    cases hw with
    | const k ht => exact left_become E _ k
    | stands v ht hv =>
      exfalso
      rcases hu with ⟨c, _⟩ | ⟨_, c, _⟩ | c
      · omega
      · omega
      · rcases hv with hv | ⟨o, ho, hv⟩
        · have := hp _ hv; omega
        · obtain ⟨b1, b2, b3⟩ := hp o ho
          have e : s.ins[o.toNat]? = some (insF s.ins o) := by
            unfold insF
            rw [List.getElem?_eq_getElem (show o.toNat < s.ins.length by omega)]; rfl
          have := h.opnd _ _ e _ hv
          omega
    | gone ht => omega
    | stays hs => exact hs
  clear hw hr
  have old : ∀ {v : Nat} {b : Int}, v < j → ((s.tl ++ [u])[v]? = some b ↔ s.tl[v]? = some b) := fun hv => by
    rw [List.getElem?_append_left (by omega)]
  have oki : ∀ {i : Nat} {z : TIns}, OpOk s.tl i z → i ≤ j → OpOk (s.tl ++ [u]) i z := fun hz hij o ho => by
    obtain ⟨c1, c2, c3⟩ := hz o ho
    exact ⟨c1, c2, (old (by omega)).2 c3⟩
  have mem : ∀ {α : Type} (L : List α) (a b : α) (i : Nat), L.length = j → (L ++ [a])[i]? = some b → (i < j ∧ L[i]? = some b) ∨ (i = j ∧ b = a) := fun L a b i hL e => by
    rcases Nat.lt_or_ge i j with c | c
    · rw [List.getElem?_append_left (by omega)] at e; exact .inl ⟨c, e⟩
    · have := (List.getElem?_eq_some_iff.1 e).1
      simp only [List.length_append, List.length_cons, List.length_nil] at this
      obtain rfl : i = j := by omega
      rw [List.getElem?_append_right (by omega), hL, Nat.sub_self] at e
      exact .inr ⟨rfl, by simpa using e.symm⟩
  refine ⟨by simp [hl], by simp [hi], fun v b e => ?_, fun i z e => ?_, fun i z e e2 => ?_⟩
  · rcases mem _ _ _ _ hl e with ⟨c, e⟩ | ⟨rfl, rfl⟩
    · rcases h.idem v b e with c1 | ⟨c1, c2, c3⟩
      · exact .inl c1
      · exact .inr ⟨c1, c2, (old (by omega)).2 c3⟩
    · rcases hu with c1 | ⟨c1, c2, c3⟩ | c1
      · exact .inl c1
      · exact .inr ⟨c1, by omega, (old (by omega)).2 c3⟩
      · refine .inr ⟨by omega, by omega, ?_⟩
        rw [c1, show (v : Int).toNat = v from rfl]
        rw [List.getElem?_append_right (by omega), hl, Nat.sub_self]; rfl
  · rcases mem _ _ _ _ hi e with ⟨c, e⟩ | ⟨rfl, rfl⟩
    · exact oki (h.opnd i z e) (by omega)
    · exact oki hy (by omega)
  · rcases mem _ _ _ _ hi e with ⟨c, e⟩ | ⟨rfl, rfl⟩
    · refine (left_append fun o ho => ?_).2 (h.left i z e ((old c).1 e2))
      have := h.opnd i z e o ho
      exact ⟨this.1, by omega⟩
    · rcases mem _ _ _ _ hl e2 with ⟨c, _⟩ | ⟨_, e3⟩
      · omega
      · refine (left_append fun o ho => ?_).2 (hyl (by omega))
        have := hy o ho
        exact ⟨this.1, by omega⟩
/-- the places so far -/
theorem fold_take {E : FoldE} {l : List TIns} {j : Nat} {x : TIns} (hx : l[j]? = some x) (s : FoldS) : foldRun E (l.take (j + 1)) s = foldStep E (foldRun E (l.take j) s) x := by
  obtain ⟨h1, h2⟩ := List.getElem?_eq_some_iff.1 hx
  unfold foldRun
  rw [List.take_succ_eq_append_getElem h1, h2, List.foldl_append]; rfl
theorem fold_at (E : FoldE) {l : List TIns} (ha : AskOk l) : ∀ j, j ≤ l.length → FoldI E l j (foldRun E (l.take j) ⟨[], []⟩)
  | 0, _ => by
    rw [List.take_zero]
    exact ⟨rfl, rfl, fun v u e => by simp [foldRun] at e, fun i x e => by simp [foldRun] at e, fun i x e => by simp [foldRun] at e⟩
  | j + 1, h => by
    have hx : l[j]? = some (l[j]'(by omega)) := List.getElem?_eq_getElem (by omega)
    rw [fold_take hx]
    exact fold_step (fold_at E ha j (by omega)) ha hx
theorem fold_to (E : FoldE) {l : List TIns} (ha : AskOk l) : FoldI E l l.length (foldRun E l ⟨[], []⟩) := by
  have := fold_at E ha l.length (Nat.le_refl _)
  rwa [List.take_length] at this
theorem check_asks {rightV : Val → Bool} {ce : Int} {fns : List FnM} {t : TTrace} (h : checkM rightV ce fns t = 0) : AskOk t.ins := fun k x hx v hv => by
  have := checkM_ahead h hx v hv
  exact ⟨this.1, this.2.1, this.2.2.2⟩

/-- what ir.Cut makes of operands -/
structure PutTo (l : List TIns) (m : List Int) (j : Nat) (S : CutS) (ks : List Nat) : Prop where
  at_ : S.at_.length = j
  len : ks.length = S.ins.length
  place : ∀ (p i : Nat), ks[p]? = some i → i < j ∧ m[i]? = some (i : Int) ∧ S.at_[i]? = some (p : Int)
  back : ∀ (i : Nat), i < j → m[i]? = some (i : Int) → ∃ p : Nat, ks[p]? = some i
  put : ∀ (p i : Nat), ks[p]? = some i → ∃ x : TIns, l[i]? = some x ∧ S.ins[p]? = some (putM (oneM (S.at_.take (i + 1))) x) ∧ (S.fine = true → (asksM x).all (fineM (S.at_.take (i + 1))) = true)
theorem put_step {loop0 : Int} {l : List TIns} {m : List Int} {j : Nat} {S S' : CutS} {ks : List Nat} (h : PutTo l m j S ks) {x : TIns} {n : Int} (hx : l[j]? = some x) (hm : m[j]? = some n) (e : cutStep loop0 S x n = some S') :
    ∃ ks', PutTo l m (j + 1) S' ks' := by
  have ha := h.at_
  have hl := h.len
  have drop : n ≠ j → ∀ a, S'.at_ = S.at_ ++ [a] → S'.ins = S.ins → S'.fine = S.fine → PutTo l m (j + 1) S' ks := fun hn a e1 e2 e3 => by
    refine ⟨by rw [e1]; simp [ha], by rw [e2]; exact hl, fun p i hp => ?_, fun i hi hmi => ?_, fun p i hp => ?_⟩
    · obtain ⟨c1, c2, c3⟩ := h.place p i hp
      exact ⟨by omega, c2, by rw [e1, List.getElem?_append_left (by omega)]; exact c3⟩
    · rcases Nat.lt_or_ge i j with c | c
      · exact h.back i c hmi
      · obtain rfl : i = j := by omega
        rw [hm] at hmi; injection hmi with hmi; exact (hn hmi).elim
    · obtain ⟨c1, c2, c3⟩ := h.place p i hp
      obtain ⟨x, d1, d2, d3⟩ := h.put p i hp
      have et : S'.at_.take (i + 1) = S.at_.take (i + 1) := by rw [e1, List.take_append_of_le_length (by omega)]
      exact ⟨x, d1, by rw [e2, et]; exact d2, by rw [e3, et]; exact d3⟩
  unfold cutStep at e
  dsimp only at e
  rw [ha] at e
  split at e
  · rename_i c
    subst c
    injection e with e; subst e
    refine ⟨ks ++ [j], by simp [ha], by simp [hl], fun p i hp => ?_, fun i hi hmi => ?_, fun p i hp => ?_⟩ <;> (try dsimp only)
    · rcases Nat.lt_or_ge p ks.length with c | c
      · rw [List.getElem?_append_left c] at hp
        obtain ⟨c1, c2, c3⟩ := h.place p i hp
        exact ⟨by omega, c2, by rw [List.getElem?_append_left (by omega)]; exact c3⟩
      · have := (List.getElem?_eq_some_iff.1 hp).1
        simp only [List.length_append, List.length_cons, List.length_nil] at this
        obtain rfl : p = ks.length := by omega
        rw [List.getElem?_append_right (by omega), Nat.sub_self] at hp
        simp at hp; subst hp
        exact ⟨by omega, hm, by rw [List.getElem?_append_right (by omega), ha, Nat.sub_self, hl]; rfl⟩
    · rcases Nat.lt_or_ge i j with c | c
      · obtain ⟨p, hp⟩ := h.back i c hmi
        exact ⟨p, by rw [List.getElem?_append_left (List.getElem?_eq_some_iff.1 hp).1]; exact hp⟩
      · obtain rfl : i = j := by omega
        exact ⟨ks.length, by rw [List.getElem?_append_right (by omega), Nat.sub_self]; rfl⟩
    · rcases Nat.lt_or_ge p ks.length with c | c
      · rw [List.getElem?_append_left c] at hp
        obtain ⟨c1, c2, c3⟩ := h.place p i hp
        obtain ⟨x, d1, d2, d3⟩ := h.put p i hp
        refine ⟨x, d1, ?_, fun hf => ?_⟩
        · rw [List.getElem?_append_left (by omega), List.take_append_of_le_length (by omega)]; exact d2
        · rw [List.take_append_of_le_length (by omega)]
          exact d3 (by rw [Bool.and_eq_true] at hf; exact hf.1)
      · have := (List.getElem?_eq_some_iff.1 hp).1
        simp only [List.length_append, List.length_cons, List.length_nil] at this
        obtain rfl : p = ks.length := by omega
        rw [List.getElem?_append_right (by omega), Nat.sub_self] at hp
        simp at hp; subst hp
        have et : (S.at_ ++ [(S.ins.length : Int)]).take (j + 1) = S.at_ ++ [(S.ins.length : Int)] := List.take_of_length_le (by simp [ha])
        rw [et]
        refine ⟨x, hx, ?_, fun hf => ?_⟩
        · rw [List.getElem?_append_right (by omega), hl, Nat.sub_self]; rfl
        · rw [Bool.and_eq_true] at hf; exact hf.2
  rename_i c
  split at e
  · injection e with e; subst e
    exact ⟨ks, drop c _ rfl rfl rfl⟩
  split at e
  · injection e with e; subst e
    exact ⟨ks, drop c _ rfl rfl rfl⟩
  · cases e
theorem put_run {loop0 : Int} {l : List TIns} {m : List Int} (hl : m.length = l.length) : ∀ (k j : Nat) (S S' : CutS) (ks : List Nat), j + k = l.length → PutTo l m j S ks → cutRun loop0 (l.drop j) (m.drop j) S = some S' → ∃ ks', PutTo l m l.length S' ks'
  | 0, j, S, S', ks, hk, h, e => by
    obtain rfl : j = l.length := by omega
    rw [List.drop_length] at e
    simp only [cutRun, Option.some.injEq] at e
    subst e
    exact ⟨ks, h⟩
  | k + 1, j, S, S', ks, hk, h, e => by
    have hj : j < l.length := by omega
    have hx : l[j]? = some l[j] := List.getElem?_eq_getElem hj
    have hm : m[j]? = some (m[j]'(by omega)) := List.getElem?_eq_getElem (by omega)
    rw [List.drop_eq_getElem_cons hj, List.drop_eq_getElem_cons (l := m) (i := j) (by omega)] at e
    simp only [cutRun] at e
    split at e
    · cases e
    rename_i S1 e1
    obtain ⟨ks1, h1⟩ := put_step h hx hm e1
    exact put_run hl k (j + 1) S1 S' ks1 (by omega) h1 e
/-- where it is done, all is fine -/
theorem cutM_put {t : TTrace} {tl : List Int} (h : (cutM t tl).2 = 0) : ∃ S ks, PutTo t.ins tl t.ins.length S ks ∧ S.fine = true ∧ (cutM t tl).1 = cutEnd t S := by
  unfold cutM at h ⊢
  split at h
  · cases h
  rename_i hl
  have hl' := Classical.not_not.1 hl
  rw [if_neg hl]
  split at h
  · cases h
  rename_i S e
  split at h
  case isFalse => cases h
  rename_i c
  obtain ⟨ks, hk⟩ := put_run hl' t.ins.length 0 _ S [] (by omega) ⟨rfl, rfl, fun p i hp => by simp at hp, fun i hi => by omega, fun p i hp => by simp at hp⟩ e
  have c' := c
  simp only [Bool.and_eq_true] at c'
  exact ⟨S, ks, hk, c'.1.1.1, by rw [if_pos c]⟩
theorem none_of {E : FoldE} {l : List TIns} {s : FoldS} {n : Nat} (hI : FoldI E l n s) {t : TTrace} (ht : t.ins = s.ins) (h : (cutM t s.tl).2 = 0) {p : Nat} {y : TIns} (hy : (cutM t s.tl).1.ins[p]? = some y) :
    (∀ o ∈ asksM y, 0 ≤ o ∧ o < (cutM t s.tl).1.ins.length) ∧ Left E (cutM t s.tl).1.ins y := by
  obtain ⟨S, ks, hK, hf, e⟩ := cutM_put h
  rw [e] at hy ⊢
  rw [ht] at hK
  change S.ins[p]? = some y at hy
  show (∀ o ∈ asksM y, 0 ≤ o ∧ o < (S.ins.length : Int)) ∧ Left E S.ins y
  have hpl := (List.getElem?_eq_some_iff.1 hy).1
  have hl := hK.len
  obtain ⟨i, hi⟩ : ∃ i, ks[p]? = some i := ⟨_, List.getElem?_eq_getElem (by omega)⟩
  obtain ⟨b1, b2, b3⟩ := hK.place p i hi
  obtain ⟨x, d1, d2, d3⟩ := hK.put p i hi
  rw [hy] at d2
  injection d2 with d2
  have ho := hI.opnd i x d1
  have hL := hI.left i x d1 b2
  have key : ∀ v ∈ asksM x, ∃ q : Nat, oneM (S.at_.take (i + 1)) v = q ∧ q < S.ins.length ∧ (insF S.ins q).op = (insF s.ins v).op ∧ (insF S.ins q).k = (insF s.ins v).k := fun v hv => by
    obtain ⟨c1, c2, c3⟩ := ho v hv
    obtain ⟨q, hq⟩ := hK.back v.toNat (by omega) (by rw [show ((v.toNat : Nat) : Int) = v by omega]; exact c3)
    obtain ⟨-, -, g⟩ := hK.place q _ hq
    obtain ⟨z, z1, z2, -⟩ := hK.put q _ hq
    refine ⟨q, ?_, by rw [← hl]; exact (List.getElem?_eq_some_iff.1 hq).1, ?_, ?_⟩
    · unfold oneM
      rw [if_neg (by omega), List.getElem?_take, if_pos (by omega), g]
      dsimp only
      rw [if_neg (by omega)]
    · unfold insF; rw [show (q : Int).toNat = q from rfl, z2, z1]; rfl
    · unfold insF; rw [show (q : Int).toNat = q from rfl, z2, z1]; rfl
  obtain ⟨f7, f8, f4, f5, f6, -⟩ := asks_form (x := x)
  have ka : (x.op = 7 ∨ x.op = 8 ∨ x.op = 4 ∨ x.op = 6) → (insF S.ins y.a).op = (insF s.ins x.a).op ∧ (insF S.ins y.a).k = (insF s.ins x.a).k := fun c => by
    have h0 : 0 < (formM x.op).asks := asks_pos c
    obtain ⟨q, q1, -, q3, q4⟩ := key _ (asks_one h0)
    have : y.a = q := by rw [d2, ← q1]; unfold putM; dsimp only; rw [if_pos h0]
    rw [this]; exact ⟨q3, q4⟩
  have kb : x.op = 7 → (insF S.ins y.b).op = (insF s.ins x.b).op ∧ (insF S.ins y.b).k = (insF s.ins x.b).k := fun c => by
    have h0 : 1 < (formM x.op).asks := by rw [f7 c]; decide
    obtain ⟨q, q1, -, q3, q4⟩ := key _ (asks_two h0)
    have : y.b = q := by rw [d2, ← q1]; unfold putM; dsimp only; rw [if_pos h0]
    rw [this]; exact ⟨q3, q4⟩
  have eop : y.op = x.op := by rw [d2]; rfl
  have en : y.n = x.n := by rw [d2]; rfl
  have ek : y.k = x.k := by rw [d2]; rfl
  refine ⟨fun o hoy => ?_, ⟨fun c => ?_, fun c => ?_, fun c => ?_, fun c => ?_⟩⟩
  · rw [d2] at hoy
    obtain ⟨v, hv, rfl⟩ := asks_put hoy
    obtain ⟨q, q1, q2, -⟩ := key v hv
    rw [q1]; omega
  · rw [(ka (by omega)).1, (ka (by omega)).2, en]; exact hL.un (by omega)
  · rw [(ka (by omega)).1, (ka (by omega)).2, (kb (by omega)).1, (kb (by omega)).2, en]; exact hL.bin (by omega)
  · rw [(ka (by omega)).1, (ka (by omega)).2, en]; exact hL.is_ (by omega)
  · rw [(ka (by omega)).1, (ka (by omega)).2, ek]; exact hL.same (by omega)
/-- FOLDED, THERE IS NOTHING LEFT TO RECKON AHEAD; each value that is asked is there. -/
theorem fold_none {E : FoldE} {t : TTrace} (ha : AskOk t.ins) (h : (cutM (foldT E t) (foldRun E t.ins ⟨[], []⟩).tl).2 = 0) {p : Nat} {y : TIns} (hy : (cutM (foldT E t) (foldRun E t.ins ⟨[], []⟩).tl).1.ins[p]? = some y) :
    (∀ o ∈ asksM y, 0 ≤ o ∧ o < (cutM (foldT E t) (foldRun E t.ins ⟨[], []⟩).tl).1.ins.length) ∧ Left E (cutM (foldT E t) (foldRun E t.ins ⟨[], []⟩).tl).1.ins y :=
  none_of (fold_to E ha) rfl h hy
end Go.Proofs.YtmccomeihnaanaaDoor
