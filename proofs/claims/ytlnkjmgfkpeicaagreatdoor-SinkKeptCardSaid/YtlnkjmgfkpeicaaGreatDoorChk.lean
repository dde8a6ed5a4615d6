/- ir.Check as a plain function of the trace, of what code.Check said, and of the function's registers and orders. No program. -/
import Derived.Test.YtlnkjmgfkpeicaaGreatDoorIrM
namespace Go.Proofs.YtlnkjmgfkpeicaaGreatDoor

structure FnM where
  regs : Int
  len : Int

def opOf (ins : List TIns) (v : Int) : Int := ((ins[v.toNat]?).map (·.op)).getD 0
def valueM (ins : List TIns) (v at_ : Int) : Bool := decide (0 ≤ v) && decide (v < at_) && decide (v < ins.length) && tellsM (opOf ins v)
def valuesM (ins : List TIns) (l : List Int) (at_ : Int) : Bool := l.all (valueM ins · at_)
def makeM (ins : List TIns) (m : TMake) (at_ : Int) : Bool :=
  valueM ins m.cell at_ && opOf ins m.cell == 18 && !(decide (m.kind < 1) || decide (3 < m.kind) || decide (m.num < 0) || (decide (0 < m.num) && m.kind != 1)) &&
  decide (m.vals.length ≤ 100) && valuesM ins m.vals at_
def setsM (regs : Int) (ins : List TIns) (at_ : Int) : Int → List TSet → Bool
  | _, [] => true
  | last, s :: l => decide (last < s.reg) && decide (s.reg < regs) && valueM ins s.val at_ && setsM regs ins at_ s.reg l
def makesM (ins : List TIns) (at_ : Int) : Int → List TMake → Bool
  | _, [] => true
  | last, m :: l => decide (last < m.cell) && makeM ins m at_ && makesM ins at_ m.cell l
def rightM (fn : FnM) (ins : List TIns) (x : TExit) (at_ : Int) : Bool :=
  !(decide (x.at_ < 0) || decide (fn.len ≤ x.at_) || decide (x.steps < 0) || decide (200 < x.steps)) && setsM fn.regs ins at_ (-1) x.sets && makesM ins at_ (-1) x.makes
/-- is a place that is no value as it should be? -/
def shapedM (x : TIns) (k : Nat) (v : Int) : Bool :=
  if k == 1 && (x.op == 19 || (x.op == 9 && x.n == 1)) then decide (0 ≤ v) else v == -1
def shapesM (x : TIns) (f : Form) : Bool :=
  (decide (0 < f.asks) || shapedM x 0 x.a) && (decide (1 < f.asks) || shapedM x 1 x.b) && (decide (2 < f.asks) || shapedM x 2 x.c)
def formedM (rightV : Val → Bool) (fn : FnM) (t : TTrace) (x : TIns) (at_ : Int) : Bool :=
  let f := formM x.op
  valuesM t.ins (asksM x) at_ && shapesM x f &&
  !(decide (x.n < f.low) || decide (f.high < x.n) || (x.op == 1 && decide (fn.regs ≤ x.n))) &&
  !((!f.k && x.k != ⟨0, 0⟩) || (f.k && !rightV x.k) || (x.op == 2 && x.k.kind == 5)) &&
  (if f.exit == 0 || (f.exit == 1 && x.exit == -1) then x.exit == -1
   else decide (0 ≤ x.exit) && decide (x.exit < t.exits.length) && (t.exits[x.exit.toNat]?).any (rightM fn t.ins · at_))
def insM (rightV : Val → Bool) (fn : FnM) (t : TTrace) : Nat → List TIns → Int
  | _, [] => 0
  | i, x :: l => if !isOp x.op then 7 else if !formedM rightV fn t x i then 3 else insM rightV fn t (i + 1) l
def bareM (x : TExit) : Bool := x.at_ == 0 && x.steps == 0 && x.sets.isEmpty && x.makes.isEmpty
/-- ce: what code.Check said; fns: the program's functions -/
def checkM (rightV : Val → Bool) (ce : Int) (fns : List FnM) (t : TTrace) : Int :=
  if ce ≠ 0 then ce else
  if 300 < t.ins.length ∨ 200 < t.exits.length then 2 else
  match if t.fn < 0 then none else fns[t.fn.toNat]? with
  | none => 3
  | some fn =>
    if t.at_ < 0 ∨ fn.len ≤ t.at_ ∨ t.loop < 0 ∨ (t.ins.length : Int) < t.loop then 3 else
    let e := insM rightV fn t 0 t.ins
    if e ≠ 0 then e else
    if (t.loop = 0 ∧ bareM t.turn = false) ∨ (0 < t.loop ∧ (t.turn.at_ ≠ t.at_ ∨ rightM fn t.ins t.turn t.loop = false)) then 3 else
    if t.back.at_ ≠ t.at_ ∨ rightM fn t.ins t.back t.ins.length = false then 3 else
    if t.exits.all (rightM fn t.ins · t.ins.length) then 0 else 3

theorem insM_formed {rightV : Val → Bool} {fn : FnM} {t : TTrace} : ∀ (l : List TIns) (i : Nat), insM rightV fn t i l = 0 → ∀ k x, l[k]? = some x → isOp x.op = true ∧ formedM rightV fn t x ((i + k : Nat) : Int) = true
  | [], _, _, _, _, hx => by simp at hx
  | y :: l, i, h, k, x, hx => by
    unfold insM at h
    split at h
    · cases h
    split at h
    · cases h
    rename_i h1 h2
    cases k with
    | zero =>
      simp only [List.getElem?_cons_zero, Option.some.injEq] at hx
      subst hx
      exact ⟨by simpa using h1, by simpa using h2⟩
    | succ k =>
      have := insM_formed l (i + 1) h k x (by simpa using hx)
      rwa [show i + 1 + k = i + (k + 1) by omega] at this

theorem checkM_ins {rightV : Val → Bool} {ce : Int} {fns : List FnM} {t : TTrace} (h : checkM rightV ce fns t = 0) :
    t.ins.length ≤ 300 ∧ ∃ fn, insM rightV fn t 0 t.ins = 0 := by
  unfold checkM at h
  split at h
  · omega
  split at h
  · cases h
  split at h
  · cases h
  split at h
  · cases h
  rename_i fn _ _
  simp only at h
  split at h
  · rename_i h1
    exact (h1 h).elim
  · rename_i h1
    exact ⟨by omega, fn, by simpa using h1⟩

/-- EACH VALUE THAT IS ASKED STANDS AHEAD OF ITS ASKER, AND TELLS. -/
theorem checkM_ahead {rightV : Val → Bool} {ce : Int} {fns : List FnM} {t : TTrace} (h : checkM rightV ce fns t = 0) {i : Nat} {x : TIns} (hx : t.ins[i]? = some x) :
    ∀ v ∈ asksM x, 0 ≤ v ∧ v < i ∧ v < t.ins.length ∧ tellsM (opOf t.ins v) = true := by
  obtain ⟨_, fn, h1⟩ := checkM_ins h
  obtain ⟨_, h2⟩ := insM_formed t.ins 0 h1 i x hx
  simp only [formedM, Bool.and_eq_true, Nat.zero_add] at h2
  intro v hv
  have h3 := h2.1.1.1.1
  unfold valuesM at h3
  have h4 := List.all_eq_true.1 h3 v hv
  simp only [valueM, Bool.and_eq_true, decide_eq_true_eq] at h4
  exact ⟨h4.1.1.1, h4.1.1.2, h4.1.2, h4.2⟩
end Go.Proofs.YtlnkjmgfkpeicaaGreatDoor
