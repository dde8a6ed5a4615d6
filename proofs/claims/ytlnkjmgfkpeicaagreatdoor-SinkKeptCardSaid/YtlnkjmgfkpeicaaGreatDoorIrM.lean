/- Traces: plain laws on what an operation has. No program. -/
namespace Go.Proofs.YtlnkjmgfkpeicaaGreatDoor

/-- what an operation has -/
structure Form where
  asks : Int
  low : Int
  high : Int
  k : Bool
  tells : Bool
  exit : Int
deriving DecidableEq

def formM (op : Int) : Form :=
  if op = 1 then ⟨0, 0, 1073741824, false, true, 0⟩
  else if op = 2 then ⟨0, 0, 0, true, true, 0⟩
  else if op = 3 then ⟨0, 0, 0, false, true, 0⟩
  else if op = 4 then ⟨1, 0, 6, false, false, 2⟩
  else if op = 5 then ⟨1, 0, 1, false, false, 2⟩
  else if op = 6 then ⟨1, 0, 0, true, false, 2⟩
  else if op = 7 then ⟨2, 3, 10, false, true, 1⟩
  else if op = 8 then ⟨1, 11, 12, false, true, 1⟩
  else if op = 9 then ⟨1, 1, 7, false, false, 2⟩
  else if op = 10 then ⟨1, 0, 99, false, true, 0⟩
  else if op = 11 then ⟨2, 0, 99, false, false, 0⟩
  else if op = 12 then ⟨2, 1, 1073741824, false, false, 2⟩
  else if op = 13 then ⟨2, 0, 0, false, true, 2⟩
  else if op = 14 then ⟨3, 0, 0, false, false, 2⟩
  else if op = 15 then ⟨1, 0, 0, false, true, 0⟩
  else if op = 16 then ⟨0, 1, 3, false, true, 2⟩
  else if op = 17 then ⟨2, 0, 0, false, false, 1⟩
  else if op = 18 then ⟨0, 0, 0, false, true, 2⟩
  else if op = 19 then ⟨0, 1, 1073741824, false, false, 2⟩
  else ⟨0, 0, 0, false, false, 0⟩
def isOp (op : Int) : Bool := decide (1 ≤ op ∧ op ≤ 19)
theorem formM_else (op : Int) (h : ¬ (op = 1 ∨ op = 2 ∨ op = 3 ∨ op = 4 ∨ op = 5 ∨ op = 6 ∨ op = 7 ∨ op = 8 ∨ op = 9 ∨ op = 10 ∨ op = 11 ∨ op = 12 ∨ op = 13 ∨ op = 14 ∨ op = 15 ∨ op = 16 ∨ op = 17 ∨ op = 18 ∨ op = 19)) : formM op = ⟨0, 0, 0, false, false, 0⟩ := by
  unfold formM
  repeat (rw [if_neg (by omega)])
theorem isOp_else (op : Int) (h : ¬ (op = 1 ∨ op = 2 ∨ op = 3 ∨ op = 4 ∨ op = 5 ∨ op = 6 ∨ op = 7 ∨ op = 8 ∨ op = 9 ∨ op = 10 ∨ op = 11 ∨ op = 12 ∨ op = 13 ∨ op = 14 ∨ op = 15 ∨ op = 16 ∨ op = 17 ∨ op = 18 ∨ op = 19)) : isOp op = false := by
  simp only [isOp, decide_eq_false_iff_not]; omega
def tellsM (op : Int) : Bool := (formM op).tells
theorem isOp_cases {op : Int} (h : isOp op = true) : op = 1 ∨ op = 2 ∨ op = 3 ∨ op = 4 ∨ op = 5 ∨ op = 6 ∨ op = 7 ∨ op = 8 ∨ op = 9 ∨ op = 10 ∨ op = 11 ∨ op = 12 ∨ op = 13 ∨ op = 14 ∨ op = 15 ∨ op = 16 ∨ op = 17 ∨ op = 18 ∨ op = 19 := by
  simp only [isOp, decide_eq_true_eq] at h; omega

structure Val where
  kind : Int
  n : Int
deriving DecidableEq
structure TIns where
  op : Int
  a : Int
  b : Int
  c : Int
  n : Int
  exit : Int
  k : Val
deriving DecidableEq
structure TSet where
  reg : Int
  val : Int
deriving DecidableEq
structure TMake where
  cell : Int
  kind : Int
  num : Int
  vals : List Int
deriving DecidableEq
structure TExit where
  at_ : Int
  steps : Int
  sets : List TSet
  makes : List TMake
deriving DecidableEq
structure TTrace where
  fn : Int
  at_ : Int
  loop : Int
  ins : List TIns
  exits : List TExit
  turn : TExit
  back : TExit
deriving DecidableEq

/-- the values that an instruction asks -/
def asksM (x : TIns) : List Int := [x.a, x.b, x.c].take (formM x.op).asks.toNat
def opAt (t : TTrace) (v : Int) : Int := if 0 ≤ v then ((t.ins[v.toNat]?).map (·.op)).getD 0 else 0

/-- alias: are two values no references to one cell? -/
def freshM (op : Int) : Bool := op == 16 || op == 18
def beforeM (op : Int) : Bool := op == 1 || op == 2 || op == 3
def apartM (ins : List TIns) (loop a0 b0 : Int) : Bool :=
  let a := min a0 b0
  let b := max a0 b0
  if a < 0 || (ins.length : Int) ≤ b || a == b then false else
  let x := ((ins[a.toNat]?).map (·.op)).getD 0
  let y := ((ins[b.toNat]?).map (·.op)).getD 0
  if !tellsM x || !tellsM y then false else
  if a < loop && loop ≤ b then freshM x && freshM y else freshM y || (freshM x && beforeM y)
theorem apartM_symm (ins : List TIns) (loop a b : Int) : apartM ins loop a b = apartM ins loop b a := by
  unfold apartM
  rw [Int.min_comm, Int.max_comm]
theorem apartM_self (ins : List TIns) (loop a : Int) : apartM ins loop a a = false := by
  simp [apartM]
end Go.Proofs.YtlnkjmgfkpeicaaGreatDoor
