/- Programs (package code), as plain Lean: what code.Check reckons. No program of the seat's. -/
import Derived.Test.YtmccomeihnaanaaDoorIrM
namespace Go.Proofs.YtmccomeihnaanaaDoor

structure CIns where
  op : Int
  a : Int
  b : Int
  c : Int
  line : Int
deriving DecidableEq
structure CFn where
  params : Int
  regs : Int
  gen : Bool
  caught : List Int
  code : List CIns
deriving DecidableEq
structure CProg where
  fns : List CFn
  consts : List Val
  texts : List ByteArray
structure CTry where
  reg : Int
  at_ : Int
deriving DecidableEq

def withinM (n lo hi : Int) : Bool := decide (lo ≤ n) && decide (n ≤ hi)
theorem withinM_iff {n lo hi : Int} : withinM n lo hi = true ↔ lo ≤ n ∧ n ≤ hi := by simp [withinM]

def forms : List (List UInt8) := [[], [114, 107, 45], [114, 114, 45], [114, 114, 114], [114, 114, 114], [114, 114, 114], [114, 114, 114], [114, 114, 114], [114, 114, 114], [114, 114, 114], [114, 114, 114], [114, 114, 45], [114, 114, 45], [97, 45, 45], [97, 45, 45], [114, 97, 45], [114, 45, 45], [114, 114, 116], [114, 116, 114], [114, 108, 110], [114, 114, 114], [114, 114, 114], [114, 45, 45], [114, 114, 45], [114, 114, 45], [114, 117, 45], [114, 102, 45], [114, 99, 110], [114, 45, 45], [114, 45, 45], [114, 97, 45], [45, 45, 45], [114, 114, 45], [114, 45, 45], [114, 45, 45], [114, 114, 45], [114, 114, 45], [114, 45, 45], [114, 45, 45]]
def formS (op : Int) : List UInt8 := if op < 1 ∨ 39 ≤ op then [] else forms.getD op.toNat []
theorem formS_three (op : Int) : formS op = [] ∨ ∃ x y z, formS op = [x, y, z] := by
  unfold formS
  split
  · exact .inl rfl
  · rename_i h
    have hn : op.toNat < 39 := by omega
    have : ∀ n : Nat, n < 39 → forms.getD n [] = [] ∨ ∃ x y z, forms.getD n [] = [x, y, z] := by
      intro n hn
      have h2 : ∀ l ∈ forms, l = [] ∨ ∃ x y z, l = [x, y, z] := by
        unfold forms
        intro l hl
        simp only [List.mem_cons, List.not_mem_nil, or_false] at hl
        repeat (rcases hl with rfl | hl; first | exact .inl rfl | exact .inr ⟨_, _, _, rfl⟩)
      have hl : n < forms.length := hn
      rw [List.getD_eq_getElem?_getD, List.getElem?_eq_getElem hl]
      exact h2 _ (List.getElem_mem hl)
    exact this _ hn
def regM (f : CFn) (n : Int) : Bool := withinM n 0 (f.regs - 1)
def namesM (p : CProg) (f : CFn) (c : UInt8) (n : Int) : Bool :=
  if c = 114 then regM f n
  else if c = 107 then withinM n 0 ((p.consts.length : Int) - 1)
  else if c = 116 then withinM n 0 ((p.texts.length : Int) - 1)
  else if c = 97 then withinM n 0 ((f.code.length : Int) - 1)
  else if c = 117 then withinM n 0 ((f.caught.length : Int) - 1)
  else if c = 102 then withinM n 1 ((p.fns.length : Int) - 1)
  else if c = 108 ∨ c = 99 ∨ c = 110 then withinM n 0 f.regs
  else n == 0
def caughtM (f g : CFn) : Bool := !(g.caught.any fun c => !regM f c && !withinM c (-(f.caught.length : Int)) (-1))
def namedM (p : CProg) (f : CFn) (i : CIns) : Bool :=
  match formS i.op with
  | [x, y, z] => withinM i.line 0 2000 && namesM p f x i.a && namesM p f y i.b && namesM p f z i.c
  | _ => false
def orderM (p : CProg) (f : CFn) (at_ : Int) (i : CIns) : Bool :=
  namedM p f i &&
  (if i.op = 14 then decide (i.a ≤ at_)
   else if i.op = 19 then decide (i.b + i.c ≤ f.regs)
   else if i.op = 27 then regM f (i.b + i.c)
   else if i.op = 26 then (match p.fns[i.b.toNat]? with | some g => caughtM f g | none => false)
   else if i.op = 32 then f.gen
   else true)
end Go.Proofs.YtmccomeihnaanaaDoor
