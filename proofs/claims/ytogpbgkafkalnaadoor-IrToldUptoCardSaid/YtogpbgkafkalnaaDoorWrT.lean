/- The letters that a trace's writer writes, in the order of writing. No program. -/
import Derived.Test.YtogpbgkafkalnaaDoorTold
namespace Go.Proofs.YtogpbgkafkalnaaDoor
open Go.Lib

def numsFrom : Nat → List Int → List UInt8
  | _, [] => []
  | i, x :: r => (if i = 0 then [] else [32]) ++ itoa x ++ numsFrom (i + 1) r
theorem numsFrom_snoc (x : Int) : ∀ (xs : List Int) (i : Nat), numsFrom i (xs ++ [x]) = numsFrom i xs ++ (if i + xs.length = 0 then [] else [32]) ++ itoa x
  | [], i => by simp [numsFrom]
  | y :: r, i => by
    simp only [List.cons_append, numsFrom, numsFrom_snoc x r (i + 1), List.length_cons]
    have e : (i + 1 + r.length = 0) = (i + (r.length + 1) = 0) := by simp
    simp only [e, List.append_assoc]
theorem numsFrom_step {xs : List Int} {k : Nat} {x : Int} (h : xs[k]? = some x) : numsFrom 0 (xs.take (k + 1)) = numsFrom 0 (xs.take k) ++ (if k = 0 then [] else [32]) ++ itoa x := by
  have hl : k < xs.length := (List.getElem?_eq_some_iff.1 h).1
  rw [List.take_add_one, h, Option.toList_some, numsFrom_snoc, List.length_take, Nat.min_eq_left (by omega), Nat.zero_add]
def setP (s : TSet) : List UInt8 := [32, 114] ++ itoa s.reg ++ [61] ++ itoa s.val
def valP (v : Int) : List UInt8 := [44] ++ itoa v
def headP (m : TMake) : List UInt8 := [32, 109] ++ itoa m.cell ++ [58] ++ itoa m.kind ++ [58] ++ itoa m.num
def makeP (m : TMake) : List UInt8 := headP m ++ m.vals.flatMap valP
def exitP (x : TExit) : List UInt8 := numsFrom 0 [x.at_, x.steps] ++ x.sets.flatMap setP ++ x.makes.flatMap makeP ++ [10]
def insP (x : TIns) : List UInt8 := numsFrom 0 [x.op, x.a, x.b, x.c, x.n, x.exit, x.k.kind, x.k.n] ++ [10]
def traceP (t : TTrace) : List UInt8 :=
  [116, 114, 97, 99, 101, 32] ++ numsFrom 0 [t.fn, t.at_, t.loop] ++ [10] ++ t.ins.flatMap insP ++ t.exits.flatMap (fun x => [101, 120, 105, 116, 32] ++ exitP x) ++ ([116, 117, 114, 110, 32] ++ exitP t.turn) ++ ([98, 97, 99, 107, 32] ++ exitP t.back)

theorem foldr_flat {α : Type} {f : α → List UInt8 → List UInt8} {g : α → List UInt8} (h : ∀ x k, f x k = g x ++ k) : ∀ (L : List α) (k : List UInt8), L.foldr f k = L.flatMap g ++ k
  | [], k => by simp
  | x :: L, k => by simp [h, foldr_flat h L k]
theorem valT_eq (v : Int) (k : List UInt8) : valT v k = valP v ++ k := by simp [valT, valP]
theorem setT_eq (s : TSet) (k : List UInt8) : setT s k = setP s ++ k := by simp [setT, setP]
theorem makeT_eq (m : TMake) (k : List UInt8) : makeT m k = makeP m ++ k := by simp [makeT, makeP, headP, foldr_flat valT_eq]
theorem exitT_eq (x : TExit) (k : List UInt8) : exitT x k = exitP x ++ k := by simp [exitT, exitP, foldr_flat setT_eq, foldr_flat makeT_eq, numsFrom]
theorem insT_eq (x : TIns) (k : List UInt8) : insT x k = insP x ++ k := by simp [insT, insP, numsFrom]
theorem exitL_eq (x : TExit) (k : List UInt8) : exitL x k = ([101, 120, 105, 116, 32] ++ exitP x) ++ k := by simp [exitL, exitT_eq]
theorem traceT_eq (t : TTrace) : traceT t = traceP t := by
  simp [traceT, traceP, exitT_eq, foldr_flat insT_eq, foldr_flat exitL_eq, numsFrom]
theorem flat_step {α : Type} {f : α → List UInt8} {xs : List α} {k : Nat} {x : α} (h : xs[k]? = some x) : (xs.take (k + 1)).flatMap f = (xs.take k).flatMap f ++ f x := by
  rw [List.take_add_one, h]; simp
theorem flat_le {α : Type} {f : α → List UInt8} (xs : List α) (k : Nat) : ((xs.take k).flatMap f).length ≤ (xs.flatMap f).length := by
  have h : (xs.flatMap f).length = ((xs.take k).flatMap f).length + ((xs.drop k).flatMap f).length := by
    rw [← List.length_append, ← List.flatMap_append, List.take_append_drop]
  omega
theorem flat_all {α : Type} {f : α → List UInt8} (xs : List α) {k : Nat} (h : xs.length ≤ k) : (xs.take k).flatMap f = xs.flatMap f := by rw [List.take_of_length_le h]
theorem nums_le (xs : List Int) (k : Nat) : (numsFrom 0 (xs.take k)).length ≤ (numsFrom 0 xs).length := by
  have h : ∀ (a b : List Int) (i : Nat), (numsFrom i a).length ≤ (numsFrom i (a ++ b)).length := by
    intro a
    induction a with
    | nil => simp [numsFrom]
    | cons x r ih => intro b i; have := ih b (i + 1); simp [numsFrom]; omega
  conv => rhs; rw [← List.take_append_drop k xs]
  exact h _ _ _
end Go.Proofs.YtogpbgkafkalnaaDoor
