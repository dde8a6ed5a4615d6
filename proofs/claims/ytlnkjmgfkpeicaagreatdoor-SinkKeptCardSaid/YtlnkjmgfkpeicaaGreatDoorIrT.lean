/- Programs (package code), as plain Lean: what code.Check reckons. No program of the seat's. Package ir, its plainest functions: what an operation has, Tells, Asks; and the closed fact of the laws. Slices and structs in memory, as lists and structures. A region that draws its order, whose operations only read, and whose calls leave all that was there as it was (they may make memory): one walk. Package ir: Tells, Asks; Eq of two lists of ints; the closed fact of the laws. Small laws on memory: what is kept over calls; two boxed arguments. slices.IndexFunc, slices.ContainsFunc at a closure that has a contract. Package ir: Asks; the closed fact of the laws. The closed fact 'irred' of the laws. An instruction in memory. Traces in memory: what a value of type api.TTrace holds. -/
import Derived.Test.YtlnkjmgfkpeicaaGreatDoorIrM
import Derived.Test.YtlnkjmgfkpeicaaGreatDoorProg
import Derived.WalkKit
import Derived.Lib.Hide
import Derived.WalkLawsBesides
import Derived.Deep.QuietTactic
import Derived.BigQuiet
import Derived.ProofKit
import Derived.OpenShut
import Derived.Deep.Slices
import Derived.WalkSpells
namespace Go.Proofs.YtlnkjmgfkpeicaaGreatDoor

structure CIns where
  op : Int
  a : Int
  b : Int
  c : Int
  line : Int
deriving DecidableEq
structure CFn where
  params : Int
  regs : Int
  gen : Bool
  caught : List Int
  code : List CIns
deriving DecidableEq
structure CProg where
  fns : List CFn
  consts : List Val
  texts : List ByteArray
structure CTry where
  reg : Int
  at_ : Int
deriving DecidableEq

def withinM (n lo hi : Int) : Bool := decide (lo ≤ n) && decide (n ≤ hi)
theorem withinM_iff {n lo hi : Int} : withinM n lo hi = true ↔ lo ≤ n ∧ n ≤ hi := by simp [withinM]

def forms : List (List UInt8) := [[], [114, 107, 45], [114, 114, 45], [114, 114, 114], [114, 114, 114], [114, 114, 114], [114, 114, 114], [114, 114, 114], [114, 114, 114], [114, 114, 114], [114, 114, 114], [114, 114, 45], [114, 114, 45], [97, 45, 45], [97, 45, 45], [114, 97, 45], [114, 45, 45], [114, 114, 116], [114, 116, 114], [114, 108, 110], [114, 114, 114], [114, 114, 114], [114, 45, 45], [114, 114, 45], [114, 114, 45], [114, 117, 45], [114, 102, 45], [114, 99, 110], [114, 45, 45], [114, 45, 45], [114, 97, 45], [45, 45, 45], [114, 114, 45], [114, 45, 45], [114, 45, 45], [114, 114, 45], [114, 114, 45], [114, 45, 45], [114, 45, 45]]
def formS (op : Int) : List UInt8 := if op < 1 ∨ 39 ≤ op then [] else forms.getD op.toNat []
theorem formS_three (op : Int) : formS op = [] ∨ ∃ x y z, formS op = [x, y, z] := by
  unfold formS
  split
  · exact .inl rfl
  · rename_i h
    have hn : op.toNat < 39 := by omega
    have : ∀ n : Nat, n < 39 → forms.getD n [] = [] ∨ ∃ x y z, forms.getD n [] = [x, y, z] := by
      intro n hn
      have h2 : ∀ l ∈ forms, l = [] ∨ ∃ x y z, l = [x, y, z] := by
        unfold forms
        intro l hl
        simp only [List.mem_cons, List.not_mem_nil, or_false] at hl
        repeat (rcases hl with rfl | hl; first | exact .inl rfl | exact .inr ⟨_, _, _, rfl⟩)
      have hl : n < forms.length := hn
      rw [List.getD_eq_getElem?_getD, List.getElem?_eq_getElem hl]
      exact h2 _ (List.getElem_mem hl)
    exact this _ hn
def regM (f : CFn) (n : Int) : Bool := withinM n 0 (f.regs - 1)
def namesM (p : CProg) (f : CFn) (c : UInt8) (n : Int) : Bool :=
  if c = 114 then regM f n
  else if c = 107 then withinM n 0 ((p.consts.length : Int) - 1)
  else if c = 116 then withinM n 0 ((p.texts.length : Int) - 1)
  else if c = 97 then withinM n 0 ((f.code.length : Int) - 1)
  else if c = 117 then withinM n 0 ((f.caught.length : Int) - 1)
  else if c = 102 then withinM n 1 ((p.fns.length : Int) - 1)
  else if c = 108 ∨ c = 99 ∨ c = 110 then withinM n 0 f.regs
  else n == 0
def caughtM (f g : CFn) : Bool := !(g.caught.any fun c => !regM f c && !withinM c (-(f.caught.length : Int)) (-1))
def namedM (p : CProg) (f : CFn) (i : CIns) : Bool :=
  match formS i.op with
  | [x, y, z] => withinM i.line 0 2000 && namesM p f x i.a && namesM p f y i.b && namesM p f z i.c
  | _ => false
def orderM (p : CProg) (f : CFn) (at_ : Int) (i : CIns) : Bool :=
  namedM p f i &&
  (if i.op = 14 then decide (i.a ≤ at_)
   else if i.op = 19 then decide (i.b + i.c ≤ f.regs)
   else if i.op = 27 then regM f (i.b + i.c)
   else if i.op = 26 then (match p.fns[i.b.toNat]? with | some g => caughtM f g | none => false)
   else if i.op = 32 then f.gen
   else true)
end Go.Proofs.YtlnkjmgfkpeicaaGreatDoor
namespace Go.Proofs.YtlnkjmgfkpeicaaGreatDoor
open Go.RowKit

def formV (f : Form) : Value := .agg #[.int .i64 f.asks, .int .i64 f.low, .int .i64 f.high, .bool f.k, .bool f.tells, .int .i64 f.exit]

def OfPost (op : Int) (w : World) (e : Ending) (w' : World) : Prop := e = .returned (.tuple #[formV (formM op), .bool (isOp op)]) ∧ Below w.heap.size w w'

set_option maxHeartbeats 1000000 in
theorem of_c (op : Int) (w : World) : Calls Tryz.prog 13 #[.int .i64 op] w (OfPost op w) := by
  by_cases h : op = 1 ∨ op = 2 ∨ op = 3 ∨ op = 4 ∨ op = 5 ∨ op = 6 ∨ op = 7 ∨ op = 8 ∨ op = 9 ∨ op = 10 ∨ op = 11 ∨ op = 12 ∨ op = 13 ∨ op = 14 ∨ op = 15 ∨ op = 16 ∨ op = 17 ∨ op = 18 ∨ op = 19
  · rcases h with rfl | rfl | rfl | rfl | rfl | rfl | rfl | rfl | rfl | rfl | rfl | rfl | rfl | rfl | rfl | rfl | rfl | rfl | rfl
    all_goals
      go_enter Tryz.func13, Tryz.ntmps13
      go_wp2
      refine bodyPost_ret (v := .tuple #[formV (formM _), .bool true]) (by simp [results, Tryz.results13, go_sem, formV, formM]) rfl ⟨rfl, ?_⟩
      repeat (first | exact Below.refl _ _ | refine Below.drew ?_ | refine Below.setCell ?_ (by simp) _ | refine Below.alloc ?_ (by simp) _)
  · have e1 : formM op = ⟨0, 0, 0, false, false, 0⟩ := formM_else op h
    have e2 : isOp op = false := isOp_else op h
    have E1 := Lib.hid e1
    have E2 := Lib.hid e2
    clear e1 e2
    have n1 : (op == 1) = false := by simp; omega
    have n2 : (op == 2) = false := by simp; omega
    have n3 : (op == 3) = false := by simp; omega
    have n4 : (op == 4) = false := by simp; omega
    have n5 : (op == 5) = false := by simp; omega
    have n6 : (op == 6) = false := by simp; omega
    have n7 : (op == 7) = false := by simp; omega
    have n8 : (op == 8) = false := by simp; omega
    have n9 : (op == 9) = false := by simp; omega
    have n10 : (op == 10) = false := by simp; omega
    have n11 : (op == 11) = false := by simp; omega
    have n12 : (op == 12) = false := by simp; omega
    have n13 : (op == 13) = false := by simp; omega
    have n14 : (op == 14) = false := by simp; omega
    have n15 : (op == 15) = false := by simp; omega
    have n16 : (op == 16) = false := by simp; omega
    have n17 : (op == 17) = false := by simp; omega
    have n18 : (op == 18) = false := by simp; omega
    have n19 : (op == 19) = false := by simp; omega
    clear h
    go_enter Tryz.func13, Tryz.ntmps13
    go_wp2
    refine bodyPost_ret (v := .tuple #[formV ⟨0, 0, 0, false, false, 0⟩, .bool false]) (by simp [results, Tryz.results13, go_sem, formV]) rfl ⟨by rw [E1.out, E2.out], ?_⟩
    repeat (first | exact Below.refl _ _ | refine Below.drew ?_ | refine Below.setCell ?_ (by simp) _ | refine Below.alloc ?_ (by simp) _)

end Go.Proofs.YtlnkjmgfkpeicaaGreatDoor
namespace Go.Proofs.YtlnkjmgfkpeicaaGreatDoor
open Go.ChangeShapes Go.WideShapes Go.ChangeAt Go.RowKit

/-- fits an int -/
def wfi (a : Int) : Prop := -9223372036854775808 ≤ a ∧ a ≤ 9223372036854775807
theorem wfi_of {a : Int} (h : (Lit.int .i64 a).wf = true) : wfi a := by
  simp [Lit.wf, IntKind.min, IntKind.max, IntKind.signed, IntKind.bits] at h
  exact ⟨by omega, by omega⟩

theorem cell_lt {w : World} {a : Addr} {v : Value} (h : w.cell? a = some v) : a.block < w.heap.size := by
  unfold World.cell? at h
  split at h
  · rename_i hb
    exact (Array.getElem?_eq_some_iff.1 hb).1
  · cases h
theorem cell_spot {w : World} {a : Addr} {v : Value} (h : w.cell? a = some v) : a.spot = none := by
  unfold World.cell? at h
  split at h
  · split at h
    · cases h
    · rename_i hs
      simpa using hs
  · cases h

/-- the cells from place off of block b on hold cs -/
def CellsAt (w : World) (b off : Nat) (cs : List Value) : Prop := ∀ j v, cs[j]? = some v → w.cell? ⟨b, off + j, none⟩ = some v

/-- THE SLICE v HOLDS xs: each in 'size' cells, as R says. All below block B. -/
def SliceR {α : Type} (w : World) (B size : Nat) (R : List Value → α → Prop) (v : Value) (xs : List α) : Prop :=
  ∃ A cap, v = .slice A xs.length cap ∧ xs.length ≤ cap ∧ cap ≤ maxLen ∧
    (0 < xs.length → ∃ b off, A = some ⟨b, off, none⟩ ∧ b < B ∧ ∀ i x, xs[i]? = some x → ∃ cs, cs.length = size ∧ R cs x ∧ CellsAt w b (off + i * size) cs)

theorem CellsAt.keep {w w' : World} {B b off : Nat} {cs : List Value} (h : CellsAt w b off cs) (hb : b < B) (hk : ∀ p : Addr, p.block < B → w'.cell? p = w.cell? p) : CellsAt w' b off cs :=
  fun j v hj => (hk _ hb).trans (h j v hj)

theorem SliceR.keep {α : Type} {w w' : World} {B B' size : Nat} {R R' : List Value → α → Prop} {v : Value} {xs : List α} (h : SliceR w B size R v xs) (hB : B ≤ B') (hk : ∀ p : Addr, p.block < B → w'.cell? p = w.cell? p)
    (hR : ∀ cs x, R cs x → R' cs x) : SliceR w' B' size R' v xs := by
  obtain ⟨A, cap, h1, h2, h3, h4⟩ := h
  refine ⟨A, cap, h1, h2, h3, fun hp => ?_⟩
  obtain ⟨b, off, h5, h6, h7⟩ := h4 hp
  refine ⟨b, off, h5, by omega, fun i x hi => ?_⟩
  obtain ⟨cs, c1, c2, c3⟩ := h7 i x hi
  exact ⟨cs, c1, hR cs x c2, c3.keep h6 hk⟩

theorem SliceR.at_ {α : Type} {w : World} {B size : Nat} {R : List Value → α → Prop} {A : Option Addr} {n cap : Nat} {xs : List α} (h : SliceR w B size R (.slice A n cap) xs) {i : Nat} (hi : i < xs.length) :
    ∃ b off x cs, A = some ⟨b, off, none⟩ ∧ b < B ∧ xs[i]? = some x ∧ cs.length = size ∧ R cs x ∧ CellsAt w b (off + i * size) cs := by
  obtain ⟨A', cap', h1, h2, h3, h4⟩ := h
  obtain ⟨b, off, h5, h6, h7⟩ := h4 (by omega)
  injection h1 with e1 e2 e3
  have hx : xs[i]? = some xs[i] := List.getElem?_eq_getElem hi
  obtain ⟨cs, c1, c2, c3⟩ := h7 i _ hx
  exact ⟨b, off, xs[i], cs, by rw [e1, h5], h6, hx, c1, c2, c3⟩

theorem SliceR.len {α : Type} {w : World} {B size : Nat} {R : List Value → α → Prop} {A : Option Addr} {n cap : Nat} {xs : List α} (h : SliceR w B size R (.slice A n cap) xs) : n = xs.length ∧ n ≤ cap ∧ cap ≤ maxLen := by
  obtain ⟨A', cap', h1, h2, h3, h4⟩ := h
  injection h1 with e1 e2 e3
  subst e2; subst e3
  exact ⟨rfl, h2, h3⟩

theorem SliceR.nil {α : Type} (w : World) (B size : Nat) (R : List Value → α → Prop) : SliceR w B size R (.slice none 0 0) [] := ⟨none, 0, rfl, Nat.le_refl _, by decide, by simp⟩

/-- a prefix, of the same array -/
theorem SliceR.take {α : Type} {w : World} {B size : Nat} {R : List Value → α → Prop} {A : Option Addr} {n cap k : Nat} {xs : List α} (h : SliceR w B size R (.slice A n cap) xs) (hk : k ≤ n) :
    SliceR w B size R (.slice A k cap) (xs.take k) := by
  obtain ⟨A', cap', h1, h2, h3, h4⟩ := h
  injection h1 with e1 e2 e3
  subst e1; subst e2; subst e3
  have hl : (xs.take k).length = k := by simp; omega
  refine ⟨A, cap, by rw [hl], by omega, h3, fun hp => ?_⟩
  obtain ⟨b, off, h5, h6, h7⟩ := h4 (by omega)
  refine ⟨b, off, h5, h6, fun i x hi => h7 i x ?_⟩
  rw [List.getElem?_take] at hi
  split at hi
  · exact hi
  · cases hi

/-- ints -/
def IntR (cs : List Value) (x : Int) : Prop := cs = [.int .i64 x] ∧ wfi x

section
variable {H : Type} {enc : TypeId × Value → H} {P : Program} {w : World} {spare : Nat → Bool} {held : Bool}

/-- whatever reads as type t, is something, as R says -/
def Opens {α : Type} (enc : TypeId × Value → H) (P : Program) (w : World) (spare : Nat → Bool) (held : Bool) (t : TypeId) (R : List Value → α → Prop) : Prop :=
  ∀ (fuel : Nat) (cs : List Value) (x : DataW H × List MemPlace), DataW.trod enc P w 0 spare held fuel t cs = some x → cs.length = P.cellsOf t ∧ ∃ a, R cs a

theorem opens_int {t : TypeId} (ht : P.underlying t = some (.int .i64)) (hc : P.cellsOf t = 1) : Opens enc P w spare held t IntR := by
  intro fuel cs x h
  obtain ⟨n, rfl, _, hw⟩ := DataW.trod_int ht h
  exact ⟨hc.symm, n, rfl, wfi_of hw⟩

def BoolR (cs : List Value) (x : Bool) : Prop := cs = [.bool x]
theorem opens_bool {t : TypeId} (ht : P.underlying t = some .bool) (hc : P.cellsOf t = 1) : Opens enc P w spare held t BoolR := by
  intro fuel cs x h
  obtain ⟨n, rfl, _⟩ := DataW.trod_bool ht h
  exact ⟨hc.symm, n, rfl⟩

def StrR (cs : List Value) (s : ByteArray) : Prop := cs = [.string s] ∧ s.size ≤ maxLen
theorem opens_string {t : TypeId} (ht : P.underlying t = some .string) (hc : P.cellsOf t = 1) : Opens enc P w spare held t StrR := by
  intro fuel cs x h
  obtain ⟨s, rfl, _, hs⟩ := DataW.trod_string ht h
  exact ⟨hc.symm, s, rfl, hs⟩

theorem choose_list {α : Type} {len : Nat} {p : Nat → α → Prop} (h : ∀ i, i < len → ∃ x, p i x) : ∃ xs : List α, xs.length = len ∧ ∀ i x, xs[i]? = some x → p i x := by
  induction len with
  | zero => exact ⟨[], rfl, by simp⟩
  | succ n ih =>
    obtain ⟨xss, h1, h2⟩ := ih (fun i hi => h i (by omega))
    obtain ⟨xs, h3⟩ := h n (by omega)
    refine ⟨xss ++ [xs], by simp [h1], fun i ys hi => ?_⟩
    rcases Nat.lt_or_ge i xss.length with hl | hl
    · rw [List.getElem?_append_left hl] at hi
      exact h2 i ys hi
    · rw [List.getElem?_append_right hl] at hi
      have : i - xss.length = 0 := by
        rcases Nat.eq_zero_or_pos (i - xss.length) with h0 | h0
        · exact h0
        · rw [List.getElem?_eq_none (by simp; omega)] at hi; cases hi
      rw [this] at hi
      simp at hi
      subst hi
      have : i = n := by omega
      subst this
      exact h3

theorem opens_slice {α : Type} {t e : TypeId} {R : List Value → α → Prop} {n : Nat} (ht : P.underlying t = some (.slice e)) (hn : P.cellsOf e = n) (hpos : 0 < n) (hc : P.cellsOf t = 1)
    (he : Opens enc P w spare held e R) : Opens enc P w spare held t (fun cs (xs : List α) => ∃ v, cs = [v] ∧ SliceR w w.heap.size n R v xs) := by
  intro fuel cs x h
  rcases Deep.open_slice ht h with ⟨rfl, _⟩ | ⟨a, len, cap, m, n', D, Pl, rfl, hb, hl, hm, hmm, hx, hi⟩
  · exact ⟨hc.symm, [], _, rfl, SliceR.nil _ _ _ _⟩
  · refine ⟨hc.symm, ?_⟩
    have hlm : len ≤ m := by rw [hmm]; split <;> omega
    obtain ⟨xs, h1, h2⟩ := choose_list (len := len) (p := fun i (x : α) => ∃ cs, cs.length = n ∧ R cs x ∧ ∀ j v, cs[j]? = some v → w.cell? (a.add (i * n + j)) = some v) (fun i hil => by
      obtain ⟨cs', hc', ht'⟩ := hi i (by omega)
      rw [hn] at hc'
      obtain ⟨_, hcl, hat⟩ := World.cells?_some hc'
      obtain ⟨_, y, hy⟩ := he _ _ _ ht'
      refine ⟨y, cs', hcl, hy, fun j v hj => ?_⟩
      have hjl : j < cs'.length := (List.getElem?_eq_some_iff.1 hj).1
      have hcell := hat j (by omega)
      rw [← Go.Deep.add_add, hcell]
      exact hj)
    refine ⟨xs, _, rfl, some a, cap, by rw [h1], by omega, hm, fun hp => ?_⟩
    have e0 : xs[0]? = some xs[0] := List.getElem?_eq_getElem hp
    obtain ⟨cs0, b1, b2, b3⟩ := h2 0 _ e0
    have e1 : cs0[0]? = some (cs0[0]'(by omega)) := List.getElem?_eq_getElem (by omega)
    have hc0 := b3 0 _ e1
    have hsp := cell_spot hc0
    have hlt := cell_lt hc0
    simp [Addr.add] at hsp hlt
    obtain ⟨b, off, sp⟩ := a
    simp at hsp hlt
    subst hsp
    refine ⟨b, off, rfl, hlt, fun i x hi => ?_⟩
    obtain ⟨cs, c1, c2, c3⟩ := h2 i x hi
    refine ⟨cs, c1, c2, fun j v hj => ?_⟩
    have := c3 j v hj
    rw [Addr.add] at this
    split at this
    · rename_i h0
      rw [Nat.add_assoc, h0]; exact this
    · rw [Nat.add_assoc]; exact this

/-- a struct's field, read -/
theorem opens_field {α : Type} {t : TypeId} {fs : Array Field} {fuel : Nat} {cs : List Value} {x : DataW H × List MemPlace} (ht : P.underlying t = some (.struct fs)) (h : DataW.trod enc P w 0 spare held fuel t cs = some x)
    (i : Nat) (f : Field) (hf : fs[i]? = some f) {R : List Value → α → Prop} (ho : Opens enc P w spare held f.type R) : ∃ a, R ((cs.drop f.offset).take (P.cellsOf f.type)) a := by
  obtain ⟨xs, m, rfl, _, hlen, hxl, hg⟩ := DataW.trod_struct ht h
  have h1 := hg i f hf
  have hi : i < fs.size := (Array.getElem?_eq_some_iff.1 hf).1
  have h2 : xs[i]? = some (xs[i]'(by omega)) := List.getElem?_eq_getElem (by omega)
  rw [h2] at h1
  exact (ho _ _ _ h1).2
theorem opens_len {t : TypeId} {fs : Array Field} {fuel : Nat} {cs : List Value} {x : DataW H × List MemPlace} (ht : P.underlying t = some (.struct fs)) (h : DataW.trod enc P w 0 spare held fuel t cs = some x) : cs.length = P.cellsOf t := by
  obtain ⟨xs, m, rfl, _, hlen, hxl, hg⟩ := DataW.trod_struct ht h
  exact hlen
end
#print axioms opens_slice
end Go.Proofs.YtlnkjmgfkpeicaaGreatDoor
namespace Go.Proofs.YtlnkjmgfkpeicaaGreatDoor
open Go.RowKit

/-- a world in which what w has is as it was -/
structure Up (w : World) where
  to : World
  below : Below w.heap.size w to

instance Up.some_ (w : World) : Nonempty (Up w) := ⟨⟨w, Below.refl _ _⟩⟩

theorem Up.cell {w : World} (E : Up w) {a : Addr} {v : Value} (h : w.cell? a = some v) : E.to.cell? a = some v := by
  have hlt : a.block < w.heap.size := by
    unfold World.cell? at h
    split at h
    · rename_i hb
      exact (Array.getElem?_eq_some_iff.1 hb).1
    · cases h
  exact (E.below.cell hlt).trans h

section
variable {P : Program}
theorem wp_region_up {id : Nat} {Q : Exit → Act → World → Prop} {a : Act} {w : World} {l : List Oper} (hm : P.follows .mixedOrders = true) (hB : Region.lexB .any l.toArray = true)
    (h : wpQuiet P l.toArray (fun w' => ∃ E : Up w, w' = E.to) (fun a' => ∀ w', (∃ E : Up w, w' = E.to) → Q .normal a' w') l a) : (Code.region id l.toArray true).wp P Q a w :=
  wp_region_quiet (C := fun w' => ∃ E : Up w, w' = E.to) hm hB ⟨⟨_, (Below.refl _ w).drew⟩, rfl⟩ (by simpa using h)

theorem Calls.up {f : FuncId} {args : Array Value} {w : World} {E : Up w} {v : Value}
    (h : Calls P f args E.to fun e w' => e = .returned v ∧ Below E.to.heap.size E.to w') : Calls P f args E.to fun e w'' => e = .returned v ∧ ∃ E' : Up w, w'' = E'.to :=
  h.mono fun _ w' ⟨he, hb⟩ => ⟨he, ⟨w', E.below.trans (hb.mono E.below.size)⟩, rfl⟩
theorem Calls.up_same {f : FuncId} {args : Array Value} {w : World} {E : Up w} {v : Value}
    (h : Calls P f args E.to fun e w' => e = .returned v ∧ w' = E.to) : Calls P f args E.to fun e w'' => e = .returned v ∧ ∃ E' : Up w, w'' = E'.to :=
  h.mono fun _ _ ⟨he, hb⟩ => ⟨he, E, hb⟩
end
end Go.Proofs.YtlnkjmgfkpeicaaGreatDoor
namespace Go.Proofs.YtlnkjmgfkpeicaaGreatDoor
open Go.RowKit

theorem below_drewN {B : Nat} {a w : World} (h : Below B a w) (n : Nat) : Below B a (w.drewN n) := ⟨h.os, h.tape, h.output, h.size, h.block⟩

/-- it returns v; below the heap's old size nothing has turned -/
def Gives (v : Value) (w : World) (e : Ending) (w' : World) : Prop := e = .returned v ∧ Below w.heap.size w w'

set_option maxHeartbeats 400000 in
theorem tells_c (op : Int) (w : World) : Calls Tryz.prog 11 #[.int .i64 op] w (Gives (.bool (tellsM op)) w) := by
  go_enter Tryz.func11, Tryz.ntmps11
  go_wp2_with fail
  refine (of_c op w).mono ?_
  rintro e w1 ⟨rfl, b1⟩
  have B1 := Lib.hid b1
  clear b1
  unfold formV
  go_wp2_with fail
  go_ret
  exact ⟨rfl, by repeat (first | exact B1.out | refine Below.drew ?_ | refine Below.setCell ?_ (by have := B1.out.size; simp; omega) _ | refine Below.alloc ?_ (by have := B1.out.size; simp; omega) _)⟩

theorem sliceR_of_own {w : World} {base e : Nat} {v : Value} {xs : List Int} (h : w.ownsRow base e 1 v xs.length (xs.map (Value.int .i64))) (hw : ∀ x ∈ xs, wfi x) : SliceR w w.heap.size 1 IntR v xs := by
  rcases h.2 with ⟨rfl, h0⟩ | ⟨g, cap, cur, rfl, hb, hg, h1, h2, h3, h4⟩
  · have : xs = [] := List.length_eq_zero_iff.1 h0
    subst this
    exact SliceR.nil _ _ _ _
  · refine ⟨_, cap, rfl, h1, h2, fun hp => ⟨g, 0, rfl, (Array.getElem?_eq_some_iff.1 hg).1, fun i x hi => ⟨[.int .i64 x], rfl, ⟨rfl, hw x (List.mem_of_getElem? hi)⟩, fun j u hj => ?_⟩⟩⟩
    have hj0 : j = 0 := by
      have := (List.getElem?_eq_some_iff.1 hj).1
      simp at this; omega
    subst hj0
    simp at hj
    subst hj
    have hi' : i < xs.length := (List.getElem?_eq_some_iff.1 hi).1
    simp only [World.cell?, hg]
    simp only [Nat.mul_one, Nat.zero_add, Nat.add_zero, Option.isSome_none, Bool.false_eq_true, if_false]
    have h5 : (cur.toList.take xs.length)[i]? = some (.int .i64 x) := by
      rw [Nat.mul_one] at h4
      rw [h4]
      simp [hi]
    rw [List.getElem?_take, if_pos hi'] at h5
    simpa using h5

set_option maxHeartbeats 1000000 in
theorem eq_ints_c (v u : Value) (xs ys : List Int) (B : Nat) (w : World) (hx : SliceR w B 1 IntR v xs) (hy : SliceR w B 1 IntR u ys) :
    Calls Tryz.prog 9 #[v, u] w fun e w' => e = .returned (.bool (decide (xs = ys))) ∧ w' = w := by
  obtain ⟨A, cap, rfl, hc1, hc2, _⟩ := id hx
  obtain ⟨A', cap', rfl, hc1', hc2', _⟩ := id hy
  unfold maxLen at hc2 hc2'
  have HX := Lib.hid hx
  have HY := Lib.hid hy
  clear hx hy
  by_cases hl : xs.length = ys.length
  · have hl1 : xs.length ≤ ys.length := by omega
    have hl2 : ys.length ≤ xs.length := by omega
    have hb1 : ((xs.length : Int) != (ys.length : Int)) = false := by simp; omega
    clear hl
    go_enter Tryz.func9, Tryz.ntmps9
    go_wp2_with fail
    go_loop [14] (fun k => ∃ kn : Nat, k = .int .i64 kn ∧ kn ≤ xs.length ∧ Hid (xs.take kn = ys.take kn)) (fun k => xs.length - (intOf k).toNat)
    case atStart => exact ⟨0, rfl, by omega, Lib.hid rfl⟩
    case round =>
      obtain ⟨kn, rfl, hk, he⟩ := hrel
      by_cases hlt : kn < xs.length
      · obtain ⟨b, off, x, cs, rfl, hb, hx0, hcl, hR, hat⟩ := HX.out.at_ hlt
        obtain ⟨b', off', y, cs', rfl, hb', hy0, hcl', hR', hat'⟩ := HY.out.at_ (i := kn) (by omega)
        obtain ⟨rfl, _⟩ := hR
        obtain ⟨rfl, _⟩ := hR'
        have g0 : w.cell? ⟨b, off + kn, none⟩ = some (.int .i64 x) := by simpa using hat 0 _ rfl
        have g1 : w.cell? ⟨b', off' + kn, none⟩ = some (.int .i64 y) := by simpa using hat' 0 _ rfl
        have HX0 := Lib.hid hx0
        have HY0 := Lib.hid hy0
        clear hx0 hy0 hat hat' hcl hcl'
        by_cases hxy : x = y
        · subst hxy
          go_wp2_with fail
          go_round
          case rel => exact ⟨kn + 1, by go_num, by omega, Lib.hid (by rw [List.take_add_one, List.take_add_one, he.out, HX0.out, HY0.out])⟩
          case measure => simp [intOf]; omega
        · have hne : (x == y) = false := by simpa using hxy
          have hne2 : (x != y) = true := by simpa using hxy
          have HN := Lib.hid hxy
          clear hxy
          go_wp2_with fail
          go_ret
          refine ⟨?_, rfl⟩
          have : ¬ xs = ys := fun e => HN.out (by have h1 := HX0.out; rw [e, HY0.out] at h1; injection h1 with h1; exact h1.symm)
          simp [this]
      · go_wp2_with fail
        go_ret
        refine ⟨?_, rfl⟩
        have h1 : xs = ys := by
          have := he.out
          rw [List.take_of_length_le (by omega), List.take_of_length_le (by omega)] at this
          exact this
        simp [h1]
  · have hb1 : ((xs.length : Int) != (ys.length : Int)) = true := by simp; omega
    have HN := Lib.hid hl
    clear hl
    go_enter Tryz.func9, Tryz.ntmps9
    go_wp2_with fail
    go_ret
    refine ⟨?_, rfl⟩
    have : ¬ xs = ys := fun e => HN.out (by rw [e])
    simp [this]
end Go.Proofs.YtlnkjmgfkpeicaaGreatDoor
namespace Go.Proofs.YtlnkjmgfkpeicaaGreatDoor
open Go.RowKit

theorem cell_to {w0 wr : World} (hb : Below w0.heap.size w0 wr) (E : Up wr) {a : Addr} {v : Value} (h : w0.cell? a = some v) : E.to.cell? a = some v := E.cell ((hb.cell (cell_lt h)).trans h)
theorem cell_on {w0 wr : World} (hb : Below w0.heap.size w0 wr) {a : Addr} {v : Value} (h : w0.cell? a = some v) : wr.cell? a = some v := (hb.cell (cell_lt h)).trans h
theorem below_to {w0 wr : World} (hb : Below w0.heap.size w0 wr) (E : Up wr) : Below w0.heap.size w0 E.to := hb.trans (E.below.mono hb.size)
/-- one behind another -/
theorem Below.then {B : Nat} {w0 w1 w2 : World} (h : Below B w0 w1) (k : Below w1.heap.size w1 w2) (hB : B ≤ w1.heap.size) : Below B w0 w2 := h.trans (k.mono hB)
theorem Below.next {w0 w1 w2 : World} (h : Below w0.heap.size w0 w1) (k : Below w1.heap.size w1 w2) : Below w0.heap.size w0 w2 := h.trans (k.mono h.size)

theorem one_cell (w : World) (A : Array Value) (t : TypeId) (i : Nat) : (w.alloc (.cells A t)).cell? ⟨w.heap.size, i, none⟩ = A[i]? := World.cell?_alloc_at _ _ _ _ rfl
theorem old_one {w : World} {a : Addr} {v : Value} (h : w.cell? a = some v) (o : Obj) : (w.alloc o).cell? a = some v := (World.cell?_alloc_lt _ _ _ (cell_lt h)).trans h
theorem two_cell0 (w : World) (A : Array Value) (t : TypeId) (o : Obj) (i : Nat) : ((w.alloc (.cells A t)).alloc o).cell? ⟨w.heap.size, i, none⟩ = A[i]? := by
  rw [World.cell?_alloc_lt _ _ _ (by simp)]; exact one_cell w A t i
theorem two_cell1 (w : World) (A : Array Value) (t : TypeId) (o : Obj) (i : Nat) : ((w.alloc o).alloc (.cells A t)).cell? ⟨w.heap.size + 1, i, none⟩ = A[i]? := by
  have h := one_cell (w.alloc o) A t i
  rwa [World.size_alloc] at h
theorem below_one (w : World) (a : Obj) : Below w.heap.size w (w.alloc a) := (Below.refl w.heap.size w).alloc (Nat.le_refl _) a
theorem below_two' (w : World) (a b : Obj) : Below w.heap.size w ((w.alloc a).alloc b) := ((Below.refl w.heap.size w).alloc (Nat.le_refl _) a).alloc (by simp) b
end Go.Proofs.YtlnkjmgfkpeicaaGreatDoor
namespace Go.Proofs.YtlnkjmgfkpeicaaGreatDoor
open Go.RowKit

def findM {α : Type} (p : α → Bool) (xs : List α) : Int := match xs.findIdx? p with
  | some i => i
  | none => -1
theorem findM_hit {α : Type} {p : α → Bool} {xs : List α} {k : Nat} {x : α} (h : ∀ i x, i < k → xs[i]? = some x → p x = false) (hx : xs[k]? = some x) (hp : p x = true) : findM p xs = k := by
  have hl : k < xs.length := (List.getElem?_eq_some_iff.1 hx).1
  have e : xs.findIdx? p = some k := by
    rw [List.findIdx?_eq_some_iff_getElem]
    refine ⟨hl, ?_, fun j hj => ?_⟩
    · rw [List.getElem?_eq_getElem hl] at hx; injection hx with hx; rw [hx]; exact hp
    · have := h j xs[j] hj (List.getElem?_eq_getElem (by omega))
      simp [this]
  simp [findM, e]
theorem findM_none {α : Type} {p : α → Bool} {xs : List α} (h : ∀ (i : Nat) x, xs[i]? = some x → p x = false) : findM p xs = -1 := by
  have e : xs.findIdx? p = none := by
    rw [List.findIdx?_eq_none_iff]
    intro x hx
    obtain ⟨i, hi⟩ := List.getElem?_of_mem hx
    exact h i x hi
  simp [findM, e]
theorem findM_any {α : Type} (p : α → Bool) (xs : List α) : xs.any p = decide (0 ≤ findM p xs) := by
  unfold findM
  split
  · rename_i i hi
    obtain ⟨h1, h2, _⟩ := List.findIdx?_eq_some_iff_getElem.1 hi
    rw [eq_comm]; simp
    exact ⟨xs[i], List.getElem_mem h1, h2⟩
  · rename_i hi
    rw [List.findIdx?_eq_none_iff] at hi
    rw [eq_comm]
    simp
    exact fun x hx => by simpa using hi x hx

set_option maxHeartbeats 1000000 in
set_option maxRecDepth 100000 in
theorem indexFunc_ints {α : Type} (R : List Value → α → Prop) (p : α → Bool) (A : Option Addr) (cap : Nat) (xs : List α) (fid : FuncId) (hen : ∀ args W, (callFunc fid args).run Tryz.prog W = .ok (.enter fid args) W) (caps : Array Value) (w : World) (hs : SliceR w w.heap.size 1 R (.slice A xs.length cap) xs)
    (hp : ∀ (w1 : World), Below w.heap.size w w1 → ∀ (x : α) (cs : List Value), x ∈ xs → R cs x → Calls Tryz.prog fid (cs.toArray ++ caps) w1 (Gives (.bool (p x)) w1)) :
    Calls Tryz.prog 102 #[.slice A xs.length cap, .func (.func fid) #[] caps] w (Gives (.int .i64 (findM p xs)) w) := by
  have HS := Lib.hid hs
  have HP := Lib.hid hp
  have hl : xs.length ≤ cap ∧ cap ≤ maxLen := by obtain ⟨A', c', e, e1, e2, -⟩ := hs; injection e with _ _ e3; subst e3; exact ⟨e1, e2⟩
  obtain ⟨hl1, hl0⟩ := hl
  unfold maxLen at hl0
  clear hs hp
  go_enter Tryz.func102, Tryz.ntmps102
  go_wp2_with fail
  go_loopw [8] (fun k wr => ∃ kn : Nat, k = .int .i64 kn ∧ kn ≤ xs.length ∧ Hid (∀ i x, i < kn → xs[i]? = some x → p x = false) ∧ Hid (Below w.heap.size w wr)) (fun k _ => xs.length - (RowKit.intOf k).toNat)
  case atStart => exact ⟨0, rfl, by omega, fun i x hi _ => by omega, Below.refl _ _⟩
  case round =>
    obtain ⟨kn, rfl, hk, KP, KW⟩ := hrel
    by_cases hlt : kn < xs.length
    · obtain ⟨b, off, x, cs, rfl, hb, hx0, hcl, hR, hat⟩ := HS.out.at_ hlt
      match cs, hcl with
      | [c0], _ =>
        have hi1 : (kn : Int) < xs.length := by omega
        have g0 : wr.cell? ⟨b, off + kn, none⟩ = some c0 := (KW.out.cell hb).trans (by simpa using hat 0 _ rfl)
        have HC := Lib.hid (HP.out wr KW.out x _ (List.mem_of_getElem? hx0) hR)
        have HX := Lib.hid hx0
        clear hx0 hat hR
        cases hpx : p x
        · have HF := Lib.hid hpx
          rw [hpx] at HC
          clear hpx
          go_wp2_with fail
          refine HC.out.mono ?_
          rintro e w2 ⟨rfl, k2⟩
          have K2 := Lib.hid (Below.trans KW.out (k2.mono KW.out.size))
          clear k2 g0
          go_wp2_with fail
          go_roundw
          case rel => exact ⟨kn + 1, by go_num, by omega, fun i y hi hy => by
            rcases Nat.lt_or_ge i kn with h | h
            · exact KP.out i y h hy
            · have : i = kn := by omega
              subst this
              rw [HX.out] at hy
              injection hy with hy
              subst hy
              exact HF.out, K2⟩
          case measure => simp [RowKit.intOf]; omega
        · have HF := Lib.hid (findM_hit KP.out HX.out hpx)
          rw [hpx] at HC
          clear hpx
          go_wp2_with fail
          refine HC.out.mono ?_
          rintro e w2 ⟨rfl, k2⟩
          have K2 := Lib.hid (Below.trans KW.out (k2.mono KW.out.size))
          clear k2 g0
          go_wp2_with fail
          go_ret
          exact ⟨by rw [HF.out]; rfl, K2.out⟩
    · have HF := Lib.hid (findM_none (p := p) (xs := xs) (fun i x hi => KP.out i x (by have := (List.getElem?_eq_some_iff.1 hi).1; omega) hi))
      go_wp2_with fail
      go_ret
      exact ⟨by rw [HF.out]; rfl, KW.out⟩
set_option maxHeartbeats 1000000 in
theorem containsFunc_ints {α : Type} (R : List Value → α → Prop) (p : α → Bool) (A : Option Addr) (cap : Nat) (xs : List α) (fid : FuncId) (hen : ∀ args W, (callFunc fid args).run Tryz.prog W = .ok (.enter fid args) W) (caps : Array Value) (w : World) (hs : SliceR w w.heap.size 1 R (.slice A xs.length cap) xs)
    (hp : ∀ (w1 : World), Below w.heap.size w w1 → ∀ (x : α) (cs : List Value), x ∈ xs → R cs x → Calls Tryz.prog fid (cs.toArray ++ caps) w1 (Gives (.bool (p x)) w1)) :
    Calls Tryz.prog 92 #[.slice A xs.length cap, .func (.func fid) #[] caps] w (Gives (.bool (xs.any p)) w) := by
  have HC := Lib.hid (indexFunc_ints R p A cap xs fid hen caps w hs hp)
  have HB := Lib.hid (findM_any p xs)
  clear hs hp hen
  go_enter Tryz.func92, Tryz.ntmps92
  go_wp2_with fail
  refine HC.out.mono ?_
  rintro e w1 ⟨rfl, k1⟩
  have K1 := Lib.hid k1
  clear k1
  go_wp2_with fail
  go_ret
  exact ⟨by rw [HB.out]; rfl, K1.out⟩

end Go.Proofs.YtlnkjmgfkpeicaaGreatDoor
namespace Go.Proofs.YtlnkjmgfkpeicaaGreatDoor
open Go.RowKit

def insCells (x : TIns) : List Value := [.int .i64 x.op, .int .i64 x.a, .int .i64 x.b, .int .i64 x.c, .int .i64 x.n, .int .i64 x.exit, .int .i64 x.k.kind, .int .i64 x.k.n]
def insV (x : TIns) : Value := .agg #[.int .i64 x.op, .int .i64 x.a, .int .i64 x.b, .int .i64 x.c, .int .i64 x.n, .int .i64 x.exit, .int .i64 x.k.kind, .int .i64 x.k.n]
def WfIns (x : TIns) : Prop := wfi x.op ∧ wfi x.a ∧ wfi x.b ∧ wfi x.c ∧ wfi x.n ∧ wfi x.exit ∧ wfi x.k.kind ∧ wfi x.k.n

theorem infoInt : (Tryz.prog.info? 3).map (fun i => (i.zero, i.size, i.bytes)) = some (some (.int .i64 0), 1, 8) := by kernel_rfl

theorem asks_bd (op : Int) : 0 ≤ (formM op).asks ∧ (formM op).asks ≤ 3 ∧ ((isOp op) = false → (formM op).asks = 0) := by
  by_cases h : isOp op = true
  · rcases isOp_cases h with h | h | h | h | h | h | h | h | h | h | h | h | h | h | h | h | h | h | h <;> subst h <;> decide
  · have h' : isOp op = false := by simpa using h
    have := formM_else op (fun hc => by simp only [isOp, decide_eq_false_iff_not] at h'; omega)
    rw [this]
    simp

/-- it returns a slice that holds xs; below the heap's old size nothing has turned -/
def GivesInts (xs : List Int) (w : World) (e : Ending) (w' : World) : Prop := ∃ v, e = .returned v ∧ SliceR w' w'.heap.size 1 IntR v xs ∧ Below w.heap.size w w'

theorem three_at {W : World} {g : Nat} {a b c : Int} {t : TypeId} {fr : Nat × Nat} {k : Nat} (h : W.heap[g]? = some (.cells #[.int .i64 a, .int .i64 b, .int .i64 c] t fr)) :
    ∀ j u, (([a, b, c].take k).map (Value.int .i64))[j]? = some u → W.cell? ((⟨g, 0, none⟩ : Addr).add j) = some u := by
  intro j u hj
  rw [List.map_take, List.getElem?_take] at hj
  split at hj
  · have hl : j < 3 := by
      have := (List.getElem?_eq_some_iff.1 hj).1
      simpa using this
    match j, hl with
    | 0, _ => simpa [Addr.add, World.cell?, h] using hj
    | 1, _ => simpa [Addr.add, World.cell?, h] using hj
    | 2, _ => simpa [Addr.add, World.cell?, h] using hj
  · cases hj
theorem len_take3 {a b c : Int} {k : Nat} (hk : k ≤ 3) : (([a, b, c].take k).map (Value.int .i64)).length = k * 1 := by simp; omega
theorem heap_two (w : World) (o p : Obj) : ((w.alloc o).alloc p).heap[w.heap.size + 1]? = some p := by
  show ((w.heap.push o).push p)[w.heap.size + 1]? = _
  rw [Array.getElem?_push, if_pos (by simp)]
theorem ints_one (xs : List Int) : ∀ u ∈ xs.map (Value.int .i64), u.oneCell' = true := by
  intro u hu
  obtain ⟨x, _, rfl⟩ := List.mem_map.1 hu
  rfl
theorem small_len {n : Nat} (h : n ≤ 1000000) : n ≤ maxLen := by unfold maxLen; omega
theorem small_bytes {n : Nat} (h : n ≤ 1000000) : n * 8 ≤ 140737488355328 := by omega
theorem base_two {w w5 : World} (h : w.heap.size < w5.heap.size) (o p : Obj) : w.heap.size ≤ ((w5.alloc o).alloc p).heap.size := by simp; omega
theorem below_two {w w5 : World} {o0 : Obj} (h : Below (w.alloc o0).heap.size (w.alloc o0) w5) (hz : w.heap.size < w5.heap.size) (o p : Obj) : Below w.heap.size w ((w5.alloc o).alloc p) :=
  Below.alloc (Below.alloc ((Below.alloc (Below.refl _ _) (Nat.le_refl _) o0).trans (h.mono (by simp))) (by omega) o) (by simp; omega) p
theorem asksM_nil (x : TIns) (h : (formM x.op).asks = 0) : asksM x = [] := by simp [asksM, h]

set_option maxRecDepth 100000 in
set_option maxHeartbeats 1000000 in
theorem asks_c (x : TIns) (hw : WfIns x) (w : World) : Calls Tryz.prog 10 #[insV x] w (GivesInts (asksM x) w) := by
  obtain ⟨op, a, b, c, n, ex, ⟨kk, kn⟩⟩ := x
  obtain ⟨w1, w2, w3, w4, _⟩ := hw
  simp only at w2 w3 w4
  unfold insV
  dsimp only
  obtain ⟨h0, h3, hz⟩ := asks_bd op
  obtain ⟨i0, hi, hz0, hz1, hz2⟩ := info_parts infoInt
  by_cases his : isOp op = true
  · have hml : asksM ⟨op, a, b, c, n, ex, ⟨kk, kn⟩⟩ = [a, b, c].take (formM op).asks.toNat := rfl
    have HM := Lib.hid hml
    clear hml hz
    obtain ⟨k, hk⟩ : ∃ k : Nat, (formM op).asks = k := ⟨(formM op).asks.toNat, by omega⟩
    have hk3 : k ≤ 3 := by omega
    have hk3i : (k : Int) ≤ 3 := by omega
    have HK := Lib.hid hk
    go_enter Tryz.func10, Tryz.ntmps10
    go_wp2_with fail
    refine (of_c op _).mono ?_
    rintro e w5 ⟨rfl, b5⟩
    have g1 : w5.cell? ⟨w.heap.size, 1, none⟩ = some (.int .i64 a) := (b5.cell (p := ⟨w.heap.size, 1, none⟩) (by simp)).trans (World.cell?_alloc_at _ _ _ _ rfl)
    have g2 : w5.cell? ⟨w.heap.size, 2, none⟩ = some (.int .i64 b) := (b5.cell (p := ⟨w.heap.size, 2, none⟩) (by simp)).trans (World.cell?_alloc_at _ _ _ _ rfl)
    have g3 : w5.cell? ⟨w.heap.size, 3, none⟩ = some (.int .i64 c) := (b5.cell (p := ⟨w.heap.size, 3, none⟩) (by simp)).trans (World.cell?_alloc_at _ _ _ _ rfl)
    have B5 := Lib.hid b5
    have hz5 : w.heap.size < w5.heap.size := by have := b5.size; simp at this; omega
    clear b5
    unfold formV
    rw [his, hk]
    clear hk his h0 h3
    go_wp2_with (at_builtin; refine wpList_append_own _ rfl _ _ 47 rfl w.heap.size 3 i0 (.int .i64 0) 1 8 Tryz.underlying47 hi hz0 hz1 hz2 rfl (by decide) (.slice none 0 0) 0 [] rfl (World.ownsRow_nil _ _ _ _) ⟨w5.heap.size + 1, 0, none⟩ k 3 (([a, b, c].take k).map (Value.int .i64)) rfl (len_take3 hk3) (three_at (heap_two _ _ _)) (ints_one _) (small_len (by omega)) (small_bytes (by omega)) (base_two hz5 _ _) ?_)
    intro v w6 hown hg _
    have HO := Lib.hid hown
    have HG := Lib.hid hg
    clear hown hg
    go_wp2_with fail
    go_ret
    refine ⟨v, rfl, ?_, ?_⟩
    · rw [HM.out, HK.out]
      have := HO.out
      have hlen : ([a, b, c].take k).length = k := by simp; omega
      refine sliceR_of_own (base := w.heap.size) (e := 3) (xs := [a, b, c].take k) ?_ ?_
      · rw [hlen]; simpa using this
      · intro x hx
        have := List.mem_of_mem_take hx
        simp at this
        rcases this with rfl | rfl | rfl <;> assumption
    · have hb := HG.out
      exact Below.grown (below_two B5.out hz5 _ _) hb (base_two hz5 _ _) (by simp [Value.ownBlock])
  · have his' : isOp op = false := by simpa using his
    have HN := Lib.hid (asksM_nil ⟨op, a, b, c, n, ex, ⟨kk, kn⟩⟩ (hz his'))
    clear hz his h0 h3
    go_enter Tryz.func10, Tryz.ntmps10
    go_wp2_with fail
    refine (of_c op _).mono ?_
    rintro e w5 ⟨rfl, b5⟩
    have B5 := Lib.hid b5
    clear b5
    unfold formV
    rw [his']
    clear his'
    go_wp2_with fail
    go_ret
    refine ⟨_, rfl, ?_, ?_⟩
    · rw [HN.out]; exact SliceR.nil _ _ _ _
    · refine Below.alloc ((Below.alloc (Below.refl _ _) (Nat.le_refl _) _).trans (B5.out.mono (by simp))) ?_ _
      have := B5.out.size; simp at this; omega
end Go.Proofs.YtlnkjmgfkpeicaaGreatDoor
namespace Go.Proofs.YtlnkjmgfkpeicaaGreatDoor
open Go.RowKit

theorem SliceR.below {α : Type} {w w' : World} {size : Nat} {R : List Value → α → Prop} {v : Value} {xs : List α} (h : SliceR w w.heap.size size R v xs) (hb : Below w.heap.size w w') : SliceR w' w'.heap.size size R v xs :=
  h.keep hb.size (fun _ hp => hb.cell hp) (fun _ _ h => h)

theorem slice456 (w : World) (t : TypeId) : SliceR (w.alloc (.cells #[.int .i64 4, .int .i64 5, .int .i64 6] t)) (w.heap.size + 1) 1 IntR (.slice (some ⟨w.heap.size, 0, none⟩) 3 3) [4, 5, 6] := by
  refine ⟨_, 3, rfl, by simp, by decide, fun _ => ⟨w.heap.size, 0, rfl, by omega, fun i x hi => ⟨[.int .i64 x], rfl, ⟨rfl, ?_⟩, fun j v hj => ?_⟩⟩⟩
  · have := List.mem_of_getElem? hi
    simp at this
    rcases this with rfl | rfl | rfl <;> exact ⟨by decide, by decide⟩
  · have hj0 : j = 0 := by
      have := (List.getElem?_eq_some_iff.1 hj).1
      simp at this; omega
    subst hj0
    simp at hj
    subst hj
    have hi3 : i < 3 := by
      have := (List.getElem?_eq_some_iff.1 hi).1
      simpa using this
    rw [World.cell?_alloc_at _ _ _ _ rfl]
    match i, hi3 with
    | 0, _ => simpa using hi
    | 1, _ => simpa using hi
    | 2, _ => simpa using hi

def Irred (w : World) (e : Ending) (w' : World) : Prop := e = .returned (.bool true) ∧ Below w.heap.size w w'

set_option maxHeartbeats 1000000 in
set_option maxRecDepth 100000 in
theorem irred_c (w : World) : Calls Tryz.prog 5 #[] w (Irred w) := by
  have T1 := fun w' => tells_c 13 w'
  have T2 := fun w' => tells_c 11 w'
  have e1 : tellsM 13 = true := by decide
  have e2 : tellsM 11 = false := by decide
  rw [e1] at T1
  rw [e2] at T2
  have H1 := Lib.hid T1
  have H2 := Lib.hid T2
  clear e1 e2 T1 T2
  go_enter Tryz.func5, Tryz.ntmps5
  go_wp2_with fail
  refine (asks_c ⟨14, 4, 5, 6, 0, 0, ⟨0, 0⟩⟩ (by unfold WfIns wfi; decide) _).mono ?_
  rintro e w1 ⟨v, rfl, hv, b1⟩
  have HV := Lib.hid hv
  have B1 := Lib.hid b1
  clear hv b1
  go_wp2_with fail
  refine (eq_ints_c v _ (asksM ⟨14, 4, 5, 6, 0, 0, ⟨0, 0⟩⟩) [4, 5, 6] _ _ (HV.out.keep (Nat.le_succ _) (fun p hp => World.cell?_alloc_lt _ _ _ hp) (fun _ _ h => h)) (slice456 w1 _)).mono ?_
  rw [show decide (asksM ⟨14, 4, 5, 6, 0, 0, ⟨0, 0⟩⟩ = [4, 5, 6]) = true from by decide]
  rintro e w2 ⟨rfl, rfl⟩
  go_wp2_with fail
  refine (H1.out _).mono ?_
  rintro e w3 ⟨rfl, b3⟩
  have B3 := Lib.hid b3
  clear b3
  go_wp2_with fail
  refine (H2.out _).mono ?_
  rintro e w4 ⟨rfl, b4⟩
  have B4 := Lib.hid b4
  clear b4
  go_wp2_with fail
  go_ret
  refine ⟨rfl, ?_⟩
  have hs1 := B1.out.size
  have hs3 := B3.out.size
  simp at hs3
  exact ((B1.out.alloc hs1 _).trans (B3.out.mono (by simp; omega))).trans (B4.out.mono (by omega))
end Go.Proofs.YtlnkjmgfkpeicaaGreatDoor
namespace Go.Proofs.YtlnkjmgfkpeicaaGreatDoor
open Go.RowKit
def InsR (cs : List Value) (x : TIns) : Prop := cs = insCells x ∧ WfIns x

theorem ins_op {w : World} {B : Nat} {A : Option Addr} {n cap : Nat} {xs : List TIns} (h : SliceR w B 8 InsR (.slice A n cap) xs) {i : Nat} (hi : i < xs.length) :
    ∃ b off x, A = some ⟨b, off, none⟩ ∧ b < B ∧ xs[i]? = some x ∧ WfIns x ∧ CellsAt w b (off + i * 8) (insCells x) := by
  obtain ⟨b, off, x, cs, h1, h2, h3, _, ⟨rfl, h4⟩, h5⟩ := h.at_ hi
  exact ⟨b, off, x, h1, h2, h3, h4, h5⟩
end Go.Proofs.YtlnkjmgfkpeicaaGreatDoor
namespace Go.Proofs.YtlnkjmgfkpeicaaGreatDoor
open Go.ChangeShapes Go.WideShapes Go.ChangeAt Go.RowKit

def SetR (cs : List Value) (x : TSet) : Prop := cs = [.int .i64 x.reg, .int .i64 x.val] ∧ wfi x.reg ∧ wfi x.val
def MakeR (w : World) (B : Nat) (cs : List Value) (m : TMake) : Prop := ∃ v, cs = [.int .i64 m.cell, .int .i64 m.kind, .int .i64 m.num, v] ∧ SliceR w B 1 IntR v m.vals ∧ wfi m.cell ∧ wfi m.kind ∧ wfi m.num
def ExitR (w : World) (B : Nat) (cs : List Value) (x : TExit) : Prop := ∃ s m, cs = [.int .i64 x.at_, .int .i64 x.steps, s, m] ∧ SliceR w B 2 SetR s x.sets ∧ SliceR w B 4 (MakeR w B) m x.makes ∧ wfi x.at_ ∧ wfi x.steps
def TraceR (w : World) (B : Nat) (cs : List Value) (t : TTrace) : Prop :=
  ∃ i e ct cb, cs = [.int .i64 t.fn, .int .i64 t.at_, .int .i64 t.loop, i, e] ++ ct ++ cb ∧ SliceR w B 8 InsR i t.ins ∧ SliceR w B 4 (ExitR w B) e t.exits ∧ ExitR w B ct t.turn ∧ ExitR w B cb t.back ∧ wfi t.fn ∧ wfi t.at_ ∧ wfi t.loop

theorem MakeR.keep {w w' : World} {B B' : Nat} {cs : List Value} {m : TMake} (h : MakeR w B cs m) (hB : B ≤ B') (hk : ∀ p : Addr, p.block < B → w'.cell? p = w.cell? p) : MakeR w' B' cs m := by
  obtain ⟨v, h1, h2, h3⟩ := h
  exact ⟨v, h1, h2.keep hB hk (fun _ _ h => h), h3⟩
theorem ExitR.keep {w w' : World} {B B' : Nat} {cs : List Value} {x : TExit} (h : ExitR w B cs x) (hB : B ≤ B') (hk : ∀ p : Addr, p.block < B → w'.cell? p = w.cell? p) : ExitR w' B' cs x := by
  obtain ⟨s, m, h1, h2, h3, h4⟩ := h
  exact ⟨s, m, h1, h2.keep hB hk (fun _ _ h => h), h3.keep hB hk (fun _ _ h => h.keep hB hk), h4⟩
theorem TraceR.keep {w w' : World} {B B' : Nat} {cs : List Value} {t : TTrace} (h : TraceR w B cs t) (hB : B ≤ B') (hk : ∀ p : Addr, p.block < B → w'.cell? p = w.cell? p) : TraceR w' B' cs t := by
  obtain ⟨i, e, ct, cb, h1, h2, h3, h4, h5, h6⟩ := h
  exact ⟨i, e, ct, cb, h1, h2.keep hB hk (fun _ _ h => h), h3.keep hB hk (fun _ _ h => h.keep hB hk), h4.keep hB hk, h5.keep hB hk, h6⟩
theorem TraceR.below {w w' : World} {cs : List Value} {t : TTrace} (h : TraceR w w.heap.size cs t) (hb : Below w.heap.size w w') : TraceR w' w'.heap.size cs t :=
  h.keep hb.size (fun _ hp => hb.cell hp)

section
variable {H : Type} {enc : TypeId × Value → H} {w : World} {spare : Nat → Bool} {held : Bool}

theorem cInt : Tryz.prog.cellsOf 3 = 1 := by kernel_rfl
theorem cVal : Tryz.prog.cellsOf 40 = 2 := by kernel_rfl
theorem cIns : Tryz.prog.cellsOf 42 = 8 := by kernel_rfl
theorem cSet : Tryz.prog.cellsOf 44 = 2 := by kernel_rfl
theorem cMake : Tryz.prog.cellsOf 89 = 4 := by kernel_rfl
theorem cExit : Tryz.prog.cellsOf 32 = 4 := by kernel_rfl
theorem cTrace : Tryz.prog.cellsOf 34 = 13 := by kernel_rfl
theorem cSInt : Tryz.prog.cellsOf 47 = 1 := by kernel_rfl
theorem cSIns : Tryz.prog.cellsOf 27 = 1 := by kernel_rfl
theorem cSSet : Tryz.prog.cellsOf 29 = 1 := by kernel_rfl
theorem cSMake : Tryz.prog.cellsOf 30 = 1 := by kernel_rfl
theorem cSExit : Tryz.prog.cellsOf 28 = 1 := by kernel_rfl

theorem o_int : Opens enc Tryz.prog w spare held 3 IntR := opens_int Tryz.underlying3 cInt
theorem o_ints : Opens enc Tryz.prog w spare held 47 (fun cs (xs : List Int) => ∃ v, cs = [v] ∧ SliceR w w.heap.size 1 IntR v xs) := opens_slice Tryz.underlying47 cInt (by decide) cSInt o_int

def ValR (cs : List Value) (x : Val) : Prop := cs = [.int .i64 x.kind, .int .i64 x.n] ∧ wfi x.kind ∧ wfi x.n
set_option maxRecDepth 100000 in
theorem o_val : Opens enc Tryz.prog w spare held 40 ValR := by
  intro fuel cs x h
  have hl := opens_len Tryz.underlying40 h
  refine ⟨hl, ?_⟩
  rw [cVal] at hl
  obtain ⟨a, ha⟩ := opens_field Tryz.underlying40 h 0 _ rfl o_int
  obtain ⟨b, hb⟩ := opens_field Tryz.underlying40 h 1 _ rfl o_int
  match cs, hl with
  | [c0, c1], _ =>
    simp only [List.getElem_toArray, List.getElem_cons_zero, List.getElem_cons_succ, cInt, IntR, List.drop_zero, List.take_succ_cons, List.take_zero, List.drop_succ_cons, List.cons.injEq, and_true] at ha hb
    obtain ⟨rfl, wa⟩ := ha
    obtain ⟨rfl, wb⟩ := hb
    exact ⟨⟨a, b⟩, rfl, wa, wb⟩

set_option maxRecDepth 100000 in
theorem o_set : Opens enc Tryz.prog w spare held 44 SetR := by
  intro fuel cs x h
  have hl := opens_len Tryz.underlying44 h
  refine ⟨hl, ?_⟩
  rw [cSet] at hl
  obtain ⟨a, ha⟩ := opens_field Tryz.underlying44 h 0 _ rfl o_int
  obtain ⟨b, hb⟩ := opens_field Tryz.underlying44 h 1 _ rfl o_int
  match cs, hl with
  | [c0, c1], _ =>
    simp only [List.getElem_toArray, List.getElem_cons_zero, List.getElem_cons_succ, cInt, IntR, List.drop_zero, List.take_succ_cons, List.take_zero, List.drop_succ_cons, List.cons.injEq, and_true] at ha hb
    obtain ⟨rfl, wa⟩ := ha
    obtain ⟨rfl, wb⟩ := hb
    exact ⟨⟨a, b⟩, rfl, wa, wb⟩

set_option maxRecDepth 100000 in
theorem o_ins : Opens enc Tryz.prog w spare held 42 InsR := by
  intro fuel cs x h
  have hl := opens_len Tryz.underlying42 h
  refine ⟨hl, ?_⟩
  rw [cIns] at hl
  obtain ⟨a0, h0⟩ := opens_field Tryz.underlying42 h 0 _ rfl o_int
  obtain ⟨a1, h1⟩ := opens_field Tryz.underlying42 h 1 _ rfl o_int
  obtain ⟨a2, h2⟩ := opens_field Tryz.underlying42 h 2 _ rfl o_int
  obtain ⟨a3, h3⟩ := opens_field Tryz.underlying42 h 3 _ rfl o_int
  obtain ⟨a4, h4⟩ := opens_field Tryz.underlying42 h 4 _ rfl o_int
  obtain ⟨a5, h5⟩ := opens_field Tryz.underlying42 h 5 _ rfl o_int
  obtain ⟨k, hk⟩ := opens_field Tryz.underlying42 h 6 _ rfl o_val
  match cs, hl with
  | [c0, c1, c2, c3, c4, c5, c6, c7], _ =>
    simp only [List.getElem_toArray, List.getElem_cons_zero, List.getElem_cons_succ, cInt, cVal, IntR, ValR, List.drop_zero, List.take_succ_cons, List.take_zero, List.drop_succ_cons, List.cons.injEq, and_true] at h0 h1 h2 h3 h4 h5 hk
    obtain ⟨rfl, w0⟩ := h0
    obtain ⟨rfl, w1⟩ := h1
    obtain ⟨rfl, w2⟩ := h2
    obtain ⟨rfl, w3⟩ := h3
    obtain ⟨rfl, w4⟩ := h4
    obtain ⟨rfl, w5⟩ := h5
    obtain ⟨⟨rfl, rfl⟩, w6, w7⟩ := hk
    exact ⟨⟨a0, a1, a2, a3, a4, a5, k⟩, rfl, w0, w1, w2, w3, w4, w5, w6, w7⟩

theorem o_sets : Opens enc Tryz.prog w spare held 29 (fun cs (xs : List TSet) => ∃ v, cs = [v] ∧ SliceR w w.heap.size 2 SetR v xs) := opens_slice Tryz.underlying29 cSet (by decide) cSSet o_set
theorem o_inss : Opens enc Tryz.prog w spare held 27 (fun cs (xs : List TIns) => ∃ v, cs = [v] ∧ SliceR w w.heap.size 8 InsR v xs) := opens_slice Tryz.underlying27 cIns (by decide) cSIns o_ins

set_option maxRecDepth 100000 in
theorem o_make : Opens enc Tryz.prog w spare held 89 (MakeR w w.heap.size) := by
  intro fuel cs x h
  have hl := opens_len Tryz.underlying89 h
  refine ⟨hl, ?_⟩
  rw [cMake] at hl
  obtain ⟨a0, h0⟩ := opens_field Tryz.underlying89 h 0 _ rfl o_int
  obtain ⟨a1, h1⟩ := opens_field Tryz.underlying89 h 1 _ rfl o_int
  obtain ⟨a2, h2⟩ := opens_field Tryz.underlying89 h 2 _ rfl o_int
  obtain ⟨a3, v, h3, hs⟩ := opens_field Tryz.underlying89 h 3 _ rfl o_ints
  match cs, hl with
  | [c0, c1, c2, c3], _ =>
    simp only [List.getElem_toArray, List.getElem_cons_zero, List.getElem_cons_succ, cInt, cSInt, IntR, List.drop_zero, List.take_succ_cons, List.take_zero, List.drop_succ_cons, List.cons.injEq, and_true] at h0 h1 h2 h3
    obtain ⟨rfl, w0⟩ := h0
    obtain ⟨rfl, w1⟩ := h1
    obtain ⟨rfl, w2⟩ := h2
    subst h3
    exact ⟨⟨a0, a1, a2, a3⟩, _, rfl, hs, w0, w1, w2⟩
theorem o_makes : Opens enc Tryz.prog w spare held 30 (fun cs (xs : List TMake) => ∃ v, cs = [v] ∧ SliceR w w.heap.size 4 (MakeR w w.heap.size) v xs) := opens_slice Tryz.underlying30 cMake (by decide) cSMake o_make

set_option maxRecDepth 100000 in
theorem o_exit : Opens enc Tryz.prog w spare held 32 (ExitR w w.heap.size) := by
  intro fuel cs x h
  have hl := opens_len Tryz.underlying32 h
  refine ⟨hl, ?_⟩
  rw [cExit] at hl
  obtain ⟨a0, h0⟩ := opens_field Tryz.underlying32 h 0 _ rfl o_int
  obtain ⟨a1, h1⟩ := opens_field Tryz.underlying32 h 1 _ rfl o_int
  obtain ⟨a2, v, h2, hs⟩ := opens_field Tryz.underlying32 h 2 _ rfl o_sets
  obtain ⟨a3, u, h3, hm⟩ := opens_field Tryz.underlying32 h 3 _ rfl o_makes
  match cs, hl with
  | [c0, c1, c2, c3], _ =>
    simp only [List.getElem_toArray, List.getElem_cons_zero, List.getElem_cons_succ, cInt, cSSet, cSMake, IntR, List.drop_zero, List.take_succ_cons, List.take_zero, List.drop_succ_cons, List.cons.injEq, and_true] at h0 h1 h2 h3
    obtain ⟨rfl, w0⟩ := h0
    obtain ⟨rfl, w1⟩ := h1
    subst h2; subst h3
    exact ⟨⟨a0, a1, a2, a3⟩, _, _, rfl, hs, hm, w0, w1⟩
theorem o_exits : Opens enc Tryz.prog w spare held 28 (fun cs (xs : List TExit) => ∃ v, cs = [v] ∧ SliceR w w.heap.size 4 (ExitR w w.heap.size) v xs) := opens_slice Tryz.underlying28 cExit (by decide) cSExit o_exit

set_option maxRecDepth 100000 in
theorem o_trace : Opens enc Tryz.prog w spare held 34 (TraceR w w.heap.size) := by
  intro fuel cs x h
  have hl := opens_len Tryz.underlying34 h
  refine ⟨hl, ?_⟩
  rw [cTrace] at hl
  obtain ⟨a0, h0⟩ := opens_field Tryz.underlying34 h 0 _ rfl o_int
  obtain ⟨a1, h1⟩ := opens_field Tryz.underlying34 h 1 _ rfl o_int
  obtain ⟨a2, h2⟩ := opens_field Tryz.underlying34 h 2 _ rfl o_int
  obtain ⟨a3, v, h3, hs⟩ := opens_field Tryz.underlying34 h 3 _ rfl o_inss
  obtain ⟨a4, u, h4, hm⟩ := opens_field Tryz.underlying34 h 4 _ rfl o_exits
  obtain ⟨a5, h5⟩ := opens_field Tryz.underlying34 h 5 _ rfl o_exit
  obtain ⟨a6, h6⟩ := opens_field Tryz.underlying34 h 6 _ rfl o_exit
  match cs, hl with
  | [c0, c1, c2, c3, c4, c5, c6, c7, c8, c9, c10, c11, c12], _ =>
    simp only [List.getElem_toArray, List.getElem_cons_zero, List.getElem_cons_succ, cInt, cSIns, cSExit, cExit, IntR, List.drop_zero, List.take_succ_cons, List.take_zero, List.drop_succ_cons, List.cons.injEq, and_true] at h0 h1 h2 h3 h4 h5 h6
    obtain ⟨rfl, w0⟩ := h0
    obtain ⟨rfl, w1⟩ := h1
    obtain ⟨rfl, w2⟩ := h2
    subst h3; subst h4
    exact ⟨⟨a0, a1, a2, a3, a4, a5, a6⟩, _, _, _, _, rfl, hs, hm, h5, h6, w0, w1, w2⟩

set_option maxRecDepth 100000 in
theorem open_trace {v : Value} {d : DataW H} {ps : List MemPlace} {r : Reach} {b0 : Nat} (hv : Value.okWide Tryz.prog w r b0 34 v) (h : DataW.Trod enc Tryz.prog w 0 spare held 34 v d ps) : ∃ cs t, v = .agg ⟨cs⟩ ∧ TraceR w w.heap.size cs t := by
  obtain ⟨cs, rfl, _⟩ := okWide_struct Tryz.underlying34 hv
  obtain ⟨fuel, hf⟩ := h
  obtain ⟨_, t, ht⟩ := o_trace _ _ _ hf
  exact ⟨cs.toList, t, rfl, ht⟩
end
#print axioms open_trace
end Go.Proofs.YtlnkjmgfkpeicaaGreatDoor
