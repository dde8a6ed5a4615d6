/- Slices and structs in memory, as lists and structures. -/
import Derived.WalkKit
import Derived.ProofKit
import Derived.OpenShut
import Derived.Deep.Slices
import Derived.Lib.Hide
namespace Go.Proofs.YtmccomeihnaanaaDoor
open Go.ChangeShapes Go.WideShapes Go.ChangeAt Go.RowKit

/-- fits an int -/
def wfi (a : Int) : Prop := -9223372036854775808 ≤ a ∧ a ≤ 9223372036854775807
theorem wfi_of {a : Int} (h : (Lit.int .i64 a).wf = true) : wfi a := by
  simp [Lit.wf, IntKind.min, IntKind.max, IntKind.signed, IntKind.bits] at h
  exact ⟨by omega, by omega⟩

theorem cell_lt {w : World} {a : Addr} {v : Value} (h : w.cell? a = some v) : a.block < w.heap.size := by
  unfold World.cell? at h
  split at h
  · rename_i hb
    exact (Array.getElem?_eq_some_iff.1 hb).1
  · cases h
theorem cell_spot {w : World} {a : Addr} {v : Value} (h : w.cell? a = some v) : a.spot = none := by
  unfold World.cell? at h
  split at h
  · split at h
    · cases h
    · rename_i hs
      simpa using hs
  · cases h

/-- the cells from place off of block b on hold cs -/
def CellsAt (w : World) (b off : Nat) (cs : List Value) : Prop := ∀ j v, cs[j]? = some v → w.cell? ⟨b, off + j, none⟩ = some v

/-- THE SLICE v HOLDS xs: each in 'size' cells, as R says. All below block B. -/
def SliceR {α : Type} (w : World) (B size : Nat) (R : List Value → α → Prop) (v : Value) (xs : List α) : Prop :=
  ∃ A cap, v = .slice A xs.length cap ∧ xs.length ≤ cap ∧ cap ≤ maxLen ∧
    (0 < xs.length → ∃ b off, A = some ⟨b, off, none⟩ ∧ b < B ∧ ∀ i x, xs[i]? = some x → ∃ cs, cs.length = size ∧ R cs x ∧ CellsAt w b (off + i * size) cs)

theorem CellsAt.keep {w w' : World} {B b off : Nat} {cs : List Value} (h : CellsAt w b off cs) (hb : b < B) (hk : ∀ p : Addr, p.block < B → w'.cell? p = w.cell? p) : CellsAt w' b off cs :=
  fun j v hj => (hk _ hb).trans (h j v hj)

theorem SliceR.keep {α : Type} {w w' : World} {B B' size : Nat} {R R' : List Value → α → Prop} {v : Value} {xs : List α} (h : SliceR w B size R v xs) (hB : B ≤ B') (hk : ∀ p : Addr, p.block < B → w'.cell? p = w.cell? p)
    (hR : ∀ cs x, R cs x → R' cs x) : SliceR w' B' size R' v xs := by
  obtain ⟨A, cap, h1, h2, h3, h4⟩ := h
  refine ⟨A, cap, h1, h2, h3, fun hp => ?_⟩
  obtain ⟨b, off, h5, h6, h7⟩ := h4 hp
  refine ⟨b, off, h5, by omega, fun i x hi => ?_⟩
  obtain ⟨cs, c1, c2, c3⟩ := h7 i x hi
  exact ⟨cs, c1, hR cs x c2, c3.keep h6 hk⟩

theorem SliceR.at_ {α : Type} {w : World} {B size : Nat} {R : List Value → α → Prop} {A : Option Addr} {n cap : Nat} {xs : List α} (h : SliceR w B size R (.slice A n cap) xs) {i : Nat} (hi : i < xs.length) :
    ∃ b off x cs, A = some ⟨b, off, none⟩ ∧ b < B ∧ xs[i]? = some x ∧ cs.length = size ∧ R cs x ∧ CellsAt w b (off + i * size) cs := by
  obtain ⟨A', cap', h1, h2, h3, h4⟩ := h
  obtain ⟨b, off, h5, h6, h7⟩ := h4 (by omega)
  injection h1 with e1 e2 e3
  have hx : xs[i]? = some xs[i] := List.getElem?_eq_getElem hi
  obtain ⟨cs, c1, c2, c3⟩ := h7 i _ hx
  exact ⟨b, off, xs[i], cs, by rw [e1, h5], h6, hx, c1, c2, c3⟩

theorem SliceR.len {α : Type} {w : World} {B size : Nat} {R : List Value → α → Prop} {A : Option Addr} {n cap : Nat} {xs : List α} (h : SliceR w B size R (.slice A n cap) xs) : n = xs.length ∧ n ≤ cap ∧ cap ≤ maxLen := by
  obtain ⟨A', cap', h1, h2, h3, h4⟩ := h
  injection h1 with e1 e2 e3
  subst e2; subst e3
  exact ⟨rfl, h2, h3⟩

theorem SliceR.nil {α : Type} (w : World) (B size : Nat) (R : List Value → α → Prop) : SliceR w B size R (.slice none 0 0) [] := ⟨none, 0, rfl, Nat.le_refl _, by decide, by simp⟩

/-- a prefix, of the same array -/
theorem SliceR.take {α : Type} {w : World} {B size : Nat} {R : List Value → α → Prop} {A : Option Addr} {n cap k : Nat} {xs : List α} (h : SliceR w B size R (.slice A n cap) xs) (hk : k ≤ n) :
    SliceR w B size R (.slice A k cap) (xs.take k) := by
  obtain ⟨A', cap', h1, h2, h3, h4⟩ := h
  injection h1 with e1 e2 e3
  subst e1; subst e2; subst e3
  have hl : (xs.take k).length = k := by simp; omega
  refine ⟨A, cap, by rw [hl], by omega, h3, fun hp => ?_⟩
  obtain ⟨b, off, h5, h6, h7⟩ := h4 (by omega)
  refine ⟨b, off, h5, h6, fun i x hi => h7 i x ?_⟩
  rw [List.getElem?_take] at hi
  split at hi
  · exact hi
  · cases hi

/-- ints -/
def IntR (cs : List Value) (x : Int) : Prop := cs = [.int .i64 x] ∧ wfi x

section
variable {H : Type} {enc : TypeId × Value → H} {P : Program} {w : World} {spare : Nat → Bool} {held : Bool}

/-- whatever reads as type t, is something, as R says -/
def Opens {α : Type} (enc : TypeId × Value → H) (P : Program) (w : World) (spare : Nat → Bool) (held : Bool) (t : TypeId) (R : List Value → α → Prop) : Prop :=
  ∀ (fuel : Nat) (cs : List Value) (x : DataW H × List MemPlace), DataW.trod enc P w 0 spare held fuel t cs = some x → cs.length = P.cellsOf t ∧ ∃ a, R cs a

theorem opens_int {t : TypeId} (ht : P.underlying t = some (.int .i64)) (hc : P.cellsOf t = 1) : Opens enc P w spare held t IntR := by
  intro fuel cs x h
  obtain ⟨n, rfl, _, hw⟩ := DataW.trod_int ht h
  exact ⟨hc.symm, n, rfl, wfi_of hw⟩

def BoolR (cs : List Value) (x : Bool) : Prop := cs = [.bool x]
theorem opens_bool {t : TypeId} (ht : P.underlying t = some .bool) (hc : P.cellsOf t = 1) : Opens enc P w spare held t BoolR := by
  intro fuel cs x h
  obtain ⟨n, rfl, _⟩ := DataW.trod_bool ht h
  exact ⟨hc.symm, n, rfl⟩

def StrR (cs : List Value) (s : ByteArray) : Prop := cs = [.string s] ∧ s.size ≤ maxLen
theorem opens_string {t : TypeId} (ht : P.underlying t = some .string) (hc : P.cellsOf t = 1) : Opens enc P w spare held t StrR := by
  intro fuel cs x h
  obtain ⟨s, rfl, _, hs⟩ := DataW.trod_string ht h
  exact ⟨hc.symm, s, rfl, hs⟩

theorem choose_list {α : Type} {len : Nat} {p : Nat → α → Prop} (h : ∀ i, i < len → ∃ x, p i x) : ∃ xs : List α, xs.length = len ∧ ∀ i x, xs[i]? = some x → p i x := by
  induction len with
  | zero => exact ⟨[], rfl, by simp⟩
  | succ n ih =>
    obtain ⟨xss, h1, h2⟩ := ih (fun i hi => h i (by omega))
    obtain ⟨xs, h3⟩ := h n (by omega)
    refine ⟨xss ++ [xs], by simp [h1], fun i ys hi => ?_⟩
    rcases Nat.lt_or_ge i xss.length with hl | hl
    · rw [List.getElem?_append_left hl] at hi
      exact h2 i ys hi
    · rw [List.getElem?_append_right hl] at hi
      have : i - xss.length = 0 := by
        rcases Nat.eq_zero_or_pos (i - xss.length) with h0 | h0
        · exact h0
        · rw [List.getElem?_eq_none (by simp; omega)] at hi; cases hi
      rw [this] at hi
      simp at hi
      subst hi
      have : i = n := by omega
      subst this
      exact h3

theorem opens_slice {α : Type} {t e : TypeId} {R : List Value → α → Prop} {n : Nat} (ht : P.underlying t = some (.slice e)) (hn : P.cellsOf e = n) (hpos : 0 < n) (hc : P.cellsOf t = 1)
    (he : Opens enc P w spare held e R) : Opens enc P w spare held t (fun cs (xs : List α) => ∃ v, cs = [v] ∧ SliceR w w.heap.size n R v xs) := by
  intro fuel cs x h
  rcases Deep.open_slice ht h with ⟨rfl, _⟩ | ⟨a, len, cap, m, n', D, Pl, rfl, hb, hl, hm, hmm, hx, hi⟩
  · exact ⟨hc.symm, [], _, rfl, SliceR.nil _ _ _ _⟩
  · refine ⟨hc.symm, ?_⟩
    have hlm : len ≤ m := by rw [hmm]; split <;> omega
    obtain ⟨xs, h1, h2⟩ := choose_list (len := len) (p := fun i (x : α) => ∃ cs, cs.length = n ∧ R cs x ∧ ∀ j v, cs[j]? = some v → w.cell? (a.add (i * n + j)) = some v) (fun i hil => by
      obtain ⟨cs', hc', ht'⟩ := hi i (by omega)
      rw [hn] at hc'
      obtain ⟨_, hcl, hat⟩ := World.cells?_some hc'
      obtain ⟨_, y, hy⟩ := he _ _ _ ht'
      refine ⟨y, cs', hcl, hy, fun j v hj => ?_⟩
      have hjl : j < cs'.length := (List.getElem?_eq_some_iff.1 hj).1
      have hcell := hat j (by omega)
      rw [← Go.Deep.add_add, hcell]
      exact hj)
    refine ⟨xs, _, rfl, some a, cap, by rw [h1], by omega, hm, fun hp => ?_⟩
    have e0 : xs[0]? = some xs[0] := List.getElem?_eq_getElem hp
    obtain ⟨cs0, b1, b2, b3⟩ := h2 0 _ e0
    have e1 : cs0[0]? = some (cs0[0]'(by omega)) := List.getElem?_eq_getElem (by omega)
    have hc0 := b3 0 _ e1
    have hsp := cell_spot hc0
    have hlt := cell_lt hc0
    simp [Addr.add] at hsp hlt
    obtain ⟨b, off, sp⟩ := a
    simp at hsp hlt
    subst hsp
    refine ⟨b, off, rfl, hlt, fun i x hi => ?_⟩
    obtain ⟨cs, c1, c2, c3⟩ := h2 i x hi
    refine ⟨cs, c1, c2, fun j v hj => ?_⟩
    have := c3 j v hj
    rw [Addr.add] at this
    split at this
    · rename_i h0
      rw [Nat.add_assoc, h0]; exact this
    · rw [Nat.add_assoc]; exact this

/-- a struct's field, read -/
theorem opens_field {α : Type} {t : TypeId} {fs : Array Field} {fuel : Nat} {cs : List Value} {x : DataW H × List MemPlace} (ht : P.underlying t = some (.struct fs)) (h : DataW.trod enc P w 0 spare held fuel t cs = some x)
    (i : Nat) (f : Field) (hf : fs[i]? = some f) {R : List Value → α → Prop} (ho : Opens enc P w spare held f.type R) : ∃ a, R ((cs.drop f.offset).take (P.cellsOf f.type)) a := by
  obtain ⟨xs, m, rfl, _, hlen, hxl, hg⟩ := DataW.trod_struct ht h
  have h1 := hg i f hf
  have hi : i < fs.size := (Array.getElem?_eq_some_iff.1 hf).1
  have h2 : xs[i]? = some (xs[i]'(by omega)) := List.getElem?_eq_getElem (by omega)
  rw [h2] at h1
  exact (ho _ _ _ h1).2
theorem opens_len {t : TypeId} {fs : Array Field} {fuel : Nat} {cs : List Value} {x : DataW H × List MemPlace} (ht : P.underlying t = some (.struct fs)) (h : DataW.trod enc P w 0 spare held fuel t cs = some x) : cs.length = P.cellsOf t := by
  obtain ⟨xs, m, rfl, _, hlen, hxl, hg⟩ := DataW.trod_struct ht h
  exact hlen
end
#print axioms opens_slice
end Go.Proofs.YtmccomeihnaanaaDoor
