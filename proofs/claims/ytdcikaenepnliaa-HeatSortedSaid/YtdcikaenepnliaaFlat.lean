/- Arguments of flat types (ints, structs and arrays of ints), and slices of such: what their cells hold. -/
import Derived.WalkKit
import Derived.ProofKit
import Derived.OpenShut
import Derived.Deep.Slices
namespace Go.Proofs.Ytdcikaenepnliaa
open Go.ChangeShapes Go.WideShapes Go.ChangeAt Go.RowKit

/-- fits an int -/
def wfi (a : Int) : Prop := -9223372036854775808 ≤ a ∧ a ≤ 9223372036854775807
theorem wfi_of {a : Int} (h : (Lit.int .i64 a).wf = true) : wfi a := by
  simp [Lit.wf, IntKind.min, IntKind.max, IntKind.signed, IntKind.bits] at h
  exact ⟨by omega, by omega⟩

/-- type t holds ints alone -/
def flatB (P : Program) : Nat → TypeId → Bool
  | 0, _ => false
  | d + 1, t =>
    match P.underlying t with
    | some (.int .i64) => P.cellsOf t == 1
    | some (.struct fs) => fs.all (fun f => flatB P d f.type) && (List.range (P.cellsOf t)).all fun i => fs.any fun f => f.offset ≤ i && i < f.offset + P.cellsOf f.type
    | some (.array n e) => flatB P d e && P.cellsOf t == n * P.cellsOf e
    | _ => false

section
variable {H : Type} {enc : TypeId × Value → H} {P : Program} {w : World} {base : Nat} {spare : Nat → Bool} {held : Bool}

def AllInt (cs : List Value) : Prop := ∀ i, i < cs.length → ∃ n, cs[i]? = some (.int .i64 n) ∧ wfi n

theorem AllInt.list : ∀ {cs : List Value}, AllInt cs → ∃ xs : List Int, cs = xs.map (Value.int .i64) ∧ ∀ x ∈ xs, wfi x
  | [], _ => ⟨[], rfl, by simp⟩
  | c :: cs, h => by
    obtain ⟨n, h1, h2⟩ := h 0 (by simp)
    obtain ⟨xs, h3, h4⟩ := AllInt.list (cs := cs) (fun i hi => by
      obtain ⟨m, h5, h6⟩ := h (i + 1) (by simpa using hi)
      exact ⟨m, by simpa using h5, h6⟩)
    refine ⟨n :: xs, ?_, ?_⟩
    · simp at h1
      rw [h1, h3]; rfl
    · intro x hx
      rcases List.mem_cons.1 hx with rfl | hx
      · exact h2
      · exact h4 x hx

theorem flat_allInt : ∀ (d : Nat) (t : TypeId) (fuel : Nat) (cs : List Value) (x : DataW H × List MemPlace), flatB P d t = true → DataW.trod enc P w base spare held fuel t cs = some x → AllInt cs ∧ cs.length = P.cellsOf t
  | 0, _, _, _, _, h, _ => by cases h
  | d + 1, t, fuel, cs, x, h, hx => by
    unfold flatB at h
    split at h
    · rename_i hu
      obtain ⟨n, rfl, _, hw⟩ := DataW.trod_int hu hx
      simp at h
      refine ⟨fun i hi => ?_, by simp [h]⟩
      simp at hi
      subst hi
      exact ⟨n, rfl, wfi_of hw⟩
    · rename_i fs hu
      simp only [Bool.and_eq_true, Array.all_eq_true_iff_forall_mem, List.all_eq_true, List.mem_range, Array.any_eq_true, decide_eq_true_eq] at h
      obtain ⟨h1, h2⟩ := h
      obtain ⟨xs, m, rfl, _, hlen, hxl, hf⟩ := DataW.trod_struct hu hx
      refine ⟨fun i hi => ?_, hlen⟩
      obtain ⟨j, hj, ho⟩ := h2 i (by omega)
      have hj' : fs[j]? = some fs[j] := Array.getElem?_eq_getElem hj
      have h3 := hf j fs[j] hj'
      have h4 : xs[j]? = some (xs[j]'(by omega)) := List.getElem?_eq_getElem (by omega)
      rw [h4] at h3
      obtain ⟨a1, a2⟩ := flat_allInt d _ m _ _ (h1 fs[j] (Array.getElem_mem hj)) h3
      obtain ⟨n, h5, h6⟩ := a1 (i - fs[j].offset) (by omega)
      refine ⟨n, ?_, h6⟩
      rw [List.getElem?_take, if_pos (by omega), List.getElem?_drop] at h5
      rw [← h5]
      congr 1
      omega
    · rename_i n e hu
      simp only [Bool.and_eq_true, beq_iff_eq] at h
      obtain ⟨h1, h2⟩ := h
      obtain ⟨xs, m, rfl, _, hlen, hxl, hf⟩ := DataW.trod_array hu hx
      refine ⟨fun i hi => ?_, hlen⟩
      have hpos : 0 < P.cellsOf e := by
        rcases Nat.eq_zero_or_pos (P.cellsOf e) with h0 | h0
        · rw [h0, Nat.mul_zero] at h2; omega
        · exact h0
      have hin : i / P.cellsOf e < n := by
        rw [Nat.div_lt_iff_lt_mul hpos]
        omega
      have h3 := hf (i / P.cellsOf e) hin
      have h4 : xs[i / P.cellsOf e]? = some (xs[i / P.cellsOf e]'(by omega)) := List.getElem?_eq_getElem (by omega)
      rw [h4] at h3
      obtain ⟨a1, a2⟩ := flat_allInt d _ m _ _ h1 h3
      have hmod : i % P.cellsOf e < P.cellsOf e := Nat.mod_lt _ hpos
      obtain ⟨n', h5, h6⟩ := a1 (i % P.cellsOf e) (by omega)
      refine ⟨n', ?_, h6⟩
      rw [List.getElem?_take, if_pos (by omega), List.getElem?_drop] at h5
      rw [← h5]
      congr 1
      have := Nat.div_add_mod i (P.cellsOf e)
      rw [Nat.mul_comm] at this
      exact this.symm
    · cases h

/-- THE SLICE AT A HOLDS xss, rows of n ints each, below block B. -/
def IntRows (w : World) (B n : Nat) (A : Option Addr) (xss : List (List Int)) : Prop :=
  (∀ xs ∈ xss, xs.length = n ∧ ∀ x ∈ xs, wfi x) ∧ (0 < xss.length → ∃ b off, A = some ⟨b, off, none⟩ ∧ b < B ∧ ∀ i j xs x, xss[i]? = some xs → xs[j]? = some x → w.cell? ⟨b, off + i * n + j, none⟩ = some (.int .i64 x))

theorem cell_lt {a : Addr} {v : Value} (h : w.cell? a = some v) : a.block < w.heap.size := by
  unfold World.cell? at h
  split at h
  · rename_i hb
    exact (Array.getElem?_eq_some_iff.1 hb).1
  · cases h
theorem cell_spot {a : Addr} {v : Value} (h : w.cell? a = some v) : a.spot = none := by
  unfold World.cell? at h
  split at h
  · split at h
    · cases h
    · rename_i hs
      simpa using hs
  · cases h

theorem choose_rows {len : Nat} {p : Nat → List Int → Prop} (h : ∀ i, i < len → ∃ xs, p i xs) : ∃ xss : List (List Int), xss.length = len ∧ ∀ i xs, xss[i]? = some xs → p i xs := by
  induction len with
  | zero => exact ⟨[], rfl, by simp⟩
  | succ n ih =>
    obtain ⟨xss, h1, h2⟩ := ih (fun i hi => h i (by omega))
    obtain ⟨xs, h3⟩ := h n (by omega)
    refine ⟨xss ++ [xs], by simp [h1], fun i ys hi => ?_⟩
    rcases Nat.lt_or_ge i xss.length with hl | hl
    · rw [List.getElem?_append_left hl] at hi
      exact h2 i ys hi
    · rw [List.getElem?_append_right hl] at hi
      have : i - xss.length = 0 := by
        rcases Nat.eq_zero_or_pos (i - xss.length) with h0 | h0
        · exact h0
        · rw [List.getElem?_eq_none (by simp; omega)] at hi; cases hi
      rw [this] at hi
      simp at hi
      subst hi
      have : i = n := by omega
      subst this
      exact h3

theorem flat_slice {t e : TypeId} {d n fuel : Nat} {cs : List Value} {x : DataW H × List MemPlace} (ht : P.underlying t = some (.slice e)) (hf : flatB P d e = true) (hn : P.cellsOf e = n) (hpos : 0 < n)
    (h : DataW.trod enc P w base spare held fuel t cs = some x) :
    ∃ (A : Option Addr) (len cap : Nat) (xss : List (List Int)), cs = [.slice A len cap] ∧ len ≤ cap ∧ cap ≤ maxLen ∧ xss.length = len ∧ IntRows w w.heap.size n A xss := by
  rcases Deep.open_slice ht h with ⟨rfl, _⟩ | ⟨a, len, cap, m, n', D, Pl, rfl, hb, hl, hm, hmm, hx, hi⟩
  · exact ⟨none, 0, 0, [], rfl, Nat.le_refl _, by decide, rfl, by simp, by simp⟩
  · have hlm : len ≤ m := by rw [hmm]; split <;> omega
    obtain ⟨xss, h1, h2⟩ := choose_rows (len := len) (p := fun i xs => xs.length = n ∧ (∀ x ∈ xs, wfi x) ∧ ∀ j x, xs[j]? = some x → w.cell? (a.add (i * n + j)) = some (.int .i64 x)) (fun i hil => by
      obtain ⟨cs', hc, ht'⟩ := hi i (by omega)
      rw [hn] at hc
      obtain ⟨_, hcl, hat⟩ := World.cells?_some hc
      obtain ⟨a1, a2⟩ := flat_allInt d e n' cs' _ hf ht'
      obtain ⟨xs, rfl, hw⟩ := a1.list
      refine ⟨xs, by simpa using hcl, hw, fun j x hj => ?_⟩
      have hjl : j < xs.length := (List.getElem?_eq_some_iff.1 hj).1
      have hcell := hat j (by simp at hcl; omega)
      rw [← Go.Deep.add_add, hcell]
      simp [hj])
    refine ⟨some a, len, cap, xss, rfl, hl, hm, h1, fun xs hxs => ?_, fun hp => ?_⟩
    · obtain ⟨i, hi'⟩ := List.getElem?_of_mem hxs
      exact ⟨(h2 i xs hi').1, (h2 i xs hi').2.1⟩
    · have e0 : xss[0]? = some (xss[0]'hp) := List.getElem?_eq_getElem hp
      obtain ⟨b1, b2, b3⟩ := h2 0 _ e0
      have e1 : (xss[0]'hp)[0]? = some ((xss[0]'hp)[0]'(by omega)) := List.getElem?_eq_getElem (by omega)
      have hc0 := b3 0 _ e1
      have hsp := cell_spot hc0
      have hlt := cell_lt hc0
      simp [Addr.add] at hsp hlt
      obtain ⟨b, off, sp⟩ := a
      simp at hsp hlt
      subst hsp
      refine ⟨b, off, rfl, hlt, fun i j xs x hi hj => ?_⟩
      have := (h2 i xs hi).2.2 j x hj
      rw [Addr.add] at this
      split at this
      · rename_i h0
        rw [Nat.add_assoc, h0]; exact this
      · rw [Nat.add_assoc]; exact this

theorem IntRows.keep {w w' : World} {B n : Nat} {A : Option Addr} {xss : List (List Int)} (h : IntRows w B n A xss) (hk : ∀ p : Addr, p.block < B → w'.cell? p = w.cell? p) : IntRows w' B n A xss :=
  ⟨h.1, fun hp => by
    obtain ⟨b, off, h1, h2, h3⟩ := h.2 hp
    exact ⟨b, off, h1, h2, fun i j xs x hi hj => (hk _ h2).trans (h3 i j xs x hi hj)⟩⟩
theorem IntRows.below {w w' : World} {B n : Nat} {A : Option Addr} {xss : List (List Int)} (h : IntRows w B n A xss) (hb : Below B w w') : IntRows w' B n A xss := h.keep fun _ hp => hb.cell hp
theorem IntRows.more {w : World} {B B' n : Nat} {A : Option Addr} {xss : List (List Int)} (h : IntRows w B n A xss) (hB : B ≤ B') : IntRows w B' n A xss :=
  ⟨h.1, fun hp => by
    obtain ⟨b, off, h1, h2, h3⟩ := h.2 hp
    exact ⟨b, off, h1, by omega, h3⟩⟩
theorem IntRows.take {w : World} {B n : Nat} {A : Option Addr} {xss : List (List Int)} (h : IntRows w B n A xss) (k : Nat) : IntRows w B n A (xss.take k) :=
  ⟨fun xs hx => h.1 xs (List.mem_of_mem_take hx), fun hp => by
    obtain ⟨b, off, h1, h2, h3⟩ := h.2 (by simp at hp; omega)
    refine ⟨b, off, h1, h2, fun i j xs x hi hj => h3 i j xs x ?_ hj⟩
    rw [List.getElem?_take] at hi
    split at hi
    · exact hi
    · cases hi⟩
end
#print axioms flat_slice
end Go.Proofs.Ytdcikaenepnliaa
