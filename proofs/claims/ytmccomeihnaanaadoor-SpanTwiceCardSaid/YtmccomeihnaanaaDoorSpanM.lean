/- span.Of as a plain function; further on a span is no wider. No program. -/
import Derived.Test.YtmccomeihnaanaaDoorKindN
namespace Go.Proofs.YtmccomeihnaanaaDoor

def cutS (n : Int) : Int := min (max n (-2147483648)) 2147483647
def allS : Int × Int := (-2147483648, 2147483647)
def intsM (ins : List TIns) (i : Int) : Bool := kindM ins (insAt ins i).a i == 2 && kindM ins (insAt ins i).b i == 2
/-- reckoned of both operands' spans; S: the spans at this place -/
def reckM (S : Int → Int × Int) (x : TIns) : Option (Int × Int) :=
  if x.n = 3 then some ((S x.a).1 + (S x.b).1, (S x.a).2 + (S x.b).2)
  else if x.n = 4 then some ((S x.a).1 - (S x.b).2, (S x.a).2 - (S x.b).1)
  else if x.n = 5 then some (min (min (min ((S x.a).1 * (S x.b).1) ((S x.a).1 * (S x.b).2)) ((S x.a).2 * (S x.b).1)) ((S x.a).2 * (S x.b).2), max (max (max ((S x.a).1 * (S x.b).1) ((S x.a).1 * (S x.b).2)) ((S x.a).2 * (S x.b).1)) ((S x.a).2 * (S x.b).2))
  else none
def itselfM (ins : List TIns) (S : Int → Int × Int) (v : Int) : Int × Int :=
  if (insAt ins v).op = 2 ∧ (insAt ins v).k.kind = 2 then ((insAt ins v).k.n, (insAt ins v).k.n)
  else if (insAt ins v).op = 15 then (0, 600)
  else if (insAt ins v).op ≠ 7 ∨ intsM ins v = false then allS
  else match reckM S (insAt ins v) with
    | some b => (cutS b.1, cutS b.2)
    | none => if (insAt ins v).n = 7 ∧ 1 ≤ (S (insAt ins v).b).1 then
        (if 0 ≤ (S (insAt ins v).a).1 then (0, (S (insAt ins v).b).2 - 1) else (-((S (insAt ins v).b).2 - 1), (S (insAt ins v).b).2 - 1))
      else allS
def narrowM (S : Int → Int × Int) (s : Int × Int) (v a b d : Int) : Int × Int :=
  let s1 := if v = a then (if s.1 ≤ min s.2 ((S b).2 - d) then (s.1, min s.2 ((S b).2 - d)) else s) else s
  if v = b then (if max s1.1 ((S a).1 + d) ≤ s1.2 then (max s1.1 ((S a).1 + d), s1.2) else s1) else s1
def spanStep (ins : List TIns) (S : Int → Int → Int × Int) (v : Int) (s : Int × Int) (i : Nat) : Int × Int :=
  if (insAt ins i).op ≠ 5 then s
  else if (insAt ins (insAt ins i).a).op ≠ 7 ∨ ((insAt ins (insAt ins i).a).n ≠ 9 ∧ (insAt ins (insAt ins i).a).n ≠ 10) ∨ ((insAt ins (insAt ins i).a).a ≠ v ∧ (insAt ins (insAt ins i).a).b ≠ v) ∨ intsM ins (insAt ins i).a = false then s
  else if (insAt ins i).n = 1 then narrowM (S · i) s v (insAt ins (insAt ins i).a).a (insAt ins (insAt ins i).a).b (if (insAt ins (insAt ins i).a).n = 9 then 1 else 0)
  else narrowM (S · i) s v (insAt ins (insAt ins i).a).b (insAt ins (insAt ins i).a).a (1 - (if (insAt ins (insAt ins i).a).n = 9 then 1 else 0))
/-- the places between -/
def betw (v at_ : Int) : List Nat := List.range' (v.toNat + 1) (at_.toNat - (v.toNat + 1))
/-- with so much fuel -/
def spanF (ins : List TIns) : Nat → Int → Int → Int × Int
  | 0, _, _ => allS
  | n + 1, v, at_ => if v < 0 ∨ at_ ≤ v then allS else (betw v at_).foldl (spanStep ins (spanF ins n) v) (itselfM ins (spanF ins n · v) v)
def spanM (ins : List TIns) (v at_ : Int) : Int × Int := spanF ins (at_.toNat + 1) v at_

theorem reckM_congr {S T : Int → Int × Int} (h : ∀ v, S v = T v) (x : TIns) : reckM S x = reckM T x := by
  obtain rfl : S = T := funext h
  rfl
theorem itselfM_congr {S T : Int → Int × Int} (h : ∀ v, S v = T v) (ins : List TIns) (v : Int) : itselfM ins S v = itselfM ins T v := by
  obtain rfl : S = T := funext h
  rfl
theorem spanStep_congr {S T : Int → Int → Int × Int} (ins : List TIns) (v : Int) (s : Int × Int) (i : Nat) (h : ∀ u, S u i = T u i) : spanStep ins S v s i = spanStep ins T v s i := by
  have e : (S · (i : Int)) = (T · (i : Int)) := funext h
  unfold spanStep
  rw [e]
theorem fold_congr {α : Type} {f g : α → Nat → α} : ∀ (l : List Nat) (s : α), (∀ i ∈ l, ∀ s, f s i = g s i) → l.foldl f s = l.foldl g s
  | [], _, _ => rfl
  | i :: l, s, h => by
    rw [List.foldl_cons, List.foldl_cons, h i (by simp)]
    exact fold_congr l _ (fun j hj => h j (by simp [hj]))
theorem betw_mem {v at_ : Int} {i : Nat} (h : i ∈ betw v at_) : v.toNat < i ∧ i < at_.toNat := by
  unfold betw at h
  rw [List.mem_range'_1] at h
  omega
theorem spanF_enough (ins : List TIns) : ∀ (n m : Nat) (v at_ : Int), at_.toNat < n → at_.toNat < m → spanF ins n v at_ = spanF ins m v at_
  | 0, _, _, _, h, _ => by omega
  | _ + 1, 0, _, _, _, h => by omega
  | n + 1, m + 1, v, at_, h1, h2 => by
    unfold spanF
    by_cases c : v < 0 ∨ at_ ≤ v
    · rw [if_pos c, if_pos c]
    · rw [if_neg c, if_neg c]
      have e1 : itselfM ins (spanF ins n · v) v = itselfM ins (spanF ins m · v) v := itselfM_congr (fun u => spanF_enough ins n m u v (by omega) (by omega)) ins v
      rw [e1]
      exact fold_congr _ _ (fun i hi s => spanStep_congr ins v s i (fun u => spanF_enough ins n m u i (by have := betw_mem hi; omega) (by have := betw_mem hi; omega)))
/-- a span as the spans of places ahead give it -/
theorem spanM_eq (ins : List TIns) (v at_ : Int) : spanM ins v at_ = if v < 0 ∨ at_ ≤ v then allS else (betw v at_).foldl (spanStep ins (spanM ins) v) (itselfM ins (spanM ins · v) v) := by
  show spanF ins (at_.toNat + 1) v at_ = _
  unfold spanF
  by_cases c : v < 0 ∨ at_ ≤ v
  · rw [if_pos c, if_pos c]
  · rw [if_neg c, if_neg c]
    have e1 : itselfM ins (spanF ins at_.toNat · v) v = itselfM ins (spanM ins · v) v := itselfM_congr (fun u => spanF_enough ins _ _ u v (by omega) (by omega)) ins v
    rw [e1]
    exact fold_congr _ _ (fun i hi s => spanStep_congr ins v s i (fun u => spanF_enough ins _ _ u i (by have := betw_mem hi; omega) (by simp)))

def okS (s : Int × Int) : Prop := -2147483648 ≤ s.1 ∧ s.1 ≤ s.2 ∧ s.2 ≤ 2147483647
theorem allS_ok : okS allS := ⟨by decide, by decide, by decide⟩
def inS (s r : Int × Int) : Prop := r.1 ≤ s.1 ∧ s.1 ≤ s.2 ∧ s.2 ≤ r.2
theorem inS.ok {s r : Int × Int} (h : inS s r) (k : okS r) : okS s := ⟨Int.le_trans k.1 h.1, h.2.1, Int.le_trans h.2.2 k.2.2⟩
theorem narrow_in (S : Int → Int × Int) {s r : Int × Int} (v a b d : Int) (h : inS s r) : inS (narrowM S s v a b d) r := by
  obtain ⟨h1, h2, h3⟩ := h
  unfold narrowM
  dsimp only
  have k1 : inS (if v = a then (if s.1 ≤ min s.2 ((S b).2 - d) then (s.1, min s.2 ((S b).2 - d)) else s) else s) r := by
    split
    · split
      · exact ⟨h1, by assumption, by dsimp only; omega⟩
      · exact ⟨h1, h2, h3⟩
    · exact ⟨h1, h2, h3⟩
  revert k1
  generalize (if v = a then (if s.1 ≤ min s.2 ((S b).2 - d) then (s.1, min s.2 ((S b).2 - d)) else s) else s) = s1
  rintro ⟨k1, k2, k3⟩
  split
  · split
    · exact ⟨by dsimp only; omega, by assumption, k3⟩
    · exact ⟨k1, k2, k3⟩
  · exact ⟨k1, k2, k3⟩
theorem step_in (ins : List TIns) (S : Int → Int → Int × Int) {s r : Int × Int} (v : Int) (i : Nat) (h : inS s r) : inS (spanStep ins S v s i) r := by
  unfold spanStep
  split
  · exact h
  · split
    · exact h
    · split
      · exact narrow_in _ _ _ _ _ h
      · exact narrow_in _ _ _ _ _ h
theorem fold_in (ins : List TIns) (S : Int → Int → Int × Int) (v : Int) : ∀ (l : List Nat) {s r : Int × Int}, inS s r → inS (l.foldl (spanStep ins S v) s) r
  | [], _, _, h => h
  | i :: l, _, _, h => fold_in ins S v l (step_in ins S v i h)
def ConstOk (ins : List TIns) : Prop := ∀ x ∈ ins, x.op = 2 → x.k.kind = 2 → -2147483648 ≤ x.k.n ∧ x.k.n ≤ 2147483647
theorem insAt_of {ins : List TIns} {v : Int} (h : (insAt ins v).op ≠ 0) : insAt ins v ∈ ins := by
  unfold insAt at *
  cases hx : ins[v.toNat]? with
  | none => rw [hx] at h; exact absurd rfl h
  | some x => exact List.mem_of_getElem? hx
theorem cutS_in (n : Int) : -2147483648 ≤ cutS n ∧ cutS n ≤ 2147483647 := by unfold cutS; omega
theorem cutS_mono {a b : Int} (h : a ≤ b) : cutS a ≤ cutS b := by unfold cutS; omega
theorem reck_mono {S : Int → Int × Int} (hS : ∀ v, okS (S v)) {x : TIns} {b : Int × Int} (h : reckM S x = some b) : b.1 ≤ b.2 := by
  obtain ⟨a1, a2, a3⟩ := hS x.a
  obtain ⟨b1, b2, b3⟩ := hS x.b
  unfold reckM at h
  split at h
  · injection h with h; subst h; dsimp only; omega
  split at h
  · injection h with h; subst h; dsimp only; omega
  split at h
  · injection h with h; subst h; dsimp only
    generalize (S x.a).1 * (S x.b).1 = p
    generalize (S x.a).1 * (S x.b).2 = q
    generalize (S x.a).2 * (S x.b).1 = r
    generalize (S x.a).2 * (S x.b).2 = s
    omega
  · cases h
theorem itself_ok {ins : List TIns} (hc : ConstOk ins) {S : Int → Int × Int} (hS : ∀ v, okS (S v)) (v : Int) : okS (itselfM ins S v) := by
  unfold itselfM
  split
  · rename_i h
    have := hc _ (insAt_of (ins := ins) (v := v) (by omega)) h.1 h.2
    exact ⟨this.1, Int.le_refl _, this.2⟩
  split
  · exact ⟨by decide, by decide, by decide⟩
  split
  · exact ⟨by decide, by decide, by decide⟩
  split
  · rename_i b hb
    have := reck_mono hS hb
    exact ⟨(cutS_in _).1, cutS_mono this, (cutS_in _).2⟩
  · split
    · rename_i h
      obtain ⟨b1, b2, b3⟩ := hS (insAt ins v).b
      split
      · exact ⟨by dsimp only; omega, by dsimp only; omega, by dsimp only; omega⟩
      · exact ⟨by dsimp only; omega, by dsimp only; omega, by dsimp only; omega⟩
    · exact ⟨by decide, by decide, by decide⟩
theorem spanF_ok {ins : List TIns} (hc : ConstOk ins) : ∀ (n : Nat) (v at_ : Int), okS (spanF ins n v at_)
  | 0, _, _ => allS_ok
  | n + 1, v, at_ => by
    unfold spanF
    split
    · exact allS_ok
    · have h := itself_ok hc (S := (spanF ins n · v)) (fun u => spanF_ok hc n u v) v
      exact (fold_in ins (spanF ins n) v _ (r := itselfM ins (spanF ins n · v) v) ⟨Int.le_refl _, h.2.1, Int.le_refl _⟩).ok h
theorem spanM_ok {ins : List TIns} (hc : ConstOk ins) (v at_ : Int) : okS (spanM ins v at_) := spanF_ok hc _ v at_
/-- FURTHER ON A SPAN IS NO WIDER; its bounds do not cross. -/
theorem span_later {ins : List TIns} (hc : ConstOk ins) {v a b : Int} (h0 : 0 ≤ v) (h1 : v < a) (h2 : a ≤ b) : inS (spanM ins v b) (spanM ins v a) := by
  have ha := spanM_ok hc v a
  rw [spanM_eq ins v b, if_neg (by omega)]
  rw [spanM_eq ins v a, if_neg (by omega)] at ha ⊢
  have e : betw v b = betw v a ++ List.range' a.toNat (b.toNat - a.toNat) := by
    unfold betw
    rw [show b.toNat - (v.toNat + 1) = (a.toNat - (v.toNat + 1)) + (b.toNat - a.toNat) by omega, ← List.range'_append_1]
    congr 2
    omega
  rw [e, List.foldl_append]
  exact fold_in ins (spanM ins) v _ ⟨Int.le_refl _, ha.2.1, Int.le_refl _⟩
end Go.Proofs.YtmccomeihnaanaaDoor
