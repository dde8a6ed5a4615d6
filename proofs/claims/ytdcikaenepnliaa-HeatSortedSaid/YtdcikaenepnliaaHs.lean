/- slices.SortFunc at heads. -/
import Derived.Test.YtdcikaenepnliaaHk
import Derived.Shelf.SlSortCmp.NoneTotal
namespace Go.Proofs.Ytdcikaenepnliaa
open Go.RowKit Go.Sort Go.Lib

instance : Inhabited Hd := ⟨⟨0, 0, 0, 0, 0, 0⟩⟩

def ltH (x y : Hd) : Prop := x.f < y.f ∨ (x.f = y.f ∧ x.a < y.a)
instance (x y : Hd) : Decidable (ltH x y) := by unfold ltH; exact inferInstance
theorem cmpI_neg (a b : Int) : cmpI a b < 0 ↔ a < b := by
  unfold cmpI
  split
  · rename_i h; simp [h]
  · split <;> simp <;> omega
theorem cmpI_zero (a b : Int) : cmpI a b = 0 ↔ a = b := by
  unfold cmpI
  split
  · simp; omega
  · split <;> simp <;> omega
theorem cmpH_neg (x y : Hd) : cmpH x y < 0 ↔ ltH x y := by
  unfold cmpH orI ltH
  by_cases h : cmpI x.f y.f = 0
  · have := (cmpI_zero _ _).1 h
    rw [if_neg (by simpa using h), cmpI_neg]
    omega
  · have h2 : x.f ≠ y.f := fun e => h ((cmpI_zero _ _).2 e)
    rw [if_pos h, cmpI_neg]
    omega
theorem ltOf_H (x y : Hd) : ltOf cmpH x y = decide (ltH x y) := by
  unfold ltOf
  rw [Bool.eq_iff_iff]
  simp [cmpH_neg]
theorem ltH_trans {x y z : Hd} (h1 : ltOf cmpH x y = true) (h2 : ltOf cmpH y z = true) : ltOf cmpH x z = true := by
  rw [ltOf_H, decide_eq_true_eq] at h1 h2 ⊢
  unfold ltH at *
  omega
theorem ltH_ntrans {x y z : Hd} (h1 : ltOf cmpH x y = false) (h2 : ltOf cmpH y z = false) : ltOf cmpH x z = false := by
  rw [ltOf_H, decide_eq_false_iff_not] at h1 h2 ⊢
  unfold ltH at *
  omega
theorem swoH : SWO (ltOf cmpH) where
  irrefl x := by rw [ltOf_H]; simp [ltH]
  trans x y z h1 h2 := ltH_trans h1 h2
  ntrans x y z h1 h2 := ltH_ntrans h1 h2

theorem isAgg47 : ∀ w : World, (isAgg 47).run Try.prog w = .ok true w := fun _ => by kernel_rfl
theorem size47 : ∀ w : World, (Go.sizeOf 47).run Try.prog w = .ok 6 w := fun _ => by kernel_rfl

theorem cmpLaysH (blk off size : Nat) (w : World) : CmpLays Try.prog 21 #[] headCells 6 cmpH blk off size w :=
  fun _ _ _ _ x y => closure_c x y _

theorem flat_at : ∀ (D : List Hd) (t : Nat), t < D.length * 6 → (D.flatMap headCells)[t]? = some ((headCells D.toArray[t / 6]!)[t % 6]!)
  | [], t, h => by simp at h
  | x :: D, t, h => by
    rcases Nat.lt_or_ge t 6 with h6 | h6
    · rw [List.flatMap_cons, List.getElem?_append_left (by simpa [headCells] using h6)]
      have e0 : t / 6 = 0 := Nat.div_eq_of_lt h6
      have e1 : t % 6 = t := Nat.mod_eq_of_lt h6
      rw [e0, e1]
      have hl : t < (headCells x).length := by simpa [headCells] using h6
      rw [List.getElem?_eq_getElem hl]
      simp [getElem!_pos, hl]
    · rw [List.flatMap_cons, List.getElem?_append_right (by simpa [headCells] using h6)]
      have hl : (headCells x).length = 6 := rfl
      rw [hl]
      have ih := flat_at D (t - 6) (by simp at h; omega)
      rw [ih]
      have e0 : t / 6 = (t - 6) / 6 + 1 := by omega
      have e1 : t % 6 = (t - 6) % 6 := by omega
      rw [e0, e1]
      simp

/-- the slice v holds the heads D -/
def HdRows (w : World) (v : Value) (D : List Hd) : Prop :=
  ∃ A cap, v = .slice A D.length cap ∧ D.length ≤ cap ∧ cap ≤ maxLen ∧ (0 < D.length → ∃ g, A = some ⟨g, 0, none⟩ ∧ g < w.heap.size ∧ ∀ i x, D[i]? = some x → ∀ j u, (headCells x)[j]? = some u → w.cell? ⟨g, i * 6 + j, none⟩ = some u)

def SortedH (D : List Hd) : Prop := ∀ (i j : Nat) (x y : Hd), i < j → D[i]? = some x → D[j]? = some y → ¬ ltH y x

set_option maxHeartbeats 1000000 in
theorem sort_c (w : World) (base : Nat) (v : Value) (D : List Hd) (hown : w.ownsRow base 47 6 v D.length (D.flatMap headCells)) (hD : D.length ≤ 1000) :
    Calls Try.prog 20 #[v, .func (.func 21) #[] #[]] w fun e w' => e = .returned (.tuple #[]) ∧ ∃ D', D'.Perm D ∧ SortedH D' ∧ HdRows w' v D' ∧ w.grownBy w' v.ownBlock := by
  rcases Nat.eq_zero_or_pos D.length with h0 | hpos
  · have hn : D = [] := List.length_eq_zero_iff.1 h0
    subst hn
    obtain ⟨p, cap, hv, hcm⟩ : ∃ p cap, v = .slice p 0 cap ∧ cap ≤ maxLen := by
      rcases hown.2 with ⟨rfl, _⟩ | ⟨g, cap, cur, rfl, _, _, _, h5, _⟩
      · exact ⟨none, 0, rfl, by decide⟩
      · exact ⟨_, cap, rfl, h5⟩
    subst hv
    have hcon := AnyF.slices_SortFunc_none Try.sortHd p cap (.func (.func 21) #[] #[]) w
    change Calls Try.prog 20 _ _ _ at hcon
    refine hcon.mono fun e w' ⟨he, hw⟩ => ?_
    subst hw
    exact ⟨he, [], List.Perm.refl _, (fun i j x y _ h => by cases h), ⟨p, cap, rfl, by simp, hcm, by simp⟩, ⟨rfl, rfl, rfl, Nat.le_refl _, fun _ _ _ => rfl⟩⟩
  · obtain ⟨g, cap, cur, rfl, hb, hg, hcap, hcm, hcs, hcur⟩ : ∃ g cap cur, v = .slice (some ⟨g, 0, none⟩) D.length cap ∧ base ≤ g ∧ w.heap[g]? = some (.cells cur 47 (0, 0)) ∧ D.length ≤ cap ∧ cap ≤ maxLen ∧ cur.size = cap * 6 ∧ cur.toList.take (D.length * 6) = D.flatMap headCells := by
      rcases hown.2 with ⟨_, h⟩ | h
      · omega
      · exact h
    have hlt : g < w.heap.size := (Array.getElem?_eq_some_iff.1 hg).1
    have hH : HoldsK headCells 6 w g 0 D.toArray := by
      intro j hj
      rw [size_flatK] at hj
      have hj' : j < D.length * 6 := by simpa using hj
      refine ⟨?_, by simp [World.frozen?, hg]⟩
      rw [get_flatK _ _ _ _ hj]
      have h1 := flat_at D j hj'
      rw [← hcur, List.getElem?_take, if_pos hj'] at h1
      simp only [World.cell?, hg, Nat.zero_add, Option.isSome_none, Bool.false_eq_true, if_false, id]
      simpa using h1
    have eg : ∀ args w, (callFunc 21 args).run Try.prog w = .ok (.enter 21 args) w := enters_of Try.func21 (by kernel_rfl) rfl
    have hcon := AnyQ.slices_SortFunc Try.sortHd 6 isAgg47 size47 headCells (fun _ => rfl) (fun x v hv => by simp [headCells] at hv; rcases hv with rfl | rfl | rfl | rfl | rfl | rfl <;> rfl) cmpH swoH 21 #[] g 0 cap D.toArray w eg (cmpLaysH g 0 D.toArray.size w) hH hlt (by simp; omega)
    change Calls Try.prog 20 _ _ _ at hcon
    simp only [List.size_toArray] at hcon
    refine hcon.mono fun e w' ⟨he, d', n, os, hp, hs, hw⟩ => ?_
    obtain ⟨hp1, _, hp3⟩ := hp
    have hsz : d'.size = D.length := by simpa using hp1
    have hperm : d'.toList.Perm D := by
      have e1 : d'.extract 0 D.length = d' := by rw [← hsz]; simp
      have e2 : D.toArray.extract 0 D.length = D.toArray := by simp
      rw [e1, e2] at hp3
      simpa using hp3
    have hH' : HoldsK headCells 6 w' g 0 d' := by
      rw [hw]
      exact holdsK_grow headCells 6 _ _ _ _ _ (by simp [putRowK, hlt]) (holdsK_putRowK headCells 6 _ _ _ _ _ (holdsK_ahead headCells 6 _ _ _ _ _ hH) (by simpa using hsz))
    have hgrow : w.grownBy w' (some g) := by
      rw [hw]
      refine ⟨rfl, rfl, rfl, by simp [sortWorldK, putRowK], fun k hk hne => ?_⟩
      have hkg : k ≠ g := fun e => hne (by rw [e])
      unfold sortWorldK
      rw [heap_grow_old _ _ (by simp [putRowK, hk])]
      simp only [putRowK, putRow, mapBlock, heap_ahead]
      rw [Array.getElem?_modify, if_neg (fun e => hkg e.symm)]
    refine ⟨he, d'.toList, hperm, ?_, ⟨some ⟨g, 0, none⟩, cap, by simp [hsz], by simpa [hsz] using hcap, hcm, fun _ => ⟨g, rfl, Nat.lt_of_lt_of_le hlt hgrow.size, ?_⟩⟩, hgrow⟩
    · intro i j x y hij hx hy
      have hj : j < d'.size := by have := (List.getElem?_eq_some_iff.1 hy).1; simpa using this
      have h1 := hs i j (Nat.zero_le _) hij (by rw [hsz] at hj; exact hj)
      rw [ltOf_H, decide_eq_false_iff_not] at h1
      have ex : d'[i]! = x := by
        rw [Array.getElem?_toList] at hx
        rw [getElem!_def, hx]
      have ey : d'[j]! = y := by
        rw [Array.getElem?_toList] at hy
        rw [getElem!_def, hy]
      rw [ex, ey] at h1
      exact h1
    · intro i x hx j u hj
      have hi : i < d'.size := by have := (List.getElem?_eq_some_iff.1 hx).1; simpa using this
      have hj6 : j < 6 := by have := (List.getElem?_eq_some_iff.1 hj).1; simpa [headCells] using this
      have h1 := (hH'.cell hi hj6).1
      have ex : d'[i]! = x := by
        rw [Array.getElem?_toList] at hx
        rw [getElem!_def, hx]
      rw [ex, Nat.zero_add] at h1
      rw [h1, getElem!_def, hj]
end Go.Proofs.Ytdcikaenepnliaa
