/- fold.Do: frames. -/
import Derived.Test.YtmccomeihnaanaaDoorFoldJ
namespace Go.Proofs.YtmccomeihnaanaaDoor
open Go.RowKit

theorem append_nil_nil {P : Program} (t ty e : TypeId) (i : TypeInfo) (ht : P.underlying t = some (.slice e)) (hi : P.info? e = some i) (c : Nat) (W : World) :
    (Builtin.append_ #[t, t] ty #[.slice none 0 0, .slice none 0 c]).run P W = .ok (.slice none 0 0) W := by
  simp [Builtin.append_, run_underlying ht, sizeOf, typeInfo, hi, Builtin.lenOf, Builtin.firstCells]
theorem putM_congr {F F' : Int → Int} {x : TIns} (h : ∀ v ∈ asksM x, F v = F' v) : putM F x = putM F' x := by
  unfold putM
  have hm : ∀ (k : Nat) (v : Int), [x.a, x.b, x.c][k]? = some v → (k : Int) < (formM x.op).asks → v ∈ asksM x := fun k v hv hk => by
    unfold asksM
    refine List.mem_of_getElem? (i := k) ?_
    rw [List.getElem?_take, if_pos (by omega)]
    exact hv
  simp only [TIns.mk.injEq, true_and, and_true]
  refine ⟨?_, ?_, ?_⟩
  · split
    · rename_i h1; exact h _ (hm 0 _ rfl h1)
    · rfl
  · split
    · rename_i h1; exact h _ (hm 1 _ rfl h1)
    · rfl
  · split
    · rename_i h1; exact h _ (hm 2 _ rfl h1)
    · rfl
theorem foldOne_ext {E : FoldE} {d d' : List TIns} {y : TIns} {i : Int} (ha : (y.op = 7 ∨ y.op = 8 ∨ y.op = 4 ∨ y.op = 5 ∨ y.op = 6) → insF d y.a = insF d' y.a) (hb : y.op = 7 → insF d y.b = insF d' y.b) : foldOne E d y i = foldOne E d' y i := by
  by_cases h7 : y.op = 7
  · have a := ha (.inl h7)
    have b := hb h7
    unfold foldOne twoM reckonM neutralM isM constM
    rw [a, b]
  · by_cases h8 : y.op = 8
    · have a := ha (.inr (.inl h8))
      unfold foldOne reckonM constM
      rw [if_neg h7, if_neg h7, if_pos h8, if_pos h8, if_neg h7, if_neg h7, a]
    · by_cases hg : y.op = 4 ∨ y.op = 5 ∨ y.op = 6
      · have a := ha (by omega)
        unfold foldOne constM
        rw [if_neg h7, if_neg h7, if_neg h8, if_neg h8, a]
      · unfold foldOne
        rw [if_neg h7, if_neg h7, if_neg h8, if_neg h8, if_neg hg, if_neg hg]
theorem foldOne_append {E : FoldE} {d l : List TIns} {y : TIns} {i : Int} (h : ∀ o ∈ asksM y, 0 ≤ o ∧ o < d.length) : foldOne E (d ++ l) y i = foldOne E d y i := by
  obtain ⟨f7, f8, f4, f5, f6, -⟩ := asks_form (x := y)
  refine foldOne_ext (fun c => insF_append ?_) (fun c => insF_append ?_)
  · have := h _ (asks_one (by rcases c with c | c | c | c | c <;> rw [c] <;> decide)); omega
  · have := h _ (asks_two (by rw [f7 c]; decide)); omega
/-- a step, in the list of all: the first j done -/
theorem fold_round {E : FoldE} {l : List TIns} {j : Nat} {s : FoldS} (h : FoldI E l j s) (ha : AskOk l) {x : TIns} (hx : l[j]? = some x) :
    (s.ins ++ l.drop j)[j]? = some x ∧ putM (fun v => (s.tl ++ [(j : Int)]).getD v.toNat 0) x = foldX s x ∧
      (∀ o ∈ asksM x, 0 ≤ o ∧ o < ((s.tl ++ [(j : Int)]).length : Int)) ∧
      (s.ins ++ l.drop j).set j (foldX s x) = s.ins ++ foldX s x :: l.drop (j + 1) ∧
      (s.ins ++ foldX s x :: l.drop (j + 1))[j]? = some (foldX s x) ∧ (s.tl ++ [(j : Int)])[j]? = some (j : Int) ∧
      (∀ o ∈ asksM (foldX s x), 0 ≤ o ∧ o < ((s.ins ++ foldX s x :: l.drop (j + 1)).length : Int)) ∧
      (s.ins ++ foldX s x :: l.drop (j + 1)).set j (foldOne E (s.ins ++ foldX s x :: l.drop (j + 1)) (foldX s x) j).1 = (foldStep E s x).ins ++ l.drop (j + 1) ∧
      (s.tl ++ [(j : Int)]).set j (foldOne E (s.ins ++ foldX s x :: l.drop (j + 1)) (foldX s x) j).2 = (foldStep E s x).tl := by
  have hl := h.len
  have hi := h.lin
  have hp := fold_put h ha hx
  have hj := (List.getElem?_eq_some_iff.1 hx).1
  have hd : l.drop j = x :: l.drop (j + 1) := by
    rw [List.drop_eq_getElem_cons hj, (List.getElem?_eq_some_iff.1 hx).2]
  have ef : foldOne E (s.ins ++ foldX s x :: l.drop (j + 1)) (foldX s x) j = foldOne E s.ins (foldX s x) s.tl.length := by
    rw [hl]; exact foldOne_append fun o ho => by have := hp o ho; omega
  refine ⟨?_, putM_congr fun v hv => ?_, fun o ho => ?_, ?_, ?_, ?_, fun o ho => ?_, ?_, ?_⟩
  · rw [List.getElem?_append_right (by omega), hi, Nat.sub_self, hd]; rfl
  · have := ha j x hx v hv
    rw [List.getD_eq_getElem?_getD, List.getD_eq_getElem?_getD, List.getElem?_append_left (by omega)]
  · have := ha j x hx o ho
    simp only [List.length_append, List.length_cons, List.length_nil]; omega
  · rw [List.set_append_right _ _ (by omega), hi, Nat.sub_self, hd]; rfl
  · rw [List.getElem?_append_right (by omega), hi, Nat.sub_self]; rfl
  · rw [List.getElem?_append_right (by omega), hl, Nat.sub_self]; rfl
  · have := hp o ho
    simp only [List.length_append, List.length_cons]; omega
  · rw [ef, List.set_append_right _ _ (by omega), hi, Nat.sub_self]
    unfold foldStep
    simp
  · rw [ef, List.set_append_right _ _ (by omega), hl, Nat.sub_self]
    unfold foldStep
    simp [hl]
section
variable {w w6 : World} {B fb : Nat} {ca : List Value} {t : TTrace} {uI uT v' : Value} {cur : List TIns} {tl : List Int} {a : Int}
theorem FoldR.pushTo (h : FoldR w B fb ca t uI uT cur tl) (hown : w6.ownsRow (fb + 1) 3 1 v' (tl.length + 1) (tl.map (.int .i64) ++ [.int .i64 a])) (hg : w.grownBy w6 uT.ownBlock) (ha : wfi a) (hl : tl.length + 1 ≤ 300) :
    FoldR (w6.setCell ⟨fb, 26, none⟩ v') B fb ca t uI v' cur (tl ++ [a]) := by
  have hc := h.len
  have hB := h.hB
  have hlt := h.lt
  have GC := grow_far h.tl_ hg h.row (by decide)
  have KB : Below B w (w6.setCell ⟨fb, 26, none⟩ v') := Below.set_at (grow_below (B' := B) h.tl_ hg (by omega) (by omega)) hB _ _
  refine ⟨h.tr.keep (Nat.le_refl _) (fun p hp => KB.cell hp), hB, ?_, own_far (own_grow h.ins h.tl_ hg (by decide)) GC (by decide) _ _, ?_, h.wf, fun x hx => ?_, h.few, by simp only [List.length_append, List.length_cons, List.length_nil]; omega⟩
  · rw [heap_setCell_same w6 fb 26 _ _ _ GC]
    congr 2
    apply Array.toList_inj.1
    rw [Array.toList_setIfInBounds]
    show (ca ++ ca.set 3 uI ++ [uT]).set 26 v' = ca ++ ca.set 3 uI ++ [v']
    rw [List.set_append_right _ _ (by simp; omega)]
    simp [hc]
  · have h9 := own_far hown GC (by decide) 26 v'
    rw [List.map_append, List.length_append]
    exact h9
  · rcases List.mem_append.1 hx with hx | hx
    · exact h.wfl x hx
    · simp at hx; subst hx; exact ha
end
end Go.Proofs.YtmccomeihnaanaaDoor
