/- Ranging over a map: the values that have come, in whatever order. -/
import Derived.Test.YtdcikaenepnliaaMaps
import Derived.Maps.RangeRun
import Derived.Maps.RangeWalk
namespace Go.Proofs.Ytdcikaenepnliaa
open Go.RowKit

theorem perm_strike : ∀ (l : List MapEntry) (e : MapEntry), (l.map (·.born)).Nodup → e ∈ l → (l.map (·.val)).Perm (e.val :: (l.filter fun x => x.born != e.born).map (·.val))
  | [], _, _, h => by simp at h
  | a :: l, e, hn, h => by
    simp only [List.map_cons, List.nodup_cons] at hn
    by_cases hb : a.born = e.born
    · have hae : a = e := by
        rcases List.mem_cons.1 h with h | h
        · exact h.symm
        · exact absurd (List.mem_map_of_mem (f := (·.born)) h) (by rw [← hb]; exact hn.1)
      subst hae
      have hf : l.filter (fun x => x.born != a.born) = l := by
        rw [List.filter_eq_self]
        intro x hx
        simp
        intro hx2
        exact hn.1 (hx2 ▸ List.mem_map_of_mem (f := (·.born)) hx)
      simp [hf]
    · have he : e ∈ l := by
        rcases List.mem_cons.1 h with h | h
        · exact absurd (by rw [h]) hb
        · exact h
      have ih := perm_strike l e hn.2 he
      simp only [List.map_cons, List.filter_cons, bne_iff_ne, ne_eq, hb, not_false_eq_true, if_true]
      exact (ih.cons _).trans (List.Perm.swap _ _ _)

/-- BLOCK r IS AN ITERATOR OVER THE MAP OF BLOCK b; D: the values that have come. -/
def RangeI (w : World) (b r : Nat) (V D : List Value) (left : Nat) : Prop :=
  ∃ es clock since seen c0, w.heap[b]? = some (.map es clock) ∧ Stamps es.toList clock ∧ w.heap[r]? = some (.mapIter (some b) since seen c0) ∧ (∀ x ∈ es.toList, x.born < since) ∧ since ≤ c0 ∧ since ≤ clock ∧
    es.toList.map (·.val) = V ∧ V.Perm (D ++ (leftOf es seen).toList.map (·.val)) ∧ (leftOf es seen).size = left

theorem leftOf_list (es : Array MapEntry) (seen : Array Nat) : (leftOf es seen).toList = es.toList.filter fun e => !seen.contains e.born := by
  simp [leftOf]

theorem leftOf_all (es : Array MapEntry) : (leftOf es #[]).toList = es.toList := by
  rw [leftOf_list, List.filter_eq_self]
  intro e _
  simp
theorem leftOf_push (es : Array MapEntry) (seen : Array Nat) (b : Nat) : (leftOf es (seen.push b)).toList = (leftOf es seen).toList.filter fun x => x.born != b := by
  rw [leftOf_list, leftOf_list, List.filter_filter]
  congr 1
  funext e
  simp only [Array.contains_push]
  cases h1 : seen.contains e.born <;> cases h2 : (e.born == b) <;> simp [bne, h2]

theorem RangeI.kept {w w' : World} {b r left : Nat} {V D : List Value} {row : Option Nat} (h : RangeI w b r V D left) (hg : w.grownBy w' row) (h1 : some b ≠ row) (h2 : some r ≠ row) : RangeI w' b r V D left := by
  obtain ⟨es, clock, since, seen, c0, hb, hs, hr, rest⟩ := h
  exact ⟨es, clock, since, seen, c0, (hg.block b (Array.getElem?_eq_some_iff.1 hb).1 h1).trans hb, hs, (hg.block r (Array.getElem?_eq_some_iff.1 hr).1 h2).trans hr, rest⟩
theorem RangeI.lt {w : World} {b r left : Nat} {V D : List Value} (h : RangeI w b r V D left) : r < w.heap.size ∧ b < w.heap.size := by
  obtain ⟨es, clock, since, seen, c0, hb, hs, hr, rest⟩ := h
  exact ⟨(Array.getElem?_eq_some_iff.1 hr).1, (Array.getElem?_eq_some_iff.1 hb).1⟩

theorem RangeI.left_eq {w : World} {b r left : Nat} {V D : List Value} (h : RangeI w b r V D left) : w.rangeLeft b r = left := by
  obtain ⟨es, clock, since, seen, c0, hb, hs, hr, _, _, _, _, _, h5⟩ := h
  simp only [World.rangeLeft, hb, hr]
  exact h5
theorem RangeI.count {w : World} {b r left : Nat} {V D : List Value} (h : RangeI w b r V D left) : D.length + left = V.length := by
  obtain ⟨es, clock, since, seen, c0, hb, hs, hr, _, _, _, _, h4, h5⟩ := h
  have := h4.length_eq
  simp at this
  omega

section
variable {P : Program} (w : World) {ops : Array Oper} {rest : List Oper} {o : Oper} {a : Act} {Q : Exit → Act → World → Prop}

theorem ents_vals : ∀ {es : List MapEntry} {L : List (List Int × Value)}, Ents es L → es.map (·.val) = L.map (·.2)
  | [], [], _ => rfl
  | [], _ :: _, h => h.elim
  | _ :: _, [], h => h.elim
  | _ :: _, _ :: _, ⟨h1, h2⟩ => by simp [h1.2, ents_vals h2]

/-- 'range m' -/
theorem wpList_range_i (hg : o.guard = none) (m : Operand) (t k e : TypeId) (hop : o.op = Op.range t m) (ht : P.underlying t = some (.map k e)) (n b : Nat) (L : List (List Int × Value))
    (hm : a.eval m = .map (some b)) (h : MapI n w b L)
    (hK : ∀ w', RangeI w' b w.heap.size (L.map (·.2)) [] L.length → w.grownBy w' none → w'.heap.size = w.heap.size + 1 → wpList P ops Q rest (a.put o.dst (.pointer (some ⟨w.heap.size, 0, none⟩))) w') :
    wpList P ops Q (o :: rest) a w := by
  refine wpList_plain hg fun K' hK' => ?_
  have hlt := h.lt
  obtain ⟨es, clock, hb, he, hn, hs⟩ := h
  have hrun := run_range_map (P := P) w t k e b es clock ht hb
  unfold Oper.wp
  simp only [execOp, hop, hm, Sem.run_bind, hrun, Result.andThen_ok, Sem.run_pure]
  have hlen := he.length
  refine hK' _ _ (hK _ ⟨es, clock, clock, #[], clock, ((MapKept.heap_alloc w _).2 b hlt).trans hb, hs, (MapKept.heap_alloc w _).1, hs.1, Nat.le_refl _, Nat.le_refl _, ents_vals he, ?_, ?_⟩ (World.grownBy_alloc w _ none) (by simp))
  · rw [leftOf_all, ents_vals he]
    exact List.Perm.refl _
  · have : (leftOf es #[]).toList.length = L.length := by rw [leftOf_all]; exact hlen
    simpa using this

/-- the step -/
theorem wpList_next_i (hg : o.guard = none) (it : Operand) (hop : o.op = Op.next it false) (b r left : Nat) (V D : List Value) (hit : a.eval it = .pointer (some ⟨r, 0, none⟩)) (h : RangeI w b r V D left)
    (hDone : V.Perm D → wpList P ops Q rest (a.put o.dst (.tuple #[.bool false])) w)
    (hMore : ∀ (key v : Value) (w' : World) (left' : Nat), v ∈ V → RangeI w' b r V (D ++ [v]) left' → left' < left → w.grownBy w' (some r) → w'.heap.size = w.heap.size →
      (Instr.entry (.pointer (some ⟨r, 0, none⟩))).run P w' = .ok (.tuple #[key, v]) w' → wpList P ops Q rest (a.put o.dst (.tuple #[.bool true, key, v])) w') :
    wpList P ops Q (o :: rest) a w := by
  refine wpList_plain hg fun K' hK' => ?_
  obtain ⟨es, clock, since, seen, c0, hb, hs, hr, h1, h2, h2', h3, h4, h5⟩ := h
  have hrl := (Array.getElem?_eq_some_iff.1 hr).1
  unfold Oper.wp
  rcases run_next_at (P := P) w o.type r b since c0 seen es clock hr hb h1 h2 with ⟨h0, hrun⟩ | ⟨e, he, w1, hw1, hrun⟩
  · simp only [execOp, hop, hit, Sem.run_bind, hrun, Result.andThen_ok, Sem.run_pure]
    refine hK' _ _ (hDone ?_)
    have : (leftOf es seen).toList = [] := by
      have : (leftOf es seen) = #[] := Array.eq_empty_of_size_eq_zero h0
      rw [this]
    rw [this] at h4
    simpa using h4
  · simp only [execOp, hop, hit, Sem.run_bind, hrun, Result.andThen_ok, Sem.run_pure]
    have hbr : r ≠ b := fun e => by rw [e, hb] at hr; cases hr
    have hg1 : w.grownBy (ChangeMaps.setBlock w1 r (.mapIter (some b) since (seen.push e.born) clock)) (some r) := by
      have hg0 : w.grownBy (ChangeMaps.setBlock w r (.mapIter (some b) since (seen.push e.born) clock)) (some r) :=
        ⟨rfl, rfl, rfl, by simp [ChangeMaps.setBlock], fun k _ hne => by
          have : k ≠ r := fun e => hne (by rw [e])
          simp only [ChangeMaps.setBlock]
          rw [Array.getElem?_setIfInBounds_ne (fun e => this e.symm)]⟩
      rcases hw1 with rfl | rfl <;> exact ⟨hg0.os, hg0.tape, hg0.output, hg0.size, hg0.block⟩
    have hsz : (ChangeMaps.setBlock w1 r (.mapIter (some b) since (seen.push e.born) clock)).heap.size = w.heap.size := by
      rcases hw1 with rfl | rfl <;> simp [ChangeMaps.setBlock] <;> rfl
    have hr' : (ChangeMaps.setBlock w1 r (.mapIter (some b) since (seen.push e.born) clock)).heap[r]? = some (.mapIter (some b) since (seen.push e.born) clock) := by
      rcases hw1 with rfl | rfl <;> simp [ChangeMaps.setBlock, hrl] <;> exact hrl
    have hb' : (ChangeMaps.setBlock w1 r (.mapIter (some b) since (seen.push e.born) clock)).heap[b]? = some (.map es clock) := (hg1.block b (Array.getElem?_eq_some_iff.1 hb).1 (fun e => hbr (by injection e with e; exact e.symm))).trans hb
    have hes : e ∈ es.toList := by rw [leftOf_list] at he; exact (List.mem_filter.1 he).1
    have hnl : ((leftOf es seen).toList.map (·.born)).Nodup := by
      rw [leftOf_list]
      exact (List.filter_sublist.map _).nodup hs.2
    have hp := perm_strike _ e hnl he
    refine hK' _ _ (hMore e.key e.val _ _ (h3 ▸ List.mem_map_of_mem hes) ⟨es, clock, since, seen.push e.born, clock, hb', hs, hr', h1, h2', h2', h3, ?_, rfl⟩ ?_ hg1 hsz (run_entry_at (P := P) _ r b since seen es clock e hr' hb' hes hs.2))
    · rw [leftOf_push, List.append_assoc]
      exact h4.trans ((hp.append_left D))
    · have hl := hp.length_eq
      have e1 : (leftOf es (seen.push e.born)).size = (leftOf es (seen.push e.born)).toList.length := by simp
      rw [e1, leftOf_push]
      simp only [List.length_map, List.length_cons, Array.length_toList] at hl
      omega
end
#print axioms wpList_next_i
end Go.Proofs.Ytdcikaenepnliaa
