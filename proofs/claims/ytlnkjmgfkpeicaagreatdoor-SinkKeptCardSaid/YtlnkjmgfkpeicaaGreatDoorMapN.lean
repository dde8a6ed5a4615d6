/- Maps keyed by whole numbers: look-up, update, ranging; for whatever program. -/
import Derived.WalkKit
import Derived.Lib.Hide
import Derived.Maps.Own
import Derived.Maps.RangeRun
import Derived.Maps.RangeWalk
set_option linter.all false
namespace Go.Proofs.YtlnkjmgfkpeicaaGreatDoor
open Go.RowKit

def IsEnt (e : MapEntry) (x : Int × Value) : Prop := e.key = .int .i64 x.1 ∧ e.val = x.2
def Ents : List MapEntry → List (Int × Value) → Prop
  | [], [] => True
  | e :: es, x :: L => IsEnt e x ∧ Ents es L
  | _, _ => False
def Stamps (es : List MapEntry) (clock : Nat) : Prop := (∀ e ∈ es, e.born < clock) ∧ (es.map (·.born)).Nodup
/-- block b is a map of the entries L -/
def MapN (w : World) (b : Nat) (L : List (Int × Value)) : Prop :=
  ∃ es clock, w.heap[b]? = some (.map es clock) ∧ Ents es.toList L ∧ Stamps es.toList clock
def lookN (L : List (Int × Value)) (x : Int) : Option Value := (L.find? (fun e => decide (x = e.1))).map (·.2)
theorem lookN_mem {L : List (Int × Value)} {x : Int} {v : Value} (h : lookN L x = some v) : (x, v) ∈ L := by
  unfold lookN at h
  obtain ⟨e, h1, rfl⟩ := Option.map_eq_some_iff.1 h
  have h2 := List.find?_some h1
  have h3 := List.mem_of_find?_eq_some h1
  simp at h2; subst h2; exact h3
theorem lookN_none {L : List (Int × Value)} {x : Int} (h : lookN L x = none) : ∀ e ∈ L, e.1 ≠ x := by
  unfold lookN at h
  rw [Option.map_eq_none_iff, List.find?_eq_none] at h
  intro e he c
  exact h e he (by simp [c])

section
variable {P : Program} (w : World)
theorem findNow_ints (x : Int) : ∀ (es : List MapEntry) (L : List (Int × Value)) (i : Nat), Ents es L →
    Instr.findNow (.int .i64) (.int .i64 x) es i = some ((L.findIdx? (fun e => decide (x = e.1))).map (fun j => (i + j, ((L[j]?).map (·.2)).getD undef)))
  | [], [], i, _ => by simp [Instr.findNow]
  | [], _ :: _, _, h => h.elim
  | _ :: _, [], _, h => h.elim
  | e :: es, y :: L, i, ⟨he, hr⟩ => by
    have ih := findNow_ints x es L (i + 1) hr
    rw [Instr.findNow, he.1]
    by_cases c : x = y.1
    · simp [Instr.sameNow, c, List.findIdx?_cons, he.2]
    · simp only [Instr.sameNow, if_true, beq_eq_false_iff_ne.2 c, ih, List.findIdx?_cons, c, decide_false, Bool.false_eq_true, if_false, Option.map_map]
      congr 2
      funext j
      simp [Nat.add_assoc, Nat.add_comm 1 j]
theorem lookN_findIdx (L : List (Int × Value)) (x : Int) : (L.findIdx? (fun e => decide (x = e.1))).map (fun j => ((L[j]?).map (·.2)).getD undef) = lookN L x := by
  induction L with
  | nil => rfl
  | cons y L ih =>
    unfold lookN at *
    by_cases c : x = y.1
    · simp [c, List.findIdx?_cons]
    · simp only [List.findIdx?_cons, c, decide_false, Bool.false_eq_true, if_false, Option.map_map, List.find?_cons]
      rw [← ih]
      congr 1
theorem run_findKey_ints {k : TypeId} (hk : P.underlying k = some (.int .i64)) (x : Int) (es : List MapEntry) (L : List (Int × Value)) (h2 : Ents es L) :
    (Instr.findKey k (.int .i64 x) es).run P w = .ok ((L.findIdx? (fun e => decide (x = e.1))).map (fun j => (j, ((L[j]?).map (·.2)).getD undef))) w := by
  have h := findNow_ints x es L 0 h2
  simp only [Nat.zero_add] at h
  exact MapKept.run_findKey hk h
theorem run_checkKey_int' {k : TypeId} (hk : P.underlying k = some (.int .i64)) (em : Bool) (x : Int) (d : Nat) : (Instr.checkKey em (d + 1) k (.int .i64 x)).run P w = .ok () w := by
  simp [Instr.checkKey, run_underlying hk]
theorem run_checkKey_int {k : TypeId} (hk : P.underlying k = some (.int .i64)) (em : Bool) (x : Int) : (Instr.checkKey em 10000 k (.int .i64 x)).run P w = .ok () w := run_checkKey_int' w hk em x 9999
theorem MapN.look {t k e : TypeId} (ht : P.underlying t = some (.map k e)) (hk : P.underlying k = some (.int .i64)) {z : Value} (hz : ∀ w, (zeroValue e).run P w = .ok z w) (x : Int) {b : Nat} {L : List (Int × Value)} (hm : MapN w b L) :
    (Instr.lookup t (.map (some b)) (.int .i64 x) true).run P w = .ok (.tuple #[(lookN L x).getD z, .bool (lookN L x).isSome]) w := by
  obtain ⟨es, clock, hb, h2, _⟩ := hm
  have h3 := run_findKey_ints (P := P) w hk x es.toList L h2
  simp only [Instr.lookup, Sem.run_bind, run_underlying ht, Result.andThen_ok, MapKept.run_getObj_map hb, run_checkKey_int w hk, h3, Sem.run_pure]
  rw [← lookN_findIdx]
  cases L.findIdx? (fun e => decide (x = e.1)) with
  | none => simp [hz]
  | some j => simp
theorem Ents.push : ∀ {es : List MapEntry} {L : List (Int × Value)} {e : MapEntry} {x : Int × Value}, Ents es L → IsEnt e x → Ents (es ++ [e]) (L ++ [x])
  | [], [], _, _, _, he => ⟨he, trivial⟩
  | [], _ :: _, _, _, h, _ => h.elim
  | _ :: _, [], _, _, h, _ => h.elim
  | _ :: _, _ :: _, _, _, ⟨h1, h2⟩, he => ⟨h1, Ents.push h2 he⟩
theorem heap_setBlock_lt {w : World} {b : Nat} {o : Obj} (hb : b < w.heap.size) : (ChangeMaps.setBlock w b o).heap[b]? = some o := by
  simp [ChangeMaps.setBlock, hb]
theorem MapN.lt {w : World} {b : Nat} {L : List (Int × Value)} (h : MapN w b L) : b < w.heap.size := by
  obtain ⟨es, clock, hb, _⟩ := h
  exact (Array.getElem?_eq_some_iff.1 hb).1
/-- a key that there is not yet is put -/
theorem MapN.put {t k e : TypeId} (ht : P.underlying t = some (.map k e)) (hk : P.underlying k = some (.int .i64)) (x : Int) (v : Value) {b : Nat} {L : List (Int × Value)} (hm : MapN w b L) (hn : lookN L x = none) :
    ∃ w', (Instr.mapUpdate t (.map (some b)) (.int .i64 x) v).run P w = .ok () w' ∧ MapN w' b (L ++ [(x, v)]) ∧ w.grownBy w' (some b) ∧ w'.heap.size = w.heap.size := by
  have hlt := hm.lt
  obtain ⟨es, clock, hb, h2, hst1, hst2⟩ := hm
  have h3 := run_findKey_ints (P := P) w hk x es.toList L h2
  have hj : L.findIdx? (fun e => decide (x = e.1)) = none := by
    have h4 := lookN_findIdx L x
    rw [hn] at h4
    simpa using h4
  have hg : ∀ o, w.grownBy (ChangeMaps.setBlock w b o) (some b) := fun o =>
    ⟨rfl, rfl, rfl, by simp [ChangeMaps.setBlock], fun k _ hne => by
      have : k ≠ b := fun e => hne (by rw [e])
      simp only [ChangeMaps.setBlock]
      rw [Array.getElem?_setIfInBounds_ne (fun e => this e.symm)]⟩
  refine ⟨ChangeMaps.setBlock w b (.map (es.push ⟨.int .i64 x, v, clock⟩) (clock + 1)), ?_, ?_, hg _, by simp [ChangeMaps.setBlock]⟩
  · rw [hj] at h3
    simp [Instr.mapUpdate, run_underlying ht, MapKept.run_getObj_map hb, run_checkKey_int w hk, h3, setObj, Sem.run, ChangeMaps.setBlock, hb]
  · refine ⟨_, _, heap_setBlock_lt hlt, ?_, ?_⟩
    · rw [Array.toList_push]
      exact h2.push ⟨rfl, rfl⟩
    · rw [Array.toList_push]
      refine ⟨fun e he => ?_, ?_⟩
      · rcases List.mem_append.1 he with he | he
        · have := hst1 e he; omega
        · simp at he; subst he; simp
      · rw [List.map_append, List.nodup_append]
        refine ⟨hst2, by simp, fun a ha b hb' => ?_⟩
        simp at hb'
        subst hb'
        obtain ⟨e, he, rfl⟩ := List.mem_map.1 ha
        have := hst1 e he
        omega
theorem MapN.kept {w w' : World} {b : Nat} {L : List (Int × Value)} (h : MapN w b L) (hk : w'.heap[b]? = w.heap[b]?) : MapN w' b L := by
  obtain ⟨es, clock, hb, h2⟩ := h
  exact ⟨es, clock, hk.trans hb, h2⟩
theorem MapN.made (w : World) : MapN (w.alloc (.map #[] 0)) w.heap.size [] :=
  ⟨#[], 0, by show (w.heap.push _)[w.heap.size]? = _; exact Array.getElem?_push_size, trivial, by simp [Stamps]⟩
theorem Ents.length : ∀ {es : List MapEntry} {L : List (Int × Value)}, Ents es L → es.length = L.length
  | [], [], _ => rfl
  | [], _ :: _, h => h.elim
  | _ :: _, [], h => h.elim
  | _ :: _, _ :: _, ⟨_, h⟩ => by simp [Ents.length h]
end
/-- what an entry says -/
def entOf (e : MapEntry) : Value × Value := (e.key, e.val)
theorem perm_strike : ∀ (l : List MapEntry) (e : MapEntry), (l.map (·.born)).Nodup → e ∈ l → (l.map entOf).Perm (entOf e :: (l.filter fun x => x.born != e.born).map entOf)
  | [], _, _, h => by simp at h
  | a :: l, e, hn, h => by
    simp only [List.map_cons, List.nodup_cons] at hn
    by_cases hb : a.born = e.born
    · have hae : a = e := by
        rcases List.mem_cons.1 h with h | h
        · exact h.symm
        · exact absurd (List.mem_map_of_mem (f := (·.born)) h) (by rw [← hb]; exact hn.1)
      subst hae
      have hf : l.filter (fun x => x.born != a.born) = l := by
        rw [List.filter_eq_self]
        intro x hx
        simp
        intro hx2
        exact hn.1 (hx2 ▸ List.mem_map_of_mem (f := (·.born)) hx)
      simp [hf]
    · have he : e ∈ l := by
        rcases List.mem_cons.1 h with h | h
        · exact absurd (by rw [h]) hb
        · exact h
      have ih := perm_strike l e hn.2 he
      simp only [List.map_cons, List.filter_cons, bne_iff_ne, ne_eq, hb, not_false_eq_true, if_true]
      exact (ih.cons _).trans (List.Perm.swap _ _ _)
theorem ents_of : ∀ {es : List MapEntry} {L : List (Int × Value)}, Ents es L → es.map entOf = L.map (fun x => (.int .i64 x.1, x.2))
  | [], [], _ => rfl
  | [], _ :: _, h => h.elim
  | _ :: _, [], h => h.elim
  | _ :: _, _ :: _, ⟨h1, h2⟩ => by simp [entOf, h1.1, h1.2, ents_of h2]
def pv (x : Int × Value) : Value × Value := (.int .i64 x.1, x.2)
theorem pv_inj {x y : Int × Value} (h : pv x = pv y) : x = y := by
  unfold pv at h
  injection h with h1 h2
  injection h1 with _ h1
  exact Prod.ext h1 h2
theorem leftOf_list (es : Array MapEntry) (seen : Array Nat) : (leftOf es seen).toList = es.toList.filter fun e => !seen.contains e.born := by
  simp [leftOf]
theorem leftOf_all (es : Array MapEntry) : (leftOf es #[]).toList = es.toList := by
  rw [leftOf_list, List.filter_eq_self]
  intro e _
  simp
theorem leftOf_push (es : Array MapEntry) (seen : Array Nat) (b : Nat) : (leftOf es (seen.push b)).toList = (leftOf es seen).toList.filter fun x => x.born != b := by
  rw [leftOf_list, leftOf_list, List.filter_filter]
  congr 1
  funext e
  simp only [Array.contains_push]
  cases h1 : seen.contains e.born <;> cases h2 : (e.born == b) <;> simp [bne, h2]
/-- block r is an iterator over the map of block b, whose entries are V; D: those that have come; left: how many are to come -/
def RangeN (w : World) (b r : Nat) (V D : List (Int × Value)) (left : Nat) : Prop :=
  ∃ es clock since seen c0, w.heap[b]? = some (.map es clock) ∧ Stamps es.toList clock ∧ w.heap[r]? = some (.mapIter (some b) since seen c0) ∧ (∀ x ∈ es.toList, x.born < since) ∧ since ≤ c0 ∧ since ≤ clock ∧
    Ents es.toList V ∧ (V.map pv).Perm (D.map pv ++ (leftOf es seen).toList.map entOf) ∧ (leftOf es seen).size = left
theorem RangeN.kept {w w' : World} {b r left : Nat} {V D : List (Int × Value)} (h : RangeN w b r V D left) (h1 : w'.heap[b]? = w.heap[b]?) (h2 : w'.heap[r]? = w.heap[r]?) : RangeN w' b r V D left := by
  obtain ⟨es, clock, since, seen, c0, hb, hs, hr, rest⟩ := h
  exact ⟨es, clock, since, seen, c0, h1.trans hb, hs, h2.trans hr, rest⟩
theorem RangeN.lt {w : World} {b r left : Nat} {V D : List (Int × Value)} (h : RangeN w b r V D left) : r < w.heap.size ∧ b < w.heap.size := by
  obtain ⟨es, clock, since, seen, c0, hb, hs, hr, rest⟩ := h
  exact ⟨(Array.getElem?_eq_some_iff.1 hr).1, (Array.getElem?_eq_some_iff.1 hb).1⟩
theorem RangeN.left_eq {w : World} {b r left : Nat} {V D : List (Int × Value)} (h : RangeN w b r V D left) : w.rangeLeft b r = left := by
  obtain ⟨es, clock, since, seen, c0, hb, hs, hr, _, _, _, _, _, h5⟩ := h
  simp only [World.rangeLeft, hb, hr]
  exact h5
section
variable {P : Program} (w : World) {ops : Array Oper} {rest : List Oper} {o : Oper} {a : Act} {Q : Exit → Act → World → Prop}
/-- 'range m' -/
theorem wpList_range_n (hg : o.guard = none) (m : Operand) (t k e : TypeId) (hop : o.op = Op.range t m) (ht : P.underlying t = some (.map k e)) (b : Nat) (L : List (Int × Value))
    (hm : a.eval m = .map (some b)) (h : MapN w b L)
    (hK : ∀ w', RangeN w' b w.heap.size L [] L.length → w.grownBy w' none → w'.heap.size = w.heap.size + 1 → wpList P ops Q rest (a.put o.dst (.pointer (some ⟨w.heap.size, 0, none⟩))) w') :
    wpList P ops Q (o :: rest) a w := by
  refine wpList_plain hg fun K' hK' => ?_
  have hlt := h.lt
  obtain ⟨es, clock, hb, he, hs⟩ := h
  have hrun := run_range_map (P := P) w t k e b es clock ht hb
  unfold Oper.wp
  simp only [execOp, hop, hm, Sem.run_bind, hrun, Result.andThen_ok, Sem.run_pure]
  have hlen := he.length
  refine hK' _ _ (hK _ ⟨es, clock, clock, #[], clock, ((MapKept.heap_alloc w _).2 b hlt).trans hb, hs, (MapKept.heap_alloc w _).1, hs.1, Nat.le_refl _, Nat.le_refl _, he, ?_, ?_⟩ (World.grownBy_alloc w _ none) (by simp))
  · rw [leftOf_all, ents_of he]
    exact List.Perm.refl _
  · have : (leftOf es #[]).toList.length = L.length := by rw [leftOf_all]; exact hlen
    simpa using this
/-- the step -/
theorem wpList_next_n (hg : o.guard = none) (it : Operand) (hop : o.op = Op.next it false) (b r left : Nat) (V D : List (Int × Value)) (hit : a.eval it = .pointer (some ⟨r, 0, none⟩)) (h : RangeN w b r V D left)
    (hDone : (V.map pv).Perm (D.map pv) → wpList P ops Q rest (a.put o.dst (.tuple #[.bool false])) w)
    (hMore : ∀ (x : Int × Value) (w' : World) (left' : Nat), x ∈ V → (D ++ [x]).length ≤ V.length → (∃ rest', (V.map pv).Perm ((D ++ [x]).map pv ++ rest')) → RangeN w' b r V (D ++ [x]) left' → left' < left → w.grownBy w' (some r) → w'.heap.size = w.heap.size →
      (Instr.entry (.pointer (some ⟨r, 0, none⟩))).run P w' = .ok (.tuple #[.int .i64 x.1, x.2]) w' → wpList P ops Q rest (a.put o.dst (.tuple #[.bool true, .int .i64 x.1, x.2])) w') :
    wpList P ops Q (o :: rest) a w := by
  refine wpList_plain hg fun K' hK' => ?_
  obtain ⟨es, clock, since, seen, c0, hb, hs, hr, h1, h2, h2', h3, h4, h5⟩ := h
  have hrl := (Array.getElem?_eq_some_iff.1 hr).1
  unfold Oper.wp
  rcases run_next_at (P := P) w o.type r b since c0 seen es clock hr hb h1 h2 with ⟨h0, hrun⟩ | ⟨e, he, w1, hw1, hrun⟩
  · simp only [execOp, hop, hit, Sem.run_bind, hrun, Result.andThen_ok, Sem.run_pure]
    refine hK' _ _ (hDone ?_)
    have : (leftOf es seen).toList = [] := by
      have : (leftOf es seen) = #[] := Array.eq_empty_of_size_eq_zero h0
      rw [this]
    rw [this] at h4
    simpa using h4
  · simp only [execOp, hop, hit, Sem.run_bind, hrun, Result.andThen_ok, Sem.run_pure]
    have hbr : r ≠ b := fun e => by rw [e, hb] at hr; cases hr
    have hg1 : w.grownBy (ChangeMaps.setBlock w1 r (.mapIter (some b) since (seen.push e.born) clock)) (some r) := by
      have hg0 : w.grownBy (ChangeMaps.setBlock w r (.mapIter (some b) since (seen.push e.born) clock)) (some r) :=
        ⟨rfl, rfl, rfl, by simp [ChangeMaps.setBlock], fun k _ hne => by
          have : k ≠ r := fun e => hne (by rw [e])
          simp only [ChangeMaps.setBlock]
          rw [Array.getElem?_setIfInBounds_ne (fun e => this e.symm)]⟩
      rcases hw1 with rfl | rfl <;> exact ⟨hg0.os, hg0.tape, hg0.output, hg0.size, hg0.block⟩
    have hsz : (ChangeMaps.setBlock w1 r (.mapIter (some b) since (seen.push e.born) clock)).heap.size = w.heap.size := by
      rcases hw1 with rfl | rfl <;> simp [ChangeMaps.setBlock] <;> rfl
    have hr' : (ChangeMaps.setBlock w1 r (.mapIter (some b) since (seen.push e.born) clock)).heap[r]? = some (.mapIter (some b) since (seen.push e.born) clock) := by
      rcases hw1 with rfl | rfl <;> simp [ChangeMaps.setBlock, hrl] <;> exact hrl
    have hb' : (ChangeMaps.setBlock w1 r (.mapIter (some b) since (seen.push e.born) clock)).heap[b]? = some (.map es clock) := (hg1.block b (Array.getElem?_eq_some_iff.1 hb).1 (fun e => hbr (by injection e with e; exact e.symm))).trans hb
    have hes : e ∈ es.toList := by rw [leftOf_list] at he; exact (List.mem_filter.1 he).1
    have hnl : ((leftOf es seen).toList.map (·.born)).Nodup := by
      rw [leftOf_list]
      exact (List.filter_sublist.map _).nodup hs.2
    have hp := perm_strike _ e hnl he
    obtain ⟨x, hxV, hx⟩ : ∃ x, x ∈ V ∧ entOf e = pv x := by
      have h6 : entOf e ∈ V.map (fun x => ((.int .i64 x.1 : Value), x.2)) := by rw [← ents_of h3]; exact List.mem_map_of_mem hes
      obtain ⟨x, hx1, hx2⟩ := List.mem_map.1 h6
      exact ⟨x, hx1, hx2.symm⟩
    have ek : e.key = .int .i64 x.1 := congrArg Prod.fst hx
    have ev : e.val = x.2 := congrArg Prod.snd hx
    have hperm : (V.map pv).Perm ((D ++ [x]).map pv ++ (leftOf es (seen.push e.born)).toList.map entOf) := by
      rw [leftOf_push, List.map_append, List.append_assoc]
      refine h4.trans ?_
      rw [hx] at hp
      exact hp.append_left (D.map pv)
    have hll := hperm.length_eq
    simp only [List.length_map, List.length_append] at hll
    refine hK' _ _ ?_
    have he9 := run_entry_at (P := P) _ r b since seen es clock e hr' hb' hes hs.2
    rw [ek, ev] at he9 ⊢
    refine hMore x _ _ hxV (by rw [List.length_append]; omega) ⟨_, hperm⟩ ⟨es, clock, since, seen.push e.born, clock, hb', hs, hr', h1, h2', h2', h3, hperm, rfl⟩ ?_ hg1 hsz he9
    · have hl := hp.length_eq
      have e1 : (leftOf es (seen.push e.born)).size = (leftOf es (seen.push e.born)).toList.length := by simp
      rw [e1, leftOf_push]
      simp only [List.length_map, List.length_cons, Array.length_toList] at hl
      omega
end
end Go.Proofs.YtlnkjmgfkpeicaaGreatDoor
