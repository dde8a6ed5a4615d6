/- regions that draw their order: moves that may come at any time. -/
import Derived.Test.YtlnkjmgfkpeicaaGreatDoorComm
namespace Go.Proofs.YtlnkjmgfkpeicaaGreatDoor
open Go.RowKit
section
variable {P : Program} {ops : Array Oper} {md : Region.Mode} {C : World → Prop} {Q : Exit → Act → World → Prop}

def moveB (o : Oper) : Bool := match o.op with | .move _ => true | _ => false
theorem YieldsS.of_move {o : Oper} {v : Value} {a : Act} (ho : moveB o = true) {w : World} (hw : C w) (hy : YieldsIn P ops C o v a) : YieldsS P ops (fun _ => True) o v a := by
  obtain ⟨dst, op, type, pos, after, guard⟩ := o
  cases op <;> simp only [moveB] at ho <;> (first | (cases ho; done) | skip)
  rcases YieldsS.of_in (by rfl) hy with ⟨h1, h2⟩ | h
  · refine .inl ⟨h1, fun w' _ => ?_⟩
    have h3 := h2 w hw
    simp only [execOp, Sem.run_pure] at h3 ⊢
    injection h3 with h3
    rw [h3]
  · exact .inr h
theorem wpAnyC_pure {F : Nat → Bool} {i : Nat} {oi : Oper} {v : Value} (hi : ops[i]? = some oi) (hF : F i = false) (hsel : ∀ (j : Nat) (o : Oper) cs b, ops[j]? = some o → o.op ≠ .select cs b)
    (hQ : ∀ c a w, Q (.panic c) (a.put oi.dst v) w → Q (.panic c) a w) :
    ∀ (fuel : Nat) (listed : Array Bool) (a : Act) (w : World),
      (∀ j oj, ops[j]? = some oj → j ≠ i → listed.getD j true = false → (∀ e ∈ oj.after, Region.binds md e = true → e.on ≠ i) → oi.apart ops oj = true) →
      i ∈ Region.ready md ops listed → YieldsS P ops (fun _ => True) oi v a →
      wpAnyC P md ops C F Q fuel (listed.setIfInBounds i true) (a.put oi.dst v) w → wpAnyC P md ops C F Q (fuel + 1) listed a w := by
  intro fuel
  induction fuel with
  | zero =>
    intro listed a w _ hr hy H
    refine ⟨fun h => (by rw [h] at hr; cases hr), fun j hj => ?_⟩
    by_cases hji : j = i
    · subst hji; exact hy.wpOp hi trivial ⟨fun h => (by rw [hF] at h; cases h), H⟩
    · have := ready_mono hj hji
      rw [H.1] at this
      cases this
  | succ fuel ih =>
    intro listed a w hfree hr hy H
    refine ⟨fun h => (by rw [h] at hr; cases hr), fun j hj => ?_⟩
    by_cases hji : j = i
    · subst hji; exact hy.wpOp hi trivial ⟨fun h => (by rw [hF] at h; cases h), H⟩
    · have h1 := H.2 j (ready_mono hj hji)
      obtain ⟨hjun, oj, hoj, hall⟩ := mem_ready.1 hj
      have hnot : ∀ e ∈ oj.after, Region.binds md e = true → e.on ≠ i := fun e he hb heq => by
        have h1 := hall e he hb
        have h0 := (mem_ready.1 hr).1
        rw [heq] at h1
        rcases Nat.lt_or_ge i listed.size with h' | h'
        · simp [h'] at h0 h1; rw [h0] at h1; cases h1
        · simp [Array.getElem?_eq_none h'] at h1
      have h2 := wpOp_putS hoj (hfree j oj hoj hji hjun hnot) (fun cs b => hsel i oi cs b hi) (fun cs b => hsel j oj cs b hoj) hQ hy h1
      have hfree' : ∀ k ok, ops[k]? = some ok → k ≠ i → (listed.setIfInBounds j true).getD k true = false →
          (∀ e ∈ ok.after, Region.binds md e = true → e.on ≠ i) → oi.apart ops ok = true := fun k ok hk hki hun hno => by
        refine hfree k ok hk hki ?_ hno
        by_cases hjk : j = k
        · subst hjk; exact hjun
        · rw [getD_set_ne true hjk] at hun; exact hun
      refine wpOp_mono (fun a' w' h3 => ⟨h3.2.1, ih (listed.setIfInBounds j true) a' w' hfree' (ready_mono hr (Ne.symm hji)) h3.1 ?_⟩) h2
      rw [Array.setIfInBounds_comm _ _ hji]
      exact h3.2.2
theorem wpAnyC_firstI {Inv : Array Bool → Prop} (hset : ∀ listed j, Inv listed → j ∈ Region.ready md ops listed → Inv (listed.setIfInBounds j true)) {F : Nat → Bool} {i : Nat} {oi : Oper} {v : Value} (hi : ops[i]? = some oi) (hsel : ∀ (j : Nat) (o : Oper) cs b, ops[j]? = some o → o.op ≠ .select cs b)
    (hQ : ∀ c a w, Q (.panic c) (a.put oi.dst v) w → Q (.panic c) a w)
    (hlate : ∀ listed j, Inv listed → listed.getD i true = false → j ∈ Region.ready md ops listed → F j = true) :
    ∀ (fuel : Nat) (listed : Array Bool) (a : Act) (w : World), Inv listed → C w →
      (∀ j oj, ops[j]? = some oj → j ≠ i → listed.getD j true = false → (∀ e ∈ oj.after, Region.binds md e = true → e.on ≠ i) → oi.apart ops oj = true) →
      i ∈ Region.ready md ops listed → YieldsS P ops C oi v a →
      wpAnyC P md ops C F Q fuel (listed.setIfInBounds i true) (a.put oi.dst v) w → wpAnyC P md ops C F Q (fuel + 1) listed a w := by
  intro fuel
  induction fuel with
  | zero =>
    intro listed a w _ hw _ hr hy H
    refine ⟨fun h => (by rw [h] at hr; cases hr), fun j hj => ?_⟩
    by_cases hji : j = i
    · subst hji; exact hy.wpOp hi hw ⟨fun _ => hw, H⟩
    · have := ready_mono hj hji
      rw [H.1] at this
      cases this
  | succ fuel ih =>
    intro listed a w hc hw hfree hr hy H
    refine ⟨fun h => (by rw [h] at hr; cases hr), fun j hj => ?_⟩
    by_cases hji : j = i
    · subst hji; exact hy.wpOp hi hw ⟨fun _ => hw, H⟩
    · have h1 := H.2 j (ready_mono hj hji)
      obtain ⟨hjun, oj, hoj, hall⟩ := mem_ready.1 hj
      have hnot : ∀ e ∈ oj.after, Region.binds md e = true → e.on ≠ i := fun e he hb heq => by
        have h1 := hall e he hb
        have h0 := (mem_ready.1 hr).1
        rw [heq] at h1
        rcases Nat.lt_or_ge i listed.size with h' | h'
        · simp [h'] at h0 h1; rw [h0] at h1; cases h1
        · simp [Array.getElem?_eq_none h'] at h1
      have h2 := wpOp_putS hoj (hfree j oj hoj hji hjun hnot) (fun cs b => hsel i oi cs b hi) (fun cs b => hsel j oj cs b hoj) hQ hy h1
      have hfree' : ∀ k ok, ops[k]? = some ok → k ≠ i → (listed.setIfInBounds j true).getD k true = false →
          (∀ e ∈ ok.after, Region.binds md e = true → e.on ≠ i) → oi.apart ops ok = true := fun k ok hk hki hun hno => by
        refine hfree k ok hk hki ?_ hno
        by_cases hjk : j = k
        · subst hjk; exact hjun
        · rw [getD_set_ne true hjk] at hun; exact hun
      have hF := hlate listed j hc (mem_ready.1 hr).1 hj
      refine wpOp_mono (fun a' w' h3 => ⟨h3.2.1, ih (listed.setIfInBounds j true) a' w' (hset _ _ hc hj) (h3.2.1 hF) hfree' (ready_mono hr (Ne.symm hji)) h3.1 ?_⟩) h2
      rw [Array.setIfInBounds_comm _ _ hji]
      exact h3.2.2
theorem wpAnyC_readI {Inv : Array Bool → Prop} (hset : ∀ listed j, Inv listed → j ∈ Region.ready md ops listed → Inv (listed.setIfInBounds j true)) {F : Nat → Bool} {ms qs0 : List Nat} (hsel : Region.noSelect ops = true) (hQ : ∀ (c : _) (a : Act) (d : Option Tmp) (v : Value) (w : World), Q (.panic c) (a.put d v) w → Q (.panic c) a w)
    (hlate : ∀ listed i j, i ∈ qs0 → Inv listed → listed.getD i true = false → j ∈ Region.ready md ops listed → F j = true) {w : World} (hw : C w) :
    ∀ (qs : List Nat) (listed : Array Bool) (a : Act), (∀ i ∈ qs, i ∈ qs0) → Inv listed → readB md ops ms qs listed = true →
      wpQuiet P ops C (fun a' => wpMs P ops C F Q ms a' w) (qs.filterMap (ops[·]?)) a → wpAnyC P md ops C F Q (qs.length + ms.length) listed a w
  | [], listed, a, _, _, hB, h => by
    rw [List.length_nil, Nat.zero_add]
    exact wpAnyC_of_ms ms listed a w hB h
  | i :: rest, listed, a, hsub, hc, hB, h => by
    simp only [readB, Bool.and_eq_true] at hB
    obtain ⟨⟨⟨hr, hf⟩, hn⟩, hB'⟩ := hB
    have hr' : i ∈ Region.ready md ops listed := by simpa using hr
    cases ho : ops[i]? with
    | none => rw [ho] at hn; cases hn
    | some o =>
      rw [ho] at hn
      have hn' : noEnter o = true := hn
      simp only [List.filterMap_cons, ho] at h
      have hst : qOp P ops C i (wpQuiet P ops C (fun a' => wpMs P ops C F Q ms a' w) (rest.filterMap (ops[·]?))) a := by unfold qOp; simp only [ho]; exact h
      obtain ⟨v, hy, hK⟩ := yieldsIn_of_qOp ho hst
      rw [List.length_cons, show rest.length + 1 + ms.length = (rest.length + ms.length) + 1 by omega]
      exact wpAnyC_firstI hset ho (Region.noSelect_spec hsel) (fun c a w => hQ c a _ _ w) (fun l j hcl hu hj => hlate l i j (hsub i (by simp)) hcl hu hj) _ listed a w hc hw (Region.free_spec ho hf) hr' (YieldsS.of_in hn' hy)
        (wpAnyC_readI hset hsel hQ hlate hw rest _ _ (fun k hk => hsub k (by simp [hk])) (hset _ _ hc hr') hB' hK)
def pureB (md : Region.Mode) (ops : Array Oper) (ms qs : List Nat) : List Nat → Array Bool → Bool
  | [], listed => readB md ops ms qs listed
  | i :: rest, listed => (Region.ready md ops listed).contains i && Region.free md ops listed i && ((ops[i]?).map moveB).getD false && pureB md ops ms qs rest (listed.setIfInBounds i true)
/-- ps: the moves that may come at any time -/
def commP (md : Region.Mode) (ops : Array Oper) (ps qs ms fl : List Nat) : Bool :=
  Region.noSelect ops && lateB md ops (fun j => ps.contains j || (qs.contains j || fl.contains j)) ops.size qs && pureB md ops ms qs ps (Array.replicate ops.size false) && ps.all (fun i => !(qs.contains i || fl.contains i)) && decide (ps.length + (qs.length + ms.length) = ops.size)
theorem wpAnyC_moves {F : Nat → Bool} {ms qs ps0 : List Nat} (hsel : Region.noSelect ops = true) (hQ : ∀ (c : _) (a : Act) (d : Option Tmp) (v : Value) (w : World), Q (.panic c) (a.put d v) w → Q (.panic c) a w)
    (hlate : ∀ listed i j, i ∈ qs → Closed md ops listed → (∀ p ∈ ps0, listed.getD p false = true) → listed.getD i true = false → j ∈ Region.ready md ops listed → F j = true) (hF : ∀ p ∈ ps0, F p = false) {w : World} (hw : C w) :
    ∀ (ps : List Nat) (listed : Array Bool) (a : Act), (∀ p ∈ ps0, p ∈ ps ∨ listed.getD p false = true) → (∀ p ∈ ps, p ∈ ps0) → Closed md ops listed → pureB md ops ms qs ps listed = true →
      wpQuiet P ops C (fun a' => wpMs P ops C F Q ms a' w) ((ps ++ qs).filterMap (ops[·]?)) a → wpAnyC P md ops C F Q (ps.length + (qs.length + ms.length)) listed a w
  | [], listed, a, hp, _, hc, hB, h => by
    rw [List.length_nil, Nat.zero_add]
    rw [List.nil_append] at h
    have hl : ∀ p ∈ ps0, listed.getD p false = true := fun p hp0 => by
      rcases hp p hp0 with h1 | h1
      · cases h1
      · exact h1
    exact wpAnyC_readI (Inv := fun l => Closed md ops l ∧ ∀ p ∈ ps0, l.getD p false = true) (fun l j hI hj => ⟨hI.1.set hj, fun p hp0 => getD_set_true (hI.2 p hp0)⟩) hsel hQ (fun l i j hi hI hu hj => hlate l i j hi hI.1 hI.2 hu hj) hw qs listed a (fun _ h => h) ⟨hc, hl⟩ hB h
  | i :: rest, listed, a, hp, hsub, hc, hB, h => by
    simp only [pureB, Bool.and_eq_true] at hB
    obtain ⟨⟨⟨hr, hf⟩, hn⟩, hB'⟩ := hB
    have hr' : i ∈ Region.ready md ops listed := by simpa using hr
    cases ho : ops[i]? with
    | none => rw [ho] at hn; cases hn
    | some o =>
      rw [ho] at hn
      have hn' : moveB o = true := hn
      simp only [List.cons_append, List.filterMap_cons, ho] at h
      have hst : qOp P ops C i (wpQuiet P ops C (fun a' => wpMs P ops C F Q ms a' w) ((rest ++ qs).filterMap (ops[·]?))) a := by unfold qOp; simp only [ho]; exact h
      obtain ⟨v, hy, hK⟩ := yieldsIn_of_qOp ho hst
      rw [List.length_cons, show rest.length + 1 + (qs.length + ms.length) = (rest.length + (qs.length + ms.length)) + 1 by omega]
      refine wpAnyC_pure ho (hF i (hsub i (by simp))) (Region.noSelect_spec hsel) (fun c a w => hQ c a _ _ w) _ listed a w (Region.free_spec ho hf) hr' (YieldsS.of_move hn' hw hy)
        (wpAnyC_moves hsel hQ hlate hF hw rest _ _ (fun p hp0 => ?_) (fun k hk => hsub k (by simp [hk])) (hc.set hr') hB' hK)
      rcases hp p hp0 with h1 | h1
      · rcases List.mem_cons.1 h1 with rfl | h1
        · right
          have := (mem_ready.1 hr').1
          rcases Nat.lt_or_ge p listed.size with h' | h'
          · simp [h']
          · simp [Array.getElem?_eq_none h'] at this
        · exact .inl h1
      · exact .inr (getD_set_true h1)
/-- THE LAW: the moves 'ps' at any time; the readers 'qs'; the others 'ms', in their order; 'fl': those of them that may come ahead of a reader. -/
theorem wp_region_moves {id : Nat} {a : Act} {w : World} {l : List Oper} (C : World → Prop) (ps qs ms fl : List Nat) (lq : List Oper) (hm : P.follows .mixedOrders = true) (hB : commP .any l.toArray ps qs ms fl = true) (hq : (ps ++ qs).filterMap (l.toArray[·]?) = lq)
    (hQ : ∀ (c : _) (a : Act) (d : Option Tmp) (v : Value) (w : World), Q (.panic c) (a.put d v) w → Q (.panic c) a w) (hC : C w.drew)
    (h : wpQuiet P l.toArray C (fun a' => wpMs P l.toArray C (fun j => qs.contains j || fl.contains j) Q ms a' w.drew) lq a) : (Code.region id l.toArray true).wp P Q a w := by
  subst hq
  simp only [commP, Bool.and_eq_true, decide_eq_true_eq] at hB
  obtain ⟨⟨⟨⟨hsel, hlate⟩, hread⟩, hps⟩, hlen⟩ := hB
  have hF : ∀ p ∈ ps, (qs.contains p || fl.contains p) = false := fun p hp => by
    have := List.all_eq_true.1 hps p hp
    simpa using this
  have H := wpAnyC_moves (md := .any) (ps0 := ps) (ms := ms) (qs := qs) (F := fun j => qs.contains j || fl.contains j) (Q := Q) hsel hQ (fun listed i j hi hc hpl hu hj => by
    by_cases hjq : j ∈ qs
    · simp [hjq]
    · have h1 := late_spec hlate hc hi hu hj hjq
      have hnp : j ∉ ps := fun hjp => by
        have h2 := hpl j hjp
        have h3 := (mem_ready.1 hj).1
        rcases Nat.lt_or_ge j listed.size with h' | h'
        · simp [h'] at h2 h3; rw [h2] at h3; cases h3
        · simp [Array.getElem?_eq_none h'] at h2
      have hnp' : ps.contains j = false := by simpa using hnp
      rw [hnp', Bool.false_or] at h1
      exact h1) hF hC ps (Array.replicate l.toArray.size false) a (fun p hp => .inl hp) (fun _ h => h) (by
    intro j oj _ hl
    rw [getD_replicate_false] at hl
    cases hl) hread h
  rw [hlen] at H
  exact wp_region_any hm (wpAny_of_C _ _ _ _ H)
/-- one may come up -/
theorem wpAnyC_one {F : Nat → Bool} {f i : Nat} {oi : Oper} {listed : Array Bool} {a : Act} {w : World} (hr : Region.ready md ops listed = [i]) (hi : ops[i]? = some oi)
    (h1 : ∀ K : Act → World → Prop, (∀ a w, (F i = true → C w) → wpAnyC P md ops C F Q f (listed.setIfInBounds i true) a w → K a w) → if Region.wanted oi (yielded ops a.tmps) then oi.wp P a w K Q else K (a.put oi.dst undef) w) :
    wpAnyC P md ops C F Q (f + 1) listed a w := by
  refine ⟨fun h => (by rw [hr] at h; cases h), fun j hj => ?_⟩
  rw [hr] at hj
  obtain rfl : j = i := by simpa using hj
  have := h1 (fun a' w' => (F j = true → C w') ∧ wpAnyC P md ops C F Q f (listed.setIfInBounds j true) a' w') (fun _ _ h1 h2 => ⟨h1, h2⟩)
  unfold wpOp
  simp only [hi]
  split
  · rename_i hw; rw [if_pos hw] at this; exact .inl this
  · rename_i hw; rw [if_neg hw] at this; exact this
end
end Go.Proofs.YtlnkjmgfkpeicaaGreatDoor
