/- A region that draws its order: operations that only read, and others (an allocation, a call, an append): whatever the order, it is as if the readers came first, and the others behind them, in the text's order. -/
import Derived.Test.YtlnkjmgfkpeicaaGreatDoorCodeK
import Derived.Deep.MidRow
namespace Go.Proofs.YtlnkjmgfkpeicaaGreatDoor
open Go.RowKit
section
variable {P : Program} {ops : Array Oper} {md : Region.Mode} {C : World → Prop} {Q : Exit → Act → World → Prop}

/-- what hands no call on -/
def noEnter (o : Oper) : Bool := match o.op with
  | .move _ | .assign _ | .pick _ _ _ | .build _ _ | .load _ _ | .binOp _ _ _ _ _ | .unOp _ _ _ | .convert _ _ _ | .fieldAddr _ _ _ | .field _ _ _ | .indexAddr _ _ _ | .index _ _ _ | .extract _ _ | .slice _ _ _ _ _ | .lookup _ _ _ _ => true
  | .nilCheck _ => true
  | .call c => match c.callee with | .builtin .len => true | .builtin .cap => true | .builtin .min => true | .builtin .max => true | _ => false
  | _ => false
/-- one value in each world of the class, the world left as it was -/
def YieldsS (P : Program) (ops : Array Oper) (C : World → Prop) (o : Oper) (v : Value) (a : Act) : Prop :=
  (Region.wanted o (yielded ops a.tmps) = true ∧ ∀ w, C w → (execOp a.eval o).run P w = .ok (.value v) w) ∨ (Region.wanted o (yielded ops a.tmps) = false ∧ v = undef)

theorem run_bind_ok {α β : Type} {s : Sem α} {f : α → Sem β} {P : Program} {w w' : World} {n : β} (h : (s >>= f).run P w = .ok n w') : ∃ u w1, s.run P w = .ok u w1 ∧ (f u).run P w1 = .ok n w' := by
  rw [Sem.run_bind] at h
  cases hs : s.run P w with
  | ok u w1 => rw [hs] at h; exact ⟨u, w1, rfl, h⟩
  | halt x w1 => rw [hs] at h; cases h
theorem run_v {s : Sem Value} {P : Program} {w w' : World} {n : Next} (h : ((do pure (Next.value (← s))) : Sem Next).run P w = .ok n w') : ∃ u, n = .value u := by
  simp only [Sem.run_bind, Sem.run_pure] at h
  cases hs : s.run P w with
  | ok u w1 => rw [hs] at h; simp only [Result.andThen_ok] at h; injection h with h1 h2; exact ⟨u, h1.symm⟩
  | halt x w1 => rw [hs] at h; cases h
theorem noEnter_value {o : Oper} (ho : noEnter o = true) {ρ : Operand → Value} {w w' : World} {n : Next} (h : (execOp ρ o).run P w = .ok n w') : ∃ u, n = .value u := by
  obtain ⟨dst, op, type, pos, after, guard⟩ := o
  cases op <;> simp only [noEnter] at ho <;> (first | (cases ho; done) | skip) <;> simp only [execOp] at h
  case move => simp only [Sem.run_pure] at h; injection h with h; exact ⟨_, h.symm⟩
  case assign => simp only [Sem.run_pure] at h; injection h with h; exact ⟨_, h.symm⟩
  case pick c x y =>
    simp only [Sem.run_bind, Sem.run_pure] at h
    cases hs : (asBool (ρ c)).run P w with
    | ok u w1 => rw [hs] at h; simp only [Result.andThen_ok] at h; injection h with h1 h2; exact ⟨_, h1.symm⟩
    | halt x w1 => rw [hs] at h; cases h
  case nilCheck x =>
    split at h
    · exact absurd h (by simp [go_sem])
    · exact absurd h (by simp [go_sem])
    · exact absurd h (by simp [go_sem])
    · split at h
      · exact absurd h (by simp [go_sem])
      · obtain ⟨u1, w1, -, h⟩ := run_bind_ok h
        obtain ⟨u2, w2, -, h⟩ := run_bind_ok h
        split at h
        · obtain ⟨u3, w3, -, h⟩ := run_bind_ok h
          simp only [Sem.run_pure] at h; injection h with h; exact ⟨_, h.symm⟩
        · simp only [Sem.run_pure] at h; injection h with h; exact ⟨_, h.symm⟩
      · simp only [Sem.run_pure] at h; injection h with h; exact ⟨_, h.symm⟩
    · simp only [Sem.run_pure] at h; injection h with h; exact ⟨_, h.symm⟩
  case call c =>
    obtain ⟨callee, args, argTypes⟩ := c
    cases callee with
    | builtin b =>
      simp only [Sem.run_bind, resolve, Sem.run_pure, Result.andThen_ok, invoke] at h
      cases b <;> simp only [] at ho <;> (first | (cases ho; done) | exact run_v h)
    | value f => simp only [] at ho; cases ho
    | invoke r m => simp only [] at ho; cases ho
  all_goals exact run_v h
theorem YieldsS.of_same {o : Oper} {v : Value} {a a' : Act} (hy : YieldsS P ops C o v a) (he : execOp a'.eval o = execOp a.eval o)
    (hw : Region.wanted o (yielded ops a'.tmps) = Region.wanted o (yielded ops a.tmps)) : YieldsS P ops C o v a' := by
  unfold YieldsS at *
  rw [he, hw]
  exact hy
theorem YieldsS.of_in {o : Oper} {v : Value} {a : Act} (ho : noEnter o = true) (hy : YieldsIn P ops C o v a) : YieldsS P ops C o v a := by
  rcases hy with ⟨h1, h2⟩ | h
  · refine .inl ⟨h1, fun w hw => ?_⟩
    have h3 := h2 w hw
    unfold Oper.quietAt at h3
    cases hr : (execOp a.eval o).run P w with
    | ok n w' =>
      rw [hr] at h3
      obtain ⟨u, rfl⟩ := noEnter_value ho hr
      simp only [Oper.quietUpon] at h3
      rw [h3.1, h3.2]
    | halt x w' => rw [hr] at h3; exact h3.elim
  · exact .inr h
theorem YieldsS.wpOp {i : Nat} {o : Oper} {v : Value} {a : Act} (hi : ops[i]? = some o) (hy : YieldsS P ops C o v a) {K : Act → World → Prop} {w : World} (hw : C w) (h : K (a.put o.dst v) w) : wpOp P ops Q i K a w := by
  unfold Go.wpOp
  simp only [hi]
  rcases hy with ⟨hg, hv⟩ | ⟨hg, rfl⟩
  · simp only [hg, if_true, Oper.wp, hv w hw, Oper.upon]; exact .inl h
  · simp only [hg, Bool.false_eq_true, if_false]; exact h
theorem wpOp_putS {j : Nat} {oi oj : Oper} {v : Value} (hj : ops[j]? = some oj) (hap : oi.apart ops oj = true)
    (hsi : ∀ cs b, oi.op ≠ .select cs b) (hsj : ∀ cs b, oj.op ≠ .select cs b)
    (hQ : ∀ c a w, Q (.panic c) (a.put oi.dst v) w → Q (.panic c) a w) {K : Act → World → Prop} {a : Act} {w : World}
    (hy : YieldsS P ops C oi v a) (h : wpOp P ops Q j K (a.put oi.dst v) w) :
    wpOp P ops Q j (fun a' w' => YieldsS P ops C oi v a' ∧ K (a'.put oi.dst v) w') a w := by
  obtain ⟨h1, h2, h3⟩ := Oper.apart_spec hap
  have keep : ∀ (a : Act), YieldsS P ops C oi v a → ∀ u, YieldsS P ops C oi v (a.put oj.dst u) := fun a hy u =>
    hy.of_same (execOp_put oi hsi a oj.dst u h3) (wanted_put oi a oj.dst u h3)
  have keepD : ∀ d, YieldsS P ops C oi v { a with defers := d :: a.defers } := fun d => hy.of_same rfl rfl
  unfold wpOp at *
  simp only [hj] at *
  rw [wanted_put oj a oi.dst v h1] at h
  split
  · rename_i hw
    simp only [hw, if_true] at h
    rcases h with h | ⟨hasks, hlets⟩
    case inr => exact .inr ⟨by unfold Oper.asks at *; rw [execOp_put oj hsj a oi.dst v h1] at hasks; exact hasks, hlets⟩
    refine .inl ?_
    unfold Oper.wp at *
    rw [execOp_put oj hsj a oi.dst v h1] at h
    generalize (execOp a.eval oj).run P w = r at *
    cases r with
    | ok n w' =>
      cases n <;> simp only [Oper.upon] at h ⊢
      case value u => exact ⟨keep a hy u, by rw [← Act.put_comm a v u h2]; exact h⟩
      case skip => exact ⟨keep a hy _, by rw [← Act.put_comm a v undef h2]; exact h⟩
      case defer d =>
        refine ⟨keep _ (keepD d) _, ?_⟩
        rw [← Act.put_comm _ v undef h2, ← Act.put_defers]
        exact h
      case enter f args =>
        refine Calls.mono h fun e w'' he => ?_
        cases e with
        | returned u => exact ⟨keep a hy u, by rw [← Act.put_comm a v u h2]; exact he⟩
        | panicked c => exact hQ _ _ _ he
        | outgrown => exact he
      case row row args => exact Rows.mono h fun u w'' he => ⟨keep a hy u, by rw [← Act.put_comm a v u h2]; exact he⟩
    | halt x w' =>
      cases x <;> simp only [Oper.upon] at h ⊢
      case panic u => exact hQ _ _ _ h
  · rename_i hw
    simp only [hw] at h
    exact ⟨keep a hy _, by rw [← Act.put_comm a v undef h2]; exact h⟩

/-- whatever order is picked; behind each operation that F names the class is kept -/
def wpAnyC (P : Program) (md : Region.Mode) (ops : Array Oper) (C : World → Prop) (F : Nat → Bool) (Q : Exit → Act → World → Prop) : Nat → Array Bool → Act → World → Prop
  | 0, listed, a, w => Region.ready md ops listed = [] ∧ Q .normal a w
  | f + 1, listed, a, w => (Region.ready md ops listed = [] → Q .normal a w) ∧
    ∀ i ∈ Region.ready md ops listed, wpOp P ops Q i (fun a' w' => (F i = true → C w') ∧ wpAnyC P md ops C F Q f (listed.setIfInBounds i true) a' w') a w
theorem wpAny_of_C {F : Nat → Bool} : ∀ (f : Nat) (listed : Array Bool) (a : Act) (w : World), wpAnyC P md ops C F Q f listed a w → wpAny P md ops Q f listed a w
  | 0, _, _, _, h => h
  | f + 1, _, _, _, h => ⟨h.1, fun i hi => wpOp_mono (fun a' w' h' => wpAny_of_C f _ a' w' h'.2) (h.2 i hi)⟩

/-- the listed ones are closed under what they wait for -/
def Closed (md : Region.Mode) (ops : Array Oper) (listed : Array Bool) : Prop := ∀ j oj, ops[j]? = some oj → listed.getD j false = true → ∀ e ∈ oj.after, Region.binds md e = true → listed.getD e.on false = true
theorem Closed.set {listed : Array Bool} {i : Nat} (h : Closed md ops listed) (hi : i ∈ Region.ready md ops listed) : Closed md ops (listed.setIfInBounds i true) := by
  intro j oj hj hl e he hb
  obtain ⟨_, oi, hoi, hall⟩ := mem_ready.1 hi
  by_cases hij : i = j
  · subst hij
    rw [hj] at hoi; injection hoi with hoi; subst hoi
    exact getD_set_true (hall e he hb)
  · rw [getD_set_ne false hij] at hl
    exact getD_set_true (h j oj hj hl e he hb)
/-- what operation j waits for, so many steps back -/
def before (md : Region.Mode) (ops : Array Oper) : Nat → Nat → List Nat
  | 0, _ => []
  | f + 1, j => match ops[j]? with
    | none => []
    | some o => o.after.toList.flatMap fun e => if Region.binds md e then e.on :: before md ops f e.on else []
theorem before_listed {listed : Array Bool} (hc : Closed md ops listed) : ∀ (f j : Nat), (∀ oj, ops[j]? = some oj → ∀ e ∈ oj.after, Region.binds md e = true → listed.getD e.on false = true) → ∀ i ∈ before md ops f j, listed.getD i false = true
  | 0, _, _, _, hi => by cases hi
  | f + 1, j, h, i, hi => by
    unfold before at hi
    split at hi
    · cases hi
    · rename_i o ho
      obtain ⟨e, he, hie⟩ := List.mem_flatMap.1 hi
      split at hie
      · rename_i hb
        have he' : e ∈ o.after := by simpa using he
        have h1 := h o ho e he' hb
        rcases List.mem_cons.1 hie with rfl | hie
        · exact h1
        · exact before_listed hc f e.on (fun oj hoj e' he'' hb' => hc e.on oj hoj h1 e' he'' hb') i hie
      · cases hie
/-- an operation that the class need not be kept behind waits for all readers -/
def lateB (md : Region.Mode) (ops : Array Oper) (F : Nat → Bool) (f : Nat) (qs : List Nat) : Bool :=
  (List.range ops.size).all fun j => F j || qs.contains j || qs.all fun i => (match ops[j]? with | none => false | some o => o.after.any fun e => Region.binds md e && e.on == i) || (before md ops f j).contains i
theorem late_spec {F : Nat → Bool} {f : Nat} {qs : List Nat} (h : lateB md ops F f qs = true) {listed : Array Bool} (hc : Closed md ops listed) {i j : Nat} (hi : i ∈ qs) (hu : listed.getD i true = false) (hj : j ∈ Region.ready md ops listed) (hjq : j ∉ qs) : F j = true := by
  obtain ⟨_, oj, hoj, hall⟩ := mem_ready.1 hj
  have hlt : j < ops.size := (Array.getElem?_eq_some_iff.1 hoj).1
  have hu' : listed.getD i false = false := by
    rcases Nat.lt_or_ge i listed.size with h' | h'
    · simp [h'] at hu ⊢; exact hu
    · simp [Array.getElem?_eq_none h']
  have h1 := List.all_eq_true.1 h j (List.mem_range.2 hlt)
  simp only [Bool.or_eq_true] at h1
  rcases h1 with (h1 | h1) | h1
  · exact h1
  · exact absurd (by simpa using h1) hjq
  · have h2 := List.all_eq_true.1 h1 i hi
    simp only [hoj, Bool.or_eq_true] at h2
    rcases h2 with h2 | h2
    · obtain ⟨e, he, hb⟩ := Array.any_eq_true'.1 h2
      simp only [Bool.and_eq_true, beq_iff_eq] at hb
      have := hall e he hb.1
      rw [hb.2, hu'] at this; cases this
    · have := before_listed hc f j (fun oj' hoj' e he hb => by rw [hoj] at hoj'; injection hoj' with hoj'; subst hoj'; exact hall e he hb) i (by simpa using h2)
      rw [hu'] at this; cases this
theorem wpAnyC_first {F : Nat → Bool} {i : Nat} {oi : Oper} {v : Value} (hi : ops[i]? = some oi) (hsel : ∀ (j : Nat) (o : Oper) cs b, ops[j]? = some o → o.op ≠ .select cs b)
    (hQ : ∀ c a w, Q (.panic c) (a.put oi.dst v) w → Q (.panic c) a w)
    (hlate : ∀ listed j, Closed md ops listed → listed.getD i true = false → j ∈ Region.ready md ops listed → F j = true) :
    ∀ (fuel : Nat) (listed : Array Bool) (a : Act) (w : World), Closed md ops listed → C w →
      (∀ j oj, ops[j]? = some oj → j ≠ i → listed.getD j true = false → (∀ e ∈ oj.after, Region.binds md e = true → e.on ≠ i) → oi.apart ops oj = true) →
      i ∈ Region.ready md ops listed → YieldsS P ops C oi v a →
      wpAnyC P md ops C F Q fuel (listed.setIfInBounds i true) (a.put oi.dst v) w → wpAnyC P md ops C F Q (fuel + 1) listed a w := by
  intro fuel
  induction fuel with
  | zero =>
    intro listed a w _ hw _ hr hy H
    refine ⟨fun h => (by rw [h] at hr; cases hr), fun j hj => ?_⟩
    by_cases hji : j = i
    · subst hji; exact hy.wpOp hi hw ⟨fun _ => hw, H⟩
    · have := ready_mono hj hji
      rw [H.1] at this
      cases this
  | succ fuel ih =>
    intro listed a w hc hw hfree hr hy H
    refine ⟨fun h => (by rw [h] at hr; cases hr), fun j hj => ?_⟩
    by_cases hji : j = i
    · subst hji; exact hy.wpOp hi hw ⟨fun _ => hw, H⟩
    · have h1 := H.2 j (ready_mono hj hji)
      obtain ⟨hjun, oj, hoj, hall⟩ := mem_ready.1 hj
      have hnot : ∀ e ∈ oj.after, Region.binds md e = true → e.on ≠ i := fun e he hb heq => by
        have h1 := hall e he hb
        have h0 := (mem_ready.1 hr).1
        rw [heq] at h1
        rcases Nat.lt_or_ge i listed.size with h' | h'
        · simp [h'] at h0 h1; rw [h0] at h1; cases h1
        · simp [Array.getElem?_eq_none h'] at h1
      have h2 := wpOp_putS hoj (hfree j oj hoj hji hjun hnot) (fun cs b => hsel i oi cs b hi) (fun cs b => hsel j oj cs b hoj) hQ hy h1
      have hfree' : ∀ k ok, ops[k]? = some ok → k ≠ i → (listed.setIfInBounds j true).getD k true = false →
          (∀ e ∈ ok.after, Region.binds md e = true → e.on ≠ i) → oi.apart ops ok = true := fun k ok hk hki hun hno => by
        refine hfree k ok hk hki ?_ hno
        by_cases hjk : j = k
        · subst hjk; exact hjun
        · rw [getD_set_ne true hjk] at hun; exact hun
      have hF := hlate listed j hc (mem_ready.1 hr).1 hj
      refine wpOp_mono (fun a' w' h3 => ⟨h3.2.1, ih (listed.setIfInBounds j true) a' w' (hc.set hj) (h3.2.1 hF) hfree' (ready_mono hr (Ne.symm hji)) h3.1 ?_⟩) h2
      rw [Array.setIfInBounds_comm _ _ hji]
      exact h3.2.2

/-- the others, in their order; behind those that float the class is kept -/
def wpMs (P : Program) (ops : Array Oper) (C : World → Prop) (F : Nat → Bool) (Q : Exit → Act → World → Prop) : List Nat → Act → World → Prop
  | [], a, w => Q .normal a w
  | i :: rest, a, w => wpOp P ops Q i (fun a' w' => (F i = true → C w') ∧ wpMs P ops C F Q rest a' w') a w
def seqM (md : Region.Mode) (ops : Array Oper) : List Nat → Array Bool → Bool
  | [], listed => (Region.ready md ops listed).isEmpty
  | i :: rest, listed => decide (Region.ready md ops listed = [i]) && seqM md ops rest (listed.setIfInBounds i true)
theorem wpAnyC_of_ms {F : Nat → Bool} : ∀ (ms : List Nat) (listed : Array Bool) (a : Act) (w : World), seqM md ops ms listed = true → wpMs P ops C F Q ms a w → wpAnyC P md ops C F Q ms.length listed a w
  | [], listed, a, w, hB, h => ⟨by simpa [seqM] using hB, h⟩
  | i :: rest, listed, a, w, hB, h => by
    simp only [seqM, Bool.and_eq_true, decide_eq_true_eq] at hB
    refine ⟨fun h1 => (by rw [hB.1] at h1; cases h1), fun j hj => ?_⟩
    rw [hB.1] at hj
    obtain rfl : j = i := by simpa using hj
    exact wpOp_mono (fun a' w' h' => ⟨h'.1, wpAnyC_of_ms rest _ a' w' hB.2 h'.2⟩) h
def readB (md : Region.Mode) (ops : Array Oper) (ms : List Nat) : List Nat → Array Bool → Bool
  | [], listed => seqM md ops ms listed
  | i :: rest, listed => (Region.ready md ops listed).contains i && Region.free md ops listed i && ((ops[i]?).map noEnter).getD false && readB md ops ms rest (listed.setIfInBounds i true)
/-- ALL THAT IS ASKED OF A REGION: qs: the readers; ms: the others, in their order; fl: those of the others that may come ahead of a reader. -/
def commB (md : Region.Mode) (ops : Array Oper) (qs ms fl : List Nat) : Bool :=
  Region.noSelect ops && lateB md ops (fun j => qs.contains j || fl.contains j) ops.size qs && readB md ops ms qs (Array.replicate ops.size false) && decide (qs.length + ms.length = ops.size)
theorem wpAnyC_read {F : Nat → Bool} {ms qs0 : List Nat} (hsel : Region.noSelect ops = true) (hQ : ∀ (c : _) (a : Act) (d : Option Tmp) (v : Value) (w : World), Q (.panic c) (a.put d v) w → Q (.panic c) a w)
    (hlate : ∀ listed i j, i ∈ qs0 → Closed md ops listed → listed.getD i true = false → j ∈ Region.ready md ops listed → F j = true) {w : World} (hw : C w) :
    ∀ (qs : List Nat) (listed : Array Bool) (a : Act), (∀ i ∈ qs, i ∈ qs0) → Closed md ops listed → readB md ops ms qs listed = true →
      wpQuiet P ops C (fun a' => wpMs P ops C F Q ms a' w) (qs.filterMap (ops[·]?)) a → wpAnyC P md ops C F Q (qs.length + ms.length) listed a w
  | [], listed, a, _, _, hB, h => by
    rw [List.length_nil, Nat.zero_add]
    exact wpAnyC_of_ms ms listed a w hB h
  | i :: rest, listed, a, hsub, hc, hB, h => by
    simp only [readB, Bool.and_eq_true] at hB
    obtain ⟨⟨⟨hr, hf⟩, hn⟩, hB'⟩ := hB
    have hr' : i ∈ Region.ready md ops listed := by simpa using hr
    cases ho : ops[i]? with
    | none => rw [ho] at hn; cases hn
    | some o =>
      rw [ho] at hn
      have hn' : noEnter o = true := hn
      simp only [List.filterMap_cons, ho] at h
      have hst : qOp P ops C i (wpQuiet P ops C (fun a' => wpMs P ops C F Q ms a' w) (rest.filterMap (ops[·]?))) a := by unfold qOp; simp only [ho]; exact h
      obtain ⟨v, hy, hK⟩ := yieldsIn_of_qOp ho hst
      rw [List.length_cons, show rest.length + 1 + ms.length = (rest.length + ms.length) + 1 by omega]
      exact wpAnyC_first ho (Region.noSelect_spec hsel) (fun c a w => hQ c a _ _ w) (fun l j hcl hu hj => hlate l i j (hsub i (by simp)) hcl hu hj) _ listed a w hc hw (Region.free_spec ho hf) hr' (YieldsS.of_in hn' hy)
        (wpAnyC_read hsel hQ hlate hw rest _ _ (fun k hk => hsub k (by simp [hk])) (hc.set hr') hB' hK)
/-- THE LAW. -/
theorem wp_region_comm {id : Nat} {a : Act} {w : World} {l : List Oper} (C : World → Prop) (qs ms fl : List Nat) (hm : P.follows .mixedOrders = true) (hB : commB .any l.toArray qs ms fl = true)
    (hQ : ∀ (c : _) (a : Act) (d : Option Tmp) (v : Value) (w : World), Q (.panic c) (a.put d v) w → Q (.panic c) a w) (hC : C w.drew)
    (h : wpQuiet P l.toArray C (fun a' => wpMs P l.toArray C (fun j => qs.contains j || fl.contains j) Q ms a' w.drew) (qs.filterMap (l.toArray[·]?)) a) : (Code.region id l.toArray true).wp P Q a w := by
  simp only [commB, Bool.and_eq_true, decide_eq_true_eq] at hB
  obtain ⟨⟨⟨hsel, hlate⟩, hread⟩, hlen⟩ := hB
  have H := wpAnyC_read (md := .any) (qs0 := qs) (ms := ms) (F := fun j => qs.contains j || fl.contains j) (Q := Q) hsel hQ (fun listed i j hi hc hu hj => by
    by_cases hjq : j ∈ qs
    · simp [hjq]
    · exact late_spec hlate hc hi hu hj hjq) hC qs (Array.replicate l.toArray.size false) a (fun _ h => h) (by
    intro j oj _ hl
    rw [getD_replicate_false] at hl
    cases hl) hread h
  rw [hlen] at H
  exact wp_region_any hm (wpAny_of_C _ _ _ _ H)
theorem range_take (l : List Oper) : ∀ n, n ≤ l.length → (List.range n).filterMap (l.toArray[·]?) = l.take n
  | 0, _ => rfl
  | n + 1, h => by
    have hn : n < l.length := by omega
    rw [List.range_succ, List.filterMap_append, range_take l n (by omega), List.take_succ_eq_append_getElem hn]
    have e : l.toArray[n]? = some l[n] := by rw [List.getElem?_toArray]; exact List.getElem?_eq_getElem hn
    rw [List.filterMap_cons, e]
    rfl
/-- .. the readers being the first n. -/
theorem wp_region_first {id : Nat} {a : Act} {w : World} {l : List Oper} (C : World → Prop) (n : Nat) (ms fl : List Nat) (hm : P.follows .mixedOrders = true) (hn : n ≤ l.length) (hB : commB .any l.toArray (List.range n) ms fl = true)
    (hQ : ∀ (c : _) (a : Act) (d : Option Tmp) (v : Value) (w : World), Q (.panic c) (a.put d v) w → Q (.panic c) a w) (hC : C w.drew)
    (h : wpQuiet P l.toArray C (fun a' => wpMs P l.toArray C (fun j => (List.range n).contains j || fl.contains j) Q ms a' w.drew) (l.take n) a) : (Code.region id l.toArray true).wp P Q a w :=
  wp_region_comm C (List.range n) ms fl hm hB hQ hC (by rw [range_take l n hn]; exact h)
def readB2 (md : Region.Mode) (ops : Array Oper) (last : Array Bool) : List Nat → Array Bool → Bool
  | [], listed => listed == last
  | i :: rest, listed => (Region.ready md ops listed).contains i && Region.free md ops listed i && ((ops[i]?).map noEnter).getD false && readB2 md ops last rest (listed.setIfInBounds i true)
def commB2 (md : Region.Mode) (ops : Array Oper) (qs fl : List Nat) (m : Nat) (last : Array Bool) : Bool :=
  Region.noSelect ops && lateB md ops (fun j => qs.contains j || fl.contains j) ops.size qs && readB2 md ops last qs (Array.replicate ops.size false) && decide (qs.length + m = ops.size)
theorem wpAnyC_read2 {F : Nat → Bool} {qs0 : List Nat} {m : Nat} {last : Array Bool} (hsel : Region.noSelect ops = true) (hQ : ∀ (c : _) (a : Act) (d : Option Tmp) (v : Value) (w : World), Q (.panic c) (a.put d v) w → Q (.panic c) a w)
    (hlate : ∀ listed i j, i ∈ qs0 → Closed md ops listed → listed.getD i true = false → j ∈ Region.ready md ops listed → F j = true) {w : World} (hw : C w) :
    ∀ (qs : List Nat) (listed : Array Bool) (a : Act), (∀ i ∈ qs, i ∈ qs0) → Closed md ops listed → readB2 md ops last qs listed = true →
      wpQuiet P ops C (fun a' => wpAnyC P md ops C F Q m last a' w) (qs.filterMap (ops[·]?)) a → wpAnyC P md ops C F Q (qs.length + m) listed a w
  | [], listed, a, _, _, hB, h => by
    rw [List.length_nil, Nat.zero_add]
    have e : listed = last := by simpa [readB2] using hB
    rw [e]
    exact h
  | i :: rest, listed, a, hsub, hc, hB, h => by
    simp only [readB2, Bool.and_eq_true] at hB
    obtain ⟨⟨⟨hr, hf⟩, hn⟩, hB'⟩ := hB
    have hr' : i ∈ Region.ready md ops listed := by simpa using hr
    cases ho : ops[i]? with
    | none => rw [ho] at hn; cases hn
    | some o =>
      rw [ho] at hn
      have hn' : noEnter o = true := hn
      simp only [List.filterMap_cons, ho] at h
      have hst : qOp P ops C i (wpQuiet P ops C (fun a' => wpAnyC P md ops C F Q m last a' w) (rest.filterMap (ops[·]?))) a := by unfold qOp; simp only [ho]; exact h
      obtain ⟨v, hy, hK⟩ := yieldsIn_of_qOp ho hst
      rw [List.length_cons, show rest.length + 1 + m = (rest.length + m) + 1 by omega]
      exact wpAnyC_first ho (Region.noSelect_spec hsel) (fun c a w => hQ c a _ _ w) (fun l j hcl hu hj => hlate l i j (hsub i (by simp)) hcl hu hj) _ listed a w hc hw (Region.free_spec ho hf) hr' (YieldsS.of_in hn' hy)
        (wpAnyC_read2 hsel hQ hlate hw rest _ _ (fun k hk => hsub k (by simp [hk])) (hc.set hr') hB' hK)
/-- THE READERS FIRST, and then whatever order the others take ('last': which have been listed by then; m: how many are left). -/
theorem wp_region_readers {id : Nat} {a : Act} {w : World} {l : List Oper} (C : World → Prop) (qs fl : List Nat) (m : Nat) (last : Array Bool) (lq : List Oper) (hm : P.follows .mixedOrders = true) (hB : commB2 .any l.toArray qs fl m last = true)
    (hq : qs.filterMap (l.toArray[·]?) = lq) (hQ : ∀ (c : _) (a : Act) (d : Option Tmp) (v : Value) (w : World), Q (.panic c) (a.put d v) w → Q (.panic c) a w) (hC : C w.drew)
    (h : wpQuiet P l.toArray C (fun a' => wpAnyC P .any l.toArray C (fun j => qs.contains j || fl.contains j) Q m last a' w.drew) lq a) : (Code.region id l.toArray true).wp P Q a w := by
  subst hq
  simp only [commB2, Bool.and_eq_true, decide_eq_true_eq] at hB
  obtain ⟨⟨⟨hsel, hlate⟩, hread⟩, hlen⟩ := hB
  have H := wpAnyC_read2 (md := .any) (qs0 := qs) (m := m) (F := fun j => qs.contains j || fl.contains j) (Q := Q) hsel hQ (fun listed i j hi hc hu hj => by
    by_cases hjq : j ∈ qs
    · simp [hjq]
    · exact late_spec hlate hc hi hu hj hjq) hC qs (Array.replicate l.toArray.size false) a (fun _ h => h) (by
    intro j oj _ hl
    rw [getD_replicate_false] at hl
    cases hl) hread h
  rw [hlen] at H
  exact wp_region_any hm (wpAny_of_C _ _ _ _ H)
/-- two may come up -/
theorem wpAnyC_two {F : Nat → Bool} {f i k : Nat} {oi ok : Oper} {listed : Array Bool} {a : Act} {w : World} (hr : Region.ready md ops listed = [i, k]) (hi : ops[i]? = some oi) (hk : ops[k]? = some ok)
    (h1 : ∀ K : Act → World → Prop, (∀ a w, (F i = true → C w) → wpAnyC P md ops C F Q f (listed.setIfInBounds i true) a w → K a w) → if Region.wanted oi (yielded ops a.tmps) then oi.wp P a w K Q else K (a.put oi.dst undef) w)
    (h2 : ∀ K : Act → World → Prop, (∀ a w, (F k = true → C w) → wpAnyC P md ops C F Q f (listed.setIfInBounds k true) a w → K a w) → if Region.wanted ok (yielded ops a.tmps) then ok.wp P a w K Q else K (a.put ok.dst undef) w) :
    wpAnyC P md ops C F Q (f + 1) listed a w := by
  refine ⟨fun h => (by rw [hr] at h; cases h), fun j hj => ?_⟩
  rw [hr] at hj
  rcases List.mem_cons.1 hj with rfl | hj
  · have := h1 (fun a' w' => (F j = true → C w') ∧ wpAnyC P md ops C F Q f (listed.setIfInBounds j true) a' w') (fun _ _ h1 h2 => ⟨h1, h2⟩)
    unfold wpOp
    simp only [hi]
    split
    · rename_i hw; rw [if_pos hw] at this; exact .inl this
    · rename_i hw; rw [if_neg hw] at this; exact this
  · obtain rfl : j = k := by simpa using hj
    have := h2 (fun a' w' => (F j = true → C w') ∧ wpAnyC P md ops C F Q f (listed.setIfInBounds j true) a' w') (fun _ _ h1 h2 => ⟨h1, h2⟩)
    unfold wpOp
    simp only [hk]
    split
    · rename_i hw; rw [if_pos hw] at this; exact .inl this
    · rename_i hw; rw [if_neg hw] at this; exact this
/-- one of the others -/
theorem wpMs_step {F : Nat → Bool} {i : Nat} {o : Oper} {rest : List Nat} {a : Act} {w : World} (ho : ops[i]? = some o)
    (h : ∀ K : Act → World → Prop, (∀ a w, (F i = true → C w) → wpMs P ops C F Q rest a w → K a w) → if Region.wanted o (yielded ops a.tmps) then o.wp P a w K Q else K (a.put o.dst undef) w) : wpMs P ops C F Q (i :: rest) a w := by
  have := h (fun a' w' => (F i = true → C w') ∧ wpMs P ops C F Q rest a' w') (fun _ _ h1 h2 => ⟨h1, h2⟩)
  show wpOp P ops Q i (fun a' w' => (F i = true → C w') ∧ wpMs P ops C F Q rest a' w') a w
  unfold wpOp
  simp only [ho]
  split
  · rename_i hw; rw [if_pos hw] at this; exact .inl this
  · rename_i hw; rw [if_neg hw] at this; exact this
/-- where none floats: a walk like any other -/
theorem wpMs_list {F : Nat → Bool} : ∀ (ms : List Nat) (a : Act) (w : World), (ms.all fun j => !F j) = true → (ms.all fun j => (ops[j]?).isSome) = true → wpList P ops Q (ms.filterMap (ops[·]?)) a w → wpMs P ops C F Q ms a w
  | [], _, _, _, _, h => h
  | i :: rest, a, w, hF, hS, h => by
    simp only [List.all_cons, Bool.and_eq_true, Bool.not_eq_true'] at hF hS
    cases ho : ops[i]? with
    | none => rw [ho] at hS; cases hS.1
    | some o =>
      simp only [List.filterMap_cons, ho] at h
      show wpOp P ops Q i _ a w
      unfold wpOp
      simp only [ho]
      have h' : if Region.wanted o (yielded ops a.tmps) then o.wp P a w (wpList P ops Q (rest.filterMap (ops[·]?))) Q ∨ (o.asks P a w ∧ LetsOut Q) else wpList P ops Q (rest.filterMap (ops[·]?)) (a.put o.dst undef) w := h
      split
      · rename_i hw
        rw [if_pos hw] at h'
        exact h'.imp (Oper.wp_mono fun a' w' h2 => ⟨fun e => (by rw [hF.1] at e; cases e), wpMs_list rest a' w' hF.2 hS.2 h2⟩) id
      · rename_i hw
        rw [if_neg hw] at h'
        exact ⟨fun e => (by rw [hF.1] at e; cases e), wpMs_list rest _ _ hF.2 hS.2 h'⟩
end
theorem Below.setCells_ {B b : Nat} (hB : B ≤ b) {w0 : World} : ∀ (vs : List Value) (o : Nat) (w : World), Below B w0 w → Below B w0 (w.setCells b o vs)
  | [], _, _, h => h
  | v :: r, o, w, h => by
    rw [World.setCells]
    exact Below.setCells_ hB r (o + 1) _ (h.setCell hB _)
theorem there_of_row {w : World} {g : Nat} {cs : Array Value} {t : TypeId} {n : Nat} (h : w.heap[g]? = some (.cells cs t (0, 0))) (hn : n ≤ cs.size) : w.there g 0 n := fun j hj => by
  rw [Nat.zero_add]
  refine ⟨?_, frozen_of_row w g j _ _ h⟩
  rw [cell_of_row w g j _ _ _ h, Array.getElem?_eq_getElem (by omega)]
  rfl
theorem heap_new (w : World) (o : Obj) : (w.alloc o).drew.heap[w.heap.size]? = some o := by
  show (w.heap.push o)[w.heap.size]? = some o
  exact Array.getElem?_push_size
#print axioms wp_region_comm
end Go.Proofs.YtlnkjmgfkpeicaaGreatDoor
