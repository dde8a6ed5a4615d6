/- span.Do as a plain function; done again it changes nothing. No program. -/
import Derived.Test.YtmccomeihnaanaaDoorSpanM
import Derived.Test.YtmccomeihnaanaaDoorCutM
namespace Go.Proofs.YtmccomeihnaanaaDoor

/-- an instruction without its exit -/
def stripI (x : TIns) : TIns := { x with exit := 0 }
theorem insAt_strip (ins : List TIns) (v : Int) : insAt (ins.map stripI) v = stripI (insAt ins v) := by
  unfold insAt
  rw [List.getElem?_map]
  cases ins[v.toNat]? <;> rfl
theorem opOf_strip (ins : List TIns) (v : Int) : opOf (ins.map stripI) v = opOf ins v := by
  unfold opOf
  rw [List.getElem?_map]
  cases ins[v.toNat]? <;> rfl
theorem guardM_strip (v : Int) : ∀ l : List TIns, guardM v (l.map stripI) = guardM v l
  | [] => rfl
  | x :: l => by
    rw [List.map_cons]
    unfold guardM
    rw [guardM_strip v l]
    rfl
theorem kindF_strip (ins : List TIns) : ∀ (n : Nat) (v a : Int), kindF (ins.map stripI) n v a = kindF ins n v a
  | 0, _, _ => rfl
  | n + 1, v, a => by
    have e : (kindF (ins.map stripI) n · v) = (kindF ins n · v) := funext fun u => kindF_strip ins n u v
    unfold kindF
    rw [opOf_strip, List.length_map, insAt_strip, ← List.map_take, ← List.map_drop, guardM_strip, e]
    rfl
theorem kindM_strip (ins : List TIns) (v a : Int) : kindM (ins.map stripI) v a = kindM ins v a := kindF_strip ins _ v a
theorem intsM_strip (ins : List TIns) (i : Int) : intsM (ins.map stripI) i = intsM ins i := by
  unfold intsM
  rw [insAt_strip, kindM_strip, kindM_strip]
  rfl
theorem itselfM_strip (ins : List TIns) (S : Int → Int × Int) (v : Int) : itselfM (ins.map stripI) S v = itselfM ins S v := by
  unfold itselfM
  rw [insAt_strip, intsM_strip]
  rfl
theorem spanStep_strip (ins : List TIns) (S : Int → Int → Int × Int) (v : Int) (s : Int × Int) (i : Nat) : spanStep (ins.map stripI) S v s i = spanStep ins S v s i := by
  unfold spanStep
  rw [insAt_strip]
  show (if (insAt ins i).op ≠ 5 then s else if (insAt (ins.map stripI) (insAt ins i).a).op ≠ 7 ∨ ((insAt (ins.map stripI) (insAt ins i).a).n ≠ 9 ∧ (insAt (ins.map stripI) (insAt ins i).a).n ≠ 10) ∨ ((insAt (ins.map stripI) (insAt ins i).a).a ≠ v ∧ (insAt (ins.map stripI) (insAt ins i).a).b ≠ v) ∨ intsM (ins.map stripI) (insAt ins i).a = false then s
    else if (insAt ins i).n = 1 then narrowM (S · i) s v (insAt (ins.map stripI) (insAt ins i).a).a (insAt (ins.map stripI) (insAt ins i).a).b (if (insAt (ins.map stripI) (insAt ins i).a).n = 9 then 1 else 0)
    else narrowM (S · i) s v (insAt (ins.map stripI) (insAt ins i).a).b (insAt (ins.map stripI) (insAt ins i).a).a (1 - (if (insAt (ins.map stripI) (insAt ins i).a).n = 9 then 1 else 0))) = _
  rw [insAt_strip, intsM_strip]
  rfl
theorem spanF_strip (ins : List TIns) : ∀ (n : Nat) (v a : Int), spanF (ins.map stripI) n v a = spanF ins n v a
  | 0, _, _ => rfl
  | n + 1, v, a => by
    have e : spanF (ins.map stripI) n = spanF ins n := funext fun u => funext fun b => spanF_strip ins n u b
    unfold spanF
    rw [e, itselfM_strip]
    have e2 : spanStep (ins.map stripI) (spanF ins n) v = spanStep ins (spanF ins n) v := funext fun s => funext fun i => spanStep_strip ins _ v s i
    rw [e2]
theorem spanM_strip (ins : List TIns) (v a : Int) : spanM (ins.map stripI) v a = spanM ins v a := spanF_strip ins _ v a

/-- what reckoned says -/
def reckW (S : Int → Int × Int) (x : TIns) : Int × Int := (reckM S x).getD (0, 0)
/-- does an instruction never throw? -/
def neverX (K : Int → Int) (S : Int → Int × Int) (ib : Bool) (x : TIns) : Bool :=
  if x.op = 8 then x.n == 11 || K x.a == 3 || (K x.a == 2 && decide (-2147483648 < (S x.a).1))
  else if K x.a = 3 ∧ K x.b = 3 then x.n != 7
  else if ib = false then false
  else if x.n = 6 ∨ x.n = 7 then (decide (0 < (S x.b).1) || decide ((S x.b).2 < 0)) && (decide (-1 < (S x.b).1) || decide ((S x.b).2 < -1) || decide (-2147483648 < (S x.a).1))
  else if x.n = 3 ∨ x.n = 4 ∨ x.n = 5 then decide (-2147483648 ≤ (reckW S x).1) && decide ((reckW S x).2 ≤ 2147483647)
  else true
def neverM (ins : List TIns) (i : Int) : Bool := neverX (kindM ins · i) (spanM ins · i) (intsM ins i) (insAt ins i)
theorem neverM_strip (ins : List TIns) (i : Int) : neverM (ins.map stripI) i = neverM ins i := by
  have e1 : (kindM (ins.map stripI) · i) = (kindM ins · i) := funext fun u => kindM_strip ins u i
  have e2 : (spanM (ins.map stripI) · i) = (spanM ins · i) := funext fun u => spanM_strip ins u i
  unfold neverM
  rw [e1, e2, intsM_strip, insAt_strip]
  rfl
/-- a guard that never fails is taken away -/
def freeI (ins : List TIns) (i : Nat) (x : TIns) : TIns := if (x.op = 7 ∨ x.op = 8) ∧ 0 ≤ x.exit ∧ neverM ins i = true then { x with exit := -1 } else x
def outT (t : TTrace) : TTrace := { t with ins := t.ins.mapIdx (freeI t.ins) }
theorem freeI_strip (ins : List TIns) (i : Nat) (x : TIns) : stripI (freeI ins i x) = stripI x := by
  unfold freeI
  split <;> rfl
theorem outT_strip (t : TTrace) : (outT t).ins.map stripI = t.ins.map stripI := by
  apply List.ext_getElem?
  intro i
  show ((t.ins.mapIdx (freeI t.ins)).map stripI)[i]? = _
  rw [List.getElem?_map, List.getElem?_map, List.getElem?_mapIdx]
  cases t.ins[i]? with
  | none => rfl
  | some x => simp only [Option.map_some, freeI_strip]
theorem never_out (t : TTrace) (i : Int) : neverM (outT t).ins i = neverM t.ins i := by rw [← neverM_strip, outT_strip, neverM_strip]
theorem outT_twice (t : TTrace) : outT (outT t) = outT t := by
  have h : (outT (outT t)).ins = (outT t).ins := by
    apply List.ext_getElem?
    intro i
    show ((t.ins.mapIdx (freeI t.ins)).mapIdx (freeI (outT t).ins))[i]? = (t.ins.mapIdx (freeI t.ins))[i]?
    rw [List.getElem?_mapIdx, List.getElem?_mapIdx]
    cases t.ins[i]? with
    | none => rfl
    | some x =>
      simp only [Option.map_some, Option.some.injEq]
      unfold freeI
      rw [never_out]
      by_cases c : (x.op = 7 ∨ x.op = 8) ∧ 0 ≤ x.exit ∧ neverM t.ins i = true
      · rw [if_pos c]
        exact if_neg (fun h => by have := h.2.1; dsimp only at this; omega)
      · rw [if_neg c, if_neg c]
  show ({ outT t with ins := _ } : TTrace) = outT t
  have h' : (outT t).ins.mapIdx (freeI (outT t).ins) = (outT t).ins := h
  rw [h']
theorem out_len (t : TTrace) : (outT t).ins.length = t.ins.length := by simp [outT]
theorem out_at {t : TTrace} {k : Nat} {x : TIns} (h : (outT t).ins[k]? = some x) : ∃ y, t.ins[k]? = some y ∧ x = freeI t.ins k y := by
  have h' : (t.ins.mapIdx (freeI t.ins))[k]? = some x := h
  rw [List.getElem?_mapIdx] at h'
  cases hy : t.ins[k]? with
  | none => rw [hy] at h'; cases h'
  | some y => rw [hy] at h'; injection h' with h'; exact ⟨y, rfl, h'.symm⟩
theorem asks_free (ins : List TIns) (i : Nat) (x : TIns) : asksM (freeI ins i x) = asksM x := by
  unfold freeI
  split <;> rfl
theorem op_out (t : TTrace) (v : Int) : opOf (outT t).ins v = opOf t.ins v := by rw [← opOf_strip, outT_strip, opOf_strip]
theorem cuts_out {t : TTrace} (h : Cuts t) : Cuts (outT t) := by
  refine ⟨fun k x hx v hv => ?_, ?_, ?_, ?_, h.loop0, ?_⟩
  · obtain ⟨y, hy, rfl⟩ := out_at hx
    rw [asks_free] at hv
    exact h.ins k y hy v hv
  · rw [out_len]; exact h.exits
  · rw [out_len]; exact h.turn
  · rw [out_len]; exact h.back
  · rw [out_len]; exact h.loop1
theorem value_out (t : TTrace) (v a : Int) : valueM (outT t).ins v a = valueM t.ins v a := by unfold valueM; rw [out_len, op_out]
theorem values_out (t : TTrace) (l : List Int) (a : Int) : valuesM (outT t).ins l a = valuesM t.ins l a := by
  unfold valuesM
  rw [show (valueM (outT t).ins · a) = (valueM t.ins · a) from funext fun v => value_out t v a]
theorem make_out (t : TTrace) (m : TMake) (a : Int) : makeM (outT t).ins m a = makeM t.ins m a := by unfold makeM; rw [value_out, op_out, values_out]
theorem sets_out (regs : Int) (t : TTrace) (a : Int) : ∀ (l : List TSet) (last : Int), setsM regs (outT t).ins a last l = setsM regs t.ins a last l
  | [], _ => rfl
  | s :: l, last => by unfold setsM; rw [value_out, sets_out regs t a l]
theorem makes_out (t : TTrace) (a : Int) : ∀ (l : List TMake) (last : Int), makesM (outT t).ins a last l = makesM t.ins a last l
  | [], _ => rfl
  | m :: l, last => by unfold makesM; rw [make_out, makes_out t a l]
theorem right_out (fn : FnM) (t : TTrace) (x : TExit) (a : Int) : rightM fn (outT t).ins x a = rightM fn t.ins x a := by unfold rightM; rw [sets_out, makes_out]
theorem insM_of {rightV : Val → Bool} {fn : FnM} {t : TTrace} : ∀ (l : List TIns) (i : Nat), (∀ k x, l[k]? = some x → isOp x.op = true ∧ formedM rightV fn t x ((i + k : Nat) : Int) = true) → insM rightV fn t i l = 0
  | [], _, _ => rfl
  | y :: l, i, h => by
    unfold insM
    have h0 := h 0 y rfl
    rw [if_neg (by rw [h0.1]; simp), if_neg (by have := h0.2; rw [Nat.add_zero] at this; rw [this]; simp)]
    refine insM_of l (i + 1) (fun k x hx => ?_)
    have := h (k + 1) x (by simpa using hx)
    rwa [show i + 1 + k = i + (k + 1) by omega]
theorem formed_out {rightV : Val → Bool} {fn : FnM} {t : TTrace} {k : Nat} {x : TIns} (a : Int) (h : formedM rightV fn t x a = true) : formedM rightV fn (outT t) (freeI t.ins k x) a = true := by
  unfold freeI
  split
  · rename_i c
    unfold formedM at h ⊢
    dsimp only at h ⊢
    rw [values_out]
    simp only [Bool.and_eq_true] at h ⊢
    refine ⟨h.1, ?_⟩
    have e : (formM x.op).exit = 1 := by rcases c.1 with c | c <;> rw [c] <;> rfl
    rw [e]; rfl
  · unfold formedM at h ⊢
    dsimp only at h ⊢
    rw [values_out, show (rightM fn (outT t).ins · a) = (rightM fn t.ins · a) from funext fun y => right_out fn t y a]
    exact h
/-- behind it the trace may be a trace still -/
theorem check_out {rightV : Val → Bool} {ce : Int} {fns : List FnM} {t : TTrace} (h : checkM rightV ce fns t = 0) : checkM rightV ce fns (outT t) = 0 := by
  unfold checkM at h ⊢
  rw [out_len]
  by_cases c1 : ce ≠ 0
  · rw [if_pos c1] at h ⊢; exact h
  rw [if_neg c1] at h ⊢
  by_cases c2 : 300 < t.ins.length ∨ 200 < t.exits.length
  · rw [if_pos c2] at h; cases h
  rw [if_neg c2] at h
  rw [if_neg (show ¬ (300 < t.ins.length ∨ 200 < (outT t).exits.length) from c2)]
  show (match if t.fn < 0 then none else fns[t.fn.toNat]? with | none => (3 : Int) | some fn => _) = 0
  cases hf : (if t.fn < 0 then none else fns[t.fn.toNat]?) with
  | none => rw [hf] at h; cases h
  | some fn =>
    rw [hf] at h
    dsimp only at h ⊢
    by_cases c3 : t.at_ < 0 ∨ fn.len ≤ t.at_ ∨ t.loop < 0 ∨ (t.ins.length : Int) < t.loop
    · rw [if_pos c3] at h; cases h
    rw [if_neg c3] at h
    rw [if_neg (show ¬ ((outT t).at_ < 0 ∨ fn.len ≤ (outT t).at_ ∨ (outT t).loop < 0 ∨ (t.ins.length : Int) < (outT t).loop) from c3)]
    by_cases c4 : insM rightV fn t 0 t.ins ≠ 0
    · rw [if_pos c4] at h; exact absurd h c4
    rw [if_neg c4] at h
    have c4' : insM rightV fn t 0 t.ins = 0 := by simpa using c4
    have hI : insM rightV fn (outT t) 0 (outT t).ins = 0 := insM_of _ 0 (fun k x hx => by
      obtain ⟨y, hy, rfl⟩ := out_at hx
      obtain ⟨h1, h2⟩ := insM_formed t.ins 0 c4' k y hy
      refine ⟨?_, formed_out _ h2⟩
      unfold freeI
      split <;> exact h1)
    rw [if_neg (by rw [hI]; simp)]
    rw [right_out, right_out, show (rightM fn (outT t).ins · (t.ins.length : Int)) = (rightM fn t.ins · (t.ins.length : Int)) from funext fun y => right_out fn t y _]
    exact h
def spanDoM (ce : Int) (t : TTrace) : TTrace × Int := if ce ≠ 0 then (trace0, ce) else cutM (outT t) (upto t.ins.length)
theorem spanDo_ok {t : TTrace} (h : Cuts t) : spanDoM 0 t = (outT t, 0) := by
  unfold spanDoM
  rw [if_neg (by simp), ← out_len]
  exact cutM_upto (cuts_out h)
end Go.Proofs.YtmccomeihnaanaaDoor
