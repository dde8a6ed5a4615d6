/- A region of a round of a loop over a function, walked as a plain one. -/
import Derived.Test.YtmccomeihnaanaaDoorComm
import Derived.OrdersIn
import Derived.TacticsIn
import Derived.OwnWalkIn
import Derived.RangeFuncCalls
import Derived.RangeFuncNested
namespace Go.Proofs.YtmccomeihnaanaaDoor
open Go.RowKit
section
variable {P : Program} {ops : Array Oper} {md : Region.Mode} {C : World → Prop} {Q : Exit → Act → World → Prop} {lo n : Nat}

def noDefer (o : Oper) : Bool := match o.op with
  | .defer _ => false
  | _ => true
theorem noDefer_spec {o : Oper} (h : noDefer o = true) : ∀ c, o.op ≠ .defer c := fun c e => by unfold noDefer at h; rw [e] at h; cases h
theorem rowsIn_wide {n : Nat} {row : String} {args : Array Value} {w : World} {R : Value → World → Prop} (h : Rows P row args w R) : RowsIn (Fence.wide.inRound lo) n P row args w R := fun c cs _ => by
  obtain ⟨v, w', h1, h2⟩ := h c cs
  exact ⟨v, w', h1, stepsIn_wide.2 h2⟩
theorem oper_round {o : Oper} (hd : noDefer o = true) (hl : ¬ LetsOut Q) {a : Act} {w : World} {K : Act → World → Prop} (h : o.wp P a w K Q ∨ (o.asks P a w ∧ LetsOut Q)) : o.wpIn (Fence.wide.inRound lo) n P a w K Q := by
  rcases h with h | h
  · unfold Oper.wpIn
    refine ⟨fun _ _ => trivial, ?_⟩
    rw [Oper.semAt_plain _ _ _ (noDefer_spec hd)]
    unfold Oper.wp at h
    generalize (execOp a.eval o).run P w = r at *
    cases r with
    | ok x w' =>
      cases x <;> simp only [Oper.upon, Oper.uponIn] at h ⊢ <;>
        first
          | exact h
          | exact ⟨fun h => (by cases h), CallsIn.inRound lo (callsIn_wide.2 h)⟩
          | exact ⟨fun h => (by cases h), rowsIn_wide h⟩
    | halt x w' => cases x <;> simp only [Oper.upon, Oper.uponIn] at h ⊢ <;> exact h
  · exact absurd h.2 hl
theorem wpOp_round (hl : ¬ LetsOut Q) {i : Nat} (hd : ∀ o : Oper, ops[i]? = some o → noDefer o = true) {a : Act} {w : World} {K K' : Act → World → Prop} (hK : ∀ a w, K a w → K' a w) (h : wpOp P ops Q i K a w) : wpOpIn (Fence.wide.inRound lo) n P ops Q i K' a w := by
  unfold wpOp at h
  unfold wpOpIn
  cases ho : ops[i]? with
  | none => rw [ho] at h; exact hK _ _ h
  | some o =>
    rw [ho] at h
    dsimp only at h ⊢
    by_cases c : Region.wanted o (yielded ops a.tmps) = true
    · rw [if_pos c] at h ⊢
      exact Oper.wpIn_mono hK (oper_round (hd o ho) hl h)
    · rw [if_neg c] at h ⊢
      exact ⟨fun _ _ => trivial, hK _ _ h⟩
theorem wpAny_round (hl : ¬ LetsOut Q) (hd : ∀ (i : Nat) (o : Oper), ops[i]? = some o → noDefer o = true) : ∀ (f : Nat) (listed : Array Bool) (a : Act) (w : World), wpAny P md ops Q f listed a w → wpAnyIn (Fence.wide.inRound lo) n P md ops Q f listed a w
  | 0, _, _, _, h => h
  | f + 1, listed, _, _, h => ⟨h.1, fun i hi => wpOp_round hl (hd i) (wpAny_round hl hd f _) (h.2 i hi)⟩
theorem wpList_round (hl : ¬ LetsOut Q) : ∀ (l : List Oper) (a : Act) (w : World), (l.all noDefer) = true → wpList P ops Q l a w → wpListIn (Fence.wide.inRound lo) n P ops Q l a w
  | [], _, _, _, h => h
  | o :: r, a, w, hd, h => by
    rw [List.all_cons, Bool.and_eq_true] at hd
    unfold wpList at h
    unfold wpListIn
    by_cases c : Region.wanted o (yielded ops a.tmps) = true
    · rw [if_pos c] at h ⊢
      exact Oper.wpIn_mono (fun a w h => wpList_round hl r a w hd.2 h) (oper_round hd.1 hl h)
    · rw [if_neg c] at h ⊢
      exact ⟨fun _ _ => trivial, wpList_round hl r _ _ hd.2 h⟩
theorem all_noDefer {l : List Oper} (h : l.all noDefer = true) : ∀ (i : Nat) (o : Oper), l.toArray[i]? = some o → noDefer o = true := fun i o ho => List.all_eq_true.1 h o (by
  rw [List.getElem?_toArray] at ho
  exact List.mem_of_getElem? ho)
/-- a region that is not drawn -/
theorem round_region {id : Nat} {l : List Oper} {a : Act} {w : World} (hl : ¬ LetsOut Q) (hd : l.all noDefer = true) (h : wpList P l.toArray Q l a w) : (Code.region id l.toArray false).wpIn (Fence.wide.inRound lo) n P Q a w :=
  wpIn_region_lit (wpList_round hl l a w hd h)
theorem any_comm {a : Act} {w : World} {l : List Oper} (C : World → Prop) (qs ms fl : List Nat) (hB : commB .any l.toArray qs ms fl = true)
    (hQ : ∀ (c : _) (a : Act) (d : Option Tmp) (v : Value) (w : World), Q (.panic c) (a.put d v) w → Q (.panic c) a w) (hC : C w.drew)
    (h : wpQuiet P l.toArray C (fun a' => wpMs P l.toArray C (fun j => qs.contains j || fl.contains j) Q ms a' w.drew) (qs.filterMap (l.toArray[·]?)) a) : wpAny P .any l.toArray Q l.toArray.size (Array.replicate l.toArray.size false) a w.drew := by
  simp only [commB, Bool.and_eq_true, decide_eq_true_eq] at hB
  obtain ⟨⟨⟨hsel, hlate⟩, hread⟩, hlen⟩ := hB
  have H := wpAnyC_read (md := .any) (qs0 := qs) (ms := ms) (F := fun j => qs.contains j || fl.contains j) (Q := Q) hsel hQ (fun listed i j hi hc hu hj => by
    by_cases hjq : j ∈ qs
    · simp [hjq]
    · exact late_spec hlate hc hi hu hj hjq) hC qs (Array.replicate l.toArray.size false) a (fun _ h => h) (by
    intro j oj _ hl
    rw [getD_replicate_false] at hl
    cases hl) hread h
  rw [hlen] at H
  exact wpAny_of_C _ _ _ _ H
/-- the readers first, and the others behind them -/
theorem round_region_first {id : Nat} {a : Act} {w : World} {l : List Oper} (hl : ¬ LetsOut Q) (C : World → Prop) (m : Nat) (ms fl : List Nat) (hm : P.follows .mixedOrders = true) (hn : m ≤ l.length) (hd : l.all noDefer = true) (hB : commB .any l.toArray (List.range m) ms fl = true)
    (hQ : ∀ (c : _) (a : Act) (d : Option Tmp) (v : Value) (w : World), Q (.panic c) (a.put d v) w → Q (.panic c) a w) (hC : C w.drew)
    (h : wpQuiet P l.toArray C (fun a' => wpMs P l.toArray C (fun j => (List.range m).contains j || fl.contains j) Q ms a' w.drew) (l.take m) a) : (Code.region id l.toArray true).wpIn (Fence.wide.inRound lo) n P Q a w :=
  wpIn_region_any hm (wpAny_round hl (all_noDefer hd) _ _ _ _ (any_comm C (List.range m) ms fl hB hQ hC (by rw [range_take l m hn]; exact h)))
end
/-- the kit's law for a range over a function, the frame named ahead of what the body is told of it -/
theorem range_named {F : Fence} {n : Nat} {P : Program} {α : Type} {g : Operand} {ps : Array Tmp} {assign body : Code} {Q : Exit → Act → World → Prop} {a : Act} {w : World}
    (hro : F.round = none) (h1 : 1 ≤ n) {gf : Nat} {lb : Array Value} (hg : a.eval g = .func (.func gf) #[] lb) (hFg : F.fn gf) (eg : ∀ args w, (callFunc gf args).run P w = .ok (.enter gf args) w)
    {encs : α → Array Value} {Kp : World → World → Prop} {S Sp : List α → Prop} {N : Nat} {w0 : World} (hseq : SeqStopsK F (n - 1) P gf lb encs Kp S Sp N w0)
    (hKt : ∀ {A B C : World}, Kp A B → Kp B C → Kp A C) (hKb : ∀ (W : World) (l : Nat) (o o' : Obj), w.heap.size ≤ l → W.heap[l]? = some o → o.isCells = false → o.isWalk = false → Kp W (W.putObj l o')) (hb0 : Below w0.heap.size w0 w) (hps : ∀ x, (encs x).size = ps.size)
    (I : List α → World → Prop) (Ix : Code → List α → World → Prop) (hI : OwnFrom w.heap.size I) (hIx : ∀ c, OwnFrom w.heap.size (Ix c)) (h0 : I [] w) (Ax : Act → α → Act → World → Prop) (hAx : ∀ x a', OwnFrom w.heap.size (fun (_ : Unit) W => Ax a x a' W))
    (hassign : ∀ (l : Nat) (pre : List α) (x : α) (W : World) (K : Act → World → Prop), I pre W → (∀ a' W', KeepsFrom w.heap.size W W' → Kp W W' → I pre W' → Ax a x a' W' → K a' W') →
      assign.wpIn (F.inRound l) (n - 1 - 1) P (Exit.then K (fun _ _ _ => False)) { tmps := (ps.zip (encs x)).foldl (fun t (p, v) => t.setIfInBounds p v) a.tmps, defers := [] } W)
    (hbody : ∀ (l : Nat) (pre : List α) (x : α) (a' : Act) (W : World), w.heap.size ≤ l → (∃ r, W.heap[l]? = some (.loop r)) → I pre W → Ax a x a' W → pre.length < N → body.wpIn (F.inRound l) (n - 1 - 1) P (ownPostG w.heap.size Kp I Ix (pre ++ [x]) W) a' W)
    (hdone : ∀ (D : Nat) (xs : List α) (W : World), w.heap.size ≤ D → S xs → I xs W → W.heap[D]? = some (.deferred (some [])) → Q .normal { a with defers := { target := .collected D, args := #[] } :: a.defers } W)
    (hstop : ∀ (D : Nat) (c : Code) (pre : List α) (W : World), w.heap.size ≤ D → Sp pre → Ix c pre W → W.heap[D]? = some (.deferred (some [])) → c.wpIn F n P Q { a with defers := { target := .collected D, args := #[] } :: a.defers } W) :
    (Code.rangeFunc g ps assign body).wpIn F n P Q a w :=
  wpIn_rangeFunc_ownH hro h1 hg hFg eg hseq (fun h k => hKt h k) hKb hb0 hps I Ix hI hIx h0 (Ax a) hAx hassign hbody hdone hstop
end Go.Proofs.YtmccomeihnaanaaDoor
