/- a drawn region with a call that turns something, behind which the others do nothing but read. No program. -/
import Derived.Test.YtlnkjmgfkpeicaaGreatDoorMoves
import Derived.Test.YtlnkjmgfkpeicaaGreatDoorComm
set_option linter.all false
namespace Go.Proofs.YtlnkjmgfkpeicaaGreatDoor
open Go.RowKit Go.IntWalk

section
variable {P : Program} {ops : Array Oper} {md : Region.Mode} {Q : Exit → Act → World → Prop}
/-- the classes of those that are listed already are of no account -/
theorem wpAnyC_swap {C C' : World → Prop} {F F' : Nat → Bool} : ∀ (f : Nat) (listed : Array Bool) (a : Act) (w : World), (∀ j, listed.getD j true = false → F j = false) → wpAnyC P md ops C' F' Q f listed a w → wpAnyC P md ops C F Q f listed a w
  | 0, _, _, _, _, h => h
  | f + 1, listed, _, _, hF, h => ⟨h.1, fun i hi => wpOp_mono (fun a' w' h' => ⟨fun hf => (by
      obtain ⟨hu, _⟩ := mem_ready.1 hi
      rw [hF i hu] at hf; cases hf), wpAnyC_swap f _ a' w' (fun j hj => hF j (by
        by_cases e : i = j
        · subst e; exact (mem_ready.1 hi).1
        · rwa [getD_set_ne true e] at hj)) h'.2⟩) (h.2 i hi)⟩
def closedB (md : Region.Mode) (ops : Array Oper) (listed : Array Bool) : Bool :=
  (List.range ops.size).all fun j => !(listed.getD j false) || (match ops[j]? with | none => true | some o => o.after.all fun e => !Region.binds md e || listed.getD e.on false)
theorem closed_spec {listed : Array Bool} (h : closedB md ops listed = true) : Closed md ops listed := fun j oj hj hl e he hb => by
  have hlt : j < ops.size := (Array.getElem?_eq_some_iff.1 hj).1
  have h1 := List.all_eq_true.1 h j (List.mem_range.2 hlt)
  simp only [hj, hl, Bool.not_true, Bool.false_or] at h1
  have h2 := Array.all_eq_true'.1 h1 e he
  simpa [hb] using h2
/-- THE OTHERS READ, behind one that did not -/
theorem wpAnyC_again {C : World → Prop} {F : Nat → Bool} {a : Act} {w : World} {listed : Array Bool} {k : Nat} (C' : World → Prop) (qs fl : List Nat) (m : Nat) (last : Array Bool) (lq : List Oper)
    (hB : (Region.noSelect ops && lateB md ops (fun j => qs.contains j || fl.contains j) ops.size qs && readB2 md ops last qs listed && closedB md ops listed && (List.range listed.size).all (fun j => listed.getD j true || !F j)) = true)
    (hk : qs.length + m = k) (hq : qs.filterMap (ops[·]?) = lq) (hQ : ∀ (c : _) (a : Act) (d : Option Tmp) (v : Value) (w : World), Q (.panic c) (a.put d v) w → Q (.panic c) a w) (hC : C' w)
    (h : wpQuiet P ops C' (fun a' => wpAnyC P md ops C' (fun j => qs.contains j || fl.contains j) Q m last a' w) lq a) : wpAnyC P md ops C F Q k listed a w := by
  subst hq hk
  simp only [Bool.and_eq_true] at hB
  obtain ⟨⟨⟨⟨hsel, hlate⟩, hread⟩, hcl⟩, hF⟩ := hB
  refine wpAnyC_swap (C' := C') (F' := fun j => qs.contains j || fl.contains j) _ _ _ _ (fun j hj => ?_) ?_
  · rcases Nat.lt_or_ge j listed.size with h' | h'
    · have := List.all_eq_true.1 hF j (List.mem_range.2 h')
      rw [hj] at this
      simpa using this
    · rw [Array.getD_eq_getD_getElem?, Array.getElem?_eq_none h'] at hj
      cases hj
  · exact wpAnyC_read2 (qs0 := qs) hsel hQ (fun listed i j hi hc hu hj => by
      by_cases hjq : j ∈ qs
      · simp [hjq]
      · exact late_spec hlate hc hi hu hj hjq) hC qs listed a (fun _ h => h) (closed_spec hcl) hread h
end
end Go.Proofs.YtlnkjmgfkpeicaaGreatDoor
