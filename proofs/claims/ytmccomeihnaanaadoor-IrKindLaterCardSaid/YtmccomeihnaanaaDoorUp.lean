/- A region that draws its order, whose operations only read, and whose calls leave all that was there as it was (they may make memory): one walk. -/
import Derived.WalkKit
import Derived.Lib.Hide
import Derived.Deep.QuietTactic
import Derived.BigQuiet
namespace Go.Proofs.YtmccomeihnaanaaDoor
open Go.RowKit

/-- a world in which what w has is as it was -/
structure Up (w : World) where
  to : World
  below : Below w.heap.size w to

instance Up.some_ (w : World) : Nonempty (Up w) := ⟨⟨w, Below.refl _ _⟩⟩

theorem Up.cell {w : World} (E : Up w) {a : Addr} {v : Value} (h : w.cell? a = some v) : E.to.cell? a = some v := by
  have hlt : a.block < w.heap.size := by
    unfold World.cell? at h
    split at h
    · rename_i hb
      exact (Array.getElem?_eq_some_iff.1 hb).1
    · cases h
  exact (E.below.cell hlt).trans h

section
variable {P : Program}
theorem wp_region_up {id : Nat} {Q : Exit → Act → World → Prop} {a : Act} {w : World} {l : List Oper} (hm : P.follows .mixedOrders = true) (hB : Region.lexB .any l.toArray = true)
    (h : wpQuiet P l.toArray (fun w' => ∃ E : Up w, w' = E.to) (fun a' => ∀ w', (∃ E : Up w, w' = E.to) → Q .normal a' w') l a) : (Code.region id l.toArray true).wp P Q a w :=
  wp_region_quiet (C := fun w' => ∃ E : Up w, w' = E.to) hm hB ⟨⟨_, (Below.refl _ w).drew⟩, rfl⟩ (by simpa using h)

theorem Calls.up {f : FuncId} {args : Array Value} {w : World} {E : Up w} {v : Value}
    (h : Calls P f args E.to fun e w' => e = .returned v ∧ Below E.to.heap.size E.to w') : Calls P f args E.to fun e w'' => e = .returned v ∧ ∃ E' : Up w, w'' = E'.to :=
  h.mono fun _ w' ⟨he, hb⟩ => ⟨he, ⟨w', E.below.trans (hb.mono E.below.size)⟩, rfl⟩
theorem Calls.up_same {f : FuncId} {args : Array Value} {w : World} {E : Up w} {v : Value}
    (h : Calls P f args E.to fun e w' => e = .returned v ∧ w' = E.to) : Calls P f args E.to fun e w'' => e = .returned v ∧ ∃ E' : Up w, w'' = E'.to :=
  h.mono fun _ _ ⟨he, hb⟩ => ⟨he, E, hb⟩
end
end Go.Proofs.YtmccomeihnaanaaDoor
