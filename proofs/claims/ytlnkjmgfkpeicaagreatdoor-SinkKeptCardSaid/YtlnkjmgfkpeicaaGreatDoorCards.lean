/-
  DERIVED. GIVEN WITH THE SEED: THE CARDS: each row of YtlnkjmgfkpeicaaGreatDoorRows.lean that lists a variable, with what it lists TIED to the program's text (the seventh form; the later family's looks); each row that meets fmt, with fmt's text TOLD by the authors' own Lean function (tested against real Go, not proved from fmt's source: count such statements apart). THE CARD IS WHAT COUNTS. Prove the row's statement (the work); the ties are given (YtlnkjmgfkpeicaaGreatDoorTie.lean); close each card by the builder's one call (the guide's Derived/Test/ToyasCard.lean, 'card_holds'). Laid BY PROGRAM, IN A SANDBOX (cutbox-door.mjs). By AI agents, Wed Nov 11 2026. No macro, syntax, notation, axiom, sorry.
-/
import Derived.Test.YtlnkjmgfkpeicaaGreatDoorRows
import GoSem.ClaimSeven
namespace Go.Proofs.YtlnkjmgfkpeicaaGreatDoor
namespace Rows

/-- THE TIED CARD OF 'backstitchkeep2.SinkKept'. -/
def sinkKeptCard : Claim7 := { stood := { row := sinkKeptRow, standIns := [], harness := (true, "68a1caaa164cd7021f6e7b4ce9b2f8be75ec18546ad28411437e76a11ec1e3eb"), looks := false }, kinds := [], alts := [], laidByText := true, laidKinds := [.listed, .data], laidTests := true, laidLooks := .later }
def SinkKeptCardSaid : Prop := Claim7.holds Tryz.pinned (.plain (OpenSpec.ofChange sinkKeptSpec)) sinkKeptCard

/-- THE SECOND FORM's CARD OF 'backstitchkeep2.SinkKept'. -/
def sinkKeptUptoCard : Claim7 := { stood := { row := sinkKeptUptoRow, standIns := [], harness := (true, "68a1caaa164cd7021f6e7b4ce9b2f8be75ec18546ad28411437e76a11ec1e3eb"), looks := false }, kinds := [], alts := [], laidByText := true, laidKinds := [.listed, .data], laidTests := true, laidLooks := .later }
def SinkKeptUptoCardSaid : Prop := Claim7.holds Tryz.pinned (.plain (OpenSpec.upto sinkKeptSpec)) sinkKeptUptoCard
end Rows
end Go.Proofs.YtlnkjmgfkpeicaaGreatDoor
