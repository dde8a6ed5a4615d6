/-
  DERIVED. GIVEN WITH THE SEED: THE CARDS: each row of YtogpbgkafkalnaaDoorRows.lean that lists a variable, with what it lists TIED to the program's text (the seventh form; the later family's looks); each row that meets fmt, with fmt's text TOLD by the authors' own Lean function (tested against real Go, not proved from fmt's source: count such statements apart). THE CARD IS WHAT COUNTS. Prove the row's statement (the work); the ties are given (YtogpbgkafkalnaaDoorTie.lean); close each card by the builder's one call (the guide's Derived/Test/ToyasCard.lean, 'card_holds'). Laid BY PROGRAM, IN A SANDBOX (cutbox-door.mjs). By AI agents, Wed Nov 11 2026. No macro, syntax, notation, axiom, sorry.
-/
import Derived.Test.YtogpbgkafkalnaaDoorRows
import GoSem.ClaimSeven
namespace Go.Proofs.YtogpbgkafkalnaaDoor
namespace Rows

/-- THE TIED CARD OF 'backstitchkeep2.IrTold'. -/
def irToldCard : Claim7 := { stood := { row := irToldRow, standIns := [], harness := (true, "ce2436014ad2daf99b0c719090f80f483ac5dba95d6678f9c36b23f98087e931"), looks := false }, kinds := [], alts := [], laidByText := true, laidKinds := [.data, .data, .data], laidTests := true, laidLooks := .later }
def IrToldCardSaid : Prop := Claim7.holds Tryd.pinned (.plain (OpenSpec.ofChange irToldSpec)) irToldCard

/-- THE SECOND FORM's CARD OF 'backstitchkeep2.IrTold'. -/
def irToldUptoCard : Claim7 := { stood := { row := irToldUptoRow, standIns := [], harness := (true, "ce2436014ad2daf99b0c719090f80f483ac5dba95d6678f9c36b23f98087e931"), looks := false }, kinds := [], alts := [], laidByText := true, laidKinds := [.data, .data, .data], laidTests := true, laidLooks := .later }
def IrToldUptoCardSaid : Prop := Claim7.holds Tryd.pinned (.plain (OpenSpec.upto irToldSpec)) irToldUptoCard
end Rows
end Go.Proofs.YtogpbgkafkalnaaDoor
