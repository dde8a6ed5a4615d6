/-
  DERIVED. GIVEN WITH THE SEED: THE CARDS: each row of YtijihlcdhppfgaaGreatDoorRows.lean that lists a variable, with what it lists TIED to the program's text (the seventh form; the later family's looks); each row that meets fmt, with fmt's text TOLD by the authors' own Lean function (tested against real Go, not proved from fmt's source: count such statements apart). THE CARD IS WHAT COUNTS. Prove the row's statement (the work); the ties are given (YtijihlcdhppfgaaGreatDoorTie.lean); close each card by the builder's one call (the guide's Derived/Test/ToyasCard.lean, 'card_holds'). Laid BY PROGRAM, IN A SANDBOX (cutbox-door.mjs). By AI agents, Wed Nov 11 2026. No macro, syntax, notation, axiom, sorry.
-/
import Derived.Test.YtijihlcdhppfgaaGreatDoorRows
import GoSem.ClaimSeven
namespace Go.Proofs.YtijihlcdhppfgaaGreatDoor
namespace Rows

/-- THE TIED CARD OF 'backstitchkeep2.CseSame'. -/
def cseSameCard : Claim7 := { stood := { row := cseSameRow, standIns := [], harness := (true, "df3fcb0fcb936780b22e3cd9d12e3dee1071cedc82314fed1faa26c58dd03dc5"), looks := false }, kinds := [], alts := [], laidByText := true, laidKinds := [.listed, .data], laidTests := true, laidLooks := .later }
def CseSameCardSaid : Prop := Claim7.holds Tryz.pinned (.plain (OpenSpec.ofChange cseSameSpec)) cseSameCard

/-- THE TIED CARD OF 'backstitchkeep2.DeadSame'. -/
def deadSameCard : Claim7 := { stood := { row := deadSameRow, standIns := [], harness := (true, "df3fcb0fcb936780b22e3cd9d12e3dee1071cedc82314fed1faa26c58dd03dc5"), looks := false }, kinds := [], alts := [], laidByText := true, laidKinds := [.listed, .data], laidTests := true, laidLooks := .later }
def DeadSameCardSaid : Prop := Claim7.holds Tryz.pinned (.plain (OpenSpec.ofChange deadSameSpec)) deadSameCard

/-- THE TIED CARD OF 'backstitchkeep2.PeelSame'. -/
def peelSameCard : Claim7 := { stood := { row := peelSameRow, standIns := [], harness := (true, "df3fcb0fcb936780b22e3cd9d12e3dee1071cedc82314fed1faa26c58dd03dc5"), looks := false }, kinds := [], alts := [], laidByText := true, laidKinds := [.listed, .data], laidTests := true, laidLooks := .later }
def PeelSameCardSaid : Prop := Claim7.holds Tryz.pinned (.plain (OpenSpec.ofChange peelSameSpec)) peelSameCard

/-- THE TIED CARD OF 'backstitchkeep2.AliasSame'. -/
def aliasSameCard : Claim7 := { stood := { row := aliasSameRow, standIns := [], harness := (true, "df3fcb0fcb936780b22e3cd9d12e3dee1071cedc82314fed1faa26c58dd03dc5"), looks := false }, kinds := [], alts := [], laidByText := true, laidKinds := [.listed, .data], laidTests := true, laidLooks := .later }
def AliasSameCardSaid : Prop := Claim7.holds Tryz.pinned (.plain (OpenSpec.ofChange aliasSameSpec)) aliasSameCard

/-- THE TIED CARD OF 'backstitchkeep2.FactsSame'. -/
def factsSameCard : Claim7 := { stood := { row := factsSameRow, standIns := [], harness := (true, "df3fcb0fcb936780b22e3cd9d12e3dee1071cedc82314fed1faa26c58dd03dc5"), looks := false }, kinds := [], alts := [], laidByText := true, laidKinds := [.listed, .data], laidTests := true, laidLooks := .later }
def FactsSameCardSaid : Prop := Claim7.holds Tryz.pinned (.plain (OpenSpec.ofChange factsSameSpec)) factsSameCard

/-- THE TIED CARD OF 'backstitchkeep2.FoldSame'. -/
def foldSameCard : Claim7 := { stood := { row := foldSameRow, standIns := [], harness := (true, "df3fcb0fcb936780b22e3cd9d12e3dee1071cedc82314fed1faa26c58dd03dc5"), looks := false }, kinds := [], alts := [], laidByText := true, laidKinds := [.listed, .data], laidTests := true, laidLooks := .later }
def FoldSameCardSaid : Prop := Claim7.holds Tryz.pinned (.plain (OpenSpec.ofChange foldSameSpec)) foldSameCard

/-- THE TIED CARD OF 'backstitchkeep2.SpanSame'. -/
def spanSameCard : Claim7 := { stood := { row := spanSameRow, standIns := [], harness := (true, "df3fcb0fcb936780b22e3cd9d12e3dee1071cedc82314fed1faa26c58dd03dc5"), looks := false }, kinds := [], alts := [], laidByText := true, laidKinds := [.listed, .data], laidTests := true, laidLooks := .later }
def SpanSameCardSaid : Prop := Claim7.holds Tryz.pinned (.plain (OpenSpec.ofChange spanSameSpec)) spanSameCard

/-- THE SECOND FORM's CARD OF 'backstitchkeep2.CseSame'. -/
def cseSameUptoCard : Claim7 := { stood := { row := cseSameUptoRow, standIns := [], harness := (true, "df3fcb0fcb936780b22e3cd9d12e3dee1071cedc82314fed1faa26c58dd03dc5"), looks := false }, kinds := [], alts := [], laidByText := true, laidKinds := [.listed, .data], laidTests := true, laidLooks := .later }
def CseSameUptoCardSaid : Prop := Claim7.holds Tryz.pinned (.plain (OpenSpec.upto cseSameSpec)) cseSameUptoCard

/-- THE SECOND FORM's CARD OF 'backstitchkeep2.DeadSame'. -/
def deadSameUptoCard : Claim7 := { stood := { row := deadSameUptoRow, standIns := [], harness := (true, "df3fcb0fcb936780b22e3cd9d12e3dee1071cedc82314fed1faa26c58dd03dc5"), looks := false }, kinds := [], alts := [], laidByText := true, laidKinds := [.listed, .data], laidTests := true, laidLooks := .later }
def DeadSameUptoCardSaid : Prop := Claim7.holds Tryz.pinned (.plain (OpenSpec.upto deadSameSpec)) deadSameUptoCard

/-- THE SECOND FORM's CARD OF 'backstitchkeep2.PeelSame'. -/
def peelSameUptoCard : Claim7 := { stood := { row := peelSameUptoRow, standIns := [], harness := (true, "df3fcb0fcb936780b22e3cd9d12e3dee1071cedc82314fed1faa26c58dd03dc5"), looks := false }, kinds := [], alts := [], laidByText := true, laidKinds := [.listed, .data], laidTests := true, laidLooks := .later }
def PeelSameUptoCardSaid : Prop := Claim7.holds Tryz.pinned (.plain (OpenSpec.upto peelSameSpec)) peelSameUptoCard

/-- THE SECOND FORM's CARD OF 'backstitchkeep2.AliasSame'. -/
def aliasSameUptoCard : Claim7 := { stood := { row := aliasSameUptoRow, standIns := [], harness := (true, "df3fcb0fcb936780b22e3cd9d12e3dee1071cedc82314fed1faa26c58dd03dc5"), looks := false }, kinds := [], alts := [], laidByText := true, laidKinds := [.listed, .data], laidTests := true, laidLooks := .later }
def AliasSameUptoCardSaid : Prop := Claim7.holds Tryz.pinned (.plain (OpenSpec.upto aliasSameSpec)) aliasSameUptoCard

/-- THE SECOND FORM's CARD OF 'backstitchkeep2.FactsSame'. -/
def factsSameUptoCard : Claim7 := { stood := { row := factsSameUptoRow, standIns := [], harness := (true, "df3fcb0fcb936780b22e3cd9d12e3dee1071cedc82314fed1faa26c58dd03dc5"), looks := false }, kinds := [], alts := [], laidByText := true, laidKinds := [.listed, .data], laidTests := true, laidLooks := .later }
def FactsSameUptoCardSaid : Prop := Claim7.holds Tryz.pinned (.plain (OpenSpec.upto factsSameSpec)) factsSameUptoCard

/-- THE SECOND FORM's CARD OF 'backstitchkeep2.FoldSame'. -/
def foldSameUptoCard : Claim7 := { stood := { row := foldSameUptoRow, standIns := [], harness := (true, "df3fcb0fcb936780b22e3cd9d12e3dee1071cedc82314fed1faa26c58dd03dc5"), looks := false }, kinds := [], alts := [], laidByText := true, laidKinds := [.listed, .data], laidTests := true, laidLooks := .later }
def FoldSameUptoCardSaid : Prop := Claim7.holds Tryz.pinned (.plain (OpenSpec.upto foldSameSpec)) foldSameUptoCard

/-- THE SECOND FORM's CARD OF 'backstitchkeep2.SpanSame'. -/
def spanSameUptoCard : Claim7 := { stood := { row := spanSameUptoRow, standIns := [], harness := (true, "df3fcb0fcb936780b22e3cd9d12e3dee1071cedc82314fed1faa26c58dd03dc5"), looks := false }, kinds := [], alts := [], laidByText := true, laidKinds := [.listed, .data], laidTests := true, laidLooks := .later }
def SpanSameUptoCardSaid : Prop := Claim7.holds Tryz.pinned (.plain (OpenSpec.upto spanSameSpec)) spanSameUptoCard
end Rows
end Go.Proofs.YtijihlcdhppfgaaGreatDoor
