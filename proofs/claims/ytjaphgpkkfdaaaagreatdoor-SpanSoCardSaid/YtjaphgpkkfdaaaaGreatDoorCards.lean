/-
  DERIVED. GIVEN WITH THE SEED: THE CARDS: each row of YtjaphgpkkfdaaaaGreatDoorRows.lean that lists a variable, with what it lists TIED to the program's text (the seventh form; the later family's looks); each row that meets fmt, with fmt's text TOLD by the authors' own Lean function (tested against real Go, not proved from fmt's source: count such statements apart). THE CARD IS WHAT COUNTS. Prove the row's statement (the work); the ties are given (YtjaphgpkkfdaaaaGreatDoorTie.lean); close each card by the builder's one call (the guide's Derived/Test/ToyasCard.lean, 'card_holds'). Laid BY PROGRAM, IN A SANDBOX (cutbox-door.mjs). By AI agents, Wed Nov 11 2026. No macro, syntax, notation, axiom, sorry.
-/
import Derived.Test.YtjaphgpkkfdaaaaGreatDoorRows
import GoSem.ClaimSeven
namespace Go.Proofs.YtjaphgpkkfdaaaaGreatDoor
namespace Rows

/-- THE TIED CARD OF 'backstitchkeep2.IrunOthers'. -/
def irunOthersCard : Claim7 := { stood := { row := irunOthersRow, standIns := [], harness := (true, "e639caf7feda42d67e404507abfe7fcf54285eb74673c3afd15f647fb3d9001f"), looks := false }, kinds := [], alts := [], laidByText := true, laidKinds := [.listed, .data], laidTests := true, laidLooks := .later }
def IrunOthersCardSaid : Prop := Claim7.holds Tryz.pinned (.plain (OpenSpec.ofChange irunOthersSpec)) irunOthersCard

/-- THE TIED CARD OF 'backstitchkeep2.IrunSteps'. -/
def irunStepsCard : Claim7 := { stood := { row := irunStepsRow, standIns := [], harness := (true, "e639caf7feda42d67e404507abfe7fcf54285eb74673c3afd15f647fb3d9001f"), looks := false }, kinds := [], alts := [], laidByText := true, laidKinds := [.listed, .data], laidTests := true, laidLooks := .later }
def IrunStepsCardSaid : Prop := Claim7.holds Tryz.pinned (.plain (OpenSpec.ofChange irunStepsSpec)) irunStepsCard

/-- THE TIED CARD OF 'backstitchkeep2.IrunRegs'. -/
def irunRegsCard : Claim7 := { stood := { row := irunRegsRow, standIns := [], harness := (true, "e639caf7feda42d67e404507abfe7fcf54285eb74673c3afd15f647fb3d9001f"), looks := false }, kinds := [], alts := [], laidByText := true, laidKinds := [.listed, .data], laidTests := true, laidLooks := .later }
def IrunRegsCardSaid : Prop := Claim7.holds Tryz.pinned (.plain (OpenSpec.ofChange irunRegsSpec)) irunRegsCard

/-- THE TIED CARD OF 'backstitchkeep2.AliasApartSo'. -/
def aliasApartSoCard : Claim7 := { stood := { row := aliasApartSoRow, standIns := [], harness := (true, "e639caf7feda42d67e404507abfe7fcf54285eb74673c3afd15f647fb3d9001f"), looks := false }, kinds := [], alts := [], laidByText := true, laidKinds := [.listed, .data], laidTests := true, laidLooks := .later }
def AliasApartSoCardSaid : Prop := Claim7.holds Tryz.pinned (.plain (OpenSpec.ofChange aliasApartSoSpec)) aliasApartSoCard

/-- THE TIED CARD OF 'backstitchkeep2.IrunTurns'. -/
def irunTurnsCard : Claim7 := { stood := { row := irunTurnsRow, standIns := [], harness := (true, "e639caf7feda42d67e404507abfe7fcf54285eb74673c3afd15f647fb3d9001f"), looks := false }, kinds := [], alts := [], laidByText := true, laidKinds := [.listed, .data], laidTests := true, laidLooks := .later }
def IrunTurnsCardSaid : Prop := Claim7.holds Tryz.pinned (.plain (OpenSpec.ofChange irunTurnsSpec)) irunTurnsCard

/-- THE TIED CARD OF 'backstitchkeep2.IrunNone'. -/
def irunNoneCard : Claim7 := { stood := { row := irunNoneRow, standIns := [], harness := (true, "e639caf7feda42d67e404507abfe7fcf54285eb74673c3afd15f647fb3d9001f"), looks := false }, kinds := [], alts := [], laidByText := true, laidKinds := [.listed, .data], laidTests := true, laidLooks := .later }
def IrunNoneCardSaid : Prop := Claim7.holds Tryz.pinned (.plain (OpenSpec.ofChange irunNoneSpec)) irunNoneCard

/-- THE TIED CARD OF 'backstitchkeep2.IrunStays'. -/
def irunStaysCard : Claim7 := { stood := { row := irunStaysRow, standIns := [], harness := (true, "e639caf7feda42d67e404507abfe7fcf54285eb74673c3afd15f647fb3d9001f"), looks := false }, kinds := [], alts := [], laidByText := true, laidKinds := [.listed, .data], laidTests := true, laidLooks := .later }
def IrunStaysCardSaid : Prop := Claim7.holds Tryz.pinned (.plain (OpenSpec.ofChange irunStaysSpec)) irunStaysCard

/-- THE TIED CARD OF 'backstitchkeep2.IrKindSo'. -/
def irKindSoCard : Claim7 := { stood := { row := irKindSoRow, standIns := [], harness := (true, "e639caf7feda42d67e404507abfe7fcf54285eb74673c3afd15f647fb3d9001f"), looks := false }, kinds := [], alts := [], laidByText := true, laidKinds := [.listed, .data], laidTests := true, laidLooks := .later }
def IrKindSoCardSaid : Prop := Claim7.holds Tryz.pinned (.plain (OpenSpec.ofChange irKindSoSpec)) irKindSoCard

/-- THE TIED CARD OF 'backstitchkeep2.SpanSo'. -/
def spanSoCard : Claim7 := { stood := { row := spanSoRow, standIns := [], harness := (true, "e639caf7feda42d67e404507abfe7fcf54285eb74673c3afd15f647fb3d9001f"), looks := false }, kinds := [], alts := [], laidByText := true, laidKinds := [.listed, .data], laidTests := true, laidLooks := .later }
def SpanSoCardSaid : Prop := Claim7.holds Tryz.pinned (.plain (OpenSpec.ofChange spanSoSpec)) spanSoCard

/-- THE SECOND FORM's CARD OF 'backstitchkeep2.IrunOthers'. -/
def irunOthersUptoCard : Claim7 := { stood := { row := irunOthersUptoRow, standIns := [], harness := (true, "e639caf7feda42d67e404507abfe7fcf54285eb74673c3afd15f647fb3d9001f"), looks := false }, kinds := [], alts := [], laidByText := true, laidKinds := [.listed, .data], laidTests := true, laidLooks := .later }
def IrunOthersUptoCardSaid : Prop := Claim7.holds Tryz.pinned (.plain (OpenSpec.upto irunOthersSpec)) irunOthersUptoCard

/-- THE SECOND FORM's CARD OF 'backstitchkeep2.IrunSteps'. -/
def irunStepsUptoCard : Claim7 := { stood := { row := irunStepsUptoRow, standIns := [], harness := (true, "e639caf7feda42d67e404507abfe7fcf54285eb74673c3afd15f647fb3d9001f"), looks := false }, kinds := [], alts := [], laidByText := true, laidKinds := [.listed, .data], laidTests := true, laidLooks := .later }
def IrunStepsUptoCardSaid : Prop := Claim7.holds Tryz.pinned (.plain (OpenSpec.upto irunStepsSpec)) irunStepsUptoCard

/-- THE SECOND FORM's CARD OF 'backstitchkeep2.IrunRegs'. -/
def irunRegsUptoCard : Claim7 := { stood := { row := irunRegsUptoRow, standIns := [], harness := (true, "e639caf7feda42d67e404507abfe7fcf54285eb74673c3afd15f647fb3d9001f"), looks := false }, kinds := [], alts := [], laidByText := true, laidKinds := [.listed, .data], laidTests := true, laidLooks := .later }
def IrunRegsUptoCardSaid : Prop := Claim7.holds Tryz.pinned (.plain (OpenSpec.upto irunRegsSpec)) irunRegsUptoCard

/-- THE SECOND FORM's CARD OF 'backstitchkeep2.AliasApartSo'. -/
def aliasApartSoUptoCard : Claim7 := { stood := { row := aliasApartSoUptoRow, standIns := [], harness := (true, "e639caf7feda42d67e404507abfe7fcf54285eb74673c3afd15f647fb3d9001f"), looks := false }, kinds := [], alts := [], laidByText := true, laidKinds := [.listed, .data], laidTests := true, laidLooks := .later }
def AliasApartSoUptoCardSaid : Prop := Claim7.holds Tryz.pinned (.plain (OpenSpec.upto aliasApartSoSpec)) aliasApartSoUptoCard

/-- THE SECOND FORM's CARD OF 'backstitchkeep2.IrunTurns'. -/
def irunTurnsUptoCard : Claim7 := { stood := { row := irunTurnsUptoRow, standIns := [], harness := (true, "e639caf7feda42d67e404507abfe7fcf54285eb74673c3afd15f647fb3d9001f"), looks := false }, kinds := [], alts := [], laidByText := true, laidKinds := [.listed, .data], laidTests := true, laidLooks := .later }
def IrunTurnsUptoCardSaid : Prop := Claim7.holds Tryz.pinned (.plain (OpenSpec.upto irunTurnsSpec)) irunTurnsUptoCard

/-- THE SECOND FORM's CARD OF 'backstitchkeep2.IrunNone'. -/
def irunNoneUptoCard : Claim7 := { stood := { row := irunNoneUptoRow, standIns := [], harness := (true, "e639caf7feda42d67e404507abfe7fcf54285eb74673c3afd15f647fb3d9001f"), looks := false }, kinds := [], alts := [], laidByText := true, laidKinds := [.listed, .data], laidTests := true, laidLooks := .later }
def IrunNoneUptoCardSaid : Prop := Claim7.holds Tryz.pinned (.plain (OpenSpec.upto irunNoneSpec)) irunNoneUptoCard

/-- THE SECOND FORM's CARD OF 'backstitchkeep2.IrunStays'. -/
def irunStaysUptoCard : Claim7 := { stood := { row := irunStaysUptoRow, standIns := [], harness := (true, "e639caf7feda42d67e404507abfe7fcf54285eb74673c3afd15f647fb3d9001f"), looks := false }, kinds := [], alts := [], laidByText := true, laidKinds := [.listed, .data], laidTests := true, laidLooks := .later }
def IrunStaysUptoCardSaid : Prop := Claim7.holds Tryz.pinned (.plain (OpenSpec.upto irunStaysSpec)) irunStaysUptoCard

/-- THE SECOND FORM's CARD OF 'backstitchkeep2.IrKindSo'. -/
def irKindSoUptoCard : Claim7 := { stood := { row := irKindSoUptoRow, standIns := [], harness := (true, "e639caf7feda42d67e404507abfe7fcf54285eb74673c3afd15f647fb3d9001f"), looks := false }, kinds := [], alts := [], laidByText := true, laidKinds := [.listed, .data], laidTests := true, laidLooks := .later }
def IrKindSoUptoCardSaid : Prop := Claim7.holds Tryz.pinned (.plain (OpenSpec.upto irKindSoSpec)) irKindSoUptoCard

/-- THE SECOND FORM's CARD OF 'backstitchkeep2.SpanSo'. -/
def spanSoUptoCard : Claim7 := { stood := { row := spanSoUptoRow, standIns := [], harness := (true, "e639caf7feda42d67e404507abfe7fcf54285eb74673c3afd15f647fb3d9001f"), looks := false }, kinds := [], alts := [], laidByText := true, laidKinds := [.listed, .data], laidTests := true, laidLooks := .later }
def SpanSoUptoCardSaid : Prop := Claim7.holds Tryz.pinned (.plain (OpenSpec.upto spanSoSpec)) spanSoUptoCard
end Rows
end Go.Proofs.YtjaphgpkkfdaaaaGreatDoor
