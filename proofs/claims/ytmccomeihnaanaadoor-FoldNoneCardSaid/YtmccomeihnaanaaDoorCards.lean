/-
  DERIVED. GIVEN WITH THE SEED: THE CARDS: each row of YtmccomeihnaanaaDoorRows.lean that lists a variable, with what it lists TIED to the program's text (the seventh form; the later family's looks); each row that meets fmt, with fmt's text TOLD by the authors' own Lean function (tested against real Go, not proved from fmt's source: count such statements apart). THE CARD IS WHAT COUNTS. Prove the row's statement (the work); the ties are given (YtmccomeihnaanaaDoorTie.lean); close each card by the builder's one call (the guide's Derived/Test/ToyasCard.lean, 'card_holds'). Laid BY PROGRAM, IN A SANDBOX (cutbox-door.mjs). By AI agents, Wed Nov 11 2026. No macro, syntax, notation, axiom, sorry.
-/
import Derived.Test.YtmccomeihnaanaaDoorRows
import GoSem.ClaimSeven
namespace Go.Proofs.YtmccomeihnaanaaDoor
namespace Rows

/-- THE TIED CARD OF 'backstitchkeep2.IrAhead'. -/
def irAheadCard : Claim7 := { stood := { row := irAheadRow, standIns := [], harness := (true, "8461ece85bfe35624fa29d0fee43013f7244795356b1b4ff9c9de51d9984b345"), looks := false }, kinds := [], alts := [], laidByText := true, laidKinds := [.listed, .data], laidTests := true, laidLooks := .later }
def IrAheadCardSaid : Prop := Claim7.holds Tryd.pinned (.plain (OpenSpec.ofChange irAheadSpec)) irAheadCard

/-- THE TIED CARD OF 'backstitchkeep2.IrKindLater'. -/
def irKindLaterCard : Claim7 := { stood := { row := irKindLaterRow, standIns := [], harness := (true, "8461ece85bfe35624fa29d0fee43013f7244795356b1b4ff9c9de51d9984b345"), looks := false }, kinds := [], alts := [], laidByText := true, laidKinds := [.listed, .data], laidTests := true, laidLooks := .later }
def IrKindLaterCardSaid : Prop := Claim7.holds Tryd.pinned (.plain (OpenSpec.ofChange irKindLaterSpec)) irKindLaterCard

/-- THE TIED CARD OF 'backstitchkeep2.IrCutNone'. -/
def irCutNoneCard : Claim7 := { stood := { row := irCutNoneRow, standIns := [], harness := (true, "8461ece85bfe35624fa29d0fee43013f7244795356b1b4ff9c9de51d9984b345"), looks := false }, kinds := [], alts := [], laidByText := true, laidKinds := [.listed, .data], laidTests := true, laidLooks := .later }
def IrCutNoneCardSaid : Prop := Claim7.holds Tryd.pinned (.plain (OpenSpec.ofChange irCutNoneSpec)) irCutNoneCard

/-- THE TIED CARD OF 'backstitchkeep2.CseNone'. -/
def cseNoneCard : Claim7 := { stood := { row := cseNoneRow, standIns := [], harness := (true, "8461ece85bfe35624fa29d0fee43013f7244795356b1b4ff9c9de51d9984b345"), looks := false }, kinds := [], alts := [], laidByText := true, laidKinds := [.listed, .data], laidTests := true, laidLooks := .later }
def CseNoneCardSaid : Prop := Claim7.holds Tryd.pinned (.plain (OpenSpec.ofChange cseNoneSpec)) cseNoneCard

/-- THE TIED CARD OF 'backstitchkeep2.DeadNone'. -/
def deadNoneCard : Claim7 := { stood := { row := deadNoneRow, standIns := [], harness := (true, "8461ece85bfe35624fa29d0fee43013f7244795356b1b4ff9c9de51d9984b345"), looks := false }, kinds := [], alts := [], laidByText := true, laidKinds := [.listed, .data], laidTests := true, laidLooks := .later }
def DeadNoneCardSaid : Prop := Claim7.holds Tryd.pinned (.plain (OpenSpec.ofChange deadNoneSpec)) deadNoneCard

/-- THE TIED CARD OF 'backstitchkeep2.PeelHead'. -/
def peelHeadCard : Claim7 := { stood := { row := peelHeadRow, standIns := [], harness := (true, "8461ece85bfe35624fa29d0fee43013f7244795356b1b4ff9c9de51d9984b345"), looks := false }, kinds := [], alts := [], laidByText := true, laidKinds := [.listed, .data], laidTests := true, laidLooks := .later }
def PeelHeadCardSaid : Prop := Claim7.holds Tryd.pinned (.plain (OpenSpec.ofChange peelHeadSpec)) peelHeadCard

/-- THE TIED CARD OF 'backstitchkeep2.SpanLater'. -/
def spanLaterCard : Claim7 := { stood := { row := spanLaterRow, standIns := [], harness := (true, "8461ece85bfe35624fa29d0fee43013f7244795356b1b4ff9c9de51d9984b345"), looks := false }, kinds := [], alts := [], laidByText := true, laidKinds := [.listed, .data], laidTests := true, laidLooks := .later }
def SpanLaterCardSaid : Prop := Claim7.holds Tryd.pinned (.plain (OpenSpec.ofChange spanLaterSpec)) spanLaterCard

/-- THE TIED CARD OF 'backstitchkeep2.FactsTwice'. -/
def factsTwiceCard : Claim7 := { stood := { row := factsTwiceRow, standIns := [], harness := (true, "8461ece85bfe35624fa29d0fee43013f7244795356b1b4ff9c9de51d9984b345"), looks := false }, kinds := [], alts := [], laidByText := true, laidKinds := [.listed, .data], laidTests := true, laidLooks := .later }
def FactsTwiceCardSaid : Prop := Claim7.holds Tryd.pinned (.plain (OpenSpec.ofChange factsTwiceSpec)) factsTwiceCard

/-- THE TIED CARD OF 'backstitchkeep2.SpanTwice'. -/
def spanTwiceCard : Claim7 := { stood := { row := spanTwiceRow, standIns := [], harness := (true, "8461ece85bfe35624fa29d0fee43013f7244795356b1b4ff9c9de51d9984b345"), looks := false }, kinds := [], alts := [], laidByText := true, laidKinds := [.listed, .data], laidTests := true, laidLooks := .later }
def SpanTwiceCardSaid : Prop := Claim7.holds Tryd.pinned (.plain (OpenSpec.ofChange spanTwiceSpec)) spanTwiceCard

/-- THE TIED CARD OF 'backstitchkeep2.FoldNone'. -/
def foldNoneCard : Claim7 := { stood := { row := foldNoneRow, standIns := [], harness := (true, "8461ece85bfe35624fa29d0fee43013f7244795356b1b4ff9c9de51d9984b345"), looks := false }, kinds := [], alts := [], laidByText := true, laidKinds := [.listed, .data], laidTests := true, laidLooks := .later }
def FoldNoneCardSaid : Prop := Claim7.holds Tryd.pinned (.plain (OpenSpec.ofChange foldNoneSpec)) foldNoneCard

/-- THE SECOND FORM's CARD OF 'backstitchkeep2.IrAhead'. -/
def irAheadUptoCard : Claim7 := { stood := { row := irAheadUptoRow, standIns := [], harness := (true, "8461ece85bfe35624fa29d0fee43013f7244795356b1b4ff9c9de51d9984b345"), looks := false }, kinds := [], alts := [], laidByText := true, laidKinds := [.listed, .data], laidTests := true, laidLooks := .later }
def IrAheadUptoCardSaid : Prop := Claim7.holds Tryd.pinned (.plain (OpenSpec.upto irAheadSpec)) irAheadUptoCard

/-- THE SECOND FORM's CARD OF 'backstitchkeep2.IrKindLater'. -/
def irKindLaterUptoCard : Claim7 := { stood := { row := irKindLaterUptoRow, standIns := [], harness := (true, "8461ece85bfe35624fa29d0fee43013f7244795356b1b4ff9c9de51d9984b345"), looks := false }, kinds := [], alts := [], laidByText := true, laidKinds := [.listed, .data], laidTests := true, laidLooks := .later }
def IrKindLaterUptoCardSaid : Prop := Claim7.holds Tryd.pinned (.plain (OpenSpec.upto irKindLaterSpec)) irKindLaterUptoCard

/-- THE SECOND FORM's CARD OF 'backstitchkeep2.IrCutNone'. -/
def irCutNoneUptoCard : Claim7 := { stood := { row := irCutNoneUptoRow, standIns := [], harness := (true, "8461ece85bfe35624fa29d0fee43013f7244795356b1b4ff9c9de51d9984b345"), looks := false }, kinds := [], alts := [], laidByText := true, laidKinds := [.listed, .data], laidTests := true, laidLooks := .later }
def IrCutNoneUptoCardSaid : Prop := Claim7.holds Tryd.pinned (.plain (OpenSpec.upto irCutNoneSpec)) irCutNoneUptoCard

/-- THE SECOND FORM's CARD OF 'backstitchkeep2.CseNone'. -/
def cseNoneUptoCard : Claim7 := { stood := { row := cseNoneUptoRow, standIns := [], harness := (true, "8461ece85bfe35624fa29d0fee43013f7244795356b1b4ff9c9de51d9984b345"), looks := false }, kinds := [], alts := [], laidByText := true, laidKinds := [.listed, .data], laidTests := true, laidLooks := .later }
def CseNoneUptoCardSaid : Prop := Claim7.holds Tryd.pinned (.plain (OpenSpec.upto cseNoneSpec)) cseNoneUptoCard

/-- THE SECOND FORM's CARD OF 'backstitchkeep2.DeadNone'. -/
def deadNoneUptoCard : Claim7 := { stood := { row := deadNoneUptoRow, standIns := [], harness := (true, "8461ece85bfe35624fa29d0fee43013f7244795356b1b4ff9c9de51d9984b345"), looks := false }, kinds := [], alts := [], laidByText := true, laidKinds := [.listed, .data], laidTests := true, laidLooks := .later }
def DeadNoneUptoCardSaid : Prop := Claim7.holds Tryd.pinned (.plain (OpenSpec.upto deadNoneSpec)) deadNoneUptoCard

/-- THE SECOND FORM's CARD OF 'backstitchkeep2.PeelHead'. -/
def peelHeadUptoCard : Claim7 := { stood := { row := peelHeadUptoRow, standIns := [], harness := (true, "8461ece85bfe35624fa29d0fee43013f7244795356b1b4ff9c9de51d9984b345"), looks := false }, kinds := [], alts := [], laidByText := true, laidKinds := [.listed, .data], laidTests := true, laidLooks := .later }
def PeelHeadUptoCardSaid : Prop := Claim7.holds Tryd.pinned (.plain (OpenSpec.upto peelHeadSpec)) peelHeadUptoCard

/-- THE SECOND FORM's CARD OF 'backstitchkeep2.SpanLater'. -/
def spanLaterUptoCard : Claim7 := { stood := { row := spanLaterUptoRow, standIns := [], harness := (true, "8461ece85bfe35624fa29d0fee43013f7244795356b1b4ff9c9de51d9984b345"), looks := false }, kinds := [], alts := [], laidByText := true, laidKinds := [.listed, .data], laidTests := true, laidLooks := .later }
def SpanLaterUptoCardSaid : Prop := Claim7.holds Tryd.pinned (.plain (OpenSpec.upto spanLaterSpec)) spanLaterUptoCard

/-- THE SECOND FORM's CARD OF 'backstitchkeep2.FactsTwice'. -/
def factsTwiceUptoCard : Claim7 := { stood := { row := factsTwiceUptoRow, standIns := [], harness := (true, "8461ece85bfe35624fa29d0fee43013f7244795356b1b4ff9c9de51d9984b345"), looks := false }, kinds := [], alts := [], laidByText := true, laidKinds := [.listed, .data], laidTests := true, laidLooks := .later }
def FactsTwiceUptoCardSaid : Prop := Claim7.holds Tryd.pinned (.plain (OpenSpec.upto factsTwiceSpec)) factsTwiceUptoCard

/-- THE SECOND FORM's CARD OF 'backstitchkeep2.SpanTwice'. -/
def spanTwiceUptoCard : Claim7 := { stood := { row := spanTwiceUptoRow, standIns := [], harness := (true, "8461ece85bfe35624fa29d0fee43013f7244795356b1b4ff9c9de51d9984b345"), looks := false }, kinds := [], alts := [], laidByText := true, laidKinds := [.listed, .data], laidTests := true, laidLooks := .later }
def SpanTwiceUptoCardSaid : Prop := Claim7.holds Tryd.pinned (.plain (OpenSpec.upto spanTwiceSpec)) spanTwiceUptoCard

/-- THE SECOND FORM's CARD OF 'backstitchkeep2.FoldNone'. -/
def foldNoneUptoCard : Claim7 := { stood := { row := foldNoneUptoRow, standIns := [], harness := (true, "8461ece85bfe35624fa29d0fee43013f7244795356b1b4ff9c9de51d9984b345"), looks := false }, kinds := [], alts := [], laidByText := true, laidKinds := [.listed, .data], laidTests := true, laidLooks := .later }
def FoldNoneUptoCardSaid : Prop := Claim7.holds Tryd.pinned (.plain (OpenSpec.upto foldNoneSpec)) foldNoneUptoCard
end Rows
end Go.Proofs.YtmccomeihnaanaaDoor
