/-
  NARROWER THAN 'FOR EVERY INPUT', by the rows' own cells (each row's printed sentence says how): IrunOthers: laid · IrunSteps: laid · IrunRegs: laid · AliasApartSo: laid · IrunTurns: laid · IrunNone: laid · IrunStays: laid · IrKindSo: laid · SpanSo: laid.
  DERIVED. THE GIVEN ROWS OF THIS SEAT. 9 by the template 'for every input the law returns true; each argument reads behind the call as it read before'; 0 by the template 'total and deterministic' (their statements: YtjaphgpkkfdaaaaGreatDoorTotals.lean).
  GIVEN WITH THE SEED: the statements are not yours to turn. If you find one false, say at which input.
  Laid BY PROGRAM, IN A SANDBOX (cutbox-rows.mjs): the forced cells as the released guide's own fill.sh prints them over the translation be203398c9f7c2b3… (all of the seat's roots in one cut). By AI agents, Wed Nov 11 2026. No macro, syntax, notation, axiom, sorry.
-/
import Derived.Test.YtjaphgpkkfdaaaaGreatDoorChecked
import GoSem.Claim
import GoSem.ClaimJoined
import GoSem.ClaimMapViews
import Derived.JoinedTies
import Derived.KernelRfl
namespace Go.Proofs.YtjaphgpkkfdaaaaGreatDoor
/- THE CELL 'sum', in the pinned program and in every row, IS THE sha256 OF THE DUMP (.gsa) THAT YtjaphgpkkfdaaaaGreatDoorProg.lean LOADS. Nothing in Lean hashes anything: it is a label: what it is worth is what the hold of that sum in a sandbox is worth. -/
noncomputable def Tryz.pinned : Pinned := { name := "ytjaphgpkkfdaaaagreatdoor", sum := "be203398c9f7c2b361f5e110ac6a3cc07c97982404d4d07d502a14becc5134a3", checked := Tryz.checked }
namespace Rows
def none {H : Type} : Left H := { results := [], args := [] }

/- WHAT THE LISTED PACKAGE-LEVEL VARIABLES READ AS WHEN THE CALL BEGINS. Each datum BY PROGRAM (the guide's laid-datum.mjs) off the statement by which the dump's own 'gosem.cut.vars' lays the variable. In a bare row this is a premise. The card (YtjaphgpkkfdaaaaGreatDoorCards.lean) ties it to the program's text. -/
def laid_unicode_White_Space {H : Type} : DataW H := .ptr (.agg [.slice [.agg [.lit (.int .u16 9), .lit (.int .u16 13), .lit (.int .u16 1)], .agg [.lit (.int .u16 32), .lit (.int .u16 133), .lit (.int .u16 101)], .agg [.lit (.int .u16 160), .lit (.int .u16 5760), .lit (.int .u16 5600)], .agg [.lit (.int .u16 8192), .lit (.int .u16 8202), .lit (.int .u16 1)], .agg [.lit (.int .u16 8232), .lit (.int .u16 8233), .lit (.int .u16 1)], .agg [.lit (.int .u16 8239), .lit (.int .u16 8287), .lit (.int .u16 48)], .agg [.lit (.int .u16 12288), .lit (.int .u16 12288), .lit (.int .u16 1)]] [], .nil, .lit (.int .i64 2)])
def laid_strings_asciiSpace {H : Type} : DataW H := .agg [.lit (.int .u8 0), .lit (.int .u8 0), .lit (.int .u8 0), .lit (.int .u8 0), .lit (.int .u8 0), .lit (.int .u8 0), .lit (.int .u8 0), .lit (.int .u8 0), .lit (.int .u8 0), .lit (.int .u8 1), .lit (.int .u8 1), .lit (.int .u8 1), .lit (.int .u8 1), .lit (.int .u8 1), .lit (.int .u8 0), .lit (.int .u8 0), .lit (.int .u8 0), .lit (.int .u8 0), .lit (.int .u8 0), .lit (.int .u8 0), .lit (.int .u8 0), .lit (.int .u8 0), .lit (.int .u8 0), .lit (.int .u8 0), .lit (.int .u8 0), .lit (.int .u8 0), .lit (.int .u8 0), .lit (.int .u8 0), .lit (.int .u8 0), .lit (.int .u8 0), .lit (.int .u8 0), .lit (.int .u8 0), .lit (.int .u8 1), .lit (.int .u8 0), .lit (.int .u8 0), .lit (.int .u8 0), .lit (.int .u8 0), .lit (.int .u8 0), .lit (.int .u8 0), .lit (.int .u8 0), .lit (.int .u8 0), .lit (.int .u8 0), .lit (.int .u8 0), .lit (.int .u8 0), .lit (.int .u8 0), .lit (.int .u8 0), .lit (.int .u8 0), .lit (.int .u8 0), .lit (.int .u8 0), .lit (.int .u8 0), .lit (.int .u8 0), .lit (.int .u8 0), .lit (.int .u8 0), .lit (.int .u8 0), .lit (.int .u8 0), .lit (.int .u8 0), .lit (.int .u8 0), .lit (.int .u8 0), .lit (.int .u8 0), .lit (.int .u8 0), .lit (.int .u8 0), .lit (.int .u8 0), .lit (.int .u8 0), .lit (.int .u8 0), .lit (.int .u8 0), .lit (.int .u8 0), .lit (.int .u8 0), .lit (.int .u8 0), .lit (.int .u8 0), .lit (.int .u8 0), .lit (.int .u8 0), .lit (.int .u8 0), .lit (.int .u8 0), .lit (.int .u8 0), .lit (.int .u8 0), .lit (.int .u8 0), .lit (.int .u8 0), .lit (.int .u8 0), .lit (.int .u8 0), .lit (.int .u8 0), .lit (.int .u8 0), .lit (.int .u8 0), .lit (.int .u8 0), .lit (.int .u8 0), .lit (.int .u8 0), .lit (.int .u8 0), .lit (.int .u8 0), .lit (.int .u8 0), .lit (.int .u8 0), .lit (.int .u8 0), .lit (.int .u8 0), .lit (.int .u8 0), .lit (.int .u8 0), .lit (.int .u8 0), .lit (.int .u8 0), .lit (.int .u8 0), .lit (.int .u8 0), .lit (.int .u8 0), .lit (.int .u8 0), .lit (.int .u8 0), .lit (.int .u8 0), .lit (.int .u8 0), .lit (.int .u8 0), .lit (.int .u8 0), .lit (.int .u8 0), .lit (.int .u8 0), .lit (.int .u8 0), .lit (.int .u8 0), .lit (.int .u8 0), .lit (.int .u8 0), .lit (.int .u8 0), .lit (.int .u8 0), .lit (.int .u8 0), .lit (.int .u8 0), .lit (.int .u8 0), .lit (.int .u8 0), .lit (.int .u8 0), .lit (.int .u8 0), .lit (.int .u8 0), .lit (.int .u8 0), .lit (.int .u8 0), .lit (.int .u8 0), .lit (.int .u8 0), .lit (.int .u8 0), .lit (.int .u8 0), .lit (.int .u8 0), .lit (.int .u8 0), .lit (.int .u8 0), .lit (.int .u8 0), .lit (.int .u8 0), .lit (.int .u8 0), .lit (.int .u8 0), .lit (.int .u8 0), .lit (.int .u8 0), .lit (.int .u8 0), .lit (.int .u8 0), .lit (.int .u8 0), .lit (.int .u8 0), .lit (.int .u8 0), .lit (.int .u8 0), .lit (.int .u8 0), .lit (.int .u8 0), .lit (.int .u8 0), .lit (.int .u8 0), .lit (.int .u8 0), .lit (.int .u8 0), .lit (.int .u8 0), .lit (.int .u8 0), .lit (.int .u8 0), .lit (.int .u8 0), .lit (.int .u8 0), .lit (.int .u8 0), .lit (.int .u8 0), .lit (.int .u8 0), .lit (.int .u8 0), .lit (.int .u8 0), .lit (.int .u8 0), .lit (.int .u8 0), .lit (.int .u8 0), .lit (.int .u8 0), .lit (.int .u8 0), .lit (.int .u8 0), .lit (.int .u8 0), .lit (.int .u8 0), .lit (.int .u8 0), .lit (.int .u8 0), .lit (.int .u8 0), .lit (.int .u8 0), .lit (.int .u8 0), .lit (.int .u8 0), .lit (.int .u8 0), .lit (.int .u8 0), .lit (.int .u8 0), .lit (.int .u8 0), .lit (.int .u8 0), .lit (.int .u8 0), .lit (.int .u8 0), .lit (.int .u8 0), .lit (.int .u8 0), .lit (.int .u8 0), .lit (.int .u8 0), .lit (.int .u8 0), .lit (.int .u8 0), .lit (.int .u8 0), .lit (.int .u8 0), .lit (.int .u8 0), .lit (.int .u8 0), .lit (.int .u8 0), .lit (.int .u8 0), .lit (.int .u8 0), .lit (.int .u8 0), .lit (.int .u8 0), .lit (.int .u8 0), .lit (.int .u8 0), .lit (.int .u8 0), .lit (.int .u8 0), .lit (.int .u8 0), .lit (.int .u8 0), .lit (.int .u8 0), .lit (.int .u8 0), .lit (.int .u8 0), .lit (.int .u8 0), .lit (.int .u8 0), .lit (.int .u8 0), .lit (.int .u8 0), .lit (.int .u8 0), .lit (.int .u8 0), .lit (.int .u8 0), .lit (.int .u8 0), .lit (.int .u8 0), .lit (.int .u8 0), .lit (.int .u8 0), .lit (.int .u8 0), .lit (.int .u8 0), .lit (.int .u8 0), .lit (.int .u8 0), .lit (.int .u8 0), .lit (.int .u8 0), .lit (.int .u8 0), .lit (.int .u8 0), .lit (.int .u8 0), .lit (.int .u8 0), .lit (.int .u8 0), .lit (.int .u8 0), .lit (.int .u8 0), .lit (.int .u8 0), .lit (.int .u8 0), .lit (.int .u8 0), .lit (.int .u8 0), .lit (.int .u8 0), .lit (.int .u8 0), .lit (.int .u8 0), .lit (.int .u8 0), .lit (.int .u8 0), .lit (.int .u8 0), .lit (.int .u8 0), .lit (.int .u8 0), .lit (.int .u8 0), .lit (.int .u8 0), .lit (.int .u8 0), .lit (.int .u8 0), .lit (.int .u8 0), .lit (.int .u8 0), .lit (.int .u8 0), .lit (.int .u8 0), .lit (.int .u8 0), .lit (.int .u8 0), .lit (.int .u8 0), .lit (.int .u8 0), .lit (.int .u8 0), .lit (.int .u8 0), .lit (.int .u8 0), .lit (.int .u8 0), .lit (.int .u8 0), .lit (.int .u8 0), .lit (.int .u8 0)]

/-- 'backstitchkeep2.IrunOthers': WHATEVER THE INPUT: true; the input reads as it did. -/
def irunOthersSpec : ChangeSpec := { name := "irunOthers", fn := fun _ => fun
  | [d1, d2, d3, d4, d5] => { results := [.lit (.bool true)], args := [d1, d2, d3, d4, d5] }
  | _ => none }
def irunOthersRow : OpenClaim := { program := "ytjaphgpkkfdaaaagreatdoor", sum := "be203398c9f7c2b361f5e110ac6a3cc07c97982404d4d07d502a14becc5134a3", func := "backstitch/backstitchkeep2.IrunOthers", spec := "irunOthers", inPlace := ["math.Float64frombits", "math.Float64bits"], unfollowed := true, recurses := true, named := ["strings.asciiSpace", "unicode.White_Space"], plainKeys := false, apart := false, laid := [("unicode.White_Space", laid_unicode_White_Space), ("strings.asciiSpace", laid_strings_asciiSpace)] }
def IrunOthersSaid : Prop := irunOthersRow.holds Tryz.pinned (OpenSpec.ofChange irunOthersSpec)

/-- ITS FALSE NEIGHBOUR: 'it returns false'. Refute it at one input. -/
def irunOthersWrong : ChangeSpec := { name := "irunOthers", fn := fun _ => fun
  | [d1, d2, d3, d4, d5] => { results := [.lit (.bool false)], args := [d1, d2, d3, d4, d5] }
  | _ => none }
def IrunOthersWrongFalsely : Prop := irunOthersRow.holds Tryz.pinned (OpenSpec.ofChange irunOthersWrong)

/-- 'backstitchkeep2.IrunSteps': WHATEVER THE INPUT: true; the input reads as it did. -/
def irunStepsSpec : ChangeSpec := { name := "irunSteps", fn := fun _ => fun
  | [d1, d2, d3, d4, d5] => { results := [.lit (.bool true)], args := [d1, d2, d3, d4, d5] }
  | _ => none }
def irunStepsRow : OpenClaim := { program := "ytjaphgpkkfdaaaagreatdoor", sum := "be203398c9f7c2b361f5e110ac6a3cc07c97982404d4d07d502a14becc5134a3", func := "backstitch/backstitchkeep2.IrunSteps", spec := "irunSteps", inPlace := ["math.Float64frombits", "math.Float64bits"], unfollowed := true, recurses := true, named := ["strings.asciiSpace", "unicode.White_Space"], plainKeys := false, apart := false, laid := [("unicode.White_Space", laid_unicode_White_Space), ("strings.asciiSpace", laid_strings_asciiSpace)] }
def IrunStepsSaid : Prop := irunStepsRow.holds Tryz.pinned (OpenSpec.ofChange irunStepsSpec)

/-- ITS FALSE NEIGHBOUR: 'it returns false'. Refute it at one input. -/
def irunStepsWrong : ChangeSpec := { name := "irunSteps", fn := fun _ => fun
  | [d1, d2, d3, d4, d5] => { results := [.lit (.bool false)], args := [d1, d2, d3, d4, d5] }
  | _ => none }
def IrunStepsWrongFalsely : Prop := irunStepsRow.holds Tryz.pinned (OpenSpec.ofChange irunStepsWrong)

/-- 'backstitchkeep2.IrunRegs': WHATEVER THE INPUT: true; the input reads as it did. -/
def irunRegsSpec : ChangeSpec := { name := "irunRegs", fn := fun _ => fun
  | [d1, d2, d3, d4] => { results := [.lit (.bool true)], args := [d1, d2, d3, d4] }
  | _ => none }
def irunRegsRow : OpenClaim := { program := "ytjaphgpkkfdaaaagreatdoor", sum := "be203398c9f7c2b361f5e110ac6a3cc07c97982404d4d07d502a14becc5134a3", func := "backstitch/backstitchkeep2.IrunRegs", spec := "irunRegs", inPlace := ["math.Float64frombits", "math.Float64bits"], unfollowed := true, recurses := true, named := ["strings.asciiSpace", "unicode.White_Space"], plainKeys := false, apart := false, laid := [("unicode.White_Space", laid_unicode_White_Space), ("strings.asciiSpace", laid_strings_asciiSpace)] }
def IrunRegsSaid : Prop := irunRegsRow.holds Tryz.pinned (OpenSpec.ofChange irunRegsSpec)

/-- ITS FALSE NEIGHBOUR: 'it returns false'. Refute it at one input. -/
def irunRegsWrong : ChangeSpec := { name := "irunRegs", fn := fun _ => fun
  | [d1, d2, d3, d4] => { results := [.lit (.bool false)], args := [d1, d2, d3, d4] }
  | _ => none }
def IrunRegsWrongFalsely : Prop := irunRegsRow.holds Tryz.pinned (OpenSpec.ofChange irunRegsWrong)

/-- 'backstitchkeep2.AliasApartSo': WHATEVER THE INPUT: true; the input reads as it did. -/
def aliasApartSoSpec : ChangeSpec := { name := "aliasApartSo", fn := fun _ => fun
  | [d1, d2, d3, d4, d5, d6] => { results := [.lit (.bool true)], args := [d1, d2, d3, d4, d5, d6] }
  | _ => none }
def aliasApartSoRow : OpenClaim := { program := "ytjaphgpkkfdaaaagreatdoor", sum := "be203398c9f7c2b361f5e110ac6a3cc07c97982404d4d07d502a14becc5134a3", func := "backstitch/backstitchkeep2.AliasApartSo", spec := "aliasApartSo", inPlace := ["math.Float64frombits", "math.Float64bits"], unfollowed := true, recurses := true, named := ["strings.asciiSpace", "unicode.White_Space"], plainKeys := false, apart := false, laid := [("unicode.White_Space", laid_unicode_White_Space), ("strings.asciiSpace", laid_strings_asciiSpace)] }
def AliasApartSoSaid : Prop := aliasApartSoRow.holds Tryz.pinned (OpenSpec.ofChange aliasApartSoSpec)

/-- ITS FALSE NEIGHBOUR: 'it returns false'. Refute it at one input. -/
def aliasApartSoWrong : ChangeSpec := { name := "aliasApartSo", fn := fun _ => fun
  | [d1, d2, d3, d4, d5, d6] => { results := [.lit (.bool false)], args := [d1, d2, d3, d4, d5, d6] }
  | _ => none }
def AliasApartSoWrongFalsely : Prop := aliasApartSoRow.holds Tryz.pinned (OpenSpec.ofChange aliasApartSoWrong)

/-- 'backstitchkeep2.IrunTurns': WHATEVER THE INPUT: true; the input reads as it did. -/
def irunTurnsSpec : ChangeSpec := { name := "irunTurns", fn := fun _ => fun
  | [d1, d2, d3, d4, d5, d6] => { results := [.lit (.bool true)], args := [d1, d2, d3, d4, d5, d6] }
  | _ => none }
def irunTurnsRow : OpenClaim := { program := "ytjaphgpkkfdaaaagreatdoor", sum := "be203398c9f7c2b361f5e110ac6a3cc07c97982404d4d07d502a14becc5134a3", func := "backstitch/backstitchkeep2.IrunTurns", spec := "irunTurns", inPlace := ["math.Float64frombits", "math.Float64bits"], unfollowed := true, recurses := true, named := ["strings.asciiSpace", "unicode.White_Space"], plainKeys := false, apart := false, laid := [("unicode.White_Space", laid_unicode_White_Space), ("strings.asciiSpace", laid_strings_asciiSpace)] }
def IrunTurnsSaid : Prop := irunTurnsRow.holds Tryz.pinned (OpenSpec.ofChange irunTurnsSpec)

/-- ITS FALSE NEIGHBOUR: 'it returns false'. Refute it at one input. -/
def irunTurnsWrong : ChangeSpec := { name := "irunTurns", fn := fun _ => fun
  | [d1, d2, d3, d4, d5, d6] => { results := [.lit (.bool false)], args := [d1, d2, d3, d4, d5, d6] }
  | _ => none }
def IrunTurnsWrongFalsely : Prop := irunTurnsRow.holds Tryz.pinned (OpenSpec.ofChange irunTurnsWrong)

/-- 'backstitchkeep2.IrunNone': WHATEVER THE INPUT: true; the input reads as it did. -/
def irunNoneSpec : ChangeSpec := { name := "irunNone", fn := fun _ => fun
  | [d1, d2, d3, d4] => { results := [.lit (.bool true)], args := [d1, d2, d3, d4] }
  | _ => none }
def irunNoneRow : OpenClaim := { program := "ytjaphgpkkfdaaaagreatdoor", sum := "be203398c9f7c2b361f5e110ac6a3cc07c97982404d4d07d502a14becc5134a3", func := "backstitch/backstitchkeep2.IrunNone", spec := "irunNone", inPlace := ["math.Float64frombits", "math.Float64bits"], unfollowed := true, recurses := true, named := ["strings.asciiSpace", "unicode.White_Space"], plainKeys := false, apart := false, laid := [("unicode.White_Space", laid_unicode_White_Space), ("strings.asciiSpace", laid_strings_asciiSpace)] }
def IrunNoneSaid : Prop := irunNoneRow.holds Tryz.pinned (OpenSpec.ofChange irunNoneSpec)

/-- ITS FALSE NEIGHBOUR: 'it returns false'. Refute it at one input. -/
def irunNoneWrong : ChangeSpec := { name := "irunNone", fn := fun _ => fun
  | [d1, d2, d3, d4] => { results := [.lit (.bool false)], args := [d1, d2, d3, d4] }
  | _ => none }
def IrunNoneWrongFalsely : Prop := irunNoneRow.holds Tryz.pinned (OpenSpec.ofChange irunNoneWrong)

/-- 'backstitchkeep2.IrunStays': WHATEVER THE INPUT: true; the input reads as it did. -/
def irunStaysSpec : ChangeSpec := { name := "irunStays", fn := fun _ => fun
  | [d1, d2, d3, d4, d5] => { results := [.lit (.bool true)], args := [d1, d2, d3, d4, d5] }
  | _ => none }
def irunStaysRow : OpenClaim := { program := "ytjaphgpkkfdaaaagreatdoor", sum := "be203398c9f7c2b361f5e110ac6a3cc07c97982404d4d07d502a14becc5134a3", func := "backstitch/backstitchkeep2.IrunStays", spec := "irunStays", inPlace := ["math.Float64frombits", "math.Float64bits"], unfollowed := true, recurses := true, named := ["strings.asciiSpace", "unicode.White_Space"], plainKeys := false, apart := false, laid := [("unicode.White_Space", laid_unicode_White_Space), ("strings.asciiSpace", laid_strings_asciiSpace)] }
def IrunStaysSaid : Prop := irunStaysRow.holds Tryz.pinned (OpenSpec.ofChange irunStaysSpec)

/-- ITS FALSE NEIGHBOUR: 'it returns false'. Refute it at one input. -/
def irunStaysWrong : ChangeSpec := { name := "irunStays", fn := fun _ => fun
  | [d1, d2, d3, d4, d5] => { results := [.lit (.bool false)], args := [d1, d2, d3, d4, d5] }
  | _ => none }
def IrunStaysWrongFalsely : Prop := irunStaysRow.holds Tryz.pinned (OpenSpec.ofChange irunStaysWrong)

/-- 'backstitchkeep2.IrKindSo': WHATEVER THE INPUT: true; the input reads as it did. -/
def irKindSoSpec : ChangeSpec := { name := "irKindSo", fn := fun _ => fun
  | [d1, d2, d3, d4, d5] => { results := [.lit (.bool true)], args := [d1, d2, d3, d4, d5] }
  | _ => none }
def irKindSoRow : OpenClaim := { program := "ytjaphgpkkfdaaaagreatdoor", sum := "be203398c9f7c2b361f5e110ac6a3cc07c97982404d4d07d502a14becc5134a3", func := "backstitch/backstitchkeep2.IrKindSo", spec := "irKindSo", inPlace := ["math.Float64frombits", "math.Float64bits"], unfollowed := true, recurses := true, named := ["strings.asciiSpace", "unicode.White_Space"], plainKeys := false, apart := false, laid := [("unicode.White_Space", laid_unicode_White_Space), ("strings.asciiSpace", laid_strings_asciiSpace)] }
def IrKindSoSaid : Prop := irKindSoRow.holds Tryz.pinned (OpenSpec.ofChange irKindSoSpec)

/-- ITS FALSE NEIGHBOUR: 'it returns false'. Refute it at one input. -/
def irKindSoWrong : ChangeSpec := { name := "irKindSo", fn := fun _ => fun
  | [d1, d2, d3, d4, d5] => { results := [.lit (.bool false)], args := [d1, d2, d3, d4, d5] }
  | _ => none }
def IrKindSoWrongFalsely : Prop := irKindSoRow.holds Tryz.pinned (OpenSpec.ofChange irKindSoWrong)

/-- 'backstitchkeep2.SpanSo': WHATEVER THE INPUT: true; the input reads as it did. -/
def spanSoSpec : ChangeSpec := { name := "spanSo", fn := fun _ => fun
  | [d1, d2, d3, d4, d5] => { results := [.lit (.bool true)], args := [d1, d2, d3, d4, d5] }
  | _ => none }
def spanSoRow : OpenClaim := { program := "ytjaphgpkkfdaaaagreatdoor", sum := "be203398c9f7c2b361f5e110ac6a3cc07c97982404d4d07d502a14becc5134a3", func := "backstitch/backstitchkeep2.SpanSo", spec := "spanSo", inPlace := ["math.Float64frombits", "math.Float64bits"], unfollowed := true, recurses := true, named := ["strings.asciiSpace", "unicode.White_Space"], plainKeys := false, apart := false, laid := [("unicode.White_Space", laid_unicode_White_Space), ("strings.asciiSpace", laid_strings_asciiSpace)] }
def SpanSoSaid : Prop := spanSoRow.holds Tryz.pinned (OpenSpec.ofChange spanSoSpec)

/-- ITS FALSE NEIGHBOUR: 'it returns false'. Refute it at one input. -/
def spanSoWrong : ChangeSpec := { name := "spanSo", fn := fun _ => fun
  | [d1, d2, d3, d4, d5] => { results := [.lit (.bool false)], args := [d1, d2, d3, d4, d5] }
  | _ => none }
def SpanSoWrongFalsely : Prop := spanSoRow.holds Tryz.pinned (OpenSpec.ofChange spanSoWrong)

/- THE SECOND FORM. 'bulk': how many values and letters a reading holds, each counted each time it is reached (what is shared counts as often as it is met; a slice's spare places count too). A statement '..UptoSaid' is the law's where the arguments, and the package variables that the reading takes, are together of bulk at most 1048576: NARROWER than '..Said'. Prove '..Said' where nothing that the law and all that it calls make is longer than what came in: it says more and counts as full. Else prove '..UptoSaid'. A law counts once. -/
mutual
def uptoBulk {H : Type} : DataW H → Nat
  | .lit (.string bytes) => bytes.length + 1
  | .lit _ => 1
  | .nil => 1
  | .ptr d => uptoBulk d + 1
  | .slice elems spare => uptoBulkAll elems + uptoBulkAll spare + 1
  | .agg parts => uptoBulkAll parts + 1
  | .iface _ d => uptoBulk d + 1
  | .map entries => uptoBulkEntries entries + 1
  | .held _ => 1
def uptoBulkAll {H : Type} : List (DataW H) → Nat
  | [] => 0
  | d :: r => uptoBulk d + uptoBulkAll r
def uptoBulkEntries {H : Type} : List (Lit × DataW H) → Nat
  | [] => 0
  | x :: r => uptoBulkEntry x + uptoBulkEntries r
def uptoBulkEntry {H : Type} : Lit × DataW H → Nat
  | (.string bytes, d) => bytes.length + uptoBulk d + 1
  | (_, d) => uptoBulk d + 1
 end
def uptoSmall : (H : Type) → List (DataW H) → Bool := fun _ ds => decide (uptoBulkAll ds ≤ 1048576)
def OpenSpec.upto (s : _root_.Go.ChangeSpec) : _root_.Go.OpenSpec := { _root_.Go.OpenSpec.ofChange s with cond := some uptoSmall }

/-- 'backstitchkeep2.IrunOthers', WHERE WHAT IT READS IS OF BULK AT MOST 1048576: true; the input reads as it did. -/
def irunOthersUptoRow : OpenClaim := { program := "ytjaphgpkkfdaaaagreatdoor", sum := "be203398c9f7c2b361f5e110ac6a3cc07c97982404d4d07d502a14becc5134a3", func := "backstitch/backstitchkeep2.IrunOthers", spec := "irunOthers", inPlace := ["math.Float64frombits", "math.Float64bits"], unfollowed := true, recurses := true, named := ["strings.asciiSpace", "unicode.White_Space"], plainKeys := false, apart := false, laid := [("unicode.White_Space", laid_unicode_White_Space), ("strings.asciiSpace", laid_strings_asciiSpace)], narrowed := true }
def IrunOthersUptoSaid : Prop := irunOthersUptoRow.holds Tryz.pinned (OpenSpec.upto irunOthersSpec)

/-- 'backstitchkeep2.IrunSteps', WHERE WHAT IT READS IS OF BULK AT MOST 1048576: true; the input reads as it did. -/
def irunStepsUptoRow : OpenClaim := { program := "ytjaphgpkkfdaaaagreatdoor", sum := "be203398c9f7c2b361f5e110ac6a3cc07c97982404d4d07d502a14becc5134a3", func := "backstitch/backstitchkeep2.IrunSteps", spec := "irunSteps", inPlace := ["math.Float64frombits", "math.Float64bits"], unfollowed := true, recurses := true, named := ["strings.asciiSpace", "unicode.White_Space"], plainKeys := false, apart := false, laid := [("unicode.White_Space", laid_unicode_White_Space), ("strings.asciiSpace", laid_strings_asciiSpace)], narrowed := true }
def IrunStepsUptoSaid : Prop := irunStepsUptoRow.holds Tryz.pinned (OpenSpec.upto irunStepsSpec)

/-- 'backstitchkeep2.IrunRegs', WHERE WHAT IT READS IS OF BULK AT MOST 1048576: true; the input reads as it did. -/
def irunRegsUptoRow : OpenClaim := { program := "ytjaphgpkkfdaaaagreatdoor", sum := "be203398c9f7c2b361f5e110ac6a3cc07c97982404d4d07d502a14becc5134a3", func := "backstitch/backstitchkeep2.IrunRegs", spec := "irunRegs", inPlace := ["math.Float64frombits", "math.Float64bits"], unfollowed := true, recurses := true, named := ["strings.asciiSpace", "unicode.White_Space"], plainKeys := false, apart := false, laid := [("unicode.White_Space", laid_unicode_White_Space), ("strings.asciiSpace", laid_strings_asciiSpace)], narrowed := true }
def IrunRegsUptoSaid : Prop := irunRegsUptoRow.holds Tryz.pinned (OpenSpec.upto irunRegsSpec)

/-- 'backstitchkeep2.AliasApartSo', WHERE WHAT IT READS IS OF BULK AT MOST 1048576: true; the input reads as it did. -/
def aliasApartSoUptoRow : OpenClaim := { program := "ytjaphgpkkfdaaaagreatdoor", sum := "be203398c9f7c2b361f5e110ac6a3cc07c97982404d4d07d502a14becc5134a3", func := "backstitch/backstitchkeep2.AliasApartSo", spec := "aliasApartSo", inPlace := ["math.Float64frombits", "math.Float64bits"], unfollowed := true, recurses := true, named := ["strings.asciiSpace", "unicode.White_Space"], plainKeys := false, apart := false, laid := [("unicode.White_Space", laid_unicode_White_Space), ("strings.asciiSpace", laid_strings_asciiSpace)], narrowed := true }
def AliasApartSoUptoSaid : Prop := aliasApartSoUptoRow.holds Tryz.pinned (OpenSpec.upto aliasApartSoSpec)

/-- 'backstitchkeep2.IrunTurns', WHERE WHAT IT READS IS OF BULK AT MOST 1048576: true; the input reads as it did. -/
def irunTurnsUptoRow : OpenClaim := { program := "ytjaphgpkkfdaaaagreatdoor", sum := "be203398c9f7c2b361f5e110ac6a3cc07c97982404d4d07d502a14becc5134a3", func := "backstitch/backstitchkeep2.IrunTurns", spec := "irunTurns", inPlace := ["math.Float64frombits", "math.Float64bits"], unfollowed := true, recurses := true, named := ["strings.asciiSpace", "unicode.White_Space"], plainKeys := false, apart := false, laid := [("unicode.White_Space", laid_unicode_White_Space), ("strings.asciiSpace", laid_strings_asciiSpace)], narrowed := true }
def IrunTurnsUptoSaid : Prop := irunTurnsUptoRow.holds Tryz.pinned (OpenSpec.upto irunTurnsSpec)

/-- 'backstitchkeep2.IrunNone', WHERE WHAT IT READS IS OF BULK AT MOST 1048576: true; the input reads as it did. -/
def irunNoneUptoRow : OpenClaim := { program := "ytjaphgpkkfdaaaagreatdoor", sum := "be203398c9f7c2b361f5e110ac6a3cc07c97982404d4d07d502a14becc5134a3", func := "backstitch/backstitchkeep2.IrunNone", spec := "irunNone", inPlace := ["math.Float64frombits", "math.Float64bits"], unfollowed := true, recurses := true, named := ["strings.asciiSpace", "unicode.White_Space"], plainKeys := false, apart := false, laid := [("unicode.White_Space", laid_unicode_White_Space), ("strings.asciiSpace", laid_strings_asciiSpace)], narrowed := true }
def IrunNoneUptoSaid : Prop := irunNoneUptoRow.holds Tryz.pinned (OpenSpec.upto irunNoneSpec)

/-- 'backstitchkeep2.IrunStays', WHERE WHAT IT READS IS OF BULK AT MOST 1048576: true; the input reads as it did. -/
def irunStaysUptoRow : OpenClaim := { program := "ytjaphgpkkfdaaaagreatdoor", sum := "be203398c9f7c2b361f5e110ac6a3cc07c97982404d4d07d502a14becc5134a3", func := "backstitch/backstitchkeep2.IrunStays", spec := "irunStays", inPlace := ["math.Float64frombits", "math.Float64bits"], unfollowed := true, recurses := true, named := ["strings.asciiSpace", "unicode.White_Space"], plainKeys := false, apart := false, laid := [("unicode.White_Space", laid_unicode_White_Space), ("strings.asciiSpace", laid_strings_asciiSpace)], narrowed := true }
def IrunStaysUptoSaid : Prop := irunStaysUptoRow.holds Tryz.pinned (OpenSpec.upto irunStaysSpec)

/-- 'backstitchkeep2.IrKindSo', WHERE WHAT IT READS IS OF BULK AT MOST 1048576: true; the input reads as it did. -/
def irKindSoUptoRow : OpenClaim := { program := "ytjaphgpkkfdaaaagreatdoor", sum := "be203398c9f7c2b361f5e110ac6a3cc07c97982404d4d07d502a14becc5134a3", func := "backstitch/backstitchkeep2.IrKindSo", spec := "irKindSo", inPlace := ["math.Float64frombits", "math.Float64bits"], unfollowed := true, recurses := true, named := ["strings.asciiSpace", "unicode.White_Space"], plainKeys := false, apart := false, laid := [("unicode.White_Space", laid_unicode_White_Space), ("strings.asciiSpace", laid_strings_asciiSpace)], narrowed := true }
def IrKindSoUptoSaid : Prop := irKindSoUptoRow.holds Tryz.pinned (OpenSpec.upto irKindSoSpec)

/-- 'backstitchkeep2.SpanSo', WHERE WHAT IT READS IS OF BULK AT MOST 1048576: true; the input reads as it did. -/
def spanSoUptoRow : OpenClaim := { program := "ytjaphgpkkfdaaaagreatdoor", sum := "be203398c9f7c2b361f5e110ac6a3cc07c97982404d4d07d502a14becc5134a3", func := "backstitch/backstitchkeep2.SpanSo", spec := "spanSo", inPlace := ["math.Float64frombits", "math.Float64bits"], unfollowed := true, recurses := true, named := ["strings.asciiSpace", "unicode.White_Space"], plainKeys := false, apart := false, laid := [("unicode.White_Space", laid_unicode_White_Space), ("strings.asciiSpace", laid_strings_asciiSpace)], narrowed := true }
def SpanSoUptoSaid : Prop := spanSoUptoRow.holds Tryz.pinned (OpenSpec.upto spanSoSpec)

end Rows
end Go.Proofs.YtjaphgpkkfdaaaaGreatDoor
