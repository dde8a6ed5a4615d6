/-
  NARROWER THAN 'FOR EVERY INPUT', by the rows' own cells (each row's printed sentence says how): IrAhead: laid · IrKindLater: laid · IrCutNone: laid · CseNone: laid · DeadNone: laid · PeelHead: laid · SpanLater: laid · FactsTwice: laid · SpanTwice: laid · FoldNone: laid.
  DERIVED. THE GIVEN ROWS OF THIS SEAT. 10 by the template 'for every input the law returns true; each argument reads behind the call as it read before'; 0 by the template 'total and deterministic' (their statements: YtmccomeihnaanaaDoorTotals.lean).
  GIVEN WITH THE SEED: the statements are not yours to turn. If you find one false, say at which input.
  Laid BY PROGRAM, IN A SANDBOX (cutbox-rows.mjs): the forced cells as the released guide's own fill.sh prints them over the translation 2178f3b9d1e26c1d… (all of the seat's roots in one cut). By AI agents, Wed Nov 11 2026. No macro, syntax, notation, axiom, sorry.
-/
import Derived.Test.YtmccomeihnaanaaDoorChecked
import GoSem.Claim
import GoSem.ClaimJoined
import GoSem.ClaimMapViews
import Derived.JoinedTies
import Derived.KernelRfl
namespace Go.Proofs.YtmccomeihnaanaaDoor
/- THE CELL 'sum', in the pinned program and in every row, IS THE sha256 OF THE DUMP (.gsa) THAT YtmccomeihnaanaaDoorProg.lean LOADS. Nothing in Lean hashes anything: it is a label: what it is worth is what the hold of that sum in a sandbox is worth. -/
noncomputable def Tryd.pinned : Pinned := { name := "ytmccomeihnaanaadoor", sum := "2178f3b9d1e26c1d32306d97003aae1aa1ce7b6faa355a24ab7f591af0cc698d", checked := Tryd.checked }
namespace Rows
def none {H : Type} : Left H := { results := [], args := [] }

/- WHAT THE LISTED PACKAGE-LEVEL VARIABLES READ AS WHEN THE CALL BEGINS. Each datum BY PROGRAM (the guide's laid-datum.mjs) off the statement by which the dump's own 'gosem.cut.vars' lays the variable. In a bare row this is a premise. The card (YtmccomeihnaanaaDoorCards.lean) ties it to the program's text. -/
def laid_unicode_White_Space {H : Type} : DataW H := .ptr (.agg [.slice [.agg [.lit (.int .u16 9), .lit (.int .u16 13), .lit (.int .u16 1)], .agg [.lit (.int .u16 32), .lit (.int .u16 133), .lit (.int .u16 101)], .agg [.lit (.int .u16 160), .lit (.int .u16 5760), .lit (.int .u16 5600)], .agg [.lit (.int .u16 8192), .lit (.int .u16 8202), .lit (.int .u16 1)], .agg [.lit (.int .u16 8232), .lit (.int .u16 8233), .lit (.int .u16 1)], .agg [.lit (.int .u16 8239), .lit (.int .u16 8287), .lit (.int .u16 48)], .agg [.lit (.int .u16 12288), .lit (.int .u16 12288), .lit (.int .u16 1)]] [], .nil, .lit (.int .i64 2)])
def laid_strings_asciiSpace {H : Type} : DataW H := .agg [.lit (.int .u8 0), .lit (.int .u8 0), .lit (.int .u8 0), .lit (.int .u8 0), .lit (.int .u8 0), .lit (.int .u8 0), .lit (.int .u8 0), .lit (.int .u8 0), .lit (.int .u8 0), .lit (.int .u8 1), .lit (.int .u8 1), .lit (.int .u8 1), .lit (.int .u8 1), .lit (.int .u8 1), .lit (.int .u8 0), .lit (.int .u8 0), .lit (.int .u8 0), .lit (.int .u8 0), .lit (.int .u8 0), .lit (.int .u8 0), .lit (.int .u8 0), .lit (.int .u8 0), .lit (.int .u8 0), .lit (.int .u8 0), .lit (.int .u8 0), .lit (.int .u8 0), .lit (.int .u8 0), .lit (.int .u8 0), .lit (.int .u8 0), .lit (.int .u8 0), .lit (.int .u8 0), .lit (.int .u8 0), .lit (.int .u8 1), .lit (.int .u8 0), .lit (.int .u8 0), .lit (.int .u8 0), .lit (.int .u8 0), .lit (.int .u8 0), .lit (.int .u8 0), .lit (.int .u8 0), .lit (.int .u8 0), .lit (.int .u8 0), .lit (.int .u8 0), .lit (.int .u8 0), .lit (.int .u8 0), .lit (.int .u8 0), .lit (.int .u8 0), .lit (.int .u8 0), .lit (.int .u8 0), .lit (.int .u8 0), .lit (.int .u8 0), .lit (.int .u8 0), .lit (.int .u8 0), .lit (.int .u8 0), .lit (.int .u8 0), .lit (.int .u8 0), .lit (.int .u8 0), .lit (.int .u8 0), .lit (.int .u8 0), .lit (.int .u8 0), .lit (.int .u8 0), .lit (.int .u8 0), .lit (.int .u8 0), .lit (.int .u8 0), .lit (.int .u8 0), .lit (.int .u8 0), .lit (.int .u8 0), .lit (.int .u8 0), .lit (.int .u8 0), .lit (.int .u8 0), .lit (.int .u8 0), .lit (.int .u8 0), .lit (.int .u8 0), .lit (.int .u8 0), .lit (.int .u8 0), .lit (.int .u8 0), .lit (.int .u8 0), .lit (.int .u8 0), .lit (.int .u8 0), .lit (.int .u8 0), .lit (.int .u8 0), .lit (.int .u8 0), .lit (.int .u8 0), .lit (.int .u8 0), .lit (.int .u8 0), .lit (.int .u8 0), .lit (.int .u8 0), .lit (.int .u8 0), .lit (.int .u8 0), .lit (.int .u8 0), .lit (.int .u8 0), .lit (.int .u8 0), .lit (.int .u8 0), .lit (.int .u8 0), .lit (.int .u8 0), .lit (.int .u8 0), .lit (.int .u8 0), .lit (.int .u8 0), .lit (.int .u8 0), .lit (.int .u8 0), .lit (.int .u8 0), .lit (.int .u8 0), .lit (.int .u8 0), .lit (.int .u8 0), .lit (.int .u8 0), .lit (.int .u8 0), .lit (.int .u8 0), .lit (.int .u8 0), .lit (.int .u8 0), .lit (.int .u8 0), .lit (.int .u8 0), .lit (.int .u8 0), .lit (.int .u8 0), .lit (.int .u8 0), .lit (.int .u8 0), .lit (.int .u8 0), .lit (.int .u8 0), .lit (.int .u8 0), .lit (.int .u8 0), .lit (.int .u8 0), .lit (.int .u8 0), .lit (.int .u8 0), .lit (.int .u8 0), .lit (.int .u8 0), .lit (.int .u8 0), .lit (.int .u8 0), .lit (.int .u8 0), .lit (.int .u8 0), .lit (.int .u8 0), .lit (.int .u8 0), .lit (.int .u8 0), .lit (.int .u8 0), .lit (.int .u8 0), .lit (.int .u8 0), .lit (.int .u8 0), .lit (.int .u8 0), .lit (.int .u8 0), .lit (.int .u8 0), .lit (.int .u8 0), .lit (.int .u8 0), .lit (.int .u8 0), .lit (.int .u8 0), .lit (.int .u8 0), .lit (.int .u8 0), .lit (.int .u8 0), .lit (.int .u8 0), .lit (.int .u8 0), .lit (.int .u8 0), .lit (.int .u8 0), .lit (.int .u8 0), .lit (.int .u8 0), .lit (.int .u8 0), .lit (.int .u8 0), .lit (.int .u8 0), .lit (.int .u8 0), .lit (.int .u8 0), .lit (.int .u8 0), .lit (.int .u8 0), .lit (.int .u8 0), .lit (.int .u8 0), .lit (.int .u8 0), .lit (.int .u8 0), .lit (.int .u8 0), .lit (.int .u8 0), .lit (.int .u8 0), .lit (.int .u8 0), .lit (.int .u8 0), .lit (.int .u8 0), .lit (.int .u8 0), .lit (.int .u8 0), .lit (.int .u8 0), .lit (.int .u8 0), .lit (.int .u8 0), .lit (.int .u8 0), .lit (.int .u8 0), .lit (.int .u8 0), .lit (.int .u8 0), .lit (.int .u8 0), .lit (.int .u8 0), .lit (.int .u8 0), .lit (.int .u8 0), .lit (.int .u8 0), .lit (.int .u8 0), .lit (.int .u8 0), .lit (.int .u8 0), .lit (.int .u8 0), .lit (.int .u8 0), .lit (.int .u8 0), .lit (.int .u8 0), .lit (.int .u8 0), .lit (.int .u8 0), .lit (.int .u8 0), .lit (.int .u8 0), .lit (.int .u8 0), .lit (.int .u8 0), .lit (.int .u8 0), .lit (.int .u8 0), .lit (.int .u8 0), .lit (.int .u8 0), .lit (.int .u8 0), .lit (.int .u8 0), .lit (.int .u8 0), .lit (.int .u8 0), .lit (.int .u8 0), .lit (.int .u8 0), .lit (.int .u8 0), .lit (.int .u8 0), .lit (.int .u8 0), .lit (.int .u8 0), .lit (.int .u8 0), .lit (.int .u8 0), .lit (.int .u8 0), .lit (.int .u8 0), .lit (.int .u8 0), .lit (.int .u8 0), .lit (.int .u8 0), .lit (.int .u8 0), .lit (.int .u8 0), .lit (.int .u8 0), .lit (.int .u8 0), .lit (.int .u8 0), .lit (.int .u8 0), .lit (.int .u8 0), .lit (.int .u8 0), .lit (.int .u8 0), .lit (.int .u8 0), .lit (.int .u8 0), .lit (.int .u8 0), .lit (.int .u8 0), .lit (.int .u8 0), .lit (.int .u8 0), .lit (.int .u8 0), .lit (.int .u8 0), .lit (.int .u8 0), .lit (.int .u8 0), .lit (.int .u8 0), .lit (.int .u8 0), .lit (.int .u8 0), .lit (.int .u8 0), .lit (.int .u8 0), .lit (.int .u8 0), .lit (.int .u8 0), .lit (.int .u8 0), .lit (.int .u8 0), .lit (.int .u8 0), .lit (.int .u8 0), .lit (.int .u8 0), .lit (.int .u8 0), .lit (.int .u8 0), .lit (.int .u8 0), .lit (.int .u8 0), .lit (.int .u8 0), .lit (.int .u8 0), .lit (.int .u8 0), .lit (.int .u8 0), .lit (.int .u8 0)]

/-- 'backstitchkeep2.IrAhead': WHATEVER THE INPUT: true; the input reads as it did. -/
def irAheadSpec : ChangeSpec := { name := "irAhead", fn := fun _ => fun
  | [d1, d2] => { results := [.lit (.bool true)], args := [d1, d2] }
  | _ => none }
def irAheadRow : OpenClaim := { program := "ytmccomeihnaanaadoor", sum := "2178f3b9d1e26c1d32306d97003aae1aa1ce7b6faa355a24ab7f591af0cc698d", func := "backstitch/backstitchkeep2.IrAhead", spec := "irAhead", inPlace := ["math.Float64frombits"], unfollowed := true, recurses := true, named := ["strings.asciiSpace", "unicode.White_Space"], plainKeys := false, apart := false, laid := [("unicode.White_Space", laid_unicode_White_Space), ("strings.asciiSpace", laid_strings_asciiSpace)] }
def IrAheadSaid : Prop := irAheadRow.holds Tryd.pinned (OpenSpec.ofChange irAheadSpec)

/-- ITS FALSE NEIGHBOUR: 'it returns false'. Refute it at one input. -/
def irAheadWrong : ChangeSpec := { name := "irAhead", fn := fun _ => fun
  | [d1, d2] => { results := [.lit (.bool false)], args := [d1, d2] }
  | _ => none }
def IrAheadWrongFalsely : Prop := irAheadRow.holds Tryd.pinned (OpenSpec.ofChange irAheadWrong)

/-- 'backstitchkeep2.IrKindLater': WHATEVER THE INPUT: true; the input reads as it did. -/
def irKindLaterSpec : ChangeSpec := { name := "irKindLater", fn := fun _ => fun
  | [d1, d2, d3, d4, d5] => { results := [.lit (.bool true)], args := [d1, d2, d3, d4, d5] }
  | _ => none }
def irKindLaterRow : OpenClaim := { program := "ytmccomeihnaanaadoor", sum := "2178f3b9d1e26c1d32306d97003aae1aa1ce7b6faa355a24ab7f591af0cc698d", func := "backstitch/backstitchkeep2.IrKindLater", spec := "irKindLater", inPlace := ["math.Float64frombits"], unfollowed := true, recurses := true, named := ["strings.asciiSpace", "unicode.White_Space"], plainKeys := false, apart := false, laid := [("unicode.White_Space", laid_unicode_White_Space), ("strings.asciiSpace", laid_strings_asciiSpace)] }
def IrKindLaterSaid : Prop := irKindLaterRow.holds Tryd.pinned (OpenSpec.ofChange irKindLaterSpec)

/-- ITS FALSE NEIGHBOUR: 'it returns false'. Refute it at one input. -/
def irKindLaterWrong : ChangeSpec := { name := "irKindLater", fn := fun _ => fun
  | [d1, d2, d3, d4, d5] => { results := [.lit (.bool false)], args := [d1, d2, d3, d4, d5] }
  | _ => none }
def IrKindLaterWrongFalsely : Prop := irKindLaterRow.holds Tryd.pinned (OpenSpec.ofChange irKindLaterWrong)

/-- 'backstitchkeep2.IrCutNone': WHATEVER THE INPUT: true; the input reads as it did. -/
def irCutNoneSpec : ChangeSpec := { name := "irCutNone", fn := fun _ => fun
  | [d1, d2, d3] => { results := [.lit (.bool true)], args := [d1, d2, d3] }
  | _ => none }
def irCutNoneRow : OpenClaim := { program := "ytmccomeihnaanaadoor", sum := "2178f3b9d1e26c1d32306d97003aae1aa1ce7b6faa355a24ab7f591af0cc698d", func := "backstitch/backstitchkeep2.IrCutNone", spec := "irCutNone", inPlace := ["math.Float64frombits"], unfollowed := true, recurses := true, named := ["strings.asciiSpace", "unicode.White_Space"], plainKeys := false, apart := false, laid := [("unicode.White_Space", laid_unicode_White_Space), ("strings.asciiSpace", laid_strings_asciiSpace)] }
def IrCutNoneSaid : Prop := irCutNoneRow.holds Tryd.pinned (OpenSpec.ofChange irCutNoneSpec)

/-- ITS FALSE NEIGHBOUR: 'it returns false'. Refute it at one input. -/
def irCutNoneWrong : ChangeSpec := { name := "irCutNone", fn := fun _ => fun
  | [d1, d2, d3] => { results := [.lit (.bool false)], args := [d1, d2, d3] }
  | _ => none }
def IrCutNoneWrongFalsely : Prop := irCutNoneRow.holds Tryd.pinned (OpenSpec.ofChange irCutNoneWrong)

/-- 'backstitchkeep2.CseNone': WHATEVER THE INPUT: true; the input reads as it did. -/
def cseNoneSpec : ChangeSpec := { name := "cseNone", fn := fun _ => fun
  | [d1, d2] => { results := [.lit (.bool true)], args := [d1, d2] }
  | _ => none }
def cseNoneRow : OpenClaim := { program := "ytmccomeihnaanaadoor", sum := "2178f3b9d1e26c1d32306d97003aae1aa1ce7b6faa355a24ab7f591af0cc698d", func := "backstitch/backstitchkeep2.CseNone", spec := "cseNone", inPlace := ["math.Float64frombits"], unfollowed := true, recurses := true, named := ["strings.asciiSpace", "unicode.White_Space"], plainKeys := false, apart := false, laid := [("unicode.White_Space", laid_unicode_White_Space), ("strings.asciiSpace", laid_strings_asciiSpace)] }
def CseNoneSaid : Prop := cseNoneRow.holds Tryd.pinned (OpenSpec.ofChange cseNoneSpec)

/-- ITS FALSE NEIGHBOUR: 'it returns false'. Refute it at one input. -/
def cseNoneWrong : ChangeSpec := { name := "cseNone", fn := fun _ => fun
  | [d1, d2] => { results := [.lit (.bool false)], args := [d1, d2] }
  | _ => none }
def CseNoneWrongFalsely : Prop := cseNoneRow.holds Tryd.pinned (OpenSpec.ofChange cseNoneWrong)

/-- 'backstitchkeep2.DeadNone': WHATEVER THE INPUT: true; the input reads as it did. -/
def deadNoneSpec : ChangeSpec := { name := "deadNone", fn := fun _ => fun
  | [d1, d2] => { results := [.lit (.bool true)], args := [d1, d2] }
  | _ => none }
def deadNoneRow : OpenClaim := { program := "ytmccomeihnaanaadoor", sum := "2178f3b9d1e26c1d32306d97003aae1aa1ce7b6faa355a24ab7f591af0cc698d", func := "backstitch/backstitchkeep2.DeadNone", spec := "deadNone", inPlace := ["math.Float64frombits"], unfollowed := true, recurses := true, named := ["strings.asciiSpace", "unicode.White_Space"], plainKeys := false, apart := false, laid := [("unicode.White_Space", laid_unicode_White_Space), ("strings.asciiSpace", laid_strings_asciiSpace)] }
def DeadNoneSaid : Prop := deadNoneRow.holds Tryd.pinned (OpenSpec.ofChange deadNoneSpec)

/-- ITS FALSE NEIGHBOUR: 'it returns false'. Refute it at one input. -/
def deadNoneWrong : ChangeSpec := { name := "deadNone", fn := fun _ => fun
  | [d1, d2] => { results := [.lit (.bool false)], args := [d1, d2] }
  | _ => none }
def DeadNoneWrongFalsely : Prop := deadNoneRow.holds Tryd.pinned (OpenSpec.ofChange deadNoneWrong)

/-- 'backstitchkeep2.PeelHead': WHATEVER THE INPUT: true; the input reads as it did. -/
def peelHeadSpec : ChangeSpec := { name := "peelHead", fn := fun _ => fun
  | [d1, d2] => { results := [.lit (.bool true)], args := [d1, d2] }
  | _ => none }
def peelHeadRow : OpenClaim := { program := "ytmccomeihnaanaadoor", sum := "2178f3b9d1e26c1d32306d97003aae1aa1ce7b6faa355a24ab7f591af0cc698d", func := "backstitch/backstitchkeep2.PeelHead", spec := "peelHead", inPlace := ["math.Float64frombits"], unfollowed := true, recurses := true, named := ["strings.asciiSpace", "unicode.White_Space"], plainKeys := false, apart := false, laid := [("unicode.White_Space", laid_unicode_White_Space), ("strings.asciiSpace", laid_strings_asciiSpace)] }
def PeelHeadSaid : Prop := peelHeadRow.holds Tryd.pinned (OpenSpec.ofChange peelHeadSpec)

/-- ITS FALSE NEIGHBOUR: 'it returns false'. Refute it at one input. -/
def peelHeadWrong : ChangeSpec := { name := "peelHead", fn := fun _ => fun
  | [d1, d2] => { results := [.lit (.bool false)], args := [d1, d2] }
  | _ => none }
def PeelHeadWrongFalsely : Prop := peelHeadRow.holds Tryd.pinned (OpenSpec.ofChange peelHeadWrong)

/-- 'backstitchkeep2.SpanLater': WHATEVER THE INPUT: true; the input reads as it did. -/
def spanLaterSpec : ChangeSpec := { name := "spanLater", fn := fun _ => fun
  | [d1, d2, d3, d4, d5] => { results := [.lit (.bool true)], args := [d1, d2, d3, d4, d5] }
  | _ => none }
def spanLaterRow : OpenClaim := { program := "ytmccomeihnaanaadoor", sum := "2178f3b9d1e26c1d32306d97003aae1aa1ce7b6faa355a24ab7f591af0cc698d", func := "backstitch/backstitchkeep2.SpanLater", spec := "spanLater", inPlace := ["math.Float64frombits"], unfollowed := true, recurses := true, named := ["strings.asciiSpace", "unicode.White_Space"], plainKeys := false, apart := false, laid := [("unicode.White_Space", laid_unicode_White_Space), ("strings.asciiSpace", laid_strings_asciiSpace)] }
def SpanLaterSaid : Prop := spanLaterRow.holds Tryd.pinned (OpenSpec.ofChange spanLaterSpec)

/-- ITS FALSE NEIGHBOUR: 'it returns false'. Refute it at one input. -/
def spanLaterWrong : ChangeSpec := { name := "spanLater", fn := fun _ => fun
  | [d1, d2, d3, d4, d5] => { results := [.lit (.bool false)], args := [d1, d2, d3, d4, d5] }
  | _ => none }
def SpanLaterWrongFalsely : Prop := spanLaterRow.holds Tryd.pinned (OpenSpec.ofChange spanLaterWrong)

/-- 'backstitchkeep2.FactsTwice': WHATEVER THE INPUT: true; the input reads as it did. -/
def factsTwiceSpec : ChangeSpec := { name := "factsTwice", fn := fun _ => fun
  | [d1, d2] => { results := [.lit (.bool true)], args := [d1, d2] }
  | _ => none }
def factsTwiceRow : OpenClaim := { program := "ytmccomeihnaanaadoor", sum := "2178f3b9d1e26c1d32306d97003aae1aa1ce7b6faa355a24ab7f591af0cc698d", func := "backstitch/backstitchkeep2.FactsTwice", spec := "factsTwice", inPlace := ["math.Float64frombits"], unfollowed := true, recurses := true, named := ["strings.asciiSpace", "unicode.White_Space"], plainKeys := false, apart := false, laid := [("unicode.White_Space", laid_unicode_White_Space), ("strings.asciiSpace", laid_strings_asciiSpace)] }
def FactsTwiceSaid : Prop := factsTwiceRow.holds Tryd.pinned (OpenSpec.ofChange factsTwiceSpec)

/-- ITS FALSE NEIGHBOUR: 'it returns false'. Refute it at one input. -/
def factsTwiceWrong : ChangeSpec := { name := "factsTwice", fn := fun _ => fun
  | [d1, d2] => { results := [.lit (.bool false)], args := [d1, d2] }
  | _ => none }
def FactsTwiceWrongFalsely : Prop := factsTwiceRow.holds Tryd.pinned (OpenSpec.ofChange factsTwiceWrong)

/-- 'backstitchkeep2.SpanTwice': WHATEVER THE INPUT: true; the input reads as it did. -/
def spanTwiceSpec : ChangeSpec := { name := "spanTwice", fn := fun _ => fun
  | [d1, d2] => { results := [.lit (.bool true)], args := [d1, d2] }
  | _ => none }
def spanTwiceRow : OpenClaim := { program := "ytmccomeihnaanaadoor", sum := "2178f3b9d1e26c1d32306d97003aae1aa1ce7b6faa355a24ab7f591af0cc698d", func := "backstitch/backstitchkeep2.SpanTwice", spec := "spanTwice", inPlace := ["math.Float64frombits"], unfollowed := true, recurses := true, named := ["strings.asciiSpace", "unicode.White_Space"], plainKeys := false, apart := false, laid := [("unicode.White_Space", laid_unicode_White_Space), ("strings.asciiSpace", laid_strings_asciiSpace)] }
def SpanTwiceSaid : Prop := spanTwiceRow.holds Tryd.pinned (OpenSpec.ofChange spanTwiceSpec)

/-- ITS FALSE NEIGHBOUR: 'it returns false'. Refute it at one input. -/
def spanTwiceWrong : ChangeSpec := { name := "spanTwice", fn := fun _ => fun
  | [d1, d2] => { results := [.lit (.bool false)], args := [d1, d2] }
  | _ => none }
def SpanTwiceWrongFalsely : Prop := spanTwiceRow.holds Tryd.pinned (OpenSpec.ofChange spanTwiceWrong)

/-- 'backstitchkeep2.FoldNone': WHATEVER THE INPUT: true; the input reads as it did. -/
def foldNoneSpec : ChangeSpec := { name := "foldNone", fn := fun _ => fun
  | [d1, d2] => { results := [.lit (.bool true)], args := [d1, d2] }
  | _ => none }
def foldNoneRow : OpenClaim := { program := "ytmccomeihnaanaadoor", sum := "2178f3b9d1e26c1d32306d97003aae1aa1ce7b6faa355a24ab7f591af0cc698d", func := "backstitch/backstitchkeep2.FoldNone", spec := "foldNone", inPlace := ["math.Float64frombits", "math.Float64bits"], unfollowed := true, recurses := true, named := ["strings.asciiSpace", "unicode.White_Space"], plainKeys := false, apart := false, laid := [("unicode.White_Space", laid_unicode_White_Space), ("strings.asciiSpace", laid_strings_asciiSpace)] }
def FoldNoneSaid : Prop := foldNoneRow.holds Tryd.pinned (OpenSpec.ofChange foldNoneSpec)

/-- ITS FALSE NEIGHBOUR: 'it returns false'. Refute it at one input. -/
def foldNoneWrong : ChangeSpec := { name := "foldNone", fn := fun _ => fun
  | [d1, d2] => { results := [.lit (.bool false)], args := [d1, d2] }
  | _ => none }
def FoldNoneWrongFalsely : Prop := foldNoneRow.holds Tryd.pinned (OpenSpec.ofChange foldNoneWrong)

/- THE SECOND FORM. 'bulk': how many values and letters a reading holds, each counted each time it is reached (what is shared counts as often as it is met; a slice's spare places count too). A statement '..UptoSaid' is the law's where the arguments, and the package variables that the reading takes, are together of bulk at most 1048576: NARROWER than '..Said'. Prove '..Said' where nothing that the law and all that it calls make is longer than what came in: it says more and counts as full. Else prove '..UptoSaid'. A law counts once. -/
mutual
def uptoBulk {H : Type} : DataW H → Nat
  | .lit (.string bytes) => bytes.length + 1
  | .lit _ => 1
  | .nil => 1
  | .ptr d => uptoBulk d + 1
  | .slice elems spare => uptoBulkAll elems + uptoBulkAll spare + 1
  | .agg parts => uptoBulkAll parts + 1
  | .iface _ d => uptoBulk d + 1
  | .map entries => uptoBulkEntries entries + 1
  | .held _ => 1
def uptoBulkAll {H : Type} : List (DataW H) → Nat
  | [] => 0
  | d :: r => uptoBulk d + uptoBulkAll r
def uptoBulkEntries {H : Type} : List (Lit × DataW H) → Nat
  | [] => 0
  | x :: r => uptoBulkEntry x + uptoBulkEntries r
def uptoBulkEntry {H : Type} : Lit × DataW H → Nat
  | (.string bytes, d) => bytes.length + uptoBulk d + 1
  | (_, d) => uptoBulk d + 1
 end
def uptoSmall : (H : Type) → List (DataW H) → Bool := fun _ ds => decide (uptoBulkAll ds ≤ 1048576)
def OpenSpec.upto (s : _root_.Go.ChangeSpec) : _root_.Go.OpenSpec := { _root_.Go.OpenSpec.ofChange s with cond := some uptoSmall }

/-- 'backstitchkeep2.IrAhead', WHERE WHAT IT READS IS OF BULK AT MOST 1048576: true; the input reads as it did. -/
def irAheadUptoRow : OpenClaim := { program := "ytmccomeihnaanaadoor", sum := "2178f3b9d1e26c1d32306d97003aae1aa1ce7b6faa355a24ab7f591af0cc698d", func := "backstitch/backstitchkeep2.IrAhead", spec := "irAhead", inPlace := ["math.Float64frombits"], unfollowed := true, recurses := true, named := ["strings.asciiSpace", "unicode.White_Space"], plainKeys := false, apart := false, laid := [("unicode.White_Space", laid_unicode_White_Space), ("strings.asciiSpace", laid_strings_asciiSpace)], narrowed := true }
def IrAheadUptoSaid : Prop := irAheadUptoRow.holds Tryd.pinned (OpenSpec.upto irAheadSpec)

/-- 'backstitchkeep2.IrKindLater', WHERE WHAT IT READS IS OF BULK AT MOST 1048576: true; the input reads as it did. -/
def irKindLaterUptoRow : OpenClaim := { program := "ytmccomeihnaanaadoor", sum := "2178f3b9d1e26c1d32306d97003aae1aa1ce7b6faa355a24ab7f591af0cc698d", func := "backstitch/backstitchkeep2.IrKindLater", spec := "irKindLater", inPlace := ["math.Float64frombits"], unfollowed := true, recurses := true, named := ["strings.asciiSpace", "unicode.White_Space"], plainKeys := false, apart := false, laid := [("unicode.White_Space", laid_unicode_White_Space), ("strings.asciiSpace", laid_strings_asciiSpace)], narrowed := true }
def IrKindLaterUptoSaid : Prop := irKindLaterUptoRow.holds Tryd.pinned (OpenSpec.upto irKindLaterSpec)

/-- 'backstitchkeep2.IrCutNone', WHERE WHAT IT READS IS OF BULK AT MOST 1048576: true; the input reads as it did. -/
def irCutNoneUptoRow : OpenClaim := { program := "ytmccomeihnaanaadoor", sum := "2178f3b9d1e26c1d32306d97003aae1aa1ce7b6faa355a24ab7f591af0cc698d", func := "backstitch/backstitchkeep2.IrCutNone", spec := "irCutNone", inPlace := ["math.Float64frombits"], unfollowed := true, recurses := true, named := ["strings.asciiSpace", "unicode.White_Space"], plainKeys := false, apart := false, laid := [("unicode.White_Space", laid_unicode_White_Space), ("strings.asciiSpace", laid_strings_asciiSpace)], narrowed := true }
def IrCutNoneUptoSaid : Prop := irCutNoneUptoRow.holds Tryd.pinned (OpenSpec.upto irCutNoneSpec)

/-- 'backstitchkeep2.CseNone', WHERE WHAT IT READS IS OF BULK AT MOST 1048576: true; the input reads as it did. -/
def cseNoneUptoRow : OpenClaim := { program := "ytmccomeihnaanaadoor", sum := "2178f3b9d1e26c1d32306d97003aae1aa1ce7b6faa355a24ab7f591af0cc698d", func := "backstitch/backstitchkeep2.CseNone", spec := "cseNone", inPlace := ["math.Float64frombits"], unfollowed := true, recurses := true, named := ["strings.asciiSpace", "unicode.White_Space"], plainKeys := false, apart := false, laid := [("unicode.White_Space", laid_unicode_White_Space), ("strings.asciiSpace", laid_strings_asciiSpace)], narrowed := true }
def CseNoneUptoSaid : Prop := cseNoneUptoRow.holds Tryd.pinned (OpenSpec.upto cseNoneSpec)

/-- 'backstitchkeep2.DeadNone', WHERE WHAT IT READS IS OF BULK AT MOST 1048576: true; the input reads as it did. -/
def deadNoneUptoRow : OpenClaim := { program := "ytmccomeihnaanaadoor", sum := "2178f3b9d1e26c1d32306d97003aae1aa1ce7b6faa355a24ab7f591af0cc698d", func := "backstitch/backstitchkeep2.DeadNone", spec := "deadNone", inPlace := ["math.Float64frombits"], unfollowed := true, recurses := true, named := ["strings.asciiSpace", "unicode.White_Space"], plainKeys := false, apart := false, laid := [("unicode.White_Space", laid_unicode_White_Space), ("strings.asciiSpace", laid_strings_asciiSpace)], narrowed := true }
def DeadNoneUptoSaid : Prop := deadNoneUptoRow.holds Tryd.pinned (OpenSpec.upto deadNoneSpec)

/-- 'backstitchkeep2.PeelHead', WHERE WHAT IT READS IS OF BULK AT MOST 1048576: true; the input reads as it did. -/
def peelHeadUptoRow : OpenClaim := { program := "ytmccomeihnaanaadoor", sum := "2178f3b9d1e26c1d32306d97003aae1aa1ce7b6faa355a24ab7f591af0cc698d", func := "backstitch/backstitchkeep2.PeelHead", spec := "peelHead", inPlace := ["math.Float64frombits"], unfollowed := true, recurses := true, named := ["strings.asciiSpace", "unicode.White_Space"], plainKeys := false, apart := false, laid := [("unicode.White_Space", laid_unicode_White_Space), ("strings.asciiSpace", laid_strings_asciiSpace)], narrowed := true }
def PeelHeadUptoSaid : Prop := peelHeadUptoRow.holds Tryd.pinned (OpenSpec.upto peelHeadSpec)

/-- 'backstitchkeep2.SpanLater', WHERE WHAT IT READS IS OF BULK AT MOST 1048576: true; the input reads as it did. -/
def spanLaterUptoRow : OpenClaim := { program := "ytmccomeihnaanaadoor", sum := "2178f3b9d1e26c1d32306d97003aae1aa1ce7b6faa355a24ab7f591af0cc698d", func := "backstitch/backstitchkeep2.SpanLater", spec := "spanLater", inPlace := ["math.Float64frombits"], unfollowed := true, recurses := true, named := ["strings.asciiSpace", "unicode.White_Space"], plainKeys := false, apart := false, laid := [("unicode.White_Space", laid_unicode_White_Space), ("strings.asciiSpace", laid_strings_asciiSpace)], narrowed := true }
def SpanLaterUptoSaid : Prop := spanLaterUptoRow.holds Tryd.pinned (OpenSpec.upto spanLaterSpec)

/-- 'backstitchkeep2.FactsTwice', WHERE WHAT IT READS IS OF BULK AT MOST 1048576: true; the input reads as it did. -/
def factsTwiceUptoRow : OpenClaim := { program := "ytmccomeihnaanaadoor", sum := "2178f3b9d1e26c1d32306d97003aae1aa1ce7b6faa355a24ab7f591af0cc698d", func := "backstitch/backstitchkeep2.FactsTwice", spec := "factsTwice", inPlace := ["math.Float64frombits"], unfollowed := true, recurses := true, named := ["strings.asciiSpace", "unicode.White_Space"], plainKeys := false, apart := false, laid := [("unicode.White_Space", laid_unicode_White_Space), ("strings.asciiSpace", laid_strings_asciiSpace)], narrowed := true }
def FactsTwiceUptoSaid : Prop := factsTwiceUptoRow.holds Tryd.pinned (OpenSpec.upto factsTwiceSpec)

/-- 'backstitchkeep2.SpanTwice', WHERE WHAT IT READS IS OF BULK AT MOST 1048576: true; the input reads as it did. -/
def spanTwiceUptoRow : OpenClaim := { program := "ytmccomeihnaanaadoor", sum := "2178f3b9d1e26c1d32306d97003aae1aa1ce7b6faa355a24ab7f591af0cc698d", func := "backstitch/backstitchkeep2.SpanTwice", spec := "spanTwice", inPlace := ["math.Float64frombits"], unfollowed := true, recurses := true, named := ["strings.asciiSpace", "unicode.White_Space"], plainKeys := false, apart := false, laid := [("unicode.White_Space", laid_unicode_White_Space), ("strings.asciiSpace", laid_strings_asciiSpace)], narrowed := true }
def SpanTwiceUptoSaid : Prop := spanTwiceUptoRow.holds Tryd.pinned (OpenSpec.upto spanTwiceSpec)

/-- 'backstitchkeep2.FoldNone', WHERE WHAT IT READS IS OF BULK AT MOST 1048576: true; the input reads as it did. -/
def foldNoneUptoRow : OpenClaim := { program := "ytmccomeihnaanaadoor", sum := "2178f3b9d1e26c1d32306d97003aae1aa1ce7b6faa355a24ab7f591af0cc698d", func := "backstitch/backstitchkeep2.FoldNone", spec := "foldNone", inPlace := ["math.Float64frombits", "math.Float64bits"], unfollowed := true, recurses := true, named := ["strings.asciiSpace", "unicode.White_Space"], plainKeys := false, apart := false, laid := [("unicode.White_Space", laid_unicode_White_Space), ("strings.asciiSpace", laid_strings_asciiSpace)], narrowed := true }
def FoldNoneUptoSaid : Prop := foldNoneUptoRow.holds Tryd.pinned (OpenSpec.upto foldNoneSpec)

end Rows
end Go.Proofs.YtmccomeihnaanaaDoor
