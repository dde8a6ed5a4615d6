/-
  No cell of these rows narrows 'for every input' (looked for: loops, veiled, ifaces, maps, wideKeys, modest, calm, conditions, laid).
  DERIVED. THE GIVEN ROWS OF THIS SEAT. 4 by the template 'for every input the law returns true; each argument reads behind the call as it read before'; 0 by the template 'total and deterministic' (their statements: YtdcikaenepnliaaTotals.lean).
  GIVEN WITH THE SEED: the statements are not yours to turn. If you find one false, say at which input.
  Laid BY PROGRAM, IN A SANDBOX (cutbox-rows.mjs): the forced cells as the released guide's own fill.sh prints them over the translation 6993904966674ee8… (all of the seat's roots in one cut). By AI agents, Wed Nov 11 2026. No macro, syntax, notation, axiom, sorry.
-/
import Derived.Test.YtdcikaenepnliaaChecked
import GoSem.Claim
import GoSem.ClaimJoined
import GoSem.ClaimMapViews
import Derived.JoinedTies
import Derived.KernelRfl
namespace Go.Proofs.Ytdcikaenepnliaa
/- THE CELL 'sum', in the pinned program and in every row, IS THE sha256 OF THE DUMP (.gsa) THAT YtdcikaenepnliaaProg.lean LOADS. Nothing in Lean hashes anything: it is a label: what it is worth is what the hold of that sum in a sandbox is worth. -/
noncomputable def Try.pinned : Pinned := { name := "ytdcikaenepnliaa", sum := "6993904966674ee85c0ca5e375ec2429ed867c8455f0ba324104897de38a15cf", checked := Try.checked }
namespace Rows
def none {H : Type} : Left H := { results := [], args := [] }

/-- 'backstitchkeep2.HeatBounded': WHATEVER THE INPUT: true; the input reads as it did. -/
def heatBoundedSpec : ChangeSpec := { name := "heatBounded", fn := fun _ => fun
  | [d1, d2] => { results := [.lit (.bool true)], args := [d1, d2] }
  | _ => none }
def heatBoundedRow : OpenClaim := { program := "ytdcikaenepnliaa", sum := "6993904966674ee85c0ca5e375ec2429ed867c8455f0ba324104897de38a15cf", func := "backstitch/backstitchkeep2.HeatBounded", spec := "heatBounded", plainKeys := false, apart := false }
def HeatBoundedSaid : Prop := heatBoundedRow.holds Try.pinned (OpenSpec.ofChange heatBoundedSpec)

/-- ITS FALSE NEIGHBOUR: 'it returns false'. Refute it at one input. -/
def heatBoundedWrong : ChangeSpec := { name := "heatBounded", fn := fun _ => fun
  | [d1, d2] => { results := [.lit (.bool false)], args := [d1, d2] }
  | _ => none }
def HeatBoundedWrongFalsely : Prop := heatBoundedRow.holds Try.pinned (OpenSpec.ofChange heatBoundedWrong)

/-- 'backstitchkeep2.HeatApart': WHATEVER THE INPUT: true; the input reads as it did. -/
def heatApartSpec : ChangeSpec := { name := "heatApart", fn := fun _ => fun
  | [d1, d2] => { results := [.lit (.bool true)], args := [d1, d2] }
  | _ => none }
def heatApartRow : OpenClaim := { program := "ytdcikaenepnliaa", sum := "6993904966674ee85c0ca5e375ec2429ed867c8455f0ba324104897de38a15cf", func := "backstitch/backstitchkeep2.HeatApart", spec := "heatApart", plainKeys := false, apart := false }
def HeatApartSaid : Prop := heatApartRow.holds Try.pinned (OpenSpec.ofChange heatApartSpec)

/-- ITS FALSE NEIGHBOUR: 'it returns false'. Refute it at one input. -/
def heatApartWrong : ChangeSpec := { name := "heatApart", fn := fun _ => fun
  | [d1, d2] => { results := [.lit (.bool false)], args := [d1, d2] }
  | _ => none }
def HeatApartWrongFalsely : Prop := heatApartRow.holds Try.pinned (OpenSpec.ofChange heatApartWrong)

/-- 'backstitchkeep2.AliasEither': WHATEVER THE INPUT: true; the input reads as it did. -/
def aliasEitherSpec : ChangeSpec := { name := "aliasEither", fn := fun _ => fun
  | [d1, d2, d3] => { results := [.lit (.bool true)], args := [d1, d2, d3] }
  | _ => none }
def aliasEitherRow : OpenClaim := { program := "ytdcikaenepnliaa", sum := "6993904966674ee85c0ca5e375ec2429ed867c8455f0ba324104897de38a15cf", func := "backstitch/backstitchkeep2.AliasEither", spec := "aliasEither", plainKeys := false, apart := false }
def AliasEitherSaid : Prop := aliasEitherRow.holds Try.pinned (OpenSpec.ofChange aliasEitherSpec)

/-- ITS FALSE NEIGHBOUR: 'it returns false'. Refute it at one input. -/
def aliasEitherWrong : ChangeSpec := { name := "aliasEither", fn := fun _ => fun
  | [d1, d2, d3] => { results := [.lit (.bool false)], args := [d1, d2, d3] }
  | _ => none }
def AliasEitherWrongFalsely : Prop := aliasEitherRow.holds Try.pinned (OpenSpec.ofChange aliasEitherWrong)

/-- 'backstitchkeep2.HeatSorted': WHATEVER THE INPUT: true; the input reads as it did. -/
def heatSortedSpec : ChangeSpec := { name := "heatSorted", fn := fun _ => fun
  | [d1, d2] => { results := [.lit (.bool true)], args := [d1, d2] }
  | _ => none }
def heatSortedRow : OpenClaim := { program := "ytdcikaenepnliaa", sum := "6993904966674ee85c0ca5e375ec2429ed867c8455f0ba324104897de38a15cf", func := "backstitch/backstitchkeep2.HeatSorted", spec := "heatSorted", unfollowed := true, recurses := true, plainKeys := false, apart := false }
def HeatSortedSaid : Prop := heatSortedRow.holds Try.pinned (OpenSpec.ofChange heatSortedSpec)

/-- ITS FALSE NEIGHBOUR: 'it returns false'. Refute it at one input. -/
def heatSortedWrong : ChangeSpec := { name := "heatSorted", fn := fun _ => fun
  | [d1, d2] => { results := [.lit (.bool false)], args := [d1, d2] }
  | _ => none }
def HeatSortedWrongFalsely : Prop := heatSortedRow.holds Try.pinned (OpenSpec.ofChange heatSortedWrong)

/- THE SECOND FORM. 'bulk': how many values and letters a reading holds, each counted each time it is reached (what is shared counts as often as it is met; a slice's spare places count too). A statement '..UptoSaid' is the law's where the arguments, and the package variables that the reading takes, are together of bulk at most 1048576: NARROWER than '..Said'. Prove '..Said' where nothing that the law and all that it calls make is longer than what came in: it says more and counts as full. Else prove '..UptoSaid'. A law counts once. -/
mutual
def uptoBulk {H : Type} : DataW H → Nat
  | .lit (.string bytes) => bytes.length + 1
  | .lit _ => 1
  | .nil => 1
  | .ptr d => uptoBulk d + 1
  | .slice elems spare => uptoBulkAll elems + uptoBulkAll spare + 1
  | .agg parts => uptoBulkAll parts + 1
  | .iface _ d => uptoBulk d + 1
  | .map entries => uptoBulkEntries entries + 1
  | .held _ => 1
def uptoBulkAll {H : Type} : List (DataW H) → Nat
  | [] => 0
  | d :: r => uptoBulk d + uptoBulkAll r
def uptoBulkEntries {H : Type} : List (Lit × DataW H) → Nat
  | [] => 0
  | x :: r => uptoBulkEntry x + uptoBulkEntries r
def uptoBulkEntry {H : Type} : Lit × DataW H → Nat
  | (.string bytes, d) => bytes.length + uptoBulk d + 1
  | (_, d) => uptoBulk d + 1
 end
def uptoSmall : (H : Type) → List (DataW H) → Bool := fun _ ds => decide (uptoBulkAll ds ≤ 1048576)
def OpenSpec.upto (s : _root_.Go.ChangeSpec) : _root_.Go.OpenSpec := { _root_.Go.OpenSpec.ofChange s with cond := some uptoSmall }

/-- 'backstitchkeep2.HeatBounded', WHERE WHAT IT READS IS OF BULK AT MOST 1048576: true; the input reads as it did. -/
def heatBoundedUptoRow : OpenClaim := { program := "ytdcikaenepnliaa", sum := "6993904966674ee85c0ca5e375ec2429ed867c8455f0ba324104897de38a15cf", func := "backstitch/backstitchkeep2.HeatBounded", spec := "heatBounded", plainKeys := false, apart := false, narrowed := true }
def HeatBoundedUptoSaid : Prop := heatBoundedUptoRow.holds Try.pinned (OpenSpec.upto heatBoundedSpec)

/-- 'backstitchkeep2.HeatApart', WHERE WHAT IT READS IS OF BULK AT MOST 1048576: true; the input reads as it did. -/
def heatApartUptoRow : OpenClaim := { program := "ytdcikaenepnliaa", sum := "6993904966674ee85c0ca5e375ec2429ed867c8455f0ba324104897de38a15cf", func := "backstitch/backstitchkeep2.HeatApart", spec := "heatApart", plainKeys := false, apart := false, narrowed := true }
def HeatApartUptoSaid : Prop := heatApartUptoRow.holds Try.pinned (OpenSpec.upto heatApartSpec)

/-- 'backstitchkeep2.AliasEither', WHERE WHAT IT READS IS OF BULK AT MOST 1048576: true; the input reads as it did. -/
def aliasEitherUptoRow : OpenClaim := { program := "ytdcikaenepnliaa", sum := "6993904966674ee85c0ca5e375ec2429ed867c8455f0ba324104897de38a15cf", func := "backstitch/backstitchkeep2.AliasEither", spec := "aliasEither", plainKeys := false, apart := false, narrowed := true }
def AliasEitherUptoSaid : Prop := aliasEitherUptoRow.holds Try.pinned (OpenSpec.upto aliasEitherSpec)

/-- 'backstitchkeep2.HeatSorted', WHERE WHAT IT READS IS OF BULK AT MOST 1048576: true; the input reads as it did. -/
def heatSortedUptoRow : OpenClaim := { program := "ytdcikaenepnliaa", sum := "6993904966674ee85c0ca5e375ec2429ed867c8455f0ba324104897de38a15cf", func := "backstitch/backstitchkeep2.HeatSorted", spec := "heatSorted", unfollowed := true, recurses := true, plainKeys := false, apart := false, narrowed := true }
def HeatSortedUptoSaid : Prop := heatSortedUptoRow.holds Try.pinned (OpenSpec.upto heatSortedSpec)

end Rows
end Go.Proofs.Ytdcikaenepnliaa
