/- SinkKept: on every input the call returns true and leaves what there was as it was. Conditions: the statement's own (the library's tables as the program lays them). -/
import Derived.Test.YtlnkjmgfkpeicaaGreatDoorCards
import Derived.Test.YtlnkjmgfkpeicaaGreatDoorTie
import Derived.Test.YtlnkjmgfkpeicaaGreatDoorLaw
import Derived.Test.YtlnkjmgfkpeicaaGreatDoorOpenP
import Derived.Test.YtlnkjmgfkpeicaaGreatDoorSink
import Derived.ProofKit
import Derived.OpenShut
import Derived.Deep.DeepHandedRow
import Derived.Lib.LaidTab
import Derived.WalkSmall
import Derived.LaidSub
import Derived.MakeChecks
set_option linter.all false
namespace Go.Proofs.YtlnkjmgfkpeicaaGreatDoor.sinkKept
open Go.ChangeShapes Go.WideShapes Go.ChangeAt Go.RowKit Go.Lib
set_option linter.unusedVariables false

theorem own : ownKnob Tryz.prog.godebug = none := by kernel_rfl
theorem laidOut : laidOutB Tryz.prog = true := by kernel_rfl
theorem table {W : World} (h : laidMetH Tryz.prog Rows.sinkKeptRow.laid W) : Tab W := by
  have h1 := (MakeChecks.laidMetH_plain Tryz.prog Rows.sinkKeptRow.laid W (by kernel_rfl)).mp h
  have h2 := laidMet.filter (fun x => x.1 == "strings.asciiSpace") h1
  have e : Rows.sinkKeptRow.laid.filter (fun x => x.1 == "strings.asciiSpace") = [("strings.asciiSpace", tabData .u8 asciiSpaceTab)] := by kernel_rfl
  rw [e] at h2
  exact tabIs_of_head (rest := []) gTab gTabType Tryz.underlying156 Tryz.underlying5 cellsU8 cellsT256 h2

set_option maxRecDepth 100000 in
theorem contract (H : Type) (enc : TypeId × Value → H) (W : World) (base : Nat) (args : Array Value) (ds gs : List (DataW H)) (before : List MemPlace)
    (hval : ∀ (j : Nat) t v, Tryz.f3.params[j]? = some t → args[j]? = some v → Value.okWide Tryz.prog W .any base t v)
    (hW : DataW.Whole enc Tryz.prog Tryz.f3.params.toList Rows.sinkKeptSpec.vars false W args.toList ds gs before) (hL : laidMetH Tryz.prog Rows.sinkKeptRow.laid W) :
    Calls Tryz.prog 3 args W fun e W' => ∃ v, e = .returned v ∧ Rows.sinkKeptSpec.post enc Tryz.prog Tryz.f3 false true false false W args v W' := by
  have hW' := hW
  obtain ⟨p, q, hA0, hV, rfl, hfz, hnd⟩ := hW
  have hA : DataW.TrodAll enc Tryz.prog W 0 (fun _ => true) true Tryz.f3.params.toList args.toList ds p := hA0
  rw [Tryz.params3] at hA hval
  obtain ⟨v0, vs0, d0, ds0, p0, q0, hargs, rfl, rfl, h0, r0⟩ := trodAll_cons hA
  obtain ⟨v1, vs1, d1, ds1, p1, q1, rfl, rfl, rfl, h1, r1⟩ := trodAll_cons r0
  obtain ⟨rfl, rfl, rfl⟩ := trodAll_nil r1
  obtain rfl : args = #[v0, v1] := by cases args; simp_all
  obtain ⟨rfl, rfl⟩ := trodVars_none hV
  obtain ⟨c0, x0, rfl, g0⟩ := open_prog (hval 0 26 v0 rfl rfl) h0
  obtain ⟨c1, x1, rfl, g1⟩ := open_trace (hval 1 34 v1 rfl rfl) h1
  have tb := table hL
  refine (sinkKept_walk c0 c1 x0 x1 W g0 g1 tb).mono fun e W' ⟨he, hbl⟩ => ⟨_, he, law_post laidOut rfl (by kernel_rfl) Tryz.underlying4 ?_ hW' ⟨rfl, rfl, rfl⟩ hbl⟩
  rw [Tryz.params3]
  intro t ht
  simp at ht
  rcases ht with rfl | rfl
  · exact ⟨by kernel_rfl, of_decide_eq_true (by kernel_rfl)⟩
  · exact ⟨by kernel_rfl, of_decide_eq_true (by kernel_rfl)⟩

theorem laid_met (os : Os) : laidMet Tryz.prog Rows.sinkKeptRow.laid ((laidWorld os).forCall (fun _ _ => 0) ⟨#[], #[nilProg, nilTrace], []⟩).memory :=
  laidMet_of_run3 10 (by kernel_rfl) (by kernel_rfl) (by kernel_rfl)
theorem reads (os : Os) {H : Type} (enc : TypeId × Value → H) : ∃ places, DataW.whole enc Tryz.prog ((laidWorld os).forCall (fun _ _ => 0) ⟨#[], #[nilProg, nilTrace], []⟩).memory Tryz.f3.params.toList Rows.sinkKeptSpec.vars false (#[nilProg, nilTrace] : Array Value).toList 8 = some ([nilProgD, nilTraceD], [], places) :=
  ⟨[], by kernel_rfl⟩
theorem laid_metH (os : Os) : laidMetH Tryz.prog Rows.sinkKeptRow.laid ((laidWorld os).forCall (fun _ _ => 0) ⟨#[], #[nilProg, nilTrace], []⟩).memory :=
  (MakeChecks.laidMetH_plain Tryz.prog Rows.sinkKeptRow.laid _ (by kernel_rfl)).mpr (laid_met os)

set_option maxRecDepth 100000 in
theorem lifted (os : Os) (started : os.Started) (H : Type) (enc : TypeId × Value → H) (F : Stop.Interp) :
    ReturnsInHanded {} Tryz.checked os 3 .any ((OpenSpec.ofChange Rows.sinkKeptSpec).preRow enc Tryz.prog Tryz.f3 Rows.sinkKeptRow.domain false Rows.sinkKeptRow.laid) (((OpenSpec.ofChange Rows.sinkKeptSpec).at F).post enc Tryz.prog Tryz.f3 false true false false) := by
  obtain ⟨places, hx⟩ := reads os enc
  refine returnsInHanded_of_row (C := Tryz.checked) (s := OpenSpec.ofChange Rows.sinkKeptSpec) own started (by kernel_rfl) Tryz.func3
    (witness_row_atRef (enc := enc) (C := Tryz.checked) false (laidWorld os) #[nilProg, nilTrace] rfl (by kernel_rfl) (by kernel_rfl) (by kernel_rfl)
      (OpenSpec.preRow_of_cond 8 hx (by kernel_rfl) (fun k hk => by cases hk) (by kernel_rfl) (laid_metH os))) ?_
  intro W base args ds gs before hval hW _ _ _ hL _ _
  exact contract H enc W base args ds gs before hval hW hL

set_option maxHeartbeats 16000000 in
theorem closedF : joinedFacts Tryz.pinned.checked.prog 3 Tryz.f3 (OpenSpec.ofChange Rows.sinkKeptSpec).bare Rows.sinkKeptRow = true := by
  unfold joinedFacts
  simp only [Bool.and_eq_true]
  repeat' apply And.intro
  all_goals (as_aux_lemma => kernel_rfl)
theorem said : Rows.SinkKeptSaid :=
  OpenClaim.holds_of_cond 3 Tryz.f3 rfl rfl rfl rfl rfl rfl rfl ⟨rfl, rfl, rfl, rfl, rfl⟩ rfl rfl rfl rfl rfl (by as_aux_lemma => kernel_rfl) Tryz.func3 closedF
    (of_decide_eq_true (by kernel_rfl)) (by unfold Func.isWrapper; first | (rw [if_pos (by decide +kernel)]; kernel_rfl) | (rw [if_neg (by decide +kernel)]; exact ⟨rfl, rfl⟩))
    (fun os started H enc _ F => by rw [OpenClaim.pre_eq_preRow]; exact lifted os started H enc F)

theorem plain (f : FuncId) (fn : Func) (hf : Tryz.pinned.checked.prog.funcNamed "backstitch/backstitchkeep2.SinkKept" = some f) (hfn : Tryz.pinned.checked.prog.funcs[f]? = some fn) :
    false = Tryz.pinned.checked.prog.looks [] ∧ ∀ (j : Nat) t, fn.params[j]? = some t → Tryz.pinned.checked.prog.wantsStandIn t = false := by
  obtain rfl : f = 3 := Option.some.inj ((show Tryz.prog.funcNamed "backstitch/backstitchkeep2.SinkKept" = some 3 by kernel_rfl).symm.trans hf) |>.symm
  obtain rfl : fn = Tryz.f3 := (Option.some.inj (Tryz.func3.symm.trans hfn)).symm
  refine ⟨by kernel_rfl, fun j t ht => ?_⟩
  rw [Tryz.params3] at ht
  have hm := Array.mem_of_getElem? ht
  simp at hm
  rcases hm with rfl | rfl
  · exact (show Tryz.prog.wantsStandIn 26 = false by kernel_rfl)
  · exact (show Tryz.prog.wantsStandIn 34 = false by kernel_rfl)

/-- The statement. -/
theorem proved : Rows.SinkKeptCardSaid :=
  Claim7.holds_tied_plain_at .later [] _ _ _ _ said (fun _ h => by cases h) (by kernel_rfl) (fun _ h => by cases h) sinkKept_row_tie rfl ⟨rfl, rfl⟩ (by kernel_rfl) rfl plain (by kernel_rfl)
#print axioms proved
end Go.Proofs.YtlnkjmgfkpeicaaGreatDoor.sinkKept
