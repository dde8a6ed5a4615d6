/- FoldSame: on every input the call returns true and leaves what there was as it was. Conditions: the statement's own (the library's tables as the program lays them). -/
import Derived.Test.YtijihlcdhppfgaaGreatDoorCards
import Derived.Test.YtijihlcdhppfgaaGreatDoorTie
import Derived.Test.YtijihlcdhppfgaaGreatDoorZCJ
import Derived.Test.YtijihlcdhppfgaaGreatDoorZC
import Derived.Test.YtijihlcdhppfgaaGreatDoorZD
import Derived.Test.YtijihlcdhppfgaaGreatDoorXO
import Derived.ProofKit
import Derived.OpenShut
import Derived.Deep.DeepHandedRow
import Derived.Lib.LaidTab
import Derived.WalkSmall
import Derived.LaidSub
import Derived.MakeChecks
set_option linter.all false
namespace Go.Proofs.YtijihlcdhppfgaaGreatDoor.foldSame
open Go.ChangeShapes Go.WideShapes Go.ChangeAt Go.RowKit Go.Lib
set_option linter.unusedVariables false
def nilState : Value := .agg #[.slice none 0 0, .slice none 0 0, .slice none 0 0, .slice none 0 0, .slice none 0 0, .slice none 0 0, .int .i64 0, .int .i64 0]
def nilStateD {H : Type} : DataW H := .agg [.nil, .nil, .nil, .nil, .nil, .nil, .lit (.int .i64 0), .lit (.int .i64 0)]
theorem own : ownKnob Tryz.prog.godebug = none := by kernel_rfl
theorem laidOut : laidOutB Tryz.prog = true := by kernel_rfl
theorem table {W : World} (h : laidMetH Tryz.prog Rows.foldSameRow.laid W) : Tab W := by
 have h1 := (MakeChecks.laidMetH_plain Tryz.prog Rows.foldSameRow.laid W (by kernel_rfl)).mp h
 have h2 := laidMet.filter (fun x => x.1 == "strings.asciiSpace") h1
 have e : Rows.foldSameRow.laid.filter (fun x => x.1 == "strings.asciiSpace") = [("strings.asciiSpace", tabData .u8 asciiSpaceTab)] := by kernel_rfl
 rw [e] at h2
 exact tabIs_of_head (rest := []) gTab gTabType Tryz.underlying300 Tryz.underlying5 cellsU8 cellsT256 h2
set_option maxRecDepth 100000 in
theorem contract (H : Type) (enc : TypeId × Value → H) (W : World) (base : Nat) (args : Array Value) (ds gs : List (DataW H)) (before : List MemPlace)
  (hval : ∀ (j : Nat) t v, Tryz.f8.params[j]? = some t → args[j]? = some v → Value.okWide Tryz.prog W .any base t v)
  (hW : DataW.Whole enc Tryz.prog Tryz.f8.params.toList Rows.foldSameSpec.vars false W args.toList ds gs before) (hL : laidMetH Tryz.prog Rows.foldSameRow.laid W) :
  Calls Tryz.prog 8 args W fun e W' => ∃ v, e = .returned v ∧ Rows.foldSameSpec.post enc Tryz.prog Tryz.f8 false true false false W args v W' := by
 have hW' := hW
 obtain ⟨p, q, hA0, hV, rfl, hfz, hnd⟩ := hW
 have hA : DataW.TrodAll enc Tryz.prog W 0 (fun _ => true) true Tryz.f8.params.toList args.toList ds p := hA0
 rw [Tryz.params8] at hA hval
 obtain ⟨v0, vs0, d0, ds0, p0, q0, hargs, rfl, rfl, h0, r0⟩ := trodAll_cons hA
 obtain ⟨v1, vs1, d1, ds1, p1, q1, rfl, rfl, rfl, h1, r1⟩ := trodAll_cons r0
 obtain ⟨v2, vs2, d2, ds2, p2, q2, rfl, rfl, rfl, h2, r2⟩ := trodAll_cons r1
 obtain ⟨v3, vs3, d3, ds3, p3, q3, rfl, rfl, rfl, h3, r3⟩ := trodAll_cons r2
 obtain ⟨v4, vs4, d4, ds4, p4, q4, rfl, rfl, rfl, h4, r4⟩ := trodAll_cons r3
 obtain ⟨rfl, rfl, rfl⟩ := trodAll_nil r4
 obtain rfl : args = #[v0, v1, v2, v3, v4] := by cases args; simp_all
 obtain ⟨rfl, rfl⟩ := trodVars_none hV
 obtain ⟨c0, x0, rfl, g0⟩ := open_prog (hval 0 26 v0 rfl rfl) h0
 obtain ⟨c1, x1, rfl, g1⟩ := open_trace (hval 1 34 v1 rfl rfl) h1
 obtain ⟨c2, x2, rfl, g2⟩ := open_state (hval 2 40 v2 rfl rfl) h2
 obtain ⟨x3, rfl, rfl, g03, g3⟩ := open_int Tryz.underlying3 (hval 3 3 v3 rfl rfl) h3
 obtain ⟨x4, rfl, rfl, g04, g4⟩ := open_int Tryz.underlying3 (hval 4 3 v4 rfl rfl) h4
 have tb := table hL
 refine (foldSame_walk c0 c1 c2 x0 x1 x2 x3 x4 W g0 g1 g2 (wfi_of g3) (wfi_of g4) tb).mono fun e W' ⟨he, hbl⟩ => ⟨_, he, law_post laidOut rfl (by kernel_rfl) Tryz.underlying4 ?_ hW' ⟨rfl, rfl, rfl⟩ hbl⟩
 rw [Tryz.params8]
 intro t ht
 simp at ht
 rcases ht with rfl | rfl | rfl | rfl
 · exact ⟨by kernel_rfl, of_decide_eq_true (by kernel_rfl)⟩
 · exact ⟨by kernel_rfl, of_decide_eq_true (by kernel_rfl)⟩
 · exact ⟨by kernel_rfl, of_decide_eq_true (by kernel_rfl)⟩
 · exact ⟨by kernel_rfl, of_decide_eq_true (by kernel_rfl)⟩
theorem laid_met (os : Os) : laidMet Tryz.prog Rows.foldSameRow.laid ((laidWorld os).forCall (fun _ _ => 0) ⟨#[], #[nilProg, nilTrace, nilState, .int .i64 0, .int .i64 0], []⟩).memory :=
 laidMet_of_run3 10 (by kernel_rfl) (by kernel_rfl) (by kernel_rfl)
theorem reads (os : Os) {H : Type} (enc : TypeId × Value → H) : ∃ places, DataW.whole enc Tryz.prog ((laidWorld os).forCall (fun _ _ => 0) ⟨#[], #[nilProg, nilTrace, nilState, .int .i64 0, .int .i64 0], []⟩).memory Tryz.f8.params.toList Rows.foldSameSpec.vars false (#[nilProg, nilTrace, nilState, .int .i64 0, .int .i64 0] : Array Value).toList 8 = some ([nilProgD, nilTraceD, nilStateD, .lit (.int .i64 0), .lit (.int .i64 0)], [], places) :=
 ⟨[], by kernel_rfl⟩
theorem laid_metH (os : Os) : laidMetH Tryz.prog Rows.foldSameRow.laid ((laidWorld os).forCall (fun _ _ => 0) ⟨#[], #[nilProg, nilTrace, nilState, .int .i64 0, .int .i64 0], []⟩).memory :=
 (MakeChecks.laidMetH_plain Tryz.prog Rows.foldSameRow.laid _ (by kernel_rfl)).mpr (laid_met os)
set_option maxRecDepth 100000 in
theorem lifted (os : Os) (started : os.Started) (H : Type) (enc : TypeId × Value → H) (F : Stop.Interp) :
  ReturnsInHanded {} Tryz.checked os 8 .any ((OpenSpec.ofChange Rows.foldSameSpec).preRow enc Tryz.prog Tryz.f8 Rows.foldSameRow.domain false Rows.foldSameRow.laid) (((OpenSpec.ofChange Rows.foldSameSpec).at F).post enc Tryz.prog Tryz.f8 false true false false) := by
 obtain ⟨places, hx⟩ := reads os enc
 refine returnsInHanded_of_row (C := Tryz.checked) (s := OpenSpec.ofChange Rows.foldSameSpec) own started (by kernel_rfl) Tryz.func8
  (witness_row_atRef (enc := enc) (C := Tryz.checked) false (laidWorld os) #[nilProg, nilTrace, nilState, .int .i64 0, .int .i64 0] rfl (by kernel_rfl) (by kernel_rfl) (by kernel_rfl)
   (OpenSpec.preRow_of_cond 8 hx (by kernel_rfl) (fun k hk => by cases hk) (by kernel_rfl) (laid_metH os))) ?_
 intro W base args ds gs before hval hW _ _ _ hL _ _
 exact contract H enc W base args ds gs before hval hW hL
set_option maxHeartbeats 16000000 in
theorem closedF : joinedFacts Tryz.pinned.checked.prog 8 Tryz.f8 (OpenSpec.ofChange Rows.foldSameSpec).bare Rows.foldSameRow = true := by
 unfold joinedFacts
 simp only [Bool.and_eq_true]
 repeat' apply And.intro
 all_goals (as_aux_lemma => kernel_rfl)
theorem said : Rows.FoldSameSaid :=
 OpenClaim.holds_of_cond 8 Tryz.f8 rfl rfl rfl rfl rfl rfl rfl ⟨rfl, rfl, rfl, rfl, rfl⟩ rfl rfl rfl rfl rfl (by as_aux_lemma => kernel_rfl) Tryz.func8 closedF
  (of_decide_eq_true (by kernel_rfl)) (by unfold Func.isWrapper; first | (rw [if_pos (by decide +kernel)]; kernel_rfl) | (rw [if_neg (by decide +kernel)]; exact ⟨rfl, rfl⟩))
  (fun os started H enc _ F => by rw [OpenClaim.pre_eq_preRow]; exact lifted os started H enc F)
theorem plain (f : FuncId) (fn : Func) (hf : Tryz.pinned.checked.prog.funcNamed "backstitch/backstitchkeep2.FoldSame" = some f) (hfn : Tryz.pinned.checked.prog.funcs[f]? = some fn) :
  false = Tryz.pinned.checked.prog.looks [] ∧ ∀ (j : Nat) t, fn.params[j]? = some t → Tryz.pinned.checked.prog.wantsStandIn t = false := by
 obtain rfl : f = 8 := Option.some.inj ((show Tryz.prog.funcNamed "backstitch/backstitchkeep2.FoldSame" = some 8 by kernel_rfl).symm.trans hf) |>.symm
 obtain rfl : fn = Tryz.f8 := (Option.some.inj (Tryz.func8.symm.trans hfn)).symm
 refine ⟨by kernel_rfl, fun j t ht => ?_⟩
 rw [Tryz.params8] at ht
 have hm := Array.mem_of_getElem? ht
 simp at hm
 rcases hm with rfl | rfl | rfl | rfl
 · exact (show Tryz.prog.wantsStandIn 26 = false by kernel_rfl)
 · exact (show Tryz.prog.wantsStandIn 34 = false by kernel_rfl)
 · exact (show Tryz.prog.wantsStandIn 40 = false by kernel_rfl)
 · exact (show Tryz.prog.wantsStandIn 3 = false by kernel_rfl)
/-- The statement. -/
theorem proved : Rows.FoldSameCardSaid :=
 Claim7.holds_tied_plain_at .later [] _ _ _ _ said (fun _ h => by cases h) (by kernel_rfl) (fun _ h => by cases h) foldSame_row_tie rfl ⟨rfl, rfl⟩ (by kernel_rfl) rfl plain (by kernel_rfl)
end Go.Proofs.YtijihlcdhppfgaaGreatDoor.foldSame
