/- IrToldUpto: of traces of bulk at most 1048576 the call returns true: two of one text are one. Conditions: the statement's own (the library's tables as the program lays them, the bound). -/
import Derived.Test.YtogpbgkafkalnaaDoorCards
import Derived.Test.YtogpbgkafkalnaaDoorTie
import Derived.Test.YtogpbgkafkalnaaDoorLaw
import Derived.Test.YtogpbgkafkalnaaDoorBulkT
import Derived.Test.YtogpbgkafkalnaaDoorToldW
import Derived.ProofKit
import Derived.OpenShut
import Derived.Deep.DeepHandedRow
import Derived.Lib.LaidTab
import Derived.WalkSmall
import Derived.LaidSub
import Derived.MakeChecks
namespace Go.Proofs.YtogpbgkafkalnaaDoor.irTold
open Go.ChangeShapes Go.WideShapes Go.ChangeAt Go.RowKit Go.Lib
set_option linter.unusedVariables false

theorem own : ownKnob Tryd.prog.godebug = none := by kernel_rfl
theorem laidOut : laidOutB Tryd.prog = true := by kernel_rfl
theorem gTab : Tryd.prog.globalNamed "internal/strconv.uint64pow10" = some 0 := by kernel_rfl
theorem gTabType : (Tryd.prog.globals[0]?).map (·.type) = some 84 := by kernel_rfl
theorem cellsT : Tryd.prog.cellsOf 84 = 20 := by kernel_rfl
theorem cellsE : Tryd.prog.cellsOf 77 = 1 := by kernel_rfl

theorem table {W : World} (h : laidMetH Tryd.prog Rows.irToldRow.laid W) : Tab W := by
  have h1 := (MakeChecks.laidMetH_plain Tryd.prog Rows.irToldRow.laid W (by kernel_rfl)).mp h
  have h2 := laidMet.filter (fun x => x.1 == "internal/strconv.uint64pow10") h1
  have e : Rows.irToldRow.laid.filter (fun x => x.1 == "internal/strconv.uint64pow10") = [("internal/strconv.uint64pow10", tabData .u64 pow10Tab)] := by kernel_rfl
  rw [e] at h2
  exact tabIs_of_head (rest := []) gTab gTabType Tryd.underlying84 Tryd.underlying77 cellsE cellsT h2
theorem table_on {W W' : World} (h : Tab W) (hb : Below W.heap.size W W') : Tab W' := by
  have hlt : 0 < W.heap.size := by
    have := h.cell gTab 0 (by decide)
    exact cell_lt this
  exact var?_below hb gTab hlt h

theorem contract (H : Type) (enc : TypeId × Value → H) (W : World) (base : Nat) (args : Array Value) (ds gs : List (DataW H)) (before : List MemPlace)
    (hval : ∀ (j : Nat) t v, Tryd.f3.params[j]? = some t → args[j]? = some v → Value.okWide Tryd.prog W .any base t v)
    (hW : DataW.Whole enc Tryd.prog Tryd.f3.params.toList Rows.irToldSpec.vars false W args.toList ds gs before) (hk : Rows.uptoSmall H (ds ++ gs) = true) (hL : laidMetH Tryd.prog Rows.irToldRow.laid W) :
    Calls Tryd.prog 3 args W fun e W' => ∃ v, e = .returned v ∧ Rows.irToldSpec.post enc Tryd.prog Tryd.f3 false true false false W args v W' := by
  have hW' := hW
  obtain ⟨p, q, hA0, hV, rfl, hfz, hnd⟩ := hW
  have hA : DataW.TrodAll enc Tryd.prog W 0 (fun _ => true) true Tryd.f3.params.toList args.toList ds p := hA0
  rw [Tryd.params3] at hA hval
  obtain ⟨v0, vs0, d0, ds0, p0, q0, hargs, rfl, rfl, h0, r0⟩ := trodAll_cons hA
  obtain ⟨v1, vs1, d1, ds1, p1, q1, rfl, rfl, rfl, h1, r1⟩ := trodAll_cons r0
  obtain ⟨rfl, rfl, rfl⟩ := trodAll_nil r1
  obtain rfl : args = #[v0, v1] := by cases args; simp_all
  obtain ⟨rfl, rfl⟩ := trodVars_none hV
  obtain ⟨ca, t, rfl, ht, st⟩ := open_trace_b (hval 0 29 v0 rfl rfl) h0
  obtain ⟨cb, u, rfl, hu, su⟩ := open_trace_b (hval 1 29 v1 rfl rfl) h1
  have hb : Rows.uptoBulkAll ([d0, d1] ++ []) ≤ 1048576 := of_decide_eq_true hk
  simp only [List.append_nil, Rows.uptoBulkAll] at hb
  have bt := trace_bound ht
  have bu := trace_bound hu
  have tb := table hL
  refine (told_walk ca cb t u W ht hu (by omega) (by omega) (fun w' k => table_on tb k)).mono fun e W' ⟨he, hbl⟩ => ⟨_, he, law_post laidOut rfl (by kernel_rfl) Tryd.underlying4 ?_ hW' ⟨rfl, rfl, rfl⟩ hbl⟩
  rw [Tryd.params3]
  intro t ht
  simp at ht
  subst ht
  exact ⟨by kernel_rfl, of_decide_eq_true (by kernel_rfl)⟩

/-- a table's cells, off its datum -/
def tabCells (d : DataW Unit) : Array Value := match d with
  | .agg ps => (ps.map fun | .lit l => l.value | _ => .nilIface).toArray
  | _ => #[]
def layIn (d : DataW Unit) : Obj → Obj
  | .cells _ t frozen => .cells (tabCells d) t frozen
  | o => o
noncomputable def laidWorld (os : Os) : World :=
  { World.holding Tryd.prog os ⟨#[], #[], []⟩ with heap := (((World.holding Tryd.prog os ⟨#[], #[], []⟩).heap.modify 0 (layIn Rows.laid_internal_strconv_uint64pow10)).modify 1 (layIn Rows.laid_math_bits_deBruijn32tab)).modify 2 (layIn Rows.laid_math_bits_deBruijn64tab) }
def nilTrace : Value := .agg #[.int .i64 0, .int .i64 0, .int .i64 0, .slice none 0 0, .slice none 0 0, .int .i64 0, .int .i64 0, .slice none 0 0, .slice none 0 0, .int .i64 0, .int .i64 0, .slice none 0 0, .slice none 0 0]
def nilExitD {H : Type} : DataW H := .agg [.lit (.int .i64 0), .lit (.int .i64 0), .nil, .nil]
def nilTraceD {H : Type} : DataW H := .agg [.lit (.int .i64 0), .lit (.int .i64 0), .lit (.int .i64 0), .nil, .nil, nilExitD, nilExitD]
theorem laid_met (os : Os) : laidMet Tryd.prog Rows.irToldRow.laid ((laidWorld os).forCall (fun _ _ => 0) ⟨#[], #[nilTrace, nilTrace], []⟩).memory :=
  laidMet_of_run' 8 (by kernel_rfl) (by kernel_rfl)
theorem reads (os : Os) {H : Type} (enc : TypeId × Value → H) : ∃ places, DataW.whole enc Tryd.prog ((laidWorld os).forCall (fun _ _ => 0) ⟨#[], #[nilTrace, nilTrace], []⟩).memory Tryd.f3.params.toList Rows.irToldSpec.vars false #[nilTrace, nilTrace].toList 8 = some ([nilTraceD, nilTraceD], [], places) :=
  ⟨[], by kernel_rfl⟩

set_option maxRecDepth 100000 in
theorem liftedUpto (os : Os) (started : os.Started) (H : Type) (enc : TypeId × Value → H) (F : Stop.Interp) :
    ReturnsInHanded {} Tryd.checked os 3 .any ((Rows.OpenSpec.upto Rows.irToldSpec).preRow enc Tryd.prog Tryd.f3 Rows.irToldUptoRow.domain false Rows.irToldUptoRow.laid) (((Rows.OpenSpec.upto Rows.irToldSpec).at F).post enc Tryd.prog Tryd.f3 false true false false) := by
  obtain ⟨places, hx⟩ := reads os enc
  refine returnsInHanded_of_row (C := Tryd.checked) (s := Rows.OpenSpec.upto Rows.irToldSpec) own started (by kernel_rfl) Tryd.func3
    (witness_row_at (enc := enc) (C := Tryd.checked) false (laidWorld os) #[nilTrace, nilTrace] rfl (by kernel_rfl) (by kernel_rfl) (by kernel_rfl)
      (OpenSpec.preRow_of_cond 8 hx (by kernel_rfl) (fun k hk => by cases hk; kernel_rfl) (by kernel_rfl) (laid_met os))) ?_
  intro W base args ds gs before hval hW _ hcond _ hL _ _
  exact contract H enc W base args ds gs before hval hW (hcond _ rfl) hL

theorem saidUpto : Rows.IrToldUptoSaid :=
  OpenClaim.holds_of_cond 3 Tryd.f3 rfl rfl rfl rfl rfl rfl rfl ⟨rfl, rfl, rfl, rfl, rfl⟩ rfl rfl rfl rfl rfl (by kernel_rfl) Tryd.func3 (by kernel_rfl)
    (of_decide_eq_true (by kernel_rfl)) (by unfold Func.isWrapper; first | (rw [if_pos (by decide +kernel)]; kernel_rfl) | (rw [if_neg (by decide +kernel)]; exact ⟨rfl, rfl⟩))
    (fun os started H enc _ F => by rw [OpenClaim.pre_eq_preRow]; exact liftedUpto os started H enc F)

theorem plain (f : FuncId) (fn : Func) (hf : Tryd.pinned.checked.prog.funcNamed "backstitch/backstitchkeep2.IrTold" = some f) (hfn : Tryd.pinned.checked.prog.funcs[f]? = some fn) :
    false = Tryd.pinned.checked.prog.looks [] ∧ ∀ (j : Nat) t, fn.params[j]? = some t → Tryd.pinned.checked.prog.wantsStandIn t = false := by
  obtain rfl : f = 3 := Option.some.inj ((show Tryd.prog.funcNamed "backstitch/backstitchkeep2.IrTold" = some 3 by kernel_rfl).symm.trans hf) |>.symm
  obtain rfl : fn = Tryd.f3 := (Option.some.inj (Tryd.func3.symm.trans hfn)).symm
  refine ⟨by kernel_rfl, fun j t ht => ?_⟩
  rw [Tryd.params3] at ht
  obtain rfl : t = 29 := by
    have := Array.mem_of_getElem? ht
    simpa using this
  exact (show Tryd.prog.wantsStandIn 29 = false by kernel_rfl)

/-- The statement. -/
theorem cardUpto : Rows.IrToldUptoCardSaid :=
  Claim7.holds_tied_plain_at .later [] _ _ _ _ saidUpto (fun _ h => by cases h) (by kernel_rfl) (fun _ h => by cases h) irToldUpto_row_tie rfl ⟨rfl, rfl⟩ (by kernel_rfl) rfl plain (by kernel_rfl)
#print axioms cardUpto
end Go.Proofs.YtogpbgkafkalnaaDoor.irTold
