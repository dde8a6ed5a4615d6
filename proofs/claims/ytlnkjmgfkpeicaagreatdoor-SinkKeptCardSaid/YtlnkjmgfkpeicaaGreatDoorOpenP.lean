/- Programs in memory: what a value of type api.Prog reads as. -/
import Derived.Test.YtlnkjmgfkpeicaaGreatDoorCodeA
import Derived.Test.YtlnkjmgfkpeicaaGreatDoorIrT
import Derived.Deep.DeepLaidRun
import Derived.Deep.DeepWitnessRowRef
import Derived.Lib.SpaceR
import Derived.Test.YtlnkjmgfkpeicaaGreatDoorWords
namespace Go.Proofs.YtlnkjmgfkpeicaaGreatDoor
open Go.ChangeShapes Go.WideShapes Go.ChangeAt Go.RowKit

section
variable {H : Type} {enc : TypeId × Value → H} {w : World} {spare : Nat → Bool} {held : Bool}
theorem cBool : Tryz.prog.cellsOf 4 = 1 := by kernel_rfl
theorem cStr : Tryz.prog.cellsOf 9 = 1 := by kernel_rfl
theorem cCIns : Tryz.prog.cellsOf 112 = 5 := by kernel_rfl
theorem cFn : Tryz.prog.cellsOf 57 = 5 := by kernel_rfl
theorem cProg : Tryz.prog.cellsOf 26 = 3 := by kernel_rfl
theorem cSCIns : Tryz.prog.cellsOf 55 = 1 := by kernel_rfl
theorem cSFn : Tryz.prog.cellsOf 22 = 1 := by kernel_rfl
theorem cSVal : Tryz.prog.cellsOf 23 = 1 := by kernel_rfl
theorem cSStr : Tryz.prog.cellsOf 24 = 1 := by kernel_rfl
set_option maxRecDepth 100000 in
theorem o_cins : Opens enc Tryz.prog w spare held 112 CInsR := by
  intro fuel cs x h
  have hl := opens_len Tryz.underlying112 h
  refine ⟨hl, ?_⟩
  rw [cCIns] at hl
  obtain ⟨a0, h0⟩ := opens_field Tryz.underlying112 h 0 _ rfl o_int
  obtain ⟨a1, h1⟩ := opens_field Tryz.underlying112 h 1 _ rfl o_int
  obtain ⟨a2, h2⟩ := opens_field Tryz.underlying112 h 2 _ rfl o_int
  obtain ⟨a3, h3⟩ := opens_field Tryz.underlying112 h 3 _ rfl o_int
  obtain ⟨a4, h4⟩ := opens_field Tryz.underlying112 h 4 _ rfl o_int
  match cs, hl with
  | [c0, c1, c2, c3, c4], _ =>
    simp only [List.getElem_toArray, List.getElem_cons_zero, List.getElem_cons_succ, cInt, IntR, List.drop_zero, List.take_succ_cons, List.take_zero, List.drop_succ_cons, List.cons.injEq, and_true] at h0 h1 h2 h3 h4
    obtain ⟨rfl, w0⟩ := h0
    obtain ⟨rfl, w1⟩ := h1
    obtain ⟨rfl, w2⟩ := h2
    obtain ⟨rfl, w3⟩ := h3
    obtain ⟨rfl, w4⟩ := h4
    exact ⟨⟨a0, a1, a2, a3, a4⟩, rfl, w0, w1, w2, w3, w4⟩
theorem o_cinss : Opens enc Tryz.prog w spare held 55 (fun cs (xs : List CIns) => ∃ v, cs = [v] ∧ SliceR w w.heap.size 5 CInsR v xs) := opens_slice Tryz.underlying55 cCIns (by decide) cSCIns o_cins
theorem o_bool : Opens enc Tryz.prog w spare held 4 BoolR := opens_bool Tryz.underlying4 cBool
theorem o_str : Opens enc Tryz.prog w spare held 9 StrR := opens_string Tryz.underlying9 cStr
set_option maxRecDepth 100000 in
theorem o_fn : Opens enc Tryz.prog w spare held 57 (FnR w w.heap.size) := by
  intro fuel cs x h
  have hl := opens_len Tryz.underlying57 h
  refine ⟨hl, ?_⟩
  rw [cFn] at hl
  obtain ⟨a0, h0⟩ := opens_field Tryz.underlying57 h 0 _ rfl o_int
  obtain ⟨a1, h1⟩ := opens_field Tryz.underlying57 h 1 _ rfl o_int
  obtain ⟨a2, h2⟩ := opens_field Tryz.underlying57 h 2 _ rfl o_bool
  obtain ⟨a3, v3, h3, s3⟩ := opens_field Tryz.underlying57 h 3 _ rfl o_ints
  obtain ⟨a4, v4, h4, s4⟩ := opens_field Tryz.underlying57 h 4 _ rfl o_cinss
  match cs, hl with
  | [c0, c1, c2, c3, c4], _ =>
    simp only [List.getElem_toArray, List.getElem_cons_zero, List.getElem_cons_succ, cInt, cBool, cSInt, cSCIns, IntR, BoolR, List.drop_zero, List.take_succ_cons, List.take_zero, List.drop_succ_cons, List.cons.injEq, and_true] at h0 h1 h2 h3 h4
    obtain ⟨rfl, w0⟩ := h0
    obtain ⟨rfl, w1⟩ := h1
    subst h2; subst h3; subst h4
    obtain ⟨A, n, rfl, -⟩ := id s3
    obtain ⟨C, m, rfl, -⟩ := id s4
    exact ⟨⟨a0, a1, a2, a3, a4⟩, A, n, C, m, rfl, s3, s4, w0, w1⟩
theorem o_fns : Opens enc Tryz.prog w spare held 22 (fun cs (xs : List CFn) => ∃ v, cs = [v] ∧ SliceR w w.heap.size 5 (FnR w w.heap.size) v xs) := opens_slice Tryz.underlying22 cFn (by decide) cSFn o_fn
theorem o_vals : Opens enc Tryz.prog w spare held 23 (fun cs (xs : List Val) => ∃ v, cs = [v] ∧ SliceR w w.heap.size 2 ValR v xs) := opens_slice Tryz.underlying23 cVal (by decide) cSVal o_val
theorem o_strs : Opens enc Tryz.prog w spare held 24 (fun cs (xs : List ByteArray) => ∃ v, cs = [v] ∧ SliceR w w.heap.size 1 StrR v xs) := opens_slice Tryz.underlying24 cStr (by decide) cSStr o_str
set_option maxRecDepth 100000 in
theorem o_prog : Opens enc Tryz.prog w spare held 26 (ProgR w w.heap.size) := by
  intro fuel cs x h
  have hl := opens_len Tryz.underlying26 h
  refine ⟨hl, ?_⟩
  rw [cProg] at hl
  obtain ⟨a0, v0, h0, s0⟩ := opens_field Tryz.underlying26 h 0 _ rfl o_fns
  obtain ⟨a1, v1, h1, s1⟩ := opens_field Tryz.underlying26 h 1 _ rfl o_vals
  obtain ⟨a2, v2, h2, s2⟩ := opens_field Tryz.underlying26 h 2 _ rfl o_strs
  match cs, hl with
  | [c0, c1, c2], _ =>
    simp only [List.getElem_toArray, List.getElem_cons_zero, List.getElem_cons_succ, cSFn, cSVal, cSStr, List.drop_zero, List.take_succ_cons, List.take_zero, List.drop_succ_cons, List.cons.injEq, and_true] at h0 h1 h2
    subst h0; subst h1; subst h2
    obtain ⟨A, n, rfl, -⟩ := id s0
    obtain ⟨C, m, rfl, -⟩ := id s1
    obtain ⟨D, k, rfl, -⟩ := id s2
    exact ⟨⟨a0, a1, a2⟩, A, n, C, m, D, k, rfl, s0, s1, s2⟩
set_option maxRecDepth 100000 in
theorem open_prog {v : Value} {d : DataW H} {ps : List MemPlace} {r : Reach} {b0 : Nat} (hv : Value.okWide Tryz.prog w r b0 26 v) (h : DataW.Trod enc Tryz.prog w 0 spare held 26 v d ps) : ∃ cs p, v = .agg ⟨cs⟩ ∧ ProgR w w.heap.size cs p := by
  obtain ⟨cs, rfl, _⟩ := okWide_struct Tryz.underlying26 hv
  obtain ⟨fuel, hf⟩ := h
  obtain ⟨_, t, ht⟩ := o_prog _ _ _ hf
  exact ⟨cs.toList, t, rfl, ht⟩
set_option maxRecDepth 100000 in
theorem open_intslice {v : Value} {d : DataW H} {ps : List MemPlace} {r : Reach} {b0 : Nat} (hv : Value.okWide Tryz.prog w r b0 47 v) (h : DataW.Trod enc Tryz.prog w 0 spare held 47 v d ps) : ∃ xs, SliceR w w.heap.size 1 IntR v xs := by
  obtain ⟨A, len, cap, rfl⟩ := okWide_slice Tryz.underlying47 hv
  obtain ⟨fuel, hf⟩ := h
  obtain ⟨_, xs, u, e, hs⟩ := o_ints _ _ _ hf
  have e' : Value.slice A len cap = u := by simpa [Value.cells] using e
  subst e'
  exact ⟨xs, hs⟩
end
theorem gTabType : (Tryz.prog.globals[0]?).map (·.type) = some 156 := by kernel_rfl
theorem cellsT256 : Tryz.prog.cellsOf 156 = 256 := by kernel_rfl
theorem cellsU8 : Tryz.prog.cellsOf 5 = 1 := by kernel_rfl
/-- THE WITNESS: the settled world with two blocks more (the white space's ranges; their table), the two variables holding what their initialisers lay. -/
noncomputable def laidWorld (os : Os) : World :=
  let N := (World.settled Tryz.prog os).heap.size
  let w0 := World.holding Tryz.prog os ⟨#[.cells (Lib.whiteT.map fun (z : Nat) => Value.int .u16 (z : Int)).toArray 186, .cells #[.slice (some ⟨N, 0, none⟩) 7 7, .slice none 0 0, .int .i64 2] 183], #[], []⟩
  let put (h : Array Obj) (g : Nat) (cs : Array Value) : Array Obj := h.modify g fun
    | .cells _ t frozen => .cells cs t frozen
    | o => o
  { w0 with heap := put (put w0.heap 0 (Lib.asciiSpaceTab.map fun z => Value.int .u8 z).toArray) 2 #[.pointer (some ⟨N + 1, 0, none⟩)] }
def nilProg : Value := .agg #[.slice none 0 0, .slice none 0 0, .slice none 0 0]
def nilTrace : Value := .agg #[.int .i64 0, .int .i64 0, .int .i64 0, .slice none 0 0, .slice none 0 0, .int .i64 0, .int .i64 0, .slice none 0 0, .slice none 0 0, .int .i64 0, .int .i64 0, .slice none 0 0, .slice none 0 0]
def nilProgD {H : Type} : DataW H := .agg [.nil, .nil, .nil]
def nilExitD {H : Type} : DataW H := .agg [.lit (.int .i64 0), .lit (.int .i64 0), .nil, .nil]
def nilTraceD {H : Type} : DataW H := .agg [.lit (.int .i64 0), .lit (.int .i64 0), .lit (.int .i64 0), .nil, .nil, nilExitD, nilExitD]
end Go.Proofs.YtlnkjmgfkpeicaaGreatDoor
