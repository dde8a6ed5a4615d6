/- Traces in memory: what a value of type api.TTrace holds. -/
import Derived.Test.YtmccomeihnaanaaDoorIns
namespace Go.Proofs.YtmccomeihnaanaaDoor
open Go.ChangeShapes Go.WideShapes Go.ChangeAt Go.RowKit

def SetR (cs : List Value) (x : TSet) : Prop := cs = [.int .i64 x.reg, .int .i64 x.val] ∧ wfi x.reg ∧ wfi x.val
def MakeR (w : World) (B : Nat) (cs : List Value) (m : TMake) : Prop := ∃ v, cs = [.int .i64 m.cell, .int .i64 m.kind, .int .i64 m.num, v] ∧ SliceR w B 1 IntR v m.vals ∧ wfi m.cell ∧ wfi m.kind ∧ wfi m.num
def ExitR (w : World) (B : Nat) (cs : List Value) (x : TExit) : Prop := ∃ s m, cs = [.int .i64 x.at_, .int .i64 x.steps, s, m] ∧ SliceR w B 2 SetR s x.sets ∧ SliceR w B 4 (MakeR w B) m x.makes ∧ wfi x.at_ ∧ wfi x.steps
def TraceR (w : World) (B : Nat) (cs : List Value) (t : TTrace) : Prop :=
  ∃ i e ct cb, cs = [.int .i64 t.fn, .int .i64 t.at_, .int .i64 t.loop, i, e] ++ ct ++ cb ∧ SliceR w B 8 InsR i t.ins ∧ SliceR w B 4 (ExitR w B) e t.exits ∧ ExitR w B ct t.turn ∧ ExitR w B cb t.back ∧ wfi t.fn ∧ wfi t.at_ ∧ wfi t.loop

theorem MakeR.keep {w w' : World} {B B' : Nat} {cs : List Value} {m : TMake} (h : MakeR w B cs m) (hB : B ≤ B') (hk : ∀ p : Addr, p.block < B → w'.cell? p = w.cell? p) : MakeR w' B' cs m := by
  obtain ⟨v, h1, h2, h3⟩ := h
  exact ⟨v, h1, h2.keep hB hk (fun _ _ h => h), h3⟩
theorem ExitR.keep {w w' : World} {B B' : Nat} {cs : List Value} {x : TExit} (h : ExitR w B cs x) (hB : B ≤ B') (hk : ∀ p : Addr, p.block < B → w'.cell? p = w.cell? p) : ExitR w' B' cs x := by
  obtain ⟨s, m, h1, h2, h3, h4⟩ := h
  exact ⟨s, m, h1, h2.keep hB hk (fun _ _ h => h), h3.keep hB hk (fun _ _ h => h.keep hB hk), h4⟩
theorem TraceR.keep {w w' : World} {B B' : Nat} {cs : List Value} {t : TTrace} (h : TraceR w B cs t) (hB : B ≤ B') (hk : ∀ p : Addr, p.block < B → w'.cell? p = w.cell? p) : TraceR w' B' cs t := by
  obtain ⟨i, e, ct, cb, h1, h2, h3, h4, h5, h6⟩ := h
  exact ⟨i, e, ct, cb, h1, h2.keep hB hk (fun _ _ h => h), h3.keep hB hk (fun _ _ h => h.keep hB hk), h4.keep hB hk, h5.keep hB hk, h6⟩
theorem TraceR.below {w w' : World} {cs : List Value} {t : TTrace} (h : TraceR w w.heap.size cs t) (hb : Below w.heap.size w w') : TraceR w' w'.heap.size cs t :=
  h.keep hb.size (fun _ hp => hb.cell hp)

section
variable {H : Type} {enc : TypeId × Value → H} {w : World} {spare : Nat → Bool} {held : Bool}

theorem cInt : Tryd.prog.cellsOf 3 = 1 := by kernel_rfl
theorem cVal : Tryd.prog.cellsOf 41 = 2 := by kernel_rfl
theorem cIns : Tryd.prog.cellsOf 43 = 8 := by kernel_rfl
theorem cSet : Tryd.prog.cellsOf 99 = 2 := by kernel_rfl
theorem cMake : Tryd.prog.cellsOf 101 = 4 := by kernel_rfl
theorem cExit : Tryd.prog.cellsOf 32 = 4 := by kernel_rfl
theorem cTrace : Tryd.prog.cellsOf 34 = 13 := by kernel_rfl
theorem cSInt : Tryd.prog.cellsOf 38 = 1 := by kernel_rfl
theorem cSIns : Tryd.prog.cellsOf 27 = 1 := by kernel_rfl
theorem cSSet : Tryd.prog.cellsOf 29 = 1 := by kernel_rfl
theorem cSMake : Tryd.prog.cellsOf 30 = 1 := by kernel_rfl
theorem cSExit : Tryd.prog.cellsOf 28 = 1 := by kernel_rfl

theorem o_int : Opens enc Tryd.prog w spare held 3 IntR := opens_int Tryd.underlying3 cInt
theorem o_ints : Opens enc Tryd.prog w spare held 38 (fun cs (xs : List Int) => ∃ v, cs = [v] ∧ SliceR w w.heap.size 1 IntR v xs) := opens_slice Tryd.underlying38 cInt (by decide) cSInt o_int

def ValR (cs : List Value) (x : Val) : Prop := cs = [.int .i64 x.kind, .int .i64 x.n] ∧ wfi x.kind ∧ wfi x.n
set_option maxRecDepth 100000 in
theorem o_val : Opens enc Tryd.prog w spare held 41 ValR := by
  intro fuel cs x h
  have hl := opens_len Tryd.underlying41 h
  refine ⟨hl, ?_⟩
  rw [cVal] at hl
  obtain ⟨a, ha⟩ := opens_field Tryd.underlying41 h 0 _ rfl o_int
  obtain ⟨b, hb⟩ := opens_field Tryd.underlying41 h 1 _ rfl o_int
  match cs, hl with
  | [c0, c1], _ =>
    simp only [List.getElem_toArray, List.getElem_cons_zero, List.getElem_cons_succ, cInt, IntR, List.drop_zero, List.take_succ_cons, List.take_zero, List.drop_succ_cons, List.cons.injEq, and_true] at ha hb
    obtain ⟨rfl, wa⟩ := ha
    obtain ⟨rfl, wb⟩ := hb
    exact ⟨⟨a, b⟩, rfl, wa, wb⟩

set_option maxRecDepth 100000 in
theorem o_set : Opens enc Tryd.prog w spare held 99 SetR := by
  intro fuel cs x h
  have hl := opens_len Tryd.underlying99 h
  refine ⟨hl, ?_⟩
  rw [cSet] at hl
  obtain ⟨a, ha⟩ := opens_field Tryd.underlying99 h 0 _ rfl o_int
  obtain ⟨b, hb⟩ := opens_field Tryd.underlying99 h 1 _ rfl o_int
  match cs, hl with
  | [c0, c1], _ =>
    simp only [List.getElem_toArray, List.getElem_cons_zero, List.getElem_cons_succ, cInt, IntR, List.drop_zero, List.take_succ_cons, List.take_zero, List.drop_succ_cons, List.cons.injEq, and_true] at ha hb
    obtain ⟨rfl, wa⟩ := ha
    obtain ⟨rfl, wb⟩ := hb
    exact ⟨⟨a, b⟩, rfl, wa, wb⟩

set_option maxRecDepth 100000 in
theorem o_ins : Opens enc Tryd.prog w spare held 43 InsR := by
  intro fuel cs x h
  have hl := opens_len Tryd.underlying43 h
  refine ⟨hl, ?_⟩
  rw [cIns] at hl
  obtain ⟨a0, h0⟩ := opens_field Tryd.underlying43 h 0 _ rfl o_int
  obtain ⟨a1, h1⟩ := opens_field Tryd.underlying43 h 1 _ rfl o_int
  obtain ⟨a2, h2⟩ := opens_field Tryd.underlying43 h 2 _ rfl o_int
  obtain ⟨a3, h3⟩ := opens_field Tryd.underlying43 h 3 _ rfl o_int
  obtain ⟨a4, h4⟩ := opens_field Tryd.underlying43 h 4 _ rfl o_int
  obtain ⟨a5, h5⟩ := opens_field Tryd.underlying43 h 5 _ rfl o_int
  obtain ⟨k, hk⟩ := opens_field Tryd.underlying43 h 6 _ rfl o_val
  match cs, hl with
  | [c0, c1, c2, c3, c4, c5, c6, c7], _ =>
    simp only [List.getElem_toArray, List.getElem_cons_zero, List.getElem_cons_succ, cInt, cVal, IntR, ValR, List.drop_zero, List.take_succ_cons, List.take_zero, List.drop_succ_cons, List.cons.injEq, and_true] at h0 h1 h2 h3 h4 h5 hk
    obtain ⟨rfl, w0⟩ := h0
    obtain ⟨rfl, w1⟩ := h1
    obtain ⟨rfl, w2⟩ := h2
    obtain ⟨rfl, w3⟩ := h3
    obtain ⟨rfl, w4⟩ := h4
    obtain ⟨rfl, w5⟩ := h5
    obtain ⟨⟨rfl, rfl⟩, w6, w7⟩ := hk
    exact ⟨⟨a0, a1, a2, a3, a4, a5, k⟩, rfl, w0, w1, w2, w3, w4, w5, w6, w7⟩

theorem o_sets : Opens enc Tryd.prog w spare held 29 (fun cs (xs : List TSet) => ∃ v, cs = [v] ∧ SliceR w w.heap.size 2 SetR v xs) := opens_slice Tryd.underlying29 cSet (by decide) cSSet o_set
theorem o_inss : Opens enc Tryd.prog w spare held 27 (fun cs (xs : List TIns) => ∃ v, cs = [v] ∧ SliceR w w.heap.size 8 InsR v xs) := opens_slice Tryd.underlying27 cIns (by decide) cSIns o_ins

set_option maxRecDepth 100000 in
theorem o_make : Opens enc Tryd.prog w spare held 101 (MakeR w w.heap.size) := by
  intro fuel cs x h
  have hl := opens_len Tryd.underlying101 h
  refine ⟨hl, ?_⟩
  rw [cMake] at hl
  obtain ⟨a0, h0⟩ := opens_field Tryd.underlying101 h 0 _ rfl o_int
  obtain ⟨a1, h1⟩ := opens_field Tryd.underlying101 h 1 _ rfl o_int
  obtain ⟨a2, h2⟩ := opens_field Tryd.underlying101 h 2 _ rfl o_int
  obtain ⟨a3, v, h3, hs⟩ := opens_field Tryd.underlying101 h 3 _ rfl o_ints
  match cs, hl with
  | [c0, c1, c2, c3], _ =>
    simp only [List.getElem_toArray, List.getElem_cons_zero, List.getElem_cons_succ, cInt, cSInt, IntR, List.drop_zero, List.take_succ_cons, List.take_zero, List.drop_succ_cons, List.cons.injEq, and_true] at h0 h1 h2 h3
    obtain ⟨rfl, w0⟩ := h0
    obtain ⟨rfl, w1⟩ := h1
    obtain ⟨rfl, w2⟩ := h2
    subst h3
    exact ⟨⟨a0, a1, a2, a3⟩, _, rfl, hs, w0, w1, w2⟩
theorem o_makes : Opens enc Tryd.prog w spare held 30 (fun cs (xs : List TMake) => ∃ v, cs = [v] ∧ SliceR w w.heap.size 4 (MakeR w w.heap.size) v xs) := opens_slice Tryd.underlying30 cMake (by decide) cSMake o_make

set_option maxRecDepth 100000 in
theorem o_exit : Opens enc Tryd.prog w spare held 32 (ExitR w w.heap.size) := by
  intro fuel cs x h
  have hl := opens_len Tryd.underlying32 h
  refine ⟨hl, ?_⟩
  rw [cExit] at hl
  obtain ⟨a0, h0⟩ := opens_field Tryd.underlying32 h 0 _ rfl o_int
  obtain ⟨a1, h1⟩ := opens_field Tryd.underlying32 h 1 _ rfl o_int
  obtain ⟨a2, v, h2, hs⟩ := opens_field Tryd.underlying32 h 2 _ rfl o_sets
  obtain ⟨a3, u, h3, hm⟩ := opens_field Tryd.underlying32 h 3 _ rfl o_makes
  match cs, hl with
  | [c0, c1, c2, c3], _ =>
    simp only [List.getElem_toArray, List.getElem_cons_zero, List.getElem_cons_succ, cInt, cSSet, cSMake, IntR, List.drop_zero, List.take_succ_cons, List.take_zero, List.drop_succ_cons, List.cons.injEq, and_true] at h0 h1 h2 h3
    obtain ⟨rfl, w0⟩ := h0
    obtain ⟨rfl, w1⟩ := h1
    subst h2; subst h3
    exact ⟨⟨a0, a1, a2, a3⟩, _, _, rfl, hs, hm, w0, w1⟩
theorem o_exits : Opens enc Tryd.prog w spare held 28 (fun cs (xs : List TExit) => ∃ v, cs = [v] ∧ SliceR w w.heap.size 4 (ExitR w w.heap.size) v xs) := opens_slice Tryd.underlying28 cExit (by decide) cSExit o_exit

set_option maxRecDepth 100000 in
theorem o_trace : Opens enc Tryd.prog w spare held 34 (TraceR w w.heap.size) := by
  intro fuel cs x h
  have hl := opens_len Tryd.underlying34 h
  refine ⟨hl, ?_⟩
  rw [cTrace] at hl
  obtain ⟨a0, h0⟩ := opens_field Tryd.underlying34 h 0 _ rfl o_int
  obtain ⟨a1, h1⟩ := opens_field Tryd.underlying34 h 1 _ rfl o_int
  obtain ⟨a2, h2⟩ := opens_field Tryd.underlying34 h 2 _ rfl o_int
  obtain ⟨a3, v, h3, hs⟩ := opens_field Tryd.underlying34 h 3 _ rfl o_inss
  obtain ⟨a4, u, h4, hm⟩ := opens_field Tryd.underlying34 h 4 _ rfl o_exits
  obtain ⟨a5, h5⟩ := opens_field Tryd.underlying34 h 5 _ rfl o_exit
  obtain ⟨a6, h6⟩ := opens_field Tryd.underlying34 h 6 _ rfl o_exit
  match cs, hl with
  | [c0, c1, c2, c3, c4, c5, c6, c7, c8, c9, c10, c11, c12], _ =>
    simp only [List.getElem_toArray, List.getElem_cons_zero, List.getElem_cons_succ, cInt, cSIns, cSExit, cExit, IntR, List.drop_zero, List.take_succ_cons, List.take_zero, List.drop_succ_cons, List.cons.injEq, and_true] at h0 h1 h2 h3 h4 h5 h6
    obtain ⟨rfl, w0⟩ := h0
    obtain ⟨rfl, w1⟩ := h1
    obtain ⟨rfl, w2⟩ := h2
    subst h3; subst h4
    exact ⟨⟨a0, a1, a2, a3, a4, a5, a6⟩, _, _, _, _, rfl, hs, hm, h5, h6, w0, w1, w2⟩

set_option maxRecDepth 100000 in
theorem open_trace {v : Value} {d : DataW H} {ps : List MemPlace} {r : Reach} {b0 : Nat} (hv : Value.okWide Tryd.prog w r b0 34 v) (h : DataW.Trod enc Tryd.prog w 0 spare held 34 v d ps) : ∃ cs t, v = .agg ⟨cs⟩ ∧ TraceR w w.heap.size cs t := by
  obtain ⟨cs, rfl, _⟩ := okWide_struct Tryd.underlying34 hv
  obtain ⟨fuel, hf⟩ := h
  obtain ⟨_, t, ht⟩ := o_trace _ _ _ hf
  exact ⟨cs.toList, t, rfl, ht⟩
end
#print axioms open_trace
end Go.Proofs.YtmccomeihnaanaaDoor
