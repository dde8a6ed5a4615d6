/- ir.Cut: the walk. A checked trace is small. No program. ir.Cut: frames. A region that draws its order: moves between registers, which may come at any time, even behind what changes the memory; readers; others. -/
import Derived.Test.YtlnkjmgfkpeicaaGreatDoorCutE
import Derived.Test.YtlnkjmgfkpeicaaGreatDoorCutM
import Derived.Test.YtlnkjmgfkpeicaaGreatDoorChkN
import Derived.Test.YtlnkjmgfkpeicaaGreatDoorCheckN
import Derived.Test.YtlnkjmgfkpeicaaGreatDoorComm
import Derived.Test.YtlnkjmgfkpeicaaGreatDoorMoves
namespace Go.Proofs.YtlnkjmgfkpeicaaGreatDoor
open Go.RowKit

def CutPost (t : TTrace) (tl : List Int) (w : World) (e : Ending) (w' : World) : Prop :=
  ∃ cs, e = .returned (.tuple #[.agg ⟨cs⟩, .int .i64 (cutM t tl).2]) ∧ TraceR w' w'.heap.size cs (cutM t tl).1 ∧ Below w.heap.size w w' ∧ ∀ g new, g < w.heap.size → TraceR (w'.setRow g new) (w'.setRow g new).heap.size cs (cutM t tl).1
def CutPost2 (t : TTrace) (tl : List Int) (w : World) (e : Ending) (w' : World) : Prop :=
  ∃ cs, e = .returned (.tuple #[.agg ⟨cs⟩, .int .i64 (cutM t tl).2]) ∧ TraceR w' w'.heap.size cs (cutM t tl).1 ∧ Below w.heap.size w w' ∧ ∀ w2 : World, (∀ k, w.heap.size ≤ k → k < w'.heap.size → w2.heap[k]? = w'.heap[k]?) → TraceR w2 w2.heap.size cs (cutM t tl).1
theorem CutPost2.one {t : TTrace} {tl : List Int} {w : World} {e : Ending} {w' : World} (h : CutPost2 t tl w e w') : CutPost t tl w e w' := by
  obtain ⟨cs, a, b, c, d⟩ := h
  exact ⟨cs, a, b, c, fun g new hg => d _ (fun k hk _ => setRow_other _ _ _ _ (by omega))⟩
def zeroTrace : List Value := [.int .i64 0, .int .i64 0, .int .i64 0, .slice none 0 0, .slice none 0 0, .int .i64 0, .int .i64 0, .slice none 0 0, .slice none 0 0, .int .i64 0, .int .i64 0, .slice none 0 0, .slice none 0 0]
theorem zeroTrace_R (w : World) (B : Nat) : TraceR w B zeroTrace trace0 := by
  have z : wfi 0 := by unfold wfi; omega
  have ze : ExitR w B [.int .i64 0, .int .i64 0, .slice none 0 0, .slice none 0 0] exit0 := ⟨_, _, rfl, SliceR.nil _ _ _ _, SliceR.nil _ _ _ _, z, z⟩
  exact ⟨_, _, _, _, rfl, SliceR.nil _ _ _ _, SliceR.nil _ _ _ _, ze, ze, z, z, z⟩
theorem infoTr13 : (Tryz.prog.info? 34).map (·.size) = some 13 := by kernel_rfl

set_option maxHeartbeats 8000000 in
set_option maxRecDepth 100000 in
/-- of another length -/
theorem cut_len2 (ca : List Value) (t : TTrace) (v : Value) (tl : List Int) (w : World) (ht : TraceR w w.heap.size ca t) (hv : SliceR w w.heap.size 1 IntR v tl) (hne : tl.length ≠ t.ins.length) :
    Calls Tryz.prog 7 #[.agg ⟨ca⟩, v] w (CutPost2 t tl w) := by
  obtain ⟨Ai, ni, p3, qi⟩ := ht.at3
  have li := len_le qi
  obtain ⟨V, cV, rfl, lv1, lv2, -⟩ := hv
  unfold maxLen at lv2
  have hn : ((tl.length : Int) != (t.ins.length : Int)) = true := by rw [bne_iff_ne]; omega
  have HE : Hid (cutM t tl = (trace0, 3)) := by unfold cutM Hid; rw [if_pos hne]
  clear ht qi hne
  go_enter Tryz.func7, Tryz.ntmps7
  go_wp2_with fail
  unfold CutPost2
  rw [HE.out]
  refine bodyPost_ret (v := .tuple #[.agg ⟨zeroTrace⟩, .int .i64 3]) (by simp [results, Tryz.results7, go_sem, zeroTrace]) rfl ⟨_, rfl, zeroTrace_R _ _, ?_, fun _ _ => zeroTrace_R _ _⟩
  repeat (first | exact Below.refl _ _ | refine Below.drew ?_ | refine Below.setCell ?_ (by simp) _ | refine Below.alloc ?_ (by simp) _)
theorem cut_len (ca : List Value) (t : TTrace) (v : Value) (tl : List Int) (w : World) (ht : TraceR w w.heap.size ca t) (hv : SliceR w w.heap.size 1 IntR v tl) (hne : tl.length ≠ t.ins.length) :
    Calls Tryz.prog 7 #[.agg ⟨ca⟩, v] w (CutPost t tl w) :=
  (cut_len2 ca t v tl w ht hv hne).mono fun _ _ h => h.one
end Go.Proofs.YtlnkjmgfkpeicaaGreatDoor
namespace Go.Proofs.YtlnkjmgfkpeicaaGreatDoor

def Small (x : TExit) : Prop := x.sets.length ≤ 1000 ∧ x.makes.length ≤ 1000 ∧ ∀ m ∈ x.makes, m.vals.length ≤ 1000
theorem setsM_len {regs : Int} {ins : List TIns} {at_ : Int} : ∀ (last : Int) (l : List TSet), setsM regs ins at_ last l = true → l = [] ∨ last + l.length < regs
  | _, [], _ => .inl rfl
  | last, s :: l, h => by
    simp only [setsM, Bool.and_eq_true, decide_eq_true_eq] at h
    right
    rcases setsM_len s.reg l h.2 with e | e
    · subst e; simp only [List.length_cons, List.length_nil]; omega
    · simp only [List.length_cons]; omega
theorem makesM_len {ins : List TIns} {at_ : Int} : ∀ (last : Int) (l : List TMake), makesM ins at_ last l = true → l = [] ∨ last + l.length < ins.length
  | _, [], _ => .inl rfl
  | last, m :: l, h => by
    have h0 := makesM_in last (m :: l) h m (by simp)
    simp only [makesM, Bool.and_eq_true, decide_eq_true_eq] at h
    right
    rcases makesM_len m.cell l h.2 with e | e
    · subst e; simp only [List.length_cons, List.length_nil]; omega
    · simp only [List.length_cons]; omega
theorem makesM_vals {ins : List TIns} {at_ : Int} : ∀ (last : Int) (l : List TMake), makesM ins at_ last l = true → ∀ m ∈ l, m.vals.length ≤ 100
  | _, [], _, _, hm => by simp at hm
  | last, x :: l, h, m, hm => by
    simp only [makesM, Bool.and_eq_true, decide_eq_true_eq] at h
    rcases List.mem_cons.1 hm with rfl | hm
    · have h2 := h.1.2
      simp only [makeM, Bool.and_eq_true, decide_eq_true_eq] at h2
      exact h2.1.2
    · exact makesM_vals _ l h.2 m hm
theorem rightM_small {fn : FnM} {ins : List TIns} {x : TExit} {at_ : Int} (hr : fn.regs ≤ 60) (hi : ins.length ≤ 300) (h : rightM fn ins x at_ = true) : Small x := by
  simp only [rightM, Bool.and_eq_true] at h
  refine ⟨?_, ?_, fun m hm => ?_⟩
  · rcases setsM_len _ _ h.1.2 with e | e
    · rw [e]; simp
    · omega
  · rcases makesM_len _ _ h.2 with e | e
    · rw [e]; simp
    · omega
  · have := makesM_vals _ _ h.2 m hm; omega
theorem bareM_small {x : TExit} (h : bareM x = true) : Small x := by
  simp only [bareM, Bool.and_eq_true, List.isEmpty_iff] at h
  refine ⟨by rw [h.1.2]; simp, by rw [h.2]; simp, fun m hm => by rw [h.2] at hm; simp at hm⟩
theorem codeCheck_regs {p : CProg} (h : codeCheckM p = 0) : ∀ f ∈ p.fns, f.regs ≤ 60 := by
  unfold codeCheckM at h
  split at h
  · cases h
  · rename_i h1
    exact fun f hf => ((large_no (by simpa using h1)).2 f hf).2
structure SmallT (t : TTrace) : Prop where
  ins : t.ins.length ≤ 300
  exitsLen : t.exits.length ≤ 200
  exits : ∀ x ∈ t.exits, Small x
  turn : Small t.turn
  back : Small t.back
theorem check_small {p : CProg} {t : TTrace} {rv : Val → Bool} (h : checkM rv (codeCheckM p) (p.fns.map fnOf) t = 0) : SmallT t := by
  have hc : codeCheckM p = 0 := by
    unfold checkM at h
    split at h
    · rename_i h1; exact (h1 h).elim
    · rename_i h1; exact Classical.not_not.1 h1
  obtain ⟨h1, h2, fn, hf, _, hl, _, ht0, ht1, hb, hx⟩ := checkM_parts h
  have hr : fn.regs ≤ 60 := by
    have := hf.2
    rw [List.getElem?_map] at this
    obtain ⟨f, e1, rfl⟩ := Option.map_eq_some_iff.1 this
    exact codeCheck_regs hc f (List.mem_of_getElem? e1)
  refine ⟨h1, h2, fun x hx' => rightM_small hr h1 (List.all_eq_true.1 hx x hx'), ?_, rightM_small hr h1 hb.2⟩
  rcases Int.lt_or_le 0 t.loop with c | c
  · exact rightM_small hr h1 (ht1 c).2
  · exact bareM_small (ht0 (by omega))
end Go.Proofs.YtlnkjmgfkpeicaaGreatDoor
namespace Go.Proofs.YtlnkjmgfkpeicaaGreatDoor
open Go.RowKit

theorem own_len {w : World} {B : Nat} {e : TypeId} {size n : Nat} {v : Value} {xs : List Value} (hown : w.ownsRow B e size v n xs) : ∃ A c, v = .slice A n c := by
  rcases hown.2 with ⟨e, h0⟩ | ⟨g, cp, _, e, _⟩
  · subst h0; exact ⟨_, _, e⟩
  · exact ⟨_, _, e⟩
/-- a row of another type lies as it was while one is grown -/
theorem own_grow {w w' : World} {B C : Nat} {e e2 : TypeId} {size sz n m : Nat} {v u : Value} {xs cs : List Value} (h : w.ownsRow B e size v n xs) (hown : w.ownsRow C e2 sz u m cs) (hg : w.grownBy w' u.ownBlock) (ht : e ≠ e2) : w'.ownsRow B e size v n xs := by
  cases hb : v.ownBlock with
  | none => exact h.kept hg (.inl hb)
  | some k =>
    refine h.kept hg (.inr (fun hx => ?_))
    obtain ⟨_, c1, f1, h1⟩ := own_row h _ hb
    obtain ⟨_, c2, f2, h2⟩ := own_row hown _ (hx.symm.trans hb)
    rw [h1] at h2; injection h2 with h2; injection h2 with _ h2 _; exact ht h2
theorem heap_four (w : World) (o p q r : Obj) : ((((w.alloc o).alloc p).alloc q).alloc r).heap[w.heap.size + 1 + 1 + 1]? = some r := by
  show ((((w.heap.push o).push p).push q).push r)[w.heap.size + 1 + 1 + 1]? = _
  rw [Array.getElem?_push, if_pos (by simp)]
theorem HeadAt.of_row {w : World} {g : Nat} {cs : List Value} {t : TypeId} (h : w.heap[g]? = some (.cells ⟨cs⟩ t (0, 0))) : HeadAt w g cs := fun i v hv => by
  rw [cell_of_row w g i _ _ _ h]; simpa using hv
section
variable {W w6 : World} {bc : Nat} {tv v' : Value} {at_ : List Int} {fine : Bool} {a : Int}
theorem cut_push (C : CutAt W bc tv at_ fine) (hown : w6.ownsRow (bc + 1) 3 1 v' (at_.length + 1) (at_.map (.int .i64) ++ [.int .i64 a])) (hg : W.grownBy w6 tv.ownBlock) (ha : -1 ≤ a ∧ a ≤ 300) (hf : at_.length + 1 ≤ 300) :
    CutAt (w6.setCell ⟨bc, 0, none⟩ v') bc v' (at_ ++ [a]) fine := by
  have GC := grow_far C.own hg C.here (by decide)
  refine ⟨?_, ?_, ?_, ?_⟩
  · rw [heap_setCell_same w6 bc 0 _ _ _ GC]; rfl
  · have h9 := own_far hown GC (by decide) 0 v'
    rw [List.map_append, List.length_append]
    exact h9
  · intro b hb
    rcases List.mem_append.1 hb with hb | hb
    · exact C.bd b hb
    · simp at hb; subst hb; exact ha
  · rw [List.length_append]; exact hf
theorem push_row (C : CutAt W bc tv at_ fine) (hg : W.grownBy w6 tv.ownBlock) {k : Nat} {cs : Array Value} {t : TypeId} (h : W.heap[k]? = some (.cells cs t (0, 0))) (ht : t ≠ 3) (hk : k ≠ bc) : (w6.setCell ⟨bc, 0, none⟩ v').heap[k]? = some (.cells cs t (0, 0)) := by
  rw [heap_setCell_other w6 _ _ _ (by show k ≠ bc; exact hk)]; exact grow_far C.own hg h ht
theorem push_own (C : CutAt W bc tv at_ fine) (hg : W.grownBy w6 tv.ownBlock) {B : Nat} {e : TypeId} {size n : Nat} {u : Value} {xs : List Value} (h : W.ownsRow B e size u n xs) (h1 : e ≠ 3) (h2 : 69 ≠ e) : (w6.setCell ⟨bc, 0, none⟩ v').ownsRow B e size u n xs :=
  own_far (own_grow h C.own hg h1) (grow_far C.own hg C.here (by decide)) h2 _ _
theorem push_below (C : CutAt W bc tv at_ fine) (hg : W.grownBy w6 tv.ownBlock) {B : Nat} (hB : B ≤ bc) (hW : B ≤ W.heap.size) : Below B W (w6.setCell ⟨bc, 0, none⟩ v') :=
  Below.set_at (grow_below (B' := B) C.own hg (by omega) hW) hB _ _
end
theorem insC_wf {at_ : List Int} (h : ∀ a ∈ at_, -1 ≤ a ∧ a ≤ 300) {x : TIns} (hx : WfIns x) : WfIns (insC at_ x) := by
  obtain ⟨h0, ha, hb, hc, h4⟩ := hx
  have b : ∀ v, wfi (oneM at_ v) := fun v => by have := one_bd h v; unfold wfi; omega
  refine ⟨h0, ?_, ?_, ?_, h4⟩
  · unfold insC putM; dsimp only; split
    · exact b _
    · exact ha
  · unfold insC putM; dsimp only; split
    · exact b _
    · exact hb
  · unfold insC putM; dsimp only; split
    · exact b _
    · exact hc
theorem CutAt.grow_ {W w6 : World} {bc : Nat} {tv : Value} {at_ : List Int} {fine : Bool} (C : CutAt W bc tv at_ fine) {B : Nat} {e : TypeId} {size n : Nat} {u : Value} {xs : List Value} (hown : W.ownsRow B e size u n xs) (hg : W.grownBy w6 u.ownBlock) (h1 : 69 ≠ e) (h2 : 3 ≠ e) : CutAt w6 bc tv at_ fine :=
  ⟨grow_far hown hg C.here h1, own_grow C.own hown hg h2, C.bd, C.few⟩
theorem CutAt.set_far {W : World} {bc : Nat} {tv : Value} {at_ : List Int} {fine : Bool} (C : CutAt W bc tv at_ fine) {g : Nat} {cs : Array Value} {t : TypeId} {fr : Nat × Nat} (hg : W.heap[g]? = some (.cells cs t fr)) (h1 : bc ≠ g) (h2 : t ≠ 3) (i : Nat) (u : Value) : CutAt (W.setCell ⟨g, i, none⟩ u) bc tv at_ fine :=
  ⟨by rw [heap_setCell_other W _ _ _ (by show bc ≠ g; exact h1)]; exact C.here, own_far C.own hg h2 _ _, C.bd, C.few⟩
section
variable {w w1 : World} {B : Nat} {cs : List Value} {x : TExit}
theorem ExitT.grow {C : Nat} {e : TypeId} {sz n : Nat} {u : Value} {cells : List Value} (h : ExitT w B cs x) (hown : w.ownsRow C e sz u n cells) (hg : w.grownBy w1 u.ownBlock) (h1 : 44 ≠ e) (h2 : 89 ≠ e) (h3 : 3 ≠ e) : ExitT w1 B cs x := by
  obtain ⟨s, m, rfl, hs, hm, wx⟩ := h
  exact ⟨s, m, rfl, hs.grow hown hg h1, (hm.grow hown hg h2).keep (fun _ _ _ _ _ => rfl) (fun _ _ h => h.grow hown hg h3), wx⟩
theorem ExitT.set_ {g : Nat} {c : Array Value} {t : TypeId} {fr : Nat × Nat} (h : ExitT w B cs x) (hg : w.heap[g]? = some (.cells c t fr)) (h1 : t ≠ 44) (h2 : t ≠ 89) (h3 : t ≠ 3) (i : Nat) (u : Value) : ExitT (w.setCell ⟨g, i, none⟩ u) B cs x := by
  obtain ⟨s, m, rfl, hs, hm, wx⟩ := h
  exact ⟨s, m, rfl, hs.set_ hg h1 i u, (hm.set_ hg h2 i u).keep (fun _ _ _ _ _ => rfl) (fun _ _ h => h.set_ hg h3 i u), wx⟩
theorem ExitT.below (h : ExitT w B cs x) (k : Below w.heap.size w w1) : ExitT w1 B cs x := by
  obtain ⟨s, m, rfl, hs, hm, wx⟩ := h
  exact ⟨s, m, rfl, hs.below k, (hm.below k).keep (fun _ _ _ _ _ => rfl) (fun _ _ h => h.below k), wx⟩
theorem ExitT.fin {bc : Nat} (h : ExitT w B cs x) (k : Fined bc w w1) (hB : bc < B) : ExitT w1 B cs x := by
  obtain ⟨s, m, rfl, hs, hm, wx⟩ := h
  exact ⟨s, m, rfl, k.ty hs hB, (k.ty hm hB).keep (fun _ _ _ _ _ => rfl) (fun _ _ h => h.fin k hB), wx⟩
theorem ExitT.more {B' : Nat} (h : ExitT w B cs x) (hB : B' ≤ B) : ExitT w B' cs x := by
  obtain ⟨s, m, rfl, hs, hm, wx⟩ := h
  exact ⟨s, m, rfl, hs.more hB, (hm.more hB).keep (fun _ _ _ _ _ => rfl) (fun _ _ h => h.more hB), wx⟩
theorem ExitT.set_row {g : Nat} {c : Array Value} {t : TypeId} {fr : Nat × Nat} (h : ExitT w B cs x) (hg : w.heap[g]? = some (.cells c t fr)) (h1 : t ≠ 44) (h2 : t ≠ 89) (h3 : t ≠ 3) (new : Array Value) : ExitT (w.setRow g new) B cs x := by
  obtain ⟨s, m, rfl, hs, hm, wx⟩ := h
  exact ⟨s, m, rfl, hs.set_row hg h1 new, (hm.set_row hg h2 new).keep (fun _ _ _ _ _ => rfl) (fun _ _ h => h.set_row hg h3 new), wx⟩
theorem ExitT.len (h : ExitT w B cs x) : cs.length = 4 := by
  obtain ⟨s, m, rfl, _⟩ := h; rfl
theorem ExitT.ones (h : ExitT w B cs x) : ∀ u ∈ cs, u.oneCell' = true := by
  obtain ⟨s, m, rfl, ⟨_, _, rfl, _⟩, ⟨_, _, rfl, _⟩, _⟩ := h
  intro u hu; simp at hu; rcases hu with rfl | rfl | rfl | rfl <;> rfl
end
/-- the load of a whole struct in a region that draws its order, all but block bc kept -/
theorem wpQuiet_load_fin {P : Program} {ops : Array Oper} {rest : List Oper} {o : Oper} {a : Act} {w : World} {Q : Act → Prop} {bc : Nat} (ty : TypeId) (x : Operand) (ho : o.op = .load ty x)
    (hgd : Region.wanted o (yielded ops a.tmps) = true)
    (b off : Nat) (hx : a.eval x = .pointer (some ⟨b, off, none⟩)) (cs : List Value) (d : TypeDesc) (hc : ∀ E : Fin_ bc w, E.wd.rangeAt b off cs)
    (hu : P.underlying ty = some d) (hd : d.isRow = true) (hi : (P.info? ty).map (·.size) = some cs.length)
    (h : wpQuiet P ops (fun w' => ∃ E : Fin_ bc w, w' = E.wd) Q rest (a.put o.dst (.agg cs.toArray))) : wpQuiet P ops (fun w' => ∃ E : Fin_ bc w, w' = E.wd) Q (o :: rest) a :=
  wpQuiet_step fun K hK => by
    rw [if_pos hgd]
    refine ⟨.agg cs.toArray, fun w' ⟨E, e⟩ => ?_, hK _ h⟩
    subst e
    unfold Oper.quietAt execOp
    simp only [ho, hx, Instr.loadAt, Instr.sureAddr, Sem.run_bind, Sem.run_pure, Result.andThen_ok, run_loadVar_mid E.wd b off ty cs d (hc E) hu hd hi]
    exact ⟨rfl, rfl⟩
theorem infoEx : (Tryz.prog.info? 32).map (fun i => (i.zero, i.size, i.bytes)) = some (some (.agg #[.int .i64 0, .int .i64 0, .slice none 0 0, .slice none 0 0]), 4, 64) := by kernel_rfl
theorem infoInsG : (Tryz.prog.info? 42).map (fun i => (i.zero, i.size, i.bytes)) = some (some (.agg #[.int .i64 0, .int .i64 0, .int .i64 0, .int .i64 0, .int .i64 0, .int .i64 0, .int .i64 0, .int .i64 0]), 8, 64) := by kernel_rfl
theorem ins_ones (x : TIns) : ∀ u ∈ insCells x, u.oneCell' = true := by
  intro u hu; simp [insCells] at hu; rcases hu with rfl | rfl | rfl | rfl | rfl | rfl | rfl | rfl <;> rfl
def setAll (cs : Array Value) : Nat → List Value → Array Value
  | _, [] => cs
  | o, v :: r => setAll (cs.setIfInBounds o v) (o + 1) r
theorem setAll_size : ∀ (vs : List Value) (cs : Array Value) (o : Nat), (setAll cs o vs).size = cs.size
  | [], _, _ => rfl
  | v :: r, cs, o => by rw [setAll, setAll_size r]; simp
theorem setCells_row {g : Nat} {t : TypeId} : ∀ (vs : List Value) (o : Nat) (w : World) (cs : Array Value), w.heap[g]? = some (.cells cs t (0, 0)) → (w.setCells g o vs).heap[g]? = some (.cells (setAll cs o vs) t (0, 0))
  | [], _, _, _, h => h
  | v :: r, o, w, cs, h => by
    rw [World.setCells, setAll]
    refine setCells_row r (o + 1) _ _ ?_
    rw [heap_setCell_same w g o _ _ _ h]
theorem setCells_ind {g : Nat} {t : TypeId} (Φ : World → Prop) (hΦ : ∀ (w : World) (cs : Array Value) (i : Nat) (u : Value), w.heap[g]? = some (.cells cs t (0, 0)) → Φ w → Φ (w.setCell ⟨g, i, none⟩ u)) :
    ∀ (vs : List Value) (o : Nat) (w : World) (cs : Array Value), w.heap[g]? = some (.cells cs t (0, 0)) → Φ w → Φ (w.setCells g o vs)
  | [], _, _, _, _, h => h
  | v :: r, o, w, cs, hg, h => by
    rw [World.setCells]
    exact setCells_ind Φ hΦ r (o + 1) _ _ (heap_setCell_same w g o _ _ _ hg) (hΦ w cs o v hg h)
theorem TraceR.at59 {w : World} {B : Nat} {cs : List Value} {t : TTrace} (h : TraceR w B cs t) : ∃ ct cb, (∀ i v, ct[i]? = some v → cs[5 + i]? = some v) ∧ (∀ i v, cb[i]? = some v → cs[9 + i]? = some v) ∧ ExitR w B ct t.turn ∧ ExitR w B cb t.back := by
  obtain ⟨i, e, ct, cb, rfl, -, -, ht, hb, -⟩ := h
  have l1 : ct.length = 4 := by obtain ⟨_, _, rfl, -⟩ := ht; rfl
  refine ⟨ct, cb, fun i v hv => ?_, fun i v hv => ?_, ht, hb⟩
  · have hi := (List.getElem?_eq_some_iff.1 hv).1
    rw [List.append_assoc, List.getElem?_append_right (by simp), show 5 + i - ([.int .i64 t.fn, .int .i64 t.at_, .int .i64 t.loop, _, _] : List Value).length = i by simp, List.getElem?_append_left (by omega)]
    exact hv
  · rw [List.getElem?_append_right (by simp; omega)]
    simp only [List.length_append, List.length_cons, List.length_nil, l1]
    rw [show 9 + i - (0 + 1 + 1 + 1 + 1 + 1 + 4) = i by omega]
    exact hv

theorem there_at {w : World} {g : Nat} {cs : Array Value} {t : TypeId} {o n : Nat} (h : w.heap[g]? = some (.cells cs t (0, 0))) (hn : o + n ≤ cs.size) : w.there g o n := fun j hj => by
  refine ⟨?_, frozen_of_row w g (o + j) _ _ h⟩
  rw [cell_of_row w g (o + j) _ _ _ h, Array.getElem?_eq_getElem (by omega)]
  rfl
/-- how all lies when the trace is made -/
structure EndAt (w : World) (tv : Value) (S : CutS) (t : TTrace) (lp : Int) (A1 : Option Addr) (c1 : Nat) (A5 : Option Addr) (n5 : Nat) (l1 l2 : List Value) (z1 z2 : TExit) (W : World) : Prop where
  row : W.heap[w.heap.size + 1 + 1 + 1]? = some (.cells ⟨[.int .i64 t.fn, .int .i64 t.at_, .int .i64 lp, .slice A1 S.ins.length c1, .slice A5 t.exits.length n5] ++ l1 ++ l2⟩ 34 (0, 0))
  cut : CutAt W (w.heap.size + 1 + 1) tv S.at_ (S.fine && t.exits.all (fineX S.at_) && fineX S.at_ t.turn && fineX S.at_ t.back)
  zero : W.heap[w.heap.size + 1]? = some (.cells ⟨zeroTrace⟩ 34 (0, 0))
  ins : W.ownsRow (w.heap.size + 1 + 1 + 1) 42 8 (.slice A1 S.ins.length c1) S.ins.length (S.ins.flatMap insCells)
  exits : SliceTy W (w.heap.size + 1 + 1 + 1) 32 4 (ExitT W (w.heap.size + 1 + 1 + 1)) (.slice A5 t.exits.length n5) (t.exits.map (exitC S.at_))
  turn : ExitT W (w.heap.size + 1 + 1 + 1) l1 z1
  back : ExitT W (w.heap.size + 1 + 1 + 1) l2 z2
  below : Below w.heap.size w W
theorem EndAt.make {w W : World} {tv : Value} {S : CutS} {t : TTrace} {lp : Int} {A1 : Option Addr} {c1 : Nat} {A5 : Option Addr} {n5 : Nat} {l1 l2 : List Value} {z1 z2 : TExit}
    (row : W.heap[w.heap.size + 1 + 1 + 1]? = some (.cells #[.int .i64 t.fn, .int .i64 t.at_, .int .i64 lp, .slice A1 S.ins.length c1, .slice A5 t.exits.length n5, .int .i64 0, .int .i64 0, .slice none 0 0, .slice none 0 0, .int .i64 0, .int .i64 0, .slice none 0 0, .slice none 0 0] 34 (0, 0)))
    (cut : CutAt W (w.heap.size + 1 + 1) tv S.at_ (S.fine && t.exits.all (fineX S.at_) && fineX S.at_ t.turn && fineX S.at_ t.back))
    (zero : W.heap[w.heap.size + 1]? = some (.cells ⟨zeroTrace⟩ 34 (0, 0)))
    (ins : W.ownsRow (w.heap.size + 1 + 1 + 1) 42 8 (.slice A1 S.ins.length c1) S.ins.length (S.ins.flatMap insCells))
    (exits : SliceTy W (w.heap.size + 1 + 1 + 1) 32 4 (ExitT W (w.heap.size + 1 + 1 + 1)) (.slice A5 t.exits.length n5) (t.exits.map (exitC S.at_)))
    (turn : ExitT W (w.heap.size + 1 + 1 + 1) l1 z1) (back : ExitT W (w.heap.size + 1 + 1 + 1) l2 z2) (below : Below w.heap.size w W) :
    EndAt w tv S t lp A1 c1 A5 n5 l1 l2 z1 z2 ((W.setCells (w.heap.size + 1 + 1 + 1) 5 l1).setCells (w.heap.size + 1 + 1 + 1) 9 l2) := by
  have r1 := setCells_row l1 5 W _ row
  have r2 := setCells_row l2 9 _ _ r1
  let Φ : World → Prop := fun W => CutAt W (w.heap.size + 1 + 1) tv S.at_ (S.fine && t.exits.all (fineX S.at_) && fineX S.at_ t.turn && fineX S.at_ t.back) ∧ W.heap[w.heap.size + 1]? = some (.cells ⟨zeroTrace⟩ 34 (0, 0)) ∧
    W.ownsRow (w.heap.size + 1 + 1 + 1) 42 8 (.slice A1 S.ins.length c1) S.ins.length (S.ins.flatMap insCells) ∧ SliceTy W (w.heap.size + 1 + 1 + 1) 32 4 (ExitT W (w.heap.size + 1 + 1 + 1)) (.slice A5 t.exits.length n5) (t.exits.map (exitC S.at_)) ∧
    ExitT W (w.heap.size + 1 + 1 + 1) l1 z1 ∧ ExitT W (w.heap.size + 1 + 1 + 1) l2 z2 ∧ Below w.heap.size w W
  have hΦ : ∀ (W : World) (cs : Array Value) (i : Nat) (u : Value), W.heap[w.heap.size + 1 + 1 + 1]? = some (.cells cs 34 (0, 0)) → Φ W → Φ (W.setCell ⟨w.heap.size + 1 + 1 + 1, i, none⟩ u) := fun W cs i u hr ⟨h1, h2, h3, h4, h5, h6, h7⟩ =>
    ⟨h1.set_far hr (by omega) (by decide) _ _, by rw [heap_setCell_other W _ _ _ (by show _ ≠ w.heap.size + 1 + 1 + 1; omega)]; exact h2, own_far h3 hr (by decide) _ _,
      (h4.set_ hr (by decide) i u).keep (fun _ _ _ _ _ => rfl) (fun _ _ h => h.set_ hr (by decide) (by decide) (by decide) i u), h5.set_ hr (by decide) (by decide) (by decide) _ _, h6.set_ hr (by decide) (by decide) (by decide) _ _, Below.set_at h7 (by omega) _ _⟩
  have hb : Φ W := ⟨cut, zero, ins, exits, turn, back, below⟩
  have hc : Φ ((W.setCells (w.heap.size + 1 + 1 + 1) 5 l1).setCells (w.heap.size + 1 + 1 + 1) 9 l2) := by
    clear_value Φ
    have h1 := setCells_ind Φ hΦ l1 5 W _ row hb
    exact setCells_ind Φ hΦ l2 9 _ _ r1 h1
  obtain ⟨h1, h2, h3, h4, h5, h6, h7⟩ := hc
  refine ⟨?_, h1, h2, h3, h4, h5, h6, h7⟩
  rw [r2]
  obtain ⟨a, b, rfl, -⟩ := turn
  obtain ⟨c, d, rfl, -⟩ := back
  simp [setAll]
theorem MakeT.above {w w1 : World} {B : Nat} {cs : List Value} {m : TMake} (h : MakeT w B cs m) (hk : ∀ k, B ≤ k → k < w.heap.size → w1.heap[k]? = w.heap[k]?) : MakeT w1 B cs m := by
  obtain ⟨v, h1, h2, h3⟩ := h
  exact ⟨v, h1, h2.keep (fun k _ _ hb hr => hk k hb (Array.getElem?_eq_some_iff.1 hr).1) (fun _ _ h => h), h3⟩
theorem ExitT.above {w w1 : World} {B : Nat} {cs : List Value} {x : TExit} (h : ExitT w B cs x) (hk : ∀ k, B ≤ k → k < w.heap.size → w1.heap[k]? = w.heap[k]?) : ExitT w1 B cs x := by
  obtain ⟨s, m, rfl, hs, hm, wx⟩ := h
  exact ⟨s, m, rfl, hs.keep (fun k _ _ hb hr => hk k hb (Array.getElem?_eq_some_iff.1 hr).1) (fun _ _ h => h), hm.keep (fun k _ _ hb hr => hk k hb (Array.getElem?_eq_some_iff.1 hr).1) (fun _ _ h => h.above hk), wx⟩
theorem EndAt.trace {w W : World} {tv : Value} {S : CutS} {t : TTrace} {lp : Int} {A1 : Option Addr} {c1 : Nat} {A5 : Option Addr} {n5 : Nat} {l1 l2 : List Value} {z1 z2 : TExit} (h : EndAt w tv S t lp A1 c1 A5 n5 l1 l2 z1 z2 W) (hw : ∀ x ∈ S.ins, WfIns x)
    (h1 : exitC S.at_ t.turn = z1) (h2 : exitC S.at_ t.back = z2) (hl : (cutEnd t S).loop = lp) (wf : wfi t.fn ∧ wfi t.at_ ∧ wfi lp) {W' : World} (hW : ∀ k, w.heap.size + 1 + 1 + 1 ≤ k → k < W.heap.size → W'.heap[k]? = W.heap[k]?) :
    TraceR W' W'.heap.size ([.int .i64 t.fn, .int .i64 t.at_, .int .i64 lp, .slice A1 S.ins.length c1, .slice A5 t.exits.length n5] ++ l1 ++ l2) (cutEnd t S) := by
  have i0 : SliceTy W (w.heap.size + 1 + 1 + 1) 42 8 InsR (.slice A1 S.ins.length c1) S.ins := sliceTy_of_own (f := insCells) (by decide) (fun _ _ => rfl) (fun x hx => ⟨rfl, hw x hx⟩) h.ins
  have i1 := (i0.keep (w' := W') (fun k _ _ hb hr => hW k hb (Array.getElem?_eq_some_iff.1 hr).1) (fun _ _ h => h)).slice
  have e0 := (h.exits.keep (w' := W') (R' := ExitT W' (w.heap.size + 1 + 1 + 1)) (fun k _ _ hb hr => hW k hb (Array.getElem?_eq_some_iff.1 hr).1) (fun _ _ h => h.above hW)).slice
  have e1 := e0.keep (Nat.le_refl _) (fun _ _ => rfl) (fun _ _ h => ExitT.exit h)
  have x1 := (h.turn.above hW).exit
  have x2 := (h.back.above hW).exit
  refine ⟨_, _, l1, l2, by rw [hl]; rfl, i1, e1, ?_, ?_, wf.1, wf.2.1, by rw [hl]; exact wf.2.2⟩
  · show ExitR _ _ _ (exitC S.at_ t.turn)
    rw [h1]; exact x1
  · show ExitR _ _ _ (exitC S.at_ t.back)
    rw [h2]; exact x2
end Go.Proofs.YtlnkjmgfkpeicaaGreatDoor
