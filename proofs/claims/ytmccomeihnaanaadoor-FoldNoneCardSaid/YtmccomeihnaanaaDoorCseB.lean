/- cse.Do: frames. -/
import Derived.Test.YtmccomeihnaanaaDoorCseA
namespace Go.Proofs.YtmccomeihnaanaaDoor
open Go.RowKit Go.Maps

theorem mk_ints (n : Nat) (hn : n ≤ 600) (W : World) : (Instr.makeSlice 38 (.int .i64 (n : Int)) (.int .i64 (n : Int))).run Tryd.prog W = .ok (.slice (some ⟨W.heap.size, 0, none⟩) n n) (W.alloc (.cells ⟨List.replicate n (.int .i64 0)⟩ 3)) := by
  obtain ⟨i0, hi, hz0, hz1, hz2⟩ := info_parts infoInt
  have h := run_make (P := Tryd.prog) W 38 3 i0 (.int .i64 0) Tryd.underlying38 hi hz0 .i64 .i64 n n (by omega) (Int.le_refl _) (by rw [hz2]; omega) (by omega)
  rw [Int.toNat_natCast, hz1, Nat.mul_one] at h
  rw [h, show (Value.int .i64 0).cells = #[.int .i64 0] from rfl, madeCells_one]
/-- the row of a slice of n numbers, of which the first are told -/
def toRow (tl : List Int) (n : Nat) : List Value := (tl ++ List.replicate (n - tl.length) 0).map (.int .i64)
theorem toRow_zero (n : Nat) : toRow [] n = List.replicate n (.int .i64 0) := by simp [toRow]
theorem toRow_full {tl : List Int} {n : Nat} (h : tl.length = n) : toRow tl n = tl.map (.int .i64) := by
  unfold toRow; rw [h, Nat.sub_self]; simp
theorem toRow_at {tl : List Int} {n k : Nat} (h : k < tl.length) : (toRow tl n)[k]? = some (.int .i64 (tl.getD k 0)) := by
  unfold toRow
  rw [List.getElem?_map, List.getElem?_append_left h, List.getElem?_eq_getElem h, List.getD_eq_getElem?_getD, List.getElem?_eq_getElem h]
  rfl
theorem toRow_next {tl : List Int} {n : Nat} (h : tl.length < n) : toRow tl n = tl.map (.int .i64) ++ .int .i64 0 :: List.replicate (n - tl.length - 1) (.int .i64 0) := by
  unfold toRow
  obtain ⟨m, hm⟩ : ∃ m, n - tl.length = m + 1 := ⟨n - tl.length - 1, by omega⟩
  rw [hm, List.replicate_succ]
  simp
theorem toRow_snoc {tl : List Int} {n : Nat} (h : tl.length < n) (v : Int) : toRow (tl ++ [v]) n = tl.map (.int .i64) ++ .int .i64 v :: List.replicate (n - tl.length - 1) (.int .i64 0) := by
  unfold toRow
  rw [List.length_append, List.length_cons, List.length_nil, show n - (tl.length + (0 + 1)) = n - tl.length - 1 by omega]
  simp
theorem toRow_push {tl : List Int} {n j : Nat} (h : tl.length < n) (hj : j = tl.length) (v : Int) : (⟨toRow tl n⟩ : Array Value).setIfInBounds j (.int .i64 v) = ⟨toRow (tl ++ [v]) n⟩ := by
  apply Array.toList_inj.1
  rw [Array.toList_setIfInBounds]
  show (toRow tl n).set j _ = toRow _ n
  rw [toRow_next h, toRow_snoc h, List.set_append_right _ _ (by simp [hj])]
  simp [hj]
theorem toRow_again {tl : List Int} {n j : Nat} (h : tl.length < n) (hj : j = tl.length) (u v : Int) : (⟨toRow (tl ++ [u]) n⟩ : Array Value).setIfInBounds j (.int .i64 v) = ⟨toRow (tl ++ [v]) n⟩ := by
  apply Array.toList_inj.1
  rw [Array.toList_setIfInBounds]
  show (toRow _ n).set j _ = toRow _ n
  rw [toRow_snoc h, toRow_snoc h, List.set_append_right _ _ (by simp [hj])]
  simp [hj]
theorem toRow_len {tl : List Int} {n : Nat} (h : tl.length ≤ n) : (toRow tl n).length = n := by simp [toRow]; omega
section
variable {H : Type} {P : Program} {k : TypeId} {R : Value → Option (DataW H × List MemPlace)} {b n : Nat} {D : DataW H} {w w' : World}
theorem map_set (h : w.ownsMap P k R b n D) {g : Nat} (hg : b ≠ g) (i : Nat) (u : Value) : (w.setCell ⟨g, i, none⟩ u).ownsMap P k R b n D :=
  h.kept (row := some g) ⟨rfl, rfl, rfl, by simp [World.setCell], fun j _ hk => Below.heap_setCell _ _ _ _ (fun e => hk (by rw [e]))⟩ (by simp; exact hg)
theorem map_below (h : w.ownsMap P k R b n D) (hk : Below w.heap.size w w') : w'.ownsMap P k R b n D :=
  h.kept (row := none) ⟨hk.os, hk.tape, hk.output, hk.size, fun j hj _ => hk.block j hj⟩ (by simp)
theorem map_fined {bc : Nat} (h : w.ownsMap P k R b n D) (hk : Fined bc w w') (hb : b ≠ bc) : w'.ownsMap P k R b n D :=
  h.kept (row := some bc) ⟨hk.os, hk.tape, hk.output, hk.size, fun j hj hne => hk.block j hj (fun e => hne (by rw [e]))⟩ (by simp; exact hb)
end
theorem Kept2.grown_ {a b : Nat} {w w1 w2 : World} (h : Kept2 a b w w1) (hg : w1.grownBy w2 (some a)) : Kept2 a b w w2 :=
  ⟨hg.os.trans h.os, hg.tape.trans h.tape, hg.output.trans h.output, Nat.le_trans h.size hg.size, fun i hi hc hd => (hg.block i (Nat.lt_of_lt_of_le hi h.size) (by simp; omega)).trans (h.block i hi hc hd)⟩
theorem Kept2.fined_ {a b c : Nat} {w w1 w2 : World} (h : Kept2 a b w w1) (hf : Fined c w1 w2) (hc : w.heap.size ≤ c) : Kept2 a b w w2 :=
  ⟨hf.os.trans h.os, hf.tape.trans h.tape, hf.output.trans h.output, Nat.le_trans h.size hf.size, fun i hi h1 h2 => (hf.block i (Nat.lt_of_lt_of_le hi h.size) (by omega)).trans (h.block i hi h1 h2)⟩
theorem Kept2.below {a b B : Nat} {w w1 : World} (h : Kept2 a b w w1) (ha : B ≤ a) (hb : B ≤ b) (hB : B ≤ w.heap.size) : Below B w w1 :=
  ⟨h.os, h.tape, h.output, h.size, fun i hi => h.block i (by omega) (by omega) (by omega)⟩
/-- numbers in a row of their own -/
theorem sliceR_of_row {w : World} {g : Nat} {xs : List Int} (h : w.heap[g]? = some (.cells ⟨xs.map (.int .i64)⟩ 3 (0, 0))) (hw : ∀ x ∈ xs, wfi x) (hl : xs.length ≤ maxLen) : SliceR w w.heap.size 1 IntR (.slice (some ⟨g, 0, none⟩) xs.length xs.length) xs := by
  refine ⟨some ⟨g, 0, none⟩, xs.length, rfl, Nat.le_refl _, hl, fun _ => ⟨g, 0, rfl, (Array.getElem?_eq_some_iff.1 h).1, fun i x hi => ⟨[.int .i64 x], rfl, ⟨rfl, hw x (List.mem_of_getElem? hi)⟩, fun j u hj => ?_⟩⟩⟩
  match j, hj with
  | 0, hj =>
    have : u = .int .i64 x := by simpa using hj.symm
    subst this
    rw [show 0 + i * 1 + 0 = i by omega, cell_of_row w g i _ _ _ h]
    simp [hi]
def cseNext (s : CseS) (j : Int) (ko : Option Key) : CseS :=
  match ko with
  | none => ⟨s.seen, s.tl ++ [j]⟩
  | some k => match seenM k s.seen with
    | some f => ⟨s.seen, s.tl ++ [f]⟩
    | none => ⟨(k, j) :: s.seen, s.tl ++ [j]⟩
theorem cseStep_next (loop : Int) (s : CseS) (x : TIns) : cseStep loop s x = cseNext s (s.tl.length : Int) (keyM (cseX s x) (decide ((s.tl.length : Int) < loop))) := rfl
/-- an instruction's operands, the first m of them as they are now -/
def putT (tl : List Int) (m i : Nat) (v : Int) : Int := if i < m then tl.getD v.toNat 0 else v
def xCells (tl : List Int) (m : Nat) (x : TIns) : List Value := [.int .i64 x.op, .int .i64 (putT tl m 0 x.a), .int .i64 (putT tl m 1 x.b), .int .i64 (putT tl m 2 x.c), .int .i64 x.n, .int .i64 x.exit, .int .i64 x.k.kind, .int .i64 x.k.n]
theorem xCells_zero (tl : List Int) (x : TIns) : xCells tl 0 x = insCells x := by simp [xCells, putT, insCells]
theorem asks_len (x : TIns) : (asksM x).length ≤ 3 := by unfold asksM; simp; omega
theorem asks_at {x : TIns} {m : Nat} {v : Int} (h : (asksM x)[m]? = some v) : [x.a, x.b, x.c][m]? = some v := by
  unfold asksM at h
  rw [List.getElem?_take] at h
  split at h
  · exact h
  · cases h
theorem xCells_cell {tl : List Int} {x : TIns} {m : Nat} {v : Int} (h : [x.a, x.b, x.c][m]? = some v) : (xCells tl m x)[1 + m]? = some (.int .i64 v) := by
  match m, h with
  | 0, h => simp at h; subst h; simp [xCells, putT]
  | 1, h => simp at h; subst h; simp [xCells, putT]
  | 2, h => simp at h; subst h; simp [xCells, putT]
  | n + 3, h => simp at h
theorem xCells_set {tl : List Int} {x : TIns} {m : Nat} {v : Int} (h : [x.a, x.b, x.c][m]? = some v) : (⟨xCells tl m x⟩ : Array Value).setIfInBounds (1 + m) (.int .i64 (tl.getD v.toNat 0)) = ⟨xCells tl (m + 1) x⟩ := by
  apply Array.toList_inj.1
  rw [Array.toList_setIfInBounds]
  show (xCells tl m x).set (1 + m) _ = xCells tl (m + 1) x
  match m, h with
  | 0, h => simp at h; subst h; simp [xCells, putT]
  | 1, h => simp at h; subst h; simp [xCells, putT]
  | 2, h => simp at h; subst h; simp [xCells, putT]
  | n + 3, h => simp at h
theorem xCells_all (s : CseS) (x : TIns) : xCells s.tl (asksM x).length x = insCells (cseX s x) := by
  unfold xCells insCells cseX putM putT
  obtain ⟨a0, a3, -⟩ := asks_bd x.op
  have hl : ((asksM x).length : Int) = (formM x.op).asks := by unfold asksM; simp; omega
  dsimp only
  simp only [show (0 < (asksM x).length) ↔ (0 < (formM x.op).asks) by omega, show (1 < (asksM x).length) ↔ (1 < (formM x.op).asks) by omega, show (2 < (asksM x).length) ↔ (2 < (formM x.op).asks) by omega]
theorem cseX_wf {s : CseS} {x : TIns} (hx : WfIns x) (hs : ∀ v ∈ s.tl, wfi v) : WfIns (cseX s x) := by
  obtain ⟨h0, ha, hb, hc, h4⟩ := hx
  have b : ∀ v : Int, wfi (s.tl.getD v.toNat 0) := fun v => by
    rw [List.getD_eq_getElem?_getD]
    cases e : s.tl[v.toNat]? with
    | none => unfold wfi; simp
    | some u => exact hs u (List.mem_of_getElem? e)
  refine ⟨h0, ?_, ?_, ?_, h4⟩
  · unfold cseX putM; dsimp only; split
    · exact b _
    · exact ha
  · unfold cseX putM; dsimp only; split
    · exact b _
    · exact hb
  · unfold cseX putM; dsimp only; split
    · exact b _
    · exact hc
end Go.Proofs.YtmccomeihnaanaaDoor
