/- fold: the folder in memory: frames. -/
import Derived.Test.YtmccomeihnaanaaDoorOwn
import Derived.Test.YtmccomeihnaanaaDoorFoldM
import Derived.Test.YtmccomeihnaanaaDoorFoldA
import Derived.Test.YtmccomeihnaanaaDoorKindV
import Derived.Test.YtmccomeihnaanaaDoorNone
namespace Go.Proofs.YtmccomeihnaanaaDoor
open Go.RowKit

def setL (xs : List Value) : Nat → List Value → List Value
  | _, [] => xs
  | o, v :: r => setL (xs.set o v) (o + 1) r
theorem setL_len : ∀ (vs xs : List Value) (o : Nat), (setL xs o vs).length = xs.length
  | [], _, _ => rfl
  | v :: r, xs, o => by rw [setL, setL_len r]; simp
theorem setL_ins (y : TIns) : ∀ (xs : List TIns) (i : Nat), i < xs.length → setL (xs.flatMap insCells) (i * 8) (insCells y) = (xs.set i y).flatMap insCells
  | [], _, h => by simp at h
  | x :: l, 0, _ => by simp [insCells, setL]
  | x :: l, i + 1, h => by
    have ih := setL_ins y l i (by simpa using h)
    rw [List.flatMap_cons, List.set_cons_succ, List.flatMap_cons, ← ih]
    have key : ∀ (vs A L : List Value) (o : Nat), setL (A ++ L) (A.length + o) vs = A ++ setL L o vs := by
      intro vs
      induction vs with
      | nil => intro A L o; rfl
      | cons v r ih => intro A L o; rw [setL, setL, List.set_append_right _ _ (by omega), Nat.add_sub_cancel_left, ← ih A (L.set o v) (o + 1)]; rfl
    rw [show (i + 1) * 8 = (insCells x).length + i * 8 by simp [insCells]; omega, key]
theorem own_cells {B g cap n size : Nat} {e : TypeId} : ∀ (vs : List Value) (o : Nat) (w : World) (xs : List Value), w.ownsRow B e size (.slice (some ⟨g, 0, none⟩) n cap) n xs → o + vs.length ≤ n * size → (w.setCells g o vs).ownsRow B e size (.slice (some ⟨g, 0, none⟩) n cap) n (setL xs o vs)
  | [], _, _, _, h, _ => h
  | v :: r, o, w, xs, h, hl => by
    rw [World.setCells, setL]
    simp only [List.length_cons] at hl
    exact own_cells r (o + 1) _ _ (own_cell h (by omega) v) (by omega)
theorem fined_setCells {g : Nat} {w0 : World} : ∀ (vs : List Value) (o : Nat) (w : World), Fined g w0 w → Fined g w0 (w.setCells g o vs)
  | [], _, _, h => h
  | v :: r, o, w, h => by rw [World.setCells]; exact fined_setCells r (o + 1) _ (h.set_ o v)

/-- the folder in block fb: what it was handed (ca: t), the instructions as they are now (cur, in block G), the list tl -/
structure FoldR (w : World) (B fb : Nat) (ca : List Value) (t : TTrace) (uI uT : Value) (cur : List TIns) (tl : List Int) : Prop where
  tr : TraceR w B ca t
  hB : B ≤ fb
  row : w.heap[fb]? = some (.cells ⟨ca ++ ca.set 3 uI ++ [uT]⟩ 119 (0, 0))
  ins : w.ownsRow (fb + 1) 43 8 uI cur.length (cur.flatMap insCells)
  tl_ : w.ownsRow (fb + 1) 3 1 uT tl.length (tl.map (.int .i64))
  wf : ∀ x ∈ cur, WfIns x
  wfl : ∀ v ∈ tl, wfi v
  few : cur.length ≤ 300
  lent : tl.length ≤ 300
section
variable {w w' : World} {B fb : Nat} {ca : List Value} {t : TTrace} {uI uT : Value} {cur : List TIns} {tl : List Int}
theorem FoldR.len (h : FoldR w B fb ca t uI uT cur tl) : ca.length = 13 := by
  have h1 := h.tr.size13
  rw [infoTr13] at h1
  injection h1 with h1
  exact h1.symm
theorem FoldR.lt (h : FoldR w B fb ca t uI uT cur tl) : fb < w.heap.size := (Array.getElem?_eq_some_iff.1 h.row).1
theorem FoldR.head (h : FoldR w B fb ca t uI uT cur tl) : HeadAt w fb ca := fun i v hv => by
  have hi := (List.getElem?_eq_some_iff.1 hv).1
  refine HeadAt.of_row h.row i v ?_
  rw [List.append_assoc, List.getElem?_append_left hi]; exact hv
theorem FoldR.cellI (h : FoldR w B fb ca t uI uT cur tl) : w.cell? ⟨fb, 16, none⟩ = some uI := by
  have hl := h.len
  refine HeadAt.of_row h.row 16 _ ?_
  rw [List.append_assoc, List.getElem?_append_right (by omega), List.getElem?_append_left (by simp; omega), hl, List.getElem?_set_self (by omega)]
theorem FoldR.cellT (h : FoldR w B fb ca t uI uT cur tl) : w.cell? ⟨fb, 26, none⟩ = some uT := by
  have hl := h.len
  refine HeadAt.of_row h.row 26 _ ?_
  rw [List.getElem?_append_right (by simp; omega)]; simp [hl]
theorem FoldR.n {A : Option Addr} {n c : Nat} (h : FoldR w B fb ca t (.slice A n c) uT cur tl) : n = cur.length := by
  obtain ⟨A', c', e⟩ := own_len h.ins
  injection e
theorem FoldR.m {A : Option Addr} {n c : Nat} (h : FoldR w B fb ca t uI (.slice A n c) cur tl) : n = tl.length := by
  obtain ⟨A', c', e⟩ := own_len h.tl_
  injection e
theorem FoldR.gap {G n cG : Nat} (h : FoldR w B fb ca t (.slice (some ⟨G, 0, none⟩) n cG) uT cur tl) : fb < G ∧ G < w.heap.size := by
  obtain ⟨h1, cs, fr, h2⟩ := own_row h.ins G rfl
  exact ⟨by omega, (Array.getElem?_eq_some_iff.1 h2).1⟩
theorem FoldR.apart {G n cG : Nat} (h : FoldR w B fb ca t (.slice (some ⟨G, 0, none⟩) n cG) uT cur tl) : uT.ownBlock ≠ some G ∧ uT.ownBlock ≠ some fb := by
  constructor
  · intro e
    obtain ⟨_, c1, f1, h1⟩ := own_row h.ins G rfl
    obtain ⟨_, c2, f2, h2⟩ := own_row h.tl_ G e
    rw [h1] at h2; injection h2 with h2; injection h2 with _ h2 _; revert h2; decide
  · intro e
    have := (own_row h.tl_ fb e).1
    omega
theorem FoldR.trace (h : FoldR w B fb ca t uI uT cur tl) : TraceR w w.heap.size ca t := h.tr.keep (Nat.le_trans h.hB (Nat.le_of_lt h.lt)) (fun _ _ => rfl)
theorem FoldR.at_ {G n cG : Nat} (h : FoldR w B fb ca t (.slice (some ⟨G, 0, none⟩) n cG) uT cur tl) {v k : Nat} {x : TIns} {u : Value} (hx : cur[v]? = some x) (hu : (insCells x)[k]? = some u) : w.cell? ⟨G, v * 8 + k, none⟩ = some u := by
  have hv := (List.getElem?_eq_some_iff.1 hx).1
  have hk : k < 8 := (List.getElem?_eq_some_iff.1 hu).1
  obtain rfl : n = cur.length := h.n
  rw [World.ownsRow.cellAt h.ins (v * 8 + k) (by omega), flat_ins cur v k x hx hk]
  exact hu
theorem FoldR.below (h : FoldR w B fb ca t uI uT cur tl) (k : Below w.heap.size w w') : FoldR w' B fb ca t uI uT cur tl :=
  ⟨h.tr.keep (Nat.le_refl _) (fun p hp => k.cell (Nat.lt_of_lt_of_le hp (Nat.le_trans h.hB (Nat.le_of_lt h.lt)))), h.hB, (k.block _ h.lt).trans h.row, own_keep h.ins (fun G _ hG => k.block G hG), own_keep h.tl_ (fun G _ hG => k.block G hG), h.wf, h.wfl, h.few, h.lent⟩
/-- a row above that is none of the folder's -/
theorem FoldR.setRow {G n cG : Nat} (h : FoldR w B fb ca t (.slice (some ⟨G, 0, none⟩) n cG) uT cur tl) {g : Nat} (hg : fb < g ∧ g ≠ G ∧ uT.ownBlock ≠ some g) (cs : Array Value) : FoldR (w.setRow g cs) B fb ca t (.slice (some ⟨G, 0, none⟩) n cG) uT cur tl := by
  obtain ⟨h1, h2, h3⟩ := hg
  have hB := h.hB
  exact ⟨h.tr.keep (Nat.le_refl _) (fun p hp => (Below.set_row (Below.refl B w) (by omega) cs).cell hp), hB, (setRow_other w g fb cs (by omega)).trans h.row, own_keep h.ins (fun k e _ => setRow_other w g k cs (fun c => by injection e with e; exact h2 (c.symm.trans e.symm))), own_keep h.tl_ (fun k e _ => setRow_other w g k cs (fun c => h3 (by rw [e, c]))), h.wf, h.wfl, h.few, h.lent⟩
/-- an instruction is put anew -/
theorem FoldR.put {G n cG : Nat} (h : FoldR w B fb ca t (.slice (some ⟨G, 0, none⟩) n cG) uT cur tl) {i : Nat} (hi : i < cur.length) {y : TIns} (hy : WfIns y) : FoldR (w.setCells G (i * 8) (insCells y)) B fb ca t (.slice (some ⟨G, 0, none⟩) n cG) uT (cur.set i y) tl := by
  have hg := h.gap
  have k := fined_setCells (insCells y) (i * 8) w (Fined.refl G w)
  refine ⟨h.tr.keep (Nat.le_refl _) (fun p hp => (k.under (B := fb) (by omega) (by omega)).cell (by have := h.hB; omega)), h.hB, k.row h.row (by omega), ?_, own_keep h.tl_ (fun T e hT => k.block T hT (fun c => h.apart.1 (by rw [e, c]))), fun x hx => ?_, h.wfl, by rw [List.length_set]; exact h.few, h.lent⟩
  · obtain rfl : n = cur.length := h.n
    have h1 := own_cells (insCells y) (i * 8) w _ h.ins (by simp [insCells]; omega)
    rw [setL_ins y cur i hi] at h1
    rw [List.length_set]
    exact h1
  · rcases List.mem_or_eq_of_mem_set hx with hx | rfl
    · exact h.wf x hx
    · exact hy
theorem FoldR.there {G n cG : Nat} (h : FoldR w B fb ca t (.slice (some ⟨G, 0, none⟩) n cG) uT cur tl) {i : Nat} (hi : i < cur.length) : w.there G (i * 8) 8 := by
  obtain ⟨cs, hcs, hl⟩ : ∃ cs, w.heap[G]? = some (.cells cs 43 (0, 0)) ∧ cur.length * 8 ≤ cs.size := by
    rcases h.ins.2 with ⟨e, _⟩ | ⟨g, cap, cs, e, _, hg, h1, _, h3, _⟩
    · cases e
    · injection e with e e2 e3
      injection e with e; injection e with e
      subst e
      exact ⟨cs, hg, by rw [h3]; exact Nat.mul_le_mul_right _ h1⟩
  exact there_at hcs (by omega)
/-- where it is told, is told anew -/
theorem FoldR.setTo {G m cG T n cT : Nat} (h : FoldR w B fb ca t (.slice (some ⟨G, 0, none⟩) m cG) (.slice (some ⟨T, 0, none⟩) n cT) cur tl) {i : Nat} (hi : i < tl.length) {v : Int} (hv : wfi v) : FoldR (w.setCell ⟨T, i, none⟩ (.int .i64 v)) B fb ca t (.slice (some ⟨G, 0, none⟩) m cG) (.slice (some ⟨T, 0, none⟩) n cT) cur (tl.set i v) := by
  obtain ⟨hT1, cs, fr, hT2⟩ := own_row h.tl_ T rfl
  have hap := h.apart
  have hGT : G ≠ T := fun e => hap.1 (by rw [e]; rfl)
  have k : Fined T w (w.setCell ⟨T, i, none⟩ (.int .i64 v)) := (Fined.refl T w).set_ _ _
  obtain rfl : n = tl.length := h.m
  refine ⟨h.tr.keep (Nat.le_refl _) (fun p hp => (k.under (B := fb) (by omega) (by have := h.lt; omega)).cell (by have := h.hB; omega)), h.hB, k.row h.row (by omega), own_keep h.ins (fun g e hg => k.block g hg (fun c => ?_)), ?_, h.wf, fun x hx => ?_, h.few, by rw [List.length_set]; exact h.lent⟩
  · injection e with e
    exact hGT (e.trans c)
  · have h1 := own_cell h.tl_ (k := i) (by omega) (.int .i64 v)
    rw [List.length_set, List.map_set]
    exact h1
  · rcases List.mem_or_eq_of_mem_set hx with hx | rfl
    · exact h.wfl x hx
    · exact hv
theorem FoldR.toAt {T n cT : Nat} (h : FoldR w B fb ca t uI (.slice (some ⟨T, 0, none⟩) n cT) cur tl) {i : Nat} {v : Int} (hi : tl[i]? = some v) : w.cell? ⟨T, i, none⟩ = some (.int .i64 v) ∧ w.frozen? ⟨T, i, none⟩ = false := by
  obtain rfl : n = tl.length := h.m
  have hil := (List.getElem?_eq_some_iff.1 hi).1
  constructor
  · rw [World.ownsRow.cellAt h.tl_ i (by omega), List.getElem?_map, hi]; rfl
  · rcases h.tl_.2 with ⟨e, _⟩ | ⟨g, cap, cs, e, _, hg, _⟩
    · cases e
    · injection e with e; injection e with e; injection e with e
      subst e
      exact frozen_of_row w _ i _ _ hg
theorem FoldR.toSlice (h : FoldR w B fb ca t uI uT cur tl) : SliceR w w.heap.size 1 IntR uT tl := by
  obtain ⟨A, c, rfl⟩ := own_len h.tl_
  rcases h.tl_.2 with ⟨e0, h0⟩ | ⟨g, cap, cs, e0, hb, hg, h1, h2, h3, h5⟩
  · have : tl = [] := List.length_eq_zero_iff.1 h0
    subst this
    rw [e0]
    exact SliceR.nil _ _ _ _
  · injection e0 with e0 e1 e2
    subst e0; subst e2
    refine ⟨_, _, rfl, h1, h2, fun hp => ⟨g, 0, rfl, (Array.getElem?_eq_some_iff.1 hg).1, fun i x hi => ?_⟩⟩
    have hi' := (List.getElem?_eq_some_iff.1 hi).1
    refine ⟨[.int .i64 x], rfl, ⟨rfl, h.wfl x (List.mem_of_getElem? hi)⟩, fun k u hk => ?_⟩
    match k, hk with
    | 0, hk =>
      have : u = .int .i64 x := by simpa using hk.symm
      subst this
      rw [show 0 + i * 1 + 0 = i by omega, World.ownsRow.cellAt h.tl_ i (by omega), List.getElem?_map, hi]; rfl
/-- where there is an instruction, the row is -/
theorem FoldR.open_ (h : FoldR w B fb ca t uI uT cur tl) (hne : 0 < cur.length) : ∃ G c, uI = .slice (some ⟨G, 0, none⟩) cur.length c := by
  rcases h.ins.2 with ⟨_, h0⟩ | ⟨g, cap, cs, e, _⟩
  · omega
  · exact ⟨g, cap, e⟩
theorem FoldR.openT (h : FoldR w B fb ca t uI uT cur tl) (hne : 0 < tl.length) : ∃ T c, uT = .slice (some ⟨T, 0, none⟩) tl.length c := by
  rcases h.tl_.2 with ⟨_, h0⟩ | ⟨g, cap, cs, e, _⟩
  · omega
  · exact ⟨g, cap, e⟩
/-- all else is as it was -/
theorem FoldR.keep (h : FoldR w B fb ca t uI uT cur tl) {w'' : World} (k : Below (fb + 1) w w'') (h1 : w''.ownsRow (fb + 1) 43 8 uI cur.length (cur.flatMap insCells)) (h2 : w''.ownsRow (fb + 1) 3 1 uT tl.length (tl.map (.int .i64))) : FoldR w'' B fb ca t uI uT cur tl :=
  ⟨h.tr.keep (Nat.le_refl _) (fun p hp => k.cell (by have := h.hB; omega)), h.hB, (k.block _ (by omega)).trans h.row, h1, h2, h.wf, h.wfl, h.few, h.lent⟩
end
end Go.Proofs.YtmccomeihnaanaaDoor
