/- sink: sunk. -/
import Derived.Test.YtlnkjmgfkpeicaaGreatDoorSinkH
import Derived.Test.YtlnkjmgfkpeicaaGreatDoorAgain
import Derived.StillTailTactics
set_option linter.all false
namespace Go.Proofs.YtlnkjmgfkpeicaaGreatDoor
open Go.RowKit

/-- the exits' row uX, a number of exits done -/
structure SunkR (w : World) (B : Nat) (uX : Value) (t : TTrace) (D : List (Int × Value)) (rows : List (List Value)) (ex : List TExit) : Prop where
  own : w.ownsRow B 32 4 uX t.exits.length (rows.flatMap id)
  rl : rows.length = t.exits.length
  four : ∀ r ∈ rows, r.length = 4
  el : ex.length = t.exits.length
  rd : ∀ (i : Nat) cs x, rows[i]? = some cs → ex[i]? = some x → (ExitR w B cs x ∧ t.exits[i]? = some x) ∨
    ((∃ d ∈ D, d.1 = (i : Int)) ∧ ExitX w B cs x ∧ ∃ y, t.exits[i]? = some y ∧ x.sets = y.sets ∧ x.makes.length ≤ y.makes.length + 1 ∧ ∀ m ∈ x.makes, m.vals.length ≤ 1000)
theorem SunkR.to {w : World} {B : Nat} {uX : Value} {t : TTrace} {D : List (Int × Value)} {rows : List (List Value)} {ex : List TExit} (h : SunkR w B uX t D rows ex) (hf : FitS t) : ExitsTo t.exits ex := by
  refine ⟨h.el, fun i x hx => ?_⟩
  have hi : i < rows.length := by rw [h.rl, ← h.el]; exact (List.getElem?_eq_some_iff.1 hx).1
  rcases h.rd i _ x (List.getElem?_eq_getElem hi) hx with ⟨_, a⟩ | ⟨_, _, y, a, b, c, d⟩
  · exact ⟨x, a, rfl, by omega, (hf.exits x (List.mem_of_getElem? a)).2.2⟩
  · exact ⟨y, a, b, c, d⟩
theorem flat_at4 : ∀ (rows : List (List Value)) (i k : Nat) (r : List Value), (∀ r ∈ rows, r.length = 4) → rows[i]? = some r → k < 4 → (rows.flatMap id)[i * 4 + k]? = r[k]?
  | [], _, _, _, _, h, _ => by simp at h
  | y :: l, 0, k, r, h4, h, hk => by
    obtain rfl : y = r := by simpa using h
    have := h4 y (by simp)
    rw [List.flatMap_cons, List.getElem?_append_left (by show 0 * 4 + k < y.length; omega)]; simp
  | y :: l, i + 1, k, r, h4, h, hk => by
    have := h4 y (by simp)
    rw [List.flatMap_cons, List.getElem?_append_right (by show y.length ≤ _; omega), show (i + 1) * 4 + k - (id y).length = i * 4 + k by show (i + 1) * 4 + k - y.length = _; omega]
    exact flat_at4 l i k r (fun r hr => h4 r (by simp [hr])) (by simpa using h) hk
theorem SunkR.at_ {w : World} {B X cX : Nat} {t : TTrace} {D : List (Int × Value)} {rows : List (List Value)} {ex : List TExit} (h : SunkR w B (.slice (some ⟨X, 0, none⟩) t.exits.length cX) t D rows ex) {i : Nat} {r : List Value} (hr : rows[i]? = some r) : w.rangeAt X (i * 4) r := fun k u hu => by
  have hi := (List.getElem?_eq_some_iff.1 hr).1
  have hl := h.rl
  have h4 := h.four r (List.mem_of_getElem? hr)
  have hk : k < 4 := by rw [← h4]; exact (List.getElem?_eq_some_iff.1 hu).1
  rw [World.ownsRow.cellAt h.own (i * 4 + k) (by omega), flat_at4 rows i k r h.four hr hk]
  exact hu
theorem SunkR.read {w : World} {B : Nat} {uX : Value} {t : TTrace} {D : List (Int × Value)} {rows : List (List Value)} {ex : List TExit} (h : SunkR w B uX t D rows ex) (hw : B ≤ w.heap.size) : SliceR w w.heap.size 4 (ExitR w w.heap.size) uX ex := by
  rcases h.own.2 with ⟨e0, h0⟩ | ⟨g, cap, cur, e0, hb, hg, hc1, hc2, hc3, hc5⟩
  · have : ex = [] := List.length_eq_zero_iff.1 (by rw [h.el]; exact h0)
    rw [this, e0]
    exact SliceR.nil _ _ _ _
  · subst e0
    refine ⟨_, _, by rw [h.el], by rw [h.el]; exact hc1, hc2, fun hp => ⟨g, 0, rfl, (Array.getElem?_eq_some_iff.1 hg).1, fun i x hi => ?_⟩⟩
    have hir : i < rows.length := by rw [h.rl, ← h.el]; exact (List.getElem?_eq_some_iff.1 hi).1
    have hr := List.getElem?_eq_getElem hir
    refine ⟨rows[i], h.four _ (List.mem_of_getElem? hr), ?_, fun k u hu => by rw [Nat.zero_add]; exact h.at_ hr k u hu⟩
    rcases h.rd i _ x hr hi with ⟨a, _⟩ | ⟨_, a, _⟩
    · exact a.keep hw (fun _ _ => rfl)
    · exact a.read hw
theorem SunkR.keep {w w' : World} {B : Nat} {uX : Value} {t : TTrace} {D : List (Int × Value)} {rows : List (List Value)} {ex : List TExit} (h : SunkR w B uX t D rows ex) (hB : ∀ p : Addr, p.block < B → w'.cell? p = w.cell? p) (hk : ∀ k cs ty fr, k < w.heap.size → w.heap[k]? = some (.cells cs ty fr) → w'.heap[k]? = w.heap[k]?) : SunkR w' B uX t D rows ex :=
  ⟨row_stays h.own (fun G e => by obtain ⟨a, b, cs, d⟩ := row_ty h.own e; exact hk G cs _ _ b d), h.rl, h.four, h.el, fun i cs x hr hx => by
    rcases h.rd i cs x hr hx with ⟨a, b⟩ | ⟨a, b, c⟩
    · exact .inl ⟨a.keep (Nat.le_refl _) hB, b⟩
    · exact .inr ⟨a, b.keep hB (fun k h1 ⟨cs, h2⟩ => hk k cs _ _ h1 h2) (fun k h1 ⟨cs, h2⟩ => hk k cs _ _ h1 h2), c⟩⟩
/-- an exit is put anew -/
theorem SunkR.put {w : World} {B X cX : Nat} {t : TTrace} {D : List (Int × Value)} {rows : List (List Value)} {ex : List TExit} (h : SunkR w B (.slice (some ⟨X, 0, none⟩) t.exits.length cX) t D rows ex) {i : Nat} (hi : i < t.exits.length) {d : Int × Value} (hd : d.1 = (i : Int)) {a b : Int} {sv mv : Value} {x y : TExit}
    (hx : ExitX w B [.int .i64 a, .int .i64 b, sv, mv] x) (hy : t.exits[i]? = some y) (hs : x.sets = y.sets) (hm : x.makes.length ≤ y.makes.length + 1) (hv : ∀ m ∈ x.makes, m.vals.length ≤ 1000) :
    ∃ rows' ex', SunkR (w.setCells X (i * 4) [.int .i64 a, .int .i64 b, sv, mv]) B (.slice (some ⟨X, 0, none⟩) t.exits.length cX) t (D ++ [d]) rows' ex' := by
  have k := fined_setCells [.int .i64 a, .int .i64 b, sv, mv] (i * 4) w (Fined.refl X w)
  obtain ⟨hX1, hX2, xs, hX3⟩ := row_ty h.own rfl
  have hl := h.rl
  have hel := h.el
  have hB : ∀ p : Addr, p.block < B → (w.setCells X (i * 4) [.int .i64 a, .int .i64 b, sv, mv]).cell? p = w.cell? p := fun p hp => (k.under (B := B) hX1 (by omega)).cell hp
  have hk : ∀ (ty : TypeId), ty ≠ 32 → ∀ j, j < w.heap.size → (∃ cs, w.heap[j]? = some (.cells cs ty (0, 0))) → (w.setCells X (i * 4) [.int .i64 a, .int .i64 b, sv, mv]).heap[j]? = w.heap[j]? := fun ty ht j h1 ⟨cs, h2⟩ => k.block j h1 (fun e => by
    subst e
    rw [hX3] at h2
    injection h2 with h2
    injection h2 with _ h2
    exact ht h2.symm)
  have key : ∀ (vs : List Value) (rs : List (List Value)) (i : Nat), (∀ r ∈ rs, r.length = 4) → i < rs.length → vs.length = 4 → setL (rs.flatMap id) (i * 4) vs = (rs.set i vs).flatMap id := by
    intro vs rs
    have kk : ∀ (vs A L : List Value) (o : Nat), setL (A ++ L) (A.length + o) vs = A ++ setL L o vs := by
      intro vs
      induction vs with
      | nil => intro A L o; rfl
      | cons v r ih => intro A L o; rw [setL, setL, List.set_append_right _ _ (by omega), Nat.add_sub_cancel_left, ← ih A (L.set o v) (o + 1)]; rfl
    induction rs with
    | nil => intro i _ h; simp at h
    | cons r rs ih =>
      intro i h4 hi hv
      have hr := h4 r (by simp)
      cases i with
      | zero =>
        match r, hr, vs, hv with
        | [r0, r1, r2, r3], _, [v0, v1, v2, v3], _ => simp [setL]
      | succ i =>
        have h9 := ih i (fun r hr => h4 r (by simp [hr])) (by simpa using hi) hv
        rw [List.flatMap_cons, List.set_cons_succ, List.flatMap_cons, ← h9, show (i + 1) * 4 = (id r).length + i * 4 by show _ = r.length + _; omega, kk]
  refine ⟨rows.set i [.int .i64 a, .int .i64 b, sv, mv], ex.set i x, ⟨?_, by rw [List.length_set]; exact hl, fun r hr => ?_, by rw [List.length_set]; exact hel, fun j cs z hr hz => ?_⟩⟩
  · have h1 := own_setL [.int .i64 a, .int .i64 b, sv, mv] (i * 4) w _ h.own (by simp; omega)
    rw [key _ rows i h.four (by omega) rfl] at h1
    exact h1
  · rcases List.mem_or_eq_of_mem_set hr with hr | rfl
    · exact h.four r hr
    · rfl
  · by_cases e : i = j
    · subst e
      rw [List.getElem?_set_self (by omega)] at hr hz
      injection hr with hr
      injection hz with hz
      subst hr; subst hz
      exact .inr ⟨⟨d, by simp, hd⟩, hx.keep hB (hk _ (by decide)) (hk _ (by decide)), y, hy, hs, hm, hv⟩
    · rw [List.getElem?_set_ne e] at hr hz
      rcases h.rd j cs z hr hz with ⟨p, q⟩ | ⟨⟨d', p1, p2⟩, q, r⟩
      · exact .inl ⟨p.keep (Nat.le_refl _) hB, q⟩
      · exact .inr ⟨⟨d', by simp [p1], p2⟩, q.keep hB (hk _ (by decide)) (hk _ (by decide)), r⟩
/-- the one that is sunk is told free, in memory -/
theorem freed_cells (x : TIns) : ∀ (xs : List TIns) (i : Nat), xs[i]? = some x → ((xs.flatMap insCells).set (i * 8) (.int .i64 18)).set (i * 8 + 4) (.int .i64 0) = (xs.set i { x with op := 18, n := 0 }).flatMap insCells
  | [], _, h => by simp at h
  | y :: l, 0, h => by
    obtain rfl : y = x := by simpa using h
    simp [insCells]
  | y :: l, i + 1, h => by
    have ih := freed_cells x l i (by simpa using h)
    rw [List.flatMap_cons, List.set_cons_succ, List.flatMap_cons, ← ih, List.set_append_right _ _ (by simp [insCells]; omega), List.set_append_right _ _ (by simp [insCells]; omega)]
    congr 3 <;> simp [insCells] <;> omega
def SunkPost (B : Nat) (t : TTrace) (w : World) (e : Ending) (w' : World) : Prop :=
  ∃ (u : TTrace) (er : Int) (cs : List Value), e = .returned (.tuple #[.agg ⟨cs⟩, .int .i64 er]) ∧ TraceR w' w'.heap.size cs u ∧ Below B w w' ∧ (∀ w2 : World, (∀ k, w.heap.size ≤ k → k < w'.heap.size → w2.heap[k]? = w'.heap[k]?) → TraceR w2 w2.heap.size cs u) ∧ (er = 0 → FitS u ∧ news u.ins < news t.ins ∧ Keeps t u)
section
variable {B sb mb c : Nat} {kind : Int} {ca : List Value} {t : TTrace}
set_option maxHeartbeats 16000000 in
set_option maxRecDepth 100000 in
theorem sunk_c (s : SinkS) (w : World) (h : SinkR w B sb mb c kind ca t s) (hc : ∃ x, t.ins[c]? = some x ∧ x.op = 16) (hb : ∀ x ∈ t.back.sets, x.val ≠ c) :
    Calls Tryz.prog 21 #[.pointer (some ⟨sb, 0, none⟩)] w (SunkPost B t w) := by
  have hlt := h.lt
  obtain ⟨xc, hxc, hxo⟩ := hc
  have hcl : c < t.ins.length := (List.getElem?_eq_some_iff.1 hxc).1
  have hcli : (c : Int) < t.ins.length := by omega
  have h200 := h.fit.exitsLen
  have HC : Hid (∃ x, t.ins[c]? = some x ∧ x.op = 16) := ⟨xc, hxc, hxo⟩
  have HBK := Lib.hid hb
  have HSZ := Lib.hid h.tr.size13
  obtain ⟨Ae, ne, p4, q4⟩ := h.tr.at4
  obtain ⟨A1, n1, A2, n2, A3, n3, A4, n4, A5, n5, A6, n6, hca, -⟩ := h.tr.cells
  subst hca
  obtain ⟨rfl, rfl⟩ : A2 = Ae ∧ n2 = ne := by simp at p4; exact p4
  obtain ⟨rows, hr1, hr2, hr3⟩ := q4.raw
  have hones : ∀ r ∈ rows, ∀ u ∈ r, u.oneCell' = true := fun r hr u hu => by
    obtain ⟨i, hi⟩ := List.getElem?_of_mem hr
    have hil := (List.getElem?_eq_some_iff.1 hi).1
    obtain ⟨c, h1, h2⟩ := hr3 i _ (List.getElem?_eq_getElem (by omega))
    rw [hi] at h1
    injection h1 with h1
    subst h1
    obtain ⟨s, m, rfl, ⟨_, _, rfl, -⟩, ⟨_, _, rfl, -⟩, -⟩ := h2
    simp at hu; rcases hu with rfl | rfl | rfl | rfl <;> rfl
  have HS := Lib.hid h
  have HR3 := Lib.hid hr3
  have HBw : Hid (B ≤ w.heap.size) := Nat.le_trans h.hB (Nat.le_of_lt hlt)
  have CL : Hid (∀ W, Below w.heap.size w W → Calls Tryz.prog 37 #[.slice A2 t.exits.length n2] W (fun e w' => ∃ u, e = .returned u ∧ w'.ownsRow W.heap.size 32 4 u t.exits.length (rows.flatMap id) ∧ Below W.heap.size W w')) := fun W k => by
    have := clone_ext (.slice A2 t.exits.length n2) rows W (hr2.keep (Nat.le_trans HBw.out k.size) (fun _ hp => k.cell (Nat.lt_of_lt_of_le hp HBw.out)) (fun _ _ h => h)) hones (by rw [hr1]; omega)
    rw [hr1] at this
    exact this
  have HR1 := Lib.hid hr1
  have HR4 : Hid (∀ r ∈ rows, r.length = 4) := fun r hr => by obtain ⟨cs, _, h⟩ := hr2.mem hr; exact h
  obtain ⟨O, cO, eO⟩ := h.openO (by omega)
  have EO := Lib.hid eO
  have R0 := Lib.hid h.head.range
  have e18 : w.cell? ⟨sb, 18, none⟩ = some (.slice (some ⟨O, 0, none⟩) t.ins.length cO) := h.cellAt (k := 5) (by rw [eO]; rfl)
  clear h hxc hxo hb p4 q4 hr1 hr2 hr3 hones eO
  go_enter Tryz.func21, Tryz.ntmps21
  go_upto_region 2 with (first
    | (refine wpList_load_mid rfl 34 _ rfl sb 0 rfl _ _ (fun a u ha => (Below.cell ((below_one w _)) (cell_lt (R0.out a u ha))).trans (R0.out a u ha)) Tryz.underlying34 rfl HSZ.out ?_)
    | fail)
  generalize hw1 : World.alloc (World.alloc _ _) _ = w1
  have K1 : Hid (Below w.heap.size w w1) := by rw [← hw1]; exact below_two' _ _ _
  have Z1 : Hid (w1.heap[w.heap.size]? = some (.cells ⟨[.int .i64 0, .int .i64 0, .int .i64 0, .slice none 0 0, .slice none 0 0, .int .i64 0, .int .i64 0, .slice none 0 0, .slice none 0 0, .int .i64 0, .int .i64 0, .slice none 0 0, .slice none 0 0]⟩ 34 (0, 0))) := by rw [← hw1]; exact heap_old (heap_last w _) _
  have B1 : Hid (w1.heap[w.heap.size + 1]? = some (.cells ⟨[.int .i64 t.fn, .int .i64 t.at_, .int .i64 t.loop, .slice A1 t.ins.length n1, .slice A2 t.exits.length n2, .int .i64 t.turn.at_, .int .i64 t.turn.steps, .slice A3 t.turn.sets.length n3, .slice A4 t.turn.makes.length n4, .int .i64 t.back.at_, .int .i64 t.back.steps, .slice A5 t.back.sets.length n5, .slice A6 t.back.makes.length n6]⟩ 34 (0, 0))) := by rw [← hw1]; exact heap_two _ _ _
  have e18' : w1.cell? ⟨sb, 18, none⟩ = some (.slice (some ⟨O, 0, none⟩) t.ins.length cO) := (K1.out.cell hlt).trans e18
  obtain ⟨tb, htb⟩ : ∃ tb, tb = w.heap.size + 1 := ⟨_, rfl⟩
  rw [← htb] at B1
  rw [← htb]
  have HTB := Lib.hid htb
  have hwtb : w.heap.size < tb := by omega
  have t3 := HeadAt.of_row B1.out 3 _ rfl
  have f3 := frozen_of_row w1 tb 3 _ _ B1.out
  clear hw1 htb e18 R0
  go_upto_region 3 with fail
  generalize hw2 : World.setCell _ _ _ = w2
  have L2 : Hid (Fined tb w1 w2) := by rw [← hw2]; exact (Fined.refl tb w1).set_ _ _
  have B2 : Hid (w2.heap[tb]? = some (.cells ⟨[.int .i64 t.fn, .int .i64 t.at_, .int .i64 t.loop, .slice (some ⟨O, 0, none⟩) t.ins.length cO, .slice A2 t.exits.length n2, .int .i64 t.turn.at_, .int .i64 t.turn.steps, .slice A3 t.turn.sets.length n3, .slice A4 t.turn.makes.length n4, .int .i64 t.back.at_, .int .i64 t.back.steps, .slice A5 t.back.sets.length n5, .slice A6 t.back.makes.length n6]⟩ 34 (0, 0))) := by rw [← hw2, heap_setCell_same w1 tb 3 _ _ _ B1.out]; rfl
  have K2 : Hid (Below w.heap.size w w2) := K1.out.trans (L2.out.under (by omega) K1.out.size)
  have Z2 := Lib.hid (L2.out.row Z1.out (by omega))
  have t4 := HeadAt.of_row B2.out 4 _ rfl
  clear hw2 t3 f3 e18' L2 B1 Z1 K1
  go_wp2_with fail
  refine (CL.out w2 K2.out).mono ?_
  rintro e w3 ⟨u, rfl, hu, k3⟩
  obtain ⟨A9, c9, rfl⟩ := own_len hu
  have K3 : Hid (Below w.heap.size w w3) := K2.out.trans (k3.mono K2.out.size)
  have OX3 := Lib.hid hu
  have hs23 := K2.out.size
  have B3 := Lib.hid ((k3.block _ (Array.getElem?_eq_some_iff.1 B2.out).1).trans B2.out)
  have Z3 := Lib.hid ((k3.block _ (Array.getElem?_eq_some_iff.1 Z2.out).1).trans Z2.out)
  have htb2 := (Array.getElem?_eq_some_iff.1 B2.out).1
  have t4' := HeadAt.of_row B3.out 4 _ rfl
  have f4' := frozen_of_row w3 tb 4 _ _ B3.out
  clear k3 hu t4 CL B2 Z2 K2
  go_upto_region 4 with fail
  generalize hw4 : World.setCell _ _ _ = w4
  have L4 : Hid (Fined tb w3 w4) := by rw [← hw4]; exact (Fined.refl tb w3).set_ _ _
  have B4 : Hid (w4.heap[tb]? = some (.cells ⟨[.int .i64 t.fn, .int .i64 t.at_, .int .i64 t.loop, .slice (some ⟨O, 0, none⟩) t.ins.length cO, .slice A9 t.exits.length c9, .int .i64 t.turn.at_, .int .i64 t.turn.steps, .slice A3 t.turn.sets.length n3, .slice A4 t.turn.makes.length n4, .int .i64 t.back.at_, .int .i64 t.back.steps, .slice A5 t.back.sets.length n5, .slice A6 t.back.makes.length n6]⟩ 34 (0, 0))) := by rw [← hw4, heap_setCell_same w3 tb 4 _ _ _ B3.out]; rfl
  have K4 : Hid (Below w.heap.size w w4) := K3.out.trans (L4.out.under (by omega) K3.out.size)
  have Z4 := Lib.hid (L4.out.row Z3.out (by omega))
  have OX4 : Hid (w4.ownsRow B 32 4 (.slice A9 t.exits.length c9) t.exits.length (rows.flatMap id)) := row_more (row_stays OX3.out (fun G e => L4.out.block G (row_ty OX3.out e).2.1 (fun c => row_ne OX3.out B3.out (by decide) (by rw [e, c])))) (by have := HBw.out; omega)
  have S4 := Lib.hid (HS.out.below K4.out)
  clear hw4 t4' f4' L4 B3 Z3 K3 OX3 htb2 hs23
  have hOs := HS.out.outG O (by rw [EO.out]; rfl)
  have HO := Lib.hid hOs
  have hOtb : O ≠ tb := by omega
  have hOsb : O ≠ sb := by omega
  obtain ⟨xc, hxc, hxo⟩ := HC.out
  have hoc := (S4.out.sinks.keep c xc hxc hxo).1
  have HOC := Lib.hid hoc
  have hlo := S4.out.sinks.lenO
  have ho4 := S4.out.out
  rw [EO.out, ← hlo] at ho4
  have OO4 := Lib.hid ho4
  obtain ⟨_, _, ocs, ho5⟩ := row_ty OO4.out (rfl : (.slice (some ⟨O, 0, none⟩) s.out.length cO : Value).ownBlock = some O)
  have OR4 := Lib.hid ho5
  have a3 : ∀ E : Fin_ O w4, E.wd.cell? ⟨tb, 3, none⟩ = some (.slice (some ⟨O, 0, none⟩) t.ins.length cO) := fun E => E.cell (HeadAt.of_row B4.out 3 _ rfl) (by show tb ≠ O; omega)
  have a13 : ∀ E : Fin_ O w4, E.wd.cell? ⟨sb, 13, none⟩ = some (.int .i64 c) := fun E => E.cell (S4.out.cellAt (k := 0) rfl) (by show sb ≠ O; omega)
  have o0 : w4.cell? ⟨O, c * 8, none⟩ = some (.int .i64 xc.op) := by
    have := World.ownsRow.cellAt OO4.out (c * 8) (by omega)
    rw [this, show c * 8 = c * 8 + 0 by omega, flat_ins s.out c 0 xc HOC.out (by decide)]; rfl
  have o4 : w4.cell? ⟨O, c * 8 + 4, none⟩ = some (.int .i64 xc.n) := by
    have := World.ownsRow.cellAt OO4.out (c * 8 + 4) (by omega)
    rw [this, flat_ins s.out c 4 xc HOC.out (by decide)]; rfl
  have z0 := frozen_of_row w4 O (c * 8) _ _ OR4.out
  have z4 := frozen_of_row w4 O (c * 8 + 4) _ _ OR4.out
  clear hxc hxo hoc ho4 ho5
  refine wp_region_first (fun w' => ∃ E : Fin_ O w4, w' = E.wd) 12 [12, 13, 14, 15, 16, 17] [12, 13, 14] (by kernel_rfl) (by decide) (by kernel_rfl) (fun _ _ d _ _ h => by cases d <;> exact h) ⟨⟨_, (Fined.refl O w4).drew⟩, rfl⟩ ?_
  simp only [List.take_succ_cons, List.take_zero]
  generalize hqq : (fun a' => wpMs _ _ _ _ _ _ a' _) = qq
  have HQQ := Lib.hid hqq
  clear hqq
  repeat (go_big_quiet_step (fail))
  refine wpQuiet_nil ?_
  rw [← HQQ.out]
  clear HQQ qq a3 a13
  refine wpMs_step rfl (fun K hK => ?_)
  go_simp
  refine hK _ _ (fun _ => ⟨⟨_, (Fined.refl O w4).drew⟩, rfl⟩) ?_
  clear hK K
  refine wpMs_step rfl (fun K hK => ?_)
  go_simp
  refine hK _ _ (fun _ => ⟨⟨_, (Fined.refl O w4).drew⟩, rfl⟩) ?_
  clear hK K
  refine wpMs_step rfl (fun K hK => ?_)
  go_simp
  refine hK _ _ (fun _ => ⟨⟨_, ((Fined.refl O w4).set_ _ _).drew⟩, rfl⟩) ?_
  clear hK K
  refine wpMs_list [15, 16, 17] _ _ (by kernel_rfl) (by kernel_rfl) ?_
  simp only [List.filterMap_cons, List.filterMap_nil, List.getElem?_toArray, List.getElem?_cons_zero, List.getElem?_cons_succ]
  generalize hw5 : World.drew _ = w5
  have L5 : Hid (Fined O w4 w5) := by rw [← hw5]; exact ((Fined.refl O w4).set_ _ _).drew
  have OO5 : Hid (w5.ownsRow B 42 8 (.slice (some ⟨O, 0, none⟩) s.out.length cO) s.out.length ((s.out.flatMap insCells).set (c * 8) (.int .i64 18))) := by
    rw [← hw5]
    exact own_cell OO4.out (k := c * 8) (by omega) _
  obtain ⟨_, _, oc5, ho5⟩ := row_ty OO5.out (rfl : (.slice (some ⟨O, 0, none⟩) s.out.length cO : Value).ownBlock = some O)
  have o4' : w5.cell? ⟨O, c * 8 + 4, none⟩ = some (.int .i64 xc.n) := by
    have := World.ownsRow.cellAt OO5.out (c * 8 + 4) (by omega)
    rw [this, List.getElem?_set_ne (by omega), flat_ins s.out c 4 xc HOC.out (by decide)]; rfl
  have z4' := frozen_of_row w5 O (c * 8 + 4) _ _ ho5
  clear hw5 o0 o4 z0 z4 OR4 OO4 ho5 oc5 ocs
  go_upto_region 5 with fail
  generalize hw6 : World.setCell _ _ _ = w6
  have L6 : Hid (Fined O w4 w6) := by rw [← hw6]; exact L5.out.set_ _ _
  have OO6 : Hid (w6.ownsRow B 42 8 (.slice (some ⟨O, 0, none⟩) s.out.length cO) s.out.length ((freed s.out c).flatMap insCells)) := by
    rw [← hw6]
    have h1 := own_cell OO5.out (k := c * 8 + 4) (by omega) (.int .i64 0)
    rw [freed_cells xc s.out c HOC.out] at h1
    unfold freed
    rw [HOC.out]
    exact h1
  have hOw4 : O < w4.heap.size := by have := S4.out.lt; omega
  have hBO : B ≤ O := (row_ty OO6.out rfl).1
  have B6 := Lib.hid (L6.out.row B4.out (by omega))
  have Z6 := Lib.hid (L6.out.row Z4.out (by omega))
  have SB6 := Lib.hid (L6.out.row S4.out.row (by omega))
  have K6 : Hid (Below B w w6) := (K4.out.mono HBw.out).trans (L6.out.under hBO (by omega))
  have OX6 : Hid (w6.ownsRow B 32 4 (.slice A9 t.exits.length c9) t.exits.length (rows.flatMap id)) := row_stays OX4.out (fun G e => L6.out.block G (row_ty OX4.out e).2.1 (fun c => by
    obtain ⟨_, _, cs, h9⟩ := row_ty OO6.out (rfl : (.slice (some ⟨O, 0, none⟩) s.out.length cO : Value).ownBlock = some O)
    have h8 := S4.out.out
    rw [EO.out] at h8
    obtain ⟨_, _, cs8, h7⟩ := row_ty h8 (rfl : (.slice (some ⟨O, 0, none⟩) t.ins.length cO : Value).ownBlock = some O)
    exact row_ne OX4.out h7 (by decide) (by rw [e, c])))
  have OV6 : Hid (∀ G, (∃ cs, w4.heap[G]? = some (.cells cs 3 (0, 0))) → G ≠ O) := fun G ⟨cs, hG⟩ e => by
    have h8 := S4.out.out
    rw [EO.out] at h8
    obtain ⟨_, _, cs8, h7⟩ := row_ty h8 (rfl : (.slice (some ⟨O, 0, none⟩) t.ins.length cO : Value).ownBlock = some O)
    rw [e, h7] at hG
    injection hG with hG
    injection hG with _ hG
    revert hG; decide
  have HE6 : Hid (∀ e ∈ s.E, HeldR w6 B s.uV s.uT e.2) := fun e he => (S4.out.held e he).stays (fun G _ hG _ _ hc => L6.out.block G hG (OV6.out G hc))
  have TL6 : Hid (w6.ownsRow B 3 1 s.uT s.tl.length (s.tl.map (.int .i64))) := row_stays S4.out.tl (fun G e => L6.out.block G (row_ty S4.out.tl e).2.1 (OV6.out G (row_ty S4.out.tl e).2.2))
  have MP6 : Hid (MapN w6 mb s.E) := S4.out.map_.kept (L6.out.block mb S4.out.map_.lt (fun e => by
    have h8 := S4.out.out
    rw [EO.out] at h8
    obtain ⟨_, _, cs8, h7⟩ := row_ty h8 (rfl : (.slice (some ⟨O, 0, none⟩) t.ins.length cO : Value).ownBlock = some O)
    exact map_ne S4.out.map_ h7 e))
  have e19 : w6.cell? ⟨sb, 19, none⟩ = some (.map (some mb)) := HeadAt.of_row SB6.out 19 _ rfl
  have hsb6 := (Array.getElem?_eq_some_iff.1 SB6.out).1
  have htb6 := (Array.getElem?_eq_some_iff.1 B6.out).1
  have hOw6 := (row_ty OO6.out (rfl : (.slice (some ⟨O, 0, none⟩) s.out.length cO : Value).ownBlock = some O)).2.1
  clear hw6 L5 L6 OO5 o4' z4' OV6 S4 OX4 B4 Z4 K4
  go_wp2_with (at_range; refine wpList_range_n _ rfl _ 74 3 76 rfl Tryz.underlying74 mb s.E rfl MP6.out ?_; intro w7 hrg hg7 hs7)
  (try go_frame)
  obtain ⟨ri, hri⟩ : ∃ ri, ri = w6.heap.size := ⟨_, rfl⟩
  rw [← hri] at hrg
  rw [← hri]
  have RG7 := Lib.hid hrg
  have k7 : Hid (∀ k, k < w6.heap.size → w7.heap[k]? = w6.heap[k]?) := fun k hk => hg7.block k hk (by simp)
  have hsz7 : w7.heap.size = ri + 1 := by rw [hs7, hri]
  have HRI := Lib.hid hri
  have B7 := Lib.hid ((k7.out _ htb6).trans B6.out)
  have Z7 := Lib.hid ((k7.out _ (by omega)).trans Z6.out)
  have SB7 := Lib.hid ((k7.out _ hsb6).trans SB6.out)
  have OX7 : Hid (w7.ownsRow B 32 4 (.slice A9 t.exits.length c9) t.exits.length (rows.flatMap id)) := row_stays OX6.out (fun G e => k7.out G (row_ty OX6.out e).2.1)
  have OO7 : Hid (w7.ownsRow B 42 8 (.slice (some ⟨O, 0, none⟩) s.out.length cO) s.out.length ((freed s.out c).flatMap insCells)) := row_stays OO6.out (fun G e => k7.out G (row_ty OO6.out e).2.1)
  have TL7 : Hid (w7.ownsRow B 3 1 s.uT s.tl.length (s.tl.map (.int .i64))) := row_stays TL6.out (fun G e => k7.out G (row_ty TL6.out e).2.1)
  have HE7 : Hid (∀ e ∈ s.E, HeldR w7 B s.uV s.uT e.2) := fun e he => (HE6.out e he).stays (fun G _ hG _ _ _ => k7.out G hG)
  have K7 : Hid (Below B w w7) := K6.out.trans ⟨hg7.os, hg7.tape, hg7.output, hg7.size, fun k hk => k7.out k (by omega)⟩
  have SK7 : Hid (SunkR w7 B (.slice A9 t.exits.length c9) t [] rows t.exits) := ⟨OX7.out, HR1.out, HR4.out, rfl, fun i cs x hr hx => .inl ⟨by
    obtain ⟨cs', h1, h2⟩ := HR3.out i x hx
    rw [hr] at h1; injection h1 with h1; subst h1
    exact h2.keep (Nat.le_refl _) (fun p hp => K7.out.cell hp), hx⟩⟩
  have hri7 : w.heap.size < ri := by have := hri; omega
  clear hrg hg7 hs7 hri k7 B6 Z6 SB6 OX6 OO6 TL6 HE6 K6 MP6 e19 hsb6 htb6 hOw6
  go_loopw [5] (fun _ wr => ∃ (D : List (Int × Value)) (left : Nat) (rws : List (List Value)) (ex : List TExit), Hid (RangeN wr mb ri s.E D left) ∧ Hid (SunkR wr B (.slice A9 t.exits.length c9) t D rws ex) ∧ Hid (Only (fun k => (.slice A9 t.exits.length c9 : Value).ownBlock = some k ∨ k = ri) w7 wr) ∧ Hid (∃ rest', (s.E.map pv).Perm (D.map pv ++ rest'))) (fun _ wr => wr.rangeLeft mb ri)
  case atStart => exact ⟨[], s.E.length, rows, t.exits, RG7, SK7, Only.refl, ⟨s.E.map pv, List.Perm.refl _⟩⟩
  case round =>
    obtain ⟨D, left, rws, ex, HR, SK, HON, HPM⟩ := hrel
    have NX : Hid (∀ (k : Nat) (cs : Array Value) (ty : TypeId) (fr : Nat × Nat), ty ≠ 32 → w7.heap[k]? = some (Obj.cells cs ty fr) → wr.heap[k]? = w7.heap[k]?) := fun k cs ty fr ht hk => HON.out.block k (Array.getElem?_eq_some_iff.1 hk).1 (fun h => by
      rcases h with h | h
      · exact row_ne OX7.out hk (fun e => ht e.symm) h
      · subst h
        obtain ⟨es, cl, si, se, c0, _, _, h9, _⟩ := RG7.out
        rw [hk] at h9; cases h9)
    have BR := Lib.hid ((NX.out _ _ _ _ (by decide) B7.out).trans B7.out)
    have ZR := Lib.hid ((NX.out _ _ _ _ (by decide) Z7.out).trans Z7.out)
    have SR := Lib.hid ((NX.out _ _ _ _ (by decide) SB7.out).trans SB7.out)
    have OR : Hid (wr.ownsRow B 42 8 (.slice (some ⟨O, 0, none⟩) s.out.length cO) s.out.length ((freed s.out c).flatMap insCells)) := row_stays OO7.out (fun G e => by obtain ⟨_, _, cs, h9⟩ := row_ty OO7.out e; exact NX.out _ _ _ _ (by decide) h9)
    have TLR : Hid (wr.ownsRow B 3 1 s.uT s.tl.length (s.tl.map (.int .i64))) := row_stays TL7.out (fun G e => by obtain ⟨_, _, cs, h9⟩ := row_ty TL7.out e; exact NX.out _ _ _ _ (by decide) h9)
    have HER : Hid (∀ e ∈ s.E, HeldR wr B s.uV s.uT e.2) := fun e he => (HE7.out e he).stays (fun G _ _ _ _ ⟨cs, h9⟩ => NX.out _ _ _ _ (by decide) h9)
    have BW : Hid (Below B w wr) := K7.out.trans ⟨HON.out.os, HON.out.tape, HON.out.output, HON.out.size, fun k hk => HON.out.block k (by have := HBw.out; omega) (fun h => by
      rcases h with h | h
      · have := (row_ty OX7.out h).1; omega
      · have := HBw.out; omega)⟩
    have hwsz : Hid (w7.heap.size ≤ wr.heap.size) := HON.out.size
    go_wp2_with (at_next; refine wpList_next_n _ rfl _ rfl mb ri left _ _ rfl HR.out ?_ ?_)
    · intro hd
      clear hd
      have f17 : ∀ E : Up wr, E.to.cell? ⟨sb, 17, none⟩ = some s.uT := fun E => E.cell (HeadAt.of_row SR.out 17 _ rfl)
      have RT : Hid (∀ E : Up wr, E.to.rangeAt tb 0 [.int .i64 t.fn, .int .i64 t.at_, .int .i64 t.loop, .slice (some ⟨O, 0, none⟩) t.ins.length cO, .slice A9 t.exits.length c9, .int .i64 t.turn.at_, .int .i64 t.turn.steps, .slice A3 t.turn.sets.length n3, .slice A4 t.turn.makes.length n4, .int .i64 t.back.at_, .int .i64 t.back.steps, .slice A5 t.back.sets.length n5, .slice A6 t.back.makes.length n6]) := fun E k u hu => E.cell ((HeadAt.of_row BR.out).range k u hu)
      have TRR : Hid (TraceR wr wr.heap.size [.int .i64 t.fn, .int .i64 t.at_, .int .i64 t.loop, .slice (some ⟨O, 0, none⟩) t.ins.length cO, .slice A9 t.exits.length c9, .int .i64 t.turn.at_, .int .i64 t.turn.steps, .slice A3 t.turn.sets.length n3, .slice A4 t.turn.makes.length n4, .int .i64 t.back.at_, .int .i64 t.back.steps, .slice A5 t.back.sets.length n5, .slice A6 t.back.makes.length n6] { t with ins := freed s.out c, exits := ex }) := by
        obtain ⟨i, e, ct, cb, h1, h2, h3, h4, h5, h6⟩ := HS.out.tr
        have hBw := HBw.out
        have hk : ∀ p : Addr, p.block < B → wr.cell? p = w.cell? p := fun p hp => BW.out.cell hp
        have hle : B ≤ wr.heap.size := Nat.le_trans hBw BW.out.size
        have hlf := freed_len s.out c
        refine ⟨.slice (some ⟨O, 0, none⟩) t.ins.length cO, .slice A9 t.exits.length c9, ct, cb, ?_, ?_, SK.out.read hle, h4.keep hle hk, h5.keep hle hk, h6⟩
        · have h9 := congrArg (List.drop 5) h1
          have h4l : ct.length = 4 := by obtain ⟨s, m, e, -⟩ := h4; rw [e]; rfl
          simp only [List.append_assoc, List.cons_append, List.nil_append, List.drop_succ_cons, List.drop_zero] at h9
          show _ = [_, _, _, _, _] ++ ct ++ cb
          rw [List.append_assoc, ← h9]; rfl
        · have h7 := OR.out
          rw [← hlf] at h7
          have h8 := sliceR_ins (A := some ⟨O, 0, none⟩) (c := cO) h7 (fun x hx => by
            unfold freed at hx
            rw [HOC.out] at hx
            rcases List.mem_or_eq_of_mem_set hx with hx | rfl
            · exact HS.out.wfO x hx
            · have w9 := HS.out.wfO xc (List.mem_of_getElem? HOC.out)
              exact ⟨by show wfi 18; unfold wfi; omega, w9.2.1, w9.2.2.1, w9.2.2.2.1, by show wfi 0; unfold wfi; omega, w9.2.2.2.2.2⟩)
          rw [hlf, hlo] at h8
          exact h8
      have CUT : Hid (Calls Tryz.prog 7 #[.agg ⟨[.int .i64 t.fn, .int .i64 t.at_, .int .i64 t.loop, .slice (some ⟨O, 0, none⟩) t.ins.length cO, .slice A9 t.exits.length c9, .int .i64 t.turn.at_, .int .i64 t.turn.steps, .slice A3 t.turn.sets.length n3, .slice A4 t.turn.makes.length n4, .int .i64 t.back.at_, .int .i64 t.back.steps, .slice A5 t.back.sets.length n5, .slice A6 t.back.makes.length n6]⟩, s.uT] wr.drew (CutPost2 { t with ins := freed s.out c, exits := ex } s.tl wr)) :=
        (cut_c2 _ _ _ s.tl wr.drew TRR.out (sliceR_of_own TLR.out HS.out.wfT) (sunk_small HS.out.fit HS.out.sinks (SK.out.to HS.out.fit))).mono fun e w' ⟨cs, a, b, d, g⟩ => ⟨cs, a, b, (Below.refl _ wr).drew.trans d, g⟩
      have LTT : Hid ((Tryz.prog.info? 34).map (·.size) = some ([.int .i64 t.fn, .int .i64 t.at_, .int .i64 t.loop, .slice (some ⟨O, 0, none⟩) t.ins.length cO, .slice A9 t.exits.length c9, .int .i64 t.turn.at_, .int .i64 t.turn.steps, .slice A3 t.turn.sets.length n3, .slice A4 t.turn.makes.length n4, .int .i64 t.back.at_, .int .i64 t.back.steps, .slice A5 t.back.sets.length n5, .slice A6 t.back.makes.length n6] : List Value).length) := infoTr13
      go_upto_region 12 with fail
      refine wp_region_readers (fun w' => ∃ E : Up wr, w' = E.to) [0, 1, 2, 3, 4] [] 5 #[true, true, true, true, true, false, false, false, false, false] _ (by kernel_rfl) (by kernel_rfl) (by simp only [List.filterMap_cons, List.filterMap_nil, List.getElem?_toArray, List.getElem?_cons_zero, List.getElem?_cons_succ]; rfl) (fun _ _ d _ _ h => by cases d <;> exact h) ⟨⟨_, (Below.refl _ wr).drew⟩, rfl⟩ ?_
      generalize hqq : (fun a' => wpAnyC _ _ _ _ _ _ _ _ a' _) = qq
      have HQQ := Lib.hid hqq
      clear hqq
      show wpQuiet _ _ _ _ [_, _, _, _, _] _
      refine wpQuiet_load_up 34 _ rfl rfl tb 0 rfl [.int .i64 t.fn, .int .i64 t.at_, .int .i64 t.loop, .slice (some ⟨O, 0, none⟩) t.ins.length cO, .slice A9 t.exits.length c9, .int .i64 t.turn.at_, .int .i64 t.turn.steps, .slice A3 t.turn.sets.length n3, .slice A4 t.turn.makes.length n4, .int .i64 t.back.at_, .int .i64 t.back.steps, .slice A5 t.back.sets.length n5, .slice A6 t.back.makes.length n6] _ RT.out Tryz.underlying34 rfl LTT.out ?_
      go_simp
      repeat (go_big_quiet_step (fail))
      refine wpQuiet_nil ?_
      rw [← HQQ.out]
      clear HQQ qq f17 RT LTT TRR
      refine wpAnyC_one (i := 5) (by kernel_rfl) rfl (fun K hK => ?_)
      go_simp
      refine CUT.out.mono ?_
      rintro e w9 ⟨cs, rfl, tr9, k9, set9⟩
      refine hK _ _ (fun hf => by cases hf) ?_
      clear hK K
      obtain ⟨u, hu⟩ : ∃ u, (cutM { t with ins := freed s.out c, exits := ex } s.tl).1 = u := ⟨_, rfl⟩
      obtain ⟨er, her⟩ : ∃ er, (cutM { t with ins := freed s.out c, exits := ex } s.tl).2 = er := ⟨_, rfl⟩
      rw [hu] at tr9 set9
      rw [her]
      have LAW : Hid (er = 0 → FitS u ∧ news u.ins < news t.ins ∧ Keeps t u) := fun e => sunk_law HS.out.fit HS.out.sinks HC.out HBK.out (SK.out.to HS.out.fit) (by rw [← e, ← hu, ← her])
      obtain ⟨U1, u1, U2, u2, U3, u3, U4, u4, U5, u5, U6, u6, rfl, -⟩ := tr9.cells
      have Z9 := Lib.hid ((k9.block _ (Array.getElem?_eq_some_iff.1 ZR.out).1).trans ZR.out)
      have K9 := Lib.hid k9
      have S9 := Lib.hid set9
      clear tr9 k9 set9 hu her CUT
      refine wpAnyC_again (fun w' => ∃ E : Up w9, w' = E.to) [6, 7] [0, 1, 2, 3, 4, 5] 2 #[true, true, true, true, true, true, true, true, false, false] _ (by kernel_rfl) rfl (by simp only [List.filterMap_cons, List.filterMap_nil, List.getElem?_toArray, List.getElem?_cons_zero, List.getElem?_cons_succ]; rfl) (fun _ _ d _ _ h => by cases d <;> exact h) ⟨⟨_, Below.refl _ w9⟩, rfl⟩ ?_
      generalize hqq : (fun a' => wpAnyC _ _ _ _ _ _ _ _ a' _) = qq
      have HQQ := Lib.hid hqq
      clear hqq
      show wpQuiet _ _ _ _ [_, _] _
      repeat (go_big_quiet_step (fail))
      refine wpQuiet_nil ?_
      rw [← HQQ.out]
      clear HQQ qq
      refine wpAnyC_of_ms [8, 9] _ _ _ (by kernel_rfl) ?_
      refine wpMs_list [8, 9] _ _ (by kernel_rfl) (by kernel_rfl) ?_
      simp only [List.filterMap_cons, List.filterMap_nil, List.getElem?_toArray, List.getElem?_cons_zero, List.getElem?_cons_succ]
      refine wpList_store_row rfl 34 _ _ rfl w.heap.size #[.int .i64 u.fn, .int .i64 u.at_, .int .i64 u.loop, .slice U1 u.ins.length u1, .slice U2 u.exits.length u2, .int .i64 u.turn.at_, .int .i64 u.turn.steps, .slice U3 u.turn.sets.length u3, .slice U4 u.turn.makes.length u4, .int .i64 u.back.at_, .int .i64 u.back.steps, .slice U5 u.back.sets.length u5, .slice U6 u.back.makes.length u6] rfl rfl 34 _ Z9.out infoTr13 rfl (all_oneCell_toArray (by simp [Value.oneCell'])) ?_
      generalize hw10 : World.setRow _ _ _ = w10
      have QR : Hid (w10.heap[w.heap.size]? = some (.cells #[.int .i64 u.fn, .int .i64 u.at_, .int .i64 u.loop, .slice U1 u.ins.length u1, .slice U2 u.exits.length u2, .int .i64 u.turn.at_, .int .i64 u.turn.steps, .slice U3 u.turn.sets.length u3, .slice U4 u.turn.makes.length u4, .int .i64 u.back.at_, .int .i64 u.back.steps, .slice U5 u.back.sets.length u5, .slice U6 u.back.makes.length u6] 34 (0, 0))) := by rw [← hw10]; exact setRow_heap _ _ _ _ _ _ Z9.out
      have KA : Hid (Below B w w10) := by rw [← hw10]; exact Below.set_row (BW.out.trans (K9.out.mono (Nat.le_trans HBw.out BW.out.size))) HBw.out _
      have SA : Hid (∀ w2 : World, (∀ k, w.heap.size ≤ k → k < w10.heap.size → w2.heap[k]? = w10.heap[k]?) → TraceR w2 w2.heap.size [.int .i64 u.fn, .int .i64 u.at_, .int .i64 u.loop, .slice U1 u.ins.length u1, .slice U2 u.exits.length u2, .int .i64 u.turn.at_, .int .i64 u.turn.steps, .slice U3 u.turn.sets.length u3, .slice U4 u.turn.makes.length u4, .int .i64 u.back.at_, .int .i64 u.back.steps, .slice U5 u.back.sets.length u5, .slice U6 u.back.makes.length u6] u) := fun w2 h2 => S9.out w2 (fun k h3 h4 => by
        have h5 : w.heap.size < wr.heap.size := by have := hwsz.out; omega
        have h6 : w10.heap.size = w9.heap.size := by rw [← hw10, size_setRow]
        rw [h2 k (by omega) (by omega), ← hw10]
        exact setRow_other _ _ _ _ (by omega))
      clear hw10 Z9 S9
      go_wp2_with fail
      have g0 := cell_of_row w10 w.heap.size 0 _ _ _ QR.out
      have g1 := cell_of_row w10 w.heap.size 1 _ _ _ QR.out
      have g2 := cell_of_row w10 w.heap.size 2 _ _ _ QR.out
      have g3 := cell_of_row w10 w.heap.size 3 _ _ _ QR.out
      have g4 := cell_of_row w10 w.heap.size 4 _ _ _ QR.out
      have g5 := cell_of_row w10 w.heap.size 5 _ _ _ QR.out
      have g6 := cell_of_row w10 w.heap.size 6 _ _ _ QR.out
      have g7 := cell_of_row w10 w.heap.size 7 _ _ _ QR.out
      have g8 := cell_of_row w10 w.heap.size 8 _ _ _ QR.out
      have g9 := cell_of_row w10 w.heap.size 9 _ _ _ QR.out
      have g10 := cell_of_row w10 w.heap.size 10 _ _ _ QR.out
      have g11 := cell_of_row w10 w.heap.size 11 _ _ _ QR.out
      have g12 := cell_of_row w10 w.heap.size 12 _ _ _ QR.out
      unfold SunkPost
      refine bodyPost_ret (v := .tuple #[.agg ⟨[.int .i64 u.fn, .int .i64 u.at_, .int .i64 u.loop, .slice U1 u.ins.length u1, .slice U2 u.exits.length u2, .int .i64 u.turn.at_, .int .i64 u.turn.steps, .slice U3 u.turn.sets.length u3, .slice U4 u.turn.makes.length u4, .int .i64 u.back.at_, .int .i64 u.back.steps, .slice U5 u.back.sets.length u5, .slice U6 u.back.makes.length u6]⟩, .int .i64 er]) (by simp [results, Tryz.results21, go_sem, g0, g1, g2, g3, g4, g5, g6, g7, g8, g9, g10, g11, g12]) rfl ⟨u, er, _, rfl, SA.out w10 (fun _ _ _ => rfl), KA.out, SA.out, LAW.out⟩
    · intro xe xv w8 left' hxV hlen rest9 hp9 hr8 hlt8 hg8 hs8 hen
      have hpm : ∃ rest', (s.E.map pv).Perm ((D ++ [(xe, xv)]).map pv ++ rest') := ⟨rest9, by simpa using hp9⟩
      clear hp9
      obtain ⟨hk0, hk1⟩ := HS.out.keys _ hxV
      dsimp only at hk0 hk1
      obtain ⟨ke, rfl⟩ := Int.eq_ofNat_of_zero_le hk0
      have hke : ke < t.exits.length := by omega
      have hkei : (ke : Int) < t.exits.length := by omega
      have HND : Hid (∀ d ∈ D, d.1 ≠ (ke : Int)) := fun d hd e => by
        obtain ⟨rest', hp⟩ := hpm
        have h1 := HS.out.nodup
        have h2 : ((s.E.map pv).map (·.1)).Nodup := by
          rw [List.map_map]
          unfold List.Nodup at h1 ⊢
          rw [List.pairwise_map] at h1 ⊢
          exact h1.imp (fun {a b} hne e => hne (by simpa [pv] using e))
        have h3 := (hp.map (·.1)).nodup_iff.1 h2
        rw [List.map_append, List.map_append, List.map_append] at h3
        have h4 := (List.nodup_append.1 (List.nodup_append.1 h3).1).2.2
        exact h4 (.int .i64 d.1) (by simp; exact ⟨d.1, d.2, hd, by simp [pv]⟩) (.int .i64 (ke : Int)) (by simp [pv]) (by rw [e])
      obtain ⟨sh, u, l, hxv, hsh, hul, hll, hlw, -⟩ := HER.out _ hxV
      dsimp only at hxv
      subst hxv
      obtain ⟨Au, cu, rfl⟩ := own_len hul
      have hriw : ri < wr.heap.size := HR.out.lt.1
      have k8 : Hid (∀ k, k < wr.heap.size → k ≠ ri → w8.heap[k]? = wr.heap[k]?) := fun k hk hne => hg8.block k hk (fun e => hne (by injection e))
      have hit : Hid (∀ cs ty fr, wr.heap[ri]? ≠ some (Obj.cells cs ty fr)) := fun cs ty fr h9 => by
        obtain ⟨es, cl, si, se, c0, _, _, h8, _⟩ := HR.out
        rw [h9] at h8; cases h8
      have k8c : Hid (∀ (k : Nat) (cs : Array Value) (ty : TypeId) (fr : Nat × Nat), wr.heap[k]? = some (Obj.cells cs ty fr) → w8.heap[k]? = some (Obj.cells cs ty fr)) := fun k cs ty fr hk => (k8.out k (Array.getElem?_eq_some_iff.1 hk).1 (fun e => hit.out cs ty fr (by rw [← e]; exact hk))).trans hk
      have KB8 : Hid (∀ p : Addr, p.block < B → w8.cell? p = wr.cell? p) := fun p hp => by
        have h1 := k8.out p.block (by have := HBw.out; omega) (by have := HBw.out; omega)
        unfold World.cell?
        rw [h1]
      have SK8 : Hid (SunkR w8 B (.slice A9 t.exits.length c9) t D rws ex) := SK.out.keep KB8.out (fun k cs ty fr _ hk => (k8c.out _ _ _ _ hk).trans hk.symm)
      have BR8 := Lib.hid (k8c.out _ _ _ _ BR.out)
      have SR8 := Lib.hid (k8c.out _ _ _ _ SR.out)
      have HV8 : Hid (w8.ownsRow B 3 1 (.slice Au l.length cu) l.length (l.map (.int .i64))) := row_stays hul (fun G e => by obtain ⟨_, _, cs, h9⟩ := row_ty hul e; exact (k8c.out _ _ _ _ h9).trans h9.symm)
      have HL8 : Hid (l.length ≤ 1000 ∧ (∀ x ∈ l, wfi x) ∧ wfi sh) := ⟨hll, hlw, hsh⟩
      have ON8 : Hid (Only (fun k => (.slice A9 t.exits.length c9 : Value).ownBlock = some k ∨ k = ri) w7 w8) := HON.out.trans ⟨hg8.os, hg8.tape, hg8.output, hg8.size, fun k hk ht => k8.out k hk (fun e => ht (.inr e))⟩
      have RG8 := Lib.hid hr8
      have HEN := Lib.hid hen
      have HPM8 := Lib.hid hpm
      have HSZ8 := Lib.hid hs8
      have hlw8 : Hid (left' < left) := hlt8
      obtain ⟨X, cX, eX, -⟩ := own_open SK8.out.own (by omega)
      obtain ⟨rfl, rfl⟩ : A9 = some ⟨X, 0, none⟩ ∧ c9 = cX := by injection eX with e1 e2 e3; exact ⟨e1, e3⟩
      have hrl := SK8.out.rl
      have hel := SK8.out.el
      obtain ⟨r0, hr0⟩ : ∃ r, rws[ke]? = some r := ⟨_, List.getElem?_eq_getElem (by omega)⟩
      obtain ⟨x0, hx0⟩ : ∃ x, ex[ke]? = some x := ⟨_, List.getElem?_eq_getElem (by omega)⟩
      obtain ⟨hxr, hxt⟩ : ExitR w8 B r0 x0 ∧ t.exits[ke]? = some x0 := by
        rcases SK8.out.rd ke r0 x0 hr0 hx0 with h | ⟨⟨d, hd, e⟩, _⟩
        · exact h
        · exact (HND.out d hd e).elim
      obtain ⟨sv, mv, rfl, hsv, hmv, wf1, wf2⟩ := hxr
      have HXT := Lib.hid hxt
      have HSV := Lib.hid hsv
      have HMV := Lib.hid hmv
      have WF0 : Hid (wfi x0.at_ ∧ wfi x0.steps) := ⟨wf1, wf2⟩
      obtain ⟨Sa, sn, rfl, -⟩ := hsv
      obtain ⟨Ma, mn, rfl, -⟩ := hmv
      have RX8 := Lib.hid (SK8.out.at_ hr0)
      have hXB : B ≤ X ∧ X < w8.heap.size := ⟨(row_ty SK8.out.own rfl).1, (row_ty SK8.out.own rfl).2.1⟩
      clear hk0 hk1 hpm hr8 hlt8 hg8 hs8 hul hll hlw hsh k8 hit KB8 eX hr0 hx0 hxt wf1 wf2 hrl hel hlen hxV HER TLR OR TL7 OO7 HE7 HPM
      go_upto_region 8 with fail
      -- the rest of the round
      generalize hw9 : World.alloc _ _ = w9
      have K9 : Hid (Below w8.heap.size w8 w9) := by rw [← hw9]; exact below_one _ _
      have H9 : Hid (w9.heap[w8.heap.size]? = some (.cells ⟨[.int .i64 sh, .slice Au l.length cu]⟩ 76 (0, 0))) := by rw [← hw9]; exact heap_last _ _
      have hz9 : w8.heap.size < w9.heap.size := (Array.getElem?_eq_some_iff.1 H9.out).1
      have B9 := Lib.hid ((K9.out.block _ (Array.getElem?_eq_some_iff.1 BR8.out).1).trans BR8.out)
      have SB9 := Lib.hid ((K9.out.block _ (Array.getElem?_eq_some_iff.1 SR8.out).1).trans SR8.out)
      have RX9 : Hid (w9.rangeAt X (ke * 4) [.int .i64 x0.at_, .int .i64 x0.steps, .slice Sa x0.sets.length sn, .slice Ma x0.makes.length mn]) := fun k u hu => (K9.out.cell (show (⟨X, ke * 4 + k, none⟩ : Addr).block < w8.heap.size from hXB.2)).trans (RX8.out k u hu)
      obtain ⟨hb, hhb⟩ : ∃ hb, hb = w8.heap.size := ⟨_, rfl⟩
      have HHB := Lib.hid hhb
      rw [← hhb] at H9 hz9
      rw [← hhb]
      have t4 := HeadAt.of_row B9.out 4 _ rfl
      clear hw9 hhb hen RX8
      go_upto_region 9 with (first | (refine wpList_load_mid rfl 32 _ rfl X (ke * 4) rfl [.int .i64 x0.at_, .int .i64 x0.steps, .slice Sa x0.sets.length sn, .slice Ma x0.makes.length mn] _ RX9.out Tryz.underlying32 rfl infoSinkEx ?_) | fail)
      generalize hw10 : World.alloc _ _ = w10
      have K10 : Hid (Below w9.heap.size w9 w10) := by rw [← hw10]; exact below_one _ _
      have X10 : Hid (w10.heap[w9.heap.size]? = some (.cells ⟨[.int .i64 x0.at_, .int .i64 x0.steps, .slice Sa x0.sets.length sn, .slice Ma x0.makes.length mn]⟩ 32 (0, 0))) := by rw [← hw10]; exact heap_last _ _
      have hz10 : w9.heap.size < w10.heap.size := (Array.getElem?_eq_some_iff.1 X10.out).1
      have B10 := Lib.hid ((K10.out.block _ (Array.getElem?_eq_some_iff.1 B9.out).1).trans B9.out)
      have SB10 := Lib.hid ((K10.out.block _ (Array.getElem?_eq_some_iff.1 SB9.out).1).trans SB9.out)
      have H10 := Lib.hid ((K10.out.block _ hz9).trans H9.out)
      obtain ⟨xb, hxb⟩ : ∃ xb, xb = w9.heap.size := ⟨_, rfl⟩
      have HXB := Lib.hid hxb
      rw [← hxb] at X10 hz10
      rw [← hxb]
      have KA10 : Hid (Below w8.heap.size w8 w10) := K9.out.trans (K10.out.mono K9.out.size)
      obtain ⟨mrows, m1, m2, m3⟩ := rows_of HMV.out (HS.out.fit.exits x0 (List.mem_of_getElem? HXT.out)).2.2
      have hmk := (HS.out.fit.exits x0 (List.mem_of_getElem? HXT.out)).2.1
      have M1 := Lib.hid m1
      have M3 := Lib.hid m3
      have hmr : mrows.length ≤ 700 := by omega
      have CLM : Hid (∀ W, Below w8.heap.size w8 W → Calls Tryz.prog 38 #[.slice Ma x0.makes.length mn] W (fun e w' => ∃ u, e = .returned u ∧ w'.ownsRow W.heap.size 89 4 u mrows.length (mrows.flatMap mkCells) ∧ Below W.heap.size W w')) := fun W k => by
        have hle : B ≤ w8.heap.size := Nat.le_trans hXB.1 (Nat.le_of_lt hXB.2)
        have := clone_mak (.slice Ma x0.makes.length mn) (mrows.map mkCells) W (m2.keep (Nat.le_trans hle k.size) (fun _ hp => k.cell (Nat.lt_of_lt_of_le hp hle)) (fun _ _ h => h)) (fun r hr u hu => by
          obtain ⟨q, -, rfl⟩ := List.mem_map.1 hr
          unfold mkCells at hu
          simp at hu; rcases hu with rfl | rfl | rfl | rfl <;> rfl) (by rw [List.length_map]; omega)
        rw [List.length_map, flat_map_id] at this
        exact this
      obtain ⟨iM, hiM, hqM⟩ := Option.map_eq_some_iff.1 infoOf_mak
      simp only [Prod.mk.injEq] at hqM
      obtain ⟨hzM, hzM1, hzM2⟩ := hqM
      obtain ⟨zM, hzM0, hzM3⟩ := Option.map_eq_some_iff.1 hzM
      have IM : Hid (Tryz.prog.info? 89 = some iM ∧ iM.zero = some zM ∧ iM.size = 4 ∧ iM.bytes = 48 ∧ zM.cells.size = 4) := ⟨hiM, hzM0, hzM1, hzM2, hzM3⟩
      have x3 : ∀ E : Up w10, E.to.cell? ⟨xb, 3, none⟩ = some (.slice Ma x0.makes.length mn) := fun E => E.cell (HeadAt.of_row X10.out 3 _ rfl)
      have f13 : ∀ E : Up w10, E.to.cell? ⟨sb, 13, none⟩ = some (.int .i64 c) := fun E => E.cell (HeadAt.of_row SB10.out 13 _ rfl)
      have f14 : ∀ E : Up w10, E.to.cell? ⟨sb, 14, none⟩ = some (.int .i64 kind) := fun E => E.cell (HeadAt.of_row SB10.out 14 _ rfl)
      have h0 : ∀ E : Up w10, E.to.cell? ⟨hb, 0, none⟩ = some (.int .i64 sh) := fun E => E.cell (HeadAt.of_row H10.out 0 _ rfl)
      have h1 : ∀ E : Up w10, E.to.cell? ⟨hb, 1, none⟩ = some (.slice Au l.length cu) := fun E => E.cell (HeadAt.of_row H10.out 1 _ rfl)
      clear hw10 hxb RX9 B9 SB9 H9 m1 m2 m3 hmk hiM hzM hzM1 hzM2 hzM0 hzM3 t4 K9 K10
      refine wp_region_readers (fun w' => ∃ E : Up w10, w' = E.to) [0, 1, 3, 4, 5, 6, 7, 8, 9, 10, 11, 12, 13, 14, 15] [2, 16] 5 #[true, true, false, true, true, true, true, true, true, true, true, true, true, true, true, true, false, false, false, false] _ (by kernel_rfl) (by kernel_rfl) (by simp only [List.filterMap_cons, List.filterMap_nil, List.getElem?_toArray, List.getElem?_cons_zero, List.getElem?_cons_succ]; rfl) (fun _ _ d _ _ h => by cases d <;> exact h) ⟨⟨_, (Below.refl _ w10).drew⟩, rfl⟩ ?_
      generalize hqq : (fun a' => wpAnyC _ _ _ _ _ _ _ _ a' _) = qq
      have HQQ := Lib.hid hqq
      clear hqq
      show wpQuiet _ _ _ _ [_, _, _, _, _, _, _, _, _, _, _, _, _, _, _] _
      repeat (go_big_quiet_step (fail))
      refine wpQuiet_nil ?_
      rw [← HQQ.out]
      clear HQQ qq x3 f13 f14 h0 h1
      refine wpAnyC_two (i := 2) (k := 16) (by kernel_rfl) rfl rfl (fun K hK => ?_) (fun K hK => ?_)
      · go_simp
        refine (CLM.out w10.drew KA10.out.drew).mono ?_
        rintro e w11 ⟨u, rfl, hu, k11⟩
        have k11' : Below w10.heap.size w10 w11 := (Below.refl _ w10).drew.trans k11
        refine hK _ _ (fun _ => ⟨⟨w11, k11'⟩, rfl⟩) ?_
        clear hK K
        refine wpAnyC_of_ms [16, 17, 18, 19] _ _ _ (by kernel_rfl) ?_
        refine wpMs_step rfl (fun K hK => ?_)
        go_simp
        refine hK _ _ (fun _ => ⟨⟨_, k11'.alloc k11'.size _⟩, rfl⟩) ?_
        clear hK K
        generalize hw12 : World.alloc _ _ = w12
        have LX : Hid (Below w10.heap.size w10 w12) := by rw [← hw12]; exact k11'.alloc k11'.size _
        have NB : Hid (w12.heap[w11.heap.size]? = some (.cells #[.int .i64 c, .int .i64 kind, .int .i64 sh, .slice Au l.length cu] 89 (0, 0))) := by rw [← hw12]; exact heap_last _ _
        have OU : Hid (w12.ownsRow w10.heap.size 89 4 u mrows.length (mrows.flatMap mkCells)) := by rw [← hw12]; exact World.ownsRow.alloc hu _
        obtain ⟨nb, hnb⟩ : ∃ nb, nb = w11.heap.size := ⟨_, rfl⟩
        rw [← hnb] at NB
        rw [← hnb]
        obtain ⟨Ua, uc, rfl⟩ := own_len OU.out
        clear hw12 hnb hu k11 k11'

        refine wpMs_list [17, 18, 19] _ _ (by kernel_rfl) (by kernel_rfl) ?_
        simp only [List.filterMap_cons, List.filterMap_nil, List.getElem?_toArray, List.getElem?_cons_zero, List.getElem?_cons_succ]
        obtain ⟨n1, n2, n3, n4, n5⟩ := IM.out
        refine wpList_append_new rfl _ _ 30 rfl w10.heap.size 89 iM zM 4 48 Tryz.underlying30 n1 n2 n3 n4 n5 (by decide) (.slice Ua mrows.length uc) mrows.length (mrows.flatMap mkCells) rfl OU.out ⟨nb, 0, none⟩ 1 1 [.int .i64 c, .int .i64 kind, .int .i64 sh, .slice Au l.length cu] rfl rfl ?c1 ?c2 ?c3 ?c4 ?c5 ?_
        case c1 => exact World.news_of_block (cs := #[.int .i64 c, .int .i64 kind, .int .i64 sh, .slice Au l.length cu]) NB.out
        case c2 => intro u hu; simp at hu; rcases hu with rfl | rfl | rfl | rfl <;> rfl
        case c3 => unfold maxLen; omega
        case c4 => omega
        case c5 => exact LX.out.size
        intro v' w13 hown hg13 hnew
        clear n1 n2 n3 n4 n5 hnew
        have hbU : ∀ k, (.slice Ua mrows.length uc : Value).ownBlock = some k → w10.heap.size ≤ k := fun k e => (row_ty OU.out e).1
        have KX13 : Hid (Below w10.heap.size w10 w13) := LX.out.trans ⟨hg13.os, hg13.tape, hg13.output, hg13.size, fun k hk => hg13.block k (Nat.lt_of_lt_of_le hk LX.out.size) (fun e => by have := hbU k e.symm; omega)⟩
        obtain ⟨Va, vc, rfl⟩ := own_len hown
        have OV : Hid (w13.ownsRow w10.heap.size 89 4 (.slice Va (mrows.length + 1) vc) (mrows ++ [(⟨(c : Int), kind, sh, Au, l.length, cu⟩ : MkRow)]).length ((mrows ++ [(⟨(c : Int), kind, sh, Au, l.length, cu⟩ : MkRow)]).flatMap mkCells)) := by
          rw [List.length_append, List.flatMap_append]
          exact hown
        have X13 := Lib.hid ((KX13.out.block _ hz10).trans X10.out)
        have y3 := HeadAt.of_row X13.out 3 _ rfl
        have z3 := frozen_of_row w13 xb 3 _ _ X13.out
        clear hown hg13 hbU OU NB LX
        go_upto_region 10 with fail
        generalize hw14 : World.setCell _ _ _ = w14
        have L14 : Hid (Fined xb w13 w14) := by rw [← hw14]; exact (Fined.refl xb w13).set_ _ _
        have X14 : Hid (w14.heap[xb]? = some (.cells ⟨[.int .i64 x0.at_, .int .i64 x0.steps, .slice Sa x0.sets.length sn, .slice Va (mrows.length + 1) vc]⟩ 32 (0, 0))) := by rw [← hw14, heap_setCell_same w13 xb 3 _ _ _ X13.out]; rfl
        have hxb8 : w8.heap.size ≤ xb := by have := HHB.out; have := HXB.out; omega
        have K14 : Hid (Below w8.heap.size w8 w14) := (KA10.out.trans (KX13.out.mono KA10.out.size)).trans (L14.out.under hxb8 (Nat.le_trans KA10.out.size KX13.out.size))
        have OV14 : Hid (w14.ownsRow w10.heap.size 89 4 (.slice Va (mrows.length + 1) vc) (mrows ++ [(⟨(c : Int), kind, sh, Au, l.length, cu⟩ : MkRow)]).length ((mrows ++ [(⟨(c : Int), kind, sh, Au, l.length, cu⟩ : MkRow)]).flatMap mkCells)) := row_stays OV.out (fun G e => L14.out.block G (row_ty OV.out e).2.1 (fun c => row_ne OV.out X13.out (by decide) (by rw [e, c])))
        have SC := Lib.hid (sortMk_c w14 w10.heap.size _ _ OV14.out (by simp; omega))
        have y3 := HeadAt.of_row X14.out 3 _ rfl
        have hx14 := (Array.getElem?_eq_some_iff.1 X14.out).1
        clear hw14 X13 z3 OV L14
        go_wp2_with fail
        refine SC.out.mono ?_
        rintro e w15 ⟨rfl, D', hp, hown, hg15⟩
        have X15 : Hid (w15.heap[xb]? = some (.cells ⟨[.int .i64 x0.at_, .int .i64 x0.steps, .slice Sa x0.sets.length sn, .slice Va (mrows.length + 1) vc]⟩ 32 (0, 0))) := (hg15.block _ hx14 (fun e => row_ne OV14.out X14.out (by decide) e.symm)).trans X14.out
        have KB15 : Hid (Below w8.heap.size w8 w15) := K14.out.trans ⟨hg15.os, hg15.tape, hg15.output, hg15.size, fun k hk => hg15.block k (Nat.lt_of_lt_of_le hk K14.out.size) (fun e => by have := (row_ty OV14.out e.symm).1; have := KA10.out.size; omega)⟩
        have B15 := Lib.hid ((KB15.out.block _ (Array.getElem?_eq_some_iff.1 BR8.out).1).trans BR8.out)
        have OW := Lib.hid hown
        have HP := Lib.hid hp
        have SK15 : Hid (SunkR w15 B (.slice (some ⟨X, 0, none⟩) t.exits.length c9) t D rws ex) := SK8.out.keep (fun p hp => KB15.out.cell (by omega)) (fun k cs ty fr hk _ => KB15.out.block k hk)
        have THX : Hid (w15.there X (ke * 4) 4) := by
          obtain ⟨g, cap, e1, cs, hg, hc⟩ := own_open SK15.out.own (by omega)
          injection e1 with e1; injection e1 with e1; injection e1 with e1
          subst e1
          exact there_at hg (by omega)
        have RB15 : Hid (w15.rangeAt xb 0 [.int .i64 x0.at_, .int .i64 x0.steps, .slice Sa x0.sets.length sn, .slice Va (mrows.length + 1) vc]) := (HeadAt.of_row X15.out).range
        have t4 := HeadAt.of_row B15.out 4 _ rfl
        clear hp hown hg15 SC X14 OV14 y3 hx14 K14 KX13
        go_wp2_with (first
          | (refine wpList_load_mid rfl 32 _ rfl xb 0 rfl [.int .i64 x0.at_, .int .i64 x0.steps, .slice Sa x0.sets.length sn, .slice Va (mrows.length + 1) vc] _ RB15.out Tryz.underlying32 rfl infoSinkEx ?_)
          | (refine wpList_store_mid rfl 32 _ _ rfl X (ke * 4) #[.int .i64 x0.at_, .int .i64 x0.steps, .slice Sa x0.sets.length sn, .slice Va (mrows.length + 1) vc] rfl rfl THX.out infoSinkEx (all_oneCell_toArray (by simp [Value.oneCell'])) ?_)
          | fail)
        have EX : Hid (∃ x' : TExit, x'.sets = x0.sets ∧ x'.makes.length ≤ x0.makes.length + 1 ∧ (∀ m ∈ x'.makes, m.vals.length ≤ 1000) ∧ ExitX w15 B [.int .i64 x0.at_, .int .i64 x0.steps, .slice Sa x0.sets.length sn, .slice Va (mrows.length + 1) vc] x') := by
          have hle : B ≤ w8.heap.size := Nat.le_trans hXB.1 (Nat.le_of_lt hXB.2)
          have hB15 : ∀ p : Addr, p.block < B → w15.cell? p = w8.cell? p := fun p hp => KB15.out.cell (by omega)
          have hpl := HP.out.length_eq
          simp only [List.length_append, List.length_cons, List.length_nil] at hpl
          obtain ⟨ms, q1, q2, q3⟩ := makes_of (w := w15) (B := B) (rows := D') (fun r hr => by
            rcases List.mem_append.1 (HP.out.mem_iff.1 hr) with hr | hr
            · obtain ⟨i, hi⟩ := List.getElem?_of_mem hr
              have hil := (List.getElem?_eq_some_iff.1 hi).1
              have hm := List.getElem?_eq_getElem (l := x0.makes) (i := i) (by have := M1.out; omega)
              exact ⟨_, (M3.out i r _ hi hm).keep hB15 (fun k hk _ => KB15.out.block k hk)⟩
            · simp at hr
              subst hr
              refine ⟨⟨(c : Int), kind, sh, l⟩, rfl, rfl, rfl, .inr ⟨row_stays HV8.out (fun G e => KB15.out.block G (row_ty HV8.out e).2.1), HL8.out.2.1⟩, ⟨?_, HS.out.wfK, HL8.out.2.2⟩, HL8.out.1⟩
              have h3 := HS.out.fit.ins
              exact (by unfold wfi; omega : wfi (c : Int)))
          refine ⟨{ x0 with makes := ms }, rfl, by show ms.length ≤ _; have h3 := M1.out; omega, q3, _, _, D', rfl, ?_, WF0.out, ?_, q1, q2⟩
          · exact HSV.out.keep (Nat.le_refl _) hB15 (fun _ _ h => h)
          · have hOW := OW.out
            rw [← hpl] at hOW ⊢
            exact row_more hOW (by have := KA10.out.size; omega)
        obtain ⟨x', ex1, ex2, ex3, ex4⟩ := EX.out
        have PUT := SK15.out.put hke (d := ((ke : Int), .agg #[.int .i64 sh, .slice Au l.length cu])) rfl ex4 HXT.out ex1 ex2 ex3
        obtain ⟨rws', ex', hput⟩ := PUT
        have PU := Lib.hid hput
        have FX : Hid (Fined X w15 (w15.setCells X (ke * 4) [.int .i64 x0.at_, .int .i64 x0.steps, .slice Sa x0.sets.length sn, .slice Va (mrows.length + 1) vc])) := fined_setCells _ _ _ (Fined.refl X w15)
        have k16 : Hid (∀ k, k < w8.heap.size → k ≠ X → (w15.setCells X (ke * 4) [.int .i64 x0.at_, .int .i64 x0.steps, .slice Sa x0.sets.length sn, .slice Va (mrows.length + 1) vc]).heap[k]? = w8.heap[k]?) := fun k hk hne => (FX.out.block k (Nat.lt_of_lt_of_le hk KB15.out.size) hne).trans (KB15.out.block k hk)
        have RG16 : Hid (RangeN (w15.setCells X (ke * 4) [.int .i64 x0.at_, .int .i64 x0.steps, .slice Sa x0.sets.length sn, .slice Va (mrows.length + 1) vc]) mb ri s.E (D ++ [((ke : Int), .agg #[.int .i64 sh, .slice Au l.length cu])]) left') := by
          obtain ⟨a, b⟩ := RG8.out.lt
          obtain ⟨_, _, xs, hx9⟩ := row_ty SK8.out.own (rfl : (.slice (some ⟨X, 0, none⟩) t.exits.length c9 : Value).ownBlock = some X)
          refine RG8.out.kept (k16.out _ b (fun e => ?_)) (k16.out _ a (fun e => ?_))
          · obtain ⟨es, cl, si, se, c0, h9, _⟩ := RG8.out
            rw [e, hx9] at h9; cases h9
          · obtain ⟨es, cl, si, se, c0, _, _, h9, _⟩ := RG8.out
            rw [e, hx9] at h9; cases h9
        have ON16 : Hid (Only (fun k => (.slice (some ⟨X, 0, none⟩) t.exits.length c9 : Value).ownBlock = some k ∨ k = ri) w7 (w15.setCells X (ke * 4) [.int .i64 x0.at_, .int .i64 x0.steps, .slice Sa x0.sets.length sn, .slice Va (mrows.length + 1) vc])) := ON8.out.trans ⟨FX.out.os.trans KB15.out.os, FX.out.tape.trans KB15.out.tape, FX.out.output.trans KB15.out.output, Nat.le_trans KB15.out.size FX.out.size, fun k hk ht => k16.out k hk (fun e => ht (.inl (by rw [e]; rfl)))⟩
        clear hput ex1 ex2 ex3 ex4 EX
        (try dsimp only [Act.put])
        (try go_wp2_with fail)
        go_roundw
        case rel => exact ⟨_, left', rws', ex', RG16.out, PU.out, ON16.out, HPM8.out⟩
        case measure => (first | rw [RG16.out.left_eq, HR.out.left_eq] | (show World.rangeLeft _ _ _ < World.rangeLeft _ _ _; rw [RG16.out.left_eq, HR.out.left_eq])); exact hlw8.out
      · go_simp
        have ka : Below w10.heap.size w10 ((w10.alloc (.cells #[.int .i64 c, .int .i64 kind, .int .i64 sh, .slice Au l.length cu] 89)).drew) := (below_one w10 _).drew
        refine hK _ _ (fun _ => ⟨⟨_, ka⟩, rfl⟩) ?_
        clear hK K
        refine wpAnyC_of_ms [2, 17, 18, 19] _ _ _ (by kernel_rfl) ?_
        refine wpMs_step rfl (fun K hK => ?_)
        go_simp
        refine (CLM.out _ (KA10.out.trans (ka.mono KA10.out.size))).mono ?_
        rintro e w12 ⟨u, rfl, hu, k11⟩
        have LX : Hid (Below w10.heap.size w10 w12) := ka.trans (k11.mono ka.size)
        refine hK _ _ (fun _ => ⟨⟨w12, LX.out⟩, rfl⟩) ?_
        clear hK K
        have NB : Hid (w12.heap[w10.heap.size]? = some (.cells #[.int .i64 c, .int .i64 kind, .int .i64 sh, .slice Au l.length cu] 89 (0, 0))) := (k11.block _ (by simp)).trans (heap_last w10 _)
        have OU : Hid (w12.ownsRow w10.heap.size 89 4 u mrows.length (mrows.flatMap mkCells)) := row_more hu ka.size
        obtain ⟨nb, hnb⟩ : ∃ nb, nb = w10.heap.size := ⟨_, rfl⟩
        rw [← hnb] at NB
        rw [← hnb]
        obtain ⟨Ua, uc, rfl⟩ := own_len OU.out
        clear hnb hu k11 ka

        refine wpMs_list [17, 18, 19] _ _ (by kernel_rfl) (by kernel_rfl) ?_
        simp only [List.filterMap_cons, List.filterMap_nil, List.getElem?_toArray, List.getElem?_cons_zero, List.getElem?_cons_succ]
        obtain ⟨n1, n2, n3, n4, n5⟩ := IM.out
        refine wpList_append_new rfl _ _ 30 rfl w10.heap.size 89 iM zM 4 48 Tryz.underlying30 n1 n2 n3 n4 n5 (by decide) (.slice Ua mrows.length uc) mrows.length (mrows.flatMap mkCells) rfl OU.out ⟨nb, 0, none⟩ 1 1 [.int .i64 c, .int .i64 kind, .int .i64 sh, .slice Au l.length cu] rfl rfl ?c1 ?c2 ?c3 ?c4 ?c5 ?_
        case c1 => exact World.news_of_block (cs := #[.int .i64 c, .int .i64 kind, .int .i64 sh, .slice Au l.length cu]) NB.out
        case c2 => intro u hu; simp at hu; rcases hu with rfl | rfl | rfl | rfl <;> rfl
        case c3 => unfold maxLen; omega
        case c4 => omega
        case c5 => exact LX.out.size
        intro v' w13 hown hg13 hnew
        clear n1 n2 n3 n4 n5 hnew
        have hbU : ∀ k, (.slice Ua mrows.length uc : Value).ownBlock = some k → w10.heap.size ≤ k := fun k e => (row_ty OU.out e).1
        have KX13 : Hid (Below w10.heap.size w10 w13) := LX.out.trans ⟨hg13.os, hg13.tape, hg13.output, hg13.size, fun k hk => hg13.block k (Nat.lt_of_lt_of_le hk LX.out.size) (fun e => by have := hbU k e.symm; omega)⟩
        obtain ⟨Va, vc, rfl⟩ := own_len hown
        have OV : Hid (w13.ownsRow w10.heap.size 89 4 (.slice Va (mrows.length + 1) vc) (mrows ++ [(⟨(c : Int), kind, sh, Au, l.length, cu⟩ : MkRow)]).length ((mrows ++ [(⟨(c : Int), kind, sh, Au, l.length, cu⟩ : MkRow)]).flatMap mkCells)) := by
          rw [List.length_append, List.flatMap_append]
          exact hown
        have X13 := Lib.hid ((KX13.out.block _ hz10).trans X10.out)
        have y3 := HeadAt.of_row X13.out 3 _ rfl
        have z3 := frozen_of_row w13 xb 3 _ _ X13.out
        clear hown hg13 hbU OU NB LX
        go_upto_region 10 with fail
        generalize hw14 : World.setCell _ _ _ = w14
        have L14 : Hid (Fined xb w13 w14) := by rw [← hw14]; exact (Fined.refl xb w13).set_ _ _
        have X14 : Hid (w14.heap[xb]? = some (.cells ⟨[.int .i64 x0.at_, .int .i64 x0.steps, .slice Sa x0.sets.length sn, .slice Va (mrows.length + 1) vc]⟩ 32 (0, 0))) := by rw [← hw14, heap_setCell_same w13 xb 3 _ _ _ X13.out]; rfl
        have hxb8 : w8.heap.size ≤ xb := by have := HHB.out; have := HXB.out; omega
        have K14 : Hid (Below w8.heap.size w8 w14) := (KA10.out.trans (KX13.out.mono KA10.out.size)).trans (L14.out.under hxb8 (Nat.le_trans KA10.out.size KX13.out.size))
        have OV14 : Hid (w14.ownsRow w10.heap.size 89 4 (.slice Va (mrows.length + 1) vc) (mrows ++ [(⟨(c : Int), kind, sh, Au, l.length, cu⟩ : MkRow)]).length ((mrows ++ [(⟨(c : Int), kind, sh, Au, l.length, cu⟩ : MkRow)]).flatMap mkCells)) := row_stays OV.out (fun G e => L14.out.block G (row_ty OV.out e).2.1 (fun c => row_ne OV.out X13.out (by decide) (by rw [e, c])))
        have SC := Lib.hid (sortMk_c w14 w10.heap.size _ _ OV14.out (by simp; omega))
        have y3 := HeadAt.of_row X14.out 3 _ rfl
        have hx14 := (Array.getElem?_eq_some_iff.1 X14.out).1
        clear hw14 X13 z3 OV L14
        go_wp2_with fail
        refine SC.out.mono ?_
        rintro e w15 ⟨rfl, D', hp, hown, hg15⟩
        have X15 : Hid (w15.heap[xb]? = some (.cells ⟨[.int .i64 x0.at_, .int .i64 x0.steps, .slice Sa x0.sets.length sn, .slice Va (mrows.length + 1) vc]⟩ 32 (0, 0))) := (hg15.block _ hx14 (fun e => row_ne OV14.out X14.out (by decide) e.symm)).trans X14.out
        have KB15 : Hid (Below w8.heap.size w8 w15) := K14.out.trans ⟨hg15.os, hg15.tape, hg15.output, hg15.size, fun k hk => hg15.block k (Nat.lt_of_lt_of_le hk K14.out.size) (fun e => by have := (row_ty OV14.out e.symm).1; have := KA10.out.size; omega)⟩
        have B15 := Lib.hid ((KB15.out.block _ (Array.getElem?_eq_some_iff.1 BR8.out).1).trans BR8.out)
        have OW := Lib.hid hown
        have HP := Lib.hid hp
        have SK15 : Hid (SunkR w15 B (.slice (some ⟨X, 0, none⟩) t.exits.length c9) t D rws ex) := SK8.out.keep (fun p hp => KB15.out.cell (by omega)) (fun k cs ty fr hk _ => KB15.out.block k hk)
        have THX : Hid (w15.there X (ke * 4) 4) := by
          obtain ⟨g, cap, e1, cs, hg, hc⟩ := own_open SK15.out.own (by omega)
          injection e1 with e1; injection e1 with e1; injection e1 with e1
          subst e1
          exact there_at hg (by omega)
        have RB15 : Hid (w15.rangeAt xb 0 [.int .i64 x0.at_, .int .i64 x0.steps, .slice Sa x0.sets.length sn, .slice Va (mrows.length + 1) vc]) := (HeadAt.of_row X15.out).range
        have t4 := HeadAt.of_row B15.out 4 _ rfl
        clear hp hown hg15 SC X14 OV14 y3 hx14 K14 KX13
        go_wp2_with (first
          | (refine wpList_load_mid rfl 32 _ rfl xb 0 rfl [.int .i64 x0.at_, .int .i64 x0.steps, .slice Sa x0.sets.length sn, .slice Va (mrows.length + 1) vc] _ RB15.out Tryz.underlying32 rfl infoSinkEx ?_)
          | (refine wpList_store_mid rfl 32 _ _ rfl X (ke * 4) #[.int .i64 x0.at_, .int .i64 x0.steps, .slice Sa x0.sets.length sn, .slice Va (mrows.length + 1) vc] rfl rfl THX.out infoSinkEx (all_oneCell_toArray (by simp [Value.oneCell'])) ?_)
          | fail)
        have EX : Hid (∃ x' : TExit, x'.sets = x0.sets ∧ x'.makes.length ≤ x0.makes.length + 1 ∧ (∀ m ∈ x'.makes, m.vals.length ≤ 1000) ∧ ExitX w15 B [.int .i64 x0.at_, .int .i64 x0.steps, .slice Sa x0.sets.length sn, .slice Va (mrows.length + 1) vc] x') := by
          have hle : B ≤ w8.heap.size := Nat.le_trans hXB.1 (Nat.le_of_lt hXB.2)
          have hB15 : ∀ p : Addr, p.block < B → w15.cell? p = w8.cell? p := fun p hp => KB15.out.cell (by omega)
          have hpl := HP.out.length_eq
          simp only [List.length_append, List.length_cons, List.length_nil] at hpl
          obtain ⟨ms, q1, q2, q3⟩ := makes_of (w := w15) (B := B) (rows := D') (fun r hr => by
            rcases List.mem_append.1 (HP.out.mem_iff.1 hr) with hr | hr
            · obtain ⟨i, hi⟩ := List.getElem?_of_mem hr
              have hil := (List.getElem?_eq_some_iff.1 hi).1
              have hm := List.getElem?_eq_getElem (l := x0.makes) (i := i) (by have := M1.out; omega)
              exact ⟨_, (M3.out i r _ hi hm).keep hB15 (fun k hk _ => KB15.out.block k hk)⟩
            · simp at hr
              subst hr
              refine ⟨⟨(c : Int), kind, sh, l⟩, rfl, rfl, rfl, .inr ⟨row_stays HV8.out (fun G e => KB15.out.block G (row_ty HV8.out e).2.1), HL8.out.2.1⟩, ⟨?_, HS.out.wfK, HL8.out.2.2⟩, HL8.out.1⟩
              have h3 := HS.out.fit.ins
              exact (by unfold wfi; omega : wfi (c : Int)))
          refine ⟨{ x0 with makes := ms }, rfl, by show ms.length ≤ _; have h3 := M1.out; omega, q3, _, _, D', rfl, ?_, WF0.out, ?_, q1, q2⟩
          · exact HSV.out.keep (Nat.le_refl _) hB15 (fun _ _ h => h)
          · have hOW := OW.out
            rw [← hpl] at hOW ⊢
            exact row_more hOW (by have := KA10.out.size; omega)
        obtain ⟨x', ex1, ex2, ex3, ex4⟩ := EX.out
        have PUT := SK15.out.put hke (d := ((ke : Int), .agg #[.int .i64 sh, .slice Au l.length cu])) rfl ex4 HXT.out ex1 ex2 ex3
        obtain ⟨rws', ex', hput⟩ := PUT
        have PU := Lib.hid hput
        have FX : Hid (Fined X w15 (w15.setCells X (ke * 4) [.int .i64 x0.at_, .int .i64 x0.steps, .slice Sa x0.sets.length sn, .slice Va (mrows.length + 1) vc])) := fined_setCells _ _ _ (Fined.refl X w15)
        have k16 : Hid (∀ k, k < w8.heap.size → k ≠ X → (w15.setCells X (ke * 4) [.int .i64 x0.at_, .int .i64 x0.steps, .slice Sa x0.sets.length sn, .slice Va (mrows.length + 1) vc]).heap[k]? = w8.heap[k]?) := fun k hk hne => (FX.out.block k (Nat.lt_of_lt_of_le hk KB15.out.size) hne).trans (KB15.out.block k hk)
        have RG16 : Hid (RangeN (w15.setCells X (ke * 4) [.int .i64 x0.at_, .int .i64 x0.steps, .slice Sa x0.sets.length sn, .slice Va (mrows.length + 1) vc]) mb ri s.E (D ++ [((ke : Int), .agg #[.int .i64 sh, .slice Au l.length cu])]) left') := by
          obtain ⟨a, b⟩ := RG8.out.lt
          obtain ⟨_, _, xs, hx9⟩ := row_ty SK8.out.own (rfl : (.slice (some ⟨X, 0, none⟩) t.exits.length c9 : Value).ownBlock = some X)
          refine RG8.out.kept (k16.out _ b (fun e => ?_)) (k16.out _ a (fun e => ?_))
          · obtain ⟨es, cl, si, se, c0, h9, _⟩ := RG8.out
            rw [e, hx9] at h9; cases h9
          · obtain ⟨es, cl, si, se, c0, _, _, h9, _⟩ := RG8.out
            rw [e, hx9] at h9; cases h9
        have ON16 : Hid (Only (fun k => (.slice (some ⟨X, 0, none⟩) t.exits.length c9 : Value).ownBlock = some k ∨ k = ri) w7 (w15.setCells X (ke * 4) [.int .i64 x0.at_, .int .i64 x0.steps, .slice Sa x0.sets.length sn, .slice Va (mrows.length + 1) vc])) := ON8.out.trans ⟨FX.out.os.trans KB15.out.os, FX.out.tape.trans KB15.out.tape, FX.out.output.trans KB15.out.output, Nat.le_trans KB15.out.size FX.out.size, fun k hk ht => k16.out k hk (fun e => ht (.inl (by rw [e]; rfl)))⟩
        clear hput ex1 ex2 ex3 ex4 EX
        (try dsimp only [Act.put])
        (try go_wp2_with fail)
        go_roundw
        case rel => exact ⟨_, left', rws', ex', RG16.out, PU.out, ON16.out, HPM8.out⟩
        case measure => (first | rw [RG16.out.left_eq, HR.out.left_eq] | (show World.rangeLeft _ _ _ < World.rangeLeft _ _ _; rw [RG16.out.left_eq, HR.out.left_eq])); exact hlw8.out
end
end Go.Proofs.YtlnkjmgfkpeicaaGreatDoor
