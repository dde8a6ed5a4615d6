/- span.Do: the walk. -/
import Derived.Test.YtmccomeihnaanaaDoorChkG
import Derived.Test.YtmccomeihnaanaaDoorSpanQ
import Derived.Test.YtmccomeihnaanaaDoorSpan
import Derived.Test.YtmccomeihnaanaaDoorNone
import Derived.Test.YtmccomeihnaanaaDoorCseD
namespace Go.Proofs.YtmccomeihnaanaaDoor
open Go.RowKit Go.Maps


theorem infoOf_ins : (Tryd.prog.info? 43).map (fun i => (i.zero.map (·.cells.size), i.size, i.bytes)) = some (some 8, 8, 64) := by kernel_rfl
set_option maxHeartbeats 1000000 in
set_option maxRecDepth 100000 in
theorem clone_ins (v : Value) (rows : List (List Value)) (w : World) (hs : SliceR w w.heap.size 8 (Raw 8) v rows) (h1 : ∀ r ∈ rows, ∀ u ∈ r, u.oneCell' = true) (hlen : rows.length * 64 ≤ 140737488355328) :
    Calls Tryd.prog 57 #[v] w fun e w' => ∃ u, e = .returned u ∧ w'.ownsRow w.heap.size 43 8 u rows.length (rows.flatMap id) ∧ Below w.heap.size w w' := by
  have hraw : ∀ x ∈ rows, x.length = 8 := fun x hx => by obtain ⟨cs, _, h⟩ := hs.mem hx; exact h
  obtain ⟨A, cap, rfl, hc1, hc2, hc3⟩ := id hs
  cases A with
  | none =>
    have e : rows = [] := by
      rcases Nat.eq_zero_or_pos rows.length with h | h
      · exact List.length_eq_zero_iff.1 h
      · obtain ⟨b, off, h, _⟩ := hc3 h; cases h
    subst e
    have hn : ∀ W, (binOp .eql 27 (.slice none 0 cap) (.slice none 0 0)).run Tryd.prog W = .ok (.bool true) W := fun W => Lib.run_eql_slice_nil W _ _ _ _ _ _ _ Tryd.underlying27
    clear hc3 hs hraw h1
    simp only [List.length_nil] at *
    go_enter Tryd.func57, Tryd.ntmps57
    go_wp2_with fail
    go_ret
    exact ⟨_, rfl, World.ownsRow_nil _ _ _ _, Below.refl _ _⟩
  | some ad =>
    have hn : ∀ W, (binOp .eql 27 (.slice (some ad) rows.length cap) (.slice none 0 0)).run Tryd.prog W = .ok (.bool false) W := fun W => Lib.run_eql_slice_nil W _ _ _ _ _ _ _ Tryd.underlying27
    have hnews : ∀ j u, (rows.flatMap id)[j]? = some u → w.cell? (ad.add j) = some u := by
      rcases Nat.eq_zero_or_pos rows.length with h | h
      · have e : rows = [] := List.length_eq_zero_iff.1 h
        subst e; simp
      · obtain ⟨b, off, h, _⟩ := hc3 h
        injection h with h
        subst h
        exact news_of_slice (by decide) hraw (fun cs x h => h.1) hs
    obtain ⟨i0, hi, hq⟩ := Option.map_eq_some_iff.1 infoOf_ins
    simp only [Prod.mk.injEq] at hq
    obtain ⟨hz, hz1, hz2⟩ := hq
    obtain ⟨z, hz0, hz3⟩ := Option.map_eq_some_iff.1 hz
    have HS := Lib.hid hnews
    have HI := Lib.hid hi
    have HZ := Lib.hid hz0
    have HZ1 := Lib.hid hz1
    have HZ2 := Lib.hid hz2
    have HZ3 := Lib.hid hz3
    have hl : rows.length ≤ maxLen := by unfold maxLen; omega
    have HL := Lib.hid hl
    have HR := Lib.hid hraw
    have HO := Lib.hid (ones_flat (f := id) rows h1)
    have HF := Lib.hid (flat_len (f := id) rows hraw)
    clear hnews hi hz0 hz1 hz2 hz3 hz hl hraw h1 hs hc3
    go_enter Tryd.func57, Tryd.ntmps57
    go_wp2_with (at_builtin; refine wpList_append_own _ rfl _ _ 27 rfl w.heap.size 43 i0 z 8 64 Tryd.underlying27 HI.out HZ.out HZ1.out HZ2.out HZ3.out (by decide) (.slice (some ⟨w.heap.size, 0, none⟩) 0 0) 0 [] rfl (own_empty _ _ _) ad rows.length cap (rows.flatMap id) rfl HF.out (fun j u hj => old_one (HS.out j u hj) _) HO.out (by rw [Nat.zero_add]; exact HL.out) (by rw [Nat.zero_add]; exact hlen) (by simp) ?_)
    intro v' w6 hown hg _
    have KG := Lib.hid hg
    have KO := Lib.hid hown
    clear hg hown
    go_wp2_with fail
    go_ret
    refine ⟨_, rfl, by simpa using KO.out, Below.grown (below_one w _) KG.out (by simp) (by simp [Value.ownBlock])⟩

theorem own_cell {w : World} {B g cap n size k : Nat} {e : TypeId} {xs : List Value} (h : w.ownsRow B e size (.slice (some ⟨g, 0, none⟩) n cap) n xs) (hk : k < n * size) (v : Value) : (w.setCell ⟨g, k, none⟩ v).ownsRow B e size (.slice (some ⟨g, 0, none⟩) n cap) n (xs.set k v) := by
  obtain ⟨hl, h2⟩ := h
  rcases h2 with ⟨e1, _⟩ | ⟨g', cap', cur, e1, hb, hg, h3, h4, h5, h6⟩
  · cases e1
  · injection e1 with e1 e2 e3
    injection e1 with e1
    injection e1 with e1
    subst e1; subst e3
    refine ⟨by rw [List.length_set]; exact hl, .inr ⟨g, cap, cur.setIfInBounds k v, rfl, hb, ?_, h3, h4, by simp [h5], ?_⟩⟩
    · exact heap_setCell_same w g k _ _ _ hg
    · rw [Array.toList_setIfInBounds, List.take_set, h6]
theorem flat_exit (v : Int) : ∀ (xs : List TIns) (j : Nat) (x : TIns), xs[j]? = some x → (xs.flatMap insCells).set (j * 8 + 5) (.int .i64 v) = (xs.set j { x with exit := v }).flatMap insCells
  | [], _, _, h => by simp at h
  | y :: l, 0, x, h => by
    obtain rfl : y = x := by simpa using h
    simp [insCells]
  | y :: l, j + 1, x, h => by
    have ih := flat_exit v l j x (by simpa using h)
    rw [List.flatMap_cons, List.set_cons_succ, List.flatMap_cons, List.set_append_right _ _ (by simp [insCells]; omega), show (j + 1) * 8 + 5 - (insCells y).length = j * 8 + 5 by simp [insCells]; omega, ih]
theorem flat_ins : ∀ (xs : List TIns) (i k : Nat) (x : TIns), xs[i]? = some x → k < 8 → (xs.flatMap insCells)[i * 8 + k]? = (insCells x)[k]?
  | [], _, _, _, h, _ => by simp at h
  | y :: l, 0, k, x, h, hk => by
    obtain rfl : y = x := by simpa using h
    rw [List.flatMap_cons, List.getElem?_append_left (by simp [insCells]; omega)]; simp
  | y :: l, i + 1, k, x, h, hk => by
    rw [List.flatMap_cons, List.getElem?_append_right (by simp [insCells]; omega), show (i + 1) * 8 + k - (insCells y).length = i * 8 + k by simp [insCells]; omega]
    exact flat_ins l i k x (by simpa using h) hk
theorem sliceR_ins {w : World} {base : Nat} {e : TypeId} {A : Option Addr} {c : Nat} {xs : List TIns} (h : w.ownsRow base e 8 (.slice A xs.length c) xs.length (xs.flatMap insCells)) (hw : ∀ x ∈ xs, WfIns x) : SliceR w w.heap.size 8 InsR (.slice A xs.length c) xs := by
  rcases h.2 with ⟨e0, h0⟩ | ⟨g, cap, cur, e0, hb, hg, h1, h2, h3, h5⟩
  · have : xs = [] := List.length_eq_zero_iff.1 h0
    subst this
    rw [e0]
    exact SliceR.nil _ _ _ _
  · injection e0 with e0 e1 e2
    subst e0; subst e2
    refine ⟨_, _, rfl, h1, h2, fun hp => ⟨g, 0, rfl, (Array.getElem?_eq_some_iff.1 hg).1, fun i x hi => ?_⟩⟩
    have hi' := (List.getElem?_eq_some_iff.1 hi).1
    refine ⟨insCells x, rfl, ⟨rfl, hw x (List.mem_of_getElem? hi)⟩, fun k u hk => ?_⟩
    have hk8 : k < 8 := (List.getElem?_eq_some_iff.1 hk).1
    rw [Nat.zero_add, World.ownsRow.cellAt h (i * 8 + k) (by omega), flat_ins xs i k x hi hk8]
    exact hk
/-- the instructions, j of them looked at -/
def freeTo (ins : List TIns) (j : Nat) : List TIns := ins.mapIdx (fun k x => if k < j then freeI ins k x else x)
theorem freeTo_zero (ins : List TIns) : freeTo ins 0 = ins := by
  apply List.ext_getElem?
  intro i
  unfold freeTo
  rw [List.getElem?_mapIdx]
  cases ins[i]? <;> simp
theorem freeTo_all (t : TTrace) : freeTo t.ins t.ins.length = (outT t).ins := by
  apply List.ext_getElem?
  intro i
  show _ = (t.ins.mapIdx (freeI t.ins))[i]?
  unfold freeTo
  rw [List.getElem?_mapIdx, List.getElem?_mapIdx]
  cases h : t.ins[i]? with
  | none => rfl
  | some x => simp only [Option.map_some]; rw [if_pos (List.getElem?_eq_some_iff.1 h).1]
theorem freeTo_len (ins : List TIns) (j : Nat) : (freeTo ins j).length = ins.length := by simp [freeTo]
theorem freeTo_here {ins : List TIns} {j : Nat} {x : TIns} (h : ins[j]? = some x) : (freeTo ins j)[j]? = some x := by
  unfold freeTo
  rw [List.getElem?_mapIdx, h]
  simp
theorem freeTo_next {ins : List TIns} {j : Nat} {x : TIns} (h : ins[j]? = some x) : freeTo ins (j + 1) = if (x.op = 7 ∨ x.op = 8) ∧ 0 ≤ x.exit ∧ neverM ins j = true then (freeTo ins j).set j { x with exit := -1 } else freeTo ins j := by
  have hj := (List.getElem?_eq_some_iff.1 h).1
  apply List.ext_getElem?
  intro i
  by_cases c : (x.op = 7 ∨ x.op = 8) ∧ 0 ≤ x.exit ∧ neverM ins j = true
  · rw [if_pos c]
    by_cases e : j = i
    · subst e
      rw [List.getElem?_set_self (by rw [freeTo_len]; exact hj)]
      unfold freeTo
      rw [List.getElem?_mapIdx, h]
      simp only [Option.map_some]
      rw [if_pos (by omega)]
      unfold freeI
      rw [if_pos c]
    · rw [List.getElem?_set_ne e]
      unfold freeTo
      rw [List.getElem?_mapIdx, List.getElem?_mapIdx]
      cases ins[i]? with
      | none => rfl
      | some y => simp only [Option.map_some, show (i < j + 1) ↔ (i < j) from ⟨fun _ => by omega, fun _ => by omega⟩]
  · rw [if_neg c]
    by_cases e : j = i
    · subst e
      unfold freeTo
      rw [List.getElem?_mapIdx, List.getElem?_mapIdx, h]
      simp only [Option.map_some]
      rw [if_pos (by omega), if_neg (by omega)]
      unfold freeI
      rw [if_neg c]
    · unfold freeTo
      rw [List.getElem?_mapIdx, List.getElem?_mapIdx]
      cases ins[i]? with
      | none => rfl
      | some y => simp only [Option.map_some, show (i < j + 1) ↔ (i < j) from ⟨fun _ => by omega, fun _ => by omega⟩]
theorem free_wf {ins : List TIns} (h : ∀ x ∈ ins, WfIns x) (t : TTrace) (ht : t.ins = ins) : ∀ x ∈ (outT t).ins, WfIns x := fun x hx => by
  obtain ⟨k, hk⟩ := List.getElem?_of_mem hx
  obtain ⟨y, hy, rfl⟩ := out_at hk
  have hw := h y (by rw [← ht]; exact List.mem_of_getElem? hy)
  unfold freeI
  split
  · obtain ⟨a, b, c, d, e, f, g⟩ := hw
    exact ⟨a, b, c, d, e, by unfold wfi; dsimp only; omega, g⟩
  · exact hw
theorem traceR_ins {w0 w : World} {B0 : Nat} {ca : List Value} {t : TTrace} (h : TraceR w0 B0 ca t) (hB : B0 ≤ w.heap.size) (hk : ∀ p : Addr, p.block < B0 → w.cell? p = w0.cell? p) {u : Value} {xs : List TIns} (hu : SliceR w w.heap.size 8 InsR u xs) :
    TraceR w w.heap.size (ca.set 3 u) { t with ins := xs } := by
  obtain ⟨i, e, ct, cb, h1, h2, h3, h4, h5⟩ := h.keep hB hk
  exact ⟨u, e, ct, cb, by rw [h1]; rfl, hu, h3, h4, h5⟩
theorem smallT_out {t : TTrace} (h : SmallT t) : SmallT (outT t) := ⟨by rw [out_len]; exact h.ins, h.exitsLen, h.exits, h.turn, h.back⟩
theorem upto_wf {n : Nat} (h : n ≤ 300) : ∀ v ∈ upto n, wfi v := fun v hv => by
  unfold upto at hv
  obtain ⟨i, hi, rfl⟩ := List.mem_map.1 hv
  have := List.mem_range.1 hi
  unfold wfi; omega
theorem own_keep {w w' : World} {B n size : Nat} {e : TypeId} {v : Value} {xs : List Value} (h : w.ownsRow B e size v n xs) (hk : ∀ G, v.ownBlock = some G → G < w.heap.size → w'.heap[G]? = w.heap[G]?) : w'.ownsRow B e size v n xs := by
  obtain ⟨hl, h2⟩ := h
  refine ⟨hl, ?_⟩
  rcases h2 with ⟨rfl, h0⟩ | ⟨g, cap, cur, rfl, hb, hg, h1⟩
  · exact .inl ⟨rfl, h0⟩
  · exact .inr ⟨g, cap, cur, rfl, hb, (hk g rfl (Array.getElem?_eq_some_iff.1 hg).1).trans hg, h1⟩
/-- the world in the midst of span.Do: what turns (the map mb, the way's row tr, the new instructions u), and that all else is as it was in W5 -/
structure Sd (W5 : World) (B fb mb : Nat) (ca : List Value) (t : TTrace) (tr Bu : Nat) (u : Value) (jr jo : Nat) (w : World) : Prop where
  find : FindR w B fb mb ca t
  map : ∃ L', MapAt w mb t.ins L'
  row : w.heap[tr]? = some (.cells ⟨toRow (upto jr) t.ins.length⟩ 3 (0, 0))
  own : w.ownsRow Bu 43 8 u t.ins.length ((freeTo t.ins jo).flatMap insCells)
  size : W5.heap.size ≤ w.heap.size
  os : w.os = W5.os
  tape : w.tape = W5.tape
  output : w.output = W5.output
  same : ∀ k, k < W5.heap.size → k ≠ mb → k ≠ tr → u.ownBlock ≠ some k → w.heap[k]? = W5.heap[k]?
section
variable {W5 w w' : World} {B fb mb tr Bu jr jo : Nat} {ca : List Value} {t : TTrace} {u : Value}
theorem Sd.below (s : Sd W5 B fb mb ca t tr Bu u jr jo w) (k : Below w.heap.size w w') : Sd W5 B fb mb ca t tr Bu u jr jo w' := by
  obtain ⟨L', h1⟩ := s.map
  exact ⟨s.find.below k, ⟨L', h1.below k⟩, (k.block _ (Array.getElem?_eq_some_iff.1 s.row).1).trans s.row, own_keep s.own (fun G _ hG => k.block G hG), Nat.le_trans s.size k.size, k.os.trans s.os, k.tape.trans s.tape, k.output.trans s.output, fun i hi a b c => (k.block i (Nat.lt_of_lt_of_le hi s.size)).trans (s.same i hi a b c)⟩
theorem Sd.next (s : Sd W5 B fb mb ca t tr Bu u jr jo w) (k : Fined mb w w') (m : ∃ L', MapAt w' mb t.ins L') (h1 : tr ≠ mb) (h2 : u.ownBlock ≠ some mb) : Sd W5 B fb mb ca t tr Bu u jr jo w' :=
  ⟨s.find.fined k, m, k.row s.row h1, own_keep s.own (fun G e hG => k.block G hG (fun h => h2 (by rw [e, h]))), Nat.le_trans s.size k.size, k.os.trans s.os, k.tape.trans s.tape, k.output.trans s.output, fun i hi a b c => (k.block i (Nat.lt_of_lt_of_le hi s.size) a).trans (s.same i hi a b c)⟩
theorem Sd.setTo (s : Sd W5 B fb mb ca t tr Bu u jr jo w) (hj : jr < t.ins.length) (h1 : tr ≠ mb) (h2 : u.ownBlock ≠ some tr) (h3 : tr ≠ fb) (h4 : B ≤ tr) : Sd W5 B fb mb ca t tr Bu u (jr + 1) jo (w.setCell ⟨tr, jr, none⟩ (.int .i64 (jr : Int))) := by
  obtain ⟨L', m⟩ := s.map
  have far : ∀ k, k ≠ tr → (w.setCell ⟨tr, jr, none⟩ (.int .i64 (jr : Int))).heap[k]? = w.heap[k]? := fun k hk => heap_setCell_other w _ _ _ (by show k ≠ tr; exact hk)
  refine ⟨⟨(far _ (Ne.symm h3)).trans s.find.row, s.find.tr.keep (Nat.le_refl _) (fun p hp => (Below.set_at (Below.refl B w) h4 jr _).cell hp), s.find.hB, s.find.hM, s.find.ne⟩, ⟨L', m.set_ (Ne.symm h1) _ _⟩, ?_, own_keep s.own (fun G e _ => far G (fun h => h2 (by rw [e, h]))), by simp [World.setCell]; exact s.size, s.os, s.tape, s.output, fun i hi a b c => (far i b).trans (s.same i hi a b c)⟩
  rw [heap_setCell_same w tr jr _ _ _ s.row, toRow_push (by rw [upto_len]; exact hj) (by rw [upto_len]), upto_succ]
theorem Sd.setOut {G c : Nat} {x : TIns} (s : Sd W5 B fb mb ca t tr Bu (.slice (some ⟨G, 0, none⟩) t.ins.length c) jr jo w) (hx : t.ins[jo]? = some x) (hf : (x.op = 7 ∨ x.op = 8) ∧ 0 ≤ x.exit ∧ neverM t.ins jo = true) (h1 : G ≠ mb) (h2 : G ≠ tr) (h3 : G ≠ fb) (h4 : B ≤ G) :
    Sd W5 B fb mb ca t tr Bu (.slice (some ⟨G, 0, none⟩) t.ins.length c) jr (jo + 1) (w.setCell ⟨G, jo * 8 + 5, none⟩ (.int .i64 (-1))) := by
  obtain ⟨L', m⟩ := s.map
  have hj := (List.getElem?_eq_some_iff.1 hx).1
  have far : ∀ k, k ≠ G → (w.setCell ⟨G, jo * 8 + 5, none⟩ (.int .i64 (-1))).heap[k]? = w.heap[k]? := fun k hk => heap_setCell_other w _ _ _ (by show k ≠ G; exact hk)
  refine ⟨⟨(far _ (Ne.symm h3)).trans s.find.row, s.find.tr.keep (Nat.le_refl _) (fun p hp => (Below.set_at (Below.refl B w) h4 _ _).cell hp), s.find.hB, s.find.hM, s.find.ne⟩, ⟨L', m.set_ (Ne.symm h1) _ _⟩, (far _ (Ne.symm h2)).trans s.row, ?_, by simp [World.setCell]; exact s.size, s.os, s.tape, s.output, fun i hi a b c => (far i (fun h => c (by rw [h]; rfl))).trans (s.same i hi a b c)⟩
  rw [freeTo_next hx, if_pos hf, ← flat_exit (-1) (freeTo t.ins jo) jo x (freeTo_here hx)]
  exact own_cell s.own (by omega) _
theorem Sd.keepOut {x : TIns} (s : Sd W5 B fb mb ca t tr Bu u jr jo w) (hx : t.ins[jo]? = some x) (hf : ¬ ((x.op = 7 ∨ x.op = 8) ∧ 0 ≤ x.exit ∧ neverM t.ins jo = true)) : Sd W5 B fb mb ca t tr Bu u jr (jo + 1) w :=
  ⟨s.find, s.map, s.row, by rw [freeTo_next hx, if_neg hf]; exact s.own, s.size, s.os, s.tape, s.output, s.same⟩
theorem Sd.rowOf (s : Sd W5 B fb mb ca t tr Bu u jr jo w) {k : Nat} {o : Obj} (h : W5.heap[k]? = some o) (h1 : k ≠ mb) (h2 : k ≠ tr) (h3 : u.ownBlock ≠ some k) : w.heap[k]? = some o := (s.same k (Array.getElem?_eq_some_iff.1 h).1 h1 h2 h3).trans h
theorem Sd.low (s : Sd W5 B fb mb ca t tr Bu u jr jo w) {n : Nat} (hn : n ≤ W5.heap.size) (h1 : n ≤ mb) (h2 : n ≤ tr) (h3 : ∀ G, u.ownBlock = some G → n ≤ G) : Below n W5 w :=
  ⟨s.os, s.tape, s.output, s.size, fun k hk => s.same k (by omega) (by omega) (by omega) (fun e => by have := h3 k e; omega)⟩
end
theorem mk_boolsR (n : Nat) (hn : n ≤ 600) (W : World) : (Instr.makeSlice 38 (.int .i64 (n : Int)) (.int .i64 (n : Int))).run Tryd.prog W = .ok (.slice (some ⟨W.heap.size, 0, none⟩) n n) (W.alloc (.cells (Array.replicate n (.int .i64 0)) 3)) := mk_ints n hn W
set_option maxHeartbeats 8000000 in
set_option maxRecDepth 100000 in
theorem spanDo_c (pcs ca : List Value) (p : CProg) (t : TTrace) (w : World) (hp : ProgR w w.heap.size pcs p) (ht : TraceR w w.heap.size ca t) (tab : Tab w) :
    Calls Tryd.prog 30 #[.agg ⟨pcs⟩, .agg ⟨ca⟩] w (fun e w' => ∃ cs, e = .returned (.tuple #[.agg ⟨cs⟩, .int .i64 (spanDoM (ceOf p t) t).2]) ∧ TraceR w' w'.heap.size cs (spanDoM (ceOf p t) t).1 ∧ Below w.heap.size w w') := by
  have HT := Lib.hid ht
  have HIp := Lib.hid hp.size3
  have HIt := Lib.hid ht.size13
  obtain ⟨Ai, ni, B2, m2, B3, m3, B4, m4, B5, m5, B6, m6, hca, qi⟩ := ht.cellsS
  have HCA := Lib.hid hca
  have QI := Lib.hid qi
  have p3 : ca[3]? = some (.slice Ai t.ins.length ni) := by rw [hca]; rfl
  have P3 := Lib.hid p3
  obtain ⟨w0, hw0⟩ : ∃ w0, w0 = ((w.alloc (.cells ⟨pcs⟩ 26)).alloc (.cells ⟨ca⟩ 34)).alloc (.cells ⟨zeroTrace⟩ 34) := ⟨_, rfl⟩
  have K0 : Hid (Below w.heap.size w w0) := by rw [hw0]; exact (below_two' w _ _).alloc (by simp; omega) _
  have D0 : Hid (w0.heap[w.heap.size]? = some (.cells ⟨pcs⟩ 26 (0, 0))) := by rw [hw0]; exact heap_old (heap_old (heap_last w _) _) _
  have D1 : Hid (w0.heap[w.heap.size + 1]? = some (.cells ⟨ca⟩ 34 (0, 0))) := by rw [hw0]; exact heap_old (heap_two _ _ _) _
  have D2 : Hid (w0.heap[w.heap.size + 1 + 1]? = some (.cells ⟨zeroTrace⟩ 34 (0, 0))) := by rw [hw0]; exact heap_three _ _ _ _
  have hz0 : w.heap.size + 1 + 1 < w0.heap.size := (Array.getElem?_eq_some_iff.1 D2.out).1
  have R1 : Hid (w0.rangeAt w.heap.size 0 pcs) := (HeadAt.of_row D0.out).range
  have R2 : Hid (w0.rangeAt (w.heap.size + 1) 0 ca) := (HeadAt.of_row D1.out).range
  unfold zeroTrace at hw0
  have HW := Lib.hid hw0
  obtain ⟨ce, hce⟩ : ∃ ce, ceOf p t = ce := ⟨_, rfl⟩
  have CE := Lib.hid (check_c pcs ca p t w0 (hp.below K0.out) (ht.below K0.out) (tab.below K0.out))
  rw [show ceOf p t = ce from hce]
  unfold ceOf at hce
  rw [hce] at CE
  have HCE := Lib.hid hce
  clear hp ht hw0 qi hce p3 tab hca
  go_enter Tryd.func30, Tryd.ntmps30
  go_wp2_with (first | (refine wpList_load_mid rfl 26 _ rfl w.heap.size 0 rfl pcs _ (by rw [← HW.out]; exact R1.out) Tryd.underlying26 rfl HIp.out ?_) | (refine wpList_load_mid rfl 34 _ rfl (w.heap.size + 1) 0 rfl ca _ (by rw [← HW.out]; exact R2.out) Tryd.underlying34 rfl HIt.out ?_) | fail)
  rw [← HW.out]
  refine CE.out.mono ?_
  rintro e w1 ⟨rfl, k1⟩
  have K1 := Lib.hid (K0.out.trans (k1.mono K0.out.size))
  have E1 := Lib.hid ((k1.block _ (by omega)).trans D1.out)
  have E2 := Lib.hid ((k1.block _ (by omega)).trans D2.out)
  have hz1 : w.heap.size + 1 + 1 < w1.heap.size := (Array.getElem?_eq_some_iff.1 E2.out).1
  clear k1 R1 R2 CE
  by_cases hc : ce = 0
  case neg =>
    have hc' : (ce != 0) = true := by simpa using hc
    have HN : Hid (spanDoM ce t = (trace0, ce)) := by unfold spanDoM Hid; rw [if_pos hc]
    go_wp2_with (refine wpList_store_row rfl 34 _ _ rfl (w.heap.size + 1 + 1) #[.int .i64 0, .int .i64 0, .int .i64 0, .slice none 0 0, .slice none 0 0, .int .i64 0, .int .i64 0, .slice none 0 0, .slice none 0 0, .int .i64 0, .int .i64 0, .slice none 0 0, .slice none 0 0] rfl rfl 34 _ E2.out infoTr13 rfl (all_oneCell_toArray (by simp [Value.oneCell'])) ?_)
    generalize hw9 : World.setRow _ _ _ = w9
    have QR : Hid (w9.heap[w.heap.size + 1 + 1]? = some (.cells #[.int .i64 0, .int .i64 0, .int .i64 0, .slice none 0 0, .slice none 0 0, .int .i64 0, .int .i64 0, .slice none 0 0, .slice none 0 0, .int .i64 0, .int .i64 0, .slice none 0 0, .slice none 0 0] 34 (0, 0))) := by rw [← hw9]; exact setRow_heap _ _ _ _ _ _ E2.out
    have K9 : Hid (Below w.heap.size w w9) := by rw [← hw9]; exact Below.set_row K1.out (by omega) _
    clear hw9
    go_wp2_with fail
    have r0 := cell_of_row w9 (w.heap.size + 1 + 1) 0 _ _ _ QR.out
    have r1 := cell_of_row w9 (w.heap.size + 1 + 1) 1 _ _ _ QR.out
    have r2 := cell_of_row w9 (w.heap.size + 1 + 1) 2 _ _ _ QR.out
    have r3 := cell_of_row w9 (w.heap.size + 1 + 1) 3 _ _ _ QR.out
    have r4 := cell_of_row w9 (w.heap.size + 1 + 1) 4 _ _ _ QR.out
    have r5 := cell_of_row w9 (w.heap.size + 1 + 1) 5 _ _ _ QR.out
    have r6 := cell_of_row w9 (w.heap.size + 1 + 1) 6 _ _ _ QR.out
    have r7 := cell_of_row w9 (w.heap.size + 1 + 1) 7 _ _ _ QR.out
    have r8 := cell_of_row w9 (w.heap.size + 1 + 1) 8 _ _ _ QR.out
    have r9 := cell_of_row w9 (w.heap.size + 1 + 1) 9 _ _ _ QR.out
    have r10 := cell_of_row w9 (w.heap.size + 1 + 1) 10 _ _ _ QR.out
    have r11 := cell_of_row w9 (w.heap.size + 1 + 1) 11 _ _ _ QR.out
    have r12 := cell_of_row w9 (w.heap.size + 1 + 1) 12 _ _ _ QR.out
    rw [HN.out]
    exact bodyPost_ret (v := .tuple #[.agg ⟨zeroTrace⟩, .int .i64 ce]) (by simp [results, Tryd.results30, go_sem, zeroTrace, r0, r1, r2, r3, r4, r5, r6, r7, r8, r9, r10, r11, r12]) rfl ⟨_, rfl, zeroTrace_R _ _, K9.out⟩
  subst hc
  have SM := Lib.hid (check_small HCE.out)
  have CUTS := Lib.hid (checkM_cuts HCE.out)
  have HCO := Lib.hid (const_ok HCE.out)
  have HFI := Lib.hid (fine_ok HCE.out)
  have hlen := SM.out.ins
  have HM : Hid (spanDoM 0 t = cutM (outT t) (upto t.ins.length)) := by unfold spanDoM Hid; rw [if_neg (by simp)]
  have hmm := @run_makeMap Tryd.prog
  have hmi : (t.ins.length : Int) ≤ 300 := by omega
  have E1' := Lib.hid E1.out
  rw [HCA.out] at E1'
  have l0 := HeadAt.of_row E1'.out 0 _ rfl
  have l1 := HeadAt.of_row E1'.out 1 _ rfl
  have l2 := HeadAt.of_row E1'.out 2 _ rfl
  have l3 := HeadAt.of_row E1'.out 3 _ rfl
  have l4 := HeadAt.of_row E1'.out 4 _ rfl
  have l5 := HeadAt.of_row E1'.out 5 _ rfl
  have l6 := HeadAt.of_row E1'.out 6 _ rfl
  have l7 := HeadAt.of_row E1'.out 7 _ rfl
  have l8 := HeadAt.of_row E1'.out 8 _ rfl
  have l9 := HeadAt.of_row E1'.out 9 _ rfl
  have l10 := HeadAt.of_row E1'.out 10 _ rfl
  have l11 := HeadAt.of_row E1'.out 11 _ rfl
  have l12 := HeadAt.of_row E1'.out 12 _ rfl
  have hz1a : w.heap.size + 1 < w1.heap.size := by omega
  obtain ⟨w2, hw2⟩ : ∃ w2, w2 = (w1.alloc (.map #[] 0)).alloc (.cells #[.int .i64 t.fn, .int .i64 t.at_, .int .i64 t.loop, .slice Ai t.ins.length ni, .slice B2 t.exits.length m2, .int .i64 t.turn.at_, .int .i64 t.turn.steps, .slice B3 t.turn.sets.length m3, .slice B4 t.turn.makes.length m4, .int .i64 t.back.at_, .int .i64 t.back.steps, .slice B5 t.back.sets.length m5, .slice B6 t.back.makes.length m6, .map (some w1.heap.size)] 111) := ⟨_, rfl⟩
  have L2 : Hid (Below w1.heap.size w1 w2) := by rw [hw2]; exact below_two' w1 _ _
  have M2 : Hid (MapAt w2 w1.heap.size t.ins []) := by
    rw [hw2]; exact ⟨(World.ownsMap_made _ _ _ _).alloc _, List.nodup_nil, fun k hk => by cases hk⟩
  have F2 : Hid (FindR w2 w.heap.size (w1.heap.size + 1) w1.heap.size ca t) := by
    refine ⟨by rw [hw2, HCA.out]; exact heap_two _ _ _, ?_, by omega, by omega, by omega⟩
    have k2 := K1.out.trans (L2.out.mono K1.out.size)
    exact HT.out.keep (Nat.le_refl _) (fun p hp => k2.cell hp)
  have HW2 := Lib.hid hw2
  clear hw2
  go_upto_region 5 with fail
  rw [← HW2.out]
  clear l0 l1 l2 l3 l4 l5 l6 l7 l8 l9 l10 l11 l12 hmm
  have E21 := Lib.hid ((L2.out.block _ hz1a).trans E1.out)
  have E22 := Lib.hid ((L2.out.block _ (by omega)).trans E2.out)
  have hz2 : w1.heap.size + 1 < w2.heap.size := F2.out.lt
  have l3 := HeadAt.of_row E21.out 3 _ P3.out
  have hmk := mk_boolsR t.ins.length (by omega) w2
  obtain ⟨w3, hw3⟩ : ∃ w3, w3 = w2.alloc (.cells (Array.replicate t.ins.length (.int .i64 0)) 3) := ⟨_, rfl⟩
  obtain ⟨tr, htr⟩ : ∃ tr, tr = w2.heap.size := ⟨_, rfl⟩
  have L3 : Hid (Below w2.heap.size w2 w3) := by rw [hw3]; exact below_one _ _
  have T3 : Hid (w3.heap[tr]? = some (.cells ⟨toRow (upto 0) t.ins.length⟩ 3 (0, 0))) := by rw [hw3, htr, show upto 0 = [] from rfl, toRow_zero]; exact heap_last _ _
  have hz3 : tr < w3.heap.size := (Array.getElem?_eq_some_iff.1 T3.out).1
  have HW3 := Lib.hid hw3
  have HTR := Lib.hid htr
  have htr2 : w1.heap.size + 1 < tr := by rw [htr]; exact F2.out.lt
  clear hw3 htr
  go_upto_region 6 with fail
  rw [← HW3.out, ← HTR.out]
  clear l3 hmk
  have hz21 : w.heap.size + 1 + 1 < w2.heap.size := by omega
  have E31 := Lib.hid ((L3.out.block _ (by omega)).trans E21.out)
  have E32 := Lib.hid ((L3.out.block _ (by omega)).trans E22.out)
  have hz31 : w.heap.size + 1 < w3.heap.size := by omega
  have E3' := Lib.hid E31.out
  rw [HCA.out] at E3'
  have l0 := HeadAt.of_row E3'.out 0 _ rfl
  have l1 := HeadAt.of_row E3'.out 1 _ rfl
  have l2 := HeadAt.of_row E3'.out 2 _ rfl
  have l3 := HeadAt.of_row E3'.out 3 _ rfl
  have l4 := HeadAt.of_row E3'.out 4 _ rfl
  have l5 := HeadAt.of_row E3'.out 5 _ rfl
  have l6 := HeadAt.of_row E3'.out 6 _ rfl
  have l7 := HeadAt.of_row E3'.out 7 _ rfl
  have l8 := HeadAt.of_row E3'.out 8 _ rfl
  have l9 := HeadAt.of_row E3'.out 9 _ rfl
  have l10 := HeadAt.of_row E3'.out 10 _ rfl
  have l11 := HeadAt.of_row E3'.out 11 _ rfl
  have l12 := HeadAt.of_row E3'.out 12 _ rfl
  obtain ⟨w4, hw4⟩ : ∃ w4, w4 = w3.alloc (.cells #[.int .i64 t.fn, .int .i64 t.at_, .int .i64 t.loop, .slice Ai t.ins.length ni, .slice B2 t.exits.length m2, .int .i64 t.turn.at_, .int .i64 t.turn.steps, .slice B3 t.turn.sets.length m3, .slice B4 t.turn.makes.length m4, .int .i64 t.back.at_, .int .i64 t.back.steps, .slice B5 t.back.sets.length m5, .slice B6 t.back.makes.length m6] 34) := ⟨_, rfl⟩
  obtain ⟨ob, hob⟩ : ∃ ob, ob = w3.heap.size := ⟨_, rfl⟩
  have L4 : Hid (Below w3.heap.size w3 w4) := by rw [hw4]; exact below_one _ _
  have O4 : Hid (w4.heap[ob]? = some (.cells ⟨ca⟩ 34 (0, 0))) := by rw [hw4, hob, HCA.out]; exact heap_last _ _
  have HW4 := Lib.hid hw4
  have HOB := Lib.hid hob
  have hob2 : tr < ob := by rw [hob]; exact hz3
  clear hw4 hob
  go_upto_region 7 with fail
  rw [← HW4.out, ← HOB.out]
  clear l0 l1 l2 l3 l4 l5 l6 l7 l8 l9 l10 l11 l12
  have hz4 : ob < w4.heap.size := (Array.getElem?_eq_some_iff.1 O4.out).1
  have E41 := Lib.hid ((L4.out.block _ (by omega)).trans E31.out)
  have E42 := Lib.hid ((L4.out.block _ (by omega)).trans E32.out)
  have T4 := Lib.hid ((L4.out.block _ hz3).trans T3.out)
  have L24 : Hid (Below w2.heap.size w2 w4) := L3.out.trans (L4.out.mono L3.out.size)
  have hz41 : w.heap.size + 1 < w4.heap.size := by omega
  have F4 := Lib.hid (F2.out.below L24.out)
  have M4 := Lib.hid (M2.out.below L24.out)
  have K4 : Hid (Below w.heap.size w w4) := (K1.out.trans (L2.out.mono K1.out.size)).trans (L24.out.mono (by have := K1.out.size; have := L2.out.size; omega))
  obtain ⟨rows, hr1, hr2, hr3⟩ := QI.out.raw
  have hrows : rows.flatMap id = t.ins.flatMap insCells := by
    have e : rows = t.ins.map insCells := by
      apply List.ext_getElem?
      intro i
      rw [List.getElem?_map]
      rcases Nat.lt_or_ge i t.ins.length with h | h
      · obtain ⟨c, h1, h2⟩ := hr3 i _ (List.getElem?_eq_getElem h)
        rw [h1, List.getElem?_eq_getElem h]
        obtain ⟨rfl, -⟩ := h2
        rfl
      · rw [List.getElem?_eq_none (by omega), List.getElem?_eq_none (by omega)]; rfl
    rw [e, List.flatMap_map]; rfl
  have hones : ∀ r ∈ rows, ∀ u ∈ r, u.oneCell' = true := fun r hr u hu => by
    obtain ⟨i, hi⟩ := List.getElem?_of_mem hr
    have hil := (List.getElem?_eq_some_iff.1 hi).1
    obtain ⟨c, h1, h2⟩ := hr3 i _ (List.getElem?_eq_getElem (by omega))
    rw [hi] at h1
    injection h1 with h1
    subst h1
    obtain ⟨rfl, -⟩ := h2
    exact ins_ones _ u hu
  have hwfi : Hid (∀ x ∈ t.ins, WfIns x) := fun x hx => by
    obtain ⟨_, _, h⟩ := QI.out.mem hx
    exact h
  have CL := Lib.hid (clone_ins (.slice Ai t.ins.length ni) rows w4 (hr2.keep K4.out.size (fun _ hp => K4.out.cell hp) (fun _ _ h => h)) hones (by rw [hr1]; omega))
  have l3 := HeadAt.of_row E41.out 3 _ P3.out
  clear hones hr2 hr3
  go_wp2_with fail
  refine CL.out.mono ?_
  rintro e w5 ⟨u, rfl, hu, k5⟩
  rw [hr1, hrows] at hu
  obtain ⟨A9, c9, rfl⟩ := own_len hu
  obtain ⟨Bu, hBu⟩ : ∃ Bu, Bu = w4.heap.size := ⟨_, rfl⟩
  rw [← hBu] at hu
  have hub : ∀ G, (Value.slice A9 t.ins.length c9).ownBlock = some G → Bu ≤ G := fun G e => (own_row hu G e).1
  have huh : ∀ G, (Value.slice A9 t.ins.length c9).ownBlock = some G → Bu ≤ G ∧ G < w5.heap.size := fun G e => by
    obtain ⟨h1, cs, fr, h2⟩ := own_row hu G e
    exact ⟨h1, (Array.getElem?_eq_some_iff.1 h2).1⟩
  have hno : ∀ k, k < Bu → (Value.slice A9 t.ins.length c9).ownBlock ≠ some k := fun k hk e => by have := hub k e; omega
  have O5 := Lib.hid ((k5.block _ hz4).trans O4.out)
  have T5 := Lib.hid ((k5.block _ (by omega)).trans T4.out)
  have E51 := Lib.hid ((k5.block _ (by omega)).trans E41.out)
  have E52 := Lib.hid ((k5.block _ (by omega)).trans E42.out)
  have F5 := Lib.hid (F4.out.below k5)
  have M5 := Lib.hid (M4.out.below k5)
  have K5 : Hid (Below w.heap.size w w5) := K4.out.trans (k5.mono K4.out.size)
  have o3 := HeadAt.of_row O5.out 3 _ P3.out
  have z3 := frozen_of_row w5 ob 3 _ _ O5.out
  have hz5 : Bu ≤ w5.heap.size := by rw [hBu]; exact k5.size
  have hbo : ob < Bu := by omega
  obtain ⟨w6, hw6⟩ : ∃ w6, w6 = w5.setCell ⟨ob, 3, none⟩ (.slice A9 t.ins.length c9) := ⟨_, rfl⟩
  have far : ∀ (k : Nat) (o : Obj), w5.heap[k]? = some o → k ≠ ob → w6.heap[k]? = some o := fun k o h hk => by
    rw [hw6, heap_setCell_other w5 _ _ _ (by show k ≠ ob; exact hk)]; exact h
  obtain ⟨cb, hcb⟩ : ∃ cb : List Value, cb = ca.set 3 (.slice A9 t.ins.length c9) := ⟨_, rfl⟩
  have hset : (⟨ca⟩ : Array Value).setIfInBounds 3 (.slice A9 t.ins.length c9) = ⟨cb⟩ := by
    apply Array.toList_inj.1
    rw [Array.toList_setIfInBounds, hcb]
  have O6 : Hid (w6.heap[ob]? = some (.cells ⟨cb⟩ 34 (0, 0))) := by rw [hw6, heap_setCell_same w5 _ 3 _ _ _ O5.out, hset]; rfl
  have E61 := Lib.hid (far _ _ E51.out (by omega))
  have E62 := Lib.hid (far _ _ E52.out (by omega))
  have K6 : Hid (Below w.heap.size w w6) := by rw [hw6]; exact Below.set_at K5.out (by omega) _ _
  have S6 : Hid (Sd w6 w.heap.size (w1.heap.size + 1) w1.heap.size ca t tr Bu (.slice A9 t.ins.length c9) 0 0 w6) := by
    have k6 : Below w.heap.size w5 w6 := by rw [hw6]; exact Below.set_at (Below.refl _ _) (by omega) _ _
    refine ⟨⟨far _ _ F5.out.row (by omega), F5.out.tr.keep (Nat.le_refl _) (fun p hp => k6.cell hp), F5.out.hB, F5.out.hM, F5.out.ne⟩, ⟨[], by rw [hw6]; exact M5.out.set_ (by omega) _ _⟩, far _ _ T5.out (by omega), ?_, Nat.le_refl _, rfl, rfl, rfl, fun _ _ _ _ _ => rfl⟩
    rw [freeTo_zero]
    refine own_keep hu (fun G e _ => ?_)
    have := hub G e
    rw [hw6, heap_setCell_other w5 _ _ _ (by show G ≠ ob; omega)]
  have hz6 : w5.heap.size = w6.heap.size := by rw [hw6]; simp [World.setCell]
  have HW6 := Lib.hid hw6
  have HCB := Lib.hid hcb
  have HHUH := Lib.hid huh
  have HBU := Lib.hid hBu
  clear hw6 far hset hcb k5 hu hBu huh l3
  go_upto_region 8 with fail
  rw [← HW6.out]
  clear o3 z3
  have l3 := HeadAt.of_row E61.out 3 _ P3.out
  have hz61 : w.heap.size + 1 < w6.heap.size := by omega
  have htm : tr ≠ w1.heap.size := by omega
  have hum : (Value.slice A9 t.ins.length c9).ownBlock ≠ some w1.heap.size := hno _ (by omega)
  go_wp2_with fail
  clear l3
  go_loopw [35] (fun i wr => ∃ j : Nat, i = .int .i64 j ∧ j ≤ t.ins.length ∧ Hid (Sd w6 w.heap.size (w1.heap.size + 1) w1.heap.size ca t tr Bu (.slice A9 t.ins.length c9) j j wr)) (fun i _ => t.ins.length - (RowKit.intOf i).toNat)
  case atStart => exact ⟨0, rfl, by omega, S6⟩
  case round =>
    obtain ⟨j, rfl, hj, SJ⟩ := hrel
    obtain ⟨wo, hwo⟩ : ∃ wo, wo = wr := ⟨_, rfl⟩
    subst hwo
    have hz6o : w6.heap.size ≤ wo.heap.size := SJ.out.size
    by_cases hlt : j < t.ins.length
    · have hji : (j : Int) < t.ins.length := by omega
      obtain ⟨b, off, x, rfl, hb, hx, wx, hat⟩ := ins_op QI.out hlt
      have BO : Hid (Below w.heap.size w wo) := K6.out.trans (SJ.out.low K6.out.size (by omega) (by omega) (fun G e => by have := hub G e; omega))
      obtain ⟨g0, g1, g2, g3, g4, g5, g6, g7⟩ := ins_at hat hb BO.out
      have hbz : b < wo.heap.size := Nat.lt_of_lt_of_le hb BO.out.size
      have HX := Lib.hid hx
      obtain ⟨G, hAG, hGb⟩ : ∃ G, A9 = some ⟨G, 0, none⟩ ∧ Bu ≤ G := by
        rcases SJ.out.own.2 with ⟨_, h0⟩ | ⟨g, cap, cur, e1, hb, _⟩
        · omega
        · injection e1 with e1 e2 e3; exact ⟨g, e1, hb⟩
      subst hAG
      have hG6 : G < w6.heap.size := by have := (HHUH.out G rfl).2; omega
      obtain ⟨wa, hwa⟩ : ∃ wa, wa = wo.alloc (.cells #[.int .i64 x.op, .int .i64 x.a, .int .i64 x.b, .int .i64 x.c, .int .i64 x.n, .int .i64 x.exit, .int .i64 x.k.kind, .int .i64 x.k.n] 43) := ⟨_, rfl⟩
      have LA : Hid (Below wo.heap.size wo wa) := by rw [hwa]; exact below_one _ _
      have XA : Hid (wa.heap[wo.heap.size]? = some (.cells ⟨insCells x⟩ 43 (0, 0))) := by rw [hwa]; exact heap_last _ _
      have SA := Lib.hid (SJ.out.below LA.out)
      have HWA := Lib.hid hwa
      clear hwa hat hx wx
      go_upto_region 11 with fail
      rw [← HWA.out]
      clear g0 g1 g2 g3 g4 g5 g6 g7
      have ct := HeadAt.of_row SA.out.row j (.int .i64 0) (by
        rw [toRow_next (by rw [upto_len]; exact hlt), List.getElem?_append_right (by simp [upto_len])]; simp [upto_len])
      have cf := frozen_of_row wa tr j _ _ SA.out.row
      obtain ⟨wb, hwb⟩ : ∃ wb, wb = wa.setCell ⟨tr, j, none⟩ (.int .i64 (j : Int)) := ⟨_, rfl⟩
      have SB : Hid (Sd w6 w.heap.size (w1.heap.size + 1) w1.heap.size ca t tr Bu (.slice (some ⟨G, 0, none⟩) t.ins.length c9) (j + 1) j wb) := by rw [hwb]; exact SA.out.setTo hlt htm (hno _ (by omega)) (by omega) (by omega)
      have XB : Hid (wb.heap[wo.heap.size]? = some (.cells ⟨insCells x⟩ 43 (0, 0))) := by rw [hwb, heap_setCell_other wa _ _ _ (by show wo.heap.size ≠ tr; omega)]; exact XA.out
      have HWB := Lib.hid hwb
      clear hwb SJ SA XA LA
      go_upto_region 12 with fail
      rw [← HWB.out]
      clear ct cf
      obtain ⟨fr, hfr⟩ : ∃ fr, decide ((x.op = 7 ∨ x.op = 8) ∧ 0 ≤ x.exit ∧ neverM t.ins j = true) = fr := ⟨_, rfl⟩
      have HFR := Lib.hid hfr
      go_cut [61] (fun c wx => c = .bool fr ∧ Sd w6 w.heap.size (w1.heap.size + 1) w1.heap.size ca t tr Bu (.slice (some ⟨G, 0, none⟩) t.ins.length c9) (j + 1) j wx ∧ wx.heap[wo.heap.size]? = some (.cells ⟨insCells x⟩ 43 (0, 0)))
      case first =>
        have x0 := HeadAt.of_row XB.out 0 (.int .i64 x.op) rfl
        have x5 := HeadAt.of_row XB.out 5 (.int .i64 x.exit) rfl
        have hzx : wo.heap.size < wb.heap.size := (Array.getElem?_eq_some_iff.1 XB.out).1
        obtain ⟨L', mL⟩ := SB.out.map
        by_cases o7 : x.op = 7
        · have q7 : (x.op == 7) = true := beq_iff_eq.2 o7
          have o8 : ¬ x.op = 8 := by omega
          have HO := Lib.hid o7
          have HO8 := Lib.hid o8
          by_cases ce : 0 ≤ x.exit
          · have NV := never_c HCO.out HFI.out hlen SB.out.find mL HX.out (.inl o7)
            obtain ⟨nb, hnb⟩ : ∃ nb, neverM t.ins j = nb := ⟨_, rfl⟩
            rw [hnb] at NV
            have HNV := Lib.hid NV
            have e : fr = nb := by rw [← hfr, hnb]; simp [ce, o7]
            clear NV hnb hfr o7 o8
            go_wp2_with fail
            refine HNV.out.mono ?_
            rintro e' wv ⟨rfl, kv, mv⟩
            have SV := SB.out.next kv mv htm hum
            have XV := kv.row XB.out (by omega)
            clear kv mv
            go_wp2_with fail
            go_meet
            case rel => exact ⟨by rw [e], SV, XV⟩
          · have e : fr = false := by rw [← hfr]; simp [ce]
            clear hfr o7 o8
            go_wp2_with fail
            go_meet
            case rel => exact ⟨by rw [e], SB.out, XB.out⟩
        · have q7 : (x.op == 7) = false := beq_eq_false_iff_ne.2 o7
          by_cases o8 : x.op = 8
          · have q8 : (x.op == 8) = true := beq_iff_eq.2 o8
            by_cases ce : 0 ≤ x.exit
            · have NV := never_c HCO.out HFI.out hlen SB.out.find mL HX.out (.inr o8)
              obtain ⟨nb, hnb⟩ : ∃ nb, neverM t.ins j = nb := ⟨_, rfl⟩
              rw [hnb] at NV
              have HNV := Lib.hid NV
              have e : fr = nb := by rw [← hfr, hnb]; simp [ce, o8]
              clear NV hnb hfr o7 o8
              go_wp2_with fail
              refine HNV.out.mono ?_
              rintro e' wv ⟨rfl, kv, mv⟩
              have SV := SB.out.next kv mv htm hum
              have XV := kv.row XB.out (by omega)
              clear kv mv
              go_wp2_with fail
              go_meet
              case rel => exact ⟨by rw [e], SV, XV⟩
            · have e : fr = false := by rw [← hfr]; simp [ce]
              clear hfr o7 o8
              go_wp2_with fail
              go_meet
              case rel => exact ⟨by rw [e], SB.out, XB.out⟩
          · have q8 : (x.op == 8) = false := beq_eq_false_iff_ne.2 o8
            have e : fr = false := by rw [← hfr]; simp [o7, o8]
            clear hfr o7 o8
            go_wp2_with fail
            go_meet
            case rel => exact ⟨by rw [e], SB.out, XB.out⟩
      case rest =>
        obtain ⟨wq, hwq⟩ : ∃ wq, wq = wc := ⟨_, rfl⟩
        subst hwq
        obtain ⟨rfl, sq, xq⟩ := hcut
        have SQ := Lib.hid sq
        clear sq xq SB XB hfr
        cases fr
        case false =>
          have hnf := of_decide_eq_false HFR.out
          have HNF := Lib.hid hnf
          clear hnf
          go_wp2_with fail
          go_roundw
          case rel => exact ⟨j + 1, by go_num, by omega, SQ.out.keepOut HX.out HNF.out⟩
          case measure => simp [RowKit.intOf]; omega
        case true =>
          have hf := of_decide_eq_true HFR.out
          have HF := Lib.hid hf
          have OQ := SQ.out.rowOf O6.out (by omega) (by omega) (hno _ (by omega))
          have o3 := HeadAt.of_row OQ 3 (.slice (some ⟨G, 0, none⟩) t.ins.length c9) (by rw [HCB.out, List.getElem?_set_self (by rw [HCA.out]; simp)])
          have hzo : ob < wq.heap.size := (Array.getElem?_eq_some_iff.1 OQ).1
          obtain ⟨cur, hcur⟩ : ∃ cur, wq.heap[G]? = some (.cells cur 43 (0, 0)) := by
            rcases SQ.out.own.2 with ⟨e1, _⟩ | ⟨g, cap, cur, e1, hb, hg, _⟩
            · cases e1
            · injection e1 with e1 e2 e3; injection e1 with e1; injection e1 with e1; subst e1; exact ⟨cur, hg⟩
          have gf := frozen_of_row wq G (j * 8 + 5) _ _ hcur
          have gc : wq.cell? ⟨G, j * 8 + 5, none⟩ = some (.int .i64 x.exit) := by
            rw [World.ownsRow.cellAt SQ.out.own (j * 8 + 5) (by omega), flat_ins _ j 5 x (freeTo_here HX.out) (by omega)]; rfl
          have hzG : G < wq.heap.size := (Array.getElem?_eq_some_iff.1 hcur).1
          have HWE := Lib.hid (SQ.out.setOut HX.out HF.out (by omega) (by omega) (by omega) (by omega))
          obtain ⟨we, hwe⟩ : ∃ we, we = wq.setCell ⟨G, j * 8 + 5, none⟩ (.int .i64 (-1)) := ⟨_, rfl⟩
          rw [← hwe] at HWE
          have HWW := Lib.hid hwe
          clear hwe hf hcur OQ
          go_wp2_with fail
          rw [← HWW.out]
          go_roundw
          case rel => exact ⟨j + 1, by go_num, by omega, HWE.out⟩
          case measure => simp [RowKit.intOf]; omega
    · obtain rfl : j = t.ins.length := by omega
      have hji : ¬ (t.ins.length : Int) < t.ins.length := by omega
      have hml : (upto t.ins.length).length = t.ins.length := upto_len _
      have RW : Hid (wo.heap[tr]? = some (.cells ⟨(upto t.ins.length).map (.int .i64)⟩ 3 (0, 0))) := by rw [← toRow_full hml]; exact SJ.out.row
      have BO : Hid (Below w.heap.size w wo) := K6.out.trans (SJ.out.low K6.out.size (by omega) (by omega) (fun G e => by have := hub G e; omega))
      have OO := Lib.hid (SJ.out.rowOf O6.out (by omega) (by omega) (hno _ (by omega)))
      have ZO := Lib.hid (SJ.out.rowOf E62.out (by omega) (by omega) (hno _ (by omega)))
      have SU := sliceR_ins (xs := (outT t).ins) (A := A9) (c := c9) (by rw [out_len, ← freeTo_all]; exact SJ.out.own) (free_wf hwfi.out t rfl)
      rw [out_len] at SU
      have TR : Hid (TraceR wo wo.heap.size cb (outT t)) := by
        rw [HCB.out]; exact traceR_ins HT.out BO.out.size (fun _ hp => BO.out.cell hp) SU
      have ST := sliceR_of_row RW.out (upto_wf hlen) (by rw [hml]; unfold maxLen; omega)
      rw [hml] at ST
      have CC := Lib.hid (cut_c cb (outT t) _ (upto t.ins.length) wo TR.out ST (smallT_out SM.out))
      have RTr : Hid (wo.rangeAt ob 0 cb) := (HeadAt.of_row OO.out).range
      have LTr : Hid ((Tryd.prog.info? 34).map (·.size) = some cb.length) := by rw [HCB.out, List.length_set]; exact HIt.out
      have hzo : ob < wo.heap.size := (Array.getElem?_eq_some_iff.1 OO.out).1
      have hzW1 : w.heap.size + 1 + 1 < wo.heap.size := (Array.getElem?_eq_some_iff.1 ZO.out).1
      clear SU ST TR SJ hml
      go_wp2_with (first | (refine wpList_load_mid rfl 34 _ rfl ob 0 rfl cb _ RTr.out Tryd.underlying34 rfl LTr.out ?_) | fail)
      refine CC.out.mono ?_
      rintro e w8 ⟨cs, rfl, tr8, k8, hset⟩
      have TR8 := Lib.hid (hset (w.heap.size + 1 + 1))
      obtain ⟨D1, d1, D2, d2, D3, d3, D4, d4, D5, d5, D6, d6, rfl, -⟩ := TraceR.cells tr8
      have Z8 := Lib.hid ((k8.block _ hzW1).trans ZO.out)
      have K8 : Hid (Below w.heap.size w w8) := BO.out.trans (k8.mono BO.out.size)
      clear tr8 k8 hset CC
      go_wp2_with (refine wpList_store_row rfl 34 _ _ rfl (w.heap.size + 1 + 1) #[.int .i64 (cutM (outT t) (upto t.ins.length)).1.fn, .int .i64 (cutM (outT t) (upto t.ins.length)).1.at_, .int .i64 (cutM (outT t) (upto t.ins.length)).1.loop, .slice D1 (cutM (outT t) (upto t.ins.length)).1.ins.length d1, .slice D2 (cutM (outT t) (upto t.ins.length)).1.exits.length d2, .int .i64 (cutM (outT t) (upto t.ins.length)).1.turn.at_, .int .i64 (cutM (outT t) (upto t.ins.length)).1.turn.steps, .slice D3 (cutM (outT t) (upto t.ins.length)).1.turn.sets.length d3, .slice D4 (cutM (outT t) (upto t.ins.length)).1.turn.makes.length d4, .int .i64 (cutM (outT t) (upto t.ins.length)).1.back.at_, .int .i64 (cutM (outT t) (upto t.ins.length)).1.back.steps, .slice D5 (cutM (outT t) (upto t.ins.length)).1.back.sets.length d5, .slice D6 (cutM (outT t) (upto t.ins.length)).1.back.makes.length d6] rfl rfl 34 _ Z8.out infoTr13 rfl (all_oneCell_toArray (by simp [Value.oneCell'])) ?_)
      generalize hw9 : World.setRow _ _ _ = w9
      have QR : Hid (w9.heap[w.heap.size + 1 + 1]? = some (.cells #[.int .i64 (cutM (outT t) (upto t.ins.length)).1.fn, .int .i64 (cutM (outT t) (upto t.ins.length)).1.at_, .int .i64 (cutM (outT t) (upto t.ins.length)).1.loop, .slice D1 (cutM (outT t) (upto t.ins.length)).1.ins.length d1, .slice D2 (cutM (outT t) (upto t.ins.length)).1.exits.length d2, .int .i64 (cutM (outT t) (upto t.ins.length)).1.turn.at_, .int .i64 (cutM (outT t) (upto t.ins.length)).1.turn.steps, .slice D3 (cutM (outT t) (upto t.ins.length)).1.turn.sets.length d3, .slice D4 (cutM (outT t) (upto t.ins.length)).1.turn.makes.length d4, .int .i64 (cutM (outT t) (upto t.ins.length)).1.back.at_, .int .i64 (cutM (outT t) (upto t.ins.length)).1.back.steps, .slice D5 (cutM (outT t) (upto t.ins.length)).1.back.sets.length d5, .slice D6 (cutM (outT t) (upto t.ins.length)).1.back.makes.length d6] 34 (0, 0))) := by rw [← hw9]; exact setRow_heap _ _ _ _ _ _ Z8.out
      have K9 : Hid (Below w.heap.size w w9) := by rw [← hw9]; exact Below.set_row K8.out (by omega) _
      have T9 : Hid (TraceR w9 w9.heap.size [.int .i64 (cutM (outT t) (upto t.ins.length)).1.fn, .int .i64 (cutM (outT t) (upto t.ins.length)).1.at_, .int .i64 (cutM (outT t) (upto t.ins.length)).1.loop, .slice D1 (cutM (outT t) (upto t.ins.length)).1.ins.length d1, .slice D2 (cutM (outT t) (upto t.ins.length)).1.exits.length d2, .int .i64 (cutM (outT t) (upto t.ins.length)).1.turn.at_, .int .i64 (cutM (outT t) (upto t.ins.length)).1.turn.steps, .slice D3 (cutM (outT t) (upto t.ins.length)).1.turn.sets.length d3, .slice D4 (cutM (outT t) (upto t.ins.length)).1.turn.makes.length d4, .int .i64 (cutM (outT t) (upto t.ins.length)).1.back.at_, .int .i64 (cutM (outT t) (upto t.ins.length)).1.back.steps, .slice D5 (cutM (outT t) (upto t.ins.length)).1.back.sets.length d5, .slice D6 (cutM (outT t) (upto t.ins.length)).1.back.makes.length d6] (cutM (outT t) (upto t.ins.length)).1) := by rw [← hw9]; exact TR8.out _ hzW1
      clear hw9
      go_wp2_with fail
      have r0 := cell_of_row w9 (w.heap.size + 1 + 1) 0 _ _ _ QR.out
      have r1 := cell_of_row w9 (w.heap.size + 1 + 1) 1 _ _ _ QR.out
      have r2 := cell_of_row w9 (w.heap.size + 1 + 1) 2 _ _ _ QR.out
      have r3 := cell_of_row w9 (w.heap.size + 1 + 1) 3 _ _ _ QR.out
      have r4 := cell_of_row w9 (w.heap.size + 1 + 1) 4 _ _ _ QR.out
      have r5 := cell_of_row w9 (w.heap.size + 1 + 1) 5 _ _ _ QR.out
      have r6 := cell_of_row w9 (w.heap.size + 1 + 1) 6 _ _ _ QR.out
      have r7 := cell_of_row w9 (w.heap.size + 1 + 1) 7 _ _ _ QR.out
      have r8 := cell_of_row w9 (w.heap.size + 1 + 1) 8 _ _ _ QR.out
      have r9 := cell_of_row w9 (w.heap.size + 1 + 1) 9 _ _ _ QR.out
      have r10 := cell_of_row w9 (w.heap.size + 1 + 1) 10 _ _ _ QR.out
      have r11 := cell_of_row w9 (w.heap.size + 1 + 1) 11 _ _ _ QR.out
      have r12 := cell_of_row w9 (w.heap.size + 1 + 1) 12 _ _ _ QR.out
      rw [HM.out]
      exact bodyPost_ret (v := .tuple #[.agg ⟨[.int .i64 (cutM (outT t) (upto t.ins.length)).1.fn, .int .i64 (cutM (outT t) (upto t.ins.length)).1.at_, .int .i64 (cutM (outT t) (upto t.ins.length)).1.loop, .slice D1 (cutM (outT t) (upto t.ins.length)).1.ins.length d1, .slice D2 (cutM (outT t) (upto t.ins.length)).1.exits.length d2, .int .i64 (cutM (outT t) (upto t.ins.length)).1.turn.at_, .int .i64 (cutM (outT t) (upto t.ins.length)).1.turn.steps, .slice D3 (cutM (outT t) (upto t.ins.length)).1.turn.sets.length d3, .slice D4 (cutM (outT t) (upto t.ins.length)).1.turn.makes.length d4, .int .i64 (cutM (outT t) (upto t.ins.length)).1.back.at_, .int .i64 (cutM (outT t) (upto t.ins.length)).1.back.steps, .slice D5 (cutM (outT t) (upto t.ins.length)).1.back.sets.length d5, .slice D6 (cutM (outT t) (upto t.ins.length)).1.back.makes.length d6]⟩, .int .i64 (cutM (outT t) (upto t.ins.length)).2]) (by simp [results, Tryd.results30, go_sem, r0, r1, r2, r3, r4, r5, r6, r7, r8, r9, r10, r11, r12]) rfl ⟨_, rfl, T9.out, K9.out⟩
end Go.Proofs.YtmccomeihnaanaaDoor
