/- peel.twice: the world in its midst. -/
import Derived.Test.YtmccomeihnaanaaDoorPeelA
import Derived.Test.YtmccomeihnaanaaDoorNone
namespace Go.Proofs.YtmccomeihnaanaaDoor
open Go.RowKit


theorem infoOf_ins : (Tryd.prog.info? 43).map (fun i => (i.zero.map (·.cells.size), i.size, i.bytes)) = some (some 8, 8, 64) := by kernel_rfl
set_option maxHeartbeats 1000000 in
set_option maxRecDepth 100000 in
theorem clone_ins (v : Value) (rows : List (List Value)) (w : World) (hs : SliceR w w.heap.size 8 (Raw 8) v rows) (h1 : ∀ r ∈ rows, ∀ u ∈ r, u.oneCell' = true) (hlen : rows.length * 64 ≤ 140737488355328) :
    Calls Tryd.prog 57 #[v] w fun e w' => ∃ u, e = .returned u ∧ w'.ownsRow w.heap.size 43 8 u rows.length (rows.flatMap id) ∧ Below w.heap.size w w' := by
  have hraw : ∀ x ∈ rows, x.length = 8 := fun x hx => by obtain ⟨cs, _, h⟩ := hs.mem hx; exact h
  obtain ⟨A, cap, rfl, hc1, hc2, hc3⟩ := id hs
  cases A with
  | none =>
    have e : rows = [] := by
      rcases Nat.eq_zero_or_pos rows.length with h | h
      · exact List.length_eq_zero_iff.1 h
      · obtain ⟨b, off, h, _⟩ := hc3 h; cases h
    subst e
    have hn : ∀ W, (binOp .eql 27 (.slice none 0 cap) (.slice none 0 0)).run Tryd.prog W = .ok (.bool true) W := fun W => Lib.run_eql_slice_nil W _ _ _ _ _ _ _ Tryd.underlying27
    clear hc3 hs hraw h1
    simp only [List.length_nil] at *
    go_enter Tryd.func57, Tryd.ntmps57
    go_wp2_with fail
    go_ret
    exact ⟨_, rfl, World.ownsRow_nil _ _ _ _, Below.refl _ _⟩
  | some ad =>
    have hn : ∀ W, (binOp .eql 27 (.slice (some ad) rows.length cap) (.slice none 0 0)).run Tryd.prog W = .ok (.bool false) W := fun W => Lib.run_eql_slice_nil W _ _ _ _ _ _ _ Tryd.underlying27
    have hnews : ∀ j u, (rows.flatMap id)[j]? = some u → w.cell? (ad.add j) = some u := by
      rcases Nat.eq_zero_or_pos rows.length with h | h
      · have e : rows = [] := List.length_eq_zero_iff.1 h
        subst e; simp
      · obtain ⟨b, off, h, _⟩ := hc3 h
        injection h with h
        subst h
        exact news_of_slice (by decide) hraw (fun cs x h => h.1) hs
    obtain ⟨i0, hi, hq⟩ := Option.map_eq_some_iff.1 infoOf_ins
    simp only [Prod.mk.injEq] at hq
    obtain ⟨hz, hz1, hz2⟩ := hq
    obtain ⟨z, hz0, hz3⟩ := Option.map_eq_some_iff.1 hz
    have HS := Lib.hid hnews
    have HI := Lib.hid hi
    have HZ := Lib.hid hz0
    have HZ1 := Lib.hid hz1
    have HZ2 := Lib.hid hz2
    have HZ3 := Lib.hid hz3
    have hl : rows.length ≤ maxLen := by unfold maxLen; omega
    have HL := Lib.hid hl
    have HR := Lib.hid hraw
    have HO := Lib.hid (ones_flat (f := id) rows h1)
    have HF := Lib.hid (flat_len (f := id) rows hraw)
    clear hnews hi hz0 hz1 hz2 hz3 hz hl hraw h1 hs hc3
    go_enter Tryd.func57, Tryd.ntmps57
    go_wp2_with (at_builtin; refine wpList_append_own _ rfl _ _ 27 rfl w.heap.size 43 i0 z 8 64 Tryd.underlying27 HI.out HZ.out HZ1.out HZ2.out HZ3.out (by decide) (.slice (some ⟨w.heap.size, 0, none⟩) 0 0) 0 [] rfl (own_empty _ _ _) ad rows.length cap (rows.flatMap id) rfl HF.out (fun j u hj => old_one (HS.out j u hj) _) HO.out (by rw [Nat.zero_add]; exact HL.out) (by rw [Nat.zero_add]; exact hlen) (by simp) ?_)
    intro v' w6 hown hg _
    have KG := Lib.hid hg
    have KO := Lib.hid hown
    clear hg hown
    go_wp2_with fail
    go_ret
    refine ⟨_, rfl, by simpa using KO.out, Below.grown (below_one w _) KG.out (by simp) (by simp [Value.ownBlock])⟩


theorem infoOf_ext : (Tryd.prog.info? 32).map (fun i => (i.zero.map (·.cells.size), i.size, i.bytes)) = some (some 4, 4, 64) := by kernel_rfl
set_option maxHeartbeats 1000000 in
set_option maxRecDepth 100000 in
theorem clone_ext (v : Value) (rows : List (List Value)) (w : World) (hs : SliceR w w.heap.size 4 (Raw 4) v rows) (h1 : ∀ r ∈ rows, ∀ u ∈ r, u.oneCell' = true) (hlen : rows.length * 64 ≤ 140737488355328) :
    Calls Tryd.prog 45 #[v] w fun e w' => ∃ u, e = .returned u ∧ w'.ownsRow w.heap.size 32 4 u rows.length (rows.flatMap id) ∧ Below w.heap.size w w' := by
  have hraw : ∀ x ∈ rows, x.length = 4 := fun x hx => by obtain ⟨cs, _, h⟩ := hs.mem hx; exact h
  obtain ⟨A, cap, rfl, hc1, hc2, hc3⟩ := id hs
  cases A with
  | none =>
    have e : rows = [] := by
      rcases Nat.eq_zero_or_pos rows.length with h | h
      · exact List.length_eq_zero_iff.1 h
      · obtain ⟨b, off, h, _⟩ := hc3 h; cases h
    subst e
    have hn : ∀ W, (binOp .eql 28 (.slice none 0 cap) (.slice none 0 0)).run Tryd.prog W = .ok (.bool true) W := fun W => Lib.run_eql_slice_nil W _ _ _ _ _ _ _ Tryd.underlying28
    clear hc3 hs hraw h1
    simp only [List.length_nil] at *
    go_enter Tryd.func45, Tryd.ntmps45
    go_wp2_with fail
    go_ret
    exact ⟨_, rfl, World.ownsRow_nil _ _ _ _, Below.refl _ _⟩
  | some ad =>
    have hn : ∀ W, (binOp .eql 28 (.slice (some ad) rows.length cap) (.slice none 0 0)).run Tryd.prog W = .ok (.bool false) W := fun W => Lib.run_eql_slice_nil W _ _ _ _ _ _ _ Tryd.underlying28
    have hnews : ∀ j u, (rows.flatMap id)[j]? = some u → w.cell? (ad.add j) = some u := by
      rcases Nat.eq_zero_or_pos rows.length with h | h
      · have e : rows = [] := List.length_eq_zero_iff.1 h
        subst e; simp
      · obtain ⟨b, off, h, _⟩ := hc3 h
        injection h with h
        subst h
        exact news_of_slice (by decide) hraw (fun cs x h => h.1) hs
    obtain ⟨i0, hi, hq⟩ := Option.map_eq_some_iff.1 infoOf_ext
    simp only [Prod.mk.injEq] at hq
    obtain ⟨hz, hz1, hz2⟩ := hq
    obtain ⟨z, hz0, hz3⟩ := Option.map_eq_some_iff.1 hz
    have HS := Lib.hid hnews
    have HI := Lib.hid hi
    have HZ := Lib.hid hz0
    have HZ1 := Lib.hid hz1
    have HZ2 := Lib.hid hz2
    have HZ3 := Lib.hid hz3
    have hl : rows.length ≤ maxLen := by unfold maxLen; omega
    have HL := Lib.hid hl
    have HR := Lib.hid hraw
    have HO := Lib.hid (ones_flat (f := id) rows h1)
    have HF := Lib.hid (flat_len (f := id) rows hraw)
    clear hnews hi hz0 hz1 hz2 hz3 hz hl hraw h1 hs hc3
    go_enter Tryd.func45, Tryd.ntmps45
    go_wp2_with (at_builtin; refine wpList_append_own _ rfl _ _ 28 rfl w.heap.size 32 i0 z 4 64 Tryd.underlying28 HI.out HZ.out HZ1.out HZ2.out HZ3.out (by decide) (.slice (some ⟨w.heap.size, 0, none⟩) 0 0) 0 [] rfl (own_empty _ _ _) ad rows.length cap (rows.flatMap id) rfl HF.out (fun j u hj => old_one (HS.out j u hj) _) HO.out (by rw [Nat.zero_add]; exact HL.out) (by rw [Nat.zero_add]; exact hlen) (by simp) ?_)
    intro v' w6 hown hg _
    have KG := Lib.hid hg
    have KO := Lib.hid hown
    clear hg hown
    go_wp2_with fail
    go_ret
    refine ⟨_, rfl, by simpa using KO.out, Below.grown (below_one w _) KG.out (by simp) (by simp [Value.ownBlock])⟩

theorem own_keep {w w' : World} {B n size : Nat} {e : TypeId} {v : Value} {xs : List Value} (h : w.ownsRow B e size v n xs) (hk : ∀ G, v.ownBlock = some G → G < w.heap.size → w'.heap[G]? = w.heap[G]?) : w'.ownsRow B e size v n xs := by
  obtain ⟨hl, h2⟩ := h
  refine ⟨hl, ?_⟩
  rcases h2 with ⟨rfl, h0⟩ | ⟨g, cap, cur, rfl, hb, hg, h1⟩
  · exact .inl ⟨rfl, h0⟩
  · exact .inr ⟨g, cap, cur, rfl, hb, (hk g rfl (Array.getElem?_eq_some_iff.1 hg).1).trans hg, h1⟩
theorem own_more {w : World} {B B' n size : Nat} {e : TypeId} {v : Value} {xs : List Value} (h : w.ownsRow B e size v n xs) (hB : B' ≤ B) : w.ownsRow B' e size v n xs := by
  obtain ⟨hl, h2⟩ := h
  refine ⟨hl, ?_⟩
  rcases h2 with ⟨rfl, h0⟩ | ⟨g, cap, cur, rfl, hb, h1⟩
  · exact .inl ⟨rfl, h0⟩
  · exact .inr ⟨g, cap, cur, rfl, Nat.le_trans hB hb, h1⟩
theorem own_below {w w' : World} {B n size : Nat} {e : TypeId} {v : Value} {xs : List Value} (h : w.ownsRow B e size v n xs) (k : Below w.heap.size w w') : w'.ownsRow B e size v n xs := own_keep h (fun G _ hG => k.block G hG)

/-- the cells of what peel.twice makes -/
def twCells (t : TTrace) (iv ev : Value) (tc bc : List Value) : List Value := [.int .i64 t.fn, .int .i64 t.at_, .int .i64 t.ins.length, iv, ev] ++ tc ++ bc
/-- THE MIDST OF peel.twice: g: the block of the trace to come; xs: its instructions so far; rows: its exits' cells so far, k of them moved ones -/
structure Tw (w0 : World) (t : TTrace) (tc bc : List Value) (g : Nat) (iv ev : Value) (xs : List TIns) (rows : List (List Value)) (k : Nat) (w : World) : Prop where
  keep : Below w0.heap.size w0 w
  hg : w0.heap.size ≤ g
  row : w.heap[g]? = some (.cells ⟨twCells t iv ev tc bc⟩ 34 (0, 0))
  own : w.ownsRow w0.heap.size 43 8 iv xs.length (xs.flatMap insCells)
  owx : w.ownsRow w0.heap.size 32 4 ev rows.length (rows.flatMap id)
  back : ExitT w w0.heap.size bc (movedM t.back t.ins.length)
  far : ∀ (i : Nat) x, (t.exits.take k)[i]? = some x → ∃ c, rows[t.exits.length + i]? = some c ∧ c.length = 4 ∧ ExitT w w0.heap.size c (movedM x t.ins.length)
section
variable {w0 : World} {t : TTrace} {tc bc : List Value} {g : Nat} {iv ev : Value} {xs : List TIns} {rows : List (List Value)} {k : Nat} {w w' w6 : World}
theorem Tw.below (h : Tw w0 t tc bc g iv ev xs rows k w) (b : Below w.heap.size w w6) : Tw w0 t tc bc g iv ev xs rows k w6 :=
  ⟨h.keep.trans (b.mono h.keep.size), h.hg, (b.block g (Array.getElem?_eq_some_iff.1 h.row).1).trans h.row, own_below h.own b, own_below h.owx b, h.back.below b, fun i x hx => by
    obtain ⟨c, h1, h2, h3⟩ := h.far i x hx
    exact ⟨c, h1, h2, h3.below b⟩⟩
theorem Tw.addIns (h : Tw w0 t tc bc g iv ev xs rows k w) {v' : Value} {y : TIns} (hown : w6.ownsRow w0.heap.size 43 8 v' (xs.length + 1) (xs.flatMap insCells ++ insCells y)) (hg : w.grownBy w6 iv.ownBlock) :
    Tw w0 t tc bc g v' ev (xs ++ [y]) rows k (w6.setCell ⟨g, 3, none⟩ v') := by
  have r6 := grow_far h.own hg h.row (by decide)
  have b6 : Below w0.heap.size w w6 := grow_below h.own hg (Nat.le_refl _) h.keep.size
  refine ⟨Below.set_at (h.keep.trans b6) h.hg _ _, h.hg, ?_, ?_, ?_, ?_, fun i x hx => ?_⟩
  · rw [heap_setCell_same w6 g 3 _ _ _ r6]; rfl
  · rw [List.length_append, List.flatMap_append, List.flatMap_cons, List.flatMap_nil, List.append_nil]
    exact own_far hown r6 (by decide) _ _
  · exact own_far (own_grow h.owx h.own hg (by decide)) r6 (by decide) _ _
  · exact (h.back.grow h.own hg (by decide) (by decide) (by decide)).set_ r6 (by decide) (by decide) (by decide) _ _
  · obtain ⟨c, h1, h2, h3⟩ := h.far i x hx
    exact ⟨c, h1, h2, (h3.grow h.own hg (by decide) (by decide) (by decide)).set_ r6 (by decide) (by decide) (by decide) _ _⟩
theorem Tw.addExt (h : Tw w0 t tc bc g iv ev xs rows k w) {v' : Value} {c : List Value} {x : TExit} (hx : t.exits[k]? = some x) (hr : rows.length = t.exits.length + k) (hc : ExitT w w0.heap.size c (movedM x t.ins.length))
    (hown : w6.ownsRow w0.heap.size 32 4 v' (rows.length + 1) (rows.flatMap id ++ c)) (hg : w.grownBy w6 ev.ownBlock) :
    Tw w0 t tc bc g iv v' xs (rows ++ [c]) (k + 1) (w6.setCell ⟨g, 4, none⟩ v') := by
  have r6 := grow_far h.owx hg h.row (by decide)
  have b6 : Below w0.heap.size w w6 := grow_below h.owx hg (Nat.le_refl _) h.keep.size
  refine ⟨Below.set_at (h.keep.trans b6) h.hg _ _, h.hg, ?_, ?_, ?_, ?_, fun i y hy => ?_⟩
  · rw [heap_setCell_same w6 g 4 _ _ _ r6]; rfl
  · exact own_far (own_grow h.own h.owx hg (by decide)) r6 (by decide) _ _
  · rw [List.length_append, List.flatMap_append, List.flatMap_cons, List.flatMap_nil, List.append_nil]
    exact own_far hown r6 (by decide) _ _
  · exact (h.back.grow h.owx hg (by decide) (by decide) (by decide)).set_ r6 (by decide) (by decide) (by decide) _ _
  · have hk := (List.getElem?_eq_some_iff.1 hx).1
    rw [take_snoc hx] at hy
    have hlj : (t.exits.take k).length = k := by rw [List.length_take]; omega
    rcases Nat.lt_or_ge i k with hi | hi
    · rw [List.getElem?_append_left (by omega)] at hy
      obtain ⟨c', h1, h2, h3⟩ := h.far i y hy
      exact ⟨c', by rw [List.getElem?_append_left (by omega)]; exact h1, h2, (h3.grow h.owx hg (by decide) (by decide) (by decide)).set_ r6 (by decide) (by decide) (by decide) _ _⟩
    · rw [List.getElem?_append_right (by omega)] at hy
      have hi0 : i - (t.exits.take k).length = 0 := by
        have := (List.getElem?_eq_some_iff.1 hy).1
        simp only [List.length_cons, List.length_nil] at this; omega
      rw [hi0] at hy
      obtain rfl : x = y := by simpa using hy
      refine ⟨c, ?_, hc.len, (hc.grow h.owx hg (by decide) (by decide) (by decide)).set_ r6 (by decide) (by decide) (by decide) _ _⟩
      rw [List.getElem?_append_right (by omega), show t.exits.length + i - rows.length = 0 by omega]; rfl
/-- the end: it reads as the trace twice -/
theorem Tw.trace_row (h : Tw w0 t tc bc g iv ev (t.ins ++ t.ins.map (againI t.ins.length t.exits.length)) rows t.exits.length w') {j : Nat} {c0 : Array Value} (hj : w'.heap[j]? = some (.cells c0 34 (0, 0))) (new : Array Value) (hw' : w = w'.setRow j new) (hr : rows.length = t.exits.length + t.exits.length)
    (near : ∀ (i : Nat) x, t.exits[i]? = some x → ∃ c, rows[i]? = some c ∧ c.length = 4 ∧ ExitR w w.heap.size c x) (htc : ExitR w w.heap.size tc t.back) (hw : ∀ x ∈ t.ins ++ t.ins.map (againI t.ins.length t.exits.length), WfIns x)
    (h1 : wfi t.fn) (h2 : wfi t.at_) (h3 : t.ins.length ≤ 300) : TraceR w w.heap.size (twCells t iv ev tc bc) (twiceM t) := by
  have far : ∀ {e : TypeId} {v : Value} {n size : Nat} {xs : List Value}, w'.ownsRow w0.heap.size e size v n xs → 34 ≠ e → w.ownsRow w0.heap.size e size v n xs := fun ho hne => own_keep ho (fun G hG _ => by
    rw [hw']
    refine setRow_other w' j G _ ?_
    rintro rfl
    obtain ⟨_, cs, fr, e⟩ := own_row ho _ hG
    rw [hj] at e; injection e with e; injection e with _ e _; exact hne e)
  have hback : ExitT w w0.heap.size bc (movedM t.back t.ins.length) := by rw [hw']; exact h.back.set_row hj (by decide) (by decide) (by decide) _
  refine ⟨iv, ev, tc, bc, rfl, ?_, ?_, htc, hback.exit, h1, h2, by unfold wfi twiceM; dsimp only; omega⟩
  · exact (sliceTy_of_own (R := InsR) (f := insCells) (by decide) (fun _ _ => rfl) (fun y hy => ⟨rfl, hw y hy⟩) (far h.own (by decide))).slice
  · have near' : ∀ (i : Nat) x, (twiceM t).exits[i]? = some x → ∃ c, rows[i]? = some c ∧ c.length = 4 ∧ ExitR w w.heap.size c x := fun i x hx => by
      have hx' : (t.exits ++ t.exits.map (movedM · t.ins.length))[i]? = some x := hx
      rcases Nat.lt_or_ge i t.exits.length with hi | hi
      · rw [List.getElem?_append_left hi] at hx'
        exact near i x hx'
      · rw [List.getElem?_append_right hi, List.getElem?_map] at hx'
        obtain ⟨y, hy, rfl⟩ := Option.map_eq_some_iff.1 hx'
        obtain ⟨c, c1, c2, c3⟩ := h.far (i - t.exits.length) y (by rw [take_all_len (Nat.le_refl _)]; exact hy)
        rw [show t.exits.length + (i - t.exits.length) = i by omega] at c1
        exact ⟨c, c1, c2, by rw [hw']; exact (c3.set_row hj (by decide) (by decide) (by decide) _).exit⟩
    have hlen : rows.length = (twiceM t).exits.length := by unfold twiceM; simp; omega
    have hlen4 : ∀ r ∈ rows, r.length = 4 := fun r hr => by
      obtain ⟨i, hi⟩ := List.getElem?_of_mem hr
      have hil := (List.getElem?_eq_some_iff.1 hi).1
      obtain ⟨c, c1, c2, _⟩ := near' i _ (List.getElem?_eq_getElem (by omega))
      rw [hi] at c1; injection c1 with c1; rw [c1]; exact c2
    refine (SliceTy.of_raw (R := ExitR w w.heap.size) (rows := rows) (sliceTy_of_own (f := id) (by decide) hlen4 (fun r hr => ⟨rfl, hlen4 r hr⟩) (far h.owx (by decide))) hlen (fun i x hx => ?_)).slice
    obtain ⟨c, c1, _, c3⟩ := near' i x hx
    exact ⟨c, c1, c3⟩
end
/-- the row's first moment: behind the store -/
theorem Tw.start {w0 W : World} {t : TTrace} {tc bc : List Value} {g : Nat} {iv ev : Value} {rows : List (List Value)} {c0 : Array Value} (hk : Below w0.heap.size w0 W) (hg : w0.heap.size ≤ g) (hr : W.heap[g]? = some (.cells c0 34 (0, 0)))
    (h1 : W.ownsRow w0.heap.size 43 8 iv t.ins.length (t.ins.flatMap insCells)) (h2 : W.ownsRow w0.heap.size 32 4 ev rows.length (rows.flatMap id)) (h3 : ExitT W w0.heap.size bc (movedM t.back t.ins.length)) :
    Tw w0 t tc bc g iv ev t.ins rows 0 (W.setRow g ⟨twCells t iv ev tc bc⟩) := by
  have far : ∀ {e : TypeId} {v : Value} {n size : Nat} {xs : List Value}, W.ownsRow w0.heap.size e size v n xs → 34 ≠ e → ∀ G, v.ownBlock = some G → G < W.heap.size → (W.setRow g ⟨twCells t iv ev tc bc⟩).heap[G]? = W.heap[G]? := fun ho hne G hG _ =>
    setRow_other W g G _ (by
      rintro rfl
      obtain ⟨_, cs, fr, e⟩ := own_row ho _ hG
      rw [hr] at e; injection e with e; injection e with _ e _; exact hne e)
  exact ⟨Below.set_row hk hg _, hg, setRow_heap _ _ _ _ _ _ hr, own_keep h1 (far h1 (by decide)), own_keep h2 (far h2 (by decide)), h3.set_row hr (by decide) (by decide) (by decide) _, fun i x hx => by simp at hx⟩

/-- an operand, j of them moved -/
def putG (n : Int) (j i : Nat) (v : Int) : Int := if i < j then v + n else v
theorem putG_all (n m op xa xb xc xn xe : Int) (k : Val) (q : Nat) (hq : (formM op).asks = q) :
    againI n m ⟨op, xa, xb, xc, xn, xe, k⟩ = ⟨op, putG n q 0 xa, putG n q 1 xb, putG n q 2 xc, xn, if 0 ≤ xe then xe + m else xe, k⟩ := by
  unfold againI putM putG
  dsimp only
  rw [hq]
  simp only [TIns.mk.injEq, true_and, and_true]
  refine ⟨?_, ?_, ?_⟩
  · split <;> split <;> first | rfl | omega
  · split <;> split <;> first | rfl | omega
  · split <;> split <;> first | rfl | omega
theorem putG_wf {n v : Int} {j i : Nat} (hv : wfi v) (h : i < j → 0 ≤ v ∧ v ≤ 1000) (h0 : 0 ≤ n) (h1 : n ≤ 1000) : wfi (putG n j i v) := by
  unfold putG
  split
  · rename_i c
    have := h c
    unfold wfi; omega
  · exact hv
end Go.Proofs.YtmccomeihnaanaaDoor
