/- sink: the sinker in memory. -/
import Derived.Test.YtlnkjmgfkpeicaaGreatDoorSinkB
import Derived.Test.YtlnkjmgfkpeicaaGreatDoorSinkM
import Derived.Test.YtlnkjmgfkpeicaaGreatDoorMapN
set_option linter.all false
namespace Go.Proofs.YtlnkjmgfkpeicaaGreatDoor
open Go.RowKit

structure Only (T : Nat → Prop) (w w' : World) : Prop where
  os : w'.os = w.os
  tape : w'.tape = w.tape
  output : w'.output = w.output
  size : w.heap.size ≤ w'.heap.size
  block : ∀ k, k < w.heap.size → ¬ T k → w'.heap[k]? = w.heap[k]?
theorem Only.refl {T : Nat → Prop} {w : World} : Only T w w := ⟨rfl, rfl, rfl, Nat.le_refl _, fun _ _ _ => rfl⟩
theorem Only.of {T : Nat → Prop} {w w' : World} (h : Below w.heap.size w w') : Only T w w' := ⟨h.os, h.tape, h.output, h.size, fun k hk _ => h.block k hk⟩
theorem Only.trans {T : Nat → Prop} {a b c : World} (h : Only T a b) (g : Only T b c) : Only T a c :=
  ⟨g.os.trans h.os, g.tape.trans h.tape, g.output.trans h.output, Nat.le_trans h.size g.size, fun k hk ht => (g.block k (Nat.lt_of_lt_of_le hk h.size) ht).trans (h.block k hk ht)⟩
theorem Only.mono {T T' : Nat → Prop} {a b : World} (h : Only T a b) (hT : ∀ k, k < a.heap.size → T k → T' k) : Only T' a b := ⟨h.os, h.tape, h.output, h.size, fun k hk ht => h.block k hk (fun h' => ht (hT k hk h'))⟩
theorem Only.set {T : Nat → Prop} {w w' : World} (h : Only T w w') {g : Nat} (hg : T g) (j : Nat) (u : Value) : Only T w (w'.setCell ⟨g, j, none⟩ u) :=
  ⟨h.os, h.tape, h.output, by simpa [World.setCell] using h.size, fun k hk ht => (heap_setCell_other _ _ _ _ (by rintro rfl; exact ht hg)).trans (h.block k hk ht)⟩
theorem Only.grown {T : Nat → Prop} {a b c : World} (h : Only T a b) {o : Option Nat} (hg : b.grownBy c o) (ho : ∀ g, o = some g → T g) : Only T a c :=
  ⟨hg.os.trans h.os, hg.tape.trans h.tape, hg.output.trans h.output, Nat.le_trans h.size hg.size, fun k hk ht => (hg.block k (Nat.lt_of_lt_of_le hk h.size) (fun e => ht (ho k e.symm))).trans (h.block k hk ht)⟩
theorem row_ty {w : World} {B n size : Nat} {e : TypeId} {v : Value} {xs : List Value} (h : w.ownsRow B e size v n xs) {g : Nat} (hg : v.ownBlock = some g) : B ≤ g ∧ g < w.heap.size ∧ ∃ cs, w.heap[g]? = some (.cells cs e (0, 0)) := by
  rcases h.2 with ⟨rfl, -⟩ | ⟨g', cap, cur, rfl, hb, hh, -⟩
  · cases hg
  · injection hg with hg; subst hg; exact ⟨hb, (Array.getElem?_eq_some_iff.1 hh).1, cur, hh⟩
theorem cell_lt' {w : World} {g : Nat} {x : Obj} (h : w.heap[g]? = some x) : g < w.heap.size := (Array.getElem?_eq_some_iff.1 h).1
theorem row_more {w : World} {B B' n size : Nat} {e : TypeId} {v : Value} {xs : List Value} (h : w.ownsRow B e size v n xs) (hB : B' ≤ B) : w.ownsRow B' e size v n xs := by
  obtain ⟨hl, h2⟩ := h
  refine ⟨hl, ?_⟩
  rcases h2 with ⟨rfl, h0⟩ | ⟨g, cap, cur, rfl, hb, h1⟩
  · exact .inl ⟨rfl, h0⟩
  · exact .inr ⟨g, cap, cur, rfl, by omega, h1⟩
theorem row_stays {w w' : World} {B n size : Nat} {e : TypeId} {v : Value} {xs : List Value} (h : w.ownsRow B e size v n xs) (hk : ∀ g, v.ownBlock = some g → w'.heap[g]? = w.heap[g]?) : w'.ownsRow B e size v n xs := own_keep h (fun G e _ => hk G e)
section
variable {P : Program} (w : World)
theorem run_append_new (base : Nat) (t ty e : TypeId) (i : TypeInfo) (z : Value) (size bytes : Nat) (ht : P.underlying t = some (.slice e)) (hi : P.info? e = some i) (hz : i.zero = some z)
    (hsize : i.size = size) (hby : i.bytes = bytes) (hzs : z.cells.size = size) (hsz : 0 < size)
    (v : Value) (n : Nat) (xs : List Value) (hown : w.ownsRow base e size v n xs)
    (a : Addr) (m c : Nat) (news : List Value) (hl : news.length = m * size) (hnews : ∀ j u, news[j]? = some u → w.cell? (a.add j) = some u) (h1 : ∀ u ∈ news, u.oneCell' = true)
    (h63 : n + m ≤ maxLen) (hbytes : (n + m) * bytes ≤ 140737488355328) (hbase : base ≤ w.heap.size) :
    ∃ v' w', (Builtin.append_ #[t, t] ty #[v, .slice (some a) m c]).run P w = .ok v' w' ∧ w'.ownsRow base e size v' (n + m) (xs ++ news) ∧ w.grownBy w' v.ownBlock ∧
      (∀ g, v'.ownBlock = some g → v.ownBlock = some g ∨ w.heap.size ≤ g) := by
  rcases hown.2 with ⟨rfl, rfl⟩ | ⟨g, cap, cur, rfl, hbg, hg, hnc, hcm, hcs, htake⟩
  · have hx : xs = [] := List.eq_nil_of_length_eq_zero (by simpa using hown.1)
    subst hx
    obtain ⟨v', w', hr, h2, h3, -⟩ := run_append_own (P := P) w w.heap.size t ty e i z size bytes ht hi hz hsize hby hzs hsz _ 0 [] (World.ownsRow_nil w w.heap.size e size) a m c news hl hnews h1 h63 hbytes (Nat.le_refl _)
    exact ⟨v', w', hr, row_more h2 hbase, h3, fun g hg => .inr (h2.lt g hg).1⟩
  · obtain ⟨v', w', hr, h2, h3, -⟩ := run_append_own (P := P) w base t ty e i z size bytes ht hi hz hsize hby hzs hsz _ n xs hown a m c news hl hnews h1 h63 hbytes hbase
    refine ⟨v', w', hr, h2, h3, fun k hk => ?_⟩
    subst hsize
    subst hby
    by_cases hroom : n + m ≤ cap
    · have hfit : n * i.size + news.length ≤ cur.size := by rw [hl, hcs, ← Nat.add_mul]; exact Nat.mul_le_mul_right _ hroom
      have hr2 := run_append_room (P := P) w t ty e i ht hi g n cap cur hg a m c news hl hnews h1 hroom hfit
      rw [hr] at hr2
      injection hr2 with hr2
      rw [hr2] at hk
      exact .inl hk
    · have holds : ∀ j u, xs[j]? = some u → w.cell? ((⟨g, 0, none⟩ : Addr).add j) = some u := hown.cells (g := g) rfl
      have hsmall : n + m ≤ 9223372036854775807 := by simp only [maxLen] at h63; omega
      have hr2 := run_append_grow (P := P) w t ty e i z ht hi hz ⟨g, 0, none⟩ n cap xs hown.1 holds a m c news hl hnews (by omega) (by omega) (growslice_fits (by omega) hbytes)
      rw [hr] at hr2
      injection hr2 with hr2
      rw [hr2] at hk
      have hk' : w.heap.size = k := by simpa [Value.ownBlock] using hk
      exact .inr (by omega)
theorem wp_append_new {o : Oper} {a : Act} {K : Act → World → Prop} {Q : Exit → Act → World → Prop} (s x : Operand) (t : TypeId)
    (ho : o.op = .call { callee := .builtin .append, args := #[s, x], argTypes := #[t, t] })
    (base : Nat) (e : TypeId) (i : TypeInfo) (z : Value) (size bytes : Nat) (ht : P.underlying t = some (.slice e)) (hi : P.info? e = some i) (hz : i.zero = some z)
    (hsize : i.size = size) (hby : i.bytes = bytes) (hzs : z.cells.size = size) (hsz : 0 < size)
    (v : Value) (n : Nat) (xs : List Value) (hs : a.eval s = v) (hown : w.ownsRow base e size v n xs)
    (ad : Addr) (m c : Nat) (news : List Value) (hx : a.eval x = .slice (some ad) m c) (hl : news.length = m * size) (hnews : ∀ j u, news[j]? = some u → w.cell? (ad.add j) = some u) (h1 : ∀ u ∈ news, u.oneCell' = true)
    (h63 : n + m ≤ maxLen) (hbytes : (n + m) * bytes ≤ 140737488355328) (hbase : base ≤ w.heap.size)
    (h : ∀ v' w', w'.ownsRow base e size v' (n + m) (xs ++ news) → w.grownBy w' v.ownBlock → (∀ g, v'.ownBlock = some g → v.ownBlock = some g ∨ w.heap.size ≤ g) → K (a.put o.dst v') w') : o.wp P a w K Q := by
  obtain ⟨v', w', hr, h2, h3, h4⟩ := run_append_new (P := P) w base t o.type e i z size bytes ht hi hz hsize hby hzs hsz v n xs hown ad m c news hl hnews h1 h63 hbytes hbase
  unfold Oper.wp execOp
  simp only [ho, resolve, invoke, builtin, Sem.run_bind, Sem.run_pure, Result.andThen_ok, List.map_toArray, List.map_cons, List.map_nil, hs, hx, hr]
  exact h v' w' h2 h3 h4
variable {w}
theorem wpList_append_new {ops : Array Oper} {rest : List Oper} {o : Oper} {a : Act} {Q : Exit → Act → World → Prop} (hgd : o.guard = none) (s x : Operand) (t : TypeId)
    (ho : o.op = .call { callee := .builtin .append, args := #[s, x], argTypes := #[t, t] })
    (base : Nat) (e : TypeId) (i : TypeInfo) (z : Value) (size bytes : Nat) (ht : P.underlying t = some (.slice e)) (hi : P.info? e = some i) (hz : i.zero = some z)
    (hsize : i.size = size) (hby : i.bytes = bytes) (hzs : z.cells.size = size) (hsz : 0 < size)
    (v : Value) (n : Nat) (xs : List Value) (hs : a.eval s = v) (hown : w.ownsRow base e size v n xs)
    (ad : Addr) (m c : Nat) (news : List Value) (hx : a.eval x = .slice (some ad) m c) (hl : news.length = m * size) (hnews : ∀ j u, news[j]? = some u → w.cell? (ad.add j) = some u) (h1 : ∀ u ∈ news, u.oneCell' = true)
    (h63 : n + m ≤ maxLen) (hbytes : (n + m) * bytes ≤ 140737488355328) (hbase : base ≤ w.heap.size)
    (h : ∀ v' w', w'.ownsRow base e size v' (n + m) (xs ++ news) → w.grownBy w' v.ownBlock → (∀ g, v'.ownBlock = some g → v.ownBlock = some g ∨ w.heap.size ≤ g) → wpList P ops Q rest (a.put o.dst v') w') : wpList P ops Q (o :: rest) a w :=
  wpList_plain hgd fun _ hK => wp_append_new w s x t ho base e i z size bytes ht hi hz hsize hby hzs hsz v n xs hs hown ad m c news hx hl hnews h1 h63 hbytes hbase fun v' w' h2 h3 h4 => hK _ _ (h v' w' h2 h3 h4)
end
def setL (xs : List Value) : Nat → List Value → List Value
  | _, [] => xs
  | o, v :: r => setL (xs.set o v) (o + 1) r
theorem setL_len : ∀ (vs xs : List Value) (o : Nat), (setL xs o vs).length = xs.length
  | [], _, _ => rfl
  | v :: r, xs, o => by rw [setL, setL_len r]; simp
theorem setL_ins (y : TIns) : ∀ (xs : List TIns) (i : Nat), i < xs.length → setL (xs.flatMap insCells) (i * 8) (insCells y) = (xs.set i y).flatMap insCells
  | [], _, h => by simp at h
  | x :: l, 0, _ => by simp [insCells, setL]
  | x :: l, i + 1, h => by
    have ih := setL_ins y l i (by simpa using h)
    rw [List.flatMap_cons, List.set_cons_succ, List.flatMap_cons, ← ih]
    have key : ∀ (vs A L : List Value) (o : Nat), setL (A ++ L) (A.length + o) vs = A ++ setL L o vs := by
      intro vs
      induction vs with
      | nil => intro A L o; rfl
      | cons v r ih => intro A L o; rw [setL, setL, List.set_append_right _ _ (by omega), Nat.add_sub_cancel_left, ← ih A (L.set o v) (o + 1)]; rfl
    rw [show (i + 1) * 8 = (insCells x).length + i * 8 by simp [insCells]; omega, key]
theorem own_setL {B g cap n size : Nat} {e : TypeId} : ∀ (vs : List Value) (o : Nat) (w : World) (xs : List Value), w.ownsRow B e size (.slice (some ⟨g, 0, none⟩) n cap) n xs → o + vs.length ≤ n * size → (w.setCells g o vs).ownsRow B e size (.slice (some ⟨g, 0, none⟩) n cap) n (setL xs o vs)
  | [], _, _, _, h, _ => h
  | v :: r, o, w, xs, h, hl => by
    rw [World.setCells, setL]
    simp only [List.length_cons] at hl
    exact own_setL r (o + 1) _ _ (own_cell h (by omega) v) (by omega)
theorem fined_setCells {g : Nat} {w0 : World} : ∀ (vs : List Value) (o : Nat) (w : World), Fined g w0 w → Fined g w0 (w.setCells g o vs)
  | [], _, _, h => h
  | v :: r, o, w, h => by rw [World.setCells]; exact fined_setCells r (o + 1) _ (h.set_ o v)


/-- how a sinker stands: what its cells hold, and where its rows lie -/
structure SinkS where
  shape : Int
  vals : List Int
  tl : List Int
  out : List TIns
  uV : Value
  uT : Value
  uO : Value
  E : List (Int × Value)
def HeldR (w : World) (B : Nat) (uV uT : Value) (v : Value) : Prop :=
  ∃ (sh : Int) (u : Value) (l : List Int), v = .agg #[.int .i64 sh, u] ∧ wfi sh ∧ w.ownsRow B 3 1 u l.length (l.map (.int .i64)) ∧ l.length ≤ 1000 ∧ (∀ x ∈ l, wfi x) ∧ ∀ G, u.ownBlock = some G → uV.ownBlock ≠ some G ∧ uT.ownBlock ≠ some G
/-- THE SINKER IN BLOCK sb: of the trace t (ca), of its value c; its map in block mb -/
structure SinkR (w : World) (B sb mb c : Nat) (kind : Int) (ca : List Value) (t : TTrace) (s : SinkS) : Prop where
  tr : TraceR w B ca t
  hB : B ≤ sb
  fit : FitS t
  row : w.heap[sb]? = some (.cells ⟨ca ++ [.int .i64 c, .int .i64 kind, .int .i64 s.shape, s.uV, s.uT, s.uO, .map (some mb)]⟩ 78 (0, 0))
  vals : w.ownsRow B 3 1 s.uV s.vals.length (s.vals.map (.int .i64))
  tl : w.ownsRow B 3 1 s.uT s.tl.length (s.tl.map (.int .i64))
  out : w.ownsRow B 42 8 s.uO s.out.length (s.out.flatMap insCells)
  outG : ∀ G, s.uO.ownBlock = some G → G < sb
  map_ : MapN w mb s.E
  mB : B ≤ mb
  vt : ∀ G, s.uV.ownBlock = some G → s.uT.ownBlock ≠ some G
  keys : ∀ e ∈ s.E, 0 ≤ e.1 ∧ e.1 < t.exits.length
  nodup : (s.E.map (·.1)).Nodup
  held : ∀ e ∈ s.E, HeldR w B s.uV s.uT e.2
  sinks : Sinks t c s.out s.tl
  wfO : ∀ x ∈ s.out, WfIns x
  wfV : ∀ v ∈ s.vals, wfi v
  wfT : ∀ v ∈ s.tl, wfi v
  wfS : wfi s.shape
  wfK : wfi kind
  few : s.vals.length ≤ 101
def Turns (sb mb : Nat) (s : SinkS) (k : Nat) : Prop := k = sb ∨ k = mb ∨ s.uV.ownBlock = some k ∨ s.uT.ownBlock = some k ∨ s.uO.ownBlock = some k
/-- from s at w to s' at w': what may have been turned -/
structure SinkTo (sb mb : Nat) (w : World) (s : SinkS) (w' : World) (s' : SinkS) : Prop where
  only : Only (Turns sb mb s) w w'
  uT : s'.uT = s.uT
  uO : s'.uO = s.uO
  uV : ∀ G, s'.uV.ownBlock = some G → s.uV.ownBlock = some G ∨ w.heap.size ≤ G
section
variable {w w' : World} {B sb mb c : Nat} {kind : Int} {ca : List Value} {t : TTrace} {s s' : SinkS}
theorem SinkTo.refl : SinkTo sb mb w s w s := ⟨Only.refl, rfl, rfl, fun _ h => .inl h⟩
theorem SinkTo.of (k : Below w.heap.size w w') : SinkTo sb mb w s w' s := ⟨Only.of k, rfl, rfl, fun _ h => .inl h⟩
theorem SinkTo.trans {w'' : World} {s'' : SinkS} (h : SinkTo sb mb w s w' s') (g : SinkTo sb mb w' s' w'' s'') : SinkTo sb mb w s w'' s'' :=
  ⟨⟨g.only.os.trans h.only.os, g.only.tape.trans h.only.tape, g.only.output.trans h.only.output, Nat.le_trans h.only.size g.only.size, fun k hk ht => by
      refine (g.only.block k (Nat.lt_of_lt_of_le hk h.only.size) (fun hk' => ht ?_)).trans (h.only.block k hk ht)
      rcases hk' with e | e | e | e | e
      · exact .inl e
      · exact .inr (.inl e)
      · rcases h.uV k e with e | e
        · exact .inr (.inr (.inl e))
        · omega
      · exact .inr (.inr (.inr (.inl (by rw [← h.uT]; exact e))))
      · exact .inr (.inr (.inr (.inr (by rw [← h.uO]; exact e))))⟩,
    g.uT.trans h.uT, g.uO.trans h.uO, fun G e => by
      rcases g.uV G e with e | e
      · exact h.uV G e
      · exact .inr (Nat.le_trans h.only.size e)⟩
theorem SinkR.len (h : SinkR w B sb mb c kind ca t s) : ca.length = 13 := by
  have h1 := h.tr.size13
  rw [infoTr13] at h1
  injection h1 with h1
  exact h1.symm
theorem SinkR.lt (h : SinkR w B sb mb c kind ca t s) : sb < w.heap.size := (Array.getElem?_eq_some_iff.1 h.row).1
theorem SinkR.head (h : SinkR w B sb mb c kind ca t s) : HeadAt w sb ca := fun i v hv => by
  have hi := (List.getElem?_eq_some_iff.1 hv).1
  refine HeadAt.of_row h.row i v ?_
  rw [List.getElem?_append_left hi]; exact hv
theorem SinkR.cellAt (h : SinkR w B sb mb c kind ca t s) {k : Nat} {v : Value} (hv : [(.int .i64 c : Value), .int .i64 kind, .int .i64 s.shape, s.uV, s.uT, s.uO, .map (some mb)][k]? = some v) : w.cell? ⟨sb, 13 + k, none⟩ = some v := by
  have hl := h.len
  refine HeadAt.of_row h.row (13 + k) _ ?_
  rw [List.getElem?_append_right (by omega), hl, Nat.add_sub_cancel_left]; exact hv
theorem SinkR.trace (h : SinkR w B sb mb c kind ca t s) : TraceR w w.heap.size ca t := h.tr.keep (Nat.le_trans h.hB (Nat.le_of_lt h.lt)) (fun _ _ => rfl)
theorem HeldR.stays {uV uT v : Value} (h : HeldR w B uV uT v) (hk : ∀ G, B ≤ G → G < w.heap.size → uV.ownBlock ≠ some G → uT.ownBlock ≠ some G → (∃ cs, w.heap[G]? = some (.cells cs 3 (0, 0))) → w'.heap[G]? = w.heap[G]?) : HeldR w' B uV uT v := by
  obtain ⟨sh, u, l, e, h1, h2, h3, h4, h5⟩ := h
  exact ⟨sh, u, l, e, h1, row_stays h2 (fun G hG => by obtain ⟨a, b, d⟩ := row_ty h2 hG; exact hk G a b (h5 G hG).1 (h5 G hG).2 d), h3, h4, h5⟩
theorem SinkR.typeV (h : SinkR w B sb mb c kind ca t s) {G : Nat} (e : s.uV.ownBlock = some G) : ∃ cs, w.heap[G]? = some (.cells cs 3 (0, 0)) := (row_ty h.vals e).2.2
/-- a block of another type, or behind the sinker: none of its rows -/
theorem SinkR.offO (h : SinkR w B sb mb c kind ca t s) {G : Nat} (hG : sb < G) (hg : ∀ cs, w.heap[G]? ≠ some (.cells cs 3 (0, 0))) (hm : ∀ es k, w.heap[G]? ≠ some (.map es k)) : ¬ Turns sb mb s G := by
  rintro (e | e | e | e | e)
  · omega
  · obtain ⟨es, k, hb, _⟩ := h.map_; rw [← e] at hb; exact hm es k hb
  · obtain ⟨cs, hcs⟩ := (row_ty h.vals e).2.2; exact hg cs hcs
  · obtain ⟨cs, hcs⟩ := (row_ty h.tl e).2.2; exact hg cs hcs
  · have := h.outG G e; omega
theorem SinkR.below (h : SinkR w B sb mb c kind ca t s) (k : Below w.heap.size w w') : SinkR w' B sb mb c kind ca t s := by
  have hlt := h.lt
  have hB := h.hB
  refine ⟨h.tr.keep (Nat.le_refl _) (fun p hp => k.cell (by omega)), hB, h.fit, (k.block _ hlt).trans h.row, row_stays h.vals (fun G e => k.block G (row_ty h.vals e).2.1), row_stays h.tl (fun G e => k.block G (row_ty h.tl e).2.1), row_stays h.out (fun G e => k.block G (row_ty h.out e).2.1), h.outG, h.map_.kept (k.block _ h.map_.lt), h.mB, h.vt, h.keys, h.nodup, fun e he => (h.held e he).stays (fun G _ hG _ _ _ => k.block G hG), h.sinks, h.wfO, h.wfV, h.wfT, h.wfS, h.wfK, h.few⟩
/-- an object of another kind: another block -/
theorem row_ne {B n size g : Nat} {e e' : TypeId} {v : Value} {xs : List Value} {cs : Array Value} {fr : Nat × Nat} (h : w.ownsRow B e size v n xs) (hg : w.heap[g]? = some (.cells cs e' fr)) (he : e ≠ e') : v.ownBlock ≠ some g := fun hv => by
  obtain ⟨_, _, cs', h'⟩ := row_ty h hv
  rw [h'] at hg
  injection hg with hg
  injection hg with _ hg
  exact he hg
theorem map_ne {b g : Nat} {L : List (Int × Value)} {cs : Array Value} {e : TypeId} {fr : Nat × Nat} (h : MapN w b L) (hg : w.heap[g]? = some (.cells cs e fr)) : b ≠ g := by
  rintro rfl
  obtain ⟨es, k, hb, _⟩ := h
  rw [hb] at hg; cases hg
theorem row_map {B n size b : Nat} {e : TypeId} {v : Value} {xs : List Value} {L : List (Int × Value)} (h : w.ownsRow B e size v n xs) (hm : MapN w b L) : v.ownBlock ≠ some b := fun hv => by
  obtain ⟨_, _, cs', h'⟩ := row_ty h hv
  exact map_ne hm h' rfl
theorem SinkR.sbV (h : SinkR w B sb mb c kind ca t s) : s.uV.ownBlock ≠ some sb := row_ne h.vals h.row (by decide)
theorem SinkR.sbT (h : SinkR w B sb mb c kind ca t s) : s.uT.ownBlock ≠ some sb := row_ne h.tl h.row (by decide)
theorem SinkR.sbO (h : SinkR w B sb mb c kind ca t s) : s.uO.ownBlock ≠ some sb := row_ne h.out h.row (by decide)
theorem SinkR.OV (h : SinkR w B sb mb c kind ca t s) {G : Nat} (e : s.uO.ownBlock = some G) : s.uV.ownBlock ≠ some G ∧ s.uT.ownBlock ≠ some G := by
  obtain ⟨_, _, cs, h1⟩ := row_ty h.out e
  exact ⟨row_ne h.vals h1 (by decide), row_ne h.tl h1 (by decide)⟩
theorem int_ne {g : Nat} {cs : Array Value} {e : TypeId} {fr : Nat × Nat} (hg : w.heap[g]? = some (.cells cs e fr)) (he : 3 ≠ e) {G : Nat} (hG : ∃ cs, w.heap[G]? = some (.cells cs 3 (0, 0))) : G ≠ g := by
  rintro rfl
  obtain ⟨cs', h'⟩ := hG
  rw [h'] at hg
  injection hg with hg
  injection hg with _ hg
  exact he hg
/-- the cell as it is now is another one -/
theorem SinkR.moved (h : SinkR w B sb mb c kind ca t s) {sh : Int} {vs : List Int} {u : Value} (os : w'.os = w.os) (tape : w'.tape = w.tape) (output : w'.output = w.output) (size : w.heap.size ≤ w'.heap.size)
    (k : ∀ k, k < w.heap.size → k ≠ sb → s.uV.ownBlock ≠ some k → w'.heap[k]? = w.heap[k]?)
    (row : w'.heap[sb]? = some (.cells ⟨ca ++ [.int .i64 c, .int .i64 kind, .int .i64 sh, u, s.uT, s.uO, .map (some mb)]⟩ 78 (0, 0)))
    (vals : w'.ownsRow B 3 1 u vs.length (vs.map (.int .i64))) (uV : ∀ G, u.ownBlock = some G → s.uV.ownBlock = some G ∨ w.heap.size ≤ G)
    (wfV : ∀ v ∈ vs, wfi v) (wfS : wfi sh) (few : vs.length ≤ 101) :
    SinkR w' B sb mb c kind ca t { s with shape := sh, vals := vs, uV := u } ∧ SinkTo sb mb w s w' { s with shape := sh, vals := vs, uV := u } := by
  have hB := h.hB
  have hlt := h.lt
  refine ⟨⟨h.tr.keep (Nat.le_refl _) (fun p hp => ?_), hB, h.fit, row, vals, row_stays h.tl (fun G e => ?_), row_stays h.out (fun G e => ?_), h.outG, h.map_.kept (k mb h.map_.lt (map_ne h.map_ h.row) (row_map h.vals h.map_)), h.mB, fun G e e2 => ?_, h.keys, h.nodup, fun e he => ?_, h.sinks, h.wfO, wfV, h.wfT, wfS, h.wfK, few⟩, ⟨⟨os, tape, output, size, fun j hj ht => k j hj (fun e => ht (.inl e)) (fun e => ht (.inr (.inr (.inl e))))⟩, rfl, rfl, uV⟩⟩
  · have e := k p.block (by omega) (by omega) (fun e => by have := (row_ty h.vals e).1; omega)
    unfold World.cell?
    rw [e]
  · exact k G (row_ty h.tl e).2.1 (fun c => h.sbT (by rw [e, c])) (fun c => h.vt G c e)
  · exact k G (row_ty h.out e).2.1 (fun c => h.sbO (by rw [e, c])) (h.OV e).1
  · rcases uV G e with a | a
    · exact h.vt G a e2
    · have := (row_ty h.tl e2).2.1; omega
  · obtain ⟨sh', u', l, e1, h1, h2, h3, h4, h5⟩ := h.held e he
    refine ⟨sh', u', l, e1, h1, row_stays h2 (fun G hG => k G (row_ty h2 hG).2.1 (int_ne h.row (by decide) (row_ty h2 hG).2.2) (h5 G hG).1), h3, h4, fun G hG => ⟨fun a => ?_, (h5 G hG).2⟩⟩
    rcases uV G a with b | b
    · exact (h5 G hG).1 b
    · have := (row_ty h2 hG).2.1; omega
/-- where a value is told, is told anew -/
theorem SinkR.setTo (h : SinkR w B sb mb c kind ca t s) {T cap n i : Nat} (eT : s.uT = .slice (some ⟨T, 0, none⟩) n cap) (hi : i < t.ins.length) {x : TIns} (hx : t.ins[i]? = some x) (hn : x.op ≠ 16) {v : Int} (hv : wfi v) :
    SinkR (w.setCell ⟨T, i, none⟩ (.int .i64 v)) B sb mb c kind ca t { s with tl := s.tl.set i v } ∧ SinkTo sb mb w s (w.setCell ⟨T, i, none⟩ (.int .i64 v)) { s with tl := s.tl.set i v } := by
  have k : Fined T w (w.setCell ⟨T, i, none⟩ (.int .i64 v)) := (Fined.refl T w).set_ _ _
  have hTb : s.uT.ownBlock = some T := by rw [eT]; rfl
  obtain ⟨hT1, hT2, cs, hT3⟩ := row_ty h.tl hTb
  have hB := h.hB
  have hlt := h.lt
  have hn' : n = s.tl.length := by
    obtain ⟨A, c', e⟩ := own_len h.tl
    rw [eT] at e; injection e
  subst hn'
  have hlen := h.sinks.lenT
  refine ⟨⟨h.tr.keep (Nat.le_refl _) (fun p hp => (k.under (B := B) hT1 (by omega)).cell hp), hB, h.fit, k.row h.row (fun e => h.sbT (by rw [hTb, e])), row_stays h.vals (fun G e => k.block G (row_ty h.vals e).2.1 (fun c => h.vt G e (by rw [hTb, c]))), ?_, row_stays h.out (fun G e => k.block G (row_ty h.out e).2.1 (fun c => (h.OV e).2 (by rw [hTb, c]))), h.outG, h.map_.kept (k.block mb h.map_.lt (map_ne h.map_ hT3)), h.mB, h.vt, h.keys, h.nodup, fun e he => ?_, h.sinks.setTo hx hn v, h.wfO, h.wfV, fun y hy => ?_, h.wfS, h.wfK, h.few⟩, ⟨⟨rfl, rfl, rfl, k.size, fun j hj ht => k.block j hj (fun e => ht (.inr (.inr (.inr (.inl (by rw [hTb, e]))))))⟩, rfl, rfl, fun G e => .inl e⟩⟩
  · have h1 := h.tl
    rw [eT] at h1
    have h2 := own_cell h1 (k := i) (by omega) (.int .i64 v)
    show World.ownsRow _ B _ 1 s.uT (s.tl.set i v).length _
    rw [eT, List.length_set, List.map_set]
    exact h2
  · exact (h.held e he).stays (fun G _ hG _ h2 _ => k.block G hG (fun c => h2 (by rw [hTb, c])))
  · rcases List.mem_or_eq_of_mem_set hy with hy | rfl
    · exact h.wfT y hy
    · exact hv
/-- an instruction is put anew -/
theorem SinkR.setOut (h : SinkR w B sb mb c kind ca t s) {T cap n i : Nat} (eO : s.uO = .slice (some ⟨T, 0, none⟩) n cap) (hi : i < t.ins.length) {x y : TIns} (hx : t.ins[i]? = some x) (hn : x.op ≠ 16) (hy : WfIns y) (hy2 : y.op ≠ 16) (hy3 : -1 ≤ y.exit ∧ y.exit < t.exits.length) (hy4 : 0 ≤ y.n) :
    SinkR (w.setCells T (i * 8) (insCells y)) B sb mb c kind ca t { s with out := s.out.set i y } ∧ SinkTo sb mb w s (w.setCells T (i * 8) (insCells y)) { s with out := s.out.set i y } := by
  have k := fined_setCells (insCells y) (i * 8) w (Fined.refl T w)
  have hTb : s.uO.ownBlock = some T := by rw [eO]; rfl
  obtain ⟨hT1, hT2, cs, hT3⟩ := row_ty h.out hTb
  have hB := h.hB
  have hlt := h.lt
  have hn' : n = s.out.length := by
    obtain ⟨A, c', e⟩ := own_len h.out
    rw [eO] at e; injection e
  subst hn'
  have hlen := h.sinks.lenO
  refine ⟨⟨h.tr.keep (Nat.le_refl _) (fun p hp => (k.under (B := B) hT1 (by omega)).cell hp), hB, h.fit, k.row h.row (fun e => h.sbO (by rw [hTb, e])), row_stays h.vals (fun G e => k.block G (row_ty h.vals e).2.1 (fun c => (h.OV hTb).1 (by rw [e, c]))), row_stays h.tl (fun G e => k.block G (row_ty h.tl e).2.1 (fun c => (h.OV hTb).2 (by rw [e, c]))), ?_, h.outG, h.map_.kept (k.block mb h.map_.lt (map_ne h.map_ hT3)), h.mB, h.vt, h.keys, h.nodup, fun e he => ?_, h.sinks.setOut hx hn hy2 hy3 hy4, fun z hz => ?_, h.wfV, h.wfT, h.wfS, h.wfK, h.few⟩, ⟨⟨k.os, k.tape, k.output, k.size, fun j hj ht => k.block j hj (fun e => ht (.inr (.inr (.inr (.inr (by rw [hTb, e]))))))⟩, rfl, rfl, fun G e => .inl e⟩⟩
  · have h1 := h.out
    rw [eO] at h1
    have h2 := own_setL (insCells y) (i * 8) w _ h1 (by simp [insCells]; omega)
    rw [setL_ins y s.out i (by omega)] at h2
    show World.ownsRow _ B _ 8 s.uO (s.out.set i y).length _
    rw [eO, List.length_set]
    exact h2
  · exact (h.held e he).stays (fun G _ hG _ _ hc => k.block G hG (int_ne hT3 (by decide) hc))
  · rcases List.mem_or_eq_of_mem_set hz with hz | rfl
    · exact h.wfO z hz
    · exact hy
/-- an exit is kept, with a cell as it is then -/
theorem SinkR.keepAt (h : SinkR w B sb mb c kind ca t s) {x : Int} {v : Value} (hm : MapN w' mb (s.E ++ [(x, v)])) (hg : w.grownBy w' (some mb)) (hx : 0 ≤ x ∧ x < t.exits.length) (hl : lookN s.E x = none) (hv : HeldR w B s.uV s.uT v) :
    SinkR w' B sb mb c kind ca t { s with E := s.E ++ [(x, v)] } ∧ SinkTo sb mb w s w' { s with E := s.E ++ [(x, v)] } := by
  have k : ∀ j, j < w.heap.size → j ≠ mb → w'.heap[j]? = w.heap[j]? := fun j hj hne => hg.block j hj (fun e => hne (by injection e))
  have hB := h.hB
  have hlt := h.lt
  have hmB := h.mB
  have held : ∀ e, HeldR w B s.uV s.uT e → HeldR w' B s.uV s.uT e := fun e he => he.stays (fun G _ hG _ _ hc => k G hG (fun c => by obtain ⟨cs, h9⟩ := hc; exact map_ne h.map_ h9 c.symm))
  refine ⟨⟨h.tr.keep (Nat.le_refl _) (fun p hp => ?_), hB, h.fit, (k sb hlt (map_ne h.map_ h.row).symm).trans h.row, row_stays h.vals (fun G e => k G (row_ty h.vals e).2.1 (fun c => row_map h.vals h.map_ (by rw [e, c]))), row_stays h.tl (fun G e => k G (row_ty h.tl e).2.1 (fun c => row_map h.tl h.map_ (by rw [e, c]))), row_stays h.out (fun G e => k G (row_ty h.out e).2.1 (fun c => row_map h.out h.map_ (by rw [e, c]))), h.outG, hm, h.mB, h.vt, fun e he => ?_, ?_, fun e he => ?_, h.sinks, h.wfO, h.wfV, h.wfT, h.wfS, h.wfK, h.few⟩, ⟨⟨hg.os, hg.tape, hg.output, hg.size, fun j hj ht => k j hj (fun e => ht (.inr (.inl e)))⟩, rfl, rfl, fun G e => .inl e⟩⟩
  · have e := k p.block (by omega) (by omega)
    unfold World.cell?
    rw [e]
  · rcases List.mem_append.1 he with he | he
    · exact h.keys e he
    · simp at he; subst he; exact hx
  · show ((s.E ++ [(x, v)]).map (·.1)).Nodup
    rw [List.map_append, List.nodup_append]
    refine ⟨h.nodup, by simp, fun a ha b hb => ?_⟩
    simp at hb
    subst hb
    obtain ⟨e, he, rfl⟩ := List.mem_map.1 ha
    exact lookN_none hl e he
  · rcases List.mem_append.1 he with he | he
    · exact held _ (h.held e he)
    · simp at he; subst he; exact held _ hv
end
end Go.Proofs.YtlnkjmgfkpeicaaGreatDoor
