/- code.walk in memory. -/
import Derived.Test.YtmccomeihnaanaaDoorWalkM
import Derived.Test.YtmccomeihnaanaaDoorCloneT
import Derived.Test.YtmccomeihnaanaaDoorCodeG
import Derived.BigRegion
namespace Go.Proofs.YtmccomeihnaanaaDoor
open Go.RowKit

/-- the element types of the blocks that the walk's methods may write -/
def Unsafe (t : TypeId) : Bool := t == 189 || t == 4 || t == 197 || t == 3
/-- what the walk's methods may turn: blocks from B on, of those types -/
structure Walked (B : Nat) (w w' : World) : Prop where
  os : w'.os = w.os
  tape : w'.tape = w.tape
  output : w'.output = w.output
  size : w.heap.size ≤ w'.heap.size
  block : ∀ k, k < w.heap.size → (k < B ∨ ∃ cs t fr, w.heap[k]? = some (.cells cs t fr) ∧ Unsafe t = false) → w'.heap[k]? = w.heap[k]?
section
variable {B : Nat} {w w1 w2 : World}
theorem Walked.refl (B : Nat) (w : World) : Walked B w w := ⟨rfl, rfl, rfl, Nat.le_refl _, fun _ _ _ => rfl⟩
theorem Walked.trans (h : Walked B w w1) (k : Walked B w1 w2) : Walked B w w2 :=
  ⟨k.os.trans h.os, k.tape.trans h.tape, k.output.trans h.output, Nat.le_trans h.size k.size, fun i hi hc => (k.block i (Nat.lt_of_lt_of_le hi h.size) (by
    rcases hc with hc | ⟨cs, t, fr, hc, hu⟩
    · exact .inl hc
    · exact .inr ⟨cs, t, fr, (h.block i hi (.inr ⟨cs, t, fr, hc, hu⟩)).trans hc, hu⟩)).trans (h.block i hi hc)⟩
theorem Walked.below_ (h : Walked B w w1) (k : Below w1.heap.size w1 w2) : Walked B w w2 := h.trans ⟨k.os, k.tape, k.output, k.size, fun i hi _ => k.block i hi⟩
theorem Walked.of_below (k : Below w.heap.size w w1) : Walked B w w1 := (Walked.refl B w).below_ k
theorem Walked.alloc (h : Walked B w w1) (o : Obj) : Walked B w (w1.alloc o) := h.below_ (below_one w1 o)
theorem Walked.drew (h : Walked B w w1) : Walked B w w1.drew := ⟨h.os, h.tape, h.output, h.size, h.block⟩
theorem Walked.set_ (h : Walked B w w1) {g : Nat} {cs : Array Value} {t : TypeId} {fr : Nat × Nat} (hB : B ≤ g) (hg : w1.heap[g]? = some (.cells cs t fr)) (ht : Unsafe t = true) (i : Nat) (u : Value) : Walked B w (w1.setCell ⟨g, i, none⟩ u) :=
  h.trans ⟨rfl, rfl, rfl, by simp [World.setCell], fun k hk hc => Below.heap_setCell _ _ _ _ (by
    show k ≠ g
    rintro rfl
    rcases hc with hc | ⟨cs', t', fr', hc, hu⟩
    · omega
    · rw [hg] at hc; injection hc with hc; injection hc with _ hc _; rw [← hc, ht] at hu; cases hu)⟩
theorem Walked.grown (h : Walked B w w1) {row : Option Nat} (hg : w1.grownBy w2 row) {t : TypeId} (ht : Unsafe t = true) (hr : ∀ k, row = some k → B ≤ k ∧ ∃ cs fr, w1.heap[k]? = some (.cells cs t fr)) : Walked B w w2 :=
  h.trans ⟨hg.os, hg.tape, hg.output, hg.size, fun k hk hc => hg.block k hk (fun e => by
    obtain ⟨h1, cs, fr, h2⟩ := hr k e.symm
    rcases hc with hc | ⟨cs', t', fr', hc, hu⟩
    · omega
    · rw [h2] at hc; injection hc with hc; injection hc with _ hc _; rw [← hc, ht] at hu; cases hu)⟩
theorem Walked.under (h : Walked B w w1) (hB : B ≤ w.heap.size) : Below B w w1 := ⟨h.os, h.tape, h.output, h.size, fun k hk => h.block k (by omega) (.inl hk)⟩
theorem Walked.tries {α : Type} (h : Walked B w w1) {C size : Nat} {R : List Value → α → Prop} {v : Value} {xs : List α} (hs : SliceTy w C 200 size R v xs) : SliceTy w1 C 200 size R v xs :=
  hs.keep (fun k cs fr _ hk => h.block k (Array.getElem?_eq_some_iff.1 hk).1 (.inr ⟨cs, _, fr, hk, by decide⟩)) (fun _ _ h => h)
theorem Walked.row (h : Walked B w w1) {g : Nat} {cs : Array Value} {t : TypeId} {fr : Nat × Nat} (hg : w.heap[g]? = some (.cells cs t fr)) (ht : Unsafe t = false) : w1.heap[g]? = some (.cells cs t fr) :=
  (h.block g (Array.getElem?_eq_some_iff.1 hg).1 (.inr ⟨cs, t, fr, hg, ht⟩)).trans hg
end
theorem own_row {w : World} {B : Nat} {e : TypeId} {size : Nat} {v : Value} {n : Nat} {xs : List Value} (hown : w.ownsRow B e size v n xs) : ∀ k, v.ownBlock = some k → B ≤ k ∧ ∃ cs fr, w.heap[k]? = some (.cells cs e fr) := by
  intro k hk
  rcases hown.2 with ⟨rfl, _⟩ | ⟨g, cap, cur, rfl, hg, hh, _⟩
  · simp [Value.ownBlock] at hk
  · simp only [Value.ownBlock, Option.some.injEq] at hk
    subst hk
    exact ⟨hg, _, _, hh⟩
/-- an owned row stays so while a block of another type is written -/
theorem own_far {w : World} {B : Nat} {e t : TypeId} {size : Nat} {v : Value} {n : Nat} {xs : List Value} (h : w.ownsRow B e size v n xs) {g : Nat} {cs : Array Value} {fr : Nat × Nat} (hg : w.heap[g]? = some (.cells cs t fr)) (ht : t ≠ e) (i : Nat) (u : Value) :
    (w.setCell ⟨g, i, none⟩ u).ownsRow B e size v n xs := by
  refine h.kept (row := some g) ⟨rfl, rfl, rfl, by simp [World.setCell], fun k _ hk => Below.heap_setCell _ _ _ _ (fun e => hk (by rw [e]))⟩ (.inr (fun hv => ?_))
  obtain ⟨_, cs', fr', h2⟩ := own_row h g hv
  rw [hg] at h2; injection h2 with h2; injection h2 with _ h2 _; exact ht h2

/-- THE WALK IN BLOCK b. -/
structure WalkAt (w : World) (B b : Nat) (v0 v1 v2 v3 : Value) (A5 : Option Addr) (n n5 : Nat) (s : WalkS) (bs bo : Nat) (tv : Value) (ovs : List Value) : Prop where
  hb : B ≤ b
  here : w.heap[b]? = some (.cells #[v0, v1, v2, v3, .slice A5 n n5, .slice (some ⟨bs, 0, none⟩) n n, .slice (some ⟨bo, 0, none⟩) n n, tv, .bool s.bad] 189 (0, 0))
  hbs : B ≤ bs
  seen : w.heap[bs]? = some (.cells ⟨s.seen.map .bool⟩ 4 (0, 0))
  hbo : B ≤ bo
  outs : w.heap[bo]? = some (.cells ⟨ovs⟩ 197 (0, 0))
  olen : ovs.length = n
  out : ∀ (i : Nat) v l, ovs[i]? = some v → s.out[i]? = some l → SliceTy w B 200 2 TryR v l
  todo : w.ownsRow B 3 1 tv s.todo.length (s.todo.map (.int .i64))
theorem WalkAt.set_bad {w : World} {B b : Nat} {v0 v1 v2 v3 : Value} {A5 : Option Addr} {n n5 : Nat} {s : WalkS} {bs bo : Nat} {tv : Value} {ovs : List Value} (h : WalkAt w B b v0 v1 v2 v3 A5 n n5 s bs bo tv ovs) :
    WalkAt (w.setCell ⟨b, 8, none⟩ (.bool true)) B b v0 v1 v2 v3 A5 n n5 { s with bad := true } bs bo tv ovs ∧ Walked B w (w.setCell ⟨b, 8, none⟩ (.bool true)) := by
  have hk : Walked B w (w.setCell ⟨b, 8, none⟩ (.bool true)) := (Walked.refl B w).set_ h.hb h.here (by decide) _ _
  have hne : bs ≠ b := by rintro rfl; have := h.here; rw [h.seen] at this; injection this with this; injection this with _ this _; exact absurd this (by decide)
  have hno : bo ≠ b := by rintro rfl; have := h.here; rw [h.outs] at this; injection this with this; injection this with _ this _; exact absurd this (by decide)
  refine ⟨⟨h.hb, ?_, h.hbs, ?_, h.hbo, ?_, h.olen, fun i v l hv hl => hk.tries (h.out i v l hv hl), own_far h.todo h.here (by decide) _ _⟩, hk⟩
  · rw [heap_setCell_same w b 8 _ _ _ h.here]; rfl
  · rw [heap_setCell_other w _ bs _ hne]; exact h.seen
  · rw [heap_setCell_other w _ bo _ hno]; exact h.outs

def ComePost (B b : Nat) (v0 v1 v2 v3 : Value) (A5 : Option Addr) (n n5 : Nat) (s' : WalkS) (bs bo : Nat) (w : World) (e : Ending) (w' : World) : Prop := e = .returned (.tuple #[]) ∧ (∃ tv ovs, WalkAt w' B b v0 v1 v2 v3 A5 n n5 s' bs bo tv ovs) ∧ Walked B w w'
set_option maxHeartbeats 2000000 in
set_option maxRecDepth 100000 in
theorem come_bad (B b : Nat) (v0 v1 v2 v3 : Value) (A5 : Option Addr) (n n5 : Nat) (s : WalkS) (bs bo : Nat) (tv : Value) (ovs : List Value) (at_ : Int) (A : Option Addr) (cap : Nat) (l : List CTry) (w : World)
    (h : WalkAt w B b v0 v1 v2 v3 A5 n n5 s bs bo tv ovs) (hn : n ≤ 600) (h0 : 0 ≤ at_) (hc : (n : Int) ≤ at_ ∨ 20 < l.length) :
    Calls Tryd.prog 137 #[.pointer (some ⟨b, 0, none⟩), .int .i64 at_, .slice A l.length cap] w (ComePost B b v0 v1 v2 v3 A5 n n5 { s with bad := true } bs bo w) := by
  have c4 : w.cell? ⟨b, 4, none⟩ = some (.slice A5 n n5) := cell_of_row w b 4 _ _ _ h.here
  have c8 : w.cell? ⟨b, 8, none⟩ = some (.bool s.bad) := cell_of_row w b 8 _ _ _ h.here
  have f8 : w.frozen? ⟨b, 8, none⟩ = false := frozen_of_row w b 8 _ _ h.here
  have HH := Lib.hid h
  clear h
  by_cases h1 : (n : Int) ≤ at_
  · clear hc
    go_enter Tryd.func137, Tryd.ntmps137
    go_wp2_with fail
    go_end0
    exact ⟨rfl, ⟨_, _, HH.out.set_bad.1⟩, HH.out.set_bad.2⟩
  · have h2 : (20 : Int) < l.length := by omega
    clear hc
    go_enter Tryd.func137, Tryd.ntmps137
    go_wp2_with fail
    go_end0
    exact ⟨rfl, ⟨_, _, HH.out.set_bad.1⟩, HH.out.set_bad.2⟩

theorem WalkAt.below {w w' : World} {B b : Nat} {v0 v1 v2 v3 : Value} {A5 : Option Addr} {n n5 : Nat} {s : WalkS} {bs bo : Nat} {tv : Value} {ovs : List Value} (h : WalkAt w B b v0 v1 v2 v3 A5 n n5 s bs bo tv ovs) (hb : Below w.heap.size w w') :
    WalkAt w' B b v0 v1 v2 v3 A5 n n5 s bs bo tv ovs :=
  ⟨h.hb, (hb.block b (Array.getElem?_eq_some_iff.1 h.here).1).trans h.here, h.hbs, (hb.block bs (Array.getElem?_eq_some_iff.1 h.seen).1).trans h.seen, h.hbo, (hb.block bo (Array.getElem?_eq_some_iff.1 h.outs).1).trans h.outs, h.olen,
    fun i v l hv hl => (h.out i v l hv hl).below hb, h.todo.kept (row := none) ⟨hb.os, hb.tape, hb.output, hb.size, fun k hk _ => hb.block k hk⟩ (by rcases h.todo.2 with ⟨e, _⟩ | ⟨g, _, _, e, _⟩ <;> rw [e] <;> simp [Value.ownBlock])⟩

set_option maxHeartbeats 400000 in
set_option maxRecDepth 100000 in
theorem come_seen (B b : Nat) (v0 v1 v2 v3 : Value) (A5 : Option Addr) (n n5 : Nat) (s : WalkS) (bs bo : Nat) (tv : Value) (ovs : List Value) (k : Nat) (A : Option Addr) (cap : Nat) (l m : List CTry) (w : World)
    (h : WalkAt w B b v0 v1 v2 v3 A5 n n5 s bs bo tv ovs) (hn : n ≤ 600) (hk : k < n) (hl : l.length ≤ 20) (ht : SliceTy w B 200 2 TryR (.slice A l.length cap) l) (hs : s.seen[k]? = some true) (ho : s.out[k]? = some m) :
    Calls Tryd.prog 137 #[.pointer (some ⟨b, 0, none⟩), .int .i64 k, .slice A l.length cap] w (ComePost B b v0 v1 v2 v3 A5 n n5 (if m = l then s else { s with bad := true }) bs bo w) := by
  obtain ⟨s', hs'⟩ : ∃ s', (if m = l then s else { s with bad := true }) = s' := ⟨_, rfl⟩
  rw [hs']
  have HS' := Lib.hid hs'
  clear hs'
  obtain ⟨ov, hov⟩ : ∃ ov, ovs[k]? = some ov := ⟨_, List.getElem?_eq_getElem (by rw [h.olen]; exact hk)⟩
  have hm := h.out k ov m hov ho
  obtain ⟨A', cap', rfl, -⟩ := id hm
  have hq := Lib.hid (equal_try_c _ _ m l w hm.slice ht.slice)
  have c1 : w.cell? ⟨b, 5, none⟩ = some (.slice (some ⟨bs, 0, none⟩) n n) := cell_of_row w b 5 _ _ _ h.here
  have c2 : w.cell? ⟨b, 6, none⟩ = some (.slice (some ⟨bo, 0, none⟩) n n) := cell_of_row w b 6 _ _ _ h.here
  have c4 : w.cell? ⟨b, 4, none⟩ = some (.slice A5 n n5) := cell_of_row w b 4 _ _ _ h.here
  have c5 : w.cell? ⟨bs, k, none⟩ = some (.bool true) := by rw [cell_of_row w bs k _ _ _ h.seen]; simp [hs]
  have c6 : w.cell? ⟨bo, k, none⟩ = some (.slice A' m.length cap') := by rw [cell_of_row w bo k _ _ _ h.outs]; simpa using hov
  have hk1 : (k : Int) < n := by omega
  have hl1 : (l.length : Int) ≤ 20 := by omega
  have HH := Lib.hid h
  clear h hs ho hm hov ht
  go_enter Tryd.func137, Tryd.ntmps137
  go_wp2_with fail
  refine hq.out.mono ?_
  rintro e w1 ⟨rfl, k1⟩
  have K1 := Lib.hid k1
  have H1 := Lib.hid (HH.out.below k1)
  have d8 : w1.cell? ⟨b, 8, none⟩ = some (.bool s.bad) := cell_of_row w1 b 8 _ _ _ H1.out.here
  have f8 : w1.frozen? ⟨b, 8, none⟩ = false := frozen_of_row w1 b 8 _ _ H1.out.here
  clear k1 c1 c2 c4 c5 c6
  by_cases hml : m = l
  · have e1 := HS'.out
    rw [if_pos hml] at e1
    subst e1
    have hd : decide (m = l) = true := by simpa using hml
    rw [hd]
    clear hml hd
    go_wp2_with fail
    go_end0
    exact ⟨rfl, ⟨_, _, H1.out⟩, Walked.of_below K1.out⟩
  · have e1 := HS'.out
    rw [if_neg hml] at e1
    subst e1
    have hd : decide (m = l) = false := by simpa using hml
    rw [hd]
    clear hml hd
    go_wp2_with fail
    go_end0
    exact ⟨rfl, ⟨_, _, H1.out.set_bad.1⟩, (Walked.of_below K1.out).trans H1.out.set_bad.2⟩

theorem undrew {a b : World} {row : Option Nat} (h : a.drew.grownBy b row) : a.grownBy b row := ⟨h.os, h.tape, h.output, h.size, h.block⟩
theorem cell_one_new' (w : World) (g : Nat) (v : Value) {t : TypeId} (h : g = w.heap.size) : ∀ j u, [v][j]? = some u → (w.alloc (.cells #[v] t)).drew.cell? ((⟨g, 0, none⟩ : Addr).add j) = some u := by
  intro j u hj
  subst h
  match j, hj with
  | 0, hj =>
    simp at hj; subst hj
    exact one_cell w #[v] t 0
theorem set_list {α : Type} (f : α → Value) (l : List α) (k : Nat) (x : α) : (⟨l.map f⟩ : Array Value).setIfInBounds k (f x) = ⟨(l.set k x).map f⟩ := by
  apply Array.toList_inj.1
  simp [List.map_set]
theorem WalkAt.mark {w : World} {B b : Nat} {v0 v1 v2 v3 : Value} {A5 : Option Addr} {n n5 : Nat} {s : WalkS} {bs bo : Nat} {tv : Value} {ovs : List Value} (h : WalkAt w B b v0 v1 v2 v3 A5 n n5 s bs bo tv ovs) (k : Nat) (v : Value) (l : List CTry) (hv : SliceTy w B 200 2 TryR v l) :
    WalkAt ((w.setCell ⟨bs, k, none⟩ (.bool true)).setCell ⟨bo, k, none⟩ v) B b v0 v1 v2 v3 A5 n n5 { s with seen := s.seen.set k true, out := s.out.set k l } bs bo tv (ovs.set k v) ∧ Walked B w ((w.setCell ⟨bs, k, none⟩ (.bool true)).setCell ⟨bo, k, none⟩ v) := by
  have hne : bs ≠ b := by rintro rfl; have := h.here; rw [h.seen] at this; injection this with this; injection this with _ this _; exact absurd this (by decide)
  have hno : bo ≠ b := by rintro rfl; have := h.here; rw [h.outs] at this; injection this with this; injection this with _ this _; exact absurd this (by decide)
  have hns : bs ≠ bo := by rintro rfl; have := h.outs; rw [h.seen] at this; injection this with this; injection this with _ this _; exact absurd this (by decide)
  have o1 : (w.setCell ⟨bs, k, none⟩ (.bool true)).heap[bo]? = some (.cells ⟨ovs⟩ 197 (0, 0)) := by rw [heap_setCell_other w _ bo _ (Ne.symm hns)]; exact h.outs
  have hk : Walked B w ((w.setCell ⟨bs, k, none⟩ (.bool true)).setCell ⟨bo, k, none⟩ v) := ((Walked.refl B w).set_ h.hbs h.seen (by decide) _ _).set_ h.hbo o1 (by decide) _ _
  refine ⟨⟨h.hb, ?_, h.hbs, ?_, h.hbo, ?_, by simp [h.olen], fun i u m hu hm => ?_, own_far (own_far h.todo h.seen (by decide) _ _) o1 (by decide) _ _⟩, hk⟩
  · rw [heap_setCell_other _ _ b _ (Ne.symm hno), heap_setCell_other _ _ b _ (Ne.symm hne)]; exact h.here
  · rw [heap_setCell_other _ _ bs _ hns, heap_setCell_same w bs k _ _ _ h.seen, set_list]
  · rw [heap_setCell_same _ bo k _ _ _ o1]
    congr 2
    apply Array.toList_inj.1
    simp
  · by_cases hik : k = i
    · subst hik
      have h1 : k < ovs.length := by have := (List.getElem?_eq_some_iff.1 hu).1; simpa using this
      have h2 : k < s.out.length := by have := (List.getElem?_eq_some_iff.1 hm).1; simpa using this
      simp only [List.getElem?_set_self h1, List.getElem?_set_self h2, Option.some.injEq] at hu hm
      subst hu; subst hm
      exact hk.tries hv
    · simp only [List.getElem?_set_ne hik] at hu hm
      exact hk.tries (h.out i u m hu hm)
theorem WalkAt.push {w w' : World} {B b : Nat} {v0 v1 v2 v3 : Value} {A5 : Option Addr} {n n5 : Nat} {s : WalkS} {bs bo : Nat} {tv v' : Value} {ovs : List Value} (h : WalkAt w B b v0 v1 v2 v3 A5 n n5 s bs bo tv ovs) (k : Int)
    (hown : w'.ownsRow B 3 1 v' (s.todo.length + 1) (s.todo.map (.int .i64) ++ [.int .i64 k])) (hg : w.grownBy w' tv.ownBlock) :
    WalkAt (w'.setCell ⟨b, 7, none⟩ v') B b v0 v1 v2 v3 A5 n n5 { s with todo := s.todo ++ [k] } bs bo v' ovs ∧ Walked B w (w'.setCell ⟨b, 7, none⟩ v') := by
  have far : ∀ (g : Nat) (cs : Array Value) (t : TypeId) (fr : Nat × Nat), w.heap[g]? = some (.cells cs t fr) → t ≠ 3 → w'.heap[g]? = some (.cells cs t fr) := fun g cs t fr hg' ht => (hg.block g (Array.getElem?_eq_some_iff.1 hg').1 (fun e => by
    obtain ⟨_, cs', fr', h2⟩ := own_row h.todo g e.symm
    rw [hg'] at h2; injection h2 with h2; injection h2 with _ h2 _; exact ht h2)).trans hg'
  have e1 := far _ _ _ _ h.here (by decide)
  have hne : bs ≠ b := by rintro rfl; have := h.here; rw [h.seen] at this; injection this with this; injection this with _ this _; exact absurd this (by decide)
  have hno : bo ≠ b := by rintro rfl; have := h.here; rw [h.outs] at this; injection this with this; injection this with _ this _; exact absurd this (by decide)
  have hk0 : Walked B w w' := (Walked.refl B w).grown hg (t := 3) (by decide) (own_row h.todo)
  have hk : Walked B w (w'.setCell ⟨b, 7, none⟩ v') := hk0.set_ h.hb e1 (by decide) _ _
  refine ⟨⟨h.hb, ?_, h.hbs, ?_, h.hbo, ?_, h.olen, fun i u m hu hm => hk.tries (h.out i u m hu hm), ?_⟩, hk⟩
  · rw [heap_setCell_same w' b 7 _ _ _ e1]; rfl
  · rw [heap_setCell_other w' _ bs _ hne]; exact far _ _ _ _ h.seen (by decide)
  · rw [heap_setCell_other w' _ bo _ hno]; exact far _ _ _ _ h.outs (by decide)
  · have := own_far hown e1 (by decide) 7 v'
    simpa using this

set_option maxHeartbeats 4000000 in
set_option maxRecDepth 100000 in
theorem come_new (B b : Nat) (v0 v1 v2 v3 : Value) (A5 : Option Addr) (n n5 : Nat) (s : WalkS) (bs bo : Nat) (tv : Value) (ovs : List Value) (k : Nat) (A : Option Addr) (cap : Nat) (l : List CTry) (w : World)
    (h : WalkAt w B b v0 v1 v2 v3 A5 n n5 s bs bo tv ovs) (hn : n ≤ 600) (hk : k < n) (hl : l.length ≤ 20) (ht : SliceTy w B 200 2 TryR (.slice A l.length cap) l) (hs : s.seen[k]? = some false) (hm : s.todo.length ≤ 600) (hB : B ≤ w.heap.size) :
    Calls Tryd.prog 137 #[.pointer (some ⟨b, 0, none⟩), .int .i64 k, .slice A l.length cap] w (ComePost B b v0 v1 v2 v3 A5 n n5 { s with seen := s.seen.set k true, out := s.out.set k l, todo := s.todo ++ [(k : Int)] } bs bo w) := by
  obtain ⟨ov, hov⟩ : ∃ ov, ovs[k]? = some ov := ⟨_, List.getElem?_eq_getElem (by rw [h.olen]; exact hk)⟩
  have c1 : w.cell? ⟨b, 5, none⟩ = some (.slice (some ⟨bs, 0, none⟩) n n) := cell_of_row w b 5 _ _ _ h.here
  have c2 : w.cell? ⟨b, 6, none⟩ = some (.slice (some ⟨bo, 0, none⟩) n n) := cell_of_row w b 6 _ _ _ h.here
  have c4 : w.cell? ⟨b, 4, none⟩ = some (.slice A5 n n5) := cell_of_row w b 4 _ _ _ h.here
  have c7 : w.cell? ⟨b, 7, none⟩ = some tv := cell_of_row w b 7 _ _ _ h.here
  have c5 : w.cell? ⟨bs, k, none⟩ = some (.bool false) := by rw [cell_of_row w bs k _ _ _ h.seen]; simp [hs]
  have c6 : w.cell? ⟨bo, k, none⟩ = some ov := by rw [cell_of_row w bo k _ _ _ h.outs]; simpa using hov
  have f5 : w.frozen? ⟨bs, k, none⟩ = false := frozen_of_row w bs k _ _ h.seen
  have f6 : w.frozen? ⟨bo, k, none⟩ = false := frozen_of_row w bo k _ _ h.outs
  have hne : bs ≠ b := by rintro rfl; have := h.here; rw [h.seen] at this; injection this with this; injection this with _ this _; exact absurd this (by decide)
  have hno : bo ≠ b := by rintro rfl; have := h.here; rw [h.outs] at this; injection this with this; injection this with _ this _; exact absurd this (by decide)
  have hns : bs ≠ bo := by rintro rfl; have := h.outs; rw [h.seen] at this; injection this with this; injection this with _ this _; exact absurd this (by decide)
  obtain ⟨i0, hi, hz0, hz1, hz2⟩ := info_parts infoInt
  have hk1 : (k : Int) < n := by omega
  have hl1 : (l.length : Int) ≤ 20 := by omega
  have HH := Lib.hid h
  have HT := Lib.hid ht
  have HOV := Lib.hid hov
  have HM := Lib.hid (h.mark k (.slice A l.length cap) l ht)
  have KX : Hid (∀ w3, (((w.setCell ⟨bs, k, none⟩ (.bool true)).setCell ⟨bo, k, none⟩ (.slice A l.length cap)).alloc (.cells #[.int .i64 k] 3)).grownBy w3 tv.ownBlock → w3.heap[b]? = some (.cells #[v0, v1, v2, v3, .slice A5 n n5, .slice (some ⟨bs, 0, none⟩) n n, .slice (some ⟨bo, 0, none⟩) n n, tv, .bool s.bad] 189 (0, 0))) := fun w3 hg => by
    have hw := HM.out.1.below (below_one _ (.cells #[.int .i64 k] 3))
    refine (hg.block b (Array.getElem?_eq_some_iff.1 hw.here).1 (fun e => ?_)).trans hw.here
    obtain ⟨_, cs', fr', h2⟩ := own_row hw.todo b e.symm
    rw [hw.here] at h2; injection h2 with h2; injection h2 with _ h2 _; exact absurd h2 (by decide)
  have KE : Hid (∀ w3, (((w.setCell ⟨bs, k, none⟩ (.bool true)).setCell ⟨bo, k, none⟩ (.slice A l.length cap)).alloc (.cells #[.int .i64 k] 3)).grownBy w3 tv.ownBlock → ∀ i v, (#[v0, v1, v2, v3, .slice A5 n n5, .slice (some ⟨bs, 0, none⟩) n n, .slice (some ⟨bo, 0, none⟩) n n, tv, .bool s.bad] : Array Value)[i]? = some v → w3.cell? ⟨b, i, none⟩ = some v) := fun w3 hg i v hv => (cell_of_row w3 b i _ _ _ (KX.out w3 hg)).trans hv
  have KF : Hid (∀ w3, (((w.setCell ⟨bs, k, none⟩ (.bool true)).setCell ⟨bo, k, none⟩ (.slice A l.length cap)).alloc (.cells #[.int .i64 k] 3)).grownBy w3 tv.ownBlock → w3.frozen? ⟨b, 7, none⟩ = false) := fun w3 hg => frozen_of_row w3 b 7 _ _ (KX.out w3 hg)
  clear h hs hov ht
  go_enter Tryd.func137, Tryd.ntmps137
  go_wp2_with fail
  go_region
  go_wp2_with (at_builtin; go_loud (refine wpList_append_own _ rfl _ _ 38 rfl B 3 i0 (.int .i64 0) 1 8 Tryd.underlying38 hi hz0 hz1 hz2 rfl (by decide) tv s.todo.length (s.todo.map (.int .i64)) rfl ?own ⟨w.heap.size, 0, none⟩ 1 1 [.int .i64 k] rfl rfl ?c1 ?c2 ?c3 ?c4 ?c5 ?_))
  case own => exact (HM.out.1.below (below_one _ _)).todo
  case c1 => exact cell_one_new' _ _ _ (by simp [World.setCell])
  case c2 => intro u hu; simp at hu; subst hu; rfl
  case c3 => unfold maxLen; omega
  case c4 => omega
  case c5 => simp [World.setCell]; omega
  intro v' w3 hown hg _
  have hg := undrew hg
  have KG := Lib.hid hg
  have KP := Lib.hid ((HM.out.1.below (below_one _ (.cells #[.int .i64 k] 3))).push (w' := w3) (v' := v') k hown hg)
  clear hown hg
  have e7 : w3.cell? ⟨b, 7, none⟩ = some tv := KE.out w3 KG.out 7 _ rfl
  have fz : w3.frozen? ⟨b, 7, none⟩ = false := KF.out w3 KG.out
  obtain ⟨A', n', c', rfl⟩ : ∃ A' n' c', v' = .slice A' n' c' := by
    rcases KP.out.1.todo.2 with ⟨e, _⟩ | ⟨g, cp, _, e, _⟩ <;> exact ⟨_, _, _, e⟩
  go_wp2_with fail
  go_end0
  exact ⟨rfl, ⟨_, _, KP.out.1⟩, (HM.out.2.alloc _).trans KP.out.2⟩

theorem come_c (B b : Nat) (v0 v1 v2 v3 : Value) (A5 : Option Addr) (n n5 : Nat) (s : WalkS) (bs bo : Nat) (tv : Value) (ovs : List Value) (at_ : Int) (v : Value) (l : List CTry) (w : World)
    (h : WalkAt w B b v0 v1 v2 v3 A5 n n5 s bs bo tv ovs) (hok : WOk n s) (hn : n ≤ 600) (h0 : 0 ≤ at_) (ht : SliceTy w B 200 2 TryR v l) (hB : B ≤ w.heap.size) :
    Calls Tryd.prog 137 #[.pointer (some ⟨b, 0, none⟩), .int .i64 at_, v] w (ComePost B b v0 v1 v2 v3 A5 n n5 (comeM s at_ l) bs bo w) := by
  obtain ⟨A, cap, rfl, -⟩ := id ht
  unfold comeM
  by_cases hc : (s.seen.length : Int) ≤ at_ ∨ 20 < l.length
  · rw [if_pos hc]
    rw [hok.seen] at hc
    exact come_bad B b v0 v1 v2 v3 A5 n n5 s bs bo tv ovs at_ A cap l w h hn h0 hc
  · rw [if_neg hc]
    rw [hok.seen] at hc
    obtain ⟨k, rfl⟩ : ∃ k : Nat, at_ = k := ⟨at_.toNat, by omega⟩
    have hk : k < n := by omega
    have hl : l.length ≤ 20 := by omega
    rw [Int.toNat_natCast]
    by_cases hs : s.seen[k]? = some false
    · rw [if_pos hs]
      exact come_new B b v0 v1 v2 v3 A5 n n5 s bs bo tv ovs k A cap l w h hn hk hl ht hs (by have := hok.small; unfold meas at this; omega) hB
    · rw [if_neg hs]
      have hs' : s.seen[k]? = some true := by
        have : s.seen[k]? = some (s.seen[k]'(by rw [hok.seen]; exact hk)) := List.getElem?_eq_getElem _
        rw [this] at hs ⊢
        cases hq : s.seen[k]'(by rw [hok.seen]; exact hk)
        · rw [hq] at hs; exact absurd rfl hs
        · rfl
      obtain ⟨m, ho⟩ : ∃ m, s.out[k]? = some m := ⟨_, List.getElem?_eq_getElem (by rw [hok.out]; exact hk)⟩
      have := come_seen B b v0 v1 v2 v3 A5 n n5 s bs bo tv ovs k A cap l m w h hn hk hl ht hs' ho
      rw [ho]
      simpa only [Option.some.injEq] using this
end Go.Proofs.YtmccomeihnaanaaDoor
