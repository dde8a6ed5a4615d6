/- code.walk in memory. code.walk.from. Printed by wip/gen_from.py. code.walk.from. Printed by wip/gen_from.py. -/
import Derived.Test.YtlnkjmgfkpeicaaGreatDoorCodeK
import Derived.Test.YtlnkjmgfkpeicaaGreatDoorCodeN
import Derived.BigRegion
import Derived.Deep.AppendLies
import Derived.Deep.RegionHeld3
import Derived.Deep.RegionLaw
set_option linter.all false
namespace Go.Proofs.YtlnkjmgfkpeicaaGreatDoor
open Go.RowKit

/-- the element types of the blocks that the walk's methods may write -/
def Unsafe (t : TypeId) : Bool := t == 138 || t == 4 || t == 161 || t == 3
/-- what the walk's methods may turn: blocks from B on, of those types -/
structure Walked (B : Nat) (w w' : World) : Prop where
  os : w'.os = w.os
  tape : w'.tape = w.tape
  output : w'.output = w.output
  size : w.heap.size ≤ w'.heap.size
  block : ∀ k, k < w.heap.size → (k < B ∨ ∃ cs t fr, w.heap[k]? = some (.cells cs t fr) ∧ Unsafe t = false) → w'.heap[k]? = w.heap[k]?
section
variable {B : Nat} {w w1 w2 : World}
theorem Walked.refl (B : Nat) (w : World) : Walked B w w := ⟨rfl, rfl, rfl, Nat.le_refl _, fun _ _ _ => rfl⟩
theorem Walked.trans (h : Walked B w w1) (k : Walked B w1 w2) : Walked B w w2 :=
  ⟨k.os.trans h.os, k.tape.trans h.tape, k.output.trans h.output, Nat.le_trans h.size k.size, fun i hi hc => (k.block i (Nat.lt_of_lt_of_le hi h.size) (by
    rcases hc with hc | ⟨cs, t, fr, hc, hu⟩
    · exact .inl hc
    · exact .inr ⟨cs, t, fr, (h.block i hi (.inr ⟨cs, t, fr, hc, hu⟩)).trans hc, hu⟩)).trans (h.block i hi hc)⟩
theorem Walked.below_ (h : Walked B w w1) (k : Below w1.heap.size w1 w2) : Walked B w w2 := h.trans ⟨k.os, k.tape, k.output, k.size, fun i hi _ => k.block i hi⟩
theorem Walked.of_below (k : Below w.heap.size w w1) : Walked B w w1 := (Walked.refl B w).below_ k
theorem Walked.alloc (h : Walked B w w1) (o : Obj) : Walked B w (w1.alloc o) := h.below_ (below_one w1 o)
theorem Walked.drew (h : Walked B w w1) : Walked B w w1.drew := ⟨h.os, h.tape, h.output, h.size, h.block⟩
theorem Walked.set_ (h : Walked B w w1) {g : Nat} {cs : Array Value} {t : TypeId} {fr : Nat × Nat} (hB : B ≤ g) (hg : w1.heap[g]? = some (.cells cs t fr)) (ht : Unsafe t = true) (i : Nat) (u : Value) : Walked B w (w1.setCell ⟨g, i, none⟩ u) :=
  h.trans ⟨rfl, rfl, rfl, by simp [World.setCell], fun k hk hc => Below.heap_setCell _ _ _ _ (by
    show k ≠ g
    rintro rfl
    rcases hc with hc | ⟨cs', t', fr', hc, hu⟩
    · omega
    · rw [hg] at hc; injection hc with hc; injection hc with _ hc _; rw [← hc, ht] at hu; cases hu)⟩
theorem Walked.grown (h : Walked B w w1) {row : Option Nat} (hg : w1.grownBy w2 row) {t : TypeId} (ht : Unsafe t = true) (hr : ∀ k, row = some k → B ≤ k ∧ ∃ cs fr, w1.heap[k]? = some (.cells cs t fr)) : Walked B w w2 :=
  h.trans ⟨hg.os, hg.tape, hg.output, hg.size, fun k hk hc => hg.block k hk (fun e => by
    obtain ⟨h1, cs, fr, h2⟩ := hr k e.symm
    rcases hc with hc | ⟨cs', t', fr', hc, hu⟩
    · omega
    · rw [h2] at hc; injection hc with hc; injection hc with _ hc _; rw [← hc, ht] at hu; cases hu)⟩
theorem Walked.under (h : Walked B w w1) (hB : B ≤ w.heap.size) : Below B w w1 := ⟨h.os, h.tape, h.output, h.size, fun k hk => h.block k (by omega) (.inl hk)⟩
theorem Walked.tries {α : Type} (h : Walked B w w1) {C size : Nat} {R : List Value → α → Prop} {v : Value} {xs : List α} (hs : SliceTy w C 164 size R v xs) : SliceTy w1 C 164 size R v xs :=
  hs.keep (fun k cs fr _ hk => h.block k (Array.getElem?_eq_some_iff.1 hk).1 (.inr ⟨cs, _, fr, hk, by decide⟩)) (fun _ _ h => h)
theorem Walked.row (h : Walked B w w1) {g : Nat} {cs : Array Value} {t : TypeId} {fr : Nat × Nat} (hg : w.heap[g]? = some (.cells cs t fr)) (ht : Unsafe t = false) : w1.heap[g]? = some (.cells cs t fr) :=
  (h.block g (Array.getElem?_eq_some_iff.1 hg).1 (.inr ⟨cs, t, fr, hg, ht⟩)).trans hg
end
theorem own_row {w : World} {B : Nat} {e : TypeId} {size : Nat} {v : Value} {n : Nat} {xs : List Value} (hown : w.ownsRow B e size v n xs) : ∀ k, v.ownBlock = some k → B ≤ k ∧ ∃ cs fr, w.heap[k]? = some (.cells cs e fr) := by
  intro k hk
  rcases hown.2 with ⟨rfl, _⟩ | ⟨g, cap, cur, rfl, hg, hh, _⟩
  · simp [Value.ownBlock] at hk
  · simp only [Value.ownBlock, Option.some.injEq] at hk
    subst hk
    exact ⟨hg, _, _, hh⟩
/-- an owned row stays so while a block of another type is written -/
theorem own_far {w : World} {B : Nat} {e t : TypeId} {size : Nat} {v : Value} {n : Nat} {xs : List Value} (h : w.ownsRow B e size v n xs) {g : Nat} {cs : Array Value} {fr : Nat × Nat} (hg : w.heap[g]? = some (.cells cs t fr)) (ht : t ≠ e) (i : Nat) (u : Value) :
    (w.setCell ⟨g, i, none⟩ u).ownsRow B e size v n xs := by
  refine h.kept (row := some g) ⟨rfl, rfl, rfl, by simp [World.setCell], fun k _ hk => Below.heap_setCell _ _ _ _ (fun e => hk (by rw [e]))⟩ (.inr (fun hv => ?_))
  obtain ⟨_, cs', fr', h2⟩ := own_row h g hv
  rw [hg] at h2; injection h2 with h2; injection h2 with _ h2 _; exact ht h2

/-- THE WALK IN BLOCK b. -/
structure WalkAt (w : World) (B b : Nat) (v0 v1 v2 v3 : Value) (A5 : Option Addr) (n n5 : Nat) (s : WalkS) (bs bo : Nat) (tv : Value) (ovs : List Value) : Prop where
  hb : B ≤ b
  here : w.heap[b]? = some (.cells #[v0, v1, v2, v3, .slice A5 n n5, .slice (some ⟨bs, 0, none⟩) n n, .slice (some ⟨bo, 0, none⟩) n n, tv, .bool s.bad] 138 (0, 0))
  hbs : B ≤ bs
  seen : w.heap[bs]? = some (.cells ⟨s.seen.map .bool⟩ 4 (0, 0))
  hbo : B ≤ bo
  outs : w.heap[bo]? = some (.cells ⟨ovs⟩ 161 (0, 0))
  olen : ovs.length = n
  out : ∀ (i : Nat) v l, ovs[i]? = some v → s.out[i]? = some l → SliceTy w B 164 2 TryR v l
  todo : w.ownsRow B 3 1 tv s.todo.length (s.todo.map (.int .i64))
theorem WalkAt.set_bad {w : World} {B b : Nat} {v0 v1 v2 v3 : Value} {A5 : Option Addr} {n n5 : Nat} {s : WalkS} {bs bo : Nat} {tv : Value} {ovs : List Value} (h : WalkAt w B b v0 v1 v2 v3 A5 n n5 s bs bo tv ovs) :
    WalkAt (w.setCell ⟨b, 8, none⟩ (.bool true)) B b v0 v1 v2 v3 A5 n n5 { s with bad := true } bs bo tv ovs ∧ Walked B w (w.setCell ⟨b, 8, none⟩ (.bool true)) := by
  have hk : Walked B w (w.setCell ⟨b, 8, none⟩ (.bool true)) := (Walked.refl B w).set_ h.hb h.here (by decide) _ _
  have hne : bs ≠ b := by rintro rfl; have := h.here; rw [h.seen] at this; injection this with this; injection this with _ this _; exact absurd this (by decide)
  have hno : bo ≠ b := by rintro rfl; have := h.here; rw [h.outs] at this; injection this with this; injection this with _ this _; exact absurd this (by decide)
  refine ⟨⟨h.hb, ?_, h.hbs, ?_, h.hbo, ?_, h.olen, fun i v l hv hl => hk.tries (h.out i v l hv hl), own_far h.todo h.here (by decide) _ _⟩, hk⟩
  · rw [heap_setCell_same w b 8 _ _ _ h.here]; rfl
  · rw [heap_setCell_other w _ bs _ hne]; exact h.seen
  · rw [heap_setCell_other w _ bo _ hno]; exact h.outs

def ComePost (B b : Nat) (v0 v1 v2 v3 : Value) (A5 : Option Addr) (n n5 : Nat) (s' : WalkS) (bs bo : Nat) (w : World) (e : Ending) (w' : World) : Prop := e = .returned (.tuple #[]) ∧ (∃ tv ovs, WalkAt w' B b v0 v1 v2 v3 A5 n n5 s' bs bo tv ovs) ∧ Walked B w w'
set_option maxHeartbeats 2000000 in
set_option maxRecDepth 100000 in
theorem come_bad (B b : Nat) (v0 v1 v2 v3 : Value) (A5 : Option Addr) (n n5 : Nat) (s : WalkS) (bs bo : Nat) (tv : Value) (ovs : List Value) (at_ : Int) (A : Option Addr) (cap : Nat) (l : List CTry) (w : World)
    (h : WalkAt w B b v0 v1 v2 v3 A5 n n5 s bs bo tv ovs) (hn : n ≤ 600) (h0 : 0 ≤ at_) (hc : (n : Int) ≤ at_ ∨ 20 < l.length) :
    Calls Tryz.prog 72 #[.pointer (some ⟨b, 0, none⟩), .int .i64 at_, .slice A l.length cap] w (ComePost B b v0 v1 v2 v3 A5 n n5 { s with bad := true } bs bo w) := by
  have c4 : w.cell? ⟨b, 4, none⟩ = some (.slice A5 n n5) := cell_of_row w b 4 _ _ _ h.here
  have c8 : w.cell? ⟨b, 8, none⟩ = some (.bool s.bad) := cell_of_row w b 8 _ _ _ h.here
  have f8 : w.frozen? ⟨b, 8, none⟩ = false := frozen_of_row w b 8 _ _ h.here
  have HH := Lib.hid h
  clear h
  by_cases h1 : (n : Int) ≤ at_
  · clear hc
    go_enter Tryz.func72, Tryz.ntmps72
    go_wp2_with fail
    go_end0
    exact ⟨rfl, ⟨_, _, HH.out.set_bad.1⟩, HH.out.set_bad.2⟩
  · have h2 : (20 : Int) < l.length := by omega
    clear hc
    go_enter Tryz.func72, Tryz.ntmps72
    go_wp2_with fail
    go_end0
    exact ⟨rfl, ⟨_, _, HH.out.set_bad.1⟩, HH.out.set_bad.2⟩

theorem WalkAt.below {w w' : World} {B b : Nat} {v0 v1 v2 v3 : Value} {A5 : Option Addr} {n n5 : Nat} {s : WalkS} {bs bo : Nat} {tv : Value} {ovs : List Value} (h : WalkAt w B b v0 v1 v2 v3 A5 n n5 s bs bo tv ovs) (hb : Below w.heap.size w w') :
    WalkAt w' B b v0 v1 v2 v3 A5 n n5 s bs bo tv ovs :=
  ⟨h.hb, (hb.block b (Array.getElem?_eq_some_iff.1 h.here).1).trans h.here, h.hbs, (hb.block bs (Array.getElem?_eq_some_iff.1 h.seen).1).trans h.seen, h.hbo, (hb.block bo (Array.getElem?_eq_some_iff.1 h.outs).1).trans h.outs, h.olen,
    fun i v l hv hl => (h.out i v l hv hl).below hb, h.todo.kept (row := none) ⟨hb.os, hb.tape, hb.output, hb.size, fun k hk _ => hb.block k hk⟩ (by rcases h.todo.2 with ⟨e, _⟩ | ⟨g, _, _, e, _⟩ <;> rw [e] <;> simp [Value.ownBlock])⟩

set_option maxHeartbeats 400000 in
set_option maxRecDepth 100000 in
theorem come_seen (B b : Nat) (v0 v1 v2 v3 : Value) (A5 : Option Addr) (n n5 : Nat) (s : WalkS) (bs bo : Nat) (tv : Value) (ovs : List Value) (k : Nat) (A : Option Addr) (cap : Nat) (l m : List CTry) (w : World)
    (h : WalkAt w B b v0 v1 v2 v3 A5 n n5 s bs bo tv ovs) (hn : n ≤ 600) (hk : k < n) (hl : l.length ≤ 20) (ht : SliceTy w B 164 2 TryR (.slice A l.length cap) l) (hs : s.seen[k]? = some true) (ho : s.out[k]? = some m) :
    Calls Tryz.prog 72 #[.pointer (some ⟨b, 0, none⟩), .int .i64 k, .slice A l.length cap] w (ComePost B b v0 v1 v2 v3 A5 n n5 (if m = l then s else { s with bad := true }) bs bo w) := by
  obtain ⟨s', hs'⟩ : ∃ s', (if m = l then s else { s with bad := true }) = s' := ⟨_, rfl⟩
  rw [hs']
  have HS' := Lib.hid hs'
  clear hs'
  obtain ⟨ov, hov⟩ : ∃ ov, ovs[k]? = some ov := ⟨_, List.getElem?_eq_getElem (by rw [h.olen]; exact hk)⟩
  have hm := h.out k ov m hov ho
  obtain ⟨A', cap', rfl, -⟩ := id hm
  have hq := Lib.hid (equal_try_c _ _ m l w hm.slice ht.slice)
  have c1 : w.cell? ⟨b, 5, none⟩ = some (.slice (some ⟨bs, 0, none⟩) n n) := cell_of_row w b 5 _ _ _ h.here
  have c2 : w.cell? ⟨b, 6, none⟩ = some (.slice (some ⟨bo, 0, none⟩) n n) := cell_of_row w b 6 _ _ _ h.here
  have c4 : w.cell? ⟨b, 4, none⟩ = some (.slice A5 n n5) := cell_of_row w b 4 _ _ _ h.here
  have c5 : w.cell? ⟨bs, k, none⟩ = some (.bool true) := by rw [cell_of_row w bs k _ _ _ h.seen]; simp [hs]
  have c6 : w.cell? ⟨bo, k, none⟩ = some (.slice A' m.length cap') := by rw [cell_of_row w bo k _ _ _ h.outs]; simpa using hov
  have hk1 : (k : Int) < n := by omega
  have hl1 : (l.length : Int) ≤ 20 := by omega
  have HH := Lib.hid h
  clear h hs ho hm hov ht
  go_enter Tryz.func72, Tryz.ntmps72
  go_wp2_with fail
  refine hq.out.mono ?_
  rintro e w1 ⟨rfl, k1⟩
  have K1 := Lib.hid k1
  have H1 := Lib.hid (HH.out.below k1)
  have d8 : w1.cell? ⟨b, 8, none⟩ = some (.bool s.bad) := cell_of_row w1 b 8 _ _ _ H1.out.here
  have f8 : w1.frozen? ⟨b, 8, none⟩ = false := frozen_of_row w1 b 8 _ _ H1.out.here
  clear k1 c1 c2 c4 c5 c6
  by_cases hml : m = l
  · have e1 := HS'.out
    rw [if_pos hml] at e1
    subst e1
    have hd : decide (m = l) = true := by simpa using hml
    rw [hd]
    clear hml hd
    go_wp2_with fail
    go_end0
    exact ⟨rfl, ⟨_, _, H1.out⟩, Walked.of_below K1.out⟩
  · have e1 := HS'.out
    rw [if_neg hml] at e1
    subst e1
    have hd : decide (m = l) = false := by simpa using hml
    rw [hd]
    clear hml hd
    go_wp2_with fail
    go_end0
    exact ⟨rfl, ⟨_, _, H1.out.set_bad.1⟩, (Walked.of_below K1.out).trans H1.out.set_bad.2⟩

theorem undrew {a b : World} {row : Option Nat} (h : a.drew.grownBy b row) : a.grownBy b row := ⟨h.os, h.tape, h.output, h.size, h.block⟩
theorem cell_one_new' (w : World) (g : Nat) (v : Value) {t : TypeId} (h : g = w.heap.size) : ∀ j u, [v][j]? = some u → (w.alloc (.cells #[v] t)).drew.cell? ((⟨g, 0, none⟩ : Addr).add j) = some u := by
  intro j u hj
  subst h
  match j, hj with
  | 0, hj =>
    simp at hj; subst hj
    exact one_cell w #[v] t 0
theorem set_list {α : Type} (f : α → Value) (l : List α) (k : Nat) (x : α) : (⟨l.map f⟩ : Array Value).setIfInBounds k (f x) = ⟨(l.set k x).map f⟩ := by
  apply Array.toList_inj.1
  simp [List.map_set]
theorem WalkAt.mark {w : World} {B b : Nat} {v0 v1 v2 v3 : Value} {A5 : Option Addr} {n n5 : Nat} {s : WalkS} {bs bo : Nat} {tv : Value} {ovs : List Value} (h : WalkAt w B b v0 v1 v2 v3 A5 n n5 s bs bo tv ovs) (k : Nat) (v : Value) (l : List CTry) (hv : SliceTy w B 164 2 TryR v l) :
    WalkAt ((w.setCell ⟨bs, k, none⟩ (.bool true)).setCell ⟨bo, k, none⟩ v) B b v0 v1 v2 v3 A5 n n5 { s with seen := s.seen.set k true, out := s.out.set k l } bs bo tv (ovs.set k v) ∧ Walked B w ((w.setCell ⟨bs, k, none⟩ (.bool true)).setCell ⟨bo, k, none⟩ v) := by
  have hne : bs ≠ b := by rintro rfl; have := h.here; rw [h.seen] at this; injection this with this; injection this with _ this _; exact absurd this (by decide)
  have hno : bo ≠ b := by rintro rfl; have := h.here; rw [h.outs] at this; injection this with this; injection this with _ this _; exact absurd this (by decide)
  have hns : bs ≠ bo := by rintro rfl; have := h.outs; rw [h.seen] at this; injection this with this; injection this with _ this _; exact absurd this (by decide)
  have o1 : (w.setCell ⟨bs, k, none⟩ (.bool true)).heap[bo]? = some (.cells ⟨ovs⟩ 161 (0, 0)) := by rw [heap_setCell_other w _ bo _ (Ne.symm hns)]; exact h.outs
  have hk : Walked B w ((w.setCell ⟨bs, k, none⟩ (.bool true)).setCell ⟨bo, k, none⟩ v) := ((Walked.refl B w).set_ h.hbs h.seen (by decide) _ _).set_ h.hbo o1 (by decide) _ _
  refine ⟨⟨h.hb, ?_, h.hbs, ?_, h.hbo, ?_, by simp [h.olen], fun i u m hu hm => ?_, own_far (own_far h.todo h.seen (by decide) _ _) o1 (by decide) _ _⟩, hk⟩
  · rw [heap_setCell_other _ _ b _ (Ne.symm hno), heap_setCell_other _ _ b _ (Ne.symm hne)]; exact h.here
  · rw [heap_setCell_other _ _ bs _ hns, heap_setCell_same w bs k _ _ _ h.seen, set_list]
  · rw [heap_setCell_same _ bo k _ _ _ o1]
    congr 2
    apply Array.toList_inj.1
    simp
  · by_cases hik : k = i
    · subst hik
      have h1 : k < ovs.length := by have := (List.getElem?_eq_some_iff.1 hu).1; simpa using this
      have h2 : k < s.out.length := by have := (List.getElem?_eq_some_iff.1 hm).1; simpa using this
      simp only [List.getElem?_set_self h1, List.getElem?_set_self h2, Option.some.injEq] at hu hm
      subst hu; subst hm
      exact hk.tries hv
    · simp only [List.getElem?_set_ne hik] at hu hm
      exact hk.tries (h.out i u m hu hm)
theorem WalkAt.push {w w' : World} {B b : Nat} {v0 v1 v2 v3 : Value} {A5 : Option Addr} {n n5 : Nat} {s : WalkS} {bs bo : Nat} {tv v' : Value} {ovs : List Value} (h : WalkAt w B b v0 v1 v2 v3 A5 n n5 s bs bo tv ovs) (k : Int)
    (hown : w'.ownsRow B 3 1 v' (s.todo.length + 1) (s.todo.map (.int .i64) ++ [.int .i64 k])) (hg : w.grownBy w' tv.ownBlock) :
    WalkAt (w'.setCell ⟨b, 7, none⟩ v') B b v0 v1 v2 v3 A5 n n5 { s with todo := s.todo ++ [k] } bs bo v' ovs ∧ Walked B w (w'.setCell ⟨b, 7, none⟩ v') := by
  have far : ∀ (g : Nat) (cs : Array Value) (t : TypeId) (fr : Nat × Nat), w.heap[g]? = some (.cells cs t fr) → t ≠ 3 → w'.heap[g]? = some (.cells cs t fr) := fun g cs t fr hg' ht => (hg.block g (Array.getElem?_eq_some_iff.1 hg').1 (fun e => by
    obtain ⟨_, cs', fr', h2⟩ := own_row h.todo g e.symm
    rw [hg'] at h2; injection h2 with h2; injection h2 with _ h2 _; exact ht h2)).trans hg'
  have e1 := far _ _ _ _ h.here (by decide)
  have hne : bs ≠ b := by rintro rfl; have := h.here; rw [h.seen] at this; injection this with this; injection this with _ this _; exact absurd this (by decide)
  have hno : bo ≠ b := by rintro rfl; have := h.here; rw [h.outs] at this; injection this with this; injection this with _ this _; exact absurd this (by decide)
  have hk0 : Walked B w w' := (Walked.refl B w).grown hg (t := 3) (by decide) (own_row h.todo)
  have hk : Walked B w (w'.setCell ⟨b, 7, none⟩ v') := hk0.set_ h.hb e1 (by decide) _ _
  refine ⟨⟨h.hb, ?_, h.hbs, ?_, h.hbo, ?_, h.olen, fun i u m hu hm => hk.tries (h.out i u m hu hm), ?_⟩, hk⟩
  · rw [heap_setCell_same w' b 7 _ _ _ e1]; rfl
  · rw [heap_setCell_other w' _ bs _ hne]; exact far _ _ _ _ h.seen (by decide)
  · rw [heap_setCell_other w' _ bo _ hno]; exact far _ _ _ _ h.outs (by decide)
  · have := own_far hown e1 (by decide) 7 v'
    simpa using this

set_option maxHeartbeats 4000000 in
set_option maxRecDepth 100000 in
theorem come_new (B b : Nat) (v0 v1 v2 v3 : Value) (A5 : Option Addr) (n n5 : Nat) (s : WalkS) (bs bo : Nat) (tv : Value) (ovs : List Value) (k : Nat) (A : Option Addr) (cap : Nat) (l : List CTry) (w : World)
    (h : WalkAt w B b v0 v1 v2 v3 A5 n n5 s bs bo tv ovs) (hn : n ≤ 600) (hk : k < n) (hl : l.length ≤ 20) (ht : SliceTy w B 164 2 TryR (.slice A l.length cap) l) (hs : s.seen[k]? = some false) (hm : s.todo.length ≤ 600) (hB : B ≤ w.heap.size) :
    Calls Tryz.prog 72 #[.pointer (some ⟨b, 0, none⟩), .int .i64 k, .slice A l.length cap] w (ComePost B b v0 v1 v2 v3 A5 n n5 { s with seen := s.seen.set k true, out := s.out.set k l, todo := s.todo ++ [(k : Int)] } bs bo w) := by
  obtain ⟨ov, hov⟩ : ∃ ov, ovs[k]? = some ov := ⟨_, List.getElem?_eq_getElem (by rw [h.olen]; exact hk)⟩
  have c1 : w.cell? ⟨b, 5, none⟩ = some (.slice (some ⟨bs, 0, none⟩) n n) := cell_of_row w b 5 _ _ _ h.here
  have c2 : w.cell? ⟨b, 6, none⟩ = some (.slice (some ⟨bo, 0, none⟩) n n) := cell_of_row w b 6 _ _ _ h.here
  have c4 : w.cell? ⟨b, 4, none⟩ = some (.slice A5 n n5) := cell_of_row w b 4 _ _ _ h.here
  have c7 : w.cell? ⟨b, 7, none⟩ = some tv := cell_of_row w b 7 _ _ _ h.here
  have c5 : w.cell? ⟨bs, k, none⟩ = some (.bool false) := by rw [cell_of_row w bs k _ _ _ h.seen]; simp [hs]
  have c6 : w.cell? ⟨bo, k, none⟩ = some ov := by rw [cell_of_row w bo k _ _ _ h.outs]; simpa using hov
  have f5 : w.frozen? ⟨bs, k, none⟩ = false := frozen_of_row w bs k _ _ h.seen
  have f6 : w.frozen? ⟨bo, k, none⟩ = false := frozen_of_row w bo k _ _ h.outs
  have hne : bs ≠ b := by rintro rfl; have := h.here; rw [h.seen] at this; injection this with this; injection this with _ this _; exact absurd this (by decide)
  have hno : bo ≠ b := by rintro rfl; have := h.here; rw [h.outs] at this; injection this with this; injection this with _ this _; exact absurd this (by decide)
  have hns : bs ≠ bo := by rintro rfl; have := h.outs; rw [h.seen] at this; injection this with this; injection this with _ this _; exact absurd this (by decide)
  obtain ⟨i0, hi, hz0, hz1, hz2⟩ := info_parts infoInt
  have hk1 : (k : Int) < n := by omega
  have hl1 : (l.length : Int) ≤ 20 := by omega
  have HH := Lib.hid h
  have HT := Lib.hid ht
  have HOV := Lib.hid hov
  have HM := Lib.hid (h.mark k (.slice A l.length cap) l ht)
  have KX : Hid (∀ w3, (((w.setCell ⟨bs, k, none⟩ (.bool true)).setCell ⟨bo, k, none⟩ (.slice A l.length cap)).alloc (.cells #[.int .i64 k] 3)).grownBy w3 tv.ownBlock → w3.heap[b]? = some (.cells #[v0, v1, v2, v3, .slice A5 n n5, .slice (some ⟨bs, 0, none⟩) n n, .slice (some ⟨bo, 0, none⟩) n n, tv, .bool s.bad] 138 (0, 0))) := fun w3 hg => by
    have hw := HM.out.1.below (below_one _ (.cells #[.int .i64 k] 3))
    refine (hg.block b (Array.getElem?_eq_some_iff.1 hw.here).1 (fun e => ?_)).trans hw.here
    obtain ⟨_, cs', fr', h2⟩ := own_row hw.todo b e.symm
    rw [hw.here] at h2; injection h2 with h2; injection h2 with _ h2 _; exact absurd h2 (by decide)
  have KE : Hid (∀ w3, (((w.setCell ⟨bs, k, none⟩ (.bool true)).setCell ⟨bo, k, none⟩ (.slice A l.length cap)).alloc (.cells #[.int .i64 k] 3)).grownBy w3 tv.ownBlock → ∀ i v, (#[v0, v1, v2, v3, .slice A5 n n5, .slice (some ⟨bs, 0, none⟩) n n, .slice (some ⟨bo, 0, none⟩) n n, tv, .bool s.bad] : Array Value)[i]? = some v → w3.cell? ⟨b, i, none⟩ = some v) := fun w3 hg i v hv => (cell_of_row w3 b i _ _ _ (KX.out w3 hg)).trans hv
  have KF : Hid (∀ w3, (((w.setCell ⟨bs, k, none⟩ (.bool true)).setCell ⟨bo, k, none⟩ (.slice A l.length cap)).alloc (.cells #[.int .i64 k] 3)).grownBy w3 tv.ownBlock → w3.frozen? ⟨b, 7, none⟩ = false) := fun w3 hg => frozen_of_row w3 b 7 _ _ (KX.out w3 hg)
  clear h hs hov ht
  go_enter Tryz.func72, Tryz.ntmps72
  go_wp2_with fail
  go_region
  go_wp2_with (at_builtin; go_loud (refine wpList_append_own _ rfl _ _ 47 rfl B 3 i0 (.int .i64 0) 1 8 Tryz.underlying47 hi hz0 hz1 hz2 rfl (by decide) tv s.todo.length (s.todo.map (.int .i64)) rfl ?own ⟨w.heap.size, 0, none⟩ 1 1 [.int .i64 k] rfl rfl ?c1 ?c2 ?c3 ?c4 ?c5 ?_))
  case own => exact (HM.out.1.below (below_one _ _)).todo
  case c1 => exact cell_one_new' _ _ _ (by simp [World.setCell])
  case c2 => intro u hu; simp at hu; subst hu; rfl
  case c3 => unfold maxLen; omega
  case c4 => omega
  case c5 => simp [World.setCell]; omega
  intro v' w3 hown hg _
  have hg := undrew hg
  have KG := Lib.hid hg
  have KP := Lib.hid ((HM.out.1.below (below_one _ (.cells #[.int .i64 k] 3))).push (w' := w3) (v' := v') k hown hg)
  clear hown hg
  have e7 : w3.cell? ⟨b, 7, none⟩ = some tv := KE.out w3 KG.out 7 _ rfl
  have fz : w3.frozen? ⟨b, 7, none⟩ = false := KF.out w3 KG.out
  obtain ⟨A', n', c', rfl⟩ : ∃ A' n' c', v' = .slice A' n' c' := by
    rcases KP.out.1.todo.2 with ⟨e, _⟩ | ⟨g, cp, _, e, _⟩ <;> exact ⟨_, _, _, e⟩
  go_wp2_with fail
  go_end0
  exact ⟨rfl, ⟨_, _, KP.out.1⟩, (HM.out.2.alloc _).trans KP.out.2⟩

theorem come_c (B b : Nat) (v0 v1 v2 v3 : Value) (A5 : Option Addr) (n n5 : Nat) (s : WalkS) (bs bo : Nat) (tv : Value) (ovs : List Value) (at_ : Int) (v : Value) (l : List CTry) (w : World)
    (h : WalkAt w B b v0 v1 v2 v3 A5 n n5 s bs bo tv ovs) (hok : WOk n s) (hn : n ≤ 600) (h0 : 0 ≤ at_) (ht : SliceTy w B 164 2 TryR v l) (hB : B ≤ w.heap.size) :
    Calls Tryz.prog 72 #[.pointer (some ⟨b, 0, none⟩), .int .i64 at_, v] w (ComePost B b v0 v1 v2 v3 A5 n n5 (comeM s at_ l) bs bo w) := by
  obtain ⟨A, cap, rfl, -⟩ := id ht
  unfold comeM
  by_cases hc : (s.seen.length : Int) ≤ at_ ∨ 20 < l.length
  · rw [if_pos hc]
    rw [hok.seen] at hc
    exact come_bad B b v0 v1 v2 v3 A5 n n5 s bs bo tv ovs at_ A cap l w h hn h0 hc
  · rw [if_neg hc]
    rw [hok.seen] at hc
    obtain ⟨k, rfl⟩ : ∃ k : Nat, at_ = k := ⟨at_.toNat, by omega⟩
    have hk : k < n := by omega
    have hl : l.length ≤ 20 := by omega
    rw [Int.toNat_natCast]
    by_cases hs : s.seen[k]? = some false
    · rw [if_pos hs]
      exact come_new B b v0 v1 v2 v3 A5 n n5 s bs bo tv ovs k A cap l w h hn hk hl ht hs (by have := hok.small; unfold meas at this; omega) hB
    · rw [if_neg hs]
      have hs' : s.seen[k]? = some true := by
        have : s.seen[k]? = some (s.seen[k]'(by rw [hok.seen]; exact hk)) := List.getElem?_eq_getElem _
        rw [this] at hs ⊢
        cases hq : s.seen[k]'(by rw [hok.seen]; exact hk)
        · rw [hq] at hs; exact absurd rfl hs
        · rfl
      obtain ⟨m, ho⟩ : ∃ m, s.out[k]? = some m := ⟨_, List.getElem?_eq_getElem (by rw [hok.out]; exact hk)⟩
      have := come_seen B b v0 v1 v2 v3 A5 n n5 s bs bo tv ovs k A cap l m w h hn hk hl ht hs' ho
      rw [ho]
      simpa only [Option.some.injEq] using this
end Go.Proofs.YtlnkjmgfkpeicaaGreatDoor
namespace Go.Proofs.YtlnkjmgfkpeicaaGreatDoor
open Go.RowKit
def tryCells (x : CTry) : List Value := [.int .i64 x.reg, .int .i64 x.at_]
theorem try_raw {w : World} {B : Nat} {v : Value} {l : List CTry} (h : SliceR w B 2 TryR v l) : SliceR w B 2 (Raw 2) v (l.map tryCells) := by
  obtain ⟨A, cap, h1, h2, h3, h4⟩ := h
  refine ⟨A, cap, by rw [h1, List.length_map], by rw [List.length_map]; exact h2, h3, fun hp => ?_⟩
  obtain ⟨b, off, h5, h6, h7⟩ := h4 (by simpa using hp)
  refine ⟨b, off, h5, h6, fun i c hc => ?_⟩
  rw [List.getElem?_map, Option.map_eq_some_iff] at hc
  obtain ⟨x, hx, rfl⟩ := hc
  obtain ⟨cs, c1, ⟨rfl, _⟩, c3⟩ := h7 i x hx
  exact ⟨_, c1, ⟨rfl, c1⟩, c3⟩

set_option maxHeartbeats 4000000 in
set_option maxRecDepth 100000 in
theorem from_28 (B b : Nat) (v0 v1 v2 v3 : Value) (A5 : Option Addr) (n n5 : Nat) (s : WalkS) (bs bo : Nat) (tv : Value) (ovs : List Value) (k : Nat) (code : List CIns) (i : CIns) (m : List CTry) (w : World)
    (h : WalkAt w B b v0 v1 v2 v3 A5 n n5 s bs bo tv ovs) (hok : WOk n s) (hn : n ≤ 600) (hk : k < n) (hcl : n = code.length) (hcode : SliceR w B 5 CInsR (.slice A5 n n5) code) (hi0 : code[k]? = some i) (ho : s.out[k]? = some m) (hB : B ≤ w.heap.size) (hop : i.op = 28) :
    Calls Tryz.prog 73 #[.pointer (some ⟨b, 0, none⟩), .int .i64 k] w (ComePost B b v0 v1 v2 v3 A5 n n5 (s) bs bo w) := by
  obtain ⟨s', hs'⟩ : ∃ s', s' = s := ⟨_, rfl⟩
  rw [← hs']
  have HS' := Lib.hid hs'
  clear hs'
  have hkc : k < code.length := by omega
  obtain ⟨bc, oc, j, ics, rfl, hbc, hj0, -, hR, hat⟩ := hcode.at_ (i := k) hkc
  rw [hi0] at hj0
  injection hj0 with hj0
  subst hj0
  obtain ⟨rfl, v1', v2', v3', v4', v5'⟩ := hR
  obtain ⟨ov, hov⟩ : ∃ ov, ovs[k]? = some ov := ⟨_, List.getElem?_eq_getElem (by rw [h.olen]; exact hk)⟩
  have hm := h.out k ov m hov ho
  obtain ⟨A', cap', rfl, hm1, hm2, -⟩ := id hm
  have c4 : w.cell? ⟨b, 4, none⟩ = some (.slice (some ⟨bc, oc, none⟩) n n5) := cell_of_row w b 4 _ _ _ h.here
  have c6 : w.cell? ⟨b, 6, none⟩ = some (.slice (some ⟨bo, 0, none⟩) n n) := cell_of_row w b 6 _ _ _ h.here
  have c8 : w.cell? ⟨b, 8, none⟩ = some (.bool s.bad) := cell_of_row w b 8 _ _ _ h.here
  have f8 : w.frozen? ⟨b, 8, none⟩ = false := frozen_of_row w b 8 _ _ h.here
  have c7 : w.cell? ⟨bo, k, none⟩ = some (.slice A' m.length cap') := by rw [cell_of_row w bo k _ _ _ h.outs]; simpa using hov
  have g0 : w.cell? ⟨bc, oc + k * 5, none⟩ = some (.int .i64 i.op) := hat 0 _ rfl
  have g1 : w.cell? ⟨bc, oc + k * 5 + 1, none⟩ = some (.int .i64 i.a) := hat 1 _ rfl
  have g2 : w.cell? ⟨bc, oc + k * 5 + 2, none⟩ = some (.int .i64 i.b) := hat 2 _ rfl
  have g3 : w.cell? ⟨bc, oc + k * 5 + 3, none⟩ = some (.int .i64 i.c) := hat 3 _ rfl
  have g4 : w.cell? ⟨bc, oc + k * 5 + 4, none⟩ = some (.int .i64 i.line) := hat 4 _ rfl
  have l1 : bc < w.heap.size := by omega
  have l2 : b < w.heap.size := (Array.getElem?_eq_some_iff.1 h.here).1
  have l3 : bo < w.heap.size := (Array.getElem?_eq_some_iff.1 h.outs).1
  have hk1 : (k : Int) < n := by omega
  have hk2 : (k : Int) ≤ 600 := by omega
  have hml : m.length ≤ 20 := hok.few m (List.mem_of_getElem? ho)
  have HH := Lib.hid h
  have HM := Lib.hid hm
  have HF := Lib.hid (hok.wf m (List.mem_of_getElem? ho))
  unfold maxLen at hm2
  clear h hov ho hm hat hcode hi0
  rw [hop] at g0
  clear hop
  go_enter Tryz.func73, Tryz.ntmps73
  go_wp2_with fail
  go_region
  go_wp2_with fail
  refine bodyPost_ret (results_none rfl _ _ _) rfl ⟨rfl, ⟨_, _, by rw [HS'.out]; exact HH.out.below (by repeat (first | exact Below.refl _ _ | refine Below.drew ?_ | refine Below.alloc ?_ (by simp) _))⟩, Walked.of_below (by repeat (first | exact Below.refl _ _ | refine Below.drew ?_ | refine Below.alloc ?_ (by simp) _))⟩

set_option maxHeartbeats 4000000 in
set_option maxRecDepth 100000 in
theorem from_29 (B b : Nat) (v0 v1 v2 v3 : Value) (A5 : Option Addr) (n n5 : Nat) (s : WalkS) (bs bo : Nat) (tv : Value) (ovs : List Value) (k : Nat) (code : List CIns) (i : CIns) (m : List CTry) (w : World)
    (h : WalkAt w B b v0 v1 v2 v3 A5 n n5 s bs bo tv ovs) (hok : WOk n s) (hn : n ≤ 600) (hk : k < n) (hcl : n = code.length) (hcode : SliceR w B 5 CInsR (.slice A5 n n5) code) (hi0 : code[k]? = some i) (ho : s.out[k]? = some m) (hB : B ≤ w.heap.size) (hop : i.op = 29) :
    Calls Tryz.prog 73 #[.pointer (some ⟨b, 0, none⟩), .int .i64 k] w (ComePost B b v0 v1 v2 v3 A5 n n5 (s) bs bo w) := by
  obtain ⟨s', hs'⟩ : ∃ s', s' = s := ⟨_, rfl⟩
  rw [← hs']
  have HS' := Lib.hid hs'
  clear hs'
  have hkc : k < code.length := by omega
  obtain ⟨bc, oc, j, ics, rfl, hbc, hj0, -, hR, hat⟩ := hcode.at_ (i := k) hkc
  rw [hi0] at hj0
  injection hj0 with hj0
  subst hj0
  obtain ⟨rfl, v1', v2', v3', v4', v5'⟩ := hR
  obtain ⟨ov, hov⟩ : ∃ ov, ovs[k]? = some ov := ⟨_, List.getElem?_eq_getElem (by rw [h.olen]; exact hk)⟩
  have hm := h.out k ov m hov ho
  obtain ⟨A', cap', rfl, hm1, hm2, -⟩ := id hm
  have c4 : w.cell? ⟨b, 4, none⟩ = some (.slice (some ⟨bc, oc, none⟩) n n5) := cell_of_row w b 4 _ _ _ h.here
  have c6 : w.cell? ⟨b, 6, none⟩ = some (.slice (some ⟨bo, 0, none⟩) n n) := cell_of_row w b 6 _ _ _ h.here
  have c8 : w.cell? ⟨b, 8, none⟩ = some (.bool s.bad) := cell_of_row w b 8 _ _ _ h.here
  have f8 : w.frozen? ⟨b, 8, none⟩ = false := frozen_of_row w b 8 _ _ h.here
  have c7 : w.cell? ⟨bo, k, none⟩ = some (.slice A' m.length cap') := by rw [cell_of_row w bo k _ _ _ h.outs]; simpa using hov
  have g0 : w.cell? ⟨bc, oc + k * 5, none⟩ = some (.int .i64 i.op) := hat 0 _ rfl
  have g1 : w.cell? ⟨bc, oc + k * 5 + 1, none⟩ = some (.int .i64 i.a) := hat 1 _ rfl
  have g2 : w.cell? ⟨bc, oc + k * 5 + 2, none⟩ = some (.int .i64 i.b) := hat 2 _ rfl
  have g3 : w.cell? ⟨bc, oc + k * 5 + 3, none⟩ = some (.int .i64 i.c) := hat 3 _ rfl
  have g4 : w.cell? ⟨bc, oc + k * 5 + 4, none⟩ = some (.int .i64 i.line) := hat 4 _ rfl
  have l1 : bc < w.heap.size := by omega
  have l2 : b < w.heap.size := (Array.getElem?_eq_some_iff.1 h.here).1
  have l3 : bo < w.heap.size := (Array.getElem?_eq_some_iff.1 h.outs).1
  have hk1 : (k : Int) < n := by omega
  have hk2 : (k : Int) ≤ 600 := by omega
  have hml : m.length ≤ 20 := hok.few m (List.mem_of_getElem? ho)
  have HH := Lib.hid h
  have HM := Lib.hid hm
  have HF := Lib.hid (hok.wf m (List.mem_of_getElem? ho))
  unfold maxLen at hm2
  clear h hov ho hm hat hcode hi0
  rw [hop] at g0
  clear hop
  go_enter Tryz.func73, Tryz.ntmps73
  go_wp2_with fail
  go_region
  go_wp2_with fail
  refine bodyPost_ret (results_none rfl _ _ _) rfl ⟨rfl, ⟨_, _, by rw [HS'.out]; exact HH.out.below (by repeat (first | exact Below.refl _ _ | refine Below.drew ?_ | refine Below.alloc ?_ (by simp) _))⟩, Walked.of_below (by repeat (first | exact Below.refl _ _ | refine Below.drew ?_ | refine Below.alloc ?_ (by simp) _))⟩

set_option maxHeartbeats 4000000 in
set_option maxRecDepth 100000 in
theorem from_13 (B b : Nat) (v0 v1 v2 v3 : Value) (A5 : Option Addr) (n n5 : Nat) (s : WalkS) (bs bo : Nat) (tv : Value) (ovs : List Value) (k : Nat) (code : List CIns) (i : CIns) (m : List CTry) (w : World)
    (h : WalkAt w B b v0 v1 v2 v3 A5 n n5 s bs bo tv ovs) (hok : WOk n s) (hn : n ≤ 600) (hk : k < n) (hcl : n = code.length) (hcode : SliceR w B 5 CInsR (.slice A5 n n5) code) (hi0 : code[k]? = some i) (ho : s.out[k]? = some m) (hB : B ≤ w.heap.size) (hop : i.op = 13) (hja : 0 ≤ i.a) :
    Calls Tryz.prog 73 #[.pointer (some ⟨b, 0, none⟩), .int .i64 k] w (ComePost B b v0 v1 v2 v3 A5 n n5 (comeM s i.a m) bs bo w) := by
  obtain ⟨s', hs'⟩ : ∃ s', s' = comeM s i.a m := ⟨_, rfl⟩
  rw [← hs']
  have HS' := Lib.hid hs'
  clear hs'
  have hkc : k < code.length := by omega
  obtain ⟨bc, oc, j, ics, rfl, hbc, hj0, -, hR, hat⟩ := hcode.at_ (i := k) hkc
  rw [hi0] at hj0
  injection hj0 with hj0
  subst hj0
  obtain ⟨rfl, v1', v2', v3', v4', v5'⟩ := hR
  obtain ⟨ov, hov⟩ : ∃ ov, ovs[k]? = some ov := ⟨_, List.getElem?_eq_getElem (by rw [h.olen]; exact hk)⟩
  have hm := h.out k ov m hov ho
  obtain ⟨A', cap', rfl, hm1, hm2, -⟩ := id hm
  have c4 : w.cell? ⟨b, 4, none⟩ = some (.slice (some ⟨bc, oc, none⟩) n n5) := cell_of_row w b 4 _ _ _ h.here
  have c6 : w.cell? ⟨b, 6, none⟩ = some (.slice (some ⟨bo, 0, none⟩) n n) := cell_of_row w b 6 _ _ _ h.here
  have c8 : w.cell? ⟨b, 8, none⟩ = some (.bool s.bad) := cell_of_row w b 8 _ _ _ h.here
  have f8 : w.frozen? ⟨b, 8, none⟩ = false := frozen_of_row w b 8 _ _ h.here
  have c7 : w.cell? ⟨bo, k, none⟩ = some (.slice A' m.length cap') := by rw [cell_of_row w bo k _ _ _ h.outs]; simpa using hov
  have g0 : w.cell? ⟨bc, oc + k * 5, none⟩ = some (.int .i64 i.op) := hat 0 _ rfl
  have g1 : w.cell? ⟨bc, oc + k * 5 + 1, none⟩ = some (.int .i64 i.a) := hat 1 _ rfl
  have g2 : w.cell? ⟨bc, oc + k * 5 + 2, none⟩ = some (.int .i64 i.b) := hat 2 _ rfl
  have g3 : w.cell? ⟨bc, oc + k * 5 + 3, none⟩ = some (.int .i64 i.c) := hat 3 _ rfl
  have g4 : w.cell? ⟨bc, oc + k * 5 + 4, none⟩ = some (.int .i64 i.line) := hat 4 _ rfl
  have l1 : bc < w.heap.size := by omega
  have l2 : b < w.heap.size := (Array.getElem?_eq_some_iff.1 h.here).1
  have l3 : bo < w.heap.size := (Array.getElem?_eq_some_iff.1 h.outs).1
  have hk1 : (k : Int) < n := by omega
  have hk2 : (k : Int) ≤ 600 := by omega
  have hml : m.length ≤ 20 := hok.few m (List.mem_of_getElem? ho)
  have HH := Lib.hid h
  have HM := Lib.hid hm
  have HF := Lib.hid (hok.wf m (List.mem_of_getElem? ho))
  unfold maxLen at hm2
  clear h hov ho hm hat hcode hi0
  rw [hop] at g0
  clear hop
  go_enter Tryz.func73, Tryz.ntmps73
  go_wp2_with fail
  go_region
  go_wp2_with fail
  refine (come_c B b v0 v1 v2 v3 _ n n5 s bs bo _ _ i.a _ m _ (HH.out.below (by repeat (first | exact Below.refl _ _ | refine Below.drew ?_ | refine Below.alloc ?_ (by simp) _))) hok hn hja (HM.out.below (by repeat (first | exact Below.refl _ _ | refine Below.drew ?_ | refine Below.alloc ?_ (by simp) _))) (by simp; omega)).mono ?_
  rintro e w5 ⟨rfl, ⟨tv', ovs', k1⟩, k2⟩
  have K1 := Lib.hid k1
  have K2 : Hid (Walked B w w5) := by refine Walked.trans (Walked.of_below ?_) k2; exact (by repeat (first | exact Below.refl _ _ | refine Below.drew ?_ | refine Below.alloc ?_ (by simp) _))
  clear k1 k2
  go_wp2_with fail
  refine bodyPost_ret (results_none rfl _ _ _) rfl ⟨rfl, ⟨_, _, by rw [HS'.out]; exact K1.out⟩, K2.out⟩

set_option maxHeartbeats 4000000 in
set_option maxRecDepth 100000 in
theorem from_14 (B b : Nat) (v0 v1 v2 v3 : Value) (A5 : Option Addr) (n n5 : Nat) (s : WalkS) (bs bo : Nat) (tv : Value) (ovs : List Value) (k : Nat) (code : List CIns) (i : CIns) (m : List CTry) (w : World)
    (h : WalkAt w B b v0 v1 v2 v3 A5 n n5 s bs bo tv ovs) (hok : WOk n s) (hn : n ≤ 600) (hk : k < n) (hcl : n = code.length) (hcode : SliceR w B 5 CInsR (.slice A5 n n5) code) (hi0 : code[k]? = some i) (ho : s.out[k]? = some m) (hB : B ≤ w.heap.size) (hop : i.op = 14) (hja : 0 ≤ i.a) :
    Calls Tryz.prog 73 #[.pointer (some ⟨b, 0, none⟩), .int .i64 k] w (ComePost B b v0 v1 v2 v3 A5 n n5 (comeM s i.a m) bs bo w) := by
  obtain ⟨s', hs'⟩ : ∃ s', s' = comeM s i.a m := ⟨_, rfl⟩
  rw [← hs']
  have HS' := Lib.hid hs'
  clear hs'
  have hkc : k < code.length := by omega
  obtain ⟨bc, oc, j, ics, rfl, hbc, hj0, -, hR, hat⟩ := hcode.at_ (i := k) hkc
  rw [hi0] at hj0
  injection hj0 with hj0
  subst hj0
  obtain ⟨rfl, v1', v2', v3', v4', v5'⟩ := hR
  obtain ⟨ov, hov⟩ : ∃ ov, ovs[k]? = some ov := ⟨_, List.getElem?_eq_getElem (by rw [h.olen]; exact hk)⟩
  have hm := h.out k ov m hov ho
  obtain ⟨A', cap', rfl, hm1, hm2, -⟩ := id hm
  have c4 : w.cell? ⟨b, 4, none⟩ = some (.slice (some ⟨bc, oc, none⟩) n n5) := cell_of_row w b 4 _ _ _ h.here
  have c6 : w.cell? ⟨b, 6, none⟩ = some (.slice (some ⟨bo, 0, none⟩) n n) := cell_of_row w b 6 _ _ _ h.here
  have c8 : w.cell? ⟨b, 8, none⟩ = some (.bool s.bad) := cell_of_row w b 8 _ _ _ h.here
  have f8 : w.frozen? ⟨b, 8, none⟩ = false := frozen_of_row w b 8 _ _ h.here
  have c7 : w.cell? ⟨bo, k, none⟩ = some (.slice A' m.length cap') := by rw [cell_of_row w bo k _ _ _ h.outs]; simpa using hov
  have g0 : w.cell? ⟨bc, oc + k * 5, none⟩ = some (.int .i64 i.op) := hat 0 _ rfl
  have g1 : w.cell? ⟨bc, oc + k * 5 + 1, none⟩ = some (.int .i64 i.a) := hat 1 _ rfl
  have g2 : w.cell? ⟨bc, oc + k * 5 + 2, none⟩ = some (.int .i64 i.b) := hat 2 _ rfl
  have g3 : w.cell? ⟨bc, oc + k * 5 + 3, none⟩ = some (.int .i64 i.c) := hat 3 _ rfl
  have g4 : w.cell? ⟨bc, oc + k * 5 + 4, none⟩ = some (.int .i64 i.line) := hat 4 _ rfl
  have l1 : bc < w.heap.size := by omega
  have l2 : b < w.heap.size := (Array.getElem?_eq_some_iff.1 h.here).1
  have l3 : bo < w.heap.size := (Array.getElem?_eq_some_iff.1 h.outs).1
  have hk1 : (k : Int) < n := by omega
  have hk2 : (k : Int) ≤ 600 := by omega
  have hml : m.length ≤ 20 := hok.few m (List.mem_of_getElem? ho)
  have HH := Lib.hid h
  have HM := Lib.hid hm
  have HF := Lib.hid (hok.wf m (List.mem_of_getElem? ho))
  unfold maxLen at hm2
  clear h hov ho hm hat hcode hi0
  rw [hop] at g0
  clear hop
  go_enter Tryz.func73, Tryz.ntmps73
  go_wp2_with fail
  go_region
  go_wp2_with fail
  refine (come_c B b v0 v1 v2 v3 _ n n5 s bs bo _ _ i.a _ m _ (HH.out.below (by repeat (first | exact Below.refl _ _ | refine Below.drew ?_ | refine Below.alloc ?_ (by simp) _))) hok hn hja (HM.out.below (by repeat (first | exact Below.refl _ _ | refine Below.drew ?_ | refine Below.alloc ?_ (by simp) _))) (by simp; omega)).mono ?_
  rintro e w5 ⟨rfl, ⟨tv', ovs', k1⟩, k2⟩
  have K1 := Lib.hid k1
  have K2 : Hid (Walked B w w5) := by refine Walked.trans (Walked.of_below ?_) k2; exact (by repeat (first | exact Below.refl _ _ | refine Below.drew ?_ | refine Below.alloc ?_ (by simp) _))
  clear k1 k2
  go_wp2_with fail
  refine bodyPost_ret (results_none rfl _ _ _) rfl ⟨rfl, ⟨_, _, by rw [HS'.out]; exact K1.out⟩, K2.out⟩

set_option maxHeartbeats 4000000 in
set_option maxRecDepth 100000 in
theorem from_else (B b : Nat) (v0 v1 v2 v3 : Value) (A5 : Option Addr) (n n5 : Nat) (s : WalkS) (bs bo : Nat) (tv : Value) (ovs : List Value) (k : Nat) (code : List CIns) (i : CIns) (m : List CTry) (w : World)
    (h : WalkAt w B b v0 v1 v2 v3 A5 n n5 s bs bo tv ovs) (hok : WOk n s) (hn : n ≤ 600) (hk : k < n) (hcl : n = code.length) (hcode : SliceR w B 5 CInsR (.slice A5 n n5) code) (hi0 : code[k]? = some i) (ho : s.out[k]? = some m) (hB : B ≤ w.heap.size) (hop : ¬ (i.op = 28 ∨ i.op = 29 ∨ i.op = 13 ∨ i.op = 14 ∨ i.op = 15 ∨ i.op = 30 ∨ i.op = 31)) :
    Calls Tryz.prog 73 #[.pointer (some ⟨b, 0, none⟩), .int .i64 k] w (ComePost B b v0 v1 v2 v3 A5 n n5 (comeM s ((k : Int) + 1) m) bs bo w) := by
  obtain ⟨s', hs'⟩ : ∃ s', s' = comeM s ((k : Int) + 1) m := ⟨_, rfl⟩
  rw [← hs']
  have HS' := Lib.hid hs'
  clear hs'
  have hkc : k < code.length := by omega
  obtain ⟨bc, oc, j, ics, rfl, hbc, hj0, -, hR, hat⟩ := hcode.at_ (i := k) hkc
  rw [hi0] at hj0
  injection hj0 with hj0
  subst hj0
  obtain ⟨rfl, v1', v2', v3', v4', v5'⟩ := hR
  obtain ⟨ov, hov⟩ : ∃ ov, ovs[k]? = some ov := ⟨_, List.getElem?_eq_getElem (by rw [h.olen]; exact hk)⟩
  have hm := h.out k ov m hov ho
  obtain ⟨A', cap', rfl, hm1, hm2, -⟩ := id hm
  have c4 : w.cell? ⟨b, 4, none⟩ = some (.slice (some ⟨bc, oc, none⟩) n n5) := cell_of_row w b 4 _ _ _ h.here
  have c6 : w.cell? ⟨b, 6, none⟩ = some (.slice (some ⟨bo, 0, none⟩) n n) := cell_of_row w b 6 _ _ _ h.here
  have c8 : w.cell? ⟨b, 8, none⟩ = some (.bool s.bad) := cell_of_row w b 8 _ _ _ h.here
  have f8 : w.frozen? ⟨b, 8, none⟩ = false := frozen_of_row w b 8 _ _ h.here
  have c7 : w.cell? ⟨bo, k, none⟩ = some (.slice A' m.length cap') := by rw [cell_of_row w bo k _ _ _ h.outs]; simpa using hov
  have g0 : w.cell? ⟨bc, oc + k * 5, none⟩ = some (.int .i64 i.op) := hat 0 _ rfl
  have g1 : w.cell? ⟨bc, oc + k * 5 + 1, none⟩ = some (.int .i64 i.a) := hat 1 _ rfl
  have g2 : w.cell? ⟨bc, oc + k * 5 + 2, none⟩ = some (.int .i64 i.b) := hat 2 _ rfl
  have g3 : w.cell? ⟨bc, oc + k * 5 + 3, none⟩ = some (.int .i64 i.c) := hat 3 _ rfl
  have g4 : w.cell? ⟨bc, oc + k * 5 + 4, none⟩ = some (.int .i64 i.line) := hat 4 _ rfl
  have l1 : bc < w.heap.size := by omega
  have l2 : b < w.heap.size := (Array.getElem?_eq_some_iff.1 h.here).1
  have l3 : bo < w.heap.size := (Array.getElem?_eq_some_iff.1 h.outs).1
  have hk1 : (k : Int) < n := by omega
  have hk2 : (k : Int) ≤ 600 := by omega
  have hml : m.length ≤ 20 := hok.few m (List.mem_of_getElem? ho)
  have HH := Lib.hid h
  have HM := Lib.hid hm
  have HF := Lib.hid (hok.wf m (List.mem_of_getElem? ho))
  unfold maxLen at hm2
  clear h hov ho hm hat hcode hi0
  have u28 : (i.op == 28) = false := by simp; omega
  have u29 : (i.op == 29) = false := by simp; omega
  have u13 : (i.op == 13) = false := by simp; omega
  have u14 : (i.op == 14) = false := by simp; omega
  have u15 : (i.op == 15) = false := by simp; omega
  have u30 : (i.op == 30) = false := by simp; omega
  have u31 : (i.op == 31) = false := by simp; omega
  clear hop
  go_enter Tryz.func73, Tryz.ntmps73
  go_wp2_with fail
  go_region
  go_wp2_with fail
  refine (come_c B b v0 v1 v2 v3 _ n n5 s bs bo _ _ ((k : Int) + 1) _ m _ (HH.out.below (by repeat (first | exact Below.refl _ _ | refine Below.drew ?_ | refine Below.alloc ?_ (by simp) _))) hok hn (by omega) (HM.out.below (by repeat (first | exact Below.refl _ _ | refine Below.drew ?_ | refine Below.alloc ?_ (by simp) _))) (by simp; omega)).mono ?_
  rintro e w5 ⟨rfl, ⟨tv', ovs', k1⟩, k2⟩
  have K1 := Lib.hid k1
  have K2 : Hid (Walked B w w5) := by refine Walked.trans (Walked.of_below ?_) k2; exact (by repeat (first | exact Below.refl _ _ | refine Below.drew ?_ | refine Below.alloc ?_ (by simp) _))
  clear k1 k2
  go_wp2_with fail
  go_end0
  exact ⟨rfl, ⟨_, _, by rw [HS'.out]; exact K1.out⟩, K2.out⟩

set_option maxHeartbeats 4000000 in
set_option maxRecDepth 100000 in
theorem from_15 (B b : Nat) (v0 v1 v2 v3 : Value) (A5 : Option Addr) (n n5 : Nat) (s : WalkS) (bs bo : Nat) (tv : Value) (ovs : List Value) (k : Nat) (code : List CIns) (i : CIns) (m : List CTry) (w : World)
    (h : WalkAt w B b v0 v1 v2 v3 A5 n n5 s bs bo tv ovs) (hok : WOk n s) (hn : n ≤ 600) (hk : k < n) (hcl : n = code.length) (hcode : SliceR w B 5 CInsR (.slice A5 n n5) code) (hi0 : code[k]? = some i) (ho : s.out[k]? = some m) (hB : B ≤ w.heap.size) (hop : i.op = 15) (hjb : 0 ≤ i.b) :
    Calls Tryz.prog 73 #[.pointer (some ⟨b, 0, none⟩), .int .i64 k] w (ComePost B b v0 v1 v2 v3 A5 n n5 (comeM (comeM s i.b m) ((k : Int) + 1) m) bs bo w) := by
  obtain ⟨s', hs'⟩ : ∃ s', s' = comeM (comeM s i.b m) ((k : Int) + 1) m := ⟨_, rfl⟩
  rw [← hs']
  have HS' := Lib.hid hs'
  clear hs'
  have hkc : k < code.length := by omega
  obtain ⟨bc, oc, j, ics, rfl, hbc, hj0, -, hR, hat⟩ := hcode.at_ (i := k) hkc
  rw [hi0] at hj0
  injection hj0 with hj0
  subst hj0
  obtain ⟨rfl, v1', v2', v3', v4', v5'⟩ := hR
  obtain ⟨ov, hov⟩ : ∃ ov, ovs[k]? = some ov := ⟨_, List.getElem?_eq_getElem (by rw [h.olen]; exact hk)⟩
  have hm := h.out k ov m hov ho
  obtain ⟨A', cap', rfl, hm1, hm2, -⟩ := id hm
  have c4 : w.cell? ⟨b, 4, none⟩ = some (.slice (some ⟨bc, oc, none⟩) n n5) := cell_of_row w b 4 _ _ _ h.here
  have c6 : w.cell? ⟨b, 6, none⟩ = some (.slice (some ⟨bo, 0, none⟩) n n) := cell_of_row w b 6 _ _ _ h.here
  have c8 : w.cell? ⟨b, 8, none⟩ = some (.bool s.bad) := cell_of_row w b 8 _ _ _ h.here
  have f8 : w.frozen? ⟨b, 8, none⟩ = false := frozen_of_row w b 8 _ _ h.here
  have c7 : w.cell? ⟨bo, k, none⟩ = some (.slice A' m.length cap') := by rw [cell_of_row w bo k _ _ _ h.outs]; simpa using hov
  have g0 : w.cell? ⟨bc, oc + k * 5, none⟩ = some (.int .i64 i.op) := hat 0 _ rfl
  have g1 : w.cell? ⟨bc, oc + k * 5 + 1, none⟩ = some (.int .i64 i.a) := hat 1 _ rfl
  have g2 : w.cell? ⟨bc, oc + k * 5 + 2, none⟩ = some (.int .i64 i.b) := hat 2 _ rfl
  have g3 : w.cell? ⟨bc, oc + k * 5 + 3, none⟩ = some (.int .i64 i.c) := hat 3 _ rfl
  have g4 : w.cell? ⟨bc, oc + k * 5 + 4, none⟩ = some (.int .i64 i.line) := hat 4 _ rfl
  have l1 : bc < w.heap.size := by omega
  have l2 : b < w.heap.size := (Array.getElem?_eq_some_iff.1 h.here).1
  have l3 : bo < w.heap.size := (Array.getElem?_eq_some_iff.1 h.outs).1
  have hk1 : (k : Int) < n := by omega
  have hk2 : (k : Int) ≤ 600 := by omega
  have hml : m.length ≤ 20 := hok.few m (List.mem_of_getElem? ho)
  have HH := Lib.hid h
  have HM := Lib.hid hm
  have HF := Lib.hid (hok.wf m (List.mem_of_getElem? ho))
  unfold maxLen at hm2
  clear h hov ho hm hat hcode hi0
  have HO2 := Lib.hid (hok.come hjb HF.out)
  rw [hop] at g0
  clear hop
  go_enter Tryz.func73, Tryz.ntmps73
  go_wp2_with fail
  go_region
  go_wp2_with fail
  refine (come_c B b v0 v1 v2 v3 _ n n5 s bs bo _ _ i.b _ m _ (HH.out.below (by repeat (first | exact Below.refl _ _ | refine Below.drew ?_ | refine Below.alloc ?_ (by simp) _))) hok hn hjb (HM.out.below (by repeat (first | exact Below.refl _ _ | refine Below.drew ?_ | refine Below.alloc ?_ (by simp) _))) (by simp; omega)).mono ?_
  rintro e w5 ⟨rfl, ⟨tv', ovs', k1⟩, k2⟩
  have K1 := Lib.hid k1
  have K2 : Hid (Walked B w w5) := by refine Walked.trans (Walked.of_below ?_) k2; exact (by repeat (first | exact Below.refl _ _ | refine Below.drew ?_ | refine Below.alloc ?_ (by simp) _))
  have M2 := Lib.hid (k2.tries (HM.out.below (by repeat (first | exact Below.refl _ _ | refine Below.drew ?_ | refine Below.alloc ?_ (by simp) _))))
  have hz5 : B ≤ w5.heap.size := Nat.le_trans hB K2.out.size
  clear k1 k2
  go_wp2_with fail
  refine (come_c B b v0 v1 v2 v3 _ n n5 _ bs bo _ _ ((k : Int) + 1) _ m _ (K1.out) HO2.out hn (by omega) (M2.out) hz5).mono ?_
  rintro e w6 ⟨rfl, ⟨tv2, ovs2, k1⟩, k2⟩
  have K3 := Lib.hid k1
  have K4 := Lib.hid (K2.out.trans k2)
  clear k1 k2
  go_wp2_with fail
  go_end0
  exact ⟨rfl, ⟨_, _, by rw [HS'.out]; exact K3.out⟩, K4.out⟩

set_option maxHeartbeats 4000000 in
set_option maxRecDepth 100000 in
theorem from_31n (B b : Nat) (v0 v1 v2 v3 : Value) (A5 : Option Addr) (n n5 : Nat) (s : WalkS) (bs bo : Nat) (tv : Value) (ovs : List Value) (k : Nat) (code : List CIns) (i : CIns) (m : List CTry) (w : World)
    (h : WalkAt w B b v0 v1 v2 v3 A5 n n5 s bs bo tv ovs) (hok : WOk n s) (hn : n ≤ 600) (hk : k < n) (hcl : n = code.length) (hcode : SliceR w B 5 CInsR (.slice A5 n n5) code) (hi0 : code[k]? = some i) (ho : s.out[k]? = some m) (hB : B ≤ w.heap.size) (hop : i.op = 31) (hm0 : m = []) :
    Calls Tryz.prog 73 #[.pointer (some ⟨b, 0, none⟩), .int .i64 k] w (ComePost B b v0 v1 v2 v3 A5 n n5 ({ s with bad := true }) bs bo w) := by
  obtain ⟨s', hs'⟩ : ∃ s', s' = ({ s with bad := true } : WalkS) := ⟨_, rfl⟩
  rw [← hs']
  have HS' := Lib.hid hs'
  clear hs'
  have hkc : k < code.length := by omega
  obtain ⟨bc, oc, j, ics, rfl, hbc, hj0, -, hR, hat⟩ := hcode.at_ (i := k) hkc
  rw [hi0] at hj0
  injection hj0 with hj0
  subst hj0
  obtain ⟨rfl, v1', v2', v3', v4', v5'⟩ := hR
  obtain ⟨ov, hov⟩ : ∃ ov, ovs[k]? = some ov := ⟨_, List.getElem?_eq_getElem (by rw [h.olen]; exact hk)⟩
  have hm := h.out k ov m hov ho
  obtain ⟨A', cap', rfl, hm1, hm2, -⟩ := id hm
  have c4 : w.cell? ⟨b, 4, none⟩ = some (.slice (some ⟨bc, oc, none⟩) n n5) := cell_of_row w b 4 _ _ _ h.here
  have c6 : w.cell? ⟨b, 6, none⟩ = some (.slice (some ⟨bo, 0, none⟩) n n) := cell_of_row w b 6 _ _ _ h.here
  have c8 : w.cell? ⟨b, 8, none⟩ = some (.bool s.bad) := cell_of_row w b 8 _ _ _ h.here
  have f8 : w.frozen? ⟨b, 8, none⟩ = false := frozen_of_row w b 8 _ _ h.here
  have c7 : w.cell? ⟨bo, k, none⟩ = some (.slice A' m.length cap') := by rw [cell_of_row w bo k _ _ _ h.outs]; simpa using hov
  have g0 : w.cell? ⟨bc, oc + k * 5, none⟩ = some (.int .i64 i.op) := hat 0 _ rfl
  have g1 : w.cell? ⟨bc, oc + k * 5 + 1, none⟩ = some (.int .i64 i.a) := hat 1 _ rfl
  have g2 : w.cell? ⟨bc, oc + k * 5 + 2, none⟩ = some (.int .i64 i.b) := hat 2 _ rfl
  have g3 : w.cell? ⟨bc, oc + k * 5 + 3, none⟩ = some (.int .i64 i.c) := hat 3 _ rfl
  have g4 : w.cell? ⟨bc, oc + k * 5 + 4, none⟩ = some (.int .i64 i.line) := hat 4 _ rfl
  have l1 : bc < w.heap.size := by omega
  have l2 : b < w.heap.size := (Array.getElem?_eq_some_iff.1 h.here).1
  have l3 : bo < w.heap.size := (Array.getElem?_eq_some_iff.1 h.outs).1
  have hk1 : (k : Int) < n := by omega
  have hk2 : (k : Int) ≤ 600 := by omega
  have hml : m.length ≤ 20 := hok.few m (List.mem_of_getElem? ho)
  have HH := Lib.hid h
  have HM := Lib.hid hm
  have HF := Lib.hid (hok.wf m (List.mem_of_getElem? ho))
  unfold maxLen at hm2
  clear h hov ho hm hat hcode hi0
  rw [hop] at g0
  have hm3 : ((m.length : Int) == 0) = true := by rw [hm0]; rfl
  clear hop hm0
  go_enter Tryz.func73, Tryz.ntmps73
  go_wp2_with fail
  go_region
  go_wp2_with fail
  refine bodyPost_ret (results_none rfl _ _ _) rfl ⟨rfl, ⟨_, _, by rw [HS'.out]; exact HH.out.set_bad.1.below (by repeat (first | exact Below.refl _ _ | refine Below.drew ?_ | refine Below.alloc ?_ (by simp [World.setCell]) _))⟩, HH.out.set_bad.2.below_ (by repeat (first | exact Below.refl _ _ | refine Below.drew ?_ | refine Below.alloc ?_ (by simp [World.setCell]) _))⟩

set_option maxHeartbeats 4000000 in
set_option maxRecDepth 100000 in
theorem from_31 (B b : Nat) (v0 v1 v2 v3 : Value) (A5 : Option Addr) (n n5 : Nat) (s : WalkS) (bs bo : Nat) (tv : Value) (ovs : List Value) (k : Nat) (code : List CIns) (i : CIns) (m : List CTry) (w : World)
    (h : WalkAt w B b v0 v1 v2 v3 A5 n n5 s bs bo tv ovs) (hok : WOk n s) (hn : n ≤ 600) (hk : k < n) (hcl : n = code.length) (hcode : SliceR w B 5 CInsR (.slice A5 n n5) code) (hi0 : code[k]? = some i) (ho : s.out[k]? = some m) (hB : B ≤ w.heap.size) (hop : i.op = 31) (hm0 : m ≠ []) :
    Calls Tryz.prog 73 #[.pointer (some ⟨b, 0, none⟩), .int .i64 k] w (ComePost B b v0 v1 v2 v3 A5 n n5 (comeM s ((k : Int) + 1) m.dropLast) bs bo w) := by
  obtain ⟨s', hs'⟩ : ∃ s', s' = comeM s ((k : Int) + 1) m.dropLast := ⟨_, rfl⟩
  rw [← hs']
  have HS' := Lib.hid hs'
  clear hs'
  have hkc : k < code.length := by omega
  obtain ⟨bc, oc, j, ics, rfl, hbc, hj0, -, hR, hat⟩ := hcode.at_ (i := k) hkc
  rw [hi0] at hj0
  injection hj0 with hj0
  subst hj0
  obtain ⟨rfl, v1', v2', v3', v4', v5'⟩ := hR
  obtain ⟨ov, hov⟩ : ∃ ov, ovs[k]? = some ov := ⟨_, List.getElem?_eq_getElem (by rw [h.olen]; exact hk)⟩
  have hm := h.out k ov m hov ho
  obtain ⟨A', cap', rfl, hm1, hm2, -⟩ := id hm
  have c4 : w.cell? ⟨b, 4, none⟩ = some (.slice (some ⟨bc, oc, none⟩) n n5) := cell_of_row w b 4 _ _ _ h.here
  have c6 : w.cell? ⟨b, 6, none⟩ = some (.slice (some ⟨bo, 0, none⟩) n n) := cell_of_row w b 6 _ _ _ h.here
  have c8 : w.cell? ⟨b, 8, none⟩ = some (.bool s.bad) := cell_of_row w b 8 _ _ _ h.here
  have f8 : w.frozen? ⟨b, 8, none⟩ = false := frozen_of_row w b 8 _ _ h.here
  have c7 : w.cell? ⟨bo, k, none⟩ = some (.slice A' m.length cap') := by rw [cell_of_row w bo k _ _ _ h.outs]; simpa using hov
  have g0 : w.cell? ⟨bc, oc + k * 5, none⟩ = some (.int .i64 i.op) := hat 0 _ rfl
  have g1 : w.cell? ⟨bc, oc + k * 5 + 1, none⟩ = some (.int .i64 i.a) := hat 1 _ rfl
  have g2 : w.cell? ⟨bc, oc + k * 5 + 2, none⟩ = some (.int .i64 i.b) := hat 2 _ rfl
  have g3 : w.cell? ⟨bc, oc + k * 5 + 3, none⟩ = some (.int .i64 i.c) := hat 3 _ rfl
  have g4 : w.cell? ⟨bc, oc + k * 5 + 4, none⟩ = some (.int .i64 i.line) := hat 4 _ rfl
  have l1 : bc < w.heap.size := by omega
  have l2 : b < w.heap.size := (Array.getElem?_eq_some_iff.1 h.here).1
  have l3 : bo < w.heap.size := (Array.getElem?_eq_some_iff.1 h.outs).1
  have hk1 : (k : Int) < n := by omega
  have hk2 : (k : Int) ≤ 600 := by omega
  have hml : m.length ≤ 20 := hok.few m (List.mem_of_getElem? ho)
  have HH := Lib.hid h
  have HM := Lib.hid hm
  have HF := Lib.hid (hok.wf m (List.mem_of_getElem? ho))
  unfold maxLen at hm2
  clear h hov ho hm hat hcode hi0
  rw [hop] at g0
  have hmp : 0 < m.length := List.length_pos_iff.2 hm0
  have hm3 : ((m.length : Int) == 0) = false := by simp; omega
  have hm4 : (1 : Int) ≤ m.length := by omega
  have hmx : (m.length : Int) - 1 ≤ cap' := by omega
  have HMD : Hid (∀ W, Below w.heap.size w W → SliceTy W B 164 2 TryR (.slice A' (m.length - 1) cap') m.dropLast) := fun W hW => by
    rw [List.dropLast_eq_take]
    exact (HM.out.below hW).take (by omega)
  clear hop hm0
  go_enter Tryz.func73, Tryz.ntmps73
  go_wp2_with fail
  go_region
  go_wp2_with fail
  refine (come_c B b v0 v1 v2 v3 _ n n5 s bs bo _ _ ((k : Int) + 1) _ m.dropLast _ (HH.out.below (by repeat (first | exact Below.refl _ _ | refine Below.drew ?_ | refine Below.alloc ?_ (by simp) _))) hok hn (by omega) (HMD.out _ (by repeat (first | exact Below.refl _ _ | refine Below.drew ?_ | refine Below.alloc ?_ (by simp) _))) (by simp; omega)).mono ?_
  rintro e w5 ⟨rfl, ⟨tv', ovs', k1⟩, k2⟩
  have K1 := Lib.hid k1
  have K2 : Hid (Walked B w w5) := by refine Walked.trans (Walked.of_below ?_) k2; exact (by repeat (first | exact Below.refl _ _ | refine Below.drew ?_ | refine Below.alloc ?_ (by simp) _))
  clear k1 k2
  go_wp2_with fail
  go_end0
  exact ⟨rfl, ⟨_, _, by rw [HS'.out]; exact K1.out⟩, K2.out⟩
end Go.Proofs.YtlnkjmgfkpeicaaGreatDoor
namespace Go.Proofs.YtlnkjmgfkpeicaaGreatDoor
open Go.RowKit
theorem own_mono {w : World} {B B' : Nat} {e : TypeId} {size : Nat} {v : Value} {n : Nat} {xs : List Value} (h : w.ownsRow B e size v n xs) (hB : B' ≤ B) : w.ownsRow B' e size v n xs :=
  ⟨h.1, h.2.imp id (fun ⟨g, cap, cur, h1, h2, h3⟩ => ⟨g, cap, cur, h1, Nat.le_trans hB h2, h3⟩)⟩
theorem news2 (w : World) (a b : Value) (t : TypeId) : ∀ j u, [a, b][j]? = some u → (w.alloc (.cells #[a, b] t)).cell? ((⟨w.heap.size, 0, none⟩ : Addr).add j) = some u := by
  intro j u hj
  match j, hj with
  | 0, hj => simp at hj; subst hj; exact one_cell w #[a, b] t 0
  | 1, hj => simp at hj; subst hj; exact one_cell w #[a, b] t 1

set_option maxHeartbeats 4000000 in
set_option maxRecDepth 100000 in
theorem from_30 (B b : Nat) (v0 v1 v2 v3 : Value) (A5 : Option Addr) (n n5 : Nat) (s : WalkS) (bs bo : Nat) (tv : Value) (ovs : List Value) (k : Nat) (code : List CIns) (i : CIns) (m : List CTry) (w : World)
    (h : WalkAt w B b v0 v1 v2 v3 A5 n n5 s bs bo tv ovs) (hok : WOk n s) (hn : n ≤ 600) (hk : k < n) (hcl : n = code.length) (hcode : SliceR w B 5 CInsR (.slice A5 n n5) code) (hi0 : code[k]? = some i) (ho : s.out[k]? = some m) (hB : B ≤ w.heap.size) (hop : i.op = 30) (hjb : 0 ≤ i.b) :
    Calls Tryz.prog 73 #[.pointer (some ⟨b, 0, none⟩), .int .i64 k] w (ComePost B b v0 v1 v2 v3 A5 n n5 (comeM (comeM s i.b m) ((k : Int) + 1) (m ++ [⟨i.a, i.b⟩])) bs bo w) := by
  obtain ⟨s', hs'⟩ : ∃ s', s' = comeM (comeM s i.b m) ((k : Int) + 1) (m ++ [⟨i.a, i.b⟩]) := ⟨_, rfl⟩
  rw [← hs']
  have HS' := Lib.hid hs'
  clear hs'
  have hkc : k < code.length := by omega
  obtain ⟨bc, oc, j, ics, rfl, hbc, hj0, -, hR, hat⟩ := hcode.at_ (i := k) hkc
  rw [hi0] at hj0
  injection hj0 with hj0
  subst hj0
  obtain ⟨rfl, v1', v2', v3', v4', v5'⟩ := hR
  obtain ⟨ov, hov⟩ : ∃ ov, ovs[k]? = some ov := ⟨_, List.getElem?_eq_getElem (by rw [h.olen]; exact hk)⟩
  have hm := h.out k ov m hov ho
  obtain ⟨A', cap', rfl, hm1, hm2, -⟩ := id hm
  have c4 : w.cell? ⟨b, 4, none⟩ = some (.slice (some ⟨bc, oc, none⟩) n n5) := cell_of_row w b 4 _ _ _ h.here
  have c6 : w.cell? ⟨b, 6, none⟩ = some (.slice (some ⟨bo, 0, none⟩) n n) := cell_of_row w b 6 _ _ _ h.here
  have c8 : w.cell? ⟨b, 8, none⟩ = some (.bool s.bad) := cell_of_row w b 8 _ _ _ h.here
  have f8 : w.frozen? ⟨b, 8, none⟩ = false := frozen_of_row w b 8 _ _ h.here
  have c7 : w.cell? ⟨bo, k, none⟩ = some (.slice A' m.length cap') := by rw [cell_of_row w bo k _ _ _ h.outs]; simpa using hov
  have g0 : w.cell? ⟨bc, oc + k * 5, none⟩ = some (.int .i64 i.op) := hat 0 _ rfl
  have g1 : w.cell? ⟨bc, oc + k * 5 + 1, none⟩ = some (.int .i64 i.a) := hat 1 _ rfl
  have g2 : w.cell? ⟨bc, oc + k * 5 + 2, none⟩ = some (.int .i64 i.b) := hat 2 _ rfl
  have g3 : w.cell? ⟨bc, oc + k * 5 + 3, none⟩ = some (.int .i64 i.c) := hat 3 _ rfl
  have g4 : w.cell? ⟨bc, oc + k * 5 + 4, none⟩ = some (.int .i64 i.line) := hat 4 _ rfl
  have l1 : bc < w.heap.size := by omega
  have l2 : b < w.heap.size := (Array.getElem?_eq_some_iff.1 h.here).1
  have l3 : bo < w.heap.size := (Array.getElem?_eq_some_iff.1 h.outs).1
  have hk1 : (k : Int) < n := by omega
  have hk2 : (k : Int) ≤ 600 := by omega
  have hml : m.length ≤ 20 := hok.few m (List.mem_of_getElem? ho)
  have HH := Lib.hid h
  have HM := Lib.hid hm
  have HF := Lib.hid (hok.wf m (List.mem_of_getElem? ho))
  unfold maxLen at hm2
  clear h hov ho hm hat hcode hi0
  have HO2 := Lib.hid (hok.come hjb HF.out)
  rw [hop] at g0
  clear hop
  go_enter Tryz.func73, Tryz.ntmps73
  go_wp2_with fail
  go_region
  go_wp2_with fail
  refine (come_c B b v0 v1 v2 v3 _ n n5 s bs bo _ _ i.b _ m _ (HH.out.below (by repeat (first | exact Below.refl _ _ | refine Below.drew ?_ | refine Below.alloc ?_ (by simp) _))) hok hn hjb (HM.out.below (by repeat (first | exact Below.refl _ _ | refine Below.drew ?_ | refine Below.alloc ?_ (by simp) _))) (by simp; omega)).mono ?_
  rintro e w5 ⟨rfl, ⟨tv', ovs', k1⟩, k2⟩
  have K1 := Lib.hid k1
  have K2 : Hid (Walked B w w5) := by refine Walked.trans (Walked.of_below ?_) k2; exact (by repeat (first | exact Below.refl _ _ | refine Below.drew ?_ | refine Below.alloc ?_ (by simp) _))
  have M2 := Lib.hid (k2.tries (HM.out.below (by repeat (first | exact Below.refl _ _ | refine Below.drew ?_ | refine Below.alloc ?_ (by simp) _))))
  have R2 : Hid (w5.heap[w.heap.size]? = some (.cells #[.int .i64 30, .int .i64 i.a, .int .i64 i.b, .int .i64 i.c, .int .i64 i.line] 112 (0, 0))) := k2.row (heap_alloc_new w _) (by decide)
  have hz5 : B ≤ w5.heap.size := Nat.le_trans hB K2.out.size
  have CK : Hid (∀ W, Below w5.heap.size w5 W → ∀ j v, (#[.int .i64 30, .int .i64 i.a, .int .i64 i.b, .int .i64 i.c, .int .i64 i.line] : Array Value)[j]? = some v → W.cell? ⟨w.heap.size, j, none⟩ = some v) := fun W k j v hv => cell_on k ((cell_of_row w5 _ j _ _ _ R2.out).trans hv)
  have CS : Hid (∀ W, Below w5.heap.size w5 W → SliceR W W.heap.size 2 (Raw 2) (.slice A' m.length cap') (m.map tryCells)) := fun W k => try_raw (M2.out.below k).slice
  have C1 : Hid (∀ r ∈ m.map tryCells, ∀ u ∈ r, u.oneCell' = true) := by
    intro r hr u hu
    obtain ⟨x, _, rfl⟩ := List.mem_map.1 hr
    simp [tryCells] at hu
    rcases hu with rfl | rfl <;> rfl
  have C2 : Hid ((m.map tryCells).length * 16 ≤ 140737488355328) := by show _ ≤ _; rw [List.length_map]; omega
  obtain ⟨i0, hi, hq⟩ := Option.map_eq_some_iff.1 infoOf_try
  simp only [Prod.mk.injEq] at hq
  obtain ⟨hz, hz1, hz2⟩ := hq
  obtain ⟨z, hz0, hz3⟩ := Option.map_eq_some_iff.1 hz
  have HI := Lib.hid hi
  have HZ := Lib.hid hz0
  have HZ1 := Lib.hid hz1
  have HZ2 := Lib.hid hz2
  have HZ3 := Lib.hid hz3
  have d1 : w5.cell? ⟨w.heap.size, 1, none⟩ = some (.int .i64 i.a) := cell_of_row w5 _ 1 _ _ _ R2.out
  have d2 : w5.cell? ⟨w.heap.size, 2, none⟩ = some (.int .i64 i.b) := cell_of_row w5 _ 2 _ _ _ R2.out
  have hz6 : w.heap.size < w5.heap.size := (Array.getElem?_eq_some_iff.1 R2.out).1
  clear k1 k2 c4 c6 c7 c8 f8 g0 g1 g2 g3 g4 hi hz hz0 hz1 hz2 hz3
  go_wp2_with fail
  go_region_held3 (fun w' => w'.cell? ⟨w.heap.size, 1, none⟩ = some (.int .i64 i.a) ∧ w'.cell? ⟨w.heap.size, 2, none⟩ = some (.int .i64 i.b)) (first | go_keep) ((first
    | (go_simp; go_at_call 95; refine (clone_try _ (m.map tryCells) _ (CS.out _ (by repeat (first | exact Below.refl _ _ | refine Below.drew ?_ | refine Below.alloc ?_ (by simp) _))) C1.out C2.out).mono ?_; rintro e w6 ⟨u, rfl, hu, hb⟩; have kb : Below w5.heap.size w5 w6 := (by refine Below.trans ?_ (hb.mono (by simp)); exact (by repeat (first | exact Below.refl _ _ | refine Below.drew ?_ | refine Below.alloc ?_ (by simp) _))); have q1 := CK.out w6 kb 1 _ rfl; have q2 := CK.out w6 kb 2 _ rfl; have KB6 := Lib.hid kb; have HB6 := Lib.hid hb; have HU6 := Lib.hid (own_mono hu (show w5.heap.size ≤ _ from by simp)); clear hu kb hb)
    | (go_loud (refine step_append_lies _ (by rfl) _ _ 161 (by rfl) w5.heap.size 164 i0 z 2 16 Tryz.underlying161 HI.out HZ.out HZ1.out HZ2.out HZ3.out (by decide) u (m.map tryCells).length ((m.map tryCells).flatMap id) (by rfl) (by first | exact HU6.out | exact HU6.out.alloc _) ⟨_, 0, none⟩ 1 1 [.int .i64 i.a, .int .i64 i.b] (by rfl) (by rfl) (by first | exact news2 _ _ _ _ | exact (fun j u hj => cell_on HB6.out (news2 _ _ _ _ j u hj))) (by intro u hu; simp at hu; rcases hu with rfl | rfl <;> rfl) (by decide) (by rw [List.length_map]; unfold maxLen; omega) (by rw [List.length_map]; omega) (by have := KB6.out.size; first | exact this | (simp; omega)) _ rfl ?_); intro g cp w7 hown hgrow hat hlt; have KB7 : Hid (Below w5.heap.size w5 w7) := (by refine Below.grown ?_ hgrow ?_ (fun k hk => (own_row HU6.out k hk).1); (first | exact KB6.out | exact KB6.out.alloc KB6.out.size _); (have := KB6.out.size; first | exact this | (simp; omega))); have KO7 := Lib.hid hown; have q7 := CK.out w7 KB7.out 1 _ rfl; have q8 := CK.out w7 KB7.out 2 _ rfl; clear hown hgrow hat hlt)))
  all_goals
    have KS7 : Hid (SliceTy w7 B 164 2 TryR (.slice (some ⟨g, 0, none⟩) (m.length + 1) cp) (m ++ [⟨i.a, i.b⟩])) := by
      have e1 : (m ++ [(⟨i.a, i.b⟩ : CTry)]).length = m.length + 1 := by simp
      have e2 : (m ++ [(⟨i.a, i.b⟩ : CTry)]).flatMap tryCells = (m.map tryCells).flatMap id ++ [.int .i64 i.a, .int .i64 i.b] := by
        rw [List.flatMap_append, List.flatMap_id, List.flatMap_def]; rfl
      have h7 := KO7.out
      rw [List.length_map, ← e2, ← e1] at h7
      have h8 := (sliceTy_of_own (R := TryR) (f := tryCells) (by decide) (fun x _ => rfl) (fun x hx => ⟨rfl, by
        rcases List.mem_append.1 hx with hx | hx
        · exact HF.out x hx
        · simp at hx; subst hx; exact ⟨v2', v3'⟩⟩) h7).more hz5
      rw [e1] at h8
      exact h8
    have hz7 : B ≤ w7.heap.size := Nat.le_trans hz5 KB7.out.size
    have W7 := Lib.hid (K1.out.below KB7.out)
    clear q7 q8 d1 d2
    go_wp2_with fail
    refine (come_c B b v0 v1 v2 v3 _ n n5 _ bs bo _ _ ((k : Int) + 1) _ (m ++ [⟨i.a, i.b⟩]) _ W7.out HO2.out hn (by omega) KS7.out hz7).mono ?_
    rintro e w8 ⟨rfl, ⟨tv2, ovs2, k1⟩, k2⟩
    have K8 := Lib.hid k1
    have K9 := Lib.hid ((K2.out.below_ KB7.out).trans k2)
    clear k1 k2
    go_wp2_with fail
    go_end0
    exact ⟨rfl, ⟨_, _, by rw [HS'.out]; exact K8.out⟩, K9.out⟩

theorem from_c (B b : Nat) (v0 v1 v2 v3 : Value) (A5 : Option Addr) (n n5 : Nat) (s : WalkS) (bs bo : Nat) (tv : Value) (ovs : List Value) (k : Nat) (code : List CIns) (w : World)
    (h : WalkAt w B b v0 v1 v2 v3 A5 n n5 s bs bo tv ovs) (hok : WOk n s) (hn : n ≤ 600) (hk : k < n) (hcl : n = code.length) (hcode : SliceR w B 5 CInsR (.slice A5 n n5) code) (hj : JumpsOk code) (hB : B ≤ w.heap.size) :
    Calls Tryz.prog 73 #[.pointer (some ⟨b, 0, none⟩), .int .i64 k] w (ComePost B b v0 v1 v2 v3 A5 n n5 (fromM code s k) bs bo w) := by
  obtain ⟨i, hi⟩ : ∃ i, code[k]? = some i := ⟨_, List.getElem?_eq_getElem (by omega)⟩
  obtain ⟨m, ho⟩ : ∃ m, s.out[k]? = some m := ⟨_, List.getElem?_eq_getElem (by rw [hok.out]; exact hk)⟩
  obtain ⟨j1, j2, j3⟩ := hj i (List.mem_of_getElem? hi)
  unfold fromM
  rw [Int.toNat_natCast, hi, ho]
  dsimp only
  by_cases h28 : i.op = 28
  · rw [if_pos (.inl h28)]
    exact from_28 B b v0 v1 v2 v3 A5 n n5 s bs bo tv ovs k code i m w h hok hn hk hcl hcode hi ho hB h28
  by_cases h29 : i.op = 29
  · rw [if_pos (.inr h29)]
    exact from_29 B b v0 v1 v2 v3 A5 n n5 s bs bo tv ovs k code i m w h hok hn hk hcl hcode hi ho hB h29
  rw [if_neg (by omega)]
  by_cases h13 : i.op = 13
  · rw [if_pos (.inl h13)]
    exact from_13 B b v0 v1 v2 v3 A5 n n5 s bs bo tv ovs k code i m w h hok hn hk hcl hcode hi ho hB h13 (j1 (.inl h13)).1
  by_cases h14 : i.op = 14
  · rw [if_pos (.inr h14)]
    exact from_14 B b v0 v1 v2 v3 A5 n n5 s bs bo tv ovs k code i m w h hok hn hk hcl hcode hi ho hB h14 (j1 (.inr h14)).1
  rw [if_neg (by omega)]
  by_cases h15 : i.op = 15
  · rw [if_pos h15]
    exact from_15 B b v0 v1 v2 v3 A5 n n5 s bs bo tv ovs k code i m w h hok hn hk hcl hcode hi ho hB h15 (j2 (.inl h15)).1
  rw [if_neg h15]
  by_cases h30 : i.op = 30
  · rw [if_pos h30]
    exact from_30 B b v0 v1 v2 v3 A5 n n5 s bs bo tv ovs k code i m w h hok hn hk hcl hcode hi ho hB h30 (j2 (.inr h30)).1
  rw [if_neg h30]
  by_cases h31 : i.op = 31
  · rw [if_pos h31]
    by_cases hm : m = []
    · rw [if_pos hm]
      exact from_31n B b v0 v1 v2 v3 A5 n n5 s bs bo tv ovs k code i m w h hok hn hk hcl hcode hi ho hB h31 hm
    · rw [if_neg hm]
      exact from_31 B b v0 v1 v2 v3 A5 n n5 s bs bo tv ovs k code i m w h hok hn hk hcl hcode hi ho hB h31 hm
  rw [if_neg h31]
  exact from_else B b v0 v1 v2 v3 A5 n n5 s bs bo tv ovs k code i m w h hok hn hk hcl hcode hi ho hB (by omega)
end Go.Proofs.YtlnkjmgfkpeicaaGreatDoor
