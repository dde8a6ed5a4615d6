/- Heat as a list of heads: the model, what it keeps, and the contracts over it. -/
import Derived.Test.YtdcikaenepnliaaHb
namespace Go.Proofs.Ytdcikaenepnliaa
open Go.RowKit

/-- a head of a loop -/
structure Hd where
  f : Int
  a : Int
  c : Int
  l : Int
  fl : Int
  i : Int

def Hd.v (h : Hd) : Value := headV h.f h.a h.c h.l h.fl h.i
/-- a head's cells -/
def headCells (h : Hd) : List Value := [.int .i64 h.f, .int .i64 h.a, .int .i64 h.c, .int .i64 h.l, .int .i64 h.fl, .int .i64 h.i]
theorem hd_v (h : Hd) : h.v = .agg ⟨headCells h⟩ := rfl
abbrev TL := List (List Int × Hd)
def encT (L : TL) : List (List Int × Value) := L.map fun x => (x.1, x.2.v)
def getT : TL → List Int → Option Hd
  | [], _ => none
  | x :: L, k => if k = x.1 then some x.2 else getT L k
def putT : TL → List Int → Hd → TL
  | [], k, h => [(k, h)]
  | x :: L, k, h => if k = x.1 then (x.1, h) :: L else x :: putT L k h

theorem lookL_enc (L : TL) (k : List Int) : lookL (encT L) k = (getT L k).map Hd.v := by
  induction L with
  | nil => rfl
  | cons x L ih =>
    unfold lookL encT at *
    by_cases c : k = x.1
    · simp [getT, c]
    · simp only [List.map_cons, List.find?_cons, c, decide_false, getT, if_false]
      exact ih
theorem putL_enc (L : TL) (k : List Int) (h : Hd) : putL (encT L) k h.v = encT (putT L k h) := by
  induction L with
  | nil => rfl
  | cons x L ih =>
    by_cases c : k = x.1
    · simp [encT, putL, putT, c]
    · simp only [encT, List.map_cons, putL, putT, c, if_false] at *
      rw [ih]
theorem getT_put (L : TL) (k k' : List Int) (h : Hd) : getT (putT L k h) k' = if k' = k then some h else getT L k' := by
  induction L with
  | nil => by_cases c : k' = k <;> simp [getT, putT, c]
  | cons x L ih =>
    unfold putT
    by_cases c : k = x.1
    · rw [if_pos c]
      by_cases d : k' = x.1 <;> simp [getT, d, c]
    · rw [if_neg c]
      by_cases d : k' = x.1
      · have : k' ≠ k := fun e => c (by rw [← e, d])
        simp [getT, d]
        intro e; exact absurd e.symm c
      · simp only [getT, d, if_false, ih]
theorem putT_length (L : TL) (k : List Int) (h : Hd) : (putT L k h).length ≤ L.length + 1 := by
  induction L with
  | nil => simp [putT]
  | cons x L ih =>
    unfold putT
    split
    · simp
    · simp; omega
theorem mem_putT {L : TL} {k : List Int} {h : Hd} {x : List Int × Hd} (hx : x ∈ putT L k h) : x = (k, h) ∨ x ∈ L := by
  induction L with
  | nil => simp [putT] at hx; exact .inl hx
  | cons y L ih =>
    unfold putT at hx
    split at hx
    · rename_i c
      rcases List.mem_cons.1 hx with rfl | hx
      · exact .inl (by rw [c])
      · exact .inr (by simp [hx])
    · rcases List.mem_cons.1 hx with rfl | hx
      · exact .inr (by simp)
      · rcases ih hx with h | h
        · exact .inl h
        · exact .inr (by simp [h])
theorem mem_of_getT {L : TL} {k : List Int} {h : Hd} (e : getT L k = some h) : (k, h) ∈ L := by
  induction L with
  | nil => cases e
  | cons y L ih =>
    unfold getT at e
    split at e
    · rename_i c
      injection e with e
      subst e
      rw [c]
      simp
    · exact List.mem_cons_of_mem _ (ih e)
def Distinct : TL → Prop
  | [] => True
  | x :: L => (∀ y ∈ L, y.1 ≠ x.1) ∧ Distinct L
theorem distinct_put {L : TL} {k : List Int} {h : Hd} (d : Distinct L) : Distinct (putT L k h) := by
  induction L with
  | nil => exact ⟨by simp, trivial⟩
  | cons y L ih =>
    unfold putT
    split
    · exact ⟨d.1, d.2⟩
    · rename_i c
      refine ⟨fun z hz => ?_, ih d.2⟩
      rcases mem_putT hz with rfl | hz
      · exact c
      · exact d.1 z hz

/-- what is so of each head -/
def OkHd (hot n : Int) (k : List Int) (h : Hd) : Prop :=
  k = [h.f, h.a] ∧ 0 ≤ h.c ∧ h.c ≤ n ∧ 0 ≤ h.i ∧ h.i ≤ 3 ∧ (h.i = 0 → h.c < h.l) ∧
  ((h.fl = 0 ∧ h.l = hot ∧ h.i ≤ 2) ∨ (h.fl = 1 ∧ h.l = 2 * hot ∧ h.i ≤ 2) ∨ (h.fl = 2 ∧ h.l = 4 * hot ∧ h.i ≤ 2) ∨ (h.fl = 3 ∧ h.l = 8 * hot ∧ h.i = 3))
structure OkL (hot : Int) (n : Nat) (L : TL) : Prop where
  each : ∀ x ∈ L, OkHd hot n x.1 x.2
  few : L.length ≤ n
  once : Distinct L

theorem OkL.nil (hot : Int) (n : Nat) : OkL hot n [] := ⟨by simp, by simp, trivial⟩
theorem OkHd.mono {hot n m : Int} {k : List Int} {h : Hd} (o : OkHd hot n k h) (hn : n ≤ m) : OkHd hot m k h := by
  obtain ⟨h1, h2, h3, h4⟩ := o
  exact ⟨h1, h2, by omega, h4⟩
theorem OkL.put {hot : Int} {n : Nat} {L : TL} {k : List Int} {h : Hd} (o : OkL hot n L) (oh : OkHd hot (n + 1) k h) : OkL hot (n + 1) (putT L k h) :=
  ⟨fun x hx => by
    rcases mem_putT hx with rfl | hx
    · exact oh
    · exact (o.each x hx).mono (by omega), by have := putT_length L k h; have := o.few; omega, distinct_put o.once⟩
theorem OkL.more {hot : Int} {n : Nat} {L : TL} (o : OkL hot n L) : OkL hot (n + 1) L := ⟨fun x hx => (o.each x hx).mono (by omega), by have := o.few; omega, o.once⟩

def stepT (h : Hd) : Hd × Int :=
  if h.i = 0 then (if h.l ≤ h.c + 1 then ({ h with c := h.c + 1, i := 1 }, 1) else ({ h with c := h.c + 1 }, 0))
  else (h, if h.i = 2 ∨ h.i = 3 then h.i else 0)
theorem stepH_T (h : Hd) : stepH h.f h.a h.c h.l h.fl h.i = ((stepT h).1.v, .int .i64 (stepT h).2) := by
  unfold stepH stepT
  split
  · split
    · rfl
    · rename_i e _; simp only [Hd.v, e]
  · split <;> rfl
def takT (h : Hd) (good : Bool) : Hd :=
  if good then { h with i := 2 } else if 3 ≤ h.fl + 1 then { h with c := 0, l := 2 * h.l, fl := h.fl + 1, i := 3 } else { h with c := 0, l := 2 * h.l, fl := h.fl + 1, i := 0 }
theorem takenH_T (h : Hd) (good : Bool) : takenH h.f h.a h.c h.l h.fl good = (takT h good).v := by
  unfold takenH takT
  split
  · rfl
  · split <;> rfl

theorem OkHd.step {hot n : Int} {k : List Int} {h : Hd} (o : OkHd hot n k h) (hh : 0 < hot) : OkHd hot (n + 1) k (stepT h).1 := by
  obtain ⟨h1, h2, h3, h4, h5, h6, h7⟩ := o
  unfold stepT
  split
  · split
    · exact ⟨h1, by simp; omega, by simp; omega, by simp, by simp, by simp, by simp; omega⟩
    · exact ⟨h1, by simp; omega, by simp; omega, by simp; omega, by simp; omega, by simp; omega, by simp; omega⟩
  · exact ⟨h1, h2, by simp; omega, h4, h5, h6, h7⟩
theorem OkHd.tak {hot n : Int} {k : List Int} {h : Hd} (o : OkHd hot n k h) (hh : 0 < hot) (hi : h.i = 1) (good : Bool) : OkHd hot (n + 1) k (takT h good) := by
  obtain ⟨h1, h2, h3, h4, h5, h6, h7⟩ := o
  unfold takT
  split
  · exact ⟨h1, by simp; omega, by simp; omega, by simp, by simp, by simp, by simp; omega⟩
  · split
    · exact ⟨h1, by simp, by simp; omega, by simp, by simp, by simp, by simp; omega⟩
    · exact ⟨h1, by simp, by simp; omega, by simp, by simp, by simp; omega, by simp; omega⟩

def InR (fn a : Int) : Bool := decide (0 ≤ fn ∧ fn < 60 ∧ 0 ≤ a ∧ a < 600)
def newH (hot fn a : Int) : Hd := ⟨fn, a, 0, hot, 0, 0⟩
def headT (hot : Int) (L : TL) (fn a : Int) : Hd := (getT L [fn, a]).getD (newH hot fn a)
def turnT (hot : Int) (L : TL) (fn a : Int) : TL × Int := if InR fn a then (putT L [fn, a] (stepT (headT hot L fn a)).1, (stepT (headT hot L fn a)).2) else (L, 0)
def takenT (L : TL) (fn a : Int) (good : Bool) : TL × Int :=
  match getT L [fn, a] with
  | none => (L, 5)
  | some h => if h.i = 1 then (putT L [fn, a] (takT h good), 0) else (L, 8)

theorem ok_head {hot : Int} {n : Nat} {L : TL} (o : OkL hot n L) (hh : 0 < hot) (fn a : Int) : OkHd hot n [fn, a] (headT hot L fn a) := by
  unfold headT
  cases e : getT L [fn, a] with
  | none => exact ⟨rfl, by simp [newH], by simp [newH], by simp [newH], by simp [newH], by simp [newH]; omega, by simp [newH]⟩
  | some h => exact o.each _ (mem_of_getT e)
theorem ok_turn {hot : Int} {n : Nat} {L : TL} (o : OkL hot n L) (hh : 0 < hot) (fn a : Int) : OkL hot (n + 1) (turnT hot L fn a).1 := by
  unfold turnT
  split
  · exact o.put ((ok_head o hh fn a).step hh)
  · exact o.more
theorem ok_taken {hot : Int} {n : Nat} {L : TL} (o : OkL hot n L) (hh : 0 < hot) (fn a : Int) (good : Bool) : OkL hot (n + 1) (takenT L fn a good).1 := by
  unfold takenT
  split
  · exact o.more
  · rename_i h e
    split
    · rename_i hi
      exact o.put ((o.each _ (mem_of_getT e)).tak hh hi good)
    · exact o.more

theorem grown_below {w w' : World} {row : Option Nat} (h : Below w.heap.size w w') : w.grownBy w' row := ⟨h.os, h.tape, h.output, h.size, fun k hk _ => h.block k hk⟩
theorem heat_far {w w' : World} {hb mb m : Nat} {hot : Int} {L : List (List Int × Value)} (h : HeatAt w hb mb hot L) (g : w.grownBy w' (some m)) (h1 : hb ≠ m) (h2 : mb ≠ m) : HeatAt w' hb mb hot L := by
  obtain ⟨k1, k2⟩ := h
  have hlt : hb < w.heap.size := (Array.getElem?_eq_some_iff.1 k1).1
  exact ⟨(g.block hb hlt (fun e => h1 (by injection e))).trans k1, k2.kept g (fun e => h2 (by injection e))⟩
theorem heat_ne {w : World} {hb mb gb nb : Nat} {hot : Int} {L G : List (List Int × Value)} (h : HeatAt w hb mb hot L) (g : HeatAt w gb nb hot G) : hb ≠ nb := fun e => by
  obtain ⟨es, clock, h2, _⟩ := g.2
  have := h.1
  rw [e, h2] at this
  cases this

def TurnM (w : World) (hb mb : Nat) (hot : Int) (r : TL × Int) (e : Ending) (w' : World) : Prop :=
  (∃ er, e = .returned (.tuple #[.int .i64 r.2, .int .i64 er])) ∧ HeatAt w' hb mb hot (encT r.1) ∧ w.grownBy w' (some mb)
theorem turn_m1 (fn a : Int) (w : World) (hb mb : Nat) (hot : Int) (n : Nat) (L : TL) (h : HeatAt w hb mb hot (encT L)) (o : OkL hot n L) (hh : 0 < hot) (hn : getT L [fn, a] = none → L.length < 100) (hn2 : n ≤ 1000) :
    Calls Try.prog 9 #[.pointer (some ⟨hb, 0, none⟩), .int .i64 fn, .int .i64 a] w (TurnM w hb mb hot (turnT hot L fn a)) := by
  by_cases hr : 0 ≤ fn ∧ fn < 60 ∧ 0 ≤ a ∧ a < 600
  · obtain ⟨h1, h2, h3, h4⟩ := hr
    have e1 : turnT hot L fn a = (putT L [fn, a] (stepT (headT hot L fn a)).1, (stepT (headT hot L fn a)).2) := by
      unfold turnT; rw [if_pos (by simp [InR, h1, h2, h3, h4])]
    have ok := ok_head o hh fn a
    rw [e1]
    have hd : HeadIs (encT L) fn a hot (headT hot L fn a).f (headT hot L fn a).a (headT hot L fn a).c (headT hot L fn a).l (headT hot L fn a).fl (headT hot L fn a).i := by
      unfold HeadIs
      rw [lookL_enc]
      unfold headT
      cases e : getT L [fn, a] with
      | none => exact .inr ⟨rfl, by have := hn e; simp [encT]; omega, rfl, rfl, rfl, rfl, rfl, rfl⟩
      | some h => exact .inl rfl
    refine (turn_any fn a w hb mb hot (encT L) h h1 h2 h3 h4 _ _ _ _ _ _ hd ok.2.1 (by have := ok.2.2.1; omega)).mono fun e w' hT => ?_
    rw [stepH_T] at hT
    obtain ⟨he, hg, hA⟩ := hT
    rw [putL_enc] at hA
    exact ⟨⟨_, he⟩, heat_next h hg hA, hg⟩
  · have e1 : turnT hot L fn a = (L, 0) := by
      unfold turnT; rw [if_neg (by simpa [InR] using hr)]
    rw [e1]
    refine (turn_bad fn a w _ hr).mono fun e w' ⟨he, hw⟩ => ?_
    subst hw
    exact ⟨⟨_, he⟩, h, grown_below (Below.refl _ _)⟩

theorem turn_m (fn a : Int) (w : World) (hb mb : Nat) (hot : Int) (n : Nat) (L : TL) (h : HeatAt w hb mb hot (encT L)) (o : OkL hot n L) (hh : 0 < hot) (hn : n < 100) :
    Calls Try.prog 9 #[.pointer (some ⟨hb, 0, none⟩), .int .i64 fn, .int .i64 a] w (TurnM w hb mb hot (turnT hot L fn a)) :=
  turn_m1 fn a w hb mb hot n L h o hh (fun _ => by have := o.few; omega) (by omega)

/-- a turn, whatever it tells -/
def TurnS (w : World) (hb mb : Nat) (hot : Int) (n : Nat) (e : Ending) (w' : World) : Prop :=
  (∃ t er, e = .returned (.tuple #[.int .i64 t, .int .i64 er])) ∧ ∃ L', OkL hot n L' ∧ HeatAt w' hb mb hot (encT L') ∧ w.grownBy w' (some mb)
theorem turn_s (fn a : Int) (w : World) (hb mb : Nat) (hot : Int) (n : Nat) (L : TL) (h : HeatAt w hb mb hot (encT L)) (o : OkL hot n L) (hh : 0 < hot) (hn : n ≤ 1000) :
    Calls Try.prog 9 #[.pointer (some ⟨hb, 0, none⟩), .int .i64 fn, .int .i64 a] w (TurnS w hb mb hot (n + 1)) := by
  by_cases hf : getT L [fn, a] = none → L.length < 100
  · exact (turn_m1 fn a w hb mb hot n L h o hh hf hn).mono fun e w' ⟨⟨er, he⟩, hA, hg⟩ => ⟨⟨_, er, he⟩, _, ok_turn o hh fn a, hA, hg⟩
  · have h1 : getT L [fn, a] = none := Classical.byContradiction fun hc => hf fun h => absurd h hc
    have h2 : 100 ≤ L.length := Classical.byContradiction fun hc => hf fun _ => by omega
    by_cases hr : 0 ≤ fn ∧ fn < 60 ∧ 0 ≤ a ∧ a < 600
    · obtain ⟨r1, r2, r3, r4⟩ := hr
      refine (turn_full fn a w hb mb hot (encT L) h r1 r2 r3 r4 (by rw [lookL_enc, h1]; rfl) (by simpa [encT] using h2)).mono fun e w' ⟨he, hb'⟩ => ?_
      exact ⟨⟨_, _, he⟩, L, o.more, heat_below h hb', grown_below hb'⟩
    · refine (turn_bad fn a w _ hr).mono fun e w' ⟨he, hw⟩ => ?_
      subst hw
      exact ⟨⟨_, _, he⟩, L, o.more, h, grown_below (Below.refl _ _)⟩

def TakenM (w : World) (hb mb : Nat) (hot : Int) (r : TL × Int) (e : Ending) (w' : World) : Prop :=
  e = .returned (.int .i64 r.2) ∧ HeatAt w' hb mb hot (encT r.1) ∧ w.grownBy w' (some mb)
theorem taken_m (fn a : Int) (good : Bool) (w : World) (hb mb : Nat) (hot : Int) (n : Nat) (L : TL) (h : HeatAt w hb mb hot (encT L)) (o : OkL hot n L) (hh : 0 < hot) (hh2 : hot ≤ 100) :
    Calls Try.prog 10 #[.pointer (some ⟨hb, 0, none⟩), .int .i64 fn, .int .i64 a, .bool good] w (TakenM w hb mb hot (takenT L fn a good)) := by
  unfold takenT
  cases e : getT L [fn, a] with
  | none =>
    refine (taken_none fn a good w hb mb hot (encT L) h (by rw [lookL_enc, e]; rfl)).mono fun e w' ⟨he, hw⟩ => ?_
    exact ⟨he, heat_below h hw, grown_below hw⟩
  | some hd =>
    obtain ⟨k1, k2, k3, k4, k5, k6, k7⟩ := o.each _ (mem_of_getT e)
    have hl : lookL (encT L) [fn, a] = some hd.v := by rw [lookL_enc, e]; rfl
    dsimp only
    split
    · rename_i hi
      have hl' : lookL (encT L) [fn, a] = some (headV hd.f hd.a hd.c hd.l hd.fl 1) := by rw [hl, Hd.v, hi]
      refine (taken_asked fn a good w hb mb hot (encT L) h _ _ _ _ _ hl' (by simp at k7; omega) (by simp at k7; omega) (by simp at k7; omega) (by simp at k7; omega)).mono fun e w' hT => ?_
      rw [takenH_T] at hT
      obtain ⟨he, hg, hA⟩ := hT
      rw [putL_enc] at hA
      exact ⟨he, heat_next h hg hA, hg⟩
    · rename_i hi
      refine (taken_other fn a good w hb mb hot (encT L) h _ _ _ _ _ _ hl (by simpa using hi)).mono fun e w' ⟨he, hw⟩ => ?_
      exact ⟨he, heat_below h hw, grown_below hw⟩

/-! ### Heads do not hang on one another -/
theorem turn_own (hot : Int) (L G : TL) (fn a : Int) (h : getT L [fn, a] = getT G [fn, a]) :
    (turnT hot L fn a).2 = (turnT hot G fn a).2 ∧ getT (turnT hot L fn a).1 [fn, a] = getT (turnT hot G fn a).1 [fn, a] := by
  unfold turnT headT
  rw [h]
  split
  · simp [getT_put]
  · exact ⟨rfl, h⟩
theorem turn_other (hot : Int) (L : TL) (fn a f b : Int) (h : ¬ (f = fn ∧ b = a)) : getT (turnT hot L f b).1 [fn, a] = getT L [fn, a] := by
  unfold turnT
  split
  · rw [getT_put, if_neg (by simp; intro e1 e2; exact h ⟨e1.symm, e2.symm⟩)]
  · rfl
theorem taken_own (L G : TL) (fn a : Int) (good : Bool) (h : getT L [fn, a] = getT G [fn, a]) :
    (takenT L fn a good).2 = (takenT G fn a good).2 ∧ getT (takenT L fn a good).1 [fn, a] = getT (takenT G fn a good).1 [fn, a] := by
  unfold takenT
  rw [← h]
  cases e : getT L [fn, a] with
  | none => exact ⟨rfl, by dsimp only; rw [← h]⟩
  | some x =>
    dsimp only
    split
    · simp [getT_put]
    · exact ⟨rfl, h⟩
theorem taken_else (L : TL) (fn a f b : Int) (good : Bool) (h : ¬ (f = fn ∧ b = a)) : getT (takenT L f b good).1 [fn, a] = getT L [fn, a] := by
  unfold takenT
  split
  · rfl
  · split
    · rw [getT_put, if_neg (by simp; intro e1 e2; exact h ⟨e1.symm, e2.symm⟩)]
    · rfl
end Go.Proofs.Ytdcikaenepnliaa
