/- Contracts of package heat. -/
import Derived.Test.YtdcikaenepnliaaProg
import Derived.Test.YtdcikaenepnliaaMaps
namespace Go.Proofs.Ytdcikaenepnliaa
open Go.RowKit

theorem place_ok : intStruct Try.prog 52 2 = true := by kernel_rfl
theorem zero_head : ∀ w : World, (zeroValue 47).run Try.prog w = .ok (.agg #[.int .i64 0, .int .i64 0, .int .i64 0, .int .i64 0, .int .i64 0, .int .i64 0]) w := fun _ => by kernel_rfl

/-- a head -/
def headV (f a c l fl i : Int) : Value := .agg #[.int .i64 f, .int .i64 a, .int .i64 c, .int .i64 l, .int .i64 fl, .int .i64 i]

/-- the object -/
def HeatAt (w : World) (hb mb : Nat) (hot : Int) (L : List (List Int × Value)) : Prop :=
  w.heap[hb]? = some (.cells #[.int .i64 hot, .map (some mb)] 50 (0, 0)) ∧ MapI 2 w mb L

set_option maxHeartbeats 400000 in
theorem new_c (n : Int) (w : World) (h1 : 1 ≤ n) (h2 : n ≤ 1000) :
    Calls Try.prog 8 #[.int .i64 n] w fun e w' => e = .returned (.tuple #[.pointer (some ⟨w.heap.size + 1, 0, none⟩), .int .i64 0]) ∧
      w' = (w.alloc (.map #[] 0)).alloc (.cells #[.int .i64 n, .map (some w.heap.size)] 50) := by
  have hmm := @run_makeMap Try.prog
  go_enter Try.func8, Try.ntmps8
  go_wp2
  go_ret2
  exact ⟨rfl, rfl⟩

/-- what a turn does to a head, and what it tells -/
def stepH (f a c l fl i : Int) : Value × Value :=
  if i = 0 then (if l ≤ c + 1 then (headV f a (c + 1) l fl 1, .int .i64 1) else (headV f a (c + 1) l fl 0, .int .i64 0))
  else (headV f a c l fl i, if i = 2 ∨ i = 3 then .int .i64 i else .int .i64 0)

section
variable {f a c l fl i : Int}
theorem stepH_a (h : (i == 0) = true) (h2 : l ≤ c + 1) : stepH f a c l fl i = (headV f a (c + 1) l fl 1, .int .i64 1) := by simp at h; simp [stepH, h, h2]
theorem stepH_b (h : (i == 0) = true) (h2 : c + 1 < l) : stepH f a c l fl i = (headV f a (c + 1) l fl i, .int .i64 0) := by simp at h; have := Int.not_le.2 h2; simp [stepH, h, this]
theorem stepH_c (_ : (i == 0) = false) (h2 : (i == 2) = true) : stepH f a c l fl i = (headV f a c l fl i, .int .i64 i) := by simp at h2; simp [stepH, h2]
theorem stepH_d (_ : (i == 0) = false) (_ : (i == 2) = false) (h3 : (i == 3) = true) : stepH f a c l fl i = (headV f a c l fl i, .int .i64 i) := by simp at h3; simp [stepH, h3]
theorem stepH_e (h : (i == 0) = false) (h2 : (i == 2) = false) (h3 : (i == 3) = false) : stepH f a c l fl i = (headV f a c l fl i, .int .i64 0) := by simp at h h2 h3; simp [stepH, h, h2, h3]
end

def TurnRaw (w : World) (mb : Nat) (L : List (List Int × Value)) (key : Value) (r : Value × Value) (e : Ending) (w' : World) : Prop :=
  ∃ v t W, e = .returned (.tuple #[t, .int .i64 0]) ∧ w' = mapSet Try.prog 48 mb key v W ∧ Below w.heap.size w W ∧ MapI 2 W mb L ∧ r = (v, t)

def TurnPost (w : World) (mb : Nat) (L : List (List Int × Value)) (k : List Int) (r : Value × Value) (e : Ending) (w' : World) : Prop :=
  e = .returned (.tuple #[r.2, .int .i64 0]) ∧ w.grownBy w' (some mb) ∧ MapI 2 w' mb (putL L k r.1)

theorem grown_of_below {w W W' : World} {row : Option Nat} (h : Below w.heap.size w W) (g : W.grownBy W' row) : w.grownBy W' row :=
  ⟨g.os.trans h.os, g.tape.trans h.tape, g.output.trans h.output, Nat.le_trans h.size g.size, fun k hk hne => (g.block k (Nat.lt_of_lt_of_le hk h.size) hne).trans (h.block k hk)⟩

theorem turn_post {w w' : World} {mb : Nat} {L : List (List Int × Value)} (x y : Int) (r : Value × Value) {e : Ending} (h : TurnRaw w mb L (.agg #[.int .i64 x, .int .i64 y]) r e w') :
    TurnPost w mb L [x, y] r e w' := by
  obtain ⟨v, t, W, rfl, rfl, hW, hm, rfl⟩ := h
  obtain ⟨h1, h2⟩ := MapI.set_ (P := Try.prog) W Try.underlying48 place_ok [x, y] rfl v hm
  exact ⟨rfl, grown_of_below hW h2, h1⟩

set_option maxHeartbeats 400000 in
theorem turn_found (fn at_ : Int) (w : World) (hb mb : Nat) (hot : Int) (L : List (List Int × Value)) (h : HeatAt w hb mb hot L)
    (h1 : 0 ≤ fn) (h2 : fn < 60) (h3 : 0 ≤ at_) (h4 : at_ < 600) (f a c l fl i : Int) (hl : lookL L [fn, at_] = some (headV f a c l fl i))
    (hc : 0 ≤ c) (hc2 : c ≤ 1000000) :
    Calls Try.prog 9 #[.pointer (some ⟨hb, 0, none⟩), .int .i64 fn, .int .i64 at_] w (TurnPost w mb L [fn, at_] (stepH f a c l fl i)) := by
  refine Calls.mono ?_ (fun e w' h => turn_post (w := w) (mb := mb) (L := L) fn at_ (stepH f a c l fl i) h)
  obtain ⟨hh, hm⟩ := h
  have c0 : w.cell? ⟨hb, 0, none⟩ = some (.int .i64 hot) := by simp [World.cell?, hh]
  have c1 : w.cell? ⟨hb, 1, none⟩ = some (.map (some mb)) := by simp [World.cell?, hh]
  have hlt : hb < w.heap.size := (Array.getElem?_eq_some_iff.1 hh).1
  have hlk : ∀ w' : World, MapI 2 w' mb L → (Instr.lookup 48 (.map (some mb)) (.agg #[.int .i64 fn, .int .i64 at_]) true).run Try.prog w' = .ok (.tuple #[headV f a c l fl i, .bool true]) w' := fun w' hm' => by
    have := run_lookup_ints (P := Try.prog) w' Try.underlying48 place_ok zero_head [fn, at_] rfl hm'
    rw [hl] at this
    exact this
  have hup : ∀ (w' : World) (v : Value), MapI 2 w' mb L → (Instr.mapUpdate 48 (.map (some mb)) (.agg #[.int .i64 fn, .int .i64 at_]) v).run Try.prog w' = .ok () (mapSet Try.prog 48 mb (.agg #[.int .i64 fn, .int .i64 at_]) v w') := fun w' v hm' =>
    run_mapSet (P := Try.prog) w' Try.underlying48 place_ok [fn, at_] rfl v hm'
  have ha1 := fun o => hm.alloc o
  have ha2 := fun o p => (hm.alloc o).alloc p
  have hdr := fun w' => MapI.drew_iff w' 2 mb L
  have hds := fun w' a u => MapI.setCell_iff w' 2 mb L a u
  unfold headV at hlk
  clear hl hh
  go_enter Try.func9, Try.ntmps9
  go_wp2
  go_region
  all_goals go_wp2
  all_goals go_region
  all_goals go_wp2
  all_goals go_ret2
  all_goals refine ⟨_, _, _, rfl, rfl, ?_, ?_, ?_⟩
  all_goals first
    | (show stepH _ _ _ _ _ _ = _; dsimp only; first | exact stepH_a ‹_› ‹_› | exact stepH_b ‹_› ‹_› | exact stepH_c ‹_› ‹_› | exact stepH_d ‹_› ‹_› ‹_› | exact stepH_e ‹_› ‹_› ‹_›)
    | (show MapI _ _ _ _; simp only [hdr, hds]; exact ha2 _ _)
    | (repeat (first | exact Below.refl _ _ | refine Below.drew ?_ | refine Below.setCell ?_ (by simp) _ | refine Below.alloc ?_ (by simp) _))

set_option maxHeartbeats 400000 in
theorem turn_new (fn at_ : Int) (w : World) (hb mb : Nat) (hot : Int) (L : List (List Int × Value)) (h : HeatAt w hb mb hot L)
    (h1 : 0 ≤ fn) (h2 : fn < 60) (h3 : 0 ≤ at_) (h4 : at_ < 600) (hl : lookL L [fn, at_] = none) (hL : L.length < 100) :
    Calls Try.prog 9 #[.pointer (some ⟨hb, 0, none⟩), .int .i64 fn, .int .i64 at_] w (TurnPost w mb L [fn, at_] (stepH fn at_ 0 hot 0 0)) := by
  refine Calls.mono ?_ (fun e w' h => turn_post (w := w) (mb := mb) (L := L) fn at_ (stepH fn at_ 0 hot 0 0) h)
  obtain ⟨hh, hm⟩ := h
  have c0 : w.cell? ⟨hb, 0, none⟩ = some (.int .i64 hot) := by simp [World.cell?, hh]
  have c1 : w.cell? ⟨hb, 1, none⟩ = some (.map (some mb)) := by simp [World.cell?, hh]
  have hlt : hb < w.heap.size := (Array.getElem?_eq_some_iff.1 hh).1
  have hlk : ∀ w' : World, MapI 2 w' mb L → (Instr.lookup 48 (.map (some mb)) (.agg #[.int .i64 fn, .int .i64 at_]) true).run Try.prog w' = .ok (.tuple #[.agg #[.int .i64 0, .int .i64 0, .int .i64 0, .int .i64 0, .int .i64 0, .int .i64 0], .bool false]) w' := fun w' hm' => by
    have := run_lookup_ints (P := Try.prog) w' Try.underlying48 place_ok zero_head [fn, at_] rfl hm'
    rw [hl] at this
    exact this
  have hln : ∀ (w' : World) (ty : TypeId), MapI 2 w' mb L → (Builtin.len_ #[48] ty #[.map (some mb)]).run Try.prog w' = .ok (.int .i64 L.length) w' := fun w' ty hm' =>
    run_len_ints (P := Try.prog) w' Try.underlying48 ty hm'
  have hup : ∀ (w' : World) (v : Value), MapI 2 w' mb L → (Instr.mapUpdate 48 (.map (some mb)) (.agg #[.int .i64 fn, .int .i64 at_]) v).run Try.prog w' = .ok () (mapSet Try.prog 48 mb (.agg #[.int .i64 fn, .int .i64 at_]) v w') := fun w' v hm' =>
    run_mapSet (P := Try.prog) w' Try.underlying48 place_ok [fn, at_] rfl v hm'
  have ha1 := fun o => hm.alloc o
  have ha2 := fun o p => (hm.alloc o).alloc p
  have hdr := fun w' => MapI.drew_iff w' 2 mb L
  have hds := fun w' a u => MapI.setCell_iff w' 2 mb L a u
  have hL' : (L.length : Int) < 100 := by omega
  clear hl hh hL
  go_enter Try.func9, Try.ntmps9
  go_wp2
  go_region
  all_goals go_wp2
  all_goals go_region
  all_goals go_wp2
  all_goals go_ret2
  all_goals refine ⟨_, _, _, rfl, rfl, ?_, ?_, ?_⟩
  all_goals first
    | (show stepH _ _ _ _ _ _ = _; dsimp only; first | exact stepH_a rfl (by omega) | exact stepH_b rfl (by omega))
    | (show MapI _ _ _ _; simp only [hdr, hds]; exact ha2 _ _)
    | (repeat (first | exact Below.refl _ _ | refine Below.drew ?_ | refine Below.setCell ?_ (by simp) _ | refine Below.alloc ?_ (by simp) _))

set_option maxHeartbeats 400000 in
theorem turn_full (fn at_ : Int) (w : World) (hb mb : Nat) (hot : Int) (L : List (List Int × Value)) (h : HeatAt w hb mb hot L)
    (h1 : 0 ≤ fn) (h2 : fn < 60) (h3 : 0 ≤ at_) (h4 : at_ < 600) (hl : lookL L [fn, at_] = none) (hL : 100 ≤ L.length) :
    Calls Try.prog 9 #[.pointer (some ⟨hb, 0, none⟩), .int .i64 fn, .int .i64 at_] w fun e w' => e = .returned (.tuple #[.int .i64 0, .int .i64 2]) ∧ Below w.heap.size w w' := by
  obtain ⟨hh, hm⟩ := h
  have c0 : w.cell? ⟨hb, 0, none⟩ = some (.int .i64 hot) := by simp [World.cell?, hh]
  have c1 : w.cell? ⟨hb, 1, none⟩ = some (.map (some mb)) := by simp [World.cell?, hh]
  have hlt : hb < w.heap.size := (Array.getElem?_eq_some_iff.1 hh).1
  have hlk : ∀ w' : World, MapI 2 w' mb L → (Instr.lookup 48 (.map (some mb)) (.agg #[.int .i64 fn, .int .i64 at_]) true).run Try.prog w' = .ok (.tuple #[.agg #[.int .i64 0, .int .i64 0, .int .i64 0, .int .i64 0, .int .i64 0, .int .i64 0], .bool false]) w' := fun w' hm' => by
    have := run_lookup_ints (P := Try.prog) w' Try.underlying48 place_ok zero_head [fn, at_] rfl hm'
    rw [hl] at this
    exact this
  have hln : ∀ (w' : World) (ty : TypeId), MapI 2 w' mb L → (Builtin.len_ #[48] ty #[.map (some mb)]).run Try.prog w' = .ok (.int .i64 L.length) w' := fun w' ty hm' =>
    run_len_ints (P := Try.prog) w' Try.underlying48 ty hm'
  have ha1 := fun o => hm.alloc o
  have ha2 := fun o p => (hm.alloc o).alloc p
  have hdr := fun w' => MapI.drew_iff w' 2 mb L
  have hds := fun w' a u => MapI.setCell_iff w' 2 mb L a u
  have hL' : 100 ≤ (L.length : Int) := by omega
  clear hl hh hL
  go_enter Try.func9, Try.ntmps9
  go_wp2
  go_region
  all_goals go_wp2
  all_goals go_ret2
  all_goals refine ⟨rfl, ?_⟩
  all_goals (repeat (first | exact Below.refl _ _ | refine Below.drew ?_ | refine Below.setCell ?_ (by simp) _ | refine Below.alloc ?_ (by simp) _))

set_option maxHeartbeats 400000 in
theorem turn_bad (fn at_ : Int) (w : World) (p : Value) (h : ¬ (0 ≤ fn ∧ fn < 60 ∧ 0 ≤ at_ ∧ at_ < 600)) :
    Calls Try.prog 9 #[p, .int .i64 fn, .int .i64 at_] w fun e w' => e = .returned (.tuple #[.int .i64 0, .int .i64 1]) ∧ w' = w := by
  by_cases a1 : fn < 0
  · clear h
    go_enter Try.func9, Try.ntmps9
    go_wp2
    go_ret2
    exact ⟨rfl, rfl⟩
  by_cases a2 : 60 ≤ fn
  · clear h
    go_enter Try.func9, Try.ntmps9
    go_wp2
    go_ret2
    exact ⟨rfl, rfl⟩
  by_cases a3 : at_ < 0
  · clear h
    go_enter Try.func9, Try.ntmps9
    go_wp2
    go_ret2
    exact ⟨rfl, rfl⟩
  · have a4 : 600 ≤ at_ := by omega
    clear h
    go_enter Try.func9, Try.ntmps9
    go_wp2
    go_ret2
    exact ⟨rfl, rfl⟩

def TakenRaw (w : World) (mb : Nat) (L : List (List Int × Value)) (key : Value) (r : Value) (e : Ending) (w' : World) : Prop :=
  ∃ v W, e = .returned (.int .i64 0) ∧ w' = mapSet Try.prog 48 mb key v W ∧ Below w.heap.size w W ∧ MapI 2 W mb L ∧ r = v
def TakenPost (w : World) (mb : Nat) (L : List (List Int × Value)) (k : List Int) (r : Value) (e : Ending) (w' : World) : Prop :=
  e = .returned (.int .i64 0) ∧ w.grownBy w' (some mb) ∧ MapI 2 w' mb (putL L k r)
theorem taken_post {w w' : World} {mb : Nat} {L : List (List Int × Value)} (x y : Int) (r : Value) {e : Ending} (h : TakenRaw w mb L (.agg #[.int .i64 x, .int .i64 y]) r e w') :
    TakenPost w mb L [x, y] r e w' := by
  obtain ⟨v, W, rfl, rfl, hW, hm, rfl⟩ := h
  obtain ⟨h1, h2⟩ := MapI.set_ (P := Try.prog) W Try.underlying48 place_ok [x, y] rfl r hm
  exact ⟨rfl, grown_of_below hW h2, h1⟩

/-- what 'Taken' makes of a head that was asked for -/
def takenH (f a c l fl : Int) (good : Bool) : Value :=
  if good then headV f a c l fl 2 else if 3 ≤ fl + 1 then headV f a 0 (2 * l) (fl + 1) 3 else headV f a 0 (2 * l) (fl + 1) 0
theorem takenH_a (f a c l fl : Int) : takenH f a c l fl true = headV f a c l fl 2 := rfl
theorem takenH_b (f a c l fl : Int) (h : 3 ≤ fl + 1) : takenH f a c l fl false = headV f a 0 (2 * l) (fl + 1) 3 := by simp [takenH, h]
theorem takenH_c (f a c l fl : Int) (h : fl + 1 < 3) : takenH f a c l fl false = headV f a 0 (2 * l) (fl + 1) 0 := by have := Int.not_le.2 h; simp [takenH, this]

set_option maxHeartbeats 400000 in
theorem taken_asked (fn at_ : Int) (good : Bool) (w : World) (hb mb : Nat) (hot : Int) (L : List (List Int × Value)) (h : HeatAt w hb mb hot L)
    (f a c l fl : Int) (hl : lookL L [fn, at_] = some (headV f a c l fl 1))
    (hc : 0 ≤ l) (hc2 : l ≤ 1000000) (hf : 0 ≤ fl) (hf2 : fl ≤ 1000000) :
    Calls Try.prog 10 #[.pointer (some ⟨hb, 0, none⟩), .int .i64 fn, .int .i64 at_, .bool good] w (TakenPost w mb L [fn, at_] (takenH f a c l fl good)) := by
  refine Calls.mono ?_ (fun e w' h => taken_post (w := w) (mb := mb) (L := L) fn at_ (takenH f a c l fl good) h)
  obtain ⟨hh, hm⟩ := h
  have c0 : w.cell? ⟨hb, 0, none⟩ = some (.int .i64 hot) := by simp [World.cell?, hh]
  have c1 : w.cell? ⟨hb, 1, none⟩ = some (.map (some mb)) := by simp [World.cell?, hh]
  have hlt : hb < w.heap.size := (Array.getElem?_eq_some_iff.1 hh).1
  have hlk : ∀ w' : World, MapI 2 w' mb L → (Instr.lookup 48 (.map (some mb)) (.agg #[.int .i64 fn, .int .i64 at_]) true).run Try.prog w' = .ok (.tuple #[headV f a c l fl 1, .bool true]) w' := fun w' hm' => by
    have := run_lookup_ints (P := Try.prog) w' Try.underlying48 place_ok zero_head [fn, at_] rfl hm'
    rw [hl] at this
    exact this
  have hup : ∀ (w' : World) (v : Value), MapI 2 w' mb L → (Instr.mapUpdate 48 (.map (some mb)) (.agg #[.int .i64 fn, .int .i64 at_]) v).run Try.prog w' = .ok () (mapSet Try.prog 48 mb (.agg #[.int .i64 fn, .int .i64 at_]) v w') := fun w' v hm' =>
    run_mapSet (P := Try.prog) w' Try.underlying48 place_ok [fn, at_] rfl v hm'
  have ha1 := fun o => hm.alloc o
  have ha2 := fun o p => (hm.alloc o).alloc p
  have hdr := fun w' => MapI.drew_iff w' 2 mb L
  have hds := fun w' a u => MapI.setCell_iff w' 2 mb L a u
  unfold headV at hlk
  clear hl hh
  cases good
  all_goals
    go_enter Try.func10, Try.ntmps10
    go_wp2
    go_region
    all_goals go_wp2
    all_goals go_region
    all_goals go_wp2
    all_goals go_ret
    all_goals refine ⟨_, _, rfl, rfl, ?_, ?_, ?_⟩
    all_goals first
      | ((try dsimp only); first | exact takenH_a f a c l fl | exact takenH_b f a c l fl (by assumption) | exact takenH_c f a c l fl (by assumption))
      | (show MapI _ _ _ _; simp only [hdr, hds]; exact ha2 _ _)
      | (repeat (first | exact Below.refl _ _ | refine Below.drew ?_ | refine Below.setCell ?_ (by simp) _ | refine Below.alloc ?_ (by simp) _))

set_option maxHeartbeats 400000 in
theorem taken_none (fn at_ : Int) (good : Bool) (w : World) (hb mb : Nat) (hot : Int) (L : List (List Int × Value)) (h : HeatAt w hb mb hot L)
    (hl : lookL L [fn, at_] = none) :
    Calls Try.prog 10 #[.pointer (some ⟨hb, 0, none⟩), .int .i64 fn, .int .i64 at_, .bool good] w fun e w' => e = .returned (.int .i64 5) ∧ Below w.heap.size w w' := by
  obtain ⟨hh, hm⟩ := h
  have c0 : w.cell? ⟨hb, 0, none⟩ = some (.int .i64 hot) := by simp [World.cell?, hh]
  have c1 : w.cell? ⟨hb, 1, none⟩ = some (.map (some mb)) := by simp [World.cell?, hh]
  have hlt : hb < w.heap.size := (Array.getElem?_eq_some_iff.1 hh).1
  have hlk : ∀ w' : World, MapI 2 w' mb L → (Instr.lookup 48 (.map (some mb)) (.agg #[.int .i64 fn, .int .i64 at_]) true).run Try.prog w' = .ok (.tuple #[.agg #[.int .i64 0, .int .i64 0, .int .i64 0, .int .i64 0, .int .i64 0, .int .i64 0], .bool false]) w' := fun w' hm' => by
    have := run_lookup_ints (P := Try.prog) w' Try.underlying48 place_ok zero_head [fn, at_] rfl hm'
    rw [hl] at this
    exact this
  have ha1 := fun o => hm.alloc o
  have ha2 := fun o p => (hm.alloc o).alloc p
  have hdr := fun w' => MapI.drew_iff w' 2 mb L
  have hds := fun w' a u => MapI.setCell_iff w' 2 mb L a u
  clear hl hh
  go_enter Try.func10, Try.ntmps10
  go_wp2
  go_region
  all_goals go_wp2
  all_goals go_ret
  all_goals refine ⟨rfl, ?_⟩
  all_goals (repeat (first | exact Below.refl _ _ | refine Below.drew ?_ | refine Below.setCell ?_ (by simp) _ | refine Below.alloc ?_ (by simp) _))

set_option maxHeartbeats 400000 in
theorem taken_other (fn at_ : Int) (good : Bool) (w : World) (hb mb : Nat) (hot : Int) (L : List (List Int × Value)) (h : HeatAt w hb mb hot L)
    (f a c l fl i : Int) (hl : lookL L [fn, at_] = some (headV f a c l fl i)) (hi : (i == 1) = false) :
    Calls Try.prog 10 #[.pointer (some ⟨hb, 0, none⟩), .int .i64 fn, .int .i64 at_, .bool good] w fun e w' => e = .returned (.int .i64 8) ∧ Below w.heap.size w w' := by
  obtain ⟨hh, hm⟩ := h
  have c0 : w.cell? ⟨hb, 0, none⟩ = some (.int .i64 hot) := by simp [World.cell?, hh]
  have c1 : w.cell? ⟨hb, 1, none⟩ = some (.map (some mb)) := by simp [World.cell?, hh]
  have hlt : hb < w.heap.size := (Array.getElem?_eq_some_iff.1 hh).1
  have hlk : ∀ w' : World, MapI 2 w' mb L → (Instr.lookup 48 (.map (some mb)) (.agg #[.int .i64 fn, .int .i64 at_]) true).run Try.prog w' = .ok (.tuple #[headV f a c l fl i, .bool true]) w' := fun w' hm' => by
    have := run_lookup_ints (P := Try.prog) w' Try.underlying48 place_ok zero_head [fn, at_] rfl hm'
    rw [hl] at this
    exact this
  have ha1 := fun o => hm.alloc o
  have ha2 := fun o p => (hm.alloc o).alloc p
  have hdr := fun w' => MapI.drew_iff w' 2 mb L
  have hds := fun w' a u => MapI.setCell_iff w' 2 mb L a u
  unfold headV at hlk
  have hi2 : (i != 1) = true := by simp at hi ⊢; exact hi
  clear hl hh
  go_enter Try.func10, Try.ntmps10
  go_wp2
  go_region
  all_goals go_wp2
  all_goals go_ret
  all_goals refine ⟨rfl, ?_⟩
  all_goals (repeat (first | exact Below.refl _ _ | refine Below.drew ?_ | refine Below.setCell ?_ (by simp) _ | refine Below.alloc ?_ (by simp) _))
end Go.Proofs.Ytdcikaenepnliaa
