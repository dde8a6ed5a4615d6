/- HeatBounded: the walk. -/
import Derived.Test.YtdcikaenepnliaaHeat
namespace Go.Proofs.Ytdcikaenepnliaa
open Go.RowKit

/-- the head at a key: there, or to be made new -/
def HeadIs (L : List (List Int × Value)) (fn at_ hot f a c l fl i : Int) : Prop :=
  lookL L [fn, at_] = some (headV f a c l fl i) ∨ (lookL L [fn, at_] = none ∧ L.length < 100 ∧ f = fn ∧ a = at_ ∧ c = 0 ∧ l = hot ∧ fl = 0 ∧ i = 0)

theorem turn_any (fn at_ : Int) (w : World) (hb mb : Nat) (hot : Int) (L : List (List Int × Value)) (h : HeatAt w hb mb hot L)
    (h1 : 0 ≤ fn) (h2 : fn < 60) (h3 : 0 ≤ at_) (h4 : at_ < 600) (f a c l fl i : Int) (hl : HeadIs L fn at_ hot f a c l fl i)
    (hc : 0 ≤ c) (hc2 : c ≤ 1000000) :
    Calls Try.prog 9 #[.pointer (some ⟨hb, 0, none⟩), .int .i64 fn, .int .i64 at_] w (TurnPost w mb L [fn, at_] (stepH f a c l fl i)) := by
  rcases hl with hl | ⟨hl, hL, rfl, rfl, rfl, rfl, rfl, rfl⟩
  · exact turn_found fn at_ w hb mb hot L h h1 h2 h3 h4 f a c l fl i hl hc hc2
  · exact turn_new f a w hb mb l L h h1 h2 h3 h4 hl hL

theorem heat_next {w w' : World} {hb mb : Nat} {hot : Int} {L L' : List (List Int × Value)} (h : HeatAt w hb mb hot L) (g : w.grownBy w' (some mb)) (m : MapI 2 w' mb L') : HeatAt w' hb mb hot L' := by
  obtain ⟨h1, es, clock, h2, _⟩ := h
  have hlt : hb < w.heap.size := (Array.getElem?_eq_some_iff.1 h1).1
  have hne : hb ≠ mb := fun e => by rw [e, h2] at h1; cases h1
  exact ⟨(g.block hb hlt (fun e => hne (by injection e))).trans h1, m⟩

theorem heat_below {w w' : World} {hb mb : Nat} {hot : Int} {L : List (List Int × Value)} (h : HeatAt w hb mb hot L) (g : Below w.heap.size w w') : HeatAt w' hb mb hot L := by
  obtain ⟨h1, h2⟩ := h
  have hlt : hb < w.heap.size := (Array.getElem?_eq_some_iff.1 h1).1
  have hlt2 := h2.lt
  obtain ⟨es, clock, h3, h4⟩ := h2
  exact ⟨(g.block hb hlt).trans h1, es, clock, (g.block mb hlt2).trans h3, h4⟩

theorem heat_made (w : World) (n : Int) : HeatAt ((w.alloc (.map #[] 0)).alloc (.cells #[.int .i64 n, .map (some w.heap.size)] 50)) (w.heap.size + 1) w.heap.size n [] := by
  refine ⟨?_, #[], 0, ?_, trivial, by simp, by simp [Stamps]⟩
  · show ((w.heap.push _).push _)[w.heap.size + 1]? = _
    rw [Array.getElem?_push, if_pos (by simp)]
  · show ((w.heap.push _).push _)[w.heap.size]? = _
    rw [Array.getElem?_push]
    simp

theorem heat_made_below (w : World) (n : Int) (B : Nat) (hB : B ≤ w.heap.size) : Below B w ((w.alloc (.map #[] 0)).alloc (.cells #[.int .i64 n, .map (some w.heap.size)] 50)) :=
  ((Below.refl _ _).alloc hB _).alloc (by simp; omega) _

theorem below_of_grown {B : Nat} {w w' : World} {mb : Nat} (h : w.grownBy w' (some mb)) (h1 : B ≤ w.heap.size) (h2 : B ≤ mb) : Below B w w' :=
  (Below.refl B w).grown h h1 (fun k hk => by injection hk with hk; omega)

theorem new_h (n : Int) (w : World) (h1 : 1 ≤ n) (h2 : n ≤ 1000) :
    Calls Try.prog 8 #[.int .i64 n] w fun e w' => ∃ hb mb, e = .returned (.tuple #[.pointer (some ⟨hb, 0, none⟩), .int .i64 0]) ∧ HeatAt w' hb mb n [] ∧ Below w.heap.size w w' ∧ w.heap.size ≤ mb :=
  (new_c n w h1 h2).mono fun e w' ⟨he, hw⟩ => ⟨w.heap.size + 1, w.heap.size, he, by rw [hw]; exact heat_made w n, by rw [hw]; exact heat_made_below w n _ (Nat.le_refl _), Nat.le_refl _⟩

def TurnH (w : World) (hb mb : Nat) (hot : Int) (L : List (List Int × Value)) (k : List Int) (r : Value × Value) (e : Ending) (w' : World) : Prop :=
  e = .returned (.tuple #[r.2, .int .i64 0]) ∧ HeatAt w' hb mb hot (putL L k r.1) ∧ ∀ B, B ≤ w.heap.size → B ≤ mb → Below B w w'

theorem turn_h (fn at_ : Int) (w : World) (hb mb : Nat) (hot : Int) (L : List (List Int × Value)) (h : HeatAt w hb mb hot L)
    (h1 : 0 ≤ fn) (h2 : fn < 60) (h3 : 0 ≤ at_) (h4 : at_ < 600) (f a c l fl i : Int) (hl : HeadIs L fn at_ hot f a c l fl i)
    (hc : 0 ≤ c) (hc2 : c ≤ 1000000) :
    Calls Try.prog 9 #[.pointer (some ⟨hb, 0, none⟩), .int .i64 fn, .int .i64 at_] w (TurnH w hb mb hot L [fn, at_] (stepH f a c l fl i)) :=
  (turn_any fn at_ w hb mb hot L h h1 h2 h3 h4 f a c l fl i hl hc hc2).mono fun _ _ ⟨he, hg, hm⟩ => ⟨he, heat_next h hg hm, fun _ b1 b2 => below_of_grown hg b1 b2⟩

def TakenH (w : World) (hb mb : Nat) (hot : Int) (L : List (List Int × Value)) (k : List Int) (r : Value) (e : Ending) (w' : World) : Prop :=
  e = .returned (.int .i64 0) ∧ HeatAt w' hb mb hot (putL L k r) ∧ ∀ B, B ≤ w.heap.size → B ≤ mb → Below B w w'

theorem taken_h (fn at_ : Int) (good : Bool) (w : World) (hb mb : Nat) (hot : Int) (L : List (List Int × Value)) (h : HeatAt w hb mb hot L)
    (f a c l fl : Int) (hl : lookL L [fn, at_] = some (headV f a c l fl 1))
    (hc : 0 ≤ l) (hc2 : l ≤ 1000000) (hf : 0 ≤ fl) (hf2 : fl ≤ 1000000) :
    Calls Try.prog 10 #[.pointer (some ⟨hb, 0, none⟩), .int .i64 fn, .int .i64 at_, .bool good] w (TakenH w hb mb hot L [fn, at_] (takenH f a c l fl good)) :=
  (taken_asked fn at_ good w hb mb hot L h f a c l fl hl hc hc2 hf hf2).mono fun _ _ ⟨he, hg, hm⟩ => ⟨he, heat_next h hg hm, fun _ b1 b2 => below_of_grown hg b1 b2⟩

theorem step00 : stepH 0 3 0 2 0 0 = (headV 0 3 1 2 0 0, .int .i64 0) := by simp [stepH]
theorem step01 : stepH 0 3 1 2 0 0 = (headV 0 3 2 2 0 1, .int .i64 1) := by simp [stepH]

theorem look_put_self (L : List (List Int × Value)) (k : List Int) (v : Value) : lookL (putL L k v) k = some v := by rw [lookL_put, if_pos rfl]

def Heated (w : World) (e : Ending) (w' : World) : Prop := e = .returned (.bool true) ∧ Below w.heap.size w w'

set_option maxHeartbeats 400000 in
theorem heated_c (w : World) : Calls Try.prog 11 #[] w (Heated w) := by
  go_enter Try.func11, Try.ntmps11
  go_wp2_with fail
  refine (new_h 2 _ (by omega) (by omega)).mono ?_
  rintro e w1 ⟨hb, mb, rfl, h1, b1, hmb⟩
  have H1 := Lib.hid h1
  have B1 := Lib.hid b1
  have hs1 := b1.size
  clear h1 b1
  go_wp2_with fail
  refine (turn_h 0 3 w1 hb mb 2 [] H1.out (by omega) (by omega) (by omega) (by omega) 0 3 0 2 0 0 (.inr ⟨rfl, by decide, rfl, rfl, rfl, rfl, rfl, rfl⟩) (by omega) (by omega)).mono ?_
  rw [step00]
  rintro e w2 ⟨rfl, h2, b2⟩
  have H2 := Lib.hid h2
  have B2 := Lib.hid (B1.out.trans (b2 _ hs1 hmb))
  have hs2 := B2.out.size
  clear h2 b2
  go_wp2_with fail
  refine (turn_h 0 3 w2 hb mb 2 _ H2.out (by omega) (by omega) (by omega) (by omega) 0 3 1 2 0 0 (.inl (look_put_self _ _ _)) (by omega) (by omega)).mono ?_
  rw [step01]
  rintro e w3 ⟨rfl, h3, b3⟩
  have H3 := Lib.hid h3
  have B3 := Lib.hid (B2.out.trans (b3 _ hs2 hmb))
  have hs3 := B3.out.size
  clear h3 b3
  go_wp2_with fail
  refine (taken_h 0 3 true w3 hb mb 2 _ H3.out 0 3 2 2 0 (look_put_self _ _ _) (by omega) (by omega) (by omega) (by omega)).mono ?_
  rintro e w4 ⟨rfl, h4, b4⟩
  have B4 := Lib.hid (B3.out.trans (b4 _ hs3 hmb))
  clear h4 b4
  go_wp2_with fail
  go_ret
  exact ⟨rfl, B4.out⟩
end Go.Proofs.Ytdcikaenepnliaa
