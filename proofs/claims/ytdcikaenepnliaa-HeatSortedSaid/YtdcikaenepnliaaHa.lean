/- HeatApart: the walk. -/
import Derived.Test.YtdcikaenepnliaaHm
import Derived.Test.YtdcikaenepnliaaHc
import Derived.Test.YtdcikaenepnliaaFlat
import Derived.WalkLawsBesides
import Derived.BigQuiet
import Derived.Deep.QuietTactic
namespace Go.Proofs.Ytdcikaenepnliaa
open Go.RowKit

theorem below_far {B : Nat} {w w' : World} {mb : Nat} (g : w.grownBy w' (some mb)) (h1 : B ≤ w.heap.size) (h2 : B ≤ mb) : Below B w w' := below_of_grown g h1 h2

theorem rows3 {w : World} {B : Nat} {A : Option Addr} {xss : List (List Int)} (h : IntRows w B 3 A xss) {k : Nat} (hk : k < xss.length) :
    ∃ b off x y z, A = some ⟨b, off, none⟩ ∧ b < B ∧ xss[k]? = some [x, y, z] ∧ w.cell? ⟨b, off + k * 3, none⟩ = some (.int .i64 x) ∧ w.cell? ⟨b, off + k * 3 + 1, none⟩ = some (.int .i64 y) ∧ w.cell? ⟨b, off + k * 3 + 2, none⟩ = some (.int .i64 z) := by
  obtain ⟨h1, h2⟩ := h
  obtain ⟨b, off, hA, hb, hc⟩ := h2 (by omega)
  have e0 : xss[k]? = some xss[k] := List.getElem?_eq_getElem hk
  have hl := (h1 xss[k] (List.getElem_mem hk)).1
  generalize xss[k] = xs at *
  match xs, hl with
  | [x, y, z], _ => exact ⟨b, off, x, y, z, hA, hb, e0, hc k 0 _ x e0 rfl, hc k 1 _ y e0 rfl, hc k 2 _ z e0 rfl⟩

/-- what holds at the head of HeatApart's loop -/
def HaRel (w : World) (hb mb gb nb : Nat) (hot f0 a0 : Int) (kn : Nat) (wr : World) : Prop :=
  ∃ L G : TL, HeatAt wr hb mb hot (encT L) ∧ HeatAt wr gb nb hot (encT G) ∧ OkL hot kn L ∧ OkL hot kn G ∧ getT L [f0, a0] = getT G [f0, a0] ∧ Below w.heap.size w wr

theorem ha_next {w wr w2 : World} {hb mb gb nb : Nat} {hot f0 a0 : Int} {kn : Nat} {L G L' : TL} (h2 : HeatAt wr gb nb hot (encT G)) (o : OkL hot (kn + 1) L') (og : OkL hot kn G)
    (hA : HeatAt w2 hb mb hot (encT L')) (g : wr.grownBy w2 (some mb)) (b : Below w.heap.size w wr) (hmb : w.heap.size ≤ mb) (hne : nb ≠ mb) (hne2 : gb ≠ mb) (e : getT L' [f0, a0] = getT G [f0, a0]) :
    HaRel w hb mb gb nb hot f0 a0 (kn + 1) w2 :=
  ⟨L', G, hA, heat_far h2 g hne2 hne, o, og.more, e, b.trans (below_of_grown g b.size hmb)⟩

theorem heat_alloc {w : World} {hb mb : Nat} {hot : Int} {L : List (List Int × Value)} (h : HeatAt w hb mb hot L) (o : Obj) : HeatAt (w.alloc o) hb mb hot L :=
  heat_below h ((Below.refl _ _).alloc (Nat.le_refl _) o)

theorem cell_two_at (w : World) (x y z : Value) (t : TypeId) : (w.alloc (.cells #[x, y, z] t)).cell? ⟨w.heap.size, 2, none⟩ = some z := by
  show World.cell? { w with heap := w.heap.push (.cells #[x, y, z] t) } _ = _
  simp [World.cell?]
theorem below_drewN {B : Nat} {a w : World} (h : Below B a w) (n : Nat) : Below B a (w.drewN n) := ⟨h.os, h.tape, h.output, h.size, h.block⟩
theorem cell_kept {w w' : World} {mb b off : Nat} {v : Value} (g : w.grownBy w' (some mb)) (hne : b ≠ mb) (h : w.cell? ⟨b, off, none⟩ = some v) : w'.cell? ⟨b, off, none⟩ = some v :=
  g.cell h (fun e => hne (by injection e))

set_option maxRecDepth 100000 in
set_option maxHeartbeats 4000000 in
theorem ha_walk (hot0 : Int) (A : Option Addr) (len cap : Nat) (xss : List (List Int)) (w : World) (hlc : len ≤ cap) (hcm : cap ≤ maxLen) (hlen : xss.length = len) (hrows : IntRows w w.heap.size 3 A xss) :
    Calls Try.prog 4 #[.int .i64 hot0, .slice A len cap] w (Heated w) := by
  have hh := restM_bd hot0 20 (by omega)
  unfold maxLen at hcm
  have HL := Lib.hid hlen
  have HR := Lib.hid hrows
  clear hlen hrows
  go_enter Try.func4, Try.ntmps4
  go_wp2_with (go_at_call 7; refine (rest_c _ _ _ (by omega) (by omega)).mono ?_; rintro e w' ⟨rfl, rfl⟩)
  generalize restM hot0 20 = hot at *
  refine (new_h (hot + 1) _ (by omega) (by omega)).mono ?_
  rintro e w1 ⟨hb, mb, rfl, h1, b1, hmb⟩
  have H1 := Lib.hid h1
  have B1 := Lib.hid b1
  have hs1 := b1.size
  clear h1 b1
  go_wp2_with fail
  refine (new_h (hot + 1) _ (by omega) (by omega)).mono ?_
  rintro e w2 ⟨gb, nb, rfl, h2, b2, hnb⟩
  have H2 := Lib.hid h2
  have H1' := Lib.hid (heat_below H1.out b2)
  have B2 := Lib.hid (B1.out.trans (b2.mono hs1))
  have hs2 := b2.size
  have hmbnb := Lib.hid (Nat.lt_of_lt_of_le H1.out.2.lt hnb)
  have hnb' : w.heap.size ≤ nb := Nat.le_trans hs1 hnb
  clear h2 b2
  rcases Nat.eq_zero_or_pos len with hz | hpos
  · subst hz
    go_wp2_with fail
    go_loopw [64] (fun k wr => k = .int .i64 0 ∧ wr = w2) (fun _ _ => 0)
    case atStart => exact ⟨rfl, rfl⟩
    case round =>
      obtain ⟨rfl, rfl⟩ := hrel
      go_wp2_with fail
      refine (heated_c _).mono ?_
      rintro e w3 ⟨rfl, b3⟩
      have B3 := Lib.hid b3
      clear b3
      go_wp2_with fail
      go_ret
      exact ⟨rfl, B2.out.trans (B3.out.mono (by omega))⟩
  · obtain ⟨b0, off0, f0, a0, z0, rfl, hb0, hx0, hc0, hc1, hc2⟩ := rows3 HR.out (k := 0) (by have := HL.out; omega)
    clear hx0
    have d0 := (B2.out.cell (p := ⟨b0, off0 + 0 * 3, none⟩) hb0).trans hc0
    have d1 := (B2.out.cell (p := ⟨b0, off0 + 0 * 3 + 1, none⟩) hb0).trans hc1
    clear hc0 hc1 hc2
    simp only [Nat.zero_mul, Nat.add_zero] at d0 d1
    by_cases hc : len ≤ 90
    all_goals
      go_wp2_with fail
      go_quiet (fail)
      go_wp2_with fail
    all_goals
      go_loopw [64] (fun k wr => ∃ kn : Nat, k = .int .i64 kn ∧ kn ≤ len ∧ kn ≤ 90 ∧ HaRel w hb mb gb nb (hot + 1) f0 a0 kn wr) (fun k _ => 90 - (intOf k).toNat)
    case atStart => exact ⟨0, rfl, by omega, by omega, [], [], H1'.out, H2.out, OkL.nil _ _, OkL.nil _ _, rfl, below_drewN B2.out _⟩
    case atStart => exact ⟨0, rfl, by omega, by omega, [], [], H1'.out, H2.out, OkL.nil _ _, OkL.nil _ _, rfl, below_drewN B2.out _⟩
    all_goals
      obtain ⟨kn, rfl, hk1, hk2, hrel⟩ := hrel
      by_cases hend : kn < len ∧ kn < 90
      · obtain ⟨hend1, hend2⟩ := hend
        obtain ⟨L, G, h3, h4, o1, o2, heq, b3⟩ := hrel
        obtain ⟨b0', off0', f, a, z, hAe, hb1, hx1, e0, e1, e2⟩ := rows3 HR.out (k := kn) (by have := HL.out; omega)
        injection hAe with hAe
        injection hAe with hAe1 hAe2
        subst hAe1; subst hAe2
        clear hx1
        have g0 := (b3.cell (p := ⟨b0, off0 + kn * 3, none⟩) hb0).trans e0
        have g1 := (b3.cell (p := ⟨b0, off0 + kn * 3 + 1, none⟩) hb0).trans e1
        have g2 := (b3.cell (p := ⟨b0, off0 + kn * 3 + 2, none⟩) hb0).trans e2
        have hs3 := b3.size
        clear e0 e1 e2
        by_cases hz : z = 0
        · subst hz
          have H3 := Lib.hid (heat_alloc h3 (.cells #[.int .i64 f, .int .i64 a, .int .i64 0] 33))
          have H4 := Lib.hid (heat_alloc h4 (.cells #[.int .i64 f, .int .i64 a, .int .i64 0] 33))
          have HE := Lib.hid heq
          have B3 := Lib.hid (b3.alloc b3.size (.cells #[.int .i64 f, .int .i64 a, .int .i64 0] 33))
          have N1 := Lib.hid (heat_ne h3 h4)
          have N2 := Lib.hid (heat_ne h4 h3)
          have N3 : Hid (mb ≠ nb) := Lib.hid (by have := hmbnb.out; omega)
          have N4 : Hid (wr.heap.size ≠ mb) := Lib.hid (by have := h3.2.lt; omega)
          have Z0 := Lib.hid (cell_two_at wr (.int .i64 f) (.int .i64 a) (.int .i64 0) 33)
          clear h3 h4 heq b3
          by_cases hown : f = f0 ∧ a = a0
          · obtain ⟨rfl, rfl⟩ := hown
            go_wp2_with fail
            refine (turn_m f a _ hb mb (hot + 1) kn L H3.out o1 (by omega) (by omega)).mono ?_
            rintro e w4 ⟨⟨er, rfl⟩, h5, g5⟩
            have HT := Lib.hid (turn_own (hot + 1) L G f a HE.out)
            have H5 := Lib.hid h5
            have H6 := Lib.hid (heat_far H4.out g5 N2.out (fun e => N3.out e.symm))
            have B5 := Lib.hid (B3.out.trans (below_of_grown g5 B3.out.size hmb))
            have hs5 := B5.out.size
            clear h5 g5
            go_wp2_with fail
            refine (turn_m f a _ gb nb (hot + 1) kn G H6.out o2 (by omega) (by omega)).mono ?_
            rintro e w5 ⟨⟨er', rfl⟩, h7, g7⟩
            have HN : Hid (HaRel w hb mb gb nb (hot + 1) f a (kn + 1) w5) := Lib.hid ⟨_, _, heat_far H5.out g7 N1.out N3.out, h7, ok_turn o1 (by omega) f a, ok_turn o2 (by omega) f a, HT.out.2, B5.out.trans (below_of_grown g7 hs5 hnb')⟩
            clear h7 g7
            have ht := HT.out.1
            go_wp2_with fail
            go_roundw
            case rel => exact ⟨kn + 1, by go_num, by omega, by omega, HN.out⟩
            case measure => simp [intOf]; omega
          · have HO := Lib.hid hown
            have HN : ∀ w4, HeatAt w4 hb mb (hot + 1) (encT (turnT (hot + 1) L f a).1) → (wr.alloc (.cells #[.int .i64 f, .int .i64 a, .int .i64 0] 33)).grownBy w4 (some mb) → Hid (HaRel w hb mb gb nb (hot + 1) f0 a0 (kn + 1) w4) := fun w4 h5 g5 =>
              Lib.hid ⟨_, _, h5, heat_far H4.out g5 N2.out (fun e => N3.out e.symm), ok_turn o1 (by omega) f a, o2.more, (turn_other (hot + 1) L f0 a0 f a HO.out).trans HE.out, B3.out.trans (below_of_grown g5 B3.out.size hmb)⟩
            have HN' := Lib.hid HN
            clear HN
            by_cases hf : f = f0
            · have ha : (a == a0) = false := by simp; intro e; exact hown ⟨hf, e⟩
              subst hf
              clear hown
              go_wp2_with fail
              refine (turn_m f a _ hb mb (hot + 1) kn L H3.out o1 (by omega) (by omega)).mono ?_
              rintro e w4 ⟨⟨er, rfl⟩, h5, g5⟩
              have HN := HN'.out w4 h5 g5
              clear h5 g5
              go_wp2_with fail
              go_roundw
              case rel => exact ⟨kn + 1, by go_num, by omega, by omega, HN.out⟩
              case measure => simp [intOf]; omega
            · have ha : (f == f0) = false := by simpa using hf
              clear hown hf
              go_wp2_with fail
              refine (turn_m f a _ hb mb (hot + 1) kn L H3.out o1 (by omega) (by omega)).mono ?_
              rintro e w4 ⟨⟨er, rfl⟩, h5, g5⟩
              have HN := HN'.out w4 h5 g5
              clear h5 g5
              go_wp2_with fail
              go_roundw
              case rel => exact ⟨kn + 1, by go_num, by omega, by omega, HN.out⟩
              case measure => simp [intOf]; omega
        · have hz1 : (z == 0) = false := by simpa using hz
          clear hz
          have H3 := Lib.hid (heat_alloc h3 (.cells #[.int .i64 f, .int .i64 a, .int .i64 z] 33))
          have H4 := Lib.hid (heat_alloc h4 (.cells #[.int .i64 f, .int .i64 a, .int .i64 z] 33))
          have HE := Lib.hid heq
          have B3 := Lib.hid (b3.alloc b3.size (.cells #[.int .i64 f, .int .i64 a, .int .i64 z] 33))
          have N1 := Lib.hid (heat_ne h3 h4)
          have N2 := Lib.hid (heat_ne h4 h3)
          have N3 : Hid (mb ≠ nb) := Lib.hid (by have := hmbnb.out; omega)
          have N4 : Hid (wr.heap.size ≠ mb) := Lib.hid (by have := h3.2.lt; omega)
          have Z0 := Lib.hid (cell_two_at wr (.int .i64 f) (.int .i64 a) (.int .i64 z) 33)
          clear h3 h4 heq b3
          by_cases hown : f = f0 ∧ a = a0
          · obtain ⟨rfl, rfl⟩ := hown
            go_wp2_with fail
            refine (taken_m f a _ _ hb mb (hot + 1) kn L H3.out o1 (by omega) (by omega)).mono ?_
            rintro e w4 ⟨rfl, h5, g5⟩
            have HT := Lib.hid (taken_own L G f a (z == 1) HE.out)
            have H5 := Lib.hid h5
            have H6 := Lib.hid (heat_far H4.out g5 N2.out (fun e => N3.out e.symm))
            have B5 := Lib.hid (B3.out.trans (below_of_grown g5 B3.out.size hmb))
            have hs5 := B5.out.size
            have hz5 := cell_kept g5 N4.out Z0.out
            clear h5 g5
            go_wp2_with fail
            refine (taken_m f a _ _ gb nb (hot + 1) kn G H6.out o2 (by omega) (by omega)).mono ?_
            rintro e w5 ⟨rfl, h7, g7⟩
            have HN : Hid (HaRel w hb mb gb nb (hot + 1) f a (kn + 1) w5) := Lib.hid ⟨_, _, heat_far H5.out g7 N1.out N3.out, h7, ok_taken o1 (by omega) f a _, ok_taken o2 (by omega) f a _, HT.out.2, B5.out.trans (below_of_grown g7 hs5 hnb')⟩
            clear h7 g7
            have ht := HT.out.1
            go_wp2_with fail
            go_roundw
            case rel => exact ⟨kn + 1, by go_num, by omega, by omega, HN.out⟩
            case measure => simp [intOf]; omega
          · have HO := Lib.hid hown
            have HN : ∀ w4, HeatAt w4 hb mb (hot + 1) (encT (takenT L f a (z == 1)).1) → (wr.alloc (.cells #[.int .i64 f, .int .i64 a, .int .i64 z] 33)).grownBy w4 (some mb) → Hid (HaRel w hb mb gb nb (hot + 1) f0 a0 (kn + 1) w4) := fun w4 h5 g5 =>
              Lib.hid ⟨_, _, h5, heat_far H4.out g5 N2.out (fun e => N3.out e.symm), ok_taken o1 (by omega) f a _, o2.more, (taken_else L f0 a0 f a _ HO.out).trans HE.out, B3.out.trans (below_of_grown g5 B3.out.size hmb)⟩
            have HN' := Lib.hid HN
            clear HN
            by_cases hf : f = f0
            · have ha : (a == a0) = false := by simp; intro e; exact hown ⟨hf, e⟩
              subst hf
              clear hown
              go_wp2_with fail
              refine (taken_m f a _ _ hb mb (hot + 1) kn L H3.out o1 (by omega) (by omega)).mono ?_
              rintro e w4 ⟨rfl, h5, g5⟩
              have HN := HN'.out w4 h5 g5
              clear h5 g5
              go_wp2_with fail
              go_roundw
              case rel => exact ⟨kn + 1, by go_num, by omega, by omega, HN.out⟩
              case measure => simp [intOf]; omega
            · have ha : (f == f0) = false := by simpa using hf
              clear hown hf
              go_wp2_with fail
              refine (taken_m f a _ _ hb mb (hot + 1) kn L H3.out o1 (by omega) (by omega)).mono ?_
              rintro e w4 ⟨rfl, h5, g5⟩
              have HN := HN'.out w4 h5 g5
              clear h5 g5
              go_wp2_with fail
              go_roundw
              case rel => exact ⟨kn + 1, by go_num, by omega, by omega, HN.out⟩
              case measure => simp [intOf]; omega
      · obtain ⟨_, _, _, _, _, _, _, b3⟩ := hrel
        have B3 := Lib.hid b3
        have hs3 := b3.size
        clear b3
        first
          | (have hend2 : ¬ kn < len := by omega)
          | (have hend2 : ¬ kn < 90 := by omega)
        clear hend
        go_wp2_with fail
        refine (heated_c _).mono ?_
        rintro e w4 ⟨rfl, b4⟩
        have B4 := Lib.hid (B3.out.trans (b4.mono hs3))
        clear b4
        go_wp2_with fail
        go_ret
        exact ⟨rfl, B4.out⟩
end Go.Proofs.Ytdcikaenepnliaa
