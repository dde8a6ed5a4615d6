/- HeatBounded: the walk of the law. -/
import Derived.Test.YtdcikaenepnliaaHb
namespace Go.Proofs.Ytdcikaenepnliaa
open Go.RowKit

def restM (n m : Int) : Int := if n.tmod m < 0 then n.tmod m + m else n.tmod m

theorem neg_lt_tmod (n : Int) {m : Int} (hm : 0 < m) : -m < n.tmod m := by
  by_cases h : 0 ≤ n
  · have := Int.tmod_nonneg m h
    omega
  · have h1 : n = -(-n) := by omega
    have h2 := Int.tmod_lt_of_pos (-n) hm
    rw [h1, Int.neg_tmod]
    omega

theorem restM_bd (n m : Int) (hm : 0 < m) : 0 ≤ restM n m ∧ restM n m < m := by
  unfold restM
  have h1 := Int.tmod_lt_of_pos n hm
  have h2 : -m < n.tmod m := by
    have := neg_lt_tmod n hm
    exact this
  split <;> omega

set_option maxHeartbeats 400000 in
theorem rest_c (n m : Int) (w : World) (hm : 0 < m) (hm2 : m ≤ 1000000) :
    Calls Try.prog 7 #[.int .i64 n, .int .i64 m] w fun e w' => e = .returned (.int .i64 (restM n m)) ∧ w = w' := by
  have h1 := Int.tmod_lt_of_pos n hm
  have h2 : -m < n.tmod m := neg_lt_tmod n hm
  have e1 : n.tmod m < 0 → restM n m = n.tmod m + m := fun h => by simp [restM, h]
  have e2 : 0 ≤ n.tmod m → restM n m = n.tmod m := fun h => by simp [restM, Int.not_lt.2 h]
  have E1 := Lib.hid e1
  have E2 := Lib.hid e2
  clear e1 e2
  go_enter Try.func7, Try.ntmps7
  go_wp2
  all_goals go_ret
  all_goals refine ⟨?_, rfl⟩
  · rw [E1.out ‹_›]; rfl
  · rw [E2.out ‹_›]; rfl

/-- the relation of HeatBounded's loop -/
def HbInv (L : List (List Int × Value)) (hot q nx k c l : Int) : Prop :=
  0 ≤ c ∧ ((nx = k + l - 1 - c ∧ c < l ∧ HeadIs L 1 2 hot 1 2 c l q 0 ∧ ((q = 0 ∧ l = hot) ∨ (q = 1 ∧ l = 2 * hot) ∨ (q = 2 ∧ l = 4 * hot))) ∨ (q = 3 ∧ c = 0 ∧ HeadIs L 1 2 hot 1 2 c l q 3))

set_option maxHeartbeats 1000000 in
theorem hb_walk (hot0 turns0 : Int) (w : World) : Calls Try.prog 3 #[.int .i64 hot0, .int .i64 turns0] w (Heated w) := by
  have hh := restM_bd hot0 50 (by omega)
  have ht := restM_bd turns0 1000 (by omega)
  go_enter Try.func3, Try.ntmps3
  go_wp2_with (go_at_call 7; refine (rest_c _ _ _ (by omega) (by omega)).mono ?_; rintro e w' ⟨rfl, rfl⟩)
  generalize restM hot0 50 = hot at *
  generalize restM turns0 1000 = turns at *
  refine (new_h (hot + 1) _ (by omega) (by omega)).mono ?_
  rintro e w1 ⟨hb, mb, rfl, h1, b1, hmb⟩
  have H1 := Lib.hid h1
  have B1 := Lib.hid b1
  have hs1 := b1.size
  clear h1 b1
  go_wp2_with fail
  go_loopw [7, 8, 9] (fun q nx k wr => ∃ (qi nxi ki c l : Int) (L : List (List Int × Value)), q = .int .i64 qi ∧ nx = .int .i64 nxi ∧ k = .int .i64 ki ∧ 1 ≤ ki ∧ ki ≤ turns + 1 ∧ HbInv L (hot + 1) qi nxi ki c l ∧ HeatAt wr hb mb (hot + 1) L ∧ Below w.heap.size w wr)
    (fun _ _ k _ => (turns + 1 - intOf k).toNat)
  case atStart =>
    refine ⟨0, hot + 1, 1, 0, hot + 1, [], rfl, rfl, rfl, by omega, by omega, ⟨by omega, .inl ⟨by omega, by omega, .inr ⟨rfl, by decide, rfl, rfl, rfl, rfl, rfl, rfl⟩, .inl ⟨rfl, rfl⟩⟩⟩, H1.out, B1.out⟩
  case round =>
    obtain ⟨qi, nxi, ki, c, l, L, rfl, rfl, rfl, hk1, hk2, ⟨hc0, hinv⟩, h2, b2⟩ := hrel
    have H2 := Lib.hid h2
    have B2 := Lib.hid b2
    have hs2 := b2.size
    clear h2 b2
    by_cases hend : ki ≤ turns
    · rcases hinv with ⟨hnx, hcl, hhead, hq⟩ | ⟨rfl, rfl, hhead⟩
      · by_cases hask : l ≤ c + 1
        · have T := turn_h 1 2 wr hb mb (hot + 1) L H2.out (by omega) (by omega) (by omega) (by omega) 1 2 c l qi 0 hhead (by omega) (by omega)
          rw [stepH_a rfl hask] at T
          have T' := Lib.hid T
          clear T hhead
          rcases hq with ⟨rfl, hl⟩ | ⟨rfl, hl⟩ | ⟨rfl, hl⟩
          all_goals
            have Hl := Lib.hid hl
            have hlb : l ≤ 200 := by omega
            have hl0 : 0 ≤ l := by omega
            have hki : nxi ≤ ki := by omega
            have hki2 : ki ≤ nxi := by omega
            clear hl hnx
            go_wp2_with fail
            refine T'.out.mono ?_
            rintro e w3 ⟨rfl, h3, b3⟩
            have H3 := Lib.hid h3
            have B3 := Lib.hid (B2.out.trans (b3 _ hs2 hmb))
            have hs3 := B3.out.size
            clear h3 b3
            go_wp2_with fail
            refine (taken_h 1 2 false w3 hb mb (hot + 1) _ H3.out 1 2 (c + 1) l _ (look_put_self _ _ _) (by omega) (by omega) (by omega) (by omega)).mono ?_
            rintro e w4 ⟨rfl, h4, b4⟩
            have H4 := Lib.hid h4
            have B4 := Lib.hid (B3.out.trans (b4 _ hs3 hmb))
            have hs4 := B4.out.size
            clear h4 b4
            go_wp2_with fail
            refine (taken_other 1 2 false w4 hb mb (hot + 1) _ H4.out 1 2 0 (2 * l) _ _ ((look_put_self _ _ _).trans (by first | rw [takenH_c _ _ _ _ _ (by omega)] | rw [takenH_b _ _ _ _ _ (by omega)])) (by decide)).mono ?_
            rintro e w5 ⟨rfl, b5⟩
            have H5 := Lib.hid (heat_below H4.out b5)
            have B5 := Lib.hid (B4.out.trans (b5.mono hs4))
            clear b5
            go_wp2_with fail
          · go_roundw
            case rel =>
              have hl := Hl.out
              exact ⟨1, _, nxi + 1, 0, 2 * l, _, rfl, rfl, rfl, by omega, by omega, ⟨by omega, .inl ⟨by omega, by omega, .inl ((look_put_self _ _ _).trans (by rw [takenH_c _ _ _ _ _ (by omega)]; rfl)), .inr (.inl ⟨rfl, by omega⟩)⟩⟩, H5.out, B5.out⟩
            case measure => simp [intOf]; omega
          · go_roundw
            case rel =>
              have hl := Hl.out
              exact ⟨2, _, nxi + 1, 0, 2 * l, _, rfl, rfl, rfl, by omega, by omega, ⟨by omega, .inl ⟨by omega, by omega, .inl ((look_put_self _ _ _).trans (by rw [takenH_c _ _ _ _ _ (by omega)]; rfl)), .inr (.inr ⟨rfl, by omega⟩)⟩⟩, H5.out, B5.out⟩
            case measure => simp [intOf]; omega
          · go_roundw
            case rel =>
              have hl := Hl.out
              exact ⟨3, _, nxi + 1, 0, 2 * l, _, rfl, rfl, rfl, by omega, by omega, ⟨by omega, .inr ⟨rfl, rfl, .inl ((look_put_self _ _ _).trans (by rw [takenH_b _ _ _ _ _ (by omega)]; rfl))⟩⟩, H5.out, B5.out⟩
            case measure => simp [intOf]; omega
        · have T := turn_h 1 2 wr hb mb (hot + 1) L H2.out (by omega) (by omega) (by omega) (by omega) 1 2 c l qi 0 hhead (by omega) (by omega)
          rw [stepH_b rfl (by omega)] at T
          have T' := Lib.hid T
          clear T hhead
          have HQ := Lib.hid hq
          have Hnx := Lib.hid hnx
          have hki : ki < nxi := by omega
          have hkn : (ki == nxi) = false := by simp; omega
          have hq1 : 0 ≤ qi := by omega
          have hq2 : qi < 3 := by omega
          have hl0 : 0 ≤ l := by omega
          clear hq hnx
          go_wp2_with fail
          refine T'.out.mono ?_
          rintro e w3 ⟨rfl, h3, b3⟩
          have H3 := Lib.hid h3
          have B3 := Lib.hid (B2.out.trans (b3 _ hs2 hmb))
          clear h3 b3
          go_wp2_with fail
          go_roundw
          case rel =>
            have hnx := Hnx.out
            exact ⟨qi, nxi, ki + 1, c + 1, l, _, rfl, rfl, rfl, by omega, by omega, ⟨by omega, .inl ⟨by omega, by omega, .inl (look_put_self _ _ _), HQ.out⟩⟩, H3.out, B3.out⟩
          case measure => simp [intOf]; omega
      · have T := turn_h 1 2 wr hb mb (hot + 1) L H2.out (by omega) (by omega) (by omega) (by omega) 1 2 0 l 3 3 hhead (by omega) (by omega)
        rw [stepH_d rfl rfl rfl] at T
        have T' := Lib.hid T
        clear T hhead
        by_cases hkn : ki = nxi
        · subst hkn
          go_wp2_with fail
          refine T'.out.mono ?_
          rintro e w3 ⟨rfl, h3, b3⟩
          have H3 := Lib.hid h3
          have B3 := Lib.hid (B2.out.trans (b3 _ hs2 hmb))
          clear h3 b3
          go_wp2_with fail
          go_roundw
          case rel =>
            exact ⟨3, ki, ki + 1, 0, l, _, rfl, rfl, rfl, by omega, by omega, ⟨by omega, .inr ⟨rfl, rfl, .inl (look_put_self _ _ _)⟩⟩, H3.out, B3.out⟩
          case measure => simp [intOf]; omega
        · have hkn2 : (ki == nxi) = false := by simp; exact hkn
          go_wp2_with fail
          refine T'.out.mono ?_
          rintro e w3 ⟨rfl, h3, b3⟩
          have H3 := Lib.hid h3
          have B3 := Lib.hid (B2.out.trans (b3 _ hs2 hmb))
          clear h3 b3
          go_wp2_with fail
          go_roundw
          case rel =>
            exact ⟨3, nxi, ki + 1, 0, l, _, rfl, rfl, rfl, by omega, by omega, ⟨by omega, .inr ⟨rfl, rfl, .inl (look_put_self _ _ _)⟩⟩, H3.out, B3.out⟩
          case measure => simp [intOf]; omega
    · clear hinv
      go_wp2_with fail
      refine (heated_c _).mono ?_
      rintro e w3 ⟨rfl, b3⟩
      have B3 := Lib.hid b3
      clear b3
      go_wp2_with fail
      go_ret
      exact ⟨rfl, B2.out.trans (B3.out.mono hs2)⟩
end Go.Proofs.Ytdcikaenepnliaa
