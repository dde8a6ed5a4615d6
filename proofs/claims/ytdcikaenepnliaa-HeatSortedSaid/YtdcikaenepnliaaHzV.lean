/- HeatSorted: plain facts on the sorted heads, and the walk. -/
import Derived.Test.YtdcikaenepnliaaHl
import Derived.Test.YtdcikaenepnliaaHa
namespace Go.Proofs.Ytdcikaenepnliaa
open Go.RowKit

theorem distinct_pair {hot : Int} {n : Nat} {L : TL} (o : OkL hot n L) : (L.map (·.2)).Pairwise (fun x y => ¬ (x.f = y.f ∧ x.a = y.a)) := by
  obtain ⟨h1, _, h3⟩ := o
  induction L with
  | nil => simp
  | cons x L ih =>
    rw [List.map_cons, List.pairwise_cons]
    refine ⟨fun y hy hxy => ?_, ih (fun z hz => h1 z (by simp [hz])) (by simp at *; omega) h3.2⟩
    obtain ⟨z, hz, rfl⟩ := List.mem_map.1 hy
    have k1 := (h1 x (by simp)).1
    have k2 := (h1 z (by simp [hz])).1
    exact h3.1 z hz (by rw [k1, k2, hxy.1, hxy.2])

theorem sorted_step {hot : Int} {n : Nat} {L : TL} {D : List Hd} (o : OkL hot n L) (hp : D.Perm (L.map (·.2))) (hs : SortedH D) {i : Nat} {x y : Hd} (hx : D[i]? = some x) (hy : D[i + 1]? = some y) : ltH x y := by
  have h1 : D.Pairwise (fun x y => ¬ (x.f = y.f ∧ x.a = y.a)) := (hp.pairwise_iff (fun {a b} (h : ¬ (a.f = b.f ∧ a.a = b.a)) e => h ⟨e.1.symm, e.2.symm⟩)).2 (distinct_pair o)
  have hi : i < D.length := (List.getElem?_eq_some_iff.1 hx).1
  have hi1 : i + 1 < D.length := (List.getElem?_eq_some_iff.1 hy).1
  have h2 := List.pairwise_iff_getElem.1 h1 i (i + 1) hi hi1 (by omega)
  have h3 := hs i (i + 1) x y (by omega) hx hy
  rw [List.getElem?_eq_getElem hi] at hx
  rw [List.getElem?_eq_getElem hi1] at hy
  injection hx with hx
  injection hy with hy
  rw [hx, hy] at h2
  unfold ltH at *
  omega

theorem head_ok {hot : Int} {n : Nat} {L : TL} {D : List Hd} (o : OkL hot n L) (hp : D.Perm (L.map (·.2))) {i : Nat} {x : Hd} (hx : D[i]? = some x) : OkHd hot n [x.f, x.a] x := by
  have h1 : x ∈ L.map (·.2) := hp.mem_iff.1 (List.mem_of_getElem? hx)
  obtain ⟨z, hz, rfl⟩ := List.mem_map.1 h1
  have := o.each z hz
  rw [← this.1]
  exact this

theorem cells_of {w wr : World} {g : Nat} {D : List Hd} {i : Nat} {x : Hd} (h : ∀ i x, D[i]? = some x → ∀ j u, (headCells x)[j]? = some u → w.cell? ⟨g, i * 6 + j, none⟩ = some u) (hg : g < w.heap.size) (hb : Below w.heap.size w wr) (hx : D[i]? = some x) :
    wr.cell? ⟨g, i * 6, none⟩ = some (.int .i64 x.f) ∧ wr.cell? ⟨g, i * 6 + 1, none⟩ = some (.int .i64 x.a) ∧ wr.cell? ⟨g, i * 6 + 2, none⟩ = some (.int .i64 x.c) ∧
    wr.cell? ⟨g, i * 6 + 3, none⟩ = some (.int .i64 x.l) ∧ wr.cell? ⟨g, i * 6 + 4, none⟩ = some (.int .i64 x.fl) ∧ wr.cell? ⟨g, i * 6 + 5, none⟩ = some (.int .i64 x.i) :=
  ⟨(hb.cell hg).trans (h i x hx 0 _ rfl), (hb.cell hg).trans (h i x hx 1 _ rfl), (hb.cell hg).trans (h i x hx 2 _ rfl), (hb.cell hg).trans (h i x hx 3 _ rfl), (hb.cell hg).trans (h i x hx 4 _ rfl), (hb.cell hg).trans (h i x hx 5 _ rfl)⟩

theorem shl_of {hot xl xfl : Int} {p q r s : Prop} (h : (xfl = 0 ∧ xl = hot + 1 ∧ p) ∨ (xfl = 1 ∧ xl = 2 * (hot + 1) ∧ q) ∨ (xfl = 2 ∧ xl = 4 * (hot + 1) ∧ r) ∨ (xfl = 3 ∧ xl = 8 * (hot + 1) ∧ s)) : (hot + 1) * 2 ^ xfl.toNat = xl := by
  rcases h with ⟨rfl, h, _⟩ | ⟨rfl, h, _⟩ | ⟨rfl, h, _⟩ | ⟨rfl, h, _⟩
  · show (hot + 1) * 1 = xl
    omega
  · show (hot + 1) * 2 = xl
    omega
  · show (hot + 1) * 4 = xl
    omega
  · show (hot + 1) * 8 = xl
    omega

set_option maxRecDepth 100000 in
set_option maxHeartbeats 4000000 in
theorem hz_walk (hot0 : Int) (A : Option Addr) (len cap : Nat) (xss : List (List Int)) (w : World) (hlc : len ≤ cap) (hcm : cap ≤ maxLen) (hlen : xss.length = len) (hrows : IntRows w w.heap.size 3 A xss) :
    Calls Try.prog 6 #[.int .i64 hot0, .slice A len cap] w (Heated w) := by
  have hh := restM_bd hot0 20 (by omega)
  unfold maxLen at hcm
  have HL := Lib.hid hlen
  have HR := Lib.hid hrows
  clear hlen hrows
  go_enter Try.func6, Try.ntmps6
  go_wp2_with (go_at_call 7; refine (rest_c _ _ _ (by omega) (by omega)).mono ?_; rintro e w' ⟨rfl, rfl⟩)
  generalize restM hot0 20 = hot at *
  refine (new_h (hot + 1) _ (by omega) (by omega)).mono ?_
  rintro e w1 ⟨hb, mb, rfl, h1, b1, hmb⟩
  have H1 := Lib.hid h1
  have B1 := Lib.hid b1
  have hs1 := b1.size
  clear h1 b1
  by_cases hc : len ≤ 200
  all_goals
    go_wp2_with fail
    go_loopw [33] (fun k wr => ∃ (kn : Nat) (L : TL), k = .int .i64 kn ∧ kn ≤ len ∧ kn ≤ 200 ∧ HeatAt wr hb mb (hot + 1) (encT L) ∧ OkL (hot + 1) kn L ∧ Below w.heap.size w wr) (fun k _ => 200 - (intOf k).toNat)
  case atStart => exact ⟨0, [], rfl, by omega, by omega, H1.out, OkL.nil _ _, B1.out⟩
  case atStart => exact ⟨0, [], rfl, by omega, by omega, H1.out, OkL.nil _ _, B1.out⟩
  all_goals
    obtain ⟨kn, L, rfl, hk1, hk2, h2, o, b2⟩ := hrel
    by_cases hend : kn < len ∧ kn < 200
    · obtain ⟨hend1, hend2⟩ := hend
      obtain ⟨b0, off0, f, a, z, rfl, hb1, hx1, e0, e1, e2⟩ := rows3 HR.out (k := kn) (by have := HL.out; omega)
      clear hx1
      have g0 := (b2.cell (p := ⟨b0, off0 + kn * 3, none⟩) hb1).trans e0
      have g1 := (b2.cell (p := ⟨b0, off0 + kn * 3 + 1, none⟩) hb1).trans e1
      have g2 := (b2.cell (p := ⟨b0, off0 + kn * 3 + 2, none⟩) hb1).trans e2
      have hs2 := b2.size
      clear e0 e1 e2
      by_cases hz : z = 0
      · subst hz
        have H2 := Lib.hid (heat_alloc h2 (.cells #[.int .i64 f, .int .i64 a, .int .i64 0] 33))
        have B2 := Lib.hid (b2.alloc b2.size (.cells #[.int .i64 f, .int .i64 a, .int .i64 0] 33))
        clear h2 b2
        go_wp2_with fail
        refine (turn_s f a _ hb mb (hot + 1) kn L H2.out o (by omega) (by omega)).mono ?_
        rintro e w4 ⟨⟨t, er, rfl⟩, L', o', h5, g5⟩
        have H5 := Lib.hid h5
        have B5 := Lib.hid (B2.out.trans (below_of_grown g5 B2.out.size hmb))
        clear h5 g5
        go_wp2_with fail
        go_roundw
        case rel => exact ⟨kn + 1, L', by go_num, by omega, by omega, H5.out, o', B5.out⟩
        case measure => simp [intOf]; omega
      · have hz1 : (z == 0) = false := by simpa using hz
        clear hz
        have H2 := Lib.hid (heat_alloc h2 (.cells #[.int .i64 f, .int .i64 a, .int .i64 z] 33))
        have B2 := Lib.hid (b2.alloc b2.size (.cells #[.int .i64 f, .int .i64 a, .int .i64 z] 33))
        clear h2 b2
        go_wp2_with fail
        refine (taken_m f a _ _ hb mb (hot + 1) kn L H2.out o (by omega) (by omega)).mono ?_
        rintro e w4 ⟨rfl, h5, g5⟩
        have H5 := Lib.hid h5
        have B5 := Lib.hid (B2.out.trans (below_of_grown g5 B2.out.size hmb))
        clear h5 g5
        go_wp2_with fail
        go_roundw
        case rel => exact ⟨kn + 1, _, by go_num, by omega, by omega, H5.out, ok_taken o (by omega) f a _, B5.out⟩
        case measure => simp [intOf]; omega
    · have H2 := Lib.hid h2
      have B2 := Lib.hid b2
      have hs2 := b2.size
      have hL : L.length ≤ 1000 := by have := o.few; omega
      clear h2 b2
      first
        | (have hend2 : ¬ kn < len := by omega)
        | (have hend2 : ¬ kn < 200 := by omega)
      clear hend
      go_wp2_with fail
      refine (all_c _ hb mb (hot + 1) L H2.out hL).mono ?_
      rintro e w3 ⟨v, D, rfl, hp, hs, ⟨A', cap', rfl, hc1, hc2, hrw⟩, b3, h3⟩
      have HP := Lib.hid hp
      have HS := Lib.hid hs
      have HRW := Lib.hid hrw
      have B3 := Lib.hid (B2.out.trans (b3.mono hs2))
      have hDl : D.length ≤ 1000 := by rw [hp.length_eq]; simpa using hL
      clear hp hs hrw b3 h3
      unfold maxLen at hc2
      go_wp2_with fail
      go_loopw [63] (fun k wr => ∃ jn : Nat, k = .int .i64 jn ∧ jn ≤ D.length ∧ Below w3.heap.size w3 wr) (fun k _ => D.length - (intOf k).toNat)
      case atStart => exact ⟨0, rfl, by omega, Below.refl _ _⟩
      case round =>
        obtain ⟨jn, rfl, hj, b4⟩ := hrel
        by_cases hlt : jn < D.length
        · obtain ⟨x, hx⟩ : ∃ x, D[jn]? = some x := ⟨_, List.getElem?_eq_getElem hlt⟩
          obtain ⟨g, rfl, hg, hcells⟩ := HRW.out (by omega)
          obtain ⟨d0, d1, d2, d3, d4, d5⟩ := cells_of hcells hg b4 hx
          obtain ⟨_, k2, k3, k4, k5, k6, k7⟩ := head_ok o HP.out hx
          have hg4 : g < wr.heap.size := Nat.lt_of_lt_of_le hg b4.size
          have B4 := Lib.hid b4
          have HX := Lib.hid hx
          have HC := Lib.hid hcells
          clear hcells hx
          cases jn with
          | zero =>
            simp only [Nat.zero_mul, Nat.zero_add] at d0 d1 d2 d3 d4 d5
            clear b4
            obtain ⟨xf, xa, xc, xl, xfl, xi⟩ := x
            simp only at d0 d1 d2 d3 d4 d5 k2 k3 k4 k5 k6 k7
            have f1 : 0 ≤ xfl ∧ xfl ≤ 3 := by omega
            have f2 : ¬ xfl < 0 := by omega
            have f3 : min xfl.toNat 64 = xfl.toNat := by omega
            have f4 : decide (3 < xfl) = false := decide_eq_false (by omega)
            have f5 : (hot + 1) * 2 ^ xfl.toNat = xl := shl_of k7
            have f6 : 0 ≤ xl ∧ xl ≤ 168 := by omega
            clear k7
            by_cases hi : xi = 0
            · subst hi
              have k9 := k6 rfl
              have k10 : decide (xl ≤ xc) = false := decide_eq_false (by omega)
              clear k6
              go_wp2_with fail
              refine wp_region_quiet_lit (by kernel_rfl) (by kernel_rfl) ?_
              repeat (go_big_quiet_step (fail))
              refine wpQuiet_nil ?_
              intro w6 hw6
              obtain ⟨nq, rfl⟩ := hw6
              go_wp2_with fail
              go_roundw
              case rel => exact ⟨1, by go_num, by omega, below_drewN (B4.out.alloc B4.out.size _) _⟩
              case measure => simp [intOf]; omega
            · have k10 : (xi == 0) = false := by simpa using hi
              clear k6 hi
              go_wp2_with fail
              refine wp_region_quiet_lit (by kernel_rfl) (by kernel_rfl) ?_
              repeat (go_big_quiet_step (fail))
              refine wpQuiet_nil ?_
              intro w6 hw6
              obtain ⟨nq, rfl⟩ := hw6
              go_wp2_with fail
              go_roundw
              case rel => exact ⟨1, by go_num, by omega, below_drewN (B4.out.alloc B4.out.size _) _⟩
              case measure => simp [intOf]; omega
          | succ m =>
            obtain ⟨y, hy⟩ : ∃ y, D[m]? = some y := ⟨_, List.getElem?_eq_getElem (by omega)⟩
            obtain ⟨e0, e1, _⟩ := cells_of HC.out hg b4 hy
            have hyx := sorted_step o HP.out HS.out hy HX.out
            clear b4 hy
            obtain ⟨xf, xa, xc, xl, xfl, xi⟩ := x
            obtain ⟨yf, ya, yc, yl, yfl, yi⟩ := y
            simp only [ltH] at d0 d1 d2 d3 d4 d5 k2 k3 k4 k5 k6 k7 e0 e1 hyx
            have f1 : 0 ≤ xfl ∧ xfl ≤ 3 := by omega
            have f2 : ¬ xfl < 0 := by omega
            have f3 : min xfl.toNat 64 = xfl.toNat := by omega
            have f4 : decide (3 < xfl) = false := decide_eq_false (by omega)
            have f5 : (hot + 1) * 2 ^ xfl.toNat = xl := shl_of k7
            have f6 : 0 ≤ xl ∧ xl ≤ 168 := by omega
            clear k7
            rcases hyx with hyx | ⟨rfl, hyx⟩
            · have q1 : decide (xf < yf) = false := decide_eq_false (by omega)
              have q2 : (yf == xf) = false := by simp; omega
              by_cases hi : xi = 0
              · subst hi
                have k9 := k6 rfl
                have k10 : decide (xl ≤ xc) = false := decide_eq_false (by omega)
                clear k6
                go_wp2_with fail
                refine wp_region_quiet_lit (by kernel_rfl) (by kernel_rfl) ?_
                repeat (go_big_quiet_step (fail))
                refine wpQuiet_nil ?_
                intro w6 hw6
                obtain ⟨nq, rfl⟩ := hw6
                go_wp2_with fail
                go_roundw
                case rel => exact ⟨m + 1 + 1, by go_num, by omega, below_drewN (B4.out.alloc B4.out.size _) _⟩
                case measure => simp [intOf]; omega
              · have k10 : (xi == 0) = false := by simpa using hi
                clear k6 hi
                go_wp2_with fail
                refine wp_region_quiet_lit (by kernel_rfl) (by kernel_rfl) ?_
                repeat (go_big_quiet_step (fail))
                refine wpQuiet_nil ?_
                intro w6 hw6
                obtain ⟨nq, rfl⟩ := hw6
                go_wp2_with fail
                go_roundw
                case rel => exact ⟨m + 1 + 1, by go_num, by omega, below_drewN (B4.out.alloc B4.out.size _) _⟩
                case measure => simp [intOf]; omega
            · have q1 : decide (xa ≤ ya) = false := decide_eq_false (by omega)
              by_cases hi : xi = 0
              · subst hi
                have k9 := k6 rfl
                have k10 : decide (xl ≤ xc) = false := decide_eq_false (by omega)
                clear k6
                go_wp2_with fail
                refine wp_region_quiet_lit (by kernel_rfl) (by kernel_rfl) ?_
                repeat (go_big_quiet_step (fail))
                refine wpQuiet_nil ?_
                intro w6 hw6
                obtain ⟨nq, rfl⟩ := hw6
                go_wp2_with fail
                go_roundw
                case rel => exact ⟨m + 1 + 1, by go_num, by omega, below_drewN (B4.out.alloc B4.out.size _) _⟩
                case measure => simp [intOf]; omega
              · have k10 : (xi == 0) = false := by simpa using hi
                clear k6 hi
                go_wp2_with fail
                refine wp_region_quiet_lit (by kernel_rfl) (by kernel_rfl) ?_
                repeat (go_big_quiet_step (fail))
                refine wpQuiet_nil ?_
                intro w6 hw6
                obtain ⟨nq, rfl⟩ := hw6
                go_wp2_with fail
                go_roundw
                case rel => exact ⟨m + 1 + 1, by go_num, by omega, below_drewN (B4.out.alloc B4.out.size _) _⟩
                case measure => simp [intOf]; omega
        · have B4 := Lib.hid b4
          clear b4
          go_wp2_with fail
          refine (heated_c _).mono ?_
          rintro e w5 ⟨rfl, b5⟩
          go_wp2_with fail
          go_ret
          exact ⟨rfl, (B3.out.trans (B4.out.mono B3.out.size)).trans (b5.mono (Nat.le_trans B3.out.size B4.out.size))⟩
end Go.Proofs.Ytdcikaenepnliaa
