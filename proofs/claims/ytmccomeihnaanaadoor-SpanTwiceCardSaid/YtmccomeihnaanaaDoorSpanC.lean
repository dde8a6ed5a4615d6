/- slices.Min and slices.Max of ints. -/
import Derived.Test.YtmccomeihnaanaaDoorSpanB
namespace Go.Proofs.YtmccomeihnaanaaDoor
open Go.RowKit Go.Maps

set_option maxHeartbeats 1000000 in
set_option maxRecDepth 100000 in
theorem minL_c (v : Value) (x0 : Int) (l : List Int) (w : World) (hs : SliceR w w.heap.size 1 IntR v (x0 :: l)) : Calls Tryd.prog 121 #[v] w (Gives (.int .i64 (l.foldl min x0)) w) := by
  have HS := Lib.hid hs
  obtain ⟨A, cap, rfl, l1, l2, -⟩ := id hs
  unfold maxLen at l2
  obtain ⟨n, hn⟩ : ∃ n, (x0 :: l).length = n := ⟨_, rfl⟩
  have hnl : n = l.length + 1 := by rw [← hn]; rfl
  rw [hn] at HS l1 ⊢
  have hn1 : ¬ (n : Int) < 1 := by omega
  obtain ⟨b, off, y, ys, rfl, hb, hy, -, ⟨rfl, wy⟩, hat⟩ := HS.out.at_ (i := 0) (by simp)
  have hy0 : x0 = y := by simpa using hy
  subst hy0
  have c0 : w.cell? ⟨b, off, none⟩ = some (.int .i64 x0) := by simpa using hat 0 _ rfl
  have h0n : (0 : Int) < n := by omega
  clear hat hy wy hs
  go_enter Tryd.func121, Tryd.ntmps121
  go_wp2_with fail
  go_loopw [3, 4] (fun m i wr => ∃ j : Nat, i = .int .i64 ((j + 1 : Nat) : Int) ∧ j ≤ l.length ∧ m = .int .i64 ((l.take j).foldl min x0) ∧ wr = w) (fun _ i _ => n - (RowKit.intOf i).toNat)
  case atStart => exact ⟨0, rfl, by omega, by simp, rfl⟩
  case round =>
    obtain ⟨j, rfl, hj, rfl, rfl⟩ := hrel
    by_cases hlt : j < l.length
    · obtain ⟨b', off', y, ys, hbo, hb', hy, -, ⟨rfl, wy⟩, hat⟩ := HS.out.at_ (i := j + 1) (by simp; omega)
      obtain ⟨rfl, rfl⟩ : b = b' ∧ off = off' := by injection hbo with hbo; injection hbo with h1 h2; exact ⟨h1, h2⟩
      have hji : ((j + 1 : Nat) : Int) < n := by omega
      have hji2 : (j : Int) + 1 < n := by omega
      have c1 : wr.cell? ⟨b, off + (j + 1), none⟩ = some (.int .i64 y) := by simpa using hat 0 _ rfl
      have hy' : l[j]? = some y := by simpa using hy
      have HN : Hid ((l.take (j + 1)).foldl min x0 = min ((l.take j).foldl min x0) y) := by rw [show Hid _ = _ from rfl, take_snoc hy', List.foldl_append]; rfl
      clear hat hy hy' wy hbo
      go_wp2_with fail
      go_roundw
      case rel => exact ⟨j + 1, by go_num, by omega, by rw [HN.out], (by first | trivial | rfl)⟩
      case measure => simp [RowKit.intOf]; omega
    · obtain rfl : j = l.length := by omega
      have hji : ¬ ((l.length + 1 : Nat) : Int) < n := by omega
      have hji2 : ¬ (l.length : Int) + 1 < n := by omega
      go_wp2_with fail
      go_ret
      exact ⟨rfl, Below.refl _ _⟩
set_option maxHeartbeats 1000000 in
set_option maxRecDepth 100000 in
theorem maxL_c (v : Value) (x0 : Int) (l : List Int) (w : World) (hs : SliceR w w.heap.size 1 IntR v (x0 :: l)) : Calls Tryd.prog 122 #[v] w (Gives (.int .i64 (l.foldl max x0)) w) := by
  have HS := Lib.hid hs
  obtain ⟨A, cap, rfl, l1, l2, -⟩ := id hs
  unfold maxLen at l2
  obtain ⟨n, hn⟩ : ∃ n, (x0 :: l).length = n := ⟨_, rfl⟩
  have hnl : n = l.length + 1 := by rw [← hn]; rfl
  rw [hn] at HS l1 ⊢
  have hn1 : ¬ (n : Int) < 1 := by omega
  obtain ⟨b, off, y, ys, rfl, hb, hy, -, ⟨rfl, wy⟩, hat⟩ := HS.out.at_ (i := 0) (by simp)
  have hy0 : x0 = y := by simpa using hy
  subst hy0
  have c0 : w.cell? ⟨b, off, none⟩ = some (.int .i64 x0) := by simpa using hat 0 _ rfl
  have h0n : (0 : Int) < n := by omega
  clear hat hy wy hs
  go_enter Tryd.func122, Tryd.ntmps122
  go_wp2_with fail
  go_loopw [3, 4] (fun m i wr => ∃ j : Nat, i = .int .i64 ((j + 1 : Nat) : Int) ∧ j ≤ l.length ∧ m = .int .i64 ((l.take j).foldl max x0) ∧ wr = w) (fun _ i _ => n - (RowKit.intOf i).toNat)
  case atStart => exact ⟨0, rfl, by omega, by simp, rfl⟩
  case round =>
    obtain ⟨j, rfl, hj, rfl, rfl⟩ := hrel
    by_cases hlt : j < l.length
    · obtain ⟨b', off', y, ys, hbo, hb', hy, -, ⟨rfl, wy⟩, hat⟩ := HS.out.at_ (i := j + 1) (by simp; omega)
      obtain ⟨rfl, rfl⟩ : b = b' ∧ off = off' := by injection hbo with hbo; injection hbo with h1 h2; exact ⟨h1, h2⟩
      have hji : ((j + 1 : Nat) : Int) < n := by omega
      have hji2 : (j : Int) + 1 < n := by omega
      have c1 : wr.cell? ⟨b, off + (j + 1), none⟩ = some (.int .i64 y) := by simpa using hat 0 _ rfl
      have hy' : l[j]? = some y := by simpa using hy
      have HN : Hid ((l.take (j + 1)).foldl max x0 = max ((l.take j).foldl max x0) y) := by rw [show Hid _ = _ from rfl, take_snoc hy', List.foldl_append]; rfl
      clear hat hy hy' wy hbo
      go_wp2_with fail
      go_roundw
      case rel => exact ⟨j + 1, by go_num, by omega, by rw [HN.out], (by first | trivial | rfl)⟩
      case measure => simp [RowKit.intOf]; omega
    · obtain rfl : j = l.length := by omega
      have hji : ¬ ((l.length + 1 : Nat) : Int) < n := by omega
      have hji2 : ¬ (l.length : Int) + 1 < n := by omega
      go_wp2_with fail
      go_ret
      exact ⟨rfl, Below.refl _ _⟩
end Go.Proofs.YtmccomeihnaanaaDoor
