/- slices.Equal of texts, of tries; slices.Clone of tries. -/
import Derived.Test.YtmccomeihnaanaaDoorCodeE
import Derived.WalkSpells
import Derived.Lib.Strings
namespace Go.Proofs.YtmccomeihnaanaaDoor
open Go.RowKit

def TryR (cs : List Value) (x : CTry) : Prop := cs = [.int .i64 x.reg, .int .i64 x.at_] ∧ wfi x.reg ∧ wfi x.at_

theorem take_eq_all {α : Type} {xs ys : List α} {k : Nat} (h : xs.take k = ys.take k) (h1 : xs.length ≤ k) (h2 : ys.length ≤ k) : xs = ys := by
  rwa [List.take_of_length_le h1, List.take_of_length_le h2] at h
theorem take_ne {α : Type} {xs ys : List α} {k : Nat} {x y : α} (hx : xs[k]? = some x) (hy : ys[k]? = some y) (h : x ≠ y) : xs ≠ ys := fun e => by
  rw [e, hy] at hx; injection hx with hx; exact h hx.symm
theorem take_next {α : Type} {xs ys : List α} {k : Nat} {x : α} (h : xs.take k = ys.take k) (hx : xs[k]? = some x) (hy : ys[k]? = some x) : xs.take (k + 1) = ys.take (k + 1) := by
  rw [List.take_add_one, List.take_add_one, h, hx, hy]

set_option maxHeartbeats 1000000 in
theorem equal_try_c (v u : Value) (xs ys : List CTry) (w : World) (hx : SliceR w w.heap.size 2 TryR v xs) (hy : SliceR w w.heap.size 2 TryR u ys) :
    Calls Tryd.prog 148 #[v, u] w (Gives (.bool (decide (xs = ys))) w) := by
  obtain ⟨A, cap, rfl, hc1, hc2, -⟩ := id hx
  obtain ⟨A', cap', rfl, hc1', hc2', -⟩ := id hy
  unfold maxLen at hc2 hc2'
  have HX := Lib.hid hx
  have HY := Lib.hid hy
  clear hx hy
  obtain ⟨r, hr⟩ : ∃ r : Bool, decide (xs = ys) = r := ⟨_, rfl⟩
  rw [hr]
  have HR := Lib.hid hr
  clear hr
  by_cases hl : xs.length = ys.length
  · have hl1 : xs.length ≤ ys.length := by omega
    have hl2 : ys.length ≤ xs.length := by omega
    have hb1 : ((xs.length : Int) != (ys.length : Int)) = false := by simp; omega
    clear hl
    go_enter Tryd.func148, Tryd.ntmps148
    go_wp2_with fail
    go_loopw [13] (fun k wr => ∃ kn : Nat, k = .int .i64 kn ∧ kn ≤ xs.length ∧ Hid (xs.take kn = ys.take kn) ∧ Hid (Below w.heap.size w wr)) (fun k _ => xs.length - (intOf k).toNat)
    case atStart => exact ⟨0, rfl, by omega, Lib.hid rfl, Below.refl _ _⟩
    case round =>
      obtain ⟨kn, rfl, hk, he, KW⟩ := hrel
      by_cases hlt : kn < xs.length
      · obtain ⟨b, off, x, cs, rfl, hb, hx0, -, ⟨rfl, -⟩, hat⟩ := HX.out.at_ hlt
        obtain ⟨b', off', y, cs', rfl, hb', hy0, -, ⟨rfl, -⟩, hat'⟩ := HY.out.at_ (i := kn) (by omega)
        have KE : ∀ E : Up wr, Below w.heap.size w E.to := fun E => below_to KW.out E
        have g0 : ∀ E : Up wr, E.to.cell? ⟨b, off + kn * 2, none⟩ = some (.int .i64 x.reg) := fun E => ((KE E).cell hb).trans (hat 0 _ rfl)
        have g1 : ∀ E : Up wr, E.to.cell? ⟨b, off + kn * 2 + 1, none⟩ = some (.int .i64 x.at_) := fun E => ((KE E).cell hb).trans (hat 1 _ rfl)
        have g2 : ∀ E : Up wr, E.to.cell? ⟨b', off' + kn * 2, none⟩ = some (.int .i64 y.reg) := fun E => ((KE E).cell hb').trans (hat' 0 _ rfl)
        have g3 : ∀ E : Up wr, E.to.cell? ⟨b', off' + kn * 2 + 1, none⟩ = some (.int .i64 y.at_) := fun E => ((KE E).cell hb').trans (hat' 1 _ rfl)
        have HX0 := Lib.hid hx0
        have HY0 := Lib.hid hy0
        have KE' := Lib.hid KE
        have hi1 : (kn : Int) < xs.length := by omega
        have hi2 : (kn : Int) < ys.length := by omega
        clear hx0 hy0 hat hat' KE
        by_cases hxy : x = y
        · subst hxy
          go_wp2_with fail
          refine wp_region_up (by kernel_rfl) (by kernel_rfl) ?_
          repeat (go_big_quiet_step (fail))
          refine wpQuiet_nil ?_
          rintro _ ⟨E, rfl⟩
          have KF := Lib.hid (KE'.out E)
          clear g0 g1 g2 g3
          go_wp2_with fail
          go_roundw
          case rel => exact ⟨kn + 1, by go_num, by omega, take_next he.out HX0.out HY0.out, KF⟩
          case measure => simp [intOf]; omega
        · have HF : Hid (r = false) := by rw [← HR.out]; exact decide_eq_false (take_ne HX0.out HY0.out hxy)
          by_cases h1 : x.reg = y.reg
          · have n1 : (x.at_ == y.at_) = false := by
              simp only [beq_eq_false_iff_ne]
              intro e; apply hxy; cases x; cases y; simp only at h1 e; rw [h1, e]
            rw [h1] at g0
            clear hxy h1
            go_wp2_with fail
            refine wp_region_up (by kernel_rfl) (by kernel_rfl) ?_
            repeat (go_big_quiet_step (fail))
            refine wpQuiet_nil ?_
            rintro _ ⟨E, rfl⟩
            have KF := Lib.hid (KE'.out E)
            clear g0 g1 g2 g3
            go_wp2_with fail
            go_ret
            exact ⟨by rw [HF.out]; rfl, KF.out⟩
          · have n1 : (x.reg == y.reg) = false := by simpa using h1
            clear hxy h1
            go_wp2_with fail
            refine wp_region_up (by kernel_rfl) (by kernel_rfl) ?_
            repeat (go_big_quiet_step (fail))
            refine wpQuiet_nil ?_
            rintro _ ⟨E, rfl⟩
            have KF := Lib.hid (KE'.out E)
            clear g0 g1 g2 g3
            go_wp2_with fail
            go_ret
            exact ⟨by rw [HF.out]; rfl, KF.out⟩
      · have HF : Hid (r = true) := by rw [← HR.out]; exact decide_eq_true (take_eq_all he.out (by omega) (by omega))
        go_wp2_with fail
        go_ret
        exact ⟨by rw [HF.out]; rfl, KW.out⟩
  · have hb1 : ((xs.length : Int) != (ys.length : Int)) = true := by simp; omega
    have HF : Hid (r = false) := by rw [← HR.out]; exact decide_eq_false (fun e => hl (by rw [e]))
    clear hl
    go_enter Tryd.func148, Tryd.ntmps148
    go_wp2_with fail
    go_ret
    exact ⟨by rw [HF.out]; rfl, Below.refl _ _⟩

set_option maxHeartbeats 1000000 in
theorem equal_str_c (v u : Value) (xs ys : List ByteArray) (w : World) (hx : SliceR w w.heap.size 1 StrR v xs) (hy : SliceR w w.heap.size 1 StrR u ys) :
    Calls Tryd.prog 106 #[v, u] w (Gives (.bool (decide (xs = ys))) w) := by
  obtain ⟨A, cap, rfl, hc1, hc2, -⟩ := id hx
  obtain ⟨A', cap', rfl, hc1', hc2', -⟩ := id hy
  unfold maxLen at hc2 hc2'
  have HX := Lib.hid hx
  have HY := Lib.hid hy
  clear hx hy
  obtain ⟨r, hr⟩ : ∃ r : Bool, decide (xs = ys) = r := ⟨_, rfl⟩
  rw [hr]
  have HR := Lib.hid hr
  clear hr
  by_cases hl : xs.length = ys.length
  · have hl1 : xs.length ≤ ys.length := by omega
    have hl2 : ys.length ≤ xs.length := by omega
    have hb1 : ((xs.length : Int) != (ys.length : Int)) = false := by simp; omega
    clear hl
    go_enter Tryd.func106, Tryd.ntmps106
    go_wp2_with fail
    go_loopw [13] (fun k wr => ∃ kn : Nat, k = .int .i64 kn ∧ kn ≤ xs.length ∧ Hid (xs.take kn = ys.take kn) ∧ Hid (Below w.heap.size w wr)) (fun k _ => xs.length - (intOf k).toNat)
    case atStart => exact ⟨0, rfl, by omega, Lib.hid rfl, Below.refl _ _⟩
    case round =>
      obtain ⟨kn, rfl, hk, he, KW⟩ := hrel
      by_cases hlt : kn < xs.length
      · obtain ⟨b, off, x, cs, rfl, hb, hx0, -, ⟨rfl, -⟩, hat⟩ := HX.out.at_ hlt
        obtain ⟨b', off', y, cs', rfl, hb', hy0, -, ⟨rfl, -⟩, hat'⟩ := HY.out.at_ (i := kn) (by omega)
        have KE : ∀ E : Up wr, Below w.heap.size w E.to := fun E => below_to KW.out E
        have g0 : ∀ E : Up wr, E.to.cell? ⟨b, off + kn, none⟩ = some (.string x) := fun E => ((KE E).cell hb).trans (by simpa using hat 0 _ rfl)
        have g2 : ∀ E : Up wr, E.to.cell? ⟨b', off' + kn, none⟩ = some (.string y) := fun E => ((KE E).cell hb').trans (by simpa using hat' 0 _ rfl)
        have HX0 := Lib.hid hx0
        have HY0 := Lib.hid hy0
        have KE' := Lib.hid KE
        have hi1 : (kn : Int) < xs.length := by omega
        have hi2 : (kn : Int) < ys.length := by omega
        clear hx0 hy0 hat hat' KE
        by_cases hxy : x = y
        · subst hxy
          go_wp2_with fail
          refine wp_region_up (by kernel_rfl) (by kernel_rfl) ?_
          repeat (go_big_quiet_step (fail))
          refine wpQuiet_nil ?_
          rintro _ ⟨E, rfl⟩
          have KF := Lib.hid (KE'.out E)
          clear g0 g2
          go_wp2_with fail
          go_roundw
          case rel => exact ⟨kn + 1, by go_num, by omega, take_next he.out HX0.out HY0.out, KF⟩
          case measure => simp [intOf]; omega
        · have HF : Hid (r = false) := by rw [← HR.out]; exact decide_eq_false (take_ne HX0.out HY0.out hxy)
          have n1 : (x.toList == y.toList) = false := by
            simp only [beq_eq_false_iff_ne]
            intro e; apply hxy
            rw [Lib.toList_data, Lib.toList_data] at e
            have e2 : x.data = y.data := Array.toList_inj.1 e
            cases x; cases y; simp only at e2; rw [e2]
          clear hxy
          go_wp2_with fail
          refine wp_region_up (by kernel_rfl) (by kernel_rfl) ?_
          repeat (go_big_quiet_step (fail))
          refine wpQuiet_nil ?_
          rintro _ ⟨E, rfl⟩
          have KF := Lib.hid (KE'.out E)
          clear g0 g2
          go_wp2_with fail
          go_ret
          exact ⟨by rw [HF.out]; rfl, KF.out⟩
      · have HF : Hid (r = true) := by rw [← HR.out]; exact decide_eq_true (take_eq_all he.out (by omega) (by omega))
        go_wp2_with fail
        go_ret
        exact ⟨by rw [HF.out]; rfl, KW.out⟩
  · have hb1 : ((xs.length : Int) != (ys.length : Int)) = true := by simp; omega
    have HF : Hid (r = false) := by rw [← HR.out]; exact decide_eq_false (fun e => hl (by rw [e]))
    clear hl
    go_enter Tryd.func106, Tryd.ntmps106
    go_wp2_with fail
    go_ret
    exact ⟨by rw [HF.out]; rfl, Below.refl _ _⟩
end Go.Proofs.YtmccomeihnaanaaDoor
