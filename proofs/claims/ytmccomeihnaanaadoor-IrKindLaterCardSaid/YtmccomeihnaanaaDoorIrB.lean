/- Package ir: Tells, Asks; Eq of two lists of ints; the closed fact of the laws. -/
import Derived.Test.YtmccomeihnaanaaDoorIrA
import Derived.Test.YtmccomeihnaanaaDoorRep
import Derived.Test.YtmccomeihnaanaaDoorUp
import Derived.WalkSpells
namespace Go.Proofs.YtmccomeihnaanaaDoor
open Go.RowKit

theorem below_drewN {B : Nat} {a w : World} (h : Below B a w) (n : Nat) : Below B a (w.drewN n) := ⟨h.os, h.tape, h.output, h.size, h.block⟩

/-- it returns v; below the heap's old size nothing has turned -/
def Gives (v : Value) (w : World) (e : Ending) (w' : World) : Prop := e = .returned v ∧ Below w.heap.size w w'

set_option maxHeartbeats 400000 in
theorem tells_c (op : Int) (w : World) : Calls Tryd.prog 16 #[.int .i64 op] w (Gives (.bool (tellsM op)) w) := by
  go_enter Tryd.func16, Tryd.ntmps16
  go_wp2_with fail
  refine (of_c op w).mono ?_
  rintro e w1 ⟨rfl, b1⟩
  have B1 := Lib.hid b1
  clear b1
  unfold formV
  go_wp2_with fail
  go_ret
  exact ⟨rfl, by repeat (first | exact B1.out | refine Below.drew ?_ | refine Below.setCell ?_ (by have := B1.out.size; simp; omega) _ | refine Below.alloc ?_ (by have := B1.out.size; simp; omega) _)⟩

theorem sliceR_of_own {w : World} {base e : Nat} {v : Value} {xs : List Int} (h : w.ownsRow base e 1 v xs.length (xs.map (Value.int .i64))) (hw : ∀ x ∈ xs, wfi x) : SliceR w w.heap.size 1 IntR v xs := by
  rcases h.2 with ⟨rfl, h0⟩ | ⟨g, cap, cur, rfl, hb, hg, h1, h2, h3, h4⟩
  · have : xs = [] := List.length_eq_zero_iff.1 h0
    subst this
    exact SliceR.nil _ _ _ _
  · refine ⟨_, cap, rfl, h1, h2, fun hp => ⟨g, 0, rfl, (Array.getElem?_eq_some_iff.1 hg).1, fun i x hi => ⟨[.int .i64 x], rfl, ⟨rfl, hw x (List.mem_of_getElem? hi)⟩, fun j u hj => ?_⟩⟩⟩
    have hj0 : j = 0 := by
      have := (List.getElem?_eq_some_iff.1 hj).1
      simp at this; omega
    subst hj0
    simp at hj
    subst hj
    have hi' : i < xs.length := (List.getElem?_eq_some_iff.1 hi).1
    simp only [World.cell?, hg]
    simp only [Nat.mul_one, Nat.zero_add, Nat.add_zero, Option.isSome_none, Bool.false_eq_true, if_false]
    have h5 : (cur.toList.take xs.length)[i]? = some (.int .i64 x) := by
      rw [Nat.mul_one] at h4
      rw [h4]
      simp [hi]
    rw [List.getElem?_take, if_pos hi'] at h5
    simpa using h5

set_option maxHeartbeats 1000000 in
theorem eq_ints_c (v u : Value) (xs ys : List Int) (B : Nat) (w : World) (hx : SliceR w B 1 IntR v xs) (hy : SliceR w B 1 IntR u ys) :
    Calls Tryd.prog 39 #[v, u] w fun e w' => e = .returned (.bool (decide (xs = ys))) ∧ w' = w := by
  obtain ⟨A, cap, rfl, hc1, hc2, _⟩ := id hx
  obtain ⟨A', cap', rfl, hc1', hc2', _⟩ := id hy
  unfold maxLen at hc2 hc2'
  have HX := Lib.hid hx
  have HY := Lib.hid hy
  clear hx hy
  by_cases hl : xs.length = ys.length
  · have hl1 : xs.length ≤ ys.length := by omega
    have hl2 : ys.length ≤ xs.length := by omega
    have hb1 : ((xs.length : Int) != (ys.length : Int)) = false := by simp; omega
    clear hl
    go_enter Tryd.func39, Tryd.ntmps39
    go_wp2_with fail
    go_loop [14] (fun k => ∃ kn : Nat, k = .int .i64 kn ∧ kn ≤ xs.length ∧ Hid (xs.take kn = ys.take kn)) (fun k => xs.length - (intOf k).toNat)
    case atStart => exact ⟨0, rfl, by omega, Lib.hid rfl⟩
    case round =>
      obtain ⟨kn, rfl, hk, he⟩ := hrel
      by_cases hlt : kn < xs.length
      · obtain ⟨b, off, x, cs, rfl, hb, hx0, hcl, hR, hat⟩ := HX.out.at_ hlt
        obtain ⟨b', off', y, cs', rfl, hb', hy0, hcl', hR', hat'⟩ := HY.out.at_ (i := kn) (by omega)
        obtain ⟨rfl, _⟩ := hR
        obtain ⟨rfl, _⟩ := hR'
        have g0 : w.cell? ⟨b, off + kn, none⟩ = some (.int .i64 x) := by simpa using hat 0 _ rfl
        have g1 : w.cell? ⟨b', off' + kn, none⟩ = some (.int .i64 y) := by simpa using hat' 0 _ rfl
        have HX0 := Lib.hid hx0
        have HY0 := Lib.hid hy0
        clear hx0 hy0 hat hat' hcl hcl'
        by_cases hxy : x = y
        · subst hxy
          go_wp2_with fail
          go_round
          case rel => exact ⟨kn + 1, by go_num, by omega, Lib.hid (by rw [List.take_add_one, List.take_add_one, he.out, HX0.out, HY0.out])⟩
          case measure => simp [intOf]; omega
        · have hne : (x == y) = false := by simpa using hxy
          have hne2 : (x != y) = true := by simpa using hxy
          have HN := Lib.hid hxy
          clear hxy
          go_wp2_with fail
          go_ret
          refine ⟨?_, rfl⟩
          have : ¬ xs = ys := fun e => HN.out (by have h1 := HX0.out; rw [e, HY0.out] at h1; injection h1 with h1; exact h1.symm)
          simp [this]
      · go_wp2_with fail
        go_ret
        refine ⟨?_, rfl⟩
        have h1 : xs = ys := by
          have := he.out
          rw [List.take_of_length_le (by omega), List.take_of_length_le (by omega)] at this
          exact this
        simp [h1]
  · have hb1 : ((xs.length : Int) != (ys.length : Int)) = true := by simp; omega
    have HN := Lib.hid hl
    clear hl
    go_enter Tryd.func39, Tryd.ntmps39
    go_wp2_with fail
    go_ret
    refine ⟨?_, rfl⟩
    have : ¬ xs = ys := fun e => HN.out (by rw [e])
    simp [this]
end Go.Proofs.YtmccomeihnaanaaDoor
