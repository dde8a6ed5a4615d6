/- dead.Do's closure: marks. -/
import Derived.Test.YtmccomeihnaanaaDoorDeadB
namespace Go.Proofs.YtmccomeihnaanaaDoor
open Go.RowKit

def markRow (marks : List Int) (n : Nat) : List Value := (List.range n).map (fun i : Nat => Value.bool (marks.contains (i : Int)))
theorem markRow_at {marks : List Int} {n k : Nat} (h : k < n) : (markRow marks n)[k]? = some (.bool (marks.contains (k : Int))) := by
  unfold markRow
  rw [List.getElem?_map, List.getElem?_range h]; rfl
theorem markRow_set {marks : List Int} {n k : Nat} (h : k < n) : (⟨markRow marks n⟩ : Array Value).setIfInBounds k (.bool true) = ⟨markRow (marks ++ [(k : Int)]) n⟩ := by
  apply Array.toList_inj.1
  rw [Array.toList_setIfInBounds]
  show (markRow marks n).set k _ = markRow _ n
  apply List.ext_getElem?
  intro i
  rcases Nat.lt_or_ge i n with hi | hi
  · rw [markRow_at hi]
    by_cases c : k = i
    · subst c
      rw [List.getElem?_set_self (by simp [markRow]; exact hi)]
      simp
    · rw [List.getElem?_set_ne c, markRow_at hi]
      have : (i : Int) ≠ (k : Int) := by omega
      simp [this]
  · rw [List.getElem?_eq_none (by simp [markRow]; exact hi), List.getElem?_eq_none (by simp [markRow]; exact hi)]
theorem markRow_nil (n : Nat) : markRow [] n = List.replicate n (.bool false) := by
  apply List.ext_getElem?
  intro i
  rcases Nat.lt_or_ge i n with hi | hi
  · rw [markRow_at hi, List.getElem?_replicate, if_pos hi]; rfl
  · rw [List.getElem?_eq_none (by simp [markRow]; exact hi), List.getElem?_eq_none (by simp; exact hi)]
theorem markRow_neg {marks : List Int} {n : Nat} {v : Int} (h : v < 0) : markRow (marks ++ [v]) n = markRow marks n := by
  unfold markRow
  refine List.map_congr_left (fun i _ => ?_)
  have : (i : Int) ≠ v := by omega
  simp [this]
theorem checkM_exit {rightV : Val → Bool} {ce : Int} {fns : List FnM} {t : TTrace} (h : checkM rightV ce fns t = 0) {i : Nat} {x : TIns} (hx : t.ins[i]? = some x) : -1 ≤ x.exit ∧ x.exit < t.exits.length := by
  obtain ⟨_, fn, h1⟩ := checkM_ins h
  obtain ⟨_, h2⟩ := insM_formed t.ins 0 h1 i x hx
  simp only [formedM, Bool.and_eq_true] at h2
  have h3 := h2.2
  split at h3
  · have : x.exit = -1 := by simpa using h3
    omega
  · simp only [Bool.and_eq_true, decide_eq_true_eq] at h3
    omega
def MarkPost (g n : Nat) (marks l : List Int) (w : World) (e : Ending) (w' : World) : Prop :=
  e = .returned (.tuple #[]) ∧ w'.heap[g]? = some (.cells ⟨markRow (marks ++ l) n⟩ 4 (0, 0)) ∧ Fined g w w'
set_option maxHeartbeats 1000000 in
set_option maxRecDepth 100000 in
theorem mark_c (v : Value) (l marks : List Int) (ab g n : Nat) (w : World) (hn : n ≤ 300) (hl : SliceR w w.heap.size 1 IntR v l) (hin : ∀ x ∈ l, 0 ≤ x ∧ x < (n : Int)) (ha : w.cell? ⟨ab, 0, none⟩ = some (.slice (some ⟨g, 0, none⟩) n n)) (hg : w.heap[g]? = some (.cells ⟨markRow marks n⟩ 4 (0, 0))) (hab : ab ≠ g) :
    Calls Tryd.prog 44 #[v, .pointer (some ⟨ab, 0, none⟩)] w (MarkPost g n marks l w) := by
  have HL := Lib.hid hl
  have HIN := Lib.hid hin
  have HG := Lib.hid hg
  have HA := Lib.hid ha
  obtain ⟨A, cap, rfl, l1, l2, -⟩ := id hl
  unfold maxLen at l2
  have hza : ab < w.heap.size := cell_lt ha
  have hzg : g < w.heap.size := (Array.getElem?_eq_some_iff.1 hg).1
  have hni : (n : Int) ≤ 300 := by omega
  have hnb : ∀ (b off k : Nat) (x : Int), w.cell? ⟨b, off + k, none⟩ = some (.int .i64 x) → b ≠ g := fun b off k x h => by
    rintro rfl
    rw [cell_of_row w b (off + k) _ _ _ hg] at h
    have h1 : (markRow marks n)[off + k]? = some (.int .i64 x) := by simpa using h
    rcases Nat.lt_or_ge (off + k) n with d | d
    · rw [markRow_at d] at h1; cases h1
    · rw [List.getElem?_eq_none (by simp [markRow]; exact d)] at h1; cases h1
  have HNB := Lib.hid hnb
  clear hl hin hg ha hnb
  go_enter Tryd.func44, Tryd.ntmps44
  go_wp2_with fail
  go_loopw [7] (fun i wr => ∃ j : Nat, i = .int .i64 j ∧ j ≤ l.length ∧ Hid (wr.heap[g]? = some (.cells ⟨markRow (marks ++ l.take j) n⟩ 4 (0, 0))) ∧ Hid (Fined g w wr)) (fun i _ => l.length - (RowKit.intOf i).toNat)
  case atStart => exact ⟨0, rfl, by omega, by rw [List.take_zero, List.append_nil]; exact HG.out, Fined.refl _ _⟩
  case round =>
    obtain ⟨j, rfl, hj, RG, RF⟩ := hrel
    have hzr : w.heap.size ≤ wr.heap.size := RF.out.size
    by_cases hlt : j < l.length
    · obtain ⟨b, off, y, ys, rfl, hb, hy, -, ⟨rfl, wy⟩, hat⟩ := HL.out.at_ hlt
      have hji : (j : Int) < l.length := by omega
      have c0 : w.cell? ⟨b, off + j, none⟩ = some (.int .i64 y) := by simpa using hat 0 _ rfl
      have hbg := HNB.out b off j y c0
      have g0 : wr.cell? ⟨b, off + j, none⟩ = some (.int .i64 y) := RF.out.cell c0 hbg
      have a0 : wr.cell? ⟨ab, 0, none⟩ = some (.slice (some ⟨g, 0, none⟩) n n) := RF.out.cell HA.out hab
      obtain ⟨y0, y1⟩ := HIN.out y (List.mem_of_getElem? hy)
      obtain ⟨k, rfl⟩ := Int.eq_ofNat_of_zero_le y0
      have hk : k < n := by omega
      have cg := HeadAt.of_row RG.out k _ (markRow_at hk)
      have fg := frozen_of_row wr g k _ _ RG.out
      have HY := Lib.hid hy
      clear hat hy wy c0
      go_wp2_with fail
      go_roundw
      case rel =>
        refine ⟨j + 1, by go_num, by omega, ?_, RF.out.set_ _ _⟩
        show _ = _
        rw [heap_setCell_same wr g k _ _ _ RG.out, markRow_set hk, take_snoc HY.out, List.append_assoc]
      case measure => simp [RowKit.intOf]; omega
    · have hji : ¬ (j : Int) < l.length := by omega
      have RE : Hid (wr.heap[g]? = some (.cells ⟨markRow (marks ++ l) n⟩ 4 (0, 0))) := by
        have h1 := RG.out
        rw [List.take_of_length_le (by omega)] at h1
        exact h1
      go_wp2_with fail
      go_end0
      exact ⟨rfl, RE.out, RF.out⟩
end Go.Proofs.YtmccomeihnaanaaDoor
