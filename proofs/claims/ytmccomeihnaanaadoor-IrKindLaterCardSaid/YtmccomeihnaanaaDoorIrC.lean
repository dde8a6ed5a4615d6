/- Package ir: Asks; the closed fact of the laws. -/
import Derived.Test.YtmccomeihnaanaaDoorIrB
namespace Go.Proofs.YtmccomeihnaanaaDoor
open Go.RowKit

def insCells (x : TIns) : List Value := [.int .i64 x.op, .int .i64 x.a, .int .i64 x.b, .int .i64 x.c, .int .i64 x.n, .int .i64 x.exit, .int .i64 x.k.kind, .int .i64 x.k.n]
def insV (x : TIns) : Value := .agg #[.int .i64 x.op, .int .i64 x.a, .int .i64 x.b, .int .i64 x.c, .int .i64 x.n, .int .i64 x.exit, .int .i64 x.k.kind, .int .i64 x.k.n]
def WfIns (x : TIns) : Prop := wfi x.op ∧ wfi x.a ∧ wfi x.b ∧ wfi x.c ∧ wfi x.n ∧ wfi x.exit ∧ wfi x.k.kind ∧ wfi x.k.n

theorem infoInt : (Tryd.prog.info? 3).map (fun i => (i.zero, i.size, i.bytes)) = some (some (.int .i64 0), 1, 8) := by kernel_rfl

theorem asks_bd (op : Int) : 0 ≤ (formM op).asks ∧ (formM op).asks ≤ 3 ∧ ((isOp op) = false → (formM op).asks = 0) := by
  by_cases h : isOp op = true
  · rcases isOp_cases h with h | h | h | h | h | h | h | h | h | h | h | h | h | h | h | h | h | h | h <;> subst h <;> decide
  · have h' : isOp op = false := by simpa using h
    have := formM_else op (fun hc => by simp only [isOp, decide_eq_false_iff_not] at h'; omega)
    rw [this]
    simp

/-- it returns a slice that holds xs; below the heap's old size nothing has turned -/
def GivesInts (xs : List Int) (w : World) (e : Ending) (w' : World) : Prop := ∃ v, e = .returned v ∧ SliceR w' w'.heap.size 1 IntR v xs ∧ Below w.heap.size w w'

theorem three_at {W : World} {g : Nat} {a b c : Int} {t : TypeId} {fr : Nat × Nat} {k : Nat} (h : W.heap[g]? = some (.cells #[.int .i64 a, .int .i64 b, .int .i64 c] t fr)) :
    ∀ j u, (([a, b, c].take k).map (Value.int .i64))[j]? = some u → W.cell? ((⟨g, 0, none⟩ : Addr).add j) = some u := by
  intro j u hj
  rw [List.map_take, List.getElem?_take] at hj
  split at hj
  · have hl : j < 3 := by
      have := (List.getElem?_eq_some_iff.1 hj).1
      simpa using this
    match j, hl with
    | 0, _ => simpa [Addr.add, World.cell?, h] using hj
    | 1, _ => simpa [Addr.add, World.cell?, h] using hj
    | 2, _ => simpa [Addr.add, World.cell?, h] using hj
  · cases hj
theorem len_take3 {a b c : Int} {k : Nat} (hk : k ≤ 3) : (([a, b, c].take k).map (Value.int .i64)).length = k * 1 := by simp; omega
theorem heap_two (w : World) (o p : Obj) : ((w.alloc o).alloc p).heap[w.heap.size + 1]? = some p := by
  show ((w.heap.push o).push p)[w.heap.size + 1]? = _
  rw [Array.getElem?_push, if_pos (by simp)]
theorem ints_one (xs : List Int) : ∀ u ∈ xs.map (Value.int .i64), u.oneCell' = true := by
  intro u hu
  obtain ⟨x, _, rfl⟩ := List.mem_map.1 hu
  rfl
theorem small_len {n : Nat} (h : n ≤ 1000000) : n ≤ maxLen := by unfold maxLen; omega
theorem small_bytes {n : Nat} (h : n ≤ 1000000) : n * 8 ≤ 140737488355328 := by omega
theorem base_two {w w5 : World} (h : w.heap.size < w5.heap.size) (o p : Obj) : w.heap.size ≤ ((w5.alloc o).alloc p).heap.size := by simp; omega
theorem below_two {w w5 : World} {o0 : Obj} (h : Below (w.alloc o0).heap.size (w.alloc o0) w5) (hz : w.heap.size < w5.heap.size) (o p : Obj) : Below w.heap.size w ((w5.alloc o).alloc p) :=
  Below.alloc (Below.alloc ((Below.alloc (Below.refl _ _) (Nat.le_refl _) o0).trans (h.mono (by simp))) (by omega) o) (by simp; omega) p
theorem asksM_nil (x : TIns) (h : (formM x.op).asks = 0) : asksM x = [] := by simp [asksM, h]

set_option maxRecDepth 100000 in
set_option maxHeartbeats 1000000 in
theorem asks_c (x : TIns) (hw : WfIns x) (w : World) : Calls Tryd.prog 15 #[insV x] w (GivesInts (asksM x) w) := by
  obtain ⟨op, a, b, c, n, ex, ⟨kk, kn⟩⟩ := x
  obtain ⟨w1, w2, w3, w4, _⟩ := hw
  simp only at w2 w3 w4
  unfold insV
  dsimp only
  obtain ⟨h0, h3, hz⟩ := asks_bd op
  obtain ⟨i0, hi, hz0, hz1, hz2⟩ := info_parts infoInt
  by_cases his : isOp op = true
  · have hml : asksM ⟨op, a, b, c, n, ex, ⟨kk, kn⟩⟩ = [a, b, c].take (formM op).asks.toNat := rfl
    have HM := Lib.hid hml
    clear hml hz
    obtain ⟨k, hk⟩ : ∃ k : Nat, (formM op).asks = k := ⟨(formM op).asks.toNat, by omega⟩
    have hk3 : k ≤ 3 := by omega
    have hk3i : (k : Int) ≤ 3 := by omega
    have HK := Lib.hid hk
    go_enter Tryd.func15, Tryd.ntmps15
    go_wp2_with fail
    refine (of_c op _).mono ?_
    rintro e w5 ⟨rfl, b5⟩
    have g1 : w5.cell? ⟨w.heap.size, 1, none⟩ = some (.int .i64 a) := (b5.cell (p := ⟨w.heap.size, 1, none⟩) (by simp)).trans (World.cell?_alloc_at _ _ _ _ rfl)
    have g2 : w5.cell? ⟨w.heap.size, 2, none⟩ = some (.int .i64 b) := (b5.cell (p := ⟨w.heap.size, 2, none⟩) (by simp)).trans (World.cell?_alloc_at _ _ _ _ rfl)
    have g3 : w5.cell? ⟨w.heap.size, 3, none⟩ = some (.int .i64 c) := (b5.cell (p := ⟨w.heap.size, 3, none⟩) (by simp)).trans (World.cell?_alloc_at _ _ _ _ rfl)
    have B5 := Lib.hid b5
    have hz5 : w.heap.size < w5.heap.size := by have := b5.size; simp at this; omega
    clear b5
    unfold formV
    rw [his, hk]
    clear hk his h0 h3
    go_wp2_with (at_builtin; refine wpList_append_own _ rfl _ _ 38 rfl w.heap.size 3 i0 (.int .i64 0) 1 8 Tryd.underlying38 hi hz0 hz1 hz2 rfl (by decide) (.slice none 0 0) 0 [] rfl (World.ownsRow_nil _ _ _ _) ⟨w5.heap.size + 1, 0, none⟩ k 3 (([a, b, c].take k).map (Value.int .i64)) rfl (len_take3 hk3) (three_at (heap_two _ _ _)) (ints_one _) (small_len (by omega)) (small_bytes (by omega)) (base_two hz5 _ _) ?_)
    intro v w6 hown hg _
    have HO := Lib.hid hown
    have HG := Lib.hid hg
    clear hown hg
    go_wp2_with fail
    go_ret
    refine ⟨v, rfl, ?_, ?_⟩
    · rw [HM.out, HK.out]
      have := HO.out
      have hlen : ([a, b, c].take k).length = k := by simp; omega
      refine sliceR_of_own (base := w.heap.size) (e := 3) (xs := [a, b, c].take k) ?_ ?_
      · rw [hlen]; simpa using this
      · intro x hx
        have := List.mem_of_mem_take hx
        simp at this
        rcases this with rfl | rfl | rfl <;> assumption
    · have hb := HG.out
      exact Below.grown (below_two B5.out hz5 _ _) hb (base_two hz5 _ _) (by simp [Value.ownBlock])
  · have his' : isOp op = false := by simpa using his
    have HN := Lib.hid (asksM_nil ⟨op, a, b, c, n, ex, ⟨kk, kn⟩⟩ (hz his'))
    clear hz his h0 h3
    go_enter Tryd.func15, Tryd.ntmps15
    go_wp2_with fail
    refine (of_c op _).mono ?_
    rintro e w5 ⟨rfl, b5⟩
    have B5 := Lib.hid b5
    clear b5
    unfold formV
    rw [his']
    clear his'
    go_wp2_with fail
    go_ret
    refine ⟨_, rfl, ?_, ?_⟩
    · rw [HN.out]; exact SliceR.nil _ _ _ _
    · refine Below.alloc ((Below.alloc (Below.refl _ _) (Nat.le_refl _) _).trans (B5.out.mono (by simp))) ?_ _
      have := B5.out.size; simp at this; omega
end Go.Proofs.YtmccomeihnaanaaDoor
