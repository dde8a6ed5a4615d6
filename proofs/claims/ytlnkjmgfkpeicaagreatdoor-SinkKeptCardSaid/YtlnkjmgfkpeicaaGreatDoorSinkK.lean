/- sink: Do. -/
import Derived.Test.YtlnkjmgfkpeicaaGreatDoorSinkJ
import Derived.Test.YtlnkjmgfkpeicaaGreatDoorChkG
set_option linter.all false
namespace Go.Proofs.YtlnkjmgfkpeicaaGreatDoor
open Go.RowKit

theorem mk_ints (n : Nat) (hn : n ≤ 600) (W : World) : (Instr.makeSlice 47 (.int .i64 (n : Int)) (.int .i64 (n : Int))).run Tryz.prog W = .ok (.slice (some ⟨W.heap.size, 0, none⟩) n n) (W.alloc (.cells ⟨List.replicate n (.int .i64 0)⟩ 3)) := by
  obtain ⟨i0, hi, hz0, hz1, hz2⟩ := info_parts infoInt
  have h := run_make (P := Tryz.prog) W 47 3 i0 (.int .i64 0) Tryz.underlying47 hi hz0 .i64 .i64 n n (by omega) (Int.le_refl _) (by rw [hz2]; omega) (by omega)
  rw [Int.toNat_natCast, hz1, Nat.mul_one] at h
  rw [h, show (Value.int .i64 0).cells = #[.int .i64 0] from rfl, madeCells_one]
/-- the row of a slice of n numbers, of which the first are told -/
def toRow (tl : List Int) (n : Nat) : List Value := (tl ++ List.replicate (n - tl.length) 0).map (.int .i64)
theorem toRow_zero (n : Nat) : toRow [] n = List.replicate n (.int .i64 0) := by simp [toRow]
theorem toRow_full {tl : List Int} {n : Nat} (h : tl.length = n) : toRow tl n = tl.map (.int .i64) := by
  unfold toRow; rw [h, Nat.sub_self]; simp
theorem toRow_at {tl : List Int} {n k : Nat} (h : k < tl.length) : (toRow tl n)[k]? = some (.int .i64 (tl.getD k 0)) := by
  unfold toRow
  rw [List.getElem?_map, List.getElem?_append_left h, List.getElem?_eq_getElem h, List.getD_eq_getElem?_getD, List.getElem?_eq_getElem h]
  rfl
theorem toRow_next {tl : List Int} {n : Nat} (h : tl.length < n) : toRow tl n = tl.map (.int .i64) ++ .int .i64 0 :: List.replicate (n - tl.length - 1) (.int .i64 0) := by
  unfold toRow
  obtain ⟨m, hm⟩ : ∃ m, n - tl.length = m + 1 := ⟨n - tl.length - 1, by omega⟩
  rw [hm, List.replicate_succ]
  simp
theorem toRow_snoc {tl : List Int} {n : Nat} (h : tl.length < n) (v : Int) : toRow (tl ++ [v]) n = tl.map (.int .i64) ++ .int .i64 v :: List.replicate (n - tl.length - 1) (.int .i64 0) := by
  unfold toRow
  rw [List.length_append, List.length_cons, List.length_nil, show n - (tl.length + (0 + 1)) = n - tl.length - 1 by omega]
  simp
theorem toRow_push {tl : List Int} {n j : Nat} (h : tl.length < n) (hj : j = tl.length) (v : Int) : (⟨toRow tl n⟩ : Array Value).setIfInBounds j (.int .i64 v) = ⟨toRow (tl ++ [v]) n⟩ := by
  apply Array.toList_inj.1
  rw [Array.toList_setIfInBounds]
  show (toRow tl n).set j _ = toRow _ n
  rw [toRow_next h, toRow_snoc h, List.set_append_right _ _ (by simp [hj])]
  simp [hj]
theorem toRow_again {tl : List Int} {n j : Nat} (h : tl.length < n) (hj : j = tl.length) (u v : Int) : (⟨toRow (tl ++ [u]) n⟩ : Array Value).setIfInBounds j (.int .i64 v) = ⟨toRow (tl ++ [v]) n⟩ := by
  apply Array.toList_inj.1
  rw [Array.toList_setIfInBounds]
  show (toRow _ n).set j _ = toRow _ n
  rw [toRow_snoc h, toRow_snoc h, List.set_append_right _ _ (by simp [hj])]
  simp [hj]
theorem toRow_len {tl : List Int} {n : Nat} (h : tl.length ≤ n) : (toRow tl n).length = n := by simp [toRow]; omega
/-- numbers in a row of their own -/
theorem sliceR_of_row {w : World} {g : Nat} {xs : List Int} (h : w.heap[g]? = some (.cells ⟨xs.map (.int .i64)⟩ 3 (0, 0))) (hw : ∀ x ∈ xs, wfi x) (hl : xs.length ≤ maxLen) : SliceR w w.heap.size 1 IntR (.slice (some ⟨g, 0, none⟩) xs.length xs.length) xs := by
  refine ⟨some ⟨g, 0, none⟩, xs.length, rfl, Nat.le_refl _, hl, fun _ => ⟨g, 0, rfl, (Array.getElem?_eq_some_iff.1 h).1, fun i x hi => ⟨[.int .i64 x], rfl, ⟨rfl, hw x (List.mem_of_getElem? hi)⟩, fun j u hj => ?_⟩⟩⟩
  match j, hj with
  | 0, hj =>
    have : u = .int .i64 x := by simpa using hj.symm
    subst this
    rw [show 0 + i * 1 + 0 = i by omega, cell_of_row w g i _ _ _ h]
    simp [hi]
open Classical in
noncomputable def newsAt (w : World) (tb : Nat) : Nat := match w.cell? ⟨tb, 3, none⟩ with
  | some (.slice (some a) n _) => (List.range n).countP (fun i => decide (w.cell? ⟨a.block, a.off + i * 8, none⟩ = some (.int .i64 16)))
  | _ => 0
theorem news_range : ∀ l : List TIns, news l = (List.range l.length).countP (fun i => decide ((l[i]?).map (·.op) = some 16))
  | [] => rfl
  | x :: l => by
    have ih := news_range l
    rw [List.length_cons, List.range_succ_eq_map, List.countP_cons, List.countP_map]
    unfold news at ih ⊢
    rw [List.countP_cons, ih]
    congr 1
    · simp
theorem newsAt_eq {w : World} {tb : Nat} {A : Option Addr} {n : Nat} {l : List TIns} (hc : w.cell? ⟨tb, 3, none⟩ = some (.slice A l.length n)) (hs : SliceR w w.heap.size 8 InsR (.slice A l.length n) l) : newsAt w tb = news l := by
  unfold newsAt
  rw [hc, news_range]
  obtain ⟨A', n', e, h1, h2, h3⟩ := hs
  injection e with e1 e2 e3
  subst e1; subst e3
  rcases Nat.eq_zero_or_pos l.length with h | h
  · rw [h]
    cases A with
    | none => rfl
    | some a => obtain ⟨a, b, c⟩ := a; rfl
  · obtain ⟨b, off, e4, hb, hat⟩ := h3 h
    subst e4
    dsimp only
    refine List.countP_congr (fun i hi => ?_)
    have hil := List.mem_range.1 hi
    have hx := List.getElem?_eq_getElem hil
    obtain ⟨cs, c1, ⟨c2, -⟩, c3⟩ := hat i _ hx
    have hc0 := c3 0 (.int .i64 l[i].op) (by rw [c2]; rfl)
    rw [Nat.add_zero] at hc0
    rw [hc0, hx]
    simp
def SinkDoPost (p : CProg) (t : TTrace) (w : World) (e : Ending) (w' : World) : Prop :=
  ∃ (cs : List Value) (u : TTrace) (er : Int), e = .returned (.tuple #[.agg ⟨cs⟩, .int .i64 er]) ∧ TraceR w' w'.heap.size cs u ∧ Below w.heap.size w w' ∧ (er = 0 → checkM rightV (codeCheckM p) (p.fns.map fnOf) t = 0 ∧ Keeps t u)
set_option maxHeartbeats 16000000 in
set_option maxRecDepth 100000 in
theorem sinkDo_c (pcs ca : List Value) (p : CProg) (t : TTrace) (w : World) (hp : ProgR w w.heap.size pcs p) (ht : TraceR w w.heap.size ca t) (tab : Tab w) :
    Calls Tryz.prog 4 #[.agg ⟨pcs⟩, .agg ⟨ca⟩] w (SinkDoPost p t w) := by
  have HT := Lib.hid ht
  have HIp := Lib.hid hp.size3
  obtain ⟨A1, n1, A2, n2, A3, n3, A4, n4, A5, n5, A6, n6, hca, hlm⟩ := ht.cells
  subst hca
  have LTT : Hid ((Tryz.prog.info? 34).map (·.size) = some ([.int .i64 t.fn, .int .i64 t.at_, .int .i64 t.loop, .slice A1 t.ins.length n1, .slice A2 t.exits.length n2, .int .i64 t.turn.at_, .int .i64 t.turn.steps, .slice A3 t.turn.sets.length n3, .slice A4 t.turn.makes.length n4, .int .i64 t.back.at_, .int .i64 t.back.steps, .slice A5 t.back.sets.length n5, .slice A6 t.back.makes.length n6] : List Value).length) := infoTr13
  obtain ⟨w0, hw0⟩ : ∃ w0, w0 = ((w.alloc (.cells ⟨pcs⟩ 26)).alloc (.cells #[.int .i64 t.fn, .int .i64 t.at_, .int .i64 t.loop, .slice A1 t.ins.length n1, .slice A2 t.exits.length n2, .int .i64 t.turn.at_, .int .i64 t.turn.steps, .slice A3 t.turn.sets.length n3, .slice A4 t.turn.makes.length n4, .int .i64 t.back.at_, .int .i64 t.back.steps, .slice A5 t.back.sets.length n5, .slice A6 t.back.makes.length n6] 34)).alloc (.cells #[.int .i64 0, .int .i64 0, .int .i64 0, .slice none 0 0, .slice none 0 0, .int .i64 0, .int .i64 0, .slice none 0 0, .slice none 0 0, .int .i64 0, .int .i64 0, .slice none 0 0, .slice none 0 0] 34) := ⟨_, rfl⟩
  have K0 : Hid (Below w.heap.size w w0) := by rw [hw0]; exact (below_two' w _ _).trans ((below_one _ _).mono (below_two' w _ _).size)
  have P0 : Hid (w0.heap[w.heap.size]? = some (.cells ⟨pcs⟩ 26 (0, 0))) := by rw [hw0]; exact heap_old (heap_old (heap_last w _) _) _
  have B0 : Hid (w0.heap[w.heap.size + 1]? = some (.cells ⟨[.int .i64 t.fn, .int .i64 t.at_, .int .i64 t.loop, .slice A1 t.ins.length n1, .slice A2 t.exits.length n2, .int .i64 t.turn.at_, .int .i64 t.turn.steps, .slice A3 t.turn.sets.length n3, .slice A4 t.turn.makes.length n4, .int .i64 t.back.at_, .int .i64 t.back.steps, .slice A5 t.back.sets.length n5, .slice A6 t.back.makes.length n6]⟩ 34 (0, 0))) := by rw [hw0]; exact heap_old (heap_two w _ _) _
  have Z0 : Hid (w0.heap[w.heap.size + 1 + 1]? = some (.cells ⟨[.int .i64 0, .int .i64 0, .int .i64 0, .slice none 0 0, .slice none 0 0, .int .i64 0, .int .i64 0, .slice none 0 0, .slice none 0 0, .int .i64 0, .int .i64 0, .slice none 0 0, .slice none 0 0]⟩ 34 (0, 0))) := by rw [hw0]; exact heap_three w _ _ _
  have HW := Lib.hid hw0
  have CE := Lib.hid (check_c pcs [.int .i64 t.fn, .int .i64 t.at_, .int .i64 t.loop, .slice A1 t.ins.length n1, .slice A2 t.exits.length n2, .int .i64 t.turn.at_, .int .i64 t.turn.steps, .slice A3 t.turn.sets.length n3, .slice A4 t.turn.makes.length n4, .int .i64 t.back.at_, .int .i64 t.back.steps, .slice A5 t.back.sets.length n5, .slice A6 t.back.makes.length n6] p t w0 (hp.below K0.out) (ht.below K0.out) (tab.below K0.out))
  obtain ⟨ce, hce⟩ : ∃ ce, checkM rightV (codeCheckM p) (p.fns.map fnOf) t = ce := ⟨_, rfl⟩
  rw [hce] at CE
  have HCE := Lib.hid hce
  obtain ⟨tb, htb⟩ : ∃ tb, tb = w.heap.size + 1 := ⟨_, rfl⟩
  obtain ⟨r0, hr0⟩ : ∃ r0, r0 = tb + 1 := ⟨_, rfl⟩
  have hz0 : r0 < w0.heap.size := by rw [hr0, htb]; exact (Array.getElem?_eq_some_iff.1 Z0.out).1
  rw [← htb] at B0 Z0
  rw [← hr0] at Z0
  have hwt : w.heap.size < tb ∧ tb < r0 := by omega
  have RP := Lib.hid (HeadAt.of_row P0.out).range
  have RB := Lib.hid (HeadAt.of_row B0.out).range
  clear hp ht hw0 hce tab
  go_enter Tryz.func4, Tryz.ntmps4
  go_upto_region 1 with fail
  rw [← HW.out]
  rw [← htb]
  rw [← hr0]
  clear htb hr0
  go_wp2_with (first
    | (refine wpList_load_mid rfl 26 _ rfl w.heap.size 0 rfl pcs _ RP.out Tryz.underlying26 rfl HIp.out ?_)
    | (refine wpList_load_mid rfl 34 _ rfl tb 0 rfl [.int .i64 t.fn, .int .i64 t.at_, .int .i64 t.loop, .slice A1 t.ins.length n1, .slice A2 t.exits.length n2, .int .i64 t.turn.at_, .int .i64 t.turn.steps, .slice A3 t.turn.sets.length n3, .slice A4 t.turn.makes.length n4, .int .i64 t.back.at_, .int .i64 t.back.steps, .slice A5 t.back.sets.length n5, .slice A6 t.back.makes.length n6] _ RB.out Tryz.underlying34 rfl LTT.out ?_)
    | fail)
  refine CE.out.mono ?_
  rintro e w1 ⟨rfl, k1⟩
  have K1 := Lib.hid (K0.out.trans (k1.mono K0.out.size))
  have B1 := Lib.hid ((k1.block _ (by omega)).trans B0.out)
  have Z1 := Lib.hid ((k1.block _ hz0).trans Z0.out)
  have hz1 := (Array.getElem?_eq_some_iff.1 Z1.out).1
  clear k1 RP RB CE P0 B0 Z0
  by_cases hc : ce = 0
  case neg =>
    have hc' : (ce != 0) = true := by simpa using hc
    have HC := Lib.hid hc
    clear hc
    go_wp2_with (first
      | (refine wpList_store_row rfl 34 _ _ rfl r0 #[.int .i64 0, .int .i64 0, .int .i64 0, .slice none 0 0, .slice none 0 0, .int .i64 0, .int .i64 0, .slice none 0 0, .slice none 0 0, .int .i64 0, .int .i64 0, .slice none 0 0, .slice none 0 0] rfl rfl 34 _ Z1.out infoTr13 rfl (all_oneCell_toArray (by simp [Value.oneCell'])) ?_)
      | fail)
    generalize hw9 : World.setRow _ _ _ = w9
    have QR : Hid (w9.heap[r0]? = some (.cells #[.int .i64 0, .int .i64 0, .int .i64 0, .slice none 0 0, .slice none 0 0, .int .i64 0, .int .i64 0, .slice none 0 0, .slice none 0 0, .int .i64 0, .int .i64 0, .slice none 0 0, .slice none 0 0] 34 (0, 0))) := by rw [← hw9]; exact setRow_heap _ _ _ _ _ _ Z1.out
    have K9 : Hid (Below w.heap.size w w9) := by rw [← hw9]; exact Below.set_row K1.out (by omega) _
    clear hw9
    go_wp2_with fail
    have g0 := cell_of_row w9 r0 0 _ _ _ QR.out
    have g1 := cell_of_row w9 r0 1 _ _ _ QR.out
    have g2 := cell_of_row w9 r0 2 _ _ _ QR.out
    have g3 := cell_of_row w9 r0 3 _ _ _ QR.out
    have g4 := cell_of_row w9 r0 4 _ _ _ QR.out
    have g5 := cell_of_row w9 r0 5 _ _ _ QR.out
    have g6 := cell_of_row w9 r0 6 _ _ _ QR.out
    have g7 := cell_of_row w9 r0 7 _ _ _ QR.out
    have g8 := cell_of_row w9 r0 8 _ _ _ QR.out
    have g9 := cell_of_row w9 r0 9 _ _ _ QR.out
    have g10 := cell_of_row w9 r0 10 _ _ _ QR.out
    have g11 := cell_of_row w9 r0 11 _ _ _ QR.out
    have g12 := cell_of_row w9 r0 12 _ _ _ QR.out
    unfold SinkDoPost
    refine bodyPost_ret (v := .tuple #[.agg ⟨zeroTrace⟩, .int .i64 ce]) (by simp [results, Tryz.results4, go_sem, zeroTrace, g0, g1, g2, g3, g4, g5, g6, g7, g8, g9, g10, g11, g12]) rfl ⟨_, trace0, ce, rfl, zeroTrace_R _ _, K9.out, fun e => (HC.out e).elim⟩
  subst hc
  have FT := Lib.hid (check_fits HCE.out)
  have CU := Lib.hid (cutM_upto (checkM_cuts HCE.out))
  have h300 := FT.out.ins
  have l3 := HeadAt.of_row B1.out 3 _ rfl
  have hmk := fun W => mk_ints t.ins.length (by omega) W
  have hw12 : w1.heap.size = w1.heap.size := rfl
  go_upto_region 5 with fail
  generalize hw2 : World.alloc _ _ = w2
  have K2 : Hid (Below w1.heap.size w1 w2) := by rw [← hw2]; exact below_one _ _
  have M2 : Hid (w2.heap[w1.heap.size]? = some (.cells ⟨toRow (upto 0) t.ins.length⟩ 3 (0, 0))) := by rw [← hw2, show upto 0 = [] from rfl, toRow_zero]; exact heap_last _ _
  obtain ⟨mb, hmb⟩ : ∃ mb, mb = w1.heap.size := ⟨_, rfl⟩
  have B2 := Lib.hid ((K2.out.block _ (by omega)).trans B1.out)
  have Z2 := Lib.hid ((K2.out.block _ hz1).trans Z1.out)
  have hmz : r0 < mb := by omega
  have hmz2 : mb < w2.heap.size := by rw [hmb]; exact (Array.getElem?_eq_some_iff.1 M2.out).1
  rw [← hmb] at M2
  (try rw [← hmb])
  have HMB := Lib.hid hmb
  clear hw2 hmb hmk l3 hw12
  go_wp2_with fail
  go_loopw [24] (fun i wr => ∃ j : Nat, i = .int .i64 j ∧ j ≤ t.ins.length ∧ Hid (wr.heap[mb]? = some (.cells ⟨toRow (upto j) t.ins.length⟩ 3 (0, 0))) ∧ Hid (Fined mb w2 wr)) (fun i _ => t.ins.length - (RowKit.intOf i).toNat)
  case atStart => exact ⟨0, rfl, by omega, M2.out, Fined.refl _ _⟩
  case round =>
    obtain ⟨j, rfl, hj, MR, FR⟩ := hrel
    by_cases hlt : j < t.ins.length
    · have hji : (j : Int) < t.ins.length := by omega
      have cg := HeadAt.of_row MR.out j (.int .i64 0) (by rw [toRow_next (by rw [upto_len]; omega), List.getElem?_append_right (by simp [upto_len])]; simp [upto_len])
      have fg := frozen_of_row wr mb j _ _ MR.out
      go_wp2_with fail
      go_roundw
      case rel => exact ⟨j + 1, by go_num, by omega, by rw [heap_setCell_same wr mb j _ _ _ MR.out, toRow_push (by rw [upto_len]; omega) (by rw [upto_len]), ← upto_succ]; rfl, FR.out.set_ _ _⟩
      case measure => simp [RowKit.intOf]; omega
    · obtain rfl : j = t.ins.length := by omega
      have hji : ¬ (t.ins.length : Int) < t.ins.length := by omega
      obtain ⟨wo, hwo⟩ : ∃ wo, wo = wr := ⟨_, rfl⟩
      subst hwo
      have KO : Hid (Below w.heap.size w wo) := (K1.out.trans (K2.out.mono K1.out.size)).trans (FR.out.under (by have := K1.out.size; have := HMB.out; omega) (Nat.le_trans K1.out.size K2.out.size))
      have BO := Lib.hid (FR.out.row B2.out (by omega))
      have ZO := Lib.hid (FR.out.row Z2.out (by omega))
      have RB := Lib.hid (HeadAt.of_row BO.out).range
      have hfo := FR.out.size
      have SU : Hid (SliceR wo wo.heap.size 1 IntR (.slice (some ⟨mb, 0, none⟩) t.ins.length t.ins.length) (upto t.ins.length)) := by
        have h1 := MR.out
        rw [toRow_full (by rw [upto_len])] at h1
        have h2 := sliceR_of_row h1 (fun v hv => by
          obtain ⟨i, hi, rfl⟩ := List.mem_map.1 hv
          have := List.mem_range.1 hi
          unfold wfi; omega) (by rw [upto_len]; unfold maxLen; omega)
        rw [upto_len] at h2
        exact h2
      have CC : Hid (Calls Tryz.prog 7 #[.agg ⟨[.int .i64 t.fn, .int .i64 t.at_, .int .i64 t.loop, .slice A1 t.ins.length n1, .slice A2 t.exits.length n2, .int .i64 t.turn.at_, .int .i64 t.turn.steps, .slice A3 t.turn.sets.length n3, .slice A4 t.turn.makes.length n4, .int .i64 t.back.at_, .int .i64 t.back.steps, .slice A5 t.back.sets.length n5, .slice A6 t.back.makes.length n6]⟩, .slice (some ⟨mb, 0, none⟩) t.ins.length t.ins.length] wo (fun e w' => ∃ cs, e = .returned (.tuple #[.agg ⟨cs⟩, .int .i64 0]) ∧ TraceR w' w'.heap.size cs t ∧ Below wo.heap.size wo w' ∧ ∀ w2 : World, (∀ k, wo.heap.size ≤ k → k < w'.heap.size → w2.heap[k]? = w'.heap[k]?) → TraceR w2 w2.heap.size cs t)) := by
        have h := cut_c2 [.int .i64 t.fn, .int .i64 t.at_, .int .i64 t.loop, .slice A1 t.ins.length n1, .slice A2 t.exits.length n2, .int .i64 t.turn.at_, .int .i64 t.turn.steps, .slice A3 t.turn.sets.length n3, .slice A4 t.turn.makes.length n4, .int .i64 t.back.at_, .int .i64 t.back.steps, .slice A5 t.back.sets.length n5, .slice A6 t.back.makes.length n6] t _ (upto t.ins.length) wo (HT.out.below KO.out) SU.out FT.out.small
        unfold CutPost2 at h
        rw [CU.out] at h
        exact h
      clear MR SU
      go_wp2_with (first
        | (refine wpList_load_mid rfl 34 _ rfl tb 0 rfl [.int .i64 t.fn, .int .i64 t.at_, .int .i64 t.loop, .slice A1 t.ins.length n1, .slice A2 t.exits.length n2, .int .i64 t.turn.at_, .int .i64 t.turn.steps, .slice A3 t.turn.sets.length n3, .slice A4 t.turn.makes.length n4, .int .i64 t.back.at_, .int .i64 t.back.steps, .slice A5 t.back.sets.length n5, .slice A6 t.back.makes.length n6] _ RB.out Tryz.underlying34 rfl LTT.out ?_)
        | fail)
      refine CC.out.mono ?_
      rintro e w3 ⟨cs, rfl, tr3, k3, set3⟩
      obtain ⟨U1, u1, U2, u2, U3, u3, U4, u4, U5, u5, U6, u6, hcs, -⟩ := tr3.cells
      subst hcs
      have B3 := Lib.hid ((k3.block _ (by omega)).trans BO.out)
      have Z3 := Lib.hid ((k3.block _ (by omega)).trans ZO.out)
      have K3 := Lib.hid (KO.out.trans (k3.mono KO.out.size))
      have ST3 := Lib.hid set3
      have hs3 := k3.size
      clear k3 tr3 set3 CC RB KO
      go_upto_region 11 with (first
        | (refine wpList_store_row rfl 34 _ _ rfl tb #[.int .i64 t.fn, .int .i64 t.at_, .int .i64 t.loop, .slice U1 t.ins.length u1, .slice U2 t.exits.length u2, .int .i64 t.turn.at_, .int .i64 t.turn.steps, .slice U3 t.turn.sets.length u3, .slice U4 t.turn.makes.length u4, .int .i64 t.back.at_, .int .i64 t.back.steps, .slice U5 t.back.sets.length u5, .slice U6 t.back.makes.length u6] rfl rfl 34 _ B3.out infoTr13 rfl (all_oneCell_toArray (by simp [Value.oneCell'])) ?_)
        | fail)
      generalize hw4 : World.setRow _ _ _ = w4
      have B4 : Hid (w4.heap[tb]? = some (.cells ⟨[.int .i64 t.fn, .int .i64 t.at_, .int .i64 t.loop, .slice U1 t.ins.length u1, .slice U2 t.exits.length u2, .int .i64 t.turn.at_, .int .i64 t.turn.steps, .slice U3 t.turn.sets.length u3, .slice U4 t.turn.makes.length u4, .int .i64 t.back.at_, .int .i64 t.back.steps, .slice U5 t.back.sets.length u5, .slice U6 t.back.makes.length u6]⟩ 34 (0, 0))) := by rw [← hw4]; exact setRow_heap _ _ _ _ _ _ B3.out
      have Z4 : Hid (w4.heap[r0]? = some (.cells ⟨[.int .i64 0, .int .i64 0, .int .i64 0, .slice none 0 0, .slice none 0 0, .int .i64 0, .int .i64 0, .slice none 0 0, .slice none 0 0, .int .i64 0, .int .i64 0, .slice none 0 0, .slice none 0 0]⟩ 34 (0, 0))) := by rw [← hw4]; exact (setRow_other _ _ _ _ (by omega)).trans Z3.out
      have K4 : Hid (Below w.heap.size w w4) := by rw [← hw4]; exact Below.set_row K3.out (by omega) _
      have hs4 : w4.heap.size = w3.heap.size := by rw [← hw4, size_setRow]
      have ST4 : Hid (∀ w2 : World, (∀ k, wo.heap.size ≤ k → k < w4.heap.size → w2.heap[k]? = w4.heap[k]?) → TraceR w2 w2.heap.size [.int .i64 t.fn, .int .i64 t.at_, .int .i64 t.loop, .slice U1 t.ins.length u1, .slice U2 t.exits.length u2, .int .i64 t.turn.at_, .int .i64 t.turn.steps, .slice U3 t.turn.sets.length u3, .slice U4 t.turn.makes.length u4, .int .i64 t.back.at_, .int .i64 t.back.steps, .slice U5 t.back.sets.length u5, .slice U6 t.back.makes.length u6] t) := fun w2 h2 => ST3.out w2 (fun k h3 h4 => by
        rw [h2 k h3 (by omega), ← hw4]
        exact setRow_other _ _ _ _ (by omega))
      have hN : r0 < wo.heap.size ∧ wo.heap.size ≤ w4.heap.size := by omega
      obtain ⟨N, hNN⟩ : ∃ N, N = wo.heap.size := ⟨_, rfl⟩
      rw [← hNN] at hN ST4
      clear hw4 B3 Z3 K3 ST3 hs3 hs4 BO ZO hfo FR hNN
      (try dsimp only [Act.put])
      go_wp2_with fail
      go_loopw [9, 10] (fun s9 s10 wr => ∃ (er : Int) (ag : Bool) (u : TTrace) (cs : List Value) (N : Nat), s9 = .int .i64 er ∧ s10 = .bool ag ∧ (r0 < N ∧ N ≤ wr.heap.size) ∧ Hid (wr.heap[tb]? = some (.cells ⟨cs⟩ 34 (0, 0))) ∧ Hid (wr.heap[r0]? = some (.cells ⟨[.int .i64 0, .int .i64 0, .int .i64 0, .slice none 0 0, .slice none 0 0, .int .i64 0, .int .i64 0, .slice none 0 0, .slice none 0 0, .int .i64 0, .int .i64 0, .slice none 0 0, .slice none 0 0]⟩ 34 (0, 0))) ∧ Hid (Below w.heap.size w wr) ∧
        Hid (∀ w2 : World, (∀ k, N ≤ k → k < wr.heap.size → w2.heap[k]? = wr.heap[k]?) → TraceR w2 w2.heap.size cs u) ∧ Hid (er = 0 → FitS u ∧ Keeps t u)) (fun s9 s10 wr => open Classical in if s9 = .int .i64 0 ∧ s10 = .bool true then newsAt wr tb + 1 else 0)
      case atStart => exact ⟨0, true, t, _, N, rfl, rfl, hN, B4.out, Z4.out, K4.out, ST4.out, fun _ => ⟨FT.out, Keeps.refl t⟩⟩
      case round =>
        obtain ⟨er, ag, u, cs, N, rfl, rfl, hN, BR, ZR, KR, SR, ER⟩ := hrel
        have TRR := Lib.hid (SR.out wr (fun _ _ _ => rfl))
        obtain ⟨U1, u1, U2, u2, U3, u3, U4, u4, U5, u5, U6, u6, hcs, -⟩ := TRR.out.cells
        subst hcs
        have RB := Lib.hid (HeadAt.of_row BR.out).range
        have LU : Hid ((Tryz.prog.info? 34).map (·.size) = some ([.int .i64 u.fn, .int .i64 u.at_, .int .i64 u.loop, .slice U1 u.ins.length u1, .slice U2 u.exits.length u2, .int .i64 u.turn.at_, .int .i64 u.turn.steps, .slice U3 u.turn.sets.length u3, .slice U4 u.turn.makes.length u4, .int .i64 u.back.at_, .int .i64 u.back.steps, .slice U5 u.back.sets.length u5, .slice U6 u.back.makes.length u6] : List Value).length) := infoTr13
        have hrz := (Array.getElem?_eq_some_iff.1 ZR.out).1
        by_cases he : er = 0
        case neg =>
          have e1 : (er == 0) = false := by simpa using he
          have e2 : (er != 0) = true := by simpa using he
          have HE := Lib.hid he
          clear he
          cases ag <;> (
            go_wp2_with (first
              | (refine wpList_store_row rfl 34 _ _ rfl r0 #[.int .i64 0, .int .i64 0, .int .i64 0, .slice none 0 0, .slice none 0 0, .int .i64 0, .int .i64 0, .slice none 0 0, .slice none 0 0, .int .i64 0, .int .i64 0, .slice none 0 0, .slice none 0 0] rfl rfl 34 _ ZR.out infoTr13 rfl (all_oneCell_toArray (by simp [Value.oneCell'])) ?_)
              | fail)
            generalize hw9 : World.setRow _ _ _ = w9
            have QR : Hid (w9.heap[r0]? = some (.cells #[.int .i64 0, .int .i64 0, .int .i64 0, .slice none 0 0, .slice none 0 0, .int .i64 0, .int .i64 0, .slice none 0 0, .slice none 0 0, .int .i64 0, .int .i64 0, .slice none 0 0, .slice none 0 0] 34 (0, 0))) := by rw [← hw9]; exact setRow_heap _ _ _ _ _ _ ZR.out
            have K9 : Hid (Below w.heap.size w w9) := by rw [← hw9]; exact Below.set_row KR.out (by omega) _
            clear hw9
            go_wp2_with fail
            have g0 := cell_of_row w9 r0 0 _ _ _ QR.out
            have g1 := cell_of_row w9 r0 1 _ _ _ QR.out
            have g2 := cell_of_row w9 r0 2 _ _ _ QR.out
            have g3 := cell_of_row w9 r0 3 _ _ _ QR.out
            have g4 := cell_of_row w9 r0 4 _ _ _ QR.out
            have g5 := cell_of_row w9 r0 5 _ _ _ QR.out
            have g6 := cell_of_row w9 r0 6 _ _ _ QR.out
            have g7 := cell_of_row w9 r0 7 _ _ _ QR.out
            have g8 := cell_of_row w9 r0 8 _ _ _ QR.out
            have g9 := cell_of_row w9 r0 9 _ _ _ QR.out
            have g10 := cell_of_row w9 r0 10 _ _ _ QR.out
            have g11 := cell_of_row w9 r0 11 _ _ _ QR.out
            have g12 := cell_of_row w9 r0 12 _ _ _ QR.out
            unfold SinkDoPost
            refine bodyPost_ret (v := .tuple #[.agg ⟨zeroTrace⟩, .int .i64 er]) (by simp [results, Tryz.results4, go_sem, zeroTrace, g0, g1, g2, g3, g4, g5, g6, g7, g8, g9, g10, g11, g12]) rfl ⟨_, trace0, er, rfl, zeroTrace_R _ _, K9.out, fun e => (HE.out e).elim⟩)
        subst he
        obtain ⟨FU, KU⟩ := ER.out rfl
        have HFU := Lib.hid FU
        have HKU := Lib.hid KU
        clear FU KU
        cases ag
        case false =>
          go_wp2_with (first
            | (refine wpList_load_mid rfl 34 _ rfl tb 0 rfl [.int .i64 u.fn, .int .i64 u.at_, .int .i64 u.loop, .slice U1 u.ins.length u1, .slice U2 u.exits.length u2, .int .i64 u.turn.at_, .int .i64 u.turn.steps, .slice U3 u.turn.sets.length u3, .slice U4 u.turn.makes.length u4, .int .i64 u.back.at_, .int .i64 u.back.steps, .slice U5 u.back.sets.length u5, .slice U6 u.back.makes.length u6] _ RB.out Tryz.underlying34 rfl LU.out ?_)
            | (refine wpList_store_row rfl 34 _ _ rfl r0 #[.int .i64 u.fn, .int .i64 u.at_, .int .i64 u.loop, .slice U1 u.ins.length u1, .slice U2 u.exits.length u2, .int .i64 u.turn.at_, .int .i64 u.turn.steps, .slice U3 u.turn.sets.length u3, .slice U4 u.turn.makes.length u4, .int .i64 u.back.at_, .int .i64 u.back.steps, .slice U5 u.back.sets.length u5, .slice U6 u.back.makes.length u6] rfl rfl 34 _ ZR.out infoTr13 rfl (all_oneCell_toArray (by simp [Value.oneCell'])) ?_)
            | fail)
          generalize hw9 : World.setRow _ _ _ = w9
          have QR : Hid (w9.heap[r0]? = some (.cells #[.int .i64 u.fn, .int .i64 u.at_, .int .i64 u.loop, .slice U1 u.ins.length u1, .slice U2 u.exits.length u2, .int .i64 u.turn.at_, .int .i64 u.turn.steps, .slice U3 u.turn.sets.length u3, .slice U4 u.turn.makes.length u4, .int .i64 u.back.at_, .int .i64 u.back.steps, .slice U5 u.back.sets.length u5, .slice U6 u.back.makes.length u6] 34 (0, 0))) := by rw [← hw9]; exact setRow_heap _ _ _ _ _ _ ZR.out
          have K9 : Hid (Below w.heap.size w w9) := by rw [← hw9]; exact Below.set_row KR.out (by omega) _
          have T9 : Hid (TraceR w9 w9.heap.size [.int .i64 u.fn, .int .i64 u.at_, .int .i64 u.loop, .slice U1 u.ins.length u1, .slice U2 u.exits.length u2, .int .i64 u.turn.at_, .int .i64 u.turn.steps, .slice U3 u.turn.sets.length u3, .slice U4 u.turn.makes.length u4, .int .i64 u.back.at_, .int .i64 u.back.steps, .slice U5 u.back.sets.length u5, .slice U6 u.back.makes.length u6] u) := SR.out w9 (fun k h1 h2 => by rw [← hw9]; exact setRow_other _ _ _ _ (by omega))
          clear hw9
          go_wp2_with fail
          have g0 := cell_of_row w9 r0 0 _ _ _ QR.out
          have g1 := cell_of_row w9 r0 1 _ _ _ QR.out
          have g2 := cell_of_row w9 r0 2 _ _ _ QR.out
          have g3 := cell_of_row w9 r0 3 _ _ _ QR.out
          have g4 := cell_of_row w9 r0 4 _ _ _ QR.out
          have g5 := cell_of_row w9 r0 5 _ _ _ QR.out
          have g6 := cell_of_row w9 r0 6 _ _ _ QR.out
          have g7 := cell_of_row w9 r0 7 _ _ _ QR.out
          have g8 := cell_of_row w9 r0 8 _ _ _ QR.out
          have g9 := cell_of_row w9 r0 9 _ _ _ QR.out
          have g10 := cell_of_row w9 r0 10 _ _ _ QR.out
          have g11 := cell_of_row w9 r0 11 _ _ _ QR.out
          have g12 := cell_of_row w9 r0 12 _ _ _ QR.out
          unfold SinkDoPost
          refine bodyPost_ret (v := .tuple #[.agg ⟨[.int .i64 u.fn, .int .i64 u.at_, .int .i64 u.loop, .slice U1 u.ins.length u1, .slice U2 u.exits.length u2, .int .i64 u.turn.at_, .int .i64 u.turn.steps, .slice U3 u.turn.sets.length u3, .slice U4 u.turn.makes.length u4, .int .i64 u.back.at_, .int .i64 u.back.steps, .slice U5 u.back.sets.length u5, .slice U6 u.back.makes.length u6]⟩, .int .i64 0]) (by simp [results, Tryz.results4, go_sem, g0, g1, g2, g3, g4, g5, g6, g7, g8, g9, g10, g11, g12]) rfl ⟨_, u, 0, rfl, T9.out, K9.out, fun _ => ⟨HCE.out, HKU.out⟩⟩
        have FC := Lib.hid (first_c [.int .i64 u.fn, .int .i64 u.at_, .int .i64 u.loop, .slice U1 u.ins.length u1, .slice U2 u.exits.length u2, .int .i64 u.turn.at_, .int .i64 u.turn.steps, .slice U3 u.turn.sets.length u3, .slice U4 u.turn.makes.length u4, .int .i64 u.back.at_, .int .i64 u.back.steps, .slice U5 u.back.sets.length u5, .slice U6 u.back.makes.length u6] u wr TRR.out HFU.out)
        go_wp2_with (first
          | (refine wpList_load_mid rfl 34 _ rfl tb 0 rfl [.int .i64 u.fn, .int .i64 u.at_, .int .i64 u.loop, .slice U1 u.ins.length u1, .slice U2 u.exits.length u2, .int .i64 u.turn.at_, .int .i64 u.turn.steps, .slice U3 u.turn.sets.length u3, .slice U4 u.turn.makes.length u4, .int .i64 u.back.at_, .int .i64 u.back.steps, .slice U5 u.back.sets.length u5, .slice U6 u.back.makes.length u6] _ RB.out Tryz.underlying34 rfl LU.out ?_)
          | fail)
        refine FC.out.mono ?_
        rintro e w5 ⟨cs5, v, b, er, rfl, k5, hcase⟩
        have B5 := Lib.hid ((k5.block _ (by omega)).trans BR.out)
        have Z5 := Lib.hid ((k5.block _ hrz).trans ZR.out)
        have K5 := Lib.hid (KR.out.trans (k5.mono KR.out.size))
        have KK5 := Lib.hid k5
        have NE : Hid (newsAt wr tb = news u.ins) := by
          obtain ⟨i, e, ct, cb, h1, h2, -⟩ := TRR.out
          have h3 : i = .slice U1 u.ins.length u1 := by
            have := congrArg (fun l => l[3]?) h1
            simpa using this.symm
          subst h3
          exact newsAt_eq (HeadAt.of_row BR.out 3 _ rfl) h2
        clear k5 FC RB LU
        rcases hcase with ⟨rfl, rfl, rfl, rfl⟩ | ⟨rfl, set5, law5⟩
        · go_wp2_with (first
            | (refine wpList_store_row rfl 34 _ _ rfl tb #[.int .i64 v.fn, .int .i64 v.at_, .int .i64 v.loop, .slice U1 v.ins.length u1, .slice U2 v.exits.length u2, .int .i64 v.turn.at_, .int .i64 v.turn.steps, .slice U3 v.turn.sets.length u3, .slice U4 v.turn.makes.length u4, .int .i64 v.back.at_, .int .i64 v.back.steps, .slice U5 v.back.sets.length u5, .slice U6 v.back.makes.length u6] rfl rfl 34 _ B5.out infoTr13 rfl (all_oneCell_toArray (by simp [Value.oneCell'])) ?_)
            | fail)
          generalize hw6 : World.setRow _ _ _ = w6
          have B6 : Hid (w6.heap[tb]? = some (.cells ⟨[.int .i64 v.fn, .int .i64 v.at_, .int .i64 v.loop, .slice U1 v.ins.length u1, .slice U2 v.exits.length u2, .int .i64 v.turn.at_, .int .i64 v.turn.steps, .slice U3 v.turn.sets.length u3, .slice U4 v.turn.makes.length u4, .int .i64 v.back.at_, .int .i64 v.back.steps, .slice U5 v.back.sets.length u5, .slice U6 v.back.makes.length u6]⟩ 34 (0, 0))) := by rw [← hw6]; exact setRow_heap _ _ _ _ _ _ B5.out
          have Z6 : Hid (w6.heap[r0]? = some (.cells ⟨[.int .i64 0, .int .i64 0, .int .i64 0, .slice none 0 0, .slice none 0 0, .int .i64 0, .int .i64 0, .slice none 0 0, .slice none 0 0, .int .i64 0, .int .i64 0, .slice none 0 0, .slice none 0 0]⟩ 34 (0, 0))) := by rw [← hw6]; exact (setRow_other _ _ _ _ (by omega)).trans Z5.out
          have K6 : Hid (Below w.heap.size w w6) := by rw [← hw6]; exact Below.set_row K5.out (by omega) _
          have hs6 : w6.heap.size = w5.heap.size := by rw [← hw6, size_setRow]
          have hk5 := KK5.out.size
          have ST6 : Hid (∀ w2 : World, (∀ k, N ≤ k → k < w6.heap.size → w2.heap[k]? = w6.heap[k]?) → TraceR w2 w2.heap.size [.int .i64 v.fn, .int .i64 v.at_, .int .i64 v.loop, .slice U1 v.ins.length u1, .slice U2 v.exits.length u2, .int .i64 v.turn.at_, .int .i64 v.turn.steps, .slice U3 v.turn.sets.length u3, .slice U4 v.turn.makes.length u4, .int .i64 v.back.at_, .int .i64 v.back.steps, .slice U5 v.back.sets.length u5, .slice U6 v.back.makes.length u6] v) := fun w2 h2 => SR.out w2 (fun k h3 h4 => by
            rw [h2 k h3 (by omega), ← hw6]
            exact (setRow_other _ _ _ _ (by omega)).trans (KK5.out.block k h4))
          clear hw6
          (try dsimp only [Act.put])
          go_wp2_with fail
          go_roundw
          case rel => exact ⟨0, false, v, _, N, rfl, rfl, ⟨hN.1, by omega⟩, B6.out, Z6.out, K6.out, ST6.out, fun _ => ⟨HFU.out, HKU.out⟩⟩
          case measure => simp
        · have S5 := Lib.hid set5
          have L5 := Lib.hid law5
          obtain ⟨V1, v1, V2, v2, V3, v3, V4, v4, V5, v5, V6, v6, hcs, -⟩ := (set5 w5 (fun _ _ _ => rfl)).cells
          subst hcs
          clear set5 law5
          go_wp2_with (first
            | (refine wpList_store_row rfl 34 _ _ rfl tb #[.int .i64 v.fn, .int .i64 v.at_, .int .i64 v.loop, .slice V1 v.ins.length v1, .slice V2 v.exits.length v2, .int .i64 v.turn.at_, .int .i64 v.turn.steps, .slice V3 v.turn.sets.length v3, .slice V4 v.turn.makes.length v4, .int .i64 v.back.at_, .int .i64 v.back.steps, .slice V5 v.back.sets.length v5, .slice V6 v.back.makes.length v6] rfl rfl 34 _ B5.out infoTr13 rfl (all_oneCell_toArray (by simp [Value.oneCell'])) ?_)
            | fail)
          generalize hw6 : World.setRow _ _ _ = w6
          have B6 : Hid (w6.heap[tb]? = some (.cells ⟨[.int .i64 v.fn, .int .i64 v.at_, .int .i64 v.loop, .slice V1 v.ins.length v1, .slice V2 v.exits.length v2, .int .i64 v.turn.at_, .int .i64 v.turn.steps, .slice V3 v.turn.sets.length v3, .slice V4 v.turn.makes.length v4, .int .i64 v.back.at_, .int .i64 v.back.steps, .slice V5 v.back.sets.length v5, .slice V6 v.back.makes.length v6]⟩ 34 (0, 0))) := by rw [← hw6]; exact setRow_heap _ _ _ _ _ _ B5.out
          have Z6 : Hid (w6.heap[r0]? = some (.cells ⟨[.int .i64 0, .int .i64 0, .int .i64 0, .slice none 0 0, .slice none 0 0, .int .i64 0, .int .i64 0, .slice none 0 0, .slice none 0 0, .int .i64 0, .int .i64 0, .slice none 0 0, .slice none 0 0]⟩ 34 (0, 0))) := by rw [← hw6]; exact (setRow_other _ _ _ _ (by omega)).trans Z5.out
          have K6 : Hid (Below w.heap.size w w6) := by rw [← hw6]; exact Below.set_row K5.out (by omega) _
          have hs6 : w6.heap.size = w5.heap.size := by rw [← hw6, size_setRow]
          have hk5 := KK5.out.size
          have ST6 : Hid (∀ w2 : World, (∀ k, wr.heap.size ≤ k → k < w6.heap.size → w2.heap[k]? = w6.heap[k]?) → TraceR w2 w2.heap.size [.int .i64 v.fn, .int .i64 v.at_, .int .i64 v.loop, .slice V1 v.ins.length v1, .slice V2 v.exits.length v2, .int .i64 v.turn.at_, .int .i64 v.turn.steps, .slice V3 v.turn.sets.length v3, .slice V4 v.turn.makes.length v4, .int .i64 v.back.at_, .int .i64 v.back.steps, .slice V5 v.back.sets.length v5, .slice V6 v.back.makes.length v6] v) := fun w2 h2 => S5.out w2 (fun k h3 h4 => by
            rw [h2 k h3 (by omega), ← hw6]
            exact setRow_other _ _ _ _ (by omega))
          have NE6 : Hid (newsAt w6 tb = news v.ins) := by
            obtain ⟨i, e, ct, cb, h1, h2, -⟩ := ST6.out w6 (fun _ _ _ => rfl)
            have h3 : i = .slice V1 v.ins.length v1 := by
              have := congrArg (fun l => l[3]?) h1
              simpa using this.symm
            subst h3
            exact newsAt_eq (HeadAt.of_row B6.out 3 _ rfl) h2
          clear hw6
          (try dsimp only [Act.put])
          go_wp2_with fail
          go_roundw
          case rel => exact ⟨er, true, v, _, wr.heap.size, rfl, rfl, ⟨by omega, by omega⟩, B6.out, Z6.out, K6.out, ST6.out, fun e => ⟨(L5.out e).1, HKU.out.trans (L5.out e).2.2⟩⟩
          case measure =>
            have h1 := NE.out
            have h2 := NE6.out
            by_cases he : er = 0
            · subst he
              have h3 := (L5.out rfl).2.1
              simp
              omega
            · simp [he]
end Go.Proofs.YtlnkjmgfkpeicaaGreatDoor
