/- sink: first. -/
import Derived.Test.YtlnkjmgfkpeicaaGreatDoorSinkI
set_option linter.all false
namespace Go.Proofs.YtlnkjmgfkpeicaaGreatDoor
open Go.RowKit

theorem ins_raw {w : World} {B : Nat} {v : Value} {l : List TIns} (h : SliceR w B 8 InsR v l) : SliceR w B 8 (Raw 8) v (l.map insCells) := by
  obtain ⟨A, cap, h1, h2, h3, h4⟩ := h
  refine ⟨A, cap, by rw [List.length_map]; exact h1, by rw [List.length_map]; exact h2, h3, fun hp => ?_⟩
  obtain ⟨b, off, e1, e2, e3⟩ := h4 (by simpa using hp)
  refine ⟨b, off, e1, e2, fun i x hi => ?_⟩
  rw [List.getElem?_map] at hi
  obtain ⟨y, hy, rfl⟩ := Option.map_eq_some_iff.1 hi
  obtain ⟨cs, c1, ⟨c2, -⟩, c3⟩ := e3 i y hy
  exact ⟨cs, c1, ⟨c2, rfl⟩, c3⟩
theorem SinkTo.belowB {w w' : World} {B sb mb c : Nat} {kind : Int} {ca : List Value} {t : TTrace} {s s' : SinkS} (h : SinkTo sb mb w s w' s') (hr : SinkR w B sb mb c kind ca t s) : Below B w w' :=
  ⟨h.only.os, h.only.tape, h.only.output, h.only.size, fun k hk => h.only.block k (Nat.lt_of_lt_of_le hk (Nat.le_trans hr.hB (Nat.le_of_lt hr.lt))) (fun e => by
    rcases e with e | e | e | e | e
    · have := hr.hB; omega
    · have := hr.mB; omega
    · have := (row_ty hr.vals e).1; omega
    · have := (row_ty hr.tl e).1; omega
    · have := (row_ty hr.out e).1; omega)⟩
def FirstPost (ca : List Value) (t : TTrace) (w : World) (e : Ending) (w' : World) : Prop :=
  ∃ (cs : List Value) (u : TTrace) (b : Bool) (er : Int), e = .returned (.tuple #[.agg ⟨cs⟩, .bool b, .int .i64 er]) ∧ Below w.heap.size w w' ∧ ((b = false ∧ er = 0 ∧ cs = ca ∧ u = t) ∨
    (b = true ∧ (∀ w2 : World, (∀ k, w.heap.size ≤ k → k < w'.heap.size → w2.heap[k]? = w'.heap[k]?) → TraceR w2 w2.heap.size cs u) ∧ (er = 0 → FitS u ∧ news u.ins < news t.ins ∧ Keeps t u)))
set_option maxHeartbeats 16000000 in
set_option maxRecDepth 100000 in
theorem first_c (ca : List Value) (t : TTrace) (w : World) (ht : TraceR w w.heap.size ca t) (hf : FitS t) :
    Calls Tryz.prog 8 #[.agg ⟨ca⟩] w (FirstPost ca t w) := by
  obtain ⟨q0, hq0, hq1, hq2, hq3⟩ := info_parts infoInt
  have h300 := hf.ins
  have HT := Lib.hid ht
  have HF := Lib.hid hf
  obtain ⟨Ai, ni, p3, q3⟩ := ht.at3
  obtain ⟨A1, n1, A2, n2, A3, n3, A4, n4, A5, n5, A6, n6, hca, -⟩ := ht.cells
  subst hca
  obtain ⟨rfl, rfl⟩ : A1 = Ai ∧ n1 = ni := by simp at p3; exact p3
  have Q3 := Lib.hid q3
  obtain ⟨w0, hw0⟩ : ∃ w0, w0 = (w.alloc (.cells #[.int .i64 t.fn, .int .i64 t.at_, .int .i64 t.loop, .slice A1 t.ins.length n1, .slice A2 t.exits.length n2, .int .i64 t.turn.at_, .int .i64 t.turn.steps, .slice A3 t.turn.sets.length n3, .slice A4 t.turn.makes.length n4, .int .i64 t.back.at_, .int .i64 t.back.steps, .slice A5 t.back.sets.length n5, .slice A6 t.back.makes.length n6] 34)).alloc (.cells #[.int .i64 0, .int .i64 0, .int .i64 0, .slice none 0 0, .slice none 0 0, .int .i64 0, .int .i64 0, .slice none 0 0, .slice none 0 0, .int .i64 0, .int .i64 0, .slice none 0 0, .slice none 0 0] 34) := ⟨_, rfl⟩
  have K0 : Hid (Below w.heap.size w w0) := by rw [hw0]; exact below_two' _ _ _
  have T0 : Hid (w0.heap[w.heap.size]? = some (.cells ⟨[.int .i64 t.fn, .int .i64 t.at_, .int .i64 t.loop, .slice A1 t.ins.length n1, .slice A2 t.exits.length n2, .int .i64 t.turn.at_, .int .i64 t.turn.steps, .slice A3 t.turn.sets.length n3, .slice A4 t.turn.makes.length n4, .int .i64 t.back.at_, .int .i64 t.back.steps, .slice A5 t.back.sets.length n5, .slice A6 t.back.makes.length n6]⟩ 34 (0, 0))) := by rw [hw0]; exact heap_old (heap_last w _) _
  have Z0 : Hid (w0.heap[w.heap.size + 1]? = some (.cells ⟨[.int .i64 0, .int .i64 0, .int .i64 0, .slice none 0 0, .slice none 0 0, .int .i64 0, .int .i64 0, .slice none 0 0, .slice none 0 0, .int .i64 0, .int .i64 0, .slice none 0 0, .slice none 0 0]⟩ 34 (0, 0))) := by rw [hw0]; exact heap_two _ _ _
  have HW := Lib.hid hw0
  have l3 := HeadAt.of_row T0.out 3 _ rfl
  obtain ⟨r0, hr0⟩ : ∃ r0, r0 = w.heap.size + 1 := ⟨_, rfl⟩
  have hr0' : w.heap.size < r0 := by omega
  have hz0 : r0 < w0.heap.size := by rw [hr0]; exact (Array.getElem?_eq_some_iff.1 Z0.out).1
  have LTT : Hid ((Tryz.prog.info? 34).map (·.size) = some ([.int .i64 t.fn, .int .i64 t.at_, .int .i64 t.loop, .slice A1 t.ins.length n1, .slice A2 t.exits.length n2, .int .i64 t.turn.at_, .int .i64 t.turn.steps, .slice A3 t.turn.sets.length n3, .slice A4 t.turn.makes.length n4, .int .i64 t.back.at_, .int .i64 t.back.steps, .slice A5 t.back.sets.length n5, .slice A6 t.back.makes.length n6] : List Value).length) := infoTr13
  rw [← hr0] at Z0
  have HR0 := Lib.hid hr0
  clear ht hf hw0 p3 q3
  go_enter Tryz.func8, Tryz.ntmps8
  go_upto_region 1 with fail
  rw [← HW.out]
  rw [← hr0]
  clear hr0
  go_wp2_with fail
  go_loopw [14] (fun i wr => ∃ j : Nat, i = .int .i64 j ∧ j ≤ t.ins.length ∧ Hid (Below w0.heap.size w0 wr)) (fun i _ => t.ins.length - (RowKit.intOf i).toNat)
  case atStart => exact ⟨0, rfl, by omega, Below.refl _ _⟩
  case round =>
    obtain ⟨j, rfl, hj, KW⟩ := hrel
    have TR := Lib.hid ((KW.out.block _ (by omega)).trans T0.out)
    have ZR := Lib.hid ((KW.out.block _ hz0).trans Z0.out)
    have KR : Hid (Below w.heap.size w wr) := K0.out.trans (KW.out.mono K0.out.size)
    have hsw := KW.out.size
    by_cases hlt : j < t.ins.length
    case neg =>
      have hji : ¬ (j : Int) < t.ins.length := by omega
      have RT : Hid (wr.rangeAt w.heap.size 0 [.int .i64 t.fn, .int .i64 t.at_, .int .i64 t.loop, .slice A1 t.ins.length n1, .slice A2 t.exits.length n2, .int .i64 t.turn.at_, .int .i64 t.turn.steps, .slice A3 t.turn.sets.length n3, .slice A4 t.turn.makes.length n4, .int .i64 t.back.at_, .int .i64 t.back.steps, .slice A5 t.back.sets.length n5, .slice A6 t.back.makes.length n6]) := (HeadAt.of_row TR.out).range
      go_wp2_with (first
        | (refine wpList_load_mid rfl 34 _ rfl w.heap.size 0 rfl [.int .i64 t.fn, .int .i64 t.at_, .int .i64 t.loop, .slice A1 t.ins.length n1, .slice A2 t.exits.length n2, .int .i64 t.turn.at_, .int .i64 t.turn.steps, .slice A3 t.turn.sets.length n3, .slice A4 t.turn.makes.length n4, .int .i64 t.back.at_, .int .i64 t.back.steps, .slice A5 t.back.sets.length n5, .slice A6 t.back.makes.length n6] _ RT.out Tryz.underlying34 rfl LTT.out ?_)
        | (refine wpList_store_row rfl 34 _ _ rfl r0 #[.int .i64 t.fn, .int .i64 t.at_, .int .i64 t.loop, .slice A1 t.ins.length n1, .slice A2 t.exits.length n2, .int .i64 t.turn.at_, .int .i64 t.turn.steps, .slice A3 t.turn.sets.length n3, .slice A4 t.turn.makes.length n4, .int .i64 t.back.at_, .int .i64 t.back.steps, .slice A5 t.back.sets.length n5, .slice A6 t.back.makes.length n6] rfl rfl 34 _ ZR.out infoTr13 rfl (all_oneCell_toArray (by simp [Value.oneCell'])) ?_)
        | fail)
      generalize hw9 : World.setRow _ _ _ = w9
      have QR : Hid (w9.heap[r0]? = some (.cells #[.int .i64 t.fn, .int .i64 t.at_, .int .i64 t.loop, .slice A1 t.ins.length n1, .slice A2 t.exits.length n2, .int .i64 t.turn.at_, .int .i64 t.turn.steps, .slice A3 t.turn.sets.length n3, .slice A4 t.turn.makes.length n4, .int .i64 t.back.at_, .int .i64 t.back.steps, .slice A5 t.back.sets.length n5, .slice A6 t.back.makes.length n6] 34 (0, 0))) := by rw [← hw9]; exact setRow_heap _ _ _ _ _ _ ZR.out
      have K9 : Hid (Below w.heap.size w w9) := by rw [← hw9]; exact Below.set_row KR.out (by omega) _
      clear hw9
      go_wp2_with fail
      have g0 := cell_of_row w9 r0 0 _ _ _ QR.out
      have g1 := cell_of_row w9 r0 1 _ _ _ QR.out
      have g2 := cell_of_row w9 r0 2 _ _ _ QR.out
      have g3 := cell_of_row w9 r0 3 _ _ _ QR.out
      have g4 := cell_of_row w9 r0 4 _ _ _ QR.out
      have g5 := cell_of_row w9 r0 5 _ _ _ QR.out
      have g6 := cell_of_row w9 r0 6 _ _ _ QR.out
      have g7 := cell_of_row w9 r0 7 _ _ _ QR.out
      have g8 := cell_of_row w9 r0 8 _ _ _ QR.out
      have g9 := cell_of_row w9 r0 9 _ _ _ QR.out
      have g10 := cell_of_row w9 r0 10 _ _ _ QR.out
      have g11 := cell_of_row w9 r0 11 _ _ _ QR.out
      have g12 := cell_of_row w9 r0 12 _ _ _ QR.out
      unfold FirstPost
      refine bodyPost_ret (v := .tuple #[.agg ⟨[.int .i64 t.fn, .int .i64 t.at_, .int .i64 t.loop, .slice A1 t.ins.length n1, .slice A2 t.exits.length n2, .int .i64 t.turn.at_, .int .i64 t.turn.steps, .slice A3 t.turn.sets.length n3, .slice A4 t.turn.makes.length n4, .int .i64 t.back.at_, .int .i64 t.back.steps, .slice A5 t.back.sets.length n5, .slice A6 t.back.makes.length n6]⟩, .bool false, .int .i64 0]) (by simp [results, Tryz.results8, go_sem, g0, g1, g2, g3, g4, g5, g6, g7, g8, g9, g10, g11, g12]) rfl ⟨_, t, false, 0, rfl, K9.out, .inl ⟨rfl, rfl, rfl, rfl⟩⟩
    have hji : (j : Int) < t.ins.length := by omega
    obtain ⟨b, off, x, cs, rfl, hb, hx, -, ⟨rfl, wx⟩, hat⟩ := Q3.out.at_ hlt
    have RX : Hid (wr.rangeAt b (off + j * 8) [.int .i64 x.op, .int .i64 x.a, .int .i64 x.b, .int .i64 x.c, .int .i64 x.n, .int .i64 x.exit, .int .i64 x.k.kind, .int .i64 x.k.n]) := fun k u hu => (KR.out.cell hb).trans (hat k u hu)
    have HX := Lib.hid hx
    have WX := Lib.hid wx
    obtain ⟨wo, hwo⟩ : ∃ wo, wo = wr := ⟨_, rfl⟩
    subst hwo
    clear hx wx hat hb
    go_upto_region 4 with (first | (refine wpList_load_mid rfl 42 _ rfl b (off + j * 8) rfl [.int .i64 x.op, .int .i64 x.a, .int .i64 x.b, .int .i64 x.c, .int .i64 x.n, .int .i64 x.exit, .int .i64 x.k.kind, .int .i64 x.k.n] _ RX.out Tryz.underlying42 rfl infoIns8 ?_) | fail)
    generalize hw1 : World.alloc _ _ = w1
    have K1 : Hid (Below wo.heap.size wo w1) := by rw [← hw1]; exact below_one _ _
    have X1 : Hid (w1.heap[wo.heap.size]? = some (.cells ⟨[.int .i64 x.op, .int .i64 x.a, .int .i64 x.b, .int .i64 x.c, .int .i64 x.n, .int .i64 x.exit, .int .i64 x.k.kind, .int .i64 x.k.n]⟩ 42 (0, 0))) := by rw [← hw1]; exact heap_last _ _
    have T1 := Lib.hid ((K1.out.block _ (by omega)).trans TR.out)
    have Z1 := Lib.hid ((K1.out.block _ (by omega)).trans ZR.out)
    have KR1 : Hid (Below w.heap.size w w1) := KR.out.trans (K1.out.mono KR.out.size)
    have hx1 : wo.heap.size < w1.heap.size := (Array.getElem?_eq_some_iff.1 X1.out).1
    obtain ⟨xb, hxb⟩ : ∃ xb, xb = wo.heap.size := ⟨_, rfl⟩
    have HXB := Lib.hid hxb
    rw [← hxb] at X1 hx1
    rw [← hxb]
    have x0 := HeadAt.of_row X1.out 0 _ rfl
    clear hw1 hxb RX TR ZR
    by_cases h16 : x.op = 16
    case neg =>
      have hb16 : (x.op != 16) = true := by simpa using h16
      clear h16
      go_wp2_with fail
      go_roundw
      case rel => exact ⟨j + 1, by go_num, by omega, KW.out.trans (K1.out.mono KW.out.size)⟩
      case measure => simp [RowKit.intOf]; omega
    have hb16 : (x.op != 16) = false := by simpa using h16
    have H16 := Lib.hid h16
    clear h16
    have R1 : Hid (∀ E : Up w1, E.to.rangeAt w.heap.size 0 [.int .i64 t.fn, .int .i64 t.at_, .int .i64 t.loop, .slice (some ⟨b, off, none⟩) t.ins.length n1, .slice A2 t.exits.length n2, .int .i64 t.turn.at_, .int .i64 t.turn.steps, .slice A3 t.turn.sets.length n3, .slice A4 t.turn.makes.length n4, .int .i64 t.back.at_, .int .i64 t.back.steps, .slice A5 t.back.sets.length n5, .slice A6 t.back.makes.length n6]) := fun E k u hu => E.cell ((HeadAt.of_row T1.out).range k u hu)
    have x4 : ∀ E : Up w1, E.to.cell? ⟨xb, 4, none⟩ = some (.int .i64 x.n) := fun E => E.cell (HeadAt.of_row X1.out 4 _ rfl)
    have y3 : ∀ E : Up w1, E.to.cell? ⟨w.heap.size, 3, none⟩ = some (.slice (some ⟨b, off, none⟩) t.ins.length n1) := fun E => E.cell (HeadAt.of_row T1.out 3 _ rfl)
    have CLI : Hid (∀ W, Below w1.heap.size w1 W → Calls Tryz.prog 19 #[.slice (some ⟨b, off, none⟩) t.ins.length n1] W (fun e w' => ∃ u, e = .returned u ∧ w'.ownsRow W.heap.size 42 8 u t.ins.length (t.ins.flatMap insCells) ∧ Below W.heap.size W w')) := fun W k => by
      have kk := KR1.out.trans (k.mono KR1.out.size)
      have := clone_ins (.slice (some ⟨b, off, none⟩) t.ins.length n1) (t.ins.map insCells) W ((ins_raw Q3.out).keep kk.size (fun _ hp => kk.cell hp) (fun _ _ h => h)) (fun r hr u hu => by
        obtain ⟨q, -, rfl⟩ := List.mem_map.1 hr
        exact ins_ones q u hu) (by rw [List.length_map]; omega)
      rw [List.length_map, flat_map_id] at this
      exact this
    go_upto_region 5 with fail
    refine wp_region_readers (fun w' => ∃ E : Up w1, w' = E.to) [0, 1, 2, 3, 4, 5] [6, 7] 5 #[true, true, true, true, true, true, false, false, false, false, false] _ (by kernel_rfl) (by kernel_rfl) (by simp only [List.filterMap_cons, List.filterMap_nil, List.getElem?_toArray, List.getElem?_cons_zero, List.getElem?_cons_succ]; rfl) (fun _ _ d _ _ h => by cases d <;> exact h) ⟨⟨_, (Below.refl _ w1).drew⟩, rfl⟩ ?_
    generalize hqq : (fun a' => wpAnyC _ _ _ _ _ _ _ _ a' _) = qq
    have HQQ := Lib.hid hqq
    clear hqq
    show wpQuiet _ _ _ _ [_, _, _, _, _, _] _
    refine wpQuiet_load_up 34 _ rfl rfl w.heap.size 0 rfl [.int .i64 t.fn, .int .i64 t.at_, .int .i64 t.loop, .slice (some ⟨b, off, none⟩) t.ins.length n1, .slice A2 t.exits.length n2, .int .i64 t.turn.at_, .int .i64 t.turn.steps, .slice A3 t.turn.sets.length n3, .slice A4 t.turn.makes.length n4, .int .i64 t.back.at_, .int .i64 t.back.steps, .slice A5 t.back.sets.length n5, .slice A6 t.back.makes.length n6] _ R1.out Tryz.underlying34 rfl LTT.out ?_
    go_simp
    repeat (go_big_quiet_step (fail))
    refine wpQuiet_nil ?_
    rw [← HQQ.out]
    clear HQQ qq x4 y3 R1 x0
    have hmm := @run_makeMap Tryz.prog
    refine wpAnyC_two (i := 6) (k := 7) (by kernel_rfl) rfl rfl (fun K hK => ?_) (fun K hK => ?_)
    · go_simp
      refine (CLI.out w1.drew (Below.refl _ w1).drew).mono ?_
      rintro e w11 ⟨u, rfl, hu, k11⟩
      have k11' : Below w1.heap.size w1 w11 := (Below.refl _ w1).drew.trans k11
      refine hK _ _ (fun _ => ⟨⟨w11, k11'⟩, rfl⟩) ?_
      clear hK K
      obtain ⟨Oa, oc, rfl⟩ := own_len hu
      refine wpAnyC_one (i := 7) (by kernel_rfl) rfl (fun K hK => ?_)
      go_simp
      refine hK _ _ (fun _ => ⟨⟨_, k11'.alloc k11'.size _⟩, rfl⟩) ?_
      clear hK K
      obtain ⟨mb, hmbd⟩ : ∃ mb, mb = w11.heap.size := ⟨_, rfl⟩
      (try dsimp only)
      generalize hw2 : World.alloc _ _ = w2
      have L2 : Hid (Below w1.heap.size w1 w2) := by rw [← hw2]; exact k11'.alloc k11'.size _
      have M2 : Hid (MapN w2 mb []) := by rw [← hw2, hmbd]; exact MapN.made w11
      have O2 : Hid (w2.ownsRow w1.heap.size 42 8 (.slice Oa t.ins.length oc) t.ins.length (t.ins.flatMap insCells)) := by rw [← hw2]; exact World.ownsRow.alloc hu _
      have hmB : w1.heap.size ≤ mb := by rw [hmbd]; exact k11'.size
      rw [← hmbd]
      clear hw2 hmbd hu k11 k11'
      obtain ⟨w3, hw3⟩ : ∃ w3, w3 = w2.alloc (.cells #[.int .i64 t.fn, .int .i64 t.at_, .int .i64 t.loop, .slice (some ⟨b, off, none⟩) t.ins.length n1, .slice A2 t.exits.length n2, .int .i64 t.turn.at_, .int .i64 t.turn.steps, .slice A3 t.turn.sets.length n3, .slice A4 t.turn.makes.length n4, .int .i64 t.back.at_, .int .i64 t.back.steps, .slice A5 t.back.sets.length n5, .slice A6 t.back.makes.length n6, .int .i64 (j : Int), .int .i64 x.n, .int .i64 0, .slice none 0 0, .slice none 0 0, .slice Oa t.ins.length oc, .map (some mb)] 78) := ⟨_, rfl⟩
      have K3 : Hid (Below w1.heap.size w1 w3) := by rw [hw3]; exact L2.out.trans ((below_one w2 _).mono L2.out.size)
      have SB3 : Hid (w3.heap[w2.heap.size]? = some (.cells ⟨[.int .i64 t.fn, .int .i64 t.at_, .int .i64 t.loop, .slice (some ⟨b, off, none⟩) t.ins.length n1, .slice A2 t.exits.length n2, .int .i64 t.turn.at_, .int .i64 t.turn.steps, .slice A3 t.turn.sets.length n3, .slice A4 t.turn.makes.length n4, .int .i64 t.back.at_, .int .i64 t.back.steps, .slice A5 t.back.sets.length n5, .slice A6 t.back.makes.length n6, .int .i64 (j : Int), .int .i64 x.n, .int .i64 0, .slice none 0 0, .slice none 0 0, .slice Oa t.ins.length oc, .map (some mb)]⟩ 78 (0, 0))) := by rw [hw3]; exact heap_last _ _
      have O3 : Hid (w3.ownsRow w1.heap.size 42 8 (.slice Oa t.ins.length oc) t.ins.length (t.ins.flatMap insCells)) := by rw [hw3]; exact World.ownsRow.alloc O2.out _
      have M3 : Hid (MapN w3 mb []) := by rw [hw3]; exact M2.out.kept ((below_one w2 _).block _ M2.out.lt)
      have hmb := M2.out.lt
      have HW3 := Lib.hid hw3
      have hb2 : ∀ G, (.slice Oa t.ins.length oc : Value).ownBlock = some G → G < w2.heap.size := fun G e => (row_ty O2.out e).2.1
      have HB2 := Lib.hid hb2
      have hs12 := L2.out.size
      have T3 := Lib.hid ((K3.out.block _ (Array.getElem?_eq_some_iff.1 T1.out).1).trans T1.out)
      have y3 := HeadAt.of_row T3.out 3 _ rfl
      clear hw3 hb2 O2 M2 L2 hmm
      refine wpAnyC_of_ms [8, 9, 10] _ _ _ (by kernel_rfl) ?_
      refine wpMs_list [8, 9, 10] _ _ (by kernel_rfl) (by kernel_rfl) ?_
      simp only [List.filterMap_cons, List.filterMap_nil, List.getElem?_toArray, List.getElem?_cons_zero, List.getElem?_cons_succ]
      go_upto_region 6 with fail
      rw [← HW3.out]
      obtain ⟨sb, hsb⟩ : ∃ sb, sb = w2.heap.size := ⟨_, rfl⟩
      rw [← hsb] at SB3 HB2 hmb hs12
      rw [← hsb]
      have hsb3 : sb < w3.heap.size := (Array.getElem?_eq_some_iff.1 SB3.out).1
      clear HW3 hsb
      go_wp2_with fail
      go_loopw [35] (fun i wq => ∃ (q : Nat) (uT : Value), i = .int .i64 q ∧ q ≤ t.ins.length ∧ Hid (wq.heap[sb]? = some (.cells ⟨[.int .i64 t.fn, .int .i64 t.at_, .int .i64 t.loop, .slice (some ⟨b, off, none⟩) t.ins.length n1, .slice A2 t.exits.length n2, .int .i64 t.turn.at_, .int .i64 t.turn.steps, .slice A3 t.turn.sets.length n3, .slice A4 t.turn.makes.length n4, .int .i64 t.back.at_, .int .i64 t.back.steps, .slice A5 t.back.sets.length n5, .slice A6 t.back.makes.length n6, .int .i64 (j : Int), .int .i64 x.n, .int .i64 0, .slice none 0 0, uT, .slice Oa t.ins.length oc, .map (some mb)]⟩ 78 (0, 0))) ∧ Hid (wq.ownsRow w3.heap.size 3 1 uT q ((upto q).map (.int .i64))) ∧ Hid (Only (fun k => k = sb) w3 wq)) (fun i _ => t.ins.length - (RowKit.intOf i).toNat)
      case atStart => exact ⟨0, .slice none 0 0, rfl, by omega, SB3.out, World.ownsRow_nil _ _ _ _, Only.refl⟩
      case round =>
        obtain ⟨q, uT, rfl, hq, SQ, OQ, NQ⟩ := hrel
        obtain ⟨wq, hwq⟩ : ∃ wo, wo = wr := ⟨_, rfl⟩
        subst hwq
        obtain ⟨Ta, tc, rfl⟩ := own_len OQ.out
        have hqs := NQ.out.size
        have TQ := Lib.hid ((NQ.out.block _ (Array.getElem?_eq_some_iff.1 T3.out).1 (by have := HXB.out; omega)).trans T3.out)
        by_cases hql : q < t.ins.length
        · have hqi : (q : Int) < t.ins.length := by omega
          have s17 := HeadAt.of_row SQ.out 17 _ rfl
          obtain ⟨w5, hw5⟩ : ∃ w5, w5 = wq.alloc (.cells #[.int .i64 (q : Int)] 3) := ⟨_, rfl⟩
          have K5 : Hid (Below wq.heap.size wq w5) := by rw [hw5]; exact below_one _ _
          have N5 : Hid (w5.heap[wq.heap.size]? = some (.cells #[.int .i64 (q : Int)] 3 (0, 0))) := by rw [hw5]; exact heap_last _ _
          have OQ5 : Hid (w5.ownsRow w3.heap.size 3 1 (.slice Ta q tc) q ((upto q).map (.int .i64))) := by rw [hw5]; exact World.ownsRow.alloc OQ.out _
          have HW5 := Lib.hid hw5
          clear hw5
          go_wp2_with (at_builtin; (rw [← HW5.out]); refine wpList_append_own _ rfl _ _ 47 rfl w3.heap.size 3 q0 (.int .i64 0) 1 8 Tryz.underlying47 hq0 hq1 hq2 hq3 rfl (by decide) (.slice Ta q tc) q ((upto q).map (.int .i64)) rfl OQ5.out ⟨wq.heap.size, 0, none⟩ 1 1 [.int .i64 (q : Int)] rfl rfl ?c1 ?c2 ?c3 ?c4 ?c5 ?_)
          case c1 => exact World.news_of_block (cs := #[.int .i64 (q : Int)]) N5.out
          case c2 => intro u hu; simp at hu; subst hu; rfl
          case c3 => unfold maxLen; omega
          case c4 => omega
          case c5 => have := K5.out.size; omega
          intro v' w6 hown hg6 _
          obtain ⟨Tb, tb2, rfl⟩ := own_len hown
          have KB6 : Hid (Below w3.heap.size wq w6) := (K5.out.mono hqs).trans (grow_below OQ5.out hg6 (Nat.le_refl _) (by have := K5.out.size; omega))
          have O6 := Lib.hid hown
          have S6 := Lib.hid ((KB6.out.block _ hsb3).trans SQ.out)
          have s6 := HeadAt.of_row S6.out 17 _ rfl
          have f6 := frozen_of_row w6 sb 17 _ _ S6.out
          clear hown hg6 N5 OQ5 K5 s17
          go_upto_region 10 with fail
          generalize hw7 : World.setCell _ _ _ = w7
          have L7 : Hid (Fined sb w6 w7) := by rw [← hw7]; exact (Fined.refl sb w6).set_ _ _
          have S7 : Hid (w7.heap[sb]? = some (.cells ⟨[.int .i64 t.fn, .int .i64 t.at_, .int .i64 t.loop, .slice (some ⟨b, off, none⟩) t.ins.length n1, .slice A2 t.exits.length n2, .int .i64 t.turn.at_, .int .i64 t.turn.steps, .slice A3 t.turn.sets.length n3, .slice A4 t.turn.makes.length n4, .int .i64 t.back.at_, .int .i64 t.back.steps, .slice A5 t.back.sets.length n5, .slice A6 t.back.makes.length n6, .int .i64 (j : Int), .int .i64 x.n, .int .i64 0, .slice none 0 0, .slice Tb (q + 1) tb2, .slice Oa t.ins.length oc, .map (some mb)]⟩ 78 (0, 0))) := by rw [← hw7, heap_setCell_same w6 sb 17 _ _ _ S6.out]; rfl
          have O7 : Hid (w7.ownsRow w3.heap.size 3 1 (.slice Tb (q + 1) tb2) (q + 1) ((upto (q + 1)).map (.int .i64))) := by
            rw [upto_succ, List.map_append]
            exact row_stays O6.out (fun G e => L7.out.block G (row_ty O6.out e).2.1 (by have := (row_ty O6.out e).1; omega))
          have N7 : Hid (Only (fun k => k = sb) w3 w7) := ⟨L7.out.os.trans (KB6.out.os.trans NQ.out.os), L7.out.tape.trans (KB6.out.tape.trans NQ.out.tape), L7.out.output.trans (KB6.out.output.trans NQ.out.output), Nat.le_trans NQ.out.size (Nat.le_trans KB6.out.size L7.out.size), fun k hk ht => (L7.out.block k (by have := KB6.out.size; omega) ht).trans ((KB6.out.block k hk).trans (NQ.out.block k hk ht))⟩
          clear hw7 s6 f6 S6 O6 KB6 L7
          go_wp2_with fail
          go_roundw
          case rel => exact ⟨q + 1, _, by go_num, by omega, S7.out, O7.out, N7.out⟩
          case measure => simp [RowKit.intOf]; omega
        · obtain rfl : q = t.ins.length := by omega
          have hqi : ¬ (t.ins.length : Int) < t.ins.length := by omega
          have KQ : Hid (Below w1.heap.size w1 wq) := K3.out.trans ⟨NQ.out.os, NQ.out.tape, NQ.out.output, NQ.out.size, fun k hk => NQ.out.block k (Nat.lt_of_lt_of_le hk K3.out.size) (by omega)⟩
          have SK : Hid (SinkR wq w1.heap.size sb mb j x.n [.int .i64 t.fn, .int .i64 t.at_, .int .i64 t.loop, .slice (some ⟨b, off, none⟩) t.ins.length n1, .slice A2 t.exits.length n2, .int .i64 t.turn.at_, .int .i64 t.turn.steps, .slice A3 t.turn.sets.length n3, .slice A4 t.turn.makes.length n4, .int .i64 t.back.at_, .int .i64 t.back.steps, .slice A5 t.back.sets.length n5, .slice A6 t.back.makes.length n6] t ⟨0, [], upto t.ins.length, t.ins, .slice none 0 0, .slice Ta t.ins.length tc, .slice Oa t.ins.length oc, []⟩) := by
            refine ⟨(HT.out.below KR1.out).keep (Nat.le_refl _) (fun p hp => KQ.out.cell hp), hs12, HF.out, SQ.out, World.ownsRow_nil _ _ _ _, ?_, ?_, HB2.out, M3.out.kept (NQ.out.block _ M3.out.lt (by omega)), hmB, (fun G e => by cases e), (fun e he => by cases he), List.nodup_nil, (fun e he => by cases he), Sinks.refl HF.out j, fun y hy => ?_, (fun v hv => by cases hv), fun v hv => ?_, by show wfi 0; unfold wfi; omega, WX.out.2.2.2.2.1, by simp⟩
            · show wq.ownsRow _ _ _ _ (upto t.ins.length).length _
              rw [upto_len]
              exact row_more OQ.out K3.out.size
            · exact row_stays O3.out (fun G e => NQ.out.block G (row_ty O3.out e).2.1 (by have := HB2.out G e; omega))
            · obtain ⟨cs, _, h⟩ := Q3.out.mem hy
              exact h
            · obtain ⟨i, hi, rfl⟩ := List.mem_map.1 hv
              have := List.mem_range.1 hi
              unfold wfi; omega
          have MC := Lib.hid (may_c _ wq SK.out (by simp) hlt)
          clear SQ OQ NQ O3 M3
          go_wp2_with fail
          refine MC.out.mono ?_
          rintro e w8 ⟨bb, s8, rfl, g8, t8, n8⟩
          have S8 := Lib.hid g8
          have N8 := Lib.hid n8
          have K8 : Hid (Below w1.heap.size w1 w8) := KQ.out.trans (t8.belowB SK.out)
          have KO8 : Hid (Below w0.heap.size w0 w8) := (KW.out.trans (K1.out.mono KW.out.size)).trans (K8.out.mono (Nat.le_trans KW.out.size K1.out.size))
          clear g8 t8 n8 MC SK KQ
          cases bb
          case false =>
            go_wp2_with fail
            go_roundw
            case rel => exact ⟨j + 1, by go_num, by omega, KO8.out⟩
            case measure => simp [RowKit.intOf]; omega
          have SU := Lib.hid (sunk_c s8 w8 S8.out ⟨x, HX.out, H16.out⟩ (N8.out rfl))
          go_wp2_with fail
          refine SU.out.mono ?_
          rintro e w9 ⟨u, er, cs, rfl, tr9, k9, set9, law9⟩
          have ST9 := Lib.hid set9
          have LAW := Lib.hid law9
          have K9 : Hid (Below w1.heap.size w1 w9) := K8.out.trans k9
          have hs89 : Hid (w8.heap.size ≤ w9.heap.size) := k9.size
          obtain ⟨U1, u1, U2, u2, U3, u3, U4, u4, U5, u5, U6, u6, rfl, -⟩ := tr9.cells
          clear tr9 k9 set9 law9 SU
          go_upto_region 13 with fail
          generalize hw10 : World.alloc _ _ = w10
          have KA : Hid (Below w9.heap.size w9 w10) := by rw [← hw10]; exact below_one _ _
          have RA : Hid (w10.rangeAt w9.heap.size 0 [.int .i64 u.fn, .int .i64 u.at_, .int .i64 u.loop, .slice U1 u.ins.length u1, .slice U2 u.exits.length u2, .int .i64 u.turn.at_, .int .i64 u.turn.steps, .slice U3 u.turn.sets.length u3, .slice U4 u.turn.makes.length u4, .int .i64 u.back.at_, .int .i64 u.back.steps, .slice U5 u.back.sets.length u5, .slice U6 u.back.makes.length u6]) := by rw [← hw10]; exact (HeadAt.of_row (heap_last w9 _)).range
          have hz1 := (Array.getElem?_eq_some_iff.1 Z1.out).1
          have ZA := Lib.hid ((KA.out.block _ (Nat.lt_of_lt_of_le hz1 K9.out.size)).trans ((K9.out.block _ hz1).trans Z1.out))
          have LU : Hid ((Tryz.prog.info? 34).map (·.size) = some ([.int .i64 u.fn, .int .i64 u.at_, .int .i64 u.loop, .slice U1 u.ins.length u1, .slice U2 u.exits.length u2, .int .i64 u.turn.at_, .int .i64 u.turn.steps, .slice U3 u.turn.sets.length u3, .slice U4 u.turn.makes.length u4, .int .i64 u.back.at_, .int .i64 u.back.steps, .slice U5 u.back.sets.length u5, .slice U6 u.back.makes.length u6] : List Value).length) := infoTr13
          clear hw10
          go_wp2_with (first
            | (refine wpList_load_mid rfl 34 _ rfl w9.heap.size 0 rfl [.int .i64 u.fn, .int .i64 u.at_, .int .i64 u.loop, .slice U1 u.ins.length u1, .slice U2 u.exits.length u2, .int .i64 u.turn.at_, .int .i64 u.turn.steps, .slice U3 u.turn.sets.length u3, .slice U4 u.turn.makes.length u4, .int .i64 u.back.at_, .int .i64 u.back.steps, .slice U5 u.back.sets.length u5, .slice U6 u.back.makes.length u6] _ RA.out Tryz.underlying34 rfl LU.out ?_)
            | (refine wpList_store_row rfl 34 _ _ rfl r0 #[.int .i64 u.fn, .int .i64 u.at_, .int .i64 u.loop, .slice U1 u.ins.length u1, .slice U2 u.exits.length u2, .int .i64 u.turn.at_, .int .i64 u.turn.steps, .slice U3 u.turn.sets.length u3, .slice U4 u.turn.makes.length u4, .int .i64 u.back.at_, .int .i64 u.back.steps, .slice U5 u.back.sets.length u5, .slice U6 u.back.makes.length u6] rfl rfl 34 _ ZA.out infoTr13 rfl (all_oneCell_toArray (by simp [Value.oneCell'])) ?_)
            | fail)
          generalize hw11 : World.setRow _ _ _ = w11
          have QR : Hid (w11.heap[r0]? = some (.cells #[.int .i64 u.fn, .int .i64 u.at_, .int .i64 u.loop, .slice U1 u.ins.length u1, .slice U2 u.exits.length u2, .int .i64 u.turn.at_, .int .i64 u.turn.steps, .slice U3 u.turn.sets.length u3, .slice U4 u.turn.makes.length u4, .int .i64 u.back.at_, .int .i64 u.back.steps, .slice U5 u.back.sets.length u5, .slice U6 u.back.makes.length u6] 34 (0, 0))) := by rw [← hw11]; exact setRow_heap _ _ _ _ _ _ ZA.out
          have KF : Hid (Below w.heap.size w w11) := by rw [← hw11]; exact Below.set_row (KR1.out.trans ((K9.out.trans (KA.out.mono K9.out.size)).mono KR1.out.size)) (by omega) _
          have ST : Hid (∀ w2 : World, (∀ k, w.heap.size ≤ k → k < w11.heap.size → w2.heap[k]? = w11.heap[k]?) → TraceR w2 w2.heap.size [.int .i64 u.fn, .int .i64 u.at_, .int .i64 u.loop, .slice U1 u.ins.length u1, .slice U2 u.exits.length u2, .int .i64 u.turn.at_, .int .i64 u.turn.steps, .slice U3 u.turn.sets.length u3, .slice U4 u.turn.makes.length u4, .int .i64 u.back.at_, .int .i64 u.back.steps, .slice U5 u.back.sets.length u5, .slice U6 u.back.makes.length u6] u) := fun w2 h2 => ST9.out w2 (fun k h3 h4 => by
            have h5 := K8.out.size
            have h6 : w11.heap.size = w10.heap.size := by rw [← hw11, size_setRow]
            have h7 := KA.out.size
            have h8 := KR1.out.size
            rw [h2 k (by omega) (by omega), ← hw11]
            exact (setRow_other _ _ _ _ (by omega)).trans (KA.out.block k h4))
          clear hw11
          go_wp2_with fail
          have g0 := cell_of_row w11 r0 0 _ _ _ QR.out
          have g1 := cell_of_row w11 r0 1 _ _ _ QR.out
          have g2 := cell_of_row w11 r0 2 _ _ _ QR.out
          have g3 := cell_of_row w11 r0 3 _ _ _ QR.out
          have g4 := cell_of_row w11 r0 4 _ _ _ QR.out
          have g5 := cell_of_row w11 r0 5 _ _ _ QR.out
          have g6 := cell_of_row w11 r0 6 _ _ _ QR.out
          have g7 := cell_of_row w11 r0 7 _ _ _ QR.out
          have g8 := cell_of_row w11 r0 8 _ _ _ QR.out
          have g9 := cell_of_row w11 r0 9 _ _ _ QR.out
          have g10 := cell_of_row w11 r0 10 _ _ _ QR.out
          have g11 := cell_of_row w11 r0 11 _ _ _ QR.out
          have g12 := cell_of_row w11 r0 12 _ _ _ QR.out
          unfold FirstPost
          refine bodyPost_ret (v := .tuple #[.agg ⟨[.int .i64 u.fn, .int .i64 u.at_, .int .i64 u.loop, .slice U1 u.ins.length u1, .slice U2 u.exits.length u2, .int .i64 u.turn.at_, .int .i64 u.turn.steps, .slice U3 u.turn.sets.length u3, .slice U4 u.turn.makes.length u4, .int .i64 u.back.at_, .int .i64 u.back.steps, .slice U5 u.back.sets.length u5, .slice U6 u.back.makes.length u6]⟩, .bool true, .int .i64 er]) (by simp [results, Tryz.results8, go_sem, g0, g1, g2, g3, g4, g5, g6, g7, g8, g9, g10, g11, g12]) rfl ⟨_, u, true, er, rfl, KF.out, .inr ⟨rfl, ST.out, LAW.out⟩⟩
    · go_simp
      have ka : Below w1.heap.size w1 ((w1.alloc (.map #[] 0)).drew) := (below_one w1 _).drew
      refine hK _ _ (fun _ => ⟨⟨_, ka⟩, rfl⟩) ?_
      clear hK K
      refine wpAnyC_one (i := 6) (by kernel_rfl) rfl (fun K hK => ?_)
      go_simp
      refine (CLI.out _ ka).mono ?_
      rintro e w2 ⟨u, rfl, hu, k11⟩
      have L2 : Hid (Below w1.heap.size w1 w2) := ka.trans (k11.mono ka.size)
      refine hK _ _ (fun _ => ⟨⟨w2, L2.out⟩, rfl⟩) ?_
      clear hK K
      obtain ⟨Oa, oc, rfl⟩ := own_len hu
      obtain ⟨mb, hmbd⟩ : ∃ mb, mb = w1.heap.size := ⟨_, rfl⟩
      have M2 : Hid (MapN w2 mb []) := by rw [hmbd]; exact (MapN.made w1).kept (k11.block _ (by simp))
      have O2 : Hid (w2.ownsRow w1.heap.size 42 8 (.slice Oa t.ins.length oc) t.ins.length (t.ins.flatMap insCells)) := row_more hu ka.size
      have hmB : w1.heap.size ≤ mb := by omega
      rw [← hmbd]
      clear hmbd hu k11 ka
      obtain ⟨w3, hw3⟩ : ∃ w3, w3 = w2.alloc (.cells #[.int .i64 t.fn, .int .i64 t.at_, .int .i64 t.loop, .slice (some ⟨b, off, none⟩) t.ins.length n1, .slice A2 t.exits.length n2, .int .i64 t.turn.at_, .int .i64 t.turn.steps, .slice A3 t.turn.sets.length n3, .slice A4 t.turn.makes.length n4, .int .i64 t.back.at_, .int .i64 t.back.steps, .slice A5 t.back.sets.length n5, .slice A6 t.back.makes.length n6, .int .i64 (j : Int), .int .i64 x.n, .int .i64 0, .slice none 0 0, .slice none 0 0, .slice Oa t.ins.length oc, .map (some mb)] 78) := ⟨_, rfl⟩
      have K3 : Hid (Below w1.heap.size w1 w3) := by rw [hw3]; exact L2.out.trans ((below_one w2 _).mono L2.out.size)
      have SB3 : Hid (w3.heap[w2.heap.size]? = some (.cells ⟨[.int .i64 t.fn, .int .i64 t.at_, .int .i64 t.loop, .slice (some ⟨b, off, none⟩) t.ins.length n1, .slice A2 t.exits.length n2, .int .i64 t.turn.at_, .int .i64 t.turn.steps, .slice A3 t.turn.sets.length n3, .slice A4 t.turn.makes.length n4, .int .i64 t.back.at_, .int .i64 t.back.steps, .slice A5 t.back.sets.length n5, .slice A6 t.back.makes.length n6, .int .i64 (j : Int), .int .i64 x.n, .int .i64 0, .slice none 0 0, .slice none 0 0, .slice Oa t.ins.length oc, .map (some mb)]⟩ 78 (0, 0))) := by rw [hw3]; exact heap_last _ _
      have O3 : Hid (w3.ownsRow w1.heap.size 42 8 (.slice Oa t.ins.length oc) t.ins.length (t.ins.flatMap insCells)) := by rw [hw3]; exact World.ownsRow.alloc O2.out _
      have M3 : Hid (MapN w3 mb []) := by rw [hw3]; exact M2.out.kept ((below_one w2 _).block _ M2.out.lt)
      have hmb := M2.out.lt
      have HW3 := Lib.hid hw3
      have hb2 : ∀ G, (.slice Oa t.ins.length oc : Value).ownBlock = some G → G < w2.heap.size := fun G e => (row_ty O2.out e).2.1
      have HB2 := Lib.hid hb2
      have hs12 := L2.out.size
      have T3 := Lib.hid ((K3.out.block _ (Array.getElem?_eq_some_iff.1 T1.out).1).trans T1.out)
      have y3 := HeadAt.of_row T3.out 3 _ rfl
      clear hw3 hb2 O2 M2 L2 hmm
      refine wpAnyC_of_ms [8, 9, 10] _ _ _ (by kernel_rfl) ?_
      refine wpMs_list [8, 9, 10] _ _ (by kernel_rfl) (by kernel_rfl) ?_
      simp only [List.filterMap_cons, List.filterMap_nil, List.getElem?_toArray, List.getElem?_cons_zero, List.getElem?_cons_succ]
      go_upto_region 6 with fail
      rw [← HW3.out]
      obtain ⟨sb, hsb⟩ : ∃ sb, sb = w2.heap.size := ⟨_, rfl⟩
      rw [← hsb] at SB3 HB2 hmb hs12
      rw [← hsb]
      have hsb3 : sb < w3.heap.size := (Array.getElem?_eq_some_iff.1 SB3.out).1
      clear HW3 hsb
      go_wp2_with fail
      go_loopw [35] (fun i wq => ∃ (q : Nat) (uT : Value), i = .int .i64 q ∧ q ≤ t.ins.length ∧ Hid (wq.heap[sb]? = some (.cells ⟨[.int .i64 t.fn, .int .i64 t.at_, .int .i64 t.loop, .slice (some ⟨b, off, none⟩) t.ins.length n1, .slice A2 t.exits.length n2, .int .i64 t.turn.at_, .int .i64 t.turn.steps, .slice A3 t.turn.sets.length n3, .slice A4 t.turn.makes.length n4, .int .i64 t.back.at_, .int .i64 t.back.steps, .slice A5 t.back.sets.length n5, .slice A6 t.back.makes.length n6, .int .i64 (j : Int), .int .i64 x.n, .int .i64 0, .slice none 0 0, uT, .slice Oa t.ins.length oc, .map (some mb)]⟩ 78 (0, 0))) ∧ Hid (wq.ownsRow w3.heap.size 3 1 uT q ((upto q).map (.int .i64))) ∧ Hid (Only (fun k => k = sb) w3 wq)) (fun i _ => t.ins.length - (RowKit.intOf i).toNat)
      case atStart => exact ⟨0, .slice none 0 0, rfl, by omega, SB3.out, World.ownsRow_nil _ _ _ _, Only.refl⟩
      case round =>
        obtain ⟨q, uT, rfl, hq, SQ, OQ, NQ⟩ := hrel
        obtain ⟨wq, hwq⟩ : ∃ wo, wo = wr := ⟨_, rfl⟩
        subst hwq
        obtain ⟨Ta, tc, rfl⟩ := own_len OQ.out
        have hqs := NQ.out.size
        have TQ := Lib.hid ((NQ.out.block _ (Array.getElem?_eq_some_iff.1 T3.out).1 (by have := HXB.out; omega)).trans T3.out)
        by_cases hql : q < t.ins.length
        · have hqi : (q : Int) < t.ins.length := by omega
          have s17 := HeadAt.of_row SQ.out 17 _ rfl
          obtain ⟨w5, hw5⟩ : ∃ w5, w5 = wq.alloc (.cells #[.int .i64 (q : Int)] 3) := ⟨_, rfl⟩
          have K5 : Hid (Below wq.heap.size wq w5) := by rw [hw5]; exact below_one _ _
          have N5 : Hid (w5.heap[wq.heap.size]? = some (.cells #[.int .i64 (q : Int)] 3 (0, 0))) := by rw [hw5]; exact heap_last _ _
          have OQ5 : Hid (w5.ownsRow w3.heap.size 3 1 (.slice Ta q tc) q ((upto q).map (.int .i64))) := by rw [hw5]; exact World.ownsRow.alloc OQ.out _
          have HW5 := Lib.hid hw5
          clear hw5
          go_wp2_with (at_builtin; (rw [← HW5.out]); refine wpList_append_own _ rfl _ _ 47 rfl w3.heap.size 3 q0 (.int .i64 0) 1 8 Tryz.underlying47 hq0 hq1 hq2 hq3 rfl (by decide) (.slice Ta q tc) q ((upto q).map (.int .i64)) rfl OQ5.out ⟨wq.heap.size, 0, none⟩ 1 1 [.int .i64 (q : Int)] rfl rfl ?c1 ?c2 ?c3 ?c4 ?c5 ?_)
          case c1 => exact World.news_of_block (cs := #[.int .i64 (q : Int)]) N5.out
          case c2 => intro u hu; simp at hu; subst hu; rfl
          case c3 => unfold maxLen; omega
          case c4 => omega
          case c5 => have := K5.out.size; omega
          intro v' w6 hown hg6 _
          obtain ⟨Tb, tb2, rfl⟩ := own_len hown
          have KB6 : Hid (Below w3.heap.size wq w6) := (K5.out.mono hqs).trans (grow_below OQ5.out hg6 (Nat.le_refl _) (by have := K5.out.size; omega))
          have O6 := Lib.hid hown
          have S6 := Lib.hid ((KB6.out.block _ hsb3).trans SQ.out)
          have s6 := HeadAt.of_row S6.out 17 _ rfl
          have f6 := frozen_of_row w6 sb 17 _ _ S6.out
          clear hown hg6 N5 OQ5 K5 s17
          go_upto_region 10 with fail
          generalize hw7 : World.setCell _ _ _ = w7
          have L7 : Hid (Fined sb w6 w7) := by rw [← hw7]; exact (Fined.refl sb w6).set_ _ _
          have S7 : Hid (w7.heap[sb]? = some (.cells ⟨[.int .i64 t.fn, .int .i64 t.at_, .int .i64 t.loop, .slice (some ⟨b, off, none⟩) t.ins.length n1, .slice A2 t.exits.length n2, .int .i64 t.turn.at_, .int .i64 t.turn.steps, .slice A3 t.turn.sets.length n3, .slice A4 t.turn.makes.length n4, .int .i64 t.back.at_, .int .i64 t.back.steps, .slice A5 t.back.sets.length n5, .slice A6 t.back.makes.length n6, .int .i64 (j : Int), .int .i64 x.n, .int .i64 0, .slice none 0 0, .slice Tb (q + 1) tb2, .slice Oa t.ins.length oc, .map (some mb)]⟩ 78 (0, 0))) := by rw [← hw7, heap_setCell_same w6 sb 17 _ _ _ S6.out]; rfl
          have O7 : Hid (w7.ownsRow w3.heap.size 3 1 (.slice Tb (q + 1) tb2) (q + 1) ((upto (q + 1)).map (.int .i64))) := by
            rw [upto_succ, List.map_append]
            exact row_stays O6.out (fun G e => L7.out.block G (row_ty O6.out e).2.1 (by have := (row_ty O6.out e).1; omega))
          have N7 : Hid (Only (fun k => k = sb) w3 w7) := ⟨L7.out.os.trans (KB6.out.os.trans NQ.out.os), L7.out.tape.trans (KB6.out.tape.trans NQ.out.tape), L7.out.output.trans (KB6.out.output.trans NQ.out.output), Nat.le_trans NQ.out.size (Nat.le_trans KB6.out.size L7.out.size), fun k hk ht => (L7.out.block k (by have := KB6.out.size; omega) ht).trans ((KB6.out.block k hk).trans (NQ.out.block k hk ht))⟩
          clear hw7 s6 f6 S6 O6 KB6 L7
          go_wp2_with fail
          go_roundw
          case rel => exact ⟨q + 1, _, by go_num, by omega, S7.out, O7.out, N7.out⟩
          case measure => simp [RowKit.intOf]; omega
        · obtain rfl : q = t.ins.length := by omega
          have hqi : ¬ (t.ins.length : Int) < t.ins.length := by omega
          have KQ : Hid (Below w1.heap.size w1 wq) := K3.out.trans ⟨NQ.out.os, NQ.out.tape, NQ.out.output, NQ.out.size, fun k hk => NQ.out.block k (Nat.lt_of_lt_of_le hk K3.out.size) (by omega)⟩
          have SK : Hid (SinkR wq w1.heap.size sb mb j x.n [.int .i64 t.fn, .int .i64 t.at_, .int .i64 t.loop, .slice (some ⟨b, off, none⟩) t.ins.length n1, .slice A2 t.exits.length n2, .int .i64 t.turn.at_, .int .i64 t.turn.steps, .slice A3 t.turn.sets.length n3, .slice A4 t.turn.makes.length n4, .int .i64 t.back.at_, .int .i64 t.back.steps, .slice A5 t.back.sets.length n5, .slice A6 t.back.makes.length n6] t ⟨0, [], upto t.ins.length, t.ins, .slice none 0 0, .slice Ta t.ins.length tc, .slice Oa t.ins.length oc, []⟩) := by
            refine ⟨(HT.out.below KR1.out).keep (Nat.le_refl _) (fun p hp => KQ.out.cell hp), hs12, HF.out, SQ.out, World.ownsRow_nil _ _ _ _, ?_, ?_, HB2.out, M3.out.kept (NQ.out.block _ M3.out.lt (by omega)), hmB, (fun G e => by cases e), (fun e he => by cases he), List.nodup_nil, (fun e he => by cases he), Sinks.refl HF.out j, fun y hy => ?_, (fun v hv => by cases hv), fun v hv => ?_, by show wfi 0; unfold wfi; omega, WX.out.2.2.2.2.1, by simp⟩
            · show wq.ownsRow _ _ _ _ (upto t.ins.length).length _
              rw [upto_len]
              exact row_more OQ.out K3.out.size
            · exact row_stays O3.out (fun G e => NQ.out.block G (row_ty O3.out e).2.1 (by have := HB2.out G e; omega))
            · obtain ⟨cs, _, h⟩ := Q3.out.mem hy
              exact h
            · obtain ⟨i, hi, rfl⟩ := List.mem_map.1 hv
              have := List.mem_range.1 hi
              unfold wfi; omega
          have MC := Lib.hid (may_c _ wq SK.out (by simp) hlt)
          clear SQ OQ NQ O3 M3
          go_wp2_with fail
          refine MC.out.mono ?_
          rintro e w8 ⟨bb, s8, rfl, g8, t8, n8⟩
          have S8 := Lib.hid g8
          have N8 := Lib.hid n8
          have K8 : Hid (Below w1.heap.size w1 w8) := KQ.out.trans (t8.belowB SK.out)
          have KO8 : Hid (Below w0.heap.size w0 w8) := (KW.out.trans (K1.out.mono KW.out.size)).trans (K8.out.mono (Nat.le_trans KW.out.size K1.out.size))
          clear g8 t8 n8 MC SK KQ
          cases bb
          case false =>
            go_wp2_with fail
            go_roundw
            case rel => exact ⟨j + 1, by go_num, by omega, KO8.out⟩
            case measure => simp [RowKit.intOf]; omega
          have SU := Lib.hid (sunk_c s8 w8 S8.out ⟨x, HX.out, H16.out⟩ (N8.out rfl))
          go_wp2_with fail
          refine SU.out.mono ?_
          rintro e w9 ⟨u, er, cs, rfl, tr9, k9, set9, law9⟩
          have ST9 := Lib.hid set9
          have LAW := Lib.hid law9
          have K9 : Hid (Below w1.heap.size w1 w9) := K8.out.trans k9
          have hs89 : Hid (w8.heap.size ≤ w9.heap.size) := k9.size
          obtain ⟨U1, u1, U2, u2, U3, u3, U4, u4, U5, u5, U6, u6, rfl, -⟩ := tr9.cells
          clear tr9 k9 set9 law9 SU
          go_upto_region 13 with fail
          generalize hw10 : World.alloc _ _ = w10
          have KA : Hid (Below w9.heap.size w9 w10) := by rw [← hw10]; exact below_one _ _
          have RA : Hid (w10.rangeAt w9.heap.size 0 [.int .i64 u.fn, .int .i64 u.at_, .int .i64 u.loop, .slice U1 u.ins.length u1, .slice U2 u.exits.length u2, .int .i64 u.turn.at_, .int .i64 u.turn.steps, .slice U3 u.turn.sets.length u3, .slice U4 u.turn.makes.length u4, .int .i64 u.back.at_, .int .i64 u.back.steps, .slice U5 u.back.sets.length u5, .slice U6 u.back.makes.length u6]) := by rw [← hw10]; exact (HeadAt.of_row (heap_last w9 _)).range
          have hz1 := (Array.getElem?_eq_some_iff.1 Z1.out).1
          have ZA := Lib.hid ((KA.out.block _ (Nat.lt_of_lt_of_le hz1 K9.out.size)).trans ((K9.out.block _ hz1).trans Z1.out))
          have LU : Hid ((Tryz.prog.info? 34).map (·.size) = some ([.int .i64 u.fn, .int .i64 u.at_, .int .i64 u.loop, .slice U1 u.ins.length u1, .slice U2 u.exits.length u2, .int .i64 u.turn.at_, .int .i64 u.turn.steps, .slice U3 u.turn.sets.length u3, .slice U4 u.turn.makes.length u4, .int .i64 u.back.at_, .int .i64 u.back.steps, .slice U5 u.back.sets.length u5, .slice U6 u.back.makes.length u6] : List Value).length) := infoTr13
          clear hw10
          go_wp2_with (first
            | (refine wpList_load_mid rfl 34 _ rfl w9.heap.size 0 rfl [.int .i64 u.fn, .int .i64 u.at_, .int .i64 u.loop, .slice U1 u.ins.length u1, .slice U2 u.exits.length u2, .int .i64 u.turn.at_, .int .i64 u.turn.steps, .slice U3 u.turn.sets.length u3, .slice U4 u.turn.makes.length u4, .int .i64 u.back.at_, .int .i64 u.back.steps, .slice U5 u.back.sets.length u5, .slice U6 u.back.makes.length u6] _ RA.out Tryz.underlying34 rfl LU.out ?_)
            | (refine wpList_store_row rfl 34 _ _ rfl r0 #[.int .i64 u.fn, .int .i64 u.at_, .int .i64 u.loop, .slice U1 u.ins.length u1, .slice U2 u.exits.length u2, .int .i64 u.turn.at_, .int .i64 u.turn.steps, .slice U3 u.turn.sets.length u3, .slice U4 u.turn.makes.length u4, .int .i64 u.back.at_, .int .i64 u.back.steps, .slice U5 u.back.sets.length u5, .slice U6 u.back.makes.length u6] rfl rfl 34 _ ZA.out infoTr13 rfl (all_oneCell_toArray (by simp [Value.oneCell'])) ?_)
            | fail)
          generalize hw11 : World.setRow _ _ _ = w11
          have QR : Hid (w11.heap[r0]? = some (.cells #[.int .i64 u.fn, .int .i64 u.at_, .int .i64 u.loop, .slice U1 u.ins.length u1, .slice U2 u.exits.length u2, .int .i64 u.turn.at_, .int .i64 u.turn.steps, .slice U3 u.turn.sets.length u3, .slice U4 u.turn.makes.length u4, .int .i64 u.back.at_, .int .i64 u.back.steps, .slice U5 u.back.sets.length u5, .slice U6 u.back.makes.length u6] 34 (0, 0))) := by rw [← hw11]; exact setRow_heap _ _ _ _ _ _ ZA.out
          have KF : Hid (Below w.heap.size w w11) := by rw [← hw11]; exact Below.set_row (KR1.out.trans ((K9.out.trans (KA.out.mono K9.out.size)).mono KR1.out.size)) (by omega) _
          have ST : Hid (∀ w2 : World, (∀ k, w.heap.size ≤ k → k < w11.heap.size → w2.heap[k]? = w11.heap[k]?) → TraceR w2 w2.heap.size [.int .i64 u.fn, .int .i64 u.at_, .int .i64 u.loop, .slice U1 u.ins.length u1, .slice U2 u.exits.length u2, .int .i64 u.turn.at_, .int .i64 u.turn.steps, .slice U3 u.turn.sets.length u3, .slice U4 u.turn.makes.length u4, .int .i64 u.back.at_, .int .i64 u.back.steps, .slice U5 u.back.sets.length u5, .slice U6 u.back.makes.length u6] u) := fun w2 h2 => ST9.out w2 (fun k h3 h4 => by
            have h5 := K8.out.size
            have h6 : w11.heap.size = w10.heap.size := by rw [← hw11, size_setRow]
            have h7 := KA.out.size
            have h8 := KR1.out.size
            rw [h2 k (by omega) (by omega), ← hw11]
            exact (setRow_other _ _ _ _ (by omega)).trans (KA.out.block k h4))
          clear hw11
          go_wp2_with fail
          have g0 := cell_of_row w11 r0 0 _ _ _ QR.out
          have g1 := cell_of_row w11 r0 1 _ _ _ QR.out
          have g2 := cell_of_row w11 r0 2 _ _ _ QR.out
          have g3 := cell_of_row w11 r0 3 _ _ _ QR.out
          have g4 := cell_of_row w11 r0 4 _ _ _ QR.out
          have g5 := cell_of_row w11 r0 5 _ _ _ QR.out
          have g6 := cell_of_row w11 r0 6 _ _ _ QR.out
          have g7 := cell_of_row w11 r0 7 _ _ _ QR.out
          have g8 := cell_of_row w11 r0 8 _ _ _ QR.out
          have g9 := cell_of_row w11 r0 9 _ _ _ QR.out
          have g10 := cell_of_row w11 r0 10 _ _ _ QR.out
          have g11 := cell_of_row w11 r0 11 _ _ _ QR.out
          have g12 := cell_of_row w11 r0 12 _ _ _ QR.out
          unfold FirstPost
          refine bodyPost_ret (v := .tuple #[.agg ⟨[.int .i64 u.fn, .int .i64 u.at_, .int .i64 u.loop, .slice U1 u.ins.length u1, .slice U2 u.exits.length u2, .int .i64 u.turn.at_, .int .i64 u.turn.steps, .slice U3 u.turn.sets.length u3, .slice U4 u.turn.makes.length u4, .int .i64 u.back.at_, .int .i64 u.back.steps, .slice U5 u.back.sets.length u5, .slice U6 u.back.makes.length u6]⟩, .bool true, .int .i64 er]) (by simp [results, Tryz.results8, go_sem, g0, g1, g2, g3, g4, g5, g6, g7, g8, g9, g10, g11, g12]) rfl ⟨_, u, true, er, rfl, KF.out, .inr ⟨rfl, ST.out, LAW.out⟩⟩
end Go.Proofs.YtlnkjmgfkpeicaaGreatDoor
