/- fold: one. And a drawn region with a call that turns something, behind which the others do nothing but read. -/
import Derived.Test.YtmccomeihnaanaaDoorFoldH
namespace Go.Proofs.YtmccomeihnaanaaDoor
open Go.RowKit Go.IntWalk

section
variable {P : Program} {ops : Array Oper} {md : Region.Mode} {Q : Exit → Act → World → Prop}
/-- the classes of those that are listed already are of no account -/
theorem wpAnyC_swap {C C' : World → Prop} {F F' : Nat → Bool} : ∀ (f : Nat) (listed : Array Bool) (a : Act) (w : World), (∀ j, listed.getD j true = false → F j = false) → wpAnyC P md ops C' F' Q f listed a w → wpAnyC P md ops C F Q f listed a w
  | 0, _, _, _, _, h => h
  | f + 1, listed, _, _, hF, h => ⟨h.1, fun i hi => wpOp_mono (fun a' w' h' => ⟨fun hf => (by
      obtain ⟨hu, _⟩ := mem_ready.1 hi
      rw [hF i hu] at hf; cases hf), wpAnyC_swap f _ a' w' (fun j hj => hF j (by
        by_cases e : i = j
        · subst e; exact (mem_ready.1 hi).1
        · rwa [getD_set_ne true e] at hj)) h'.2⟩) (h.2 i hi)⟩
def closedB (md : Region.Mode) (ops : Array Oper) (listed : Array Bool) : Bool :=
  (List.range ops.size).all fun j => !(listed.getD j false) || (match ops[j]? with | none => true | some o => o.after.all fun e => !Region.binds md e || listed.getD e.on false)
theorem closed_spec {listed : Array Bool} (h : closedB md ops listed = true) : Closed md ops listed := fun j oj hj hl e he hb => by
  have hlt : j < ops.size := (Array.getElem?_eq_some_iff.1 hj).1
  have h1 := List.all_eq_true.1 h j (List.mem_range.2 hlt)
  simp only [hj, hl, Bool.not_true, Bool.false_or] at h1
  have h2 := Array.all_eq_true'.1 h1 e he
  simpa [hb] using h2
/-- THE OTHERS READ, behind one that did not -/
theorem wpAnyC_again {C : World → Prop} {F : Nat → Bool} {a : Act} {w : World} {listed : Array Bool} {k : Nat} (C' : World → Prop) (qs fl : List Nat) (m : Nat) (last : Array Bool) (lq : List Oper)
    (hB : (Region.noSelect ops && lateB md ops (fun j => qs.contains j || fl.contains j) ops.size qs && readB2 md ops last qs listed && closedB md ops listed && (List.range listed.size).all (fun j => listed.getD j true || !F j)) = true)
    (hk : qs.length + m = k) (hq : qs.filterMap (ops[·]?) = lq) (hQ : ∀ (c : _) (a : Act) (d : Option Tmp) (v : Value) (w : World), Q (.panic c) (a.put d v) w → Q (.panic c) a w) (hC : C' w)
    (h : wpQuiet P ops C' (fun a' => wpAnyC P md ops C' (fun j => qs.contains j || fl.contains j) Q m last a' w) lq a) : wpAnyC P md ops C F Q k listed a w := by
  subst hq hk
  simp only [Bool.and_eq_true] at hB
  obtain ⟨⟨⟨⟨hsel, hlate⟩, hread⟩, hcl⟩, hF⟩ := hB
  refine wpAnyC_swap (C' := C') (F' := fun j => qs.contains j || fl.contains j) _ _ _ _ (fun j hj => ?_) ?_
  · rcases Nat.lt_or_ge j listed.size with h' | h'
    · have := List.all_eq_true.1 hF j (List.mem_range.2 h')
      rw [hj] at this
      simpa using this
    · rw [Array.getD_eq_getD_getElem?, Array.getElem?_eq_none h'] at hj
      cases hj
  · exact wpAnyC_read2 (qs0 := qs) hsel hQ (fun listed i j hi hc hu hj => by
      by_cases hjq : j ∈ qs
      · simp [hjq]
      · exact late_spec hlate hc hi hu hj hjq) hC qs listed a (fun _ h => h) (closed_spec hcl) hread h
end
section
variable {W : World} {B fb : Nat} {ca : List Value} {t : TTrace} {G n cG T m cT : Nat} {cur : List TIns} {tl : List Int}

set_option maxHeartbeats 4000000 in
set_option maxRecDepth 100000 in
theorem fone_c (h : FoldR W B fb ca t (.slice (some ⟨G, 0, none⟩) n cG) (.slice (some ⟨T, 0, none⟩) m cT) cur tl) (x : TIns) (i : Nat) (hx : cur[i]? = some x) (hto : tl[i]? = some (i : Int)) (ho : ∀ o ∈ asksM x, 0 ≤ o ∧ o < cur.length) :
    Calls Tryd.prog 60 #[.pointer (some ⟨fb, 0, none⟩), .int .i64 i] W (TwoPost W B fb ca t G n cG T m cT cur tl i (foldOne (foldE t.ins) cur x i)) := by
  have few := h.few
  have hn := h.n
  have hi := (List.getElem?_eq_some_iff.1 hx).1
  have hit := (List.getElem?_eq_some_iff.1 hto).1
  have SX : Hid (cur.set i x = cur) := set_same hx
  have ST : Hid (tl.set i (i : Int) = tl) := set_same hto
  have HA : Hid (0 < (formM x.op).asks → 0 ≤ x.a ∧ x.a < cur.length) := fun c => ho _ (asks_one c)
  have HBB : Hid (1 < (formM x.op).asks → 0 ≤ x.b ∧ x.b < cur.length) := fun c => ho _ (asks_two c)
  have hii : (i : Int) < n := by omega
  have HX := Lib.hid hx
  have HTO := Lib.hid hto
  have c16 := h.cellI
  have RG : Hid (W.rangeAt G (i * 8) [.int .i64 x.op, .int .i64 x.a, .int .i64 x.b, .int .i64 x.c, .int .i64 x.n, .int .i64 x.exit, .int .i64 x.k.kind, .int .i64 x.k.n]) := fun a u hu => h.at_ hx hu
  obtain ⟨w1, hw1⟩ : ∃ w1, w1 = W.alloc (.cells #[.int .i64 x.op, .int .i64 x.a, .int .i64 x.b, .int .i64 x.c, .int .i64 x.n, .int .i64 x.exit, .int .i64 x.k.kind, .int .i64 x.k.n] 43) := ⟨_, rfl⟩
  have K1 : Hid (Below W.heap.size W w1) := by rw [hw1]; exact below_one _ _
  have X1 : Hid (w1.heap[W.heap.size]? = some (.cells #[.int .i64 x.op, .int .i64 x.a, .int .i64 x.b, .int .i64 x.c, .int .i64 x.n, .int .i64 x.exit, .int .i64 x.k.kind, .int .i64 x.k.n] 43 (0, 0))) := by rw [hw1]; exact heap_last _ _
  have H1 := Lib.hid (h.below K1.out)
  have HW := Lib.hid hw1
  obtain ⟨r, hr⟩ : ∃ r, foldOne (foldE t.ins) cur x i = r := ⟨_, rfl⟩
  rw [hr]
  unfold foldOne at hr
  have HR := Lib.hid hr
  have HN := Lib.hid hn
  clear hw1 h hx hto ho hr hn
  go_enter Tryd.func60, Tryd.ntmps60
  go_upto_region 1 with (first | (refine wpList_load_mid rfl 43 _ rfl G (i * 8) rfl [.int .i64 x.op, .int .i64 x.a, .int .i64 x.b, .int .i64 x.c, .int .i64 x.n, .int .i64 x.exit, .int .i64 x.k.kind, .int .i64 x.k.n] _ RG.out Tryd.underlying43 rfl infoIns8 ?_) | fail)
  rw [← HW.out]
  clear c16 RG HW hii
  have x0 : w1.cell? ⟨W.heap.size, 0, none⟩ = some (.int .i64 x.op) := cell_of_row w1 _ 0 _ _ _ X1.out
  by_cases c7 : x.op = 7
  · rw [if_pos c7] at HR
    have ha := HA.out (by rw [c7]; decide)
    have hb := HBB.out (by rw [c7]; decide)
    have R1 : Hid (w1.rangeAt W.heap.size 0 [.int .i64 x.op, .int .i64 x.a, .int .i64 x.b, .int .i64 x.c, .int .i64 x.n, .int .i64 x.exit, .int .i64 x.k.kind, .int .i64 x.k.n]) := (HeadAt.of_row X1.out).range
    have TC := Lib.hid (two_c H1.out x c7 i HX.out HTO.out ha hb)
    rw [HR.out] at TC
    have n7 : (x.op == 7) = true := beq_iff_eq.2 c7
    clear ha hb c7
    go_wp2_with (first | (refine wpList_load_mid rfl 43 _ rfl W.heap.size 0 rfl [.int .i64 x.op, .int .i64 x.a, .int .i64 x.b, .int .i64 x.c, .int .i64 x.n, .int .i64 x.exit, .int .i64 x.k.kind, .int .i64 x.k.n] _ R1.out Tryd.underlying43 rfl infoIns8 ?_) | fail)
    refine TC.out.mono ?_
    rintro e w2 ⟨rfl, h2, k2⟩
    have H2 := Lib.hid h2
    have KK : Hid (Kept2 G T W w2) := (kept_below K1.out).trans k2
    clear h2 k2
    go_wp2_with fail
    refine bodyPost_ret (v := .tuple #[]) (by simp [results, Tryd.results60, go_sem]) rfl ⟨rfl, H2.out, KK.out⟩
  rw [if_neg c7] at HR
  have n7 : (x.op == 7) = false := beq_eq_false_iff_ne.2 c7
  by_cases c8 : x.op = 8
  · rw [if_pos c8] at HR
    have n8 : (x.op == 8) = true := beq_iff_eq.2 c8
    have ha := HA.out (by rw [c8]; decide)
    have RC0 := fun (W' : World) (hW : FoldR W' B fb ca t (.slice (some ⟨G, 0, none⟩) n cG) (.slice (some ⟨T, 0, none⟩) m cT) cur tl) => reckon_c hW x (.inr c8) ha (fun c => absurd c c7) i hi
    obtain ⟨va, hva⟩ := Int.eq_ofNat_of_zero_le ha.1
    have hvai : (va : Int) < n := by have := HN.out; omega
    obtain ⟨y, hy⟩ : ∃ y, cur[va]? = some y := ⟨_, List.getElem?_eq_getElem (by omega)⟩
    have IY : Hid (insF cur x.a = y) := by unfold insF Hid; rw [hva, show (va : Int).toNat = va from rfl, hy]; rfl
    have WY := Lib.hid (H1.out.wf y (List.mem_of_getElem? hy))
    rw [IY.out] at HR
    have HY := Lib.hid hy
    have HVA := Lib.hid hva
    clear c7 c8 ha hva hy
    go_upto_region 5 with fail
    clear x0
    have c16 : ∀ E : Up w1, E.to.cell? ⟨fb, 13 + 3, none⟩ = some (.slice (some ⟨G, 0, none⟩) n cG) := fun E => E.cell H1.out.cellI
    have x1 : ∀ E : Up w1, E.to.cell? ⟨W.heap.size, 1, none⟩ = some (.int .i64 (va : Int)) := fun E => by rw [← HVA.out]; exact E.cell (cell_of_row w1 _ 1 _ _ _ X1.out)
    have RY : Hid (∀ E : Up w1, E.to.rangeAt G (va * 8) [.int .i64 y.op, .int .i64 y.a, .int .i64 y.b, .int .i64 y.c, .int .i64 y.n, .int .i64 y.exit, .int .i64 y.k.kind, .int .i64 y.k.n]) := fun E a u hu => E.cell (H1.out.at_ HY.out hu)
    refine wp_region_first (fun w' => ∃ E : Up w1, w' = E.to) 9 [9, 10] [9] (by kernel_rfl) (by decide) (by kernel_rfl) (fun _ _ d _ _ h => by cases d <;> exact h) ⟨⟨_, (Below.refl _ w1).drew⟩, rfl⟩ ?_
    simp only [List.take_succ_cons, List.take_zero]
    generalize hqq : (fun a' => wpMs _ _ _ _ _ _ a' _) = qq
    have HQQ := Lib.hid hqq
    clear hqq
    repeat (first
      | (refine wpQuiet_load_up 43 _ rfl rfl G (va * 8) rfl [.int .i64 y.op, .int .i64 y.a, .int .i64 y.b, .int .i64 y.c, .int .i64 y.n, .int .i64 y.exit, .int .i64 y.k.kind, .int .i64 y.k.n] _ RY.out Tryd.underlying43 rfl infoIns8 ?_; go_simp)
      | go_big_quiet_step (fail))
    refine wpQuiet_nil ?_
    rw [← HQQ.out]
    clear HQQ qq c16 x1 RY
    refine wpMs_step rfl (fun K hK => ?_)
    go_simp
    refine hK _ _ (fun _ => ⟨⟨_, (Below.refl _ w1).drew.alloc (Nat.le_refl _) _⟩, rfl⟩) ?_
    clear hK K
    refine wpMs_list [10] _ _ (by kernel_rfl) (by kernel_rfl) ?_
    simp only [List.filterMap_cons, List.filterMap_nil, List.getElem?_toArray, List.getElem?_cons_zero, List.getElem?_cons_succ]
    refine wpList_store_row rfl 43 _ _ rfl w1.heap.size #[.int .i64 y.op, .int .i64 y.a, .int .i64 y.b, .int .i64 y.c, .int .i64 y.n, .int .i64 y.exit, .int .i64 y.k.kind, .int .i64 y.k.n] rfl rfl 43 _ (heap_last w1.drew _) infoIns8 rfl (all_oneCell_toArray (by simp [Value.oneCell'])) ?_
    generalize hw2 : World.setRow _ _ _ = w2
    have L2 : Hid (Below w1.heap.size w1 w2) := by rw [← hw2]; exact (Below.refl _ w1).drew.trans (below_setRow w1.drew _ _)
    have Y2 : Hid (w2.heap[w1.heap.size]? = some (.cells #[.int .i64 y.op, .int .i64 y.a, .int .i64 y.b, .int .i64 y.c, .int .i64 y.n, .int .i64 y.exit, .int .i64 y.k.kind, .int .i64 y.k.n] 43 (0, 0))) := by rw [← hw2]; exact setRow_heap _ _ _ _ _ _ (heap_last w1.drew _)
    have K2 : Hid (Below W.heap.size W w2) := K1.out.trans (L2.out.mono K1.out.size)
    have X2 : Hid (w2.heap[W.heap.size]? = some (.cells #[.int .i64 x.op, .int .i64 x.a, .int .i64 x.b, .int .i64 x.c, .int .i64 x.n, .int .i64 x.exit, .int .i64 x.k.kind, .int .i64 x.k.n] 43 (0, 0))) := (L2.out.block _ (Array.getElem?_eq_some_iff.1 X1.out).1).trans X1.out
    have H2 := Lib.hid (H1.out.below L2.out)
    have hoy0 : W.heap.size < w1.heap.size := (Array.getElem?_eq_some_iff.1 X1.out).1
    obtain ⟨oy, hoy⟩ : ∃ b, b = w1.heap.size := ⟨_, rfl⟩
    rw [← hoy] at Y2 hoy0
    rw [← hoy]
    clear hw2 L2 H1 X1 hoy
    (try dsimp only [Act.put])
    have HIt := Lib.hid H2.out.tr.size13
    go_upto_region 6 with fail
    (try dsimp only [Act.put])
    obtain ⟨rk, hrk⟩ : ∃ o, reckonM (foldE t.ins) cur x = o := ⟨_, rfl⟩
    rw [hrk] at HR
    have RC := Lib.hid (RC0 w2 H2.out)
    have RU : Hid (∀ E : Up w2, Calls Tryd.prog 94 #[.pointer (some ⟨fb, 0, none⟩), .int .i64 i, insV x] E.to (RekPost E.to B fb ca t G n cG (.slice (some ⟨T, 0, none⟩) m cT) cur tl i rk)) := fun E => by
      have := RC0 E.to (H2.out.below E.below)
      rwa [hrk] at this
    rw [hrk] at RC
    clear RC0 hrk
    cases rk with
    | some k =>
      dsimp only at HR
      have RX : Hid (∀ E : Up w2, E.to.rangeAt W.heap.size 0 [.int .i64 x.op, .int .i64 x.a, .int .i64 x.b, .int .i64 x.c, .int .i64 x.n, .int .i64 x.exit, .int .i64 x.k.kind, .int .i64 x.k.n]) := fun E a u hu => E.cell ((HeadAt.of_row X2.out).range a u hu)
      have RCd : Hid (Calls Tryd.prog 94 #[.pointer (some ⟨fb, 0, none⟩), .int .i64 i, insV x] w2.drew (RekPost w2.drew B fb ca t G n cG (.slice (some ⟨T, 0, none⟩) m cT) cur tl i (some k))) := RU.out ⟨w2.drew, (Below.refl _ w2).drew⟩
      refine wp_region_readers (fun w' => ∃ E : Up w2, w' = E.to) [0, 1, 2] [] 28 #[true, true, true, false, false, false, false, false, false, false, false, false, false, false, false, false, false, false, false, false, false, false, false, false, false, false, false, false, false, false, false] _ (by kernel_rfl) (by kernel_rfl) (by simp only [List.filterMap_cons, List.filterMap_nil, List.getElem?_toArray, List.getElem?_cons_zero, List.getElem?_cons_succ]; rfl) (fun _ _ d _ _ h => by cases d <;> exact h) ⟨⟨_, (Below.refl _ w2).drew⟩, rfl⟩ ?_
      generalize hqq : (fun a' => wpAnyC _ _ _ _ _ _ _ _ a' _) = qq
      have HQQ := Lib.hid hqq
      clear hqq
      show wpQuiet _ _ _ _ [_, _, _] _
      iterate 2 (go_big_quiet_step (fail))
      refine wpQuiet_load_up 43 _ rfl rfl W.heap.size 0 rfl [.int .i64 x.op, .int .i64 x.a, .int .i64 x.b, .int .i64 x.c, .int .i64 x.n, .int .i64 x.exit, .int .i64 x.k.kind, .int .i64 x.k.n] _ RX.out Tryd.underlying43 rfl infoIns8 ?_
      go_simp
      refine wpQuiet_nil ?_
      rw [← HQQ.out]
      clear HQQ qq RX RC RU
      refine wpAnyC_one (i := 3) (by kernel_rfl) rfl (fun K hK => ?_)
      go_simp
      refine RCd.out.mono ?_
      rintro e w3 ⟨rfl, h3, f3⟩
      refine hK _ _ (fun hf => by cases hf) ?_
      have H3 := Lib.hid h3
      have F3 : Hid (Fined G W w3) := (Fined.of_below (K2.out.drew)).trans f3
      clear hK K h3 f3 RCd
      refine wpAnyC_again (fun w' => ∃ E : Up w3, w' = E.to) [4, 5, 6, 7, 8, 9, 10, 11, 12, 13, 14, 15, 16, 17, 18, 19, 20, 21, 22, 23, 24, 25, 26, 27] [0, 1, 2, 3] 3 #[true, true, true, true, true, true, true, true, true, true, true, true, true, true, true, true, true, true, true, true, true, true, true, true, true, true, true, true, false, false, false] _ (by kernel_rfl) rfl (by simp only [List.filterMap_cons, List.filterMap_nil, List.getElem?_toArray, List.getElem?_cons_zero, List.getElem?_cons_succ]; rfl) (fun _ _ d _ _ h => by cases d <;> exact h) ⟨⟨_, Below.refl _ w3⟩, rfl⟩ ?_
      generalize hqq : (fun a' => wpAnyC _ _ _ _ _ _ _ _ a' _) = qq
      have HQQ := Lib.hid hqq
      clear hqq
      show wpQuiet _ _ _ _ [_, _, _, _, _, _, _, _, _, _, _, _, _, _, _, _, _, _, _, _, _, _, _, _] _
      repeat (go_big_quiet_step (fail))
      refine wpQuiet_nil ?_
      rw [← HQQ.out]
      clear HQQ qq
      refine wpAnyC_one (i := 28) (by kernel_rfl) rfl (fun K hK => ?_)
      go_simp
      refine hK _ _ (fun hf => by cases hf) ?_
      clear hK K
      refine wpAnyC_one (i := 29) (by kernel_rfl) rfl (fun K hK => ?_)
      go_simp
      refine hK _ _ (fun hf => by cases hf) ?_
      clear hK K
      refine wpAnyC_one (i := 30) (by kernel_rfl) rfl (fun K hK => ?_)
      go_simp
      refine hK _ _ (fun hf => by cases hf) ?_
      clear hK K
      refine ⟨by kernel_rfl, ?_⟩
      go_wp2_with fail
      refine bodyPost_ret (v := .tuple #[]) (by simp [results, Tryd.results60, go_sem]) rfl ⟨rfl, ?_, kept_fined F3.out⟩
      rw [← HR.out]; dsimp only; rw [ST.out]; exact H3.out
    | none =>
      dsimp only at HR
      clear RC
      obtain ⟨kv, hkv⟩ : ∃ kv, kindM t.ins y.a i = kv := ⟨_, rfl⟩
      rw [show (foldE t.ins).K y.a i = kv from hkv] at HR
      have KC : Hid (∀ E : Up w2, Calls Tryd.prog 18 #[.agg ⟨ca⟩, .int .i64 y.a, .int .i64 i] E.to (Gives (.int .i64 kv) E.to)) := fun E => by
        have := kind_c ca t (y.a.toNat + 1) y.a i E.to (by omega) (H2.out.below E.below).trace (by omega) (by omega)
        rwa [hkv] at this
      clear hkv
      have RX : Hid (∀ E : Up w2, E.to.rangeAt W.heap.size 0 [.int .i64 x.op, .int .i64 x.a, .int .i64 x.b, .int .i64 x.c, .int .i64 x.n, .int .i64 x.exit, .int .i64 x.k.kind, .int .i64 x.k.n]) := fun E a u hu => E.cell ((HeadAt.of_row X2.out).range a u hu)
      have RR : Hid (∀ E : Up w2, E.to.rangeAt fb 0 ca) := fun E => (H2.out.below E.below).head.range
      have x4 : ∀ E : Up w2, E.to.cell? ⟨W.heap.size, 4, none⟩ = some (.int .i64 x.n) := fun E => E.cell (cell_of_row w2 _ 4 _ _ _ X2.out)
      have y0 : ∀ E : Up w2, E.to.cell? ⟨oy, 0, none⟩ = some (.int .i64 y.op) := fun E => E.cell (cell_of_row w2 _ 0 _ _ _ Y2.out)
      have y1 : ∀ E : Up w2, E.to.cell? ⟨oy, 1, none⟩ = some (.int .i64 y.a) := fun E => E.cell (cell_of_row w2 _ 1 _ _ _ Y2.out)
      have y4 : ∀ E : Up w2, E.to.cell? ⟨oy, 4, none⟩ = some (.int .i64 y.n) := fun E => E.cell (cell_of_row w2 _ 4 _ _ _ Y2.out)
      by_cases c1 : x.n = 11
      case neg =>
        have n1 : (x.n == 11) = false := beq_eq_false_iff_ne.2 c1
        rw [if_neg (fun h => c1 h.1)] at HR
        clear c1
        refine wp_region_up (by kernel_rfl) (by kernel_rfl) ?_
        iterate 2 (go_big_quiet_step (fail))
        refine wpQuiet_load_up 43 _ rfl rfl W.heap.size 0 rfl [.int .i64 x.op, .int .i64 x.a, .int .i64 x.b, .int .i64 x.c, .int .i64 x.n, .int .i64 x.exit, .int .i64 x.k.kind, .int .i64 x.k.n] _ RX.out Tryd.underlying43 rfl infoIns8 ?_
        go_simp
        repeat (first | go_big_quiet_step ((go_at_call 94; exact Calls.up (RU.out _))) | go_big_quiet_step ((go_at_call 18; exact Calls.up (KC.out _))))
        refine wpQuiet_nil ?_
        first | (rintro _ ⟨E, rfl⟩) | (intro E) | (rename_i E)
        obtain ⟨w3, k3⟩ := E
        dsimp only
        have H3 := Lib.hid (H2.out.below k3)
        have K3 : Hid (Below W.heap.size W w3) := K2.out.trans (k3.mono K2.out.size)
        have Y3 : Hid (w3.heap[oy]? = some (.cells #[.int .i64 y.op, .int .i64 y.a, .int .i64 y.b, .int .i64 y.c, .int .i64 y.n, .int .i64 y.exit, .int .i64 y.k.kind, .int .i64 y.k.n] 43 (0, 0))) := (k3.block _ (Array.getElem?_eq_some_iff.1 Y2.out).1).trans Y2.out
        clear k3 x4 y0 y1 y4 RX RR KC RU H2
        go_wp2_with fail
        refine bodyPost_ret (v := .tuple #[]) (by simp [results, Tryd.results60, go_sem]) rfl ⟨rfl, ?_, kept_below K3.out⟩
        rw [← HR.out]; dsimp only; rw [ST.out, SX.out]; exact H3.out
      have n1 : (x.n == 11) = true := beq_iff_eq.2 c1
      by_cases c2 : y.op = 8
      case neg =>
        have n2 : (y.op == 8) = false := beq_eq_false_iff_ne.2 c2
        rw [if_neg (fun h => c2 h.2.1)] at HR
        clear c2 c1
        refine wp_region_up (by kernel_rfl) (by kernel_rfl) ?_
        iterate 2 (go_big_quiet_step (fail))
        refine wpQuiet_load_up 43 _ rfl rfl W.heap.size 0 rfl [.int .i64 x.op, .int .i64 x.a, .int .i64 x.b, .int .i64 x.c, .int .i64 x.n, .int .i64 x.exit, .int .i64 x.k.kind, .int .i64 x.k.n] _ RX.out Tryd.underlying43 rfl infoIns8 ?_
        go_simp
        repeat (first | go_big_quiet_step ((go_at_call 94; exact Calls.up (RU.out _))) | go_big_quiet_step ((go_at_call 18; exact Calls.up (KC.out _))))
        refine wpQuiet_nil ?_
        first | (rintro _ ⟨E, rfl⟩) | (intro E) | (rename_i E)
        obtain ⟨w3, k3⟩ := E
        dsimp only
        have H3 := Lib.hid (H2.out.below k3)
        have K3 : Hid (Below W.heap.size W w3) := K2.out.trans (k3.mono K2.out.size)
        have Y3 : Hid (w3.heap[oy]? = some (.cells #[.int .i64 y.op, .int .i64 y.a, .int .i64 y.b, .int .i64 y.c, .int .i64 y.n, .int .i64 y.exit, .int .i64 y.k.kind, .int .i64 y.k.n] 43 (0, 0))) := (k3.block _ (Array.getElem?_eq_some_iff.1 Y2.out).1).trans Y2.out
        clear k3 x4 y0 y1 y4 RX RR KC RU H2
        go_wp2_with fail
        refine bodyPost_ret (v := .tuple #[]) (by simp [results, Tryd.results60, go_sem]) rfl ⟨rfl, ?_, kept_below K3.out⟩
        rw [← HR.out]; dsimp only; rw [ST.out, SX.out]; exact H3.out
      have n2 : (y.op == 8) = true := beq_iff_eq.2 c2
      by_cases c3 : y.n = 11
      case neg =>
        have n3 : (y.n == 11) = false := beq_eq_false_iff_ne.2 c3
        rw [if_neg (fun h => c3 h.2.2.1)] at HR
        clear c3 c2 c1
        refine wp_region_up (by kernel_rfl) (by kernel_rfl) ?_
        iterate 2 (go_big_quiet_step (fail))
        refine wpQuiet_load_up 43 _ rfl rfl W.heap.size 0 rfl [.int .i64 x.op, .int .i64 x.a, .int .i64 x.b, .int .i64 x.c, .int .i64 x.n, .int .i64 x.exit, .int .i64 x.k.kind, .int .i64 x.k.n] _ RX.out Tryd.underlying43 rfl infoIns8 ?_
        go_simp
        repeat (first | go_big_quiet_step ((go_at_call 94; exact Calls.up (RU.out _))) | go_big_quiet_step ((go_at_call 18; exact Calls.up (KC.out _))))
        refine wpQuiet_nil ?_
        first | (rintro _ ⟨E, rfl⟩) | (intro E) | (rename_i E)
        obtain ⟨w3, k3⟩ := E
        dsimp only
        have H3 := Lib.hid (H2.out.below k3)
        have K3 : Hid (Below W.heap.size W w3) := K2.out.trans (k3.mono K2.out.size)
        have Y3 : Hid (w3.heap[oy]? = some (.cells #[.int .i64 y.op, .int .i64 y.a, .int .i64 y.b, .int .i64 y.c, .int .i64 y.n, .int .i64 y.exit, .int .i64 y.k.kind, .int .i64 y.k.n] 43 (0, 0))) := (k3.block _ (Array.getElem?_eq_some_iff.1 Y2.out).1).trans Y2.out
        clear k3 x4 y0 y1 y4 RX RR KC RU H2
        go_wp2_with fail
        refine bodyPost_ret (v := .tuple #[]) (by simp [results, Tryd.results60, go_sem]) rfl ⟨rfl, ?_, kept_below K3.out⟩
        rw [← HR.out]; dsimp only; rw [ST.out, SX.out]; exact H3.out
      have n3 : (y.n == 11) = true := beq_iff_eq.2 c3
      by_cases c4 : kv = 1
      case neg =>
        have n4 : (kv == 1) = false := beq_eq_false_iff_ne.2 c4
        rw [if_neg (fun h => c4 h.2.2.2)] at HR
        clear c4 c3 c2 c1
        refine wp_region_up (by kernel_rfl) (by kernel_rfl) ?_
        iterate 2 (go_big_quiet_step (fail))
        refine wpQuiet_load_up 43 _ rfl rfl W.heap.size 0 rfl [.int .i64 x.op, .int .i64 x.a, .int .i64 x.b, .int .i64 x.c, .int .i64 x.n, .int .i64 x.exit, .int .i64 x.k.kind, .int .i64 x.k.n] _ RX.out Tryd.underlying43 rfl infoIns8 ?_
        go_simp
        iterate 21 (first | go_big_quiet_step ((go_at_call 94; exact Calls.up (RU.out _))) | go_big_quiet_step ((go_at_call 18; exact Calls.up (KC.out _))))
        refine wpQuiet_load_up 34 _ rfl rfl fb 0 rfl ca _ RR.out Tryd.underlying34 rfl HIt.out ?_
        go_simp
        repeat (first | go_big_quiet_step ((go_at_call 94; exact Calls.up (RU.out _))) | go_big_quiet_step ((go_at_call 18; exact Calls.up (KC.out _))))
        refine wpQuiet_nil ?_
        first | (rintro _ ⟨E, rfl⟩) | (intro E) | (rename_i E)
        obtain ⟨w3, k3⟩ := E
        dsimp only
        have H3 := Lib.hid (H2.out.below k3)
        have K3 : Hid (Below W.heap.size W w3) := K2.out.trans (k3.mono K2.out.size)
        have Y3 : Hid (w3.heap[oy]? = some (.cells #[.int .i64 y.op, .int .i64 y.a, .int .i64 y.b, .int .i64 y.c, .int .i64 y.n, .int .i64 y.exit, .int .i64 y.k.kind, .int .i64 y.k.n] 43 (0, 0))) := (k3.block _ (Array.getElem?_eq_some_iff.1 Y2.out).1).trans Y2.out
        clear k3 x4 y0 y1 y4 RX RR KC RU H2
        go_wp2_with fail
        refine bodyPost_ret (v := .tuple #[]) (by simp [results, Tryd.results60, go_sem]) rfl ⟨rfl, ?_, kept_below K3.out⟩
        rw [← HR.out]; dsimp only; rw [ST.out, SX.out]; exact H3.out
      have n4 : (kv == 1) = true := beq_iff_eq.2 c4
      rw [if_pos ⟨c1, c2, c3, c4⟩] at HR
      clear c1 c2 c3 c4
      refine wp_region_up (by kernel_rfl) (by kernel_rfl) ?_
      iterate 2 (go_big_quiet_step (fail))
      refine wpQuiet_load_up 43 _ rfl rfl W.heap.size 0 rfl [.int .i64 x.op, .int .i64 x.a, .int .i64 x.b, .int .i64 x.c, .int .i64 x.n, .int .i64 x.exit, .int .i64 x.k.kind, .int .i64 x.k.n] _ RX.out Tryd.underlying43 rfl infoIns8 ?_
      go_simp
      iterate 21 (first | go_big_quiet_step ((go_at_call 94; exact Calls.up (RU.out _))) | go_big_quiet_step ((go_at_call 18; exact Calls.up (KC.out _))))
      refine wpQuiet_load_up 34 _ rfl rfl fb 0 rfl ca _ RR.out Tryd.underlying34 rfl HIt.out ?_
      go_simp
      repeat (first | go_big_quiet_step ((go_at_call 94; exact Calls.up (RU.out _))) | go_big_quiet_step ((go_at_call 18; exact Calls.up (KC.out _))))
      refine wpQuiet_nil ?_
      first | (rintro _ ⟨E, rfl⟩) | (intro E) | (rename_i E)
      obtain ⟨w3, k3⟩ := E
      dsimp only
      have H3 := Lib.hid (H2.out.below k3)
      have K3 : Hid (Below W.heap.size W w3) := K2.out.trans (k3.mono K2.out.size)
      have Y3 : Hid (w3.heap[oy]? = some (.cells #[.int .i64 y.op, .int .i64 y.a, .int .i64 y.b, .int .i64 y.c, .int .i64 y.n, .int .i64 y.exit, .int .i64 y.k.kind, .int .i64 y.k.n] 43 (0, 0))) := (k3.block _ (Array.getElem?_eq_some_iff.1 Y2.out).1).trans Y2.out
      clear k3 x4 y0 y1 y4 RX RR KC RU H2
      have hm := H3.out.m
      have hmi : (i : Int) < m := by omega
      have HM := Lib.hid hm
      clear hm
      go_upto_region 7 with fail
      have c26 : ∀ E : Up w3, E.to.cell? ⟨fb, 26, none⟩ = some (.slice (some ⟨T, 0, none⟩) m cT) := fun E => E.cell H3.out.cellT
      have y1 : ∀ E : Up w3, E.to.cell? ⟨oy, 1, none⟩ = some (.int .i64 y.a) := fun E => E.cell (cell_of_row w3 _ 1 _ _ _ Y3.out)
      refine wp_region_up_tail 7 (by kernel_rfl) (by kernel_rfl) ?_
      simp only [List.take_succ_cons, List.take_zero, List.drop_succ_cons, List.drop_zero]
      repeat (go_big_quiet_step (fail))
      refine wpQuiet_nil ?_
      first | (rintro _ ⟨E, rfl⟩) | (intro E) | (rename_i E)
      obtain ⟨w4, k4⟩ := E
      dsimp only
      have H4 := Lib.hid (H3.out.below k4)
      have K4 : Hid (Below W.heap.size W w4) := K3.out.trans (k4.mono K3.out.size)
      clear k4 c26 y1 H3 Y3
      obtain ⟨cTi, fTi⟩ := H4.out.toAt (i := i) (v := tl[i]) (List.getElem?_eq_getElem hit)
      go_wp2_with fail
      have S : Hid (FoldR (w4.setCell ⟨T, i, none⟩ (.int .i64 y.a)) B fb ca t (.slice (some ⟨G, 0, none⟩) n cG) (.slice (some ⟨T, 0, none⟩) m cT) cur (tl.set i y.a)) := H4.out.setTo hit WY.out.2.1
      refine bodyPost_ret (v := .tuple #[]) (by simp [results, Tryd.results60, go_sem]) rfl ⟨rfl, ?_, kept_fined' (((Fined.of_below K4.out)).set_ _ _)⟩
      rw [← HR.out]; dsimp only; rw [SX.out]; exact S.out
  rw [if_neg c8] at HR
  have n8 : (x.op == 8) = false := beq_eq_false_iff_ne.2 c8
  by_cases cg : x.op = 4 ∨ x.op = 5 ∨ x.op = 6
  case neg =>
    rw [if_neg cg] at HR
    have n4 : (x.op == 4) = false := beq_eq_false_iff_ne.2 (by omega)
    have n5 : (x.op == 5) = false := beq_eq_false_iff_ne.2 (by omega)
    have n6 : (x.op == 6) = false := beq_eq_false_iff_ne.2 (by omega)
    clear c7 c8 cg
    go_wp2_with fail
    refine bodyPost_ret (v := .tuple #[]) (by simp [results, Tryd.results60, go_sem]) rfl ⟨rfl, ?_, kept_below K1.out⟩
    rw [← HR.out]; dsimp only; rw [ST.out, SX.out]; exact H1.out
  rw [if_pos cg] at HR
  have ha := HA.out (by rcases cg with c | c | c <;> rw [c] <;> decide)
  obtain ⟨va, hva⟩ := Int.eq_ofNat_of_zero_le ha.1
  obtain ⟨y, hy⟩ : ∃ y, cur[va]? = some y := ⟨_, List.getElem?_eq_getElem (by omega)⟩
  have IY : Hid (insF cur x.a = y) := by unfold insF Hid; rw [hva, show (va : Int).toNat = va from rfl, hy]; rfl
  rw [IY.out] at HR
  obtain ⟨cA, hcA⟩ : ∃ b, constM cur x.a = b := ⟨_, rfl⟩
  have CC := const_c H1.out hy
  rw [← hva, hcA] at CC
  rw [hcA] at HR
  have HCC := Lib.hid CC
  have HC := Lib.hid (holds_c t.ins x y.k cg)
  have CG := Lib.hid cg
  have x1 : w1.cell? ⟨W.heap.size, 1, none⟩ = some (.int .i64 x.a) := cell_of_row w1 _ 1 _ _ _ X1.out
  clear c7 c8 ha hva hy hcA CC
  have CT : Hid ((x.op = 4 ∧ (x.op == 4) = true) ∨ ((x.op == 4) = false ∧ (x.op == 5) = true) ∨ ((x.op == 4) = false ∧ (x.op == 5) = false ∧ (x.op == 6) = true)) := by
    rcases cg with c | c | c
    · exact .inl ⟨c, beq_iff_eq.2 c⟩
    · exact .inr (.inl ⟨beq_eq_false_iff_ne.2 (by omega), beq_iff_eq.2 c⟩)
    · exact .inr (.inr ⟨beq_eq_false_iff_ne.2 (by omega), beq_eq_false_iff_ne.2 (by omega), beq_iff_eq.2 c⟩)
  clear cg
  obtain ⟨hv, hhv⟩ : ∃ b, holdsM (foldE t.ins) x y.k = b := ⟨_, rfl⟩
  rw [hhv] at HR HC
  clear hhv
  cases cA
  · rcases CT.out with ⟨-, n4⟩ | ⟨n4, n5⟩ | ⟨n4, n5, n6⟩
    · skip
      go_upto_region 11 with fail
      clear x0
      go_wp2_with fail
      refine HCC.out.mono ?_
      rintro e w2 ⟨rfl, k2⟩
      have H2 := Lib.hid (H1.out.below k2)
      have K2 : Hid (Below W.heap.size W w2) := K1.out.trans (k2.mono K1.out.size)
      have X2 : Hid (w2.heap[W.heap.size]? = some (.cells #[.int .i64 x.op, .int .i64 x.a, .int .i64 x.b, .int .i64 x.c, .int .i64 x.n, .int .i64 x.exit, .int .i64 x.k.kind, .int .i64 x.k.n] 43 (0, 0))) := (k2.block _ (Array.getElem?_eq_some_iff.1 X1.out).1).trans X1.out
      clear k2 x1 H1 X1 HCC
      obtain ⟨w3, hw3⟩ : ∃ w3, w3 = w2.alloc (.cells #[.int .i64 y.k.kind, .int .i64 y.k.n] 41) := ⟨_, rfl⟩
      have L3 : Hid (Below w2.heap.size w2 w3) := by rw [hw3]; exact below_one _ _
      have K3 : Hid (Below W.heap.size W w3) := K2.out.trans (L3.out.mono K2.out.size)
      have C3 : Hid (w3.heap[w2.heap.size]? = some (.cells #[.int .i64 y.k.kind, .int .i64 y.k.n] 41 (0, 0))) := by rw [hw3]; exact heap_last _ _
      have H3 := Lib.hid (H2.out.below L3.out)
      have X3 : Hid (w3.heap[W.heap.size]? = some (.cells #[.int .i64 x.op, .int .i64 x.a, .int .i64 x.b, .int .i64 x.c, .int .i64 x.n, .int .i64 x.exit, .int .i64 x.k.kind, .int .i64 x.k.n] 43 (0, 0))) := (L3.out.block _ (Array.getElem?_eq_some_iff.1 X2.out).1).trans X2.out
      have HW3 := Lib.hid hw3
      clear hw3
      go_upto_region 12 with fail
      rw [← HW3.out]
      obtain ⟨oc, hoc⟩ : ∃ b, b = w2.heap.size := ⟨_, rfl⟩
      rw [← hoc] at C3
      rw [← hoc]
      clear H2 L3 X2 HW3 hoc
      go_wp2_with fail
      refine bodyPost_ret (v := .tuple #[]) (by simp [results, Tryd.results60, go_sem]) rfl ⟨rfl, ?_, kept_below K3.out⟩
      rw [← HR.out, if_neg (by simp)]; dsimp only; rw [ST.out, SX.out]; exact H3.out
    · skip
      go_upto_region 11 with fail
      clear x0
      go_wp2_with fail
      refine HCC.out.mono ?_
      rintro e w2 ⟨rfl, k2⟩
      have H2 := Lib.hid (H1.out.below k2)
      have K2 : Hid (Below W.heap.size W w2) := K1.out.trans (k2.mono K1.out.size)
      have X2 : Hid (w2.heap[W.heap.size]? = some (.cells #[.int .i64 x.op, .int .i64 x.a, .int .i64 x.b, .int .i64 x.c, .int .i64 x.n, .int .i64 x.exit, .int .i64 x.k.kind, .int .i64 x.k.n] 43 (0, 0))) := (k2.block _ (Array.getElem?_eq_some_iff.1 X1.out).1).trans X1.out
      clear k2 x1 H1 X1 HCC
      obtain ⟨w3, hw3⟩ : ∃ w3, w3 = w2.alloc (.cells #[.int .i64 y.k.kind, .int .i64 y.k.n] 41) := ⟨_, rfl⟩
      have L3 : Hid (Below w2.heap.size w2 w3) := by rw [hw3]; exact below_one _ _
      have K3 : Hid (Below W.heap.size W w3) := K2.out.trans (L3.out.mono K2.out.size)
      have C3 : Hid (w3.heap[w2.heap.size]? = some (.cells #[.int .i64 y.k.kind, .int .i64 y.k.n] 41 (0, 0))) := by rw [hw3]; exact heap_last _ _
      have H3 := Lib.hid (H2.out.below L3.out)
      have X3 : Hid (w3.heap[W.heap.size]? = some (.cells #[.int .i64 x.op, .int .i64 x.a, .int .i64 x.b, .int .i64 x.c, .int .i64 x.n, .int .i64 x.exit, .int .i64 x.k.kind, .int .i64 x.k.n] 43 (0, 0))) := (L3.out.block _ (Array.getElem?_eq_some_iff.1 X2.out).1).trans X2.out
      have HW3 := Lib.hid hw3
      clear hw3
      go_upto_region 12 with fail
      rw [← HW3.out]
      obtain ⟨oc, hoc⟩ : ∃ b, b = w2.heap.size := ⟨_, rfl⟩
      rw [← hoc] at C3
      rw [← hoc]
      clear H2 L3 X2 HW3 hoc
      go_wp2_with fail
      refine bodyPost_ret (v := .tuple #[]) (by simp [results, Tryd.results60, go_sem]) rfl ⟨rfl, ?_, kept_below K3.out⟩
      rw [← HR.out, if_neg (by simp)]; dsimp only; rw [ST.out, SX.out]; exact H3.out
    · skip
      go_upto_region 11 with fail
      clear x0
      go_wp2_with fail
      refine HCC.out.mono ?_
      rintro e w2 ⟨rfl, k2⟩
      have H2 := Lib.hid (H1.out.below k2)
      have K2 : Hid (Below W.heap.size W w2) := K1.out.trans (k2.mono K1.out.size)
      have X2 : Hid (w2.heap[W.heap.size]? = some (.cells #[.int .i64 x.op, .int .i64 x.a, .int .i64 x.b, .int .i64 x.c, .int .i64 x.n, .int .i64 x.exit, .int .i64 x.k.kind, .int .i64 x.k.n] 43 (0, 0))) := (k2.block _ (Array.getElem?_eq_some_iff.1 X1.out).1).trans X1.out
      clear k2 x1 H1 X1 HCC
      obtain ⟨w3, hw3⟩ : ∃ w3, w3 = w2.alloc (.cells #[.int .i64 y.k.kind, .int .i64 y.k.n] 41) := ⟨_, rfl⟩
      have L3 : Hid (Below w2.heap.size w2 w3) := by rw [hw3]; exact below_one _ _
      have K3 : Hid (Below W.heap.size W w3) := K2.out.trans (L3.out.mono K2.out.size)
      have C3 : Hid (w3.heap[w2.heap.size]? = some (.cells #[.int .i64 y.k.kind, .int .i64 y.k.n] 41 (0, 0))) := by rw [hw3]; exact heap_last _ _
      have H3 := Lib.hid (H2.out.below L3.out)
      have X3 : Hid (w3.heap[W.heap.size]? = some (.cells #[.int .i64 x.op, .int .i64 x.a, .int .i64 x.b, .int .i64 x.c, .int .i64 x.n, .int .i64 x.exit, .int .i64 x.k.kind, .int .i64 x.k.n] 43 (0, 0))) := (L3.out.block _ (Array.getElem?_eq_some_iff.1 X2.out).1).trans X2.out
      have HW3 := Lib.hid hw3
      clear hw3
      go_upto_region 12 with fail
      rw [← HW3.out]
      obtain ⟨oc, hoc⟩ : ∃ b, b = w2.heap.size := ⟨_, rfl⟩
      rw [← hoc] at C3
      rw [← hoc]
      clear H2 L3 X2 HW3 hoc
      go_wp2_with fail
      refine bodyPost_ret (v := .tuple #[]) (by simp [results, Tryd.results60, go_sem]) rfl ⟨rfl, ?_, kept_below K3.out⟩
      rw [← HR.out, if_neg (by simp)]; dsimp only; rw [ST.out, SX.out]; exact H3.out
  cases hv
  · rcases CT.out with ⟨-, n4⟩ | ⟨n4, n5⟩ | ⟨n4, n5, n6⟩
    · skip
      go_upto_region 11 with fail
      clear x0
      go_wp2_with fail
      refine HCC.out.mono ?_
      rintro e w2 ⟨rfl, k2⟩
      have H2 := Lib.hid (H1.out.below k2)
      have K2 : Hid (Below W.heap.size W w2) := K1.out.trans (k2.mono K1.out.size)
      have X2 : Hid (w2.heap[W.heap.size]? = some (.cells #[.int .i64 x.op, .int .i64 x.a, .int .i64 x.b, .int .i64 x.c, .int .i64 x.n, .int .i64 x.exit, .int .i64 x.k.kind, .int .i64 x.k.n] 43 (0, 0))) := (k2.block _ (Array.getElem?_eq_some_iff.1 X1.out).1).trans X1.out
      clear k2 x1 H1 X1 HCC
      obtain ⟨w3, hw3⟩ : ∃ w3, w3 = w2.alloc (.cells #[.int .i64 y.k.kind, .int .i64 y.k.n] 41) := ⟨_, rfl⟩
      have L3 : Hid (Below w2.heap.size w2 w3) := by rw [hw3]; exact below_one _ _
      have K3 : Hid (Below W.heap.size W w3) := K2.out.trans (L3.out.mono K2.out.size)
      have C3 : Hid (w3.heap[w2.heap.size]? = some (.cells #[.int .i64 y.k.kind, .int .i64 y.k.n] 41 (0, 0))) := by rw [hw3]; exact heap_last _ _
      have H3 := Lib.hid (H2.out.below L3.out)
      have X3 : Hid (w3.heap[W.heap.size]? = some (.cells #[.int .i64 x.op, .int .i64 x.a, .int .i64 x.b, .int .i64 x.c, .int .i64 x.n, .int .i64 x.exit, .int .i64 x.k.kind, .int .i64 x.k.n] 43 (0, 0))) := (L3.out.block _ (Array.getElem?_eq_some_iff.1 X2.out).1).trans X2.out
      have HW3 := Lib.hid hw3
      clear hw3
      go_upto_region 12 with fail
      rw [← HW3.out]
      obtain ⟨oc, hoc⟩ : ∃ b, b = w2.heap.size := ⟨_, rfl⟩
      rw [← hoc] at C3
      rw [← hoc]
      clear H2 L3 X2 HW3 hoc
      have RA : Hid (w3.rangeAt oc 0 [.int .i64 y.k.kind, .int .i64 y.k.n]) := (HeadAt.of_row C3.out).range
      have RB : Hid (w3.rangeAt W.heap.size 0 [.int .i64 x.op, .int .i64 x.a, .int .i64 x.b, .int .i64 x.c, .int .i64 x.n, .int .i64 x.exit, .int .i64 x.k.kind, .int .i64 x.k.n]) := (HeadAt.of_row X3.out).range
      go_wp2_with (first | (refine wpList_load_on 41 _ rfl rfl oc 0 rfl [.int .i64 y.k.kind, .int .i64 y.k.n] _ RA.out Tryd.underlying41 rfl infoValC ?_) | (refine wpList_load_on 43 _ rfl rfl W.heap.size 0 rfl [.int .i64 x.op, .int .i64 x.a, .int .i64 x.b, .int .i64 x.c, .int .i64 x.n, .int .i64 x.exit, .int .i64 x.k.kind, .int .i64 x.k.n] _ RB.out Tryd.underlying43 rfl infoIns8 ?_) | fail)
      refine (HC.out w3).mono ?_
      rintro e w4 ⟨rfl, k4⟩
      have H4 := Lib.hid (H3.out.below k4)
      have K4 : Hid (Below W.heap.size W w4) := K3.out.trans (k4.mono K3.out.size)
      clear k4 RA RB H3
      go_wp2_with fail
      refine bodyPost_ret (v := .tuple #[]) (by simp [results, Tryd.results60, go_sem]) rfl ⟨rfl, ?_, kept_below K4.out⟩
      rw [← HR.out, if_neg (by simp)]; dsimp only; rw [ST.out, SX.out]; exact H4.out
    · skip
      go_upto_region 11 with fail
      clear x0
      go_wp2_with fail
      refine HCC.out.mono ?_
      rintro e w2 ⟨rfl, k2⟩
      have H2 := Lib.hid (H1.out.below k2)
      have K2 : Hid (Below W.heap.size W w2) := K1.out.trans (k2.mono K1.out.size)
      have X2 : Hid (w2.heap[W.heap.size]? = some (.cells #[.int .i64 x.op, .int .i64 x.a, .int .i64 x.b, .int .i64 x.c, .int .i64 x.n, .int .i64 x.exit, .int .i64 x.k.kind, .int .i64 x.k.n] 43 (0, 0))) := (k2.block _ (Array.getElem?_eq_some_iff.1 X1.out).1).trans X1.out
      clear k2 x1 H1 X1 HCC
      obtain ⟨w3, hw3⟩ : ∃ w3, w3 = w2.alloc (.cells #[.int .i64 y.k.kind, .int .i64 y.k.n] 41) := ⟨_, rfl⟩
      have L3 : Hid (Below w2.heap.size w2 w3) := by rw [hw3]; exact below_one _ _
      have K3 : Hid (Below W.heap.size W w3) := K2.out.trans (L3.out.mono K2.out.size)
      have C3 : Hid (w3.heap[w2.heap.size]? = some (.cells #[.int .i64 y.k.kind, .int .i64 y.k.n] 41 (0, 0))) := by rw [hw3]; exact heap_last _ _
      have H3 := Lib.hid (H2.out.below L3.out)
      have X3 : Hid (w3.heap[W.heap.size]? = some (.cells #[.int .i64 x.op, .int .i64 x.a, .int .i64 x.b, .int .i64 x.c, .int .i64 x.n, .int .i64 x.exit, .int .i64 x.k.kind, .int .i64 x.k.n] 43 (0, 0))) := (L3.out.block _ (Array.getElem?_eq_some_iff.1 X2.out).1).trans X2.out
      have HW3 := Lib.hid hw3
      clear hw3
      go_upto_region 12 with fail
      rw [← HW3.out]
      obtain ⟨oc, hoc⟩ : ∃ b, b = w2.heap.size := ⟨_, rfl⟩
      rw [← hoc] at C3
      rw [← hoc]
      clear H2 L3 X2 HW3 hoc
      have RA : Hid (w3.rangeAt oc 0 [.int .i64 y.k.kind, .int .i64 y.k.n]) := (HeadAt.of_row C3.out).range
      have RB : Hid (w3.rangeAt W.heap.size 0 [.int .i64 x.op, .int .i64 x.a, .int .i64 x.b, .int .i64 x.c, .int .i64 x.n, .int .i64 x.exit, .int .i64 x.k.kind, .int .i64 x.k.n]) := (HeadAt.of_row X3.out).range
      go_wp2_with (first | (refine wpList_load_on 41 _ rfl rfl oc 0 rfl [.int .i64 y.k.kind, .int .i64 y.k.n] _ RA.out Tryd.underlying41 rfl infoValC ?_) | (refine wpList_load_on 43 _ rfl rfl W.heap.size 0 rfl [.int .i64 x.op, .int .i64 x.a, .int .i64 x.b, .int .i64 x.c, .int .i64 x.n, .int .i64 x.exit, .int .i64 x.k.kind, .int .i64 x.k.n] _ RB.out Tryd.underlying43 rfl infoIns8 ?_) | fail)
      refine (HC.out w3).mono ?_
      rintro e w4 ⟨rfl, k4⟩
      have H4 := Lib.hid (H3.out.below k4)
      have K4 : Hid (Below W.heap.size W w4) := K3.out.trans (k4.mono K3.out.size)
      clear k4 RA RB H3
      go_wp2_with fail
      refine bodyPost_ret (v := .tuple #[]) (by simp [results, Tryd.results60, go_sem]) rfl ⟨rfl, ?_, kept_below K4.out⟩
      rw [← HR.out, if_neg (by simp)]; dsimp only; rw [ST.out, SX.out]; exact H4.out
    · skip
      go_upto_region 11 with fail
      clear x0
      go_wp2_with fail
      refine HCC.out.mono ?_
      rintro e w2 ⟨rfl, k2⟩
      have H2 := Lib.hid (H1.out.below k2)
      have K2 : Hid (Below W.heap.size W w2) := K1.out.trans (k2.mono K1.out.size)
      have X2 : Hid (w2.heap[W.heap.size]? = some (.cells #[.int .i64 x.op, .int .i64 x.a, .int .i64 x.b, .int .i64 x.c, .int .i64 x.n, .int .i64 x.exit, .int .i64 x.k.kind, .int .i64 x.k.n] 43 (0, 0))) := (k2.block _ (Array.getElem?_eq_some_iff.1 X1.out).1).trans X1.out
      clear k2 x1 H1 X1 HCC
      obtain ⟨w3, hw3⟩ : ∃ w3, w3 = w2.alloc (.cells #[.int .i64 y.k.kind, .int .i64 y.k.n] 41) := ⟨_, rfl⟩
      have L3 : Hid (Below w2.heap.size w2 w3) := by rw [hw3]; exact below_one _ _
      have K3 : Hid (Below W.heap.size W w3) := K2.out.trans (L3.out.mono K2.out.size)
      have C3 : Hid (w3.heap[w2.heap.size]? = some (.cells #[.int .i64 y.k.kind, .int .i64 y.k.n] 41 (0, 0))) := by rw [hw3]; exact heap_last _ _
      have H3 := Lib.hid (H2.out.below L3.out)
      have X3 : Hid (w3.heap[W.heap.size]? = some (.cells #[.int .i64 x.op, .int .i64 x.a, .int .i64 x.b, .int .i64 x.c, .int .i64 x.n, .int .i64 x.exit, .int .i64 x.k.kind, .int .i64 x.k.n] 43 (0, 0))) := (L3.out.block _ (Array.getElem?_eq_some_iff.1 X2.out).1).trans X2.out
      have HW3 := Lib.hid hw3
      clear hw3
      go_upto_region 12 with fail
      rw [← HW3.out]
      obtain ⟨oc, hoc⟩ : ∃ b, b = w2.heap.size := ⟨_, rfl⟩
      rw [← hoc] at C3
      rw [← hoc]
      clear H2 L3 X2 HW3 hoc
      have RA : Hid (w3.rangeAt oc 0 [.int .i64 y.k.kind, .int .i64 y.k.n]) := (HeadAt.of_row C3.out).range
      have RB : Hid (w3.rangeAt W.heap.size 0 [.int .i64 x.op, .int .i64 x.a, .int .i64 x.b, .int .i64 x.c, .int .i64 x.n, .int .i64 x.exit, .int .i64 x.k.kind, .int .i64 x.k.n]) := (HeadAt.of_row X3.out).range
      go_wp2_with (first | (refine wpList_load_on 41 _ rfl rfl oc 0 rfl [.int .i64 y.k.kind, .int .i64 y.k.n] _ RA.out Tryd.underlying41 rfl infoValC ?_) | (refine wpList_load_on 43 _ rfl rfl W.heap.size 0 rfl [.int .i64 x.op, .int .i64 x.a, .int .i64 x.b, .int .i64 x.c, .int .i64 x.n, .int .i64 x.exit, .int .i64 x.k.kind, .int .i64 x.k.n] _ RB.out Tryd.underlying43 rfl infoIns8 ?_) | fail)
      refine (HC.out w3).mono ?_
      rintro e w4 ⟨rfl, k4⟩
      have H4 := Lib.hid (H3.out.below k4)
      have K4 : Hid (Below W.heap.size W w4) := K3.out.trans (k4.mono K3.out.size)
      clear k4 RA RB H3
      go_wp2_with fail
      refine bodyPost_ret (v := .tuple #[]) (by simp [results, Tryd.results60, go_sem]) rfl ⟨rfl, ?_, kept_below K4.out⟩
      rw [← HR.out, if_neg (by simp)]; dsimp only; rw [ST.out, SX.out]; exact H4.out
  rcases CT.out with ⟨-, n4⟩ | ⟨n4, n5⟩ | ⟨n4, n5, n6⟩
  · skip
    go_upto_region 11 with fail
    clear x0
    go_wp2_with fail
    refine HCC.out.mono ?_
    rintro e w2 ⟨rfl, k2⟩
    have H2 := Lib.hid (H1.out.below k2)
    have K2 : Hid (Below W.heap.size W w2) := K1.out.trans (k2.mono K1.out.size)
    have X2 : Hid (w2.heap[W.heap.size]? = some (.cells #[.int .i64 x.op, .int .i64 x.a, .int .i64 x.b, .int .i64 x.c, .int .i64 x.n, .int .i64 x.exit, .int .i64 x.k.kind, .int .i64 x.k.n] 43 (0, 0))) := (k2.block _ (Array.getElem?_eq_some_iff.1 X1.out).1).trans X1.out
    clear k2 x1 H1 X1 HCC
    obtain ⟨w3, hw3⟩ : ∃ w3, w3 = w2.alloc (.cells #[.int .i64 y.k.kind, .int .i64 y.k.n] 41) := ⟨_, rfl⟩
    have L3 : Hid (Below w2.heap.size w2 w3) := by rw [hw3]; exact below_one _ _
    have K3 : Hid (Below W.heap.size W w3) := K2.out.trans (L3.out.mono K2.out.size)
    have C3 : Hid (w3.heap[w2.heap.size]? = some (.cells #[.int .i64 y.k.kind, .int .i64 y.k.n] 41 (0, 0))) := by rw [hw3]; exact heap_last _ _
    have H3 := Lib.hid (H2.out.below L3.out)
    have X3 : Hid (w3.heap[W.heap.size]? = some (.cells #[.int .i64 x.op, .int .i64 x.a, .int .i64 x.b, .int .i64 x.c, .int .i64 x.n, .int .i64 x.exit, .int .i64 x.k.kind, .int .i64 x.k.n] 43 (0, 0))) := (L3.out.block _ (Array.getElem?_eq_some_iff.1 X2.out).1).trans X2.out
    have HW3 := Lib.hid hw3
    clear hw3
    go_upto_region 12 with fail
    rw [← HW3.out]
    obtain ⟨oc, hoc⟩ : ∃ b, b = w2.heap.size := ⟨_, rfl⟩
    rw [← hoc] at C3
    rw [← hoc]
    clear H2 L3 X2 HW3 hoc
    have RA : Hid (w3.rangeAt oc 0 [.int .i64 y.k.kind, .int .i64 y.k.n]) := (HeadAt.of_row C3.out).range
    have RB : Hid (w3.rangeAt W.heap.size 0 [.int .i64 x.op, .int .i64 x.a, .int .i64 x.b, .int .i64 x.c, .int .i64 x.n, .int .i64 x.exit, .int .i64 x.k.kind, .int .i64 x.k.n]) := (HeadAt.of_row X3.out).range
    go_wp2_with (first | (refine wpList_load_on 41 _ rfl rfl oc 0 rfl [.int .i64 y.k.kind, .int .i64 y.k.n] _ RA.out Tryd.underlying41 rfl infoValC ?_) | (refine wpList_load_on 43 _ rfl rfl W.heap.size 0 rfl [.int .i64 x.op, .int .i64 x.a, .int .i64 x.b, .int .i64 x.c, .int .i64 x.n, .int .i64 x.exit, .int .i64 x.k.kind, .int .i64 x.k.n] _ RB.out Tryd.underlying43 rfl infoIns8 ?_) | fail)
    refine (HC.out w3).mono ?_
    rintro e w4 ⟨rfl, k4⟩
    have H4 := Lib.hid (H3.out.below k4)
    have K4 : Hid (Below W.heap.size W w4) := K3.out.trans (k4.mono K3.out.size)
    clear k4 RA RB H3
    have hm := H4.out.m
    have hmi : (i : Int) < m := by omega
    have HM := Lib.hid hm
    clear hm
    have c26 := H4.out.cellT
    obtain ⟨cTi, fTi⟩ := H4.out.toAt (i := i) (v := tl[i]) (List.getElem?_eq_getElem hit)
    go_wp2_with fail
    have S : Hid (FoldR (w4.setCell ⟨T, i, none⟩ (.int .i64 (-1))) B fb ca t (.slice (some ⟨G, 0, none⟩) n cG) (.slice (some ⟨T, 0, none⟩) m cT) cur (tl.set i (-1))) := H4.out.setTo hit (by unfold wfi; omega)
    refine bodyPost_ret (v := .tuple #[]) (by simp [results, Tryd.results60, go_sem]) rfl ⟨rfl, ?_, kept_fined' (((Fined.of_below K4.out)).set_ _ _)⟩
    rw [← HR.out, if_pos (show (true && true) = true from rfl)]; dsimp only; rw [SX.out]; exact S.out
  · skip
    go_upto_region 11 with fail
    clear x0
    go_wp2_with fail
    refine HCC.out.mono ?_
    rintro e w2 ⟨rfl, k2⟩
    have H2 := Lib.hid (H1.out.below k2)
    have K2 : Hid (Below W.heap.size W w2) := K1.out.trans (k2.mono K1.out.size)
    have X2 : Hid (w2.heap[W.heap.size]? = some (.cells #[.int .i64 x.op, .int .i64 x.a, .int .i64 x.b, .int .i64 x.c, .int .i64 x.n, .int .i64 x.exit, .int .i64 x.k.kind, .int .i64 x.k.n] 43 (0, 0))) := (k2.block _ (Array.getElem?_eq_some_iff.1 X1.out).1).trans X1.out
    clear k2 x1 H1 X1 HCC
    obtain ⟨w3, hw3⟩ : ∃ w3, w3 = w2.alloc (.cells #[.int .i64 y.k.kind, .int .i64 y.k.n] 41) := ⟨_, rfl⟩
    have L3 : Hid (Below w2.heap.size w2 w3) := by rw [hw3]; exact below_one _ _
    have K3 : Hid (Below W.heap.size W w3) := K2.out.trans (L3.out.mono K2.out.size)
    have C3 : Hid (w3.heap[w2.heap.size]? = some (.cells #[.int .i64 y.k.kind, .int .i64 y.k.n] 41 (0, 0))) := by rw [hw3]; exact heap_last _ _
    have H3 := Lib.hid (H2.out.below L3.out)
    have X3 : Hid (w3.heap[W.heap.size]? = some (.cells #[.int .i64 x.op, .int .i64 x.a, .int .i64 x.b, .int .i64 x.c, .int .i64 x.n, .int .i64 x.exit, .int .i64 x.k.kind, .int .i64 x.k.n] 43 (0, 0))) := (L3.out.block _ (Array.getElem?_eq_some_iff.1 X2.out).1).trans X2.out
    have HW3 := Lib.hid hw3
    clear hw3
    go_upto_region 12 with fail
    rw [← HW3.out]
    obtain ⟨oc, hoc⟩ : ∃ b, b = w2.heap.size := ⟨_, rfl⟩
    rw [← hoc] at C3
    rw [← hoc]
    clear H2 L3 X2 HW3 hoc
    have RA : Hid (w3.rangeAt oc 0 [.int .i64 y.k.kind, .int .i64 y.k.n]) := (HeadAt.of_row C3.out).range
    have RB : Hid (w3.rangeAt W.heap.size 0 [.int .i64 x.op, .int .i64 x.a, .int .i64 x.b, .int .i64 x.c, .int .i64 x.n, .int .i64 x.exit, .int .i64 x.k.kind, .int .i64 x.k.n]) := (HeadAt.of_row X3.out).range
    go_wp2_with (first | (refine wpList_load_on 41 _ rfl rfl oc 0 rfl [.int .i64 y.k.kind, .int .i64 y.k.n] _ RA.out Tryd.underlying41 rfl infoValC ?_) | (refine wpList_load_on 43 _ rfl rfl W.heap.size 0 rfl [.int .i64 x.op, .int .i64 x.a, .int .i64 x.b, .int .i64 x.c, .int .i64 x.n, .int .i64 x.exit, .int .i64 x.k.kind, .int .i64 x.k.n] _ RB.out Tryd.underlying43 rfl infoIns8 ?_) | fail)
    refine (HC.out w3).mono ?_
    rintro e w4 ⟨rfl, k4⟩
    have H4 := Lib.hid (H3.out.below k4)
    have K4 : Hid (Below W.heap.size W w4) := K3.out.trans (k4.mono K3.out.size)
    clear k4 RA RB H3
    have hm := H4.out.m
    have hmi : (i : Int) < m := by omega
    have HM := Lib.hid hm
    clear hm
    have c26 := H4.out.cellT
    obtain ⟨cTi, fTi⟩ := H4.out.toAt (i := i) (v := tl[i]) (List.getElem?_eq_getElem hit)
    go_wp2_with fail
    have S : Hid (FoldR (w4.setCell ⟨T, i, none⟩ (.int .i64 (-1))) B fb ca t (.slice (some ⟨G, 0, none⟩) n cG) (.slice (some ⟨T, 0, none⟩) m cT) cur (tl.set i (-1))) := H4.out.setTo hit (by unfold wfi; omega)
    refine bodyPost_ret (v := .tuple #[]) (by simp [results, Tryd.results60, go_sem]) rfl ⟨rfl, ?_, kept_fined' (((Fined.of_below K4.out)).set_ _ _)⟩
    rw [← HR.out, if_pos (show (true && true) = true from rfl)]; dsimp only; rw [SX.out]; exact S.out
  · skip
    go_upto_region 11 with fail
    clear x0
    go_wp2_with fail
    refine HCC.out.mono ?_
    rintro e w2 ⟨rfl, k2⟩
    have H2 := Lib.hid (H1.out.below k2)
    have K2 : Hid (Below W.heap.size W w2) := K1.out.trans (k2.mono K1.out.size)
    have X2 : Hid (w2.heap[W.heap.size]? = some (.cells #[.int .i64 x.op, .int .i64 x.a, .int .i64 x.b, .int .i64 x.c, .int .i64 x.n, .int .i64 x.exit, .int .i64 x.k.kind, .int .i64 x.k.n] 43 (0, 0))) := (k2.block _ (Array.getElem?_eq_some_iff.1 X1.out).1).trans X1.out
    clear k2 x1 H1 X1 HCC
    obtain ⟨w3, hw3⟩ : ∃ w3, w3 = w2.alloc (.cells #[.int .i64 y.k.kind, .int .i64 y.k.n] 41) := ⟨_, rfl⟩
    have L3 : Hid (Below w2.heap.size w2 w3) := by rw [hw3]; exact below_one _ _
    have K3 : Hid (Below W.heap.size W w3) := K2.out.trans (L3.out.mono K2.out.size)
    have C3 : Hid (w3.heap[w2.heap.size]? = some (.cells #[.int .i64 y.k.kind, .int .i64 y.k.n] 41 (0, 0))) := by rw [hw3]; exact heap_last _ _
    have H3 := Lib.hid (H2.out.below L3.out)
    have X3 : Hid (w3.heap[W.heap.size]? = some (.cells #[.int .i64 x.op, .int .i64 x.a, .int .i64 x.b, .int .i64 x.c, .int .i64 x.n, .int .i64 x.exit, .int .i64 x.k.kind, .int .i64 x.k.n] 43 (0, 0))) := (L3.out.block _ (Array.getElem?_eq_some_iff.1 X2.out).1).trans X2.out
    have HW3 := Lib.hid hw3
    clear hw3
    go_upto_region 12 with fail
    rw [← HW3.out]
    obtain ⟨oc, hoc⟩ : ∃ b, b = w2.heap.size := ⟨_, rfl⟩
    rw [← hoc] at C3
    rw [← hoc]
    clear H2 L3 X2 HW3 hoc
    have RA : Hid (w3.rangeAt oc 0 [.int .i64 y.k.kind, .int .i64 y.k.n]) := (HeadAt.of_row C3.out).range
    have RB : Hid (w3.rangeAt W.heap.size 0 [.int .i64 x.op, .int .i64 x.a, .int .i64 x.b, .int .i64 x.c, .int .i64 x.n, .int .i64 x.exit, .int .i64 x.k.kind, .int .i64 x.k.n]) := (HeadAt.of_row X3.out).range
    go_wp2_with (first | (refine wpList_load_on 41 _ rfl rfl oc 0 rfl [.int .i64 y.k.kind, .int .i64 y.k.n] _ RA.out Tryd.underlying41 rfl infoValC ?_) | (refine wpList_load_on 43 _ rfl rfl W.heap.size 0 rfl [.int .i64 x.op, .int .i64 x.a, .int .i64 x.b, .int .i64 x.c, .int .i64 x.n, .int .i64 x.exit, .int .i64 x.k.kind, .int .i64 x.k.n] _ RB.out Tryd.underlying43 rfl infoIns8 ?_) | fail)
    refine (HC.out w3).mono ?_
    rintro e w4 ⟨rfl, k4⟩
    have H4 := Lib.hid (H3.out.below k4)
    have K4 : Hid (Below W.heap.size W w4) := K3.out.trans (k4.mono K3.out.size)
    clear k4 RA RB H3
    have hm := H4.out.m
    have hmi : (i : Int) < m := by omega
    have HM := Lib.hid hm
    clear hm
    have c26 := H4.out.cellT
    obtain ⟨cTi, fTi⟩ := H4.out.toAt (i := i) (v := tl[i]) (List.getElem?_eq_getElem hit)
    go_wp2_with fail
    have S : Hid (FoldR (w4.setCell ⟨T, i, none⟩ (.int .i64 (-1))) B fb ca t (.slice (some ⟨G, 0, none⟩) n cG) (.slice (some ⟨T, 0, none⟩) m cT) cur (tl.set i (-1))) := H4.out.setTo hit (by unfold wfi; omega)
    refine bodyPost_ret (v := .tuple #[]) (by simp [results, Tryd.results60, go_sem]) rfl ⟨rfl, ?_, kept_fined' (((Fined.of_below K4.out)).set_ _ _)⟩
    rw [← HR.out, if_pos (show (true && true) = true from rfl)]; dsimp only; rw [SX.out]; exact S.out
end
end Go.Proofs.YtmccomeihnaanaaDoor
