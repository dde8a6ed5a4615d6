/- FoldNone: the walk. Printed by gen_fold.py. -/
import Derived.Test.YtmccomeihnaanaaDoorFoldL
namespace Go.Proofs.YtmccomeihnaanaaDoor
open Go.RowKit Go.Maps

theorem val_ext {u v : Val} (h1 : u.kind = v.kind) (h2 : u.n = v.n) : u = v := by
  obtain ⟨a, b⟩ := u; obtain ⟨c, d⟩ := v; cases h1; cases h2; rfl
theorem fold_ok {p : CProg} {t z : TTrace} (h : foldM (foldE t.ins) (ceF p t) t = (z, 0)) : ∀ (i : Nat) (y : TIns), z.ins[i]? = some y → (∀ o ∈ asksM y, 0 ≤ o ∧ o < z.ins.length) ∧ Left (foldE t.ins) z.ins y := by
  unfold foldM at h
  split at h
  · rename_i hc
    injection h with _ h
    exact absurd h hc
  · rename_i hc
    have hce := Classical.not_not.1 hc
    intro i y hy
    have e1 : (cutM (foldT (foldE t.ins) t) (foldRun (foldE t.ins) t.ins ⟨[], []⟩).tl).1 = z := by rw [h]
    have e2 : (cutM (foldT (foldE t.ins) t) (foldRun (foldE t.ins) t.ins ⟨[], []⟩).tl).2 = 0 := by rw [h]
    have := fold_none (E := foldE t.ins) (t := t) (check_asks (show checkM rightV (codeCheckM p) (p.fns.map fnOf) t = 0 from hce)) e2 (p := i) (y := y) (by rw [e1]; exact hy)
    rw [e1] at this
    exact this
set_option maxHeartbeats 8000000 in
set_option maxRecDepth 100000 in
theorem foldNone_walk (pcs ca : List Value) (p : CProg) (t : TTrace) (w : World) (hp : ProgR w w.heap.size pcs p) (ht : TraceR w w.heap.size ca t) (tab : Tab w) :
    Calls Tryd.prog 12 #[.agg ⟨pcs⟩, .agg ⟨ca⟩] w (Gives (.bool true) w) := by
  have HIp := Lib.hid hp.size3
  have HIt := Lib.hid ht.size13
  obtain ⟨w0, hw0⟩ : ∃ w0, w0 = (w.alloc (.cells ⟨pcs⟩ 26)).alloc (.cells ⟨ca⟩ 34) := ⟨_, rfl⟩
  have TB := two_box w pcs ca 26 34
  rw [← hw0] at TB
  obtain ⟨t1, t2, t3⟩ := TB
  have K0 := Lib.hid t3
  have HW := Lib.hid hw0
  have R1 := Lib.hid t1.range
  have R2 := Lib.hid t2.range
  have CE := Lib.hid (foldDo_c pcs ca p t w0 (hp.below K0.out) (ht.below K0.out) (tab.below K0.out))
  unfold FoldDone at CE
  obtain ⟨zr, hzr⟩ : ∃ z, foldM (foldE t.ins) (ceF p t) t = z := ⟨_, rfl⟩
  rw [hzr] at CE
  obtain ⟨z, r⟩ := zr
  dsimp only at CE
  have HZR := Lib.hid hzr
  clear hp ht hw0 t1 t2 t3 tab hzr
  go_enter Tryd.func12, Tryd.ntmps12
  go_wp2_with (first | (refine wpList_load_mid rfl 26 _ rfl w.heap.size 0 rfl pcs _ (by rw [← HW.out]; exact R1.out) Tryd.underlying26 rfl HIp.out ?_) | (refine wpList_load_mid rfl 34 _ rfl (w.heap.size + 1) 0 rfl ca _ (by rw [← HW.out]; exact R2.out) Tryd.underlying34 rfl HIt.out ?_) | fail)
  rw [← HW.out]
  refine CE.out.mono ?_
  rintro e w1 ⟨cs, rfl, tr, k1⟩
  obtain ⟨_, _, cz, cy, rfl, zi, ze, zt, zb, -⟩ := id tr
  have ZI := Lib.hid zi
  obtain ⟨B1, m1, rfl, b1, b2, -⟩ := zi
  obtain ⟨B2, m2, rfl, b3, b4, -⟩ := ze
  obtain ⟨_, _, rfl, ⟨B3, m3, rfl, -⟩, ⟨B4, m4, rfl, -⟩, -⟩ := zt
  obtain ⟨_, _, rfl, ⟨B5, m5, rfl, -⟩, ⟨B6, m6, rfl, -⟩, -⟩ := zb
  simp only [List.cons_append, List.nil_append]
  unfold maxLen at b2
  have K1 := Lib.hid (K0.out.trans (k1.mono K0.out.size))
  clear tr k1 CE R1 R2 HW b3 b4
  obtain ⟨w2, hw2⟩ : ∃ w2, w2 = w1.alloc (.cells #[.int .i64 z.fn, .int .i64 z.at_, .int .i64 z.loop, .slice B1 z.ins.length m1, .slice B2 z.exits.length m2, .int .i64 z.turn.at_, .int .i64 z.turn.steps, .slice B3 z.turn.sets.length m3, .slice B4 z.turn.makes.length m4, .int .i64 z.back.at_, .int .i64 z.back.steps, .slice B5 z.back.sets.length m5, .slice B6 z.back.makes.length m6] 34) := ⟨_, rfl⟩
  have L2 : Hid (Below w1.heap.size w1 w2) := by rw [hw2]; exact below_one _ _
  have O2 : Hid (HeadAt w2 w1.heap.size [.int .i64 z.fn, .int .i64 z.at_, .int .i64 z.loop, .slice B1 z.ins.length m1, .slice B2 z.exits.length m2, .int .i64 z.turn.at_, .int .i64 z.turn.steps, .slice B3 z.turn.sets.length m3, .slice B4 z.turn.makes.length m4, .int .i64 z.back.at_, .int .i64 z.back.steps, .slice B5 z.back.sets.length m5, .slice B6 z.back.makes.length m6]) := HeadAt.of_row (by rw [hw2]; exact heap_last _ _)
  have K2 := Lib.hid (K1.out.trans (L2.out.mono K1.out.size))
  have hz2 : w1.heap.size < w2.heap.size := by rw [hw2]; simp
  have HW2 := Lib.hid hw2
  clear hw2
  go_upto_region 2 with fail
  rw [← HW2.out]
  obtain ⟨ob, hob⟩ : ∃ o, o = w1.heap.size := ⟨_, rfl⟩
  by_cases hr : r = 0
  case neg =>
    have hr' : (r != 0) = true := by simpa using hr
    go_wp2_with fail
    refine (irred_c w2).mono ?_
    rintro e w3 ⟨rfl, k3⟩
    have K3 := Lib.hid (K2.out.trans (k3.mono K2.out.size))
    clear k3
    go_wp2_with fail
    go_ret
    exact ⟨rfl, K3.out⟩
  subst hr
  have OK := Lib.hid (fold_ok HZR.out)
  rw [← hob] at O2 hz2
  rw [← hob]
  clear HW2 HZR hob
  have o3 : w2.cell? ⟨ob, 3, none⟩ = some (.slice B1 z.ins.length m1) := O2.out 3 _ rfl
  go_wp2_with fail
  clear o3
  have hb2 : z.ins.length ≤ 9223372036854775807 := by omega
  go_loopw [25] (fun i wr => ∃ j : Nat, i = .int .i64 j ∧ j ≤ z.ins.length ∧ Hid (Below w2.heap.size w2 wr)) (fun i _ => z.ins.length - (RowKit.intOf i).toNat)
  case atStart => exact ⟨0, rfl, by omega, Below.refl _ _⟩
  case round =>
    obtain ⟨j, rfl, hj, KW⟩ := hrel
    obtain ⟨wo, hwo⟩ : ∃ wo, wo = wr := ⟨_, rfl⟩
    subst hwo
    have BW : Hid (Below w1.heap.size w1 wo) := L2.out.trans (KW.out.mono L2.out.size)
    by_cases hlt : j < z.ins.length
    case neg =>
      obtain rfl : j = z.ins.length := by omega
      have hji : ¬ (z.ins.length : Int) < z.ins.length := by omega
      go_wp2_with fail
      refine (irred_c wo).mono ?_
      rintro e w5 ⟨rfl, k5⟩
      have K5 := Lib.hid ((K2.out.trans (KW.out.mono K2.out.size)).trans (k5.mono (K2.out.trans (KW.out.mono K2.out.size)).size))
      clear k5
      go_wp2_with fail
      go_ret
      exact ⟨rfl, K5.out⟩
    obtain ⟨b, off, y, rfl, hb, hy, wy, hat⟩ := ins_op ZI.out hlt
    obtain ⟨hao, hleft⟩ := OK.out j y hy
    have HAO := Lib.hid hao
    have HL := Lib.hid hleft
    have WY := Lib.hid wy
    have ELT : Hid (∀ (v : Nat), v < z.ins.length → ∃ u, z.ins[v]? = some u ∧ WfIns u ∧ CellsAt w1 b (off + v * 8) (insCells u)) := fun v hv => by
      obtain ⟨b', off', u, e, _, hu, wu, hatu⟩ := ins_op ZI.out hv
      injection e with e
      injection e with e1 e2
      subst e1 e2
      exact ⟨u, hu, wu, hatu⟩
    have hji : (j : Int) < z.ins.length := by omega
    have RY : Hid (wo.rangeAt b (off + j * 8) [.int .i64 y.op, .int .i64 y.a, .int .i64 y.b, .int .i64 y.c, .int .i64 y.n, .int .i64 y.exit, .int .i64 y.k.kind, .int .i64 y.k.n]) := fun a u hu => (BW.out.cell hb).trans (hat a u hu)
    have o3 : wo.cell? ⟨ob, 3, none⟩ = some (.slice (some ⟨b, off, none⟩) z.ins.length m1) := cell_on KW.out (O2.out 3 _ rfl)
    obtain ⟨w3, hw3⟩ : ∃ w3, w3 = wo.alloc (.cells #[.int .i64 y.op, .int .i64 y.a, .int .i64 y.b, .int .i64 y.c, .int .i64 y.n, .int .i64 y.exit, .int .i64 y.k.kind, .int .i64 y.k.n] 43) := ⟨_, rfl⟩
    have L3 : Hid (Below wo.heap.size wo w3) := by rw [hw3]; exact below_one _ _
    have Y3 : Hid (w3.heap[wo.heap.size]? = some (.cells #[.int .i64 y.op, .int .i64 y.a, .int .i64 y.b, .int .i64 y.c, .int .i64 y.n, .int .i64 y.exit, .int .i64 y.k.kind, .int .i64 y.k.n] 43 (0, 0))) := by rw [hw3]; exact heap_last _ _
    have HW3 := Lib.hid hw3
    clear hw3 hat hy wy hao hleft
    go_upto_region 8 with (first | (refine wpList_load_mid rfl 43 _ rfl b (off + j * 8) rfl [.int .i64 y.op, .int .i64 y.a, .int .i64 y.b, .int .i64 y.c, .int .i64 y.n, .int .i64 y.exit, .int .i64 y.k.kind, .int .i64 y.k.n] _ RY.out Tryd.underlying43 rfl infoIns8 ?_) | fail)
    rw [← HW3.out]
    obtain ⟨bx, hbx⟩ : ∃ o, o = wo.heap.size := ⟨_, rfl⟩
    rw [← hbx] at Y3
    rw [← hbx]
    have M3 : Hid (Below w2.heap.size w2 w3) := KW.out.trans (L3.out.mono KW.out.size)
    clear o3 RY HW3 L3 hbx BW KW
    have AC := Lib.hid (asks_c y WY.out w3)
    have RX : Hid (w3.rangeAt bx 0 [.int .i64 y.op, .int .i64 y.a, .int .i64 y.b, .int .i64 y.c, .int .i64 y.n, .int .i64 y.exit, .int .i64 y.k.kind, .int .i64 y.k.n]) := (HeadAt.of_row Y3.out).range
    go_wp2_with (first | (refine wpList_load_mid rfl 43 _ rfl bx 0 rfl [.int .i64 y.op, .int .i64 y.a, .int .i64 y.b, .int .i64 y.c, .int .i64 y.n, .int .i64 y.exit, .int .i64 y.k.kind, .int .i64 y.k.n] _ RX.out Tryd.underlying43 rfl infoIns8 ?_) | fail)
    refine AC.out.mono ?_
    rintro e w4 ⟨v, rfl, hv, k4⟩
    have HV := Lib.hid hv
    obtain ⟨A7, c7, rfl, lv, lc7, -⟩ := hv
    unfold maxLen at lc7
    have M4 : Hid (Below w2.heap.size w2 w4) := M3.out.trans (k4.mono M3.out.size)
    have Y4 : Hid (w4.heap[bx]? = some (.cells #[.int .i64 y.op, .int .i64 y.a, .int .i64 y.b, .int .i64 y.c, .int .i64 y.n, .int .i64 y.exit, .int .i64 y.k.kind, .int .i64 y.k.n] 43 (0, 0))) := (k4.block _ (Array.getElem?_eq_some_iff.1 Y3.out).1).trans Y3.out
    have ha3 := asks_len y
    obtain ⟨na, hna⟩ : ∃ n, (asksM y).length = n := ⟨_, rfl⟩
    rw [hna] at HV lv ha3
    rw [hna]
    have HNA := Lib.hid hna
    clear k4 AC RX M3 Y3 hna
    go_upto_region 9 with fail
    have EB : Hid (∀ W, Below w4.heap.size w4 W → Below w1.heap.size w1 W) := fun W k => L2.out.trans ((M4.out.trans (k.mono M4.out.size)).mono L2.out.size)
    by_cases h0 : na = 0
    case pos =>
      subst h0
      refine wp_region_up (by kernel_rfl) (by kernel_rfl) ?_
      repeat (go_big_quiet_step (fail))
      refine wpQuiet_nil ?_
      first | (rintro _ ⟨E, rfl⟩) | (intro E) | (rename_i E)
      have M5 : Hid (Below w2.heap.size w2 E.to) := M4.out.trans (E.below.mono M4.out.size)
      go_wp2_with fail
      go_roundw
      case rel => exact ⟨j + 1, by go_num, by omega, M5⟩
      case measure => simp [RowKit.intOf]; omega
    have hl0 : ((na : Int) == 0) = false := beq_eq_false_iff_ne.2 (by omega)
    have hap : 0 < (formM y.op).asks := by
      have := HNA.out
      unfold asksM at this
      simp at this
      omega
    have hya := HAO.out y.a (asks_one hap)
    obtain ⟨va, hva⟩ := Int.eq_ofNat_of_zero_le hya.1
    have hvl : va < z.ins.length := by omega
    have hvi : (va : Int) < z.ins.length := by omega
    obtain ⟨u, hu, wu, hatu⟩ := ELT.out va hvl
    have IU : Hid (insF z.ins y.a = u) := by unfold insF Hid; rw [hva, show (va : Int).toNat = va from rfl, hu]; rfl
    obtain ⟨lb, loff, v0, vs, hA, hlb, hv0, -, ⟨rfl, -⟩, hatl⟩ := HV.out.at_ (i := 0) (by have := HNA.out; omega)
    have ev : v0 = (va : Int) := by
      have := asks_at hv0
      simp at this
      rw [← this, hva]
    subst ev
    subst hA
    have l0w := Lib.hid (show w4.cell? ⟨lb, loff, none⟩ = some (.int .i64 (va : Int)) from by simpa using hatl 0 _ rfl)
    have UW : Hid (∀ W, Below w4.heap.size w4 W → W.rangeAt b (off + va * 8) [.int .i64 u.op, .int .i64 u.a, .int .i64 u.b, .int .i64 u.c, .int .i64 u.n, .int .i64 u.exit, .int .i64 u.k.kind, .int .i64 u.k.n]) := fun W k a q hq => ((EB.out W k).cell hb).trans (hatu a q hq)
    have OW : Hid (∀ W, Below w4.heap.size w4 W → W.cell? ⟨ob, 3, none⟩ = some (.slice (some ⟨b, off, none⟩) z.ins.length m1)) := fun W k => cell_on (M4.out.trans (k.mono M4.out.size)) (O2.out 3 _ rfl)
    clear hu wu hatu hya hvl hv0 hatl hva
    have o3 : ∀ E : Up w4, E.to.cell? ⟨ob, 3, none⟩ = some (.slice (some ⟨b, off, none⟩) z.ins.length m1) := fun E => OW.out E.to E.below
    have l0 : ∀ E : Up w4, E.to.cell? ⟨lb, loff, none⟩ = some (.int .i64 (va : Int)) := fun E => E.cell l0w.out
    have u0 : ∀ E : Up w4, E.to.cell? ⟨b, off + va * 8, none⟩ = some (.int .i64 u.op) := fun E => UW.out E.to E.below 0 _ rfl
    have hn1 : (0 : Int) < na := by omega
    by_cases cu : u.op = 2
    case neg =>
      have nu : (u.op != 2) = true := bne_iff_ne.2 cu
      clear cu
      refine wp_region_up (by kernel_rfl) (by kernel_rfl) ?_
      repeat (go_big_quiet_step (fail))
      refine wpQuiet_nil ?_
      first | (rintro _ ⟨E, rfl⟩) | (intro E) | (rename_i E)
      have M5 : Hid (Below w2.heap.size w2 E.to) := M4.out.trans (E.below.mono M4.out.size)
      clear o3 l0 u0
      go_wp2_with fail
      go_roundw
      case rel => exact ⟨j + 1, by go_num, by omega, M5⟩
      case measure => simp [RowKit.intOf]; omega
    have nu : (u.op != 2) = false := by rw [cu]; rfl
    have CU := Lib.hid cu
    clear cu
    refine wp_region_up (by kernel_rfl) (by kernel_rfl) ?_
    repeat (go_big_quiet_step (fail))
    refine wpQuiet_nil ?_
    first | (rintro _ ⟨E, rfl⟩) | (intro E) | (rename_i E)
    obtain ⟨w5, k5⟩ := E
    dsimp only
    have K5 := Lib.hid k5
    clear o3 l0 u0 k5 nu
    go_upto_region 10 with fail
    have o3 : ∀ E : Up w5, E.to.cell? ⟨ob, 3, none⟩ = some (.slice (some ⟨b, off, none⟩) z.ins.length m1) := fun E => OW.out E.to (below_to K5.out E)
    have l0 : ∀ E : Up w5, E.to.cell? ⟨lb, loff, none⟩ = some (.int .i64 (va : Int)) := fun E => E.cell (cell_on K5.out l0w.out)
    have RU : Hid (∀ E : Up w5, E.to.rangeAt b (off + va * 8 + 6) [.int .i64 u.k.kind, .int .i64 u.k.n]) := fun E a q hq => by
      match a, hq with
      | 0, hq => obtain rfl : q = .int .i64 u.k.kind := by simpa using hq.symm
                 exact UW.out E.to (below_to K5.out E) 6 _ rfl
      | 1, hq => obtain rfl : q = .int .i64 u.k.n := by simpa using hq.symm
                 exact UW.out E.to (below_to K5.out E) 7 _ rfl
    refine wp_region_first (fun w' => ∃ E : Up w5, w' = E.to) 8 [8, 9] [8] (by kernel_rfl) (by decide) (by kernel_rfl) (fun _ _ d _ _ h => by cases d <;> exact h) ⟨⟨_, (Below.refl _ w5).drew⟩, rfl⟩ ?_
    simp only [List.take_succ_cons, List.take_zero]
    generalize hqq : (fun a' => wpMs _ _ _ _ _ _ a' _) = qq
    have HQQ := Lib.hid hqq
    clear hqq
    repeat (first
      | (refine wpQuiet_load_up 41 _ rfl rfl b (off + va * 8 + 6) rfl [.int .i64 u.k.kind, .int .i64 u.k.n] _ RU.out Tryd.underlying41 rfl infoValC ?_; go_simp)
      | go_big_quiet_step (fail))
    refine wpQuiet_nil ?_
    rw [← HQQ.out]
    clear HQQ qq o3 l0 RU
    refine wpMs_step rfl (fun K hK => ?_)
    go_simp
    refine hK _ _ (fun _ => ⟨⟨_, (Below.refl _ w5).drew.alloc (Nat.le_refl _) _⟩, rfl⟩) ?_
    clear hK K
    refine wpMs_list [9] _ _ (by kernel_rfl) (by kernel_rfl) ?_
    simp only [List.filterMap_cons, List.filterMap_nil, List.getElem?_toArray, List.getElem?_cons_zero, List.getElem?_cons_succ]
    refine wpList_store_row rfl 41 _ _ rfl w5.heap.size #[.int .i64 u.k.kind, .int .i64 u.k.n] rfl rfl 41 _ (heap_last w5.drew _) infoValC rfl (all_oneCell_toArray (by simp [Value.oneCell'])) ?_
    generalize hw6 : World.setRow _ _ _ = w6
    have L6 : Hid (Below w5.heap.size w5 w6) := by rw [← hw6]; exact (Below.refl _ w5).drew.trans (below_setRow w5.drew _ _)
    have A6 : Hid (w6.heap[w5.heap.size]? = some (.cells #[.int .i64 u.k.kind, .int .i64 u.k.n] 41 (0, 0))) := by rw [← hw6]; exact setRow_heap _ _ _ _ _ _ (heap_last w5.drew _)
    have K6 : Hid (Below w4.heap.size w4 w6) := K5.out.trans (L6.out.mono K5.out.size)
    obtain ⟨oa, hoa⟩ : ∃ o, o = w5.heap.size := ⟨_, rfl⟩
    rw [← hoa] at A6
    rw [← hoa]
    have Y6 : Hid (w6.heap[bx]? = some (.cells #[.int .i64 y.op, .int .i64 y.a, .int .i64 y.b, .int .i64 y.c, .int .i64 y.n, .int .i64 y.exit, .int .i64 y.k.kind, .int .i64 y.k.n] 43 (0, 0))) := (K6.out.block _ (Array.getElem?_eq_some_iff.1 Y4.out).1).trans Y4.out
    have M6 : Hid (Below w2.heap.size w2 w6) := M4.out.trans (K6.out.mono M4.out.size)
    have RA : Hid (w6.rangeAt oa 0 [.int .i64 u.k.kind, .int .i64 u.k.n]) := (HeadAt.of_row A6.out).range
    clear hw6 L6 hoa Y4
    (try dsimp only [Act.put])
    have x0 : w6.cell? ⟨bx, 0, none⟩ = some (.int .i64 y.op) := cell_of_row w6 _ 0 _ _ _ Y6.out
    have x4 : w6.cell? ⟨bx, 4, none⟩ = some (.int .i64 y.n) := cell_of_row w6 _ 4 _ _ _ Y6.out
    have hl := HL.out
    by_cases c8 : y.op = 8
    case pos =>
      have n8 : (y.op == 8) = true := beq_iff_eq.2 c8
      have hge := hl.un c8 (by rw [IU.out]; exact CU.out)
      rw [IU.out] at hge
      change 0 ≤ (unaryM y.n u.k).2 at hge
      have UC := fun W' => unary_c y.n u.k W'
      unfold GivesV at UC
      generalize unaryM y.n u.k = ur at UC hge
      obtain ⟨⟨uk, un⟩, ut⟩ := ur
      dsimp only at UC hge
      have HUC := Lib.hid UC
      have hut : ¬ ut < 0 := by omega
      clear UC hl hge c8
      go_wp2_with (first | (refine wpList_load_mid rfl 41 _ rfl oa 0 rfl [.int .i64 u.k.kind, .int .i64 u.k.n] _ RA.out Tryd.underlying41 rfl infoValC ?_) | fail)
      refine (HUC.out w6).mono ?_
      rintro e w7 ⟨rfl, k7⟩
      have M7 : Hid (Below w2.heap.size w2 w7) := M6.out.trans (k7.mono M6.out.size)
      clear k7 x0 x4 RA
      go_wp2_with fail
      go_roundw
      case rel => exact ⟨j + 1, by go_num, by omega, M7⟩
      case measure => simp [RowKit.intOf]; omega
    have n8 : (y.op == 8) = false := beq_eq_false_iff_ne.2 c8
    by_cases c7 : y.op = 7
    case pos =>
      have n7 : (y.op == 7) = true := beq_iff_eq.2 c7
      have hyb := HAO.out y.b (asks_two (by rw [c7]; decide))
      have hn2 : na = 2 := by
        have := HNA.out
        unfold asksM at this
        rw [c7] at this
        simpa [formM] using this.symm
      subst hn2
      obtain ⟨vb, hvb⟩ := Int.eq_ofNat_of_zero_le hyb.1
      have hvbi : (vb : Int) < z.ins.length := by omega
      obtain ⟨q, hq, wq, hatq⟩ := ELT.out vb (by omega)
      have IQ : Hid (insF z.ins y.b = q) := by unfold insF Hid; rw [hvb, show (vb : Int).toNat = vb from rfl, hq]; rfl
      obtain ⟨lb', loff', v1, vs1, hA1, hlb1, hv1, -, ⟨rfl, -⟩, hatl1⟩ := HV.out.at_ (i := 1) (by have := HNA.out; omega)
      have ev1 : v1 = (vb : Int) := by
        have := asks_at hv1
        simp at this
        rw [← this, hvb]
      subst ev1
      injection hA1 with hA1
      injection hA1 with hA1 hA2
      subst hA1 hA2
      have l1w := Lib.hid (show w4.cell? ⟨lb, loff + 1, none⟩ = some (.int .i64 (vb : Int)) from by simpa using hatl1 0 _ rfl)
      have QW : Hid (∀ W, Below w4.heap.size w4 W → W.rangeAt b (off + vb * 8) [.int .i64 q.op, .int .i64 q.a, .int .i64 q.b, .int .i64 q.c, .int .i64 q.n, .int .i64 q.exit, .int .i64 q.k.kind, .int .i64 q.k.n]) := fun W k a qq hq => ((EB.out W k).cell hb).trans (hatq a qq hq)
      have hbin := hl.bin c7 (by rw [IU.out]; exact CU.out)
      rw [IU.out, IQ.out] at hbin
      have HBIN := Lib.hid hbin
      clear hq wq hatq hv1 hatl1 hvb hyb hbin hl ELT HV
      go_upto_region 16 with fail
      clear x0 x4
      have o3 : ∀ E : Up w6, E.to.cell? ⟨ob, 3, none⟩ = some (.slice (some ⟨b, off, none⟩) z.ins.length m1) := fun E => OW.out E.to (below_to K6.out E)
      have l1 : ∀ E : Up w6, E.to.cell? ⟨lb, loff + 1, none⟩ = some (.int .i64 (vb : Int)) := fun E => E.cell (cell_on K6.out l1w.out)
      have RQ : Hid (∀ E : Up w6, E.to.rangeAt b (off + vb * 8) [.int .i64 q.op, .int .i64 q.a, .int .i64 q.b, .int .i64 q.c, .int .i64 q.n, .int .i64 q.exit, .int .i64 q.k.kind, .int .i64 q.k.n]) := fun E => QW.out E.to (below_to K6.out E)
      refine wp_region_first (fun w' => ∃ E : Up w6, w' = E.to) 7 [7, 8] [7] (by kernel_rfl) (by decide) (by kernel_rfl) (fun _ _ d _ _ h => by cases d <;> exact h) ⟨⟨_, (Below.refl _ w6).drew⟩, rfl⟩ ?_
      simp only [List.take_succ_cons, List.take_zero]
      generalize hqq : (fun a' => wpMs _ _ _ _ _ _ a' _) = qq
      have HQQ := Lib.hid hqq
      clear hqq
      repeat (first
        | (refine wpQuiet_load_up 43 _ rfl rfl b (off + vb * 8) rfl [.int .i64 q.op, .int .i64 q.a, .int .i64 q.b, .int .i64 q.c, .int .i64 q.n, .int .i64 q.exit, .int .i64 q.k.kind, .int .i64 q.k.n] _ RQ.out Tryd.underlying43 rfl infoIns8 ?_; go_simp)
        | go_big_quiet_step (fail))
      refine wpQuiet_nil ?_
      rw [← HQQ.out]
      clear HQQ qq o3 l1 RQ
      refine wpMs_step rfl (fun K hK => ?_)
      go_simp
      refine hK _ _ (fun _ => ⟨⟨_, (Below.refl _ w6).drew.alloc (Nat.le_refl _) _⟩, rfl⟩) ?_
      clear hK K
      refine wpMs_list [8] _ _ (by kernel_rfl) (by kernel_rfl) ?_
      simp only [List.filterMap_cons, List.filterMap_nil, List.getElem?_toArray, List.getElem?_cons_zero, List.getElem?_cons_succ]
      refine wpList_store_row rfl 43 _ _ rfl w6.heap.size #[.int .i64 q.op, .int .i64 q.a, .int .i64 q.b, .int .i64 q.c, .int .i64 q.n, .int .i64 q.exit, .int .i64 q.k.kind, .int .i64 q.k.n] rfl rfl 43 _ (heap_last w6.drew _) infoIns8 rfl (all_oneCell_toArray (by simp [Value.oneCell'])) ?_
      generalize hw7 : World.setRow _ _ _ = w7
      have L7 : Hid (Below w6.heap.size w6 w7) := by rw [← hw7]; exact (Below.refl _ w6).drew.trans (below_setRow w6.drew _ _)
      have Q7 : Hid (w7.heap[w6.heap.size]? = some (.cells #[.int .i64 q.op, .int .i64 q.a, .int .i64 q.b, .int .i64 q.c, .int .i64 q.n, .int .i64 q.exit, .int .i64 q.k.kind, .int .i64 q.k.n] 43 (0, 0))) := by rw [← hw7]; exact setRow_heap _ _ _ _ _ _ (heap_last w6.drew _)
      obtain ⟨oq, hoq⟩ : ∃ o, o = w6.heap.size := ⟨_, rfl⟩
      rw [← hoq] at Q7
      rw [← hoq]
      have Y7 : Hid (w7.heap[bx]? = some (.cells #[.int .i64 y.op, .int .i64 y.a, .int .i64 y.b, .int .i64 y.c, .int .i64 y.n, .int .i64 y.exit, .int .i64 y.k.kind, .int .i64 y.k.n] 43 (0, 0))) := (L7.out.block _ (Array.getElem?_eq_some_iff.1 Y6.out).1).trans Y6.out
      have A7' : Hid (w7.heap[oa]? = some (.cells #[.int .i64 u.k.kind, .int .i64 u.k.n] 41 (0, 0))) := (L7.out.block _ (Array.getElem?_eq_some_iff.1 A6.out).1).trans A6.out
      have M7 : Hid (Below w2.heap.size w2 w7) := M6.out.trans (L7.out.mono M6.out.size)
      have RA' : Hid (w7.rangeAt oa 0 [.int .i64 u.k.kind, .int .i64 u.k.n]) := (HeadAt.of_row A7'.out).range
      have RQ' : Hid (w7.rangeAt oq 6 [.int .i64 q.k.kind, .int .i64 q.k.n]) := fun a qq hq => by
        match a, hq with
        | 0, hq => obtain rfl : qq = .int .i64 q.k.kind := by simpa using hq.symm
                   exact cell_of_row w7 _ 6 _ _ _ Q7.out
        | 1, hq => obtain rfl : qq = .int .i64 q.k.n := by simpa using hq.symm
                   exact cell_of_row w7 _ 7 _ _ _ Q7.out
      have x4 : w7.cell? ⟨bx, 4, none⟩ = some (.int .i64 y.n) := cell_of_row w7 _ 4 _ _ _ Y7.out
      have q0 : w7.cell? ⟨oq, 0, none⟩ = some (.int .i64 q.op) := cell_of_row w7 _ 0 _ _ _ Q7.out
      clear hw7 L7 hoq RA A6 Y6
      (try dsimp only [Act.put])
      clear c7 c8
      by_cases cq : q.op = 2
      case neg =>
        have nq : (q.op == 2) = false := beq_eq_false_iff_ne.2 cq
        clear cq
        go_wp2_with fail
        go_roundw
        case rel => exact ⟨j + 1, by go_num, by omega, M7⟩
        case measure => simp [RowKit.intOf]; omega
      have nq : (q.op == 2) = true := beq_iff_eq.2 cq
      have hge := HBIN.out cq
      change 0 ≤ (binaryM y.n u.k q.k).2 at hge
      have BC := fun W' => binary_c y.n u.k q.k W'
      unfold GivesV at BC
      generalize binaryM y.n u.k q.k = ur at BC hge
      obtain ⟨⟨uk, un⟩, ut⟩ := ur
      dsimp only at BC hge
      have HBC := Lib.hid BC
      have hut : ¬ ut < 0 := by omega
      clear BC hge cq
      go_wp2_with (first | (refine wpList_load_mid rfl 41 _ rfl oa 0 rfl [.int .i64 u.k.kind, .int .i64 u.k.n] _ RA'.out Tryd.underlying41 rfl infoValC ?_) | (refine wpList_load_mid rfl 41 _ rfl oq 6 rfl [.int .i64 q.k.kind, .int .i64 q.k.n] _ RQ'.out Tryd.underlying41 rfl infoValC ?_) | fail)
      refine (HBC.out w7).mono ?_
      rintro e w8 ⟨rfl, k8⟩
      have M8 : Hid (Below w2.heap.size w2 w8) := M7.out.trans (k8.mono M7.out.size)
      clear k8 x4 q0 RA' RQ'
      go_wp2_with fail
      go_roundw
      case rel => exact ⟨j + 1, by go_num, by omega, M8⟩
      case measure => simp [RowKit.intOf]; omega
    have n7 : (y.op == 7) = false := beq_eq_false_iff_ne.2 c7
    by_cases c4 : y.op = 4
    case pos =>
      have n4 : (y.op == 4) = true := beq_iff_eq.2 c4
      have hne := hl.is_ c4 (by rw [IU.out]; exact CU.out)
      rw [IU.out] at hne
      have nk : (u.k.kind == y.n) = false := beq_eq_false_iff_ne.2 hne
      have a0 : w6.cell? ⟨oa, 0, none⟩ = some (.int .i64 u.k.kind) := cell_of_row w6 _ 0 _ _ _ A6.out
      clear hl hne c4 c7 c8
      go_wp2_with fail
      go_roundw
      case rel => exact ⟨j + 1, by go_num, by omega, M6⟩
      case measure => simp [RowKit.intOf]; omega
    have n4 : (y.op == 4) = false := beq_eq_false_iff_ne.2 c4
    by_cases c6 : y.op = 6
    case pos =>
      have n6 : (y.op == 6) = true := beq_iff_eq.2 c6
      have hne := hl.same c6 (by rw [IU.out]; exact CU.out)
      rw [IU.out] at hne
      have RB : Hid (w6.rangeAt bx 6 [.int .i64 y.k.kind, .int .i64 y.k.n]) := fun a q hq => by
        match a, hq with
        | 0, hq => obtain rfl : q = .int .i64 y.k.kind := by simpa using hq.symm
                   exact cell_of_row w6 _ 6 _ _ _ Y6.out
        | 1, hq => obtain rfl : q = .int .i64 y.k.n := by simpa using hq.symm
                   exact cell_of_row w6 _ 7 _ _ _ Y6.out
      by_cases e1 : u.k.kind = y.k.kind
      · have e2 : (u.k.n == y.k.n) = false := beq_eq_false_iff_ne.2 (fun h => hne (val_ext e1 h))
        have e1' : (u.k.kind == y.k.kind) = true := beq_iff_eq.2 e1
        clear hl hne c4 c7 c8 c6 e1
        go_wp2_with (first | (refine wpList_load_mid rfl 41 _ rfl oa 0 rfl [.int .i64 u.k.kind, .int .i64 u.k.n] _ RA.out Tryd.underlying41 rfl infoValC ?_) | (refine wpList_load_mid rfl 41 _ rfl bx 6 rfl [.int .i64 y.k.kind, .int .i64 y.k.n] _ RB.out Tryd.underlying41 rfl infoValC ?_) | fail)
        go_roundw
        case rel => exact ⟨j + 1, by go_num, by omega, M6⟩
        case measure => simp [RowKit.intOf]; omega
      · have e1' : (u.k.kind == y.k.kind) = false := beq_eq_false_iff_ne.2 e1
        clear hl hne c4 c7 c8 c6 e1
        go_wp2_with (first | (refine wpList_load_mid rfl 41 _ rfl oa 0 rfl [.int .i64 u.k.kind, .int .i64 u.k.n] _ RA.out Tryd.underlying41 rfl infoValC ?_) | (refine wpList_load_mid rfl 41 _ rfl bx 6 rfl [.int .i64 y.k.kind, .int .i64 y.k.n] _ RB.out Tryd.underlying41 rfl infoValC ?_) | fail)
        go_roundw
        case rel => exact ⟨j + 1, by go_num, by omega, M6⟩
        case measure => simp [RowKit.intOf]; omega
    have n6 : (y.op == 6) = false := beq_eq_false_iff_ne.2 c6
    clear hl c4 c6 c7 c8
    go_wp2_with fail
    go_roundw
    case rel => exact ⟨j + 1, by go_num, by omega, M6⟩
    case measure => simp [RowKit.intOf]; omega
end Go.Proofs.YtmccomeihnaanaaDoor
