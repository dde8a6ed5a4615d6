/- CseNone: the walk. -/
import Derived.Test.YtmccomeihnaanaaDoorCseD
namespace Go.Proofs.YtmccomeihnaanaaDoor
open Go.RowKit Go.Maps

theorem setCells_far {g : Nat} : ∀ (vs : List Value) (o : Nat) (w : World) (k : Nat), k ≠ g → (w.setCells g o vs).heap[k]? = w.heap[k]?
  | [], _, _, _, _ => rfl
  | v :: r, o, w, k, h => by
    rw [World.setCells, setCells_far r (o + 1) _ k h]
    exact heap_setCell_other w ⟨g, o, none⟩ k v (by show k ≠ g; exact h)
def ins0 : List Value := [.int .i64 0, .int .i64 0, .int .i64 0, .int .i64 0, .int .i64 0, .int .i64 0, .int .i64 0, .int .i64 0]
theorem insCells_row {w : World} {g : Nat} {x : TIns} (h : w.heap[g]? = some (.cells ⟨ins0⟩ 43 (0, 0))) : (w.setCells g 0 (insCells x)).heap[g]? = some (.cells ⟨insCells x⟩ 43 (0, 0)) := by
  rw [setCells_row _ _ _ _ h]
  simp [ins0, insCells, setAll]
/-- two boxes filled -/
theorem two_full {W : World} {bx by_ B : Nat} {x y : TIns} (hx : W.heap[bx]? = some (.cells ⟨ins0⟩ 43 (0, 0))) (hy : W.heap[by_]? = some (.cells ⟨ins0⟩ 43 (0, 0))) (hne : bx ≠ by_) (h1 : B ≤ bx) (h2 : B ≤ by_) :
    ((W.setCells bx 0 (insCells x)).setCells by_ 0 (insCells y)).heap[bx]? = some (.cells ⟨insCells x⟩ 43 (0, 0)) ∧ ((W.setCells bx 0 (insCells x)).setCells by_ 0 (insCells y)).heap[by_]? = some (.cells ⟨insCells y⟩ 43 (0, 0)) ∧
      Below B W ((W.setCells bx 0 (insCells x)).setCells by_ 0 (insCells y)) ∧ (W.setCells bx 0 (insCells x)).heap[by_]? = some (.cells ⟨ins0⟩ 43 (0, 0)) ∧ Below B W (W.setCells bx 0 (insCells x)) := by
  have e : (W.setCells bx 0 (insCells x)).heap[by_]? = some (.cells ⟨ins0⟩ 43 (0, 0)) := (setCells_far _ _ _ _ (Ne.symm hne)).trans hy
  have k := Below.setCells_ h1 (insCells x) 0 W (Below.refl B W)
  exact ⟨(setCells_far _ _ _ _ hne).trans (insCells_row hx), insCells_row e, Below.setCells_ h2 _ _ _ k, e, k⟩
theorem cse_ok {p : CProg} {t z : TTrace} (h : cseM (ceOf p t) t = (z, 0)) : cutM t (cseTo t) = (z, 0) := by
  unfold cseM at h
  split at h
  · rename_i c
    injection h with h1 h2
    exact (c h2).elim
  · exact h
theorem TraceR.cells2 {w : World} {B : Nat} {cs : List Value} {z : TTrace} (h : TraceR w B cs z) : ∃ B1 m1 B2 m2 B3 m3 B4 m4 B5 m5 B6 m6, cs = [.int .i64 z.fn, .int .i64 z.at_, .int .i64 z.loop, .slice B1 z.ins.length m1, .slice B2 z.exits.length m2, .int .i64 z.turn.at_, .int .i64 z.turn.steps, .slice B3 z.turn.sets.length m3, .slice B4 z.turn.makes.length m4, .int .i64 z.back.at_, .int .i64 z.back.steps, .slice B5 z.back.sets.length m5, .slice B6 z.back.makes.length m6] ∧ SliceR w B 8 InsR (.slice B1 z.ins.length m1) z.ins := by
  obtain ⟨i, e, ct, cb, rfl, hi, ⟨A2, n2, rfl, -⟩, ⟨s1, m1, rfl, ⟨A3, n3, rfl, -⟩, ⟨A4, n4, rfl, -⟩, -⟩, ⟨s2, m2, rfl, ⟨A5, n5, rfl, -⟩, ⟨A6, n6, rfl, -⟩, -⟩, -⟩ := h
  obtain ⟨A1, n1, rfl, -⟩ := id hi
  exact ⟨A1, n1, A2, n2, A3, n3, A4, n4, A5, n5, A6, n6, rfl, hi⟩

set_option maxHeartbeats 4000000 in
set_option maxRecDepth 100000 in
theorem cseNone_walk (pcs ca : List Value) (p : CProg) (t : TTrace) (w : World) (hp : ProgR w w.heap.size pcs p) (ht : TraceR w w.heap.size ca t) (tab : Tab w) :
    Calls Tryd.prog 6 #[.agg ⟨pcs⟩, .agg ⟨ca⟩] w (Gives (.bool true) w) := by
  have HIp := Lib.hid hp.size3
  have HIt := Lib.hid ht.size13
  obtain ⟨Ai, ni, p3, -⟩ := ht.at3
  have P3 := Lib.hid p3
  obtain ⟨w0, hw0⟩ : ∃ w0, w0 = (w.alloc (.cells ⟨pcs⟩ 26)).alloc (.cells ⟨ca⟩ 34) := ⟨_, rfl⟩
  have TB := two_box w pcs ca 26 34
  rw [← hw0] at TB
  obtain ⟨t1, t2, t3⟩ := TB
  have H1 := Lib.hid t1
  have H2 := Lib.hid t2
  have K0 := Lib.hid t3
  have HW := Lib.hid hw0
  have R1 := Lib.hid H1.out.range
  have R2 := Lib.hid H2.out.range
  have CE := Lib.hid (cseDo_c pcs ca p t w0 (hp.below K0.out) (ht.below K0.out) (tab.below K0.out))
  clear hp ht hw0 t1 t2 t3 p3 tab
  go_enter Tryd.func6, Tryd.ntmps6
  go_wp2_with (first | (refine wpList_load_mid rfl 26 _ rfl w.heap.size 0 rfl pcs _ (by rw [← HW.out]; exact R1.out) Tryd.underlying26 rfl HIp.out ?_) | (refine wpList_load_mid rfl 34 _ rfl (w.heap.size + 1) 0 rfl ca _ (by rw [← HW.out]; exact R2.out) Tryd.underlying34 rfl HIt.out ?_) | fail)
  rw [← HW.out]
  refine CE.out.mono ?_
  rintro e w1 ⟨cs, rfl, tr, k1⟩
  obtain ⟨zr, hzr⟩ : ∃ z, cseM (ceOf p t) t = z := ⟨_, rfl⟩
  rw [hzr] at tr
  rw [hzr]
  obtain ⟨z, r⟩ := zr
  dsimp only at tr ⊢
  have HOK : Hid (r = 0 → cutM t (cseTo t) = (z, 0)) := fun e => cse_ok (hzr.trans (by rw [e]))
  obtain ⟨B1, m1, B2, m2, B3, m3, B4, m4, B5, m5, B6, m6, rfl, qi⟩ := tr.cells2
  have li := len_le qi
  have QI := Lib.hid qi
  have K1 := Lib.hid (K0.out.trans (k1.mono K0.out.size))
  have G2 := Lib.hid (H2.out.on k1)
  clear tr k1 qi hzr CE R1 R2
  obtain ⟨w2, hw2⟩ : ∃ w2, w2 = w1.alloc (.cells #[.int .i64 z.fn, .int .i64 z.at_, .int .i64 z.loop, .slice B1 z.ins.length m1, .slice B2 z.exits.length m2, .int .i64 z.turn.at_, .int .i64 z.turn.steps, .slice B3 z.turn.sets.length m3, .slice B4 z.turn.makes.length m4, .int .i64 z.back.at_, .int .i64 z.back.steps, .slice B5 z.back.sets.length m5, .slice B6 z.back.makes.length m6] 34) := ⟨_, rfl⟩
  have L2 : Hid (Below w1.heap.size w1 w2) := by rw [hw2]; exact below_one _ _
  have O2 : Hid (HeadAt w2 w1.heap.size [.int .i64 z.fn, .int .i64 z.at_, .int .i64 z.loop, .slice B1 z.ins.length m1, .slice B2 z.exits.length m2, .int .i64 z.turn.at_, .int .i64 z.turn.steps, .slice B3 z.turn.sets.length m3, .slice B4 z.turn.makes.length m4, .int .i64 z.back.at_, .int .i64 z.back.steps, .slice B5 z.back.sets.length m5, .slice B6 z.back.makes.length m6]) := HeadAt.of_row (by rw [hw2]; exact heap_last _ _)
  have K2 := Lib.hid (K1.out.trans (L2.out.mono K1.out.size))
  have F2 := Lib.hid (G2.out.on L2.out)
  have hz2 : w1.heap.size < w2.heap.size := by rw [hw2]; simp
  have HW2 := Lib.hid hw2
  clear hw2
  go_upto_region 2 with fail
  rw [← HW2.out]
  by_cases hr : r = 0
  case neg =>
    have hr' : (r != 0) = true := by simpa using hr
    go_wp2_with fail
    refine (irred_c w2).mono ?_
    rintro e w3 ⟨rfl, k3⟩
    have K3 := Lib.hid (K2.out.trans (k3.mono K2.out.size))
    clear k3
    go_wp2_with fail
    go_ret
    exact ⟨rfl, K3.out⟩
  subst hr
  have OK := Lib.hid (HOK.out rfl)
  have hcn : Hid (∀ (i k : Nat) (x y : TIns), k < i → z.ins[i]? = some x → z.ins[k]? = some y → x.op = y.op → ¬ ((x.op = 2 ∧ x.k = y.k) ∨ x.op = 3 ∨ (x.op = 1 ∧ x.n = y.n ∧ ((i : Int) < z.loop ↔ (k : Int) < z.loop)))) := fun i k x y hk hx hy ho => by
    have h := cse_none (t := t) (i := i) (k := k) (x := x) (y := y) (by rw [OK.out]) hk (by rw [OK.out]; exact hx) (by rw [OK.out]; exact hy) ho
    rw [OK.out] at h
    exact h
  have hlz : z.ins.length ≤ t.ins.length := by
    rcases cutM_len t (cseTo t) with ⟨-, h⟩ | ⟨h, -⟩
    · rw [OK.out] at h; exact h
    · rw [OK.out] at h; cases h
  have o3 := O2.out 3 _ rfl
  go_wp2_with fail
  clear o3
  go_loopw [24] (fun i wr => ∃ j : Nat, i = .int .i64 j ∧ j ≤ z.ins.length ∧ Hid (Below w2.heap.size w2 wr)) (fun i _ => z.ins.length - (RowKit.intOf i).toNat)
  case atStart => exact ⟨0, rfl, by omega, Below.refl _ _⟩
  case round =>
    obtain ⟨j, rfl, hj, KW⟩ := hrel
    obtain ⟨wo, hwo⟩ : ∃ wo, wo = wr := ⟨_, rfl⟩
    subst hwo
    by_cases hlt : j < z.ins.length
    · have hji : (j : Int) < z.ins.length := by omega
      go_wp2_with fail
      go_loopw [28] (fun i wr => ∃ m : Nat, i = .int .i64 m ∧ m ≤ j ∧ Hid (Below w2.heap.size w2 wr)) (fun i _ => j - (RowKit.intOf i).toNat)
      case atStart => exact ⟨0, rfl, by omega, KW⟩
      case round =>
        obtain ⟨m, rfl, hm, KX⟩ := hrel
        have KY := Lib.hid (L2.out.trans (KX.out.mono L2.out.size))
        by_cases hlm : m < j
        · have hmi : (m : Int) < j := by omega
          have hmz : (m : Int) < z.ins.length := by omega
          obtain ⟨b, off, x, rfl, hb, hx, wx, hat⟩ := ins_op QI.out hlt
          obtain ⟨b', off', y, hbo, hb', hy, wy, hat'⟩ := ins_op QI.out (i := m) (by omega)
          obtain ⟨rfl, rfl⟩ : b = b' ∧ off = off' := by injection hbo with hbo; injection hbo with h1 h2; exact ⟨h1, h2⟩
          have hb1 : b < w1.heap.size := hb
          have RX : Hid (∀ E : Up wr, E.to.rangeAt b (off + j * 8) (insCells x)) := fun E a v hv => E.cell ((KY.out.cell hb1).trans (hat a v hv))
          have RY : Hid (∀ E : Up wr, E.to.rangeAt b (off + m * 8) (insCells y)) := fun E a v hv => E.cell ((KY.out.cell hb1).trans (hat' a v hv))
          have o3 := cell_on KX.out (O2.out 3 _ rfl)
          have e3 : ∀ E : Up wr, E.to.cell? ⟨w1.heap.size, 3, none⟩ = some (.slice (some ⟨b, off, none⟩) z.ins.length m1) := fun E => E.cell o3
          have HC := Lib.hid (hcn.out j m x y hlm hx hy)
          have LX : Hid ((Tryd.prog.info? 43).map (·.size) = some (insCells x).length) := infoIns8
          have LY : Hid ((Tryd.prog.info? 43).map (·.size) = some (insCells y).length) := infoIns8
          have hzw : w1.heap.size < wr.heap.size := Nat.lt_of_lt_of_le hz2 KX.out.size
          clear hx hy wx wy hat hat' o3 hbo
          go_upto_region 10 with fail
          go_cut [9, 10] (fun s9 s10 wx => ∃ bx by_ : Nat, s9 = .pointer (some ⟨bx, 0, none⟩) ∧ s10 = .pointer (some ⟨by_, 0, none⟩) ∧ Hid (wx.heap[bx]? = some (.cells ⟨insCells x⟩ 43 (0, 0))) ∧ Hid (wx.heap[by_]? = some (.cells ⟨insCells y⟩ 43 (0, 0))) ∧ Hid (Below wr.heap.size wr wx))
          case first =>
            refine wp_region_readers (fun w' => ∃ E : Up wr, w' = E.to) [0, 1, 2, 3, 4, 5, 6, 7, 8, 9] [10, 11, 12] 4 #[true, true, true, true, true, true, true, true, true, true, false, false, false, false] _ (by kernel_rfl) (by kernel_rfl) (by simp only [List.filterMap_cons, List.filterMap_nil, List.getElem?_toArray, List.getElem?_cons_zero, List.getElem?_cons_succ]; rfl) (fun _ _ d _ _ h => by cases d <;> exact h) ⟨⟨_, (Below.refl _ wr).drew⟩, rfl⟩ ?_
            generalize hqq : (fun a' => wpAnyC _ _ _ _ _ _ _ _ a' _) = qq
            have HQQ := Lib.hid hqq
            clear hqq
            show wpQuiet _ _ _ _ [_, _, _, _, _, _, _, _, _, _] _
            repeat (first
              | (refine wpQuiet_load_up 43 _ rfl rfl b (off + j * 8) rfl (insCells x) _ RX.out Tryd.underlying43 rfl LX.out ?_; go_simp)
              | (refine wpQuiet_load_up 43 _ rfl rfl b (off + m * 8) rfl (insCells y) _ RY.out Tryd.underlying43 rfl LY.out ?_; go_simp)
              | go_big_quiet_step (fail))
            refine wpQuiet_nil ?_
            rw [← HQQ.out]
            clear HQQ qq e3 RX RY
            refine wpAnyC_two (i := 10) (k := 11) (by kernel_rfl) rfl rfl (fun K hK => ?_) (fun K hK => ?_)
            · go_simp
              refine hK _ _ (fun _ => ⟨⟨_, ((Below.refl _ wr).alloc (Nat.le_refl _) _).drew⟩, rfl⟩) ?_
              clear hK K
              refine wpAnyC_of_ms [11, 12, 13] _ _ _ (by kernel_rfl) ?_
              refine wpMs_step rfl (fun K hK => ?_)
              go_simp
              refine hK _ _ (fun _ => ⟨⟨_, (((Below.refl _ wr).alloc (Nat.le_refl _) _).alloc (by simp) _).drew⟩, rfl⟩) ?_
              clear hK K
              obtain ⟨W4, hW4⟩ : ∃ W4, W4 = ((wr.alloc (.cells ⟨ins0⟩ 43)).alloc (.cells ⟨ins0⟩ 43)).drew := ⟨_, rfl⟩
              have X0 : Hid (W4.heap[wr.heap.size]? = some (.cells ⟨ins0⟩ 43 (0, 0))) := by rw [hW4]; exact heap_old (heap_last wr _) _
              have Y0 : Hid (W4.heap[wr.heap.size + 1]? = some (.cells ⟨ins0⟩ 43 (0, 0))) := by rw [hW4]; exact heap_two _ _ _
              have K4 : Hid (Below wr.heap.size wr W4) := by rw [hW4]; exact (below_two' wr _ _).drew
              unfold ins0 at hW4
              have HW4 := Lib.hid hW4
              clear hW4
              rw [← HW4.out]
              obtain ⟨T1, T2, T3, T4, T5⟩ := two_full (B := wr.heap.size) (x := x) (y := y) X0.out Y0.out (by omega) (by omega) (by omega)
              have Q1 := Lib.hid T1
              have Q2 := Lib.hid T2
              have Q3 := Lib.hid (K4.out.trans T3)
              have TH2 := Lib.hid (there_of_row (n := 8) T4 (by simp [ins0]))
              have Q5 := Lib.hid (K4.out.trans T5)
              have TH1 := Lib.hid (there_of_row (n := 8) X0.out (by simp [ins0]))
              clear T1 T2 T3 T4 T5
              refine wpMs_step rfl (fun K hK => ?_)
              refine Eq.mpr (if_pos ?hw) ?_
              case hw => rfl
              refine wp_store_mid 43 _ _ rfl (wr.heap.size) 0 ⟨insCells x⟩ rfl rfl TH1.out infoIns8 (all_oneCell_toArray (ins_ones x)) (hK _ _ (fun _ => ⟨⟨_, Q5.out⟩, rfl⟩) ?_)
              clear hK K
              refine wpMs_list [13] _ _ (by kernel_rfl) (by kernel_rfl) ?_
              simp only [List.filterMap_cons, List.filterMap_nil, List.getElem?_toArray, List.getElem?_cons_zero, List.getElem?_cons_succ]
              refine wpList_store_mid rfl 43 _ _ rfl (wr.heap.size + 1) 0 ⟨insCells y⟩ rfl rfl TH2.out infoIns8 (all_oneCell_toArray (ins_ones y)) ?_
              generalize hw9 : World.setCells _ _ _ _ = w9
              have Q1 : Hid (w9.heap[wr.heap.size]? = some (.cells ⟨insCells x⟩ 43 (0, 0))) := by rw [← hw9]; exact Q1.out
              have Q2 : Hid (w9.heap[wr.heap.size + 1]? = some (.cells ⟨insCells y⟩ 43 (0, 0))) := by rw [← hw9]; exact Q2.out
              have Q3 : Hid (Below wr.heap.size wr w9) := by rw [← hw9]; exact Q3.out
              clear hw9
              go_wp2_with fail
              go_meet
              case rel => exact ⟨_, _, rfl, rfl, Q1, Q2, Q3⟩
            · go_simp
              refine hK _ _ (fun _ => ⟨⟨_, ((Below.refl _ wr).alloc (Nat.le_refl _) _).drew⟩, rfl⟩) ?_
              clear hK K
              refine wpAnyC_of_ms [10, 12, 13] _ _ _ (by kernel_rfl) ?_
              refine wpMs_step rfl (fun K hK => ?_)
              go_simp
              refine hK _ _ (fun _ => ⟨⟨_, (((Below.refl _ wr).alloc (Nat.le_refl _) _).alloc (by simp) _).drew⟩, rfl⟩) ?_
              clear hK K
              obtain ⟨W4, hW4⟩ : ∃ W4, W4 = ((wr.alloc (.cells ⟨ins0⟩ 43)).alloc (.cells ⟨ins0⟩ 43)).drew := ⟨_, rfl⟩
              have X0 : Hid (W4.heap[wr.heap.size]? = some (.cells ⟨ins0⟩ 43 (0, 0))) := by rw [hW4]; exact heap_old (heap_last wr _) _
              have Y0 : Hid (W4.heap[wr.heap.size + 1]? = some (.cells ⟨ins0⟩ 43 (0, 0))) := by rw [hW4]; exact heap_two _ _ _
              have K4 : Hid (Below wr.heap.size wr W4) := by rw [hW4]; exact (below_two' wr _ _).drew
              unfold ins0 at hW4
              have HW4 := Lib.hid hW4
              clear hW4
              rw [← HW4.out]
              obtain ⟨T1, T2, T3, T4, T5⟩ := two_full (B := wr.heap.size) (x := x) (y := y) Y0.out X0.out (by omega) (by omega) (by omega)
              have Q1 := Lib.hid T1
              have Q2 := Lib.hid T2
              have Q3 := Lib.hid (K4.out.trans T3)
              have TH2 := Lib.hid (there_of_row (n := 8) T4 (by simp [ins0]))
              have Q5 := Lib.hid (K4.out.trans T5)
              have TH1 := Lib.hid (there_of_row (n := 8) Y0.out (by simp [ins0]))
              clear T1 T2 T3 T4 T5
              refine wpMs_step rfl (fun K hK => ?_)
              refine Eq.mpr (if_pos ?hw) ?_
              case hw => rfl
              refine wp_store_mid 43 _ _ rfl (wr.heap.size + 1) 0 ⟨insCells x⟩ rfl rfl TH1.out infoIns8 (all_oneCell_toArray (ins_ones x)) (hK _ _ (fun _ => ⟨⟨_, Q5.out⟩, rfl⟩) ?_)
              clear hK K
              refine wpMs_list [13] _ _ (by kernel_rfl) (by kernel_rfl) ?_
              simp only [List.filterMap_cons, List.filterMap_nil, List.getElem?_toArray, List.getElem?_cons_zero, List.getElem?_cons_succ]
              refine wpList_store_mid rfl 43 _ _ rfl (wr.heap.size) 0 ⟨insCells y⟩ rfl rfl TH2.out infoIns8 (all_oneCell_toArray (ins_ones y)) ?_
              generalize hw9 : World.setCells _ _ _ _ = w9
              have Q1 : Hid (w9.heap[wr.heap.size + 1]? = some (.cells ⟨insCells x⟩ 43 (0, 0))) := by rw [← hw9]; exact Q1.out
              have Q2 : Hid (w9.heap[wr.heap.size]? = some (.cells ⟨insCells y⟩ 43 (0, 0))) := by rw [← hw9]; exact Q2.out
              have Q3 : Hid (Below wr.heap.size wr w9) := by rw [← hw9]; exact Q3.out
              clear hw9
              go_wp2_with fail
              go_meet
              case rel => exact ⟨_, _, rfl, rfl, Q1, Q2, Q3⟩
          case rest =>
            obtain ⟨wd, hwd⟩ : ∃ wd, wd = wc := ⟨_, rfl⟩
            subst hwd
            obtain ⟨bx, by_, rfl, rfl, X1, Y1, KC⟩ := hcut
            have KD := Lib.hid (KX.out.trans (KC.out.mono KX.out.size))
            have o2 : wd.cell? ⟨w1.heap.size, 2, none⟩ = some (.int .i64 z.loop) := cell_on KD.out (O2.out 2 _ rfl)
            have x0 := HeadAt.of_row X1.out 0 (.int .i64 x.op) rfl
            have x4 := HeadAt.of_row X1.out 4 (.int .i64 x.n) rfl
            have x6 := HeadAt.of_row X1.out 6 (.int .i64 x.k.kind) rfl
            have x7 := HeadAt.of_row X1.out 7 (.int .i64 x.k.n) rfl
            have y0 := HeadAt.of_row Y1.out 0 (.int .i64 y.op) rfl
            have y4 := HeadAt.of_row Y1.out 4 (.int .i64 y.n) rfl
            have y6 := HeadAt.of_row Y1.out 6 (.int .i64 y.k.kind) rfl
            have y7 := HeadAt.of_row Y1.out 7 (.int .i64 y.k.n) rfl
            by_cases h1 : x.op = y.op
            case neg =>
              have b1 : (x.op == y.op) = false := beq_eq_false_iff_ne.2 h1
              go_wp2_with fail
              go_roundw
              case rel => exact ⟨m + 1, by go_num, by omega, KD.out⟩
              case measure => simp [RowKit.intOf]; omega
            have b1 : (x.op == y.op) = true := beq_iff_eq.2 h1
            have HF := HC.out h1
            by_cases c2 : x.op = 2
            · have hk : ¬ x.k = y.k := fun e => HF (.inl ⟨c2, e⟩)
              have b2 : (x.op == 2) = true := beq_iff_eq.2 c2
              have b3 : (x.op == 3) = false := beq_eq_false_iff_ne.2 (by omega)
              have b4 : (x.op == 1) = false := beq_eq_false_iff_ne.2 (by omega)
              by_cases k1 : x.k.kind = y.k.kind
              · have k2 : ¬ x.k.n = y.k.n := fun e => hk (by
                  obtain ⟨op, a, b, c, n, ex, ⟨kk, kn⟩⟩ := x
                  obtain ⟨op', a', b', c', n', ex', ⟨kk', kn'⟩⟩ := y
                  dsimp only at k1 e ⊢
                  rw [k1, e])
                have d1 : (x.k.kind == y.k.kind) = true := beq_iff_eq.2 k1
                have d2 : (x.k.n == y.k.n) = false := beq_eq_false_iff_ne.2 k2
                clear HF hk
                go_wp2_with fail
                go_roundw
                case rel => exact ⟨m + 1, by go_num, by omega, KD.out⟩
                case measure => simp [RowKit.intOf]; omega
              · have d1 : (x.k.kind == y.k.kind) = false := beq_eq_false_iff_ne.2 k1
                clear HF hk
                go_wp2_with fail
                go_roundw
                case rel => exact ⟨m + 1, by go_num, by omega, KD.out⟩
                case measure => simp [RowKit.intOf]; omega
            by_cases c1 : x.op = 1
            · have b2 : (x.op == 2) = false := beq_eq_false_iff_ne.2 c2
              have b3 : (x.op == 3) = false := beq_eq_false_iff_ne.2 (by omega)
              have b4 : (x.op == 1) = true := beq_iff_eq.2 c1
              by_cases n1 : x.n = y.n
              · have hs : ¬ ((j : Int) < z.loop ↔ (m : Int) < z.loop) := fun e => HF (.inr (.inr ⟨c1, n1, e⟩))
                have d1 : (x.n == y.n) = true := beq_iff_eq.2 n1
                clear HF
                by_cases sj : (j : Int) < z.loop
                · exact (hs ⟨fun _ => by omega, fun _ => sj⟩).elim
                · have sm : (m : Int) < z.loop := by
                    rcases Int.lt_or_le (m : Int) z.loop with e | e
                    · exact e
                    · exact (hs ⟨fun h => (sj h).elim, fun h => by omega⟩).elim
                  clear hs
                  go_wp2_with fail
                  go_roundw
                  case rel => exact ⟨m + 1, by go_num, by omega, KD.out⟩
                  case measure => simp [RowKit.intOf]; omega
              · have d1 : (x.n == y.n) = false := beq_eq_false_iff_ne.2 n1
                clear HF
                go_wp2_with fail
                go_roundw
                case rel => exact ⟨m + 1, by go_num, by omega, KD.out⟩
                case measure => simp [RowKit.intOf]; omega
            · have c3 : x.op ≠ 3 := fun e => HF (.inr (.inl e))
              have b2 : (x.op == 2) = false := beq_eq_false_iff_ne.2 c2
              have b3 : (x.op == 3) = false := beq_eq_false_iff_ne.2 c3
              have b4 : (x.op == 1) = false := beq_eq_false_iff_ne.2 c1
              clear HF
              go_wp2_with fail
              go_roundw
              case rel => exact ⟨m + 1, by go_num, by omega, KD.out⟩
              case measure => simp [RowKit.intOf]; omega
        · have hmi : ¬ (m : Int) < j := by omega
          go_wp2_with fail
          go_roundw
          case rel => exact ⟨j + 1, by go_num, by omega, KX.out⟩
          case measure => simp [RowKit.intOf]; omega
    · have hji : ¬ (j : Int) < z.ins.length := by omega
      go_wp2_with fail
      have kk := Lib.hid (K2.out.trans (KW.out.mono K2.out.size))
      refine (irred_c wo).mono ?_
      rintro e w5 ⟨rfl, k5⟩
      have K5 := Lib.hid (kk.out.trans (k5.mono kk.out.size))
      have q3 := cell_on KW.out (O2.out 3 _ rfl)
      have F5 := Lib.hid ((F2.out.on KW.out).on k5)
      have q4 := cell_on k5 q3
      have q5 := F5.out 3 _ P3.out
      have hzl : (z.ins.length : Int) ≤ t.ins.length := by omega
      clear k5 q3
      go_wp2_with fail
      go_ret
      exact ⟨rfl, K5.out⟩
end Go.Proofs.YtmccomeihnaanaaDoor
