/- dead.values: the values of an exit. -/
import Derived.Test.YtmccomeihnaanaaDoorDeadA
namespace Go.Proofs.YtmccomeihnaanaaDoor
open Go.RowKit
section
variable {P : Program} {w : World}
theorem run_append_nil_any (base : Nat) (t ty e : TypeId) (i : TypeInfo) (size : Nat) (ht : P.underlying t = some (.slice e)) (hi : P.info? e = some i)
    (v : Value) (n : Nat) (xs : List Value) (hown : w.ownsRow base e size v n xs) (c : Nat) :
    (Builtin.append_ #[t, t] ty #[v, .slice none 0 c]).run P w = .ok v w := by
  rcases hown.2 with ⟨rfl, rfl⟩ | ⟨g, cap, cur, rfl, _, _, hnc, _⟩
  · simp [Builtin.append_, run_underlying ht, sizeOf, typeInfo, hi, Builtin.lenOf, Builtin.firstCells]
  · simp [Builtin.append_, run_underlying ht, sizeOf, typeInfo, hi, Builtin.lenOf, Builtin.firstCells, hnc, storeCells]
theorem wpList_append_nil_any {ops : Array Oper} {rest : List Oper} {o : Oper} {a : Act} {Q : Exit → Act → World → Prop} (hgd : o.guard = none) (s x : Operand) (t : TypeId)
    (ho : o.op = .call { callee := .builtin .append, args := #[s, x], argTypes := #[t, t] })
    (base : Nat) (e : TypeId) (i : TypeInfo) (size : Nat) (ht : P.underlying t = some (.slice e)) (hi : P.info? e = some i)
    (v : Value) (n : Nat) (xs : List Value) (hs : a.eval s = v) (hown : w.ownsRow base e size v n xs) (c : Nat) (hx : a.eval x = .slice none 0 c)
    (h : wpList P ops Q rest (a.put o.dst v) w) : wpList P ops Q (o :: rest) a w := by
  refine wpList_plain hgd fun K hK => ?_
  have hrun := run_append_nil_any (P := P) (w := w) base t o.type e i size ht hi v n xs hown c
  unfold Oper.wp
  simp [execOp, ho, resolve, invoke, builtin, hs, hx, hrun, Result.andThen]
  exact hK _ _ h
end
theorem news_ints {w : World} {B c : Nat} {ad : Addr} {xs : List Int} (h : SliceR w B 1 IntR (.slice (some ad) xs.length c) xs) : ∀ j u, (xs.map (Value.int .i64))[j]? = some u → w.cell? (ad.add j) = some u := by
  intro j u hu
  rw [List.getElem?_map] at hu
  obtain ⟨x, hx, rfl⟩ := Option.map_eq_some_iff.1 hu
  have hj := (List.getElem?_eq_some_iff.1 hx).1
  obtain ⟨b, off, y, cs, e, hb, hy, -, ⟨rfl, _⟩, hat⟩ := h.at_ hj
  injection e with e
  subst e
  rw [hx] at hy; injection hy with hy; subst hy
  have h1 : w.cell? ⟨b, off + j, none⟩ = some (.int .i64 x) := by simpa using hat 0 _ rfl
  by_cases hj0 : j = 0
  · subst hj0; simpa [Addr.add] using h1
  · simpa [Addr.add, hj0] using h1
/-- worlds in which block g holds these cells -/
structure BoxAt (g : Nat) (cs : List Value) where
  wd : World
  here : HeadAt wd g cs
def accV (x : TExit) (j : Nat) : List Int := x.sets.map (·.val) ++ (x.makes.take j).flatMap (fun m => m.cell :: m.vals)
theorem accV_next {x : TExit} {j : Nat} {m : TMake} (h : x.makes[j]? = some m) : accV x (j + 1) = (accV x j ++ [m.cell]) ++ m.vals := by
  unfold accV
  rw [take_snoc h, List.flatMap_append]
  simp
set_option maxRecDepth 100000 in
theorem accV_len {x : TExit} (h : Small x) : ∀ j, (accV x j).length ≤ 1000 + j * 1001
  | 0 => by unfold accV; rw [List.take_zero, List.flatMap_nil, List.append_nil, List.length_map]; have := h.1; omega
  | j + 1 => by
    have ih := accV_len h j
    cases e : x.makes[j]? with
    | none =>
      have hj := List.getElem?_eq_none_iff.1 e
      have : accV x (j + 1) = accV x j := by unfold accV; rw [List.take_of_length_le (by omega), List.take_of_length_le (by omega)]
      rw [this]; omega
    | some m =>
      have hv := h.2.2 m (List.mem_of_getElem? e)
      rw [accV_next e, List.length_append, List.length_append]
      simp only [List.length_cons, List.length_nil]
      omega
theorem exitVals_wf {w : World} {B : Nat} {cs : List Value} {x : TExit} (h : ExitR w B cs x) : ∀ v ∈ exitVals x, wfi v := by
  obtain ⟨s, m, rfl, hs, hm, -⟩ := h
  intro v hv
  rcases List.mem_append.1 hv with hv | hv
  · obtain ⟨y, hy, rfl⟩ := List.mem_map.1 hv
    obtain ⟨_, -, -, h1⟩ := hs.mem hy
    exact h1
  · obtain ⟨y, hy, hv⟩ := List.mem_flatMap.1 hv
    obtain ⟨_, u, -, hu, h1, -⟩ := hm.mem hy
    rcases List.mem_cons.1 hv with rfl | hv
    · exact h1
    · obtain ⟨_, -, h2⟩ := hu.mem hv
      exact h2
set_option maxHeartbeats 4000000 in
set_option maxRecDepth 100000 in
theorem values_d (cs : List Value) (x : TExit) (w : World) (hx : ExitR w w.heap.size cs x) (hsm : Small x) : Calls Tryd.prog 46 #[.agg ⟨cs⟩] w (GivesInts (exitVals x) w) := by
  have HWF := Lib.hid (exitVals_wf hx)
  have HLEN := Lib.hid (accV_len hsm)
  obtain ⟨s, m, rfl, hs, hm, wa, ws⟩ := hx
  have HS := Lib.hid hs
  have HM := Lib.hid hm
  have SM := Lib.hid hsm
  obtain ⟨S, cS, rfl, ls1, ls2, -⟩ := hs
  obtain ⟨M, cM, rfl, lm1, lm2, -⟩ := hm
  unfold maxLen at ls2 lm2
  have hss := hsm.1
  have hmm := hsm.2.1
  obtain ⟨w1, hw1⟩ : ∃ w1, w1 = w.alloc (.cells #[.int .i64 x.at_, .int .i64 x.steps, .slice S x.sets.length cS, .slice M x.makes.length cM] 32) := ⟨_, rfl⟩
  have K1 : Hid (Below w.heap.size w w1) := by rw [hw1]; exact below_one _ _
  have D0 : Hid (w1.heap[w.heap.size]? = some (.cells #[.int .i64 x.at_, .int .i64 x.steps, .slice S x.sets.length cS, .slice M x.makes.length cM] 32 (0, 0))) := by rw [hw1]; exact heap_last _ _
  have hz1 : w.heap.size < w1.heap.size := (Array.getElem?_eq_some_iff.1 D0.out).1
  have HW := Lib.hid hw1
  obtain ⟨q0, hq0, hq1, hq2, hq3⟩ := info_parts infoInt
  clear hw1 wa ws hsm
  go_enter Tryd.func46, Tryd.ntmps46
  go_upto_region 2 with fail
  rw [← HW.out]
  have d2 := cell_of_row w1 w.heap.size 2 _ _ _ D0.out
  go_wp2_with fail
  clear d2
  go_loopw [3, 11] (fun a i wr => ∃ j : Nat, i = .int .i64 j ∧ j ≤ x.sets.length ∧ Hid (wr.ownsRow w1.heap.size 3 1 a j (((x.sets.take j).map (·.val)).map (.int .i64))) ∧ Hid (Below w1.heap.size w1 wr)) (fun _ i _ => x.sets.length - (RowKit.intOf i).toNat)
  case atStart => exact ⟨0, rfl, by omega, World.ownsRow_nil _ _ _ _, Below.refl _ _⟩
  case round =>
    obtain ⟨j, rfl, hj, OA, KW⟩ := hrel
    obtain ⟨A7, c7, rfl⟩ := own_len OA.out
    have hsz := KW.out.size
    have KK := Lib.hid (K1.out.trans (KW.out.mono K1.out.size))
    by_cases hlt : j < x.sets.length
    · obtain ⟨b, off, y, ys, rfl, hb, hy, -, ⟨rfl, wy1, wy2⟩, hat⟩ := HS.out.at_ hlt
      have hji : (j : Int) < x.sets.length := by omega
      have g0 : wr.cell? ⟨b, off + j * 2, none⟩ = some (.int .i64 y.reg) := (KK.out.cell hb).trans (hat 0 _ rfl)
      have g1 : wr.cell? ⟨b, off + j * 2 + 1, none⟩ = some (.int .i64 y.val) := (KK.out.cell hb).trans (hat 1 _ rfl)
      have hzb : b < wr.heap.size := Nat.lt_of_lt_of_le hb KK.out.size
      have HY := Lib.hid hy
      obtain ⟨L, hL⟩ : ∃ L, ((x.sets.take j).map (·.val)).map (Value.int .i64) = L := ⟨_, rfl⟩
      rw [hL] at OA
      have HL := Lib.hid hL
      clear hat hy wy1 wy2 hL
      go_wp2_with (at_builtin; refine wpList_append_own _ rfl _ _ 38 rfl w1.heap.size 3 q0 (.int .i64 0) 1 8 Tryd.underlying38 hq0 hq1 hq2 hq3 rfl (by decide) (.slice A7 j c7) j L rfl ((OA.out.alloc _).alloc _) ⟨wr.heap.size + 1, 0, none⟩ 1 1 [.int .i64 y.val] rfl rfl ?c1 ?c2 ?c3 ?c4 ?c5 ?_)
      case c1 => exact World.news_of_block (cs := #[.int .i64 y.val]) (by have := heap_last (wr.alloc (.cells #[.int .i64 y.reg, .int .i64 y.val] 99)) (.cells #[.int .i64 y.val] 3); simpa using this)
      case c2 => intro u hu; simp at hu; subst hu; rfl
      case c3 => unfold maxLen; omega
      case c4 => omega
      case c5 => simp; omega
      intro v' w6 hown hg _
      have O7 := Lib.hid hown
      have KB := Lib.hid (grow_below (B' := w1.heap.size) ((OA.out.alloc (.cells #[.int .i64 y.reg, .int .i64 y.val] 99)).alloc (.cells #[.int .i64 y.val] 3)) hg (Nat.le_refl _) (by simp; omega))
      clear hown hg
      go_wp2_with fail
      go_roundw
      case rel => exact ⟨j + 1, by go_num, by omega, by rw [take_snoc HY.out, List.map_append, List.map_append, HL.out]; exact O7.out, ((KW.out.alloc (by omega) _).alloc (by simp; omega) _).trans KB.out⟩
      case measure => simp [RowKit.intOf]; omega
    · have hji : ¬ (j : Int) < x.sets.length := by omega
      obtain rfl : j = x.sets.length := by omega
      have OB : Hid (wr.ownsRow w1.heap.size 3 1 (.slice A7 x.sets.length c7) (accV x 0).length ((accV x 0).map (.int .i64))) := by
        have := OA.out
        rw [take_all_len (Nat.le_refl _)] at this
        exact Lib.hid (by unfold accV; simpa using this)
      have d3 := cell_on KW.out (cell_of_row w1 w.heap.size 3 _ _ _ D0.out)
      have hzr : w.heap.size < wr.heap.size := Nat.lt_of_lt_of_le hz1 KW.out.size
      clear OA hj hlt
      go_wp2_with fail
      clear d3
      go_loopw [3, 24] (fun a i wx => ∃ j : Nat, i = .int .i64 j ∧ j ≤ x.makes.length ∧ Hid (wx.ownsRow w1.heap.size 3 1 a (accV x j).length ((accV x j).map (.int .i64))) ∧ Hid (Below w1.heap.size w1 wx)) (fun _ i _ => x.makes.length - (RowKit.intOf i).toNat)
      case atStart => exact ⟨0, rfl, by omega, OB, KW⟩
      case round =>
        clear OB KW KK hsz hzr
        obtain ⟨j, rfl, hj, OA, KW⟩ := hrel
        obtain ⟨A8, c8, rfl⟩ := own_len OA.out
        have KK := Lib.hid (K1.out.trans (KW.out.mono K1.out.size))
        have hsz := KW.out.size
        by_cases hlt : j < x.makes.length
        · obtain ⟨b, off, y, ys, rfl, hb, hy, -, ⟨vv, rfl, hvv, wy1, wy2, wy3⟩, hat⟩ := HM.out.at_ hlt
          have HV := Lib.hid hvv
          obtain ⟨V, cV, rfl, lv1, lv2, -⟩ := id hvv
          unfold maxLen at lv2
          have hji : (j : Int) < x.makes.length := by omega
          have g0 : wr.cell? ⟨b, off + j * 4, none⟩ = some (.int .i64 y.cell) := (KK.out.cell hb).trans (hat 0 _ rfl)
          have g1 : wr.cell? ⟨b, off + j * 4 + 1, none⟩ = some (.int .i64 y.kind) := (KK.out.cell hb).trans (hat 1 _ rfl)
          have g2 : wr.cell? ⟨b, off + j * 4 + 2, none⟩ = some (.int .i64 y.num) := (KK.out.cell hb).trans (hat 2 _ rfl)
          have g3 : wr.cell? ⟨b, off + j * 4 + 3, none⟩ = some (.slice V y.vals.length cV) := (KK.out.cell hb).trans (hat 3 _ rfl)
          have hzb : b < wr.heap.size := Nat.lt_of_lt_of_le hb KK.out.size
          have HY := Lib.hid hy
          have hvl := SM.out.2.2 y (List.mem_of_getElem? hy)
          have hal := HLEN.out j
          obtain ⟨n8, hn8⟩ : ∃ n, (accV x j).length = n := ⟨_, rfl⟩
          obtain ⟨L, hL⟩ : ∃ L, (accV x j).map (Value.int .i64) = L := ⟨_, rfl⟩
          have hnL : L.length = n8 := by rw [← hL, List.length_map, hn8]
          rw [hL, hn8] at OA
          rw [hn8] at hal
          have HL := Lib.hid hL
          have HN8 := Lib.hid hn8
          rw [hn8]
          obtain ⟨wa, hwa⟩ : ∃ wa, wa = wr.alloc (.cells #[.int .i64 y.cell, .int .i64 y.kind, .int .i64 y.num, .slice V y.vals.length cV] 101) := ⟨_, rfl⟩
          have LA : Hid (Below wr.heap.size wr wa) := by rw [hwa]; exact below_one _ _
          have AX : Hid (wa.heap[wr.heap.size]? = some (.cells ⟨[.int .i64 y.cell, .int .i64 y.kind, .int .i64 y.num, .slice V y.vals.length cV]⟩ 101 (0, 0))) := by rw [hwa]; exact heap_last _ _
          have hza : wr.heap.size < wa.heap.size := (Array.getElem?_eq_some_iff.1 AX.out).1
          have AO : Hid (wa.ownsRow w1.heap.size 3 1 (.slice A8 n8 c8) n8 L) := by rw [hwa]; exact OA.out.alloc _
          have AK := Lib.hid (KW.out.trans (LA.out.mono KW.out.size))
          have HWA := Lib.hid hwa
          clear hat hy wy1 wy2 wy3 hwa hL hn8 hvv OA
          go_upto_region 10 with fail
          rw [← HWA.out]
          clear g0 g1 g2 g3
          haveI : Nonempty (BoxAt wr.heap.size [.int .i64 y.cell, .int .i64 y.kind, .int .i64 y.num, .slice V y.vals.length cV]) := ⟨⟨wa, HeadAt.of_row AX.out⟩⟩
          have e0 : ∀ E : BoxAt wr.heap.size [.int .i64 y.cell, .int .i64 y.kind, .int .i64 y.num, .slice V y.vals.length cV], E.wd.cell? ⟨wr.heap.size, 0, none⟩ = some (.int .i64 y.cell) := fun E => E.here 0 _ rfl
          have e3 : ∀ E : BoxAt wr.heap.size [.int .i64 y.cell, .int .i64 y.kind, .int .i64 y.num, .slice V y.vals.length cV], E.wd.cell? ⟨wr.heap.size, 3, none⟩ = some (.slice V y.vals.length cV) := fun E => E.here 3 _ rfl
          refine wp_region_moves (fun w' => ∃ E : BoxAt wr.heap.size [.int .i64 y.cell, .int .i64 y.kind, .int .i64 y.num, .slice V y.vals.length cV], w' = E.wd) [0] [1, 2, 5, 6] [3, 4, 7, 8] [3, 4] _ (by kernel_rfl) (by kernel_rfl) (by simp only [List.cons_append, List.nil_append, List.filterMap_cons, List.filterMap_nil, List.getElem?_toArray, List.getElem?_cons_zero, List.getElem?_cons_succ]; rfl) (fun _ _ d _ _ h => by cases d <;> exact h) ⟨⟨wa.drew, HeadAt.of_row AX.out⟩, rfl⟩ ?_
          show wpQuiet _ _ _ _ [_, _, _, _, _] _
          generalize hqq : (fun a' => wpMs _ _ _ _ _ _ a' _) = qq
          have HQQ := Lib.hid hqq
          clear hqq
          repeat (go_big_quiet_step (fail))
          refine wpQuiet_nil ?_
          rw [← HQQ.out]
          clear HQQ qq e0 e3
          refine wpMs_step rfl (fun K hK => ?_)
          go_simp
          refine hK _ _ (fun _ => ⟨⟨(wa.alloc (.cells #[.int .i64 y.cell] 3)).drew, HeadAt.of_row (heap_old AX.out _)⟩, rfl⟩) ?_
          clear hK K
          obtain ⟨wb, hwb⟩ : ∃ wb, wb = (wa.alloc (.cells #[.int .i64 y.cell] 3)).drew := ⟨_, rfl⟩
          have BB : Hid (wb.heap[wa.heap.size]? = some (.cells #[.int .i64 y.cell] 3 (0, 0))) := by rw [hwb]; exact heap_last wa _
          have BX : Hid (wb.heap[wr.heap.size]? = some (.cells ⟨[.int .i64 y.cell, .int .i64 y.kind, .int .i64 y.num, .slice V y.vals.length cV]⟩ 101 (0, 0))) := by rw [hwb]; exact heap_old AX.out _
          have BO : Hid (wb.ownsRow w1.heap.size 3 1 (.slice A8 n8 c8) n8 L) := by rw [hwb]; exact AO.out.alloc _
          have BK : Hid (Below w1.heap.size w1 wb) := by rw [hwb]; exact (AK.out.alloc AK.out.size _).drew
          have HWB := Lib.hid hwb
          clear hwb
          rw [← HWB.out]
          refine wpMs_step rfl (fun K hK => ?_)
          refine Eq.mpr (if_pos ?hw) ?_
          case hw => rfl
          refine wp_append_own _ _ _ 38 rfl w1.heap.size 3 q0 (.int .i64 0) 1 8 Tryd.underlying38 hq0 hq1 hq2 hq3 rfl (by decide) (.slice A8 n8 c8) n8 L rfl BO.out ⟨wa.heap.size, 0, none⟩ 1 1 [.int .i64 y.cell] rfl rfl ?d1 ?d2 ?d3 ?d4 ?d5 ?_
          case d1 => exact World.news_of_block (cs := #[.int .i64 y.cell]) BB.out
          case d2 => intro u hu; simp at hu; subst hu; rfl
          case d3 => unfold maxLen; omega
          case d4 => omega
          case d5 => exact BK.out.size
          intro v' w6 hown hg _
          have O7 := Lib.hid hown
          have CX := Lib.hid (grow_far BO.out hg BX.out (by decide))
          have CK := Lib.hid (BK.out.trans (grow_below (B' := w1.heap.size) BO.out hg (Nat.le_refl _) BK.out.size))
          obtain ⟨A', n', c', rfl⟩ := own_is_slice hown
          clear hown hg
          refine hK _ _ (fun _ => ⟨⟨w6, HeadAt.of_row CX.out⟩, rfl⟩) ?_
          clear hK K
          have CKK := Lib.hid (K1.out.trans (CK.out.mono K1.out.size))
          have HV6 := Lib.hid (HV.out.keep (B' := w6.heap.size) CKK.out.size (fun _ hp => CKK.out.cell hp) (fun _ _ h => h))
          refine wpMs_list [7, 8] _ _ (by kernel_rfl) (by kernel_rfl) ?_
          simp only [List.filterMap_cons, List.filterMap_nil, List.getElem?_toArray, List.getElem?_cons_zero, List.getElem?_cons_succ]
          have hfin : Hid ((accV x (j + 1)).length = n8 + 1 + y.vals.length ∧ (accV x (j + 1)).map (Value.int .i64) = (L ++ [.int .i64 y.cell]) ++ y.vals.map (.int .i64)) := by
            rw [show Hid _ = _ from rfl, accV_next HY.out, List.length_append, List.length_append, HN8.out, List.map_append, List.map_append, HL.out]
            exact ⟨rfl, rfl⟩
          cases V
          case none =>
            have hv0 : y.vals.length = 0 := by
              rcases Nat.eq_zero_or_pos y.vals.length with h | h
              · exact h
              · obtain ⟨A9, c9, e9, -, -, h9⟩ := HV6.out
                obtain ⟨b9, o9, h9, -⟩ := h9 h
                injection e9 with e9
                rw [h9] at e9; cases e9
            have hv1 : y.vals = [] := List.length_eq_zero_iff.1 hv0
            rw [hv0]
            refine wpList_append_nil_any rfl _ _ 38 rfl w1.heap.size 3 q0 1 Tryd.underlying38 hq0 (.slice A' n' c') (n8 + 1) (L ++ [.int .i64 y.cell]) rfl O7.out cV rfl ?_
            have O8 : Hid (w6.ownsRow w1.heap.size 3 1 (.slice A' n' c') (accV x (j + 1)).length ((accV x (j + 1)).map (.int .i64))) := by
              rw [hfin.out.1, hfin.out.2, hv1]
              exact Lib.hid (by simpa using O7.out)
            clear hv0 hv1
            go_wp2_with fail
            go_roundw
            case rel => exact ⟨j + 1, by go_num, by omega, O8, CK⟩
            case measure => simp [RowKit.intOf]; omega
          case some ad =>
            refine wpList_append_own _ rfl _ _ 38 rfl w1.heap.size 3 q0 (.int .i64 0) 1 8 Tryd.underlying38 hq0 hq1 hq2 hq3 rfl (by decide) (.slice A' n' c') (n8 + 1) (L ++ [.int .i64 y.cell]) rfl O7.out ad y.vals.length cV (y.vals.map (.int .i64)) rfl (by simp) (news_ints HV6.out) (fun u hu => by obtain ⟨z, _, rfl⟩ := List.mem_map.1 hu; rfl) (by unfold maxLen; omega) (by omega) CK.out.size ?_
            intro v2 w7 hown2 hg2 _
            have O8 : Hid (w7.ownsRow w1.heap.size 3 1 v2 (accV x (j + 1)).length ((accV x (j + 1)).map (.int .i64))) := by
              rw [hfin.out.1, hfin.out.2]
              exact hown2
            have CL := Lib.hid (CK.out.trans (grow_below (B' := w1.heap.size) O7.out hg2 (Nat.le_refl _) CK.out.size))
            obtain ⟨A'', n'', c'', rfl⟩ := own_is_slice hown2
            clear hown2 hg2
            go_wp2_with fail
            go_roundw
            case rel => exact ⟨j + 1, by go_num, by omega, O8, CL⟩
            case measure => simp [RowKit.intOf]; omega
        · obtain rfl : j = x.makes.length := by omega
          have hji2 : ¬ (x.makes.length : Int) < x.makes.length := by omega
          have SU : Hid (SliceR wr wr.heap.size 1 IntR (.slice A8 (accV x x.makes.length).length c8) (exitVals x)) := by
            have e : accV x x.makes.length = exitVals x := by unfold accV exitVals; rw [List.take_length]
            rw [e]
            have h1 := OA.out
            rw [e] at h1
            exact sliceR_of_own h1 HWF.out
          go_wp2_with fail
          go_ret
          exact ⟨_, rfl, SU.out, KK.out⟩
end Go.Proofs.YtmccomeihnaanaaDoor
