/- dead.Do: the walk. -/
import Derived.Test.YtmccomeihnaanaaDoorChkG
import Derived.Test.YtmccomeihnaanaaDoorDeadE
import Derived.Test.YtmccomeihnaanaaDoorDeadF
import Derived.Test.YtmccomeihnaanaaDoorRound
import Derived.Sort.CutIn
import Derived.Test.YtmccomeihnaanaaDoorCseD
import Derived.RangeFuncFrom
import Derived.RangeFuncNested
import Derived.RangeFuncBound
import Derived.RangeFuncCalls
namespace Go.Proofs.YtmccomeihnaanaaDoor
open Go.RowKit Go.Shelf

theorem run_store_funcD (P : Program) (w : World) (a : Addr) (f : Fn) (x y : Array Value) (m : Mode) : (store a (.func f x y) m).run P w = stored P w a (.func f x y) m := run_store P w a _ m rfl
attribute [local go_sem] run_store_funcD Oper.semAt_some

theorem infoOf_ext : (Tryd.prog.info? 32).map (fun i => (i.zero.map (·.cells.size), i.size, i.bytes)) = some (some 4, 4, 64) := by kernel_rfl
set_option maxHeartbeats 1000000 in
set_option maxRecDepth 100000 in
theorem clone_ext (v : Value) (rows : List (List Value)) (w : World) (hs : SliceR w w.heap.size 4 (Raw 4) v rows) (h1 : ∀ r ∈ rows, ∀ u ∈ r, u.oneCell' = true) (hlen : rows.length * 64 ≤ 140737488355328) :
    Calls Tryd.prog 45 #[v] w fun e w' => ∃ u, e = .returned u ∧ w'.ownsRow w.heap.size 32 4 u rows.length (rows.flatMap id) ∧ Below w.heap.size w w' := by
  have hraw : ∀ x ∈ rows, x.length = 4 := fun x hx => by obtain ⟨cs, _, h⟩ := hs.mem hx; exact h
  obtain ⟨A, cap, rfl, hc1, hc2, hc3⟩ := id hs
  cases A with
  | none =>
    have e : rows = [] := by
      rcases Nat.eq_zero_or_pos rows.length with h | h
      · exact List.length_eq_zero_iff.1 h
      · obtain ⟨b, off, h, _⟩ := hc3 h; cases h
    subst e
    have hn : ∀ W, (binOp .eql 28 (.slice none 0 cap) (.slice none 0 0)).run Tryd.prog W = .ok (.bool true) W := fun W => Lib.run_eql_slice_nil W _ _ _ _ _ _ _ Tryd.underlying28
    clear hc3 hs hraw h1
    simp only [List.length_nil] at *
    go_enter Tryd.func45, Tryd.ntmps45
    go_wp2_with fail
    go_ret
    exact ⟨_, rfl, World.ownsRow_nil _ _ _ _, Below.refl _ _⟩
  | some ad =>
    have hn : ∀ W, (binOp .eql 28 (.slice (some ad) rows.length cap) (.slice none 0 0)).run Tryd.prog W = .ok (.bool false) W := fun W => Lib.run_eql_slice_nil W _ _ _ _ _ _ _ Tryd.underlying28
    have hnews : ∀ j u, (rows.flatMap id)[j]? = some u → w.cell? (ad.add j) = some u := by
      rcases Nat.eq_zero_or_pos rows.length with h | h
      · have e : rows = [] := List.length_eq_zero_iff.1 h
        subst e; simp
      · obtain ⟨b, off, h, _⟩ := hc3 h
        injection h with h
        subst h
        exact news_of_slice (by decide) hraw (fun cs x h => h.1) hs
    obtain ⟨i0, hi, hq⟩ := Option.map_eq_some_iff.1 infoOf_ext
    simp only [Prod.mk.injEq] at hq
    obtain ⟨hz, hz1, hz2⟩ := hq
    obtain ⟨z, hz0, hz3⟩ := Option.map_eq_some_iff.1 hz
    have HS := Lib.hid hnews
    have HI := Lib.hid hi
    have HZ := Lib.hid hz0
    have HZ1 := Lib.hid hz1
    have HZ2 := Lib.hid hz2
    have HZ3 := Lib.hid hz3
    have hl : rows.length ≤ maxLen := by unfold maxLen; omega
    have HL := Lib.hid hl
    have HR := Lib.hid hraw
    have HO := Lib.hid (ones_flat (f := id) rows h1)
    have HF := Lib.hid (flat_len (f := id) rows hraw)
    clear hnews hi hz0 hz1 hz2 hz3 hz hl hraw h1 hs hc3
    go_enter Tryd.func45, Tryd.ntmps45
    go_wp2_with (at_builtin; refine wpList_append_own _ rfl _ _ 28 rfl w.heap.size 32 i0 z 4 64 Tryd.underlying28 HI.out HZ.out HZ1.out HZ2.out HZ3.out (by decide) (.slice (some ⟨w.heap.size, 0, none⟩) 0 0) 0 [] rfl (own_empty _ _ _) ad rows.length cap (rows.flatMap id) rfl HF.out (fun j u hj => old_one (HS.out j u hj) _) HO.out (by rw [Nat.zero_add]; exact HL.out) (by rw [Nat.zero_add]; exact hlen) (by simp) ?_)
    intro v' w6 hown hg _
    have KG := Lib.hid hg
    have KO := Lib.hid hown
    clear hg hown
    go_wp2_with fail
    go_ret
    refine ⟨_, rfl, by simpa using KO.out, Below.grown (below_one w _) KG.out (by simp) (by simp [Value.ownBlock])⟩

theorem mk_boolsD (n : Nat) (hn : n ≤ 600) (W : World) : (Instr.makeSlice 91 (.int .i64 (n : Int)) (.int .i64 (n : Int))).run Tryd.prog W = .ok (.slice (some ⟨W.heap.size, 0, none⟩) n n) (W.alloc (.cells ⟨List.replicate n (.bool false)⟩ 4)) := mk_bools n hn W
def DeadPost (p : CProg) (t : TTrace) (w : World) (e : Ending) (w' : World) : Prop :=
  ∃ cs, e = .returned (.tuple #[.agg ⟨cs⟩, .int .i64 (deadM (ceOf p t) t).2]) ∧ TraceR w' w'.heap.size cs (deadM (ceOf p t) t).1 ∧ Below w.heap.size w w'
set_option maxHeartbeats 8000000 in
set_option maxRecDepth 100000 in
theorem deadDo_c (pcs ca : List Value) (p : CProg) (t : TTrace) (w : World) (hp : ProgR w w.heap.size pcs p) (ht : TraceR w w.heap.size ca t) (tab : Tab w) :
    Calls Tryd.prog 22 #[.agg ⟨pcs⟩, .agg ⟨ca⟩] w (DeadPost p t w) := by
  have HT := Lib.hid ht
  have HIp := Lib.hid hp.size3
  have HIt := Lib.hid ht.size13
  obtain ⟨Ai, ni, p3, qi⟩ := ht.at3
  obtain ⟨Ae, ne, p4, qe⟩ := ht.at4
  have QI := Lib.hid qi
  have QE := Lib.hid qe
  have P3 := Lib.hid p3
  have P4 := Lib.hid p4
  obtain ⟨w0, hw0⟩ : ∃ w0, w0 = ((w.alloc (.cells ⟨pcs⟩ 26)).alloc (.cells ⟨ca⟩ 34)).alloc (.cells ⟨zeroTrace⟩ 34) := ⟨_, rfl⟩
  have K0 : Hid (Below w.heap.size w w0) := by rw [hw0]; exact (below_two' w _ _).alloc (by simp; omega) _
  have D0 : Hid (w0.heap[w.heap.size]? = some (.cells ⟨pcs⟩ 26 (0, 0))) := by rw [hw0]; exact heap_old (heap_old (heap_last w _) _) _
  have D1 : Hid (w0.heap[w.heap.size + 1]? = some (.cells ⟨ca⟩ 34 (0, 0))) := by rw [hw0]; exact heap_old (heap_two _ _ _) _
  have D2 : Hid (w0.heap[w.heap.size + 1 + 1]? = some (.cells ⟨zeroTrace⟩ 34 (0, 0))) := by rw [hw0]; exact heap_three _ _ _ _
  have hz0 : w.heap.size + 1 + 1 < w0.heap.size := (Array.getElem?_eq_some_iff.1 D2.out).1
  have R1 : Hid (w0.rangeAt w.heap.size 0 pcs) := (HeadAt.of_row D0.out).range
  have R2 : Hid (w0.rangeAt (w.heap.size + 1) 0 ca) := (HeadAt.of_row D1.out).range
  unfold zeroTrace at hw0
  have HW := Lib.hid hw0
  obtain ⟨ce, hce⟩ : ∃ ce, ceOf p t = ce := ⟨_, rfl⟩
  have CE := Lib.hid (check_c pcs ca p t w0 (hp.below K0.out) (ht.below K0.out) (tab.below K0.out))
  unfold DeadPost
  rw [show ceOf p t = ce from hce]
  unfold ceOf at hce
  rw [hce] at CE
  have HCE := Lib.hid hce
  clear hp ht hw0 qi qe hce p3 p4 tab
  refine (callsIn_wide (n := 9)).1 ?_
  refine callsIn_of_wp_marks Tryd.func22 rfl trivial ?_
  simp only [Tryd.ntmps22, List.size_toArray, List.length_cons, List.length_nil, Nat.reduceAdd, Nat.reduceSub, Array.replicate_succ, Array.replicate_zero, List.push_toArray, List.append_toArray, List.nil_append, List.cons_append]
  refine wpIn_wide.2 ?_
  go_wp2_with (first | (refine wpList_load_mid rfl 26 _ rfl w.heap.size 0 rfl pcs _ (by rw [← HW.out]; exact R1.out) Tryd.underlying26 rfl HIp.out ?_) | (refine wpList_load_mid rfl 34 _ rfl (w.heap.size + 1) 0 rfl ca _ (by rw [← HW.out]; exact R2.out) Tryd.underlying34 rfl HIt.out ?_) | fail)
  rw [← HW.out]
  refine CE.out.mono ?_
  rintro e w1 ⟨rfl, k1⟩
  have K1 := Lib.hid (K0.out.trans (k1.mono K0.out.size))
  have E1 := Lib.hid ((k1.block _ (by omega)).trans D1.out)
  have E2 := Lib.hid ((k1.block _ (by omega)).trans D2.out)
  have hz1 : w.heap.size + 1 + 1 < w1.heap.size := (Array.getElem?_eq_some_iff.1 E2.out).1
  clear k1 R1 R2 CE
  by_cases hc : ce = 0
  case neg =>
    have hc' : (ce != 0) = true := by simpa using hc
    have HN : Hid (deadM ce t = (trace0, ce)) := by unfold deadM Hid; rw [if_pos hc]
    go_wp2_with (refine wpList_store_row rfl 34 _ _ rfl (w.heap.size + 1 + 1) #[.int .i64 0, .int .i64 0, .int .i64 0, .slice none 0 0, .slice none 0 0, .int .i64 0, .int .i64 0, .slice none 0 0, .slice none 0 0, .int .i64 0, .int .i64 0, .slice none 0 0, .slice none 0 0] rfl rfl 34 _ E2.out infoTr13 rfl (all_oneCell_toArray (by simp [Value.oneCell'])) ?_)
    generalize hw9 : World.setRow _ _ _ = w9
    have QR : Hid (w9.heap[w.heap.size + 1 + 1]? = some (.cells #[.int .i64 0, .int .i64 0, .int .i64 0, .slice none 0 0, .slice none 0 0, .int .i64 0, .int .i64 0, .slice none 0 0, .slice none 0 0, .int .i64 0, .int .i64 0, .slice none 0 0, .slice none 0 0] 34 (0, 0))) := by rw [← hw9]; exact setRow_heap _ _ _ _ _ _ E2.out
    have K9 : Hid (Below w.heap.size w w9) := by rw [← hw9]; exact Below.set_row K1.out (by omega) _
    clear hw9
    go_wp2_with fail
    have r0 := cell_of_row w9 (w.heap.size + 1 + 1) 0 _ _ _ QR.out
    have r1 := cell_of_row w9 (w.heap.size + 1 + 1) 1 _ _ _ QR.out
    have r2 := cell_of_row w9 (w.heap.size + 1 + 1) 2 _ _ _ QR.out
    have r3 := cell_of_row w9 (w.heap.size + 1 + 1) 3 _ _ _ QR.out
    have r4 := cell_of_row w9 (w.heap.size + 1 + 1) 4 _ _ _ QR.out
    have r5 := cell_of_row w9 (w.heap.size + 1 + 1) 5 _ _ _ QR.out
    have r6 := cell_of_row w9 (w.heap.size + 1 + 1) 6 _ _ _ QR.out
    have r7 := cell_of_row w9 (w.heap.size + 1 + 1) 7 _ _ _ QR.out
    have r8 := cell_of_row w9 (w.heap.size + 1 + 1) 8 _ _ _ QR.out
    have r9 := cell_of_row w9 (w.heap.size + 1 + 1) 9 _ _ _ QR.out
    have r10 := cell_of_row w9 (w.heap.size + 1 + 1) 10 _ _ _ QR.out
    have r11 := cell_of_row w9 (w.heap.size + 1 + 1) 11 _ _ _ QR.out
    have r12 := cell_of_row w9 (w.heap.size + 1 + 1) 12 _ _ _ QR.out
    rw [HN.out]
    exact ⟨.tuple #[.agg ⟨zeroTrace⟩, .int .i64 ce], by simp [results, Tryd.results22, go_sem, zeroTrace, r0, r1, r2, r3, r4, r5, r6, r7, r8, r9, r10, r11, r12], ⟨_, rfl, zeroTrace_R _ _, K9.out⟩⟩
  subst hc
  have SM := Lib.hid (check_small HCE.out)
  have CUTS := Lib.hid (checkM_cuts HCE.out)
  have hlen := SM.out.ins
  have hxl := SM.out.exitsLen
  have HM : Hid (deadM 0 t = cutM (deadT t) (deadTo t)) := by unfold deadM Hid; rw [if_neg (by simp)]
  have hmk := fun W => mk_boolsD t.exits.length (by omega) W
  have hmi : (t.ins.length : Int) ≤ 300 := by omega
  have hme : (t.exits.length : Int) ≤ 200 := by omega
  have hz1a : w.heap.size + 1 < w1.heap.size := by omega
  have l4 : w1.cell? ⟨w.heap.size + 1, 4, none⟩ = some (.slice Ae t.exits.length ne) := HeadAt.of_row E1.out 4 _ P4.out
  obtain ⟨w2, hw2⟩ : ∃ w2, w2 = w1.alloc (.cells (Array.replicate t.exits.length (.bool false)) 4) := ⟨_, rfl⟩
  have L2 : Hid (Below w1.heap.size w1 w2) := by rw [hw2]; exact below_one _ _
  have K2 := Lib.hid (K1.out.trans (L2.out.mono K1.out.size))
  have F1 := Lib.hid ((L2.out.block _ (by omega)).trans E1.out)
  have F2 := Lib.hid ((L2.out.block _ (by omega)).trans E2.out)
  have FU : Hid (w2.heap[w1.heap.size]? = some (.cells ⟨markRow [] t.exits.length⟩ 4 (0, 0))) := by rw [hw2, markRow_nil]; exact heap_last _ _
  have hz2 : w1.heap.size < w2.heap.size := (Array.getElem?_eq_some_iff.1 FU.out).1
  have HW2 := Lib.hid hw2
  clear hw2
  go_upto_region 5 with fail
  rw [← HW2.out]
  clear l4 hmk
  have l3 : w2.cell? ⟨w.heap.size + 1, 3, none⟩ = some (.slice Ai t.ins.length ni) := HeadAt.of_row F1.out 3 _ P3.out
  go_wp2_with fail
  clear l3
  go_loopw [31] (fun i wr => ∃ j : Nat, i = .int .i64 j ∧ j ≤ t.ins.length ∧ Hid (wr.heap[w1.heap.size]? = some (.cells ⟨markRow ((t.ins.take j).map (·.exit)) t.exits.length⟩ 4 (0, 0))) ∧ Hid (Fined w1.heap.size w2 wr)) (fun i _ => t.ins.length - (RowKit.intOf i).toNat)
  case atStart => exact ⟨0, rfl, by omega, FU, Fined.refl _ _⟩
  case round =>
    obtain ⟨j, rfl, hj, RU, RF⟩ := hrel
    obtain ⟨wo, hwo⟩ : ∃ wo, wo = wr := ⟨_, rfl⟩
    subst hwo
    have BW := Lib.hid (K2.out.trans (RF.out.under (B := w.heap.size) (by omega) K2.out.size))
    have hzo : w1.heap.size < wo.heap.size := (Array.getElem?_eq_some_iff.1 RU.out).1
    by_cases hlt : j < t.ins.length
    · obtain ⟨b, off, x, rfl, hb, hx, wx, hat⟩ := ins_op QI.out hlt
      obtain ⟨g0, g1, g2, g3, g4, g5, g6, g7⟩ := ins_at hat hb BW.out
      have hbz : b < wo.heap.size := by omega
      have hji : (j : Int) < t.ins.length := by omega
      have HX := Lib.hid hx
      obtain ⟨x0, x1⟩ := checkM_exit HCE.out hx
      have hmap : Hid ((t.ins.take (j + 1)).map (·.exit) = (t.ins.take j).map (·.exit) ++ [x.exit]) := by
        rw [show Hid _ = _ from rfl, take_snoc hx, List.map_append]; rfl
      clear hx wx hat
      by_cases c : 0 ≤ x.exit
      · obtain ⟨k, hk⟩ := Int.eq_ofNat_of_zero_le c
        have hkn : k < t.exits.length := by omega
        have HK := Lib.hid hk
        rw [hk] at g5
        have hki : (k : Int) < t.exits.length := by omega
        have LA := Lib.hid (below_one wo (.cells #[.int .i64 x.op, .int .i64 x.a, .int .i64 x.b, .int .i64 x.c, .int .i64 x.n, .int .i64 (k : Int), .int .i64 x.k.kind, .int .i64 x.k.n] 43))
        obtain ⟨wa, hwa⟩ : ∃ wa, wa = wo.alloc (.cells #[.int .i64 x.op, .int .i64 x.a, .int .i64 x.b, .int .i64 x.c, .int .i64 x.n, .int .i64 (k : Int), .int .i64 x.k.kind, .int .i64 x.k.n] 43) := ⟨_, rfl⟩
        have AU : Hid (wa.heap[w1.heap.size]? = some (.cells ⟨markRow ((t.ins.take j).map (·.exit)) t.exits.length⟩ 4 (0, 0))) := by rw [hwa]; exact (LA.out.block _ hzo).trans RU.out
        have AF : Hid (Fined w1.heap.size w2 wa) := by rw [hwa]; exact RF.out.alloc _
        have a5 : wa.cell? ⟨wo.heap.size, 5, none⟩ = some (.int .i64 (k : Int)) := by rw [hwa]; exact cell_of_row _ wo.heap.size 5 _ _ _ (heap_last wo _)
        have HWA := Lib.hid hwa
        clear hwa hk
        go_upto_region 8 with fail
        rw [← HWA.out]
        clear g0 g1 g2 g3 g4 g5 g6 g7
        have cu := HeadAt.of_row AU.out k _ (markRow_at hkn)
        have fu := frozen_of_row wa w1.heap.size k _ _ AU.out
        go_wp2_with fail
        go_roundw
        case rel =>
          refine ⟨j + 1, by go_num, by omega, ?_, AF.out.set_ _ _⟩
          show _ = _
          rw [heap_setCell_same wa w1.heap.size k _ _ _ AU.out, markRow_set hkn, hmap.out, HK.out]
        case measure => simp [RowKit.intOf]; omega
      · have hneg : x.exit < 0 := by omega
        go_wp2_with fail
        go_roundw
        case rel =>
          refine ⟨j + 1, by go_num, by omega, ?_, RF.out.alloc _⟩
          rw [hmap.out, markRow_neg hneg]
          exact heap_old RU.out _
        case measure => simp [RowKit.intOf]; omega
    · obtain rfl : j = t.ins.length := by omega
      have hji : ¬ (t.ins.length : Int) < t.ins.length := by omega
      have UE : Hid (wo.heap[w1.heap.size]? = some (.cells ⟨markRow (t.ins.map (·.exit)) t.exits.length⟩ 4 (0, 0))) := by
        have h1 := RU.out
        rw [List.take_length] at h1
        exact h1
      have RT := Lib.hid (RF.out.row F1.out (by omega))
      have RZ := Lib.hid (RF.out.row F2.out (by omega))
      have hmk := fun W => mk_boolsD t.ins.length (by omega) W
      have hzo1 : w.heap.size + 1 < wo.heap.size := by omega
      have l3 : wo.cell? ⟨w.heap.size + 1, 3, none⟩ = some (.slice Ai t.ins.length ni) := HeadAt.of_row RT.out 3 _ P3.out
      obtain ⟨w3, hw3⟩ : ∃ w3, w3 = ((wo.alloc (.cells (Array.replicate t.ins.length (.bool false)) 4)).alloc (.cells #[.slice (some ⟨wo.heap.size, 0, none⟩) t.ins.length t.ins.length] 91)).alloc (.cells #[.func (.func 44) #[] #[.pointer (some ⟨wo.heap.size + 1, 0, none⟩)]] 92) := ⟨_, rfl⟩
      have L3 : Hid (Below wo.heap.size wo w3) := by rw [hw3]; exact (below_two' wo _ _).alloc (by simp; omega) _
      have K3 := Lib.hid (BW.out.trans (L3.out.mono BW.out.size))
      have GA : Hid (w3.heap[wo.heap.size]? = some (.cells ⟨markRow [] t.ins.length⟩ 4 (0, 0))) := by rw [hw3, markRow_nil]; exact heap_old (heap_old (heap_last wo _) _) _
      have GB : Hid (w3.heap[wo.heap.size + 1]? = some (.cells #[.slice (some ⟨wo.heap.size, 0, none⟩) t.ins.length t.ins.length] 91 (0, 0))) := by rw [hw3]; exact heap_old (heap_two _ _ _) _
      have GF : Hid (w3.heap[wo.heap.size + 1 + 1]? = some (.cells #[.func (.func 44) #[] #[.pointer (some ⟨wo.heap.size + 1, 0, none⟩)]] 92 (0, 0))) := by rw [hw3]; exact heap_three _ _ _ _
      have GU := Lib.hid ((L3.out.block _ hzo).trans UE.out)
      have GT := Lib.hid ((L3.out.block _ hzo1).trans RT.out)
      have GZ := Lib.hid ((L3.out.block _ (by omega)).trans RZ.out)
      have hz3 : wo.heap.size + 1 + 1 < w3.heap.size := (Array.getElem?_eq_some_iff.1 GF.out).1
      have HW3 := Lib.hid hw3
      clear hw3 RU RF UE RT RZ
      go_upto_region 13 with fail
      rw [← HW3.out]
      clear l3 hmk
      obtain ⟨rows, hr1, hr2, hr3⟩ := QE.out.raw
      have HR3 := Lib.hid hr3
      have hones : ∀ r ∈ rows, ∀ u ∈ r, u.oneCell' = true := fun r hr u hu => by
        obtain ⟨i, hi⟩ := List.getElem?_of_mem hr
        have hil := (List.getElem?_eq_some_iff.1 hi).1
        obtain ⟨c, h1, h2⟩ := hr3 i _ (List.getElem?_eq_getElem (by omega))
        rw [hi] at h1
        injection h1 with h1
        subst h1
        obtain ⟨s, m, rfl, ⟨_, _, rfl, -⟩, ⟨_, _, rfl, -⟩, -⟩ := h2
        simp at hu; rcases hu with rfl | rfl | rfl | rfl <;> rfl
      have CL := Lib.hid (clone_ext (.slice Ae t.exits.length ne) rows w3 (hr2.keep K3.out.size (fun _ hp => K3.out.cell hp) (fun _ _ h => h)) hones (by rw [hr1]; omega))
      have l4 : w3.cell? ⟨w.heap.size + 1, 4, none⟩ = some (.slice Ae t.exits.length ne) := HeadAt.of_row GT.out 4 _ P4.out
      have hz31 : w.heap.size + 1 < w3.heap.size := by omega
      clear hones hr2 hr3
      go_wp2_with fail
      refine CL.out.mono ?_
      rintro e w4 ⟨u, rfl, hu, k4⟩
      rw [hr1] at hu
      have OU := Lib.hid hu
      obtain ⟨A9, c9, rfl⟩ := own_len hu
      have MA := Lib.hid ((k4.block _ (by omega)).trans GA.out)
      have MB := Lib.hid ((k4.block _ (by omega)).trans GB.out)
      have MF := Lib.hid ((k4.block _ (by omega)).trans GF.out)
      have MU := Lib.hid ((k4.block _ (by omega)).trans GU.out)
      have MT := Lib.hid ((k4.block _ hz31).trans GT.out)
      have MZ := Lib.hid ((k4.block _ (by omega)).trans GZ.out)
      have K4 := Lib.hid (K3.out.trans (k4.mono K3.out.size))
      have k4s := k4.size
      have t4 := HeadAt.of_row MT.out 4 _ P4.out
      have f4 := frozen_of_row w4 (w.heap.size + 1) 4 _ _ MT.out
      clear hu k4 l4 CL GA GB GF GU GT GZ
      go_upto_region 14 with fail
      obtain ⟨cb, hcb⟩ : ∃ cb : List Value, cb = ca.set 4 (.slice A9 t.exits.length c9) := ⟨_, rfl⟩
      have h4l : 4 < ca.length := (List.getElem?_eq_some_iff.1 P4.out).1
      have hset : (⟨ca⟩ : Array Value).setIfInBounds 4 (.slice A9 t.exits.length c9) = ⟨cb⟩ := by
        apply Array.toList_inj.1
        rw [Array.toList_setIfInBounds, hcb]
      obtain ⟨w5, hw5⟩ : ∃ w5, w5 = w4.setCell ⟨w.heap.size + 1, 4, none⟩ (.slice A9 t.exits.length c9) := ⟨_, rfl⟩
      have NT : Hid (w5.heap[w.heap.size + 1]? = some (.cells ⟨cb⟩ 34 (0, 0))) := by
        rw [hw5, heap_setCell_same w4 _ 4 _ _ _ MT.out, hset]; rfl
      have far : ∀ (k : Nat) (o : Obj), w4.heap[k]? = some o → k ≠ w.heap.size + 1 → w5.heap[k]? = some o := fun k o h hk => by
        rw [hw5, heap_setCell_other w4 _ _ _ (by show k ≠ w.heap.size + 1; exact hk)]; exact h
      have NA := Lib.hid (far _ _ MA.out (by omega))
      have NB := Lib.hid (far _ _ MB.out (by omega))
      have NF := Lib.hid (far _ _ MF.out (by omega))
      have NU := Lib.hid (far _ _ MU.out (by omega))
      have NZ := Lib.hid (far _ _ MZ.out (by omega))
      have NO : Hid (w5.ownsRow w3.heap.size 32 4 (.slice A9 t.exits.length c9) t.exits.length (rows.flatMap id)) := by rw [hw5]; exact own_far OU.out MT.out (by decide) _ _
      have K5 : Hid (Below w.heap.size w w5) := by rw [hw5]; exact Below.set_at K4.out (by omega) _ _
      have n4 : w5.cell? ⟨w.heap.size + 1, 4, none⟩ = some (.slice A9 t.exits.length c9) := HeadAt.of_row NT.out 4 _ (by rw [hcb]; simp [h4l])
      have HW5 := Lib.hid hw5
      have HCB := Lib.hid hcb
      have hz5 : w3.heap.size ≤ w5.heap.size := by rw [hw5]; simp [World.setCell]; exact k4s
      clear hw5 hcb far t4 f4 MA MB MF MU MT MZ OU hset
      rw [← HW5.out]
      go_wp2_with fail
      clear n4
      go_loopw [55] (fun i wr => ∃ j : Nat, i = .int .i64 j ∧ j ≤ t.exits.length ∧ Hid (wr.ownsRow w3.heap.size 32 4 (.slice A9 t.exits.length c9) t.exits.length ((dRows (usedM t) rows j).flatMap id)) ∧
        Hid (wr.heap[wo.heap.size]? = some (.cells ⟨markRow (((deadExits t).take j).flatMap exitVals) t.ins.length⟩ 4 (0, 0))) ∧ Hid (KeptU wo.heap.size (Value.slice A9 t.exits.length c9).ownBlock w5 wr)) (fun i _ => t.exits.length - (RowKit.intOf i).toNat)
      case atStart => exact ⟨0, rfl, by omega, by rw [dRows_zero]; exact NO, NA, KeptU.refl _ _ _⟩
      case round =>
        obtain ⟨j, rfl, hj, RO, RA, RK⟩ := hrel
        obtain ⟨wi, hwi⟩ : ∃ wi, wi = wr := ⟨_, rfl⟩
        subst hwi
        by_cases hlt : j < t.exits.length
        · have hji : (j : Int) < t.exits.length := by omega
          obtain ⟨G, rfl, hG⟩ := own_head RO.out (by omega)
          obtain ⟨y, hy⟩ : ∃ y, t.exits[j]? = some y := ⟨_, List.getElem?_eq_getElem hlt⟩
          obtain ⟨r, hr, hx⟩ := HR3.out j y hy
          have hfour : ∀ x ∈ rows, x.length = 4 := fun x hx => by
            obtain ⟨i, hi⟩ := List.getElem?_of_mem hx
            have hil := (List.getElem?_eq_some_iff.1 hi).1
            obtain ⟨c, h1, h2⟩ := HR3.out i _ (List.getElem?_eq_getElem (by omega))
            rw [hi] at h1
            injection h1 with h1
            subst h1
            obtain ⟨s, m, rfl, -⟩ := h2
            rfl
          obtain ⟨s, m, rfl, hs, hm, wy1, wy2⟩ := hx
          obtain ⟨S, cS, rfl, -⟩ := id hs
          obtain ⟨M, cM, rfl, -⟩ := id hm
          have hat : ∀ k, k < 4 → wi.cell? ⟨G, j * 4 + k, none⟩ = ([.int .i64 y.at_, .int .i64 y.steps, .slice S y.sets.length cS, .slice M y.makes.length cM] : List Value)[k]? := fun k hk => by
            rw [World.ownsRow.cellAt RO.out (j * 4 + k) (by omega)]
            exact flat_row _ j k _ (dRows_four hfour j) ((dRows_here _ rows j).trans hr) hk
          have g0 : wi.cell? ⟨G, j * 4, none⟩ = some (.int .i64 y.at_) := hat 0 (by omega)
          have g1 : wi.cell? ⟨G, j * 4 + 1, none⟩ = some (.int .i64 y.steps) := hat 1 (by omega)
          have g2 : wi.cell? ⟨G, j * 4 + 2, none⟩ = some (.slice S y.sets.length cS) := hat 2 (by omega)
          have g3 : wi.cell? ⟨G, j * 4 + 3, none⟩ = some (.slice M y.makes.length cM) := hat 3 (by omega)
          have hzG : G < wi.heap.size := cell_lt g0
          have IU := Lib.hid (RK.out.row NU.out (by omega) (by simp [Value.ownBlock]; omega))
          have IB := Lib.hid (RK.out.row NB.out (by omega) (by simp [Value.ownBlock]; omega))
          have IF := Lib.hid (RK.out.row NF.out (by omega) (by simp [Value.ownBlock]; omega))
          have IT := Lib.hid (RK.out.row NT.out (by omega) (by simp [Value.ownBlock]; omega))
          have BI := Lib.hid (K5.out.trans (RK.out.below (B := w.heap.size) (by omega) (fun k e => by simp [Value.ownBlock] at e; omega) K5.out.size))
          have hzU : w1.heap.size < wi.heap.size := (Array.getElem?_eq_some_iff.1 IU.out).1
          obtain ⟨ub, hub⟩ : ∃ ub, usedM t j = ub := ⟨_, rfl⟩
          have u0 : wi.cell? ⟨w1.heap.size, j, none⟩ = some (.bool ub) := HeadAt.of_row IU.out j _ (by rw [markRow_at hlt, used_eq, hub])
          have YR : Hid (ExitR w w.heap.size [.int .i64 y.at_, .int .i64 y.steps, .slice S y.sets.length cS, .slice M y.makes.length cM] y) := ⟨_, _, rfl, hs, hm, wy1, wy2⟩
          have HY := Lib.hid hy
          have HRr := Lib.hid hr
          have HFOUR := Lib.hid hfour
          have HUB := Lib.hid hub
          clear hat hs hm wy1 wy2 hy hr hfour hub
          obtain ⟨wa, hwa⟩ : ∃ wa, wa = wi.alloc (.cells #[.int .i64 y.at_, .int .i64 y.steps, .slice S y.sets.length cS, .slice M y.makes.length cM] 32) := ⟨_, rfl⟩
          have LA : Hid (Below wi.heap.size wi wa) := by rw [hwa]; exact below_one _ _
          have AX : Hid (wa.heap[wi.heap.size]? = some (.cells ⟨[.int .i64 y.at_, .int .i64 y.steps, .slice S y.sets.length cS, .slice M y.makes.length cM]⟩ 32 (0, 0))) := by rw [hwa]; exact heap_last _ _
          have hza : wi.heap.size < wa.heap.size := (Array.getElem?_eq_some_iff.1 AX.out).1
          have AO : Hid (wa.ownsRow w3.heap.size 32 4 (.slice (some ⟨G, 0, none⟩) t.exits.length c9) t.exits.length ((dRows (usedM t) rows (j)).flatMap id)) := by rw [hwa]; exact RO.out.alloc _
          have hzAS : wo.heap.size < wi.heap.size := (Array.getElem?_eq_some_iff.1 RA.out).1
          have hzT : w.heap.size + 1 < wi.heap.size := by omega
          have AA := Lib.hid ((LA.out.block _ hzAS).trans RA.out)
          have AT := Lib.hid ((LA.out.block _ hzT).trans IT.out)
          have AK := Lib.hid (RK.out.then (LA.out.mono RK.out.size))
          have hw5i : w5.heap.size ≤ wi.heap.size := RK.out.size
          have HWA := Lib.hid hwa
          have ua : wa.cell? ⟨w1.heap.size, j, none⟩ = some (.bool ub) := (LA.out.cell hzU).trans u0
          clear hwa u0 RO RA RK
          go_upto_region 17 with fail
          rw [← HWA.out]
          clear g0 g1 g2 g3
          go_upto_if 64 with fail
          go_cut [55] from 55 to 76 (fun i wx => i = .int .i64 (j : Int) ∧ ∃ sv mv : Value, Hid (wx.heap[wi.heap.size]? = some (.cells ⟨[.int .i64 y.at_, .int .i64 y.steps, sv, mv]⟩ 32 (0, 0))) ∧ Hid (ExitR w w.heap.size [.int .i64 y.at_, .int .i64 y.steps, sv, mv] (deadX t j y)) ∧
            Hid (wx.ownsRow w3.heap.size 32 4 (.slice (some ⟨G, 0, none⟩) t.exits.length c9) t.exits.length ((dRows (usedM t) rows (j + 1)).flatMap id)) ∧ Hid (wx.heap[wo.heap.size]? = some (.cells ⟨markRow (((deadExits t).take j).flatMap exitVals) t.ins.length⟩ 4 (0, 0))) ∧ Hid (KeptU wo.heap.size (Value.slice (some ⟨G, 0, none⟩) t.exits.length c9).ownBlock w5 wx))
          case first =>
            cases ub
            case true =>
              have hdx : deadX t j y = y := by unfold deadX; rw [HUB.out]; rfl
              have D1 : Hid (wa.ownsRow w3.heap.size 32 4 (.slice (some ⟨G, 0, none⟩) t.exits.length c9) t.exits.length ((dRows (usedM t) rows (j + 1)).flatMap id)) := by rw [dRows_used HUB.out]; exact AO.out
              have D2 : Hid (ExitR w w.heap.size [.int .i64 y.at_, .int .i64 y.steps, .slice S y.sets.length cS, .slice M y.makes.length cM] (deadX t j y)) := by rw [hdx]; exact YR.out
              clear hdx
              go_wp2_with fail
              go_meet
              case rel => exact ⟨rfl, _, _, AX, D2, D1, AA, AK⟩
            case false =>
              have c2 := HeadAt.of_row AX.out 2 (.slice S y.sets.length cS) rfl
              have c3 := HeadAt.of_row AX.out 3 (.slice M y.makes.length cM) rfl
              have f2 := frozen_of_row wa wi.heap.size 2 _ _ AX.out
              have f3 := frozen_of_row wa wi.heap.size 3 _ _ AX.out
              go_upto_region 19 with fail
              obtain ⟨wb, hwb⟩ : ∃ wb, wb = (wa.setCell ⟨wi.heap.size, 2, none⟩ (.slice none 0 0)).setCell ⟨wi.heap.size, 3, none⟩ (.slice none 0 0) := ⟨_, rfl⟩
              have BX : Hid (wb.heap[wi.heap.size]? = some (.cells ⟨[.int .i64 y.at_, .int .i64 y.steps, .slice none 0 0, .slice none 0 0]⟩ 32 (0, 0))) := by
                rw [hwb, heap_setCell_same _ _ 3 _ _ _ (heap_setCell_same wa _ 2 _ _ _ AX.out)]; rfl
              have far : ∀ (k : Nat) (o : Obj), wa.heap[k]? = some o → k ≠ wi.heap.size → wb.heap[k]? = some o := fun k o h hk => by
                rw [hwb, heap_setCell_other _ _ _ _ (by show k ≠ wi.heap.size; exact hk), heap_setCell_other wa _ _ _ (by show k ≠ wi.heap.size; exact hk)]; exact h
              have BA := Lib.hid (far _ _ AA.out (by omega))
              have BT := Lib.hid (far _ _ AT.out (by omega))
              have BO : Hid (wb.ownsRow w3.heap.size 32 4 (.slice (some ⟨G, 0, none⟩) t.exits.length c9) t.exits.length ((dRows (usedM t) rows j).flatMap id)) := by rw [hwb]; exact own_other (own_other AO.out (by simp [Value.ownBlock]; omega) _ _) (by simp [Value.ownBlock]; omega) _ _
              have BK : Hid (KeptU wo.heap.size (Value.slice (some ⟨G, 0, none⟩) t.exits.length c9).ownBlock w5 wb) := by rw [hwb]; exact AK.out.then (Below.set_at (Below.set_at (Below.refl _ _) hw5i _ _) hw5i _ _)
              have HWB := Lib.hid hwb
              clear hwb far c2 c3 f2 f3 ua
              rw [← HWB.out]
              have b4 : wb.cell? ⟨w.heap.size + 1, 4, none⟩ = some (.slice (some ⟨G, 0, none⟩) t.exits.length c9) := HeadAt.of_row BT.out 4 _ (by rw [HCB.out]; simp [h4l])
              have RGX : Hid (wb.rangeAt wi.heap.size 0 [.int .i64 y.at_, .int .i64 y.steps, .slice none 0 0, .slice none 0 0]) := (HeadAt.of_row BX.out).range
              have LX : Hid ((Tryd.prog.info? 32).map (·.size) = some ([.int .i64 y.at_, .int .i64 y.steps, .slice none 0 0, .slice none 0 0] : List Value).length) := infoEx4
              have TH := Lib.hid (own_there BO.out hlt)
              go_wp2_with (first
                | (refine wpList_load_mid rfl 32 _ rfl wi.heap.size 0 rfl [.int .i64 y.at_, .int .i64 y.steps, .slice none 0 0, .slice none 0 0] _ RGX.out Tryd.underlying32 rfl LX.out ?_)
                | (refine wpList_store_mid rfl 32 _ _ rfl G (j * 4) #[.int .i64 y.at_, .int .i64 y.steps, .slice none 0 0, .slice none 0 0] rfl rfl TH.out infoEx4 (all_oneCell_toArray (by simp [Value.oneCell'])) ?_)
                | fail)
              generalize hw9 : World.setCells _ _ _ _ = w9
              have CO : Hid (w9.ownsRow w3.heap.size 32 4 (.slice (some ⟨G, 0, none⟩) t.exits.length c9) t.exits.length ((dRows (usedM t) rows (j + 1)).flatMap id)) := by
                have h9 := own_set BO.out hlt (vs := [.int .i64 y.at_, .int .i64 y.steps, .slice none 0 0, .slice none 0 0]) rfl
                rw [← flat_set (dRows (usedM t) rows j) j _ (dRows_four HFOUR.out j) rfl (by rw [dRows_len, hr1]; exact hlt), show ([.int .i64 y.at_, .int .i64 y.steps, .slice none 0 0, .slice none 0 0] : List Value) = cutRow [.int .i64 y.at_, .int .i64 y.steps, .slice S y.sets.length cS, .slice M y.makes.length cM] from rfl, ← dRows_cut HUB.out HRr.out] at h9
                rw [← hw9]; exact h9
              have CX : Hid (w9.heap[wi.heap.size]? = some (.cells ⟨[.int .i64 y.at_, .int .i64 y.steps, .slice none 0 0, .slice none 0 0]⟩ 32 (0, 0))) := by rw [← hw9, setCells_other _ _ _ _ (by omega)]; exact BX.out
              have CA : Hid (w9.heap[wo.heap.size]? = some (.cells ⟨markRow (((deadExits t).take j).flatMap exitVals) t.ins.length⟩ 4 (0, 0))) := by rw [← hw9, setCells_other _ _ _ _ (by omega)]; exact BA.out
              have CK : Hid (KeptU wo.heap.size (Value.slice (some ⟨G, 0, none⟩) t.exits.length c9).ownBlock w5 w9) := by rw [← hw9]; exact KeptU.cells BK.out _ _
              have D2 : Hid (ExitR w w.heap.size [.int .i64 y.at_, .int .i64 y.steps, .slice none 0 0, .slice none 0 0] (deadX t j y)) := by
                have hdx : deadX t j y = ⟨y.at_, y.steps, [], []⟩ := by unfold deadX; rw [HUB.out]; rfl
                rw [hdx]
                obtain ⟨_, _, e, _, _, h4, h5⟩ := YR.out
                exact ⟨_, _, rfl, SliceR.nil _ _ _ _, SliceR.nil _ _ _ _, h4, h5⟩
              clear hw9 b4
              go_wp2_with fail
              go_meet
              case rel => exact ⟨rfl, _, _, CX, D2, CO, CA, CK⟩
          case rest =>
            obtain ⟨wb, hwb⟩ : ∃ wb, wb = wc := ⟨_, rfl⟩
            subst hwb
            obtain ⟨rfl, sv, mv, CX, CR, CO, CA, CK⟩ := hcut
            have hw5b : w5.heap.size ≤ wb.heap.size := CK.out.size
            have CF := Lib.hid (CK.out.row NF.out (by omega) (by simp [Value.ownBlock]; omega))
            have CB := Lib.hid (CK.out.row NB.out (by omega) (by simp [Value.ownBlock]; omega))
            have BB := Lib.hid (K5.out.trans (CK.out.below (B := w.heap.size) (by omega) (fun k e => by simp [Value.ownBlock] at e; omega) K5.out.size))
            have hzb : wi.heap.size < wb.heap.size := (Array.getElem?_eq_some_iff.1 CX.out).1
            have hzA : wo.heap.size < wb.heap.size := (Array.getElem?_eq_some_iff.1 CA.out).1
            have f0 := cell_of_row wb (wo.heap.size + 1 + 1) 0 _ _ _ CF.out
            have e0 : ∀ E : Up wb, E.to.cell? ⟨wo.heap.size + 1 + 1, 0, none⟩ = some (.func (.func 44) #[] #[.pointer (some ⟨wo.heap.size + 1, 0, none⟩)]) := fun E => E.cell f0
            have RX : Hid (∀ E : Up wb, E.to.rangeAt wi.heap.size 0 [.int .i64 y.at_, .int .i64 y.steps, sv, mv]) := fun E a v hv => E.cell ((HeadAt.of_row CX.out).range a v hv)
            have LX : Hid ((Tryd.prog.info? 32).map (·.size) = some ([.int .i64 y.at_, .int .i64 y.steps, sv, mv] : List Value).length) := infoEx4
            have OC := Lib.hid (values_d [.int .i64 y.at_, .int .i64 y.steps, sv, mv] (deadX t j y) wb.drew (CR.out.keep BB.out.size (fun _ hp => BB.out.cell hp)) (deadX_small (SM.out.exits y (List.mem_of_getElem? HY.out))))
            clear f0
            go_upto_region 20 with fail
            refine wp_nopanic ?_
            refine wp_region_first (fun w' => ∃ E : Up wb, w' = E.to) 2 [2, 3] [2] (by kernel_rfl) (by decide) (by kernel_rfl) (fun c _ _ _ _ h => (h.1 c rfl).elim) ⟨⟨_, (Below.refl _ wb).drew⟩, rfl⟩ ?_
            simp only [List.take_succ_cons, List.take_zero]
            generalize hqq : (fun a' => wpMs _ _ _ _ _ _ a' _) = qq
            have HQQ := Lib.hid hqq
            clear hqq
            repeat (first
              | (refine wpQuiet_load_up 32 _ rfl rfl wi.heap.size 0 rfl [.int .i64 y.at_, .int .i64 y.steps, sv, mv] _ RX.out Tryd.underlying32 rfl LX.out ?_; go_simp)
              | go_big_quiet_step (fail))
            refine wpQuiet_nil ?_
            rw [← HQQ.out]
            clear HQQ qq e0 RX LX
            refine wpMs_step rfl (fun K hK => ?_)
            go_simp
            refine OC.out.mono ?_
            rintro e w6 ⟨v, rfl, hv, k6⟩
            have L6 : Hid (Below wb.heap.size wb w6) := (Below.refl _ wb).drew.trans k6
            refine hK _ _ (fun _ => ⟨⟨w6, L6.out⟩, rfl⟩) ?_
            clear hK K k6
            have DA := Lib.hid ((L6.out.block _ hzA).trans CA.out)
            have DB := Lib.hid ((L6.out.block _ (by omega)).trans CB.out)
            have MC := Lib.hid (mark_c v (exitVals (deadX t j y)) (((deadExits t).take j).flatMap exitVals) (wo.heap.size + 1) wo.heap.size t.ins.length w6 hlen hv (exitVals_in (deadX_in (CUTS.out.exits y (List.mem_of_getElem? HY.out)))) (cell_of_row w6 (wo.heap.size + 1) 0 _ _ _ DB.out) DA.out (by omega))
            refine wpMs_list [3] _ _ (by kernel_rfl) (by kernel_rfl) ?_
            simp only [List.filterMap_cons, List.filterMap_nil, List.getElem?_toArray, List.getElem?_cons_zero, List.getElem?_cons_succ]
            go_wp2_with fail
            refine MC.out.mono ?_
            rintro e w7 ⟨rfl, m1, m2⟩
            have M1 := Lib.hid m1
            have M2 := Lib.hid m2
            clear m1 m2
            go_wp2_with fail
            refine ⟨fun x h => (by cases h), ?_⟩
            go_wp2_with fail
            go_roundw
            case rel =>
              refine ⟨j + 1, by go_num, by omega, ?_, ?_, ?_⟩
              · exact M2.out.own ((Fined.of_below (bc := wo.heap.size) L6.out).own CO.out (by omega)) (by omega)
              · rw [deadExits_take HY.out, List.flatMap_append]
                exact Lib.hid (by simpa using M1.out)
              · exact (CK.out.then (L6.out.mono hw5b)).fined M2.out
            case measure => simp [RowKit.intOf]; omega
        · obtain rfl : j = t.exits.length := by omega
          have hji : ¬ (t.exits.length : Int) < t.exits.length := by omega
          have hob : ∀ G, (Value.slice A9 t.exits.length c9).ownBlock = some G → w3.heap.size ≤ G := fun G e => (own_row RO.out G e).1
          have hno : ∀ k, k < w3.heap.size → (Value.slice A9 t.exits.length c9).ownBlock ≠ some k := fun k hk e => by have := hob k e; omega
          have AE : Hid (wi.heap[wo.heap.size]? = some (.cells ⟨markRow ((deadExits t).flatMap exitVals) t.ins.length⟩ 4 (0, 0))) := by
            have h1 := RA.out
            rw [List.take_of_length_le (by simp [deadExits])] at h1
            exact h1
          have IT := Lib.hid (RK.out.row NT.out (by omega) (hno _ (by omega)))
          have IZ := Lib.hid (RK.out.row NZ.out (by omega) (hno _ (by omega)))
          have IB := Lib.hid (RK.out.row NB.out (by omega) (hno _ (by omega)))
          have IF := Lib.hid (RK.out.row NF.out (by omega) (hno _ (by omega)))
          have BI := Lib.hid (K5.out.trans (RK.out.below (B := w.heap.size) (by omega) (fun k e => by have := hob k e; omega) K5.out.size))
          obtain ⟨ct, cbk, hct, hcbk, et, eb⟩ := TraceR.at59 HT.out
          have HCT : Hid (∀ i v, ct[i]? = some v → cb[5 + i]? = some v) := fun i v hv => by rw [HCB.out, List.getElem?_set_ne (by omega)]; exact hct i v hv
          have HCK : Hid (∀ i v, cbk[i]? = some v → cb[9 + i]? = some v) := fun i v hv => by rw [HCB.out, List.getElem?_set_ne (by omega)]; exact hcbk i v hv
          have ET := Lib.hid et
          have EB := Lib.hid eb
          clear hct hcbk et eb RA
          go_upto_region 22 with fail
          obtain ⟨s1, m1, rfl, ⟨S1, cS1, rfl, -⟩, ⟨N1, cN1, rfl, -⟩, -⟩ := id ET.out
          have hzi2 : w5.heap.size ≤ wi.heap.size := RK.out.size
          have hzA : wo.heap.size < wi.heap.size := (Array.getElem?_eq_some_iff.1 AE.out).1
          have f0 := cell_of_row wi (wo.heap.size + 1 + 1) 0 _ _ _ IF.out
          have e0 : ∀ E : Up wi, E.to.cell? ⟨wo.heap.size + 1 + 1, 0, none⟩ = some (.func (.func 44) #[] #[.pointer (some ⟨wo.heap.size + 1, 0, none⟩)]) := fun E => E.cell f0
          have RX : Hid (∀ E : Up wi, E.to.rangeAt (w.heap.size + 1) 5 [.int .i64 t.turn.at_, .int .i64 t.turn.steps, .slice S1 t.turn.sets.length cS1, .slice N1 t.turn.makes.length cN1]) := fun E a v hv => E.cell (HeadAt.of_row IT.out (5 + a) v (HCT.out a v hv))
          have LX : Hid ((Tryd.prog.info? 32).map (·.size) = some ([.int .i64 t.turn.at_, .int .i64 t.turn.steps, .slice S1 t.turn.sets.length cS1, .slice N1 t.turn.makes.length cN1] : List Value).length) := infoEx4
          have OC := Lib.hid (values_d [.int .i64 t.turn.at_, .int .i64 t.turn.steps, .slice S1 t.turn.sets.length cS1, .slice N1 t.turn.makes.length cN1] t.turn wi.drew (ET.out.keep BI.out.size (fun _ hp => BI.out.cell hp)) SM.out.turn)
          clear f0
          refine wp_nopanic ?_
          refine wp_region_first (fun w' => ∃ E : Up wi, w' = E.to) 3 [3, 4] [3] (by kernel_rfl) (by decide) (by kernel_rfl) (fun c _ _ _ _ h => (h.1 c rfl).elim) ⟨⟨_, (Below.refl _ wi).drew⟩, rfl⟩ ?_
          simp only [List.take_succ_cons, List.take_zero]
          generalize hqq : (fun a' => wpMs _ _ _ _ _ _ a' _) = qq
          have HQQ := Lib.hid hqq
          clear hqq
          repeat (first
            | (refine wpQuiet_load_up 32 _ rfl rfl (w.heap.size + 1) 5 rfl [.int .i64 t.turn.at_, .int .i64 t.turn.steps, .slice S1 t.turn.sets.length cS1, .slice N1 t.turn.makes.length cN1] _ RX.out Tryd.underlying32 rfl LX.out ?_; go_simp)
            | go_big_quiet_step (fail))
          refine wpQuiet_nil ?_
          rw [← HQQ.out]
          clear HQQ qq e0 RX LX
          refine wpMs_step rfl (fun K hK => ?_)
          go_simp
          refine OC.out.mono ?_
          rintro e w6 ⟨v, rfl, hv, k6⟩
          have L6 : Hid (Below wi.heap.size wi w6) := (Below.refl _ wi).drew.trans k6
          refine hK _ _ (fun _ => ⟨⟨w6, L6.out⟩, rfl⟩) ?_
          clear hK K k6
          have DA := Lib.hid ((L6.out.block _ hzA).trans AE.out)
          have DB := Lib.hid ((L6.out.block _ (by omega)).trans IB.out)
          have MC := Lib.hid (mark_c v (exitVals t.turn) ((deadExits t).flatMap exitVals) (wo.heap.size + 1) wo.heap.size t.ins.length w6 hlen hv (exitVals_in CUTS.out.turn) (cell_of_row w6 (wo.heap.size + 1) 0 _ _ _ DB.out) DA.out (by omega))
          refine wpMs_list [4] _ _ (by kernel_rfl) (by kernel_rfl) ?_
          simp only [List.filterMap_cons, List.filterMap_nil, List.getElem?_toArray, List.getElem?_cons_zero, List.getElem?_cons_succ]
          go_wp2_with fail
          refine MC.out.mono ?_
          rintro e w7 ⟨rfl, m1, m2⟩
          have TA := Lib.hid m1
          have TF : Hid (KeptU wo.heap.size (Value.slice A9 t.exits.length c9).ownBlock w5 w7) := (RK.out.then (L6.out.mono hzi2)).fined m2
          have TO := Lib.hid (m2.own ((Fined.of_below (bc := wo.heap.size) L6.out).own RO.out (by omega)) (by omega))
          clear m1 m2 RK RO IT IZ IB IF BI DA DB OC MC
          go_wp2_with fail
          refine ⟨fun x h => (by cases h), ?_⟩
          go_upto_region 23 with fail
          have IT := Lib.hid (TF.out.row NT.out (by omega) (hno _ (by omega)))
          have IZ := Lib.hid (TF.out.row NZ.out (by omega) (hno _ (by omega)))
          have IB := Lib.hid (TF.out.row NB.out (by omega) (hno _ (by omega)))
          have IF := Lib.hid (TF.out.row NF.out (by omega) (hno _ (by omega)))
          have BI := Lib.hid (K5.out.trans (TF.out.below (B := w.heap.size) (by omega) (fun k e => by have := hob k e; omega) K5.out.size))
          obtain ⟨s2, m2, rfl, ⟨S2, cS2, rfl, -⟩, ⟨N2, cN2, rfl, -⟩, -⟩ := id EB.out
          have hzi3 : w5.heap.size ≤ w7.heap.size := TF.out.size
          have hzA2 : wo.heap.size < w7.heap.size := (Array.getElem?_eq_some_iff.1 TA.out).1
          have f0 := cell_of_row w7 (wo.heap.size + 1 + 1) 0 _ _ _ IF.out
          have e0 : ∀ E : Up w7, E.to.cell? ⟨wo.heap.size + 1 + 1, 0, none⟩ = some (.func (.func 44) #[] #[.pointer (some ⟨wo.heap.size + 1, 0, none⟩)]) := fun E => E.cell f0
          have RX : Hid (∀ E : Up w7, E.to.rangeAt (w.heap.size + 1) 9 [.int .i64 t.back.at_, .int .i64 t.back.steps, .slice S2 t.back.sets.length cS2, .slice N2 t.back.makes.length cN2]) := fun E a v hv => E.cell (HeadAt.of_row IT.out (9 + a) v (HCK.out a v hv))
          have LX : Hid ((Tryd.prog.info? 32).map (·.size) = some ([.int .i64 t.back.at_, .int .i64 t.back.steps, .slice S2 t.back.sets.length cS2, .slice N2 t.back.makes.length cN2] : List Value).length) := infoEx4
          have OC := Lib.hid (values_d [.int .i64 t.back.at_, .int .i64 t.back.steps, .slice S2 t.back.sets.length cS2, .slice N2 t.back.makes.length cN2] t.back w7.drew (EB.out.keep BI.out.size (fun _ hp => BI.out.cell hp)) SM.out.back)
          clear f0
          refine wp_nopanic ?_
          refine wp_region_first (fun w' => ∃ E : Up w7, w' = E.to) 3 [3, 4] [3] (by kernel_rfl) (by decide) (by kernel_rfl) (fun c _ _ _ _ h => (h.1 c rfl).elim) ⟨⟨_, (Below.refl _ w7).drew⟩, rfl⟩ ?_
          simp only [List.take_succ_cons, List.take_zero]
          generalize hqq : (fun a' => wpMs _ _ _ _ _ _ a' _) = qq
          have HQQ := Lib.hid hqq
          clear hqq
          repeat (first
            | (refine wpQuiet_load_up 32 _ rfl rfl (w.heap.size + 1) 9 rfl [.int .i64 t.back.at_, .int .i64 t.back.steps, .slice S2 t.back.sets.length cS2, .slice N2 t.back.makes.length cN2] _ RX.out Tryd.underlying32 rfl LX.out ?_; go_simp)
            | go_big_quiet_step (fail))
          refine wpQuiet_nil ?_
          rw [← HQQ.out]
          clear HQQ qq e0 RX LX
          refine wpMs_step rfl (fun K hK => ?_)
          go_simp
          refine OC.out.mono ?_
          rintro e w8 ⟨v, rfl, hv, k6⟩
          have L6 : Hid (Below w7.heap.size w7 w8) := (Below.refl _ w7).drew.trans k6
          refine hK _ _ (fun _ => ⟨⟨w8, L6.out⟩, rfl⟩) ?_
          clear hK K k6
          have DA := Lib.hid ((L6.out.block _ hzA2).trans TA.out)
          have DB := Lib.hid ((L6.out.block _ (by omega)).trans IB.out)
          have MC := Lib.hid (mark_c v (exitVals t.back) ((deadExits t).flatMap exitVals ++ exitVals t.turn) (wo.heap.size + 1) wo.heap.size t.ins.length w8 hlen hv (exitVals_in CUTS.out.back) (cell_of_row w8 (wo.heap.size + 1) 0 _ _ _ DB.out) DA.out (by omega))
          refine wpMs_list [4] _ _ (by kernel_rfl) (by kernel_rfl) ?_
          simp only [List.filterMap_cons, List.filterMap_nil, List.getElem?_toArray, List.getElem?_cons_zero, List.getElem?_cons_succ]
          go_wp2_with fail
          refine MC.out.mono ?_
          rintro e w9 ⟨rfl, m1, m2⟩
          have UA := Lib.hid m1
          have UF : Hid (KeptU wo.heap.size (Value.slice A9 t.exits.length c9).ownBlock w5 w9) := (TF.out.then (L6.out.mono hzi3)).fined m2
          have UO := Lib.hid (m2.own ((Fined.of_below (bc := wo.heap.size) L6.out).own TO.out (by omega)) (by omega))
          clear m1 m2 TF TO IT IZ IB IF BI DA DB OC MC
          go_wp2_with fail
          refine ⟨fun x h => (by cases h), ?_⟩
          go_upto_region 24 with fail
          have JT := Lib.hid (UF.out.row NT.out (by omega) (hno _ (by omega)))
          have hz9 : w5.heap.size ≤ w9.heap.size := UF.out.size
          have hz91 : w.heap.size + 1 < w9.heap.size := by omega
          have hmk := fun W => mk_ints t.ins.length (by omega) W
          have l3 : w9.cell? ⟨w.heap.size + 1, 3, none⟩ = some (.slice Ai t.ins.length ni) := HeadAt.of_row JT.out 3 _ (by rw [HCB.out, List.getElem?_set_ne (by omega)]; exact P3.out)
          obtain ⟨w10, hw10⟩ : ∃ w10, w10 = (w9.alloc (.cells (Array.replicate t.ins.length (.int .i64 0)) 3)).alloc (.cells #[.slice (some ⟨w9.heap.size, 0, none⟩) t.ins.length t.ins.length] 38) := ⟨_, rfl⟩
          have L10 : Hid (Below w9.heap.size w9 w10) := by rw [hw10]; exact below_two' w9 _ _
          have VT : Hid (w10.heap[w9.heap.size]? = some (.cells ⟨List.replicate t.ins.length (.int .i64 0)⟩ 3 (0, 0))) := by rw [hw10]; exact heap_old (heap_last w9 _) _
          have VB : Hid (w10.heap[w9.heap.size + 1]? = some (.cells #[.slice (some ⟨w9.heap.size, 0, none⟩) t.ins.length t.ins.length] 38 (0, 0))) := by rw [hw10]; exact heap_two _ _ _
          have HW10 := Lib.hid hw10
          clear hw10
          go_upto_region 25 with fail
          rw [← HW10.out]
          clear l3 hmk
          have VT9 := Lib.hid (below_row L10.out JT.out)
          have l3 : w10.cell? ⟨w.heap.size + 1, 3, none⟩ = some (.slice Ai t.ins.length ni) := HeadAt.of_row VT9.out 3 _ (by rw [HCB.out, List.getElem?_set_ne (by omega)]; exact P3.out)
          have hz101 : w.heap.size + 1 < w10.heap.size := (Array.getElem?_eq_some_iff.1 VT9.out).1
          go_wp2_with fail
          refine (backward_c Ai t.ins.length ni w10).mono ?_
          rintro e w11 ⟨rfl, hw11⟩
          have L11 : Hid (Below w10.heap.size w10 w11) := by rw [hw11]; exact below_one _ _
          have XB : Hid (w11.heap[w10.heap.size]? = some (.cells #[.slice Ai t.ins.length ni] 27 (0, 0))) := by rw [hw11]; exact heap_last _ _
          have hz11 : w11.heap.size = w10.heap.size + 1 := by rw [hw11]; simp
          clear hw11 l3
          have hz9b : w5.heap.size ≤ w9.heap.size := UF.out.size
          have hz10 : w9.heap.size + 1 < w10.heap.size := (Array.getElem?_eq_some_iff.1 VB.out).1
          have hzA9 : wo.heap.size < w9.heap.size := (Array.getElem?_eq_some_iff.1 UA.out).1
          have XA : Hid (w11.heap[wo.heap.size]? = some (.cells ⟨markRow (marks0 t) t.ins.length⟩ 4 (0, 0))) := below_row L11.out (below_row L10.out UA.out)
          have XT : Hid (w11.heap[w9.heap.size]? = some (.cells ⟨(List.replicate t.ins.length (0 : Int)).map (.int .i64)⟩ 3 (0, 0))) := by rw [List.map_replicate]; exact below_row L11.out VT.out
          have XV := Lib.hid (below_row L11.out VB.out)
          have YT := Lib.hid (below_row L11.out VT9.out)
          have YB := Lib.hid (below_row L11.out (below_row L10.out (UF.out.row NB.out (by omega) (hno _ (by omega)))))
          have YF := Lib.hid (below_row L11.out (below_row L10.out (UF.out.row NF.out (by omega) (hno _ (by omega)))))
          have YZ := Lib.hid (below_row L11.out (below_row L10.out (UF.out.row NZ.out (by omega) (hno _ (by omega)))))
          have XK : Hid (KeptU wo.heap.size (Value.slice A9 t.exits.length c9).ownBlock w5 w11) := (UF.out.then (L10.out.mono hz9)).then (L11.out.mono (by omega))
          have YO : Hid (w11.ownsRow w3.heap.size 32 4 (.slice A9 t.exits.length c9) t.exits.length ((dRows (usedM t) rows t.exits.length).flatMap id)) := ((Fined.of_below (bc := 0) L11.out).own ((Fined.of_below (bc := 0) L10.out).own UO.out (by omega)) (by omega))
          have BQ := Lib.hid (K5.out.trans (XK.out.below (B := w.heap.size) (by omega) (fun k e => by have := hob k e; omega) K5.out.size))
          have QS := Lib.hid (QI.out.keep (Nat.le_refl _) (fun p hp => BQ.out.cell hp) (fun _ _ h => h))
          have hQz : w.heap.size ≤ w11.heap.size := BQ.out.size
          have XBc : Hid (w11.cell? ⟨w10.heap.size, 0, none⟩ = some (.slice Ai t.ins.length ni)) := cell_of_row w11 w10.heap.size 0 _ _ _ XB.out
          go_wp2_with fail
          refine (wpIn_wide (n := 9)).1 ?_
          refine range_named rfl (by omega) (gf := 80) (lb := #[.pointer (some ⟨w10.heap.size, 0, none⟩)]) rfl trivial (enters_of Tryd.func80 (by kernel_rfl) rfl)
            (backward_stops Fence.wide 8 trivial rfl (by omega) w10.heap.size w.heap.size Ai ni t.ins (by omega) w11 hQz (by omega) XBc.out QS.out)
            (fun h k => h.trans k) (kpB_b hQz (by omega)) (Below.refl _ _) (fun _ => rfl)
            (fun pre W => W.heap[wo.heap.size]? = some (.cells ⟨markRow (foldM t (pre.map (·.1))).1 t.ins.length⟩ 4 (0, 0)) ∧ W.heap[w9.heap.size]? = some (.cells ⟨((foldM t (pre.map (·.1))).2).map (.int .i64)⟩ 3 (0, 0)) ∧ KeptU wo.heap.size (some w9.heap.size) w11 W)
            (fun _ _ _ => False) ((row_own _).and ((row_own _).and (keptU_own (Nat.le_refl _)))) (fun _ _ _ _ _ h => h.elim) ⟨XA.out, XT.out, KeptU.refl _ _ _⟩
            (fun a x a' W => ∃ Bx, w11.heap.size ≤ Bx ∧ W.heap[Bx]? = some (.cells ⟨insCells x.1.2⟩ 43 (0, 0)) ∧ a' = { tmps := (((a.tmps.setIfInBounds 94 (.int .i64 x.1.1)).setIfInBounds 95 (insV x.1.2)).setIfInBounds 15 (.int .i64 x.1.1)).setIfInBounds 16 (.pointer (some ⟨Bx, 0, none⟩)), defers := [] })
            (fun x a' _ W W' row hs hg hr => by
              obtain ⟨Bx, h1, h2, h3⟩ := hs
              exact ⟨Bx, h1, row_own (β := Unit) (fun _ => ⟨insCells x.1.2⟩) () W W' row h2 hg hr, h3⟩)
            ?assign ?body ?done ?stop
          case assign =>
            rintro lo pre ⟨⟨i, x⟩, hx⟩ W K ⟨hA, hT, hI⟩ hK
            have IA := Lib.hid hA
            have IT := Lib.hid hT
            have IK := Lib.hid hI
            have HK := Lib.hid hK
            clear hA hT hI hK
            dsimp only
            have hWz : w11.heap.size ≤ W.heap.size := IK.out.size
            obtain ⟨Wa, hWa⟩ : ∃ Wa, Wa = W.alloc (.cells ⟨insZ⟩ 43) := ⟨_, rfl⟩
            have ZA : Hid (Wa.heap[W.heap.size]? = some (.cells ⟨insZ⟩ 43 (0, 0))) := by rw [hWa]; exact heap_last _ _
            have LA : Hid (Below W.heap.size W Wa) := by rw [hWa]; exact below_one _ _
            have TH := Lib.hid (there_of_row (n := 8) ZA.out (by simp [insZ]))
            unfold insZ at hWa
            have HWA := Lib.hid hWa
            clear hWa
            gi_upto_region 27 with fail
            refine round_region ?hl ?hd ?_
            case hl => rintro ⟨_, _, h⟩; exact h
            case hd => kernel_rfl
            go_wp2_with (first | (refine wpList_store_mid rfl 43 _ _ rfl W.heap.size 0 ⟨insCells x⟩ rfl rfl (by rw [← HWA.out]; exact TH.out) infoIns8 (all_oneCell_toArray (ins_ones x)) ?_) | fail)
            rw [← HWA.out]
            generalize hw12 : World.setCells _ _ _ _ = Wb
            have BX : Hid (Wb.heap[W.heap.size]? = some (.cells ⟨insCells x⟩ 43 (0, 0))) := by rw [← hw12]; exact insZ_row ZA.out
            have LB : Hid (Below W.heap.size W Wb) := by rw [← hw12]; exact Below.setCells_ (Nat.le_refl _) _ _ _ LA.out
            clear hw12
            go_wp2_with fail
            refine HK.out _ _ ⟨LB.out.size, fun k _ _ hk _ => below_row LB.out hk⟩ ⟨LB.out.mono (by omega), LB.out.block _ (by omega)⟩ ⟨below_row LB.out IA.out, below_row LB.out IT.out, IK.out.then (LB.out.mono hWz)⟩ ⟨W.heap.size, hWz, BX.out, rfl⟩
          case body =>
            rintro lo pre ⟨⟨i, x⟩, hx⟩ a' W hlo hrec ⟨hA, hT, hI⟩ ⟨Bx, hBx, hbx, rfl⟩ hpl
            dsimp only at hx hbx ⊢
            obtain ⟨st, hst⟩ : ∃ st, foldM t (pre.map (·.1)) = st := ⟨_, rfl⟩
            have hnx : Hid (foldM t ((pre ++ [(⟨(i, x), hx⟩ : AtI t.ins)]).map (·.1)) = stM t st (i, x)) := by
              rw [show Hid _ = _ from rfl, List.map_append, ← hst]; exact foldM_snoc t _ _
            have htl : st.2.length = t.ins.length := by rw [← hst]; exact foldM_len t _
            obtain ⟨ms, tl⟩ := st
            rw [hst] at hA hT
            dsimp only at hA hT htl
            have IA := Lib.hid hA
            have IT := Lib.hid hT
            have IK := Lib.hid hI
            have IX := Lib.hid hbx
            have HX := Lib.hid hx
            have hin : i < t.ins.length := (List.getElem?_eq_some_iff.1 hx).1
            have hii : (i : Int) < t.ins.length := by omega
            have hWz : w11.heap.size ≤ W.heap.size := IK.out.size
            have hzx : Bx < W.heap.size := (Array.getElem?_eq_some_iff.1 hbx).1
            have WV := Lib.hid (IK.out.row XV.out (by omega) (by simp))
            have WB := Lib.hid (IK.out.row YB.out (by omega) (by simp; omega))
            have WF := Lib.hid (IK.out.row YF.out (by omega) (by simp; omega))
            have WT := Lib.hid (IK.out.row YT.out (by omega) (by simp; omega))
            clear hA hT hI hbx hst
            obtain ⟨v0, hv0⟩ : ∃ v0, tl[i]? = some v0 := ⟨_, List.getElem?_eq_getElem (by omega)⟩
            have tv := cell_of_row W (w9.heap.size + 1) 0 _ _ _ WV.out
            have ti := HeadAt.of_row IT.out i (.int .i64 v0) (by rw [List.getElem?_map, hv0]; rfl)
            have tf := frozen_of_row W w9.heap.size i _ _ IT.out
            obtain ⟨W1, hW1⟩ : ∃ W1, W1 = W.setCell ⟨w9.heap.size, i, none⟩ (.int .i64 (-1)) := ⟨_, rfl⟩
            have T1 : Hid (W1.heap[w9.heap.size]? = some (.cells ⟨(tl.set i (-1)).map (.int .i64)⟩ 3 (0, 0))) := by rw [hW1, heap_setCell_same W _ i _ _ _ IT.out, setMap]; rfl
            have far : ∀ (k : Nat) (o : Obj), W.heap[k]? = some o → k ≠ w9.heap.size → W1.heap[k]? = some o := fun k o h hk => by
              rw [hW1, heap_setCell_other W _ _ _ (by show k ≠ w9.heap.size; exact hk)]; exact h
            have A1 := Lib.hid (far _ _ IA.out (by omega))
            have V1 := Lib.hid (far _ _ WV.out (by omega))
            have B1 := Lib.hid (far _ _ WB.out (by omega))
            have F1 := Lib.hid (far _ _ WF.out (by omega))
            have N1 := Lib.hid (far _ _ WT.out (by omega))
            have X1 := Lib.hid (far _ _ IX.out (by omega))
            have K1 : Hid (KeptU wo.heap.size (some w9.heap.size) W W1) := by rw [hW1]; exact (KeptU.refl _ _ _).set _ _
            have hW1z : W.heap.size ≤ W1.heap.size := K1.out.size
            have HW1 := Lib.hid hW1
            clear hW1 far
            simp only [List.setIfInBounds_toArray, List.set_cons_succ, List.set_cons_zero]
            gi_upto_region 29 with fail
            rw [← HW1.out]
            clear tv ti tf hv0
            obtain ⟨kp, hkp⟩ : ∃ kp, keepM t ms i x = kp := ⟨_, rfl⟩
            gi_cut [122] from 96 (fun b wx => b = .bool kp ∧ Hid (Below W1.heap.size W1 wx))
            case first =>
              have b0 := cell_of_row W1 (wo.heap.size + 1) 0 _ _ _ B1.out
              have m0 := HeadAt.of_row A1.out i _ (markRow_at hin)
              have x0 := HeadAt.of_row X1.out 0 (.int .i64 x.op) rfl
              have x5 := HeadAt.of_row X1.out 5 (.int .i64 x.exit) rfl
              have l2 := HeadAt.of_row N1.out 2 (.int .i64 t.loop) (by rw [HCB.out, List.getElem?_set_ne (by omega)]; exact HT.out.at012.2.2.1)
              unfold keepM at hkp
              refine round_region ?hl ?hd ?_
              case hl => rintro ⟨_, _, h⟩; exact h
              case hd => kernel_rfl
              cases c1 : ms.contains (i : Int)
              case true =>
                rw [c1] at m0 hkp
                have e : kp = true := by rw [← hkp]; rfl
                clear hkp
                go_wp2_with fail
                gi_meet
                case rel => exact ⟨by rw [e], Below.refl _ _⟩
              case false =>
                rw [c1] at m0 hkp
                by_cases c2 : 0 ≤ x.exit
                · have e : kp = true := by rw [← hkp]; simp [c2]
                  clear hkp
                  go_wp2_with fail
                  gi_meet
                  case rel => exact ⟨by rw [e], Below.refl _ _⟩
                · have c2' : x.exit < 0 := by omega
                  obtain ⟨tb, htb⟩ : ∃ tb, tellsM x.op = tb := ⟨_, rfl⟩
                  have TC := Lib.hid (tells_c x.op W1)
                  rw [htb] at TC hkp
                  have HKQ := Lib.hid hkp
                  clear hkp htb
                  go_wp2_with fail
                  refine TC.out.mono ?_
                  rintro e W2 ⟨rfl, k2⟩
                  have L2 := Lib.hid k2
                  clear k2
                  have l2' := cell_on L2.out l2
                  clear l2 b0 m0 x0 x5
                  cases tb
                  case false =>
                    have e : kp = true := by rw [← HKQ.out]; simp
                    go_wp2_with fail
                    gi_meet
                    case rel => exact ⟨by rw [e], L2⟩
                  case true =>
                    by_cases c3 : i = 0
                    · subst c3
                      by_cases c4 : 0 < t.loop
                      · have e : kp = true := by rw [← HKQ.out]; simp [c4]
                        go_wp2_with fail
                        gi_meet
                        case rel => exact ⟨by rw [e], L2⟩
                      · have e : kp = false := by rw [← HKQ.out]; simp [c4, c2]
                        have c4' : decide (0 < t.loop) = false := decide_eq_false c4
                        go_wp2_with fail
                        gi_meet
                        case rel => exact ⟨by rw [e], L2⟩
                    · have e : kp = false := by rw [← HKQ.out]; simp [c3, c2]
                      go_wp2_with fail
                      gi_meet
                      case rel => exact ⟨by rw [e], L2⟩
            case rest =>
              obtain ⟨W2, hW2⟩ : ∃ W2, W2 = wc := ⟨_, rfl⟩
              subst hW2
              obtain ⟨rfl, L2⟩ := hcut
              have K2 : Hid (KeptU wo.heap.size (some w9.heap.size) W W2) := K1.out.then (L2.out.mono hW1z)
              have A2 := Lib.hid (below_row L2.out A1.out)
              have T2 := Lib.hid (below_row L2.out T1.out)
              have V2 := Lib.hid (below_row L2.out V1.out)
              have B2 := Lib.hid (below_row L2.out B1.out)
              have F2 := Lib.hid (below_row L2.out F1.out)
              have X2 := Lib.hid (below_row L2.out X1.out)
              have hW2z : W.heap.size ≤ W2.heap.size := K2.out.size
              have HKP := Lib.hid hkp
              clear hkp
              cases kp
              case false =>
                have hs : Hid (stM t (ms, tl) (i, x) = (ms, tl.set i (-1))) := by unfold stM Hid; dsimp only; rw [HKP.out]; rfl
                gi_wp2_with fail
                refine ⟨K2.out.from (by omega) (by omega), ⟨K2.out.below (by omega) (fun k e => by injection e with e; omega) (by omega), K2.out.block _ (by omega) (by omega) (by simp; omega)⟩, ?_, ?_, IK.out.trans K2.out⟩
                · rw [hnx.out, hs.out]; exact A2.out
                · rw [hnx.out, hs.out]; exact T2.out
              case true =>
                have hs : Hid (stM t (ms, tl) (i, x) = (ms ++ asksM x, tl.set i (i : Int))) := by unfold stM Hid; dsimp only; rw [HKP.out]; rfl
                have tv := cell_of_row W2 (w9.heap.size + 1) 0 _ _ _ V2.out
                have ti := HeadAt.of_row T2.out i (.int .i64 (-1)) (by rw [List.getElem?_map, List.getElem?_set_self (by omega)]; rfl)
                have tf := frozen_of_row W2 w9.heap.size i _ _ T2.out
                obtain ⟨W3, hW3⟩ : ∃ W3, W3 = W2.setCell ⟨w9.heap.size, i, none⟩ (.int .i64 (i : Int)) := ⟨_, rfl⟩
                have T3 : Hid (W3.heap[w9.heap.size]? = some (.cells ⟨(tl.set i (i : Int)).map (.int .i64)⟩ 3 (0, 0))) := by rw [hW3, heap_setCell_same W2 _ i _ _ _ T2.out, setMap, List.set_set]; rfl
                have far : ∀ (k : Nat) (o : Obj), W2.heap[k]? = some o → k ≠ w9.heap.size → W3.heap[k]? = some o := fun k o h hk => by
                  rw [hW3, heap_setCell_other W2 _ _ _ (by show k ≠ w9.heap.size; exact hk)]; exact h
                have A3 := Lib.hid (far _ _ A2.out (by omega))
                have B3 := Lib.hid (far _ _ B2.out (by omega))
                have F3 := Lib.hid (far _ _ F2.out (by omega))
                have X3 := Lib.hid (far _ _ X2.out (by omega))
                have K3 : Hid (KeptU wo.heap.size (some w9.heap.size) W W3) := by rw [hW3]; exact K2.out.set _ _
                have hW3z : W.heap.size ≤ W3.heap.size := K3.out.size
                have HW3 := Lib.hid hW3
                clear hW3 far
                gi_upto_region 31 with fail
                rw [← HW3.out]
                clear tv ti tf
                have f0 := cell_of_row W3 (wo.heap.size + 1 + 1) 0 _ _ _ F3.out
                have e0 : ∀ E : Up W3, E.to.cell? ⟨wo.heap.size + 1 + 1, 0, none⟩ = some (.func (.func 44) #[] #[.pointer (some ⟨wo.heap.size + 1, 0, none⟩)]) := fun E => E.cell f0
                have RX : Hid (∀ E : Up W3, E.to.rangeAt Bx 0 (insCells x)) := fun E a v hv => E.cell ((HeadAt.of_row X3.out).range a v hv)
                have LX : Hid ((Tryd.prog.info? 43).map (·.size) = some (insCells x).length) := infoIns8
                obtain ⟨_, _, x', _, _, hx', hwx, -⟩ := ins_op QI.out hin
                obtain rfl : x' = x := by rw [HX.out] at hx'; injection hx' with hx'; exact hx'.symm
                have OC := Lib.hid (asks_c x' hwx W3.drew)
                clear f0 hx' hwx
                refine round_region_first ?hl (fun w' => ∃ E : Up W3, w' = E.to) 2 [2, 3] [2] (by kernel_rfl) (by decide) ?hd ?hB (fun _ _ _ _ _ h => h) ⟨⟨_, (Below.refl _ W3).drew⟩, rfl⟩ ?_
                case hl => rintro ⟨_, _, h⟩; exact h
                case hd => kernel_rfl
                case hB => kernel_rfl
                simp only [List.take_succ_cons, List.take_zero]
                generalize hqq : (fun a' => wpMs _ _ _ _ _ _ a' _) = qq
                have HQQ := Lib.hid hqq
                clear hqq
                repeat (first
                  | (refine wpQuiet_load_up 43 _ rfl rfl Bx 0 rfl (insCells x') _ RX.out Tryd.underlying43 rfl LX.out ?_; go_simp)
                  | go_big_quiet_step (fail))
                refine wpQuiet_nil ?_
                rw [← HQQ.out]
                clear HQQ qq e0 RX LX
                refine wpMs_step rfl (fun K hK => ?_)
                go_simp
                refine OC.out.mono ?_
                rintro e W4 ⟨v, rfl, hv, k6⟩
                have L4 : Hid (Below W3.heap.size W3 W4) := (Below.refl _ W3).drew.trans k6
                refine hK _ _ (fun _ => ⟨⟨W4, L4.out⟩, rfl⟩) ?_
                clear hK K k6
                have A4 := Lib.hid (below_row L4.out A3.out)
                have B4 := Lib.hid (below_row L4.out B3.out)
                have T4 := Lib.hid (below_row L4.out T3.out)
                have MC := Lib.hid (mark_c v (asksM x') ms (wo.heap.size + 1) wo.heap.size t.ins.length W4 hlen hv (fun y hy => by have := CUTS.out.ins i x' HX.out y hy; omega) (cell_of_row W4 (wo.heap.size + 1) 0 _ _ _ B4.out) A4.out (by omega))
                clear hv OC
                refine wpMs_list [3] _ _ (by kernel_rfl) (by kernel_rfl) ?_
                simp only [List.filterMap_cons, List.filterMap_nil, List.getElem?_toArray, List.getElem?_cons_zero, List.getElem?_cons_succ]
                go_wp2_with fail
                refine MC.out.mono ?_
                rintro e W5 ⟨rfl, m1, m2⟩
                have K5' : Hid (KeptU wo.heap.size (some w9.heap.size) W W5) := (K3.out.then (L4.out.mono hW3z)).fined m2
                have A5 := Lib.hid m1
                have T5 := Lib.hid (m2.row T4.out (by omega))
                clear m1 m2
                go_wp2_with fail
                refine ⟨K5'.out.from (by omega) (by omega), ⟨K5'.out.below (by omega) (fun k e => by injection e with e; omega) (by omega), K5'.out.block _ (by omega) (by omega) (by simp; omega)⟩, ?_, ?_, IK.out.trans K5'.out⟩
                · rw [hnx.out, hs.out]; exact A5.out
                · rw [hnx.out, hs.out]; exact T5.out
          case stop => exact fun _ _ _ _ _ _ h => h.elim
          case done =>
            rintro D ys W hD hys ⟨hA, hT, hI⟩ hdf
            have hall : foldM t (ys.map (·.1)) = foldM t (backTo t.ins t.ins.length) := by rw [hys]
            have hdt : (deadTo t).length = t.ins.length := by rw [← foldM_all]; exact foldM_len _ _
            have hdl : (deadExits t).length = t.exits.length := by unfold deadExits; simp
            rw [hall, foldM_all] at hT
            have IK := Lib.hid hI
            have HDF := Lib.hid hdf
            have hWz : w11.heap.size ≤ W.heap.size := IK.out.size
            have WV := Lib.hid (IK.out.row XV.out (by omega) (by simp))
            have WT := Lib.hid (IK.out.row YT.out (by omega) (by simp; omega))
            have WZ := Lib.hid (IK.out.row YZ.out (by omega) (by simp; omega))
            have WO : Hid (W.ownsRow w3.heap.size 32 4 (.slice A9 t.exits.length c9) t.exits.length ((dRows (usedM t) rows t.exits.length).flatMap id)) := IK.out.own YO.out (fun G hG => by
              have h1 := hob G hG
              obtain ⟨_, _, _, h2⟩ := own_row UO.out G hG
              have h3 := (Array.getElem?_eq_some_iff.1 h2).1
              exact ⟨by omega, by simp; omega⟩)
            have BW : Hid (Below w.heap.size w W) := BQ.out.trans (IK.out.below (by omega) (fun k e => by injection e with e; omega) (by omega))
            have hfour : ∀ x ∈ rows, x.length = 4 := fun x hx => by
              obtain ⟨i, hi⟩ := List.getElem?_of_mem hx
              have hil := (List.getElem?_eq_some_iff.1 hi).1
              obtain ⟨c, h1, h2⟩ := HR3.out i _ (List.getElem?_eq_getElem (by omega))
              rw [hi] at h1
              injection h1 with h1
              subst h1
              obtain ⟨s, m, rfl, -⟩ := h2
              rfl
            have SU := sliceR_exits (xs := deadExits t) (A := A9) (c := c9) (by rw [hdl]; exact WO.out) (dRows_four hfour _) (fun j x hx => by
              unfold deadExits at hx
              rw [List.getElem?_mapIdx] at hx
              cases hy : t.exits[j]? with
              | none => rw [hy] at hx; cases hx
              | some y =>
                rw [hy] at hx
                injection hx with hx
                subst hx
                obtain ⟨r, hr, hxr⟩ := HR3.out j y hy
                exact dead_row hr (List.getElem?_eq_some_iff.1 hy).1 (hxr.keep BW.out.size (fun _ hp => BW.out.cell hp)))
            rw [hdl] at SU
            have TR : Hid (TraceR W W.heap.size cb (deadT t)) := by
              rw [HCB.out]; exact traceR_exits HT.out BW.out.size (fun _ hp => BW.out.cell hp) SU
            have ST := sliceR_of_row hT (deadTo_wf hlen) (by rw [hdt]; unfold maxLen; omega)
            rw [hdt] at ST
            have CC := Lib.hid (cut_c cb (deadT t) _ (deadTo t) W TR.out ST (smallT_dead SM.out))
            have tv := cell_of_row W (w9.heap.size + 1) 0 _ _ _ WV.out
            have RTr : Hid (W.rangeAt (w.heap.size + 1) 0 cb) := (HeadAt.of_row WT.out).range
            have LTr : Hid ((Tryd.prog.info? 34).map (·.size) = some cb.length) := by rw [HCB.out, List.length_set]; exact HIt.out
            have hzD : D < W.heap.size := (Array.getElem?_eq_some_iff.1 hdf).1
            have hzW1 : w.heap.size + 1 + 1 < W.heap.size := by omega
            clear hA hT hI hdf hall SU ST hys hfour TR
            go_wp2_with (first | (refine wpList_load_mid rfl 34 _ rfl (w.heap.size + 1) 0 rfl cb _ RTr.out Tryd.underlying34 rfl LTr.out ?_) | fail)
            refine CC.out.mono ?_
            rintro e W2 ⟨cs, rfl, tr, k2, hset⟩
            have TR2 := Lib.hid (hset (w.heap.size + 1 + 1))
            obtain ⟨B1, m1, B2, m2, B3, m3, B4, m4, B5, m5, B6, m6, rfl, -⟩ := TraceR.cells tr
            have Z2 := Lib.hid (below_row k2 WZ.out)
            have D2 := Lib.hid (below_row k2 HDF.out)
            have K2 : Hid (Below w.heap.size w W2) := BW.out.trans (k2.mono BW.out.size)
            clear tr k2 hset tv CC
            go_wp2_with (refine wpList_store_row rfl 34 _ _ rfl (w.heap.size + 1 + 1) #[.int .i64 (cutM (deadT t) (deadTo t)).1.fn, .int .i64 (cutM (deadT t) (deadTo t)).1.at_, .int .i64 (cutM (deadT t) (deadTo t)).1.loop, .slice B1 (cutM (deadT t) (deadTo t)).1.ins.length m1, .slice B2 (cutM (deadT t) (deadTo t)).1.exits.length m2, .int .i64 (cutM (deadT t) (deadTo t)).1.turn.at_, .int .i64 (cutM (deadT t) (deadTo t)).1.turn.steps, .slice B3 (cutM (deadT t) (deadTo t)).1.turn.sets.length m3, .slice B4 (cutM (deadT t) (deadTo t)).1.turn.makes.length m4, .int .i64 (cutM (deadT t) (deadTo t)).1.back.at_, .int .i64 (cutM (deadT t) (deadTo t)).1.back.steps, .slice B5 (cutM (deadT t) (deadTo t)).1.back.sets.length m5, .slice B6 (cutM (deadT t) (deadTo t)).1.back.makes.length m6] rfl rfl 34 _ Z2.out infoTr13 rfl (all_oneCell_toArray (by simp [Value.oneCell'])) ?_)
            generalize hw13 : World.setRow _ _ _ = W6
            have QR : Hid (W6.heap[w.heap.size + 1 + 1]? = some (.cells #[.int .i64 (cutM (deadT t) (deadTo t)).1.fn, .int .i64 (cutM (deadT t) (deadTo t)).1.at_, .int .i64 (cutM (deadT t) (deadTo t)).1.loop, .slice B1 (cutM (deadT t) (deadTo t)).1.ins.length m1, .slice B2 (cutM (deadT t) (deadTo t)).1.exits.length m2, .int .i64 (cutM (deadT t) (deadTo t)).1.turn.at_, .int .i64 (cutM (deadT t) (deadTo t)).1.turn.steps, .slice B3 (cutM (deadT t) (deadTo t)).1.turn.sets.length m3, .slice B4 (cutM (deadT t) (deadTo t)).1.turn.makes.length m4, .int .i64 (cutM (deadT t) (deadTo t)).1.back.at_, .int .i64 (cutM (deadT t) (deadTo t)).1.back.steps, .slice B5 (cutM (deadT t) (deadTo t)).1.back.sets.length m5, .slice B6 (cutM (deadT t) (deadTo t)).1.back.makes.length m6] 34 (0, 0))) := by rw [← hw13]; exact setRow_heap _ _ _ _ _ _ Z2.out
            have K6 : Hid (Below w.heap.size w W6) := by rw [← hw13]; exact Below.set_row K2.out (by omega) _
            have T6 : Hid (TraceR W6 W6.heap.size [.int .i64 (cutM (deadT t) (deadTo t)).1.fn, .int .i64 (cutM (deadT t) (deadTo t)).1.at_, .int .i64 (cutM (deadT t) (deadTo t)).1.loop, .slice B1 (cutM (deadT t) (deadTo t)).1.ins.length m1, .slice B2 (cutM (deadT t) (deadTo t)).1.exits.length m2, .int .i64 (cutM (deadT t) (deadTo t)).1.turn.at_, .int .i64 (cutM (deadT t) (deadTo t)).1.turn.steps, .slice B3 (cutM (deadT t) (deadTo t)).1.turn.sets.length m3, .slice B4 (cutM (deadT t) (deadTo t)).1.turn.makes.length m4, .int .i64 (cutM (deadT t) (deadTo t)).1.back.at_, .int .i64 (cutM (deadT t) (deadTo t)).1.back.steps, .slice B5 (cutM (deadT t) (deadTo t)).1.back.sets.length m5, .slice B6 (cutM (deadT t) (deadTo t)).1.back.makes.length m6] (cutM (deadT t) (deadTo t)).1) := by rw [← hw13]; exact TR2.out _ hzW1
            have D6 : Hid (W6.heap[D]? = some (.deferred (some []))) := by
              rw [← hw13]; exact (setRow_other _ _ _ _ (by omega)).trans D2.out
            clear hw13
            go_wp2_with fail
            obtain ⟨W7, hW7⟩ : ∃ W7, W7 = W6.putObj D (.deferred none) := ⟨_, rfl⟩
            have Q7 : Hid (W7.heap[w.heap.size + 1 + 1]? = some (.cells #[.int .i64 (cutM (deadT t) (deadTo t)).1.fn, .int .i64 (cutM (deadT t) (deadTo t)).1.at_, .int .i64 (cutM (deadT t) (deadTo t)).1.loop, .slice B1 (cutM (deadT t) (deadTo t)).1.ins.length m1, .slice B2 (cutM (deadT t) (deadTo t)).1.exits.length m2, .int .i64 (cutM (deadT t) (deadTo t)).1.turn.at_, .int .i64 (cutM (deadT t) (deadTo t)).1.turn.steps, .slice B3 (cutM (deadT t) (deadTo t)).1.turn.sets.length m3, .slice B4 (cutM (deadT t) (deadTo t)).1.turn.makes.length m4, .int .i64 (cutM (deadT t) (deadTo t)).1.back.at_, .int .i64 (cutM (deadT t) (deadTo t)).1.back.steps, .slice B5 (cutM (deadT t) (deadTo t)).1.back.sets.length m5, .slice B6 (cutM (deadT t) (deadTo t)).1.back.makes.length m6] 34 (0, 0))) := by rw [hW7]; exact (World.putObj_heap_other (by omega)).trans QR.out
            have T7 : Hid (TraceR W7 W7.heap.size [.int .i64 (cutM (deadT t) (deadTo t)).1.fn, .int .i64 (cutM (deadT t) (deadTo t)).1.at_, .int .i64 (cutM (deadT t) (deadTo t)).1.loop, .slice B1 (cutM (deadT t) (deadTo t)).1.ins.length m1, .slice B2 (cutM (deadT t) (deadTo t)).1.exits.length m2, .int .i64 (cutM (deadT t) (deadTo t)).1.turn.at_, .int .i64 (cutM (deadT t) (deadTo t)).1.turn.steps, .slice B3 (cutM (deadT t) (deadTo t)).1.turn.sets.length m3, .slice B4 (cutM (deadT t) (deadTo t)).1.turn.makes.length m4, .int .i64 (cutM (deadT t) (deadTo t)).1.back.at_, .int .i64 (cutM (deadT t) (deadTo t)).1.back.steps, .slice B5 (cutM (deadT t) (deadTo t)).1.back.sets.length m5, .slice B6 (cutM (deadT t) (deadTo t)).1.back.makes.length m6] (cutM (deadT t) (deadTo t)).1) := T6.out.keep (by rw [hW7]; simp) (fun p _ => by rw [hW7]; exact cell_shut D6.out p)
            have K7 : Hid (Below w.heap.size w W7) := by rw [hW7]; exact below_shut K6.out (by omega) K6.out.size
            have r0 := cell_of_row W7 (w.heap.size + 1 + 1) 0 _ _ _ Q7.out
            have r1 := cell_of_row W7 (w.heap.size + 1 + 1) 1 _ _ _ Q7.out
            have r2 := cell_of_row W7 (w.heap.size + 1 + 1) 2 _ _ _ Q7.out
            have r3 := cell_of_row W7 (w.heap.size + 1 + 1) 3 _ _ _ Q7.out
            have r4 := cell_of_row W7 (w.heap.size + 1 + 1) 4 _ _ _ Q7.out
            have r5 := cell_of_row W7 (w.heap.size + 1 + 1) 5 _ _ _ Q7.out
            have r6 := cell_of_row W7 (w.heap.size + 1 + 1) 6 _ _ _ Q7.out
            have r7 := cell_of_row W7 (w.heap.size + 1 + 1) 7 _ _ _ Q7.out
            have r8 := cell_of_row W7 (w.heap.size + 1 + 1) 8 _ _ _ Q7.out
            have r9 := cell_of_row W7 (w.heap.size + 1 + 1) 9 _ _ _ Q7.out
            have r10 := cell_of_row W7 (w.heap.size + 1 + 1) 10 _ _ _ Q7.out
            have r11 := cell_of_row W7 (w.heap.size + 1 + 1) 11 _ _ _ Q7.out
            have r12 := cell_of_row W7 (w.heap.size + 1 + 1) 12 _ _ _ Q7.out
            rw [HM.out]
            refine ⟨by simp, .inl ⟨D, W7, rfl, by rw [hW7]; exact run_takeDeferred D6.out, ?_⟩⟩
            exact ⟨.tuple #[.agg ⟨[.int .i64 (cutM (deadT t) (deadTo t)).1.fn, .int .i64 (cutM (deadT t) (deadTo t)).1.at_, .int .i64 (cutM (deadT t) (deadTo t)).1.loop, .slice B1 (cutM (deadT t) (deadTo t)).1.ins.length m1, .slice B2 (cutM (deadT t) (deadTo t)).1.exits.length m2, .int .i64 (cutM (deadT t) (deadTo t)).1.turn.at_, .int .i64 (cutM (deadT t) (deadTo t)).1.turn.steps, .slice B3 (cutM (deadT t) (deadTo t)).1.turn.sets.length m3, .slice B4 (cutM (deadT t) (deadTo t)).1.turn.makes.length m4, .int .i64 (cutM (deadT t) (deadTo t)).1.back.at_, .int .i64 (cutM (deadT t) (deadTo t)).1.back.steps, .slice B5 (cutM (deadT t) (deadTo t)).1.back.sets.length m5, .slice B6 (cutM (deadT t) (deadTo t)).1.back.makes.length m6]⟩, .int .i64 (cutM (deadT t) (deadTo t)).2], by simp [results, Tryd.results22, go_sem, r0, r1, r2, r3, r4, r5, r6, r7, r8, r9, r10, r11, r12], ⟨_, rfl, T7.out, K7.out⟩⟩
end Go.Proofs.YtmccomeihnaanaaDoor
