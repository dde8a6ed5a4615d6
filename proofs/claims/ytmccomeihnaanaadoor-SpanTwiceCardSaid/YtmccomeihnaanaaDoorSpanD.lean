/- span: narrow. -/
import Derived.Test.YtmccomeihnaanaaDoorSpanC
import Derived.Test.YtmccomeihnaanaaDoorComm
import Derived.Deep.DeepCutAuto
namespace Go.Proofs.YtmccomeihnaanaaDoor
open Go.RowKit Go.Maps

/-- worlds in which block g holds these cells -/
structure BoxS (g : Nat) (cs : List Value) where
  wd : World
  here : HeadAt wd g cs
def SpanPost (mb : Nat) (ins : List TIns) (s : Int × Int) (a : Nat) (L : List (Nat × Nat)) (W : World) (e : Ending) (W' : World) : Prop :=
  e = .returned (.agg #[.int .i64 s.1, .int .i64 s.2]) ∧ Fined mb W W' ∧ ∃ L', MapAt W' mb ins L' ∧ ∀ k ∈ L', k ∈ L ∨ k.2 ≤ a
/-- span's contract at a place -/
def SpanC (B fb mb : Nat) (ca : List Value) (t : TTrace) (a : Nat) : Prop := ∀ (v : Nat) (W : World) (L : List (Nat × Nat)), v < a → a ≤ t.ins.length → FindR W B fb mb ca t → MapAt W mb t.ins L →
  Calls Tryd.prog 55 #[.pointer (some ⟨fb, 0, none⟩), .int .i64 (v : Int), .int .i64 (a : Int)] W (SpanPost mb t.ins (spanM t.ins v a) a L W)
theorem infoBo2 : (Tryd.prog.info? 113).map (·.size) = some 2 := by kernel_rfl
theorem first_ok {sl sh h d : Int} (hs : okS (sl, sh)) {v a : Int} : okS (if v = a then (if sl ≤ min sh (h - d) then (sl, min sh (h - d)) else (sl, sh)) else (sl, sh)) := by
  obtain ⟨h1, h2, h3⟩ := hs
  split
  · split
    · exact ⟨h1, by assumption, by dsimp only at h3 ⊢; omega⟩
    · exact ⟨h1, h2, h3⟩
  · exact ⟨h1, h2, h3⟩
theorem narrow_eq (S : Int → Int × Int) (sl sh v p q d : Int) {qh pl : Int} {s1 : Int × Int} (hq : (S q).2 = qh) (hp : (S p).1 = pl) (h1 : (if v = p then (if sl ≤ min sh (qh - d) then (sl, min sh (qh - d)) else (sl, sh)) else (sl, sh)) = s1) :
    narrowM S (sl, sh) v p q d = if v = q then (if max s1.1 (pl + d) ≤ s1.2 then (max s1.1 (pl + d), s1.2) else s1) else s1 := by
  subst hq; subst hp; subst h1; rfl
set_option maxHeartbeats 4000000 in
set_option maxRecDepth 100000 in
theorem narrow_c {B fb mb : Nat} {ca : List Value} {t : TTrace} {a : Nat} (ih : SpanC B fb mb ca t a) (hc : ConstOk t.ins) {W : World} {L : List (Nat × Nat)} (hf : FindR W B fb mb ca t) (hm : MapAt W mb t.ins L) (hla : a ≤ t.ins.length) (hl : t.ins.length ≤ 300)
    (sl sh : Int) (hs : okS (sl, sh)) (v : Int) (p q : Nat) (hp : p < a) (hq : q < a) (d : Int) (hd0 : 0 ≤ d) (hd1 : d ≤ 1) :
    Calls Tryd.prog 88 #[.pointer (some ⟨fb, 0, none⟩), .agg #[.int .i64 sl, .int .i64 sh], .int .i64 v, .int .i64 (p : Int), .int .i64 (q : Int), .int .i64 d, .int .i64 (a : Int)] W (SpanPost mb t.ins (narrowM (spanM t.ins · a) (sl, sh) v p q d) a L W) := by
  have IH := Lib.hid ih
  obtain ⟨ql, qh, hqs⟩ : ∃ ql qh, spanM t.ins q a = (ql, qh) := ⟨_, _, rfl⟩
  obtain ⟨pl, ph, hps⟩ : ∃ pl ph, spanM t.ins p a = (pl, ph) := ⟨_, _, rfl⟩
  obtain ⟨q1, q2, q3⟩ : okS (ql, qh) := by rw [← hqs]; exact spanM_ok hc _ _
  obtain ⟨p1, p2, p3⟩ : okS (pl, ph) := by rw [← hps]; exact spanM_ok hc _ _
  obtain ⟨s1, hs1⟩ : ∃ s1, (if v = (p : Int) then (if sl ≤ min sh (qh - d) then (sl, min sh (qh - d)) else (sl, sh)) else (sl, sh)) = s1 := ⟨_, rfl⟩
  have hN : Hid (narrowM (spanM t.ins · a) (sl, sh) v p q d = (if v = (q : Int) then (if max s1.1 (pl + d) ≤ s1.2 then (max s1.1 (pl + d), s1.2) else s1) else s1)) := narrow_eq (spanM t.ins · a) sl sh v p q d (by rw [hqs]) (by rw [hps]) hs1
  have ok1 : okS s1 := by rw [← hs1]; exact first_ok hs
  obtain ⟨t1, t2⟩ := s1
  dsimp only at hN
  obtain ⟨o1, o2, o3⟩ := ok1
  obtain ⟨u1, u2, u3⟩ := hs
  dsimp only at q1 q2 q3 p1 p2 p3 o1 o2 o3 u1 u2 u3
  obtain ⟨w1, hw1⟩ : ∃ w1, w1 = (W.alloc (.cells #[.int .i64 sl, .int .i64 sh] 113)).alloc (.cells #[.int .i64 0, .int .i64 0] 113) := ⟨_, rfl⟩
  have K1 : Hid (Below W.heap.size W w1) := by rw [hw1]; exact below_two' W _ _
  have S1 : Hid (w1.heap[W.heap.size]? = some (.cells ⟨[.int .i64 sl, .int .i64 sh]⟩ 113 (0, 0))) := by rw [hw1]; exact heap_old (heap_last W _) _
  have Z1 : Hid (w1.heap[W.heap.size + 1]? = some (.cells ⟨[.int .i64 0, .int .i64 0]⟩ 113 (0, 0))) := by rw [hw1]; exact heap_two _ _ _
  have hmW : mb < W.heap.size := by
    obtain ⟨es, clock, hb, _⟩ := hm.own
    exact (Array.getElem?_eq_some_iff.1 hb).1
  have F1 := Lib.hid (hf.below K1.out)
  have M1 := Lib.hid (hm.below K1.out)
  have hz1 : W.heap.size + 1 < w1.heap.size := (Array.getElem?_eq_some_iff.1 Z1.out).1
  have HW := Lib.hid hw1
  have HQS := Lib.hid hqs
  have HPS := Lib.hid hps
  have HS1 := Lib.hid hs1
  have HF := Lib.hid hf
  clear hw1 ih hf hm hqs hps hs1
  go_enter Tryd.func88, Tryd.ntmps88
  go_upto_region 1 with fail
  rw [← HW.out]
  go_upto_if 19 with fail
  go_cut [15] (fun _ wx => ∃ L1, Hid (MapAt wx mb t.ins L1) ∧ Hid (∀ k ∈ L1, k ∈ L ∨ k.2 ≤ a) ∧ Hid (wx.heap[W.heap.size]? = some (.cells ⟨[.int .i64 t1, .int .i64 t2]⟩ 113 (0, 0))) ∧ Hid (wx.heap[W.heap.size + 1]? = some (.cells ⟨[.int .i64 0, .int .i64 0]⟩ 113 (0, 0))) ∧ Hid (Fined mb W wx))
  case first =>
    by_cases c : v = (p : Int)
    · have b1 : (v == (p : Int)) = true := beq_iff_eq.2 c
      have e1 := HS1.out
      rw [if_pos c] at e1
      have HE := Lib.hid e1
      clear e1 c
      go_upto_region 2 with fail
      have e0 : ∀ E : BoxS W.heap.size [.int .i64 sl, .int .i64 sh], E.wd.cell? ⟨W.heap.size, 1, none⟩ = some (.int .i64 sh) := fun E => E.here 1 _ rfl
      haveI : Nonempty (BoxS W.heap.size [.int .i64 sl, .int .i64 sh]) := ⟨⟨w1, HeadAt.of_row S1.out⟩⟩
      have SC := IH.out q w1.drew L hq hla (F1.out.below (Below.refl _ w1).drew) (M1.out.below (Below.refl _ w1).drew)
      rw [HQS.out] at SC
      have HSC := Lib.hid SC
      clear SC
      have hw : IntKind.i64.wrap (qh - d) = qh - d := IntWalk.i64_in _ (by omega)
      refine wp_region_moves (fun w' => ∃ E : BoxS W.heap.size [.int .i64 sl, .int .i64 sh], w' = E.wd) [2, 3, 4, 7] [0, 1] [5, 6, 8, 9, 10] [5, 6, 8] _ (by kernel_rfl) (by kernel_rfl) (by simp only [List.cons_append, List.nil_append, List.filterMap_cons, List.filterMap_nil, List.getElem?_toArray, List.getElem?_cons_zero, List.getElem?_cons_succ]; rfl) (fun _ _ d _ _ h => by cases d <;> exact h) ⟨⟨w1.drew, HeadAt.of_row S1.out⟩, rfl⟩ ?_
      show wpQuiet _ _ _ _ [_, _, _, _, _, _] _
      generalize hqq : (fun a' => wpMs _ _ _ _ _ _ a' _) = qq
      have HQQ := Lib.hid hqq
      clear hqq
      repeat (go_big_quiet_step (fail))
      refine wpQuiet_nil ?_
      rw [← HQQ.out]
      clear HQQ qq e0
      refine wpMs_step rfl (fun K hK => ?_)
      go_simp
      refine HSC.out.mono ?_
      rintro e w2 ⟨rfl, k2, L2, m2, hL2⟩
      have S2 : Hid (w2.heap[W.heap.size]? = some (.cells ⟨[.int .i64 sl, .int .i64 sh]⟩ 113 (0, 0))) := k2.row S1.out (by omega)
      have Z2 : Hid (w2.heap[W.heap.size + 1]? = some (.cells ⟨[.int .i64 0, .int .i64 0]⟩ 113 (0, 0))) := k2.row Z1.out (by omega)
      have K2 : Hid (Fined mb W w2) := (Fined.of_below K1.out).drew.trans k2
      have M2 := Lib.hid m2
      have HL2 := Lib.hid hL2
      refine hK _ _ (fun _ => ⟨⟨w2, HeadAt.of_row S2.out⟩, rfl⟩) ?_
      clear hK K k2 m2 hL2 HSC
      refine wpMs_step rfl (fun K hK => ?_)
      go_simp
      refine hK _ _ (fun _ => ⟨⟨w2, HeadAt.of_row S2.out⟩, rfl⟩) ?_
      clear hK K
      refine wpMs_step rfl (fun K hK => ?_)
      go_simp
      refine hK _ _ (fun _ => ⟨⟨w2, HeadAt.of_row S2.out⟩, rfl⟩) ?_
      clear hK K
      refine wpMs_list [9, 10] _ _ (by kernel_rfl) (by kernel_rfl) ?_
      simp only [List.filterMap_cons, List.filterMap_nil, List.getElem?_toArray, List.getElem?_cons_zero, List.getElem?_cons_succ]
      have f0 := HeadAt.of_row S2.out 0 (.int .i64 sl) rfl
      by_cases c2 : sl ≤ min sh (qh - d)
      · have HE2 := HE.out
        rw [if_pos c2] at HE2
        injection HE2 with e1 e2
        have f1 := HeadAt.of_row S2.out 1 (.int .i64 sh) rfl
        have fz := frozen_of_row w2 W.heap.size 1 _ _ S2.out
        obtain ⟨w3, hw3⟩ : ∃ w3, w3 = w2.setCell ⟨W.heap.size, 1, none⟩ (.int .i64 (min sh (qh - d))) := ⟨_, rfl⟩
        have S3 : Hid (w3.heap[W.heap.size]? = some (.cells ⟨[.int .i64 t1, .int .i64 t2]⟩ 113 (0, 0))) := by rw [hw3, heap_setCell_same w2 _ 1 _ _ _ S2.out, ← e1, ← e2]; rfl
        have Z3 : Hid (w3.heap[W.heap.size + 1]? = some (.cells ⟨[.int .i64 0, .int .i64 0]⟩ 113 (0, 0))) := by rw [hw3, heap_setCell_other w2 _ _ _ (by show W.heap.size + 1 ≠ W.heap.size; omega)]; exact Z2.out
        have M3 : Hid (MapAt w3 mb t.ins L2) := by rw [hw3]; exact M2.out.set_ (by omega) _ _
        have K3 : Hid (Fined mb W w3) := by rw [hw3]; exact K2.out.then (Below.set_at (Below.refl _ _) (Nat.le_refl _) _ _)
        have HW3 := Lib.hid hw3
        clear hw3 HE e1 e2
        go_wp2_with fail
        rw [← HW3.out]
        go_meet
        case rel => exact ⟨L2, M3, HL2, S3, Z3, K3⟩
      · have HE2 := HE.out
        rw [if_neg c2] at HE2
        injection HE2 with e1 e2
        subst e1; subst e2
        clear HE
        go_wp2_with fail
        go_meet
        case rel => exact ⟨L2, M2, HL2, S2, Z2, K2⟩
    · have b1 : (v == (p : Int)) = false := beq_eq_false_iff_ne.2 c
      have e1 := HS1.out
      rw [if_neg c] at e1
      injection e1 with e1 e2
      subst e1; subst e2
      go_wp2_with fail
      go_meet
      case rel => exact ⟨L, M1, fun k hk => .inl hk, S1, Z1, .of_below K1.out⟩
  case rest =>
    obtain ⟨w2, hw2⟩ : ∃ w2, w2 = wc := ⟨_, rfl⟩
    subst hw2
    obtain ⟨L1, M2, HL1, S2, Z2, K2⟩ := hcut
    have F2 := Lib.hid (HF.out.fined K2.out)
    clear HS1 HQS F1 M1 S1 Z1 HW
    have hz2 : W.heap.size + 1 < w2.heap.size := (Array.getElem?_eq_some_iff.1 Z2.out).1
    obtain ⟨s2, hs2⟩ : ∃ s2, (if v = (q : Int) then (if max t1 (pl + d) ≤ t2 then (max t1 (pl + d), t2) else (t1, t2)) else (t1, t2)) = s2 := ⟨_, rfl⟩
    have hN2 : Hid (narrowM (spanM t.ins · a) (sl, sh) v p q d = s2) := by rw [show Hid _ = _ from rfl, hN.out]; exact hs2
    obtain ⟨r1, r2⟩ := s2
    have HS2 := Lib.hid hs2
    clear hs2 hN
    go_upto_if 38 with fail
    go_cut [16] (fun _ wx => ∃ L2, Hid (MapAt wx mb t.ins L2) ∧ Hid (∀ k ∈ L2, k ∈ L ∨ k.2 ≤ a) ∧ Hid (wx.heap[W.heap.size]? = some (.cells ⟨[.int .i64 r1, .int .i64 r2]⟩ 113 (0, 0))) ∧ Hid (wx.heap[W.heap.size + 1]? = some (.cells ⟨[.int .i64 0, .int .i64 0]⟩ 113 (0, 0))) ∧ Hid (Fined mb W wx))
    case first =>
      by_cases c : v = (q : Int)
      · have b1 : (v == (q : Int)) = true := beq_iff_eq.2 c
        have e1 := HS2.out
        rw [if_pos c] at e1
        have HE := Lib.hid e1
        clear e1 c
        go_upto_region 6 with fail
        have e0 : ∀ E : BoxS W.heap.size [.int .i64 t1, .int .i64 t2], E.wd.cell? ⟨W.heap.size, 0, none⟩ = some (.int .i64 t1) := fun E => E.here 0 _ rfl
        haveI : Nonempty (BoxS W.heap.size [.int .i64 t1, .int .i64 t2]) := ⟨⟨w2, HeadAt.of_row S2.out⟩⟩
        have SC := IH.out p w2.drew L1 hp hla (F2.out.below (Below.refl _ w2).drew) (M2.out.below (Below.refl _ w2).drew)
        rw [HPS.out] at SC
        have HSC := Lib.hid SC
        clear SC
        have hw : IntKind.i64.wrap (pl + d) = pl + d := IntWalk.i64_in _ (by omega)
        refine wp_region_moves (fun w' => ∃ E : BoxS W.heap.size [.int .i64 t1, .int .i64 t2], w' = E.wd) [2, 3, 4, 7] [0, 1] [5, 6, 8, 9, 10] [5, 6, 8] _ (by kernel_rfl) (by kernel_rfl) (by simp only [List.cons_append, List.nil_append, List.filterMap_cons, List.filterMap_nil, List.getElem?_toArray, List.getElem?_cons_zero, List.getElem?_cons_succ]; rfl) (fun _ _ d _ _ h => by cases d <;> exact h) ⟨⟨w2.drew, HeadAt.of_row S2.out⟩, rfl⟩ ?_
        show wpQuiet _ _ _ _ [_, _, _, _, _, _] _
        generalize hqq : (fun a' => wpMs _ _ _ _ _ _ a' _) = qq
        have HQQ := Lib.hid hqq
        clear hqq
        repeat (go_big_quiet_step (fail))
        refine wpQuiet_nil ?_
        rw [← HQQ.out]
        clear HQQ qq e0
        refine wpMs_step rfl (fun K hK => ?_)
        go_simp
        refine HSC.out.mono ?_
        rintro e w3 ⟨rfl, k3, L2, m3, hL2⟩
        have S3 : Hid (w3.heap[W.heap.size]? = some (.cells ⟨[.int .i64 t1, .int .i64 t2]⟩ 113 (0, 0))) := k3.row S2.out (by omega)
        have Z3 : Hid (w3.heap[W.heap.size + 1]? = some (.cells ⟨[.int .i64 0, .int .i64 0]⟩ 113 (0, 0))) := k3.row Z2.out (by omega)
        have K3 : Hid (Fined mb W w3) := K2.out.drew.trans k3
        have M3 := Lib.hid m3
        have HL2 : Hid (∀ k ∈ L2, k ∈ L ∨ k.2 ≤ a) := fun k hk => by
          rcases hL2 k hk with h | h
          · exact HL1.out k h
          · exact .inr h
        refine hK _ _ (fun _ => ⟨⟨w3, HeadAt.of_row S3.out⟩, rfl⟩) ?_
        clear hK K k3 m3 hL2 HSC
        refine wpMs_step rfl (fun K hK => ?_)
        go_simp
        refine hK _ _ (fun _ => ⟨⟨w3, HeadAt.of_row S3.out⟩, rfl⟩) ?_
        clear hK K
        refine wpMs_step rfl (fun K hK => ?_)
        go_simp
        refine hK _ _ (fun _ => ⟨⟨w3, HeadAt.of_row S3.out⟩, rfl⟩) ?_
        clear hK K
        refine wpMs_list [9, 10] _ _ (by kernel_rfl) (by kernel_rfl) ?_
        simp only [List.filterMap_cons, List.filterMap_nil, List.getElem?_toArray, List.getElem?_cons_zero, List.getElem?_cons_succ]
        have f1 := HeadAt.of_row S3.out 1 (.int .i64 t2) rfl
        by_cases c2 : max t1 (pl + d) ≤ t2
        · have HE2 := HE.out
          rw [if_pos c2] at HE2
          injection HE2 with e1 e2
          have f0 := HeadAt.of_row S3.out 0 (.int .i64 t1) rfl
          have fz := frozen_of_row w3 W.heap.size 0 _ _ S3.out
          obtain ⟨w4, hw4⟩ : ∃ w4, w4 = w3.setCell ⟨W.heap.size, 0, none⟩ (.int .i64 (max t1 (pl + d))) := ⟨_, rfl⟩
          have S4 : Hid (w4.heap[W.heap.size]? = some (.cells ⟨[.int .i64 r1, .int .i64 r2]⟩ 113 (0, 0))) := by rw [hw4, heap_setCell_same w3 _ 0 _ _ _ S3.out, ← e1, ← e2]; rfl
          have Z4 : Hid (w4.heap[W.heap.size + 1]? = some (.cells ⟨[.int .i64 0, .int .i64 0]⟩ 113 (0, 0))) := by rw [hw4, heap_setCell_other w3 _ _ _ (by show W.heap.size + 1 ≠ W.heap.size; omega)]; exact Z3.out
          have M4 : Hid (MapAt w4 mb t.ins L2) := by rw [hw4]; exact M3.out.set_ (by omega) _ _
          have K4 : Hid (Fined mb W w4) := by rw [hw4]; exact K3.out.then (Below.set_at (Below.refl _ _) (Nat.le_refl _) _ _)
          have HW4 := Lib.hid hw4
          clear hw4 HE e1 e2
          go_wp2_with fail
          rw [← HW4.out]
          go_meet
          case rel => exact ⟨L2, M4, HL2, S4, Z4, K4⟩
        · have HE2 := HE.out
          rw [if_neg c2] at HE2
          injection HE2 with e1 e2
          subst e1; subst e2
          clear HE
          go_wp2_with fail
          go_meet
          case rel => exact ⟨L2, M3, HL2, S3, Z3, K3⟩
      · have b1 : (v == (q : Int)) = false := beq_eq_false_iff_ne.2 c
        have e1 := HS2.out
        rw [if_neg c] at e1
        injection e1 with e1 e2
        subst e1; subst e2
        go_wp2_with fail
        go_meet
        case rel => exact ⟨L1, M2, HL1, S2, Z2, K2⟩
    case rest =>
      obtain ⟨w3, hw3⟩ : ∃ w3, w3 = wc := ⟨_, rfl⟩
      subst hw3
      obtain ⟨L2, M3, HL2, S3, Z3, K3⟩ := hcut
      clear S2 Z2 M2 F2 HS2 HPS
      have f0 := HeadAt.of_row S3.out 0 (.int .i64 r1) rfl
      have f1 := HeadAt.of_row S3.out 1 (.int .i64 r2) rfl
      have z0 := HeadAt.of_row Z3.out 0 (.int .i64 0) rfl
      have z1 := HeadAt.of_row Z3.out 1 (.int .i64 0) rfl
      have y0 := frozen_of_row w3 (W.heap.size + 1) 0 _ _ Z3.out
      have y1 := frozen_of_row w3 (W.heap.size + 1) 1 _ _ Z3.out
      obtain ⟨w4, hw4⟩ : ∃ w4, w4 = (w3.setCell ⟨W.heap.size + 1, 0, none⟩ (.int .i64 r1)).setCell ⟨W.heap.size + 1, 1, none⟩ (.int .i64 r2) := ⟨_, rfl⟩
      have Z4 : Hid (w4.heap[W.heap.size + 1]? = some (.cells ⟨[.int .i64 r1, .int .i64 r2]⟩ 113 (0, 0))) := by rw [hw4, heap_setCell_same _ _ 1 _ _ _ (heap_setCell_same w3 _ 0 _ _ _ Z3.out)]; rfl
      have M4 : Hid (MapAt w4 mb t.ins L2) := by rw [hw4]; exact (M3.out.set_ (by omega) _ _).set_ (by omega) _ _
      have K4 : Hid (Fined mb W w4) := by rw [hw4]; exact K3.out.then (Below.set_at (Below.set_at (Below.refl _ _) (by omega) _ _) (by omega) _ _)
      have HW4 := Lib.hid hw4
      clear hw4
      go_wp2_with fail
      rw [← HW4.out]
      have n0 := cell_of_row w4 (W.heap.size + 1) 0 _ _ _ Z4.out
      have n1 := cell_of_row w4 (W.heap.size + 1) 1 _ _ _ Z4.out
      rw [hN2.out]
      exact bodyPost_ret (v := .agg #[.int .i64 r1, .int .i64 r2]) (by simp [results, Tryd.results88, go_sem, n0, n1]) rfl ⟨rfl, K4.out, L2, M4.out, HL2.out⟩
end Go.Proofs.YtmccomeihnaanaaDoor
