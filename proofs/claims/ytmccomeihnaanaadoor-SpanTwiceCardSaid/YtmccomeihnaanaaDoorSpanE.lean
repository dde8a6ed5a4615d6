/- span: reckoned. -/
import Derived.Test.YtmccomeihnaanaaDoorSpanD
namespace Go.Proofs.YtmccomeihnaanaaDoor
open Go.RowKit Go.Maps

section
variable {P : Program} {ops : Array Oper} {md : Region.Mode} {C : World → Prop} {Q : Exit → Act → World → Prop}
theorem wpAnyC_three {F : Nat → Bool} {f i k j : Nat} {oi ok oj : Oper} {listed : Array Bool} {a : Act} {w : World} (hr : Region.ready md ops listed = [i, k, j]) (hi : ops[i]? = some oi) (hk : ops[k]? = some ok) (hj : ops[j]? = some oj)
    (h1 : ∀ K : Act → World → Prop, (∀ a w, (F i = true → C w) → wpAnyC P md ops C F Q f (listed.setIfInBounds i true) a w → K a w) → if Region.wanted oi (yielded ops a.tmps) then oi.wp P a w K Q else K (a.put oi.dst undef) w)
    (h2 : ∀ K : Act → World → Prop, (∀ a w, (F k = true → C w) → wpAnyC P md ops C F Q f (listed.setIfInBounds k true) a w → K a w) → if Region.wanted ok (yielded ops a.tmps) then ok.wp P a w K Q else K (a.put ok.dst undef) w)
    (h3 : ∀ K : Act → World → Prop, (∀ a w, (F j = true → C w) → wpAnyC P md ops C F Q f (listed.setIfInBounds j true) a w → K a w) → if Region.wanted oj (yielded ops a.tmps) then oj.wp P a w K Q else K (a.put oj.dst undef) w) :
    wpAnyC P md ops C F Q (f + 1) listed a w := by
  refine ⟨fun h => (by rw [hr] at h; cases h), fun m hm => ?_⟩
  rw [hr] at hm
  rcases List.mem_cons.1 hm with rfl | hm
  · have := h1 (fun a' w' => (F m = true → C w') ∧ wpAnyC P md ops C F Q f (listed.setIfInBounds m true) a' w') (fun _ _ h1 h2 => ⟨h1, h2⟩)
    unfold wpOp
    simp only [hi]
    split
    · rename_i c; rw [if_pos c] at this; exact .inl this
    · rename_i c; rw [if_neg c] at this; exact this
  rcases List.mem_cons.1 hm with rfl | hm
  · have := h2 (fun a' w' => (F m = true → C w') ∧ wpAnyC P md ops C F Q f (listed.setIfInBounds m true) a' w') (fun _ _ h1 h2 => ⟨h1, h2⟩)
    unfold wpOp
    simp only [hk]
    split
    · rename_i c; rw [if_pos c] at this; exact .inl this
    · rename_i c; rw [if_neg c] at this; exact this
  rcases List.mem_cons.1 hm with rfl | hm
  · have := h3 (fun a' w' => (F m = true → C w') ∧ wpAnyC P md ops C F Q f (listed.setIfInBounds m true) a' w') (fun _ _ h1 h2 => ⟨h1, h2⟩)
    unfold wpOp
    simp only [hj]
    split
    · rename_i c; rw [if_pos c] at this; exact .inl this
    · rename_i c; rw [if_neg c] at this; exact this
  · cases hm
end
/-- the world in the midst of a function of the finder's: its own boxes x and r -/
structure St (W : World) (B fb mb : Nat) (ca : List Value) (t : TTrace) (i : Nat) (L : List (Nat × Nat)) (xb rb : Nat) (x : TIns) (w : World) : Prop where
  find : FindR w B fb mb ca t
  map : ∃ L', MapAt w mb t.ins L' ∧ ∀ k ∈ L', k ∈ L ∨ k.2 ≤ i
  fin : Fined mb W w
  xr : w.heap[xb]? = some (.cells ⟨insCells x⟩ 43 (0, 0))
  rr : w.heap[rb]? = some (.cells ⟨[.int .i64 0, .int .i64 0]⟩ 113 (0, 0))
section
variable {W w w' : World} {B fb mb : Nat} {ca : List Value} {t : TTrace} {i : Nat} {L : List (Nat × Nat)} {xb rb : Nat} {x : TIns}
theorem St.below (s : St W B fb mb ca t i L xb rb x w) (k : Below w.heap.size w w') : St W B fb mb ca t i L xb rb x w' := by
  obtain ⟨L', h1, h2⟩ := s.map
  exact ⟨s.find.below k, ⟨L', h1.below k, h2⟩, s.fin.below_ k, (k.block _ (Array.getElem?_eq_some_iff.1 s.xr).1).trans s.xr, (k.block _ (Array.getElem?_eq_some_iff.1 s.rr).1).trans s.rr⟩
theorem MapAt.lt {ins : List TIns} {L : List (Nat × Nat)} (h : MapAt w mb ins L) : mb < w.heap.size := by
  obtain ⟨es, clock, hb, _⟩ := h.own
  exact (Array.getElem?_eq_some_iff.1 hb).1
theorem St.span (s : St W B fb mb ca t i L xb rb x w) (ih : SpanC B fb mb ca t i) (hx : xb ≠ mb) (hr : rb ≠ mb) (hi : i ≤ t.ins.length) (v : Nat) (hv : v < i) :
    Calls Tryd.prog 55 #[.pointer (some ⟨fb, 0, none⟩), .int .i64 (v : Int), .int .i64 (i : Int)] w (fun e w' => e = .returned (.agg #[.int .i64 (spanM t.ins v i).1, .int .i64 (spanM t.ins v i).2]) ∧ St W B fb mb ca t i L xb rb x w' ∧ Fined mb w w') := by
  obtain ⟨L', h1, h2⟩ := s.map
  refine (ih v w L' hv hi s.find h1).mono ?_
  rintro e w' ⟨rfl, k, L2, m2, hL2⟩
  exact ⟨rfl, ⟨s.find.fined k, ⟨L2, m2, fun q hq => (hL2 q hq).elim (fun h => h2 q h) .inr⟩, s.fin.trans k, k.row s.xr hx, k.row s.rr hr⟩, k⟩
theorem row2_set {g : Nat} {ty : TypeId} {a b c d : Value} (h : w.heap[g]? = some (.cells ⟨[a, b]⟩ ty (0, 0))) : ((w.setCell ⟨g, 0, none⟩ c).setCell ⟨g, 1, none⟩ d).heap[g]? = some (.cells ⟨[c, d]⟩ ty (0, 0)) := by
  rw [heap_setCell_same _ _ 1 _ _ _ (heap_setCell_same w _ 0 _ _ _ h)]; rfl
theorem row2_far {g k : Nat} {o : Obj} {c d : Value} (h : w.heap[k]? = some o) (hk : k ≠ g) : ((w.setCell ⟨g, 0, none⟩ c).setCell ⟨g, 1, none⟩ d).heap[k]? = some o := by
  rw [heap_setCell_other _ _ _ _ (by show k ≠ g; exact hk), heap_setCell_other w _ _ _ (by show k ≠ g; exact hk)]; exact h
theorem set2_below {g : Nat} {n : Nat} (hg : n ≤ g) (c d : Value) : Below n w ((w.setCell ⟨g, 0, none⟩ c).setCell ⟨g, 1, none⟩ d) := Below.set_at (Below.set_at (Below.refl _ _) hg _ _) hg _ _
theorem St.set2 (s : St W B fb mb ca t i L xb rb x w) {g : Nat} (h1 : W.heap.size ≤ g) (h2 : g ≠ xb) (h3 : g ≠ rb) (h4 : mb < W.heap.size) (h5 : fb < W.heap.size) (c d : Value) : St W B fb mb ca t i L xb rb x ((w.setCell ⟨g, 0, none⟩ c).setCell ⟨g, 1, none⟩ d) := by
  obtain ⟨L', m1, m2⟩ := s.map
  refine ⟨⟨row2_far s.find.row (by omega), s.find.tr.keep (Nat.le_refl _) (fun p hp => (set2_below (n := B) (by have := s.find.hB; omega) c d).cell hp), s.find.hB, s.find.hM, s.find.ne⟩, ⟨L', (m1.set_ (by omega) _ _).set_ (by omega) _ _, m2⟩, s.fin.then (set2_below h1 c d), row2_far s.xr (Ne.symm h2), row2_far s.rr (Ne.symm h3)⟩
end
theorem St.done {W w : World} {B fb mb : Nat} {ca : List Value} {t : TTrace} {i : Nat} {L : List (Nat × Nat)} {xb rb : Nat} {x : TIns} (s : St W B fb mb ca t i L xb rb x w) (h1 : W.heap.size ≤ rb) (h4 : mb < W.heap.size) (c d : Value) :
    ((w.setCell ⟨rb, 0, none⟩ c).setCell ⟨rb, 1, none⟩ d).heap[rb]? = some (.cells ⟨[c, d]⟩ 113 (0, 0)) ∧ Fined mb W ((w.setCell ⟨rb, 0, none⟩ c).setCell ⟨rb, 1, none⟩ d) ∧ ∃ L', MapAt ((w.setCell ⟨rb, 0, none⟩ c).setCell ⟨rb, 1, none⟩ d) mb t.ins L' ∧ ∀ k ∈ L', k ∈ L ∨ k.2 ≤ i := by
  obtain ⟨L', m1, m2⟩ := s.map
  exact ⟨row2_set s.rr, s.fin.then (set2_below h1 c d), ⟨L', (m1.set_ (by omega) _ _).set_ (by omega) _ _, m2⟩⟩
theorem mul_bd {a b : Int} (a1 : -2147483648 ≤ a) (a2 : a ≤ 2147483647) (b1 : -2147483648 ≤ b) (b2 : b ≤ 2147483647) : -4611686018427387904 ≤ a * b ∧ a * b ≤ 4611686018427387904 := by
  have h1 : a.natAbs ≤ 2147483648 := by omega
  have h2 : b.natAbs ≤ 2147483648 := by omega
  have h3 := Nat.mul_le_mul h1 h2
  rw [← Int.natAbs_mul] at h3
  omega

/-- what reckoned says -/
def reckV (S : Int → Int × Int) (x : TIns) : (Int × Int) × Bool := match reckM S x with
  | some b => (b, true)
  | none => ((0, 0), false)
theorem infoIn8 : (Tryd.prog.info? 43).map (·.size) = some 8 := infoIns8
set_option maxHeartbeats 8000000 in
set_option maxRecDepth 100000 in
theorem reckoned_c {B fb mb : Nat} {ca : List Value} {t : TTrace} {i : Nat} (ih : SpanC B fb mb ca t i) (hc : ConstOk t.ins) {W : World} {L : List (Nat × Nat)} (hf : FindR W B fb mb ca t) (hm : MapAt W mb t.ins L) (hl : t.ins.length ≤ 300)
    {x : TIns} (hx : t.ins[i]? = some x) (p q : Nat) (hp : x.a = (p : Int)) (hp2 : p < i) (hq : x.b = (q : Int)) (hq2 : q < i) :
    Calls Tryd.prog 92 #[.pointer (some ⟨fb, 0, none⟩), .int .i64 (i : Int)] W (fun e W' => e = .returned (.tuple #[.agg #[.int .i64 (reckV (spanM t.ins · i) x).1.1, .int .i64 (reckV (spanM t.ins · i) x).1.2], .bool (reckV (spanM t.ins · i) x).2]) ∧ Fined mb W W' ∧ ∃ L', MapAt W' mb t.ins L' ∧ ∀ k ∈ L', k ∈ L ∨ k.2 ≤ i) := by
  have hin : i < t.ins.length := (List.getElem?_eq_some_iff.1 hx).1
  have hii : (i : Int) < t.ins.length := by omega
  have hil : (t.ins.length : Int) ≤ 300 := by omega
  have hile : i ≤ t.ins.length := by omega
  have IH := Lib.hid ih
  obtain ⟨al, ah, hps⟩ : ∃ al ah, spanM t.ins p i = (al, ah) := ⟨_, _, rfl⟩
  obtain ⟨bl, bh, hqs⟩ : ∃ bl bh, spanM t.ins q i = (bl, bh) := ⟨_, _, rfl⟩
  obtain ⟨a1, a2, a3⟩ : okS (al, ah) := by rw [← hps]; exact spanM_ok hc _ _
  obtain ⟨b1, b2, b3⟩ : okS (bl, bh) := by rw [← hqs]; exact spanM_ok hc _ _
  dsimp only at a1 a2 a3 b1 b2 b3
  have HR : Hid (reckV (spanM t.ins · i) x = if x.n = 3 then ((al + bl, ah + bh), true) else if x.n = 4 then ((al - bh, ah - bl), true) else if x.n = 5 then ((min (min (min (al * bl) (al * bh)) (ah * bl)) (ah * bh), max (max (max (al * bl) (al * bh)) (ah * bl)) (ah * bh)), true) else ((0, 0), false)) := by
    unfold reckV reckM Hid
    simp only [hp, hq, hps, hqs]
    by_cases n3 : x.n = 3 <;> by_cases n4 : x.n = 4 <;> by_cases n5 : x.n = 5 <;> simp [n3, n4, n5]
  have hmW := hm.lt
  have hfW := hf.lt
  obtain ⟨Ai, ni, p3, qi⟩ := hf.tr.at3
  obtain ⟨b, off, y, rfl, hb, hy, wx, hat⟩ := ins_op qi hin
  obtain rfl : y = x := by rw [hx] at hy; injection hy with hy; exact hy.symm
  have hbz : b < W.heap.size := by have := hf.hB; omega
  obtain ⟨w0, hw0⟩ : ∃ w0, w0 = W.alloc (.cells #[.int .i64 0, .int .i64 0] 113) := ⟨_, rfl⟩
  have K0 : Hid (Below W.heap.size W w0) := by rw [hw0]; exact below_one _ _
  have l3 := cell_on K0.out (hf.head 3 _ p3)
  obtain ⟨g0, g1, g2, g3, g4, g5, g6, g7⟩ := ins_at hat (Nat.lt_of_lt_of_le hb (Nat.le_trans hf.hB (Nat.le_of_lt hfW))) K0.out
  obtain ⟨w1, hw1⟩ : ∃ w1, w1 = w0.alloc (.cells #[.int .i64 y.op, .int .i64 y.a, .int .i64 y.b, .int .i64 y.c, .int .i64 y.n, .int .i64 y.exit, .int .i64 y.k.kind, .int .i64 y.k.n] 43) := ⟨_, rfl⟩
  have hz0 : w0.heap.size = W.heap.size + 1 := by rw [hw0]; simp
  have K1 : Hid (Below W.heap.size W w1) := by rw [hw1]; exact K0.out.alloc K0.out.size _
  have S1 : Hid (St W B fb mb ca t i L (W.heap.size + 1) W.heap.size y w1) := by
    refine ⟨hf.below K1.out, ⟨L, hm.below K1.out, fun k hk => .inl hk⟩, .of_below K1.out, ?_, ?_⟩
    · rw [hw1, ← hz0]; exact heap_last _ _
    · rw [hw1, hw0]; exact heap_old (heap_last W _) _
  have hz1 : W.heap.size + 1 < w1.heap.size := (Array.getElem?_eq_some_iff.1 S1.out.xr).1
  have HPS := Lib.hid hps
  have HQS := Lib.hid hqs
  have HP := Lib.hid hp
  have HQ := Lib.hid hq
  have HW0 := Lib.hid hw0
  have HW1 := Lib.hid hw1
  have HZ0 := Lib.hid hz0
  clear hz0
  clear hw0 hw1 ih hf hm hps hqs hp hq hat hy wx p3 qi hx
  go_enter Tryd.func92, Tryd.ntmps92
  go_upto_region 1 with fail
  rw [← HW0.out]
  go_upto_region 2 with fail
  rw [← HW1.out]
  rw [HZ0.out]
  clear g0 g1 g2 g3 g4 g5 g6 g7 l3
  go_cut [7, 8] (fun s7 s8 wx => ∃ g7 g8 : Nat, s7 = .pointer (some ⟨g7, 0, none⟩) ∧ s8 = .pointer (some ⟨g8, 0, none⟩) ∧ Hid (St W B fb mb ca t i L (W.heap.size + 1) W.heap.size y wx) ∧ Hid (wx.heap[g7]? = some (.cells ⟨[.int .i64 al, .int .i64 ah]⟩ 113 (0, 0))) ∧ Hid (wx.heap[g8]? = some (.cells ⟨[.int .i64 bl, .int .i64 bh]⟩ 113 (0, 0))) ∧ W.heap.size + 1 < g7 ∧ W.heap.size + 1 < g8)
  case first =>
    have e1 : ∀ E : BoxS (W.heap.size + 1) (insCells y), E.wd.cell? ⟨W.heap.size + 1, 1, none⟩ = some (.int .i64 (p : Int)) := fun E => by rw [← HP.out]; exact E.here 1 _ rfl
    have e2 : ∀ E : BoxS (W.heap.size + 1) (insCells y), E.wd.cell? ⟨W.heap.size + 1, 2, none⟩ = some (.int .i64 (q : Int)) := fun E => by rw [← HQ.out]; exact E.here 2 _ rfl
    haveI : Nonempty (BoxS (W.heap.size + 1) (insCells y)) := ⟨⟨w1, HeadAt.of_row S1.out.xr⟩⟩
    refine wp_region_readers (fun w' => ∃ E : BoxS (W.heap.size + 1) (insCells y), w' = E.wd) [0, 1, 2, 3, 5, 6, 7, 8] [4, 10, 11] 6 #[true, true, true, true, false, true, true, true, true, false, false, false, false, false] _ (by kernel_rfl) (by kernel_rfl) (by simp only [List.filterMap_cons, List.filterMap_nil, List.getElem?_toArray, List.getElem?_cons_zero, List.getElem?_cons_succ]; rfl) (fun _ _ d _ _ h => by cases d <;> exact h) ⟨⟨w1.drew, HeadAt.of_row S1.out.xr⟩, rfl⟩ ?_
    generalize hqq : (fun a' => wpAnyC _ _ _ _ _ _ _ _ a' _) = qq
    have HQQ := Lib.hid hqq
    clear hqq
    show wpQuiet _ _ _ _ [_, _, _, _, _, _, _, _] _
    repeat (go_big_quiet_step (fail))
    refine wpQuiet_nil ?_
    rw [← HQQ.out]
    clear HQQ qq e1 e2
    obtain ⟨v0, hv0⟩ : ∃ v0, v0 = w1.drew := ⟨_, rfl⟩
    have T : Hid (St W B fb mb ca t i L (W.heap.size + 1) W.heap.size y v0) := by rw [hv0]; exact S1.out.below (Below.refl _ w1).drew
    rw [← hv0]
    clear hv0 S1
    refine wpAnyC_three (i := 4) (k := 10) (j := 11) (by kernel_rfl) rfl rfl rfl (fun K hK => ?_) (fun K hK => ?_) (fun K hK => ?_)
    · have SC := T.out.span IH.out (by omega) (by omega) hile p hp2
      rw [HPS.out] at SC
      have HSC := Lib.hid SC
      clear SC
      go_simp
      refine HSC.out.mono ?_
      rintro e v1 ⟨rfl, s', k'⟩
      have T' := Lib.hid s'
      refine hK _ _ (fun _ => ⟨⟨v1, HeadAt.of_row T'.out.xr⟩, rfl⟩) ?_
      clear hK K k' s' HSC
      clear T
      rename Hid (St W B fb mb ca t i L (W.heap.size + 1) W.heap.size y v1) => T
      refine wpAnyC_three (i := 9) (k := 10) (j := 11) (by kernel_rfl) rfl rfl rfl (fun K hK => ?_) (fun K hK => ?_) (fun K hK => ?_)
      · have SC := T.out.span IH.out (by omega) (by omega) hile q hq2
        rw [HQS.out] at SC
        have HSC := Lib.hid SC
        clear SC
        go_simp
        refine HSC.out.mono ?_
        rintro e v2 ⟨rfl, s', k'⟩
        have T' := Lib.hid s'
        refine hK _ _ (fun _ => ⟨⟨v2, HeadAt.of_row T'.out.xr⟩, rfl⟩) ?_
        clear hK K k' s' HSC
        clear T
        rename Hid (St W B fb mb ca t i L (W.heap.size + 1) W.heap.size y v2) => T
        refine wpAnyC_two (i := 10) (k := 11) (by kernel_rfl) rfl rfl (fun K hK => ?_) (fun K hK => ?_)
        · go_simp
          obtain ⟨v3, hv'⟩ : ∃ v', v' = v2.alloc (.cells #[.int .i64 0, .int .i64 0] 113) := ⟨_, rfl⟩
          obtain ⟨g7, hg'⟩ : ∃ g', g' = v2.heap.size := ⟨_, rfl⟩
          have T' : Hid (St W B fb mb ca t i L (W.heap.size + 1) W.heap.size y v3) := by rw [hv']; exact T.out.below (below_one _ _)
          have G7' : Hid (v3.heap[g7]? = some (.cells ⟨[.int .i64 0, .int .i64 0]⟩ 113 (0, 0))) := by rw [hv', hg']; exact heap_last _ _
          have h7 : W.heap.size + 1 < g7 := by rw [hg']; exact (Array.getElem?_eq_some_iff.1 T.out.xr).1
          rw [← hv', ← hg']
          refine hK _ _ (fun _ => ⟨⟨v3, HeadAt.of_row T'.out.xr⟩, rfl⟩) ?_
          clear hK K hv' hg'
          clear T
          rename Hid (St W B fb mb ca t i L (W.heap.size + 1) W.heap.size y v3) => T
          have G7 := G7'
          clear G7'
          refine wpAnyC_one (i := 11) (by kernel_rfl) rfl (fun K hK => ?_)
          · go_simp
            obtain ⟨v4, hv'⟩ : ∃ v', v' = v3.alloc (.cells #[.int .i64 0, .int .i64 0] 113) := ⟨_, rfl⟩
            obtain ⟨g8, hg'⟩ : ∃ g', g' = v3.heap.size := ⟨_, rfl⟩
            have T' : Hid (St W B fb mb ca t i L (W.heap.size + 1) W.heap.size y v4) := by rw [hv']; exact T.out.below (below_one _ _)
            have G8' : Hid (v4.heap[g8]? = some (.cells ⟨[.int .i64 0, .int .i64 0]⟩ 113 (0, 0))) := by rw [hv', hg']; exact heap_last _ _
            have h8 : W.heap.size + 1 < g8 := by rw [hg']; exact (Array.getElem?_eq_some_iff.1 T.out.xr).1
            have G7' : Hid (v4.heap[g7]? = some (.cells ⟨[.int .i64 0, .int .i64 0]⟩ 113 (0, 0))) := by rw [hv']; exact heap_old G7.out _
            have hne : g7 ≠ g8 := by have h1 := (Array.getElem?_eq_some_iff.1 G7.out).1; omega
            rw [← hv', ← hg']
            refine hK _ _ (fun _ => ⟨⟨v4, HeadAt.of_row T'.out.xr⟩, rfl⟩) ?_
            clear hK K hv' hg'
            clear T G7
            rename Hid (St W B fb mb ca t i L (W.heap.size + 1) W.heap.size y v4) => T
            have G7 := G7'
            clear G7'
            have G8 := G8'
            clear G8'
            refine wpAnyC_of_ms [12, 13] _ _ _ (by kernel_rfl) ?_
            refine wpMs_list [12, 13] _ _ (by kernel_rfl) (by kernel_rfl) ?_
            simp only [List.filterMap_cons, List.filterMap_nil, List.getElem?_toArray, List.getElem?_cons_zero, List.getElem?_cons_succ]
            have c70 := HeadAt.of_row G7.out 0 (.int .i64 0) rfl
            have c71 := HeadAt.of_row G7.out 1 (.int .i64 0) rfl
            have c80 := HeadAt.of_row G8.out 0 (.int .i64 0) rfl
            have c81 := HeadAt.of_row G8.out 1 (.int .i64 0) rfl
            have z70 := frozen_of_row v4 g7 0 _ _ G7.out
            have z71 := frozen_of_row v4 g7 1 _ _ G7.out
            have z80 := frozen_of_row v4 g8 0 _ _ G8.out
            have z81 := frozen_of_row v4 g8 1 _ _ G8.out
            obtain ⟨wz, hwz⟩ : ∃ wz, wz = (((v4.setCell ⟨g7, 0, none⟩ (.int .i64 al)).setCell ⟨g7, 1, none⟩ (.int .i64 ah)).setCell ⟨g8, 0, none⟩ (.int .i64 bl)).setCell ⟨g8, 1, none⟩ (.int .i64 bh) := ⟨_, rfl⟩
            have N7 : Hid (wz.heap[g7]? = some (.cells ⟨[.int .i64 al, .int .i64 ah]⟩ 113 (0, 0))) := by rw [hwz]; exact row2_far (row2_set G7.out) hne
            have N8 : Hid (wz.heap[g8]? = some (.cells ⟨[.int .i64 bl, .int .i64 bh]⟩ 113 (0, 0))) := by rw [hwz]; exact row2_set (row2_far G8.out (Ne.symm hne))
            have TZ : Hid (St W B fb mb ca t i L (W.heap.size + 1) W.heap.size y wz) := by rw [hwz]; exact (T.out.set2 (by omega) (by omega) (by omega) hmW hfW _ _).set2 (by omega) (by omega) (by omega) hmW hfW _ _
            have HWZ := Lib.hid hwz
            clear hwz T G7 G8
            go_wp2_with fail
            rw [← HWZ.out]
            go_meet
            case rel => exact ⟨g7, g8, rfl, rfl, TZ, N7, N8, h7, h8⟩
        · go_simp
          obtain ⟨v3, hv'⟩ : ∃ v', v' = v2.alloc (.cells #[.int .i64 0, .int .i64 0] 113) := ⟨_, rfl⟩
          obtain ⟨g8, hg'⟩ : ∃ g', g' = v2.heap.size := ⟨_, rfl⟩
          have T' : Hid (St W B fb mb ca t i L (W.heap.size + 1) W.heap.size y v3) := by rw [hv']; exact T.out.below (below_one _ _)
          have G8' : Hid (v3.heap[g8]? = some (.cells ⟨[.int .i64 0, .int .i64 0]⟩ 113 (0, 0))) := by rw [hv', hg']; exact heap_last _ _
          have h8 : W.heap.size + 1 < g8 := by rw [hg']; exact (Array.getElem?_eq_some_iff.1 T.out.xr).1
          rw [← hv', ← hg']
          refine hK _ _ (fun _ => ⟨⟨v3, HeadAt.of_row T'.out.xr⟩, rfl⟩) ?_
          clear hK K hv' hg'
          clear T
          rename Hid (St W B fb mb ca t i L (W.heap.size + 1) W.heap.size y v3) => T
          have G8 := G8'
          clear G8'
          refine wpAnyC_one (i := 10) (by kernel_rfl) rfl (fun K hK => ?_)
          · go_simp
            obtain ⟨v4, hv'⟩ : ∃ v', v' = v3.alloc (.cells #[.int .i64 0, .int .i64 0] 113) := ⟨_, rfl⟩
            obtain ⟨g7, hg'⟩ : ∃ g', g' = v3.heap.size := ⟨_, rfl⟩
            have T' : Hid (St W B fb mb ca t i L (W.heap.size + 1) W.heap.size y v4) := by rw [hv']; exact T.out.below (below_one _ _)
            have G7' : Hid (v4.heap[g7]? = some (.cells ⟨[.int .i64 0, .int .i64 0]⟩ 113 (0, 0))) := by rw [hv', hg']; exact heap_last _ _
            have h7 : W.heap.size + 1 < g7 := by rw [hg']; exact (Array.getElem?_eq_some_iff.1 T.out.xr).1
            have G8' : Hid (v4.heap[g8]? = some (.cells ⟨[.int .i64 0, .int .i64 0]⟩ 113 (0, 0))) := by rw [hv']; exact heap_old G8.out _
            have hne : g7 ≠ g8 := by have h1 := (Array.getElem?_eq_some_iff.1 G8.out).1; omega
            rw [← hv', ← hg']
            refine hK _ _ (fun _ => ⟨⟨v4, HeadAt.of_row T'.out.xr⟩, rfl⟩) ?_
            clear hK K hv' hg'
            clear T G8
            rename Hid (St W B fb mb ca t i L (W.heap.size + 1) W.heap.size y v4) => T
            have G7 := G7'
            clear G7'
            have G8 := G8'
            clear G8'
            refine wpAnyC_of_ms [12, 13] _ _ _ (by kernel_rfl) ?_
            refine wpMs_list [12, 13] _ _ (by kernel_rfl) (by kernel_rfl) ?_
            simp only [List.filterMap_cons, List.filterMap_nil, List.getElem?_toArray, List.getElem?_cons_zero, List.getElem?_cons_succ]
            have c70 := HeadAt.of_row G7.out 0 (.int .i64 0) rfl
            have c71 := HeadAt.of_row G7.out 1 (.int .i64 0) rfl
            have c80 := HeadAt.of_row G8.out 0 (.int .i64 0) rfl
            have c81 := HeadAt.of_row G8.out 1 (.int .i64 0) rfl
            have z70 := frozen_of_row v4 g7 0 _ _ G7.out
            have z71 := frozen_of_row v4 g7 1 _ _ G7.out
            have z80 := frozen_of_row v4 g8 0 _ _ G8.out
            have z81 := frozen_of_row v4 g8 1 _ _ G8.out
            obtain ⟨wz, hwz⟩ : ∃ wz, wz = (((v4.setCell ⟨g7, 0, none⟩ (.int .i64 al)).setCell ⟨g7, 1, none⟩ (.int .i64 ah)).setCell ⟨g8, 0, none⟩ (.int .i64 bl)).setCell ⟨g8, 1, none⟩ (.int .i64 bh) := ⟨_, rfl⟩
            have N7 : Hid (wz.heap[g7]? = some (.cells ⟨[.int .i64 al, .int .i64 ah]⟩ 113 (0, 0))) := by rw [hwz]; exact row2_far (row2_set G7.out) hne
            have N8 : Hid (wz.heap[g8]? = some (.cells ⟨[.int .i64 bl, .int .i64 bh]⟩ 113 (0, 0))) := by rw [hwz]; exact row2_set (row2_far G8.out (Ne.symm hne))
            have TZ : Hid (St W B fb mb ca t i L (W.heap.size + 1) W.heap.size y wz) := by rw [hwz]; exact (T.out.set2 (by omega) (by omega) (by omega) hmW hfW _ _).set2 (by omega) (by omega) (by omega) hmW hfW _ _
            have HWZ := Lib.hid hwz
            clear hwz T G7 G8
            go_wp2_with fail
            rw [← HWZ.out]
            go_meet
            case rel => exact ⟨g7, g8, rfl, rfl, TZ, N7, N8, h7, h8⟩
      · go_simp
        obtain ⟨v2, hv'⟩ : ∃ v', v' = v1.alloc (.cells #[.int .i64 0, .int .i64 0] 113) := ⟨_, rfl⟩
        obtain ⟨g7, hg'⟩ : ∃ g', g' = v1.heap.size := ⟨_, rfl⟩
        have T' : Hid (St W B fb mb ca t i L (W.heap.size + 1) W.heap.size y v2) := by rw [hv']; exact T.out.below (below_one _ _)
        have G7' : Hid (v2.heap[g7]? = some (.cells ⟨[.int .i64 0, .int .i64 0]⟩ 113 (0, 0))) := by rw [hv', hg']; exact heap_last _ _
        have h7 : W.heap.size + 1 < g7 := by rw [hg']; exact (Array.getElem?_eq_some_iff.1 T.out.xr).1
        rw [← hv', ← hg']
        refine hK _ _ (fun _ => ⟨⟨v2, HeadAt.of_row T'.out.xr⟩, rfl⟩) ?_
        clear hK K hv' hg'
        clear T
        rename Hid (St W B fb mb ca t i L (W.heap.size + 1) W.heap.size y v2) => T
        have G7 := G7'
        clear G7'
        refine wpAnyC_two (i := 9) (k := 11) (by kernel_rfl) rfl rfl (fun K hK => ?_) (fun K hK => ?_)
        · have SC := T.out.span IH.out (by omega) (by omega) hile q hq2
          rw [HQS.out] at SC
          have HSC := Lib.hid SC
          clear SC
          go_simp
          refine HSC.out.mono ?_
          rintro e v3 ⟨rfl, s', k'⟩
          have T' := Lib.hid s'
          have G7' := Lib.hid (k'.row G7.out (by omega))
          refine hK _ _ (fun _ => ⟨⟨v3, HeadAt.of_row T'.out.xr⟩, rfl⟩) ?_
          clear hK K k' s' HSC
          clear T G7
          rename Hid (St W B fb mb ca t i L (W.heap.size + 1) W.heap.size y v3) => T
          have G7 := G7'
          clear G7'
          refine wpAnyC_one (i := 11) (by kernel_rfl) rfl (fun K hK => ?_)
          · go_simp
            obtain ⟨v4, hv'⟩ : ∃ v', v' = v3.alloc (.cells #[.int .i64 0, .int .i64 0] 113) := ⟨_, rfl⟩
            obtain ⟨g8, hg'⟩ : ∃ g', g' = v3.heap.size := ⟨_, rfl⟩
            have T' : Hid (St W B fb mb ca t i L (W.heap.size + 1) W.heap.size y v4) := by rw [hv']; exact T.out.below (below_one _ _)
            have G8' : Hid (v4.heap[g8]? = some (.cells ⟨[.int .i64 0, .int .i64 0]⟩ 113 (0, 0))) := by rw [hv', hg']; exact heap_last _ _
            have h8 : W.heap.size + 1 < g8 := by rw [hg']; exact (Array.getElem?_eq_some_iff.1 T.out.xr).1
            have G7' : Hid (v4.heap[g7]? = some (.cells ⟨[.int .i64 0, .int .i64 0]⟩ 113 (0, 0))) := by rw [hv']; exact heap_old G7.out _
            have hne : g7 ≠ g8 := by have h1 := (Array.getElem?_eq_some_iff.1 G7.out).1; omega
            rw [← hv', ← hg']
            refine hK _ _ (fun _ => ⟨⟨v4, HeadAt.of_row T'.out.xr⟩, rfl⟩) ?_
            clear hK K hv' hg'
            clear T G7
            rename Hid (St W B fb mb ca t i L (W.heap.size + 1) W.heap.size y v4) => T
            have G7 := G7'
            clear G7'
            have G8 := G8'
            clear G8'
            refine wpAnyC_of_ms [12, 13] _ _ _ (by kernel_rfl) ?_
            refine wpMs_list [12, 13] _ _ (by kernel_rfl) (by kernel_rfl) ?_
            simp only [List.filterMap_cons, List.filterMap_nil, List.getElem?_toArray, List.getElem?_cons_zero, List.getElem?_cons_succ]
            have c70 := HeadAt.of_row G7.out 0 (.int .i64 0) rfl
            have c71 := HeadAt.of_row G7.out 1 (.int .i64 0) rfl
            have c80 := HeadAt.of_row G8.out 0 (.int .i64 0) rfl
            have c81 := HeadAt.of_row G8.out 1 (.int .i64 0) rfl
            have z70 := frozen_of_row v4 g7 0 _ _ G7.out
            have z71 := frozen_of_row v4 g7 1 _ _ G7.out
            have z80 := frozen_of_row v4 g8 0 _ _ G8.out
            have z81 := frozen_of_row v4 g8 1 _ _ G8.out
            obtain ⟨wz, hwz⟩ : ∃ wz, wz = (((v4.setCell ⟨g7, 0, none⟩ (.int .i64 al)).setCell ⟨g7, 1, none⟩ (.int .i64 ah)).setCell ⟨g8, 0, none⟩ (.int .i64 bl)).setCell ⟨g8, 1, none⟩ (.int .i64 bh) := ⟨_, rfl⟩
            have N7 : Hid (wz.heap[g7]? = some (.cells ⟨[.int .i64 al, .int .i64 ah]⟩ 113 (0, 0))) := by rw [hwz]; exact row2_far (row2_set G7.out) hne
            have N8 : Hid (wz.heap[g8]? = some (.cells ⟨[.int .i64 bl, .int .i64 bh]⟩ 113 (0, 0))) := by rw [hwz]; exact row2_set (row2_far G8.out (Ne.symm hne))
            have TZ : Hid (St W B fb mb ca t i L (W.heap.size + 1) W.heap.size y wz) := by rw [hwz]; exact (T.out.set2 (by omega) (by omega) (by omega) hmW hfW _ _).set2 (by omega) (by omega) (by omega) hmW hfW _ _
            have HWZ := Lib.hid hwz
            clear hwz T G7 G8
            go_wp2_with fail
            rw [← HWZ.out]
            go_meet
            case rel => exact ⟨g7, g8, rfl, rfl, TZ, N7, N8, h7, h8⟩
        · go_simp
          obtain ⟨v3, hv'⟩ : ∃ v', v' = v2.alloc (.cells #[.int .i64 0, .int .i64 0] 113) := ⟨_, rfl⟩
          obtain ⟨g8, hg'⟩ : ∃ g', g' = v2.heap.size := ⟨_, rfl⟩
          have T' : Hid (St W B fb mb ca t i L (W.heap.size + 1) W.heap.size y v3) := by rw [hv']; exact T.out.below (below_one _ _)
          have G8' : Hid (v3.heap[g8]? = some (.cells ⟨[.int .i64 0, .int .i64 0]⟩ 113 (0, 0))) := by rw [hv', hg']; exact heap_last _ _
          have h8 : W.heap.size + 1 < g8 := by rw [hg']; exact (Array.getElem?_eq_some_iff.1 T.out.xr).1
          have G7' : Hid (v3.heap[g7]? = some (.cells ⟨[.int .i64 0, .int .i64 0]⟩ 113 (0, 0))) := by rw [hv']; exact heap_old G7.out _
          have hne : g7 ≠ g8 := by have h1 := (Array.getElem?_eq_some_iff.1 G7.out).1; omega
          rw [← hv', ← hg']
          refine hK _ _ (fun _ => ⟨⟨v3, HeadAt.of_row T'.out.xr⟩, rfl⟩) ?_
          clear hK K hv' hg'
          clear T G7
          rename Hid (St W B fb mb ca t i L (W.heap.size + 1) W.heap.size y v3) => T
          have G7 := G7'
          clear G7'
          have G8 := G8'
          clear G8'
          refine wpAnyC_one (i := 9) (by kernel_rfl) rfl (fun K hK => ?_)
          · have SC := T.out.span IH.out (by omega) (by omega) hile q hq2
            rw [HQS.out] at SC
            have HSC := Lib.hid SC
            clear SC
            go_simp
            refine HSC.out.mono ?_
            rintro e v4 ⟨rfl, s', k'⟩
            have T' := Lib.hid s'
            have G7' := Lib.hid (k'.row G7.out (by omega))
            have G8' := Lib.hid (k'.row G8.out (by omega))
            refine hK _ _ (fun _ => ⟨⟨v4, HeadAt.of_row T'.out.xr⟩, rfl⟩) ?_
            clear hK K k' s' HSC
            clear T G7 G8
            rename Hid (St W B fb mb ca t i L (W.heap.size + 1) W.heap.size y v4) => T
            have G7 := G7'
            clear G7'
            have G8 := G8'
            clear G8'
            refine wpAnyC_of_ms [12, 13] _ _ _ (by kernel_rfl) ?_
            refine wpMs_list [12, 13] _ _ (by kernel_rfl) (by kernel_rfl) ?_
            simp only [List.filterMap_cons, List.filterMap_nil, List.getElem?_toArray, List.getElem?_cons_zero, List.getElem?_cons_succ]
            have c70 := HeadAt.of_row G7.out 0 (.int .i64 0) rfl
            have c71 := HeadAt.of_row G7.out 1 (.int .i64 0) rfl
            have c80 := HeadAt.of_row G8.out 0 (.int .i64 0) rfl
            have c81 := HeadAt.of_row G8.out 1 (.int .i64 0) rfl
            have z70 := frozen_of_row v4 g7 0 _ _ G7.out
            have z71 := frozen_of_row v4 g7 1 _ _ G7.out
            have z80 := frozen_of_row v4 g8 0 _ _ G8.out
            have z81 := frozen_of_row v4 g8 1 _ _ G8.out
            obtain ⟨wz, hwz⟩ : ∃ wz, wz = (((v4.setCell ⟨g7, 0, none⟩ (.int .i64 al)).setCell ⟨g7, 1, none⟩ (.int .i64 ah)).setCell ⟨g8, 0, none⟩ (.int .i64 bl)).setCell ⟨g8, 1, none⟩ (.int .i64 bh) := ⟨_, rfl⟩
            have N7 : Hid (wz.heap[g7]? = some (.cells ⟨[.int .i64 al, .int .i64 ah]⟩ 113 (0, 0))) := by rw [hwz]; exact row2_far (row2_set G7.out) hne
            have N8 : Hid (wz.heap[g8]? = some (.cells ⟨[.int .i64 bl, .int .i64 bh]⟩ 113 (0, 0))) := by rw [hwz]; exact row2_set (row2_far G8.out (Ne.symm hne))
            have TZ : Hid (St W B fb mb ca t i L (W.heap.size + 1) W.heap.size y wz) := by rw [hwz]; exact (T.out.set2 (by omega) (by omega) (by omega) hmW hfW _ _).set2 (by omega) (by omega) (by omega) hmW hfW _ _
            have HWZ := Lib.hid hwz
            clear hwz T G7 G8
            go_wp2_with fail
            rw [← HWZ.out]
            go_meet
            case rel => exact ⟨g7, g8, rfl, rfl, TZ, N7, N8, h7, h8⟩
      · go_simp
        obtain ⟨v2, hv'⟩ : ∃ v', v' = v1.alloc (.cells #[.int .i64 0, .int .i64 0] 113) := ⟨_, rfl⟩
        obtain ⟨g8, hg'⟩ : ∃ g', g' = v1.heap.size := ⟨_, rfl⟩
        have T' : Hid (St W B fb mb ca t i L (W.heap.size + 1) W.heap.size y v2) := by rw [hv']; exact T.out.below (below_one _ _)
        have G8' : Hid (v2.heap[g8]? = some (.cells ⟨[.int .i64 0, .int .i64 0]⟩ 113 (0, 0))) := by rw [hv', hg']; exact heap_last _ _
        have h8 : W.heap.size + 1 < g8 := by rw [hg']; exact (Array.getElem?_eq_some_iff.1 T.out.xr).1
        rw [← hv', ← hg']
        refine hK _ _ (fun _ => ⟨⟨v2, HeadAt.of_row T'.out.xr⟩, rfl⟩) ?_
        clear hK K hv' hg'
        clear T
        rename Hid (St W B fb mb ca t i L (W.heap.size + 1) W.heap.size y v2) => T
        have G8 := G8'
        clear G8'
        refine wpAnyC_two (i := 9) (k := 10) (by kernel_rfl) rfl rfl (fun K hK => ?_) (fun K hK => ?_)
        · have SC := T.out.span IH.out (by omega) (by omega) hile q hq2
          rw [HQS.out] at SC
          have HSC := Lib.hid SC
          clear SC
          go_simp
          refine HSC.out.mono ?_
          rintro e v3 ⟨rfl, s', k'⟩
          have T' := Lib.hid s'
          have G8' := Lib.hid (k'.row G8.out (by omega))
          refine hK _ _ (fun _ => ⟨⟨v3, HeadAt.of_row T'.out.xr⟩, rfl⟩) ?_
          clear hK K k' s' HSC
          clear T G8
          rename Hid (St W B fb mb ca t i L (W.heap.size + 1) W.heap.size y v3) => T
          have G8 := G8'
          clear G8'
          refine wpAnyC_one (i := 10) (by kernel_rfl) rfl (fun K hK => ?_)
          · go_simp
            obtain ⟨v4, hv'⟩ : ∃ v', v' = v3.alloc (.cells #[.int .i64 0, .int .i64 0] 113) := ⟨_, rfl⟩
            obtain ⟨g7, hg'⟩ : ∃ g', g' = v3.heap.size := ⟨_, rfl⟩
            have T' : Hid (St W B fb mb ca t i L (W.heap.size + 1) W.heap.size y v4) := by rw [hv']; exact T.out.below (below_one _ _)
            have G7' : Hid (v4.heap[g7]? = some (.cells ⟨[.int .i64 0, .int .i64 0]⟩ 113 (0, 0))) := by rw [hv', hg']; exact heap_last _ _
            have h7 : W.heap.size + 1 < g7 := by rw [hg']; exact (Array.getElem?_eq_some_iff.1 T.out.xr).1
            have G8' : Hid (v4.heap[g8]? = some (.cells ⟨[.int .i64 0, .int .i64 0]⟩ 113 (0, 0))) := by rw [hv']; exact heap_old G8.out _
            have hne : g7 ≠ g8 := by have h1 := (Array.getElem?_eq_some_iff.1 G8.out).1; omega
            rw [← hv', ← hg']
            refine hK _ _ (fun _ => ⟨⟨v4, HeadAt.of_row T'.out.xr⟩, rfl⟩) ?_
            clear hK K hv' hg'
            clear T G8
            rename Hid (St W B fb mb ca t i L (W.heap.size + 1) W.heap.size y v4) => T
            have G7 := G7'
            clear G7'
            have G8 := G8'
            clear G8'
            refine wpAnyC_of_ms [12, 13] _ _ _ (by kernel_rfl) ?_
            refine wpMs_list [12, 13] _ _ (by kernel_rfl) (by kernel_rfl) ?_
            simp only [List.filterMap_cons, List.filterMap_nil, List.getElem?_toArray, List.getElem?_cons_zero, List.getElem?_cons_succ]
            have c70 := HeadAt.of_row G7.out 0 (.int .i64 0) rfl
            have c71 := HeadAt.of_row G7.out 1 (.int .i64 0) rfl
            have c80 := HeadAt.of_row G8.out 0 (.int .i64 0) rfl
            have c81 := HeadAt.of_row G8.out 1 (.int .i64 0) rfl
            have z70 := frozen_of_row v4 g7 0 _ _ G7.out
            have z71 := frozen_of_row v4 g7 1 _ _ G7.out
            have z80 := frozen_of_row v4 g8 0 _ _ G8.out
            have z81 := frozen_of_row v4 g8 1 _ _ G8.out
            obtain ⟨wz, hwz⟩ : ∃ wz, wz = (((v4.setCell ⟨g7, 0, none⟩ (.int .i64 al)).setCell ⟨g7, 1, none⟩ (.int .i64 ah)).setCell ⟨g8, 0, none⟩ (.int .i64 bl)).setCell ⟨g8, 1, none⟩ (.int .i64 bh) := ⟨_, rfl⟩
            have N7 : Hid (wz.heap[g7]? = some (.cells ⟨[.int .i64 al, .int .i64 ah]⟩ 113 (0, 0))) := by rw [hwz]; exact row2_far (row2_set G7.out) hne
            have N8 : Hid (wz.heap[g8]? = some (.cells ⟨[.int .i64 bl, .int .i64 bh]⟩ 113 (0, 0))) := by rw [hwz]; exact row2_set (row2_far G8.out (Ne.symm hne))
            have TZ : Hid (St W B fb mb ca t i L (W.heap.size + 1) W.heap.size y wz) := by rw [hwz]; exact (T.out.set2 (by omega) (by omega) (by omega) hmW hfW _ _).set2 (by omega) (by omega) (by omega) hmW hfW _ _
            have HWZ := Lib.hid hwz
            clear hwz T G7 G8
            go_wp2_with fail
            rw [← HWZ.out]
            go_meet
            case rel => exact ⟨g7, g8, rfl, rfl, TZ, N7, N8, h7, h8⟩
        · go_simp
          obtain ⟨v3, hv'⟩ : ∃ v', v' = v2.alloc (.cells #[.int .i64 0, .int .i64 0] 113) := ⟨_, rfl⟩
          obtain ⟨g7, hg'⟩ : ∃ g', g' = v2.heap.size := ⟨_, rfl⟩
          have T' : Hid (St W B fb mb ca t i L (W.heap.size + 1) W.heap.size y v3) := by rw [hv']; exact T.out.below (below_one _ _)
          have G7' : Hid (v3.heap[g7]? = some (.cells ⟨[.int .i64 0, .int .i64 0]⟩ 113 (0, 0))) := by rw [hv', hg']; exact heap_last _ _
          have h7 : W.heap.size + 1 < g7 := by rw [hg']; exact (Array.getElem?_eq_some_iff.1 T.out.xr).1
          have G8' : Hid (v3.heap[g8]? = some (.cells ⟨[.int .i64 0, .int .i64 0]⟩ 113 (0, 0))) := by rw [hv']; exact heap_old G8.out _
          have hne : g7 ≠ g8 := by have h1 := (Array.getElem?_eq_some_iff.1 G8.out).1; omega
          rw [← hv', ← hg']
          refine hK _ _ (fun _ => ⟨⟨v3, HeadAt.of_row T'.out.xr⟩, rfl⟩) ?_
          clear hK K hv' hg'
          clear T G8
          rename Hid (St W B fb mb ca t i L (W.heap.size + 1) W.heap.size y v3) => T
          have G7 := G7'
          clear G7'
          have G8 := G8'
          clear G8'
          refine wpAnyC_one (i := 9) (by kernel_rfl) rfl (fun K hK => ?_)
          · have SC := T.out.span IH.out (by omega) (by omega) hile q hq2
            rw [HQS.out] at SC
            have HSC := Lib.hid SC
            clear SC
            go_simp
            refine HSC.out.mono ?_
            rintro e v4 ⟨rfl, s', k'⟩
            have T' := Lib.hid s'
            have G7' := Lib.hid (k'.row G7.out (by omega))
            have G8' := Lib.hid (k'.row G8.out (by omega))
            refine hK _ _ (fun _ => ⟨⟨v4, HeadAt.of_row T'.out.xr⟩, rfl⟩) ?_
            clear hK K k' s' HSC
            clear T G7 G8
            rename Hid (St W B fb mb ca t i L (W.heap.size + 1) W.heap.size y v4) => T
            have G7 := G7'
            clear G7'
            have G8 := G8'
            clear G8'
            refine wpAnyC_of_ms [12, 13] _ _ _ (by kernel_rfl) ?_
            refine wpMs_list [12, 13] _ _ (by kernel_rfl) (by kernel_rfl) ?_
            simp only [List.filterMap_cons, List.filterMap_nil, List.getElem?_toArray, List.getElem?_cons_zero, List.getElem?_cons_succ]
            have c70 := HeadAt.of_row G7.out 0 (.int .i64 0) rfl
            have c71 := HeadAt.of_row G7.out 1 (.int .i64 0) rfl
            have c80 := HeadAt.of_row G8.out 0 (.int .i64 0) rfl
            have c81 := HeadAt.of_row G8.out 1 (.int .i64 0) rfl
            have z70 := frozen_of_row v4 g7 0 _ _ G7.out
            have z71 := frozen_of_row v4 g7 1 _ _ G7.out
            have z80 := frozen_of_row v4 g8 0 _ _ G8.out
            have z81 := frozen_of_row v4 g8 1 _ _ G8.out
            obtain ⟨wz, hwz⟩ : ∃ wz, wz = (((v4.setCell ⟨g7, 0, none⟩ (.int .i64 al)).setCell ⟨g7, 1, none⟩ (.int .i64 ah)).setCell ⟨g8, 0, none⟩ (.int .i64 bl)).setCell ⟨g8, 1, none⟩ (.int .i64 bh) := ⟨_, rfl⟩
            have N7 : Hid (wz.heap[g7]? = some (.cells ⟨[.int .i64 al, .int .i64 ah]⟩ 113 (0, 0))) := by rw [hwz]; exact row2_far (row2_set G7.out) hne
            have N8 : Hid (wz.heap[g8]? = some (.cells ⟨[.int .i64 bl, .int .i64 bh]⟩ 113 (0, 0))) := by rw [hwz]; exact row2_set (row2_far G8.out (Ne.symm hne))
            have TZ : Hid (St W B fb mb ca t i L (W.heap.size + 1) W.heap.size y wz) := by rw [hwz]; exact (T.out.set2 (by omega) (by omega) (by omega) hmW hfW _ _).set2 (by omega) (by omega) (by omega) hmW hfW _ _
            have HWZ := Lib.hid hwz
            clear hwz T G7 G8
            go_wp2_with fail
            rw [← HWZ.out]
            go_meet
            case rel => exact ⟨g7, g8, rfl, rfl, TZ, N7, N8, h7, h8⟩
    · go_simp
      obtain ⟨v1, hv'⟩ : ∃ v', v' = v0.alloc (.cells #[.int .i64 0, .int .i64 0] 113) := ⟨_, rfl⟩
      obtain ⟨g7, hg'⟩ : ∃ g', g' = v0.heap.size := ⟨_, rfl⟩
      have T' : Hid (St W B fb mb ca t i L (W.heap.size + 1) W.heap.size y v1) := by rw [hv']; exact T.out.below (below_one _ _)
      have G7' : Hid (v1.heap[g7]? = some (.cells ⟨[.int .i64 0, .int .i64 0]⟩ 113 (0, 0))) := by rw [hv', hg']; exact heap_last _ _
      have h7 : W.heap.size + 1 < g7 := by rw [hg']; exact (Array.getElem?_eq_some_iff.1 T.out.xr).1
      rw [← hv', ← hg']
      refine hK _ _ (fun _ => ⟨⟨v1, HeadAt.of_row T'.out.xr⟩, rfl⟩) ?_
      clear hK K hv' hg'
      clear T
      rename Hid (St W B fb mb ca t i L (W.heap.size + 1) W.heap.size y v1) => T
      have G7 := G7'
      clear G7'
      refine wpAnyC_two (i := 4) (k := 11) (by kernel_rfl) rfl rfl (fun K hK => ?_) (fun K hK => ?_)
      · have SC := T.out.span IH.out (by omega) (by omega) hile p hp2
        rw [HPS.out] at SC
        have HSC := Lib.hid SC
        clear SC
        go_simp
        refine HSC.out.mono ?_
        rintro e v2 ⟨rfl, s', k'⟩
        have T' := Lib.hid s'
        have G7' := Lib.hid (k'.row G7.out (by omega))
        refine hK _ _ (fun _ => ⟨⟨v2, HeadAt.of_row T'.out.xr⟩, rfl⟩) ?_
        clear hK K k' s' HSC
        clear T G7
        rename Hid (St W B fb mb ca t i L (W.heap.size + 1) W.heap.size y v2) => T
        have G7 := G7'
        clear G7'
        refine wpAnyC_two (i := 9) (k := 11) (by kernel_rfl) rfl rfl (fun K hK => ?_) (fun K hK => ?_)
        · have SC := T.out.span IH.out (by omega) (by omega) hile q hq2
          rw [HQS.out] at SC
          have HSC := Lib.hid SC
          clear SC
          go_simp
          refine HSC.out.mono ?_
          rintro e v3 ⟨rfl, s', k'⟩
          have T' := Lib.hid s'
          have G7' := Lib.hid (k'.row G7.out (by omega))
          refine hK _ _ (fun _ => ⟨⟨v3, HeadAt.of_row T'.out.xr⟩, rfl⟩) ?_
          clear hK K k' s' HSC
          clear T G7
          rename Hid (St W B fb mb ca t i L (W.heap.size + 1) W.heap.size y v3) => T
          have G7 := G7'
          clear G7'
          refine wpAnyC_one (i := 11) (by kernel_rfl) rfl (fun K hK => ?_)
          · go_simp
            obtain ⟨v4, hv'⟩ : ∃ v', v' = v3.alloc (.cells #[.int .i64 0, .int .i64 0] 113) := ⟨_, rfl⟩
            obtain ⟨g8, hg'⟩ : ∃ g', g' = v3.heap.size := ⟨_, rfl⟩
            have T' : Hid (St W B fb mb ca t i L (W.heap.size + 1) W.heap.size y v4) := by rw [hv']; exact T.out.below (below_one _ _)
            have G8' : Hid (v4.heap[g8]? = some (.cells ⟨[.int .i64 0, .int .i64 0]⟩ 113 (0, 0))) := by rw [hv', hg']; exact heap_last _ _
            have h8 : W.heap.size + 1 < g8 := by rw [hg']; exact (Array.getElem?_eq_some_iff.1 T.out.xr).1
            have G7' : Hid (v4.heap[g7]? = some (.cells ⟨[.int .i64 0, .int .i64 0]⟩ 113 (0, 0))) := by rw [hv']; exact heap_old G7.out _
            have hne : g7 ≠ g8 := by have h1 := (Array.getElem?_eq_some_iff.1 G7.out).1; omega
            rw [← hv', ← hg']
            refine hK _ _ (fun _ => ⟨⟨v4, HeadAt.of_row T'.out.xr⟩, rfl⟩) ?_
            clear hK K hv' hg'
            clear T G7
            rename Hid (St W B fb mb ca t i L (W.heap.size + 1) W.heap.size y v4) => T
            have G7 := G7'
            clear G7'
            have G8 := G8'
            clear G8'
            refine wpAnyC_of_ms [12, 13] _ _ _ (by kernel_rfl) ?_
            refine wpMs_list [12, 13] _ _ (by kernel_rfl) (by kernel_rfl) ?_
            simp only [List.filterMap_cons, List.filterMap_nil, List.getElem?_toArray, List.getElem?_cons_zero, List.getElem?_cons_succ]
            have c70 := HeadAt.of_row G7.out 0 (.int .i64 0) rfl
            have c71 := HeadAt.of_row G7.out 1 (.int .i64 0) rfl
            have c80 := HeadAt.of_row G8.out 0 (.int .i64 0) rfl
            have c81 := HeadAt.of_row G8.out 1 (.int .i64 0) rfl
            have z70 := frozen_of_row v4 g7 0 _ _ G7.out
            have z71 := frozen_of_row v4 g7 1 _ _ G7.out
            have z80 := frozen_of_row v4 g8 0 _ _ G8.out
            have z81 := frozen_of_row v4 g8 1 _ _ G8.out
            obtain ⟨wz, hwz⟩ : ∃ wz, wz = (((v4.setCell ⟨g7, 0, none⟩ (.int .i64 al)).setCell ⟨g7, 1, none⟩ (.int .i64 ah)).setCell ⟨g8, 0, none⟩ (.int .i64 bl)).setCell ⟨g8, 1, none⟩ (.int .i64 bh) := ⟨_, rfl⟩
            have N7 : Hid (wz.heap[g7]? = some (.cells ⟨[.int .i64 al, .int .i64 ah]⟩ 113 (0, 0))) := by rw [hwz]; exact row2_far (row2_set G7.out) hne
            have N8 : Hid (wz.heap[g8]? = some (.cells ⟨[.int .i64 bl, .int .i64 bh]⟩ 113 (0, 0))) := by rw [hwz]; exact row2_set (row2_far G8.out (Ne.symm hne))
            have TZ : Hid (St W B fb mb ca t i L (W.heap.size + 1) W.heap.size y wz) := by rw [hwz]; exact (T.out.set2 (by omega) (by omega) (by omega) hmW hfW _ _).set2 (by omega) (by omega) (by omega) hmW hfW _ _
            have HWZ := Lib.hid hwz
            clear hwz T G7 G8
            go_wp2_with fail
            rw [← HWZ.out]
            go_meet
            case rel => exact ⟨g7, g8, rfl, rfl, TZ, N7, N8, h7, h8⟩
        · go_simp
          obtain ⟨v3, hv'⟩ : ∃ v', v' = v2.alloc (.cells #[.int .i64 0, .int .i64 0] 113) := ⟨_, rfl⟩
          obtain ⟨g8, hg'⟩ : ∃ g', g' = v2.heap.size := ⟨_, rfl⟩
          have T' : Hid (St W B fb mb ca t i L (W.heap.size + 1) W.heap.size y v3) := by rw [hv']; exact T.out.below (below_one _ _)
          have G8' : Hid (v3.heap[g8]? = some (.cells ⟨[.int .i64 0, .int .i64 0]⟩ 113 (0, 0))) := by rw [hv', hg']; exact heap_last _ _
          have h8 : W.heap.size + 1 < g8 := by rw [hg']; exact (Array.getElem?_eq_some_iff.1 T.out.xr).1
          have G7' : Hid (v3.heap[g7]? = some (.cells ⟨[.int .i64 0, .int .i64 0]⟩ 113 (0, 0))) := by rw [hv']; exact heap_old G7.out _
          have hne : g7 ≠ g8 := by have h1 := (Array.getElem?_eq_some_iff.1 G7.out).1; omega
          rw [← hv', ← hg']
          refine hK _ _ (fun _ => ⟨⟨v3, HeadAt.of_row T'.out.xr⟩, rfl⟩) ?_
          clear hK K hv' hg'
          clear T G7
          rename Hid (St W B fb mb ca t i L (W.heap.size + 1) W.heap.size y v3) => T
          have G7 := G7'
          clear G7'
          have G8 := G8'
          clear G8'
          refine wpAnyC_one (i := 9) (by kernel_rfl) rfl (fun K hK => ?_)
          · have SC := T.out.span IH.out (by omega) (by omega) hile q hq2
            rw [HQS.out] at SC
            have HSC := Lib.hid SC
            clear SC
            go_simp
            refine HSC.out.mono ?_
            rintro e v4 ⟨rfl, s', k'⟩
            have T' := Lib.hid s'
            have G7' := Lib.hid (k'.row G7.out (by omega))
            have G8' := Lib.hid (k'.row G8.out (by omega))
            refine hK _ _ (fun _ => ⟨⟨v4, HeadAt.of_row T'.out.xr⟩, rfl⟩) ?_
            clear hK K k' s' HSC
            clear T G7 G8
            rename Hid (St W B fb mb ca t i L (W.heap.size + 1) W.heap.size y v4) => T
            have G7 := G7'
            clear G7'
            have G8 := G8'
            clear G8'
            refine wpAnyC_of_ms [12, 13] _ _ _ (by kernel_rfl) ?_
            refine wpMs_list [12, 13] _ _ (by kernel_rfl) (by kernel_rfl) ?_
            simp only [List.filterMap_cons, List.filterMap_nil, List.getElem?_toArray, List.getElem?_cons_zero, List.getElem?_cons_succ]
            have c70 := HeadAt.of_row G7.out 0 (.int .i64 0) rfl
            have c71 := HeadAt.of_row G7.out 1 (.int .i64 0) rfl
            have c80 := HeadAt.of_row G8.out 0 (.int .i64 0) rfl
            have c81 := HeadAt.of_row G8.out 1 (.int .i64 0) rfl
            have z70 := frozen_of_row v4 g7 0 _ _ G7.out
            have z71 := frozen_of_row v4 g7 1 _ _ G7.out
            have z80 := frozen_of_row v4 g8 0 _ _ G8.out
            have z81 := frozen_of_row v4 g8 1 _ _ G8.out
            obtain ⟨wz, hwz⟩ : ∃ wz, wz = (((v4.setCell ⟨g7, 0, none⟩ (.int .i64 al)).setCell ⟨g7, 1, none⟩ (.int .i64 ah)).setCell ⟨g8, 0, none⟩ (.int .i64 bl)).setCell ⟨g8, 1, none⟩ (.int .i64 bh) := ⟨_, rfl⟩
            have N7 : Hid (wz.heap[g7]? = some (.cells ⟨[.int .i64 al, .int .i64 ah]⟩ 113 (0, 0))) := by rw [hwz]; exact row2_far (row2_set G7.out) hne
            have N8 : Hid (wz.heap[g8]? = some (.cells ⟨[.int .i64 bl, .int .i64 bh]⟩ 113 (0, 0))) := by rw [hwz]; exact row2_set (row2_far G8.out (Ne.symm hne))
            have TZ : Hid (St W B fb mb ca t i L (W.heap.size + 1) W.heap.size y wz) := by rw [hwz]; exact (T.out.set2 (by omega) (by omega) (by omega) hmW hfW _ _).set2 (by omega) (by omega) (by omega) hmW hfW _ _
            have HWZ := Lib.hid hwz
            clear hwz T G7 G8
            go_wp2_with fail
            rw [← HWZ.out]
            go_meet
            case rel => exact ⟨g7, g8, rfl, rfl, TZ, N7, N8, h7, h8⟩
      · go_simp
        obtain ⟨v2, hv'⟩ : ∃ v', v' = v1.alloc (.cells #[.int .i64 0, .int .i64 0] 113) := ⟨_, rfl⟩
        obtain ⟨g8, hg'⟩ : ∃ g', g' = v1.heap.size := ⟨_, rfl⟩
        have T' : Hid (St W B fb mb ca t i L (W.heap.size + 1) W.heap.size y v2) := by rw [hv']; exact T.out.below (below_one _ _)
        have G8' : Hid (v2.heap[g8]? = some (.cells ⟨[.int .i64 0, .int .i64 0]⟩ 113 (0, 0))) := by rw [hv', hg']; exact heap_last _ _
        have h8 : W.heap.size + 1 < g8 := by rw [hg']; exact (Array.getElem?_eq_some_iff.1 T.out.xr).1
        have G7' : Hid (v2.heap[g7]? = some (.cells ⟨[.int .i64 0, .int .i64 0]⟩ 113 (0, 0))) := by rw [hv']; exact heap_old G7.out _
        have hne : g7 ≠ g8 := by have h1 := (Array.getElem?_eq_some_iff.1 G7.out).1; omega
        rw [← hv', ← hg']
        refine hK _ _ (fun _ => ⟨⟨v2, HeadAt.of_row T'.out.xr⟩, rfl⟩) ?_
        clear hK K hv' hg'
        clear T G7
        rename Hid (St W B fb mb ca t i L (W.heap.size + 1) W.heap.size y v2) => T
        have G7 := G7'
        clear G7'
        have G8 := G8'
        clear G8'
        refine wpAnyC_one (i := 4) (by kernel_rfl) rfl (fun K hK => ?_)
        · have SC := T.out.span IH.out (by omega) (by omega) hile p hp2
          rw [HPS.out] at SC
          have HSC := Lib.hid SC
          clear SC
          go_simp
          refine HSC.out.mono ?_
          rintro e v3 ⟨rfl, s', k'⟩
          have T' := Lib.hid s'
          have G7' := Lib.hid (k'.row G7.out (by omega))
          have G8' := Lib.hid (k'.row G8.out (by omega))
          refine hK _ _ (fun _ => ⟨⟨v3, HeadAt.of_row T'.out.xr⟩, rfl⟩) ?_
          clear hK K k' s' HSC
          clear T G7 G8
          rename Hid (St W B fb mb ca t i L (W.heap.size + 1) W.heap.size y v3) => T
          have G7 := G7'
          clear G7'
          have G8 := G8'
          clear G8'
          refine wpAnyC_one (i := 9) (by kernel_rfl) rfl (fun K hK => ?_)
          · have SC := T.out.span IH.out (by omega) (by omega) hile q hq2
            rw [HQS.out] at SC
            have HSC := Lib.hid SC
            clear SC
            go_simp
            refine HSC.out.mono ?_
            rintro e v4 ⟨rfl, s', k'⟩
            have T' := Lib.hid s'
            have G7' := Lib.hid (k'.row G7.out (by omega))
            have G8' := Lib.hid (k'.row G8.out (by omega))
            refine hK _ _ (fun _ => ⟨⟨v4, HeadAt.of_row T'.out.xr⟩, rfl⟩) ?_
            clear hK K k' s' HSC
            clear T G7 G8
            rename Hid (St W B fb mb ca t i L (W.heap.size + 1) W.heap.size y v4) => T
            have G7 := G7'
            clear G7'
            have G8 := G8'
            clear G8'
            refine wpAnyC_of_ms [12, 13] _ _ _ (by kernel_rfl) ?_
            refine wpMs_list [12, 13] _ _ (by kernel_rfl) (by kernel_rfl) ?_
            simp only [List.filterMap_cons, List.filterMap_nil, List.getElem?_toArray, List.getElem?_cons_zero, List.getElem?_cons_succ]
            have c70 := HeadAt.of_row G7.out 0 (.int .i64 0) rfl
            have c71 := HeadAt.of_row G7.out 1 (.int .i64 0) rfl
            have c80 := HeadAt.of_row G8.out 0 (.int .i64 0) rfl
            have c81 := HeadAt.of_row G8.out 1 (.int .i64 0) rfl
            have z70 := frozen_of_row v4 g7 0 _ _ G7.out
            have z71 := frozen_of_row v4 g7 1 _ _ G7.out
            have z80 := frozen_of_row v4 g8 0 _ _ G8.out
            have z81 := frozen_of_row v4 g8 1 _ _ G8.out
            obtain ⟨wz, hwz⟩ : ∃ wz, wz = (((v4.setCell ⟨g7, 0, none⟩ (.int .i64 al)).setCell ⟨g7, 1, none⟩ (.int .i64 ah)).setCell ⟨g8, 0, none⟩ (.int .i64 bl)).setCell ⟨g8, 1, none⟩ (.int .i64 bh) := ⟨_, rfl⟩
            have N7 : Hid (wz.heap[g7]? = some (.cells ⟨[.int .i64 al, .int .i64 ah]⟩ 113 (0, 0))) := by rw [hwz]; exact row2_far (row2_set G7.out) hne
            have N8 : Hid (wz.heap[g8]? = some (.cells ⟨[.int .i64 bl, .int .i64 bh]⟩ 113 (0, 0))) := by rw [hwz]; exact row2_set (row2_far G8.out (Ne.symm hne))
            have TZ : Hid (St W B fb mb ca t i L (W.heap.size + 1) W.heap.size y wz) := by rw [hwz]; exact (T.out.set2 (by omega) (by omega) (by omega) hmW hfW _ _).set2 (by omega) (by omega) (by omega) hmW hfW _ _
            have HWZ := Lib.hid hwz
            clear hwz T G7 G8
            go_wp2_with fail
            rw [← HWZ.out]
            go_meet
            case rel => exact ⟨g7, g8, rfl, rfl, TZ, N7, N8, h7, h8⟩
    · go_simp
      obtain ⟨v1, hv'⟩ : ∃ v', v' = v0.alloc (.cells #[.int .i64 0, .int .i64 0] 113) := ⟨_, rfl⟩
      obtain ⟨g8, hg'⟩ : ∃ g', g' = v0.heap.size := ⟨_, rfl⟩
      have T' : Hid (St W B fb mb ca t i L (W.heap.size + 1) W.heap.size y v1) := by rw [hv']; exact T.out.below (below_one _ _)
      have G8' : Hid (v1.heap[g8]? = some (.cells ⟨[.int .i64 0, .int .i64 0]⟩ 113 (0, 0))) := by rw [hv', hg']; exact heap_last _ _
      have h8 : W.heap.size + 1 < g8 := by rw [hg']; exact (Array.getElem?_eq_some_iff.1 T.out.xr).1
      rw [← hv', ← hg']
      refine hK _ _ (fun _ => ⟨⟨v1, HeadAt.of_row T'.out.xr⟩, rfl⟩) ?_
      clear hK K hv' hg'
      clear T
      rename Hid (St W B fb mb ca t i L (W.heap.size + 1) W.heap.size y v1) => T
      have G8 := G8'
      clear G8'
      refine wpAnyC_two (i := 4) (k := 10) (by kernel_rfl) rfl rfl (fun K hK => ?_) (fun K hK => ?_)
      · have SC := T.out.span IH.out (by omega) (by omega) hile p hp2
        rw [HPS.out] at SC
        have HSC := Lib.hid SC
        clear SC
        go_simp
        refine HSC.out.mono ?_
        rintro e v2 ⟨rfl, s', k'⟩
        have T' := Lib.hid s'
        have G8' := Lib.hid (k'.row G8.out (by omega))
        refine hK _ _ (fun _ => ⟨⟨v2, HeadAt.of_row T'.out.xr⟩, rfl⟩) ?_
        clear hK K k' s' HSC
        clear T G8
        rename Hid (St W B fb mb ca t i L (W.heap.size + 1) W.heap.size y v2) => T
        have G8 := G8'
        clear G8'
        refine wpAnyC_two (i := 9) (k := 10) (by kernel_rfl) rfl rfl (fun K hK => ?_) (fun K hK => ?_)
        · have SC := T.out.span IH.out (by omega) (by omega) hile q hq2
          rw [HQS.out] at SC
          have HSC := Lib.hid SC
          clear SC
          go_simp
          refine HSC.out.mono ?_
          rintro e v3 ⟨rfl, s', k'⟩
          have T' := Lib.hid s'
          have G8' := Lib.hid (k'.row G8.out (by omega))
          refine hK _ _ (fun _ => ⟨⟨v3, HeadAt.of_row T'.out.xr⟩, rfl⟩) ?_
          clear hK K k' s' HSC
          clear T G8
          rename Hid (St W B fb mb ca t i L (W.heap.size + 1) W.heap.size y v3) => T
          have G8 := G8'
          clear G8'
          refine wpAnyC_one (i := 10) (by kernel_rfl) rfl (fun K hK => ?_)
          · go_simp
            obtain ⟨v4, hv'⟩ : ∃ v', v' = v3.alloc (.cells #[.int .i64 0, .int .i64 0] 113) := ⟨_, rfl⟩
            obtain ⟨g7, hg'⟩ : ∃ g', g' = v3.heap.size := ⟨_, rfl⟩
            have T' : Hid (St W B fb mb ca t i L (W.heap.size + 1) W.heap.size y v4) := by rw [hv']; exact T.out.below (below_one _ _)
            have G7' : Hid (v4.heap[g7]? = some (.cells ⟨[.int .i64 0, .int .i64 0]⟩ 113 (0, 0))) := by rw [hv', hg']; exact heap_last _ _
            have h7 : W.heap.size + 1 < g7 := by rw [hg']; exact (Array.getElem?_eq_some_iff.1 T.out.xr).1
            have G8' : Hid (v4.heap[g8]? = some (.cells ⟨[.int .i64 0, .int .i64 0]⟩ 113 (0, 0))) := by rw [hv']; exact heap_old G8.out _
            have hne : g7 ≠ g8 := by have h1 := (Array.getElem?_eq_some_iff.1 G8.out).1; omega
            rw [← hv', ← hg']
            refine hK _ _ (fun _ => ⟨⟨v4, HeadAt.of_row T'.out.xr⟩, rfl⟩) ?_
            clear hK K hv' hg'
            clear T G8
            rename Hid (St W B fb mb ca t i L (W.heap.size + 1) W.heap.size y v4) => T
            have G7 := G7'
            clear G7'
            have G8 := G8'
            clear G8'
            refine wpAnyC_of_ms [12, 13] _ _ _ (by kernel_rfl) ?_
            refine wpMs_list [12, 13] _ _ (by kernel_rfl) (by kernel_rfl) ?_
            simp only [List.filterMap_cons, List.filterMap_nil, List.getElem?_toArray, List.getElem?_cons_zero, List.getElem?_cons_succ]
            have c70 := HeadAt.of_row G7.out 0 (.int .i64 0) rfl
            have c71 := HeadAt.of_row G7.out 1 (.int .i64 0) rfl
            have c80 := HeadAt.of_row G8.out 0 (.int .i64 0) rfl
            have c81 := HeadAt.of_row G8.out 1 (.int .i64 0) rfl
            have z70 := frozen_of_row v4 g7 0 _ _ G7.out
            have z71 := frozen_of_row v4 g7 1 _ _ G7.out
            have z80 := frozen_of_row v4 g8 0 _ _ G8.out
            have z81 := frozen_of_row v4 g8 1 _ _ G8.out
            obtain ⟨wz, hwz⟩ : ∃ wz, wz = (((v4.setCell ⟨g7, 0, none⟩ (.int .i64 al)).setCell ⟨g7, 1, none⟩ (.int .i64 ah)).setCell ⟨g8, 0, none⟩ (.int .i64 bl)).setCell ⟨g8, 1, none⟩ (.int .i64 bh) := ⟨_, rfl⟩
            have N7 : Hid (wz.heap[g7]? = some (.cells ⟨[.int .i64 al, .int .i64 ah]⟩ 113 (0, 0))) := by rw [hwz]; exact row2_far (row2_set G7.out) hne
            have N8 : Hid (wz.heap[g8]? = some (.cells ⟨[.int .i64 bl, .int .i64 bh]⟩ 113 (0, 0))) := by rw [hwz]; exact row2_set (row2_far G8.out (Ne.symm hne))
            have TZ : Hid (St W B fb mb ca t i L (W.heap.size + 1) W.heap.size y wz) := by rw [hwz]; exact (T.out.set2 (by omega) (by omega) (by omega) hmW hfW _ _).set2 (by omega) (by omega) (by omega) hmW hfW _ _
            have HWZ := Lib.hid hwz
            clear hwz T G7 G8
            go_wp2_with fail
            rw [← HWZ.out]
            go_meet
            case rel => exact ⟨g7, g8, rfl, rfl, TZ, N7, N8, h7, h8⟩
        · go_simp
          obtain ⟨v3, hv'⟩ : ∃ v', v' = v2.alloc (.cells #[.int .i64 0, .int .i64 0] 113) := ⟨_, rfl⟩
          obtain ⟨g7, hg'⟩ : ∃ g', g' = v2.heap.size := ⟨_, rfl⟩
          have T' : Hid (St W B fb mb ca t i L (W.heap.size + 1) W.heap.size y v3) := by rw [hv']; exact T.out.below (below_one _ _)
          have G7' : Hid (v3.heap[g7]? = some (.cells ⟨[.int .i64 0, .int .i64 0]⟩ 113 (0, 0))) := by rw [hv', hg']; exact heap_last _ _
          have h7 : W.heap.size + 1 < g7 := by rw [hg']; exact (Array.getElem?_eq_some_iff.1 T.out.xr).1
          have G8' : Hid (v3.heap[g8]? = some (.cells ⟨[.int .i64 0, .int .i64 0]⟩ 113 (0, 0))) := by rw [hv']; exact heap_old G8.out _
          have hne : g7 ≠ g8 := by have h1 := (Array.getElem?_eq_some_iff.1 G8.out).1; omega
          rw [← hv', ← hg']
          refine hK _ _ (fun _ => ⟨⟨v3, HeadAt.of_row T'.out.xr⟩, rfl⟩) ?_
          clear hK K hv' hg'
          clear T G8
          rename Hid (St W B fb mb ca t i L (W.heap.size + 1) W.heap.size y v3) => T
          have G7 := G7'
          clear G7'
          have G8 := G8'
          clear G8'
          refine wpAnyC_one (i := 9) (by kernel_rfl) rfl (fun K hK => ?_)
          · have SC := T.out.span IH.out (by omega) (by omega) hile q hq2
            rw [HQS.out] at SC
            have HSC := Lib.hid SC
            clear SC
            go_simp
            refine HSC.out.mono ?_
            rintro e v4 ⟨rfl, s', k'⟩
            have T' := Lib.hid s'
            have G7' := Lib.hid (k'.row G7.out (by omega))
            have G8' := Lib.hid (k'.row G8.out (by omega))
            refine hK _ _ (fun _ => ⟨⟨v4, HeadAt.of_row T'.out.xr⟩, rfl⟩) ?_
            clear hK K k' s' HSC
            clear T G7 G8
            rename Hid (St W B fb mb ca t i L (W.heap.size + 1) W.heap.size y v4) => T
            have G7 := G7'
            clear G7'
            have G8 := G8'
            clear G8'
            refine wpAnyC_of_ms [12, 13] _ _ _ (by kernel_rfl) ?_
            refine wpMs_list [12, 13] _ _ (by kernel_rfl) (by kernel_rfl) ?_
            simp only [List.filterMap_cons, List.filterMap_nil, List.getElem?_toArray, List.getElem?_cons_zero, List.getElem?_cons_succ]
            have c70 := HeadAt.of_row G7.out 0 (.int .i64 0) rfl
            have c71 := HeadAt.of_row G7.out 1 (.int .i64 0) rfl
            have c80 := HeadAt.of_row G8.out 0 (.int .i64 0) rfl
            have c81 := HeadAt.of_row G8.out 1 (.int .i64 0) rfl
            have z70 := frozen_of_row v4 g7 0 _ _ G7.out
            have z71 := frozen_of_row v4 g7 1 _ _ G7.out
            have z80 := frozen_of_row v4 g8 0 _ _ G8.out
            have z81 := frozen_of_row v4 g8 1 _ _ G8.out
            obtain ⟨wz, hwz⟩ : ∃ wz, wz = (((v4.setCell ⟨g7, 0, none⟩ (.int .i64 al)).setCell ⟨g7, 1, none⟩ (.int .i64 ah)).setCell ⟨g8, 0, none⟩ (.int .i64 bl)).setCell ⟨g8, 1, none⟩ (.int .i64 bh) := ⟨_, rfl⟩
            have N7 : Hid (wz.heap[g7]? = some (.cells ⟨[.int .i64 al, .int .i64 ah]⟩ 113 (0, 0))) := by rw [hwz]; exact row2_far (row2_set G7.out) hne
            have N8 : Hid (wz.heap[g8]? = some (.cells ⟨[.int .i64 bl, .int .i64 bh]⟩ 113 (0, 0))) := by rw [hwz]; exact row2_set (row2_far G8.out (Ne.symm hne))
            have TZ : Hid (St W B fb mb ca t i L (W.heap.size + 1) W.heap.size y wz) := by rw [hwz]; exact (T.out.set2 (by omega) (by omega) (by omega) hmW hfW _ _).set2 (by omega) (by omega) (by omega) hmW hfW _ _
            have HWZ := Lib.hid hwz
            clear hwz T G7 G8
            go_wp2_with fail
            rw [← HWZ.out]
            go_meet
            case rel => exact ⟨g7, g8, rfl, rfl, TZ, N7, N8, h7, h8⟩
      · go_simp
        obtain ⟨v2, hv'⟩ : ∃ v', v' = v1.alloc (.cells #[.int .i64 0, .int .i64 0] 113) := ⟨_, rfl⟩
        obtain ⟨g7, hg'⟩ : ∃ g', g' = v1.heap.size := ⟨_, rfl⟩
        have T' : Hid (St W B fb mb ca t i L (W.heap.size + 1) W.heap.size y v2) := by rw [hv']; exact T.out.below (below_one _ _)
        have G7' : Hid (v2.heap[g7]? = some (.cells ⟨[.int .i64 0, .int .i64 0]⟩ 113 (0, 0))) := by rw [hv', hg']; exact heap_last _ _
        have h7 : W.heap.size + 1 < g7 := by rw [hg']; exact (Array.getElem?_eq_some_iff.1 T.out.xr).1
        have G8' : Hid (v2.heap[g8]? = some (.cells ⟨[.int .i64 0, .int .i64 0]⟩ 113 (0, 0))) := by rw [hv']; exact heap_old G8.out _
        have hne : g7 ≠ g8 := by have h1 := (Array.getElem?_eq_some_iff.1 G8.out).1; omega
        rw [← hv', ← hg']
        refine hK _ _ (fun _ => ⟨⟨v2, HeadAt.of_row T'.out.xr⟩, rfl⟩) ?_
        clear hK K hv' hg'
        clear T G8
        rename Hid (St W B fb mb ca t i L (W.heap.size + 1) W.heap.size y v2) => T
        have G7 := G7'
        clear G7'
        have G8 := G8'
        clear G8'
        refine wpAnyC_one (i := 4) (by kernel_rfl) rfl (fun K hK => ?_)
        · have SC := T.out.span IH.out (by omega) (by omega) hile p hp2
          rw [HPS.out] at SC
          have HSC := Lib.hid SC
          clear SC
          go_simp
          refine HSC.out.mono ?_
          rintro e v3 ⟨rfl, s', k'⟩
          have T' := Lib.hid s'
          have G7' := Lib.hid (k'.row G7.out (by omega))
          have G8' := Lib.hid (k'.row G8.out (by omega))
          refine hK _ _ (fun _ => ⟨⟨v3, HeadAt.of_row T'.out.xr⟩, rfl⟩) ?_
          clear hK K k' s' HSC
          clear T G7 G8
          rename Hid (St W B fb mb ca t i L (W.heap.size + 1) W.heap.size y v3) => T
          have G7 := G7'
          clear G7'
          have G8 := G8'
          clear G8'
          refine wpAnyC_one (i := 9) (by kernel_rfl) rfl (fun K hK => ?_)
          · have SC := T.out.span IH.out (by omega) (by omega) hile q hq2
            rw [HQS.out] at SC
            have HSC := Lib.hid SC
            clear SC
            go_simp
            refine HSC.out.mono ?_
            rintro e v4 ⟨rfl, s', k'⟩
            have T' := Lib.hid s'
            have G7' := Lib.hid (k'.row G7.out (by omega))
            have G8' := Lib.hid (k'.row G8.out (by omega))
            refine hK _ _ (fun _ => ⟨⟨v4, HeadAt.of_row T'.out.xr⟩, rfl⟩) ?_
            clear hK K k' s' HSC
            clear T G7 G8
            rename Hid (St W B fb mb ca t i L (W.heap.size + 1) W.heap.size y v4) => T
            have G7 := G7'
            clear G7'
            have G8 := G8'
            clear G8'
            refine wpAnyC_of_ms [12, 13] _ _ _ (by kernel_rfl) ?_
            refine wpMs_list [12, 13] _ _ (by kernel_rfl) (by kernel_rfl) ?_
            simp only [List.filterMap_cons, List.filterMap_nil, List.getElem?_toArray, List.getElem?_cons_zero, List.getElem?_cons_succ]
            have c70 := HeadAt.of_row G7.out 0 (.int .i64 0) rfl
            have c71 := HeadAt.of_row G7.out 1 (.int .i64 0) rfl
            have c80 := HeadAt.of_row G8.out 0 (.int .i64 0) rfl
            have c81 := HeadAt.of_row G8.out 1 (.int .i64 0) rfl
            have z70 := frozen_of_row v4 g7 0 _ _ G7.out
            have z71 := frozen_of_row v4 g7 1 _ _ G7.out
            have z80 := frozen_of_row v4 g8 0 _ _ G8.out
            have z81 := frozen_of_row v4 g8 1 _ _ G8.out
            obtain ⟨wz, hwz⟩ : ∃ wz, wz = (((v4.setCell ⟨g7, 0, none⟩ (.int .i64 al)).setCell ⟨g7, 1, none⟩ (.int .i64 ah)).setCell ⟨g8, 0, none⟩ (.int .i64 bl)).setCell ⟨g8, 1, none⟩ (.int .i64 bh) := ⟨_, rfl⟩
            have N7 : Hid (wz.heap[g7]? = some (.cells ⟨[.int .i64 al, .int .i64 ah]⟩ 113 (0, 0))) := by rw [hwz]; exact row2_far (row2_set G7.out) hne
            have N8 : Hid (wz.heap[g8]? = some (.cells ⟨[.int .i64 bl, .int .i64 bh]⟩ 113 (0, 0))) := by rw [hwz]; exact row2_set (row2_far G8.out (Ne.symm hne))
            have TZ : Hid (St W B fb mb ca t i L (W.heap.size + 1) W.heap.size y wz) := by rw [hwz]; exact (T.out.set2 (by omega) (by omega) (by omega) hmW hfW _ _).set2 (by omega) (by omega) (by omega) hmW hfW _ _
            have HWZ := Lib.hid hwz
            clear hwz T G7 G8
            go_wp2_with fail
            rw [← HWZ.out]
            go_meet
            case rel => exact ⟨g7, g8, rfl, rfl, TZ, N7, N8, h7, h8⟩
  case rest =>
    obtain ⟨w2, hw2⟩ : ∃ w2, w2 = wc := ⟨_, rfl⟩
    subst hw2
    obtain ⟨g7, g8, rfl, rfl, T, N7, N8, h7, h8⟩ := hcut
    have x4 := HeadAt.of_row T.out.xr 4 (.int .i64 y.n) rfl
    have c70 := HeadAt.of_row N7.out 0 (.int .i64 al) rfl
    have c71 := HeadAt.of_row N7.out 1 (.int .i64 ah) rfl
    have c80 := HeadAt.of_row N8.out 0 (.int .i64 bl) rfl
    have c81 := HeadAt.of_row N8.out 1 (.int .i64 bh) rfl
    clear S1 HW0 HW1 HPS HQS HP HQ
    by_cases n3 : y.n = 3
    · have b3 : (y.n == 3) = true := beq_iff_eq.2 n3
      have hr := HR.out
      rw [if_pos n3] at hr
      have HR' := Lib.hid hr
      have u0 : IntKind.i64.wrap (al + bl) = al + bl := IntWalk.i64_in _ (by omega)
      have u1 : IntKind.i64.wrap (ah + bh) = ah + bh := IntWalk.i64_in _ (by omega)
      clear hr n3 HR
      have r0 := HeadAt.of_row T.out.rr 0 (.int .i64 0) rfl
      have r1 := HeadAt.of_row T.out.rr 1 (.int .i64 0) rfl
      have y0 := frozen_of_row w2 W.heap.size 0 _ _ T.out.rr
      have y1 := frozen_of_row w2 W.heap.size 1 _ _ T.out.rr
      have hz := T.out.done (Nat.le_refl _) hmW (.int .i64 (al + bl)) (.int .i64 (ah + bh))
      obtain ⟨wz, hwz⟩ : ∃ wz, wz = (w2.setCell ⟨W.heap.size, 0, none⟩ (.int .i64 (al + bl))).setCell ⟨W.heap.size, 1, none⟩ (.int .i64 (ah + bh)) := ⟨_, rfl⟩
      rw [← hwz] at hz
      obtain ⟨z1, z2, z3⟩ := hz
      have n0 := cell_of_row wz W.heap.size 0 _ _ _ z1
      have n1 := cell_of_row wz W.heap.size 1 _ _ _ z1
      have HZ2 := Lib.hid z2
      have HZ3 := Lib.hid z3
      have HN0 := Lib.hid n0
      have HN1 := Lib.hid n1
      have HWZ := Lib.hid hwz
      clear z1 z2 z3 n0 n1 hwz
      go_wp2_with fail
      rw [← HWZ.out]
      have n0 := HN0.out
      have n1 := HN1.out
      rw [HR'.out]
      exact bodyPost_ret (v := .tuple #[.agg #[.int .i64 (al + bl), .int .i64 (ah + bh)], .bool true]) (by simp [results, Tryd.results92, go_sem, n0, n1]) rfl ⟨rfl, HZ2.out, HZ3.out⟩
    have b3 : (y.n == 3) = false := beq_eq_false_iff_ne.2 n3
    by_cases n4 : y.n = 4
    · have b4 : (y.n == 4) = true := beq_iff_eq.2 n4
      have hr := HR.out
      rw [if_neg n3, if_pos n4] at hr
      have HR' := Lib.hid hr
      have u0 : IntKind.i64.wrap (al - bh) = al - bh := IntWalk.i64_in _ (by omega)
      have u1 : IntKind.i64.wrap (ah - bl) = ah - bl := IntWalk.i64_in _ (by omega)
      clear hr n3 n4 HR
      have r0 := HeadAt.of_row T.out.rr 0 (.int .i64 0) rfl
      have r1 := HeadAt.of_row T.out.rr 1 (.int .i64 0) rfl
      have y0 := frozen_of_row w2 W.heap.size 0 _ _ T.out.rr
      have y1 := frozen_of_row w2 W.heap.size 1 _ _ T.out.rr
      have hz := T.out.done (Nat.le_refl _) hmW (.int .i64 (al - bh)) (.int .i64 (ah - bl))
      obtain ⟨wz, hwz⟩ : ∃ wz, wz = (w2.setCell ⟨W.heap.size, 0, none⟩ (.int .i64 (al - bh))).setCell ⟨W.heap.size, 1, none⟩ (.int .i64 (ah - bl)) := ⟨_, rfl⟩
      rw [← hwz] at hz
      obtain ⟨z1, z2, z3⟩ := hz
      have n0 := cell_of_row wz W.heap.size 0 _ _ _ z1
      have n1 := cell_of_row wz W.heap.size 1 _ _ _ z1
      have HZ2 := Lib.hid z2
      have HZ3 := Lib.hid z3
      have HN0 := Lib.hid n0
      have HN1 := Lib.hid n1
      have HWZ := Lib.hid hwz
      clear z1 z2 z3 n0 n1 hwz
      go_wp2_with fail
      rw [← HWZ.out]
      have n0 := HN0.out
      have n1 := HN1.out
      rw [HR'.out]
      exact bodyPost_ret (v := .tuple #[.agg #[.int .i64 (al - bh), .int .i64 (ah - bl)], .bool true]) (by simp [results, Tryd.results92, go_sem, n0, n1]) rfl ⟨rfl, HZ2.out, HZ3.out⟩
    have b4 : (y.n == 4) = false := beq_eq_false_iff_ne.2 n4
    by_cases n5 : y.n = 5
    · have b5 : (y.n == 5) = true := beq_iff_eq.2 n5
      have hr := HR.out
      rw [if_neg n3, if_neg n4, if_pos n5] at hr
      obtain ⟨mn, hmn⟩ : ∃ mn, min (min (min (al * bl) (al * bh)) (ah * bl)) (ah * bh) = mn := ⟨_, rfl⟩
      obtain ⟨mx, hmx⟩ : ∃ mx, max (max (max (al * bl) (al * bh)) (ah * bl)) (ah * bh) = mx := ⟨_, rfl⟩
      rw [hmn, hmx] at hr
      have HR' := Lib.hid hr
      have HMN : Hid (List.foldl min (al * bl) [al * bh, ah * bl, ah * bh] = mn) := hmn
      have HMX : Hid (List.foldl max (al * bl) [al * bh, ah * bl, ah * bh] = mx) := hmx
      clear hmn hmx
      have i1 := mul_bd (a := al) (b := bl) (by omega) (by omega) (by omega) (by omega)
      have i2 := mul_bd (a := al) (b := bh) (by omega) (by omega) (by omega) (by omega)
      have i3 := mul_bd (a := ah) (b := bl) (by omega) (by omega) (by omega) (by omega)
      have i4 := mul_bd (a := ah) (b := bh) (by omega) (by omega) (by omega) (by omega)
      have u1 : IntKind.i64.wrap (al * bl) = al * bl := IntWalk.i64_in _ (by omega)
      have u2 : IntKind.i64.wrap (al * bh) = al * bh := IntWalk.i64_in _ (by omega)
      have u3 : IntKind.i64.wrap (ah * bl) = ah * bl := IntWalk.i64_in _ (by omega)
      have u4 : IntKind.i64.wrap (ah * bh) = ah * bh := IntWalk.i64_in _ (by omega)
      clear hr n3 n4 n5 HR
      obtain ⟨w3, hw3⟩ : ∃ w3, w3 = w2.alloc (.cells #[.int .i64 (al * bl), .int .i64 (al * bh), .int .i64 (ah * bl), .int .i64 (ah * bh)] 3) := ⟨_, rfl⟩
      have T3 : Hid (St W B fb mb ca t i L (W.heap.size + 1) W.heap.size y w3) := by rw [hw3]; exact T.out.below (below_one _ _)
      have Q3 : Hid (w3.heap[w2.heap.size]? = some (.cells ⟨[al * bl, al * bh, ah * bl, ah * bh].map (.int .i64)⟩ 3 (0, 0))) := by rw [hw3]; exact heap_last _ _
      have SR := sliceR_of_row Q3.out (fun z hz => by
        simp only [List.mem_cons, List.not_mem_nil, or_false] at hz
        unfold wfi
        rcases hz with rfl | rfl | rfl | rfl <;> omega) (by unfold maxLen; simp)
      have MN0 := minL_c _ (al * bl) [al * bh, ah * bl, ah * bh] w3 SR
      rw [HMN.out] at MN0
      have MN := Lib.hid MN0
      clear MN0
      have HSR := Lib.hid SR
      have HW3 := Lib.hid hw3
      clear hw3 SR
      go_upto_region 10 with fail
      rw [← HW3.out]
      clear c70 c71 c80 c81 x4
      go_wp2_with fail
      refine MN.out.mono ?_
      rintro e w4 ⟨rfl, k4⟩
      have T4 : Hid (St W B fb mb ca t i L (W.heap.size + 1) W.heap.size y w4) := T3.out.below k4
      have MX0 := maxL_c _ (al * bl) [al * bh, ah * bl, ah * bh] w4 (HSR.out.keep k4.size (fun _ hp => k4.cell hp) (fun _ _ h => h))
      rw [HMX.out] at MX0
      have MX := Lib.hid MX0
      clear MX0
      clear k4
      go_wp2_with fail
      refine MX.out.mono ?_
      rintro e w5 ⟨rfl, k5⟩
      have T5 : Hid (St W B fb mb ca t i L (W.heap.size + 1) W.heap.size y w5) := T4.out.below k5
      clear k5
      have r0 := HeadAt.of_row T5.out.rr 0 (.int .i64 0) rfl
      have r1 := HeadAt.of_row T5.out.rr 1 (.int .i64 0) rfl
      have y0 := frozen_of_row w5 W.heap.size 0 _ _ T5.out.rr
      have y1 := frozen_of_row w5 W.heap.size 1 _ _ T5.out.rr
      have hz := T5.out.done (Nat.le_refl _) hmW (.int .i64 (mn)) (.int .i64 (mx))
      obtain ⟨wz, hwz⟩ : ∃ wz, wz = (w5.setCell ⟨W.heap.size, 0, none⟩ (.int .i64 (mn))).setCell ⟨W.heap.size, 1, none⟩ (.int .i64 (mx)) := ⟨_, rfl⟩
      rw [← hwz] at hz
      obtain ⟨z1, z2, z3⟩ := hz
      have n0 := cell_of_row wz W.heap.size 0 _ _ _ z1
      have n1 := cell_of_row wz W.heap.size 1 _ _ _ z1
      have HZ2 := Lib.hid z2
      have HZ3 := Lib.hid z3
      have HN0 := Lib.hid n0
      have HN1 := Lib.hid n1
      have HWZ := Lib.hid hwz
      clear z1 z2 z3 n0 n1 hwz
      go_wp2_with fail
      rw [← HWZ.out]
      have n0 := HN0.out
      have n1 := HN1.out
      rw [HR'.out]
      exact bodyPost_ret (v := .tuple #[.agg #[.int .i64 (mn), .int .i64 (mx)], .bool true]) (by simp [results, Tryd.results92, go_sem, n0, n1]) rfl ⟨rfl, HZ2.out, HZ3.out⟩
    have b5 : (y.n == 5) = false := beq_eq_false_iff_ne.2 n5
    have hr := HR.out
    rw [if_neg n3, if_neg n4, if_neg n5] at hr
    have HR' := Lib.hid hr
    clear hr n3 n4 n5 HR
    have r0 := HeadAt.of_row T.out.rr 0 (.int .i64 0) rfl
    have r1 := HeadAt.of_row T.out.rr 1 (.int .i64 0) rfl
    have y0 := frozen_of_row w2 W.heap.size 0 _ _ T.out.rr
    have y1 := frozen_of_row w2 W.heap.size 1 _ _ T.out.rr
    have hz := T.out.done (Nat.le_refl _) hmW (.int .i64 (0)) (.int .i64 (0))
    obtain ⟨wz, hwz⟩ : ∃ wz, wz = (w2.setCell ⟨W.heap.size, 0, none⟩ (.int .i64 (0))).setCell ⟨W.heap.size, 1, none⟩ (.int .i64 (0)) := ⟨_, rfl⟩
    rw [← hwz] at hz
    obtain ⟨z1, z2, z3⟩ := hz
    have n0 := cell_of_row wz W.heap.size 0 _ _ _ z1
    have n1 := cell_of_row wz W.heap.size 1 _ _ _ z1
    have HZ2 := Lib.hid z2
    have HZ3 := Lib.hid z3
    have HN0 := Lib.hid n0
    have HN1 := Lib.hid n1
    have HWZ := Lib.hid hwz
    clear z1 z2 z3 n0 n1 hwz
    go_wp2_with fail
    rw [← HWZ.out]
    have n0 := HN0.out
    have n1 := HN1.out
    rw [HR'.out]
    exact bodyPost_ret (v := .tuple #[.agg #[.int .i64 (0), .int .i64 (0)], .bool false]) (by simp [results, Tryd.results92, go_sem, n0, n1]) rfl ⟨rfl, HZ2.out, HZ3.out⟩
end Go.Proofs.YtmccomeihnaanaaDoor
