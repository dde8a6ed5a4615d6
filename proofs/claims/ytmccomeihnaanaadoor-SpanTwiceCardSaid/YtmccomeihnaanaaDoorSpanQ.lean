/- span: never. -/
import Derived.Test.YtmccomeihnaanaaDoorSpanG
import Derived.Test.YtmccomeihnaanaaDoorSpanN
namespace Go.Proofs.YtmccomeihnaanaaDoor
open Go.RowKit Go.Maps

/-- the world in the midst of never: its own box x -/
structure Sx (W : World) (B fb mb : Nat) (ca : List Value) (t : TTrace) (xb : Nat) (x : TIns) (w : World) : Prop where
  find : FindR w B fb mb ca t
  map : ∃ L', MapAt w mb t.ins L'
  fin : Fined mb W w
  xr : w.heap[xb]? = some (.cells ⟨insCells x⟩ 43 (0, 0))
section
variable {W w w' : World} {B fb mb : Nat} {ca : List Value} {t : TTrace} {xb : Nat} {x : TIns}
theorem Sx.below (s : Sx W B fb mb ca t xb x w) (k : Below w.heap.size w w') : Sx W B fb mb ca t xb x w' := by
  obtain ⟨L', h1⟩ := s.map
  exact ⟨s.find.below k, ⟨L', h1.below k⟩, s.fin.below_ k, (k.block _ (Array.getElem?_eq_some_iff.1 s.xr).1).trans s.xr⟩
theorem Sx.next (s : Sx W B fb mb ca t xb x w) (hx : xb ≠ mb) (k : Fined mb w w') (m : ∃ L', MapAt w' mb t.ins L') : Sx W B fb mb ca t xb x w' := ⟨s.find.fined k, m, s.fin.trans k, k.row s.xr hx⟩
theorem Sx.span (s : Sx W B fb mb ca t xb x w) {i : Nat} (ih : SpanC B fb mb ca t i) (hx : xb ≠ mb) (hi : i ≤ t.ins.length) (v : Nat) (hv : v < i) :
    Calls Tryd.prog 55 #[.pointer (some ⟨fb, 0, none⟩), .int .i64 (v : Int), .int .i64 (i : Int)] w (fun e w' => e = .returned (.agg #[.int .i64 (spanM t.ins v i).1, .int .i64 (spanM t.ins v i).2]) ∧ Sx W B fb mb ca t xb x w' ∧ Fined mb w w') := by
  obtain ⟨L', h1⟩ := s.map
  refine (ih v w L' hv hi s.find h1).mono ?_
  rintro e w' ⟨rfl, k, L2, m2, -⟩
  exact ⟨rfl, s.next hx k ⟨L2, m2⟩, k⟩
theorem reckV_W (S : Int → Int × Int) (x : TIns) : (reckV S x).1 = reckW S x := by
  unfold reckV reckW
  cases reckM S x <;> rfl
theorem Sx.reck (s : Sx W B fb mb ca t xb x w) {i : Nat} (ih : SpanC B fb mb ca t i) (hc : ConstOk t.ins) (hxm : xb ≠ mb) (hl : t.ins.length ≤ 300) (hx : t.ins[i]? = some x) (p q : Nat) (hp : x.a = (p : Int)) (hp2 : p < i) (hq : x.b = (q : Int)) (hq2 : q < i) :
    Calls Tryd.prog 92 #[.pointer (some ⟨fb, 0, none⟩), .int .i64 (i : Int)] w (fun e w' => ∃ rb : Bool, e = .returned (.tuple #[.agg #[.int .i64 (reckW (spanM t.ins · i) x).1, .int .i64 (reckW (spanM t.ins · i) x).2], .bool rb]) ∧ Sx W B fb mb ca t xb x w') := by
  obtain ⟨L', h1⟩ := s.map
  refine (reckoned_c ih hc s.find h1 hl hx p q hp hp2 hq hq2).mono ?_
  rintro e w' ⟨rfl, k, L2, m2, -⟩
  exact ⟨_, by rw [reckV_W], s.next hxm k ⟨L2, m2⟩⟩
theorem Sx.set2 (s : Sx W B fb mb ca t xb x w) {g : Nat} (h1 : W.heap.size ≤ g) (h2 : g ≠ xb) (h4 : mb < W.heap.size) (h5 : fb < W.heap.size) (c d : Value) : Sx W B fb mb ca t xb x ((w.setCell ⟨g, 0, none⟩ c).setCell ⟨g, 1, none⟩ d) := by
  obtain ⟨L', m1⟩ := s.map
  refine ⟨⟨row2_far s.find.row (by omega), s.find.tr.keep (Nat.le_refl _) (fun p hp => (set2_below (n := B) (by have := s.find.hB; omega) c d).cell hp), s.find.hB, s.find.hM, s.find.ne⟩, ⟨L', (m1.set_ (by omega) _ _).set_ (by omega) _ _⟩, s.fin.then (set2_below h1 c d), row2_far s.xr (Ne.symm h2)⟩
end
theorem never8 {K : Int → Int} {S : Int → Int × Int} {ib : Bool} {y : TIns} (o : y.op = 8) {ka al : Int} (h1 : K y.a = ka) (h2 : (S y.a).1 = al) : neverX K S ib y = (y.n == 11 || ka == 3 || (ka == 2 && decide (-2147483648 < al))) := by
  subst h1; subst h2
  unfold neverX
  rw [if_pos o]
theorem never7 {K : Int → Int} {S : Int → Int × Int} {ib : Bool} {y : TIns} (o : ¬ y.op = 8) {ka kb al ah bl bh : Int} (h1 : K y.a = ka) (h2 : K y.b = kb) (h3 : S y.a = (al, ah)) (h4 : S y.b = (bl, bh)) :
    neverX K S ib y = if ka = 3 ∧ kb = 3 then y.n != 7 else if ib = false then false else if y.n = 6 ∨ y.n = 7 then (decide (0 < bl) || decide (bh < 0)) && (decide (-1 < bl) || decide (bh < -1) || decide (-2147483648 < al)) else if y.n = 3 ∨ y.n = 4 ∨ y.n = 5 then decide (-2147483648 ≤ (reckW S y).1) && decide ((reckW S y).2 ≤ 2147483647) else true := by
  subst h1; subst h2
  unfold neverX
  rw [if_neg o]
  simp only [h3, h4]
theorem asks8 {y : TIns} (h : y.op = 8) : asksM y = [y.a] := by unfold asksM; rw [h]; rfl
theorem field_l (a b : Int) (W : World) : (Instr.field 113 (.agg #[.int .i64 a, .int .i64 b]) 0).run Tryd.prog W = .ok (.int .i64 a) W := by kernel_rfl
set_option maxHeartbeats 8000000 in
set_option maxRecDepth 100000 in
theorem never_c {B fb mb : Nat} {ca : List Value} {t : TTrace} {i : Nat} (hc : ConstOk t.ins) (hfi : FineM t.ins) (hl : t.ins.length ≤ 300) {W : World} {L : List (Nat × Nat)} (hf : FindR W B fb mb ca t) (hm : MapAt W mb t.ins L) {x : TIns} (hx : t.ins[i]? = some x) (hop : x.op = 7 ∨ x.op = 8) :
    Calls Tryd.prog 58 #[.pointer (some ⟨fb, 0, none⟩), .int .i64 (i : Int)] W (fun e W' => e = .returned (.bool (neverM t.ins i)) ∧ Fined mb W W' ∧ ∃ L', MapAt W' mb t.ins L') := by
  have hin : i < t.ins.length := (List.getElem?_eq_some_iff.1 hx).1
  have hii : (i : Int) < t.ins.length := by omega
  have hil : (t.ins.length : Int) ≤ 300 := by omega
  have hile : i ≤ t.ins.length := by omega
  have IH := Lib.hid (span_all (B := B) (fb := fb) (mb := mb) (ca := ca) hc hfi hl i)
  have hmW := hm.lt
  have hfW := hf.lt
  have HIt := Lib.hid hf.tr.size13
  obtain ⟨Ai, ni, p3, qi⟩ := hf.tr.at3
  obtain ⟨b, off, y, rfl, hb, hy, wx, hat⟩ := ins_op qi hin
  obtain rfl : y = x := by rw [hx] at hy; injection hy with hy; exact hy.symm
  have HX := Lib.hid hx
  have hbz : b < W.heap.size := by have := hf.hB; omega
  have HN0 : Hid (neverM t.ins i = neverX (kindM t.ins · i) (spanM t.ins · i) (intsM t.ins i) y) := by unfold neverM Hid; rw [(insAt_some hx).1]
  have l3 := hf.head 3 _ p3
  have g0 : W.cell? ⟨b, off + i * 8, none⟩ = some (.int .i64 y.op) := hat 0 _ rfl
  have g1 : W.cell? ⟨b, off + i * 8 + 1, none⟩ = some (.int .i64 y.a) := hat 1 _ rfl
  have g2 : W.cell? ⟨b, off + i * 8 + 2, none⟩ = some (.int .i64 y.b) := hat 2 _ rfl
  have g3 : W.cell? ⟨b, off + i * 8 + 3, none⟩ = some (.int .i64 y.c) := hat 3 _ rfl
  have g4 : W.cell? ⟨b, off + i * 8 + 4, none⟩ = some (.int .i64 y.n) := hat 4 _ rfl
  have g5 : W.cell? ⟨b, off + i * 8 + 5, none⟩ = some (.int .i64 y.exit) := hat 5 _ rfl
  have g6 : W.cell? ⟨b, off + i * 8 + 6, none⟩ = some (.int .i64 y.k.kind) := hat 6 _ rfl
  have g7 : W.cell? ⟨b, off + i * 8 + 7, none⟩ = some (.int .i64 y.k.n) := hat 7 _ rfl
  obtain ⟨w1, hw1⟩ : ∃ w1, w1 = W.alloc (.cells #[.int .i64 y.op, .int .i64 y.a, .int .i64 y.b, .int .i64 y.c, .int .i64 y.n, .int .i64 y.exit, .int .i64 y.k.kind, .int .i64 y.k.n] 43) := ⟨_, rfl⟩
  have K1 : Hid (Below W.heap.size W w1) := by rw [hw1]; exact below_one _ _
  have S1 : Hid (Sx W B fb mb ca t W.heap.size y w1) := ⟨hf.below K1.out, ⟨L, hm.below K1.out⟩, .of_below K1.out, by rw [hw1]; exact heap_last _ _⟩
  have hz1 : W.heap.size < w1.heap.size := (Array.getElem?_eq_some_iff.1 S1.out.xr).1
  have HFY := Lib.hid (hfi i y hx)
  have HW1 := Lib.hid hw1
  clear hw1 hf hm hat hy wx p3 qi hx
  go_enter Tryd.func58, Tryd.ntmps58
  go_upto_region 2 with fail
  rw [← HW1.out]
  clear g0 g1 g2 g3 g4 g5 g6 g7 l3
  have x0 := HeadAt.of_row S1.out.xr 0 (.int .i64 y.op) rfl
  have hfa := S1.out.find.lt
  have e1 : ∀ E : Up w1, E.to.cell? ⟨W.heap.size, 1, none⟩ = some (.int .i64 y.a) := fun E => E.cell (HeadAt.of_row S1.out.xr 1 _ rfl)
  have e2 : ∀ E : Up w1, E.to.cell? ⟨W.heap.size, 2, none⟩ = some (.int .i64 y.b) := fun E => E.cell (HeadAt.of_row S1.out.xr 2 _ rfl)
  have RX : Hid (∀ E : Up w1, E.to.rangeAt fb 0 ca) := fun E k u hk => E.cell (S1.out.find.head.range k u hk)
  obtain ⟨ka, hka⟩ : ∃ ka, kindM t.ins y.a i = ka := ⟨_, rfl⟩
  obtain ⟨kb, hkb⟩ : ∃ kb, kindM t.ins y.b i = kb := ⟨_, rfl⟩
  have KA : Hid (∀ E : Up w1, Calls Tryd.prog 18 #[.agg ⟨ca⟩, .int .i64 y.a, .int .i64 i] E.to (Gives (.int .i64 ka) E.to)) := fun E => by
    rw [← hka]; exact kind_c ca t (y.a.toNat + 1) y.a i E.to (by omega) (S1.out.find.below E.2).trace (by omega) (by omega)
  have KB : Hid (∀ E : Up w1, Calls Tryd.prog 18 #[.agg ⟨ca⟩, .int .i64 y.b, .int .i64 i] E.to (Gives (.int .i64 kb) E.to)) := fun E => by
    rw [← hkb]; exact kind_c ca t (y.b.toNat + 1) y.b i E.to (by omega) (S1.out.find.below E.2).trace (by omega) (by omega)
  have HKA := Lib.hid hka
  have HKB := Lib.hid hkb
  clear hka hkb
  by_cases o8 : y.op = 8
  case pos =>
    have b8 : (y.op == 8) = true := beq_iff_eq.2 o8
    have hay := HFY.out y.a (by rw [asks8 o8]; simp)
    obtain ⟨p, hp⟩ := Int.eq_ofNat_of_zero_le hay.1
    have hp2 : p < i := by omega
    have HP := Lib.hid hp
    obtain ⟨al, ah, hps⟩ : ∃ al ah, spanM t.ins p i = (al, ah) := ⟨_, _, rfl⟩
    have HN : Hid (neverM t.ins i = (y.n == 11 || ka == 3 || (ka == 2 && decide (-2147483648 < al)))) := by
      show _ = _
      rw [HN0.out]
      exact never8 o8 HKA.out (by rw [hp, hps])
    have HPS := Lib.hid hps
    clear o8 hop hay hp hps HN0 KB
    go_upto_region 3 with fail
    refine wp_region_up (by kernel_rfl) (by kernel_rfl) ?_
    repeat (first
      | (refine wpQuiet_load_up 34 _ rfl rfl fb 0 rfl ca _ RX.out Tryd.underlying34 rfl HIt.out ?_; go_simp)
      | go_big_quiet_step ((go_at_call 18; with_reducible exact Calls.up (KA.out _))))
    refine wpQuiet_nil ?_
    intro E
    obtain ⟨w2, k2⟩ := E
    have T2 := Lib.hid (S1.out.below k2)
    have hz2 : W.heap.size < w2.heap.size := Nat.lt_of_lt_of_le hz1 k2.size
    dsimp only
    clear k2 e1 e2 KA RX x0
    have x4 := HeadAt.of_row T2.out.xr 4 (.int .i64 y.n) rfl
    have x1 := HeadAt.of_row T2.out.xr 1 (.int .i64 (p : Int)) (by rw [← HP.out]; rfl)
    by_cases n11 : y.n = 11
    · have bn : (y.n == 11) = true := beq_iff_eq.2 n11
      go_wp2_with fail
      go_ret
      exact ⟨by rw [HN.out]; simp [bn], T2.out.fin, T2.out.map⟩
    have bn : (y.n == 11) = false := beq_eq_false_iff_ne.2 n11
    by_cases k3 : ka = 3
    · have bk : (ka == 3) = true := beq_iff_eq.2 k3
      go_wp2_with fail
      go_ret
      exact ⟨by rw [HN.out]; simp [bn, bk], T2.out.fin, T2.out.map⟩
    have bk : (ka == 3) = false := beq_eq_false_iff_ne.2 k3
    by_cases k2 : ka = 2
    · have bk2 : (ka == 2) = true := beq_iff_eq.2 k2
      have SC := T2.out.span IH.out (by omega) hile p hp2
      rw [HPS.out] at SC
      have HSC := Lib.hid SC
      clear SC k2 k3 n11
      go_wp2_with fail
      refine HSC.out.mono ?_
      rintro e w3 ⟨rfl, s3, -⟩
      have T3 := Lib.hid s3
      have hF := field_l al ah w3
      clear s3 HSC
      go_wp2_with fail
      go_ret
      exact ⟨by rw [HN.out]; simp [bn, bk, bk2], T3.out.fin, T3.out.map⟩
    · have bk2 : (ka == 2) = false := beq_eq_false_iff_ne.2 k2
      go_wp2_with fail
      go_ret
      exact ⟨by rw [HN.out]; simp [bn, bk, bk2], T2.out.fin, T2.out.map⟩
  case neg =>
    have b8 : (y.op == 8) = false := beq_eq_false_iff_ne.2 o8
    have o7 : y.op = 7 := by omega
    have hay := HFY.out y.a (by rw [asks7 o7]; simp)
    have hby := HFY.out y.b (by rw [asks7 o7]; simp)
    obtain ⟨p, hp⟩ := Int.eq_ofNat_of_zero_le hay.1
    obtain ⟨q, hq⟩ := Int.eq_ofNat_of_zero_le hby.1
    have hp2 : p < i := by omega
    have hq2 : q < i := by omega
    obtain ⟨al, ah, hps⟩ : ∃ al ah, spanM t.ins p i = (al, ah) := ⟨_, _, rfl⟩
    obtain ⟨bl, bh, hqs⟩ : ∃ bl bh, spanM t.ins q i = (bl, bh) := ⟨_, _, rfl⟩
    obtain ⟨a1, a2, a3⟩ : okS (al, ah) := by rw [← hps]; exact spanM_ok hc _ _
    obtain ⟨b1, b2, b3⟩ : okS (bl, bh) := by rw [← hqs]; exact spanM_ok hc _ _
    dsimp only at a1 a2 a3 b1 b2 b3
    obtain ⟨ib, hib⟩ : ∃ ib, intsM t.ins i = ib := ⟨_, rfl⟩
    have HN : Hid (neverM t.ins i = if ka = 3 ∧ kb = 3 then y.n != 7 else if ib = false then false else if y.n = 6 ∨ y.n = 7 then (decide (0 < bl) || decide (bh < 0)) && (decide (-1 < bl) || decide (bh < -1) || decide (-2147483648 < al)) else if y.n = 3 ∨ y.n = 4 ∨ y.n = 5 then decide (-2147483648 ≤ (reckW (spanM t.ins · i) y).1) && decide ((reckW (spanM t.ins · i) y).2 ≤ 2147483647) else true) := by
      show _ = _
      rw [HN0.out, hib]
      exact never7 o8 HKA.out HKB.out (by rw [hp, hps]) (by rw [hq, hqs])
    have HP := Lib.hid hp
    have HQ := Lib.hid hq
    have HPS := Lib.hid hps
    have HQS := Lib.hid hqs
    have IC := Lib.hid hib
    clear o8 o7 hop hay hby hp hq hps hqs hib HN0
    go_upto_region 5 with fail
    go_cut [69] (fun c wx => c = .bool (ka == 3 && kb == 3) ∧ Sx W B fb mb ca t W.heap.size y wx)
    case first =>
      refine wp_region_up (by kernel_rfl) (by kernel_rfl) ?_
      cases bA : (ka == 3)
      case false =>
        have HbA := Lib.hid bA
        iterate 3 (go_big_quiet_step (fail))
        refine wpQuiet_load_up 34 _ rfl rfl fb 0 rfl ca _ RX.out Tryd.underlying34 rfl HIt.out ?_
        go_simp
        repeat (go_big_quiet_step ((go_at_call 18; with_reducible exact Calls.up (KA.out _))))
        refine wpQuiet_nil ?_
        intro E
        obtain ⟨w2, k2⟩ := E
        dsimp only
        go_wp2_with fail
        go_meet
        case rel => exact ⟨by rw [HbA.out] <;> simp, S1.out.below k2⟩
      case true =>
        have HbA := Lib.hid bA
        repeat (first
          | (refine wpQuiet_load_up 34 _ rfl rfl fb 0 rfl ca _ RX.out Tryd.underlying34 rfl HIt.out ?_; go_simp)
          | go_big_quiet_step ((first | (go_at_call 18; with_reducible exact Calls.up (KA.out _)) | (go_at_call 18; with_reducible exact Calls.up (KB.out _)))))
        refine wpQuiet_nil ?_
        intro E
        obtain ⟨w2, k2⟩ := E
        dsimp only
        go_wp2_with fail
        go_meet
        case rel => exact ⟨by rw [HbA.out] <;> simp, S1.out.below k2⟩
    case rest =>
    obtain ⟨w2, hw2⟩ : ∃ w2, w2 = wc := ⟨_, rfl⟩
    subst hw2
    obtain ⟨rfl, s2⟩ := hcut
    have T2 := Lib.hid s2
    have hz2 : W.heap.size < w2.heap.size := (Array.getElem?_eq_some_iff.1 s2.xr).1
    clear s2 e1 e2 RX KA KB x0 HKA HKB
    have x4 := HeadAt.of_row T2.out.xr 4 (.int .i64 y.n) rfl
    cases b33 : (ka == 3 && kb == 3)
    case true =>
      have hk : ka = 3 ∧ kb = 3 := by simpa using b33
      have HN1 : Hid (neverM t.ins i = (y.n != 7)) := by (show _ = _); rw [HN.out, if_pos hk]
      go_wp2_with fail
      go_ret
      exact ⟨by rw [HN1.out] <;> rfl, T2.out.fin, T2.out.map⟩
    have hnk : ¬ (ka = 3 ∧ kb = 3) := fun h => by simp [h.1, h.2] at b33
    have hn1 := HN.out
    rw [if_neg hnk] at hn1
    have HN3 := Lib.hid hn1
    have IV := ints_c T2.out.find HX.out hl
    rw [IC.out] at IV
    have HIV := Lib.hid IV
    clear IV hn1 hnk HN b33 x4
    go_wp2_with fail
    refine HIV.out.mono ?_
    rintro e w3 ⟨rfl, k3⟩
    have T3 := Lib.hid (T2.out.below k3)
    have hz3 : W.heap.size < w3.heap.size := Nat.lt_of_lt_of_le hz2 k3.size
    clear k3 HIV
    cases ib
    case false =>
      have HN1 : Hid (neverM t.ins i = false) := by (show _ = _); rw [HN3.out] <;> rfl
      go_wp2_with fail
      go_ret
      exact ⟨by rw [HN1.out] <;> rfl, T3.out.fin, T3.out.map⟩
    case true =>
    have hn1 := HN3.out
    rw [if_neg (show ¬ (true = false) by simp)] at hn1
    have HN4 := Lib.hid hn1
    clear hn1 HN3
    have x4 := HeadAt.of_row T3.out.xr 4 (.int .i64 y.n) rfl
    go_upto_if 79 with fail
    go_cut [79] (fun c wx => c = .bool (y.n == 6 || y.n == 7) ∧ wx = w3)
    case first =>
      by_cases n6 : y.n = 6
      · have q6 : (y.n == 6) = true := beq_iff_eq.2 n6
        go_wp2_with fail
        go_meet
        case rel => exact ⟨by simp [q6], rfl⟩
      · have q6 : (y.n == 6) = false := beq_eq_false_iff_ne.2 n6
        go_wp2_with fail
        go_meet
        case rel => exact ⟨by simp [q6], rfl⟩
    case rest =>
    obtain ⟨rfl, rfl⟩ := hcut
    cases b67 : (y.n == 6 || y.n == 7)
    case true =>
      have h67 : y.n = 6 ∨ y.n = 7 := by simpa using b67
      have HN1 : Hid (neverM t.ins i = ((decide (0 < bl) || decide (bh < 0)) && (decide (-1 < bl) || decide (bh < -1) || decide (-2147483648 < al)))) := by (show _ = _); rw [HN4.out, if_pos h67]
      clear h67 HN4 x4
      go_upto_region 12 with fail
      go_cut [7, 8] (fun s7 s8 wx => ∃ g7 g8 : Nat, s7 = .pointer (some ⟨g7, 0, none⟩) ∧ s8 = .pointer (some ⟨g8, 0, none⟩) ∧ Hid (Sx W B fb mb ca t W.heap.size y wx) ∧ Hid (wx.heap[g7]? = some (.cells ⟨[.int .i64 al, .int .i64 ah]⟩ 113 (0, 0))) ∧ Hid (wx.heap[g8]? = some (.cells ⟨[.int .i64 bl, .int .i64 bh]⟩ 113 (0, 0))))
      case first =>
        have e1 : ∀ E : BoxS W.heap.size (insCells y), E.wd.cell? ⟨W.heap.size, 1, none⟩ = some (.int .i64 (p : Int)) := fun E => by rw [← HP.out]; exact E.here 1 _ rfl
        have e2 : ∀ E : BoxS W.heap.size (insCells y), E.wd.cell? ⟨W.heap.size, 2, none⟩ = some (.int .i64 (q : Int)) := fun E => by rw [← HQ.out]; exact E.here 2 _ rfl
        haveI : Nonempty (BoxS W.heap.size (insCells y)) := ⟨⟨wc, HeadAt.of_row T3.out.xr⟩⟩
        refine wp_region_readers (fun w' => ∃ E : BoxS W.heap.size (insCells y), w' = E.wd) [0, 1, 2, 3, 5, 6, 7, 8] [4, 10, 11] 6 #[true, true, true, true, false, true, true, true, true, false, false, false, false, false] _ (by kernel_rfl) (by kernel_rfl) (by simp only [List.filterMap_cons, List.filterMap_nil, List.getElem?_toArray, List.getElem?_cons_zero, List.getElem?_cons_succ]; rfl) (fun _ _ d _ _ h => by cases d <;> exact h) ⟨⟨World.drew _, HeadAt.of_row T3.out.xr⟩, rfl⟩ ?_
        generalize hqq : (fun a' => wpAnyC _ _ _ _ _ _ _ _ a' _) = qq
        have HQQ := Lib.hid hqq
        clear hqq
        show wpQuiet _ _ _ _ [_, _, _, _, _, _, _, _] _
        repeat (go_big_quiet_step (fail))
        refine wpQuiet_nil ?_
        rw [← HQQ.out]
        clear HQQ qq e1 e2
        obtain ⟨v0, hv0⟩ : ∃ v0, v0 = wc.drew := ⟨_, rfl⟩
        have T : Hid (Sx W B fb mb ca t W.heap.size y v0) := by rw [hv0]; exact T3.out.below (Below.refl _ wc).drew
        rw [← hv0]
        clear hv0
        refine wpAnyC_three (i := 4) (k := 10) (j := 11) (by kernel_rfl) rfl rfl rfl (fun K hK => ?_) (fun K hK => ?_) (fun K hK => ?_)
        · have SC := T.out.span IH.out (by omega) hile p hp2
          rw [HPS.out] at SC
          have HSC := Lib.hid SC
          clear SC
          go_simp
          refine HSC.out.mono ?_
          rintro e v1 ⟨rfl, s', k'⟩
          have T' := Lib.hid s'
          refine hK _ _ (fun _ => ⟨⟨v1, HeadAt.of_row T'.out.xr⟩, rfl⟩) ?_
          clear hK K k' s' HSC
          clear T
          rename Hid (Sx W B fb mb ca t W.heap.size y v1) => T
          refine wpAnyC_three (i := 9) (k := 10) (j := 11) (by kernel_rfl) rfl rfl rfl (fun K hK => ?_) (fun K hK => ?_) (fun K hK => ?_)
          · have SC := T.out.span IH.out (by omega) hile q hq2
            rw [HQS.out] at SC
            have HSC := Lib.hid SC
            clear SC
            go_simp
            refine HSC.out.mono ?_
            rintro e v2 ⟨rfl, s', k'⟩
            have T' := Lib.hid s'
            refine hK _ _ (fun _ => ⟨⟨v2, HeadAt.of_row T'.out.xr⟩, rfl⟩) ?_
            clear hK K k' s' HSC
            clear T
            rename Hid (Sx W B fb mb ca t W.heap.size y v2) => T
            refine wpAnyC_two (i := 10) (k := 11) (by kernel_rfl) rfl rfl (fun K hK => ?_) (fun K hK => ?_)
            · go_simp
              obtain ⟨v3, hv'⟩ : ∃ v', v' = v2.alloc (.cells #[.int .i64 0, .int .i64 0] 113) := ⟨_, rfl⟩
              obtain ⟨g7, hg'⟩ : ∃ g', g' = v2.heap.size := ⟨_, rfl⟩
              have T' : Hid (Sx W B fb mb ca t W.heap.size y v3) := by rw [hv']; exact T.out.below (below_one _ _)
              have G7' : Hid (v3.heap[g7]? = some (.cells ⟨[.int .i64 0, .int .i64 0]⟩ 113 (0, 0))) := by rw [hv', hg']; exact heap_last _ _
              have h7 : W.heap.size < g7 := by rw [hg']; exact (Array.getElem?_eq_some_iff.1 T.out.xr).1
              rw [← hv', ← hg']
              refine hK _ _ (fun _ => ⟨⟨v3, HeadAt.of_row T'.out.xr⟩, rfl⟩) ?_
              clear hK K hv' hg'
              clear T
              rename Hid (Sx W B fb mb ca t W.heap.size y v3) => T
              have G7 := G7'
              clear G7'
              refine wpAnyC_one (i := 11) (by kernel_rfl) rfl (fun K hK => ?_)
              · go_simp
                obtain ⟨v4, hv'⟩ : ∃ v', v' = v3.alloc (.cells #[.int .i64 0, .int .i64 0] 113) := ⟨_, rfl⟩
                obtain ⟨g8, hg'⟩ : ∃ g', g' = v3.heap.size := ⟨_, rfl⟩
                have T' : Hid (Sx W B fb mb ca t W.heap.size y v4) := by rw [hv']; exact T.out.below (below_one _ _)
                have G8' : Hid (v4.heap[g8]? = some (.cells ⟨[.int .i64 0, .int .i64 0]⟩ 113 (0, 0))) := by rw [hv', hg']; exact heap_last _ _
                have h8 : W.heap.size < g8 := by rw [hg']; exact (Array.getElem?_eq_some_iff.1 T.out.xr).1
                have G7' : Hid (v4.heap[g7]? = some (.cells ⟨[.int .i64 0, .int .i64 0]⟩ 113 (0, 0))) := by rw [hv']; exact heap_old G7.out _
                have hne : g7 ≠ g8 := by have h1 := (Array.getElem?_eq_some_iff.1 G7.out).1; omega
                rw [← hv', ← hg']
                refine hK _ _ (fun _ => ⟨⟨v4, HeadAt.of_row T'.out.xr⟩, rfl⟩) ?_
                clear hK K hv' hg'
                clear T G7
                rename Hid (Sx W B fb mb ca t W.heap.size y v4) => T
                have G7 := G7'
                clear G7'
                have G8 := G8'
                clear G8'
                refine wpAnyC_of_ms [12, 13] _ _ _ (by kernel_rfl) ?_
                refine wpMs_list [12, 13] _ _ (by kernel_rfl) (by kernel_rfl) ?_
                simp only [List.filterMap_cons, List.filterMap_nil, List.getElem?_toArray, List.getElem?_cons_zero, List.getElem?_cons_succ]
                have c70 := HeadAt.of_row G7.out 0 (.int .i64 0) rfl
                have c71 := HeadAt.of_row G7.out 1 (.int .i64 0) rfl
                have c80 := HeadAt.of_row G8.out 0 (.int .i64 0) rfl
                have c81 := HeadAt.of_row G8.out 1 (.int .i64 0) rfl
                have z70 := frozen_of_row v4 g7 0 _ _ G7.out
                have z71 := frozen_of_row v4 g7 1 _ _ G7.out
                have z80 := frozen_of_row v4 g8 0 _ _ G8.out
                have z81 := frozen_of_row v4 g8 1 _ _ G8.out
                obtain ⟨wz, hwz⟩ : ∃ wz, wz = (((v4.setCell ⟨g7, 0, none⟩ (.int .i64 al)).setCell ⟨g7, 1, none⟩ (.int .i64 ah)).setCell ⟨g8, 0, none⟩ (.int .i64 bl)).setCell ⟨g8, 1, none⟩ (.int .i64 bh) := ⟨_, rfl⟩
                have N7 : Hid (wz.heap[g7]? = some (.cells ⟨[.int .i64 al, .int .i64 ah]⟩ 113 (0, 0))) := by rw [hwz]; exact row2_far (row2_set G7.out) hne
                have N8 : Hid (wz.heap[g8]? = some (.cells ⟨[.int .i64 bl, .int .i64 bh]⟩ 113 (0, 0))) := by rw [hwz]; exact row2_set (row2_far G8.out (Ne.symm hne))
                have TZ : Hid (Sx W B fb mb ca t W.heap.size y wz) := by rw [hwz]; exact (T.out.set2 (by omega) (by omega) hmW hfW _ _).set2 (by omega) (by omega) hmW hfW _ _
                have HWZ := Lib.hid hwz
                clear hwz T G7 G8
                go_wp2_with fail
                rw [← HWZ.out]
                go_meet
                case rel => exact ⟨g7, g8, rfl, rfl, TZ, N7, N8⟩
            · go_simp
              obtain ⟨v3, hv'⟩ : ∃ v', v' = v2.alloc (.cells #[.int .i64 0, .int .i64 0] 113) := ⟨_, rfl⟩
              obtain ⟨g8, hg'⟩ : ∃ g', g' = v2.heap.size := ⟨_, rfl⟩
              have T' : Hid (Sx W B fb mb ca t W.heap.size y v3) := by rw [hv']; exact T.out.below (below_one _ _)
              have G8' : Hid (v3.heap[g8]? = some (.cells ⟨[.int .i64 0, .int .i64 0]⟩ 113 (0, 0))) := by rw [hv', hg']; exact heap_last _ _
              have h8 : W.heap.size < g8 := by rw [hg']; exact (Array.getElem?_eq_some_iff.1 T.out.xr).1
              rw [← hv', ← hg']
              refine hK _ _ (fun _ => ⟨⟨v3, HeadAt.of_row T'.out.xr⟩, rfl⟩) ?_
              clear hK K hv' hg'
              clear T
              rename Hid (Sx W B fb mb ca t W.heap.size y v3) => T
              have G8 := G8'
              clear G8'
              refine wpAnyC_one (i := 10) (by kernel_rfl) rfl (fun K hK => ?_)
              · go_simp
                obtain ⟨v4, hv'⟩ : ∃ v', v' = v3.alloc (.cells #[.int .i64 0, .int .i64 0] 113) := ⟨_, rfl⟩
                obtain ⟨g7, hg'⟩ : ∃ g', g' = v3.heap.size := ⟨_, rfl⟩
                have T' : Hid (Sx W B fb mb ca t W.heap.size y v4) := by rw [hv']; exact T.out.below (below_one _ _)
                have G7' : Hid (v4.heap[g7]? = some (.cells ⟨[.int .i64 0, .int .i64 0]⟩ 113 (0, 0))) := by rw [hv', hg']; exact heap_last _ _
                have h7 : W.heap.size < g7 := by rw [hg']; exact (Array.getElem?_eq_some_iff.1 T.out.xr).1
                have G8' : Hid (v4.heap[g8]? = some (.cells ⟨[.int .i64 0, .int .i64 0]⟩ 113 (0, 0))) := by rw [hv']; exact heap_old G8.out _
                have hne : g7 ≠ g8 := by have h1 := (Array.getElem?_eq_some_iff.1 G8.out).1; omega
                rw [← hv', ← hg']
                refine hK _ _ (fun _ => ⟨⟨v4, HeadAt.of_row T'.out.xr⟩, rfl⟩) ?_
                clear hK K hv' hg'
                clear T G8
                rename Hid (Sx W B fb mb ca t W.heap.size y v4) => T
                have G7 := G7'
                clear G7'
                have G8 := G8'
                clear G8'
                refine wpAnyC_of_ms [12, 13] _ _ _ (by kernel_rfl) ?_
                refine wpMs_list [12, 13] _ _ (by kernel_rfl) (by kernel_rfl) ?_
                simp only [List.filterMap_cons, List.filterMap_nil, List.getElem?_toArray, List.getElem?_cons_zero, List.getElem?_cons_succ]
                have c70 := HeadAt.of_row G7.out 0 (.int .i64 0) rfl
                have c71 := HeadAt.of_row G7.out 1 (.int .i64 0) rfl
                have c80 := HeadAt.of_row G8.out 0 (.int .i64 0) rfl
                have c81 := HeadAt.of_row G8.out 1 (.int .i64 0) rfl
                have z70 := frozen_of_row v4 g7 0 _ _ G7.out
                have z71 := frozen_of_row v4 g7 1 _ _ G7.out
                have z80 := frozen_of_row v4 g8 0 _ _ G8.out
                have z81 := frozen_of_row v4 g8 1 _ _ G8.out
                obtain ⟨wz, hwz⟩ : ∃ wz, wz = (((v4.setCell ⟨g7, 0, none⟩ (.int .i64 al)).setCell ⟨g7, 1, none⟩ (.int .i64 ah)).setCell ⟨g8, 0, none⟩ (.int .i64 bl)).setCell ⟨g8, 1, none⟩ (.int .i64 bh) := ⟨_, rfl⟩
                have N7 : Hid (wz.heap[g7]? = some (.cells ⟨[.int .i64 al, .int .i64 ah]⟩ 113 (0, 0))) := by rw [hwz]; exact row2_far (row2_set G7.out) hne
                have N8 : Hid (wz.heap[g8]? = some (.cells ⟨[.int .i64 bl, .int .i64 bh]⟩ 113 (0, 0))) := by rw [hwz]; exact row2_set (row2_far G8.out (Ne.symm hne))
                have TZ : Hid (Sx W B fb mb ca t W.heap.size y wz) := by rw [hwz]; exact (T.out.set2 (by omega) (by omega) hmW hfW _ _).set2 (by omega) (by omega) hmW hfW _ _
                have HWZ := Lib.hid hwz
                clear hwz T G7 G8
                go_wp2_with fail
                rw [← HWZ.out]
                go_meet
                case rel => exact ⟨g7, g8, rfl, rfl, TZ, N7, N8⟩
          · go_simp
            obtain ⟨v2, hv'⟩ : ∃ v', v' = v1.alloc (.cells #[.int .i64 0, .int .i64 0] 113) := ⟨_, rfl⟩
            obtain ⟨g7, hg'⟩ : ∃ g', g' = v1.heap.size := ⟨_, rfl⟩
            have T' : Hid (Sx W B fb mb ca t W.heap.size y v2) := by rw [hv']; exact T.out.below (below_one _ _)
            have G7' : Hid (v2.heap[g7]? = some (.cells ⟨[.int .i64 0, .int .i64 0]⟩ 113 (0, 0))) := by rw [hv', hg']; exact heap_last _ _
            have h7 : W.heap.size < g7 := by rw [hg']; exact (Array.getElem?_eq_some_iff.1 T.out.xr).1
            rw [← hv', ← hg']
            refine hK _ _ (fun _ => ⟨⟨v2, HeadAt.of_row T'.out.xr⟩, rfl⟩) ?_
            clear hK K hv' hg'
            clear T
            rename Hid (Sx W B fb mb ca t W.heap.size y v2) => T
            have G7 := G7'
            clear G7'
            refine wpAnyC_two (i := 9) (k := 11) (by kernel_rfl) rfl rfl (fun K hK => ?_) (fun K hK => ?_)
            · have SC := T.out.span IH.out (by omega) hile q hq2
              rw [HQS.out] at SC
              have HSC := Lib.hid SC
              clear SC
              go_simp
              refine HSC.out.mono ?_
              rintro e v3 ⟨rfl, s', k'⟩
              have T' := Lib.hid s'
              have G7' := Lib.hid (k'.row G7.out (by omega))
              refine hK _ _ (fun _ => ⟨⟨v3, HeadAt.of_row T'.out.xr⟩, rfl⟩) ?_
              clear hK K k' s' HSC
              clear T G7
              rename Hid (Sx W B fb mb ca t W.heap.size y v3) => T
              have G7 := G7'
              clear G7'
              refine wpAnyC_one (i := 11) (by kernel_rfl) rfl (fun K hK => ?_)
              · go_simp
                obtain ⟨v4, hv'⟩ : ∃ v', v' = v3.alloc (.cells #[.int .i64 0, .int .i64 0] 113) := ⟨_, rfl⟩
                obtain ⟨g8, hg'⟩ : ∃ g', g' = v3.heap.size := ⟨_, rfl⟩
                have T' : Hid (Sx W B fb mb ca t W.heap.size y v4) := by rw [hv']; exact T.out.below (below_one _ _)
                have G8' : Hid (v4.heap[g8]? = some (.cells ⟨[.int .i64 0, .int .i64 0]⟩ 113 (0, 0))) := by rw [hv', hg']; exact heap_last _ _
                have h8 : W.heap.size < g8 := by rw [hg']; exact (Array.getElem?_eq_some_iff.1 T.out.xr).1
                have G7' : Hid (v4.heap[g7]? = some (.cells ⟨[.int .i64 0, .int .i64 0]⟩ 113 (0, 0))) := by rw [hv']; exact heap_old G7.out _
                have hne : g7 ≠ g8 := by have h1 := (Array.getElem?_eq_some_iff.1 G7.out).1; omega
                rw [← hv', ← hg']
                refine hK _ _ (fun _ => ⟨⟨v4, HeadAt.of_row T'.out.xr⟩, rfl⟩) ?_
                clear hK K hv' hg'
                clear T G7
                rename Hid (Sx W B fb mb ca t W.heap.size y v4) => T
                have G7 := G7'
                clear G7'
                have G8 := G8'
                clear G8'
                refine wpAnyC_of_ms [12, 13] _ _ _ (by kernel_rfl) ?_
                refine wpMs_list [12, 13] _ _ (by kernel_rfl) (by kernel_rfl) ?_
                simp only [List.filterMap_cons, List.filterMap_nil, List.getElem?_toArray, List.getElem?_cons_zero, List.getElem?_cons_succ]
                have c70 := HeadAt.of_row G7.out 0 (.int .i64 0) rfl
                have c71 := HeadAt.of_row G7.out 1 (.int .i64 0) rfl
                have c80 := HeadAt.of_row G8.out 0 (.int .i64 0) rfl
                have c81 := HeadAt.of_row G8.out 1 (.int .i64 0) rfl
                have z70 := frozen_of_row v4 g7 0 _ _ G7.out
                have z71 := frozen_of_row v4 g7 1 _ _ G7.out
                have z80 := frozen_of_row v4 g8 0 _ _ G8.out
                have z81 := frozen_of_row v4 g8 1 _ _ G8.out
                obtain ⟨wz, hwz⟩ : ∃ wz, wz = (((v4.setCell ⟨g7, 0, none⟩ (.int .i64 al)).setCell ⟨g7, 1, none⟩ (.int .i64 ah)).setCell ⟨g8, 0, none⟩ (.int .i64 bl)).setCell ⟨g8, 1, none⟩ (.int .i64 bh) := ⟨_, rfl⟩
                have N7 : Hid (wz.heap[g7]? = some (.cells ⟨[.int .i64 al, .int .i64 ah]⟩ 113 (0, 0))) := by rw [hwz]; exact row2_far (row2_set G7.out) hne
                have N8 : Hid (wz.heap[g8]? = some (.cells ⟨[.int .i64 bl, .int .i64 bh]⟩ 113 (0, 0))) := by rw [hwz]; exact row2_set (row2_far G8.out (Ne.symm hne))
                have TZ : Hid (Sx W B fb mb ca t W.heap.size y wz) := by rw [hwz]; exact (T.out.set2 (by omega) (by omega) hmW hfW _ _).set2 (by omega) (by omega) hmW hfW _ _
                have HWZ := Lib.hid hwz
                clear hwz T G7 G8
                go_wp2_with fail
                rw [← HWZ.out]
                go_meet
                case rel => exact ⟨g7, g8, rfl, rfl, TZ, N7, N8⟩
            · go_simp
              obtain ⟨v3, hv'⟩ : ∃ v', v' = v2.alloc (.cells #[.int .i64 0, .int .i64 0] 113) := ⟨_, rfl⟩
              obtain ⟨g8, hg'⟩ : ∃ g', g' = v2.heap.size := ⟨_, rfl⟩
              have T' : Hid (Sx W B fb mb ca t W.heap.size y v3) := by rw [hv']; exact T.out.below (below_one _ _)
              have G8' : Hid (v3.heap[g8]? = some (.cells ⟨[.int .i64 0, .int .i64 0]⟩ 113 (0, 0))) := by rw [hv', hg']; exact heap_last _ _
              have h8 : W.heap.size < g8 := by rw [hg']; exact (Array.getElem?_eq_some_iff.1 T.out.xr).1
              have G7' : Hid (v3.heap[g7]? = some (.cells ⟨[.int .i64 0, .int .i64 0]⟩ 113 (0, 0))) := by rw [hv']; exact heap_old G7.out _
              have hne : g7 ≠ g8 := by have h1 := (Array.getElem?_eq_some_iff.1 G7.out).1; omega
              rw [← hv', ← hg']
              refine hK _ _ (fun _ => ⟨⟨v3, HeadAt.of_row T'.out.xr⟩, rfl⟩) ?_
              clear hK K hv' hg'
              clear T G7
              rename Hid (Sx W B fb mb ca t W.heap.size y v3) => T
              have G7 := G7'
              clear G7'
              have G8 := G8'
              clear G8'
              refine wpAnyC_one (i := 9) (by kernel_rfl) rfl (fun K hK => ?_)
              · have SC := T.out.span IH.out (by omega) hile q hq2
                rw [HQS.out] at SC
                have HSC := Lib.hid SC
                clear SC
                go_simp
                refine HSC.out.mono ?_
                rintro e v4 ⟨rfl, s', k'⟩
                have T' := Lib.hid s'
                have G7' := Lib.hid (k'.row G7.out (by omega))
                have G8' := Lib.hid (k'.row G8.out (by omega))
                refine hK _ _ (fun _ => ⟨⟨v4, HeadAt.of_row T'.out.xr⟩, rfl⟩) ?_
                clear hK K k' s' HSC
                clear T G7 G8
                rename Hid (Sx W B fb mb ca t W.heap.size y v4) => T
                have G7 := G7'
                clear G7'
                have G8 := G8'
                clear G8'
                refine wpAnyC_of_ms [12, 13] _ _ _ (by kernel_rfl) ?_
                refine wpMs_list [12, 13] _ _ (by kernel_rfl) (by kernel_rfl) ?_
                simp only [List.filterMap_cons, List.filterMap_nil, List.getElem?_toArray, List.getElem?_cons_zero, List.getElem?_cons_succ]
                have c70 := HeadAt.of_row G7.out 0 (.int .i64 0) rfl
                have c71 := HeadAt.of_row G7.out 1 (.int .i64 0) rfl
                have c80 := HeadAt.of_row G8.out 0 (.int .i64 0) rfl
                have c81 := HeadAt.of_row G8.out 1 (.int .i64 0) rfl
                have z70 := frozen_of_row v4 g7 0 _ _ G7.out
                have z71 := frozen_of_row v4 g7 1 _ _ G7.out
                have z80 := frozen_of_row v4 g8 0 _ _ G8.out
                have z81 := frozen_of_row v4 g8 1 _ _ G8.out
                obtain ⟨wz, hwz⟩ : ∃ wz, wz = (((v4.setCell ⟨g7, 0, none⟩ (.int .i64 al)).setCell ⟨g7, 1, none⟩ (.int .i64 ah)).setCell ⟨g8, 0, none⟩ (.int .i64 bl)).setCell ⟨g8, 1, none⟩ (.int .i64 bh) := ⟨_, rfl⟩
                have N7 : Hid (wz.heap[g7]? = some (.cells ⟨[.int .i64 al, .int .i64 ah]⟩ 113 (0, 0))) := by rw [hwz]; exact row2_far (row2_set G7.out) hne
                have N8 : Hid (wz.heap[g8]? = some (.cells ⟨[.int .i64 bl, .int .i64 bh]⟩ 113 (0, 0))) := by rw [hwz]; exact row2_set (row2_far G8.out (Ne.symm hne))
                have TZ : Hid (Sx W B fb mb ca t W.heap.size y wz) := by rw [hwz]; exact (T.out.set2 (by omega) (by omega) hmW hfW _ _).set2 (by omega) (by omega) hmW hfW _ _
                have HWZ := Lib.hid hwz
                clear hwz T G7 G8
                go_wp2_with fail
                rw [← HWZ.out]
                go_meet
                case rel => exact ⟨g7, g8, rfl, rfl, TZ, N7, N8⟩
          · go_simp
            obtain ⟨v2, hv'⟩ : ∃ v', v' = v1.alloc (.cells #[.int .i64 0, .int .i64 0] 113) := ⟨_, rfl⟩
            obtain ⟨g8, hg'⟩ : ∃ g', g' = v1.heap.size := ⟨_, rfl⟩
            have T' : Hid (Sx W B fb mb ca t W.heap.size y v2) := by rw [hv']; exact T.out.below (below_one _ _)
            have G8' : Hid (v2.heap[g8]? = some (.cells ⟨[.int .i64 0, .int .i64 0]⟩ 113 (0, 0))) := by rw [hv', hg']; exact heap_last _ _
            have h8 : W.heap.size < g8 := by rw [hg']; exact (Array.getElem?_eq_some_iff.1 T.out.xr).1
            rw [← hv', ← hg']
            refine hK _ _ (fun _ => ⟨⟨v2, HeadAt.of_row T'.out.xr⟩, rfl⟩) ?_
            clear hK K hv' hg'
            clear T
            rename Hid (Sx W B fb mb ca t W.heap.size y v2) => T
            have G8 := G8'
            clear G8'
            refine wpAnyC_two (i := 9) (k := 10) (by kernel_rfl) rfl rfl (fun K hK => ?_) (fun K hK => ?_)
            · have SC := T.out.span IH.out (by omega) hile q hq2
              rw [HQS.out] at SC
              have HSC := Lib.hid SC
              clear SC
              go_simp
              refine HSC.out.mono ?_
              rintro e v3 ⟨rfl, s', k'⟩
              have T' := Lib.hid s'
              have G8' := Lib.hid (k'.row G8.out (by omega))
              refine hK _ _ (fun _ => ⟨⟨v3, HeadAt.of_row T'.out.xr⟩, rfl⟩) ?_
              clear hK K k' s' HSC
              clear T G8
              rename Hid (Sx W B fb mb ca t W.heap.size y v3) => T
              have G8 := G8'
              clear G8'
              refine wpAnyC_one (i := 10) (by kernel_rfl) rfl (fun K hK => ?_)
              · go_simp
                obtain ⟨v4, hv'⟩ : ∃ v', v' = v3.alloc (.cells #[.int .i64 0, .int .i64 0] 113) := ⟨_, rfl⟩
                obtain ⟨g7, hg'⟩ : ∃ g', g' = v3.heap.size := ⟨_, rfl⟩
                have T' : Hid (Sx W B fb mb ca t W.heap.size y v4) := by rw [hv']; exact T.out.below (below_one _ _)
                have G7' : Hid (v4.heap[g7]? = some (.cells ⟨[.int .i64 0, .int .i64 0]⟩ 113 (0, 0))) := by rw [hv', hg']; exact heap_last _ _
                have h7 : W.heap.size < g7 := by rw [hg']; exact (Array.getElem?_eq_some_iff.1 T.out.xr).1
                have G8' : Hid (v4.heap[g8]? = some (.cells ⟨[.int .i64 0, .int .i64 0]⟩ 113 (0, 0))) := by rw [hv']; exact heap_old G8.out _
                have hne : g7 ≠ g8 := by have h1 := (Array.getElem?_eq_some_iff.1 G8.out).1; omega
                rw [← hv', ← hg']
                refine hK _ _ (fun _ => ⟨⟨v4, HeadAt.of_row T'.out.xr⟩, rfl⟩) ?_
                clear hK K hv' hg'
                clear T G8
                rename Hid (Sx W B fb mb ca t W.heap.size y v4) => T
                have G7 := G7'
                clear G7'
                have G8 := G8'
                clear G8'
                refine wpAnyC_of_ms [12, 13] _ _ _ (by kernel_rfl) ?_
                refine wpMs_list [12, 13] _ _ (by kernel_rfl) (by kernel_rfl) ?_
                simp only [List.filterMap_cons, List.filterMap_nil, List.getElem?_toArray, List.getElem?_cons_zero, List.getElem?_cons_succ]
                have c70 := HeadAt.of_row G7.out 0 (.int .i64 0) rfl
                have c71 := HeadAt.of_row G7.out 1 (.int .i64 0) rfl
                have c80 := HeadAt.of_row G8.out 0 (.int .i64 0) rfl
                have c81 := HeadAt.of_row G8.out 1 (.int .i64 0) rfl
                have z70 := frozen_of_row v4 g7 0 _ _ G7.out
                have z71 := frozen_of_row v4 g7 1 _ _ G7.out
                have z80 := frozen_of_row v4 g8 0 _ _ G8.out
                have z81 := frozen_of_row v4 g8 1 _ _ G8.out
                obtain ⟨wz, hwz⟩ : ∃ wz, wz = (((v4.setCell ⟨g7, 0, none⟩ (.int .i64 al)).setCell ⟨g7, 1, none⟩ (.int .i64 ah)).setCell ⟨g8, 0, none⟩ (.int .i64 bl)).setCell ⟨g8, 1, none⟩ (.int .i64 bh) := ⟨_, rfl⟩
                have N7 : Hid (wz.heap[g7]? = some (.cells ⟨[.int .i64 al, .int .i64 ah]⟩ 113 (0, 0))) := by rw [hwz]; exact row2_far (row2_set G7.out) hne
                have N8 : Hid (wz.heap[g8]? = some (.cells ⟨[.int .i64 bl, .int .i64 bh]⟩ 113 (0, 0))) := by rw [hwz]; exact row2_set (row2_far G8.out (Ne.symm hne))
                have TZ : Hid (Sx W B fb mb ca t W.heap.size y wz) := by rw [hwz]; exact (T.out.set2 (by omega) (by omega) hmW hfW _ _).set2 (by omega) (by omega) hmW hfW _ _
                have HWZ := Lib.hid hwz
                clear hwz T G7 G8
                go_wp2_with fail
                rw [← HWZ.out]
                go_meet
                case rel => exact ⟨g7, g8, rfl, rfl, TZ, N7, N8⟩
            · go_simp
              obtain ⟨v3, hv'⟩ : ∃ v', v' = v2.alloc (.cells #[.int .i64 0, .int .i64 0] 113) := ⟨_, rfl⟩
              obtain ⟨g7, hg'⟩ : ∃ g', g' = v2.heap.size := ⟨_, rfl⟩
              have T' : Hid (Sx W B fb mb ca t W.heap.size y v3) := by rw [hv']; exact T.out.below (below_one _ _)
              have G7' : Hid (v3.heap[g7]? = some (.cells ⟨[.int .i64 0, .int .i64 0]⟩ 113 (0, 0))) := by rw [hv', hg']; exact heap_last _ _
              have h7 : W.heap.size < g7 := by rw [hg']; exact (Array.getElem?_eq_some_iff.1 T.out.xr).1
              have G8' : Hid (v3.heap[g8]? = some (.cells ⟨[.int .i64 0, .int .i64 0]⟩ 113 (0, 0))) := by rw [hv']; exact heap_old G8.out _
              have hne : g7 ≠ g8 := by have h1 := (Array.getElem?_eq_some_iff.1 G8.out).1; omega
              rw [← hv', ← hg']
              refine hK _ _ (fun _ => ⟨⟨v3, HeadAt.of_row T'.out.xr⟩, rfl⟩) ?_
              clear hK K hv' hg'
              clear T G8
              rename Hid (Sx W B fb mb ca t W.heap.size y v3) => T
              have G7 := G7'
              clear G7'
              have G8 := G8'
              clear G8'
              refine wpAnyC_one (i := 9) (by kernel_rfl) rfl (fun K hK => ?_)
              · have SC := T.out.span IH.out (by omega) hile q hq2
                rw [HQS.out] at SC
                have HSC := Lib.hid SC
                clear SC
                go_simp
                refine HSC.out.mono ?_
                rintro e v4 ⟨rfl, s', k'⟩
                have T' := Lib.hid s'
                have G7' := Lib.hid (k'.row G7.out (by omega))
                have G8' := Lib.hid (k'.row G8.out (by omega))
                refine hK _ _ (fun _ => ⟨⟨v4, HeadAt.of_row T'.out.xr⟩, rfl⟩) ?_
                clear hK K k' s' HSC
                clear T G7 G8
                rename Hid (Sx W B fb mb ca t W.heap.size y v4) => T
                have G7 := G7'
                clear G7'
                have G8 := G8'
                clear G8'
                refine wpAnyC_of_ms [12, 13] _ _ _ (by kernel_rfl) ?_
                refine wpMs_list [12, 13] _ _ (by kernel_rfl) (by kernel_rfl) ?_
                simp only [List.filterMap_cons, List.filterMap_nil, List.getElem?_toArray, List.getElem?_cons_zero, List.getElem?_cons_succ]
                have c70 := HeadAt.of_row G7.out 0 (.int .i64 0) rfl
                have c71 := HeadAt.of_row G7.out 1 (.int .i64 0) rfl
                have c80 := HeadAt.of_row G8.out 0 (.int .i64 0) rfl
                have c81 := HeadAt.of_row G8.out 1 (.int .i64 0) rfl
                have z70 := frozen_of_row v4 g7 0 _ _ G7.out
                have z71 := frozen_of_row v4 g7 1 _ _ G7.out
                have z80 := frozen_of_row v4 g8 0 _ _ G8.out
                have z81 := frozen_of_row v4 g8 1 _ _ G8.out
                obtain ⟨wz, hwz⟩ : ∃ wz, wz = (((v4.setCell ⟨g7, 0, none⟩ (.int .i64 al)).setCell ⟨g7, 1, none⟩ (.int .i64 ah)).setCell ⟨g8, 0, none⟩ (.int .i64 bl)).setCell ⟨g8, 1, none⟩ (.int .i64 bh) := ⟨_, rfl⟩
                have N7 : Hid (wz.heap[g7]? = some (.cells ⟨[.int .i64 al, .int .i64 ah]⟩ 113 (0, 0))) := by rw [hwz]; exact row2_far (row2_set G7.out) hne
                have N8 : Hid (wz.heap[g8]? = some (.cells ⟨[.int .i64 bl, .int .i64 bh]⟩ 113 (0, 0))) := by rw [hwz]; exact row2_set (row2_far G8.out (Ne.symm hne))
                have TZ : Hid (Sx W B fb mb ca t W.heap.size y wz) := by rw [hwz]; exact (T.out.set2 (by omega) (by omega) hmW hfW _ _).set2 (by omega) (by omega) hmW hfW _ _
                have HWZ := Lib.hid hwz
                clear hwz T G7 G8
                go_wp2_with fail
                rw [← HWZ.out]
                go_meet
                case rel => exact ⟨g7, g8, rfl, rfl, TZ, N7, N8⟩
        · go_simp
          obtain ⟨v1, hv'⟩ : ∃ v', v' = v0.alloc (.cells #[.int .i64 0, .int .i64 0] 113) := ⟨_, rfl⟩
          obtain ⟨g7, hg'⟩ : ∃ g', g' = v0.heap.size := ⟨_, rfl⟩
          have T' : Hid (Sx W B fb mb ca t W.heap.size y v1) := by rw [hv']; exact T.out.below (below_one _ _)
          have G7' : Hid (v1.heap[g7]? = some (.cells ⟨[.int .i64 0, .int .i64 0]⟩ 113 (0, 0))) := by rw [hv', hg']; exact heap_last _ _
          have h7 : W.heap.size < g7 := by rw [hg']; exact (Array.getElem?_eq_some_iff.1 T.out.xr).1
          rw [← hv', ← hg']
          refine hK _ _ (fun _ => ⟨⟨v1, HeadAt.of_row T'.out.xr⟩, rfl⟩) ?_
          clear hK K hv' hg'
          clear T
          rename Hid (Sx W B fb mb ca t W.heap.size y v1) => T
          have G7 := G7'
          clear G7'
          refine wpAnyC_two (i := 4) (k := 11) (by kernel_rfl) rfl rfl (fun K hK => ?_) (fun K hK => ?_)
          · have SC := T.out.span IH.out (by omega) hile p hp2
            rw [HPS.out] at SC
            have HSC := Lib.hid SC
            clear SC
            go_simp
            refine HSC.out.mono ?_
            rintro e v2 ⟨rfl, s', k'⟩
            have T' := Lib.hid s'
            have G7' := Lib.hid (k'.row G7.out (by omega))
            refine hK _ _ (fun _ => ⟨⟨v2, HeadAt.of_row T'.out.xr⟩, rfl⟩) ?_
            clear hK K k' s' HSC
            clear T G7
            rename Hid (Sx W B fb mb ca t W.heap.size y v2) => T
            have G7 := G7'
            clear G7'
            refine wpAnyC_two (i := 9) (k := 11) (by kernel_rfl) rfl rfl (fun K hK => ?_) (fun K hK => ?_)
            · have SC := T.out.span IH.out (by omega) hile q hq2
              rw [HQS.out] at SC
              have HSC := Lib.hid SC
              clear SC
              go_simp
              refine HSC.out.mono ?_
              rintro e v3 ⟨rfl, s', k'⟩
              have T' := Lib.hid s'
              have G7' := Lib.hid (k'.row G7.out (by omega))
              refine hK _ _ (fun _ => ⟨⟨v3, HeadAt.of_row T'.out.xr⟩, rfl⟩) ?_
              clear hK K k' s' HSC
              clear T G7
              rename Hid (Sx W B fb mb ca t W.heap.size y v3) => T
              have G7 := G7'
              clear G7'
              refine wpAnyC_one (i := 11) (by kernel_rfl) rfl (fun K hK => ?_)
              · go_simp
                obtain ⟨v4, hv'⟩ : ∃ v', v' = v3.alloc (.cells #[.int .i64 0, .int .i64 0] 113) := ⟨_, rfl⟩
                obtain ⟨g8, hg'⟩ : ∃ g', g' = v3.heap.size := ⟨_, rfl⟩
                have T' : Hid (Sx W B fb mb ca t W.heap.size y v4) := by rw [hv']; exact T.out.below (below_one _ _)
                have G8' : Hid (v4.heap[g8]? = some (.cells ⟨[.int .i64 0, .int .i64 0]⟩ 113 (0, 0))) := by rw [hv', hg']; exact heap_last _ _
                have h8 : W.heap.size < g8 := by rw [hg']; exact (Array.getElem?_eq_some_iff.1 T.out.xr).1
                have G7' : Hid (v4.heap[g7]? = some (.cells ⟨[.int .i64 0, .int .i64 0]⟩ 113 (0, 0))) := by rw [hv']; exact heap_old G7.out _
                have hne : g7 ≠ g8 := by have h1 := (Array.getElem?_eq_some_iff.1 G7.out).1; omega
                rw [← hv', ← hg']
                refine hK _ _ (fun _ => ⟨⟨v4, HeadAt.of_row T'.out.xr⟩, rfl⟩) ?_
                clear hK K hv' hg'
                clear T G7
                rename Hid (Sx W B fb mb ca t W.heap.size y v4) => T
                have G7 := G7'
                clear G7'
                have G8 := G8'
                clear G8'
                refine wpAnyC_of_ms [12, 13] _ _ _ (by kernel_rfl) ?_
                refine wpMs_list [12, 13] _ _ (by kernel_rfl) (by kernel_rfl) ?_
                simp only [List.filterMap_cons, List.filterMap_nil, List.getElem?_toArray, List.getElem?_cons_zero, List.getElem?_cons_succ]
                have c70 := HeadAt.of_row G7.out 0 (.int .i64 0) rfl
                have c71 := HeadAt.of_row G7.out 1 (.int .i64 0) rfl
                have c80 := HeadAt.of_row G8.out 0 (.int .i64 0) rfl
                have c81 := HeadAt.of_row G8.out 1 (.int .i64 0) rfl
                have z70 := frozen_of_row v4 g7 0 _ _ G7.out
                have z71 := frozen_of_row v4 g7 1 _ _ G7.out
                have z80 := frozen_of_row v4 g8 0 _ _ G8.out
                have z81 := frozen_of_row v4 g8 1 _ _ G8.out
                obtain ⟨wz, hwz⟩ : ∃ wz, wz = (((v4.setCell ⟨g7, 0, none⟩ (.int .i64 al)).setCell ⟨g7, 1, none⟩ (.int .i64 ah)).setCell ⟨g8, 0, none⟩ (.int .i64 bl)).setCell ⟨g8, 1, none⟩ (.int .i64 bh) := ⟨_, rfl⟩
                have N7 : Hid (wz.heap[g7]? = some (.cells ⟨[.int .i64 al, .int .i64 ah]⟩ 113 (0, 0))) := by rw [hwz]; exact row2_far (row2_set G7.out) hne
                have N8 : Hid (wz.heap[g8]? = some (.cells ⟨[.int .i64 bl, .int .i64 bh]⟩ 113 (0, 0))) := by rw [hwz]; exact row2_set (row2_far G8.out (Ne.symm hne))
                have TZ : Hid (Sx W B fb mb ca t W.heap.size y wz) := by rw [hwz]; exact (T.out.set2 (by omega) (by omega) hmW hfW _ _).set2 (by omega) (by omega) hmW hfW _ _
                have HWZ := Lib.hid hwz
                clear hwz T G7 G8
                go_wp2_with fail
                rw [← HWZ.out]
                go_meet
                case rel => exact ⟨g7, g8, rfl, rfl, TZ, N7, N8⟩
            · go_simp
              obtain ⟨v3, hv'⟩ : ∃ v', v' = v2.alloc (.cells #[.int .i64 0, .int .i64 0] 113) := ⟨_, rfl⟩
              obtain ⟨g8, hg'⟩ : ∃ g', g' = v2.heap.size := ⟨_, rfl⟩
              have T' : Hid (Sx W B fb mb ca t W.heap.size y v3) := by rw [hv']; exact T.out.below (below_one _ _)
              have G8' : Hid (v3.heap[g8]? = some (.cells ⟨[.int .i64 0, .int .i64 0]⟩ 113 (0, 0))) := by rw [hv', hg']; exact heap_last _ _
              have h8 : W.heap.size < g8 := by rw [hg']; exact (Array.getElem?_eq_some_iff.1 T.out.xr).1
              have G7' : Hid (v3.heap[g7]? = some (.cells ⟨[.int .i64 0, .int .i64 0]⟩ 113 (0, 0))) := by rw [hv']; exact heap_old G7.out _
              have hne : g7 ≠ g8 := by have h1 := (Array.getElem?_eq_some_iff.1 G7.out).1; omega
              rw [← hv', ← hg']
              refine hK _ _ (fun _ => ⟨⟨v3, HeadAt.of_row T'.out.xr⟩, rfl⟩) ?_
              clear hK K hv' hg'
              clear T G7
              rename Hid (Sx W B fb mb ca t W.heap.size y v3) => T
              have G7 := G7'
              clear G7'
              have G8 := G8'
              clear G8'
              refine wpAnyC_one (i := 9) (by kernel_rfl) rfl (fun K hK => ?_)
              · have SC := T.out.span IH.out (by omega) hile q hq2
                rw [HQS.out] at SC
                have HSC := Lib.hid SC
                clear SC
                go_simp
                refine HSC.out.mono ?_
                rintro e v4 ⟨rfl, s', k'⟩
                have T' := Lib.hid s'
                have G7' := Lib.hid (k'.row G7.out (by omega))
                have G8' := Lib.hid (k'.row G8.out (by omega))
                refine hK _ _ (fun _ => ⟨⟨v4, HeadAt.of_row T'.out.xr⟩, rfl⟩) ?_
                clear hK K k' s' HSC
                clear T G7 G8
                rename Hid (Sx W B fb mb ca t W.heap.size y v4) => T
                have G7 := G7'
                clear G7'
                have G8 := G8'
                clear G8'
                refine wpAnyC_of_ms [12, 13] _ _ _ (by kernel_rfl) ?_
                refine wpMs_list [12, 13] _ _ (by kernel_rfl) (by kernel_rfl) ?_
                simp only [List.filterMap_cons, List.filterMap_nil, List.getElem?_toArray, List.getElem?_cons_zero, List.getElem?_cons_succ]
                have c70 := HeadAt.of_row G7.out 0 (.int .i64 0) rfl
                have c71 := HeadAt.of_row G7.out 1 (.int .i64 0) rfl
                have c80 := HeadAt.of_row G8.out 0 (.int .i64 0) rfl
                have c81 := HeadAt.of_row G8.out 1 (.int .i64 0) rfl
                have z70 := frozen_of_row v4 g7 0 _ _ G7.out
                have z71 := frozen_of_row v4 g7 1 _ _ G7.out
                have z80 := frozen_of_row v4 g8 0 _ _ G8.out
                have z81 := frozen_of_row v4 g8 1 _ _ G8.out
                obtain ⟨wz, hwz⟩ : ∃ wz, wz = (((v4.setCell ⟨g7, 0, none⟩ (.int .i64 al)).setCell ⟨g7, 1, none⟩ (.int .i64 ah)).setCell ⟨g8, 0, none⟩ (.int .i64 bl)).setCell ⟨g8, 1, none⟩ (.int .i64 bh) := ⟨_, rfl⟩
                have N7 : Hid (wz.heap[g7]? = some (.cells ⟨[.int .i64 al, .int .i64 ah]⟩ 113 (0, 0))) := by rw [hwz]; exact row2_far (row2_set G7.out) hne
                have N8 : Hid (wz.heap[g8]? = some (.cells ⟨[.int .i64 bl, .int .i64 bh]⟩ 113 (0, 0))) := by rw [hwz]; exact row2_set (row2_far G8.out (Ne.symm hne))
                have TZ : Hid (Sx W B fb mb ca t W.heap.size y wz) := by rw [hwz]; exact (T.out.set2 (by omega) (by omega) hmW hfW _ _).set2 (by omega) (by omega) hmW hfW _ _
                have HWZ := Lib.hid hwz
                clear hwz T G7 G8
                go_wp2_with fail
                rw [← HWZ.out]
                go_meet
                case rel => exact ⟨g7, g8, rfl, rfl, TZ, N7, N8⟩
          · go_simp
            obtain ⟨v2, hv'⟩ : ∃ v', v' = v1.alloc (.cells #[.int .i64 0, .int .i64 0] 113) := ⟨_, rfl⟩
            obtain ⟨g8, hg'⟩ : ∃ g', g' = v1.heap.size := ⟨_, rfl⟩
            have T' : Hid (Sx W B fb mb ca t W.heap.size y v2) := by rw [hv']; exact T.out.below (below_one _ _)
            have G8' : Hid (v2.heap[g8]? = some (.cells ⟨[.int .i64 0, .int .i64 0]⟩ 113 (0, 0))) := by rw [hv', hg']; exact heap_last _ _
            have h8 : W.heap.size < g8 := by rw [hg']; exact (Array.getElem?_eq_some_iff.1 T.out.xr).1
            have G7' : Hid (v2.heap[g7]? = some (.cells ⟨[.int .i64 0, .int .i64 0]⟩ 113 (0, 0))) := by rw [hv']; exact heap_old G7.out _
            have hne : g7 ≠ g8 := by have h1 := (Array.getElem?_eq_some_iff.1 G7.out).1; omega
            rw [← hv', ← hg']
            refine hK _ _ (fun _ => ⟨⟨v2, HeadAt.of_row T'.out.xr⟩, rfl⟩) ?_
            clear hK K hv' hg'
            clear T G7
            rename Hid (Sx W B fb mb ca t W.heap.size y v2) => T
            have G7 := G7'
            clear G7'
            have G8 := G8'
            clear G8'
            refine wpAnyC_one (i := 4) (by kernel_rfl) rfl (fun K hK => ?_)
            · have SC := T.out.span IH.out (by omega) hile p hp2
              rw [HPS.out] at SC
              have HSC := Lib.hid SC
              clear SC
              go_simp
              refine HSC.out.mono ?_
              rintro e v3 ⟨rfl, s', k'⟩
              have T' := Lib.hid s'
              have G7' := Lib.hid (k'.row G7.out (by omega))
              have G8' := Lib.hid (k'.row G8.out (by omega))
              refine hK _ _ (fun _ => ⟨⟨v3, HeadAt.of_row T'.out.xr⟩, rfl⟩) ?_
              clear hK K k' s' HSC
              clear T G7 G8
              rename Hid (Sx W B fb mb ca t W.heap.size y v3) => T
              have G7 := G7'
              clear G7'
              have G8 := G8'
              clear G8'
              refine wpAnyC_one (i := 9) (by kernel_rfl) rfl (fun K hK => ?_)
              · have SC := T.out.span IH.out (by omega) hile q hq2
                rw [HQS.out] at SC
                have HSC := Lib.hid SC
                clear SC
                go_simp
                refine HSC.out.mono ?_
                rintro e v4 ⟨rfl, s', k'⟩
                have T' := Lib.hid s'
                have G7' := Lib.hid (k'.row G7.out (by omega))
                have G8' := Lib.hid (k'.row G8.out (by omega))
                refine hK _ _ (fun _ => ⟨⟨v4, HeadAt.of_row T'.out.xr⟩, rfl⟩) ?_
                clear hK K k' s' HSC
                clear T G7 G8
                rename Hid (Sx W B fb mb ca t W.heap.size y v4) => T
                have G7 := G7'
                clear G7'
                have G8 := G8'
                clear G8'
                refine wpAnyC_of_ms [12, 13] _ _ _ (by kernel_rfl) ?_
                refine wpMs_list [12, 13] _ _ (by kernel_rfl) (by kernel_rfl) ?_
                simp only [List.filterMap_cons, List.filterMap_nil, List.getElem?_toArray, List.getElem?_cons_zero, List.getElem?_cons_succ]
                have c70 := HeadAt.of_row G7.out 0 (.int .i64 0) rfl
                have c71 := HeadAt.of_row G7.out 1 (.int .i64 0) rfl
                have c80 := HeadAt.of_row G8.out 0 (.int .i64 0) rfl
                have c81 := HeadAt.of_row G8.out 1 (.int .i64 0) rfl
                have z70 := frozen_of_row v4 g7 0 _ _ G7.out
                have z71 := frozen_of_row v4 g7 1 _ _ G7.out
                have z80 := frozen_of_row v4 g8 0 _ _ G8.out
                have z81 := frozen_of_row v4 g8 1 _ _ G8.out
                obtain ⟨wz, hwz⟩ : ∃ wz, wz = (((v4.setCell ⟨g7, 0, none⟩ (.int .i64 al)).setCell ⟨g7, 1, none⟩ (.int .i64 ah)).setCell ⟨g8, 0, none⟩ (.int .i64 bl)).setCell ⟨g8, 1, none⟩ (.int .i64 bh) := ⟨_, rfl⟩
                have N7 : Hid (wz.heap[g7]? = some (.cells ⟨[.int .i64 al, .int .i64 ah]⟩ 113 (0, 0))) := by rw [hwz]; exact row2_far (row2_set G7.out) hne
                have N8 : Hid (wz.heap[g8]? = some (.cells ⟨[.int .i64 bl, .int .i64 bh]⟩ 113 (0, 0))) := by rw [hwz]; exact row2_set (row2_far G8.out (Ne.symm hne))
                have TZ : Hid (Sx W B fb mb ca t W.heap.size y wz) := by rw [hwz]; exact (T.out.set2 (by omega) (by omega) hmW hfW _ _).set2 (by omega) (by omega) hmW hfW _ _
                have HWZ := Lib.hid hwz
                clear hwz T G7 G8
                go_wp2_with fail
                rw [← HWZ.out]
                go_meet
                case rel => exact ⟨g7, g8, rfl, rfl, TZ, N7, N8⟩
        · go_simp
          obtain ⟨v1, hv'⟩ : ∃ v', v' = v0.alloc (.cells #[.int .i64 0, .int .i64 0] 113) := ⟨_, rfl⟩
          obtain ⟨g8, hg'⟩ : ∃ g', g' = v0.heap.size := ⟨_, rfl⟩
          have T' : Hid (Sx W B fb mb ca t W.heap.size y v1) := by rw [hv']; exact T.out.below (below_one _ _)
          have G8' : Hid (v1.heap[g8]? = some (.cells ⟨[.int .i64 0, .int .i64 0]⟩ 113 (0, 0))) := by rw [hv', hg']; exact heap_last _ _
          have h8 : W.heap.size < g8 := by rw [hg']; exact (Array.getElem?_eq_some_iff.1 T.out.xr).1
          rw [← hv', ← hg']
          refine hK _ _ (fun _ => ⟨⟨v1, HeadAt.of_row T'.out.xr⟩, rfl⟩) ?_
          clear hK K hv' hg'
          clear T
          rename Hid (Sx W B fb mb ca t W.heap.size y v1) => T
          have G8 := G8'
          clear G8'
          refine wpAnyC_two (i := 4) (k := 10) (by kernel_rfl) rfl rfl (fun K hK => ?_) (fun K hK => ?_)
          · have SC := T.out.span IH.out (by omega) hile p hp2
            rw [HPS.out] at SC
            have HSC := Lib.hid SC
            clear SC
            go_simp
            refine HSC.out.mono ?_
            rintro e v2 ⟨rfl, s', k'⟩
            have T' := Lib.hid s'
            have G8' := Lib.hid (k'.row G8.out (by omega))
            refine hK _ _ (fun _ => ⟨⟨v2, HeadAt.of_row T'.out.xr⟩, rfl⟩) ?_
            clear hK K k' s' HSC
            clear T G8
            rename Hid (Sx W B fb mb ca t W.heap.size y v2) => T
            have G8 := G8'
            clear G8'
            refine wpAnyC_two (i := 9) (k := 10) (by kernel_rfl) rfl rfl (fun K hK => ?_) (fun K hK => ?_)
            · have SC := T.out.span IH.out (by omega) hile q hq2
              rw [HQS.out] at SC
              have HSC := Lib.hid SC
              clear SC
              go_simp
              refine HSC.out.mono ?_
              rintro e v3 ⟨rfl, s', k'⟩
              have T' := Lib.hid s'
              have G8' := Lib.hid (k'.row G8.out (by omega))
              refine hK _ _ (fun _ => ⟨⟨v3, HeadAt.of_row T'.out.xr⟩, rfl⟩) ?_
              clear hK K k' s' HSC
              clear T G8
              rename Hid (Sx W B fb mb ca t W.heap.size y v3) => T
              have G8 := G8'
              clear G8'
              refine wpAnyC_one (i := 10) (by kernel_rfl) rfl (fun K hK => ?_)
              · go_simp
                obtain ⟨v4, hv'⟩ : ∃ v', v' = v3.alloc (.cells #[.int .i64 0, .int .i64 0] 113) := ⟨_, rfl⟩
                obtain ⟨g7, hg'⟩ : ∃ g', g' = v3.heap.size := ⟨_, rfl⟩
                have T' : Hid (Sx W B fb mb ca t W.heap.size y v4) := by rw [hv']; exact T.out.below (below_one _ _)
                have G7' : Hid (v4.heap[g7]? = some (.cells ⟨[.int .i64 0, .int .i64 0]⟩ 113 (0, 0))) := by rw [hv', hg']; exact heap_last _ _
                have h7 : W.heap.size < g7 := by rw [hg']; exact (Array.getElem?_eq_some_iff.1 T.out.xr).1
                have G8' : Hid (v4.heap[g8]? = some (.cells ⟨[.int .i64 0, .int .i64 0]⟩ 113 (0, 0))) := by rw [hv']; exact heap_old G8.out _
                have hne : g7 ≠ g8 := by have h1 := (Array.getElem?_eq_some_iff.1 G8.out).1; omega
                rw [← hv', ← hg']
                refine hK _ _ (fun _ => ⟨⟨v4, HeadAt.of_row T'.out.xr⟩, rfl⟩) ?_
                clear hK K hv' hg'
                clear T G8
                rename Hid (Sx W B fb mb ca t W.heap.size y v4) => T
                have G7 := G7'
                clear G7'
                have G8 := G8'
                clear G8'
                refine wpAnyC_of_ms [12, 13] _ _ _ (by kernel_rfl) ?_
                refine wpMs_list [12, 13] _ _ (by kernel_rfl) (by kernel_rfl) ?_
                simp only [List.filterMap_cons, List.filterMap_nil, List.getElem?_toArray, List.getElem?_cons_zero, List.getElem?_cons_succ]
                have c70 := HeadAt.of_row G7.out 0 (.int .i64 0) rfl
                have c71 := HeadAt.of_row G7.out 1 (.int .i64 0) rfl
                have c80 := HeadAt.of_row G8.out 0 (.int .i64 0) rfl
                have c81 := HeadAt.of_row G8.out 1 (.int .i64 0) rfl
                have z70 := frozen_of_row v4 g7 0 _ _ G7.out
                have z71 := frozen_of_row v4 g7 1 _ _ G7.out
                have z80 := frozen_of_row v4 g8 0 _ _ G8.out
                have z81 := frozen_of_row v4 g8 1 _ _ G8.out
                obtain ⟨wz, hwz⟩ : ∃ wz, wz = (((v4.setCell ⟨g7, 0, none⟩ (.int .i64 al)).setCell ⟨g7, 1, none⟩ (.int .i64 ah)).setCell ⟨g8, 0, none⟩ (.int .i64 bl)).setCell ⟨g8, 1, none⟩ (.int .i64 bh) := ⟨_, rfl⟩
                have N7 : Hid (wz.heap[g7]? = some (.cells ⟨[.int .i64 al, .int .i64 ah]⟩ 113 (0, 0))) := by rw [hwz]; exact row2_far (row2_set G7.out) hne
                have N8 : Hid (wz.heap[g8]? = some (.cells ⟨[.int .i64 bl, .int .i64 bh]⟩ 113 (0, 0))) := by rw [hwz]; exact row2_set (row2_far G8.out (Ne.symm hne))
                have TZ : Hid (Sx W B fb mb ca t W.heap.size y wz) := by rw [hwz]; exact (T.out.set2 (by omega) (by omega) hmW hfW _ _).set2 (by omega) (by omega) hmW hfW _ _
                have HWZ := Lib.hid hwz
                clear hwz T G7 G8
                go_wp2_with fail
                rw [← HWZ.out]
                go_meet
                case rel => exact ⟨g7, g8, rfl, rfl, TZ, N7, N8⟩
            · go_simp
              obtain ⟨v3, hv'⟩ : ∃ v', v' = v2.alloc (.cells #[.int .i64 0, .int .i64 0] 113) := ⟨_, rfl⟩
              obtain ⟨g7, hg'⟩ : ∃ g', g' = v2.heap.size := ⟨_, rfl⟩
              have T' : Hid (Sx W B fb mb ca t W.heap.size y v3) := by rw [hv']; exact T.out.below (below_one _ _)
              have G7' : Hid (v3.heap[g7]? = some (.cells ⟨[.int .i64 0, .int .i64 0]⟩ 113 (0, 0))) := by rw [hv', hg']; exact heap_last _ _
              have h7 : W.heap.size < g7 := by rw [hg']; exact (Array.getElem?_eq_some_iff.1 T.out.xr).1
              have G8' : Hid (v3.heap[g8]? = some (.cells ⟨[.int .i64 0, .int .i64 0]⟩ 113 (0, 0))) := by rw [hv']; exact heap_old G8.out _
              have hne : g7 ≠ g8 := by have h1 := (Array.getElem?_eq_some_iff.1 G8.out).1; omega
              rw [← hv', ← hg']
              refine hK _ _ (fun _ => ⟨⟨v3, HeadAt.of_row T'.out.xr⟩, rfl⟩) ?_
              clear hK K hv' hg'
              clear T G8
              rename Hid (Sx W B fb mb ca t W.heap.size y v3) => T
              have G7 := G7'
              clear G7'
              have G8 := G8'
              clear G8'
              refine wpAnyC_one (i := 9) (by kernel_rfl) rfl (fun K hK => ?_)
              · have SC := T.out.span IH.out (by omega) hile q hq2
                rw [HQS.out] at SC
                have HSC := Lib.hid SC
                clear SC
                go_simp
                refine HSC.out.mono ?_
                rintro e v4 ⟨rfl, s', k'⟩
                have T' := Lib.hid s'
                have G7' := Lib.hid (k'.row G7.out (by omega))
                have G8' := Lib.hid (k'.row G8.out (by omega))
                refine hK _ _ (fun _ => ⟨⟨v4, HeadAt.of_row T'.out.xr⟩, rfl⟩) ?_
                clear hK K k' s' HSC
                clear T G7 G8
                rename Hid (Sx W B fb mb ca t W.heap.size y v4) => T
                have G7 := G7'
                clear G7'
                have G8 := G8'
                clear G8'
                refine wpAnyC_of_ms [12, 13] _ _ _ (by kernel_rfl) ?_
                refine wpMs_list [12, 13] _ _ (by kernel_rfl) (by kernel_rfl) ?_
                simp only [List.filterMap_cons, List.filterMap_nil, List.getElem?_toArray, List.getElem?_cons_zero, List.getElem?_cons_succ]
                have c70 := HeadAt.of_row G7.out 0 (.int .i64 0) rfl
                have c71 := HeadAt.of_row G7.out 1 (.int .i64 0) rfl
                have c80 := HeadAt.of_row G8.out 0 (.int .i64 0) rfl
                have c81 := HeadAt.of_row G8.out 1 (.int .i64 0) rfl
                have z70 := frozen_of_row v4 g7 0 _ _ G7.out
                have z71 := frozen_of_row v4 g7 1 _ _ G7.out
                have z80 := frozen_of_row v4 g8 0 _ _ G8.out
                have z81 := frozen_of_row v4 g8 1 _ _ G8.out
                obtain ⟨wz, hwz⟩ : ∃ wz, wz = (((v4.setCell ⟨g7, 0, none⟩ (.int .i64 al)).setCell ⟨g7, 1, none⟩ (.int .i64 ah)).setCell ⟨g8, 0, none⟩ (.int .i64 bl)).setCell ⟨g8, 1, none⟩ (.int .i64 bh) := ⟨_, rfl⟩
                have N7 : Hid (wz.heap[g7]? = some (.cells ⟨[.int .i64 al, .int .i64 ah]⟩ 113 (0, 0))) := by rw [hwz]; exact row2_far (row2_set G7.out) hne
                have N8 : Hid (wz.heap[g8]? = some (.cells ⟨[.int .i64 bl, .int .i64 bh]⟩ 113 (0, 0))) := by rw [hwz]; exact row2_set (row2_far G8.out (Ne.symm hne))
                have TZ : Hid (Sx W B fb mb ca t W.heap.size y wz) := by rw [hwz]; exact (T.out.set2 (by omega) (by omega) hmW hfW _ _).set2 (by omega) (by omega) hmW hfW _ _
                have HWZ := Lib.hid hwz
                clear hwz T G7 G8
                go_wp2_with fail
                rw [← HWZ.out]
                go_meet
                case rel => exact ⟨g7, g8, rfl, rfl, TZ, N7, N8⟩
          · go_simp
            obtain ⟨v2, hv'⟩ : ∃ v', v' = v1.alloc (.cells #[.int .i64 0, .int .i64 0] 113) := ⟨_, rfl⟩
            obtain ⟨g7, hg'⟩ : ∃ g', g' = v1.heap.size := ⟨_, rfl⟩
            have T' : Hid (Sx W B fb mb ca t W.heap.size y v2) := by rw [hv']; exact T.out.below (below_one _ _)
            have G7' : Hid (v2.heap[g7]? = some (.cells ⟨[.int .i64 0, .int .i64 0]⟩ 113 (0, 0))) := by rw [hv', hg']; exact heap_last _ _
            have h7 : W.heap.size < g7 := by rw [hg']; exact (Array.getElem?_eq_some_iff.1 T.out.xr).1
            have G8' : Hid (v2.heap[g8]? = some (.cells ⟨[.int .i64 0, .int .i64 0]⟩ 113 (0, 0))) := by rw [hv']; exact heap_old G8.out _
            have hne : g7 ≠ g8 := by have h1 := (Array.getElem?_eq_some_iff.1 G8.out).1; omega
            rw [← hv', ← hg']
            refine hK _ _ (fun _ => ⟨⟨v2, HeadAt.of_row T'.out.xr⟩, rfl⟩) ?_
            clear hK K hv' hg'
            clear T G8
            rename Hid (Sx W B fb mb ca t W.heap.size y v2) => T
            have G7 := G7'
            clear G7'
            have G8 := G8'
            clear G8'
            refine wpAnyC_one (i := 4) (by kernel_rfl) rfl (fun K hK => ?_)
            · have SC := T.out.span IH.out (by omega) hile p hp2
              rw [HPS.out] at SC
              have HSC := Lib.hid SC
              clear SC
              go_simp
              refine HSC.out.mono ?_
              rintro e v3 ⟨rfl, s', k'⟩
              have T' := Lib.hid s'
              have G7' := Lib.hid (k'.row G7.out (by omega))
              have G8' := Lib.hid (k'.row G8.out (by omega))
              refine hK _ _ (fun _ => ⟨⟨v3, HeadAt.of_row T'.out.xr⟩, rfl⟩) ?_
              clear hK K k' s' HSC
              clear T G7 G8
              rename Hid (Sx W B fb mb ca t W.heap.size y v3) => T
              have G7 := G7'
              clear G7'
              have G8 := G8'
              clear G8'
              refine wpAnyC_one (i := 9) (by kernel_rfl) rfl (fun K hK => ?_)
              · have SC := T.out.span IH.out (by omega) hile q hq2
                rw [HQS.out] at SC
                have HSC := Lib.hid SC
                clear SC
                go_simp
                refine HSC.out.mono ?_
                rintro e v4 ⟨rfl, s', k'⟩
                have T' := Lib.hid s'
                have G7' := Lib.hid (k'.row G7.out (by omega))
                have G8' := Lib.hid (k'.row G8.out (by omega))
                refine hK _ _ (fun _ => ⟨⟨v4, HeadAt.of_row T'.out.xr⟩, rfl⟩) ?_
                clear hK K k' s' HSC
                clear T G7 G8
                rename Hid (Sx W B fb mb ca t W.heap.size y v4) => T
                have G7 := G7'
                clear G7'
                have G8 := G8'
                clear G8'
                refine wpAnyC_of_ms [12, 13] _ _ _ (by kernel_rfl) ?_
                refine wpMs_list [12, 13] _ _ (by kernel_rfl) (by kernel_rfl) ?_
                simp only [List.filterMap_cons, List.filterMap_nil, List.getElem?_toArray, List.getElem?_cons_zero, List.getElem?_cons_succ]
                have c70 := HeadAt.of_row G7.out 0 (.int .i64 0) rfl
                have c71 := HeadAt.of_row G7.out 1 (.int .i64 0) rfl
                have c80 := HeadAt.of_row G8.out 0 (.int .i64 0) rfl
                have c81 := HeadAt.of_row G8.out 1 (.int .i64 0) rfl
                have z70 := frozen_of_row v4 g7 0 _ _ G7.out
                have z71 := frozen_of_row v4 g7 1 _ _ G7.out
                have z80 := frozen_of_row v4 g8 0 _ _ G8.out
                have z81 := frozen_of_row v4 g8 1 _ _ G8.out
                obtain ⟨wz, hwz⟩ : ∃ wz, wz = (((v4.setCell ⟨g7, 0, none⟩ (.int .i64 al)).setCell ⟨g7, 1, none⟩ (.int .i64 ah)).setCell ⟨g8, 0, none⟩ (.int .i64 bl)).setCell ⟨g8, 1, none⟩ (.int .i64 bh) := ⟨_, rfl⟩
                have N7 : Hid (wz.heap[g7]? = some (.cells ⟨[.int .i64 al, .int .i64 ah]⟩ 113 (0, 0))) := by rw [hwz]; exact row2_far (row2_set G7.out) hne
                have N8 : Hid (wz.heap[g8]? = some (.cells ⟨[.int .i64 bl, .int .i64 bh]⟩ 113 (0, 0))) := by rw [hwz]; exact row2_set (row2_far G8.out (Ne.symm hne))
                have TZ : Hid (Sx W B fb mb ca t W.heap.size y wz) := by rw [hwz]; exact (T.out.set2 (by omega) (by omega) hmW hfW _ _).set2 (by omega) (by omega) hmW hfW _ _
                have HWZ := Lib.hid hwz
                clear hwz T G7 G8
                go_wp2_with fail
                rw [← HWZ.out]
                go_meet
                case rel => exact ⟨g7, g8, rfl, rfl, TZ, N7, N8⟩
      case rest =>
      obtain ⟨w8, hw8⟩ : ∃ w8, w8 = wc := ⟨_, rfl⟩
      subst hw8
      obtain ⟨g7, g8, rfl, rfl, T8, N7, N8⟩ := hcut
      have c70 := HeadAt.of_row N7.out 0 (.int .i64 al) rfl
      have c80 := HeadAt.of_row N8.out 0 (.int .i64 bl) rfl
      have c81 := HeadAt.of_row N8.out 1 (.int .i64 bh) rfl
      clear T3
      by_cases c1 : 0 < bl
      · have d1 : decide (0 < bl) = true := decide_eq_true c1
        have d2 : decide (-1 < bl) = true := decide_eq_true (by omega)
        have HN2 : Hid (neverM t.ins i = true) := by (show _ = _); rw [HN1.out, d1, d2] <;> rfl
        go_wp2_with fail
        go_ret
        exact ⟨by rw [HN2.out] <;> rfl, T8.out.fin, T8.out.map⟩
      have d1 : decide (0 < bl) = false := decide_eq_false c1
      by_cases c2 : bh < 0
      case neg =>
        have d2 : decide (bh < 0) = false := decide_eq_false c2
        have HN2 : Hid (neverM t.ins i = false) := by (show _ = _); rw [HN1.out, d1, d2] <;> rfl
        go_wp2_with fail
        go_ret
        exact ⟨by rw [HN2.out] <;> rfl, T8.out.fin, T8.out.map⟩
      have d2 : decide (bh < 0) = true := decide_eq_true c2
      have c3 : ¬ -1 < bl := by omega
      have d3 : decide (-1 < bl) = false := decide_eq_false c3
      by_cases c4 : bh < -1
      · have d4 : decide (bh < -1) = true := decide_eq_true c4
        have HN2 : Hid (neverM t.ins i = true) := by (show _ = _); rw [HN1.out, d1, d2, d3, d4] <;> rfl
        go_wp2_with fail
        go_ret
        exact ⟨by rw [HN2.out] <;> rfl, T8.out.fin, T8.out.map⟩
      have d4 : decide (bh < -1) = false := decide_eq_false c4
      have HN2 : Hid (neverM t.ins i = decide (-2147483648 < al)) := by (show _ = _); rw [HN1.out, d1, d2, d3, d4]; simp
      go_wp2_with fail
      go_ret
      exact ⟨by rw [HN2.out] <;> rfl, T8.out.fin, T8.out.map⟩
    case false =>
      have h67 : ¬ (y.n = 6 ∨ y.n = 7) := fun h => by rcases h with h | h <;> simp [h] at b67
      have hn1 := HN4.out
      rw [if_neg h67] at hn1
      have HN := Lib.hid hn1
      have T7 := T3
      have q6 : (y.n == 6) = false := beq_eq_false_iff_ne.2 (fun h => h67 (.inl h))
      have q7 : (y.n == 7) = false := beq_eq_false_iff_ne.2 (fun h => h67 (.inr h))
      clear h67 HN4 hn1 b67
      by_cases n3 : y.n = 3
      · have q3 : (y.n == 3) = true := beq_iff_eq.2 n3
        have H345 : Hid (y.n = 3 ∨ y.n = 4 ∨ y.n = 5) := .inl n3
        clear n3
        have RC := T7.out.reck IH.out hc (by omega) hl HX.out p q HP.out hp2 HQ.out hq2
        obtain ⟨⟨rl, rh⟩, hrl⟩ : ∃ r, reckW (spanM t.ins · i) y = r := ⟨_, rfl⟩
        rw [hrl] at RC
        have HRL := Lib.hid hrl
        have HRC := Lib.hid RC
        clear RC hrl
        go_wp2_with fail
        refine HRC.out.mono ?_
        rintro e w8 ⟨rb, rfl, s8⟩
        obtain ⟨w9, hw9⟩ : ∃ w9, w9 = w8.alloc (.cells #[.int .i64 rl, .int .i64 rh] 113) := ⟨_, rfl⟩
        have T9 : Hid (Sx W B fb mb ca t W.heap.size y w9) := by rw [hw9]; exact s8.below (below_one _ _)
        have Q9 : Hid (w9.heap[w8.heap.size]? = some (.cells ⟨[.int .i64 rl, .int .i64 rh]⟩ 113 (0, 0))) := by rw [hw9]; exact heap_last _ _
        have hz9 : w8.heap.size < w9.heap.size := (Array.getElem?_eq_some_iff.1 Q9.out).1
        have HW9 := Lib.hid hw9
        clear hw9 s8 HRC
        go_upto_region 18 with fail
        rw [← HW9.out]
        have c0 := HeadAt.of_row Q9.out 0 (.int .i64 rl) rfl
        have c1 := HeadAt.of_row Q9.out 1 (.int .i64 rh) rfl
        have HN1 : Hid (neverM t.ins i = (decide (-2147483648 ≤ rl) && decide (rh ≤ 2147483647))) := by
          show _ = _
          rw [HN.out, if_pos H345.out, HRL.out]
        obtain ⟨bb, hbb⟩ : ∃ bb, decide (-2147483648 ≤ rl) = bb := ⟨_, rfl⟩
        rw [hbb] at HN1
        by_cases cl : -2147483648 ≤ rl
        · rw [decide_eq_true cl] at hbb
          subst hbb
          go_wp2_with fail
          go_ret
          exact ⟨by rw [HN1.out] <;> simp, T9.out.fin, T9.out.map⟩
        · rw [decide_eq_false cl] at hbb
          subst hbb
          go_wp2_with fail
          go_ret
          exact ⟨by rw [HN1.out] <;> simp, T9.out.fin, T9.out.map⟩
      have q3 : (y.n == 3) = false := beq_eq_false_iff_ne.2 n3
      by_cases n4 : y.n = 4
      · have q4 : (y.n == 4) = true := beq_iff_eq.2 n4
        have H345 : Hid (y.n = 3 ∨ y.n = 4 ∨ y.n = 5) := .inr (.inl n4)
        clear n3 n4
        have RC := T7.out.reck IH.out hc (by omega) hl HX.out p q HP.out hp2 HQ.out hq2
        obtain ⟨⟨rl, rh⟩, hrl⟩ : ∃ r, reckW (spanM t.ins · i) y = r := ⟨_, rfl⟩
        rw [hrl] at RC
        have HRL := Lib.hid hrl
        have HRC := Lib.hid RC
        clear RC hrl
        go_wp2_with fail
        refine HRC.out.mono ?_
        rintro e w8 ⟨rb, rfl, s8⟩
        obtain ⟨w9, hw9⟩ : ∃ w9, w9 = w8.alloc (.cells #[.int .i64 rl, .int .i64 rh] 113) := ⟨_, rfl⟩
        have T9 : Hid (Sx W B fb mb ca t W.heap.size y w9) := by rw [hw9]; exact s8.below (below_one _ _)
        have Q9 : Hid (w9.heap[w8.heap.size]? = some (.cells ⟨[.int .i64 rl, .int .i64 rh]⟩ 113 (0, 0))) := by rw [hw9]; exact heap_last _ _
        have hz9 : w8.heap.size < w9.heap.size := (Array.getElem?_eq_some_iff.1 Q9.out).1
        have HW9 := Lib.hid hw9
        clear hw9 s8 HRC
        go_upto_region 18 with fail
        rw [← HW9.out]
        have c0 := HeadAt.of_row Q9.out 0 (.int .i64 rl) rfl
        have c1 := HeadAt.of_row Q9.out 1 (.int .i64 rh) rfl
        have HN1 : Hid (neverM t.ins i = (decide (-2147483648 ≤ rl) && decide (rh ≤ 2147483647))) := by
          show _ = _
          rw [HN.out, if_pos H345.out, HRL.out]
        obtain ⟨bb, hbb⟩ : ∃ bb, decide (-2147483648 ≤ rl) = bb := ⟨_, rfl⟩
        rw [hbb] at HN1
        by_cases cl : -2147483648 ≤ rl
        · rw [decide_eq_true cl] at hbb
          subst hbb
          go_wp2_with fail
          go_ret
          exact ⟨by rw [HN1.out] <;> simp, T9.out.fin, T9.out.map⟩
        · rw [decide_eq_false cl] at hbb
          subst hbb
          go_wp2_with fail
          go_ret
          exact ⟨by rw [HN1.out] <;> simp, T9.out.fin, T9.out.map⟩
      have q4 : (y.n == 4) = false := beq_eq_false_iff_ne.2 n4
      by_cases n5 : y.n = 5
      · have q5 : (y.n == 5) = true := beq_iff_eq.2 n5
        have H345 : Hid (y.n = 3 ∨ y.n = 4 ∨ y.n = 5) := .inr (.inr n5)
        clear n3 n4 n5
        have RC := T7.out.reck IH.out hc (by omega) hl HX.out p q HP.out hp2 HQ.out hq2
        obtain ⟨⟨rl, rh⟩, hrl⟩ : ∃ r, reckW (spanM t.ins · i) y = r := ⟨_, rfl⟩
        rw [hrl] at RC
        have HRL := Lib.hid hrl
        have HRC := Lib.hid RC
        clear RC hrl
        go_wp2_with fail
        refine HRC.out.mono ?_
        rintro e w8 ⟨rb, rfl, s8⟩
        obtain ⟨w9, hw9⟩ : ∃ w9, w9 = w8.alloc (.cells #[.int .i64 rl, .int .i64 rh] 113) := ⟨_, rfl⟩
        have T9 : Hid (Sx W B fb mb ca t W.heap.size y w9) := by rw [hw9]; exact s8.below (below_one _ _)
        have Q9 : Hid (w9.heap[w8.heap.size]? = some (.cells ⟨[.int .i64 rl, .int .i64 rh]⟩ 113 (0, 0))) := by rw [hw9]; exact heap_last _ _
        have hz9 : w8.heap.size < w9.heap.size := (Array.getElem?_eq_some_iff.1 Q9.out).1
        have HW9 := Lib.hid hw9
        clear hw9 s8 HRC
        go_upto_region 18 with fail
        rw [← HW9.out]
        have c0 := HeadAt.of_row Q9.out 0 (.int .i64 rl) rfl
        have c1 := HeadAt.of_row Q9.out 1 (.int .i64 rh) rfl
        have HN1 : Hid (neverM t.ins i = (decide (-2147483648 ≤ rl) && decide (rh ≤ 2147483647))) := by
          show _ = _
          rw [HN.out, if_pos H345.out, HRL.out]
        obtain ⟨bb, hbb⟩ : ∃ bb, decide (-2147483648 ≤ rl) = bb := ⟨_, rfl⟩
        rw [hbb] at HN1
        by_cases cl : -2147483648 ≤ rl
        · rw [decide_eq_true cl] at hbb
          subst hbb
          go_wp2_with fail
          go_ret
          exact ⟨by rw [HN1.out] <;> simp, T9.out.fin, T9.out.map⟩
        · rw [decide_eq_false cl] at hbb
          subst hbb
          go_wp2_with fail
          go_ret
          exact ⟨by rw [HN1.out] <;> simp, T9.out.fin, T9.out.map⟩
      have q5 : (y.n == 5) = false := beq_eq_false_iff_ne.2 n5
      have HN1 : Hid (neverM t.ins i = true) := by
        show _ = _
        rw [HN.out, if_neg (by rintro (h | h | h); exact n3 h; exact n4 h; exact n5 h)]
      clear n3 n4 n5
      go_wp2_with fail
      go_ret
      exact ⟨by rw [HN1.out] <;> rfl, T7.out.fin, T7.out.map⟩
end Go.Proofs.YtmccomeihnaanaaDoor
