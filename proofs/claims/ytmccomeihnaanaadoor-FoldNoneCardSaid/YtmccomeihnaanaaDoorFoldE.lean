/- fold: number, truth, constant, is, whole, become, holds. -/
import Derived.Test.YtmccomeihnaanaaDoorFoldB
import Derived.Test.YtmccomeihnaanaaDoorFoldD
namespace Go.Proofs.YtmccomeihnaanaaDoor
open Go.RowKit Go.IntWalk

def foldE (ins : List TIns) : FoldE := ⟨unaryM, binaryM, isTrueM, kindM ins⟩

set_option maxHeartbeats 1000000 in
set_option maxRecDepth 100000 in
theorem number_c (n : Int) (w : World) : Calls Tryd.prog 124 #[.int .i64 n] w (Gives (.agg #[.int .i64 2, .int .i64 n]) w) := by
  obtain ⟨w0, hw0⟩ : ∃ w0, w0 = w.alloc (.cells #[.int .i64 0, .int .i64 0] 41) := ⟨_, rfl⟩
  have K0 : Hid (Below w.heap.size w w0) := by rw [hw0]; exact below_one _ _
  have B0 : Hid (w0.heap[w.heap.size]? = some (.cells #[.int .i64 0, .int .i64 0] 41 (0, 0))) := by rw [hw0]; exact heap_last _ _
  have hz : w.heap.size < w0.heap.size := (Array.getElem?_eq_some_iff.1 B0.out).1
  have R0 : Hid (w0.rangeAt (w.heap.size) 0 [.int .i64 0, .int .i64 0]) := (HeadAt.of_row B0.out).range
  have HW := Lib.hid hw0
  clear hw0
  go_enter Tryd.func124, Tryd.ntmps124
  go_upto_region 1 with fail
  rw [← HW.out]
  have B00 := B0
  go_wp2_with (first | (refine wpList_store_row rfl 41 _ _ rfl (w.heap.size) #[.int .i64 2, .int .i64 n] rfl rfl 41 _ B00.out infoValC rfl (all_oneCell_toArray (by simp [Value.oneCell'])) ?_))
  generalize hw9 : World.setRow _ _ _ = w9
  have QR : Hid (w9.heap[w.heap.size]? = some (.cells #[.int .i64 2, .int .i64 n] 41 (0, 0))) := by rw [← hw9]; exact setRow_heap _ _ _ _ _ _ B00.out
  have K9 : Hid (Below w.heap.size w w9) := by rw [← hw9]; exact Below.set_row K0.out (by omega) _
  clear hw9
  go_wp2_with fail
  have q0 := cell_of_row w9 (w.heap.size) 0 _ _ _ QR.out
  have q1 := cell_of_row w9 (w.heap.size) 1 _ _ _ QR.out
  refine bodyPost_ret (v := (.agg #[.int .i64 2, .int .i64 n])) (by simp [results, Tryd.results124, go_sem, q0, q1]) rfl ⟨rfl, K9.out⟩
set_option maxHeartbeats 1000000 in
set_option maxRecDepth 100000 in
theorem ftruth_c (b : Bool) (w : World) : Calls Tryd.prog 142 #[.bool b] w (Gives (.agg #[.int .i64 (boolV b).kind, .int .i64 (boolV b).n]) w) := by
  unfold boolV
  cases b
  all_goals
    simp only [↓reduceIte, Bool.false_eq_true]
    go_enter Tryd.func142, Tryd.ntmps142
    go_wp2
    first
      | (refine bodyPost_ret (v := .agg #[.int .i64 1, .int .i64 0]) (by simp [results, Tryd.results142, go_sem]) rfl ⟨rfl, ?_⟩; repeat (first | exact Below.refl _ _ | refine Below.drew ?_ | refine Below.setCell ?_ (by simp) _ | refine Below.alloc ?_ (by simp) _))
      | (refine bodyPost_ret (v := .agg #[.int .i64 1, .int .i64 1]) (by simp [results, Tryd.results142, go_sem]) rfl ⟨rfl, ?_⟩; repeat (first | exact Below.refl _ _ | refine Below.drew ?_ | refine Below.setCell ?_ (by simp) _ | refine Below.alloc ?_ (by simp) _))
section
variable {W : World} {B fb : Nat} {ca : List Value} {t : TTrace} {G n cG : Nat} {uT : Value} {cur : List TIns} {tl : List Int}

set_option maxHeartbeats 1000000 in
set_option maxRecDepth 100000 in
theorem const_c (h : FoldR W B fb ca t (.slice (some ⟨G, 0, none⟩) n cG) uT cur tl) {v : Nat} {x : TIns} (hx : cur[v]? = some x) :
    Calls Tryd.prog 95 #[.pointer (some ⟨fb, 0, none⟩), .int .i64 v] W (Gives (.tuple #[.agg #[.int .i64 x.k.kind, .int .i64 x.k.n], .bool (constM cur v)]) W) := by
  obtain rfl : n = cur.length := h.n
  have hv := (List.getElem?_eq_some_iff.1 hx).1
  have few := h.few
  have HC : Hid (constM cur v = (x.op == 2)) := by unfold constM insF Hid; rw [show (v : Int).toNat = v from rfl, hx]; rfl
  rw [HC.out]
  obtain ⟨op, xa, xb, xc, xn, xe, ⟨kk, kn⟩⟩ := x
  dsimp only
  have H0 := h
  have hg := h.gap
  have hvi : (v : Int) < cur.length := by omega
  obtain ⟨w0, hw0⟩ : ∃ w0, w0 = W.alloc (.cells #[.int .i64 0, .int .i64 0] 41) := ⟨_, rfl⟩
  have K0 : Hid (Below W.heap.size W w0) := by rw [hw0]; exact below_one _ _
  have B0 : Hid (w0.heap[W.heap.size]? = some (.cells #[.int .i64 0, .int .i64 0] 41 (0, 0))) := by rw [hw0]; exact heap_last _ _
  have hz : W.heap.size < w0.heap.size := (Array.getElem?_eq_some_iff.1 B0.out).1
  have H := Lib.hid (h.below K0.out)
  have l16 : ∀ E : Fin_ W.heap.size w0, E.wd.cell? ⟨fb, 13 + 3, none⟩ = some (.slice (some ⟨G, 0, none⟩) cur.length cG) := fun E => E.cell H.out.cellI (by have := H0.lt; show fb ≠ W.heap.size; omega)
  have l0 : ∀ E : Fin_ W.heap.size w0, E.wd.cell? ⟨G, v * 8, none⟩ = some (.int .i64 op) := fun E => E.cell (H.out.at_ (k := 0) hx rfl) (by show G ≠ W.heap.size; omega)
  have RX : Hid (∀ E : Fin_ W.heap.size w0, E.wd.rangeAt G (v * 8 + 6) [.int .i64 kk, .int .i64 kn]) := fun E a u hu => by
    match a, hu with
    | 0, hu => obtain rfl : u = .int .i64 kk := by simpa using hu.symm
               exact E.cell (H.out.at_ (k := 6) hx rfl) (by show G ≠ W.heap.size; omega)
    | 1, hu => obtain rfl : u = .int .i64 kn := by simpa using hu.symm
               exact E.cell (H.out.at_ (k := 7) hx rfl) (by show G ≠ W.heap.size; omega)
  have HW := Lib.hid hw0
  have hg1 := hg.1
  have hg2 := hg.2
  clear hw0 h H0 hx hg
  go_enter Tryd.func95, Tryd.ntmps95
  go_upto_region 1 with fail
  rw [← HW.out]
  refine wp_region_first (fun w' => ∃ E : Fin_ W.heap.size w0, w' = E.wd) 19 [19, 20] [19] (by kernel_rfl) (by decide) (by kernel_rfl) (fun _ _ d _ _ h => by cases d <;> exact h) ⟨⟨_, (Fined.refl _ w0).drew⟩, rfl⟩ ?_
  simp only [List.take_succ_cons, List.take_zero]
  generalize hqq : (fun a' => wpMs _ _ _ _ _ _ a' _) = qq
  have HQQ := Lib.hid hqq
  clear hqq
  repeat (first
    | (refine wpQuiet_load_fin 41 _ rfl rfl G (v * 8 + 6) rfl [.int .i64 kk, .int .i64 kn] _ RX.out Tryd.underlying41 rfl infoValC ?_; go_simp)
    | go_big_quiet_step (fail))
  refine wpQuiet_nil ?_
  rw [← HQQ.out]
  clear HQQ qq l16 l0 RX
  have BD : Hid (w0.drew.heap[W.heap.size]? = some (.cells #[.int .i64 0, .int .i64 0] 41 (0, 0))) := B0.out
  refine wpMs_step rfl (fun K hK => ?_)
  rw [if_pos (by rfl)]
  refine wp_store_mid 41 _ _ rfl W.heap.size 0 #[.int .i64 kk, .int .i64 kn] rfl rfl (there_of_row BD.out (show 2 ≤ 2 from Nat.le_refl 2)) infoValC (all_oneCell_toArray (by simp [Value.oneCell'])) (hK _ _ (fun _ => ⟨⟨_, fined_setCells [.int .i64 kk, .int .i64 kn] 0 _ (Fined.refl _ w0).drew⟩, rfl⟩) ?_)
  clear hK K
  generalize hw9 : World.setCells _ _ _ _ = w9
  have QR : Hid (w9.heap[W.heap.size]? = some (.cells #[.int .i64 kk, .int .i64 kn] 41 (0, 0))) := by rw [← hw9]; exact setCells_row [.int .i64 kk, .int .i64 kn] 0 _ _ BD.out
  have K9 : Hid (Below W.heap.size W w9) := by rw [← hw9]; exact Below.setCells_ (Nat.le_refl _) _ _ _ (K0.out.drew)
  clear hw9
  refine wpMs_list [20] _ _ (by kernel_rfl) (by kernel_rfl) ?_
  simp only [List.filterMap_cons, List.filterMap_nil, List.getElem?_toArray, List.getElem?_cons_zero, List.getElem?_cons_succ]
  go_wp2_with fail
  have q0 := cell_of_row w9 W.heap.size 0 _ _ _ QR.out
  have q1 := cell_of_row w9 W.heap.size 1 _ _ _ QR.out
  refine bodyPost_ret (v := .tuple #[.agg #[.int .i64 kk, .int .i64 kn], .bool (op == 2)]) (by simp [results, Tryd.results95, go_sem, q0, q1]) rfl ⟨rfl, K9.out⟩
set_option maxHeartbeats 1000000 in
set_option maxRecDepth 100000 in
theorem is_c (h : FoldR W B fb ca t (.slice (some ⟨G, 0, none⟩) n cG) uT cur tl) {v : Nat} {x : TIns} (hx : cur[v]? = some x) (k : Val) :
    Calls Tryd.prog 125 #[.pointer (some ⟨fb, 0, none⟩), .int .i64 v, .agg #[.int .i64 k.kind, .int .i64 k.n]] W (Gives (.bool (isM cur v k)) W) := by
  have HI : Hid (isM cur v k = (constM cur v && decide (x.k = k))) := by unfold isM insF Hid; rw [show (v : Int).toNat = v from rfl, hx]; rfl
  rw [HI.out]
  obtain ⟨k0, k1⟩ := k
  obtain ⟨op, xa, xb, xc, xn, xe, ⟨kk, kn⟩⟩ := x
  dsimp only
  obtain ⟨w0, hw0⟩ : ∃ w0, w0 = W.alloc (.cells #[.int .i64 k0, .int .i64 k1] 41) := ⟨_, rfl⟩
  have K0 : Hid (Below W.heap.size W w0) := by rw [hw0]; exact below_one _ _
  have B0 : Hid (w0.heap[W.heap.size]? = some (.cells #[.int .i64 k0, .int .i64 k1] 41 (0, 0))) := by rw [hw0]; exact heap_last _ _
  have hz : W.heap.size < w0.heap.size := (Array.getElem?_eq_some_iff.1 B0.out).1
  have CC := Lib.hid (const_c (h.below K0.out) hx)
  dsimp only at CC
  obtain ⟨cv, hcv⟩ : ∃ b, constM cur v = b := ⟨_, rfl⟩
  rw [hcv] at CC ⊢
  have HW := Lib.hid hw0
  clear hw0 h hx HI hcv
  go_enter Tryd.func125, Tryd.ntmps125
  go_upto_region 1 with fail
  rw [← HW.out]
  go_wp2_with fail
  refine CC.out.mono ?_
  rintro e w1 ⟨rfl, k1'⟩
  have K1 : Hid (Below W.heap.size W w1) := K0.out.trans (k1'.mono K0.out.size)
  have B1 : Hid (w1.heap[W.heap.size]? = some (.cells #[.int .i64 k0, .int .i64 k1] 41 (0, 0))) := (k1'.block _ hz).trans B0.out
  have hz1 : W.heap.size < w1.heap.size := (Array.getElem?_eq_some_iff.1 B1.out).1
  clear k1' CC
  obtain ⟨w2, hw2⟩ : ∃ w2, w2 = w1.alloc (.cells #[.int .i64 kk, .int .i64 kn] 41) := ⟨_, rfl⟩
  have L2 : Hid (Below w1.heap.size w1 w2) := by rw [hw2]; exact below_one _ _
  have K2 : Hid (Below W.heap.size W w2) := K1.out.trans (L2.out.mono K1.out.size)
  have C2 : Hid (w2.heap[w1.heap.size]? = some (.cells #[.int .i64 kk, .int .i64 kn] 41 (0, 0))) := by rw [hw2]; exact heap_last _ _
  have B2 : Hid (w2.heap[W.heap.size]? = some (.cells #[.int .i64 k0, .int .i64 k1] 41 (0, 0))) := (L2.out.block _ hz1).trans B1.out
  have RA : Hid (w2.rangeAt w1.heap.size 0 [.int .i64 kk, .int .i64 kn]) := (HeadAt.of_row C2.out).range
  have RB : Hid (w2.rangeAt W.heap.size 0 [.int .i64 k0, .int .i64 k1]) := (HeadAt.of_row B2.out).range
  have HW2 := Lib.hid hw2
  clear hw2
  go_upto_region 2 with fail
  rw [← HW2.out]
  clear L2 C2 B2 HW2
  generalize w1.heap.size = o at *
  cases cv
  · go_wp2_with fail
    go_ret
    exact ⟨rfl, K2.out⟩
  · skip
    by_cases e1 : kk = k0
    · subst e1
      by_cases e2 : kn = k1
      · subst e2
        go_wp2_with (first | (refine wpList_load_on 41 _ rfl rfl o 0 rfl [.int .i64 kk, .int .i64 kn] _ RA.out Tryd.underlying41 rfl infoValC ?_) | (refine wpList_load_on 41 _ rfl rfl W.heap.size 0 rfl [.int .i64 kk, .int .i64 kn] _ RB.out Tryd.underlying41 rfl infoValC ?_) | fail)
        go_ret
        exact ⟨by simp, K2.out⟩
      · have ne : (kn == k1) = false := beq_eq_false_iff_ne.2 e2
        have ND := Lib.hid (show decide ((⟨kk, kn⟩ : Val) = ⟨kk, k1⟩) = false from decide_eq_false (fun h => by injection h with _ h; exact e2 h))
        clear e2
        go_wp2_with (first | (refine wpList_load_on 41 _ rfl rfl o 0 rfl [.int .i64 kk, .int .i64 kn] _ RA.out Tryd.underlying41 rfl infoValC ?_) | (refine wpList_load_on 41 _ rfl rfl W.heap.size 0 rfl [.int .i64 kk, .int .i64 k1] _ RB.out Tryd.underlying41 rfl infoValC ?_) | fail)
        go_ret
        exact ⟨by rw [ND.out]; simp, K2.out⟩
    · have ne : (kk == k0) = false := beq_eq_false_iff_ne.2 e1
      have ND := Lib.hid (show decide ((⟨kk, kn⟩ : Val) = ⟨k0, k1⟩) = false from decide_eq_false (fun h => by injection h with h; exact e1 h))
      clear e1
      go_wp2_with (first | (refine wpList_load_on 41 _ rfl rfl o 0 rfl [.int .i64 kk, .int .i64 kn] _ RA.out Tryd.underlying41 rfl infoValC ?_) | (refine wpList_load_on 41 _ rfl rfl W.heap.size 0 rfl [.int .i64 k0, .int .i64 k1] _ RB.out Tryd.underlying41 rfl infoValC ?_) | fail)
      go_ret
      exact ⟨by rw [ND.out]; simp, K2.out⟩
set_option maxHeartbeats 1000000 in
set_option maxRecDepth 100000 in
theorem fwhole_c {uI : Value} (h : FoldR W B fb ca t uI uT cur tl) (v i : Int) (h1 : -9223372036854775808 ≤ i) (h2 : i ≤ 9223372036854775807) :
    Calls Tryd.prog 126 #[.pointer (some ⟨fb, 0, none⟩), .int .i64 v, .int .i64 i] W (Gives (.bool (wholeK (foldE t.ins) v i)) W) := by
  have HIt := Lib.hid h.tr.size13
  have RR : Hid (W.rangeAt fb 0 ca) := h.head.range
  have KC := Lib.hid (kind_c ca t (v.toNat + 1) v i W (by omega) h.trace h1 h2)
  show Calls _ _ _ _ (Gives (.bool (kindM t.ins v i == 2)) W)
  generalize kindM t.ins v i = kv at KC
  clear h h1 h2
  go_enter Tryd.func126, Tryd.ntmps126
  go_wp2_with (first | (refine wpList_load_mid rfl 34 _ rfl fb 0 rfl ca _ RR.out Tryd.underlying34 rfl HIt.out ?_) | fail)
  refine KC.out.mono ?_
  rintro e w1 ⟨rfl, k1⟩
  have K1 := Lib.hid k1
  clear k1
  go_wp2_with fail
  go_ret
  exact ⟨rfl, K1.out⟩
def FoldPost (W : World) (B fb : Nat) (ca : List Value) (t : TTrace) (G n cG : Nat) (uT : Value) (cur : List TIns) (tl : List Int) (v : Value) (e : Ending) (w' : World) : Prop :=
  e = .returned v ∧ FoldR w' B fb ca t (.slice (some ⟨G, 0, none⟩) n cG) uT cur tl ∧ Fined G W w'
set_option maxHeartbeats 1000000 in
set_option maxRecDepth 100000 in
theorem become_c (h : FoldR W B fb ca t (.slice (some ⟨G, 0, none⟩) n cG) uT cur tl) {i : Nat} (hi : i < cur.length) (k : Val) (hk : wfi k.kind ∧ wfi k.n) :
    Calls Tryd.prog 127 #[.pointer (some ⟨fb, 0, none⟩), .int .i64 i, .agg #[.int .i64 k.kind, .int .i64 k.n]] W (FoldPost W B fb ca t G n cG uT (cur.set i (becomeM k)) tl (.tuple #[])) := by
  obtain rfl : n = cur.length := h.n
  obtain ⟨k0, k1⟩ := k
  have few := h.few
  have hii : (i : Int) < cur.length := by omega
  have WB : Hid (WfIns (becomeM ⟨k0, k1⟩)) := by
    unfold Hid WfIns becomeM; dsimp only; dsimp only at hk
    unfold wfi at *
    omega
  obtain ⟨w0, hw0⟩ : ∃ w0, w0 = W.alloc (.cells #[.int .i64 k0, .int .i64 k1] 41) := ⟨_, rfl⟩
  have K0 : Hid (Below W.heap.size W w0) := by rw [hw0]; exact below_one _ _
  have B0 : Hid (w0.heap[W.heap.size]? = some (.cells #[.int .i64 k0, .int .i64 k1] 41 (0, 0))) := by rw [hw0]; exact heap_last _ _
  have H := Lib.hid (h.below K0.out)
  have l16 : ∀ E : Up w0, E.to.cell? ⟨fb, 13 + 3, none⟩ = some (.slice (some ⟨G, 0, none⟩) cur.length cG) := fun E => E.cell H.out.cellI
  have RX : Hid (∀ E : Up w0, E.to.rangeAt W.heap.size 0 [.int .i64 k0, .int .i64 k1]) := fun E a u hu => E.cell ((HeadAt.of_row B0.out).range a u hu)
  have HW := Lib.hid hw0
  clear hw0 h hk
  go_enter Tryd.func127, Tryd.ntmps127
  go_upto_region 1 with fail
  rw [← HW.out]
  refine wp_region_up_tail 9 (by kernel_rfl) (by kernel_rfl) ?_
  simp only [List.take_succ_cons, List.take_zero, List.drop_succ_cons, List.drop_zero]
  repeat (first
    | (refine wpQuiet_load_up 41 _ rfl rfl W.heap.size 0 rfl [.int .i64 k0, .int .i64 k1] _ RX.out Tryd.underlying41 rfl infoValC ?_; go_simp)
    | go_big_quiet_step (fail))
  refine wpQuiet_nil ?_
  first | (rintro _ ⟨E, rfl⟩) | (intro E) | (rename_i E)
  obtain ⟨w5, k5⟩ := E
  dsimp only
  have H5 := Lib.hid (H.out.below k5)
  have TH := Lib.hid (H5.out.there hi)
  have F5 : Hid (Fined G W w5) := Fined.of_below (K0.out.trans (k5.mono K0.out.size))
  clear k5 l16 RX
  refine wpList_store_mid rfl 43 _ _ rfl G (i * 8) #[.int .i64 2, .int .i64 (-1), .int .i64 (-1), .int .i64 (-1), .int .i64 0, .int .i64 (-1), .int .i64 k0, .int .i64 k1] rfl rfl TH.out infoIns8 (all_oneCell_toArray (by simp [Value.oneCell'])) ?_
  have P : Hid (FoldR (w5.setCells G (i * 8) (insCells (becomeM ⟨k0, k1⟩))) B fb ca t (.slice (some ⟨G, 0, none⟩) cur.length cG) uT (cur.set i (becomeM ⟨k0, k1⟩)) tl) := H5.out.put hi WB.out
  have F9 : Hid (Fined G W (w5.setCells G (i * 8) (insCells (becomeM ⟨k0, k1⟩)))) := fined_setCells _ _ _ F5.out
  show wpList _ _ _ _ _ (w5.setCells G (i * 8) (insCells (becomeM ⟨k0, k1⟩)))
  generalize w5.setCells G (i * 8) (insCells (becomeM ⟨k0, k1⟩)) = w9 at P F9 ⊢
  go_wp2_with fail
  refine bodyPost_ret (v := .tuple #[]) (by simp [results, Tryd.results127, go_sem]) rfl ⟨rfl, P.out, F9.out⟩
end
set_option maxHeartbeats 1000000 in
set_option maxRecDepth 100000 in
theorem holds_c (ins : List TIns) (x : TIns) (v : Val) (hop : x.op = 4 ∨ x.op = 5 ∨ x.op = 6) (w : World) : Calls Tryd.prog 96 #[insV x, .agg #[.int .i64 v.kind, .int .i64 v.n]] w (Gives (.bool (holdsM (foldE ins) x v)) w) := by
  have HM : Hid (holdsM (foldE ins) x v = if x.op = 4 then v.kind == x.n else if x.op = 5 then isTrueM v == (x.n == 1) else decide (v = x.k)) := rfl
  rw [HM.out]
  clear HM
  unfold insV
  obtain ⟨op, xa, xb, xc, xn, xe, ⟨k0, k1⟩⟩ := x
  obtain ⟨kk, kn⟩ := v
  dsimp only at hop ⊢
  obtain ⟨w0, hw0⟩ : ∃ w0, w0 = (w.alloc (.cells ⟨[.int .i64 op, .int .i64 xa, .int .i64 xb, .int .i64 xc, .int .i64 xn, .int .i64 xe, .int .i64 k0, .int .i64 k1]⟩ 43)).alloc (.cells #[.int .i64 kk, .int .i64 kn] 41) := ⟨_, rfl⟩
  have K2 : Hid (Below w.heap.size w w0) := by rw [hw0]; exact below_two' _ _ _
  have B0 : Hid (w0.heap[w.heap.size]? = some (.cells ⟨[.int .i64 op, .int .i64 xa, .int .i64 xb, .int .i64 xc, .int .i64 xn, .int .i64 xe, .int .i64 k0, .int .i64 k1]⟩ 43 (0, 0))) := by rw [hw0]; exact heap_old (heap_last w _) _
  have B1 : Hid (w0.heap[w.heap.size + 1]? = some (.cells #[.int .i64 kk, .int .i64 kn] 41 (0, 0))) := by rw [hw0]; exact heap_two _ _ _
  have x0 : w0.cell? ⟨w.heap.size, 0, none⟩ = some (.int .i64 op) := cell_of_row w0 _ 0 _ _ _ B0.out
  have HW := Lib.hid hw0
  clear hw0
  rcases hop with rfl | rfl | rfl
  · rw [if_pos rfl]
    have x4 : w0.cell? ⟨w.heap.size, 4, none⟩ = some (.int .i64 xn) := cell_of_row w0 _ 4 _ _ _ B0.out
    have y0 : w0.cell? ⟨w.heap.size + 1, 0, none⟩ = some (.int .i64 kk) := cell_of_row w0 _ 0 _ _ _ B1.out
    go_enter Tryd.func96, Tryd.ntmps96
    go_upto_region 1 with fail
    rw [← HW.out]
    go_wp2_with fail
    go_ret
    exact ⟨rfl, K2.out⟩
  · rw [if_neg (by decide), if_pos rfl]
    have TR := tru_c ⟨kk, kn⟩
    obtain ⟨tb, htb⟩ : ∃ tb, isTrueM ⟨kk, kn⟩ = tb := ⟨_, rfl⟩
    rw [htb] at TR ⊢
    clear htb
    have HTR := Lib.hid TR
    clear TR
    dsimp only at HTR
    go_enter Tryd.func96, Tryd.ntmps96
    go_upto_region 1 with fail
    rw [← HW.out]
    go_upto_region 5 with fail
    clear x0
    have x4 : ∀ E : Up w0, E.to.cell? ⟨w.heap.size, 4, none⟩ = some (.int .i64 xn) := fun E => E.cell (cell_of_row w0 _ 4 _ _ _ B0.out)
    have RX : Hid (∀ E : Up w0, E.to.rangeAt (w.heap.size + 1) 0 [.int .i64 kk, .int .i64 kn]) := fun E a u hu => E.cell ((HeadAt.of_row B1.out).range a u hu)
    refine wp_region_up (by kernel_rfl) (by kernel_rfl) ?_
    repeat (first
      | (refine wpQuiet_load_up 41 _ rfl rfl (w.heap.size + 1) 0 rfl [.int .i64 kk, .int .i64 kn] _ RX.out Tryd.underlying41 rfl infoValC ?_; go_simp)
      | go_big_quiet_step ((go_at_call 63; exact Calls.up (HTR.out _))))
    refine wpQuiet_nil ?_
    first | (rintro _ ⟨E, rfl⟩) | (intro E) | (rename_i E)
    go_wp2_with fail
    go_ret
    exact ⟨rfl, K2.out.trans (E.below.mono K2.out.size)⟩
  · rw [if_neg (by decide), if_neg (by decide)]
    have RA : Hid (w0.rangeAt (w.heap.size + 1) 0 [.int .i64 kk, .int .i64 kn]) := (HeadAt.of_row B1.out).range
    have RB : Hid (w0.rangeAt w.heap.size 6 [.int .i64 k0, .int .i64 k1]) := fun a u hu => by
      match a, hu with
      | 0, hu => obtain rfl : u = .int .i64 k0 := by simpa using hu.symm
                 exact cell_of_row w0 _ 6 _ _ _ B0.out
      | 1, hu => obtain rfl : u = .int .i64 k1 := by simpa using hu.symm
                 exact cell_of_row w0 _ 7 _ _ _ B0.out
    by_cases e1 : kk = k0
    · subst e1
      by_cases e2 : kn = k1
      · subst e2
        go_enter Tryd.func96, Tryd.ntmps96
        go_upto_region 1 with fail
        rw [← HW.out]
        go_wp2_with (first | (refine wpList_load_mid rfl 41 _ rfl (w.heap.size + 1) 0 rfl [.int .i64 kk, .int .i64 kn] _ RA.out Tryd.underlying41 rfl infoValC ?_) | (refine wpList_load_mid rfl 41 _ rfl w.heap.size 6 rfl [.int .i64 kk, .int .i64 kn] _ RB.out Tryd.underlying41 rfl infoValC ?_) | fail)
        go_ret
        exact ⟨by simp, K2.out⟩
      · have ne : (kn == k1) = false := beq_eq_false_iff_ne.2 e2
        have ND := Lib.hid (show decide ((⟨kk, kn⟩ : Val) = ⟨kk, k1⟩) = false from decide_eq_false (fun h => by injection h with _ h; exact e2 h))
        clear e2
        go_enter Tryd.func96, Tryd.ntmps96
        go_upto_region 1 with fail
        rw [← HW.out]
        go_wp2_with (first | (refine wpList_load_mid rfl 41 _ rfl (w.heap.size + 1) 0 rfl [.int .i64 kk, .int .i64 kn] _ RA.out Tryd.underlying41 rfl infoValC ?_) | (refine wpList_load_mid rfl 41 _ rfl w.heap.size 6 rfl [.int .i64 kk, .int .i64 k1] _ RB.out Tryd.underlying41 rfl infoValC ?_) | fail)
        go_ret
        exact ⟨by rw [ND.out]; simp, K2.out⟩
    · have ne : (kk == k0) = false := beq_eq_false_iff_ne.2 e1
      have ND := Lib.hid (show decide ((⟨kk, kn⟩ : Val) = ⟨k0, k1⟩) = false from decide_eq_false (fun h => by injection h with h; exact e1 h))
      clear e1
      go_enter Tryd.func96, Tryd.ntmps96
      go_upto_region 1 with fail
      rw [← HW.out]
      go_wp2_with (first | (refine wpList_load_mid rfl 41 _ rfl (w.heap.size + 1) 0 rfl [.int .i64 kk, .int .i64 kn] _ RA.out Tryd.underlying41 rfl infoValC ?_) | (refine wpList_load_mid rfl 41 _ rfl w.heap.size 6 rfl [.int .i64 k0, .int .i64 k1] _ RB.out Tryd.underlying41 rfl infoValC ?_) | fail)
      go_ret
      exact ⟨by rw [ND.out]; simp, K2.out⟩
end Go.Proofs.YtmccomeihnaanaaDoor
