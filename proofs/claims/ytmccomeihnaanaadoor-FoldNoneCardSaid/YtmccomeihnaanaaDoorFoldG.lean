/- fold: reckoned. -/
import Derived.Test.YtmccomeihnaanaaDoorFoldF
namespace Go.Proofs.YtmccomeihnaanaaDoor
open Go.RowKit Go.IntWalk

def wfV (v : Val) : Prop := wfi v.kind ∧ wfi v.n
theorem wfV_lit {k n : Int} (h1 : -9223372036854775808 ≤ k ∧ k ≤ 9223372036854775807) (h2 : -9223372036854775808 ≤ n ∧ n ≤ 9223372036854775807) : wfV ⟨k, n⟩ := ⟨h1, h2⟩
theorem truth_wf (b : Bool) : wfV (truthM b) := by cases b <;> exact wfV_lit (by decide) (by decide)
theorem whole_wf (n : Int) : wfV (wholeM n).1 := by
  unfold wholeM
  split
  · rename_i h
    have := withinM_iff.1 h
    exact wfV_lit (by decide) (by omega)
  · exact wfV_lit (by decide) (by decide)
theorem of_wf (b : Nat) : wfV (ofM b) := by
  unfold ofM
  split
  · exact wfV_lit (by decide) (by unfold wrap64; omega)
  · exact wfV_lit (by decide) (by decide)
theorem ofB_wf (o : BinOp) (x y : Nat) : wfV (ofB o x y) := by
  unfold ofB
  split
  · exact of_wf _
  · exact wfV_lit (by decide) (by decide)
theorem ordered_wf (op : Int) (a b : Bool) : wfV (orderedM op a b).1 := by
  unfold orderedM
  split
  · exact truth_wf _
  · split
    · exact truth_wf _
    · exact wfV_lit (by decide) (by decide)
theorem unary_wf (op : Int) (v : Val) : wfV (unaryM op v).1 := by
  unfold unaryM
  split
  · exact truth_wf _
  · split
    · exact whole_wf _
    · split
      · exact of_wf _
      · exact wfV_lit (by decide) (by decide)
theorem binary_wf (op : Int) (u v : Val) : wfV (binaryM op u v).1 := by
  unfold binaryM
  split
  · unfold floatsM
    split
    · exact ofB_wf _ _ _
    split
    · exact ofB_wf _ _ _
    split
    · exact ofB_wf _ _ _
    split
    · exact ofB_wf _ _ _
    split
    · exact truth_wf _
    · exact ordered_wf _ _ _
  · split
    · exact truth_wf _
    · split
      · unfold wholesM
        split
        · exact whole_wf _
        split
        · exact whole_wf _
        split
        · exact whole_wf _
        split
        · split
          · exact wfV_lit (by decide) (by decide)
          · split
            · exact whole_wf _
            · exact whole_wf _
        · exact ordered_wf _ _ _
      · exact wfV_lit (by decide) (by decide)
section
variable {W : World} {B fb : Nat} {ca : List Value} {t : TTrace} {G n cG : Nat} {uT : Value} {cur : List TIns} {tl : List Int}

set_option maxHeartbeats 8000000 in
set_option maxRecDepth 100000 in
theorem reckon_c (h : FoldR W B fb ca t (.slice (some ⟨G, 0, none⟩) n cG) uT cur tl) (x : TIns) (hop : x.op = 7 ∨ x.op = 8) (ha : 0 ≤ x.a ∧ x.a < cur.length) (hb : x.op = 7 → 0 ≤ x.b ∧ x.b < cur.length) (i : Nat) (hi : i < cur.length) :
    Calls Tryd.prog 94 #[.pointer (some ⟨fb, 0, none⟩), .int .i64 i, insV x] W (RekPost W B fb ca t G n cG uT cur tl i (reckonM (foldE t.ins) cur x)) := by
  have few := h.few
  have HG : Hid (fb < W.heap.size ∧ fb < G ∧ G < W.heap.size) := ⟨h.lt, h.gap⟩
  have HTg : Hid (∀ k, W.heap.size ≤ k → uT.ownBlock ≠ some k) := fun k hk e => by
    obtain ⟨_, cs, fr, h2⟩ := own_row h.tl_ k e
    have := (Array.getElem?_eq_some_iff.1 h2).1
    omega
  obtain ⟨op, xa, xb, xc, xn, xe, ⟨k0, k1⟩⟩ := x
  dsimp only at hop ha hb
  obtain ⟨va, rfl⟩ := Int.eq_ofNat_of_zero_le ha.1
  have hva : va < cur.length := by omega
  unfold insV
  obtain ⟨ya, hya⟩ : ∃ y, cur[va]? = some y := ⟨_, List.getElem?_eq_getElem hva⟩
  have IA : Hid (insF cur (va : Int) = ya) := by unfold insF Hid; rw [show (va : Int).toNat = va from rfl, hya]; rfl
  obtain ⟨cA, hcA⟩ : ∃ b, constM cur (va : Int) = b := ⟨_, rfl⟩
  obtain ⟨w0, hw0⟩ : ∃ w0, w0 = W.alloc (.cells #[.int .i64 op, .int .i64 va, .int .i64 xb, .int .i64 xc, .int .i64 xn, .int .i64 xe, .int .i64 k0, .int .i64 k1] 43) := ⟨_, rfl⟩
  have K0 : Hid (Below W.heap.size W w0) := by rw [hw0]; exact below_one _ _
  have X0 : Hid (w0.heap[W.heap.size]? = some (.cells #[.int .i64 op, .int .i64 va, .int .i64 xb, .int .i64 xc, .int .i64 xn, .int .i64 xe, .int .i64 k0, .int .i64 k1] 43 (0, 0))) := by rw [hw0]; exact heap_last _ _
  have H0 := Lib.hid (h.below K0.out)
  have hz0 : W.heap.size < w0.heap.size := (Array.getElem?_eq_some_iff.1 X0.out).1
  have CA := const_c H0.out hya
  obtain ⟨yo, y1, y2, y3, y4, y5, ⟨ka, na⟩⟩ := ya
  rw [hcA] at CA
  dsimp only at CA
  have HCA := Lib.hid CA
  have HW := Lib.hid hw0
  unfold reckonM
  dsimp only
  rw [hcA, IA.out]
  clear hw0 h CA hya hcA IA ha
  dsimp only
  cases cA
  · rw [if_pos rfl]
    go_enter Tryd.func94, Tryd.ntmps94
    go_upto_region 1 with fail
    rw [← HW.out]
    have x1 : w0.cell? ⟨W.heap.size, 1, none⟩ = some (.int .i64 va) := cell_of_row w0 W.heap.size 1 _ _ _ X0.out
    go_wp2_with fail
    refine HCA.out.mono ?_
    rintro e w1 ⟨rfl, k1'⟩
    have H1 := Lib.hid (H0.out.below k1')
    have K1 : Hid (Below W.heap.size W w1) := K0.out.trans (k1'.mono K0.out.size)
    have X1 : Hid (w1.heap[W.heap.size]? = some (.cells #[.int .i64 op, .int .i64 va, .int .i64 xb, .int .i64 xc, .int .i64 xn, .int .i64 xe, .int .i64 k0, .int .i64 k1] 43 (0, 0))) := (k1'.block _ (Array.getElem?_eq_some_iff.1 X0.out).1).trans X0.out
    clear k1' x1 H0 HCA HW
    obtain ⟨w2, hw2⟩ : ∃ w2, w2 = w1.alloc (.cells #[.int .i64 ka, .int .i64 na] 41) := ⟨_, rfl⟩
    have L2 : Hid (Below w1.heap.size w1 w2) := by rw [hw2]; exact below_one _ _
    have K2 : Hid (Below W.heap.size W w2) := K1.out.trans (L2.out.mono K1.out.size)
    have A2 : Hid (w2.heap[w1.heap.size]? = some (.cells #[.int .i64 ka, .int .i64 na] 41 (0, 0))) := by rw [hw2]; exact heap_last _ _
    have H2 := Lib.hid (H1.out.below L2.out)
    have HW2 := Lib.hid hw2
    clear hw2
    go_upto_region 2 with fail
    rw [← HW2.out]
    obtain ⟨oa, hoa⟩ : ∃ b, b = w1.heap.size := ⟨_, rfl⟩
    rw [← hoa] at A2
    rw [← hoa]
    have X2 : Hid (w2.heap[W.heap.size]? = some (.cells #[.int .i64 op, .int .i64 va, .int .i64 xb, .int .i64 xc, .int .i64 xn, .int .i64 xe, .int .i64 k0, .int .i64 k1] 43 (0, 0))) := (L2.out.block _ (Array.getElem?_eq_some_iff.1 X1.out).1).trans X1.out
    clear H1 L2 X1 hoa
    go_wp2_with fail
    go_ret
    exact ⟨rfl, K2.out⟩
  rw [if_neg (by decide)]
  have UC := fun W' => unary_c xn ⟨ka, na⟩ W'
  unfold GivesV at UC
  have UW := Lib.hid (unary_wf xn ⟨ka, na⟩)
  rcases hop with rfl | rfl
  rotate_left 1
  · rw [if_neg (by decide), show (foldE t.ins).U = unaryM from rfl]
    generalize unaryM xn ⟨ka, na⟩ = ur at UC UW ⊢
    obtain ⟨⟨uk, un⟩, ut⟩ := ur
    dsimp only at UC UW ⊢
    have HUC := Lib.hid UC
    clear UC hb
    by_cases hu : ut < 0
    · rw [if_pos hu]
      go_enter Tryd.func94, Tryd.ntmps94
      go_upto_region 1 with fail
      rw [← HW.out]
      have x1 : w0.cell? ⟨W.heap.size, 1, none⟩ = some (.int .i64 va) := cell_of_row w0 W.heap.size 1 _ _ _ X0.out
      go_wp2_with fail
      refine HCA.out.mono ?_
      rintro e w1 ⟨rfl, k1'⟩
      have H1 := Lib.hid (H0.out.below k1')
      have K1 : Hid (Below W.heap.size W w1) := K0.out.trans (k1'.mono K0.out.size)
      have X1 : Hid (w1.heap[W.heap.size]? = some (.cells #[.int .i64 8, .int .i64 va, .int .i64 xb, .int .i64 xc, .int .i64 xn, .int .i64 xe, .int .i64 k0, .int .i64 k1] 43 (0, 0))) := (k1'.block _ (Array.getElem?_eq_some_iff.1 X0.out).1).trans X0.out
      clear k1' x1 H0 HCA HW
      obtain ⟨w2, hw2⟩ : ∃ w2, w2 = w1.alloc (.cells #[.int .i64 ka, .int .i64 na] 41) := ⟨_, rfl⟩
      have L2 : Hid (Below w1.heap.size w1 w2) := by rw [hw2]; exact below_one _ _
      have K2 : Hid (Below W.heap.size W w2) := K1.out.trans (L2.out.mono K1.out.size)
      have A2 : Hid (w2.heap[w1.heap.size]? = some (.cells #[.int .i64 ka, .int .i64 na] 41 (0, 0))) := by rw [hw2]; exact heap_last _ _
      have H2 := Lib.hid (H1.out.below L2.out)
      have HW2 := Lib.hid hw2
      clear hw2
      go_upto_region 2 with fail
      rw [← HW2.out]
      obtain ⟨oa, hoa⟩ : ∃ b, b = w1.heap.size := ⟨_, rfl⟩
      rw [← hoa] at A2
      rw [← hoa]
      have X2 : Hid (w2.heap[W.heap.size]? = some (.cells #[.int .i64 8, .int .i64 va, .int .i64 xb, .int .i64 xc, .int .i64 xn, .int .i64 xe, .int .i64 k0, .int .i64 k1] 43 (0, 0))) := (L2.out.block _ (Array.getElem?_eq_some_iff.1 X1.out).1).trans X1.out
      clear H1 L2 X1 hoa
      have x4 : w2.cell? ⟨W.heap.size, 4, none⟩ = some (.int .i64 xn) := cell_of_row w2 W.heap.size 4 _ _ _ X2.out
      have RA : Hid (w2.rangeAt oa 0 [.int .i64 ka, .int .i64 na]) := (HeadAt.of_row A2.out).range
      go_wp2_with (first | (refine wpList_load_mid rfl 41 _ rfl oa 0 rfl [.int .i64 ka, .int .i64 na] _ RA.out Tryd.underlying41 rfl infoValC ?_) | fail)
      refine (HUC.out w2).mono ?_
      rintro e w3 ⟨rfl, k3⟩
      have H3 := Lib.hid (H2.out.below k3)
      have K3 : Hid (Below W.heap.size W w3) := K2.out.trans (k3.mono K2.out.size)
      have X3 : Hid (w3.heap[W.heap.size]? = some (.cells #[.int .i64 8, .int .i64 va, .int .i64 xb, .int .i64 xc, .int .i64 xn, .int .i64 xe, .int .i64 k0, .int .i64 k1] 43 (0, 0))) := (k3.block _ (Array.getElem?_eq_some_iff.1 X2.out).1).trans X2.out
      have A3 : Hid (w3.heap[oa]? = some (.cells #[.int .i64 ka, .int .i64 na] 41 (0, 0))) := (k3.block _ (Array.getElem?_eq_some_iff.1 A2.out).1).trans A2.out
      clear k3 x4 RA H2 HUC
      obtain ⟨w4, hw4⟩ : ∃ w4, w4 = w3.alloc (.cells #[.int .i64 uk, .int .i64 un] 41) := ⟨_, rfl⟩
      have L4 : Hid (Below w3.heap.size w3 w4) := by rw [hw4]; exact below_one _ _
      have K4 : Hid (Below W.heap.size W w4) := K3.out.trans (L4.out.mono K3.out.size)
      have U4 : Hid (w4.heap[w3.heap.size]? = some (.cells #[.int .i64 uk, .int .i64 un] 41 (0, 0))) := by rw [hw4]; exact heap_last _ _
      have H4 := Lib.hid (H3.out.below L4.out)
      have HW4 := Lib.hid hw4
      clear hw4
      go_upto_region 5 with fail
      rw [← HW4.out]
      obtain ⟨ou, hou⟩ : ∃ b, b = w3.heap.size := ⟨_, rfl⟩
      rw [← hou] at U4
      rw [← hou]
      have X4 : Hid (w4.heap[W.heap.size]? = some (.cells #[.int .i64 8, .int .i64 va, .int .i64 xb, .int .i64 xc, .int .i64 xn, .int .i64 xe, .int .i64 k0, .int .i64 k1] 43 (0, 0))) := (L4.out.block _ (Array.getElem?_eq_some_iff.1 X3.out).1).trans X3.out
      have A4 : Hid (w4.heap[oa]? = some (.cells #[.int .i64 ka, .int .i64 na] 41 (0, 0))) := (L4.out.block _ (Array.getElem?_eq_some_iff.1 A3.out).1).trans A3.out
      have hlt : oa < w3.heap.size := (Array.getElem?_eq_some_iff.1 A3.out).1
      rw [← hou] at hlt
      have hge : W.heap.size ≤ ou := by rw [hou]; exact K3.out.size
      clear H3 L4 X3 A3 hou
      have x0 : w4.cell? ⟨W.heap.size, 0, none⟩ = some (.int .i64 8) := cell_of_row w4 W.heap.size 0 _ _ _ X4.out
      go_upto_region 10 with fail
      clear x0
      have RU : Hid (w4.rangeAt ou 0 [.int .i64 uk, .int .i64 un]) := (HeadAt.of_row U4.out).range
      go_wp2_with (first | (refine wpList_load_mid rfl 41 _ rfl ou 0 rfl [.int .i64 uk, .int .i64 un] _ RU.out Tryd.underlying41 rfl infoValC ?_) | fail)
      refine (become_c H4.out hi ⟨uk, un⟩ UW.out).mono ?_
      rintro e w9 ⟨rfl, h9, f9⟩
      have H9 := Lib.hid h9
      have F9 : Hid (Fined G W w9) := (Fined.of_below K4.out).trans f9
      clear h9 f9
      go_wp2_with fail
      go_ret
      exact ⟨by simp_all, H9.out, F9.out⟩
    · rw [if_neg hu]
      go_enter Tryd.func94, Tryd.ntmps94
      go_upto_region 1 with fail
      rw [← HW.out]
      have x1 : w0.cell? ⟨W.heap.size, 1, none⟩ = some (.int .i64 va) := cell_of_row w0 W.heap.size 1 _ _ _ X0.out
      go_wp2_with fail
      refine HCA.out.mono ?_
      rintro e w1 ⟨rfl, k1'⟩
      have H1 := Lib.hid (H0.out.below k1')
      have K1 : Hid (Below W.heap.size W w1) := K0.out.trans (k1'.mono K0.out.size)
      have X1 : Hid (w1.heap[W.heap.size]? = some (.cells #[.int .i64 8, .int .i64 va, .int .i64 xb, .int .i64 xc, .int .i64 xn, .int .i64 xe, .int .i64 k0, .int .i64 k1] 43 (0, 0))) := (k1'.block _ (Array.getElem?_eq_some_iff.1 X0.out).1).trans X0.out
      clear k1' x1 H0 HCA HW
      obtain ⟨w2, hw2⟩ : ∃ w2, w2 = w1.alloc (.cells #[.int .i64 ka, .int .i64 na] 41) := ⟨_, rfl⟩
      have L2 : Hid (Below w1.heap.size w1 w2) := by rw [hw2]; exact below_one _ _
      have K2 : Hid (Below W.heap.size W w2) := K1.out.trans (L2.out.mono K1.out.size)
      have A2 : Hid (w2.heap[w1.heap.size]? = some (.cells #[.int .i64 ka, .int .i64 na] 41 (0, 0))) := by rw [hw2]; exact heap_last _ _
      have H2 := Lib.hid (H1.out.below L2.out)
      have HW2 := Lib.hid hw2
      clear hw2
      go_upto_region 2 with fail
      rw [← HW2.out]
      obtain ⟨oa, hoa⟩ : ∃ b, b = w1.heap.size := ⟨_, rfl⟩
      rw [← hoa] at A2
      rw [← hoa]
      have X2 : Hid (w2.heap[W.heap.size]? = some (.cells #[.int .i64 8, .int .i64 va, .int .i64 xb, .int .i64 xc, .int .i64 xn, .int .i64 xe, .int .i64 k0, .int .i64 k1] 43 (0, 0))) := (L2.out.block _ (Array.getElem?_eq_some_iff.1 X1.out).1).trans X1.out
      clear H1 L2 X1 hoa
      have x4 : w2.cell? ⟨W.heap.size, 4, none⟩ = some (.int .i64 xn) := cell_of_row w2 W.heap.size 4 _ _ _ X2.out
      have RA : Hid (w2.rangeAt oa 0 [.int .i64 ka, .int .i64 na]) := (HeadAt.of_row A2.out).range
      go_wp2_with (first | (refine wpList_load_mid rfl 41 _ rfl oa 0 rfl [.int .i64 ka, .int .i64 na] _ RA.out Tryd.underlying41 rfl infoValC ?_) | fail)
      refine (HUC.out w2).mono ?_
      rintro e w3 ⟨rfl, k3⟩
      have H3 := Lib.hid (H2.out.below k3)
      have K3 : Hid (Below W.heap.size W w3) := K2.out.trans (k3.mono K2.out.size)
      have X3 : Hid (w3.heap[W.heap.size]? = some (.cells #[.int .i64 8, .int .i64 va, .int .i64 xb, .int .i64 xc, .int .i64 xn, .int .i64 xe, .int .i64 k0, .int .i64 k1] 43 (0, 0))) := (k3.block _ (Array.getElem?_eq_some_iff.1 X2.out).1).trans X2.out
      have A3 : Hid (w3.heap[oa]? = some (.cells #[.int .i64 ka, .int .i64 na] 41 (0, 0))) := (k3.block _ (Array.getElem?_eq_some_iff.1 A2.out).1).trans A2.out
      clear k3 x4 RA H2 HUC
      obtain ⟨w4, hw4⟩ : ∃ w4, w4 = w3.alloc (.cells #[.int .i64 uk, .int .i64 un] 41) := ⟨_, rfl⟩
      have L4 : Hid (Below w3.heap.size w3 w4) := by rw [hw4]; exact below_one _ _
      have K4 : Hid (Below W.heap.size W w4) := K3.out.trans (L4.out.mono K3.out.size)
      have U4 : Hid (w4.heap[w3.heap.size]? = some (.cells #[.int .i64 uk, .int .i64 un] 41 (0, 0))) := by rw [hw4]; exact heap_last _ _
      have H4 := Lib.hid (H3.out.below L4.out)
      have HW4 := Lib.hid hw4
      clear hw4
      go_upto_region 5 with fail
      rw [← HW4.out]
      obtain ⟨ou, hou⟩ : ∃ b, b = w3.heap.size := ⟨_, rfl⟩
      rw [← hou] at U4
      rw [← hou]
      have X4 : Hid (w4.heap[W.heap.size]? = some (.cells #[.int .i64 8, .int .i64 va, .int .i64 xb, .int .i64 xc, .int .i64 xn, .int .i64 xe, .int .i64 k0, .int .i64 k1] 43 (0, 0))) := (L4.out.block _ (Array.getElem?_eq_some_iff.1 X3.out).1).trans X3.out
      have A4 : Hid (w4.heap[oa]? = some (.cells #[.int .i64 ka, .int .i64 na] 41 (0, 0))) := (L4.out.block _ (Array.getElem?_eq_some_iff.1 A3.out).1).trans A3.out
      have hlt : oa < w3.heap.size := (Array.getElem?_eq_some_iff.1 A3.out).1
      rw [← hou] at hlt
      have hge : W.heap.size ≤ ou := by rw [hou]; exact K3.out.size
      clear H3 L4 X3 A3 hou
      have x0 : w4.cell? ⟨W.heap.size, 0, none⟩ = some (.int .i64 8) := cell_of_row w4 W.heap.size 0 _ _ _ X4.out
      go_wp2_with fail
      go_ret
      exact ⟨by simp_all, K4.out⟩
  rw [if_pos rfl]
  obtain ⟨hb0, hb1⟩ := hb rfl
  clear hb
  obtain ⟨vb, rfl⟩ := Int.eq_ofNat_of_zero_le hb0
  have hvb : vb < cur.length := by omega
  obtain ⟨yb, hyb⟩ : ∃ y, cur[vb]? = some y := ⟨_, List.getElem?_eq_getElem hvb⟩
  have IB : Hid (insF cur (vb : Int) = yb) := by unfold insF Hid; rw [show (vb : Int).toNat = vb from rfl, hyb]; rfl
  obtain ⟨cB, hcB⟩ : ∃ b, constM cur (vb : Int) = b := ⟨_, rfl⟩
  rw [hcB, IB.out]
  have CB := fun W' (hW : FoldR W' B fb ca t (.slice (some ⟨G, 0, none⟩) n cG) uT cur tl) => const_c hW hyb
  obtain ⟨yo', z1, z2, z3, z4, z5, ⟨kb, nb⟩⟩ := yb
  rw [hcB] at CB
  dsimp only at CB ⊢
  have HCB := Lib.hid CB
  clear CB hyb hcB IB hb0 hb1 hvb
  generalize unaryM xn ⟨ka, na⟩ = ur at UC UW
  obtain ⟨⟨uk, un⟩, ut⟩ := ur
  dsimp only at UC
  have HUC := Lib.hid UC
  clear UC UW
  cases cB
  · rw [if_pos rfl]
    go_enter Tryd.func94, Tryd.ntmps94
    go_upto_region 1 with fail
    rw [← HW.out]
    have x1 : w0.cell? ⟨W.heap.size, 1, none⟩ = some (.int .i64 va) := cell_of_row w0 W.heap.size 1 _ _ _ X0.out
    go_wp2_with fail
    refine HCA.out.mono ?_
    rintro e w1 ⟨rfl, k1'⟩
    have H1 := Lib.hid (H0.out.below k1')
    have K1 : Hid (Below W.heap.size W w1) := K0.out.trans (k1'.mono K0.out.size)
    have X1 : Hid (w1.heap[W.heap.size]? = some (.cells #[.int .i64 7, .int .i64 va, .int .i64 vb, .int .i64 xc, .int .i64 xn, .int .i64 xe, .int .i64 k0, .int .i64 k1] 43 (0, 0))) := (k1'.block _ (Array.getElem?_eq_some_iff.1 X0.out).1).trans X0.out
    clear k1' x1 H0 HCA HW
    obtain ⟨w2, hw2⟩ : ∃ w2, w2 = w1.alloc (.cells #[.int .i64 ka, .int .i64 na] 41) := ⟨_, rfl⟩
    have L2 : Hid (Below w1.heap.size w1 w2) := by rw [hw2]; exact below_one _ _
    have K2 : Hid (Below W.heap.size W w2) := K1.out.trans (L2.out.mono K1.out.size)
    have A2 : Hid (w2.heap[w1.heap.size]? = some (.cells #[.int .i64 ka, .int .i64 na] 41 (0, 0))) := by rw [hw2]; exact heap_last _ _
    have H2 := Lib.hid (H1.out.below L2.out)
    have HW2 := Lib.hid hw2
    clear hw2
    go_upto_region 2 with fail
    rw [← HW2.out]
    obtain ⟨oa, hoa⟩ : ∃ b, b = w1.heap.size := ⟨_, rfl⟩
    rw [← hoa] at A2
    rw [← hoa]
    have X2 : Hid (w2.heap[W.heap.size]? = some (.cells #[.int .i64 7, .int .i64 va, .int .i64 vb, .int .i64 xc, .int .i64 xn, .int .i64 xe, .int .i64 k0, .int .i64 k1] 43 (0, 0))) := (L2.out.block _ (Array.getElem?_eq_some_iff.1 X1.out).1).trans X1.out
    clear H1 L2 X1 hoa
    have x4 : w2.cell? ⟨W.heap.size, 4, none⟩ = some (.int .i64 xn) := cell_of_row w2 W.heap.size 4 _ _ _ X2.out
    have RA : Hid (w2.rangeAt oa 0 [.int .i64 ka, .int .i64 na]) := (HeadAt.of_row A2.out).range
    go_wp2_with (first | (refine wpList_load_mid rfl 41 _ rfl oa 0 rfl [.int .i64 ka, .int .i64 na] _ RA.out Tryd.underlying41 rfl infoValC ?_) | fail)
    refine (HUC.out w2).mono ?_
    rintro e w3 ⟨rfl, k3⟩
    have H3 := Lib.hid (H2.out.below k3)
    have K3 : Hid (Below W.heap.size W w3) := K2.out.trans (k3.mono K2.out.size)
    have X3 : Hid (w3.heap[W.heap.size]? = some (.cells #[.int .i64 7, .int .i64 va, .int .i64 vb, .int .i64 xc, .int .i64 xn, .int .i64 xe, .int .i64 k0, .int .i64 k1] 43 (0, 0))) := (k3.block _ (Array.getElem?_eq_some_iff.1 X2.out).1).trans X2.out
    have A3 : Hid (w3.heap[oa]? = some (.cells #[.int .i64 ka, .int .i64 na] 41 (0, 0))) := (k3.block _ (Array.getElem?_eq_some_iff.1 A2.out).1).trans A2.out
    clear k3 x4 RA H2 HUC
    obtain ⟨w4, hw4⟩ : ∃ w4, w4 = w3.alloc (.cells #[.int .i64 uk, .int .i64 un] 41) := ⟨_, rfl⟩
    have L4 : Hid (Below w3.heap.size w3 w4) := by rw [hw4]; exact below_one _ _
    have K4 : Hid (Below W.heap.size W w4) := K3.out.trans (L4.out.mono K3.out.size)
    have U4 : Hid (w4.heap[w3.heap.size]? = some (.cells #[.int .i64 uk, .int .i64 un] 41 (0, 0))) := by rw [hw4]; exact heap_last _ _
    have H4 := Lib.hid (H3.out.below L4.out)
    have HW4 := Lib.hid hw4
    clear hw4
    go_upto_region 5 with fail
    rw [← HW4.out]
    obtain ⟨ou, hou⟩ : ∃ b, b = w3.heap.size := ⟨_, rfl⟩
    rw [← hou] at U4
    rw [← hou]
    have X4 : Hid (w4.heap[W.heap.size]? = some (.cells #[.int .i64 7, .int .i64 va, .int .i64 vb, .int .i64 xc, .int .i64 xn, .int .i64 xe, .int .i64 k0, .int .i64 k1] 43 (0, 0))) := (L4.out.block _ (Array.getElem?_eq_some_iff.1 X3.out).1).trans X3.out
    have A4 : Hid (w4.heap[oa]? = some (.cells #[.int .i64 ka, .int .i64 na] 41 (0, 0))) := (L4.out.block _ (Array.getElem?_eq_some_iff.1 A3.out).1).trans A3.out
    have hlt : oa < w3.heap.size := (Array.getElem?_eq_some_iff.1 A3.out).1
    rw [← hou] at hlt
    have hge : W.heap.size ≤ ou := by rw [hou]; exact K3.out.size
    clear H3 L4 X3 A3 hou
    have x0 : w4.cell? ⟨W.heap.size, 0, none⟩ = some (.int .i64 7) := cell_of_row w4 W.heap.size 0 _ _ _ X4.out
    go_upto_region 6 with fail
    clear x0
    have x2 : w4.cell? ⟨W.heap.size, 2, none⟩ = some (.int .i64 vb) := cell_of_row w4 W.heap.size 2 _ _ _ X4.out
    go_wp2_with fail
    refine (HCB.out w4 H4.out).mono ?_
    rintro e w5 ⟨rfl, k5⟩
    have H5 := Lib.hid (H4.out.below k5)
    have K5 : Hid (Below W.heap.size W w5) := K4.out.trans (k5.mono K4.out.size)
    have X5 : Hid (w5.heap[W.heap.size]? = some (.cells #[.int .i64 7, .int .i64 va, .int .i64 vb, .int .i64 xc, .int .i64 xn, .int .i64 xe, .int .i64 k0, .int .i64 k1] 43 (0, 0))) := (k5.block _ (Array.getElem?_eq_some_iff.1 X4.out).1).trans X4.out
    have A5 : Hid (w5.heap[oa]? = some (.cells #[.int .i64 ka, .int .i64 na] 41 (0, 0))) := (k5.block _ (Array.getElem?_eq_some_iff.1 A4.out).1).trans A4.out
    have U5 : Hid (w5.heap[ou]? = some (.cells #[.int .i64 uk, .int .i64 un] 41 (0, 0))) := (k5.block _ (Array.getElem?_eq_some_iff.1 U4.out).1).trans U4.out
    clear k5 x2 H4 HCB
    obtain ⟨w6, hw6⟩ : ∃ w6, w6 = w5.alloc (.cells #[.int .i64 kb, .int .i64 nb] 41) := ⟨_, rfl⟩
    have L6 : Hid (Below w5.heap.size w5 w6) := by rw [hw6]; exact below_one _ _
    have K6 : Hid (Below W.heap.size W w6) := K5.out.trans (L6.out.mono K5.out.size)
    have B6 : Hid (w6.heap[w5.heap.size]? = some (.cells #[.int .i64 kb, .int .i64 nb] 41 (0, 0))) := by rw [hw6]; exact heap_last _ _
    have H6 := Lib.hid (H5.out.below L6.out)
    have HW6 := Lib.hid hw6
    clear hw6
    go_upto_region 7 with fail
    rw [← HW6.out]
    obtain ⟨ob, hob⟩ : ∃ b, b = w5.heap.size := ⟨_, rfl⟩
    rw [← hob] at B6
    rw [← hob]
    have X6 : Hid (w6.heap[W.heap.size]? = some (.cells #[.int .i64 7, .int .i64 va, .int .i64 vb, .int .i64 xc, .int .i64 xn, .int .i64 xe, .int .i64 k0, .int .i64 k1] 43 (0, 0))) := (L6.out.block _ (Array.getElem?_eq_some_iff.1 X5.out).1).trans X5.out
    have A6 : Hid (w6.heap[oa]? = some (.cells #[.int .i64 ka, .int .i64 na] 41 (0, 0))) := (L6.out.block _ (Array.getElem?_eq_some_iff.1 A5.out).1).trans A5.out
    have U6 : Hid (w6.heap[ou]? = some (.cells #[.int .i64 uk, .int .i64 un] 41 (0, 0))) := (L6.out.block _ (Array.getElem?_eq_some_iff.1 U5.out).1).trans U5.out
    clear H5 L6 X5 A5 U5 hob
    go_wp2_with fail
    go_ret
    exact ⟨rfl, K6.out⟩
  rw [if_neg (by decide)]
  have BC := fun W' => binary_c xn ⟨ka, na⟩ ⟨kb, nb⟩ W'
  unfold GivesV at BC
  have BW := Lib.hid (binary_wf xn ⟨ka, na⟩ ⟨kb, nb⟩)
  rw [show (foldE t.ins).B = binaryM from rfl]
  generalize binaryM xn ⟨ka, na⟩ ⟨kb, nb⟩ = br at BC BW ⊢
  obtain ⟨⟨bk, bn⟩, bt⟩ := br
  dsimp only at BC BW ⊢
  have HBC := Lib.hid BC
  clear BC
  by_cases hu : bt < 0
  · rw [if_pos hu]
    go_enter Tryd.func94, Tryd.ntmps94
    go_upto_region 1 with fail
    rw [← HW.out]
    have x1 : w0.cell? ⟨W.heap.size, 1, none⟩ = some (.int .i64 va) := cell_of_row w0 W.heap.size 1 _ _ _ X0.out
    go_wp2_with fail
    refine HCA.out.mono ?_
    rintro e w1 ⟨rfl, k1'⟩
    have H1 := Lib.hid (H0.out.below k1')
    have K1 : Hid (Below W.heap.size W w1) := K0.out.trans (k1'.mono K0.out.size)
    have X1 : Hid (w1.heap[W.heap.size]? = some (.cells #[.int .i64 7, .int .i64 va, .int .i64 vb, .int .i64 xc, .int .i64 xn, .int .i64 xe, .int .i64 k0, .int .i64 k1] 43 (0, 0))) := (k1'.block _ (Array.getElem?_eq_some_iff.1 X0.out).1).trans X0.out
    clear k1' x1 H0 HCA HW
    obtain ⟨w2, hw2⟩ : ∃ w2, w2 = w1.alloc (.cells #[.int .i64 ka, .int .i64 na] 41) := ⟨_, rfl⟩
    have L2 : Hid (Below w1.heap.size w1 w2) := by rw [hw2]; exact below_one _ _
    have K2 : Hid (Below W.heap.size W w2) := K1.out.trans (L2.out.mono K1.out.size)
    have A2 : Hid (w2.heap[w1.heap.size]? = some (.cells #[.int .i64 ka, .int .i64 na] 41 (0, 0))) := by rw [hw2]; exact heap_last _ _
    have H2 := Lib.hid (H1.out.below L2.out)
    have HW2 := Lib.hid hw2
    clear hw2
    go_upto_region 2 with fail
    rw [← HW2.out]
    obtain ⟨oa, hoa⟩ : ∃ b, b = w1.heap.size := ⟨_, rfl⟩
    rw [← hoa] at A2
    rw [← hoa]
    have X2 : Hid (w2.heap[W.heap.size]? = some (.cells #[.int .i64 7, .int .i64 va, .int .i64 vb, .int .i64 xc, .int .i64 xn, .int .i64 xe, .int .i64 k0, .int .i64 k1] 43 (0, 0))) := (L2.out.block _ (Array.getElem?_eq_some_iff.1 X1.out).1).trans X1.out
    clear H1 L2 X1 hoa
    have x4 : w2.cell? ⟨W.heap.size, 4, none⟩ = some (.int .i64 xn) := cell_of_row w2 W.heap.size 4 _ _ _ X2.out
    have RA : Hid (w2.rangeAt oa 0 [.int .i64 ka, .int .i64 na]) := (HeadAt.of_row A2.out).range
    go_wp2_with (first | (refine wpList_load_mid rfl 41 _ rfl oa 0 rfl [.int .i64 ka, .int .i64 na] _ RA.out Tryd.underlying41 rfl infoValC ?_) | fail)
    refine (HUC.out w2).mono ?_
    rintro e w3 ⟨rfl, k3⟩
    have H3 := Lib.hid (H2.out.below k3)
    have K3 : Hid (Below W.heap.size W w3) := K2.out.trans (k3.mono K2.out.size)
    have X3 : Hid (w3.heap[W.heap.size]? = some (.cells #[.int .i64 7, .int .i64 va, .int .i64 vb, .int .i64 xc, .int .i64 xn, .int .i64 xe, .int .i64 k0, .int .i64 k1] 43 (0, 0))) := (k3.block _ (Array.getElem?_eq_some_iff.1 X2.out).1).trans X2.out
    have A3 : Hid (w3.heap[oa]? = some (.cells #[.int .i64 ka, .int .i64 na] 41 (0, 0))) := (k3.block _ (Array.getElem?_eq_some_iff.1 A2.out).1).trans A2.out
    clear k3 x4 RA H2 HUC
    obtain ⟨w4, hw4⟩ : ∃ w4, w4 = w3.alloc (.cells #[.int .i64 uk, .int .i64 un] 41) := ⟨_, rfl⟩
    have L4 : Hid (Below w3.heap.size w3 w4) := by rw [hw4]; exact below_one _ _
    have K4 : Hid (Below W.heap.size W w4) := K3.out.trans (L4.out.mono K3.out.size)
    have U4 : Hid (w4.heap[w3.heap.size]? = some (.cells #[.int .i64 uk, .int .i64 un] 41 (0, 0))) := by rw [hw4]; exact heap_last _ _
    have H4 := Lib.hid (H3.out.below L4.out)
    have HW4 := Lib.hid hw4
    clear hw4
    go_upto_region 5 with fail
    rw [← HW4.out]
    obtain ⟨ou, hou⟩ : ∃ b, b = w3.heap.size := ⟨_, rfl⟩
    rw [← hou] at U4
    rw [← hou]
    have X4 : Hid (w4.heap[W.heap.size]? = some (.cells #[.int .i64 7, .int .i64 va, .int .i64 vb, .int .i64 xc, .int .i64 xn, .int .i64 xe, .int .i64 k0, .int .i64 k1] 43 (0, 0))) := (L4.out.block _ (Array.getElem?_eq_some_iff.1 X3.out).1).trans X3.out
    have A4 : Hid (w4.heap[oa]? = some (.cells #[.int .i64 ka, .int .i64 na] 41 (0, 0))) := (L4.out.block _ (Array.getElem?_eq_some_iff.1 A3.out).1).trans A3.out
    have hlt : oa < w3.heap.size := (Array.getElem?_eq_some_iff.1 A3.out).1
    rw [← hou] at hlt
    have hge : W.heap.size ≤ ou := by rw [hou]; exact K3.out.size
    clear H3 L4 X3 A3 hou
    have x0 : w4.cell? ⟨W.heap.size, 0, none⟩ = some (.int .i64 7) := cell_of_row w4 W.heap.size 0 _ _ _ X4.out
    go_upto_region 6 with fail
    clear x0
    have x2 : w4.cell? ⟨W.heap.size, 2, none⟩ = some (.int .i64 vb) := cell_of_row w4 W.heap.size 2 _ _ _ X4.out
    go_wp2_with fail
    refine (HCB.out w4 H4.out).mono ?_
    rintro e w5 ⟨rfl, k5⟩
    have H5 := Lib.hid (H4.out.below k5)
    have K5 : Hid (Below W.heap.size W w5) := K4.out.trans (k5.mono K4.out.size)
    have X5 : Hid (w5.heap[W.heap.size]? = some (.cells #[.int .i64 7, .int .i64 va, .int .i64 vb, .int .i64 xc, .int .i64 xn, .int .i64 xe, .int .i64 k0, .int .i64 k1] 43 (0, 0))) := (k5.block _ (Array.getElem?_eq_some_iff.1 X4.out).1).trans X4.out
    have A5 : Hid (w5.heap[oa]? = some (.cells #[.int .i64 ka, .int .i64 na] 41 (0, 0))) := (k5.block _ (Array.getElem?_eq_some_iff.1 A4.out).1).trans A4.out
    have U5 : Hid (w5.heap[ou]? = some (.cells #[.int .i64 uk, .int .i64 un] 41 (0, 0))) := (k5.block _ (Array.getElem?_eq_some_iff.1 U4.out).1).trans U4.out
    clear k5 x2 H4 HCB
    obtain ⟨w6, hw6⟩ : ∃ w6, w6 = w5.alloc (.cells #[.int .i64 kb, .int .i64 nb] 41) := ⟨_, rfl⟩
    have L6 : Hid (Below w5.heap.size w5 w6) := by rw [hw6]; exact below_one _ _
    have K6 : Hid (Below W.heap.size W w6) := K5.out.trans (L6.out.mono K5.out.size)
    have B6 : Hid (w6.heap[w5.heap.size]? = some (.cells #[.int .i64 kb, .int .i64 nb] 41 (0, 0))) := by rw [hw6]; exact heap_last _ _
    have H6 := Lib.hid (H5.out.below L6.out)
    have HW6 := Lib.hid hw6
    clear hw6
    go_upto_region 7 with fail
    rw [← HW6.out]
    obtain ⟨ob, hob⟩ : ∃ b, b = w5.heap.size := ⟨_, rfl⟩
    rw [← hob] at B6
    rw [← hob]
    have X6 : Hid (w6.heap[W.heap.size]? = some (.cells #[.int .i64 7, .int .i64 va, .int .i64 vb, .int .i64 xc, .int .i64 xn, .int .i64 xe, .int .i64 k0, .int .i64 k1] 43 (0, 0))) := (L6.out.block _ (Array.getElem?_eq_some_iff.1 X5.out).1).trans X5.out
    have A6 : Hid (w6.heap[oa]? = some (.cells #[.int .i64 ka, .int .i64 na] 41 (0, 0))) := (L6.out.block _ (Array.getElem?_eq_some_iff.1 A5.out).1).trans A5.out
    have U6 : Hid (w6.heap[ou]? = some (.cells #[.int .i64 uk, .int .i64 un] 41 (0, 0))) := (L6.out.block _ (Array.getElem?_eq_some_iff.1 U5.out).1).trans U5.out
    clear H5 L6 X5 A5 U5 hob
    go_upto_region 9 with fail
    have x4 : w6.cell? ⟨W.heap.size, 4, none⟩ = some (.int .i64 xn) := cell_of_row w6 W.heap.size 4 _ _ _ X6.out
    have RA : Hid (w6.rangeAt oa 0 [.int .i64 ka, .int .i64 na]) := (HeadAt.of_row A6.out).range
    have RB : Hid (w6.rangeAt ob 0 [.int .i64 kb, .int .i64 nb]) := (HeadAt.of_row B6.out).range
    go_wp2_with (first | (refine wpList_load_mid rfl 41 _ rfl oa 0 rfl [.int .i64 ka, .int .i64 na] _ RA.out Tryd.underlying41 rfl infoValC ?_) | (refine wpList_load_mid rfl 41 _ rfl ob 0 rfl [.int .i64 kb, .int .i64 nb] _ RB.out Tryd.underlying41 rfl infoValC ?_) | fail)
    refine (HBC.out w6).mono ?_
    rintro e w7 ⟨rfl, k7⟩
    have H7 := Lib.hid (H6.out.below k7)
    have K7 : Hid (Below W.heap.size W w7) := K6.out.trans (k7.mono K6.out.size)
    have X7 : Hid (w7.heap[W.heap.size]? = some (.cells #[.int .i64 7, .int .i64 va, .int .i64 vb, .int .i64 xc, .int .i64 xn, .int .i64 xe, .int .i64 k0, .int .i64 k1] 43 (0, 0))) := (k7.block _ (Array.getElem?_eq_some_iff.1 X6.out).1).trans X6.out
    have U7 : Hid (w7.heap[ou]? = some (.cells #[.int .i64 uk, .int .i64 un] 41 (0, 0))) := (k7.block _ (Array.getElem?_eq_some_iff.1 U6.out).1).trans U6.out
    clear k7 x4 RA RB H6 HBC
    go_upto_region 10 with (first | (refine wpList_store_row rfl 41 _ _ rfl ou #[.int .i64 bk, .int .i64 bn] rfl rfl 41 _ U7.out infoValC rfl (all_oneCell_toArray (by simp [Value.oneCell'])) ?_) | fail)
    generalize hw8 : World.setRow _ _ _ = w8
    have H8 : Hid (FoldR w8 B fb ca t (.slice (some ⟨G, 0, none⟩) n cG) uT cur tl) := by
      rw [← hw8]
      exact H7.out.setRow ⟨by have := HG.out; omega, by have := HG.out; omega, HTg.out ou hge⟩ _
    have K8 : Hid (Below W.heap.size W w8) := by rw [← hw8]; exact Below.set_row K7.out (by omega) _
    have U8 : Hid (w8.heap[ou]? = some (.cells #[.int .i64 bk, .int .i64 bn] 41 (0, 0))) := by rw [← hw8]; exact setRow_heap _ _ _ _ _ _ U7.out
    clear hw8 H7
    (try dsimp only [Act.put])
    have RU : Hid (w8.rangeAt ou 0 [.int .i64 bk, .int .i64 bn]) := (HeadAt.of_row U8.out).range
    go_wp2_with (first | (refine wpList_load_mid rfl 41 _ rfl ou 0 rfl [.int .i64 bk, .int .i64 bn] _ RU.out Tryd.underlying41 rfl infoValC ?_) | fail)
    refine (become_c H8.out hi ⟨bk, bn⟩ BW.out).mono ?_
    rintro e w9 ⟨rfl, h9, f9⟩
    have H9 := Lib.hid h9
    have F9 : Hid (Fined G W w9) := (Fined.of_below K8.out).trans f9
    clear h9 f9
    go_wp2_with fail
    go_ret
    exact ⟨by simp_all, H9.out, F9.out⟩
  · rw [if_neg hu]
    go_enter Tryd.func94, Tryd.ntmps94
    go_upto_region 1 with fail
    rw [← HW.out]
    have x1 : w0.cell? ⟨W.heap.size, 1, none⟩ = some (.int .i64 va) := cell_of_row w0 W.heap.size 1 _ _ _ X0.out
    go_wp2_with fail
    refine HCA.out.mono ?_
    rintro e w1 ⟨rfl, k1'⟩
    have H1 := Lib.hid (H0.out.below k1')
    have K1 : Hid (Below W.heap.size W w1) := K0.out.trans (k1'.mono K0.out.size)
    have X1 : Hid (w1.heap[W.heap.size]? = some (.cells #[.int .i64 7, .int .i64 va, .int .i64 vb, .int .i64 xc, .int .i64 xn, .int .i64 xe, .int .i64 k0, .int .i64 k1] 43 (0, 0))) := (k1'.block _ (Array.getElem?_eq_some_iff.1 X0.out).1).trans X0.out
    clear k1' x1 H0 HCA HW
    obtain ⟨w2, hw2⟩ : ∃ w2, w2 = w1.alloc (.cells #[.int .i64 ka, .int .i64 na] 41) := ⟨_, rfl⟩
    have L2 : Hid (Below w1.heap.size w1 w2) := by rw [hw2]; exact below_one _ _
    have K2 : Hid (Below W.heap.size W w2) := K1.out.trans (L2.out.mono K1.out.size)
    have A2 : Hid (w2.heap[w1.heap.size]? = some (.cells #[.int .i64 ka, .int .i64 na] 41 (0, 0))) := by rw [hw2]; exact heap_last _ _
    have H2 := Lib.hid (H1.out.below L2.out)
    have HW2 := Lib.hid hw2
    clear hw2
    go_upto_region 2 with fail
    rw [← HW2.out]
    obtain ⟨oa, hoa⟩ : ∃ b, b = w1.heap.size := ⟨_, rfl⟩
    rw [← hoa] at A2
    rw [← hoa]
    have X2 : Hid (w2.heap[W.heap.size]? = some (.cells #[.int .i64 7, .int .i64 va, .int .i64 vb, .int .i64 xc, .int .i64 xn, .int .i64 xe, .int .i64 k0, .int .i64 k1] 43 (0, 0))) := (L2.out.block _ (Array.getElem?_eq_some_iff.1 X1.out).1).trans X1.out
    clear H1 L2 X1 hoa
    have x4 : w2.cell? ⟨W.heap.size, 4, none⟩ = some (.int .i64 xn) := cell_of_row w2 W.heap.size 4 _ _ _ X2.out
    have RA : Hid (w2.rangeAt oa 0 [.int .i64 ka, .int .i64 na]) := (HeadAt.of_row A2.out).range
    go_wp2_with (first | (refine wpList_load_mid rfl 41 _ rfl oa 0 rfl [.int .i64 ka, .int .i64 na] _ RA.out Tryd.underlying41 rfl infoValC ?_) | fail)
    refine (HUC.out w2).mono ?_
    rintro e w3 ⟨rfl, k3⟩
    have H3 := Lib.hid (H2.out.below k3)
    have K3 : Hid (Below W.heap.size W w3) := K2.out.trans (k3.mono K2.out.size)
    have X3 : Hid (w3.heap[W.heap.size]? = some (.cells #[.int .i64 7, .int .i64 va, .int .i64 vb, .int .i64 xc, .int .i64 xn, .int .i64 xe, .int .i64 k0, .int .i64 k1] 43 (0, 0))) := (k3.block _ (Array.getElem?_eq_some_iff.1 X2.out).1).trans X2.out
    have A3 : Hid (w3.heap[oa]? = some (.cells #[.int .i64 ka, .int .i64 na] 41 (0, 0))) := (k3.block _ (Array.getElem?_eq_some_iff.1 A2.out).1).trans A2.out
    clear k3 x4 RA H2 HUC
    obtain ⟨w4, hw4⟩ : ∃ w4, w4 = w3.alloc (.cells #[.int .i64 uk, .int .i64 un] 41) := ⟨_, rfl⟩
    have L4 : Hid (Below w3.heap.size w3 w4) := by rw [hw4]; exact below_one _ _
    have K4 : Hid (Below W.heap.size W w4) := K3.out.trans (L4.out.mono K3.out.size)
    have U4 : Hid (w4.heap[w3.heap.size]? = some (.cells #[.int .i64 uk, .int .i64 un] 41 (0, 0))) := by rw [hw4]; exact heap_last _ _
    have H4 := Lib.hid (H3.out.below L4.out)
    have HW4 := Lib.hid hw4
    clear hw4
    go_upto_region 5 with fail
    rw [← HW4.out]
    obtain ⟨ou, hou⟩ : ∃ b, b = w3.heap.size := ⟨_, rfl⟩
    rw [← hou] at U4
    rw [← hou]
    have X4 : Hid (w4.heap[W.heap.size]? = some (.cells #[.int .i64 7, .int .i64 va, .int .i64 vb, .int .i64 xc, .int .i64 xn, .int .i64 xe, .int .i64 k0, .int .i64 k1] 43 (0, 0))) := (L4.out.block _ (Array.getElem?_eq_some_iff.1 X3.out).1).trans X3.out
    have A4 : Hid (w4.heap[oa]? = some (.cells #[.int .i64 ka, .int .i64 na] 41 (0, 0))) := (L4.out.block _ (Array.getElem?_eq_some_iff.1 A3.out).1).trans A3.out
    have hlt : oa < w3.heap.size := (Array.getElem?_eq_some_iff.1 A3.out).1
    rw [← hou] at hlt
    have hge : W.heap.size ≤ ou := by rw [hou]; exact K3.out.size
    clear H3 L4 X3 A3 hou
    have x0 : w4.cell? ⟨W.heap.size, 0, none⟩ = some (.int .i64 7) := cell_of_row w4 W.heap.size 0 _ _ _ X4.out
    go_upto_region 6 with fail
    clear x0
    have x2 : w4.cell? ⟨W.heap.size, 2, none⟩ = some (.int .i64 vb) := cell_of_row w4 W.heap.size 2 _ _ _ X4.out
    go_wp2_with fail
    refine (HCB.out w4 H4.out).mono ?_
    rintro e w5 ⟨rfl, k5⟩
    have H5 := Lib.hid (H4.out.below k5)
    have K5 : Hid (Below W.heap.size W w5) := K4.out.trans (k5.mono K4.out.size)
    have X5 : Hid (w5.heap[W.heap.size]? = some (.cells #[.int .i64 7, .int .i64 va, .int .i64 vb, .int .i64 xc, .int .i64 xn, .int .i64 xe, .int .i64 k0, .int .i64 k1] 43 (0, 0))) := (k5.block _ (Array.getElem?_eq_some_iff.1 X4.out).1).trans X4.out
    have A5 : Hid (w5.heap[oa]? = some (.cells #[.int .i64 ka, .int .i64 na] 41 (0, 0))) := (k5.block _ (Array.getElem?_eq_some_iff.1 A4.out).1).trans A4.out
    have U5 : Hid (w5.heap[ou]? = some (.cells #[.int .i64 uk, .int .i64 un] 41 (0, 0))) := (k5.block _ (Array.getElem?_eq_some_iff.1 U4.out).1).trans U4.out
    clear k5 x2 H4 HCB
    obtain ⟨w6, hw6⟩ : ∃ w6, w6 = w5.alloc (.cells #[.int .i64 kb, .int .i64 nb] 41) := ⟨_, rfl⟩
    have L6 : Hid (Below w5.heap.size w5 w6) := by rw [hw6]; exact below_one _ _
    have K6 : Hid (Below W.heap.size W w6) := K5.out.trans (L6.out.mono K5.out.size)
    have B6 : Hid (w6.heap[w5.heap.size]? = some (.cells #[.int .i64 kb, .int .i64 nb] 41 (0, 0))) := by rw [hw6]; exact heap_last _ _
    have H6 := Lib.hid (H5.out.below L6.out)
    have HW6 := Lib.hid hw6
    clear hw6
    go_upto_region 7 with fail
    rw [← HW6.out]
    obtain ⟨ob, hob⟩ : ∃ b, b = w5.heap.size := ⟨_, rfl⟩
    rw [← hob] at B6
    rw [← hob]
    have X6 : Hid (w6.heap[W.heap.size]? = some (.cells #[.int .i64 7, .int .i64 va, .int .i64 vb, .int .i64 xc, .int .i64 xn, .int .i64 xe, .int .i64 k0, .int .i64 k1] 43 (0, 0))) := (L6.out.block _ (Array.getElem?_eq_some_iff.1 X5.out).1).trans X5.out
    have A6 : Hid (w6.heap[oa]? = some (.cells #[.int .i64 ka, .int .i64 na] 41 (0, 0))) := (L6.out.block _ (Array.getElem?_eq_some_iff.1 A5.out).1).trans A5.out
    have U6 : Hid (w6.heap[ou]? = some (.cells #[.int .i64 uk, .int .i64 un] 41 (0, 0))) := (L6.out.block _ (Array.getElem?_eq_some_iff.1 U5.out).1).trans U5.out
    clear H5 L6 X5 A5 U5 hob
    go_upto_region 9 with fail
    have x4 : w6.cell? ⟨W.heap.size, 4, none⟩ = some (.int .i64 xn) := cell_of_row w6 W.heap.size 4 _ _ _ X6.out
    have RA : Hid (w6.rangeAt oa 0 [.int .i64 ka, .int .i64 na]) := (HeadAt.of_row A6.out).range
    have RB : Hid (w6.rangeAt ob 0 [.int .i64 kb, .int .i64 nb]) := (HeadAt.of_row B6.out).range
    go_wp2_with (first | (refine wpList_load_mid rfl 41 _ rfl oa 0 rfl [.int .i64 ka, .int .i64 na] _ RA.out Tryd.underlying41 rfl infoValC ?_) | (refine wpList_load_mid rfl 41 _ rfl ob 0 rfl [.int .i64 kb, .int .i64 nb] _ RB.out Tryd.underlying41 rfl infoValC ?_) | fail)
    refine (HBC.out w6).mono ?_
    rintro e w7 ⟨rfl, k7⟩
    have H7 := Lib.hid (H6.out.below k7)
    have K7 : Hid (Below W.heap.size W w7) := K6.out.trans (k7.mono K6.out.size)
    have X7 : Hid (w7.heap[W.heap.size]? = some (.cells #[.int .i64 7, .int .i64 va, .int .i64 vb, .int .i64 xc, .int .i64 xn, .int .i64 xe, .int .i64 k0, .int .i64 k1] 43 (0, 0))) := (k7.block _ (Array.getElem?_eq_some_iff.1 X6.out).1).trans X6.out
    have U7 : Hid (w7.heap[ou]? = some (.cells #[.int .i64 uk, .int .i64 un] 41 (0, 0))) := (k7.block _ (Array.getElem?_eq_some_iff.1 U6.out).1).trans U6.out
    clear k7 x4 RA RB H6 HBC
    go_upto_region 10 with (first | (refine wpList_store_row rfl 41 _ _ rfl ou #[.int .i64 bk, .int .i64 bn] rfl rfl 41 _ U7.out infoValC rfl (all_oneCell_toArray (by simp [Value.oneCell'])) ?_) | fail)
    generalize hw8 : World.setRow _ _ _ = w8
    have H8 : Hid (FoldR w8 B fb ca t (.slice (some ⟨G, 0, none⟩) n cG) uT cur tl) := by
      rw [← hw8]
      exact H7.out.setRow ⟨by have := HG.out; omega, by have := HG.out; omega, HTg.out ou hge⟩ _
    have K8 : Hid (Below W.heap.size W w8) := by rw [← hw8]; exact Below.set_row K7.out (by omega) _
    have U8 : Hid (w8.heap[ou]? = some (.cells #[.int .i64 bk, .int .i64 bn] 41 (0, 0))) := by rw [← hw8]; exact setRow_heap _ _ _ _ _ _ U7.out
    clear hw8 H7
    (try dsimp only [Act.put])
    go_wp2_with fail
    go_ret
    exact ⟨by simp_all, K8.out⟩
end
end Go.Proofs.YtmccomeihnaanaaDoor
