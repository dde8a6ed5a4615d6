/- span: whole, ints, and the smaller ones. -/
import Derived.Test.YtmccomeihnaanaaDoorSpanA
import Derived.Test.YtmccomeihnaanaaDoorKindV
import Derived.Test.YtmccomeihnaanaaDoorCseB
namespace Go.Proofs.YtmccomeihnaanaaDoor
open Go.RowKit Go.Maps

theorem MapAt.below {W W' : World} {mb : Nat} {ins : List TIns} {L : List (Nat × Nat)} (h : MapAt W mb ins L) (k : Below W.heap.size W W') : MapAt W' mb ins L := ⟨map_below h.own k, h.nodup, h.small⟩
theorem MapAt.set_ {W : World} {mb : Nat} {ins : List TIns} {L : List (Nat × Nat)} (h : MapAt W mb ins L) {g : Nat} (hg : mb ≠ g) (i : Nat) (u : Value) : MapAt (W.setCell ⟨g, i, none⟩ u) mb ins L := ⟨map_set h.own hg i u, h.nodup, h.small⟩
/-- a finder's block: the trace, and the map -/
structure FindR (W : World) (B fb mb : Nat) (ca : List Value) (t : TTrace) : Prop where
  row : W.heap[fb]? = some (.cells ⟨ca ++ [.map (some mb)]⟩ 111 (0, 0))
  tr : TraceR W B ca t
  hB : B ≤ fb
  hM : B ≤ mb
  ne : fb ≠ mb
section
variable {W W' : World} {B fb mb : Nat} {ca : List Value} {t : TTrace}
theorem FindR.lt (h : FindR W B fb mb ca t) : fb < W.heap.size := (Array.getElem?_eq_some_iff.1 h.row).1
theorem FindR.fined (h : FindR W B fb mb ca t) (k : Fined mb W W') : FindR W' B fb mb ca t :=
  ⟨k.row h.row h.ne, h.tr.keep (Nat.le_refl _) (fun p hp => (k.under (B := B) h.hM (Nat.le_trans h.hB (Nat.le_of_lt h.lt))).cell hp), h.hB, h.hM, h.ne⟩
theorem FindR.below (h : FindR W B fb mb ca t) (k : Below W.heap.size W W') : FindR W' B fb mb ca t := h.fined (.of_below k)
theorem FindR.trace (h : FindR W B fb mb ca t) : TraceR W W.heap.size ca t := h.tr.keep (Nat.le_trans h.hB (Nat.le_of_lt h.lt)) (fun _ _ => rfl)
theorem FindR.head (h : FindR W B fb mb ca t) : HeadAt W fb ca := fun i v hv => HeadAt.of_row h.row i v (by rw [List.getElem?_append_left (List.getElem?_eq_some_iff.1 hv).1]; exact hv)
theorem FindR.kept (h : FindR W B fb mb ca t) : W.cell? ⟨fb, 13, none⟩ = some (.map (some mb)) := by
  refine HeadAt.of_row h.row 13 _ ?_
  obtain ⟨i, e, ct, cb, rfl, -, -, ⟨_, _, rfl, -⟩, ⟨_, _, rfl, -⟩, -⟩ := h.tr
  rfl
end
set_option maxHeartbeats 1000000 in
set_option maxRecDepth 100000 in
theorem whole_c {W : World} {B fb mb : Nat} {ca : List Value} {t : TTrace} (h : FindR W B fb mb ca t) (v a : Int) (h1 : -9223372036854775808 ≤ a) (h2 : a ≤ 9223372036854775807) :
    Calls Tryd.prog 118 #[.pointer (some ⟨fb, 0, none⟩), .int .i64 v, .int .i64 a] W (Gives (.bool (kindM t.ins v a == 2)) W) := by
  have HR := Lib.hid h.head.range
  have HI := Lib.hid h.tr.size13
  have KC := Lib.hid (kind_c ca t (v.toNat + 1) v a W (by omega) h.trace h1 h2)
  have hlt := h.lt
  clear h
  go_enter Tryd.func118, Tryd.ntmps118
  go_wp2_with (first | (refine wpList_load_mid rfl 34 _ rfl fb 0 rfl ca _ HR.out Tryd.underlying34 rfl HI.out ?_) | fail)
  refine KC.out.mono ?_
  rintro e w1 ⟨rfl, k1⟩
  have K1 := Lib.hid k1
  clear k1
  go_wp2_with fail
  go_ret
  exact ⟨rfl, K1.out⟩
set_option maxHeartbeats 1000000 in
set_option maxRecDepth 100000 in
theorem ints_c {W : World} {B fb mb : Nat} {ca : List Value} {t : TTrace} (h : FindR W B fb mb ca t) {i : Nat} {x : TIns} (hx : t.ins[i]? = some x) (hl : t.ins.length ≤ 300) :
    Calls Tryd.prog 87 #[.pointer (some ⟨fb, 0, none⟩), .int .i64 (i : Int)] W (Gives (.bool (intsM t.ins i)) W) := by
  have hin : i < t.ins.length := (List.getElem?_eq_some_iff.1 hx).1
  have hii : (i : Int) < t.ins.length := by omega
  have hil : (t.ins.length : Int) ≤ 300 := by omega
  have hsp : Hid (intsM t.ins i = (kindM t.ins x.a i == 2 && kindM t.ins x.b i == 2)) := by unfold intsM Hid; rw [(insAt_some hx).1]
  obtain ⟨Ai, ni, p3, qi⟩ := h.tr.at3
  obtain ⟨b, off, y, rfl, hb, hy, wx, hat⟩ := ins_op qi hin
  obtain rfl : y = x := by rw [hx] at hy; injection hy with hy; exact hy.symm
  have l3 := h.head 3 _ p3
  have hlt := h.lt
  have hbz : b < W.heap.size := by have := h.hB; omega
  have g0 : W.cell? ⟨b, off + i * 8, none⟩ = some (.int .i64 y.op) := hat 0 _ rfl
  have g1 : W.cell? ⟨b, off + i * 8 + 1, none⟩ = some (.int .i64 y.a) := hat 1 _ rfl
  have g2 : W.cell? ⟨b, off + i * 8 + 2, none⟩ = some (.int .i64 y.b) := hat 2 _ rfl
  have g3 : W.cell? ⟨b, off + i * 8 + 3, none⟩ = some (.int .i64 y.c) := hat 3 _ rfl
  have g4 : W.cell? ⟨b, off + i * 8 + 4, none⟩ = some (.int .i64 y.n) := hat 4 _ rfl
  have g5 : W.cell? ⟨b, off + i * 8 + 5, none⟩ = some (.int .i64 y.exit) := hat 5 _ rfl
  have g6 : W.cell? ⟨b, off + i * 8 + 6, none⟩ = some (.int .i64 y.k.kind) := hat 6 _ rfl
  have g7 : W.cell? ⟨b, off + i * 8 + 7, none⟩ = some (.int .i64 y.k.n) := hat 7 _ rfl
  obtain ⟨w1, hw1⟩ : ∃ w1, w1 = W.alloc (.cells #[.int .i64 y.op, .int .i64 y.a, .int .i64 y.b, .int .i64 y.c, .int .i64 y.n, .int .i64 y.exit, .int .i64 y.k.kind, .int .i64 y.k.n] 43) := ⟨_, rfl⟩
  have K1 : Hid (Below W.heap.size W w1) := by rw [hw1]; exact below_one _ _
  have X1 : Hid (w1.heap[W.heap.size]? = some (.cells ⟨insCells y⟩ 43 (0, 0))) := by rw [hw1]; exact heap_last _ _
  have F1 := Lib.hid (h.below K1.out)
  have HW1 := Lib.hid hw1
  clear hw1 h hat hy wx p3 qi
  go_enter Tryd.func87, Tryd.ntmps87
  go_upto_region 2 with fail
  rw [← HW1.out]
  clear g0 g1 g2 g3 g4 g5 g6 g7 l3
  have c1 := HeadAt.of_row X1.out 1 (.int .i64 y.a) rfl
  have hz1 : W.heap.size < w1.heap.size := (Array.getElem?_eq_some_iff.1 X1.out).1
  have C1 := Lib.hid (whole_c F1.out y.a i (by omega) (by omega))
  obtain ⟨ba, hba⟩ : ∃ ba, (kindM t.ins y.a i == 2) = ba := ⟨_, rfl⟩
  rw [hba] at C1 hsp
  go_wp2_with fail
  refine C1.out.mono ?_
  rintro e w2 ⟨rfl, k2⟩
  have K2 := Lib.hid k2
  have hz2 : W.heap.size < w2.heap.size := Nat.lt_of_lt_of_le hz1 k2.size
  clear k2 c1
  cases ba
  case false =>
    go_wp2_with fail
    go_ret
    exact ⟨by rw [hsp.out]; rfl, K1.out.trans (K2.out.mono K1.out.size)⟩
  case true =>
    have c2 := cell_on K2.out (HeadAt.of_row X1.out 2 (.int .i64 y.b) rfl)
    have C2 := Lib.hid (whole_c (F1.out.below K2.out) y.b i (by omega) (by omega))
    go_wp2_with fail
    refine C2.out.mono ?_
    rintro e w3 ⟨rfl, k3⟩
    have K3 := Lib.hid k3
    clear k3
    go_wp2_with fail
    go_ret
    exact ⟨by rw [hsp.out]; rfl, (K1.out.trans (K2.out.mono K1.out.size)).trans (K3.out.mono (by have := K1.out.size; have := K2.out.size; omega))⟩
set_option maxRecDepth 100000 in
theorem spanCut_c (n : Int) (W : World) : Calls Tryd.prog 117 #[.int .i64 n] W (fun e W' => e = .returned (.int .i64 (cutS n)) ∧ W' = W) := by
  go_enter Tryd.func117, Tryd.ntmps117
  go_wp2_with fail
  go_ret
  exact ⟨rfl, rfl⟩
set_option maxRecDepth 100000 in
theorem spanAll_c (W : World) : Calls Tryd.prog 116 #[] W (Gives (pairV (-2147483648) 2147483647) W) := by
  obtain ⟨w1, hw1⟩ : ∃ w1, w1 = W.alloc (.cells #[.int .i64 (-2147483648), .int .i64 2147483647] 113) := ⟨_, rfl⟩
  have K1 : Hid (Below W.heap.size W w1) := by rw [hw1]; exact below_one _ _
  have r0 : w1.cell? ⟨W.heap.size, 0, none⟩ = some (.int .i64 (-2147483648)) := by rw [hw1]; exact cell_of_row _ W.heap.size 0 _ _ _ (heap_last W _)
  have r1 : w1.cell? ⟨W.heap.size, 1, none⟩ = some (.int .i64 2147483647) := by rw [hw1]; exact cell_of_row _ W.heap.size 1 _ _ _ (heap_last W _)
  have HW := Lib.hid hw1
  clear hw1
  go_enter Tryd.func116, Tryd.ntmps116
  go_wp2_with fail
  rw [← HW.out]
  exact bodyPost_ret (v := pairV (-2147483648) 2147483647) (by simp [results, Tryd.results116, go_sem, pairV, r0, r1]) rfl ⟨rfl, K1.out⟩
end Go.Proofs.YtmccomeihnaanaaDoor
