/- fold: two. -/
import Derived.Test.YtmccomeihnaanaaDoorFoldG
import Derived.Deep.DeepCutAuto
namespace Go.Proofs.YtmccomeihnaanaaDoor
open Go.RowKit Go.IntWalk

theorem set_same {α : Type} {l : List α} {i : Nat} {x : α} (h : l[i]? = some x) : l.set i x = l := by
  obtain ⟨hi, e⟩ := List.getElem?_eq_some_iff.1 h
  rw [← e]; exact List.set_getElem_self hi
def TwoPost (W : World) (B fb : Nat) (ca : List Value) (t : TTrace) (G n cG T m cT : Nat) (cur : List TIns) (tl : List Int) (i : Nat) (r : TIns × Int) (e : Ending) (w' : World) : Prop :=
  e = .returned (.tuple #[]) ∧ FoldR w' B fb ca t (.slice (some ⟨G, 0, none⟩) n cG) (.slice (some ⟨T, 0, none⟩) m cT) (cur.set i r.1) (tl.set i r.2) ∧ Kept2 G T W w'
theorem kept_fined {a b : Nat} {w w1 : World} (h : Fined a w w1) : Kept2 a b w w1 := Kept2.of_fined h
theorem kept_fined' {a b : Nat} {w w1 : World} (h : Fined b w w1) : Kept2 a b w w1 := ⟨h.os, h.tape, h.output, h.size, fun i hi _ hd => h.block i hi hd⟩
theorem kept_below {a b : Nat} {w w1 : World} (h : Below w.heap.size w w1) : Kept2 a b w w1 := ⟨h.os, h.tape, h.output, h.size, fun i hi _ _ => h.block i hi⟩
section
variable {W : World} {B fb : Nat} {ca : List Value} {t : TTrace} {G n cG T m cT : Nat} {cur : List TIns} {tl : List Int}

set_option maxHeartbeats 16000000 in
set_option maxRecDepth 100000 in
theorem two_c (h : FoldR W B fb ca t (.slice (some ⟨G, 0, none⟩) n cG) (.slice (some ⟨T, 0, none⟩) m cT) cur tl) (x : TIns) (hop : x.op = 7) (i : Nat) (hx : cur[i]? = some x) (hto : tl[i]? = some (i : Int)) (ha : 0 ≤ x.a ∧ x.a < cur.length) (hb : 0 ≤ x.b ∧ x.b < cur.length) :
    Calls Tryd.prog 93 #[.pointer (some ⟨fb, 0, none⟩), .int .i64 i, insV x] W (TwoPost W B fb ca t G n cG T m cT cur tl i (twoM (foldE t.ins) cur x i)) := by
  have few := h.few
  have hi := (List.getElem?_eq_some_iff.1 hx).1
  have hit := (List.getElem?_eq_some_iff.1 hto).1
  have SX : Hid (cur.set i x = cur) := set_same hx
  have ST : Hid (tl.set i (i : Int) = tl) := set_same hto
  have HA := Lib.hid ha
  have HB := Lib.hid hb
  obtain ⟨w0, hw0⟩ : ∃ w0, w0 = W.alloc (.cells ⟨insCells x⟩ 43) := ⟨_, rfl⟩
  have K0 : Hid (Below W.heap.size W w0) := by rw [hw0]; exact below_one _ _
  have X0 : Hid (w0.heap[W.heap.size]? = some (.cells ⟨insCells x⟩ 43 (0, 0))) := by rw [hw0]; exact heap_last _ _
  have H0 := Lib.hid (h.below K0.out)
  have LX : Hid ((Tryd.prog.info? 43).map (·.size) = some (insCells x).length) := infoIns8
  have R0 : Hid (w0.rangeAt W.heap.size 0 (insCells x)) := (HeadAt.of_row X0.out).range
  have RC := Lib.hid (reckon_c H0.out x (.inl hop) ha (fun _ => hb) i hi)
  unfold insCells at hw0
  have HW := Lib.hid hw0
  obtain ⟨r, hr⟩ : ∃ r, twoM (foldE t.ins) cur x i = r := ⟨_, rfl⟩
  rw [hr]
  unfold twoM at hr
  obtain ⟨rk, hrk⟩ : ∃ o, reckonM (foldE t.ins) cur x = o := ⟨_, rfl⟩
  rw [hrk] at RC hr
  have HR := Lib.hid hr
  clear hw0 h hx hto ha hb hop hrk hr
  unfold insV
  go_enter Tryd.func93, Tryd.ntmps93
  go_upto_region 1 with fail
  rw [← HW.out]
  go_wp2_with (first | (refine wpList_load_mid rfl 43 _ rfl W.heap.size 0 rfl (insCells x) _ R0.out Tryd.underlying43 rfl LX.out ?_) | fail)
  refine RC.out.mono ?_
  clear RC R0 HW
  intro e w1 hrp
  cases rk with
  | some k =>
    obtain ⟨rfl, h1, f1⟩ := hrp
    have H1 := Lib.hid h1
    have F1 : Hid (Fined G W w1) := (Fined.of_below K0.out).trans f1
    clear h1 f1
    dsimp only at HR
    go_wp2_with fail
    refine bodyPost_ret (v := .tuple #[]) (by simp [results, Tryd.results93, go_sem]) rfl ⟨rfl, ?_, kept_fined F1.out⟩
    rw [← HR.out]; dsimp only; rw [ST.out]; exact H1.out
  | none =>
    obtain ⟨rfl, k1⟩ := hrp
    have H1 := Lib.hid (H0.out.below k1)
    have K1 : Hid (Below W.heap.size W w1) := K0.out.trans (k1.mono K0.out.size)
    have X1 : Hid (w1.heap[W.heap.size]? = some (.cells ⟨insCells x⟩ 43 (0, 0))) := (k1.block _ (Array.getElem?_eq_some_iff.1 X0.out).1).trans X0.out
    have R1 : Hid (w1.rangeAt W.heap.size 0 (insCells x)) := (HeadAt.of_row X1.out).range
    have NC := Lib.hid (neutral_c H1.out x HA.out HB.out i (by omega))
    obtain ⟨nv, hnv⟩ : ∃ v, neutralM (foldE t.ins) cur x i = v := ⟨_, rfl⟩
    have NW : Hid (nv = -1 ∨ (0 ≤ nv ∧ nv < cur.length)) := by
      rw [← hnv]
      unfold neutralM
      split
      · exact .inr HB.out
      · split
        · exact .inr HA.out
        · exact .inl rfl
    dsimp only at HR
    rw [hnv] at NC HR
    clear k1 H0 X0 hnv
    go_upto_region 2 with fail
    go_wp2_with (first | (refine wpList_load_mid rfl 43 _ rfl W.heap.size 0 rfl (insCells x) _ R1.out Tryd.underlying43 rfl LX.out ?_) | fail)
    refine NC.out.mono ?_
    rintro e w2 ⟨rfl, k2⟩
    have H2 := Lib.hid (H1.out.below k2)
    have K2 : Hid (Below W.heap.size W w2) := K1.out.trans (k2.mono K1.out.size)
    have X2 : Hid (w2.heap[W.heap.size]? = some (.cells ⟨insCells x⟩ 43 (0, 0))) := (k2.block _ (Array.getElem?_eq_some_iff.1 X1.out).1).trans X1.out
    clear k2 H1 X1 R1 NC
    by_cases hv : 0 ≤ nv
    · rw [if_pos hv] at HR
      have hm := H2.out.m
      have c26 := H2.out.cellT
      obtain ⟨cTi, fTi⟩ := H2.out.toAt (i := i) (v := tl[i]) (List.getElem?_eq_getElem hit)
      have hii : (i : Int) < m := by omega
      have HM := Lib.hid hm
      clear hm
      go_wp2_with fail
      have S : Hid (FoldR (w2.setCell ⟨T, i, none⟩ (.int .i64 nv)) B fb ca t (.slice (some ⟨G, 0, none⟩) n cG) (.slice (some ⟨T, 0, none⟩) m cT) cur (tl.set i nv)) := H2.out.setTo hit (by have := NW.out; unfold wfi; omega)
      refine bodyPost_ret (v := .tuple #[]) (by simp [results, Tryd.results93, go_sem]) rfl ⟨rfl, ?_, kept_fined' (((Fined.of_below K2.out)).set_ _ _)⟩
      rw [← HR.out]; dsimp only; rw [SX.out]; exact S.out
    · rw [if_neg hv] at HR
      go_upto_region 5 with fail
      go_wp2_with fail
      refine (number_c 0 _).mono ?_
      rintro e w3 ⟨rfl, k3⟩
      have H3 := Lib.hid (H2.out.below k3)
      have K3 : Hid (Below W.heap.size W w3) := K2.out.trans (k3.mono K2.out.size)
      have X3 : Hid (w3.heap[W.heap.size]? = some (.cells ⟨insCells x⟩ 43 (0, 0))) := (k3.block _ (Array.getElem?_eq_some_iff.1 X2.out).1).trans X2.out
      clear k3 H2 X2
      obtain ⟨w4, hw4⟩ : ∃ w4, w4 = w3.alloc (.cells #[.int .i64 2, .int .i64 0] 41) := ⟨_, rfl⟩
      have L4 : Hid (Below w3.heap.size w3 w4) := by rw [hw4]; exact below_one _ _
      have K4 : Hid (Below W.heap.size W w4) := K3.out.trans (L4.out.mono K3.out.size)
      have Z4 : Hid (w4.heap[w3.heap.size]? = some (.cells #[.int .i64 2, .int .i64 0] 41 (0, 0))) := by rw [hw4]; exact heap_last _ _
      have H4 := Lib.hid (H3.out.below L4.out)
      have X4 : Hid (w4.heap[W.heap.size]? = some (.cells ⟨insCells x⟩ 43 (0, 0))) := (L4.out.block _ (Array.getElem?_eq_some_iff.1 X3.out).1).trans X3.out
      have HW4 := Lib.hid hw4
      clear hw4
      go_upto_region 6 with fail
      rw [← HW4.out]
      obtain ⟨oz, hoz⟩ : ∃ b, b = w3.heap.size := ⟨_, rfl⟩
      rw [← hoz] at Z4
      rw [← hoz]
      clear H3 L4 X3 HW4 hoz
      obtain ⟨b, hb⟩ : ∃ b, decide (x.n = 5 ∧ ((isM cur x.a (numV 0) && wholeK (foldE t.ins) x.b i) || (isM cur x.b (numV 0) && wholeK (foldE t.ins) x.a i)) = true) = b := ⟨_, rfl⟩
      have HBB := Lib.hid hb
      clear hb
      go_cut [56] (fun c wx => c = .bool b ∧ Hid (Below w4.heap.size w4 wx))
      case first =>
        obtain ⟨va, hva⟩ := Int.eq_ofNat_of_zero_le HA.out.1
        obtain ⟨vb, hvb⟩ := Int.eq_ofNat_of_zero_le HB.out.1
        have hbda := HA.out
        have hbdb := HB.out
        obtain ⟨ya, hya⟩ : ∃ y, cur[va]? = some y := ⟨_, List.getElem?_eq_getElem (by omega)⟩
        obtain ⟨yb, hyb⟩ : ∃ y, cur[vb]? = some y := ⟨_, List.getElem?_eq_getElem (by omega)⟩
        have IA : Hid (∀ W', Below w4.heap.size w4 W' → Calls Tryd.prog 125 #[.pointer (some ⟨fb, 0, none⟩), .int .i64 x.a, .agg #[.int .i64 2, .int .i64 0]] W' (Gives (.bool (isM cur x.a (numV 0))) W')) := fun W' kb => by rw [hva]; exact is_c (H4.out.below kb) hya (numV 0)
        have IB : Hid (∀ W', Below w4.heap.size w4 W' → Calls Tryd.prog 125 #[.pointer (some ⟨fb, 0, none⟩), .int .i64 x.b, .agg #[.int .i64 2, .int .i64 0]] W' (Gives (.bool (isM cur x.b (numV 0))) W')) := fun W' kb => by rw [hvb]; exact is_c (H4.out.below kb) hyb (numV 0)
        have WA : Hid (∀ W', Below w4.heap.size w4 W' → Calls Tryd.prog 126 #[.pointer (some ⟨fb, 0, none⟩), .int .i64 x.a, .int .i64 i] W' (Gives (.bool (wholeK (foldE t.ins) x.a i)) W')) := fun W' kb => fwhole_c (H4.out.below kb) x.a i (by omega) (by omega)
        have WB : Hid (∀ W', Below w4.heap.size w4 W' → Calls Tryd.prog 126 #[.pointer (some ⟨fb, 0, none⟩), .int .i64 x.b, .int .i64 i] W' (Gives (.bool (wholeK (foldE t.ins) x.b i)) W')) := fun W' kb => fwhole_c (H4.out.below kb) x.b i (by omega) (by omega)
        generalize isM cur x.a (numV 0) = iA at IA HBB
        generalize isM cur x.b (numV 0) = iB at IB HBB
        generalize wholeK (foldE t.ins) x.a i = wA at WA HBB
        generalize wholeK (foldE t.ins) x.b i = wB at WB HBB
        clear hva hvb hbda hbdb hya hyb
        have N4 : Hid (w4.cell? ⟨W.heap.size, 4, none⟩ = some (.int .i64 x.n)) := cell_of_row w4 _ 4 _ _ _ X4.out
        by_cases c5 : x.n = 5
        case neg =>
          have n5 : (x.n == 5) = false := beq_eq_false_iff_ne.2 c5
          have x4 := N4.out
          have e : b = false := by rw [← HBB.out]; exact decide_eq_false (fun h => c5 h.1)
          subst e
          clear c5
          go_wp2_with fail
          go_meet
          exact ⟨rfl, Below.refl _ _⟩
        have n5 : (x.n == 5) = true := beq_iff_eq.2 c5
        have KR : Hid (Below w4.heap.size w4 w4) := Below.refl _ _
        have HC5 := Lib.hid c5
        clear c5
        rcases Bool.eq_false_or_eq_true iA with rfl | rfl
        · rcases Bool.eq_false_or_eq_true wB with rfl | rfl
          · skip
            have x4 := N4.out
            have x1 : w4.cell? ⟨W.heap.size, 1, none⟩ = some (.int .i64 x.a) := cell_on KR.out (cell_of_row w4 _ 1 _ _ _ X4.out)
            have x2 : w4.cell? ⟨W.heap.size, 2, none⟩ = some (.int .i64 x.b) := cell_on KR.out (cell_of_row w4 _ 2 _ _ _ X4.out)
            have RZ : Hid (w4.rangeAt oz 0 [.int .i64 2, .int .i64 0]) := fun a u hu => cell_on KR.out ((HeadAt.of_row Z4.out).range a u hu)
            go_wp2_with (first | (refine wpList_load_on 41 _ rfl rfl oz 0 rfl [.int .i64 2, .int .i64 0] _ RZ.out Tryd.underlying41 rfl infoValC ?_) | fail)
            refine (IA.out _ KR.out).mono ?_
            rintro e w5 ⟨rfl, k5⟩
            have J5 : Hid (Below w4.heap.size w4 w5) := Below.trans KR.out (k5.mono (KR.out).size)
            clear k5 x1 x2 RZ
            have x1 : w5.cell? ⟨W.heap.size, 1, none⟩ = some (.int .i64 x.a) := cell_on J5.out (cell_of_row w4 _ 1 _ _ _ X4.out)
            have x2 : w5.cell? ⟨W.heap.size, 2, none⟩ = some (.int .i64 x.b) := cell_on J5.out (cell_of_row w4 _ 2 _ _ _ X4.out)
            have RZ : Hid (w5.rangeAt oz 0 [.int .i64 2, .int .i64 0]) := fun a u hu => cell_on J5.out ((HeadAt.of_row Z4.out).range a u hu)
            go_wp2_with (first | (refine wpList_load_on 41 _ rfl rfl oz 0 rfl [.int .i64 2, .int .i64 0] _ RZ.out Tryd.underlying41 rfl infoValC ?_) | fail)
            refine (WB.out _ J5.out).mono ?_
            rintro e w6 ⟨rfl, k6⟩
            have J6 : Hid (Below w4.heap.size w4 w6) := Below.trans J5.out (k6.mono (J5.out).size)
            clear k6 x1 x2 RZ
            have x1 : w6.cell? ⟨W.heap.size, 1, none⟩ = some (.int .i64 x.a) := cell_on J6.out (cell_of_row w4 _ 1 _ _ _ X4.out)
            have x2 : w6.cell? ⟨W.heap.size, 2, none⟩ = some (.int .i64 x.b) := cell_on J6.out (cell_of_row w4 _ 2 _ _ _ X4.out)
            have RZ : Hid (w6.rangeAt oz 0 [.int .i64 2, .int .i64 0]) := fun a u hu => cell_on J6.out ((HeadAt.of_row Z4.out).range a u hu)
            have e : b = true := by rw [← HBB.out]; simp [HC5.out]
            subst e
            go_wp2_with fail
            go_meet
            exact ⟨rfl, J6.out⟩
          · skip
            rcases Bool.eq_false_or_eq_true iB with rfl | rfl
            · rcases Bool.eq_false_or_eq_true wA with rfl | rfl
              · skip
                have x4 := N4.out
                have x1 : w4.cell? ⟨W.heap.size, 1, none⟩ = some (.int .i64 x.a) := cell_on KR.out (cell_of_row w4 _ 1 _ _ _ X4.out)
                have x2 : w4.cell? ⟨W.heap.size, 2, none⟩ = some (.int .i64 x.b) := cell_on KR.out (cell_of_row w4 _ 2 _ _ _ X4.out)
                have RZ : Hid (w4.rangeAt oz 0 [.int .i64 2, .int .i64 0]) := fun a u hu => cell_on KR.out ((HeadAt.of_row Z4.out).range a u hu)
                go_wp2_with (first | (refine wpList_load_on 41 _ rfl rfl oz 0 rfl [.int .i64 2, .int .i64 0] _ RZ.out Tryd.underlying41 rfl infoValC ?_) | fail)
                refine (IA.out _ KR.out).mono ?_
                rintro e w7 ⟨rfl, k7⟩
                have J7 : Hid (Below w4.heap.size w4 w7) := Below.trans KR.out (k7.mono (KR.out).size)
                clear k7 x1 x2 RZ
                have x1 : w7.cell? ⟨W.heap.size, 1, none⟩ = some (.int .i64 x.a) := cell_on J7.out (cell_of_row w4 _ 1 _ _ _ X4.out)
                have x2 : w7.cell? ⟨W.heap.size, 2, none⟩ = some (.int .i64 x.b) := cell_on J7.out (cell_of_row w4 _ 2 _ _ _ X4.out)
                have RZ : Hid (w7.rangeAt oz 0 [.int .i64 2, .int .i64 0]) := fun a u hu => cell_on J7.out ((HeadAt.of_row Z4.out).range a u hu)
                go_wp2_with (first | (refine wpList_load_on 41 _ rfl rfl oz 0 rfl [.int .i64 2, .int .i64 0] _ RZ.out Tryd.underlying41 rfl infoValC ?_) | fail)
                refine (WB.out _ J7.out).mono ?_
                rintro e w8 ⟨rfl, k8⟩
                have J8 : Hid (Below w4.heap.size w4 w8) := Below.trans J7.out (k8.mono (J7.out).size)
                clear k8 x1 x2 RZ
                have x1 : w8.cell? ⟨W.heap.size, 1, none⟩ = some (.int .i64 x.a) := cell_on J8.out (cell_of_row w4 _ 1 _ _ _ X4.out)
                have x2 : w8.cell? ⟨W.heap.size, 2, none⟩ = some (.int .i64 x.b) := cell_on J8.out (cell_of_row w4 _ 2 _ _ _ X4.out)
                have RZ : Hid (w8.rangeAt oz 0 [.int .i64 2, .int .i64 0]) := fun a u hu => cell_on J8.out ((HeadAt.of_row Z4.out).range a u hu)
                go_wp2_with (first | (refine wpList_load_on 41 _ rfl rfl oz 0 rfl [.int .i64 2, .int .i64 0] _ RZ.out Tryd.underlying41 rfl infoValC ?_) | fail)
                refine (IB.out _ J8.out).mono ?_
                rintro e w9 ⟨rfl, k9⟩
                have J9 : Hid (Below w4.heap.size w4 w9) := Below.trans J8.out (k9.mono (J8.out).size)
                clear k9 x1 x2 RZ
                have x1 : w9.cell? ⟨W.heap.size, 1, none⟩ = some (.int .i64 x.a) := cell_on J9.out (cell_of_row w4 _ 1 _ _ _ X4.out)
                have x2 : w9.cell? ⟨W.heap.size, 2, none⟩ = some (.int .i64 x.b) := cell_on J9.out (cell_of_row w4 _ 2 _ _ _ X4.out)
                have RZ : Hid (w9.rangeAt oz 0 [.int .i64 2, .int .i64 0]) := fun a u hu => cell_on J9.out ((HeadAt.of_row Z4.out).range a u hu)
                go_wp2_with (first | (refine wpList_load_on 41 _ rfl rfl oz 0 rfl [.int .i64 2, .int .i64 0] _ RZ.out Tryd.underlying41 rfl infoValC ?_) | fail)
                refine (WA.out _ J9.out).mono ?_
                rintro e w10 ⟨rfl, k10⟩
                have J10 : Hid (Below w4.heap.size w4 w10) := Below.trans J9.out (k10.mono (J9.out).size)
                clear k10 x1 x2 RZ
                have x1 : w10.cell? ⟨W.heap.size, 1, none⟩ = some (.int .i64 x.a) := cell_on J10.out (cell_of_row w4 _ 1 _ _ _ X4.out)
                have x2 : w10.cell? ⟨W.heap.size, 2, none⟩ = some (.int .i64 x.b) := cell_on J10.out (cell_of_row w4 _ 2 _ _ _ X4.out)
                have RZ : Hid (w10.rangeAt oz 0 [.int .i64 2, .int .i64 0]) := fun a u hu => cell_on J10.out ((HeadAt.of_row Z4.out).range a u hu)
                have e : b = true := by rw [← HBB.out]; simp [HC5.out]
                subst e
                go_wp2_with fail
                go_meet
                exact ⟨rfl, J10.out⟩
              · skip
                have x4 := N4.out
                have x1 : w4.cell? ⟨W.heap.size, 1, none⟩ = some (.int .i64 x.a) := cell_on KR.out (cell_of_row w4 _ 1 _ _ _ X4.out)
                have x2 : w4.cell? ⟨W.heap.size, 2, none⟩ = some (.int .i64 x.b) := cell_on KR.out (cell_of_row w4 _ 2 _ _ _ X4.out)
                have RZ : Hid (w4.rangeAt oz 0 [.int .i64 2, .int .i64 0]) := fun a u hu => cell_on KR.out ((HeadAt.of_row Z4.out).range a u hu)
                go_wp2_with (first | (refine wpList_load_on 41 _ rfl rfl oz 0 rfl [.int .i64 2, .int .i64 0] _ RZ.out Tryd.underlying41 rfl infoValC ?_) | fail)
                refine (IA.out _ KR.out).mono ?_
                rintro e w11 ⟨rfl, k11⟩
                have J11 : Hid (Below w4.heap.size w4 w11) := Below.trans KR.out (k11.mono (KR.out).size)
                clear k11 x1 x2 RZ
                have x1 : w11.cell? ⟨W.heap.size, 1, none⟩ = some (.int .i64 x.a) := cell_on J11.out (cell_of_row w4 _ 1 _ _ _ X4.out)
                have x2 : w11.cell? ⟨W.heap.size, 2, none⟩ = some (.int .i64 x.b) := cell_on J11.out (cell_of_row w4 _ 2 _ _ _ X4.out)
                have RZ : Hid (w11.rangeAt oz 0 [.int .i64 2, .int .i64 0]) := fun a u hu => cell_on J11.out ((HeadAt.of_row Z4.out).range a u hu)
                go_wp2_with (first | (refine wpList_load_on 41 _ rfl rfl oz 0 rfl [.int .i64 2, .int .i64 0] _ RZ.out Tryd.underlying41 rfl infoValC ?_) | fail)
                refine (WB.out _ J11.out).mono ?_
                rintro e w12 ⟨rfl, k12⟩
                have J12 : Hid (Below w4.heap.size w4 w12) := Below.trans J11.out (k12.mono (J11.out).size)
                clear k12 x1 x2 RZ
                have x1 : w12.cell? ⟨W.heap.size, 1, none⟩ = some (.int .i64 x.a) := cell_on J12.out (cell_of_row w4 _ 1 _ _ _ X4.out)
                have x2 : w12.cell? ⟨W.heap.size, 2, none⟩ = some (.int .i64 x.b) := cell_on J12.out (cell_of_row w4 _ 2 _ _ _ X4.out)
                have RZ : Hid (w12.rangeAt oz 0 [.int .i64 2, .int .i64 0]) := fun a u hu => cell_on J12.out ((HeadAt.of_row Z4.out).range a u hu)
                go_wp2_with (first | (refine wpList_load_on 41 _ rfl rfl oz 0 rfl [.int .i64 2, .int .i64 0] _ RZ.out Tryd.underlying41 rfl infoValC ?_) | fail)
                refine (IB.out _ J12.out).mono ?_
                rintro e w13 ⟨rfl, k13⟩
                have J13 : Hid (Below w4.heap.size w4 w13) := Below.trans J12.out (k13.mono (J12.out).size)
                clear k13 x1 x2 RZ
                have x1 : w13.cell? ⟨W.heap.size, 1, none⟩ = some (.int .i64 x.a) := cell_on J13.out (cell_of_row w4 _ 1 _ _ _ X4.out)
                have x2 : w13.cell? ⟨W.heap.size, 2, none⟩ = some (.int .i64 x.b) := cell_on J13.out (cell_of_row w4 _ 2 _ _ _ X4.out)
                have RZ : Hid (w13.rangeAt oz 0 [.int .i64 2, .int .i64 0]) := fun a u hu => cell_on J13.out ((HeadAt.of_row Z4.out).range a u hu)
                go_wp2_with (first | (refine wpList_load_on 41 _ rfl rfl oz 0 rfl [.int .i64 2, .int .i64 0] _ RZ.out Tryd.underlying41 rfl infoValC ?_) | fail)
                refine (WA.out _ J13.out).mono ?_
                rintro e w14 ⟨rfl, k14⟩
                have J14 : Hid (Below w4.heap.size w4 w14) := Below.trans J13.out (k14.mono (J13.out).size)
                clear k14 x1 x2 RZ
                have x1 : w14.cell? ⟨W.heap.size, 1, none⟩ = some (.int .i64 x.a) := cell_on J14.out (cell_of_row w4 _ 1 _ _ _ X4.out)
                have x2 : w14.cell? ⟨W.heap.size, 2, none⟩ = some (.int .i64 x.b) := cell_on J14.out (cell_of_row w4 _ 2 _ _ _ X4.out)
                have RZ : Hid (w14.rangeAt oz 0 [.int .i64 2, .int .i64 0]) := fun a u hu => cell_on J14.out ((HeadAt.of_row Z4.out).range a u hu)
                have e : b = false := by rw [← HBB.out]; simp [HC5.out]
                subst e
                go_wp2_with fail
                go_meet
                exact ⟨rfl, J14.out⟩
            · skip
              have x4 := N4.out
              have x1 : w4.cell? ⟨W.heap.size, 1, none⟩ = some (.int .i64 x.a) := cell_on KR.out (cell_of_row w4 _ 1 _ _ _ X4.out)
              have x2 : w4.cell? ⟨W.heap.size, 2, none⟩ = some (.int .i64 x.b) := cell_on KR.out (cell_of_row w4 _ 2 _ _ _ X4.out)
              have RZ : Hid (w4.rangeAt oz 0 [.int .i64 2, .int .i64 0]) := fun a u hu => cell_on KR.out ((HeadAt.of_row Z4.out).range a u hu)
              go_wp2_with (first | (refine wpList_load_on 41 _ rfl rfl oz 0 rfl [.int .i64 2, .int .i64 0] _ RZ.out Tryd.underlying41 rfl infoValC ?_) | fail)
              refine (IA.out _ KR.out).mono ?_
              rintro e w15 ⟨rfl, k15⟩
              have J15 : Hid (Below w4.heap.size w4 w15) := Below.trans KR.out (k15.mono (KR.out).size)
              clear k15 x1 x2 RZ
              have x1 : w15.cell? ⟨W.heap.size, 1, none⟩ = some (.int .i64 x.a) := cell_on J15.out (cell_of_row w4 _ 1 _ _ _ X4.out)
              have x2 : w15.cell? ⟨W.heap.size, 2, none⟩ = some (.int .i64 x.b) := cell_on J15.out (cell_of_row w4 _ 2 _ _ _ X4.out)
              have RZ : Hid (w15.rangeAt oz 0 [.int .i64 2, .int .i64 0]) := fun a u hu => cell_on J15.out ((HeadAt.of_row Z4.out).range a u hu)
              go_wp2_with (first | (refine wpList_load_on 41 _ rfl rfl oz 0 rfl [.int .i64 2, .int .i64 0] _ RZ.out Tryd.underlying41 rfl infoValC ?_) | fail)
              refine (WB.out _ J15.out).mono ?_
              rintro e w16 ⟨rfl, k16⟩
              have J16 : Hid (Below w4.heap.size w4 w16) := Below.trans J15.out (k16.mono (J15.out).size)
              clear k16 x1 x2 RZ
              have x1 : w16.cell? ⟨W.heap.size, 1, none⟩ = some (.int .i64 x.a) := cell_on J16.out (cell_of_row w4 _ 1 _ _ _ X4.out)
              have x2 : w16.cell? ⟨W.heap.size, 2, none⟩ = some (.int .i64 x.b) := cell_on J16.out (cell_of_row w4 _ 2 _ _ _ X4.out)
              have RZ : Hid (w16.rangeAt oz 0 [.int .i64 2, .int .i64 0]) := fun a u hu => cell_on J16.out ((HeadAt.of_row Z4.out).range a u hu)
              go_wp2_with (first | (refine wpList_load_on 41 _ rfl rfl oz 0 rfl [.int .i64 2, .int .i64 0] _ RZ.out Tryd.underlying41 rfl infoValC ?_) | fail)
              refine (IB.out _ J16.out).mono ?_
              rintro e w17 ⟨rfl, k17⟩
              have J17 : Hid (Below w4.heap.size w4 w17) := Below.trans J16.out (k17.mono (J16.out).size)
              clear k17 x1 x2 RZ
              have x1 : w17.cell? ⟨W.heap.size, 1, none⟩ = some (.int .i64 x.a) := cell_on J17.out (cell_of_row w4 _ 1 _ _ _ X4.out)
              have x2 : w17.cell? ⟨W.heap.size, 2, none⟩ = some (.int .i64 x.b) := cell_on J17.out (cell_of_row w4 _ 2 _ _ _ X4.out)
              have RZ : Hid (w17.rangeAt oz 0 [.int .i64 2, .int .i64 0]) := fun a u hu => cell_on J17.out ((HeadAt.of_row Z4.out).range a u hu)
              have e : b = false := by rw [← HBB.out]; simp [HC5.out]
              subst e
              go_wp2_with fail
              go_meet
              exact ⟨rfl, J17.out⟩
        · skip
          rcases Bool.eq_false_or_eq_true iB with rfl | rfl
          · rcases Bool.eq_false_or_eq_true wA with rfl | rfl
            · skip
              have x4 := N4.out
              have x1 : w4.cell? ⟨W.heap.size, 1, none⟩ = some (.int .i64 x.a) := cell_on KR.out (cell_of_row w4 _ 1 _ _ _ X4.out)
              have x2 : w4.cell? ⟨W.heap.size, 2, none⟩ = some (.int .i64 x.b) := cell_on KR.out (cell_of_row w4 _ 2 _ _ _ X4.out)
              have RZ : Hid (w4.rangeAt oz 0 [.int .i64 2, .int .i64 0]) := fun a u hu => cell_on KR.out ((HeadAt.of_row Z4.out).range a u hu)
              go_wp2_with (first | (refine wpList_load_on 41 _ rfl rfl oz 0 rfl [.int .i64 2, .int .i64 0] _ RZ.out Tryd.underlying41 rfl infoValC ?_) | fail)
              refine (IA.out _ KR.out).mono ?_
              rintro e w18 ⟨rfl, k18⟩
              have J18 : Hid (Below w4.heap.size w4 w18) := Below.trans KR.out (k18.mono (KR.out).size)
              clear k18 x1 x2 RZ
              have x1 : w18.cell? ⟨W.heap.size, 1, none⟩ = some (.int .i64 x.a) := cell_on J18.out (cell_of_row w4 _ 1 _ _ _ X4.out)
              have x2 : w18.cell? ⟨W.heap.size, 2, none⟩ = some (.int .i64 x.b) := cell_on J18.out (cell_of_row w4 _ 2 _ _ _ X4.out)
              have RZ : Hid (w18.rangeAt oz 0 [.int .i64 2, .int .i64 0]) := fun a u hu => cell_on J18.out ((HeadAt.of_row Z4.out).range a u hu)
              go_wp2_with (first | (refine wpList_load_on 41 _ rfl rfl oz 0 rfl [.int .i64 2, .int .i64 0] _ RZ.out Tryd.underlying41 rfl infoValC ?_) | fail)
              refine (IB.out _ J18.out).mono ?_
              rintro e w19 ⟨rfl, k19⟩
              have J19 : Hid (Below w4.heap.size w4 w19) := Below.trans J18.out (k19.mono (J18.out).size)
              clear k19 x1 x2 RZ
              have x1 : w19.cell? ⟨W.heap.size, 1, none⟩ = some (.int .i64 x.a) := cell_on J19.out (cell_of_row w4 _ 1 _ _ _ X4.out)
              have x2 : w19.cell? ⟨W.heap.size, 2, none⟩ = some (.int .i64 x.b) := cell_on J19.out (cell_of_row w4 _ 2 _ _ _ X4.out)
              have RZ : Hid (w19.rangeAt oz 0 [.int .i64 2, .int .i64 0]) := fun a u hu => cell_on J19.out ((HeadAt.of_row Z4.out).range a u hu)
              go_wp2_with (first | (refine wpList_load_on 41 _ rfl rfl oz 0 rfl [.int .i64 2, .int .i64 0] _ RZ.out Tryd.underlying41 rfl infoValC ?_) | fail)
              refine (WA.out _ J19.out).mono ?_
              rintro e w20 ⟨rfl, k20⟩
              have J20 : Hid (Below w4.heap.size w4 w20) := Below.trans J19.out (k20.mono (J19.out).size)
              clear k20 x1 x2 RZ
              have x1 : w20.cell? ⟨W.heap.size, 1, none⟩ = some (.int .i64 x.a) := cell_on J20.out (cell_of_row w4 _ 1 _ _ _ X4.out)
              have x2 : w20.cell? ⟨W.heap.size, 2, none⟩ = some (.int .i64 x.b) := cell_on J20.out (cell_of_row w4 _ 2 _ _ _ X4.out)
              have RZ : Hid (w20.rangeAt oz 0 [.int .i64 2, .int .i64 0]) := fun a u hu => cell_on J20.out ((HeadAt.of_row Z4.out).range a u hu)
              have e : b = true := by rw [← HBB.out]; simp [HC5.out]
              subst e
              go_wp2_with fail
              go_meet
              exact ⟨rfl, J20.out⟩
            · skip
              have x4 := N4.out
              have x1 : w4.cell? ⟨W.heap.size, 1, none⟩ = some (.int .i64 x.a) := cell_on KR.out (cell_of_row w4 _ 1 _ _ _ X4.out)
              have x2 : w4.cell? ⟨W.heap.size, 2, none⟩ = some (.int .i64 x.b) := cell_on KR.out (cell_of_row w4 _ 2 _ _ _ X4.out)
              have RZ : Hid (w4.rangeAt oz 0 [.int .i64 2, .int .i64 0]) := fun a u hu => cell_on KR.out ((HeadAt.of_row Z4.out).range a u hu)
              go_wp2_with (first | (refine wpList_load_on 41 _ rfl rfl oz 0 rfl [.int .i64 2, .int .i64 0] _ RZ.out Tryd.underlying41 rfl infoValC ?_) | fail)
              refine (IA.out _ KR.out).mono ?_
              rintro e w21 ⟨rfl, k21⟩
              have J21 : Hid (Below w4.heap.size w4 w21) := Below.trans KR.out (k21.mono (KR.out).size)
              clear k21 x1 x2 RZ
              have x1 : w21.cell? ⟨W.heap.size, 1, none⟩ = some (.int .i64 x.a) := cell_on J21.out (cell_of_row w4 _ 1 _ _ _ X4.out)
              have x2 : w21.cell? ⟨W.heap.size, 2, none⟩ = some (.int .i64 x.b) := cell_on J21.out (cell_of_row w4 _ 2 _ _ _ X4.out)
              have RZ : Hid (w21.rangeAt oz 0 [.int .i64 2, .int .i64 0]) := fun a u hu => cell_on J21.out ((HeadAt.of_row Z4.out).range a u hu)
              go_wp2_with (first | (refine wpList_load_on 41 _ rfl rfl oz 0 rfl [.int .i64 2, .int .i64 0] _ RZ.out Tryd.underlying41 rfl infoValC ?_) | fail)
              refine (IB.out _ J21.out).mono ?_
              rintro e w22 ⟨rfl, k22⟩
              have J22 : Hid (Below w4.heap.size w4 w22) := Below.trans J21.out (k22.mono (J21.out).size)
              clear k22 x1 x2 RZ
              have x1 : w22.cell? ⟨W.heap.size, 1, none⟩ = some (.int .i64 x.a) := cell_on J22.out (cell_of_row w4 _ 1 _ _ _ X4.out)
              have x2 : w22.cell? ⟨W.heap.size, 2, none⟩ = some (.int .i64 x.b) := cell_on J22.out (cell_of_row w4 _ 2 _ _ _ X4.out)
              have RZ : Hid (w22.rangeAt oz 0 [.int .i64 2, .int .i64 0]) := fun a u hu => cell_on J22.out ((HeadAt.of_row Z4.out).range a u hu)
              go_wp2_with (first | (refine wpList_load_on 41 _ rfl rfl oz 0 rfl [.int .i64 2, .int .i64 0] _ RZ.out Tryd.underlying41 rfl infoValC ?_) | fail)
              refine (WA.out _ J22.out).mono ?_
              rintro e w23 ⟨rfl, k23⟩
              have J23 : Hid (Below w4.heap.size w4 w23) := Below.trans J22.out (k23.mono (J22.out).size)
              clear k23 x1 x2 RZ
              have x1 : w23.cell? ⟨W.heap.size, 1, none⟩ = some (.int .i64 x.a) := cell_on J23.out (cell_of_row w4 _ 1 _ _ _ X4.out)
              have x2 : w23.cell? ⟨W.heap.size, 2, none⟩ = some (.int .i64 x.b) := cell_on J23.out (cell_of_row w4 _ 2 _ _ _ X4.out)
              have RZ : Hid (w23.rangeAt oz 0 [.int .i64 2, .int .i64 0]) := fun a u hu => cell_on J23.out ((HeadAt.of_row Z4.out).range a u hu)
              have e : b = false := by rw [← HBB.out]; simp [HC5.out]
              subst e
              go_wp2_with fail
              go_meet
              exact ⟨rfl, J23.out⟩
          · skip
            have x4 := N4.out
            have x1 : w4.cell? ⟨W.heap.size, 1, none⟩ = some (.int .i64 x.a) := cell_on KR.out (cell_of_row w4 _ 1 _ _ _ X4.out)
            have x2 : w4.cell? ⟨W.heap.size, 2, none⟩ = some (.int .i64 x.b) := cell_on KR.out (cell_of_row w4 _ 2 _ _ _ X4.out)
            have RZ : Hid (w4.rangeAt oz 0 [.int .i64 2, .int .i64 0]) := fun a u hu => cell_on KR.out ((HeadAt.of_row Z4.out).range a u hu)
            go_wp2_with (first | (refine wpList_load_on 41 _ rfl rfl oz 0 rfl [.int .i64 2, .int .i64 0] _ RZ.out Tryd.underlying41 rfl infoValC ?_) | fail)
            refine (IA.out _ KR.out).mono ?_
            rintro e w24 ⟨rfl, k24⟩
            have J24 : Hid (Below w4.heap.size w4 w24) := Below.trans KR.out (k24.mono (KR.out).size)
            clear k24 x1 x2 RZ
            have x1 : w24.cell? ⟨W.heap.size, 1, none⟩ = some (.int .i64 x.a) := cell_on J24.out (cell_of_row w4 _ 1 _ _ _ X4.out)
            have x2 : w24.cell? ⟨W.heap.size, 2, none⟩ = some (.int .i64 x.b) := cell_on J24.out (cell_of_row w4 _ 2 _ _ _ X4.out)
            have RZ : Hid (w24.rangeAt oz 0 [.int .i64 2, .int .i64 0]) := fun a u hu => cell_on J24.out ((HeadAt.of_row Z4.out).range a u hu)
            go_wp2_with (first | (refine wpList_load_on 41 _ rfl rfl oz 0 rfl [.int .i64 2, .int .i64 0] _ RZ.out Tryd.underlying41 rfl infoValC ?_) | fail)
            refine (IB.out _ J24.out).mono ?_
            rintro e w25 ⟨rfl, k25⟩
            have J25 : Hid (Below w4.heap.size w4 w25) := Below.trans J24.out (k25.mono (J24.out).size)
            clear k25 x1 x2 RZ
            have x1 : w25.cell? ⟨W.heap.size, 1, none⟩ = some (.int .i64 x.a) := cell_on J25.out (cell_of_row w4 _ 1 _ _ _ X4.out)
            have x2 : w25.cell? ⟨W.heap.size, 2, none⟩ = some (.int .i64 x.b) := cell_on J25.out (cell_of_row w4 _ 2 _ _ _ X4.out)
            have RZ : Hid (w25.rangeAt oz 0 [.int .i64 2, .int .i64 0]) := fun a u hu => cell_on J25.out ((HeadAt.of_row Z4.out).range a u hu)
            have e : b = false := by rw [← HBB.out]; simp [HC5.out]
            subst e
            go_wp2_with fail
            go_meet
            exact ⟨rfl, J25.out⟩
      case rest =>
        obtain ⟨w7, hw7⟩ : ∃ w7, w7 = wc := ⟨_, rfl⟩
        subst hw7
        obtain ⟨rfl, KC⟩ := hcut
        have H7 := Lib.hid (H4.out.below KC.out)
        have K7 : Hid (Below W.heap.size W w7) := K4.out.trans (KC.out.mono K4.out.size)
        have X7 : Hid (w7.heap[W.heap.size]? = some (.cells ⟨insCells x⟩ 43 (0, 0))) := (KC.out.block _ (Array.getElem?_eq_some_iff.1 X4.out).1).trans X4.out
        have Z7 : Hid (w7.heap[oz]? = some (.cells #[.int .i64 2, .int .i64 0] 41 (0, 0))) := (KC.out.block _ (Array.getElem?_eq_some_iff.1 Z4.out).1).trans Z4.out
        clear H4 X4 Z4 KC
        cases b
        case true =>
          rw [if_pos (of_decide_eq_true HBB.out)] at HR
          have RZ : Hid (w7.rangeAt oz 0 [.int .i64 2, .int .i64 0]) := (HeadAt.of_row Z7.out).range
          go_wp2_with (first | (refine wpList_load_mid rfl 41 _ rfl oz 0 rfl [.int .i64 2, .int .i64 0] _ RZ.out Tryd.underlying41 rfl infoValC ?_) | fail)
          refine (become_c H7.out hi (numV 0) ⟨by unfold wfi; decide, by unfold wfi; decide⟩).mono ?_
          rintro e w8 ⟨rfl, h8, f8⟩
          have H8 := Lib.hid h8
          have F8 : Hid (Fined G W w8) := (Fined.of_below K7.out).trans f8
          clear h8 f8
          go_wp2_with fail
          refine bodyPost_ret (v := .tuple #[]) (by simp [results, Tryd.results93, go_sem]) rfl ⟨rfl, ?_, kept_fined F8.out⟩
          rw [← HR.out]; dsimp only; rw [ST.out]; exact H8.out
        case false =>
          rw [if_neg (of_decide_eq_false HBB.out)] at HR
          have x1 : w7.cell? ⟨W.heap.size, 1, none⟩ = some (.int .i64 x.a) := cell_of_row w7 _ 1 _ _ _ X7.out
          have x2 : w7.cell? ⟨W.heap.size, 2, none⟩ = some (.int .i64 x.b) := cell_of_row w7 _ 2 _ _ _ X7.out
          by_cases hab : x.a = x.b
          · rw [if_pos hab] at HR
            have e1 : (x.a == x.b) = true := beq_iff_eq.2 hab
            have R7 : Hid (w7.rangeAt W.heap.size 0 (insCells x)) := (HeadAt.of_row X7.out).range
            have TC := Lib.hid (ftwice_c H7.out x i hi)
            generalize sameM (foldE t.ins) x i = so at TC HR
            have HAB := Lib.hid hab
            clear hab
            go_wp2_with (first | (refine wpList_load_mid rfl 43 _ rfl W.heap.size 0 rfl (insCells x) _ R7.out Tryd.underlying43 rfl LX.out ?_) | fail)
            refine TC.out.mono ?_
            intro e w8 hrp
            cases so with
            | some k =>
              obtain ⟨rfl, h8, f8⟩ := hrp
              have H8 := Lib.hid h8
              have F8 : Hid (Fined G W w8) := (Fined.of_below K7.out).trans f8
              clear h8 f8
              dsimp only at HR
              go_wp2_with fail
              refine bodyPost_ret (v := .tuple #[]) (by simp [results, Tryd.results93, go_sem]) rfl ⟨rfl, ?_, kept_fined F8.out⟩
              rw [← HR.out]; dsimp only; rw [ST.out]; exact H8.out
            | none =>
              obtain ⟨rfl, k8⟩ := hrp
              have H8 := Lib.hid (H7.out.below k8)
              have K8 : Hid (Below W.heap.size W w8) := K7.out.trans (k8.mono K7.out.size)
              clear k8
              dsimp only at HR
              go_wp2_with fail
              refine bodyPost_ret (v := .tuple #[]) (by simp [results, Tryd.results93, go_sem]) rfl ⟨rfl, ?_, kept_below K8.out⟩
              rw [← HR.out]; dsimp only; rw [ST.out, SX.out]; exact H8.out
          · rw [if_neg hab] at HR
            have e1 : (x.a == x.b) = false := beq_eq_false_iff_ne.2 hab
            clear hab
            go_wp2_with fail
            refine bodyPost_ret (v := .tuple #[]) (by simp [results, Tryd.results93, go_sem]) rfl ⟨rfl, ?_, kept_below K7.out⟩
            rw [← HR.out]; dsimp only; rw [ST.out, SX.out]; exact H7.out
end
end Go.Proofs.YtmccomeihnaanaaDoor
