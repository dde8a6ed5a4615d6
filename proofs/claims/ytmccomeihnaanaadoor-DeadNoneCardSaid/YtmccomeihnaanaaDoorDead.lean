/- DeadNone: the walk. -/
import Derived.Test.YtmccomeihnaanaaDoorDeadD
namespace Go.Proofs.YtmccomeihnaanaaDoor
open Go.RowKit Go.Maps

theorem dead_ok {p : CProg} {t z : TTrace} (h : deadM (ceOf p t) t = (z, 0)) : cutM (deadT t) (deadTo t) = (z, 0) := by
  unfold deadM at h
  split at h
  · rename_i c
    injection h with h1 h2
    exact (c h2).elim
  · exact h
theorem TraceR.cells4 {w : World} {B : Nat} {cs : List Value} {z : TTrace} (h : TraceR w B cs z) : ∃ B1 m1 B2 m2 B3 m3 B4 m4 B5 m5 B6 m6, cs = [.int .i64 z.fn, .int .i64 z.at_, .int .i64 z.loop, .slice B1 z.ins.length m1, .slice B2 z.exits.length m2, .int .i64 z.turn.at_, .int .i64 z.turn.steps, .slice B3 z.turn.sets.length m3, .slice B4 z.turn.makes.length m4, .int .i64 z.back.at_, .int .i64 z.back.steps, .slice B5 z.back.sets.length m5, .slice B6 z.back.makes.length m6] ∧
    SliceR w B 8 InsR (.slice B1 z.ins.length m1) z.ins ∧ SliceR w B 4 (ExitR w B) (.slice B2 z.exits.length m2) z.exits ∧ ExitR w B [.int .i64 z.turn.at_, .int .i64 z.turn.steps, .slice B3 z.turn.sets.length m3, .slice B4 z.turn.makes.length m4] z.turn ∧ ExitR w B [.int .i64 z.back.at_, .int .i64 z.back.steps, .slice B5 z.back.sets.length m5, .slice B6 z.back.makes.length m6] z.back := by
  obtain ⟨i, e, ct, cb, rfl, hi, he, ht, hb, -⟩ := h
  obtain ⟨A1, n1, rfl, -⟩ := id hi
  obtain ⟨A2, n2, rfl, -⟩ := id he
  obtain ⟨s1, m1, rfl, ⟨A3, n3, rfl, -⟩, ⟨A4, n4, rfl, -⟩, -⟩ := id ht
  obtain ⟨s2, m2, rfl, ⟨A5, n5, rfl, -⟩, ⟨A6, n6, rfl, -⟩, -⟩ := id hb
  exact ⟨A1, n1, A2, n2, A3, n3, A4, n4, A5, n5, A6, n6, rfl, hi, he, ht, hb⟩
theorem any_take {α : Type} {l : List α} {m : Nat} {x : α} (h : l[m]? = some x) (f : α → Bool) : (l.take (m + 1)).any f = ((l.take m).any f || f x) := by
  rw [take_snoc h, List.any_append]; simp
theorem any_between {α : Type} {l : List α} {j m : Nat} {x : α} (hj : j ≤ m) (h : l[m]? = some x) (f : α → Bool) : ((l.take (m + 1)).drop j).any f = (((l.take m).drop j).any f || f x) := by
  have hm := (List.getElem?_eq_some_iff.1 h).1
  rw [take_snoc h, List.drop_append_of_le_length (by simp; omega), List.any_append]; simp
/-- asked by someone -/
theorem dead_asked {z : TTrace} {j : Nat} (h : (j : Int) ∈ exitVals z.turn ∨ (j : Int) ∈ exitVals z.back ∨ (∃ x ∈ z.exits, (j : Int) ∈ exitVals x) ∨ ∃ q x, j < q ∧ z.ins[q]? = some x ∧ (j : Int) ∈ asksM x) :
    (((decide ((j : Int) ∈ exitVals z.turn) || decide ((j : Int) ∈ exitVals z.back)) || z.exits.any (fun e => decide ((j : Int) ∈ exitVals e))) || (z.ins.drop (j + 1)).any (fun y => decide ((j : Int) ∈ asksM y))) = true := by
  simp only [Bool.or_eq_true, decide_eq_true_eq, List.any_eq_true]
  rcases h with h | h | ⟨x, hx, h⟩ | ⟨q, x, hq, hx, h⟩
  · exact .inl (.inl (.inl h))
  · exact .inl (.inl (.inr h))
  · exact .inl (.inr ⟨x, hx, h⟩)
  · refine .inr ⟨x, List.mem_of_getElem? (i := q - (j + 1)) ?_, h⟩
    rw [List.getElem?_drop, show j + 1 + (q - (j + 1)) = q by omega]; exact hx

set_option maxHeartbeats 4000000 in
set_option maxRecDepth 100000 in
theorem deadNone_walk (pcs ca : List Value) (p : CProg) (t : TTrace) (w : World) (hp : ProgR w w.heap.size pcs p) (ht : TraceR w w.heap.size ca t) (tab : Tab w) :
    Calls Tryd.prog 7 #[.agg ⟨pcs⟩, .agg ⟨ca⟩] w (Gives (.bool true) w) := by
  have HIp := Lib.hid hp.size3
  have HIt := Lib.hid ht.size13
  obtain ⟨w0, hw0⟩ : ∃ w0, w0 = (w.alloc (.cells ⟨pcs⟩ 26)).alloc (.cells ⟨ca⟩ 34) := ⟨_, rfl⟩
  have TB := two_box w pcs ca 26 34
  rw [← hw0] at TB
  obtain ⟨t1, t2, t3⟩ := TB
  have H1 := Lib.hid t1
  have H2 := Lib.hid t2
  have K0 := Lib.hid t3
  have HW := Lib.hid hw0
  have R1 := Lib.hid H1.out.range
  have R2 := Lib.hid H2.out.range
  have CE := Lib.hid (deadDo_c pcs ca p t w0 (hp.below K0.out) (ht.below K0.out) (tab.below K0.out))
  clear hp ht hw0 t1 t2 t3 tab
  go_enter Tryd.func7, Tryd.ntmps7
  go_wp2_with (first | (refine wpList_load_mid rfl 26 _ rfl w.heap.size 0 rfl pcs _ (by rw [← HW.out]; exact R1.out) Tryd.underlying26 rfl HIp.out ?_) | (refine wpList_load_mid rfl 34 _ rfl (w.heap.size + 1) 0 rfl ca _ (by rw [← HW.out]; exact R2.out) Tryd.underlying34 rfl HIt.out ?_) | fail)
  rw [← HW.out]
  refine CE.out.mono ?_
  rintro e w1 ⟨cs, rfl, tr, k1⟩
  obtain ⟨zr, hzr⟩ : ∃ z, deadM (ceOf p t) t = z := ⟨_, rfl⟩
  rw [hzr] at tr
  rw [hzr]
  obtain ⟨z, r⟩ := zr
  dsimp only at tr ⊢
  have HOK : Hid (r = 0 → cutM (deadT t) (deadTo t) = (z, 0)) := fun e => dead_ok (hzr.trans (by rw [e]))
  obtain ⟨B1, m1, B2, m2, B3, m3, B4, m4, B5, m5, B6, m6, rfl, qi, qe, qt, qb⟩ := tr.cells4
  have li := len_le qi
  have le := len_le qe
  have QI := Lib.hid qi
  have QE := Lib.hid qe
  have QT := Lib.hid qt
  have QB := Lib.hid qb
  have K1 := Lib.hid (K0.out.trans (k1.mono K0.out.size))
  clear tr k1 qi qe qt qb hzr CE R1 R2
  obtain ⟨w2, hw2⟩ : ∃ w2, w2 = w1.alloc (.cells #[.int .i64 z.fn, .int .i64 z.at_, .int .i64 z.loop, .slice B1 z.ins.length m1, .slice B2 z.exits.length m2, .int .i64 z.turn.at_, .int .i64 z.turn.steps, .slice B3 z.turn.sets.length m3, .slice B4 z.turn.makes.length m4, .int .i64 z.back.at_, .int .i64 z.back.steps, .slice B5 z.back.sets.length m5, .slice B6 z.back.makes.length m6] 34) := ⟨_, rfl⟩
  have L2 : Hid (Below w1.heap.size w1 w2) := by rw [hw2]; exact below_one _ _
  have O2 : Hid (HeadAt w2 w1.heap.size [.int .i64 z.fn, .int .i64 z.at_, .int .i64 z.loop, .slice B1 z.ins.length m1, .slice B2 z.exits.length m2, .int .i64 z.turn.at_, .int .i64 z.turn.steps, .slice B3 z.turn.sets.length m3, .slice B4 z.turn.makes.length m4, .int .i64 z.back.at_, .int .i64 z.back.steps, .slice B5 z.back.sets.length m5, .slice B6 z.back.makes.length m6]) := HeadAt.of_row (by rw [hw2]; exact heap_last _ _)
  have K2 := Lib.hid (K1.out.trans (L2.out.mono K1.out.size))
  have hz2 : w1.heap.size < w2.heap.size := by rw [hw2]; simp
  have HW2 := Lib.hid hw2
  clear hw2
  go_upto_region 2 with fail
  rw [← HW2.out]
  by_cases hr : r = 0
  case neg =>
    have hr' : (r != 0) = true := by simpa using hr
    go_wp2_with fail
    refine (irred_c w2).mono ?_
    rintro e w3 ⟨rfl, k3⟩
    have K3 := Lib.hid (K2.out.trans (k3.mono K2.out.size))
    clear k3
    go_wp2_with fail
    go_ret
    exact ⟨rfl, K3.out⟩
  subst hr
  have OK := Lib.hid (HOK.out rfl)
  have HD : Hid (∀ (j : Nat) (y : TIns), z.ins[j]? = some y → ¬ 0 ≤ y.exit → tellsM y.op = true → ¬ (j = 0 ∧ 0 < z.loop) → (((decide ((j : Int) ∈ exitVals z.turn) || decide ((j : Int) ∈ exitVals z.back)) || z.exits.any (fun e => decide ((j : Int) ∈ exitVals e))) || (z.ins.drop (j + 1)).any (fun y => decide ((j : Int) ∈ asksM y))) = true) := fun j y hy c1 c2 c3 => by
    have h := dead_none (t := t) (p := j) (y := y) (by rw [OK.out]) (by rw [OK.out]; exact hy)
    rw [OK.out] at h
    rcases h with h | h | h | h
    · exact (c1 h).elim
    · rw [c2] at h; cases h
    · exact (c3 h).elim
    · exact dead_asked h
  have TU : Hid (∀ wr, Below w2.heap.size w2 wr → ExitR wr wr.heap.size [.int .i64 z.turn.at_, .int .i64 z.turn.steps, .slice B3 z.turn.sets.length m3, .slice B4 z.turn.makes.length m4] z.turn) := fun wr k => by
    have kk := L2.out.trans (k.mono L2.out.size)
    exact QT.out.keep kk.size (fun _ hp => kk.cell hp)
  have TB : Hid (∀ wr, Below w2.heap.size w2 wr → ExitR wr wr.heap.size [.int .i64 z.back.at_, .int .i64 z.back.steps, .slice B5 z.back.sets.length m5, .slice B6 z.back.makes.length m6] z.back) := fun wr k => by
    have kk := L2.out.trans (k.mono L2.out.size)
    exact QB.out.keep kk.size (fun _ hp => kk.cell hp)
  have RT : Hid (∀ wr, Below w2.heap.size w2 wr → wr.rangeAt w1.heap.size 5 [.int .i64 z.turn.at_, .int .i64 z.turn.steps, .slice B3 z.turn.sets.length m3, .slice B4 z.turn.makes.length m4]) := fun wr k a v hv => cell_on k (O2.out (5 + a) v (by
    rcases a with _ | _ | _ | _ | a <;> first | exact hv | (simp at hv)))
  have RB : Hid (∀ wr, Below w2.heap.size w2 wr → wr.rangeAt w1.heap.size 9 [.int .i64 z.back.at_, .int .i64 z.back.steps, .slice B5 z.back.sets.length m5, .slice B6 z.back.makes.length m6]) := fun wr k a v hv => cell_on k (O2.out (9 + a) v (by
    rcases a with _ | _ | _ | _ | a <;> first | exact hv | (simp at hv)))
  have LT : Hid ((Tryd.prog.info? 32).map (·.size) = some ([.int .i64 z.turn.at_, .int .i64 z.turn.steps, .slice B3 z.turn.sets.length m3, .slice B4 z.turn.makes.length m4] : List Value).length) := infoEx4
  have LB : Hid ((Tryd.prog.info? 32).map (·.size) = some ([.int .i64 z.back.at_, .int .i64 z.back.steps, .slice B5 z.back.sets.length m5, .slice B6 z.back.makes.length m6] : List Value).length) := infoEx4
  have o3 := O2.out 3 _ rfl
  clear HOK
  go_wp2_with fail
  clear o3
  go_loopw [23] (fun i wr => ∃ j : Nat, i = .int .i64 j ∧ j ≤ z.ins.length ∧ Hid (Below w2.heap.size w2 wr)) (fun i _ => z.ins.length - (RowKit.intOf i).toNat)
  case atStart => exact ⟨0, rfl, by omega, Below.refl _ _⟩
  case round =>
    obtain ⟨j, rfl, hj, KW⟩ := hrel
    obtain ⟨wo, hwo⟩ : ∃ wo, wo = wr := ⟨_, rfl⟩
    subst hwo
    have KY := Lib.hid (L2.out.trans (KW.out.mono L2.out.size))
    by_cases hlt : j < z.ins.length
    · have hji : (j : Int) < z.ins.length := by omega
      obtain ⟨b, off, x, rfl, hb, hx, wx, hat⟩ := ins_op QI.out hlt
      have o2 := cell_on KW.out (O2.out 2 _ rfl)
      have o3 := cell_on KW.out (O2.out 3 _ rfl)
      have hzw : w1.heap.size < wo.heap.size := Nat.lt_of_lt_of_le hz2 KW.out.size
      have x0 : wo.cell? ⟨b, off + j * 8, none⟩ = some (.int .i64 x.op) := (KY.out.cell hb).trans (hat 0 _ rfl)
      have x5 : wo.cell? ⟨b, off + j * 8 + 5, none⟩ = some (.int .i64 x.exit) := (KY.out.cell hb).trans (hat 5 _ rfl)
      have HX := Lib.hid hx
      clear hat hx wx
      obtain ⟨sk, hsk⟩ : ∃ sk, (decide (0 ≤ x.exit) || !tellsM x.op || (j == 0 && decide (0 < z.loop))) = sk := ⟨_, rfl⟩
      go_upto_region 7 with fail
      go_cut [51] (fun c wx => c = .bool sk ∧ Hid (Below w2.heap.size w2 wx))
      case first =>
        by_cases c1 : 0 ≤ x.exit
        · have e : sk = true := by rw [← hsk]; simp [c1]
          clear hsk
          go_wp2_with fail
          go_meet
          case rel => exact ⟨by rw [e], KW⟩
        have c1' : x.exit < 0 := by omega
        obtain ⟨tb, htb⟩ : ∃ tb, tellsM x.op = tb := ⟨_, rfl⟩
        have TC := Lib.hid (tells_c x.op wo)
        rw [htb] at TC hsk
        have HSK := Lib.hid hsk
        clear hsk htb
        go_wp2_with fail
        refine TC.out.mono ?_
        rintro e w3 ⟨rfl, k3⟩
        have K3 := Lib.hid (KW.out.trans (k3.mono KW.out.size))
        clear k3 x0 x5 o2 o3 TC
        have o2 := cell_on K3.out (O2.out 2 _ rfl)
        cases tb
        case false =>
          have e : sk = true := by rw [← HSK.out]; simp
          go_wp2_with fail
          go_meet
          case rel => exact ⟨by rw [e], K3⟩
        by_cases c3 : j = 0
        · subst c3
          by_cases c4 : 0 < z.loop
          · have e : sk = true := by rw [← HSK.out]; simp [c4]
            go_wp2_with fail
            go_meet
            case rel => exact ⟨by rw [e], K3⟩
          · have e : sk = false := by rw [← HSK.out]; simp [c4, c1]
            have c4' : decide (0 < z.loop) = false := decide_eq_false c4
            go_wp2_with fail
            go_meet
            case rel => exact ⟨by rw [e], K3⟩
        · have e : sk = false := by rw [← HSK.out]; simp [c3, c1]
          go_wp2_with fail
          go_meet
          case rel => exact ⟨by rw [e], K3⟩
      case rest =>
      obtain ⟨w3, hw3⟩ : ∃ w3, w3 = wc := ⟨_, rfl⟩
      subst hw3
      obtain ⟨rfl, K3⟩ := hcut
      have HSK := Lib.hid hsk
      clear hsk x0 x5 o2 o3
      cases sk
      case true =>
        go_wp2_with fail
        go_roundw
        case rel => exact ⟨j + 1, by go_num, by omega, K3⟩
        case measure => simp [RowKit.intOf]; omega
      have hcc : ¬ 0 ≤ x.exit ∧ tellsM x.op = true ∧ ¬ (j = 0 ∧ 0 < z.loop) := by
        have h := HSK.out
        simp only [Bool.or_eq_false_iff, decide_eq_false_iff_not, Bool.not_eq_false', Bool.and_eq_false_iff, beq_eq_false_iff_ne] at h
        refine ⟨h.1.1, h.1.2, fun c => ?_⟩
        rcases h.2 with h | h
        · exact h c.1
        · exact h c.2
      obtain ⟨c1, HTB, c0⟩ := hcc
      have HA := Lib.hid (HD.out j x HX.out (by omega) HTB c0)
      obtain ⟨A1, hA1⟩ : ∃ b, decide ((j : Int) ∈ exitVals z.turn) = b := ⟨_, rfl⟩
      obtain ⟨A2, hA2⟩ : ∃ b, decide ((j : Int) ∈ exitVals z.back) = b := ⟨_, rfl⟩
      obtain ⟨f, hf⟩ : ∃ f : TExit → Bool, f = fun e => decide ((j : Int) ∈ exitVals e) := ⟨_, rfl⟩
      obtain ⟨g, hg⟩ : ∃ g : TIns → Bool, g = fun y => decide ((j : Int) ∈ asksM y) := ⟨_, rfl⟩
      rw [hA1, hA2, ← hf, ← hg] at HA
      have HA1 := Lib.hid hA1
      have HA2 := Lib.hid hA2
      have HFF : Hid (∀ e, decide ((j : Int) ∈ exitVals e) = f e) := fun e => by rw [hf]
      have HGG : Hid (∀ y, decide ((j : Int) ∈ asksM y) = g y) := fun e => by rw [hg]
      have C1 : Hid (∀ wr, Below w2.heap.size w2 wr → Calls Tryd.prog 23 #[.agg ⟨[.int .i64 z.turn.at_, .int .i64 z.turn.steps, .slice B3 z.turn.sets.length m3, .slice B4 z.turn.makes.length m4]⟩, .int .i64 j] wr (Gives (.bool A1) wr)) := fun wr k => by
        rw [← HA1.out]; exact exitNames_c _ z.turn j wr (TU.out wr k)
      have C2 : Hid (∀ wr, Below w2.heap.size w2 wr → Calls Tryd.prog 23 #[.agg ⟨[.int .i64 z.back.at_, .int .i64 z.back.steps, .slice B5 z.back.sets.length m5, .slice B6 z.back.makes.length m6]⟩, .int .i64 j] wr (Gives (.bool A2) wr)) := fun wr k => by
        rw [← HA2.out]; exact exitNames_c _ z.back j wr (TB.out wr k)
      clear hA1 hA2 hf hg KW KY c0 c1 HTB
      have hz3 : w1.heap.size < w3.heap.size := Nat.lt_of_lt_of_le hz2 K3.out.size
      go_upto_region 8 with fail
      go_cut [8] (fun c wx => c = .bool (A1 || A2) ∧ Hid (Below w2.heap.size w2 wx))
      case first =>
        have R3 := Lib.hid (RT.out w3 K3.out)
        go_wp2_with (first | (refine wpList_load_mid rfl 32 _ rfl w1.heap.size 5 rfl [.int .i64 z.turn.at_, .int .i64 z.turn.steps, .slice B3 z.turn.sets.length m3, .slice B4 z.turn.makes.length m4] _ R3.out Tryd.underlying32 rfl LT.out ?_) | fail)
        refine (C1.out w3 K3.out).mono ?_
        rintro e w4 ⟨rfl, k4⟩
        have K4 := Lib.hid (K3.out.trans (k4.mono K3.out.size))
        clear k4
        have hz4 : w1.heap.size < w4.heap.size := Nat.lt_of_lt_of_le hz2 K4.out.size
        cases A1
        case true =>
          go_wp2_with fail
          go_meet
          case rel => exact ⟨by rw [Bool.true_or], K4⟩
        case false =>
          have R4 := Lib.hid (RB.out w4 K4.out)
          have r0 : w4.cell? ⟨w1.heap.size, 9, none⟩ = some (.int .i64 z.back.at_) := R4.out 0 _ rfl
          have r1 : w4.cell? ⟨w1.heap.size, 10, none⟩ = some (.int .i64 z.back.steps) := R4.out 1 _ rfl
          have r2 : w4.cell? ⟨w1.heap.size, 11, none⟩ = some (.slice B5 z.back.sets.length m5) := R4.out 2 _ rfl
          have r3 : w4.cell? ⟨w1.heap.size, 12, none⟩ = some (.slice B6 z.back.makes.length m6) := R4.out 3 _ rfl
          go_wp2_with fail
          refine (C2.out w4 K4.out).mono ?_
          rintro e w5 ⟨rfl, k5⟩
          have K5 := Lib.hid (K4.out.trans (k5.mono K4.out.size))
          clear k5
          go_wp2_with fail
          go_meet
          case rel => exact ⟨by rw [Bool.false_or], K5⟩
      case rest =>
        obtain ⟨w4, hw4⟩ : ∃ w4, w4 = wc := ⟨_, rfl⟩
        subst hw4
        obtain ⟨rfl, K4⟩ := hcut
        obtain ⟨A, hA⟩ : ∃ A, (A1 || A2) = A := ⟨_, rfl⟩
        rw [hA] at HA
        rw [hA]
        clear hA C1 C2 HA1 HA2 K3 hz3
        have o4 := cell_on K4.out (O2.out 4 _ rfl)
        have hz4 : w1.heap.size < w4.heap.size := Nat.lt_of_lt_of_le hz2 K4.out.size
        go_wp2_with fail
        clear o4
        go_loopw [8, 65] (fun c i wr => ∃ m : Nat, i = .int .i64 m ∧ m ≤ z.exits.length ∧ c = .bool (A || (z.exits.take m).any f) ∧ Hid (Below w2.heap.size w2 wr)) (fun _ i _ => z.exits.length - (RowKit.intOf i).toNat)
        case atStart => exact ⟨0, rfl, by omega, by simp, K4⟩
        case round =>
          obtain ⟨m, rfl, hm, rfl, KX⟩ := hrel
          obtain ⟨wi, hwi⟩ : ∃ wi, wi = wr := ⟨_, rfl⟩
          subst hwi
          have KY := Lib.hid (L2.out.trans (KX.out.mono L2.out.size))
          have hzi : w1.heap.size < wi.heap.size := Nat.lt_of_lt_of_le hz2 KX.out.size
          by_cases hlm : m < z.exits.length
          · have hmi : (m : Int) < z.exits.length := by omega
            obtain ⟨b', off', y, ys, rfl, hb', hy, -, hyr, hat⟩ := QE.out.at_ hlm
            obtain ⟨s, mk, rfl, ⟨S, cS, rfl, -⟩, ⟨M, cM, rfl, -⟩, -⟩ := id hyr
            have RY : Hid (wi.rangeAt b' (off' + m * 4) [.int .i64 y.at_, .int .i64 y.steps, .slice S y.sets.length cS, .slice M y.makes.length cM]) := fun a v hv => (KY.out.cell hb').trans (hat a v hv)
            have CY : Hid (Calls Tryd.prog 23 #[.agg ⟨[.int .i64 y.at_, .int .i64 y.steps, .slice S y.sets.length cS, .slice M y.makes.length cM]⟩, .int .i64 j] wi (Gives (.bool (f y)) wi)) := by
              rw [← HFF.out]; exact exitNames_c _ y j wi (hyr.keep KY.out.size (fun _ hp => KY.out.cell hp))
            have o4 := cell_on KX.out (O2.out 4 _ rfl)
            have HN : Hid ((z.exits.take (m + 1)).any f = ((z.exits.take m).any f || f y)) := any_take hy f
            obtain ⟨bb, hbb⟩ : ∃ bb, (A || (z.exits.take m).any f) = bb := ⟨_, rfl⟩
            rw [hbb]
            have HBB := Lib.hid hbb
            have hzb : b' < wi.heap.size := Nat.lt_of_lt_of_le hb' KY.out.size
            clear hat hy hyr hbb
            cases bb
            case true =>
              go_wp2_with fail
              go_roundw
              case rel => exact ⟨m + 1, by go_num, by omega, by rw [HN.out, ← Bool.or_assoc, HBB.out, Bool.true_or], KX⟩
              case measure => simp [RowKit.intOf]; omega
            case false =>
              have r0 : wi.cell? ⟨b', off' + m * 4, none⟩ = some (.int .i64 y.at_) := RY.out 0 _ rfl
              have r1 : wi.cell? ⟨b', off' + m * 4 + 1, none⟩ = some (.int .i64 y.steps) := RY.out 1 _ rfl
              have r2 : wi.cell? ⟨b', off' + m * 4 + 2, none⟩ = some (.slice S y.sets.length cS) := RY.out 2 _ rfl
              have r3 : wi.cell? ⟨b', off' + m * 4 + 3, none⟩ = some (.slice M y.makes.length cM) := RY.out 3 _ rfl
              go_wp2_with fail
              refine CY.out.mono ?_
              rintro e w5 ⟨rfl, k5⟩
              have K5 := Lib.hid (KX.out.trans (k5.mono KX.out.size))
              clear k5
              go_wp2_with fail
              go_roundw
              case rel => exact ⟨m + 1, by go_num, by omega, by rw [HN.out, ← Bool.or_assoc, HBB.out, Bool.false_or], K5⟩
              case measure => simp [RowKit.intOf]; omega
          · have hmi : ¬ (m : Int) < z.exits.length := by omega
            obtain ⟨A', hA'⟩ : ∃ A', (A || (z.exits.take m).any f) = A' := ⟨_, rfl⟩
            have HA3 : Hid ((A' || (z.ins.drop (j + 1)).any g) = true) := by
              have h := HA.out
              rw [← List.take_of_length_le (l := z.exits) (i := m) (by omega), hA'] at h
              exact h
            rw [hA']
            clear hA' HA
            go_wp2_with fail
            go_loopw [8, 10] (fun c i wr => ∃ m : Nat, i = .int .i64 m ∧ j + 1 ≤ m ∧ m ≤ z.ins.length ∧ c = .bool (A' || ((z.ins.take m).drop (j + 1)).any g) ∧ Hid (Below w2.heap.size w2 wr)) (fun _ i _ => z.ins.length - (RowKit.intOf i).toNat)
            case atStart => exact ⟨j + 1, by go_num, by omega, by omega, by rw [List.drop_of_length_le (by simp; omega)]; simp, KX⟩
            case round =>
              clear KX KY hzi
              obtain ⟨m, rfl, hm0, hm, rfl, KX⟩ := hrel
              obtain ⟨wi, hwi⟩ : ∃ wi, wi = wr := ⟨_, rfl⟩
              subst hwi
              have KY := Lib.hid (L2.out.trans (KX.out.mono L2.out.size))
              have hzi : w1.heap.size < wi.heap.size := Nat.lt_of_lt_of_le hz2 KX.out.size
              have o3 := cell_on KX.out (O2.out 3 _ rfl)
              by_cases hlm : m < z.ins.length
              · have hmi : (m : Int) < z.ins.length := by omega
                obtain ⟨b', off', y, hbo, hb', hy, wy, hat⟩ := ins_op QI.out hlm
                obtain ⟨rfl, rfl⟩ : b = b' ∧ off = off' := by injection hbo with hbo; injection hbo with h1 h2; exact ⟨h1, h2⟩
                have RY : Hid (wi.rangeAt b (off + m * 8) (insCells y)) := fun a v hv => (KY.out.cell hb').trans (hat a v hv)
                have LY : Hid ((Tryd.prog.info? 43).map (·.size) = some (insCells y).length) := infoIns8
                have HN : Hid (((z.ins.take (m + 1)).drop (j + 1)).any g = (((z.ins.take m).drop (j + 1)).any g || g y)) := any_between hm0 hy g
                have CY := Lib.hid (asks_c y wy wi)
                obtain ⟨bb, hbb⟩ : ∃ bb, (A' || ((z.ins.take m).drop (j + 1)).any g) = bb := ⟨_, rfl⟩
                rw [hbb]
                have HBB := Lib.hid hbb
                have hzb : b < wi.heap.size := Nat.lt_of_lt_of_le hb' KY.out.size
                clear hat hy wy hbb hbo
                cases bb
                case true =>
                  go_wp2_with fail
                  go_roundw
                  case rel => exact ⟨m + 1, by go_num, by omega, by omega, by rw [HN.out, ← Bool.or_assoc, HBB.out, Bool.true_or], KX⟩
                  case measure => simp [RowKit.intOf]; omega
                case false =>
                  have r0 : wi.cell? ⟨b, off + m * 8, none⟩ = some (.int .i64 y.op) := RY.out 0 _ rfl
                  have r1 : wi.cell? ⟨b, off + m * 8 + 1, none⟩ = some (.int .i64 y.a) := RY.out 1 _ rfl
                  have r2 : wi.cell? ⟨b, off + m * 8 + 2, none⟩ = some (.int .i64 y.b) := RY.out 2 _ rfl
                  have r3 : wi.cell? ⟨b, off + m * 8 + 3, none⟩ = some (.int .i64 y.c) := RY.out 3 _ rfl
                  have r4 : wi.cell? ⟨b, off + m * 8 + 4, none⟩ = some (.int .i64 y.n) := RY.out 4 _ rfl
                  have r5 : wi.cell? ⟨b, off + m * 8 + 5, none⟩ = some (.int .i64 y.exit) := RY.out 5 _ rfl
                  have r6 : wi.cell? ⟨b, off + m * 8 + 6, none⟩ = some (.int .i64 y.k.kind) := RY.out 6 _ rfl
                  have r7 : wi.cell? ⟨b, off + m * 8 + 7, none⟩ = some (.int .i64 y.k.n) := RY.out 7 _ rfl
                  go_wp2_with fail
                  refine CY.out.mono ?_
                  rintro e w5 ⟨v, rfl, hv, k5⟩
                  have K5 := Lib.hid (KX.out.trans (k5.mono KX.out.size))
                  have CH := Lib.hid (has_c v (asksM y) j w5 hv)
                  rw [HGG.out] at CH
                  clear k5 hv
                  go_wp2_with fail
                  refine CH.out.mono ?_
                  rintro e w6 ⟨rfl, k6⟩
                  have K6 := Lib.hid (K5.out.trans (k6.mono K5.out.size))
                  clear k6
                  go_wp2_with fail
                  go_roundw
                  case rel => exact ⟨m + 1, by go_num, by omega, by omega, by rw [HN.out, ← Bool.or_assoc, HBB.out, Bool.false_or], K6⟩
                  case measure => simp [RowKit.intOf]; omega
              · have hmi : ¬ (m : Int) < z.ins.length := by omega
                have HA4 : (A' || ((z.ins.take m).drop (j + 1)).any g) = true := by
                  rw [List.take_of_length_le (by omega)]; exact HA3.out
                rw [HA4]
                go_wp2_with fail
                go_roundw
                case rel => exact ⟨j + 1, by go_num, by omega, KX⟩
                case measure => simp [RowKit.intOf]; omega
    · have hji : ¬ (j : Int) < z.ins.length := by omega
      go_wp2_with fail
      have kk := Lib.hid (K2.out.trans (KW.out.mono K2.out.size))
      refine (irred_c wo).mono ?_
      rintro e w5 ⟨rfl, k5⟩
      have K5 := Lib.hid (kk.out.trans (k5.mono kk.out.size))
      clear k5
      go_wp2_with fail
      go_ret
      exact ⟨rfl, K5.out⟩
end Go.Proofs.YtmccomeihnaanaaDoor
