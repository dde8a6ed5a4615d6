/- peel.has, peel.firm: each gives some Bool. -/
import Derived.Test.YtmccomeihnaanaaDoorPeelC
import Derived.Test.YtmccomeihnaanaaDoorChkN
namespace Go.Proofs.YtmccomeihnaanaaDoor
open Go.RowKit


set_option maxHeartbeats 1000000 in
set_option maxRecDepth 100000 in
theorem indexFunc_sets {α : Type} (R : List Value → α → Prop) (p : α → Bool) (A : Option Addr) (cap : Nat) (xs : List α) (fid : FuncId) (hen : ∀ args W, (callFunc fid args).run Tryd.prog W = .ok (.enter fid args) W) (caps : Array Value) (w : World) (hs : SliceR w w.heap.size 2 R (.slice A xs.length cap) xs)
    (hp : ∀ (w1 : World), Below w.heap.size w w1 → ∀ (x : α) (cs : List Value), x ∈ xs → R cs x → Calls Tryd.prog fid (#[.agg ⟨cs⟩] ++ caps) w1 (Gives (.bool (p x)) w1)) :
    Calls Tryd.prog 112 #[.slice A xs.length cap, .func (.func fid) #[] caps] w (Gives (.int .i64 (findM p xs)) w) := by
  have HS := Lib.hid hs
  have HP := Lib.hid hp
  have hl : xs.length ≤ cap ∧ cap ≤ maxLen := by obtain ⟨A', c', e, e1, e2, -⟩ := hs; injection e with _ _ e3; subst e3; exact ⟨e1, e2⟩
  obtain ⟨hl1, hl0⟩ := hl
  unfold maxLen at hl0
  clear hs hp
  go_enter Tryd.func112, Tryd.ntmps112
  go_wp2_with fail
  go_loopw [8] (fun k wr => ∃ kn : Nat, k = .int .i64 kn ∧ kn ≤ xs.length ∧ Hid (∀ i x, i < kn → xs[i]? = some x → p x = false) ∧ Hid (Below w.heap.size w wr)) (fun k _ => xs.length - (RowKit.intOf k).toNat)
  case atStart => exact ⟨0, rfl, by omega, fun i x hi _ => by omega, Below.refl _ _⟩
  case round =>
    obtain ⟨kn, rfl, hk, KP, KW⟩ := hrel
    by_cases hlt : kn < xs.length
    · obtain ⟨b, off, x, cs, rfl, hb, hx0, hcl, hR, hat⟩ := HS.out.at_ hlt
      match cs, hcl with
      | [c0, c1], _ =>
        have hi1 : (kn : Int) < xs.length := by omega
        have g0 : wr.cell? ⟨b, off + kn * 2, none⟩ = some c0 := (KW.out.cell hb).trans (hat 0 _ rfl)
        have g1 : wr.cell? ⟨b, off + kn * 2 + 1, none⟩ = some c1 := (KW.out.cell hb).trans (hat 1 _ rfl)
        have HC := Lib.hid (HP.out wr KW.out x _ (List.mem_of_getElem? hx0) hR)
        have HX := Lib.hid hx0
        clear hx0 hat hR
        cases hpx : p x
        · have HF := Lib.hid hpx
          rw [hpx] at HC
          clear hpx
          go_wp2_with fail
          refine HC.out.mono ?_
          rintro e w2 ⟨rfl, k2⟩
          have K2 := Lib.hid (Below.trans KW.out (k2.mono KW.out.size))
          clear k2 g0 g1
          go_wp2_with fail
          go_roundw
          case rel => exact ⟨kn + 1, by go_num, by omega, fun i y hi hy => by
            rcases Nat.lt_or_ge i kn with h | h
            · exact KP.out i y h hy
            · have : i = kn := by omega
              subst this
              rw [HX.out] at hy
              injection hy with hy
              subst hy
              exact HF.out, K2⟩
          case measure => simp [RowKit.intOf]; omega
        · have HF := Lib.hid (findM_hit KP.out HX.out hpx)
          rw [hpx] at HC
          clear hpx
          go_wp2_with fail
          refine HC.out.mono ?_
          rintro e w2 ⟨rfl, k2⟩
          have K2 := Lib.hid (Below.trans KW.out (k2.mono KW.out.size))
          clear k2 g0 g1
          go_wp2_with fail
          go_ret
          exact ⟨by rw [HF.out]; rfl, K2.out⟩
    · have HF := Lib.hid (findM_none (p := p) (xs := xs) (fun i x hi => KP.out i x (by have := (List.getElem?_eq_some_iff.1 hi).1; omega) hi))
      go_wp2_with fail
      go_ret
      exact ⟨by rw [HF.out]; rfl, KW.out⟩
set_option maxHeartbeats 1000000 in
theorem containsFunc_sets {α : Type} (R : List Value → α → Prop) (p : α → Bool) (A : Option Addr) (cap : Nat) (xs : List α) (fid : FuncId) (hen : ∀ args W, (callFunc fid args).run Tryd.prog W = .ok (.enter fid args) W) (caps : Array Value) (w : World) (hs : SliceR w w.heap.size 2 R (.slice A xs.length cap) xs)
    (hp : ∀ (w1 : World), Below w.heap.size w w1 → ∀ (x : α) (cs : List Value), x ∈ xs → R cs x → Calls Tryd.prog fid (#[.agg ⟨cs⟩] ++ caps) w1 (Gives (.bool (p x)) w1)) :
    Calls Tryd.prog 81 #[.slice A xs.length cap, .func (.func fid) #[] caps] w (Gives (.bool (xs.any p)) w) := by
  have HC := Lib.hid (indexFunc_sets R p A cap xs fid hen caps w hs hp)
  have HB := Lib.hid (findM_any p xs)
  clear hs hp hen
  go_enter Tryd.func81, Tryd.ntmps81
  go_wp2_with fail
  refine HC.out.mono ?_
  rintro e w1 ⟨rfl, k1⟩
  have K1 := Lib.hid k1
  clear k1
  go_wp2_with fail
  go_ret
  exact ⟨by rw [HB.out]; rfl, K1.out⟩


set_option maxHeartbeats 1000000 in
set_option maxRecDepth 100000 in
theorem indexFunc_inss {α : Type} (R : List Value → α → Prop) (p : α → Bool) (A : Option Addr) (cap : Nat) (xs : List α) (fid : FuncId) (hen : ∀ args W, (callFunc fid args).run Tryd.prog W = .ok (.enter fid args) W) (caps : Array Value) (w : World) (hs : SliceR w w.heap.size 8 R (.slice A xs.length cap) xs)
    (hp : ∀ (w1 : World), Below w.heap.size w w1 → ∀ (x : α) (cs : List Value), x ∈ xs → R cs x → Calls Tryd.prog fid (#[.agg ⟨cs⟩] ++ caps) w1 (Gives (.bool (p x)) w1)) :
    Calls Tryd.prog 139 #[.slice A xs.length cap, .func (.func fid) #[] caps] w (Gives (.int .i64 (findM p xs)) w) := by
  have HS := Lib.hid hs
  have HP := Lib.hid hp
  have hl : xs.length ≤ cap ∧ cap ≤ maxLen := by obtain ⟨A', c', e, e1, e2, -⟩ := hs; injection e with _ _ e3; subst e3; exact ⟨e1, e2⟩
  obtain ⟨hl1, hl0⟩ := hl
  unfold maxLen at hl0
  clear hs hp
  go_enter Tryd.func139, Tryd.ntmps139
  go_wp2_with fail
  go_loopw [8] (fun k wr => ∃ kn : Nat, k = .int .i64 kn ∧ kn ≤ xs.length ∧ Hid (∀ i x, i < kn → xs[i]? = some x → p x = false) ∧ Hid (Below w.heap.size w wr)) (fun k _ => xs.length - (RowKit.intOf k).toNat)
  case atStart => exact ⟨0, rfl, by omega, fun i x hi _ => by omega, Below.refl _ _⟩
  case round =>
    obtain ⟨kn, rfl, hk, KP, KW⟩ := hrel
    by_cases hlt : kn < xs.length
    · obtain ⟨b, off, x, cs, rfl, hb, hx0, hcl, hR, hat⟩ := HS.out.at_ hlt
      match cs, hcl with
      | [c0, c1, c2, c3, c4, c5, c6, c7], _ =>
        have hi1 : (kn : Int) < xs.length := by omega
        have g0 : wr.cell? ⟨b, off + kn * 8, none⟩ = some c0 := (KW.out.cell hb).trans (hat 0 _ rfl)
        have g1 : wr.cell? ⟨b, off + kn * 8 + 1, none⟩ = some c1 := (KW.out.cell hb).trans (hat 1 _ rfl)
        have g2 : wr.cell? ⟨b, off + kn * 8 + 2, none⟩ = some c2 := (KW.out.cell hb).trans (hat 2 _ rfl)
        have g3 : wr.cell? ⟨b, off + kn * 8 + 3, none⟩ = some c3 := (KW.out.cell hb).trans (hat 3 _ rfl)
        have g4 : wr.cell? ⟨b, off + kn * 8 + 4, none⟩ = some c4 := (KW.out.cell hb).trans (hat 4 _ rfl)
        have g5 : wr.cell? ⟨b, off + kn * 8 + 5, none⟩ = some c5 := (KW.out.cell hb).trans (hat 5 _ rfl)
        have g6 : wr.cell? ⟨b, off + kn * 8 + 6, none⟩ = some c6 := (KW.out.cell hb).trans (hat 6 _ rfl)
        have g7 : wr.cell? ⟨b, off + kn * 8 + 7, none⟩ = some c7 := (KW.out.cell hb).trans (hat 7 _ rfl)
        have HC := Lib.hid (HP.out wr KW.out x _ (List.mem_of_getElem? hx0) hR)
        have HX := Lib.hid hx0
        clear hx0 hat hR
        cases hpx : p x
        · have HF := Lib.hid hpx
          rw [hpx] at HC
          clear hpx
          go_wp2_with fail
          refine HC.out.mono ?_
          rintro e w2 ⟨rfl, k2⟩
          have K2 := Lib.hid (Below.trans KW.out (k2.mono KW.out.size))
          clear k2 g0 g1 g2 g3 g4 g5 g6 g7
          go_wp2_with fail
          go_roundw
          case rel => exact ⟨kn + 1, by go_num, by omega, fun i y hi hy => by
            rcases Nat.lt_or_ge i kn with h | h
            · exact KP.out i y h hy
            · have : i = kn := by omega
              subst this
              rw [HX.out] at hy
              injection hy with hy
              subst hy
              exact HF.out, K2⟩
          case measure => simp [RowKit.intOf]; omega
        · have HF := Lib.hid (findM_hit KP.out HX.out hpx)
          rw [hpx] at HC
          clear hpx
          go_wp2_with fail
          refine HC.out.mono ?_
          rintro e w2 ⟨rfl, k2⟩
          have K2 := Lib.hid (Below.trans KW.out (k2.mono KW.out.size))
          clear k2 g0 g1 g2 g3 g4 g5 g6 g7
          go_wp2_with fail
          go_ret
          exact ⟨by rw [HF.out]; rfl, K2.out⟩
    · have HF := Lib.hid (findM_none (p := p) (xs := xs) (fun i x hi => KP.out i x (by have := (List.getElem?_eq_some_iff.1 hi).1; omega) hi))
      go_wp2_with fail
      go_ret
      exact ⟨by rw [HF.out]; rfl, KW.out⟩
set_option maxHeartbeats 1000000 in
theorem containsFunc_inss {α : Type} (R : List Value → α → Prop) (p : α → Bool) (A : Option Addr) (cap : Nat) (xs : List α) (fid : FuncId) (hen : ∀ args W, (callFunc fid args).run Tryd.prog W = .ok (.enter fid args) W) (caps : Array Value) (w : World) (hs : SliceR w w.heap.size 8 R (.slice A xs.length cap) xs)
    (hp : ∀ (w1 : World), Below w.heap.size w w1 → ∀ (x : α) (cs : List Value), x ∈ xs → R cs x → Calls Tryd.prog fid (#[.agg ⟨cs⟩] ++ caps) w1 (Gives (.bool (p x)) w1)) :
    Calls Tryd.prog 113 #[.slice A xs.length cap, .func (.func fid) #[] caps] w (Gives (.bool (xs.any p)) w) := by
  have HC := Lib.hid (indexFunc_inss R p A cap xs fid hen caps w hs hp)
  have HB := Lib.hid (findM_any p xs)
  clear hs hp hen
  go_enter Tryd.func113, Tryd.ntmps113
  go_wp2_with fail
  refine HC.out.mono ?_
  rintro e w1 ⟨rfl, k1⟩
  have K1 := Lib.hid k1
  clear k1
  go_wp2_with fail
  go_ret
  exact ⟨by rw [HB.out]; rfl, K1.out⟩

set_option maxHeartbeats 1000000 in
set_option maxRecDepth 100000 in
theorem index_c (v : Value) (xs : List Int) (x : Int) (w : World) (hs : SliceR w w.heap.size 1 IntR v xs) : Calls Tryd.prog 140 #[v, .int .i64 x] w (fun e w' => ∃ k : Int, e = .returned (.int .i64 k) ∧ (0 ≤ k ↔ x ∈ xs) ∧ Below w.heap.size w w') := by
  have HS := Lib.hid hs
  obtain ⟨A, cap, rfl, l1, l2, -⟩ := id hs
  unfold maxLen at l2
  clear hs
  go_enter Tryd.func140, Tryd.ntmps140
  go_wp2_with fail
  go_loopw [8] (fun i wr => ∃ j : Nat, i = .int .i64 j ∧ j ≤ xs.length ∧ Hid (x ∉ xs.take j) ∧ Hid (Below w.heap.size w wr)) (fun i _ => xs.length - (RowKit.intOf i).toNat)
  case atStart => exact ⟨0, rfl, by omega, by rw [List.take_zero]; exact List.not_mem_nil, Below.refl _ _⟩
  case round =>
    obtain ⟨j, rfl, hj, KN, KW⟩ := hrel
    by_cases hlt : j < xs.length
    · obtain ⟨b, off, y, ys, rfl, hb, hy, -, ⟨rfl, wy⟩, hat⟩ := HS.out.at_ hlt
      have hji : (j : Int) < xs.length := by omega
      have g0 : wr.cell? ⟨b, off + j, none⟩ = some (.int .i64 y) := (KW.out.cell hb).trans (by simpa using hat 0 _ rfl)
      have HY := Lib.hid hy
      clear hat hy wy
      by_cases c : x = y
      · have HM : Hid (x ∈ xs) := by rw [c]; exact List.mem_of_getElem? HY.out
        have b1 : (x == y) = true := beq_iff_eq.2 c
        go_wp2_with fail
        go_ret
        exact ⟨_, rfl, ⟨fun _ => HM.out, fun _ => by omega⟩, KW.out⟩
      · have b1 : (x == y) = false := beq_eq_false_iff_ne.2 c
        have HN : Hid (x ∉ xs.take (j + 1)) := by
          rw [show Hid _ = (x ∉ xs.take (j + 1)) from rfl, take_snoc HY.out, List.mem_append]
          rintro (h | h)
          · exact KN.out h
          · simp at h; exact c h
        go_wp2_with fail
        go_roundw
        case rel => exact ⟨j + 1, by go_num, by omega, HN.out, KW.out⟩
        case measure => simp [RowKit.intOf]; omega
    · have hji : ¬ (j : Int) < xs.length := by omega
      have HM : Hid (x ∉ xs) := by have := KN.out; rwa [List.take_of_length_le (by omega)] at this
      go_wp2_with fail
      go_ret
      exact ⟨_, rfl, ⟨fun h => by omega, fun h => absurd h HM.out⟩, KW.out⟩
set_option maxHeartbeats 1000000 in
set_option maxRecDepth 100000 in
theorem contains_c (v : Value) (xs : List Int) (x : Int) (w : World) (hs : SliceR w w.heap.size 1 IntR v xs) : Calls Tryd.prog 115 #[v, .int .i64 x] w (Gives (.bool (decide (x ∈ xs))) w) := by
  have IC := Lib.hid (index_c v xs x w hs)
  obtain ⟨A, cap, rfl, -⟩ := hs
  obtain ⟨r, hr⟩ : ∃ r, decide (x ∈ xs) = r := ⟨_, rfl⟩
  rw [hr]
  have HR := Lib.hid hr
  clear hr
  go_enter Tryd.func115, Tryd.ntmps115
  go_wp2_with fail
  refine IC.out.mono ?_
  rintro e w1 ⟨k, rfl, hk, k1⟩
  have K1 := Lib.hid k1
  have HK := Lib.hid hk
  clear k1 hk
  go_wp2_with fail
  go_ret
  exact ⟨by rw [← HR.out, show decide (x ∈ xs) = decide (0 ≤ k) from decide_eq_decide.2 HK.out.symm]; rfl, K1.out⟩
set_option maxHeartbeats 1000000 in
set_option maxRecDepth 100000 in
theorem has1_c (ops : List Int) (v : Value) (x : TIns) (ob : Nat) (w : World) (hv : SliceR w w.heap.size 1 IntR v ops) (hb : w.cell? ⟨ob, 0, none⟩ = some v) : Calls Tryd.prog 114 #[.agg ⟨insCells x⟩, .pointer (some ⟨ob, 0, none⟩)] w (Gives (.bool (decide (x.op ∈ ops))) w) := by
  obtain ⟨w0, hw0⟩ : ∃ w0, w0 = w.alloc (.cells ⟨insCells x⟩ 43) := ⟨_, rfl⟩
  have K0 : Hid (Below w.heap.size w w0) := by rw [hw0]; exact below_one _ _
  have CC := Lib.hid (contains_c v ops x.op w0 (hv.below K0.out))
  have hlt := cell_lt hb
  have B0 : Hid (w0.cell? ⟨ob, 0, none⟩ = some v) := cell_on K0.out hb
  have H0 : Hid (HeadAt w0 w.heap.size (insCells x)) := by rw [hw0]; exact HeadAt.box _ _ _
  unfold insCells at hw0 ⊢
  have HW := Lib.hid hw0
  obtain ⟨A, cap, rfl, -⟩ := hv
  obtain ⟨r, hr⟩ : ∃ r, decide (x.op ∈ ops) = r := ⟨_, rfl⟩
  rw [hr] at CC ⊢
  clear hr hw0 hb
  go_enter Tryd.func114, Tryd.ntmps114
  go_upto_region 1 with fail
  rw [← HW.out]
  have b0 := B0.out
  have h0 := H0.out 0 _ rfl
  go_wp2_with fail
  refine CC.out.mono ?_
  rintro e w1 ⟨rfl, k1⟩
  have K1 := Lib.hid (K0.out.trans (k1.mono K0.out.size))
  clear k1 b0 h0
  go_wp2_with fail
  go_ret
  exact ⟨rfl, K1.out⟩
theorem enters_has1 : ∀ args W, (callFunc 114 args).run Tryd.prog W = .ok (.enter 114 args) W := enters_of Tryd.func114 (by kernel_rfl) rfl
set_option maxHeartbeats 1000000 in
set_option maxRecDepth 100000 in
theorem peelHas_c (ca : List Value) (t : TTrace) (v : Value) (ops : List Int) (w : World) (ht : TraceR w w.heap.size ca t) (hv : SliceR w w.heap.size 1 IntR v ops) : Calls Tryd.prog 83 #[.agg ⟨ca⟩, v] w (fun e w' => ∃ b, e = .returned (.bool b) ∧ Below w.heap.size w w') := by
  obtain ⟨Ai, ni, p3, qi⟩ := ht.at3
  have P3 := Lib.hid p3
  obtain ⟨w0, hw0⟩ : ∃ w0, w0 = (w.alloc (.cells ⟨ca⟩ 34)).alloc (.cells #[v] 38) := ⟨_, rfl⟩
  have K0 : Hid (Below w.heap.size w w0) := by rw [hw0]; exact below_two' _ _ _
  have H0 : Hid (HeadAt w0 w.heap.size ca) := by rw [hw0]; exact (HeadAt.box _ _ _).old _
  have H1 : Hid (w0.cell? ⟨w.heap.size + 1, 0, none⟩ = some v) := by rw [hw0]; exact two_cell1 _ _ _ _ _
  have hz := cell_lt H1.out
  have CF := Lib.hid (containsFunc_inss InsR (fun x => decide (x.op ∈ ops)) Ai ni t.ins 114 enters_has1 #[.pointer (some ⟨w.heap.size + 1, 0, none⟩)] w0 (qi.keep K0.out.size (fun _ hp => K0.out.cell hp) (fun _ _ h => h)) (fun w1 k1 x cs hx hR => by
    obtain ⟨rfl, -⟩ := hR
    have K1 := K0.out.trans (k1.mono K0.out.size)
    exact has1_c ops v x (w.heap.size + 1) w1 (hv.below K1) (cell_on k1 H1.out)))
  obtain ⟨A, cap, rfl, -⟩ := hv
  have HW := Lib.hid hw0
  have hni : t.ins.length ≤ ni ∧ ni ≤ 9223372036854775807 := by obtain ⟨_, _, e, h1, h2, -⟩ := id qi; injection e with _ e1 e2; unfold maxLen at h2; omega
  obtain ⟨hni1, hni2⟩ := hni
  clear hw0 ht p3 qi
  go_enter Tryd.func83, Tryd.ntmps83
  go_upto_region 1 with fail
  rw [← HW.out]
  have h3 := H0.out 3 _ P3.out
  go_wp2_with fail
  refine CF.out.mono ?_
  rintro e w1 ⟨rfl, k1⟩
  have K1 := Lib.hid (K0.out.trans (k1.mono K0.out.size))
  clear k1 h3
  go_wp2_with fail
  go_ret
  exact ⟨_, rfl, K1.out⟩
set_option maxHeartbeats 1000000 in
set_option maxRecDepth 100000 in
theorem firm1_c (s : TSet) (x : TIns) (ob : Nat) (w : World) (hb : HeadAt w ob (insCells x)) : Calls Tryd.prog 82 #[.agg ⟨setCs s⟩, .pointer (some ⟨ob, 0, none⟩)] w (Gives (.bool (decide (s.reg = x.n))) w) := by
  have h4 : w.cell? ⟨ob, 4, none⟩ = some (.int .i64 x.n) := hb 4 _ rfl
  have hlt := cell_lt h4
  unfold setCs
  by_cases c : s.reg = x.n
  · have b1 : (s.reg == x.n) = true := beq_iff_eq.2 c
    have HM : Hid (decide (s.reg = x.n) = true) := decide_eq_true c
    clear c
    go_enter Tryd.func82, Tryd.ntmps82
    go_wp2_with fail
    go_ret
    exact ⟨by rw [HM.out]; rfl, by exact below_one _ _⟩
  · have b1 : (s.reg == x.n) = false := beq_eq_false_iff_ne.2 c
    have HM : Hid (decide (s.reg = x.n) = false) := decide_eq_false c
    clear c
    go_enter Tryd.func82, Tryd.ntmps82
    go_wp2_with fail
    go_ret
    exact ⟨by rw [HM.out]; rfl, by exact below_one _ _⟩
theorem enters_firm1 : ∀ args W, (callFunc 82 args).run Tryd.prog W = .ok (.enter 82 args) W := enters_of Tryd.func82 (by kernel_rfl) rfl
/-- numbers in a row of their own -/
theorem sliceR_row {w : World} {g : Nat} {xs : List Int} (h : w.heap[g]? = some (.cells ⟨xs.map (.int .i64)⟩ 3 (0, 0))) (hw : ∀ x ∈ xs, wfi x) (hl : xs.length ≤ maxLen) : SliceR w w.heap.size 1 IntR (.slice (some ⟨g, 0, none⟩) xs.length xs.length) xs := by
  refine ⟨some ⟨g, 0, none⟩, xs.length, rfl, Nat.le_refl _, hl, fun _ => ⟨g, 0, rfl, (Array.getElem?_eq_some_iff.1 h).1, fun i x hi => ⟨[.int .i64 x], rfl, ⟨rfl, hw x (List.mem_of_getElem? hi)⟩, fun j u hj => ?_⟩⟩⟩
  match j, hj with
  | 0, hj =>
    have : u = .int .i64 x := by simpa using hj.symm
    subst this
    rw [show 0 + i * 1 + 0 = i by omega, cell_of_row w g i _ _ _ h]
    simp [hi]
def FirmPost (w : World) (e : Ending) (w' : World) : Prop := ∃ b, e = .returned (.bool b) ∧ Below w.heap.size w w'
set_option maxHeartbeats 4000000 in
set_option maxRecDepth 100000 in
theorem firm_c (ca : List Value) (t : TTrace) (x : TIns) (w : World) (ht : TraceR w w.heap.size ca t) : Calls Tryd.prog 48 #[.agg ⟨ca⟩, insV x] w (FirmPost w) := by
  have HIt := Lib.hid ht.size13
  obtain ⟨ct, cb, -, p9, -, qb⟩ := ht.at59
  obtain ⟨s, m, rfl, hs, hm, -, -⟩ := qb
  obtain ⟨S, cS, rfl, l1, l2, -⟩ := id hs
  unfold maxLen at l2
  have P11 := Lib.hid (p9 2 _ rfl)
  obtain ⟨w0, hw0⟩ : ∃ w0, w0 = (w.alloc (.cells ⟨ca⟩ 34)).alloc (.cells ⟨insCells x⟩ 43) := ⟨_, rfl⟩
  have K0 : Hid (Below w.heap.size w w0) := by rw [hw0]; exact below_two' _ _ _
  have H0 : Hid (HeadAt w0 w.heap.size ca) := by rw [hw0]; exact (HeadAt.box _ _ _).old _
  have H1 : Hid (HeadAt w0 (w.heap.size + 1) (insCells x)) := by
    have h := HeadAt.box (w.alloc (.cells ⟨ca⟩ 34)) (insCells x) 43
    rw [World.size_alloc] at h
    rw [hw0]; exact h
  have CF := Lib.hid (containsFunc_sets SetR (fun s => decide (s.reg = x.n)) S cS t.back.sets 82 enters_firm1 #[.pointer (some ⟨w.heap.size + 1, 0, none⟩)] w0 (hs.keep K0.out.size (fun _ hp => K0.out.cell hp) (fun _ _ h => h)) (fun w1 k1 s cs hx hR => by
    obtain ⟨rfl, -⟩ := hR
    exact firm1_c s x (w.heap.size + 1) w1 (H1.out.on k1)))
  have HC : Hid (∀ W v ops, Below w.heap.size w W → SliceR W W.heap.size 1 IntR v ops → Calls Tryd.prog 83 #[.agg ⟨ca⟩, v] W (fun e w' => ∃ b, e = .returned (.bool b) ∧ Below W.heap.size W w')) := fun W v ops k hv => peelHas_c ca t v ops W (ht.below k) hv
  have RG : Hid (w0.rangeAt w.heap.size 0 ca) := H0.out.range
  have hz : w.heap.size + 1 < w0.heap.size := by rw [hw0]; simp
  obtain ⟨op, xa, xb, xc, xn, xe, ⟨kk, kn⟩⟩ := x
  have h0 : w0.cell? ⟨w.heap.size + 1, 0, none⟩ = some (.int .i64 op) := H1.out 0 _ rfl
  have h4 : w0.cell? ⟨w.heap.size + 1, 4, none⟩ = some (.int .i64 xn) := H1.out 4 _ rfl
  have h11 := H0.out 11 _ P11.out
  unfold insCells at hw0
  have HW := Lib.hid hw0
  unfold insV
  dsimp only
  clear ht p9 hs hm hw0
  go_enter Tryd.func48, Tryd.ntmps48
  go_upto_region 1 with fail
  rw [← HW.out]
  by_cases e2 : op = 2
  · subst e2
    go_wp2_with fail
    go_ret
    exact ⟨_, rfl, K0.out⟩
  by_cases e3 : op = 3
  · subst e3
    go_wp2_with fail
    go_ret
    exact ⟨_, rfl, K0.out⟩
  by_cases e19 : op = 19
  · subst e19
    go_wp2_with fail
    go_ret
    exact ⟨_, rfl, K0.out⟩
  by_cases e7 : op = 7
  · subst e7
    go_wp2_with fail
    go_ret
    exact ⟨_, rfl, K0.out⟩
  by_cases e8 : op = 8
  · subst e8
    go_wp2_with fail
    go_ret
    exact ⟨_, rfl, K0.out⟩
  by_cases e4 : op = 4
  · subst e4
    go_wp2_with fail
    go_ret
    exact ⟨_, rfl, K0.out⟩
  by_cases e5 : op = 5
  · subst e5
    go_wp2_with fail
    go_ret
    exact ⟨_, rfl, K0.out⟩
  by_cases e6 : op = 6
  · subst e6
    go_wp2_with fail
    go_ret
    exact ⟨_, rfl, K0.out⟩
  by_cases e1 : op = 1
  · subst e1
    go_wp2_with fail
    refine CF.out.mono ?_
    rintro e w1 ⟨rfl, k1⟩
    have K1 := Lib.hid (K0.out.trans (k1.mono K0.out.size))
    clear k1 h0 h4 h11
    go_wp2_with fail
    go_ret
    exact ⟨_, rfl, K1.out⟩
  by_cases e9 : op = 9
  · subst e9
    by_cases n1 : xn = 1
    · have b1 : (xn != 1) = false := by simpa using n1
      have CH := Lib.hid (HC.out (w0.alloc (.cells #[.int .i64 12] 3)) (.slice (some ⟨w0.heap.size, 0, none⟩) 1 1) [12] (K0.out.alloc K0.out.size _) (sliceR_row (xs := [12]) (heap_last w0 (.cells #[.int .i64 12] 3)) (by intro x hx; simp at hx; unfold wfi; omega) (by decide)))
      go_wp2_with (first | (refine wpList_load_on 34 _ rfl rfl w.heap.size 0 rfl ca _ RG.out Tryd.underlying34 rfl HIt.out ?_) | fail)
      refine CH.out.mono ?_
      rintro e w1 ⟨b1, rfl, k1⟩
      have K1 := Lib.hid ((K0.out.alloc K0.out.size _).trans (k1.mono (K0.out.alloc K0.out.size _).size))
      clear k1 h0 h4 h11
      go_wp2_with fail
      go_ret
      exact ⟨_, rfl, K1.out⟩
    · have b1 : (xn != 1) = true := by simpa using n1
      go_wp2_with fail
      go_ret
      exact ⟨_, rfl, K0.out⟩
  by_cases e10 : op = 10
  · subst e10
    have CH := Lib.hid (HC.out (w0.alloc (.cells #[.int .i64 11, .int .i64 14] 3)) (.slice (some ⟨w0.heap.size, 0, none⟩) 2 2) [11, 14] (K0.out.alloc K0.out.size _) (sliceR_row (xs := [11, 14]) (heap_last w0 (.cells #[.int .i64 11, .int .i64 14] 3)) (by intro x hx; simp at hx; unfold wfi; omega) (by decide)))
    go_wp2_with (first | (refine wpList_load_mid rfl 34 _ rfl w.heap.size 0 rfl ca _ RG.out Tryd.underlying34 rfl HIt.out ?_) | fail)
    refine CH.out.mono ?_
    rintro e w1 ⟨b1, rfl, k1⟩
    have K1 := Lib.hid ((K0.out.alloc K0.out.size _).trans (k1.mono (K0.out.alloc K0.out.size _).size))
    clear k1 h0 h4 h11
    go_wp2_with fail
    go_ret
    exact ⟨_, rfl, K1.out⟩
  by_cases e13 : op = 13
  · subst e13
    have CH := Lib.hid (HC.out (w0.alloc (.cells #[.int .i64 11, .int .i64 14] 3)) (.slice (some ⟨w0.heap.size, 0, none⟩) 2 2) [11, 14] (K0.out.alloc K0.out.size _) (sliceR_row (xs := [11, 14]) (heap_last w0 (.cells #[.int .i64 11, .int .i64 14] 3)) (by intro x hx; simp at hx; unfold wfi; omega) (by decide)))
    go_wp2_with (first | (refine wpList_load_mid rfl 34 _ rfl w.heap.size 0 rfl ca _ RG.out Tryd.underlying34 rfl HIt.out ?_) | fail)
    refine CH.out.mono ?_
    rintro e w1 ⟨b1, rfl, k1⟩
    have K1 := Lib.hid ((K0.out.alloc K0.out.size _).trans (k1.mono (K0.out.alloc K0.out.size _).size))
    clear k1 h0 h4 h11
    go_wp2_with fail
    go_ret
    exact ⟨_, rfl, K1.out⟩
  by_cases e15 : op = 15
  · subst e15
    have CH := Lib.hid (HC.out (w0.alloc (.cells #[.int .i64 17, .int .i64 12] 3)) (.slice (some ⟨w0.heap.size, 0, none⟩) 2 2) [17, 12] (K0.out.alloc K0.out.size _) (sliceR_row (xs := [17, 12]) (heap_last w0 (.cells #[.int .i64 17, .int .i64 12] 3)) (by intro x hx; simp at hx; unfold wfi; omega) (by decide)))
    go_wp2_with (first | (refine wpList_load_mid rfl 34 _ rfl w.heap.size 0 rfl ca _ RG.out Tryd.underlying34 rfl HIt.out ?_) | fail)
    refine CH.out.mono ?_
    rintro e w1 ⟨b1, rfl, k1⟩
    have K1 := Lib.hid ((K0.out.alloc K0.out.size _).trans (k1.mono (K0.out.alloc K0.out.size _).size))
    clear k1 h0 h4 h11
    go_wp2_with fail
    go_ret
    exact ⟨_, rfl, K1.out⟩
  have b2 : (op == 2) = false := beq_eq_false_iff_ne.2 e2
  have b3 : (op == 3) = false := beq_eq_false_iff_ne.2 e3
  have b19 : (op == 19) = false := beq_eq_false_iff_ne.2 e19
  have b7 : (op == 7) = false := beq_eq_false_iff_ne.2 e7
  have b8 : (op == 8) = false := beq_eq_false_iff_ne.2 e8
  have b4 : (op == 4) = false := beq_eq_false_iff_ne.2 e4
  have b5 : (op == 5) = false := beq_eq_false_iff_ne.2 e5
  have b6 : (op == 6) = false := beq_eq_false_iff_ne.2 e6
  have b1 : (op == 1) = false := beq_eq_false_iff_ne.2 e1
  have b9 : (op == 9) = false := beq_eq_false_iff_ne.2 e9
  have b10 : (op == 10) = false := beq_eq_false_iff_ne.2 e10
  have b13 : (op == 13) = false := beq_eq_false_iff_ne.2 e13
  have b15 : (op == 15) = false := beq_eq_false_iff_ne.2 e15
  go_wp2_with fail
  go_ret
  exact ⟨_, rfl, K0.out⟩
end Go.Proofs.YtmccomeihnaanaaDoor
