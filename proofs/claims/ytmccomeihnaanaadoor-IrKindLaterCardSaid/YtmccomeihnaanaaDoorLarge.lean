/- code.large. -/
import Derived.Test.YtmccomeihnaanaaDoorFunc
namespace Go.Proofs.YtmccomeihnaanaaDoor
open Go.RowKit

set_option maxHeartbeats 1000000 in
set_option maxRecDepth 100000 in
theorem indexFunc_strs {α : Type} (R : List Value → α → Prop) (p : α → Bool) (A : Option Addr) (cap : Nat) (xs : List α) (fid : FuncId) (hen : ∀ args W, (callFunc fid args).run Tryd.prog W = .ok (.enter fid args) W) (caps : Array Value) (w : World) (hs : SliceR w w.heap.size 1 R (.slice A xs.length cap) xs)
    (hp : ∀ (w1 : World), Below w.heap.size w w1 → ∀ (x : α) (cs : List Value), x ∈ xs → R cs x → Calls Tryd.prog fid (cs.toArray ++ caps) w1 (Gives (.bool (p x)) w1)) :
    Calls Tryd.prog 129 #[.slice A xs.length cap, .func (.func fid) #[] caps] w (Gives (.int .i64 (findM p xs)) w) := by
  have HS := Lib.hid hs
  have HP := Lib.hid hp
  have hl : xs.length ≤ cap ∧ cap ≤ maxLen := by obtain ⟨A', c', e, e1, e2, -⟩ := hs; injection e with _ _ e3; subst e3; exact ⟨e1, e2⟩
  obtain ⟨hl1, hl0⟩ := hl
  unfold maxLen at hl0
  clear hs hp
  go_enter Tryd.func129, Tryd.ntmps129
  go_wp2_with fail
  go_loopw [8] (fun k wr => ∃ kn : Nat, k = .int .i64 kn ∧ kn ≤ xs.length ∧ Hid (∀ i x, i < kn → xs[i]? = some x → p x = false) ∧ Hid (Below w.heap.size w wr)) (fun k _ => xs.length - (RowKit.intOf k).toNat)
  case atStart => exact ⟨0, rfl, by omega, fun i x hi _ => by omega, Below.refl _ _⟩
  case round =>
    obtain ⟨kn, rfl, hk, KP, KW⟩ := hrel
    by_cases hlt : kn < xs.length
    · obtain ⟨b, off, x, cs, rfl, hb, hx0, hcl, hR, hat⟩ := HS.out.at_ hlt
      match cs, hcl with
      | [c0], _ =>
        have hi1 : (kn : Int) < xs.length := by omega
        have g0 : wr.cell? ⟨b, off + kn, none⟩ = some c0 := (KW.out.cell hb).trans (by simpa using hat 0 _ rfl)
        have HC := Lib.hid (HP.out wr KW.out x _ (List.mem_of_getElem? hx0) hR)
        have HX := Lib.hid hx0
        clear hx0 hat hR
        cases hpx : p x
        · have HF := Lib.hid hpx
          rw [hpx] at HC
          clear hpx
          go_wp2_with fail
          refine HC.out.mono ?_
          rintro e w2 ⟨rfl, k2⟩
          have K2 := Lib.hid (Below.trans KW.out (k2.mono KW.out.size))
          clear k2 g0
          go_wp2_with fail
          go_roundw
          case rel => exact ⟨kn + 1, by go_num, by omega, fun i y hi hy => by
            rcases Nat.lt_or_ge i kn with h | h
            · exact KP.out i y h hy
            · have : i = kn := by omega
              subst this
              rw [HX.out] at hy
              injection hy with hy
              subst hy
              exact HF.out, K2⟩
          case measure => simp [RowKit.intOf]; omega
        · have HF := Lib.hid (findM_hit KP.out HX.out hpx)
          rw [hpx] at HC
          clear hpx
          go_wp2_with fail
          refine HC.out.mono ?_
          rintro e w2 ⟨rfl, k2⟩
          have K2 := Lib.hid (Below.trans KW.out (k2.mono KW.out.size))
          clear k2 g0
          go_wp2_with fail
          go_ret
          exact ⟨by rw [HF.out]; rfl, K2.out⟩
    · have HF := Lib.hid (findM_none (p := p) (xs := xs) (fun i x hi => KP.out i x (by have := (List.getElem?_eq_some_iff.1 hi).1; omega) hi))
      go_wp2_with fail
      go_ret
      exact ⟨by rw [HF.out]; rfl, KW.out⟩
set_option maxHeartbeats 1000000 in
theorem containsFunc_strs {α : Type} (R : List Value → α → Prop) (p : α → Bool) (A : Option Addr) (cap : Nat) (xs : List α) (fid : FuncId) (hen : ∀ args W, (callFunc fid args).run Tryd.prog W = .ok (.enter fid args) W) (caps : Array Value) (w : World) (hs : SliceR w w.heap.size 1 R (.slice A xs.length cap) xs)
    (hp : ∀ (w1 : World), Below w.heap.size w w1 → ∀ (x : α) (cs : List Value), x ∈ xs → R cs x → Calls Tryd.prog fid (cs.toArray ++ caps) w1 (Gives (.bool (p x)) w1)) :
    Calls Tryd.prog 102 #[.slice A xs.length cap, .func (.func fid) #[] caps] w (Gives (.bool (xs.any p)) w) := by
  have HC := Lib.hid (indexFunc_strs R p A cap xs fid hen caps w hs hp)
  have HB := Lib.hid (findM_any p xs)
  clear hs hp hen
  go_enter Tryd.func102, Tryd.ntmps102
  go_wp2_with fail
  refine HC.out.mono ?_
  rintro e w1 ⟨rfl, k1⟩
  have K1 := Lib.hid k1
  clear k1
  go_wp2_with fail
  go_ret
  exact ⟨by rw [HB.out]; rfl, K1.out⟩


set_option maxHeartbeats 1000000 in
set_option maxRecDepth 100000 in
theorem indexFunc_fns {α : Type} (R : List Value → α → Prop) (p : α → Bool) (A : Option Addr) (cap : Nat) (xs : List α) (fid : FuncId) (hen : ∀ args W, (callFunc fid args).run Tryd.prog W = .ok (.enter fid args) W) (caps : Array Value) (w : World) (hs : SliceR w w.heap.size 5 R (.slice A xs.length cap) xs)
    (hp : ∀ (w1 : World), Below w.heap.size w w1 → ∀ (x : α) (cs : List Value), x ∈ xs → R cs x → Calls Tryd.prog fid (#[.agg ⟨cs⟩] ++ caps) w1 (Gives (.bool (p x)) w1)) :
    Calls Tryd.prog 109 #[.slice A xs.length cap, .func (.func fid) #[] caps] w (Gives (.int .i64 (findM p xs)) w) := by
  have HS := Lib.hid hs
  have HP := Lib.hid hp
  have hl : xs.length ≤ cap ∧ cap ≤ maxLen := by obtain ⟨A', c', e, e1, e2, -⟩ := hs; injection e with _ _ e3; subst e3; exact ⟨e1, e2⟩
  obtain ⟨hl1, hl0⟩ := hl
  unfold maxLen at hl0
  clear hs hp
  go_enter Tryd.func109, Tryd.ntmps109
  go_wp2_with fail
  go_loopw [8] (fun k wr => ∃ kn : Nat, k = .int .i64 kn ∧ kn ≤ xs.length ∧ Hid (∀ i x, i < kn → xs[i]? = some x → p x = false) ∧ Hid (Below w.heap.size w wr)) (fun k _ => xs.length - (RowKit.intOf k).toNat)
  case atStart => exact ⟨0, rfl, by omega, fun i x hi _ => by omega, Below.refl _ _⟩
  case round =>
    obtain ⟨kn, rfl, hk, KP, KW⟩ := hrel
    by_cases hlt : kn < xs.length
    · obtain ⟨b, off, x, cs, rfl, hb, hx0, hcl, hR, hat⟩ := HS.out.at_ hlt
      match cs, hcl with
      | [c0, c1, c2, c3, c4], _ =>
        have hi1 : (kn : Int) < xs.length := by omega
        have g0 : wr.cell? ⟨b, off + kn * 5, none⟩ = some c0 := (KW.out.cell hb).trans (hat 0 _ rfl)
        have g1 : wr.cell? ⟨b, off + kn * 5 + 1, none⟩ = some c1 := (KW.out.cell hb).trans (hat 1 _ rfl)
        have g2 : wr.cell? ⟨b, off + kn * 5 + 2, none⟩ = some c2 := (KW.out.cell hb).trans (hat 2 _ rfl)
        have g3 : wr.cell? ⟨b, off + kn * 5 + 3, none⟩ = some c3 := (KW.out.cell hb).trans (hat 3 _ rfl)
        have g4 : wr.cell? ⟨b, off + kn * 5 + 4, none⟩ = some c4 := (KW.out.cell hb).trans (hat 4 _ rfl)
        have HC := Lib.hid (HP.out wr KW.out x _ (List.mem_of_getElem? hx0) hR)
        have HX := Lib.hid hx0
        clear hx0 hat hR
        cases hpx : p x
        · have HF := Lib.hid hpx
          rw [hpx] at HC
          clear hpx
          go_wp2_with fail
          refine HC.out.mono ?_
          rintro e w2 ⟨rfl, k2⟩
          have K2 := Lib.hid (Below.trans KW.out (k2.mono KW.out.size))
          clear k2 g0 g1 g2 g3 g4
          go_wp2_with fail
          go_roundw
          case rel => exact ⟨kn + 1, by go_num, by omega, fun i y hi hy => by
            rcases Nat.lt_or_ge i kn with h | h
            · exact KP.out i y h hy
            · have : i = kn := by omega
              subst this
              rw [HX.out] at hy
              injection hy with hy
              subst hy
              exact HF.out, K2⟩
          case measure => simp [RowKit.intOf]; omega
        · have HF := Lib.hid (findM_hit KP.out HX.out hpx)
          rw [hpx] at HC
          clear hpx
          go_wp2_with fail
          refine HC.out.mono ?_
          rintro e w2 ⟨rfl, k2⟩
          have K2 := Lib.hid (Below.trans KW.out (k2.mono KW.out.size))
          clear k2 g0 g1 g2 g3 g4
          go_wp2_with fail
          go_ret
          exact ⟨by rw [HF.out]; rfl, K2.out⟩
    · have HF := Lib.hid (findM_none (p := p) (xs := xs) (fun i x hi => KP.out i x (by have := (List.getElem?_eq_some_iff.1 hi).1; omega) hi))
      go_wp2_with fail
      go_ret
      exact ⟨by rw [HF.out]; rfl, KW.out⟩
set_option maxHeartbeats 1000000 in
theorem containsFunc_fns {α : Type} (R : List Value → α → Prop) (p : α → Bool) (A : Option Addr) (cap : Nat) (xs : List α) (fid : FuncId) (hen : ∀ args W, (callFunc fid args).run Tryd.prog W = .ok (.enter fid args) W) (caps : Array Value) (w : World) (hs : SliceR w w.heap.size 5 R (.slice A xs.length cap) xs)
    (hp : ∀ (w1 : World), Below w.heap.size w w1 → ∀ (x : α) (cs : List Value), x ∈ xs → R cs x → Calls Tryd.prog fid (#[.agg ⟨cs⟩] ++ caps) w1 (Gives (.bool (p x)) w1)) :
    Calls Tryd.prog 72 #[.slice A xs.length cap, .func (.func fid) #[] caps] w (Gives (.bool (xs.any p)) w) := by
  have HC := Lib.hid (indexFunc_fns R p A cap xs fid hen caps w hs hp)
  have HB := Lib.hid (findM_any p xs)
  clear hs hp hen
  go_enter Tryd.func72, Tryd.ntmps72
  go_wp2_with fail
  refine HC.out.mono ?_
  rintro e w1 ⟨rfl, k1⟩
  have K1 := Lib.hid k1
  clear k1
  go_wp2_with fail
  go_ret
  exact ⟨by rw [HB.out]; rfl, K1.out⟩


set_option maxHeartbeats 1000000 in
set_option maxRecDepth 100000 in
theorem indexFunc_vals {α : Type} (R : List Value → α → Prop) (p : α → Bool) (A : Option Addr) (cap : Nat) (xs : List α) (fid : FuncId) (hen : ∀ args W, (callFunc fid args).run Tryd.prog W = .ok (.enter fid args) W) (caps : Array Value) (w : World) (hs : SliceR w w.heap.size 2 R (.slice A xs.length cap) xs)
    (hp : ∀ (w1 : World), Below w.heap.size w w1 → ∀ (x : α) (cs : List Value), x ∈ xs → R cs x → Calls Tryd.prog fid (#[.agg ⟨cs⟩] ++ caps) w1 (Gives (.bool (p x)) w1)) :
    Calls Tryd.prog 131 #[.slice A xs.length cap, .func (.func fid) #[] caps] w (Gives (.int .i64 (findM p xs)) w) := by
  have HS := Lib.hid hs
  have HP := Lib.hid hp
  have hl : xs.length ≤ cap ∧ cap ≤ maxLen := by obtain ⟨A', c', e, e1, e2, -⟩ := hs; injection e with _ _ e3; subst e3; exact ⟨e1, e2⟩
  obtain ⟨hl1, hl0⟩ := hl
  unfold maxLen at hl0
  clear hs hp
  go_enter Tryd.func131, Tryd.ntmps131
  go_wp2_with fail
  go_loopw [8] (fun k wr => ∃ kn : Nat, k = .int .i64 kn ∧ kn ≤ xs.length ∧ Hid (∀ i x, i < kn → xs[i]? = some x → p x = false) ∧ Hid (Below w.heap.size w wr)) (fun k _ => xs.length - (RowKit.intOf k).toNat)
  case atStart => exact ⟨0, rfl, by omega, fun i x hi _ => by omega, Below.refl _ _⟩
  case round =>
    obtain ⟨kn, rfl, hk, KP, KW⟩ := hrel
    by_cases hlt : kn < xs.length
    · obtain ⟨b, off, x, cs, rfl, hb, hx0, hcl, hR, hat⟩ := HS.out.at_ hlt
      match cs, hcl with
      | [c0, c1], _ =>
        have hi1 : (kn : Int) < xs.length := by omega
        have g0 : wr.cell? ⟨b, off + kn * 2, none⟩ = some c0 := (KW.out.cell hb).trans (hat 0 _ rfl)
        have g1 : wr.cell? ⟨b, off + kn * 2 + 1, none⟩ = some c1 := (KW.out.cell hb).trans (hat 1 _ rfl)
        have HC := Lib.hid (HP.out wr KW.out x _ (List.mem_of_getElem? hx0) hR)
        have HX := Lib.hid hx0
        clear hx0 hat hR
        cases hpx : p x
        · have HF := Lib.hid hpx
          rw [hpx] at HC
          clear hpx
          go_wp2_with fail
          refine HC.out.mono ?_
          rintro e w2 ⟨rfl, k2⟩
          have K2 := Lib.hid (Below.trans KW.out (k2.mono KW.out.size))
          clear k2 g0 g1
          go_wp2_with fail
          go_roundw
          case rel => exact ⟨kn + 1, by go_num, by omega, fun i y hi hy => by
            rcases Nat.lt_or_ge i kn with h | h
            · exact KP.out i y h hy
            · have : i = kn := by omega
              subst this
              rw [HX.out] at hy
              injection hy with hy
              subst hy
              exact HF.out, K2⟩
          case measure => simp [RowKit.intOf]; omega
        · have HF := Lib.hid (findM_hit KP.out HX.out hpx)
          rw [hpx] at HC
          clear hpx
          go_wp2_with fail
          refine HC.out.mono ?_
          rintro e w2 ⟨rfl, k2⟩
          have K2 := Lib.hid (Below.trans KW.out (k2.mono KW.out.size))
          clear k2 g0 g1
          go_wp2_with fail
          go_ret
          exact ⟨by rw [HF.out]; rfl, K2.out⟩
    · have HF := Lib.hid (findM_none (p := p) (xs := xs) (fun i x hi => KP.out i x (by have := (List.getElem?_eq_some_iff.1 hi).1; omega) hi))
      go_wp2_with fail
      go_ret
      exact ⟨by rw [HF.out]; rfl, KW.out⟩
set_option maxHeartbeats 1000000 in
theorem containsFunc_vals {α : Type} (R : List Value → α → Prop) (p : α → Bool) (A : Option Addr) (cap : Nat) (xs : List α) (fid : FuncId) (hen : ∀ args W, (callFunc fid args).run Tryd.prog W = .ok (.enter fid args) W) (caps : Array Value) (w : World) (hs : SliceR w w.heap.size 2 R (.slice A xs.length cap) xs)
    (hp : ∀ (w1 : World), Below w.heap.size w w1 → ∀ (x : α) (cs : List Value), x ∈ xs → R cs x → Calls Tryd.prog fid (#[.agg ⟨cs⟩] ++ caps) w1 (Gives (.bool (p x)) w1)) :
    Calls Tryd.prog 107 #[.slice A xs.length cap, .func (.func fid) #[] caps] w (Gives (.bool (xs.any p)) w) := by
  have HC := Lib.hid (indexFunc_vals R p A cap xs fid hen caps w hs hp)
  have HB := Lib.hid (findM_any p xs)
  clear hs hp hen
  go_enter Tryd.func107, Tryd.ntmps107
  go_wp2_with fail
  refine HC.out.mono ?_
  rintro e w1 ⟨rfl, k1⟩
  have K1 := Lib.hid k1
  clear k1
  go_wp2_with fail
  go_ret
  exact ⟨by rw [HB.out]; rfl, K1.out⟩


theorem enters_l1 : ∀ args W, (callFunc 103 args).run Tryd.prog W = .ok (.enter 103 args) W := enters_of Tryd.func103 (by kernel_rfl) rfl
theorem enters_l2 : ∀ args W, (callFunc 104 args).run Tryd.prog W = .ok (.enter 104 args) W := enters_of Tryd.func104 (by kernel_rfl) rfl
set_option maxHeartbeats 400000 in
theorem large1_c (s : ByteArray) (hs : s.size ≤ 9223372036854775807) (w : World) : Calls Tryd.prog 103 #[.string s] w (Gives (.bool (decide (200 < s.size))) w) := by
  obtain ⟨r, hr⟩ : ∃ r, decide (200 < s.size) = r := ⟨_, rfl⟩
  rw [hr]
  have HR : Hid (decide ((200 : Int) < s.size) = r) := by rw [← hr]; show decide _ = decide _; congr 1; rw [eq_iff_iff]; omega
  clear hr
  go_enter Tryd.func103, Tryd.ntmps103
  go_wp2
  go_ret
  exact ⟨by rw [← HR.out]; rfl, Below.refl _ _⟩
set_option maxHeartbeats 400000 in
theorem large2_c (cs : List Value) (f : CFn) (B : Nat) (w0 w : World) (h : FnR w0 B cs f) : Calls Tryd.prog 104 #[.agg ⟨cs⟩] w (Gives (.bool (decide (600 < f.code.length) || decide (60 < f.regs))) w) := by
  obtain ⟨A4, n4, A5, n5, rfl, -⟩ := h
  by_cases h1 : (600 : Int) < f.code.length
  · have e : (decide (600 < f.code.length) || decide (60 < f.regs)) = true := by
      have h6 : 600 < f.code.length := by omega
      rw [decide_eq_true h6, Bool.true_or]
    rw [e]
    go_enter Tryd.func104, Tryd.ntmps104
    go_wp2
    go_ret
    exact ⟨rfl, below_one w _⟩
  · obtain ⟨r, hr⟩ : ∃ r, (decide (600 < f.code.length) || decide (60 < f.regs)) = r := ⟨_, rfl⟩
    rw [hr]
    have HR : Hid (decide (60 < f.regs) = r) := by rw [← hr]; have : ¬ 600 < f.code.length := by omega
                                                   simp [this, Hid]
    have h2 : decide ((600 : Int) < f.code.length) = false := by simpa using h1
    clear hr h1
    go_enter Tryd.func104, Tryd.ntmps104
    go_wp2
    go_ret
    exact ⟨by rw [← HR.out]; rfl, below_one w _⟩

set_option maxHeartbeats 2000000 in
set_option maxRecDepth 100000 in
theorem large_c (pcs : List Value) (p : CProg) (w : World) (hp : ProgR w w.heap.size pcs p) : Calls Tryd.prog 70 #[.agg ⟨pcs⟩] w (Gives (.bool (largeM p)) w) := by
  obtain ⟨r, hr⟩ : ∃ r, largeM p = r := ⟨_, rfl⟩
  rw [hr]
  unfold largeM at hr
  have HP := Lib.hid hp
  obtain ⟨A1, n1, A2, n2, A3, n3, rfl, q1, q2, q3⟩ := hp
  obtain ⟨w0, hw0⟩ : ∃ w0, w0 = w.alloc (.cells #[.slice A1 p.fns.length n1, .slice A2 p.consts.length n2, .slice A3 p.texts.length n3] 26) := ⟨_, rfl⟩
  have k0 : Hid (Below w.heap.size w w0) := by rw [hw0]; exact below_one w _
  have c0 : Hid (∀ i, w0.cell? ⟨w.heap.size, i, none⟩ = (#[.slice A1 p.fns.length n1, .slice A2 p.consts.length n2, .slice A3 p.texts.length n3] : Array Value)[i]?) := by rw [hw0]; exact one_cell _ _ _
  have hz : w.heap.size < w0.heap.size := by rw [hw0]; simp
  have HW := Lib.hid hw0
  have C1 := Lib.hid (containsFunc_strs StrR (fun t => decide (200 < t.size)) A3 n3 p.texts 103 enters_l1 #[] w0 (q3.keep k0.out.size (fun _ h => k0.out.cell h) (fun _ _ h => h)) (fun w1 k x cs hx hR => by
    obtain ⟨rfl, hs⟩ := hR
    exact large1_c x (by unfold maxLen at hs; omega) w1))
  have C2 : Hid (∀ w1, Below w0.heap.size w0 w1 → _) := fun w1 (k1 : Below w0.heap.size w0 w1) => containsFunc_fns (FnR w w.heap.size) (fun f => decide (600 < f.code.length) || decide (60 < f.regs)) A1 n1 p.fns 104 enters_l2 #[] w1 (q1.keep (Nat.le_trans k0.out.size k1.size) (fun _ h => (k1.cell (Nat.lt_of_lt_of_le h k0.out.size)).trans (k0.out.cell h)) (fun _ _ h => h)) (fun w2 k x cs hx hR => large2_c cs x _ _ w2 hR)
  clear q1 q2 q3 hw0
  by_cases h1 : 60 < p.fns.length
  · have hi : (60 : Int) < p.fns.length := by omega
    have HR : Hid (true = r) := by rw [← hr]; simp [h1, Hid]
    clear hr h1
    go_enter Tryd.func70, Tryd.ntmps70
    go_wp2_with fail
    go_ret
    rw [← HW.out]
    exact ⟨by rw [← HR.out]; rfl, k0.out⟩
  have i1 : decide ((60 : Int) < p.fns.length) = false := by simp; omega
  by_cases h2 : 200 < p.consts.length
  · have hi : (200 : Int) < p.consts.length := by omega
    have HR : Hid (true = r) := by rw [← hr]; simp [h2, Hid]
    clear hr h1 h2
    go_enter Tryd.func70, Tryd.ntmps70
    go_wp2_with fail
    go_ret
    rw [← HW.out]
    exact ⟨by rw [← HR.out]; rfl, k0.out⟩
  have i2 : decide ((200 : Int) < p.consts.length) = false := by simp; omega
  by_cases h3 : 200 < p.texts.length
  · have hi : (200 : Int) < p.texts.length := by omega
    have HR : Hid (true = r) := by rw [← hr]; simp [h3, Hid]
    clear hr h1 h2 h3
    go_enter Tryd.func70, Tryd.ntmps70
    go_wp2_with fail
    go_ret
    rw [← HW.out]
    exact ⟨by rw [← HR.out]; rfl, k0.out⟩
  have i3 : decide ((200 : Int) < p.texts.length) = false := by simp; omega
  have hr2 : (p.texts.any (fun t => decide (200 < t.size)) || p.fns.any (fun f => decide (600 < f.code.length) || decide (60 < f.regs))) = r := by
    rw [← hr]; simp only [h1, h2, h3, decide_false, Bool.false_or]
  clear hr h1 h2 h3
  cases hq : p.texts.any (fun t => decide (200 < t.size))
  · rw [hq] at C1 hr2
    have HR : Hid (p.fns.any (fun f => decide (600 < f.code.length) || decide (60 < f.regs)) = r) := by rw [Bool.false_or] at hr2; exact hr2
    clear hr2 hq
    go_enter Tryd.func70, Tryd.ntmps70
    go_wp2_with fail
    rw [← HW.out]
    refine C1.out.mono ?_
    rintro e w3 ⟨rfl, k3⟩
    have K3 := Lib.hid k3
    have d0 : w3.cell? ⟨w.heap.size, 0, none⟩ = some (.slice A1 p.fns.length n1) := cell_on k3 (c0.out 0)
    clear k3
    go_wp2_with fail
    refine (C2.out w3 K3.out).mono ?_
    rintro e w4 ⟨rfl, k4⟩
    have K4 := Lib.hid (k0.out.trans ((Below.next K3.out k4).mono k0.out.size))
    clear k4 d0
    go_wp2_with fail
    go_ret
    exact ⟨by rw [← HR.out]; rfl, K4.out⟩
  · rw [hq] at C1 hr2
    have HR : Hid (true = r) := by rw [Bool.true_or] at hr2; exact hr2
    clear hr2 hq
    go_enter Tryd.func70, Tryd.ntmps70
    go_wp2_with fail
    rw [← HW.out]
    refine C1.out.mono ?_
    rintro e w3 ⟨rfl, k3⟩
    have K3 := Lib.hid (k0.out.trans (k3.mono k0.out.size))
    clear k3
    go_wp2_with fail
    go_ret
    exact ⟨by rw [← HR.out]; rfl, K3.out⟩
end Go.Proofs.YtmccomeihnaanaaDoor
