/- code.large. ops.Right. code.tables. code.tables: the walk. code.Check. code.Check: the walk. -/
import Derived.Test.YtlnkjmgfkpeicaaGreatDoorFunc
import Derived.Test.YtlnkjmgfkpeicaaGreatDoorCodeA
import Derived.WalkLawsBesides
import Derived.Laws.Externs
import Derived.Test.YtlnkjmgfkpeicaaGreatDoorWords
import Derived.Maps.OwnOps
import Derived.Maps.Views
namespace Go.Proofs.YtlnkjmgfkpeicaaGreatDoor
open Go.RowKit

set_option maxHeartbeats 1000000 in
set_option maxRecDepth 100000 in
theorem indexFunc_strs {α : Type} (R : List Value → α → Prop) (p : α → Bool) (A : Option Addr) (cap : Nat) (xs : List α) (fid : FuncId) (hen : ∀ args W, (callFunc fid args).run Tryz.prog W = .ok (.enter fid args) W) (caps : Array Value) (w : World) (hs : SliceR w w.heap.size 1 R (.slice A xs.length cap) xs)
    (hp : ∀ (w1 : World), Below w.heap.size w w1 → ∀ (x : α) (cs : List Value), x ∈ xs → R cs x → Calls Tryz.prog fid (cs.toArray ++ caps) w1 (Gives (.bool (p x)) w1)) :
    Calls Tryz.prog 64 #[.slice A xs.length cap, .func (.func fid) #[] caps] w (Gives (.int .i64 (findM p xs)) w) := by
  have HS := Lib.hid hs
  have HP := Lib.hid hp
  have hl : xs.length ≤ cap ∧ cap ≤ maxLen := by obtain ⟨A', c', e, e1, e2, -⟩ := hs; injection e with _ _ e3; subst e3; exact ⟨e1, e2⟩
  obtain ⟨hl1, hl0⟩ := hl
  unfold maxLen at hl0
  clear hs hp
  go_enter Tryz.func64, Tryz.ntmps64
  go_wp2_with fail
  go_loopw [8] (fun k wr => ∃ kn : Nat, k = .int .i64 kn ∧ kn ≤ xs.length ∧ Hid (∀ i x, i < kn → xs[i]? = some x → p x = false) ∧ Hid (Below w.heap.size w wr)) (fun k _ => xs.length - (RowKit.intOf k).toNat)
  case atStart => exact ⟨0, rfl, by omega, fun i x hi _ => by omega, Below.refl _ _⟩
  case round =>
    obtain ⟨kn, rfl, hk, KP, KW⟩ := hrel
    by_cases hlt : kn < xs.length
    · obtain ⟨b, off, x, cs, rfl, hb, hx0, hcl, hR, hat⟩ := HS.out.at_ hlt
      match cs, hcl with
      | [c0], _ =>
        have hi1 : (kn : Int) < xs.length := by omega
        have g0 : wr.cell? ⟨b, off + kn, none⟩ = some c0 := (KW.out.cell hb).trans (by simpa using hat 0 _ rfl)
        have HC := Lib.hid (HP.out wr KW.out x _ (List.mem_of_getElem? hx0) hR)
        have HX := Lib.hid hx0
        clear hx0 hat hR
        cases hpx : p x
        · have HF := Lib.hid hpx
          rw [hpx] at HC
          clear hpx
          go_wp2_with fail
          refine HC.out.mono ?_
          rintro e w2 ⟨rfl, k2⟩
          have K2 := Lib.hid (Below.trans KW.out (k2.mono KW.out.size))
          clear k2 g0
          go_wp2_with fail
          go_roundw
          case rel => exact ⟨kn + 1, by go_num, by omega, fun i y hi hy => by
            rcases Nat.lt_or_ge i kn with h | h
            · exact KP.out i y h hy
            · have : i = kn := by omega
              subst this
              rw [HX.out] at hy
              injection hy with hy
              subst hy
              exact HF.out, K2⟩
          case measure => simp [RowKit.intOf]; omega
        · have HF := Lib.hid (findM_hit KP.out HX.out hpx)
          rw [hpx] at HC
          clear hpx
          go_wp2_with fail
          refine HC.out.mono ?_
          rintro e w2 ⟨rfl, k2⟩
          have K2 := Lib.hid (Below.trans KW.out (k2.mono KW.out.size))
          clear k2 g0
          go_wp2_with fail
          go_ret
          exact ⟨by rw [HF.out]; rfl, K2.out⟩
    · have HF := Lib.hid (findM_none (p := p) (xs := xs) (fun i x hi => KP.out i x (by have := (List.getElem?_eq_some_iff.1 hi).1; omega) hi))
      go_wp2_with fail
      go_ret
      exact ⟨by rw [HF.out]; rfl, KW.out⟩
set_option maxHeartbeats 1000000 in
theorem containsFunc_strs {α : Type} (R : List Value → α → Prop) (p : α → Bool) (A : Option Addr) (cap : Nat) (xs : List α) (fid : FuncId) (hen : ∀ args W, (callFunc fid args).run Tryz.prog W = .ok (.enter fid args) W) (caps : Array Value) (w : World) (hs : SliceR w w.heap.size 1 R (.slice A xs.length cap) xs)
    (hp : ∀ (w1 : World), Below w.heap.size w w1 → ∀ (x : α) (cs : List Value), x ∈ xs → R cs x → Calls Tryz.prog fid (cs.toArray ++ caps) w1 (Gives (.bool (p x)) w1)) :
    Calls Tryz.prog 42 #[.slice A xs.length cap, .func (.func fid) #[] caps] w (Gives (.bool (xs.any p)) w) := by
  have HC := Lib.hid (indexFunc_strs R p A cap xs fid hen caps w hs hp)
  have HB := Lib.hid (findM_any p xs)
  clear hs hp hen
  go_enter Tryz.func42, Tryz.ntmps42
  go_wp2_with fail
  refine HC.out.mono ?_
  rintro e w1 ⟨rfl, k1⟩
  have K1 := Lib.hid k1
  clear k1
  go_wp2_with fail
  go_ret
  exact ⟨by rw [HB.out]; rfl, K1.out⟩


set_option maxHeartbeats 1000000 in
set_option maxRecDepth 100000 in
theorem indexFunc_fns {α : Type} (R : List Value → α → Prop) (p : α → Bool) (A : Option Addr) (cap : Nat) (xs : List α) (fid : FuncId) (hen : ∀ args W, (callFunc fid args).run Tryz.prog W = .ok (.enter fid args) W) (caps : Array Value) (w : World) (hs : SliceR w w.heap.size 5 R (.slice A xs.length cap) xs)
    (hp : ∀ (w1 : World), Below w.heap.size w w1 → ∀ (x : α) (cs : List Value), x ∈ xs → R cs x → Calls Tryz.prog fid (#[.agg ⟨cs⟩] ++ caps) w1 (Gives (.bool (p x)) w1)) :
    Calls Tryz.prog 49 #[.slice A xs.length cap, .func (.func fid) #[] caps] w (Gives (.int .i64 (findM p xs)) w) := by
  have HS := Lib.hid hs
  have HP := Lib.hid hp
  have hl : xs.length ≤ cap ∧ cap ≤ maxLen := by obtain ⟨A', c', e, e1, e2, -⟩ := hs; injection e with _ _ e3; subst e3; exact ⟨e1, e2⟩
  obtain ⟨hl1, hl0⟩ := hl
  unfold maxLen at hl0
  clear hs hp
  go_enter Tryz.func49, Tryz.ntmps49
  go_wp2_with fail
  go_loopw [8] (fun k wr => ∃ kn : Nat, k = .int .i64 kn ∧ kn ≤ xs.length ∧ Hid (∀ i x, i < kn → xs[i]? = some x → p x = false) ∧ Hid (Below w.heap.size w wr)) (fun k _ => xs.length - (RowKit.intOf k).toNat)
  case atStart => exact ⟨0, rfl, by omega, fun i x hi _ => by omega, Below.refl _ _⟩
  case round =>
    obtain ⟨kn, rfl, hk, KP, KW⟩ := hrel
    by_cases hlt : kn < xs.length
    · obtain ⟨b, off, x, cs, rfl, hb, hx0, hcl, hR, hat⟩ := HS.out.at_ hlt
      match cs, hcl with
      | [c0, c1, c2, c3, c4], _ =>
        have hi1 : (kn : Int) < xs.length := by omega
        have g0 : wr.cell? ⟨b, off + kn * 5, none⟩ = some c0 := (KW.out.cell hb).trans (hat 0 _ rfl)
        have g1 : wr.cell? ⟨b, off + kn * 5 + 1, none⟩ = some c1 := (KW.out.cell hb).trans (hat 1 _ rfl)
        have g2 : wr.cell? ⟨b, off + kn * 5 + 2, none⟩ = some c2 := (KW.out.cell hb).trans (hat 2 _ rfl)
        have g3 : wr.cell? ⟨b, off + kn * 5 + 3, none⟩ = some c3 := (KW.out.cell hb).trans (hat 3 _ rfl)
        have g4 : wr.cell? ⟨b, off + kn * 5 + 4, none⟩ = some c4 := (KW.out.cell hb).trans (hat 4 _ rfl)
        have HC := Lib.hid (HP.out wr KW.out x _ (List.mem_of_getElem? hx0) hR)
        have HX := Lib.hid hx0
        clear hx0 hat hR
        cases hpx : p x
        · have HF := Lib.hid hpx
          rw [hpx] at HC
          clear hpx
          go_wp2_with fail
          refine HC.out.mono ?_
          rintro e w2 ⟨rfl, k2⟩
          have K2 := Lib.hid (Below.trans KW.out (k2.mono KW.out.size))
          clear k2 g0 g1 g2 g3 g4
          go_wp2_with fail
          go_roundw
          case rel => exact ⟨kn + 1, by go_num, by omega, fun i y hi hy => by
            rcases Nat.lt_or_ge i kn with h | h
            · exact KP.out i y h hy
            · have : i = kn := by omega
              subst this
              rw [HX.out] at hy
              injection hy with hy
              subst hy
              exact HF.out, K2⟩
          case measure => simp [RowKit.intOf]; omega
        · have HF := Lib.hid (findM_hit KP.out HX.out hpx)
          rw [hpx] at HC
          clear hpx
          go_wp2_with fail
          refine HC.out.mono ?_
          rintro e w2 ⟨rfl, k2⟩
          have K2 := Lib.hid (Below.trans KW.out (k2.mono KW.out.size))
          clear k2 g0 g1 g2 g3 g4
          go_wp2_with fail
          go_ret
          exact ⟨by rw [HF.out]; rfl, K2.out⟩
    · have HF := Lib.hid (findM_none (p := p) (xs := xs) (fun i x hi => KP.out i x (by have := (List.getElem?_eq_some_iff.1 hi).1; omega) hi))
      go_wp2_with fail
      go_ret
      exact ⟨by rw [HF.out]; rfl, KW.out⟩
set_option maxHeartbeats 1000000 in
theorem containsFunc_fns {α : Type} (R : List Value → α → Prop) (p : α → Bool) (A : Option Addr) (cap : Nat) (xs : List α) (fid : FuncId) (hen : ∀ args W, (callFunc fid args).run Tryz.prog W = .ok (.enter fid args) W) (caps : Array Value) (w : World) (hs : SliceR w w.heap.size 5 R (.slice A xs.length cap) xs)
    (hp : ∀ (w1 : World), Below w.heap.size w w1 → ∀ (x : α) (cs : List Value), x ∈ xs → R cs x → Calls Tryz.prog fid (#[.agg ⟨cs⟩] ++ caps) w1 (Gives (.bool (p x)) w1)) :
    Calls Tryz.prog 24 #[.slice A xs.length cap, .func (.func fid) #[] caps] w (Gives (.bool (xs.any p)) w) := by
  have HC := Lib.hid (indexFunc_fns R p A cap xs fid hen caps w hs hp)
  have HB := Lib.hid (findM_any p xs)
  clear hs hp hen
  go_enter Tryz.func24, Tryz.ntmps24
  go_wp2_with fail
  refine HC.out.mono ?_
  rintro e w1 ⟨rfl, k1⟩
  have K1 := Lib.hid k1
  clear k1
  go_wp2_with fail
  go_ret
  exact ⟨by rw [HB.out]; rfl, K1.out⟩


set_option maxHeartbeats 1000000 in
set_option maxRecDepth 100000 in
theorem indexFunc_vals {α : Type} (R : List Value → α → Prop) (p : α → Bool) (A : Option Addr) (cap : Nat) (xs : List α) (fid : FuncId) (hen : ∀ args W, (callFunc fid args).run Tryz.prog W = .ok (.enter fid args) W) (caps : Array Value) (w : World) (hs : SliceR w w.heap.size 2 R (.slice A xs.length cap) xs)
    (hp : ∀ (w1 : World), Below w.heap.size w w1 → ∀ (x : α) (cs : List Value), x ∈ xs → R cs x → Calls Tryz.prog fid (#[.agg ⟨cs⟩] ++ caps) w1 (Gives (.bool (p x)) w1)) :
    Calls Tryz.prog 66 #[.slice A xs.length cap, .func (.func fid) #[] caps] w (Gives (.int .i64 (findM p xs)) w) := by
  have HS := Lib.hid hs
  have HP := Lib.hid hp
  have hl : xs.length ≤ cap ∧ cap ≤ maxLen := by obtain ⟨A', c', e, e1, e2, -⟩ := hs; injection e with _ _ e3; subst e3; exact ⟨e1, e2⟩
  obtain ⟨hl1, hl0⟩ := hl
  unfold maxLen at hl0
  clear hs hp
  go_enter Tryz.func66, Tryz.ntmps66
  go_wp2_with fail
  go_loopw [8] (fun k wr => ∃ kn : Nat, k = .int .i64 kn ∧ kn ≤ xs.length ∧ Hid (∀ i x, i < kn → xs[i]? = some x → p x = false) ∧ Hid (Below w.heap.size w wr)) (fun k _ => xs.length - (RowKit.intOf k).toNat)
  case atStart => exact ⟨0, rfl, by omega, fun i x hi _ => by omega, Below.refl _ _⟩
  case round =>
    obtain ⟨kn, rfl, hk, KP, KW⟩ := hrel
    by_cases hlt : kn < xs.length
    · obtain ⟨b, off, x, cs, rfl, hb, hx0, hcl, hR, hat⟩ := HS.out.at_ hlt
      match cs, hcl with
      | [c0, c1], _ =>
        have hi1 : (kn : Int) < xs.length := by omega
        have g0 : wr.cell? ⟨b, off + kn * 2, none⟩ = some c0 := (KW.out.cell hb).trans (hat 0 _ rfl)
        have g1 : wr.cell? ⟨b, off + kn * 2 + 1, none⟩ = some c1 := (KW.out.cell hb).trans (hat 1 _ rfl)
        have HC := Lib.hid (HP.out wr KW.out x _ (List.mem_of_getElem? hx0) hR)
        have HX := Lib.hid hx0
        clear hx0 hat hR
        cases hpx : p x
        · have HF := Lib.hid hpx
          rw [hpx] at HC
          clear hpx
          go_wp2_with fail
          refine HC.out.mono ?_
          rintro e w2 ⟨rfl, k2⟩
          have K2 := Lib.hid (Below.trans KW.out (k2.mono KW.out.size))
          clear k2 g0 g1
          go_wp2_with fail
          go_roundw
          case rel => exact ⟨kn + 1, by go_num, by omega, fun i y hi hy => by
            rcases Nat.lt_or_ge i kn with h | h
            · exact KP.out i y h hy
            · have : i = kn := by omega
              subst this
              rw [HX.out] at hy
              injection hy with hy
              subst hy
              exact HF.out, K2⟩
          case measure => simp [RowKit.intOf]; omega
        · have HF := Lib.hid (findM_hit KP.out HX.out hpx)
          rw [hpx] at HC
          clear hpx
          go_wp2_with fail
          refine HC.out.mono ?_
          rintro e w2 ⟨rfl, k2⟩
          have K2 := Lib.hid (Below.trans KW.out (k2.mono KW.out.size))
          clear k2 g0 g1
          go_wp2_with fail
          go_ret
          exact ⟨by rw [HF.out]; rfl, K2.out⟩
    · have HF := Lib.hid (findM_none (p := p) (xs := xs) (fun i x hi => KP.out i x (by have := (List.getElem?_eq_some_iff.1 hi).1; omega) hi))
      go_wp2_with fail
      go_ret
      exact ⟨by rw [HF.out]; rfl, KW.out⟩
set_option maxHeartbeats 1000000 in
theorem containsFunc_vals {α : Type} (R : List Value → α → Prop) (p : α → Bool) (A : Option Addr) (cap : Nat) (xs : List α) (fid : FuncId) (hen : ∀ args W, (callFunc fid args).run Tryz.prog W = .ok (.enter fid args) W) (caps : Array Value) (w : World) (hs : SliceR w w.heap.size 2 R (.slice A xs.length cap) xs)
    (hp : ∀ (w1 : World), Below w.heap.size w w1 → ∀ (x : α) (cs : List Value), x ∈ xs → R cs x → Calls Tryz.prog fid (#[.agg ⟨cs⟩] ++ caps) w1 (Gives (.bool (p x)) w1)) :
    Calls Tryz.prog 47 #[.slice A xs.length cap, .func (.func fid) #[] caps] w (Gives (.bool (xs.any p)) w) := by
  have HC := Lib.hid (indexFunc_vals R p A cap xs fid hen caps w hs hp)
  have HB := Lib.hid (findM_any p xs)
  clear hs hp hen
  go_enter Tryz.func47, Tryz.ntmps47
  go_wp2_with fail
  refine HC.out.mono ?_
  rintro e w1 ⟨rfl, k1⟩
  have K1 := Lib.hid k1
  clear k1
  go_wp2_with fail
  go_ret
  exact ⟨by rw [HB.out]; rfl, K1.out⟩


theorem enters_l1 : ∀ args W, (callFunc 43 args).run Tryz.prog W = .ok (.enter 43 args) W := enters_of Tryz.func43 (by kernel_rfl) rfl
theorem enters_l2 : ∀ args W, (callFunc 44 args).run Tryz.prog W = .ok (.enter 44 args) W := enters_of Tryz.func44 (by kernel_rfl) rfl
set_option maxHeartbeats 400000 in
theorem large1_c (s : ByteArray) (hs : s.size ≤ 9223372036854775807) (w : World) : Calls Tryz.prog 43 #[.string s] w (Gives (.bool (decide (200 < s.size))) w) := by
  obtain ⟨r, hr⟩ : ∃ r, decide (200 < s.size) = r := ⟨_, rfl⟩
  rw [hr]
  have HR : Hid (decide ((200 : Int) < s.size) = r) := by rw [← hr]; show decide _ = decide _; congr 1; rw [eq_iff_iff]; omega
  clear hr
  go_enter Tryz.func43, Tryz.ntmps43
  go_wp2
  go_ret
  exact ⟨by rw [← HR.out]; rfl, Below.refl _ _⟩
set_option maxHeartbeats 400000 in
theorem large2_c (cs : List Value) (f : CFn) (B : Nat) (w0 w : World) (h : FnR w0 B cs f) : Calls Tryz.prog 44 #[.agg ⟨cs⟩] w (Gives (.bool (decide (600 < f.code.length) || decide (60 < f.regs))) w) := by
  obtain ⟨A4, n4, A5, n5, rfl, -⟩ := h
  by_cases h1 : (600 : Int) < f.code.length
  · have e : (decide (600 < f.code.length) || decide (60 < f.regs)) = true := by
      have h6 : 600 < f.code.length := by omega
      rw [decide_eq_true h6, Bool.true_or]
    rw [e]
    go_enter Tryz.func44, Tryz.ntmps44
    go_wp2
    go_ret
    exact ⟨rfl, below_one w _⟩
  · obtain ⟨r, hr⟩ : ∃ r, (decide (600 < f.code.length) || decide (60 < f.regs)) = r := ⟨_, rfl⟩
    rw [hr]
    have HR : Hid (decide (60 < f.regs) = r) := by rw [← hr]; have : ¬ 600 < f.code.length := by omega
                                                   simp [this, Hid]
    have h2 : decide ((600 : Int) < f.code.length) = false := by simpa using h1
    clear hr h1
    go_enter Tryz.func44, Tryz.ntmps44
    go_wp2
    go_ret
    exact ⟨by rw [← HR.out]; rfl, below_one w _⟩

set_option maxHeartbeats 2000000 in
set_option maxRecDepth 100000 in
theorem large_c (pcs : List Value) (p : CProg) (w : World) (hp : ProgR w w.heap.size pcs p) : Calls Tryz.prog 22 #[.agg ⟨pcs⟩] w (Gives (.bool (largeM p)) w) := by
  obtain ⟨r, hr⟩ : ∃ r, largeM p = r := ⟨_, rfl⟩
  rw [hr]
  unfold largeM at hr
  have HP := Lib.hid hp
  obtain ⟨A1, n1, A2, n2, A3, n3, rfl, q1, q2, q3⟩ := hp
  obtain ⟨w0, hw0⟩ : ∃ w0, w0 = w.alloc (.cells #[.slice A1 p.fns.length n1, .slice A2 p.consts.length n2, .slice A3 p.texts.length n3] 26) := ⟨_, rfl⟩
  have k0 : Hid (Below w.heap.size w w0) := by rw [hw0]; exact below_one w _
  have c0 : Hid (∀ i, w0.cell? ⟨w.heap.size, i, none⟩ = (#[.slice A1 p.fns.length n1, .slice A2 p.consts.length n2, .slice A3 p.texts.length n3] : Array Value)[i]?) := by rw [hw0]; exact one_cell _ _ _
  have hz : w.heap.size < w0.heap.size := by rw [hw0]; simp
  have HW := Lib.hid hw0
  have C1 := Lib.hid (containsFunc_strs StrR (fun t => decide (200 < t.size)) A3 n3 p.texts 43 enters_l1 #[] w0 (q3.keep k0.out.size (fun _ h => k0.out.cell h) (fun _ _ h => h)) (fun w1 k x cs hx hR => by
    obtain ⟨rfl, hs⟩ := hR
    exact large1_c x (by unfold maxLen at hs; omega) w1))
  have C2 : Hid (∀ w1, Below w0.heap.size w0 w1 → _) := fun w1 (k1 : Below w0.heap.size w0 w1) => containsFunc_fns (FnR w w.heap.size) (fun f => decide (600 < f.code.length) || decide (60 < f.regs)) A1 n1 p.fns 44 enters_l2 #[] w1 (q1.keep (Nat.le_trans k0.out.size k1.size) (fun _ h => (k1.cell (Nat.lt_of_lt_of_le h k0.out.size)).trans (k0.out.cell h)) (fun _ _ h => h)) (fun w2 k x cs hx hR => large2_c cs x _ _ w2 hR)
  clear q1 q2 q3 hw0
  by_cases h1 : 60 < p.fns.length
  · have hi : (60 : Int) < p.fns.length := by omega
    have HR : Hid (true = r) := by rw [← hr]; simp [h1, Hid]
    clear hr h1
    go_enter Tryz.func22, Tryz.ntmps22
    go_wp2_with fail
    go_ret
    rw [← HW.out]
    exact ⟨by rw [← HR.out]; rfl, k0.out⟩
  have i1 : decide ((60 : Int) < p.fns.length) = false := by simp; omega
  by_cases h2 : 200 < p.consts.length
  · have hi : (200 : Int) < p.consts.length := by omega
    have HR : Hid (true = r) := by rw [← hr]; simp [h2, Hid]
    clear hr h1 h2
    go_enter Tryz.func22, Tryz.ntmps22
    go_wp2_with fail
    go_ret
    rw [← HW.out]
    exact ⟨by rw [← HR.out]; rfl, k0.out⟩
  have i2 : decide ((200 : Int) < p.consts.length) = false := by simp; omega
  by_cases h3 : 200 < p.texts.length
  · have hi : (200 : Int) < p.texts.length := by omega
    have HR : Hid (true = r) := by rw [← hr]; simp [h3, Hid]
    clear hr h1 h2 h3
    go_enter Tryz.func22, Tryz.ntmps22
    go_wp2_with fail
    go_ret
    rw [← HW.out]
    exact ⟨by rw [← HR.out]; rfl, k0.out⟩
  have i3 : decide ((200 : Int) < p.texts.length) = false := by simp; omega
  have hr2 : (p.texts.any (fun t => decide (200 < t.size)) || p.fns.any (fun f => decide (600 < f.code.length) || decide (60 < f.regs))) = r := by
    rw [← hr]; simp only [h1, h2, h3, decide_false, Bool.false_or]
  clear hr h1 h2 h3
  cases hq : p.texts.any (fun t => decide (200 < t.size))
  · rw [hq] at C1 hr2
    have HR : Hid (p.fns.any (fun f => decide (600 < f.code.length) || decide (60 < f.regs)) = r) := by rw [Bool.false_or] at hr2; exact hr2
    clear hr2 hq
    go_enter Tryz.func22, Tryz.ntmps22
    go_wp2_with fail
    rw [← HW.out]
    refine C1.out.mono ?_
    rintro e w3 ⟨rfl, k3⟩
    have K3 := Lib.hid k3
    have d0 : w3.cell? ⟨w.heap.size, 0, none⟩ = some (.slice A1 p.fns.length n1) := cell_on k3 (c0.out 0)
    clear k3
    go_wp2_with fail
    refine (C2.out w3 K3.out).mono ?_
    rintro e w4 ⟨rfl, k4⟩
    have K4 := Lib.hid (k0.out.trans ((Below.next K3.out k4).mono k0.out.size))
    clear k4 d0
    go_wp2_with fail
    go_ret
    exact ⟨by rw [← HR.out]; rfl, K4.out⟩
  · rw [hq] at C1 hr2
    have HR : Hid (true = r) := by rw [Bool.true_or] at hr2; exact hr2
    clear hr2 hq
    go_enter Tryz.func22, Tryz.ntmps22
    go_wp2_with fail
    rw [← HW.out]
    refine C1.out.mono ?_
    rintro e w3 ⟨rfl, k3⟩
    have K3 := Lib.hid (k0.out.trans (k3.mono k0.out.size))
    clear k3
    go_wp2_with fail
    go_ret
    exact ⟨by rw [← HR.out]; rfl, K3.out⟩
end Go.Proofs.YtlnkjmgfkpeicaaGreatDoor
namespace Go.Proofs.YtlnkjmgfkpeicaaGreatDoor
open Go.RowKit

/-- a float's bits, off a value's number -/
def bitsM (n : Int) : Nat := (IntKind.u64.wrap n).toNat
/-- is it a number? -/
def isNum (n : Int) : Bool := FloatKind.f64.format.order (bitsM n) (bitsM n) == some .eq
def rightV (v : Val) : Bool :=
  if v.kind = 0 then v.n == 0
  else if v.kind = 1 then decide (0 ≤ v.n) && decide (v.n ≤ 1)
  else if v.kind = 2 then decide (-2147483648 ≤ v.n) && decide (v.n ≤ 2147483647)
  else if v.kind = 3 then isNum v.n || v.n == 9221120237041090561
  else if v.kind = 4 ∨ v.kind = 5 then decide (0 ≤ v.n)
  else if v.kind = 6 then decide (0 ≤ v.n) && decide (v.n ≤ 15)
  else false

set_option maxHeartbeats 400000 in
set_option maxRecDepth 100000 in
theorem float_c (k n : Int) (w : World) : Calls Tryz.prog 53 #[.agg #[.int .i64 k, .int .i64 n]] w (Gives (.float .f64 (bitsM n)) w) := by
  go_enter Tryz.func53, Tryz.ntmps53
  go_wp2
  rw [run_callFunc_extern Tryz.func74 (by kernel_rfl) (by kernel_rfl) (by kernel_rfl) (e := Extern.MathFloatBits.float64frombits) (by kernel_rfl)]
  rw [show ∀ (m : Int) (W : World), (Extern.MathFloatBits.float64frombits #[.int .u64 m]).run Tryz.prog W = .ok (.float .f64 m.toNat) W from fun _ _ => rfl]
  simp only [Result.andThen]
  rw [Oper.upon_value]
  go_wp2
  go_ret
  exact ⟨rfl, below_one w _⟩

set_option maxHeartbeats 400000 in
set_option maxRecDepth 100000 in
theorem owithin_c (n lo hi : Int) (w : World) : Calls Tryz.prog 52 #[.int .i64 n, .int .i64 lo, .int .i64 hi] w fun e w' => e = .returned (.bool (withinM n lo hi)) ∧ w = w' := by
  unfold withinM
  obtain ⟨r, hr⟩ : ∃ r : Bool, (decide (lo ≤ n) && decide (n ≤ hi)) = r := ⟨_, rfl⟩
  rw [hr]
  by_cases h : lo ≤ n
  · have hr' : decide (n ≤ hi) = r := by rw [← hr]; simp [h]
    have HR := Lib.hid hr'
    clear hr hr'
    go_enter Tryz.func52, Tryz.ntmps52
    go_wp2
    go_ret
    exact ⟨by rw [← HR.out]; rfl, rfl⟩
  · have hr' : false = r := by rw [← hr]; simp [h]
    subst hr'
    have h' : decide (lo ≤ n) = false := by simpa using h
    clear hr
    go_enter Tryz.func52, Tryz.ntmps52
    go_wp2
    go_ret
    exact ⟨rfl, rfl⟩

set_option maxHeartbeats 1000000 in
set_option maxRecDepth 100000 in
theorem right_c (v : Val) (w : World) : Calls Tryz.prog 28 #[.agg #[.int .i64 v.kind, .int .i64 v.n]] w (Gives (.bool (rightV v)) w) := by
  obtain ⟨k, n⟩ := v
  obtain ⟨r, hr⟩ : ∃ r, rightV ⟨k, n⟩ = r := ⟨_, rfl⟩
  rw [hr]
  unfold rightV at hr
  dsimp only at hr ⊢
  by_cases h0 : k = 0
  · rw [if_pos h0] at hr
    subst h0
    have HR := Lib.hid hr
    clear hr
    go_enter Tryz.func28, Tryz.ntmps28
    go_wp2
    go_ret
    exact ⟨by rw [← HR.out]; rfl, below_one w _⟩
  rw [if_neg h0] at hr
  by_cases h1 : k = 1
  · rw [if_pos h1] at hr
    have HR : Hid (withinM n 0 1 = r) := hr
    subst h1
    clear hr h0
    go_enter Tryz.func28, Tryz.ntmps28
    go_wp2_with fail
    refine (owithin_c _ _ _ _).mono ?_
    rintro e w' ⟨rfl, rfl⟩
    go_wp2_with fail
    go_ret
    exact ⟨by rw [← HR.out]; rfl, below_one w _⟩
  rw [if_neg h1] at hr
  by_cases h2 : k = 2
  · rw [if_pos h2] at hr
    have HR : Hid (withinM n (-2147483648) 2147483647 = r) := hr
    subst h2
    clear hr h0 h1
    go_enter Tryz.func28, Tryz.ntmps28
    go_wp2_with fail
    refine (owithin_c _ _ _ _).mono ?_
    rintro e w' ⟨rfl, rfl⟩
    go_wp2_with fail
    go_ret
    exact ⟨by rw [← HR.out]; rfl, below_one w _⟩
  rw [if_neg h2] at hr
  by_cases h3 : k = 3
  · rw [if_pos h3] at hr
    subst h3
    have HR := Lib.hid hr
    obtain ⟨w0, hw0⟩ : ∃ w0, w0 = w.alloc (.cells #[.int .i64 3, .int .i64 n] 40) := ⟨_, rfl⟩
    have f0 : ∀ E : Up w0, E.to.cell? ⟨w.heap.size, 0, none⟩ = some (.int .i64 3) := fun E => E.cell (by rw [hw0]; exact one_cell _ _ _ _)
    have f1 : ∀ E : Up w0, E.to.cell? ⟨w.heap.size, 1, none⟩ = some (.int .i64 n) := fun E => E.cell (by rw [hw0]; exact one_cell _ _ _ _)
    have k0 : Hid (Below w.heap.size w w0) := by rw [hw0]; exact below_one w _
    have HW := Lib.hid hw0
    obtain ⟨bt, hbt⟩ : ∃ bt, bitsM n = bt := ⟨_, rfl⟩
    have FC : Hid (∀ E : Up w0, Calls Tryz.prog 53 #[.agg #[.int .i64 3, .int .i64 n]] E.to (Gives (.float .f64 bt) E.to)) := fun E => by rw [← hbt]; exact float_c 3 n E.to
    have HR2 : Hid (((FloatKind.f64.format.order bt bt == some .eq) || n == 9221120237041090561) = r) := by rw [← hbt]; exact hr
    clear hr h0 h1 h2 hw0 hbt
    cases hq : (FloatKind.f64.format.order bt bt == some .eq)
    · have HR3 : Hid ((n == 9221120237041090561) = r) := by have := HR2.out; rw [hq, Bool.false_or] at this; exact this
      go_enter Tryz.func28, Tryz.ntmps28
      go_wp2_with fail
      rw [← HW.out]
      refine wp_region_up (by kernel_rfl) (by kernel_rfl) ?_
      repeat (go_big_quiet_step ((go_at_call 53; with_reducible exact Calls.up (FC.out _))))
      refine wpQuiet_nil ?_
      rintro _ ⟨E, rfl⟩
      have KE := Lib.hid (k0.out.trans (E.below.mono k0.out.size))
      clear f0 f1
      go_wp2_with fail
      go_ret
      exact ⟨by rw [← HR3.out]; rfl, KE.out⟩
    · have HR3 : Hid (true = r) := by have := HR2.out; rw [hq, Bool.true_or] at this; exact this
      go_enter Tryz.func28, Tryz.ntmps28
      go_wp2_with fail
      rw [← HW.out]
      refine wp_region_up (by kernel_rfl) (by kernel_rfl) ?_
      repeat (go_big_quiet_step ((go_at_call 53; with_reducible exact Calls.up (FC.out _))))
      refine wpQuiet_nil ?_
      rintro _ ⟨E, rfl⟩
      have KE := Lib.hid (k0.out.trans (E.below.mono k0.out.size))
      clear f0 f1
      go_wp2_with fail
      go_ret
      exact ⟨by rw [← HR3.out]; rfl, KE.out⟩
  rw [if_neg h3] at hr
  by_cases h45 : k = 4 ∨ k = 5
  · rw [if_pos h45] at hr
    have HR := Lib.hid hr
    clear hr h0 h1 h2 h3
    rcases h45 with rfl | rfl
    all_goals
      go_enter Tryz.func28, Tryz.ntmps28
      go_wp2
      go_ret
      exact ⟨by rw [← HR.out]; rfl, below_one w _⟩
  rw [if_neg h45] at hr
  by_cases h6 : k = 6
  · rw [if_pos h6] at hr
    have HR : Hid (withinM n 0 15 = r) := hr
    subst h6
    clear hr h0 h1 h2 h3 h45
    go_enter Tryz.func28, Tryz.ntmps28
    go_wp2_with fail
    refine (owithin_c _ _ _ _).mono ?_
    rintro e w' ⟨rfl, rfl⟩
    go_wp2_with fail
    go_ret
    exact ⟨by rw [← HR.out]; rfl, below_one w _⟩
  rw [if_neg h6] at hr
  have n0 : (k == 0) = false := by simpa using h0
  have n1 : (k == 1) = false := by simpa using h1
  have n2 : (k == 2) = false := by simpa using h2
  have n3 : (k == 3) = false := by simpa using h3
  have n4 : (k == 4) = false := by simp; omega
  have n5 : (k == 5) = false := by simp; omega
  have n6 : (k == 6) = false := by simpa using h6
  have HR := Lib.hid hr
  clear hr h0 h1 h2 h3 h45 h6
  go_enter Tryz.func28, Tryz.ntmps28
  go_wp2
  go_ret
  exact ⟨by rw [← HR.out]; rfl, below_one w _⟩
end Go.Proofs.YtlnkjmgfkpeicaaGreatDoor
namespace Go.Proofs.YtlnkjmgfkpeicaaGreatDoor
open Go.RowKit Go.Maps

/-- a constant that no program may hold -/
def badC (len : Nat) (v : Val) : Bool := !rightV v || v.kind == 5 || (v.kind == 4 && decide ((len : Int) ≤ v.n))
def tablesM (p : CProg) : Bool := decide (19 ≤ p.texts.length) && decide (p.texts.take 19 = wordsM) && decide p.texts.Nodup && !p.consts.any (badC p.texts.length)

/-- the texts seen so far -/
def seenD (l : List ByteArray) : DataW Unit := l.foldl (fun d t => d.put (.string t.data.toList) (.lit (.int .i64 1))) (.map [])
theorem seenD_snoc (l : List ByteArray) (t : ByteArray) : seenD (l ++ [t]) = (seenD l).put (.string t.data.toList) (.lit (.int .i64 1)) := by simp [seenD, List.foldl_append]
theorem seenD_at (t : ByteArray) (z : DataW Unit) : ∀ (l : List ByteArray) (D : DataW Unit), IsMap D →
    (t ∈ l → (l.foldl (fun d t => d.put (.string t.data.toList) (.lit (.int .i64 1))) D).atKey (.string t.data.toList) z = .lit (.int .i64 1)) ∧
    (t ∉ l → (l.foldl (fun d t => d.put (.string t.data.toList) (.lit (.int .i64 1))) D).atKey (.string t.data.toList) z = D.atKey (.string t.data.toList) z)
  | [], D, _ => ⟨fun h => by simp at h, fun _ => rfl⟩
  | x :: l, D, h => by
    rw [List.foldl_cons]
    obtain ⟨i1, i2⟩ := seenD_at t z l _ (h.put (.string x.data.toList) (.lit (.int .i64 1)))
    refine ⟨fun hm => ?_, fun hm => ?_⟩
    · by_cases h1 : t ∈ l
      · exact i1 h1
      · rw [i2 h1]
        rcases List.mem_cons.1 hm with h2 | h2
        · subst h2
          exact atKey_put_same h (show WideAt.IsKeyLit (.string _) from trivial) _ _
        · exact absurd h2 h1
    · rw [i2 (fun h => hm (List.mem_cons_of_mem _ h))]
      refine atKey_put_other (fun e => hm ?_) _ _
      injection e with e
      have : x = t := by cases t with | mk a => cases x with | mk b => cases a; cases b; simp_all
      exact this ▸ List.mem_cons_self
theorem seenD_hit {t : ByteArray} {l : List ByteArray} (h : t ∈ l) : (seenD l).atKey (.string t.data.toList) (.lit (.int .i64 0)) = .lit (.int .i64 1) := (seenD_at t _ l _ isMap_empty).1 h
theorem seenD_miss {t : ByteArray} {l : List ByteArray} (h : t ∉ l) : (seenD l).atKey (.string t.data.toList) (.lit (.int .i64 0)) = .lit (.int .i64 0) := (seenD_at t _ l _ isMap_empty).2 h
theorem lit_inj {c d : Int} (h : (DataW.lit (.int .i64 c) : DataW Unit) = .lit (.int .i64 d)) : c = d := by injection h with h; injection h

set_option maxHeartbeats 1000000 in
set_option maxRecDepth 100000 in
theorem tables1_c (v : Val) (pb : Nat) (A : Option Addr) (len cap : Nat) (w : World) (hc : w.cell? ⟨pb, 2, none⟩ = some (.slice A len cap)) :
    Calls Tryz.prog 48 #[.agg #[.int .i64 v.kind, .int .i64 v.n], .pointer (some ⟨pb, 0, none⟩)] w (Gives (.bool (badC len v)) w) := by
  obtain ⟨k, n⟩ := v
  obtain ⟨r, hr⟩ : ∃ r, badC len ⟨k, n⟩ = r := ⟨_, rfl⟩
  rw [hr]
  unfold badC at hr
  obtain ⟨q, hq⟩ : ∃ q, rightV ⟨k, n⟩ = q := ⟨_, rfl⟩
  obtain ⟨w0, hw0⟩ : ∃ w0, w0 = w.alloc (.cells #[.int .i64 k, .int .i64 n] 40) := ⟨_, rfl⟩
  have C : Hid (Calls Tryz.prog 28 #[.agg #[.int .i64 k, .int .i64 n]] w0 (Gives (.bool q) w0)) := by rw [← hq]; exact right_c ⟨k, n⟩ w0
  have f0 : w0.cell? ⟨w.heap.size, 0, none⟩ = some (.int .i64 k) := by rw [hw0]; exact one_cell _ _ _ _
  have f1 : w0.cell? ⟨w.heap.size, 1, none⟩ = some (.int .i64 n) := by rw [hw0]; exact one_cell _ _ _ _
  have f2 : w0.cell? ⟨pb, 2, none⟩ = some (.slice A len cap) := by rw [hw0]; exact old_one hc _
  have F0 := Lib.hid f0
  have F1 := Lib.hid f1
  have F2 := Lib.hid f2
  have k0 : Hid (Below w.heap.size w w0) := by rw [hw0]; exact below_one w _
  have HW := Lib.hid hw0
  rw [hq] at hr
  clear f0 f1 f2 hw0 hq hc
  cases q
  · have HR : Hid (true = r) := by rw [← hr]; rfl
    clear hr
    go_enter Tryz.func48, Tryz.ntmps48
    go_wp2_with fail
    rw [← HW.out]
    refine C.out.mono ?_
    rintro e w1 ⟨rfl, k1⟩
    have K := Lib.hid (k0.out.trans (k1.mono k0.out.size))
    clear k1
    go_wp2_with fail
    go_ret
    exact ⟨by rw [← HR.out]; rfl, K.out⟩
  by_cases h5 : k = 5
  · subst h5
    have HR : Hid (true = r) := by rw [← hr]; rfl
    clear hr
    go_enter Tryz.func48, Tryz.ntmps48
    go_wp2_with fail
    rw [← HW.out]
    refine C.out.mono ?_
    rintro e w1 ⟨rfl, k1⟩
    have g0 := cell_on k1 F0.out
    have K := Lib.hid (k0.out.trans (k1.mono k0.out.size))
    clear k1
    go_wp2_with fail
    go_ret
    exact ⟨by rw [← HR.out]; rfl, K.out⟩
  by_cases h4 : k = 4
  · subst h4
    have HR : Hid (decide ((len : Int) ≤ n) = r) := by rw [← hr]; rfl
    clear hr h5
    go_enter Tryz.func48, Tryz.ntmps48
    go_wp2_with fail
    rw [← HW.out]
    refine C.out.mono ?_
    rintro e w1 ⟨rfl, k1⟩
    have g0 := cell_on k1 F0.out
    have g1 := cell_on k1 F1.out
    have g2 := cell_on k1 F2.out
    have K := Lib.hid (k0.out.trans (k1.mono k0.out.size))
    clear k1
    go_wp2_with fail
    go_ret
    exact ⟨by rw [← HR.out]; rfl, K.out⟩
  have HR : Hid (false = r) := by
    rw [← hr]
    show false = (false || k == 5 || (k == 4 && decide ((len : Int) ≤ n)))
    rw [beq_eq_false_iff_ne.2 h5, beq_eq_false_iff_ne.2 h4]
    rfl
  clear hr
  go_enter Tryz.func48, Tryz.ntmps48
  go_wp2_with fail
  rw [← HW.out]
  refine C.out.mono ?_
  rintro e w1 ⟨rfl, k1⟩
  have g0 := cell_on k1 F0.out
  have K := Lib.hid (k0.out.trans (k1.mono k0.out.size))
  clear k1
  go_wp2_with fail
  go_ret
  refine ⟨?_, K.out⟩
  show Ending.returned (.bool (k == 5)) = _
  rw [beq_eq_false_iff_ne.2 h5, ← HR.out]
theorem enters_tables1 : ∀ args W, (callFunc 48 args).run Tryz.prog W = .ok (.enter 48 args) W := enters_of Tryz.func48 (by kernel_rfl) rfl
end Go.Proofs.YtlnkjmgfkpeicaaGreatDoor
namespace Go.Proofs.YtlnkjmgfkpeicaaGreatDoor
open Go.RowKit Go.Maps Go.WideMaps

theorem mapLaw : Keyed Tryz.prog 9 := string_keyed Tryz.underlying9
theorem zeroInt (w : World) : (zeroValue 3).run Tryz.prog w = .ok (.int .i64 0) w := by kernel_rfl

theorem words_slice (w : World) : SliceR (w.alloc (.cells (wordsM.map Value.string).toArray 9)) (w.heap.size + 1) 1 StrR (.slice (some ⟨w.heap.size, 0, none⟩) 19 19) wordsM := by
  refine ⟨some ⟨w.heap.size, 0, none⟩, 19, by rw [wordsM_len], by rw [wordsM_len]; decide, by decide, fun _ => ⟨w.heap.size, 0, rfl, by omega, fun i x hx => ⟨[.string x], rfl, ⟨rfl, ?_⟩, fun j v hj => ?_⟩⟩⟩
  · have hm := List.mem_of_getElem? hx
    have : wordsM.all (fun t => decide (t.size ≤ 200)) = true := by kernel_rfl
    have := List.all_eq_true.1 this x hm
    simp at this
    unfold maxLen
    omega
  · match j, hj with
    | 0, hj =>
      simp only [List.getElem?_cons_zero, Option.some.injEq] at hj
      subst hj
      rw [one_cell]
      simp [hx]

theorem takes_next {xs : List ByteArray} {k : Nat} {x : ByteArray} (hx : xs[k]? = some x) : xs.take (k + 1) = xs.take k ++ [x] := by rw [List.take_add_one, hx]; rfl
theorem nodup_next {xs : List ByteArray} {k : Nat} {x : ByteArray} (h : (xs.take k).Nodup) (hx : xs[k]? = some x) (hm : x ∉ xs.take k) : (xs.take (k + 1)).Nodup := by
  rw [takes_next hx, List.nodup_append]
  exact ⟨h, by simp, fun a ha b hb => by
    rw [List.mem_singleton] at hb
    subst hb
    exact fun e => hm (e ▸ ha)⟩
theorem nodup_not {xs : List ByteArray} {k : Nat} {x : ByteArray} (hx : xs[k]? = some x) (hm : x ∈ xs.take k) : ¬ xs.Nodup := by
  intro h
  have := (List.take_sublist (k + 1) xs).nodup h
  rw [takes_next hx, List.nodup_append] at this
  exact this.2.2 x hm x (by simp) rfl

set_option maxHeartbeats 4000000 in
set_option maxRecDepth 100000 in
theorem tables_c (pcs : List Value) (p : CProg) (w : World) (hp : ProgR w w.heap.size pcs p) (ht : Tab w) (h200 : p.texts.length ≤ 200) : Calls Tryz.prog 23 #[.agg ⟨pcs⟩] w (Gives (.bool (tablesM p)) w) := by
  obtain ⟨r, hr⟩ : ∃ r, tablesM p = r := ⟨_, rfl⟩
  rw [hr]
  unfold tablesM at hr
  obtain ⟨A1, n1, A2, n2, A3, n3, rfl, q1, q2, q3⟩ := hp
  obtain ⟨w0, hw0⟩ : ∃ w0, w0 = w.alloc (.cells #[.slice A1 p.fns.length n1, .slice A2 p.consts.length n2, .slice A3 p.texts.length n3] 26) := ⟨_, rfl⟩
  have k0 : Hid (Below w.heap.size w w0) := by rw [hw0]; exact below_one w _
  have hz : w.heap.size < w0.heap.size := by rw [hw0]; simp
  have T0 : Hid (Tab w0) := ht.below k0.out
  obtain ⟨w1, hw1⟩ : ∃ w1, w1 = w0.alloc (.cells (wordsM.map Value.string).toArray 9) := ⟨_, rfl⟩
  have k1 : Hid (Below w0.heap.size w0 w1) := by rw [hw1]; exact below_one w0 _
  have k01 : Hid (Below w.heap.size w w1) := k0.out.trans (k1.out.mono k0.out.size)
  have c0 : ∀ i, w1.cell? ⟨w.heap.size, i, none⟩ = (#[.slice A1 p.fns.length n1, .slice A2 p.consts.length n2, .slice A3 p.texts.length n3] : Array Value)[i]? := by rw [hw1, hw0]; exact two_cell0 _ _ _ _
  have d1 : w1.cell? ⟨w.heap.size, 1, none⟩ = some (.slice A2 p.consts.length n2) := c0 1
  have d2 : w1.cell? ⟨w.heap.size, 2, none⟩ = some (.slice A3 p.texts.length n3) := c0 2
  have C0 : Hid (Calls Tryz.prog 45 #[] w0 fun e w' => e = .returned (.slice (some ⟨w0.heap.size, 0, none⟩) 19 19) ∧ w' = w1) := by rw [hw1]; exact words_c w0 T0.out
  have s1 : Hid (SliceR w1 w1.heap.size 1 StrR (.slice (some ⟨w0.heap.size, 0, none⟩) 19 19) wordsM) := by
    have := words_slice w0
    rw [← hw1] at this
    have e : w1.heap.size = w0.heap.size + 1 := by rw [hw1]; simp
    rw [e]; exact this
  have s3 : Hid (SliceR w1 w1.heap.size 1 StrR (.slice A3 p.texts.length n3) p.texts) := q3.below k01.out
  have s2 : Hid (SliceR w1 w1.heap.size 2 ValR (.slice A2 p.consts.length n2) p.consts) := q2.below k01.out
  have D1 := Lib.hid d1
  have D2 := Lib.hid d2
  have HW := Lib.hid hw0
  obtain ⟨l1, l0⟩ : p.texts.length ≤ n3 ∧ n3 ≤ maxLen := (s3.out.len).2
  unfold maxLen at l0
  have hz1 : w.heap.size < w1.heap.size := Nat.lt_of_lt_of_le hz k1.out.size
  clear q1 q2 q3 hw0 hw1 c0 ht d1
  by_cases h19 : p.texts.length < 19
  · have i19 : (p.texts.length : Int) < 19 := by omega
    have HR : Hid (false = r) := by rw [← hr, decide_eq_false (by omega)]; rfl
    clear hr h19
    go_enter Tryz.func23, Tryz.ntmps23
    go_wp2_with fail
    rw [← HW.out]
    refine C0.out.mono ?_
    rintro e w' ⟨rfl, rfl⟩
    go_wp2_with fail
    go_ret
    exact ⟨by rw [← HR.out]; rfl, k01.out⟩
  have i19 : decide ((p.texts.length : Int) < 19) = false := by simp; omega
  rw [decide_eq_true (by omega : 19 ≤ p.texts.length), Bool.true_and] at hr
  have C1 : Hid (Calls Tryz.prog 46 #[.slice A3 19 n3, .slice (some ⟨w0.heap.size, 0, none⟩) 19 19] w1 (Gives (.bool (decide (p.texts.take 19 = wordsM))) w1)) := by
    refine equal_str_c _ _ _ _ w1 ?_ s1.out
    exact s3.out.take (by omega)
  have h19' : 19 ≤ p.texts.length := by omega
  obtain ⟨q, hq⟩ : ∃ q, decide (p.texts.take 19 = wordsM) = q := ⟨_, rfl⟩
  rw [hq] at C1 hr
  clear hq
  cases q
  · have HR : Hid (false = r) := by rw [← hr]; rfl
    clear hr h19
    go_enter Tryz.func23, Tryz.ntmps23
    go_wp2_with fail
    rw [← HW.out]
    refine C0.out.mono ?_
    rintro e w' ⟨rfl, rfl⟩
    go_wp2_with fail
    refine C1.out.mono ?_
    rintro e w2 ⟨rfl, k2⟩
    have K := Lib.hid (k01.out.trans (k2.mono k01.out.size))
    clear k2
    go_wp2_with fail
    go_ret
    exact ⟨by rw [← HR.out]; rfl, K.out⟩
  rw [Bool.true_and] at hr
  have HR := Lib.hid hr
  clear hr h19
  have hmm := @run_makeMap Tryz.prog
  go_enter Tryz.func23, Tryz.ntmps23
  go_wp2_with fail
  rw [← HW.out]
  refine C0.out.mono ?_
  rintro e w' ⟨rfl, rfl⟩
  go_wp2_with fail
  refine C1.out.mono ?_
  rintro e w2 ⟨rfl, k2⟩
  have K := Lib.hid (k01.out.trans (k2.mono k01.out.size))
  have E1 := Lib.hid (cell_on k2 D1.out)
  have E2 := Lib.hid (cell_on k2 D2.out)
  have e1 := E1.out
  have e2 := E2.out
  have S2 := Lib.hid (s2.out.below k2)
  have S3 := Lib.hid (s3.out.below k2)
  have hz2 : w.heap.size < w2.heap.size := Nat.lt_of_lt_of_le hz1 k2.size
  clear k2 d2
  go_wp2_with fail
  go_loopw [28] (fun k wr => ∃ kn : Nat, k = .int .i64 kn ∧ kn ≤ p.texts.length ∧ Hid ((p.texts.take kn).Nodup) ∧ Hid (wr.ownsMap Tryz.prog 9 (plainElem Tryz.prog 3) w2.heap.size kn (seenD (p.texts.take kn))) ∧ Hid (Below w2.heap.size w2 wr)) (fun k _ => p.texts.length - (RowKit.intOf k).toNat)
  case atStart => exact ⟨0, rfl, by omega, by show (p.texts.take 0).Nodup; simp, World.ownsMap_made _ _ _ _, below_one w2 _⟩
  case round =>
    obtain ⟨kn, rfl, hk, KD, KO, KW⟩ := hrel
    clear e1 e2
    by_cases hlt : kn < p.texts.length
    · obtain ⟨b, off, x, cs, rfl, hb, hx0, hcl, hR, hat⟩ := S3.out.at_ hlt
      obtain ⟨rfl, hxs⟩ := hR
      have hi1 : (kn : Int) < p.texts.length := by omega
      have g0 : wr.cell? ⟨b, off + kn, none⟩ = some (.string x) := (KW.out.cell hb).trans (by have := hat 0 _ rfl; simpa using this)
      have HX := Lib.hid hx0
      have hkey := Lib.hid (keyOf_string_mk (P := Tryz.prog) (k := 9) Tryz.underlying9 hxs)
      clear hx0 hat hcl
      by_cases hm : x ∈ p.texts.take kn
      · have HM := Lib.hid (seenD_hit hm)
        have HN : Hid (false = r) := by rw [← HR.out, decide_eq_false (nodup_not HX.out hm)]; rfl
        clear hm
        go_wp2_with (first
          | (at_lookup; refine wpList_lookup_own_int _ rfl _ _ 106 rfl 9 3 .i64 mapLaw Tryz.underlying106 Tryz.underlying3 (zeroInt _) w2.heap.size kn _ rfl KO.out _ _ rfl hkey.out ?_; intro c hc hwc; obtain rfl : c = 1 := lit_inj (hc.symm.trans HM.out); clear hc hwc)
          | fail)
        go_ret
        exact ⟨by rw [← HN.out]; rfl, K.out.trans (KW.out.mono (Nat.le_of_lt hz2))⟩
      · have HM := Lib.hid (seenD_miss hm)
        have HN := Lib.hid hm
        clear hm
        go_wp2_with (first
          | (at_lookup; refine wpList_lookup_own_int _ rfl _ _ 106 rfl 9 3 .i64 mapLaw Tryz.underlying106 Tryz.underlying3 (zeroInt _) w2.heap.size kn _ rfl KO.out _ _ rfl hkey.out ?_; intro c hc hwc; obtain rfl : c = 0 := lit_inj (hc.symm.trans HM.out); clear hc hwc)
          | (at_mapUpdate; refine wpList_mapUpdate_own _ rfl _ _ _ 106 rfl 9 3 mapLaw Tryz.underlying106 _ w2.heap.size kn _ rfl KO.out (by unfold maxLen; omega) _ _ _ rfl rfl hkey.out _ [] (plainElem_int Tryz.underlying3 (by decide)) ?_; intro w3 hown1 hgrow1)
          | fail)
        have R1 : Hid (w3.ownsMap Tryz.prog 9 (plainElem Tryz.prog 3) w2.heap.size (kn + 1) (seenD (p.texts.take (kn + 1)))) := by rw [takes_next HX.out, seenD_snoc]; exact hown1
        have R2 := Lib.hid (KW.out.grown hgrow1 KW.out.size (fun j hj => by cases hj; exact Nat.le_refl _))
        clear hown1 hgrow1 g0
        go_wp2_with fail
        go_roundw
        case rel => exact ⟨kn + 1, by go_num, by omega, nodup_next KD.out HX.out HN.out, R1, R2⟩
        case measure => simp [RowKit.intOf]; omega
    · have hke : kn = p.texts.length := by omega
      have HN : Hid ((!p.consts.any (badC p.texts.length)) = r) := by
        have := KD.out
        rw [hke, List.take_length] at this
        rw [← HR.out, decide_eq_true this, Bool.true_and]
        exact rfl
      have g1 := cell_on KW.out E1.out
      have G2 := Lib.hid (cell_on KW.out E2.out)
      have CF := Lib.hid (containsFunc_vals ValR (badC p.texts.length) A2 n2 p.consts 48 enters_tables1 #[.pointer (some ⟨w.heap.size, 0, none⟩)] wr (S2.out.below KW.out) (fun w4 k4 x cs hx hR => by
        obtain ⟨rfl, -, -⟩ := hR
        exact tables1_c x w.heap.size A3 p.texts.length n3 w4 (cell_on k4 G2.out)))
      have KZ := Lib.hid (K.out.trans (KW.out.mono (Nat.le_of_lt hz2)))
      have hz3 : w.heap.size ≤ wr.heap.size := KZ.out.size
      clear hke
      go_wp2_with fail
      refine CF.out.mono ?_
      rintro e w5 ⟨rfl, k5⟩
      have KY := Lib.hid (KZ.out.trans (k5.mono hz3))
      clear k5 g1
      go_wp2_with fail
      go_ret
      exact ⟨by rw [← HN.out]; rfl, KY.out⟩
end Go.Proofs.YtlnkjmgfkpeicaaGreatDoor
namespace Go.Proofs.YtlnkjmgfkpeicaaGreatDoor
open Go.RowKit

/-- is the first function no main? -/
def headM (p : CProg) : Bool := match p.fns with
  | [] => true
  | f :: _ => decide (f.params ≠ 0) || decide (0 < f.caught.length) || f.gen
/-- code.Check, as a function of the program -/
def codeCheckM (p : CProg) : Int :=
  if largeM p then 2 else if !tablesM p || headM p then 3 else if p.fns.any (fun f => !functionM p f) then 3 else 0

theorem large_no {p : CProg} (h : largeM p = false) : p.texts.length ≤ 200 ∧ ∀ f ∈ p.fns, f.code.length ≤ 600 ∧ f.regs ≤ 60 := by
  unfold largeM at h
  simp only [Bool.or_eq_false_iff, decide_eq_false_iff_not, List.any_eq_false] at h
  obtain ⟨⟨⟨⟨h1, h2⟩, h3⟩, h4⟩, h5⟩ := h
  refine ⟨by omega, fun f hf => ?_⟩
  have := h5 f hf
  simp only [Bool.or_eq_true, decide_eq_true_eq, not_or] at this
  omega

set_option maxHeartbeats 1000000 in
set_option maxRecDepth 100000 in
theorem check1_c (pcs fcs : List Value) (p : CProg) (f : CFn) (pb : Nat) (w : World) (hp : ProgR w w.heap.size pcs p) (hf : FnR w w.heap.size fcs f) (hn : f.code.length ≤ 600) (hr2 : f.regs ≤ 60) (hg : HeadAt w pb pcs) :
    Calls Tryz.prog 25 #[.agg ⟨fcs⟩, .pointer (some ⟨pb, 0, none⟩)] w (Gives (.bool (!functionM p f)) w) := by
  obtain ⟨r, hr⟩ : ∃ r, functionM p f = r := ⟨_, rfl⟩
  obtain ⟨w0, hw0⟩ : ∃ w0, w0 = w.alloc (.cells ⟨fcs⟩ 57) := ⟨_, rfl⟩
  have k0 : Hid (Below w.heap.size w w0) := by rw [hw0]; exact below_one w _
  have C := Lib.hid (function_c pcs fcs p f w0 (hp.keep k0.out.size (fun _ h => k0.out.cell h)) (hf.keep k0.out.size (fun _ h => k0.out.cell h)) hn hr2)
  rw [hr] at C ⊢
  have HW := Lib.hid hw0
  clear hr hw0
  obtain ⟨A1, n1, A2, n2, A3, n3, rfl, -⟩ := hp
  obtain ⟨A4, n4, A5, n5, rfl, -⟩ := hf
  have a0 : w.cell? ⟨pb, 0, none⟩ = some (.slice A1 p.fns.length n1) := hg 0 _ rfl
  have a1 : w.cell? ⟨pb, 1, none⟩ = some (.slice A2 p.consts.length n2) := hg 1 _ rfl
  have a2 : w.cell? ⟨pb, 2, none⟩ = some (.slice A3 p.texts.length n3) := hg 2 _ rfl
  have hpb : pb < w.heap.size := cell_lt a0
  clear hg
  go_enter Tryz.func25, Tryz.ntmps25
  go_wp2_with fail
  rw [← HW.out]
  refine C.out.mono ?_
  rintro e w1 ⟨rfl, k1⟩
  have K := Lib.hid (k0.out.trans (k1.mono k0.out.size))
  clear k1
  go_wp2_with fail
  go_ret
  exact ⟨rfl, K.out⟩
theorem enters_check1 : ∀ args W, (callFunc 25 args).run Tryz.prog W = .ok (.enter 25 args) W := enters_of Tryz.func25 (by kernel_rfl) rfl
end Go.Proofs.YtlnkjmgfkpeicaaGreatDoor
namespace Go.Proofs.YtlnkjmgfkpeicaaGreatDoor
open Go.RowKit

set_option maxHeartbeats 4000000 in
set_option maxRecDepth 100000 in
theorem codeCheck_c (pcs : List Value) (p : CProg) (w : World) (hp : ProgR w w.heap.size pcs p) (ht : Tab w) : Calls Tryz.prog 12 #[.agg ⟨pcs⟩] w (Gives (.int .i64 (codeCheckM p)) w) := by
  obtain ⟨r, hr⟩ : ∃ r, codeCheckM p = r := ⟨_, rfl⟩
  rw [hr]
  unfold codeCheckM at hr
  have HP := Lib.hid hp
  obtain ⟨A1, n1, A2, n2, A3, n3, hpcs, q1, q2, q3⟩ := hp
  obtain ⟨w0, hw0⟩ : ∃ w0, w0 = w.alloc (.cells ⟨pcs⟩ 26) := ⟨_, rfl⟩
  have k0 : Hid (Below w.heap.size w w0) := by rw [hw0]; exact below_one w _
  have T0 : Hid (Tab w0) := ht.below k0.out
  have hz : w.heap.size < w0.heap.size := by rw [hw0]; simp
  have H0 : Hid (HeadAt w0 w.heap.size pcs) := by rw [hw0]; exact HeadAt.box _ _ _
  have P0 : Hid (ProgR w0 w0.heap.size pcs p) := HP.out.keep k0.out.size (fun _ h => k0.out.cell h)
  have C1 := Lib.hid (large_c pcs p w0 P0.out)
  have l1 : p.fns.length ≤ 9223372036854775807 := len_le q1
  have S1 : Hid (SliceR w w.heap.size 5 (FnR w w.heap.size) (.slice A1 p.fns.length n1) p.fns) := q1
  subst hpcs
  have HW := Lib.hid hw0
  clear q1 q2 q3 hw0 ht
  obtain ⟨q, hq⟩ : ∃ q, largeM p = q := ⟨_, rfl⟩
  rw [hq] at C1 hr
  cases q
  case true =>
    have HR : Hid (2 = r) := by rw [← hr]; rfl
    clear hr hq
    go_enter Tryz.func12, Tryz.ntmps12
    go_wp2_with fail
    rw [← HW.out]
    refine C1.out.mono ?_
    rintro e w' ⟨rfl, k1⟩
    have K := Lib.hid (k0.out.trans (k1.mono k0.out.size))
    clear k1
    go_wp2_with fail
    go_ret
    exact ⟨by rw [← HR.out]; rfl, K.out⟩
  rw [if_neg (by simp)] at hr
  have HL := Lib.hid (large_no hq)
  have C2 : Hid (∀ w1, Below w0.heap.size w0 w1 → Calls Tryz.prog 23 #[.agg #[.slice A1 p.fns.length n1, .slice A2 p.consts.length n2, .slice A3 p.texts.length n3]] w1 (Gives (.bool (tablesM p)) w1)) := fun w1 k1 =>
    tables_c _ p w1 (P0.out.keep k1.size (fun _ h => k1.cell h)) (T0.out.below k1) HL.out.1
  obtain ⟨q, hq2⟩ : ∃ q, tablesM p = q := ⟨_, rfl⟩
  rw [hq2] at C2 hr
  clear hq hq2
  cases q
  case false =>
    have HR : Hid (3 = r) := by rw [← hr]; rfl
    clear hr
    go_enter Tryz.func12, Tryz.ntmps12
    go_wp2_with fail
    rw [← HW.out]
    refine C1.out.mono ?_
    rintro e w1 ⟨rfl, k1⟩
    have a0 : w1.cell? ⟨w.heap.size, 0, none⟩ = some (.slice A1 p.fns.length n1) := cell_on k1 (H0.out 0 _ rfl)
    have a1 : w1.cell? ⟨w.heap.size, 1, none⟩ = some (.slice A2 p.consts.length n2) := cell_on k1 (H0.out 1 _ rfl)
    have a2 : w1.cell? ⟨w.heap.size, 2, none⟩ = some (.slice A3 p.texts.length n3) := cell_on k1 (H0.out 2 _ rfl)
    have K := Lib.hid (k0.out.trans (k1.mono k0.out.size))
    have C3 := Lib.hid (C2.out w1 k1)
    clear k1
    go_wp2_with fail
    refine C3.out.mono ?_
    rintro e w2 ⟨rfl, k2⟩
    have K2 := Lib.hid (K.out.trans (k2.mono K.out.size))
    clear k2 a0 a1 a2
    go_wp2_with fail
    go_ret
    exact ⟨by rw [← HR.out]; rfl, K2.out⟩
  rw [Bool.not_true, Bool.false_or] at hr
  obtain ⟨fl, hfs⟩ : ∃ fl, p.fns = fl := ⟨_, rfl⟩
  cases fl with
  | nil =>
    have hh : headM p = true := by unfold headM; rw [hfs]
    rw [hh] at hr
    have HR : Hid (3 = r) := by rw [← hr]; rfl
    have z1 : p.fns.length = 0 := by rw [hfs]; rfl
    rw [z1] at C2 HW H0
    clear hr hfs hh
    rw [z1]
    go_enter Tryz.func12, Tryz.ntmps12
    go_wp2_with fail
    rw [← HW.out]
    rw [z1] at C1
    refine C1.out.mono ?_
    rintro e w1 ⟨rfl, k1⟩
    have a0 : w1.cell? ⟨w.heap.size, 0, none⟩ = some (.slice A1 (0 : Nat) n1) := cell_on k1 (H0.out 0 _ rfl)
    have a1 : w1.cell? ⟨w.heap.size, 1, none⟩ = some (.slice A2 p.consts.length n2) := cell_on k1 (H0.out 1 _ rfl)
    have a2 : w1.cell? ⟨w.heap.size, 2, none⟩ = some (.slice A3 p.texts.length n3) := cell_on k1 (H0.out 2 _ rfl)
    have K := Lib.hid (k0.out.trans (k1.mono k0.out.size))
    have C3 := Lib.hid (C2.out w1 k1)
    have K1 := Lib.hid k1
    clear k1
    go_wp2_with fail
    refine C3.out.mono ?_
    rintro e w2 ⟨rfl, k2⟩
    have b0 := cell_on k2 a0
    have K2 := Lib.hid (K.out.trans (k2.mono K.out.size))
    clear k2 a0 a1 a2
    go_wp2_with fail
    go_ret
    exact ⟨by rw [← HR.out]; rfl, K2.out⟩
  | cons f fs =>
    have hh : headM p = (decide (f.params ≠ 0) || decide (0 < f.caught.length) || f.gen) := by unfold headM; rw [hfs]
    rw [hh] at hr
    have h0 : p.fns[0]? = some f := by rw [hfs]; rfl
    have hpos : 0 < p.fns.length := by rw [hfs]; simp
    have ipos : (0 : Int) < p.fns.length := by omega
    have z1 : ((p.fns.length : Int) == 0) = false := by rw [beq_eq_false_iff_ne]; omega
    have z2 : ¬ (p.fns.length : Int) = 0 := by omega
    obtain ⟨b, off, x, cs, hA, hb, hx0, hcl, hR, hat⟩ := S1.out.at_ hpos
    rw [h0] at hx0
    injection hx0 with hx0
    subst hx0
    subst hA
    obtain ⟨A4, n4, A5, n5, rfl, q4, q5, v1, v2⟩ := hR
    have l4 := len_le q4
    have hat' := Lib.hid hat
    clear hfs h0 hcl hat q4 q5 hh
    have CF : Hid (∀ w1, Below w0.heap.size w0 w1 → Calls Tryz.prog 24 #[.slice (some ⟨b, off, none⟩) p.fns.length n1, .func (.func 25) #[] #[.pointer (some ⟨w.heap.size, 0, none⟩)]] w1 (Gives (.bool (p.fns.any (fun f => !functionM p f))) w1)) := fun w1 k1 => by
      have P1 := P0.out.keep k1.size (fun _ h => k1.cell h)
      refine containsFunc_fns (FnR w1 w1.heap.size) (fun f => !functionM p f) _ n1 p.fns 25 enters_check1 _ w1 ?_ (fun w4 k4 x cs hx hR => ?_)
      · have k01 := k0.out.trans (k1.mono k0.out.size)
        exact S1.out.keep k01.size (fun _ h => k01.cell h) (fun _ _ h => h.keep k01.size (fun _ h => k01.cell h))
      · exact check1_c _ cs p x w.heap.size w4 (P1.keep k4.size (fun _ h => k4.cell h)) (hR.keep k4.size (fun _ h => k4.cell h)) (HL.out.2 x hx).1 (HL.out.2 x hx).2 ((H0.out.on k1).on k4)
    have D0 : Hid (w.cell? ⟨b, off, none⟩ = some (.int .i64 f.params)) := by have := hat'.out 0 _ rfl; simpa [Hid] using this
    have D2 : Hid (w.cell? ⟨b, off + 2, none⟩ = some (.bool f.gen)) := by have := hat'.out 2 _ rfl; simpa [Hid] using this
    have D3 : Hid (w.cell? ⟨b, off + 3, none⟩ = some (.slice A4 f.caught.length n4)) := by have := hat'.out 3 _ rfl; simpa [Hid] using this
    clear hat'
    by_cases h1 : f.params = 0
    case neg =>
      have h1' : (f.params != 0) = true := by simpa using h1
      have HR : Hid (3 = r) := by rw [← hr, decide_eq_true h1]; rfl
      clear hr
      go_enter Tryz.func12, Tryz.ntmps12
      go_wp2_with fail
      rw [← HW.out]
      refine C1.out.mono ?_
      rintro e w1 ⟨rfl, k1⟩
      have a0 : w1.cell? ⟨w.heap.size, 0, none⟩ = some (.slice (some ⟨b, off, none⟩) p.fns.length n1) := cell_on k1 (H0.out 0 _ rfl)
      have a1 : w1.cell? ⟨w.heap.size, 1, none⟩ = some (.slice A2 p.consts.length n2) := cell_on k1 (H0.out 1 _ rfl)
      have a2 : w1.cell? ⟨w.heap.size, 2, none⟩ = some (.slice A3 p.texts.length n3) := cell_on k1 (H0.out 2 _ rfl)
      have K := Lib.hid (k0.out.trans (k1.mono k0.out.size))
      have C3 := Lib.hid (C2.out w1 k1)
      have K1 := Lib.hid k1
      clear k1
      go_wp2_with fail
      refine C3.out.mono ?_
      rintro e w2 ⟨rfl, k2⟩
      have b0 := cell_on k2 a0
      have K2 := Lib.hid (K.out.trans (k2.mono K.out.size))
      have K3 := Lib.hid (K1.out.trans (k2.mono K1.out.size))
      clear k2 a0 a1 a2
      have c0 : w2.cell? ⟨b, off, none⟩ = some (.int .i64 f.params) := (K2.out.cell hb).trans D0.out
      have c2 : w2.cell? ⟨b, off + 2, none⟩ = some (.bool f.gen) := (K2.out.cell hb).trans D2.out
      have c3 : w2.cell? ⟨b, off + 3, none⟩ = some (.slice A4 f.caught.length n4) := (K2.out.cell hb).trans D3.out
      go_wp2_with fail
      go_ret
      exact ⟨by rw [← HR.out]; rfl, K2.out⟩
    rw [h1] at D0
    rw [decide_eq_false (by simp [h1] : ¬ f.params ≠ 0), Bool.false_or] at hr
    by_cases h2 : 0 < f.caught.length
    case pos =>
      have h2' : (0 : Int) < f.caught.length := by omega
      have HR : Hid (3 = r) := by rw [← hr, decide_eq_true h2]; rfl
      clear hr
      go_enter Tryz.func12, Tryz.ntmps12
      go_wp2_with fail
      rw [← HW.out]
      refine C1.out.mono ?_
      rintro e w1 ⟨rfl, k1⟩
      have a0 : w1.cell? ⟨w.heap.size, 0, none⟩ = some (.slice (some ⟨b, off, none⟩) p.fns.length n1) := cell_on k1 (H0.out 0 _ rfl)
      have a1 : w1.cell? ⟨w.heap.size, 1, none⟩ = some (.slice A2 p.consts.length n2) := cell_on k1 (H0.out 1 _ rfl)
      have a2 : w1.cell? ⟨w.heap.size, 2, none⟩ = some (.slice A3 p.texts.length n3) := cell_on k1 (H0.out 2 _ rfl)
      have K := Lib.hid (k0.out.trans (k1.mono k0.out.size))
      have C3 := Lib.hid (C2.out w1 k1)
      have K1 := Lib.hid k1
      clear k1
      go_wp2_with fail
      refine C3.out.mono ?_
      rintro e w2 ⟨rfl, k2⟩
      have b0 := cell_on k2 a0
      have K2 := Lib.hid (K.out.trans (k2.mono K.out.size))
      have K3 := Lib.hid (K1.out.trans (k2.mono K1.out.size))
      clear k2 a0 a1 a2
      have c0 : w2.cell? ⟨b, off, none⟩ = some (.int .i64 0) := (K2.out.cell hb).trans D0.out
      have c2 : w2.cell? ⟨b, off + 2, none⟩ = some (.bool f.gen) := (K2.out.cell hb).trans D2.out
      have c3 : w2.cell? ⟨b, off + 3, none⟩ = some (.slice A4 f.caught.length n4) := (K2.out.cell hb).trans D3.out
      go_wp2_with fail
      go_ret
      exact ⟨by rw [← HR.out]; rfl, K2.out⟩
    have h2' : decide ((0 : Int) < f.caught.length) = false := decide_eq_false (by omega)
    rw [decide_eq_false h2, Bool.false_or] at hr
    obtain ⟨g, hg⟩ : ∃ g, f.gen = g := ⟨_, rfl⟩
    rw [hg] at hr D2
    cases g
    case true =>
      have HR : Hid (3 = r) := by rw [← hr]; rfl
      clear hr
      go_enter Tryz.func12, Tryz.ntmps12
      go_wp2_with fail
      rw [← HW.out]
      refine C1.out.mono ?_
      rintro e w1 ⟨rfl, k1⟩
      have a0 : w1.cell? ⟨w.heap.size, 0, none⟩ = some (.slice (some ⟨b, off, none⟩) p.fns.length n1) := cell_on k1 (H0.out 0 _ rfl)
      have a1 : w1.cell? ⟨w.heap.size, 1, none⟩ = some (.slice A2 p.consts.length n2) := cell_on k1 (H0.out 1 _ rfl)
      have a2 : w1.cell? ⟨w.heap.size, 2, none⟩ = some (.slice A3 p.texts.length n3) := cell_on k1 (H0.out 2 _ rfl)
      have K := Lib.hid (k0.out.trans (k1.mono k0.out.size))
      have C3 := Lib.hid (C2.out w1 k1)
      have K1 := Lib.hid k1
      clear k1
      go_wp2_with fail
      refine C3.out.mono ?_
      rintro e w2 ⟨rfl, k2⟩
      have b0 := cell_on k2 a0
      have K2 := Lib.hid (K.out.trans (k2.mono K.out.size))
      have K3 := Lib.hid (K1.out.trans (k2.mono K1.out.size))
      clear k2 a0 a1 a2
      have c0 : w2.cell? ⟨b, off, none⟩ = some (.int .i64 0) := (K2.out.cell hb).trans D0.out
      have c2 : w2.cell? ⟨b, off + 2, none⟩ = some (.bool true) := (K2.out.cell hb).trans D2.out
      have c3 : w2.cell? ⟨b, off + 3, none⟩ = some (.slice A4 f.caught.length n4) := (K2.out.cell hb).trans D3.out
      go_wp2_with fail
      go_ret
      exact ⟨by rw [← HR.out]; rfl, K2.out⟩
    rw [if_neg (by simp)] at hr
    clear hg
    obtain ⟨q, hq⟩ : ∃ q, p.fns.any (fun f => !functionM p f) = q := ⟨_, rfl⟩
    rw [hq] at hr CF
    clear hq
    cases q
    case true =>
      have HR : Hid (3 = r) := by rw [← hr]; rfl
      clear hr
      go_enter Tryz.func12, Tryz.ntmps12
      go_wp2_with fail
      rw [← HW.out]
      refine C1.out.mono ?_
      rintro e w1 ⟨rfl, k1⟩
      have a0 : w1.cell? ⟨w.heap.size, 0, none⟩ = some (.slice (some ⟨b, off, none⟩) p.fns.length n1) := cell_on k1 (H0.out 0 _ rfl)
      have a1 : w1.cell? ⟨w.heap.size, 1, none⟩ = some (.slice A2 p.consts.length n2) := cell_on k1 (H0.out 1 _ rfl)
      have a2 : w1.cell? ⟨w.heap.size, 2, none⟩ = some (.slice A3 p.texts.length n3) := cell_on k1 (H0.out 2 _ rfl)
      have K := Lib.hid (k0.out.trans (k1.mono k0.out.size))
      have C3 := Lib.hid (C2.out w1 k1)
      have K1 := Lib.hid k1
      clear k1
      go_wp2_with fail
      refine C3.out.mono ?_
      rintro e w2 ⟨rfl, k2⟩
      have b0 := cell_on k2 a0
      have K2 := Lib.hid (K.out.trans (k2.mono K.out.size))
      have K3 := Lib.hid (K1.out.trans (k2.mono K1.out.size))
      clear k2 a0 a1 a2
      have c0 : w2.cell? ⟨b, off, none⟩ = some (.int .i64 0) := (K2.out.cell hb).trans D0.out
      have c2 : w2.cell? ⟨b, off + 2, none⟩ = some (.bool false) := (K2.out.cell hb).trans D2.out
      have c3 : w2.cell? ⟨b, off + 3, none⟩ = some (.slice A4 f.caught.length n4) := (K2.out.cell hb).trans D3.out
      have CG := Lib.hid (CF.out w2 K3.out)
      go_wp2_with fail
      refine CG.out.mono ?_
      rintro e w3 ⟨rfl, k3⟩
      have K4 := Lib.hid (K2.out.trans (k3.mono K2.out.size))
      clear k3
      go_wp2_with fail
      go_ret
      exact ⟨by rw [← HR.out]; rfl, K4.out⟩
    case false =>
      have HR : Hid (0 = r) := by rw [← hr]; rfl
      clear hr
      go_enter Tryz.func12, Tryz.ntmps12
      go_wp2_with fail
      rw [← HW.out]
      refine C1.out.mono ?_
      rintro e w1 ⟨rfl, k1⟩
      have a0 : w1.cell? ⟨w.heap.size, 0, none⟩ = some (.slice (some ⟨b, off, none⟩) p.fns.length n1) := cell_on k1 (H0.out 0 _ rfl)
      have a1 : w1.cell? ⟨w.heap.size, 1, none⟩ = some (.slice A2 p.consts.length n2) := cell_on k1 (H0.out 1 _ rfl)
      have a2 : w1.cell? ⟨w.heap.size, 2, none⟩ = some (.slice A3 p.texts.length n3) := cell_on k1 (H0.out 2 _ rfl)
      have K := Lib.hid (k0.out.trans (k1.mono k0.out.size))
      have C3 := Lib.hid (C2.out w1 k1)
      have K1 := Lib.hid k1
      clear k1
      go_wp2_with fail
      refine C3.out.mono ?_
      rintro e w2 ⟨rfl, k2⟩
      have b0 := cell_on k2 a0
      have K2 := Lib.hid (K.out.trans (k2.mono K.out.size))
      have K3 := Lib.hid (K1.out.trans (k2.mono K1.out.size))
      clear k2 a0 a1 a2
      have c0 : w2.cell? ⟨b, off, none⟩ = some (.int .i64 0) := (K2.out.cell hb).trans D0.out
      have c2 : w2.cell? ⟨b, off + 2, none⟩ = some (.bool false) := (K2.out.cell hb).trans D2.out
      have c3 : w2.cell? ⟨b, off + 3, none⟩ = some (.slice A4 f.caught.length n4) := (K2.out.cell hb).trans D3.out
      have CG := Lib.hid (CF.out w2 K3.out)
      go_wp2_with fail
      refine CG.out.mono ?_
      rintro e w3 ⟨rfl, k3⟩
      have K4 := Lib.hid (K2.out.trans (k3.mono K2.out.size))
      clear k3
      go_wp2_with fail
      go_ret
      exact ⟨by rw [← HR.out]; rfl, K4.out⟩
end Go.Proofs.YtlnkjmgfkpeicaaGreatDoor
