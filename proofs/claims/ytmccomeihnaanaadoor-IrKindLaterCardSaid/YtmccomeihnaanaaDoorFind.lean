/- slices.IndexFunc, slices.ContainsFunc at a closure that has a contract. -/
import Derived.Test.YtmccomeihnaanaaDoorIrB
import Derived.Test.YtmccomeihnaanaaDoorKeep
namespace Go.Proofs.YtmccomeihnaanaaDoor
open Go.RowKit

def findM {α : Type} (p : α → Bool) (xs : List α) : Int := match xs.findIdx? p with
  | some i => i
  | none => -1
theorem findM_hit {α : Type} {p : α → Bool} {xs : List α} {k : Nat} {x : α} (h : ∀ i x, i < k → xs[i]? = some x → p x = false) (hx : xs[k]? = some x) (hp : p x = true) : findM p xs = k := by
  have hl : k < xs.length := (List.getElem?_eq_some_iff.1 hx).1
  have e : xs.findIdx? p = some k := by
    rw [List.findIdx?_eq_some_iff_getElem]
    refine ⟨hl, ?_, fun j hj => ?_⟩
    · rw [List.getElem?_eq_getElem hl] at hx; injection hx with hx; rw [hx]; exact hp
    · have := h j xs[j] hj (List.getElem?_eq_getElem (by omega))
      simp [this]
  simp [findM, e]
theorem findM_none {α : Type} {p : α → Bool} {xs : List α} (h : ∀ (i : Nat) x, xs[i]? = some x → p x = false) : findM p xs = -1 := by
  have e : xs.findIdx? p = none := by
    rw [List.findIdx?_eq_none_iff]
    intro x hx
    obtain ⟨i, hi⟩ := List.getElem?_of_mem hx
    exact h i x hi
  simp [findM, e]
theorem findM_any {α : Type} (p : α → Bool) (xs : List α) : xs.any p = decide (0 ≤ findM p xs) := by
  unfold findM
  split
  · rename_i i hi
    obtain ⟨h1, h2, _⟩ := List.findIdx?_eq_some_iff_getElem.1 hi
    rw [eq_comm]; simp
    exact ⟨xs[i], List.getElem_mem h1, h2⟩
  · rename_i hi
    rw [List.findIdx?_eq_none_iff] at hi
    rw [eq_comm]
    simp
    exact fun x hx => by simpa using hi x hx

set_option maxHeartbeats 1000000 in
set_option maxRecDepth 100000 in
theorem indexFunc_ints {α : Type} (R : List Value → α → Prop) (p : α → Bool) (A : Option Addr) (cap : Nat) (xs : List α) (fid : FuncId) (hen : ∀ args W, (callFunc fid args).run Tryd.prog W = .ok (.enter fid args) W) (caps : Array Value) (w : World) (hs : SliceR w w.heap.size 1 R (.slice A xs.length cap) xs)
    (hp : ∀ (w1 : World), Below w.heap.size w w1 → ∀ (x : α) (cs : List Value), x ∈ xs → R cs x → Calls Tryd.prog fid (cs.toArray ++ caps) w1 (Gives (.bool (p x)) w1)) :
    Calls Tryd.prog 84 #[.slice A xs.length cap, .func (.func fid) #[] caps] w (Gives (.int .i64 (findM p xs)) w) := by
  have HS := Lib.hid hs
  have HP := Lib.hid hp
  have hl : xs.length ≤ cap ∧ cap ≤ maxLen := by obtain ⟨A', c', e, e1, e2, -⟩ := hs; injection e with _ _ e3; subst e3; exact ⟨e1, e2⟩
  obtain ⟨hl1, hl0⟩ := hl
  unfold maxLen at hl0
  clear hs hp
  go_enter Tryd.func84, Tryd.ntmps84
  go_wp2_with fail
  go_loopw [8] (fun k wr => ∃ kn : Nat, k = .int .i64 kn ∧ kn ≤ xs.length ∧ Hid (∀ i x, i < kn → xs[i]? = some x → p x = false) ∧ Hid (Below w.heap.size w wr)) (fun k _ => xs.length - (RowKit.intOf k).toNat)
  case atStart => exact ⟨0, rfl, by omega, fun i x hi _ => by omega, Below.refl _ _⟩
  case round =>
    obtain ⟨kn, rfl, hk, KP, KW⟩ := hrel
    by_cases hlt : kn < xs.length
    · obtain ⟨b, off, x, cs, rfl, hb, hx0, hcl, hR, hat⟩ := HS.out.at_ hlt
      match cs, hcl with
      | [c0], _ =>
        have hi1 : (kn : Int) < xs.length := by omega
        have g0 : wr.cell? ⟨b, off + kn, none⟩ = some c0 := (KW.out.cell hb).trans (by simpa using hat 0 _ rfl)
        have HC := Lib.hid (HP.out wr KW.out x _ (List.mem_of_getElem? hx0) hR)
        have HX := Lib.hid hx0
        clear hx0 hat hR
        cases hpx : p x
        · have HF := Lib.hid hpx
          rw [hpx] at HC
          clear hpx
          go_wp2_with fail
          refine HC.out.mono ?_
          rintro e w2 ⟨rfl, k2⟩
          have K2 := Lib.hid (Below.trans KW.out (k2.mono KW.out.size))
          clear k2 g0
          go_wp2_with fail
          go_roundw
          case rel => exact ⟨kn + 1, by go_num, by omega, fun i y hi hy => by
            rcases Nat.lt_or_ge i kn with h | h
            · exact KP.out i y h hy
            · have : i = kn := by omega
              subst this
              rw [HX.out] at hy
              injection hy with hy
              subst hy
              exact HF.out, K2⟩
          case measure => simp [RowKit.intOf]; omega
        · have HF := Lib.hid (findM_hit KP.out HX.out hpx)
          rw [hpx] at HC
          clear hpx
          go_wp2_with fail
          refine HC.out.mono ?_
          rintro e w2 ⟨rfl, k2⟩
          have K2 := Lib.hid (Below.trans KW.out (k2.mono KW.out.size))
          clear k2 g0
          go_wp2_with fail
          go_ret
          exact ⟨by rw [HF.out]; rfl, K2.out⟩
    · have HF := Lib.hid (findM_none (p := p) (xs := xs) (fun i x hi => KP.out i x (by have := (List.getElem?_eq_some_iff.1 hi).1; omega) hi))
      go_wp2_with fail
      go_ret
      exact ⟨by rw [HF.out]; rfl, KW.out⟩
set_option maxHeartbeats 1000000 in
theorem containsFunc_ints {α : Type} (R : List Value → α → Prop) (p : α → Bool) (A : Option Addr) (cap : Nat) (xs : List α) (fid : FuncId) (hen : ∀ args W, (callFunc fid args).run Tryd.prog W = .ok (.enter fid args) W) (caps : Array Value) (w : World) (hs : SliceR w w.heap.size 1 R (.slice A xs.length cap) xs)
    (hp : ∀ (w1 : World), Below w.heap.size w w1 → ∀ (x : α) (cs : List Value), x ∈ xs → R cs x → Calls Tryd.prog fid (cs.toArray ++ caps) w1 (Gives (.bool (p x)) w1)) :
    Calls Tryd.prog 49 #[.slice A xs.length cap, .func (.func fid) #[] caps] w (Gives (.bool (xs.any p)) w) := by
  have HC := Lib.hid (indexFunc_ints R p A cap xs fid hen caps w hs hp)
  have HB := Lib.hid (findM_any p xs)
  clear hs hp hen
  go_enter Tryd.func49, Tryd.ntmps49
  go_wp2_with fail
  refine HC.out.mono ?_
  rintro e w1 ⟨rfl, k1⟩
  have K1 := Lib.hid k1
  clear k1
  go_wp2_with fail
  go_ret
  exact ⟨by rw [HB.out]; rfl, K1.out⟩

end Go.Proofs.YtmccomeihnaanaaDoor
