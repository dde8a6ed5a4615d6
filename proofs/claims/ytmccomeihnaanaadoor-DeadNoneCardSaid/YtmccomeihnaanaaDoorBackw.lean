/- slices.Backward over instructions: the iterator's contract. -/
import Derived.RangeFuncBox
import Derived.RangeFuncLeaves
import Derived.Shelf.Abstract
import Derived.WalkKit
import Derived.OwnWalkIn
import Derived.TacticsInMore
import Derived.LoopNIn
import Derived.LoopIn
import Derived.RangeFuncMany
import Derived.RangeFuncKeeps
import Derived.Test.YtmccomeihnaanaaDoorIrT
namespace Go.Proofs.YtmccomeihnaanaaDoor
open Go.RowKit Go.Shelf
attribute [local go_sem] Oper.semAt_some

/-- what has come when k rounds are over, from the back -/
def backTo (zs : List TIns) (k : Nat) : List (Nat × TIns) := (List.range k).map (fun j => (zs.length - 1 - j, zs.getD (zs.length - 1 - j) ⟨0, 0, 0, 0, 0, 0, ⟨0, 0⟩⟩))
theorem backTo_succ (zs : List TIns) (k : Nat) : backTo zs (k + 1) = backTo zs k ++ [(zs.length - 1 - k, zs.getD (zs.length - 1 - k) ⟨0, 0, 0, 0, 0, 0, ⟨0, 0⟩⟩)] := by simp [backTo, List.range_succ]
theorem backTo_len (zs : List TIns) (k : Nat) : (backTo zs k).length = k := by simp [backTo]
/-- a place with the instruction that stands there -/
abbrev AtI (zs : List TIns) := { p : Nat × TIns // zs[p.1]? = some p.2 }
/-- what a round keeps: all that lies below B, and block Bs -/
def KpB (B Bs : Nat) (W W' : World) : Prop := Below B W W' ∧ W'.heap[Bs]? = W.heap[Bs]?
theorem KpB.refl (B Bs : Nat) (W : World) : KpB B Bs W W := ⟨Below.refl _ _, rfl⟩
theorem KpB.trans {B Bs : Nat} {W W1 W2 : World} (h : KpB B Bs W W1) (k : KpB B Bs W1 W2) : KpB B Bs W W2 := ⟨h.1.trans k.1, k.2.trans h.2⟩
theorem KpB.box {B Bs : Nat} {W W1 : World} (h : KpB B Bs W W1) {i : Nat} {v : Value} (hv : W.cell? ⟨Bs, i, none⟩ = some v) : W1.cell? ⟨Bs, i, none⟩ = some v := by
  unfold World.cell? at hv ⊢
  rw [h.2]; exact hv
theorem kpB_b {B Bs : Nat} {w : World} (hB : B ≤ w.heap.size) (hs : Bs < w.heap.size) (W : World) (l : Nat) (o o' : Obj) (hl : w.heap.size ≤ l) (h : W.heap[l]? = some o) (_ : o.isCells = false) (_ : o.isWalk = false) : KpB B Bs W (W.putObj l o') :=
  ⟨(Below.refl B W).grown (grownBy_putObj' W l o') (by have := (Array.getElem?_eq_some_iff.1 h).1; omega) (fun k e => by cases e; omega), (grownBy_putObj' W l o').block Bs (by have := (Array.getElem?_eq_some_iff.1 h).1; omega) (by simp; omega)⟩
set_option maxRecDepth 100000 in
set_option maxHeartbeats 2000000 in
theorem backward1_in (F : Fence) (n : Nat) (h8 : F.fn 80) (hro : F.round = none) (hn : 1 ≤ n) (l Bs B : Nat) (A : Option Addr) (cap : Nat) (zs : List TIns) (hsm : zs.length ≤ 300) (J Jx : List (AtI zs) → World → Prop)
    (hY : ∀ pre x W, J pre W → pre.length < zs.length → YieldAt F (n - 1) Tryd.prog l #[.int .i64 (x.1.1 : Int), insV x.1.2] W fun e W' =>
      (e = .returned (.bool true) ∧ J (pre ++ [x]) W' ∧ KpB B Bs W W') ∨ (e = .returned (.bool false) ∧ Jx (pre ++ [x]) W'))
    (W : World) (hBs : W.cell? ⟨Bs, 0, none⟩ = some (.slice A zs.length cap)) (hc : SliceR W B 8 InsR (.slice A zs.length cap) zs) (h0 : J [] W) :
    CallsIn F n Tryd.prog 80 #[.func (.yield l) #[] #[], .pointer (some ⟨Bs, 0, none⟩)] W fun e W' => (∃ v, e = .returned v) ∧
      ((∃ ys : List (AtI zs), ys.map (·.1) = backTo zs zs.length ∧ J ys W') ∨ (∃ pre : List (AtI zs), (∃ k, k ≤ zs.length ∧ pre.map (·.1) = backTo zs k) ∧ Jx pre W')) := by
  refine callsIn_of_wp Tryd.func80 rfl h8 ?_ hro
  simp only [Tryd.ntmps80, List.size_toArray, List.length_cons, List.length_nil, Nat.reduceAdd, Nat.reduceSub, Array.replicate_succ, Array.replicate_zero, List.push_toArray, List.append_toArray, List.nil_append, List.cons_append]
  have hl1 : IntKind.i64.wrap ((zs.length : Int) - 1) = (zs.length : Int) - 1 := IntWalk.i64_in _ (by omega)
  gi_wp2
  gi_loopw [3] (fun i wr => ∃ k : Nat, k ≤ zs.length ∧ i = .int .i64 ((zs.length : Int) - 1 - (k : Int)) ∧ (∃ pre : List (AtI zs), pre.map (·.1) = backTo zs k ∧ J pre wr) ∧ KpB B Bs W wr) (fun i _ => (intOf i + 1).toNat)
  case atStart => exact ⟨0, Nat.zero_le _, by simp, ⟨[], rfl, h0⟩, KpB.refl _ _ _⟩
  case round =>
    obtain ⟨k, hk, rfl, ⟨pre, hpre, hJs⟩, hnx⟩ := hrel
    have hpl : pre.length = k := by rw [← backTo_len zs k, ← hpre, List.length_map]
    have HPRE := Lib.hid hpre
    clear hpre
    have hB := hnx.box hBs
    by_cases hlt : k < zs.length
    · obtain ⟨m, hm⟩ : ∃ m : Nat, m = zs.length - 1 - k := ⟨_, rfl⟩
      have hmi : (zs.length : Int) - 1 - (k : Int) = (m : Int) := by omega
      have hmz : m < zs.length := by omega
      have hmz1 : (m : Int) < zs.length := by omega
      rw [hmi]
      have HM := Lib.hid hm
      obtain ⟨b, off, x, rfl, hb, hx, wx, hat⟩ := ins_op hc hmz
      have hg : zs.getD m ⟨0, 0, 0, 0, 0, 0, ⟨0, 0⟩⟩ = x := by rw [List.getD_eq_getElem?_getD, hx]; rfl
      have g0 : wr.cell? ⟨b, off + m * 8, none⟩ = some (.int .i64 x.op) := (hnx.1.cell hb).trans (hat 0 _ rfl)
      have g1 : wr.cell? ⟨b, off + m * 8 + 1, none⟩ = some (.int .i64 x.a) := (hnx.1.cell hb).trans (hat 1 _ rfl)
      have g2 : wr.cell? ⟨b, off + m * 8 + 2, none⟩ = some (.int .i64 x.b) := (hnx.1.cell hb).trans (hat 2 _ rfl)
      have g3 : wr.cell? ⟨b, off + m * 8 + 3, none⟩ = some (.int .i64 x.c) := (hnx.1.cell hb).trans (hat 3 _ rfl)
      have g4 : wr.cell? ⟨b, off + m * 8 + 4, none⟩ = some (.int .i64 x.n) := (hnx.1.cell hb).trans (hat 4 _ rfl)
      have g5 : wr.cell? ⟨b, off + m * 8 + 5, none⟩ = some (.int .i64 x.exit) := (hnx.1.cell hb).trans (hat 5 _ rfl)
      have g6 : wr.cell? ⟨b, off + m * 8 + 6, none⟩ = some (.int .i64 x.k.kind) := (hnx.1.cell hb).trans (hat 6 _ rfl)
      have g7 : wr.cell? ⟨b, off + m * 8 + 7, none⟩ = some (.int .i64 x.k.n) := (hnx.1.cell hb).trans (hat 7 _ rfl)
      obtain ⟨fn, tmps, assign, body, hy, hR⟩ := hY pre ⟨(m, x), hx⟩ wr hJs (by rw [hpl]; exact hlt)
      have hnext : Hid ((pre ++ [(⟨(m, x), hx⟩ : AtI zs)]).map (·.1) = backTo zs (k + 1)) := by
        rw [show Hid _ = _ from rfl, List.map_append, HPRE.out, backTo_succ, ← HM.out, hg]; rfl
      dsimp only [insV] at hy
      have hw1 : IntKind.i64.wrap ((m : Int) - 1) = (m : Int) - 1 := IntWalk.i64_in _ (by omega)
      clear hat hm hmi
      gi_wp2
      refine hR.mono ?_
      rintro e W3 (⟨rfl, hJ3, hk3⟩ | ⟨rfl, hJx3⟩)
      · gi_wp2
        go_roundw
        case rel => exact ⟨k + 1, by omega, by (have := HM.out; first | (congr 1; omega) | (simp; omega)), ⟨_, hnext.out, hJ3⟩, hnx.trans hk3⟩
        case measure => have := HM.out; (simp [intOf] <;> omega)
      · gi_wp2
        refine bodyPost_ret (results_none rfl _ _ _) rfl ?_
        exact ⟨⟨_, rfl⟩, .inr ⟨_, ⟨k + 1, by omega, hnext.out⟩, hJx3⟩⟩
    · obtain rfl : k = zs.length := by omega
      have hge : ¬ (0 : Int) ≤ (zs.length : Int) - 1 - (zs.length : Int) := by omega
      gi_wp2
      go_end0
      exact ⟨⟨_, rfl⟩, .inl ⟨_, HPRE.out, hJs⟩⟩
/-- slices.Backward(s): the slice is boxed; the function value captures the box. -/
theorem backward_c (A : Option Addr) (m c : Nat) (w : World) : Calls Tryd.prog 47 #[.slice A m c] w fun e w' => e = .returned (.func (.func 80) #[] #[.pointer (some ⟨w.heap.size, 0, none⟩)]) ∧ w' = w.alloc (.cells #[.slice A m c] 27) := by
  go_enter Tryd.func47, Tryd.ntmps47
  go_wp2_with fail
  go_ret
  exact ⟨rfl, rfl⟩
theorem backward_stops (F : Fence) (n : Nat) (h8 : F.fn 80) (hro : F.round = none) (hn : 1 ≤ n) (Bs B : Nat) (A : Option Addr) (cap : Nat) (zs : List TIns) (hsm : zs.length ≤ 300) (w : World) (hB : B ≤ w.heap.size) (hBs : Bs < w.heap.size)
    (hc : w.cell? ⟨Bs, 0, none⟩ = some (.slice A zs.length cap)) (hs : SliceR w B 8 InsR (.slice A zs.length cap) zs) :
    SeqStopsK F n Tryd.prog 80 #[.pointer (some ⟨Bs, 0, none⟩)] (fun x : AtI zs => #[Value.int .i64 (x.1.1 : Int), insV x.1.2]) (KpB B Bs) (fun ys => ys.map (·.1) = backTo zs zs.length) (fun pre => ∃ k, k ≤ zs.length ∧ pre.map (·.1) = backTo zs k) zs.length w := fun l J Jx W hW _ _ hY h0 =>
  backward1_in F n h8 hro hn l Bs B A cap zs hsm J Jx hY W ((hW.cell (p := ⟨Bs, 0, none⟩) hBs).trans hc) (hs.keep (Nat.le_refl _) (fun p hp => hW.cell (Nat.lt_of_lt_of_le hp hB)) (fun _ _ h => h)) h0
end Go.Proofs.YtmccomeihnaanaaDoor
