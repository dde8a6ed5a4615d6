/- ir.cutter in memory; its method one. ir.cutter's method ins. ir.cutter's method exit: the sets. -/
import Derived.Test.YtlnkjmgfkpeicaaGreatDoorCutM
import Derived.Test.YtlnkjmgfkpeicaaGreatDoorChkN
import Derived.Test.YtlnkjmgfkpeicaaGreatDoorKindP
import Derived.Test.YtlnkjmgfkpeicaaGreatDoorComm
import Derived.Test.YtlnkjmgfkpeicaaGreatDoorMem
set_option linter.all false
namespace Go.Proofs.YtlnkjmgfkpeicaaGreatDoor
open Go.RowKit

/-- all that was there is as it was, but for block bc -/
structure Fined (bc : Nat) (w w' : World) : Prop where
  os : w'.os = w.os
  tape : w'.tape = w.tape
  output : w'.output = w.output
  size : w.heap.size ≤ w'.heap.size
  block : ∀ k, k < w.heap.size → k ≠ bc → w'.heap[k]? = w.heap[k]?
section
variable {bc : Nat} {w w1 w2 : World}
theorem Fined.refl (bc : Nat) (w : World) : Fined bc w w := ⟨rfl, rfl, rfl, Nat.le_refl _, fun _ _ _ => rfl⟩
theorem Fined.trans (h : Fined bc w w1) (k : Fined bc w1 w2) : Fined bc w w2 :=
  ⟨k.os.trans h.os, k.tape.trans h.tape, k.output.trans h.output, Nat.le_trans h.size k.size, fun i hi hc => (k.block i (Nat.lt_of_lt_of_le hi h.size) hc).trans (h.block i hi hc)⟩
theorem Fined.of_below (k : Below w.heap.size w w1) : Fined bc w w1 := ⟨k.os, k.tape, k.output, k.size, fun i hi _ => k.block i hi⟩
theorem Fined.below_ (h : Fined bc w w1) (k : Below w1.heap.size w1 w2) : Fined bc w w2 := h.trans (.of_below k)
theorem Fined.alloc (h : Fined bc w w1) (o : Obj) : Fined bc w (w1.alloc o) := h.below_ (below_one w1 o)
theorem Fined.drew (h : Fined bc w w1) : Fined bc w w1.drew := ⟨h.os, h.tape, h.output, h.size, h.block⟩
theorem Fined.set_ (h : Fined bc w w1) (i : Nat) (u : Value) : Fined bc w (w1.setCell ⟨bc, i, none⟩ u) :=
  h.trans ⟨rfl, rfl, rfl, by simp [World.setCell], fun k hk hc => Below.heap_setCell _ _ _ _ (by show k ≠ bc; exact hc)⟩
theorem Fined.under (h : Fined bc w w1) {B : Nat} (hB : B ≤ bc) (hw : B ≤ w.heap.size) : Below B w w1 := ⟨h.os, h.tape, h.output, h.size, fun k hk => h.block k (by omega) (by omega)⟩
theorem Fined.row (h : Fined bc w w1) {k : Nat} {o : Obj} (hk : w.heap[k]? = some o) (hc : k ≠ bc) : w1.heap[k]? = some o := (h.block k (Array.getElem?_eq_some_iff.1 hk).1 hc).trans hk
theorem Fined.ty {α : Type} (h : Fined bc w w1) {B size : Nat} {ty : TypeId} {R : List Value → α → Prop} {v : Value} {xs : List α} (hs : SliceTy w B ty size R v xs) (hB : bc < B) : SliceTy w1 B ty size R v xs :=
  hs.keep (fun k cs fr hk hr => h.block k (Array.getElem?_eq_some_iff.1 hr).1 (by omega)) (fun _ _ h => h)
theorem Fined.own (h : Fined bc w w1) {B : Nat} {e : TypeId} {size n : Nat} {v : Value} {xs : List Value} (hown : w.ownsRow B e size v n xs) (hB : bc < B) : w1.ownsRow B e size v n xs := by
  refine hown.kept (row := some bc) ⟨h.os, h.tape, h.output, h.size, fun k hk hc => h.block k hk (fun e => hc (by rw [e]))⟩ (.inr (fun hv => ?_))
  have := (own_row hown _ hv).1
  omega
theorem Fined.then (h : Fined bc w w1) (k : Below w.heap.size w1 w2) : Fined bc w w2 :=
  ⟨k.os.trans h.os, k.tape.trans h.tape, k.output.trans h.output, Nat.le_trans h.size k.size, fun i hi hc => (k.block i hi).trans (h.block i hi hc)⟩
/-- a cell of another block -/
theorem Fined.cell (h : Fined bc w w1) {a : Addr} {v : Value} (ha : w.cell? a = some v) (hc : a.block ≠ bc) : w1.cell? a = some v := by
  have hb := h.block a.block (cell_lt ha) hc
  unfold World.cell? at ha ⊢
  rw [hb]; exact ha
end

/-- THE CUTTER IN BLOCK bc -/
structure CutAt (w : World) (bc : Nat) (tv : Value) (at_ : List Int) (fine : Bool) : Prop where
  here : w.heap[bc]? = some (.cells #[tv, .bool fine] 69 (0, 0))
  own : w.ownsRow (bc + 1) 3 1 tv at_.length (at_.map (.int .i64))
  bd : ∀ a ∈ at_, -1 ≤ a ∧ a ≤ 300
  few : at_.length ≤ 300
theorem CutAt.fined {w w' : World} {bc : Nat} {tv : Value} {at_ : List Int} {fine : Bool} (h : CutAt w bc tv at_ fine) (k : Fined bc w w') (hh : w'.heap[bc]? = w.heap[bc]?) : CutAt w' bc tv at_ fine :=
  ⟨hh.trans h.here, k.own h.own (by omega), h.bd, h.few⟩
/-- the cutter at a later world, its row known -/
theorem CutAt.at_end {w w' : World} {bc : Nat} {tv : Value} {at_ : List Int} {fine f : Bool} (h : CutAt w bc tv at_ fine) (k : Fined bc w w') (hh : w'.heap[bc]? = some (.cells #[tv, .bool f] 69 (0, 0))) : CutAt w' bc tv at_ f :=
  ⟨hh, k.own h.own (by omega), h.bd, h.few⟩
theorem CutAt.below {w w' : World} {bc : Nat} {tv : Value} {at_ : List Int} {fine : Bool} (h : CutAt w bc tv at_ fine) (k : Below w.heap.size w w') : CutAt w' bc tv at_ fine :=
  h.fined (.of_below k) (k.block bc (Array.getElem?_eq_some_iff.1 h.here).1)
theorem CutAt.bad {w : World} {bc : Nat} {tv : Value} {at_ : List Int} {fine : Bool} (h : CutAt w bc tv at_ fine) : CutAt (w.setCell ⟨bc, 1, none⟩ (.bool false)) bc tv at_ false := by
  refine ⟨?_, ((Fined.refl bc w).set_ 1 _).own h.own (by omega), h.bd, h.few⟩
  rw [heap_setCell_same w bc 1 _ _ _ h.here]; rfl
theorem CutAt.slice {w : World} {bc : Nat} {tv : Value} {at_ : List Int} {fine : Bool} (h : CutAt w bc tv at_ fine) : SliceR w w.heap.size 1 IntR tv at_ :=
  sliceR_of_own h.own (fun x hx => by have := h.bd x hx; unfold wfi; omega)

def OnePost (bc : Nat) (tv : Value) (at_ : List Int) (fine : Bool) (v : Int) (w : World) (e : Ending) (w' : World) : Prop :=
  e = .returned (.int .i64 (oneM at_ v)) ∧ CutAt w' bc tv at_ (fine && fineM at_ v) ∧ Fined bc w w'
theorem one_bad {at_ : List Int} {v : Int} (h : v < 0 ∨ (at_.length : Int) ≤ v ∨ ∃ a, at_[v.toNat]? = some a ∧ a < 0) : oneM at_ v = -1 ∧ fineM at_ v = false := by
  have e : oneM at_ v = -1 := by
    unfold oneM
    rcases h with h | h | ⟨a, h1, h2⟩
    · rw [if_pos h]
    · split
      · rfl
      · rw [List.getElem?_eq_none (by omega)]
    · split
      · rfl
      · rw [h1]; dsimp only; rw [if_pos h2]
  exact ⟨e, by unfold fineM; rw [e]; rfl⟩
theorem one_good {at_ : List Int} {v : Int} {a : Int} (h0 : 0 ≤ v) (h1 : at_[v.toNat]? = some a) (h2 : 0 ≤ a) : oneM at_ v = a ∧ fineM at_ v = true := by
  have e : oneM at_ v = a := by
    unfold oneM
    rw [if_neg (by omega), h1]; dsimp only; rw [if_neg (by omega)]
  exact ⟨e, by unfold fineM; rw [e]; simpa using h2⟩

set_option maxHeartbeats 1000000 in
set_option maxRecDepth 100000 in
theorem one_c (bc : Nat) (tv : Value) (at_ : List Int) (fine : Bool) (v : Int) (w : World) (h : CutAt w bc tv at_ fine) :
    Calls Tryz.prog 31 #[.pointer (some ⟨bc, 0, none⟩), .int .i64 v] w (OnePost bc tv at_ fine v w) := by
  have HH := Lib.hid h
  have hs := h.slice
  obtain ⟨A, cap, rfl, l1, l2, -⟩ := id hs
  unfold maxLen at l2
  have c0 : w.cell? ⟨bc, 0, none⟩ = some (.slice A at_.length cap) := cell_of_row w bc 0 _ _ _ h.here
  have c1 : w.cell? ⟨bc, 1, none⟩ = some (.bool fine) := cell_of_row w bc 1 _ _ _ h.here
  have f1 : w.frozen? ⟨bc, 1, none⟩ = false := frozen_of_row w bc 1 _ _ h.here
  have KB : Hid (CutAt (w.setCell ⟨bc, 1, none⟩ (.bool false)) bc (.slice A at_.length cap) at_ (fine && false)) := by rw [Bool.and_false]; exact h.bad
  clear h
  by_cases b1 : v < 0
  · have HR := Lib.hid (one_bad (at_ := at_) (.inl b1))
    clear hs
    go_enter Tryz.func31, Tryz.ntmps31
    go_wp2_with fail
    go_ret
    unfold OnePost
    rw [HR.out.1, HR.out.2]
    exact ⟨rfl, KB.out, (Fined.refl _ _).set_ 1 _⟩
  by_cases b2 : (at_.length : Int) ≤ v
  · have HR := Lib.hid (one_bad (at_ := at_) (.inr (.inl b2)))
    clear hs
    go_enter Tryz.func31, Tryz.ntmps31
    go_wp2_with fail
    go_ret
    unfold OnePost
    rw [HR.out.1, HR.out.2]
    exact ⟨rfl, KB.out, (Fined.refl _ _).set_ 1 _⟩
  obtain ⟨k, rfl⟩ := Int.eq_ofNat_of_zero_le (Int.not_lt.1 b1)
  obtain ⟨b, off, a, cs, rfl, hb, ha, -, ⟨rfl, wa⟩, hat⟩ := hs.at_ (i := k) (by omega)
  have g0 : w.cell? ⟨b, off + k, none⟩ = some (.int .i64 a) := by simpa using hat 0 _ rfl
  have hk : (k : Int) < at_.length := by omega
  by_cases b3 : a < 0
  · have HR := Lib.hid (one_bad (at_ := at_) (v := (k : Int)) (.inr (.inr ⟨a, by simpa using ha, b3⟩)))
    clear hs hat ha
    go_enter Tryz.func31, Tryz.ntmps31
    go_wp2_with fail
    go_ret
    unfold OnePost
    rw [HR.out.1, HR.out.2]
    exact ⟨rfl, KB.out, (Fined.refl _ _).set_ 1 _⟩
  · have HR := Lib.hid (one_good (at_ := at_) (v := (k : Int)) (by omega) (by simpa using ha) (by omega : 0 ≤ a))
    clear hs hat ha
    go_enter Tryz.func31, Tryz.ntmps31
    go_wp2_with fail
    go_ret
    unfold OnePost
    rw [HR.out.1, HR.out.2, Bool.and_true]
    exact ⟨rfl, HH.out, Fined.refl _ _⟩
end Go.Proofs.YtlnkjmgfkpeicaaGreatDoor
namespace Go.Proofs.YtlnkjmgfkpeicaaGreatDoor
open Go.RowKit

def InsPost (bc : Nat) (tv : Value) (at_ : List Int) (fine : Bool) (x : TIns) (w : World) (e : Ending) (w' : World) : Prop :=
  e = .returned (insV (insC at_ x)) ∧ CutAt w' bc tv at_ (fine && fineI at_ x) ∧ Fined bc w w'
def putF (at_ : List Int) (j i : Nat) (v : Int) : Int := if i < j then oneM at_ v else v
theorem putF_all (at_ : List Int) (op xa xb xc xn xe : Int) (k : Val) (n : Nat) (hn : (formM op).asks = n) :
    insC at_ ⟨op, xa, xb, xc, xn, xe, k⟩ = ⟨op, putF at_ n 0 xa, putF at_ n 1 xb, putF at_ n 2 xc, xn, xe, k⟩ := by
  unfold insC putM putF
  dsimp only
  rw [hn]
  simp only [TIns.mk.injEq, true_and, and_true]
  refine ⟨?_, ?_, ?_⟩
  · split <;> split <;> first | rfl | omega
  · split <;> split <;> first | rfl | omega
  · split <;> split <;> first | rfl | omega
theorem ins_row {W : World} {g : Nat} {op a b c n e k m : Int} {t : TypeId} (h : W.heap[g]? = some (.cells #[.int .i64 op, .int .i64 a, .int .i64 b, .int .i64 c, .int .i64 n, .int .i64 e, .int .i64 k, .int .i64 m] t (0, 0))) :
    W.cell? ⟨g, 0, none⟩ = some (.int .i64 op) ∧ W.cell? ⟨g, 1, none⟩ = some (.int .i64 a) ∧ W.cell? ⟨g, 2, none⟩ = some (.int .i64 b) ∧ W.cell? ⟨g, 3, none⟩ = some (.int .i64 c) ∧ W.cell? ⟨g, 4, none⟩ = some (.int .i64 n) ∧
      W.cell? ⟨g, 5, none⟩ = some (.int .i64 e) ∧ W.cell? ⟨g, 6, none⟩ = some (.int .i64 k) ∧ W.cell? ⟨g, 7, none⟩ = some (.int .i64 m) :=
  ⟨cell_of_row W g 0 _ _ _ h, cell_of_row W g 1 _ _ _ h, cell_of_row W g 2 _ _ _ h, cell_of_row W g 3 _ _ _ h, cell_of_row W g 4 _ _ _ h, cell_of_row W g 5 _ _ _ h, cell_of_row W g 6 _ _ _ h, cell_of_row W g 7 _ _ _ h⟩

theorem infoIns8 : (Tryz.prog.info? 42).map (·.size) = some 8 := by kernel_rfl
set_option maxHeartbeats 4000000 in
set_option maxRecDepth 100000 in
theorem ins_c (bc : Nat) (tv : Value) (at_ : List Int) (fine : Bool) (x : TIns) (w : World) (h : CutAt w bc tv at_ fine) (hx : WfIns x) :
    Calls Tryz.prog 17 #[.pointer (some ⟨bc, 0, none⟩), insV x] w (InsPost bc tv at_ fine x w) := by
  have HH := Lib.hid h
  have hbc : bc < w.heap.size := (Array.getElem?_eq_some_iff.1 h.here).1
  obtain ⟨a0, a3, aN⟩ := asks_bd x.op
  obtain ⟨n, hn⟩ := Int.eq_ofNat_of_zero_le a0
  have hn3 : n ≤ 3 := by omega
  obtain ⟨op, xa, xb, xc, xn, xe, ⟨kk, kn⟩⟩ := x
  dsimp only at hn a0 a3 aN
  have HP := Lib.hid (putF_all at_ op xa xb xc xn xe ⟨kk, kn⟩ n hn)
  have HF : Hid (fineI at_ ⟨op, xa, xb, xc, xn, xe, ⟨kk, kn⟩⟩ = ([xa, xb, xc].take n).all (fineM at_)) := by
    unfold fineI asksM Hid; dsimp only; rw [hn, Int.toNat_natCast]
  obtain ⟨w0, hw0⟩ : ∃ w0, w0 = (w.alloc (.cells #[.int .i64 op, .int .i64 xa, .int .i64 xb, .int .i64 xc, .int .i64 xn, .int .i64 xe, .int .i64 kk, .int .i64 kn] 42)).alloc (.cells #[.int .i64 0, .int .i64 0, .int .i64 0, .int .i64 0, .int .i64 0, .int .i64 0, .int .i64 0, .int .i64 0] 42) := ⟨_, rfl⟩
  have K0 : Hid (Below w.heap.size w w0) := by rw [hw0]; exact below_two' _ _ _
  have B0 : Hid (w0.heap[w.heap.size]? = some (.cells #[.int .i64 op, .int .i64 xa, .int .i64 xb, .int .i64 xc, .int .i64 xn, .int .i64 xe, .int .i64 kk, .int .i64 kn] 42 (0, 0))) := by rw [hw0]; exact heap_old (heap_last w _) _
  have B1 : Hid (w0.heap[w.heap.size + 1]? = some (.cells #[.int .i64 0, .int .i64 0, .int .i64 0, .int .i64 0, .int .i64 0, .int .i64 0, .int .i64 0, .int .i64 0] 42 (0, 0))) := by rw [hw0]; exact heap_two _ _ _
  have hz0 : w.heap.size + 1 < w0.heap.size := (Array.getElem?_eq_some_iff.1 B1.out).1
  have HW := Lib.hid hw0
  have OC := Lib.hid (of_c op w0)
  obtain ⟨is, his⟩ : ∃ is, isOp op = is := ⟨_, rfl⟩
  obtain ⟨F, hF⟩ : ∃ F, formM op = F := ⟨_, rfl⟩
  unfold OfPost at OC
  rw [his, hF] at OC
  have HN : Hid (F.asks = n) := by rw [← hF]; exact hn
  have HIS : Hid (is = false → n = 0) := fun e => by have := aN (his.trans e); omega
  obtain ⟨asks, low, high, kf, tells, ex⟩ := F
  obtain rfl : asks = (n : Int) := HN.out
  clear h hw0 hn a0 a3 aN his hF hx
  unfold insV
  dsimp only
  go_enter Tryz.func17, Tryz.ntmps17
  go_wp2_with fail
  rw [← HW.out]
  refine OC.out.mono ?_
  unfold formV
  rintro e w1 ⟨rfl, k1⟩
  have K1 := Lib.hid (K0.out.trans (k1.mono K0.out.size))
  have C0 : Hid (w1.heap[w.heap.size]? = _) := (k1.block _ (Array.getElem?_eq_some_iff.1 B0.out).1).trans B0.out
  have C1 : Hid (w1.heap[w.heap.size + 1]? = _) := (k1.block _ (Array.getElem?_eq_some_iff.1 B1.out).1).trans B1.out
  have hz1 : w.heap.size + 1 < w1.heap.size := Nat.lt_of_lt_of_le hz0 k1.size
  clear k1
  obtain ⟨w2, hw2⟩ : ∃ w2, w2 = (w1.alloc (.cells #[.int .i64 n, .int .i64 low, .int .i64 high, .bool kf, .bool tells, .int .i64 ex] 61)).alloc (.cells #[.pointer (some ⟨w.heap.size, 1, none⟩), .pointer (some ⟨w.heap.size, 2, none⟩), .pointer (some ⟨w.heap.size, 3, none⟩)] 92) := ⟨_, rfl⟩
  have K2 : Hid (Below w1.heap.size w1 w2) := by rw [hw2]; exact below_two' _ _ _
  have D0 : Hid (w2.heap[w.heap.size]? = _) := (K2.out.block _ (Array.getElem?_eq_some_iff.1 C0.out).1).trans C0.out
  have D1 : Hid (w2.heap[w.heap.size + 1]? = _) := (K2.out.block _ (Array.getElem?_eq_some_iff.1 C1.out).1).trans C1.out
  have D2 : Hid (w2.heap[w1.heap.size + 1]? = some (.cells #[.pointer (some ⟨w.heap.size, 1, none⟩), .pointer (some ⟨w.heap.size, 2, none⟩), .pointer (some ⟨w.heap.size, 3, none⟩)] 92 (0, 0))) := by rw [hw2]; exact heap_two _ _ _
  have KK : Hid (Fined bc w w2) := Fined.of_below (K1.out.trans (K2.out.mono K1.out.size))
  have HC2 := Lib.hid (HH.out.below (K1.out.trans (K2.out.mono K1.out.size)))
  have hz2 : w1.heap.size + 1 < w2.heap.size := (Array.getElem?_eq_some_iff.1 D2.out).1
  have F0 : Hid (w2.cell? ⟨w1.heap.size, 0, none⟩ = some (.int .i64 n)) := by rw [hw2]; exact two_cell0 _ _ _ _ _
  have HW2 := Lib.hid hw2
  clear hw2
  have hn3' : (n : Int) ≤ 3 := by omega
  go_upto_region 3 with fail
  rw [← HW2.out]
  cases is
  case false =>
    obtain rfl := HIS.out rfl
    obtain ⟨x0, x1, x2, x3, x4, x5, x6, x7⟩ := ins_row D0.out
    have TH := there_of_row (n := 8) D1.out (by decide)
    have RW := World.rangeAt_setCells_same w2 (w.heap.size + 1) 0 ([.int .i64 op, .int .i64 xa, .int .i64 xb, .int .i64 xc, .int .i64 xn, .int .i64 xe, .int .i64 kk, .int .i64 kn] : List Value) TH
    have KW := Below.setCells_ (B := w.heap.size) (b := w.heap.size + 1) (by omega) ([.int .i64 op, .int .i64 xa, .int .i64 xb, .int .i64 xc, .int .i64 xn, .int .i64 xe, .int .i64 kk, .int .i64 kn] : List Value) 0 w2 (Below.refl _ _)
    have KW := Lib.hid KW
    have RW := Lib.hid RW
    have TH := Lib.hid TH
    go_wp2_with (refine wpList_store_mid rfl 42 _ _ rfl (w.heap.size + 1) 0 _ rfl rfl TH.out infoIns8 (all_oneCell_toArray (by simp [Value.oneCell'])) ?_)
    generalize hw9 : World.setCells _ _ _ _ = w9
    have RW := Lib.hid (show w9.rangeAt (w.heap.size + 1) 0 _ by rw [← hw9]; exact RW.out)
    have KW := Lib.hid (show Below w.heap.size w2 w9 by rw [← hw9]; exact KW.out)
    clear hw9 x0 x1 x2 x3 x4 x5 x6 x7
    go_wp2_with fail
    have q0 := RW.out 0 _ rfl
    have q1 := RW.out 1 _ rfl
    have q2 := RW.out 2 _ rfl
    have q3 := RW.out 3 _ rfl
    have q4 := RW.out 4 _ rfl
    have q5 := RW.out 5 _ rfl
    have q6 := RW.out 6 _ rfl
    have q7 := RW.out 7 _ rfl
    have KE := Lib.hid ((KK.out).then KW.out)
    have CE := Lib.hid ((KW.out.block bc hbc).trans HC2.out.here)
    refine bodyPost_ret (v := .agg #[.int .i64 op, .int .i64 xa, .int .i64 xb, .int .i64 xc, .int .i64 xn, .int .i64 xe, .int .i64 kk, .int .i64 kn]) (by simp [results, Tryz.results17, go_sem, q0, q1, q2, q3, q4, q5, q6, q7]) rfl ⟨?_, ?_, KE.out⟩
    · rw [HP.out]; rfl
    · rw [HF.out, List.take_zero, List.all_nil, Bool.and_true]
      exact HH.out.at_end KE.out CE.out
  have f0 := F0.out
  go_wp2_with fail
  clear f0
  have hzb : bc ≠ w1.heap.size + 1 := by have := K1.out.size; omega
  go_loopw [25] (fun i wr => ∃ j : Nat, i = .int .i64 j ∧ j ≤ n ∧ Hid (wr.heap[w.heap.size]? = some (.cells #[.int .i64 op, .int .i64 (putF at_ j 0 xa), .int .i64 (putF at_ j 1 xb), .int .i64 (putF at_ j 2 xc), .int .i64 xn, .int .i64 xe, .int .i64 kk, .int .i64 kn] 42 (0, 0))) ∧ Hid (wr.heap[w.heap.size + 1]? = some (.cells #[.int .i64 0, .int .i64 0, .int .i64 0, .int .i64 0, .int .i64 0, .int .i64 0, .int .i64 0, .int .i64 0] 42 (0, 0))) ∧ Hid (wr.heap[w1.heap.size + 1]? = some (.cells #[.pointer (some ⟨w.heap.size, 1, none⟩), .pointer (some ⟨w.heap.size, 2, none⟩), .pointer (some ⟨w.heap.size, 3, none⟩)] 92 (0, 0))) ∧ Hid (wr.heap[bc]? = some (.cells #[tv, .bool (fine && ([xa, xb, xc].take j).all (fineM at_))] 69 (0, 0))) ∧ Hid (Fined bc w wr)) (fun i _ => n - (RowKit.intOf i).toNat)
  case atStart => exact ⟨0, rfl, by omega, D0.out, D1.out, D2.out, by rw [List.take_zero, List.all_nil, Bool.and_true]; exact HC2.out.here, KK.out⟩
  case round =>
    obtain ⟨j, rfl, hj, R1, R2, R3, R4, RF⟩ := hrel
    have hzr : w1.heap.size + 1 < wr.heap.size := (Array.getElem?_eq_some_iff.1 R3.out).1
    have hz1r : w.heap.size < w1.heap.size := by omega
    by_cases hlt : j < n
    · have hji : (j : Int) < n := by omega
      have h3 : j = 0 ∨ j = 1 ∨ j = 2 := by omega
      rcases h3 with rfl | rfl | rfl
      · have p0 := cell_of_row wr (w1.heap.size + 1) 0 _ _ _ R3.out
        obtain ⟨x0, x1, x2, x3, x4, x5, x6, x7⟩ := ins_row R1.out
        have p1 : wr.cell? ⟨w.heap.size, 1, none⟩ = some (.int .i64 xa) := x1
        have OC := Lib.hid (one_c bc tv at_ _ xa wr (HH.out.at_end RF.out R4.out))
        clear x0 x1 x2 x3 x4 x5 x6 x7
        go_wp2_with fail
        refine OC.out.mono ?_
        rintro e w5 ⟨rfl, c5, k5⟩
        have C5 := Lib.hid c5
        have K5 := Lib.hid k5
        have E1 := Lib.hid (k5.row R1.out (Nat.ne_of_gt hbc))
        have E2 := Lib.hid (k5.row R2.out (by omega))
        have E3 := Lib.hid (k5.row R3.out (by omega))
        have fz := frozen_of_row w5 w.heap.size 1 _ _ E1.out
        have cz := cell_of_row w5 w.heap.size 1 _ _ _ E1.out
        clear c5 k5 p0 p1
        go_wp2_with fail
        go_roundw
        case rel =>
          refine ⟨1, rfl, by omega, ?_, ?_, ?_, ?_, ?_⟩
          · show _ = _
            rw [heap_setCell_same w5 w.heap.size 1 _ _ _ E1.out]; rfl
          · show _ = _
            rw [heap_setCell_other w5 _ _ _ (by show _ ≠ w.heap.size; omega)]; exact E2.out
          · show _ = _
            rw [heap_setCell_other w5 _ _ _ (by show _ ≠ w.heap.size; omega)]; exact E3.out
          · show _ = _
            rw [heap_setCell_other w5 _ _ _ (by show _ ≠ w.heap.size; omega), C5.out.here]
            simp [Bool.and_assoc]
          · exact (RF.out.trans K5.out).then (by refine Below.setCell (Below.refl _ _) ?_ _; exact Nat.le_refl _)
        case measure => simp [RowKit.intOf]; omega
      · have p0 := cell_of_row wr (w1.heap.size + 1) 1 _ _ _ R3.out
        obtain ⟨x0, x1, x2, x3, x4, x5, x6, x7⟩ := ins_row R1.out
        have p1 : wr.cell? ⟨w.heap.size, 2, none⟩ = some (.int .i64 xb) := x2
        have OC := Lib.hid (one_c bc tv at_ _ xb wr (HH.out.at_end RF.out R4.out))
        clear x0 x1 x2 x3 x4 x5 x6 x7
        go_wp2_with fail
        refine OC.out.mono ?_
        rintro e w5 ⟨rfl, c5, k5⟩
        have C5 := Lib.hid c5
        have K5 := Lib.hid k5
        have E1 := Lib.hid (k5.row R1.out (Nat.ne_of_gt hbc))
        have E2 := Lib.hid (k5.row R2.out (by omega))
        have E3 := Lib.hid (k5.row R3.out (by omega))
        have fz := frozen_of_row w5 w.heap.size 2 _ _ E1.out
        have cz := cell_of_row w5 w.heap.size 2 _ _ _ E1.out
        clear c5 k5 p0 p1
        go_wp2_with fail
        go_roundw
        case rel =>
          refine ⟨2, rfl, by omega, ?_, ?_, ?_, ?_, ?_⟩
          · show _ = _
            rw [heap_setCell_same w5 w.heap.size 2 _ _ _ E1.out]; rfl
          · show _ = _
            rw [heap_setCell_other w5 _ _ _ (by show _ ≠ w.heap.size; omega)]; exact E2.out
          · show _ = _
            rw [heap_setCell_other w5 _ _ _ (by show _ ≠ w.heap.size; omega)]; exact E3.out
          · show _ = _
            rw [heap_setCell_other w5 _ _ _ (by show _ ≠ w.heap.size; omega), C5.out.here]
            simp [Bool.and_assoc]
          · exact (RF.out.trans K5.out).then (by refine Below.setCell (Below.refl _ _) ?_ _; exact Nat.le_refl _)
        case measure => simp [RowKit.intOf]; omega
      · have p0 := cell_of_row wr (w1.heap.size + 1) 2 _ _ _ R3.out
        obtain ⟨x0, x1, x2, x3, x4, x5, x6, x7⟩ := ins_row R1.out
        have p1 : wr.cell? ⟨w.heap.size, 3, none⟩ = some (.int .i64 xc) := x3
        have OC := Lib.hid (one_c bc tv at_ _ xc wr (HH.out.at_end RF.out R4.out))
        clear x0 x1 x2 x3 x4 x5 x6 x7
        go_wp2_with fail
        refine OC.out.mono ?_
        rintro e w5 ⟨rfl, c5, k5⟩
        have C5 := Lib.hid c5
        have K5 := Lib.hid k5
        have E1 := Lib.hid (k5.row R1.out (Nat.ne_of_gt hbc))
        have E2 := Lib.hid (k5.row R2.out (by omega))
        have E3 := Lib.hid (k5.row R3.out (by omega))
        have fz := frozen_of_row w5 w.heap.size 3 _ _ E1.out
        have cz := cell_of_row w5 w.heap.size 3 _ _ _ E1.out
        clear c5 k5 p0 p1
        go_wp2_with fail
        go_roundw
        case rel =>
          refine ⟨3, rfl, by omega, ?_, ?_, ?_, ?_, ?_⟩
          · show _ = _
            rw [heap_setCell_same w5 w.heap.size 3 _ _ _ E1.out]; rfl
          · show _ = _
            rw [heap_setCell_other w5 _ _ _ (by show _ ≠ w.heap.size; omega)]; exact E2.out
          · show _ = _
            rw [heap_setCell_other w5 _ _ _ (by show _ ≠ w.heap.size; omega)]; exact E3.out
          · show _ = _
            rw [heap_setCell_other w5 _ _ _ (by show _ ≠ w.heap.size; omega), C5.out.here]
            simp [Bool.and_assoc]
          · exact (RF.out.trans K5.out).then (by refine Below.setCell (Below.refl _ _) ?_ _; exact Nat.le_refl _)
        case measure => simp [RowKit.intOf]; omega
    · obtain rfl : j = n := by omega
      have hji : ¬ (j : Int) < j := by omega
      obtain ⟨x0, x1, x2, x3, x4, x5, x6, x7⟩ := ins_row R1.out
      have TH := there_of_row (n := 8) R2.out (by decide)
      have RW := World.rangeAt_setCells_same wr (w.heap.size + 1) 0 ([.int .i64 op, .int .i64 (putF at_ j 0 xa), .int .i64 (putF at_ j 1 xb), .int .i64 (putF at_ j 2 xc), .int .i64 xn, .int .i64 xe, .int .i64 kk, .int .i64 kn] : List Value) TH
      have KW := Below.setCells_ (B := w.heap.size) (b := w.heap.size + 1) (by omega) ([.int .i64 op, .int .i64 (putF at_ j 0 xa), .int .i64 (putF at_ j 1 xb), .int .i64 (putF at_ j 2 xc), .int .i64 xn, .int .i64 xe, .int .i64 kk, .int .i64 kn] : List Value) 0 wr (Below.refl _ _)
      have KW := Lib.hid KW
      have RW := Lib.hid RW
      have TH := Lib.hid TH
      go_wp2_with (refine wpList_store_mid rfl 42 _ _ rfl (w.heap.size + 1) 0 _ rfl rfl TH.out infoIns8 (all_oneCell_toArray (by simp [Value.oneCell'])) ?_)
      generalize hw9 : World.setCells _ _ _ _ = w9
      have RW := Lib.hid (show w9.rangeAt (w.heap.size + 1) 0 _ by rw [← hw9]; exact RW.out)
      have KW := Lib.hid (show Below w.heap.size wr w9 by rw [← hw9]; exact KW.out)
      clear hw9 x0 x1 x2 x3 x4 x5 x6 x7
      go_wp2_with fail
      have q0 := RW.out 0 _ rfl
      have q1 := RW.out 1 _ rfl
      have q2 := RW.out 2 _ rfl
      have q3 := RW.out 3 _ rfl
      have q4 := RW.out 4 _ rfl
      have q5 := RW.out 5 _ rfl
      have q6 := RW.out 6 _ rfl
      have q7 := RW.out 7 _ rfl
      have KE := Lib.hid ((RF.out).then KW.out)
      have CE := Lib.hid ((KW.out.block bc hbc).trans R4.out)
      refine bodyPost_ret (v := .agg #[.int .i64 op, .int .i64 (putF at_ j 0 xa), .int .i64 (putF at_ j 1 xb), .int .i64 (putF at_ j 2 xc), .int .i64 xn, .int .i64 xe, .int .i64 kk, .int .i64 kn]) (by simp [results, Tryz.results17, go_sem, q0, q1, q2, q3, q4, q5, q6, q7]) rfl ⟨?_, ?_, KE.out⟩
      · rw [HP.out]; rfl
      · rw [HF.out]
        exact HH.out.at_end KE.out CE.out
end Go.Proofs.YtlnkjmgfkpeicaaGreatDoor
namespace Go.Proofs.YtlnkjmgfkpeicaaGreatDoor
open Go.RowKit

/-- a later world: all but block bc is as it was -/
structure Fin_ (bc : Nat) (w : World) where
  wd : World
  fined : Fined bc w wd
instance Fin_.some_ (bc : Nat) (w : World) : Nonempty (Fin_ bc w) := ⟨⟨w, Fined.refl _ _⟩⟩
theorem Fin_.cell {bc : Nat} {w : World} (E : Fin_ bc w) {a : Addr} {v : Value} (h : w.cell? a = some v) (hc : a.block ≠ bc) : E.wd.cell? a = some v := E.fined.cell h hc

def MakeT (w : World) (B : Nat) (cs : List Value) (m : TMake) : Prop := ∃ v, cs = [.int .i64 m.cell, .int .i64 m.kind, .int .i64 m.num, v] ∧ SliceTy w B 3 1 IntR v m.vals ∧ wfi m.cell ∧ wfi m.kind ∧ wfi m.num
def ExitT (w : World) (B : Nat) (cs : List Value) (x : TExit) : Prop := ∃ s m, cs = [.int .i64 x.at_, .int .i64 x.steps, s, m] ∧ SliceTy w B 44 2 SetR s x.sets ∧ SliceTy w B 89 4 (MakeT w B) m x.makes ∧ wfi x.at_ ∧ wfi x.steps
theorem MakeT.make {w : World} {B : Nat} {cs : List Value} {m : TMake} (h : MakeT w B cs m) : MakeR w w.heap.size cs m := by
  obtain ⟨v, h1, h2, h3⟩ := h
  exact ⟨v, h1, h2.slice, h3⟩
theorem ExitT.exit {w : World} {B : Nat} {cs : List Value} {x : TExit} (h : ExitT w B cs x) : ExitR w w.heap.size cs x := by
  obtain ⟨s, m, h1, h2, h3, h4⟩ := h
  exact ⟨s, m, h1, h2.slice, h3.slice.keep (Nat.le_refl _) (fun _ _ => rfl) (fun _ _ h => h.make), h4⟩
def setCs (s : TSet) : List Value := [.int .i64 s.reg, .int .i64 s.val]
theorem infoSet : (Tryz.prog.info? 44).map (fun i => (i.zero, i.size, i.bytes)) = some (some (.agg #[.int .i64 0, .int .i64 0]), 2, 16) := by kernel_rfl
theorem infoMake : (Tryz.prog.info? 89).map (fun i => (i.zero, i.size, i.bytes)) = some (some (.agg #[.int .i64 0, .int .i64 0, .int .i64 0, .slice none 0 0]), 4, 48) := by kernel_rfl
theorem one_bd {at_ : List Int} (h : ∀ a ∈ at_, -1 ≤ a ∧ a ≤ 300) (v : Int) : -1 ≤ oneM at_ v ∧ oneM at_ v ≤ 300 := by
  unfold oneM
  split
  · omega
  · split
    · omega
    · rename_i a ha
      have := h a (List.mem_of_getElem? ha)
      split <;> omega
/-- no number lies in the cutter -/
theorem CutAt.far {w : World} {bc : Nat} {tv : Value} {at_ : List Int} {fine : Bool} (h : CutAt w bc tv at_ fine) {a : Addr} {k : IntKind} {n : Int} (ha : w.cell? a = some (.int k n)) : a.block ≠ bc := by
  intro e
  obtain ⟨b, o, s⟩ := a
  obtain rfl : b = bc := e
  have hs := cell_spot ha
  simp only at hs
  subst hs
  rw [cell_of_row w b o _ _ _ h.here] at ha
  match o, ha with
  | 0, ha =>
    simp at ha
    rcases h.own.2 with ⟨e, _⟩ | ⟨g, cap, cur, e, _⟩ <;> rw [e] at ha <;> cases ha
  | 1, ha => simp at ha
  | n + 2, ha => simp at ha
theorem grow_far {w w' : World} {B : Nat} {e t : TypeId} {size n : Nat} {v : Value} {xs : List Value} (hown : w.ownsRow B e size v n xs) (hg : w.grownBy w' v.ownBlock) {k : Nat} {cs : Array Value} {fr : Nat × Nat}
    (hk : w.heap[k]? = some (.cells cs t fr)) (ht : t ≠ e) : w'.heap[k]? = some (.cells cs t fr) :=
  (hg.block k (Array.getElem?_eq_some_iff.1 hk).1 (fun e => by
    obtain ⟨_, cs', fr', h2⟩ := own_row hown k e.symm
    rw [hk] at h2; injection h2 with h2; injection h2 with _ h2 _; exact ht h2)).trans hk
theorem grow_below {w w' : World} {B B' : Nat} {e : TypeId} {size n : Nat} {v : Value} {xs : List Value} (hown : w.ownsRow B e size v n xs) (hg : w.grownBy w' v.ownBlock) (h : B' ≤ B) (hw : B' ≤ w.heap.size) : Below B' w w' :=
  ⟨hg.os, hg.tape, hg.output, hg.size, fun k hk => hg.block k (by omega) (fun e => by have := (own_row hown k e.symm).1; omega)⟩
theorem own_is_slice {w : World} {B : Nat} {e : TypeId} {size n : Nat} {v : Value} {xs : List Value} (hown : w.ownsRow B e size v n xs) : ∃ A n c, v = .slice A n c := by
  rcases hown.2 with ⟨e, _⟩ | ⟨g, cp, _, e, _⟩ <;> exact ⟨_, _, _, e⟩
theorem SliceTy.grow {α : Type} {w w' : World} {B C : Nat} {ty e : TypeId} {size n sz : Nat} {R : List Value → α → Prop} {v u : Value} {xs : List α} {cs : List Value} (h : SliceTy w B ty size R v xs) (hown : w.ownsRow C e sz u n cs) (hg : w.grownBy w' u.ownBlock) (ht : ty ≠ e) : SliceTy w' B ty size R v xs :=
  h.keep (fun k c fr _ hk => (grow_far hown hg hk ht).trans hk.symm) (fun _ _ h => h)
theorem SliceTy.set_ {α : Type} {w : World} {B : Nat} {ty t : TypeId} {size : Nat} {R : List Value → α → Prop} {v : Value} {xs : List α} (h : SliceTy w B ty size R v xs) {g : Nat} {cs : Array Value} {fr : Nat × Nat} (hg : w.heap[g]? = some (.cells cs t fr)) (ht : t ≠ ty) (i : Nat) (u : Value) : SliceTy (w.setCell ⟨g, i, none⟩ u) B ty size R v xs :=
  h.keep (fun k c fr _ hk => heap_setCell_other w _ _ _ (by show k ≠ g; rintro rfl; rw [hg] at hk; injection hk with hk; injection hk with _ hk _; exact ht hk)) (fun _ _ h => h)
theorem setR_setC {at_ : List Int} (h : ∀ a ∈ at_, -1 ≤ a ∧ a ≤ 300) {s : TSet} (hr : wfi s.reg) : SetR (setCs (setC at_ s)) (setC at_ s) := by
  have := one_bd h s.val
  exact ⟨rfl, hr, by unfold wfi setC; dsimp only; omega⟩
/-- all that was there is as it was, but for blocks a and b -/
structure Kept2 (a b : Nat) (w w' : World) : Prop where
  os : w'.os = w.os
  tape : w'.tape = w.tape
  output : w'.output = w.output
  size : w.heap.size ≤ w'.heap.size
  block : ∀ k, k < w.heap.size → k ≠ a → k ≠ b → w'.heap[k]? = w.heap[k]?
theorem Kept2.refl (a b : Nat) (w : World) : Kept2 a b w w := ⟨rfl, rfl, rfl, Nat.le_refl _, fun _ _ _ _ => rfl⟩
theorem Kept2.trans {a b : Nat} {w w1 w2 : World} (h : Kept2 a b w w1) (k : Kept2 a b w1 w2) : Kept2 a b w w2 :=
  ⟨k.os.trans h.os, k.tape.trans h.tape, k.output.trans h.output, Nat.le_trans h.size k.size, fun i hi hc hd => (k.block i (Nat.lt_of_lt_of_le hi h.size) hc hd).trans (h.block i hi hc hd)⟩
theorem Kept2.of_fined {a b : Nat} {w w1 : World} (h : Fined a w w1) : Kept2 a b w w1 := ⟨h.os, h.tape, h.output, h.size, fun i hi hc _ => h.block i hi hc⟩
theorem Kept2.then {a b : Nat} {w w1 w2 : World} (h : Kept2 a b w w1) (k : Below w.heap.size w1 w2) : Kept2 a b w w2 :=
  ⟨k.os.trans h.os, k.tape.trans h.tape, k.output.trans h.output, Nat.le_trans h.size k.size, fun i hi hc hd => (k.block i hi).trans (h.block i hi hc hd)⟩
theorem Kept2.set_ {a b : Nat} {w w1 : World} (h : Kept2 a b w w1) (i : Nat) (u : Value) : Kept2 a b w (w1.setCell ⟨b, i, none⟩ u) :=
  ⟨h.os, h.tape, h.output, by simp [World.setCell]; exact h.size, fun k hk hc hd => (heap_setCell_other w1 _ k _ (by show k ≠ b; exact hd)).trans (h.block k hk hc hd)⟩
theorem Kept2.row {a b : Nat} {w w1 : World} (h : Kept2 a b w w1) {k : Nat} {o : Obj} (hk : w.heap[k]? = some o) (hc : k ≠ a) (hd : k ≠ b) : w1.heap[k]? = some o := (h.block k (Array.getElem?_eq_some_iff.1 hk).1 hc hd).trans hk
theorem Kept2.cell {a b : Nat} {w w1 : World} (h : Kept2 a b w w1) {p : Addr} {v : Value} (hp : w.cell? p = some v) (hc : p.block ≠ a) (hd : p.block ≠ b) : w1.cell? p = some v := by
  have hb := h.block p.block (cell_lt hp) hc hd
  unfold World.cell? at hp ⊢
  rw [hb]; exact hp
theorem Kept2.fined {a b : Nat} {w0 w w1 : World} (h : Kept2 a b w w1) (k : Fined a w0 w) (hb : w0.heap.size ≤ b) : Fined a w0 w1 :=
  ⟨h.os.trans k.os, h.tape.trans k.tape, h.output.trans k.output, Nat.le_trans k.size h.size, fun i hi hc => (h.block i (Nat.lt_of_lt_of_le hi k.size) hc (by omega)).trans (k.block i hi hc)⟩
theorem flat_one {α β : Type} (f : α → β) : ∀ xs : List α, xs.flatMap (fun x => [f x]) = xs.map f
  | [] => rfl
  | x :: xs => by rw [List.flatMap_cons, flat_one f xs]; rfl
theorem MakeT.fin {bc : Nat} {w w1 : World} {B : Nat} {cs : List Value} {m : TMake} (h : MakeT w B cs m) (k : Fined bc w w1) (hB : bc < B) : MakeT w1 B cs m := by
  obtain ⟨v, h1, h2, h3⟩ := h
  exact ⟨v, h1, k.ty h2 hB, h3⟩
theorem MakeT.grow {w w1 : World} {B C : Nat} {e : TypeId} {sz n : Nat} {u : Value} {cells : List Value} {cs : List Value} {m : TMake} (h : MakeT w B cs m) (hown : w.ownsRow C e sz u n cells) (hg : w.grownBy w1 u.ownBlock) (ht : 3 ≠ e) : MakeT w1 B cs m := by
  obtain ⟨v, h1, h2, h3⟩ := h
  exact ⟨v, h1, h2.grow hown hg ht, h3⟩
theorem MakeT.set_ {w : World} {B : Nat} {cs : List Value} {m : TMake} (h : MakeT w B cs m) {g : Nat} {c : Array Value} {t : TypeId} {fr : Nat × Nat} (hg : w.heap[g]? = some (.cells c t fr)) (ht : t ≠ 3) (i : Nat) (u : Value) : MakeT (w.setCell ⟨g, i, none⟩ u) B cs m := by
  obtain ⟨v, h1, h2, h3⟩ := h
  exact ⟨v, h1, h2.set_ hg ht i u, h3⟩
theorem MakeT.below {w w1 : World} {B : Nat} {cs : List Value} {m : TMake} (h : MakeT w B cs m) (k : Below w.heap.size w w1) : MakeT w1 B cs m := by
  obtain ⟨v, h1, h2, h3⟩ := h
  exact ⟨v, h1, h2.below k, h3⟩
theorem SliceTy.set_row {α : Type} {w : World} {B : Nat} {ty t : TypeId} {size : Nat} {R : List Value → α → Prop} {v : Value} {xs : List α} (h : SliceTy w B ty size R v xs) {g : Nat} {cs : Array Value} {fr : Nat × Nat} (hg : w.heap[g]? = some (.cells cs t fr)) (ht : t ≠ ty) (new : Array Value) : SliceTy (w.setRow g new) B ty size R v xs :=
  h.keep (fun k c fr _ hk => setRow_other w g k new (by rintro rfl; rw [hg] at hk; injection hk with hk; injection hk with _ hk _; exact ht hk)) (fun _ _ h => h)
theorem MakeT.set_row {w : World} {B : Nat} {cs : List Value} {m : TMake} (h : MakeT w B cs m) {g : Nat} {c : Array Value} {t : TypeId} {fr : Nat × Nat} (hg : w.heap[g]? = some (.cells c t fr)) (ht : t ≠ 3) (new : Array Value) : MakeT (w.setRow g new) B cs m := by
  obtain ⟨v, h1, h2, h3⟩ := h
  exact ⟨v, h1, h2.set_row hg ht new, h3⟩
theorem MakeT.more {w : World} {B B' : Nat} {cs : List Value} {m : TMake} (h : MakeT w B cs m) (hB : B' ≤ B) : MakeT w B' cs m := by
  obtain ⟨v, h1, h2, h3⟩ := h
  exact ⟨v, h1, h2.more hB, h3⟩
theorem Below.set_at {B g : Nat} {w w' : World} (h : Below B w w') (hg : B ≤ g) (i : Nat) (u : Value) : Below B w (w'.setCell ⟨g, i, none⟩ u) := by
  refine Below.setCell h ?_ _; exact hg
end Go.Proofs.YtlnkjmgfkpeicaaGreatDoor
