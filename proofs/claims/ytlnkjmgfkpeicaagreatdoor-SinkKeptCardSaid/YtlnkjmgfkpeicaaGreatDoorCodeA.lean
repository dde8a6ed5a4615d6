/- Package code: within, look's small methods, form. -/
import Derived.Test.YtlnkjmgfkpeicaaGreatDoorIrT
import Derived.WalkLawsBesides
namespace Go.Proofs.YtlnkjmgfkpeicaaGreatDoor
open Go.RowKit

def CInsR (cs : List Value) (x : CIns) : Prop := cs = [.int .i64 x.op, .int .i64 x.a, .int .i64 x.b, .int .i64 x.c, .int .i64 x.line] ∧ wfi x.op ∧ wfi x.a ∧ wfi x.b ∧ wfi x.c ∧ wfi x.line
def FnR (w : World) (B : Nat) (cs : List Value) (f : CFn) : Prop :=
  ∃ A n C m, cs = [.int .i64 f.params, .int .i64 f.regs, .bool f.gen, .slice A f.caught.length n, .slice C f.code.length m] ∧ SliceR w B 1 IntR (.slice A f.caught.length n) f.caught ∧ SliceR w B 5 CInsR (.slice C f.code.length m) f.code ∧ wfi f.params ∧ wfi f.regs
def ProgR (w : World) (B : Nat) (cs : List Value) (p : CProg) : Prop :=
  ∃ A n C m D k, cs = [.slice A p.fns.length n, .slice C p.consts.length m, .slice D p.texts.length k] ∧ SliceR w B 5 (FnR w B) (.slice A p.fns.length n) p.fns ∧ SliceR w B 2 ValR (.slice C p.consts.length m) p.consts ∧ SliceR w B 1 StrR (.slice D p.texts.length k) p.texts
def LookR (w : World) (B : Nat) (cs : List Value) (p : CProg) (f : CFn) : Prop := ∃ pc fc, cs = pc ++ fc ∧ ProgR w B pc p ∧ FnR w B fc f

theorem FnR.keep {w w' : World} {B B' : Nat} {cs : List Value} {f : CFn} (h : FnR w B cs f) (hB : B ≤ B') (hk : ∀ p : Addr, p.block < B → w'.cell? p = w.cell? p) : FnR w' B' cs f := by
  obtain ⟨A, n, C, m, h1, h2, h3, h4⟩ := h
  exact ⟨A, n, C, m, h1, h2.keep hB hk (fun _ _ h => h), h3.keep hB hk (fun _ _ h => h), h4⟩
theorem ProgR.keep {w w' : World} {B B' : Nat} {cs : List Value} {p : CProg} (h : ProgR w B cs p) (hB : B ≤ B') (hk : ∀ p : Addr, p.block < B → w'.cell? p = w.cell? p) : ProgR w' B' cs p := by
  obtain ⟨A, n, C, m, D, k, h1, h2, h3, h4⟩ := h
  exact ⟨A, n, C, m, D, k, h1, h2.keep hB hk (fun _ _ h => h.keep hB hk), h3.keep hB hk (fun _ _ h => h), h4.keep hB hk (fun _ _ h => h)⟩
theorem LookR.keep {w w' : World} {B B' : Nat} {cs : List Value} {p : CProg} {f : CFn} (h : LookR w B cs p f) (hB : B ≤ B') (hk : ∀ p : Addr, p.block < B → w'.cell? p = w.cell? p) : LookR w' B' cs p f := by
  obtain ⟨pc, fc, h1, h2, h3⟩ := h
  exact ⟨pc, fc, h1, h2.keep hB hk, h3.keep hB hk⟩
theorem len_le {α : Type} {w : World} {B size : Nat} {R : List Value → α → Prop} {A : Option Addr} {n cap : Nat} {xs : List α} (h : SliceR w B size R (.slice A n cap) xs) : n ≤ 9223372036854775807 := by
  obtain ⟨h1, h2, h3⟩ := h.len
  unfold maxLen at h3
  omega

set_option maxHeartbeats 400000 in
theorem within_c (n lo hi : Int) (w : World) : Calls Tryz.prog 68 #[.int .i64 n, .int .i64 lo, .int .i64 hi] w fun e w' => e = .returned (.bool (withinM n lo hi)) ∧ w = w' := by
  unfold withinM
  obtain ⟨r, hr⟩ : ∃ r : Bool, (decide (lo ≤ n) && decide (n ≤ hi)) = r := ⟨_, rfl⟩
  rw [hr]
  by_cases h : lo ≤ n
  · have hr' : decide (n ≤ hi) = r := by rw [← hr]; simp [h]
    have HR := Lib.hid hr'
    clear hr hr'
    go_enter Tryz.func68, Tryz.ntmps68
    go_wp2
    go_ret
    exact ⟨by rw [← HR.out]; rfl, rfl⟩
  · have hr' : false = r := by rw [← hr]; simp [h]
    subst hr'
    have h' : decide (lo ≤ n) = false := by simpa using h
    clear hr
    go_enter Tryz.func68, Tryz.ntmps68
    go_wp2
    go_ret
    exact ⟨rfl, rfl⟩

set_option maxHeartbeats 400000 in
theorem lreg_c (cs : List Value) (p : CProg) (f : CFn) (n : Int) (w : World) (h : LookR w w.heap.size cs p f) (hr : 1 ≤ f.regs) :
    Calls Tryz.prog 70 #[.agg ⟨cs⟩, .int .i64 n] w (Gives (.bool (regM f n)) w) := by
  obtain ⟨pc, fc, rfl, ⟨A1, n1, A2, n2, A3, n3, rfl, -⟩, ⟨A4, n4, A5, n5, rfl, -, -, -, w1, w2⟩⟩ := h
  unfold regM
  go_enter Tryz.func70, Tryz.ntmps70
  go_wp2_with fail
  refine (within_c _ _ _ _).mono ?_
  rintro e w' ⟨rfl, rfl⟩
  go_wp2_with fail
  go_ret
  exact ⟨rfl, below_one w _⟩
set_option maxHeartbeats 400000 in
theorem lat_c (cs : List Value) (p : CProg) (f : CFn) (n : Int) (w : World) (h : LookR w w.heap.size cs p f) :
    Calls Tryz.prog 91 #[.agg ⟨cs⟩, .int .i64 n] w (Gives (.bool (withinM n 0 ((f.code.length : Int) - 1))) w) := by
  obtain ⟨pc, fc, rfl, ⟨A1, n1, A2, n2, A3, n3, rfl, -⟩, ⟨A4, n4, A5, n5, rfl, -, h5, -⟩⟩ := h
  have hl := len_le h5
  clear h5
  go_enter Tryz.func91, Tryz.ntmps91
  go_wp2_with fail
  refine (within_c _ _ _ _).mono ?_
  rintro e w' ⟨rfl, rfl⟩
  go_wp2_with fail
  go_ret
  exact ⟨rfl, below_one w _⟩
set_option maxHeartbeats 400000 in
theorem ltext_c (cs : List Value) (p : CProg) (f : CFn) (n : Int) (w : World) (h : LookR w w.heap.size cs p f) :
    Calls Tryz.prog 90 #[.agg ⟨cs⟩, .int .i64 n] w (Gives (.bool (withinM n 0 ((p.texts.length : Int) - 1))) w) := by
  obtain ⟨pc, fc, rfl, ⟨A1, n1, A2, n2, A3, n3, rfl, -, -, h5⟩, ⟨A4, n4, A5, n5, rfl, -⟩⟩ := h
  have hl := len_le h5
  clear h5
  go_enter Tryz.func90, Tryz.ntmps90
  go_wp2_with fail
  refine (within_c _ _ _ _).mono ?_
  rintro e w' ⟨rfl, rfl⟩
  go_wp2_with fail
  go_ret
  exact ⟨rfl, below_one w _⟩

end Go.Proofs.YtlnkjmgfkpeicaaGreatDoor
