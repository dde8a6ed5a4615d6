/- Package code: names, caught, order. -/
import Derived.Test.YtmccomeihnaanaaDoorCodeF
namespace Go.Proofs.YtmccomeihnaanaaDoor
open Go.RowKit

set_option maxHeartbeats 400000 in
set_option maxRecDepth 100000 in
theorem names_114 (cs : List Value) (p : CProg) (f : CFn) (n : Int) (w : World) (h : LookR w w.heap.size cs p f) (hr : 1 ≤ f.regs) :
    Calls Tryd.prog 134 #[.agg ⟨cs⟩, .int .u8 114, .int .i64 n] w (Gives (.bool (regM f n)) w) := by
  have HL := Lib.hid h
  obtain ⟨pc, fc, rfl, ⟨A1, n1, A2, n2, A3, n3, rfl, p1, p2, p3⟩, ⟨A4, n4, A5, n5, rfl, q1, q2, w1, w2⟩⟩ := h
  have l1 := len_le p1
  have l2 := len_le p2
  have l3 := len_le p3
  have l4 := len_le q1
  have l5 := len_le q2
  clear p1 p2 p3 q1 q2
  go_enter Tryd.func134, Tryd.ntmps134
  go_wp2_with fail
  refine (lreg_c _ p f n _ (HL.out.keep (by simp) (fun _ h => (below_one w _).cell h)) hr).mono ?_
  rintro e w1 ⟨rfl, k1⟩
  have K1 := Lib.hid ((below_one w _).trans (k1.mono (by simp)))
  clear k1
  go_wp2_with fail
  go_ret
  exact ⟨rfl, K1.out⟩
set_option maxHeartbeats 400000 in
set_option maxRecDepth 100000 in
theorem names_107 (cs : List Value) (p : CProg) (f : CFn) (n : Int) (w : World) (h : LookR w w.heap.size cs p f) (hr : 1 ≤ f.regs) :
    Calls Tryd.prog 134 #[.agg ⟨cs⟩, .int .u8 107, .int .i64 n] w (Gives (.bool (withinM n 0 ((p.consts.length : Int) - 1))) w) := by
  obtain ⟨pc, fc, rfl, ⟨A1, n1, A2, n2, A3, n3, rfl, p1, p2, p3⟩, ⟨A4, n4, A5, n5, rfl, q1, q2, w1, w2⟩⟩ := h
  have l1 := len_le p1
  have l2 := len_le p2
  have l3 := len_le p3
  have l4 := len_le q1
  have l5 := len_le q2
  clear p1 p2 p3 q1 q2
  go_enter Tryd.func134, Tryd.ntmps134
  go_wp2_with fail
  refine (within_c _ _ _ _).mono ?_
  rintro e w' ⟨rfl, rfl⟩
  go_wp2_with fail
  go_ret
  exact ⟨rfl, below_one w _⟩
set_option maxHeartbeats 400000 in
set_option maxRecDepth 100000 in
theorem names_116 (cs : List Value) (p : CProg) (f : CFn) (n : Int) (w : World) (h : LookR w w.heap.size cs p f) (hr : 1 ≤ f.regs) :
    Calls Tryd.prog 134 #[.agg ⟨cs⟩, .int .u8 116, .int .i64 n] w (Gives (.bool (withinM n 0 ((p.texts.length : Int) - 1))) w) := by
  have HL := Lib.hid h
  obtain ⟨pc, fc, rfl, ⟨A1, n1, A2, n2, A3, n3, rfl, p1, p2, p3⟩, ⟨A4, n4, A5, n5, rfl, q1, q2, w1, w2⟩⟩ := h
  have l1 := len_le p1
  have l2 := len_le p2
  have l3 := len_le p3
  have l4 := len_le q1
  have l5 := len_le q2
  clear p1 p2 p3 q1 q2
  go_enter Tryd.func134, Tryd.ntmps134
  go_wp2_with fail
  refine (ltext_c _ p f n _ (HL.out.keep (by simp) (fun _ h => (below_one w _).cell h))).mono ?_
  rintro e w1 ⟨rfl, k1⟩
  have K1 := Lib.hid ((below_one w _).trans (k1.mono (by simp)))
  clear k1
  go_wp2_with fail
  go_ret
  exact ⟨rfl, K1.out⟩
set_option maxHeartbeats 400000 in
set_option maxRecDepth 100000 in
theorem names_97 (cs : List Value) (p : CProg) (f : CFn) (n : Int) (w : World) (h : LookR w w.heap.size cs p f) (hr : 1 ≤ f.regs) :
    Calls Tryd.prog 134 #[.agg ⟨cs⟩, .int .u8 97, .int .i64 n] w (Gives (.bool (withinM n 0 ((f.code.length : Int) - 1))) w) := by
  have HL := Lib.hid h
  obtain ⟨pc, fc, rfl, ⟨A1, n1, A2, n2, A3, n3, rfl, p1, p2, p3⟩, ⟨A4, n4, A5, n5, rfl, q1, q2, w1, w2⟩⟩ := h
  have l1 := len_le p1
  have l2 := len_le p2
  have l3 := len_le p3
  have l4 := len_le q1
  have l5 := len_le q2
  clear p1 p2 p3 q1 q2
  go_enter Tryd.func134, Tryd.ntmps134
  go_wp2_with fail
  refine (lat_c _ p f n _ (HL.out.keep (by simp) (fun _ h => (below_one w _).cell h))).mono ?_
  rintro e w1 ⟨rfl, k1⟩
  have K1 := Lib.hid ((below_one w _).trans (k1.mono (by simp)))
  clear k1
  go_wp2_with fail
  go_ret
  exact ⟨rfl, K1.out⟩
set_option maxHeartbeats 400000 in
set_option maxRecDepth 100000 in
theorem names_117 (cs : List Value) (p : CProg) (f : CFn) (n : Int) (w : World) (h : LookR w w.heap.size cs p f) (hr : 1 ≤ f.regs) :
    Calls Tryd.prog 134 #[.agg ⟨cs⟩, .int .u8 117, .int .i64 n] w (Gives (.bool (withinM n 0 ((f.caught.length : Int) - 1))) w) := by
  obtain ⟨pc, fc, rfl, ⟨A1, n1, A2, n2, A3, n3, rfl, p1, p2, p3⟩, ⟨A4, n4, A5, n5, rfl, q1, q2, w1, w2⟩⟩ := h
  have l1 := len_le p1
  have l2 := len_le p2
  have l3 := len_le p3
  have l4 := len_le q1
  have l5 := len_le q2
  clear p1 p2 p3 q1 q2
  go_enter Tryd.func134, Tryd.ntmps134
  go_wp2_with fail
  refine (within_c _ _ _ _).mono ?_
  rintro e w' ⟨rfl, rfl⟩
  go_wp2_with fail
  go_ret
  exact ⟨rfl, below_one w _⟩
set_option maxHeartbeats 400000 in
set_option maxRecDepth 100000 in
theorem names_102 (cs : List Value) (p : CProg) (f : CFn) (n : Int) (w : World) (h : LookR w w.heap.size cs p f) (hr : 1 ≤ f.regs) :
    Calls Tryd.prog 134 #[.agg ⟨cs⟩, .int .u8 102, .int .i64 n] w (Gives (.bool (withinM n 1 ((p.fns.length : Int) - 1))) w) := by
  obtain ⟨pc, fc, rfl, ⟨A1, n1, A2, n2, A3, n3, rfl, p1, p2, p3⟩, ⟨A4, n4, A5, n5, rfl, q1, q2, w1, w2⟩⟩ := h
  have l1 := len_le p1
  have l2 := len_le p2
  have l3 := len_le p3
  have l4 := len_le q1
  have l5 := len_le q2
  clear p1 p2 p3 q1 q2
  go_enter Tryd.func134, Tryd.ntmps134
  go_wp2_with fail
  refine (within_c _ _ _ _).mono ?_
  rintro e w' ⟨rfl, rfl⟩
  go_wp2_with fail
  go_ret
  exact ⟨rfl, below_one w _⟩
set_option maxHeartbeats 400000 in
set_option maxRecDepth 100000 in
theorem names_108 (cs : List Value) (p : CProg) (f : CFn) (n : Int) (w : World) (h : LookR w w.heap.size cs p f) (hr : 1 ≤ f.regs) :
    Calls Tryd.prog 134 #[.agg ⟨cs⟩, .int .u8 108, .int .i64 n] w (Gives (.bool (withinM n 0 f.regs)) w) := by
  obtain ⟨pc, fc, rfl, ⟨A1, n1, A2, n2, A3, n3, rfl, p1, p2, p3⟩, ⟨A4, n4, A5, n5, rfl, q1, q2, w1, w2⟩⟩ := h
  have l1 := len_le p1
  have l2 := len_le p2
  have l3 := len_le p3
  have l4 := len_le q1
  have l5 := len_le q2
  clear p1 p2 p3 q1 q2
  go_enter Tryd.func134, Tryd.ntmps134
  go_wp2_with fail
  refine (within_c _ _ _ _).mono ?_
  rintro e w' ⟨rfl, rfl⟩
  go_wp2_with fail
  go_ret
  exact ⟨rfl, below_one w _⟩
set_option maxHeartbeats 400000 in
set_option maxRecDepth 100000 in
theorem names_99 (cs : List Value) (p : CProg) (f : CFn) (n : Int) (w : World) (h : LookR w w.heap.size cs p f) (hr : 1 ≤ f.regs) :
    Calls Tryd.prog 134 #[.agg ⟨cs⟩, .int .u8 99, .int .i64 n] w (Gives (.bool (withinM n 0 f.regs)) w) := by
  obtain ⟨pc, fc, rfl, ⟨A1, n1, A2, n2, A3, n3, rfl, p1, p2, p3⟩, ⟨A4, n4, A5, n5, rfl, q1, q2, w1, w2⟩⟩ := h
  have l1 := len_le p1
  have l2 := len_le p2
  have l3 := len_le p3
  have l4 := len_le q1
  have l5 := len_le q2
  clear p1 p2 p3 q1 q2
  go_enter Tryd.func134, Tryd.ntmps134
  go_wp2_with fail
  refine (within_c _ _ _ _).mono ?_
  rintro e w' ⟨rfl, rfl⟩
  go_wp2_with fail
  go_ret
  exact ⟨rfl, below_one w _⟩
set_option maxHeartbeats 400000 in
set_option maxRecDepth 100000 in
theorem names_110 (cs : List Value) (p : CProg) (f : CFn) (n : Int) (w : World) (h : LookR w w.heap.size cs p f) (hr : 1 ≤ f.regs) :
    Calls Tryd.prog 134 #[.agg ⟨cs⟩, .int .u8 110, .int .i64 n] w (Gives (.bool (withinM n 0 f.regs)) w) := by
  obtain ⟨pc, fc, rfl, ⟨A1, n1, A2, n2, A3, n3, rfl, p1, p2, p3⟩, ⟨A4, n4, A5, n5, rfl, q1, q2, w1, w2⟩⟩ := h
  have l1 := len_le p1
  have l2 := len_le p2
  have l3 := len_le p3
  have l4 := len_le q1
  have l5 := len_le q2
  clear p1 p2 p3 q1 q2
  go_enter Tryd.func134, Tryd.ntmps134
  go_wp2_with fail
  refine (within_c _ _ _ _).mono ?_
  rintro e w' ⟨rfl, rfl⟩
  go_wp2_with fail
  go_ret
  exact ⟨rfl, below_one w _⟩
set_option maxHeartbeats 400000 in
set_option maxRecDepth 100000 in
theorem names_c (cs : List Value) (p : CProg) (f : CFn) (c : UInt8) (n : Int) (w : World) (h : LookR w w.heap.size cs p f) (hr : 1 ≤ f.regs) :
    Calls Tryd.prog 134 #[.agg ⟨cs⟩, .int .u8 c.toNat, .int .i64 n] w (Gives (.bool (namesM p f c n)) w) := by
  by_cases h114 : c = 114
  · subst h114
    exact names_114 cs p f n w h hr
  by_cases h107 : c = 107
  · subst h107
    exact names_107 cs p f n w h hr
  by_cases h116 : c = 116
  · subst h116
    exact names_116 cs p f n w h hr
  by_cases h97 : c = 97
  · subst h97
    exact names_97 cs p f n w h hr
  by_cases h117 : c = 117
  · subst h117
    exact names_117 cs p f n w h hr
  by_cases h102 : c = 102
  · subst h102
    exact names_102 cs p f n w h hr
  by_cases h108 : c = 108
  · subst h108
    exact names_108 cs p f n w h hr
  by_cases h99 : c = 99
  · subst h99
    exact names_99 cs p f n w h hr
  by_cases h110 : c = 110
  · subst h110
    exact names_110 cs p f n w h hr
  have e : namesM p f c n = (n == 0) := by
    unfold namesM
    rw [if_neg h114, if_neg h107, if_neg h116, if_neg h97, if_neg h117, if_neg h102, if_neg (by simp [h108, h99, h110])]
  rw [e]
  clear e
  have hx : ∀ k : UInt8, c ≠ k → ((c.toNat : Int) == (k.toNat : Int)) = false := fun k hk => by
    simp only [beq_eq_false_iff_ne, ne_eq, Int.natCast_inj]
    exact fun e => hk (UInt8.toNat_inj.1 e)
  have x114 : ((c.toNat : Int) == 114) = false := hx 114 h114
  have x107 : ((c.toNat : Int) == 107) = false := hx 107 h107
  have x116 : ((c.toNat : Int) == 116) = false := hx 116 h116
  have x97 : ((c.toNat : Int) == 97) = false := hx 97 h97
  have x117 : ((c.toNat : Int) == 117) = false := hx 117 h117
  have x102 : ((c.toNat : Int) == 102) = false := hx 102 h102
  have x108 : ((c.toNat : Int) == 108) = false := hx 108 h108
  have x99 : ((c.toNat : Int) == 99) = false := hx 99 h99
  have x110 : ((c.toNat : Int) == 110) = false := hx 110 h110
  clear hx h114 h107 h116 h97 h117 h102 h108 h99 h110
  obtain ⟨pc, fc, rfl, ⟨A1, n1, A2, n2, A3, n3, rfl, -⟩, ⟨A4, n4, A5, n5, rfl, -⟩⟩ := h
  go_enter Tryd.func134, Tryd.ntmps134
  go_wp2_with fail
  go_ret
  exact ⟨rfl, below_one w _⟩
end Go.Proofs.YtmccomeihnaanaaDoor
