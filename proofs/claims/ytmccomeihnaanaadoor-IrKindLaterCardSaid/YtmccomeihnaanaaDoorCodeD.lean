/- Package code: order. Printed by wip/gen_order.py. -/
import Derived.Test.YtmccomeihnaanaaDoorCodeC
namespace Go.Proofs.YtmccomeihnaanaaDoor
open Go.RowKit

theorem Calls.up_eq {P : Program} {f : FuncId} {args : Array Value} {w : World} {E : Up w} {v : Value}
    (h : Calls P f args E.to fun e w' => e = .returned v ∧ E.to = w') : Calls P f args E.to fun e w'' => e = .returned v ∧ ∃ E' : Up w, w'' = E'.to :=
  h.mono fun _ _ ⟨he, hb⟩ => ⟨he, E, hb.symm⟩
theorem idx_str (s : ByteArray) (x y z : UInt8) (h : s.data.toList = [x, y, z]) : s.size = 3 ∧ ∀ (n : Nat) (hn : n < s.size), s[n] = [x, y, z][n]'(by have : s.size = 3 := (by have := congrArg List.length h; simpa using this); simp; omega) := by
  have hs : s.size = 3 := by have := congrArg List.length h; simpa using this
  refine ⟨hs, fun n hn => ?_⟩
  have e : s.data.toList[n]'(by simpa using hn) = [x, y, z][n]'(by simp; omega) := by simp [h]
  rw [← e]
  rfl

set_option maxHeartbeats 2000000 in
set_option maxRecDepth 100000 in
theorem order_un (cs ics : List Value) (p : CProg) (f : CFn) (at_ : Int) (i : CIns) (w : World) (h : LookR w w.heap.size cs p f) (hr : 1 ≤ f.regs) (hr2 : f.regs ≤ 60) (hi : CInsR ics i) (hn : namedM p f i = false) :
    Calls Tryd.prog 110 #[.agg ⟨cs⟩, .int .i64 at_, .agg ⟨ics⟩] w (Gives (.bool false) w) := by
  obtain ⟨w0, hw0⟩ : ∃ w0, w0 = (w.alloc (.cells ⟨cs⟩ 166)).alloc (.cells ⟨ics⟩ 168) := ⟨_, rfl⟩
  have k0 : Hid (Below w.heap.size w w0) := by rw [hw0]; exact below_two' w _ _
  have h1 : Hid (HeadAt w0 w.heap.size cs) := by rw [hw0]; exact (HeadAt.box w cs _).old _
  have h2 : Hid (HeadAt w0 (w.heap.size + 1) ics) := by rw [hw0]; exact fun i v hv => by rw [two_cell1]; simpa using hv
  have HL : Hid (∀ w', Below w0.heap.size w0 w' → LookR w' w'.heap.size cs p f) := fun w' k => h.keep (Nat.le_trans k0.out.size k.size) (fun _ h => (k.cell (Nat.lt_of_lt_of_le h k0.out.size)).trans (k0.out.cell h))
  obtain ⟨rfl, v1, v2, v3, v4, v5⟩ := hi
  obtain ⟨pc, fc, rfl, ⟨A1, n1, A2, n2, A3, n3, rfl, p1, p2, p3⟩, ⟨A4, n4, A5, n5, rfl, q1, q2, w1', w2'⟩⟩ := h
  have l1 := len_le p1
  have P1 := Lib.hid p1
  clear p1 p2 p3 q1 q2
  simp only [List.cons_append, List.nil_append] at hw0 h1 HL
  have HW := Lib.hid hw0
  clear hw0
  rcases formS_three i.op with hf | ⟨x, y, z, hf⟩
  · have HF := Lib.hid hf
    clear hf hn
    go_enter Tryd.func110, Tryd.ntmps110
    go_wp2_with fail
    rw [← HW.out]
    refine (form_c i.op w0).mono ?_
    rw [HF.out]
    rintro e w1 ⟨rfl, k1⟩
    have K1 := Lib.hid k1
    have c0 : ∀ E : Up w1, E.to.cell? ⟨w.heap.size, 0, none⟩ = some (.slice A1 p.fns.length n1) := fun E => E.cell (h1.out.on k1 0 _ rfl)
    have c1 : ∀ E : Up w1, E.to.cell? ⟨w.heap.size, 1, none⟩ = some (.slice A2 p.consts.length n2) := fun E => E.cell (h1.out.on k1 1 _ rfl)
    have c2 : ∀ E : Up w1, E.to.cell? ⟨w.heap.size, 2, none⟩ = some (.slice A3 p.texts.length n3) := fun E => E.cell (h1.out.on k1 2 _ rfl)
    have c3 : ∀ E : Up w1, E.to.cell? ⟨w.heap.size, 3, none⟩ = some (.int .i64 f.params) := fun E => E.cell (h1.out.on k1 3 _ rfl)
    have c4 : ∀ E : Up w1, E.to.cell? ⟨w.heap.size, 4, none⟩ = some (.int .i64 f.regs) := fun E => E.cell (h1.out.on k1 4 _ rfl)
    have c5 : ∀ E : Up w1, E.to.cell? ⟨w.heap.size, 5, none⟩ = some (.bool f.gen) := fun E => E.cell (h1.out.on k1 5 _ rfl)
    have c6 : ∀ E : Up w1, E.to.cell? ⟨w.heap.size, 6, none⟩ = some (.slice A4 f.caught.length n4) := fun E => E.cell (h1.out.on k1 6 _ rfl)
    have c7 : ∀ E : Up w1, E.to.cell? ⟨w.heap.size, 7, none⟩ = some (.slice A5 f.code.length n5) := fun E => E.cell (h1.out.on k1 7 _ rfl)
    have d0 : ∀ E : Up w1, E.to.cell? ⟨w.heap.size + 1, 0, none⟩ = some (.int .i64 i.op) := fun E => E.cell (h2.out.on k1 0 _ rfl)
    have d1 : ∀ E : Up w1, E.to.cell? ⟨w.heap.size + 1, 1, none⟩ = some (.int .i64 i.a) := fun E => E.cell (h2.out.on k1 1 _ rfl)
    have d2 : ∀ E : Up w1, E.to.cell? ⟨w.heap.size + 1, 2, none⟩ = some (.int .i64 i.b) := fun E => E.cell (h2.out.on k1 2 _ rfl)
    have d3 : ∀ E : Up w1, E.to.cell? ⟨w.heap.size + 1, 3, none⟩ = some (.int .i64 i.c) := fun E => E.cell (h2.out.on k1 3 _ rfl)
    have d4 : ∀ E : Up w1, E.to.cell? ⟨w.heap.size + 1, 4, none⟩ = some (.int .i64 i.line) := fun E => E.cell (h2.out.on k1 4 _ rfl)
    clear k1
    go_wp2_with fail
    refine wp_region_up (by kernel_rfl) (by kernel_rfl) ?_
    repeat (go_big_quiet_step (fail))
    refine wpQuiet_nil ?_
    rintro _ ⟨E, rfl⟩
    have KF := Lib.hid (k0.out.trans ((K1.out.trans (E.below.mono K1.out.size)).mono k0.out.size))
    clear c0 c1 c2 c3 c4 c5 c6 c7 d0 d1 d2 d3 d4
    go_wp2_with fail
    go_ret
    exact ⟨rfl, KF.out⟩
  · have HF := Lib.hid hf
    have hn' : (withinM i.line 0 2000 && namesM p f x i.a && namesM p f y i.b && namesM p f z i.c) = false := by rw [← hn]; simp [namedM, hf]
    clear hf hn
    obtain ⟨sz, six⟩ := idx_str ⟨#[x, y, z]⟩ x y z rfl
    have i0 : ∀ W, (Instr.index 9 (.string ⟨#[x, y, z]⟩) (.int .i64 0)).run Tryd.prog W = .ok (.int .u8 x.toNat) W := fun W => by rw [run_index_string _ _ _ _ _ Tryd.underlying9, dif_pos ⟨by omega, by rw [sz]; decide⟩]; rfl
    have i1 : ∀ W, (Instr.index 9 (.string ⟨#[x, y, z]⟩) (.int .i64 1)).run Tryd.prog W = .ok (.int .u8 y.toNat) W := fun W => by rw [run_index_string _ _ _ _ _ Tryd.underlying9, dif_pos ⟨by omega, by rw [sz]; decide⟩]; rfl
    have i2 : ∀ W, (Instr.index 9 (.string ⟨#[x, y, z]⟩) (.int .i64 2)).run Tryd.prog W = .ok (.int .u8 z.toNat) W := fun W => by rw [run_index_string _ _ _ _ _ Tryd.underlying9, dif_pos ⟨by omega, by rw [sz]; decide⟩]; rfl
    clear sz six
    cases b0 : withinM i.line 0 2000
    · clear hn'
      go_enter Tryd.func110, Tryd.ntmps110
      go_wp2_with fail
      rw [← HW.out]
      refine (form_c i.op w0).mono ?_
      rw [HF.out]
      rintro e w1 ⟨rfl, k1⟩
      have K1 := Lib.hid k1
      have c0 : ∀ E : Up w1, E.to.cell? ⟨w.heap.size, 0, none⟩ = some (.slice A1 p.fns.length n1) := fun E => E.cell (h1.out.on k1 0 _ rfl)
      have c1 : ∀ E : Up w1, E.to.cell? ⟨w.heap.size, 1, none⟩ = some (.slice A2 p.consts.length n2) := fun E => E.cell (h1.out.on k1 1 _ rfl)
      have c2 : ∀ E : Up w1, E.to.cell? ⟨w.heap.size, 2, none⟩ = some (.slice A3 p.texts.length n3) := fun E => E.cell (h1.out.on k1 2 _ rfl)
      have c3 : ∀ E : Up w1, E.to.cell? ⟨w.heap.size, 3, none⟩ = some (.int .i64 f.params) := fun E => E.cell (h1.out.on k1 3 _ rfl)
      have c4 : ∀ E : Up w1, E.to.cell? ⟨w.heap.size, 4, none⟩ = some (.int .i64 f.regs) := fun E => E.cell (h1.out.on k1 4 _ rfl)
      have c5 : ∀ E : Up w1, E.to.cell? ⟨w.heap.size, 5, none⟩ = some (.bool f.gen) := fun E => E.cell (h1.out.on k1 5 _ rfl)
      have c6 : ∀ E : Up w1, E.to.cell? ⟨w.heap.size, 6, none⟩ = some (.slice A4 f.caught.length n4) := fun E => E.cell (h1.out.on k1 6 _ rfl)
      have c7 : ∀ E : Up w1, E.to.cell? ⟨w.heap.size, 7, none⟩ = some (.slice A5 f.code.length n5) := fun E => E.cell (h1.out.on k1 7 _ rfl)
      have d0 : ∀ E : Up w1, E.to.cell? ⟨w.heap.size + 1, 0, none⟩ = some (.int .i64 i.op) := fun E => E.cell (h2.out.on k1 0 _ rfl)
      have d1 : ∀ E : Up w1, E.to.cell? ⟨w.heap.size + 1, 1, none⟩ = some (.int .i64 i.a) := fun E => E.cell (h2.out.on k1 1 _ rfl)
      have d2 : ∀ E : Up w1, E.to.cell? ⟨w.heap.size + 1, 2, none⟩ = some (.int .i64 i.b) := fun E => E.cell (h2.out.on k1 2 _ rfl)
      have d3 : ∀ E : Up w1, E.to.cell? ⟨w.heap.size + 1, 3, none⟩ = some (.int .i64 i.c) := fun E => E.cell (h2.out.on k1 3 _ rfl)
      have d4 : ∀ E : Up w1, E.to.cell? ⟨w.heap.size + 1, 4, none⟩ = some (.int .i64 i.line) := fun E => E.cell (h2.out.on k1 4 _ rfl)
      clear k1
      have B0 : Hid (∀ E : Up w1, Calls Tryd.prog 133 #[.int .i64 i.line, .int .i64 0, .int .i64 2000] E.to fun e w' => e = .returned (.bool (withinM i.line 0 2000)) ∧ E.to = w') := fun E => within_c _ _ _ _
      have B1 : Hid (∀ E : Up w1, Calls Tryd.prog 134 #[.agg ⟨_⟩, .int .u8 x.toNat, .int .i64 i.a] E.to (Gives (.bool (namesM p f x i.a)) E.to)) := fun E => names_c _ p f x i.a E.to (HL.out _ (K1.out.trans (E.below.mono K1.out.size))) hr
      have B2 : Hid (∀ E : Up w1, Calls Tryd.prog 134 #[.agg ⟨_⟩, .int .u8 y.toNat, .int .i64 i.b] E.to (Gives (.bool (namesM p f y i.b)) E.to)) := fun E => names_c _ p f y i.b E.to (HL.out _ (K1.out.trans (E.below.mono K1.out.size))) hr
      have B3 : Hid (∀ E : Up w1, Calls Tryd.prog 134 #[.agg ⟨_⟩, .int .u8 z.toNat, .int .i64 i.c] E.to (Gives (.bool (namesM p f z i.c)) E.to)) := fun E => names_c _ p f z i.c E.to (HL.out _ (K1.out.trans (E.below.mono K1.out.size))) hr
      rw [b0] at B0
      clear b0
      go_wp2_with fail
      refine wp_region_up (by kernel_rfl) (by kernel_rfl) ?_
      repeat (go_big_quiet_step ((first
        | (go_at_call 133; with_reducible exact Calls.up_eq (B0.out _))
        | (go_at_call 134; with_reducible exact Calls.up (B1.out _))
        | (go_at_call 134; with_reducible exact Calls.up (B2.out _))
        | (go_at_call 134; with_reducible exact Calls.up (B3.out _)))))
      refine wpQuiet_nil ?_
      rintro _ ⟨E, rfl⟩
      have KE := Lib.hid (K1.out.trans (E.below.mono K1.out.size))
      have KF := Lib.hid (k0.out.trans (KE.out.mono k0.out.size))
      clear c0 c1 c2 c3 c4 c5 c6 c7 d0 d1 d2 d3 d4
      go_wp2_with fail
      go_ret
      exact ⟨rfl, KF.out⟩
    · have tt0 := trivial
      cases b1 : namesM p f x i.a
      · clear hn'
        go_enter Tryd.func110, Tryd.ntmps110
        go_wp2_with fail
        rw [← HW.out]
        refine (form_c i.op w0).mono ?_
        rw [HF.out]
        rintro e w1 ⟨rfl, k1⟩
        have K1 := Lib.hid k1
        have c0 : ∀ E : Up w1, E.to.cell? ⟨w.heap.size, 0, none⟩ = some (.slice A1 p.fns.length n1) := fun E => E.cell (h1.out.on k1 0 _ rfl)
        have c1 : ∀ E : Up w1, E.to.cell? ⟨w.heap.size, 1, none⟩ = some (.slice A2 p.consts.length n2) := fun E => E.cell (h1.out.on k1 1 _ rfl)
        have c2 : ∀ E : Up w1, E.to.cell? ⟨w.heap.size, 2, none⟩ = some (.slice A3 p.texts.length n3) := fun E => E.cell (h1.out.on k1 2 _ rfl)
        have c3 : ∀ E : Up w1, E.to.cell? ⟨w.heap.size, 3, none⟩ = some (.int .i64 f.params) := fun E => E.cell (h1.out.on k1 3 _ rfl)
        have c4 : ∀ E : Up w1, E.to.cell? ⟨w.heap.size, 4, none⟩ = some (.int .i64 f.regs) := fun E => E.cell (h1.out.on k1 4 _ rfl)
        have c5 : ∀ E : Up w1, E.to.cell? ⟨w.heap.size, 5, none⟩ = some (.bool f.gen) := fun E => E.cell (h1.out.on k1 5 _ rfl)
        have c6 : ∀ E : Up w1, E.to.cell? ⟨w.heap.size, 6, none⟩ = some (.slice A4 f.caught.length n4) := fun E => E.cell (h1.out.on k1 6 _ rfl)
        have c7 : ∀ E : Up w1, E.to.cell? ⟨w.heap.size, 7, none⟩ = some (.slice A5 f.code.length n5) := fun E => E.cell (h1.out.on k1 7 _ rfl)
        have d0 : ∀ E : Up w1, E.to.cell? ⟨w.heap.size + 1, 0, none⟩ = some (.int .i64 i.op) := fun E => E.cell (h2.out.on k1 0 _ rfl)
        have d1 : ∀ E : Up w1, E.to.cell? ⟨w.heap.size + 1, 1, none⟩ = some (.int .i64 i.a) := fun E => E.cell (h2.out.on k1 1 _ rfl)
        have d2 : ∀ E : Up w1, E.to.cell? ⟨w.heap.size + 1, 2, none⟩ = some (.int .i64 i.b) := fun E => E.cell (h2.out.on k1 2 _ rfl)
        have d3 : ∀ E : Up w1, E.to.cell? ⟨w.heap.size + 1, 3, none⟩ = some (.int .i64 i.c) := fun E => E.cell (h2.out.on k1 3 _ rfl)
        have d4 : ∀ E : Up w1, E.to.cell? ⟨w.heap.size + 1, 4, none⟩ = some (.int .i64 i.line) := fun E => E.cell (h2.out.on k1 4 _ rfl)
        clear k1
        have B0 : Hid (∀ E : Up w1, Calls Tryd.prog 133 #[.int .i64 i.line, .int .i64 0, .int .i64 2000] E.to fun e w' => e = .returned (.bool (withinM i.line 0 2000)) ∧ E.to = w') := fun E => within_c _ _ _ _
        have B1 : Hid (∀ E : Up w1, Calls Tryd.prog 134 #[.agg ⟨_⟩, .int .u8 x.toNat, .int .i64 i.a] E.to (Gives (.bool (namesM p f x i.a)) E.to)) := fun E => names_c _ p f x i.a E.to (HL.out _ (K1.out.trans (E.below.mono K1.out.size))) hr
        have B2 : Hid (∀ E : Up w1, Calls Tryd.prog 134 #[.agg ⟨_⟩, .int .u8 y.toNat, .int .i64 i.b] E.to (Gives (.bool (namesM p f y i.b)) E.to)) := fun E => names_c _ p f y i.b E.to (HL.out _ (K1.out.trans (E.below.mono K1.out.size))) hr
        have B3 : Hid (∀ E : Up w1, Calls Tryd.prog 134 #[.agg ⟨_⟩, .int .u8 z.toNat, .int .i64 i.c] E.to (Gives (.bool (namesM p f z i.c)) E.to)) := fun E => names_c _ p f z i.c E.to (HL.out _ (K1.out.trans (E.below.mono K1.out.size))) hr
        rw [b0] at B0
        rw [b1] at B1
        clear b0 b1
        go_wp2_with fail
        refine wp_region_up (by kernel_rfl) (by kernel_rfl) ?_
        repeat (go_big_quiet_step ((first
          | (go_at_call 133; with_reducible exact Calls.up_eq (B0.out _))
          | (go_at_call 134; with_reducible exact Calls.up (B1.out _))
          | (go_at_call 134; with_reducible exact Calls.up (B2.out _))
          | (go_at_call 134; with_reducible exact Calls.up (B3.out _)))))
        refine wpQuiet_nil ?_
        rintro _ ⟨E, rfl⟩
        have KE := Lib.hid (K1.out.trans (E.below.mono K1.out.size))
        have KF := Lib.hid (k0.out.trans (KE.out.mono k0.out.size))
        clear c0 c1 c2 c3 c4 c5 c6 c7 d0 d1 d2 d3 d4
        go_wp2_with fail
        go_ret
        exact ⟨rfl, KF.out⟩
      · have tt1 := trivial
        cases b2 : namesM p f y i.b
        · clear hn'
          go_enter Tryd.func110, Tryd.ntmps110
          go_wp2_with fail
          rw [← HW.out]
          refine (form_c i.op w0).mono ?_
          rw [HF.out]
          rintro e w1 ⟨rfl, k1⟩
          have K1 := Lib.hid k1
          have c0 : ∀ E : Up w1, E.to.cell? ⟨w.heap.size, 0, none⟩ = some (.slice A1 p.fns.length n1) := fun E => E.cell (h1.out.on k1 0 _ rfl)
          have c1 : ∀ E : Up w1, E.to.cell? ⟨w.heap.size, 1, none⟩ = some (.slice A2 p.consts.length n2) := fun E => E.cell (h1.out.on k1 1 _ rfl)
          have c2 : ∀ E : Up w1, E.to.cell? ⟨w.heap.size, 2, none⟩ = some (.slice A3 p.texts.length n3) := fun E => E.cell (h1.out.on k1 2 _ rfl)
          have c3 : ∀ E : Up w1, E.to.cell? ⟨w.heap.size, 3, none⟩ = some (.int .i64 f.params) := fun E => E.cell (h1.out.on k1 3 _ rfl)
          have c4 : ∀ E : Up w1, E.to.cell? ⟨w.heap.size, 4, none⟩ = some (.int .i64 f.regs) := fun E => E.cell (h1.out.on k1 4 _ rfl)
          have c5 : ∀ E : Up w1, E.to.cell? ⟨w.heap.size, 5, none⟩ = some (.bool f.gen) := fun E => E.cell (h1.out.on k1 5 _ rfl)
          have c6 : ∀ E : Up w1, E.to.cell? ⟨w.heap.size, 6, none⟩ = some (.slice A4 f.caught.length n4) := fun E => E.cell (h1.out.on k1 6 _ rfl)
          have c7 : ∀ E : Up w1, E.to.cell? ⟨w.heap.size, 7, none⟩ = some (.slice A5 f.code.length n5) := fun E => E.cell (h1.out.on k1 7 _ rfl)
          have d0 : ∀ E : Up w1, E.to.cell? ⟨w.heap.size + 1, 0, none⟩ = some (.int .i64 i.op) := fun E => E.cell (h2.out.on k1 0 _ rfl)
          have d1 : ∀ E : Up w1, E.to.cell? ⟨w.heap.size + 1, 1, none⟩ = some (.int .i64 i.a) := fun E => E.cell (h2.out.on k1 1 _ rfl)
          have d2 : ∀ E : Up w1, E.to.cell? ⟨w.heap.size + 1, 2, none⟩ = some (.int .i64 i.b) := fun E => E.cell (h2.out.on k1 2 _ rfl)
          have d3 : ∀ E : Up w1, E.to.cell? ⟨w.heap.size + 1, 3, none⟩ = some (.int .i64 i.c) := fun E => E.cell (h2.out.on k1 3 _ rfl)
          have d4 : ∀ E : Up w1, E.to.cell? ⟨w.heap.size + 1, 4, none⟩ = some (.int .i64 i.line) := fun E => E.cell (h2.out.on k1 4 _ rfl)
          clear k1
          have B0 : Hid (∀ E : Up w1, Calls Tryd.prog 133 #[.int .i64 i.line, .int .i64 0, .int .i64 2000] E.to fun e w' => e = .returned (.bool (withinM i.line 0 2000)) ∧ E.to = w') := fun E => within_c _ _ _ _
          have B1 : Hid (∀ E : Up w1, Calls Tryd.prog 134 #[.agg ⟨_⟩, .int .u8 x.toNat, .int .i64 i.a] E.to (Gives (.bool (namesM p f x i.a)) E.to)) := fun E => names_c _ p f x i.a E.to (HL.out _ (K1.out.trans (E.below.mono K1.out.size))) hr
          have B2 : Hid (∀ E : Up w1, Calls Tryd.prog 134 #[.agg ⟨_⟩, .int .u8 y.toNat, .int .i64 i.b] E.to (Gives (.bool (namesM p f y i.b)) E.to)) := fun E => names_c _ p f y i.b E.to (HL.out _ (K1.out.trans (E.below.mono K1.out.size))) hr
          have B3 : Hid (∀ E : Up w1, Calls Tryd.prog 134 #[.agg ⟨_⟩, .int .u8 z.toNat, .int .i64 i.c] E.to (Gives (.bool (namesM p f z i.c)) E.to)) := fun E => names_c _ p f z i.c E.to (HL.out _ (K1.out.trans (E.below.mono K1.out.size))) hr
          rw [b0] at B0
          rw [b1] at B1
          rw [b2] at B2
          clear b0 b1 b2
          go_wp2_with fail
          refine wp_region_up (by kernel_rfl) (by kernel_rfl) ?_
          repeat (go_big_quiet_step ((first
            | (go_at_call 133; with_reducible exact Calls.up_eq (B0.out _))
            | (go_at_call 134; with_reducible exact Calls.up (B1.out _))
            | (go_at_call 134; with_reducible exact Calls.up (B2.out _))
            | (go_at_call 134; with_reducible exact Calls.up (B3.out _)))))
          refine wpQuiet_nil ?_
          rintro _ ⟨E, rfl⟩
          have KE := Lib.hid (K1.out.trans (E.below.mono K1.out.size))
          have KF := Lib.hid (k0.out.trans (KE.out.mono k0.out.size))
          clear c0 c1 c2 c3 c4 c5 c6 c7 d0 d1 d2 d3 d4
          go_wp2_with fail
          go_ret
          exact ⟨rfl, KF.out⟩
        · have tt2 := trivial
          cases b3 : namesM p f z i.c
          · clear hn'
            go_enter Tryd.func110, Tryd.ntmps110
            go_wp2_with fail
            rw [← HW.out]
            refine (form_c i.op w0).mono ?_
            rw [HF.out]
            rintro e w1 ⟨rfl, k1⟩
            have K1 := Lib.hid k1
            have c0 : ∀ E : Up w1, E.to.cell? ⟨w.heap.size, 0, none⟩ = some (.slice A1 p.fns.length n1) := fun E => E.cell (h1.out.on k1 0 _ rfl)
            have c1 : ∀ E : Up w1, E.to.cell? ⟨w.heap.size, 1, none⟩ = some (.slice A2 p.consts.length n2) := fun E => E.cell (h1.out.on k1 1 _ rfl)
            have c2 : ∀ E : Up w1, E.to.cell? ⟨w.heap.size, 2, none⟩ = some (.slice A3 p.texts.length n3) := fun E => E.cell (h1.out.on k1 2 _ rfl)
            have c3 : ∀ E : Up w1, E.to.cell? ⟨w.heap.size, 3, none⟩ = some (.int .i64 f.params) := fun E => E.cell (h1.out.on k1 3 _ rfl)
            have c4 : ∀ E : Up w1, E.to.cell? ⟨w.heap.size, 4, none⟩ = some (.int .i64 f.regs) := fun E => E.cell (h1.out.on k1 4 _ rfl)
            have c5 : ∀ E : Up w1, E.to.cell? ⟨w.heap.size, 5, none⟩ = some (.bool f.gen) := fun E => E.cell (h1.out.on k1 5 _ rfl)
            have c6 : ∀ E : Up w1, E.to.cell? ⟨w.heap.size, 6, none⟩ = some (.slice A4 f.caught.length n4) := fun E => E.cell (h1.out.on k1 6 _ rfl)
            have c7 : ∀ E : Up w1, E.to.cell? ⟨w.heap.size, 7, none⟩ = some (.slice A5 f.code.length n5) := fun E => E.cell (h1.out.on k1 7 _ rfl)
            have d0 : ∀ E : Up w1, E.to.cell? ⟨w.heap.size + 1, 0, none⟩ = some (.int .i64 i.op) := fun E => E.cell (h2.out.on k1 0 _ rfl)
            have d1 : ∀ E : Up w1, E.to.cell? ⟨w.heap.size + 1, 1, none⟩ = some (.int .i64 i.a) := fun E => E.cell (h2.out.on k1 1 _ rfl)
            have d2 : ∀ E : Up w1, E.to.cell? ⟨w.heap.size + 1, 2, none⟩ = some (.int .i64 i.b) := fun E => E.cell (h2.out.on k1 2 _ rfl)
            have d3 : ∀ E : Up w1, E.to.cell? ⟨w.heap.size + 1, 3, none⟩ = some (.int .i64 i.c) := fun E => E.cell (h2.out.on k1 3 _ rfl)
            have d4 : ∀ E : Up w1, E.to.cell? ⟨w.heap.size + 1, 4, none⟩ = some (.int .i64 i.line) := fun E => E.cell (h2.out.on k1 4 _ rfl)
            clear k1
            have B0 : Hid (∀ E : Up w1, Calls Tryd.prog 133 #[.int .i64 i.line, .int .i64 0, .int .i64 2000] E.to fun e w' => e = .returned (.bool (withinM i.line 0 2000)) ∧ E.to = w') := fun E => within_c _ _ _ _
            have B1 : Hid (∀ E : Up w1, Calls Tryd.prog 134 #[.agg ⟨_⟩, .int .u8 x.toNat, .int .i64 i.a] E.to (Gives (.bool (namesM p f x i.a)) E.to)) := fun E => names_c _ p f x i.a E.to (HL.out _ (K1.out.trans (E.below.mono K1.out.size))) hr
            have B2 : Hid (∀ E : Up w1, Calls Tryd.prog 134 #[.agg ⟨_⟩, .int .u8 y.toNat, .int .i64 i.b] E.to (Gives (.bool (namesM p f y i.b)) E.to)) := fun E => names_c _ p f y i.b E.to (HL.out _ (K1.out.trans (E.below.mono K1.out.size))) hr
            have B3 : Hid (∀ E : Up w1, Calls Tryd.prog 134 #[.agg ⟨_⟩, .int .u8 z.toNat, .int .i64 i.c] E.to (Gives (.bool (namesM p f z i.c)) E.to)) := fun E => names_c _ p f z i.c E.to (HL.out _ (K1.out.trans (E.below.mono K1.out.size))) hr
            rw [b0] at B0
            rw [b1] at B1
            rw [b2] at B2
            rw [b3] at B3
            clear b0 b1 b2 b3
            go_wp2_with fail
            refine wp_region_up (by kernel_rfl) (by kernel_rfl) ?_
            repeat (go_big_quiet_step ((first
              | (go_at_call 133; with_reducible exact Calls.up_eq (B0.out _))
              | (go_at_call 134; with_reducible exact Calls.up (B1.out _))
              | (go_at_call 134; with_reducible exact Calls.up (B2.out _))
              | (go_at_call 134; with_reducible exact Calls.up (B3.out _)))))
            refine wpQuiet_nil ?_
            rintro _ ⟨E, rfl⟩
            have KE := Lib.hid (K1.out.trans (E.below.mono K1.out.size))
            have KF := Lib.hid (k0.out.trans (KE.out.mono k0.out.size))
            clear c0 c1 c2 c3 c4 c5 c6 c7 d0 d1 d2 d3 d4
            go_wp2_with fail
            go_ret
            exact ⟨rfl, KF.out⟩
          · exact absurd hn' (by rw [b0, b1, b2, b3]; decide)
end Go.Proofs.YtmccomeihnaanaaDoor
