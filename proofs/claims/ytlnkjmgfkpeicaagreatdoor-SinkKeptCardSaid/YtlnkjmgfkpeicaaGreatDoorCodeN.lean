/- Package code: order. Printed by wip/gen_order.py. Package code: order. Printed by wip/gen_order.py. slices.Equal of texts, of tries; slices.Clone of tries. -/
import Derived.Test.YtlnkjmgfkpeicaaGreatDoorCodeK
import Derived.WalkSpells
import Derived.Lib.Strings
set_option linter.all false
namespace Go.Proofs.YtlnkjmgfkpeicaaGreatDoor
open Go.RowKit

theorem Calls.up_eq {P : Program} {f : FuncId} {args : Array Value} {w : World} {E : Up w} {v : Value}
    (h : Calls P f args E.to fun e w' => e = .returned v ∧ E.to = w') : Calls P f args E.to fun e w'' => e = .returned v ∧ ∃ E' : Up w, w'' = E'.to :=
  h.mono fun _ _ ⟨he, hb⟩ => ⟨he, E, hb.symm⟩
theorem idx_str (s : ByteArray) (x y z : UInt8) (h : s.data.toList = [x, y, z]) : s.size = 3 ∧ ∀ (n : Nat) (hn : n < s.size), s[n] = [x, y, z][n]'(by have : s.size = 3 := (by have := congrArg List.length h; simpa using this); simp; omega) := by
  have hs : s.size = 3 := by have := congrArg List.length h; simpa using this
  refine ⟨hs, fun n hn => ?_⟩
  have e : s.data.toList[n]'(by simpa using hn) = [x, y, z][n]'(by simp; omega) := by simp [h]
  rw [← e]
  rfl

set_option maxHeartbeats 2000000 in
set_option maxRecDepth 100000 in
theorem order_un (cs ics : List Value) (p : CProg) (f : CFn) (at_ : Int) (i : CIns) (w : World) (h : LookR w w.heap.size cs p f) (hr : 1 ≤ f.regs) (hr2 : f.regs ≤ 60) (hi : CInsR ics i) (hn : namedM p f i = false) :
    Calls Tryz.prog 50 #[.agg ⟨cs⟩, .int .i64 at_, .agg ⟨ics⟩] w (Gives (.bool false) w) := by
  obtain ⟨w0, hw0⟩ : ∃ w0, w0 = (w.alloc (.cells ⟨cs⟩ 110)).alloc (.cells ⟨ics⟩ 112) := ⟨_, rfl⟩
  have k0 : Hid (Below w.heap.size w w0) := by rw [hw0]; exact below_two' w _ _
  have h1 : Hid (HeadAt w0 w.heap.size cs) := by rw [hw0]; exact (HeadAt.box w cs _).old _
  have h2 : Hid (HeadAt w0 (w.heap.size + 1) ics) := by rw [hw0]; exact fun i v hv => by rw [two_cell1]; simpa using hv
  have HL : Hid (∀ w', Below w0.heap.size w0 w' → LookR w' w'.heap.size cs p f) := fun w' k => h.keep (Nat.le_trans k0.out.size k.size) (fun _ h => (k.cell (Nat.lt_of_lt_of_le h k0.out.size)).trans (k0.out.cell h))
  obtain ⟨rfl, v1, v2, v3, v4, v5⟩ := hi
  obtain ⟨pc, fc, rfl, ⟨A1, n1, A2, n2, A3, n3, rfl, p1, p2, p3⟩, ⟨A4, n4, A5, n5, rfl, q1, q2, w1', w2'⟩⟩ := h
  have l1 := len_le p1
  have P1 := Lib.hid p1
  clear p1 p2 p3 q1 q2
  simp only [List.cons_append, List.nil_append] at hw0 h1 HL
  have HW := Lib.hid hw0
  clear hw0
  rcases formS_three i.op with hf | ⟨x, y, z, hf⟩
  · have HF := Lib.hid hf
    clear hf hn
    go_enter Tryz.func50, Tryz.ntmps50
    go_wp2_with fail
    rw [← HW.out]
    refine (form_c i.op w0).mono ?_
    rw [HF.out]
    rintro e w1 ⟨rfl, k1⟩
    have K1 := Lib.hid k1
    have c0 : ∀ E : Up w1, E.to.cell? ⟨w.heap.size, 0, none⟩ = some (.slice A1 p.fns.length n1) := fun E => E.cell (h1.out.on k1 0 _ rfl)
    have c1 : ∀ E : Up w1, E.to.cell? ⟨w.heap.size, 1, none⟩ = some (.slice A2 p.consts.length n2) := fun E => E.cell (h1.out.on k1 1 _ rfl)
    have c2 : ∀ E : Up w1, E.to.cell? ⟨w.heap.size, 2, none⟩ = some (.slice A3 p.texts.length n3) := fun E => E.cell (h1.out.on k1 2 _ rfl)
    have c3 : ∀ E : Up w1, E.to.cell? ⟨w.heap.size, 3, none⟩ = some (.int .i64 f.params) := fun E => E.cell (h1.out.on k1 3 _ rfl)
    have c4 : ∀ E : Up w1, E.to.cell? ⟨w.heap.size, 4, none⟩ = some (.int .i64 f.regs) := fun E => E.cell (h1.out.on k1 4 _ rfl)
    have c5 : ∀ E : Up w1, E.to.cell? ⟨w.heap.size, 5, none⟩ = some (.bool f.gen) := fun E => E.cell (h1.out.on k1 5 _ rfl)
    have c6 : ∀ E : Up w1, E.to.cell? ⟨w.heap.size, 6, none⟩ = some (.slice A4 f.caught.length n4) := fun E => E.cell (h1.out.on k1 6 _ rfl)
    have c7 : ∀ E : Up w1, E.to.cell? ⟨w.heap.size, 7, none⟩ = some (.slice A5 f.code.length n5) := fun E => E.cell (h1.out.on k1 7 _ rfl)
    have d0 : ∀ E : Up w1, E.to.cell? ⟨w.heap.size + 1, 0, none⟩ = some (.int .i64 i.op) := fun E => E.cell (h2.out.on k1 0 _ rfl)
    have d1 : ∀ E : Up w1, E.to.cell? ⟨w.heap.size + 1, 1, none⟩ = some (.int .i64 i.a) := fun E => E.cell (h2.out.on k1 1 _ rfl)
    have d2 : ∀ E : Up w1, E.to.cell? ⟨w.heap.size + 1, 2, none⟩ = some (.int .i64 i.b) := fun E => E.cell (h2.out.on k1 2 _ rfl)
    have d3 : ∀ E : Up w1, E.to.cell? ⟨w.heap.size + 1, 3, none⟩ = some (.int .i64 i.c) := fun E => E.cell (h2.out.on k1 3 _ rfl)
    have d4 : ∀ E : Up w1, E.to.cell? ⟨w.heap.size + 1, 4, none⟩ = some (.int .i64 i.line) := fun E => E.cell (h2.out.on k1 4 _ rfl)
    clear k1
    go_wp2_with fail
    refine wp_region_up (by kernel_rfl) (by kernel_rfl) ?_
    repeat (go_big_quiet_step (fail))
    refine wpQuiet_nil ?_
    rintro _ ⟨E, rfl⟩
    have KF := Lib.hid (k0.out.trans ((K1.out.trans (E.below.mono K1.out.size)).mono k0.out.size))
    clear c0 c1 c2 c3 c4 c5 c6 c7 d0 d1 d2 d3 d4
    go_wp2_with fail
    go_ret
    exact ⟨rfl, KF.out⟩
  · have HF := Lib.hid hf
    have hn' : (withinM i.line 0 2000 && namesM p f x i.a && namesM p f y i.b && namesM p f z i.c) = false := by rw [← hn]; simp [namedM, hf]
    clear hf hn
    obtain ⟨sz, six⟩ := idx_str ⟨#[x, y, z]⟩ x y z rfl
    have i0 : ∀ W, (Instr.index 9 (.string ⟨#[x, y, z]⟩) (.int .i64 0)).run Tryz.prog W = .ok (.int .u8 x.toNat) W := fun W => by rw [run_index_string _ _ _ _ _ Tryz.underlying9, dif_pos ⟨by omega, by rw [sz]; decide⟩]; rfl
    have i1 : ∀ W, (Instr.index 9 (.string ⟨#[x, y, z]⟩) (.int .i64 1)).run Tryz.prog W = .ok (.int .u8 y.toNat) W := fun W => by rw [run_index_string _ _ _ _ _ Tryz.underlying9, dif_pos ⟨by omega, by rw [sz]; decide⟩]; rfl
    have i2 : ∀ W, (Instr.index 9 (.string ⟨#[x, y, z]⟩) (.int .i64 2)).run Tryz.prog W = .ok (.int .u8 z.toNat) W := fun W => by rw [run_index_string _ _ _ _ _ Tryz.underlying9, dif_pos ⟨by omega, by rw [sz]; decide⟩]; rfl
    clear sz six
    cases b0 : withinM i.line 0 2000
    · clear hn'
      go_enter Tryz.func50, Tryz.ntmps50
      go_wp2_with fail
      rw [← HW.out]
      refine (form_c i.op w0).mono ?_
      rw [HF.out]
      rintro e w1 ⟨rfl, k1⟩
      have K1 := Lib.hid k1
      have c0 : ∀ E : Up w1, E.to.cell? ⟨w.heap.size, 0, none⟩ = some (.slice A1 p.fns.length n1) := fun E => E.cell (h1.out.on k1 0 _ rfl)
      have c1 : ∀ E : Up w1, E.to.cell? ⟨w.heap.size, 1, none⟩ = some (.slice A2 p.consts.length n2) := fun E => E.cell (h1.out.on k1 1 _ rfl)
      have c2 : ∀ E : Up w1, E.to.cell? ⟨w.heap.size, 2, none⟩ = some (.slice A3 p.texts.length n3) := fun E => E.cell (h1.out.on k1 2 _ rfl)
      have c3 : ∀ E : Up w1, E.to.cell? ⟨w.heap.size, 3, none⟩ = some (.int .i64 f.params) := fun E => E.cell (h1.out.on k1 3 _ rfl)
      have c4 : ∀ E : Up w1, E.to.cell? ⟨w.heap.size, 4, none⟩ = some (.int .i64 f.regs) := fun E => E.cell (h1.out.on k1 4 _ rfl)
      have c5 : ∀ E : Up w1, E.to.cell? ⟨w.heap.size, 5, none⟩ = some (.bool f.gen) := fun E => E.cell (h1.out.on k1 5 _ rfl)
      have c6 : ∀ E : Up w1, E.to.cell? ⟨w.heap.size, 6, none⟩ = some (.slice A4 f.caught.length n4) := fun E => E.cell (h1.out.on k1 6 _ rfl)
      have c7 : ∀ E : Up w1, E.to.cell? ⟨w.heap.size, 7, none⟩ = some (.slice A5 f.code.length n5) := fun E => E.cell (h1.out.on k1 7 _ rfl)
      have d0 : ∀ E : Up w1, E.to.cell? ⟨w.heap.size + 1, 0, none⟩ = some (.int .i64 i.op) := fun E => E.cell (h2.out.on k1 0 _ rfl)
      have d1 : ∀ E : Up w1, E.to.cell? ⟨w.heap.size + 1, 1, none⟩ = some (.int .i64 i.a) := fun E => E.cell (h2.out.on k1 1 _ rfl)
      have d2 : ∀ E : Up w1, E.to.cell? ⟨w.heap.size + 1, 2, none⟩ = some (.int .i64 i.b) := fun E => E.cell (h2.out.on k1 2 _ rfl)
      have d3 : ∀ E : Up w1, E.to.cell? ⟨w.heap.size + 1, 3, none⟩ = some (.int .i64 i.c) := fun E => E.cell (h2.out.on k1 3 _ rfl)
      have d4 : ∀ E : Up w1, E.to.cell? ⟨w.heap.size + 1, 4, none⟩ = some (.int .i64 i.line) := fun E => E.cell (h2.out.on k1 4 _ rfl)
      clear k1
      have B0 : Hid (∀ E : Up w1, Calls Tryz.prog 68 #[.int .i64 i.line, .int .i64 0, .int .i64 2000] E.to fun e w' => e = .returned (.bool (withinM i.line 0 2000)) ∧ E.to = w') := fun E => within_c _ _ _ _
      have B1 : Hid (∀ E : Up w1, Calls Tryz.prog 69 #[.agg ⟨_⟩, .int .u8 x.toNat, .int .i64 i.a] E.to (Gives (.bool (namesM p f x i.a)) E.to)) := fun E => names_c _ p f x i.a E.to (HL.out _ (K1.out.trans (E.below.mono K1.out.size))) hr
      have B2 : Hid (∀ E : Up w1, Calls Tryz.prog 69 #[.agg ⟨_⟩, .int .u8 y.toNat, .int .i64 i.b] E.to (Gives (.bool (namesM p f y i.b)) E.to)) := fun E => names_c _ p f y i.b E.to (HL.out _ (K1.out.trans (E.below.mono K1.out.size))) hr
      have B3 : Hid (∀ E : Up w1, Calls Tryz.prog 69 #[.agg ⟨_⟩, .int .u8 z.toNat, .int .i64 i.c] E.to (Gives (.bool (namesM p f z i.c)) E.to)) := fun E => names_c _ p f z i.c E.to (HL.out _ (K1.out.trans (E.below.mono K1.out.size))) hr
      rw [b0] at B0
      clear b0
      go_wp2_with fail
      refine wp_region_up (by kernel_rfl) (by kernel_rfl) ?_
      repeat (go_big_quiet_step ((first
        | (go_at_call 68; with_reducible exact Calls.up_eq (B0.out _))
        | (go_at_call 69; with_reducible exact Calls.up (B1.out _))
        | (go_at_call 69; with_reducible exact Calls.up (B2.out _))
        | (go_at_call 69; with_reducible exact Calls.up (B3.out _)))))
      refine wpQuiet_nil ?_
      rintro _ ⟨E, rfl⟩
      have KE := Lib.hid (K1.out.trans (E.below.mono K1.out.size))
      have KF := Lib.hid (k0.out.trans (KE.out.mono k0.out.size))
      clear c0 c1 c2 c3 c4 c5 c6 c7 d0 d1 d2 d3 d4
      go_wp2_with fail
      go_ret
      exact ⟨rfl, KF.out⟩
    · have tt0 := trivial
      cases b1 : namesM p f x i.a
      · clear hn'
        go_enter Tryz.func50, Tryz.ntmps50
        go_wp2_with fail
        rw [← HW.out]
        refine (form_c i.op w0).mono ?_
        rw [HF.out]
        rintro e w1 ⟨rfl, k1⟩
        have K1 := Lib.hid k1
        have c0 : ∀ E : Up w1, E.to.cell? ⟨w.heap.size, 0, none⟩ = some (.slice A1 p.fns.length n1) := fun E => E.cell (h1.out.on k1 0 _ rfl)
        have c1 : ∀ E : Up w1, E.to.cell? ⟨w.heap.size, 1, none⟩ = some (.slice A2 p.consts.length n2) := fun E => E.cell (h1.out.on k1 1 _ rfl)
        have c2 : ∀ E : Up w1, E.to.cell? ⟨w.heap.size, 2, none⟩ = some (.slice A3 p.texts.length n3) := fun E => E.cell (h1.out.on k1 2 _ rfl)
        have c3 : ∀ E : Up w1, E.to.cell? ⟨w.heap.size, 3, none⟩ = some (.int .i64 f.params) := fun E => E.cell (h1.out.on k1 3 _ rfl)
        have c4 : ∀ E : Up w1, E.to.cell? ⟨w.heap.size, 4, none⟩ = some (.int .i64 f.regs) := fun E => E.cell (h1.out.on k1 4 _ rfl)
        have c5 : ∀ E : Up w1, E.to.cell? ⟨w.heap.size, 5, none⟩ = some (.bool f.gen) := fun E => E.cell (h1.out.on k1 5 _ rfl)
        have c6 : ∀ E : Up w1, E.to.cell? ⟨w.heap.size, 6, none⟩ = some (.slice A4 f.caught.length n4) := fun E => E.cell (h1.out.on k1 6 _ rfl)
        have c7 : ∀ E : Up w1, E.to.cell? ⟨w.heap.size, 7, none⟩ = some (.slice A5 f.code.length n5) := fun E => E.cell (h1.out.on k1 7 _ rfl)
        have d0 : ∀ E : Up w1, E.to.cell? ⟨w.heap.size + 1, 0, none⟩ = some (.int .i64 i.op) := fun E => E.cell (h2.out.on k1 0 _ rfl)
        have d1 : ∀ E : Up w1, E.to.cell? ⟨w.heap.size + 1, 1, none⟩ = some (.int .i64 i.a) := fun E => E.cell (h2.out.on k1 1 _ rfl)
        have d2 : ∀ E : Up w1, E.to.cell? ⟨w.heap.size + 1, 2, none⟩ = some (.int .i64 i.b) := fun E => E.cell (h2.out.on k1 2 _ rfl)
        have d3 : ∀ E : Up w1, E.to.cell? ⟨w.heap.size + 1, 3, none⟩ = some (.int .i64 i.c) := fun E => E.cell (h2.out.on k1 3 _ rfl)
        have d4 : ∀ E : Up w1, E.to.cell? ⟨w.heap.size + 1, 4, none⟩ = some (.int .i64 i.line) := fun E => E.cell (h2.out.on k1 4 _ rfl)
        clear k1
        have B0 : Hid (∀ E : Up w1, Calls Tryz.prog 68 #[.int .i64 i.line, .int .i64 0, .int .i64 2000] E.to fun e w' => e = .returned (.bool (withinM i.line 0 2000)) ∧ E.to = w') := fun E => within_c _ _ _ _
        have B1 : Hid (∀ E : Up w1, Calls Tryz.prog 69 #[.agg ⟨_⟩, .int .u8 x.toNat, .int .i64 i.a] E.to (Gives (.bool (namesM p f x i.a)) E.to)) := fun E => names_c _ p f x i.a E.to (HL.out _ (K1.out.trans (E.below.mono K1.out.size))) hr
        have B2 : Hid (∀ E : Up w1, Calls Tryz.prog 69 #[.agg ⟨_⟩, .int .u8 y.toNat, .int .i64 i.b] E.to (Gives (.bool (namesM p f y i.b)) E.to)) := fun E => names_c _ p f y i.b E.to (HL.out _ (K1.out.trans (E.below.mono K1.out.size))) hr
        have B3 : Hid (∀ E : Up w1, Calls Tryz.prog 69 #[.agg ⟨_⟩, .int .u8 z.toNat, .int .i64 i.c] E.to (Gives (.bool (namesM p f z i.c)) E.to)) := fun E => names_c _ p f z i.c E.to (HL.out _ (K1.out.trans (E.below.mono K1.out.size))) hr
        rw [b0] at B0
        rw [b1] at B1
        clear b0 b1
        go_wp2_with fail
        refine wp_region_up (by kernel_rfl) (by kernel_rfl) ?_
        repeat (go_big_quiet_step ((first
          | (go_at_call 68; with_reducible exact Calls.up_eq (B0.out _))
          | (go_at_call 69; with_reducible exact Calls.up (B1.out _))
          | (go_at_call 69; with_reducible exact Calls.up (B2.out _))
          | (go_at_call 69; with_reducible exact Calls.up (B3.out _)))))
        refine wpQuiet_nil ?_
        rintro _ ⟨E, rfl⟩
        have KE := Lib.hid (K1.out.trans (E.below.mono K1.out.size))
        have KF := Lib.hid (k0.out.trans (KE.out.mono k0.out.size))
        clear c0 c1 c2 c3 c4 c5 c6 c7 d0 d1 d2 d3 d4
        go_wp2_with fail
        go_ret
        exact ⟨rfl, KF.out⟩
      · have tt1 := trivial
        cases b2 : namesM p f y i.b
        · clear hn'
          go_enter Tryz.func50, Tryz.ntmps50
          go_wp2_with fail
          rw [← HW.out]
          refine (form_c i.op w0).mono ?_
          rw [HF.out]
          rintro e w1 ⟨rfl, k1⟩
          have K1 := Lib.hid k1
          have c0 : ∀ E : Up w1, E.to.cell? ⟨w.heap.size, 0, none⟩ = some (.slice A1 p.fns.length n1) := fun E => E.cell (h1.out.on k1 0 _ rfl)
          have c1 : ∀ E : Up w1, E.to.cell? ⟨w.heap.size, 1, none⟩ = some (.slice A2 p.consts.length n2) := fun E => E.cell (h1.out.on k1 1 _ rfl)
          have c2 : ∀ E : Up w1, E.to.cell? ⟨w.heap.size, 2, none⟩ = some (.slice A3 p.texts.length n3) := fun E => E.cell (h1.out.on k1 2 _ rfl)
          have c3 : ∀ E : Up w1, E.to.cell? ⟨w.heap.size, 3, none⟩ = some (.int .i64 f.params) := fun E => E.cell (h1.out.on k1 3 _ rfl)
          have c4 : ∀ E : Up w1, E.to.cell? ⟨w.heap.size, 4, none⟩ = some (.int .i64 f.regs) := fun E => E.cell (h1.out.on k1 4 _ rfl)
          have c5 : ∀ E : Up w1, E.to.cell? ⟨w.heap.size, 5, none⟩ = some (.bool f.gen) := fun E => E.cell (h1.out.on k1 5 _ rfl)
          have c6 : ∀ E : Up w1, E.to.cell? ⟨w.heap.size, 6, none⟩ = some (.slice A4 f.caught.length n4) := fun E => E.cell (h1.out.on k1 6 _ rfl)
          have c7 : ∀ E : Up w1, E.to.cell? ⟨w.heap.size, 7, none⟩ = some (.slice A5 f.code.length n5) := fun E => E.cell (h1.out.on k1 7 _ rfl)
          have d0 : ∀ E : Up w1, E.to.cell? ⟨w.heap.size + 1, 0, none⟩ = some (.int .i64 i.op) := fun E => E.cell (h2.out.on k1 0 _ rfl)
          have d1 : ∀ E : Up w1, E.to.cell? ⟨w.heap.size + 1, 1, none⟩ = some (.int .i64 i.a) := fun E => E.cell (h2.out.on k1 1 _ rfl)
          have d2 : ∀ E : Up w1, E.to.cell? ⟨w.heap.size + 1, 2, none⟩ = some (.int .i64 i.b) := fun E => E.cell (h2.out.on k1 2 _ rfl)
          have d3 : ∀ E : Up w1, E.to.cell? ⟨w.heap.size + 1, 3, none⟩ = some (.int .i64 i.c) := fun E => E.cell (h2.out.on k1 3 _ rfl)
          have d4 : ∀ E : Up w1, E.to.cell? ⟨w.heap.size + 1, 4, none⟩ = some (.int .i64 i.line) := fun E => E.cell (h2.out.on k1 4 _ rfl)
          clear k1
          have B0 : Hid (∀ E : Up w1, Calls Tryz.prog 68 #[.int .i64 i.line, .int .i64 0, .int .i64 2000] E.to fun e w' => e = .returned (.bool (withinM i.line 0 2000)) ∧ E.to = w') := fun E => within_c _ _ _ _
          have B1 : Hid (∀ E : Up w1, Calls Tryz.prog 69 #[.agg ⟨_⟩, .int .u8 x.toNat, .int .i64 i.a] E.to (Gives (.bool (namesM p f x i.a)) E.to)) := fun E => names_c _ p f x i.a E.to (HL.out _ (K1.out.trans (E.below.mono K1.out.size))) hr
          have B2 : Hid (∀ E : Up w1, Calls Tryz.prog 69 #[.agg ⟨_⟩, .int .u8 y.toNat, .int .i64 i.b] E.to (Gives (.bool (namesM p f y i.b)) E.to)) := fun E => names_c _ p f y i.b E.to (HL.out _ (K1.out.trans (E.below.mono K1.out.size))) hr
          have B3 : Hid (∀ E : Up w1, Calls Tryz.prog 69 #[.agg ⟨_⟩, .int .u8 z.toNat, .int .i64 i.c] E.to (Gives (.bool (namesM p f z i.c)) E.to)) := fun E => names_c _ p f z i.c E.to (HL.out _ (K1.out.trans (E.below.mono K1.out.size))) hr
          rw [b0] at B0
          rw [b1] at B1
          rw [b2] at B2
          clear b0 b1 b2
          go_wp2_with fail
          refine wp_region_up (by kernel_rfl) (by kernel_rfl) ?_
          repeat (go_big_quiet_step ((first
            | (go_at_call 68; with_reducible exact Calls.up_eq (B0.out _))
            | (go_at_call 69; with_reducible exact Calls.up (B1.out _))
            | (go_at_call 69; with_reducible exact Calls.up (B2.out _))
            | (go_at_call 69; with_reducible exact Calls.up (B3.out _)))))
          refine wpQuiet_nil ?_
          rintro _ ⟨E, rfl⟩
          have KE := Lib.hid (K1.out.trans (E.below.mono K1.out.size))
          have KF := Lib.hid (k0.out.trans (KE.out.mono k0.out.size))
          clear c0 c1 c2 c3 c4 c5 c6 c7 d0 d1 d2 d3 d4
          go_wp2_with fail
          go_ret
          exact ⟨rfl, KF.out⟩
        · have tt2 := trivial
          cases b3 : namesM p f z i.c
          · clear hn'
            go_enter Tryz.func50, Tryz.ntmps50
            go_wp2_with fail
            rw [← HW.out]
            refine (form_c i.op w0).mono ?_
            rw [HF.out]
            rintro e w1 ⟨rfl, k1⟩
            have K1 := Lib.hid k1
            have c0 : ∀ E : Up w1, E.to.cell? ⟨w.heap.size, 0, none⟩ = some (.slice A1 p.fns.length n1) := fun E => E.cell (h1.out.on k1 0 _ rfl)
            have c1 : ∀ E : Up w1, E.to.cell? ⟨w.heap.size, 1, none⟩ = some (.slice A2 p.consts.length n2) := fun E => E.cell (h1.out.on k1 1 _ rfl)
            have c2 : ∀ E : Up w1, E.to.cell? ⟨w.heap.size, 2, none⟩ = some (.slice A3 p.texts.length n3) := fun E => E.cell (h1.out.on k1 2 _ rfl)
            have c3 : ∀ E : Up w1, E.to.cell? ⟨w.heap.size, 3, none⟩ = some (.int .i64 f.params) := fun E => E.cell (h1.out.on k1 3 _ rfl)
            have c4 : ∀ E : Up w1, E.to.cell? ⟨w.heap.size, 4, none⟩ = some (.int .i64 f.regs) := fun E => E.cell (h1.out.on k1 4 _ rfl)
            have c5 : ∀ E : Up w1, E.to.cell? ⟨w.heap.size, 5, none⟩ = some (.bool f.gen) := fun E => E.cell (h1.out.on k1 5 _ rfl)
            have c6 : ∀ E : Up w1, E.to.cell? ⟨w.heap.size, 6, none⟩ = some (.slice A4 f.caught.length n4) := fun E => E.cell (h1.out.on k1 6 _ rfl)
            have c7 : ∀ E : Up w1, E.to.cell? ⟨w.heap.size, 7, none⟩ = some (.slice A5 f.code.length n5) := fun E => E.cell (h1.out.on k1 7 _ rfl)
            have d0 : ∀ E : Up w1, E.to.cell? ⟨w.heap.size + 1, 0, none⟩ = some (.int .i64 i.op) := fun E => E.cell (h2.out.on k1 0 _ rfl)
            have d1 : ∀ E : Up w1, E.to.cell? ⟨w.heap.size + 1, 1, none⟩ = some (.int .i64 i.a) := fun E => E.cell (h2.out.on k1 1 _ rfl)
            have d2 : ∀ E : Up w1, E.to.cell? ⟨w.heap.size + 1, 2, none⟩ = some (.int .i64 i.b) := fun E => E.cell (h2.out.on k1 2 _ rfl)
            have d3 : ∀ E : Up w1, E.to.cell? ⟨w.heap.size + 1, 3, none⟩ = some (.int .i64 i.c) := fun E => E.cell (h2.out.on k1 3 _ rfl)
            have d4 : ∀ E : Up w1, E.to.cell? ⟨w.heap.size + 1, 4, none⟩ = some (.int .i64 i.line) := fun E => E.cell (h2.out.on k1 4 _ rfl)
            clear k1
            have B0 : Hid (∀ E : Up w1, Calls Tryz.prog 68 #[.int .i64 i.line, .int .i64 0, .int .i64 2000] E.to fun e w' => e = .returned (.bool (withinM i.line 0 2000)) ∧ E.to = w') := fun E => within_c _ _ _ _
            have B1 : Hid (∀ E : Up w1, Calls Tryz.prog 69 #[.agg ⟨_⟩, .int .u8 x.toNat, .int .i64 i.a] E.to (Gives (.bool (namesM p f x i.a)) E.to)) := fun E => names_c _ p f x i.a E.to (HL.out _ (K1.out.trans (E.below.mono K1.out.size))) hr
            have B2 : Hid (∀ E : Up w1, Calls Tryz.prog 69 #[.agg ⟨_⟩, .int .u8 y.toNat, .int .i64 i.b] E.to (Gives (.bool (namesM p f y i.b)) E.to)) := fun E => names_c _ p f y i.b E.to (HL.out _ (K1.out.trans (E.below.mono K1.out.size))) hr
            have B3 : Hid (∀ E : Up w1, Calls Tryz.prog 69 #[.agg ⟨_⟩, .int .u8 z.toNat, .int .i64 i.c] E.to (Gives (.bool (namesM p f z i.c)) E.to)) := fun E => names_c _ p f z i.c E.to (HL.out _ (K1.out.trans (E.below.mono K1.out.size))) hr
            rw [b0] at B0
            rw [b1] at B1
            rw [b2] at B2
            rw [b3] at B3
            clear b0 b1 b2 b3
            go_wp2_with fail
            refine wp_region_up (by kernel_rfl) (by kernel_rfl) ?_
            repeat (go_big_quiet_step ((first
              | (go_at_call 68; with_reducible exact Calls.up_eq (B0.out _))
              | (go_at_call 69; with_reducible exact Calls.up (B1.out _))
              | (go_at_call 69; with_reducible exact Calls.up (B2.out _))
              | (go_at_call 69; with_reducible exact Calls.up (B3.out _)))))
            refine wpQuiet_nil ?_
            rintro _ ⟨E, rfl⟩
            have KE := Lib.hid (K1.out.trans (E.below.mono K1.out.size))
            have KF := Lib.hid (k0.out.trans (KE.out.mono k0.out.size))
            clear c0 c1 c2 c3 c4 c5 c6 c7 d0 d1 d2 d3 d4
            go_wp2_with fail
            go_ret
            exact ⟨rfl, KF.out⟩
          · exact absurd hn' (by rw [b0, b1, b2, b3]; decide)
end Go.Proofs.YtlnkjmgfkpeicaaGreatDoor
namespace Go.Proofs.YtlnkjmgfkpeicaaGreatDoor
open Go.RowKit

set_option maxHeartbeats 2000000 in
set_option maxRecDepth 100000 in
theorem order_nm (cs ics : List Value) (p : CProg) (f : CFn) (at_ : Int) (i : CIns) (w : World) (h : LookR w w.heap.size cs p f) (hr : 1 ≤ f.regs) (hr2 : f.regs ≤ 60) (hi : CInsR ics i) (hn : namedM p f i = true) :
    Calls Tryz.prog 50 #[.agg ⟨cs⟩, .int .i64 at_, .agg ⟨ics⟩] w (Gives (.bool (orderM p f at_ i)) w) := by
  obtain ⟨w0, hw0⟩ : ∃ w0, w0 = (w.alloc (.cells ⟨cs⟩ 110)).alloc (.cells ⟨ics⟩ 112) := ⟨_, rfl⟩
  have k0 : Hid (Below w.heap.size w w0) := by rw [hw0]; exact below_two' w _ _
  have h1 : Hid (HeadAt w0 w.heap.size cs) := by rw [hw0]; exact (HeadAt.box w cs _).old _
  have h2 : Hid (HeadAt w0 (w.heap.size + 1) ics) := by rw [hw0]; exact fun i v hv => by rw [two_cell1]; simpa using hv
  have HL : Hid (∀ w', Below w0.heap.size w0 w' → LookR w' w'.heap.size cs p f) := fun w' k => h.keep (Nat.le_trans k0.out.size k.size) (fun _ h => (k.cell (Nat.lt_of_lt_of_le h k0.out.size)).trans (k0.out.cell h))
  obtain ⟨rfl, v1, v2, v3, v4, v5⟩ := hi
  obtain ⟨pc, fc, rfl, ⟨A1, n1, A2, n2, A3, n3, rfl, p1, p2, p3⟩, ⟨A4, n4, A5, n5, rfl, q1, q2, w1', w2'⟩⟩ := h
  have l1 := len_le p1
  have P1 := Lib.hid p1
  clear p1 p2 p3 q1 q2
  simp only [List.cons_append, List.nil_append] at hw0 h1 HL
  have HW := Lib.hid hw0
  clear hw0
  obtain ⟨x, y, z, hf⟩ : ∃ x y z, formS i.op = [x, y, z] := by
    rcases formS_three i.op with hf | hf
    · simp [namedM, hf] at hn
    · exact hf
  have HF := Lib.hid hf
  have hn' : (withinM i.line 0 2000 && namesM p f x i.a && namesM p f y i.b && namesM p f z i.c) = true := by rw [← hn]; simp [namedM, hf]
  simp only [Bool.and_eq_true] at hn'
  obtain ⟨⟨⟨b0, b1⟩, b2⟩, b3⟩ := hn'
  have BY := Lib.hid b2
  have BZ := Lib.hid b3
  obtain ⟨r, hrr⟩ : ∃ r, orderM p f at_ i = r := ⟨_, rfl⟩
  have HO : Hid ((if i.op = 14 then decide (i.a ≤ at_) else if i.op = 19 then decide (i.b + i.c ≤ f.regs) else if i.op = 27 then regM f (i.b + i.c) else if i.op = 26 then (match p.fns[i.b.toNat]? with | some g => caughtM f g | none => false) else if i.op = 32 then f.gen else true) = r) := by
    show _ = _
    rw [← hrr]
    unfold orderM
    rw [hn, Bool.true_and]
    rfl
  rw [hrr]
  clear hf hn hrr
  obtain ⟨sz, six⟩ := idx_str ⟨#[x, y, z]⟩ x y z rfl
  have i0 : ∀ W, (Instr.index 9 (.string ⟨#[x, y, z]⟩) (.int .i64 0)).run Tryz.prog W = .ok (.int .u8 x.toNat) W := fun W => by rw [run_index_string _ _ _ _ _ Tryz.underlying9, dif_pos ⟨by omega, by rw [sz]; decide⟩]; rfl
  have i1 : ∀ W, (Instr.index 9 (.string ⟨#[x, y, z]⟩) (.int .i64 1)).run Tryz.prog W = .ok (.int .u8 y.toNat) W := fun W => by rw [run_index_string _ _ _ _ _ Tryz.underlying9, dif_pos ⟨by omega, by rw [sz]; decide⟩]; rfl
  have i2 : ∀ W, (Instr.index 9 (.string ⟨#[x, y, z]⟩) (.int .i64 2)).run Tryz.prog W = .ok (.int .u8 z.toNat) W := fun W => by rw [run_index_string _ _ _ _ _ Tryz.underlying9, dif_pos ⟨by omega, by rw [sz]; decide⟩]; rfl
  clear sz six
  go_enter Tryz.func50, Tryz.ntmps50
  go_wp2_with fail
  rw [← HW.out]
  refine (form_c i.op w0).mono ?_
  rw [HF.out]
  rintro e w1 ⟨rfl, k1⟩
  have K1 := Lib.hid k1
  have c0 : ∀ E : Up w1, E.to.cell? ⟨w.heap.size, 0, none⟩ = some (.slice A1 p.fns.length n1) := fun E => E.cell (h1.out.on k1 0 _ rfl)
  have c1 : ∀ E : Up w1, E.to.cell? ⟨w.heap.size, 1, none⟩ = some (.slice A2 p.consts.length n2) := fun E => E.cell (h1.out.on k1 1 _ rfl)
  have c2 : ∀ E : Up w1, E.to.cell? ⟨w.heap.size, 2, none⟩ = some (.slice A3 p.texts.length n3) := fun E => E.cell (h1.out.on k1 2 _ rfl)
  have c3 : ∀ E : Up w1, E.to.cell? ⟨w.heap.size, 3, none⟩ = some (.int .i64 f.params) := fun E => E.cell (h1.out.on k1 3 _ rfl)
  have c4 : ∀ E : Up w1, E.to.cell? ⟨w.heap.size, 4, none⟩ = some (.int .i64 f.regs) := fun E => E.cell (h1.out.on k1 4 _ rfl)
  have c5 : ∀ E : Up w1, E.to.cell? ⟨w.heap.size, 5, none⟩ = some (.bool f.gen) := fun E => E.cell (h1.out.on k1 5 _ rfl)
  have c6 : ∀ E : Up w1, E.to.cell? ⟨w.heap.size, 6, none⟩ = some (.slice A4 f.caught.length n4) := fun E => E.cell (h1.out.on k1 6 _ rfl)
  have c7 : ∀ E : Up w1, E.to.cell? ⟨w.heap.size, 7, none⟩ = some (.slice A5 f.code.length n5) := fun E => E.cell (h1.out.on k1 7 _ rfl)
  have d0 : ∀ E : Up w1, E.to.cell? ⟨w.heap.size + 1, 0, none⟩ = some (.int .i64 i.op) := fun E => E.cell (h2.out.on k1 0 _ rfl)
  have d1 : ∀ E : Up w1, E.to.cell? ⟨w.heap.size + 1, 1, none⟩ = some (.int .i64 i.a) := fun E => E.cell (h2.out.on k1 1 _ rfl)
  have d2 : ∀ E : Up w1, E.to.cell? ⟨w.heap.size + 1, 2, none⟩ = some (.int .i64 i.b) := fun E => E.cell (h2.out.on k1 2 _ rfl)
  have d3 : ∀ E : Up w1, E.to.cell? ⟨w.heap.size + 1, 3, none⟩ = some (.int .i64 i.c) := fun E => E.cell (h2.out.on k1 3 _ rfl)
  have d4 : ∀ E : Up w1, E.to.cell? ⟨w.heap.size + 1, 4, none⟩ = some (.int .i64 i.line) := fun E => E.cell (h2.out.on k1 4 _ rfl)
  clear k1
  have B0 : Hid (∀ E : Up w1, Calls Tryz.prog 68 #[.int .i64 i.line, .int .i64 0, .int .i64 2000] E.to fun e w' => e = .returned (.bool (withinM i.line 0 2000)) ∧ E.to = w') := fun E => within_c _ _ _ _
  have B1 : Hid (∀ E : Up w1, Calls Tryz.prog 69 #[.agg ⟨_⟩, .int .u8 x.toNat, .int .i64 i.a] E.to (Gives (.bool (namesM p f x i.a)) E.to)) := fun E => names_c _ p f x i.a E.to (HL.out _ (K1.out.trans (E.below.mono K1.out.size))) hr
  have B2 : Hid (∀ E : Up w1, Calls Tryz.prog 69 #[.agg ⟨_⟩, .int .u8 y.toNat, .int .i64 i.b] E.to (Gives (.bool (namesM p f y i.b)) E.to)) := fun E => names_c _ p f y i.b E.to (HL.out _ (K1.out.trans (E.below.mono K1.out.size))) hr
  have B3 : Hid (∀ E : Up w1, Calls Tryz.prog 69 #[.agg ⟨_⟩, .int .u8 z.toNat, .int .i64 i.c] E.to (Gives (.bool (namesM p f z i.c)) E.to)) := fun E => names_c _ p f z i.c E.to (HL.out _ (K1.out.trans (E.below.mono K1.out.size))) hr
  rw [b0] at B0
  rw [b1] at B1
  rw [b2] at B2
  rw [b3] at B3
  clear b0 b1 b2 b3
  go_wp2_with fail
  refine wp_region_up (by kernel_rfl) (by kernel_rfl) ?_
  repeat (go_big_quiet_step ((first
    | (go_at_call 68; with_reducible exact Calls.up_eq (B0.out _))
    | (go_at_call 69; with_reducible exact Calls.up (B1.out _))
    | (go_at_call 69; with_reducible exact Calls.up (B2.out _))
    | (go_at_call 69; with_reducible exact Calls.up (B3.out _)))))
  refine wpQuiet_nil ?_
  rintro _ ⟨E, rfl⟩
  have KE := Lib.hid (K1.out.trans (E.below.mono K1.out.size))
  have KF := Lib.hid (k0.out.trans (KE.out.mono k0.out.size))
  clear c0 c1 c2 c3 c4 c5 c6 c7 d0 d1 d2 d3 d4
  clear i0 i1 i2
  by_cases o14 : i.op = 14
  · have HR := HO
    rw [if_pos o14] at HR
    have d0 : E.to.cell? ⟨w.heap.size + 1, 0, none⟩ = some (.int .i64 14) := by rw [← o14]; exact h2.out.on KE.out 0 _ rfl
    have d1 : E.to.cell? ⟨w.heap.size + 1, 1, none⟩ = some (.int .i64 i.a) := h2.out.on KE.out 1 _ rfl
    clear o14
    go_wp2_with fail
    go_ret
    exact ⟨by rw [← HR.out]; rfl, KF.out⟩
  rw [if_neg o14] at HO
  by_cases o19 : i.op = 19
  · have HR := HO
    rw [if_pos o19] at HR
    have d0 : E.to.cell? ⟨w.heap.size + 1, 0, none⟩ = some (.int .i64 19) := by rw [← o19]; exact h2.out.on KE.out 0 _ rfl
    have hq : 0 ≤ i.b ∧ i.b ≤ f.regs ∧ 0 ≤ i.c ∧ i.c ≤ f.regs := by
      have e := HF.out
      rw [o19] at e
      have e' : formS 19 = [114, 108, 110] := by decide
      rw [e'] at e
      injection e with e1 e
      injection e with e2 e
      injection e with e3 _
      have g1 := BY.out
      have g2 := BZ.out
      rw [← e2] at g1
      rw [← e3] at g2
      have g1' : withinM i.b 0 f.regs = true := g1
      have g2' : withinM i.c 0 f.regs = true := g2
      rw [withinM_iff] at g1' g2'
      exact ⟨g1'.1, g1'.2, g2'.1, g2'.2⟩
    obtain ⟨t1, t2, t3, t4⟩ := hq
    have c4 : E.to.cell? ⟨w.heap.size, 4, none⟩ = some (.int .i64 f.regs) := h1.out.on KE.out 4 _ rfl
    have d2 : E.to.cell? ⟨w.heap.size + 1, 2, none⟩ = some (.int .i64 i.b) := h2.out.on KE.out 2 _ rfl
    have d3 : E.to.cell? ⟨w.heap.size + 1, 3, none⟩ = some (.int .i64 i.c) := h2.out.on KE.out 3 _ rfl
    clear o14 o19
    go_wp2_with fail
    go_ret
    exact ⟨by rw [← HR.out]; rfl, KF.out⟩
  rw [if_neg o19] at HO
  by_cases o27 : i.op = 27
  · have HR := HO
    rw [if_pos o27] at HR
    have d0 : E.to.cell? ⟨w.heap.size + 1, 0, none⟩ = some (.int .i64 27) := by rw [← o27]; exact h2.out.on KE.out 0 _ rfl
    have hq : 0 ≤ i.b ∧ i.b ≤ f.regs ∧ 0 ≤ i.c ∧ i.c ≤ f.regs := by
      have e := HF.out
      rw [o27] at e
      have e' : formS 27 = [114, 99, 110] := by decide
      rw [e'] at e
      injection e with e1 e
      injection e with e2 e
      injection e with e3 _
      have g1 := BY.out
      have g2 := BZ.out
      rw [← e2] at g1
      rw [← e3] at g2
      have g1' : withinM i.b 0 f.regs = true := g1
      have g2' : withinM i.c 0 f.regs = true := g2
      rw [withinM_iff] at g1' g2'
      exact ⟨g1'.1, g1'.2, g2'.1, g2'.2⟩
    obtain ⟨t1, t2, t3, t4⟩ := hq
    have c0 : E.to.cell? ⟨w.heap.size, 0, none⟩ = some (.slice A1 p.fns.length n1) := h1.out.on KE.out 0 _ rfl
    have c1 : E.to.cell? ⟨w.heap.size, 1, none⟩ = some (.slice A2 p.consts.length n2) := h1.out.on KE.out 1 _ rfl
    have c2 : E.to.cell? ⟨w.heap.size, 2, none⟩ = some (.slice A3 p.texts.length n3) := h1.out.on KE.out 2 _ rfl
    have c3 : E.to.cell? ⟨w.heap.size, 3, none⟩ = some (.int .i64 f.params) := h1.out.on KE.out 3 _ rfl
    have c4 : E.to.cell? ⟨w.heap.size, 4, none⟩ = some (.int .i64 f.regs) := h1.out.on KE.out 4 _ rfl
    have c5 : E.to.cell? ⟨w.heap.size, 5, none⟩ = some (.bool f.gen) := h1.out.on KE.out 5 _ rfl
    have c6 : E.to.cell? ⟨w.heap.size, 6, none⟩ = some (.slice A4 f.caught.length n4) := h1.out.on KE.out 6 _ rfl
    have c7 : E.to.cell? ⟨w.heap.size, 7, none⟩ = some (.slice A5 f.code.length n5) := h1.out.on KE.out 7 _ rfl
    have d2 : E.to.cell? ⟨w.heap.size + 1, 2, none⟩ = some (.int .i64 i.b) := h2.out.on KE.out 2 _ rfl
    have d3 : E.to.cell? ⟨w.heap.size + 1, 3, none⟩ = some (.int .i64 i.c) := h2.out.on KE.out 3 _ rfl
    clear o14 o19 o27
    go_wp2_with fail
    refine (lreg_c _ p f _ E.to (HL.out _ KE.out) hr).mono ?_
    rintro e w5 ⟨rfl, k5⟩
    have K5 := Lib.hid (KF.out.trans (k5.mono KF.out.size))
    clear k5 c0 c1 c2 c3 c4 c5 c6 c7 d0 d2 d3
    go_wp2_with fail
    go_ret
    exact ⟨by rw [← HR.out]; rfl, K5.out⟩
  rw [if_neg o27] at HO
  by_cases o26 : i.op = 26
  · have HR := HO
    rw [if_pos o26] at HR
    have hq : 1 ≤ i.b ∧ i.b ≤ (p.fns.length : Int) - 1 := by
      have e := HF.out
      rw [o26] at e
      have e' : formS 26 = [114, 102, 45] := by decide
      rw [e'] at e
      injection e with e1 e
      injection e with e2 e
      have g1 := BY.out
      rw [← e2] at g1
      have g1' : withinM i.b 1 ((p.fns.length : Int) - 1) = true := g1
      rwa [withinM_iff] at g1'
    obtain ⟨t1, t2⟩ := hq
    obtain ⟨bn, hbn⟩ : ∃ bn : Nat, i.b = bn := ⟨i.b.toNat, by omega⟩
    rw [hbn] at t1 t2
    have t3 : bn < p.fns.length := by omega
    obtain ⟨bb, off, g, gcs, hA1, hb, hx0, hcl, hR, hat⟩ := P1.out.at_ t3
    rw [hbn, Int.toNat_natCast, hx0] at HR
    subst hA1
    have hR' : Hid (∀ E2 : Up E.to, FnR E2.to E2.to.heap.size gcs g) := fun E2 => hR.keep (Nat.le_trans KF.out.size E2.below.size) (fun _ h => (E2.below.cell (Nat.lt_of_lt_of_le h KF.out.size)).trans (KF.out.cell h))
    have CC : Hid (∀ E2 : Up E.to, Calls Tryz.prog 71 #[.agg ⟨_⟩, .agg ⟨gcs⟩] E2.to (Gives (.bool (caughtM f g)) E2.to)) := fun E2 => caught_c _ gcs p f g E2.to (HL.out _ (KE.out.trans (E2.below.mono KE.out.size))) hr (hR'.out E2)
    have gat : Hid (∀ E2 : Up E.to, ∀ j v, gcs[j]? = some v → E2.to.cell? ⟨bb, off + bn * 5 + j, none⟩ = some v) := fun E2 j v hv => (E2.below.cell (Nat.lt_of_lt_of_le hb KF.out.size)).trans ((KF.out.cell hb).trans (hat j v hv))
    obtain ⟨ga, gn, gc, gm, rfl, -⟩ := hR
    have d0 : E.to.cell? ⟨w.heap.size + 1, 0, none⟩ = some (.int .i64 26) := by rw [← o26]; exact h2.out.on KE.out 0 _ rfl
    have e2 : ∀ E2 : Up E.to, E2.to.cell? ⟨w.heap.size + 1, 2, none⟩ = some (.int .i64 bn) := fun E2 => by rw [← hbn]; exact E2.cell (h2.out.on KE.out 2 _ rfl)
    have c0 : ∀ E2 : Up E.to, E2.to.cell? ⟨w.heap.size, 0, none⟩ = some (.slice (some ⟨bb, off, none⟩) p.fns.length n1) := fun E2 => E2.cell (h1.out.on KE.out 0 _ rfl)
    have c1 : ∀ E2 : Up E.to, E2.to.cell? ⟨w.heap.size, 1, none⟩ = some (.slice A2 p.consts.length n2) := fun E2 => E2.cell (h1.out.on KE.out 1 _ rfl)
    have c2 : ∀ E2 : Up E.to, E2.to.cell? ⟨w.heap.size, 2, none⟩ = some (.slice A3 p.texts.length n3) := fun E2 => E2.cell (h1.out.on KE.out 2 _ rfl)
    have c3 : ∀ E2 : Up E.to, E2.to.cell? ⟨w.heap.size, 3, none⟩ = some (.int .i64 f.params) := fun E2 => E2.cell (h1.out.on KE.out 3 _ rfl)
    have c4 : ∀ E2 : Up E.to, E2.to.cell? ⟨w.heap.size, 4, none⟩ = some (.int .i64 f.regs) := fun E2 => E2.cell (h1.out.on KE.out 4 _ rfl)
    have c5 : ∀ E2 : Up E.to, E2.to.cell? ⟨w.heap.size, 5, none⟩ = some (.bool f.gen) := fun E2 => E2.cell (h1.out.on KE.out 5 _ rfl)
    have c6 : ∀ E2 : Up E.to, E2.to.cell? ⟨w.heap.size, 6, none⟩ = some (.slice A4 f.caught.length n4) := fun E2 => E2.cell (h1.out.on KE.out 6 _ rfl)
    have c7 : ∀ E2 : Up E.to, E2.to.cell? ⟨w.heap.size, 7, none⟩ = some (.slice A5 f.code.length n5) := fun E2 => E2.cell (h1.out.on KE.out 7 _ rfl)
    have g0 : ∀ E2 : Up E.to, E2.to.cell? ⟨bb, off + bn * 5, none⟩ = some (.int .i64 g.params) := fun E2 => gat.out E2 0 _ rfl
    have g1 : ∀ E2 : Up E.to, E2.to.cell? ⟨bb, off + bn * 5 + 1, none⟩ = some (.int .i64 g.regs) := fun E2 => gat.out E2 1 _ rfl
    have g2 : ∀ E2 : Up E.to, E2.to.cell? ⟨bb, off + bn * 5 + 2, none⟩ = some (.bool g.gen) := fun E2 => gat.out E2 2 _ rfl
    have g3 : ∀ E2 : Up E.to, E2.to.cell? ⟨bb, off + bn * 5 + 3, none⟩ = some (.slice ga g.caught.length gn) := fun E2 => gat.out E2 3 _ rfl
    have g4 : ∀ E2 : Up E.to, E2.to.cell? ⟨bb, off + bn * 5 + 4, none⟩ = some (.slice gc g.code.length gm) := fun E2 => gat.out E2 4 _ rfl
    have t4 : (bn : Int) < p.fns.length := by omega
    clear o14 o19 o27 o26 hx0 hat hcl hbn
    go_wp2_with fail
    refine wp_region_up (by kernel_rfl) (by kernel_rfl) ?_
    repeat (go_big_quiet_step ((go_at_call 71; with_reducible exact Calls.up (CC.out _))))
    refine wpQuiet_nil ?_
    rintro _ ⟨E2, rfl⟩
    have K5 := Lib.hid (KF.out.trans (E2.below.mono KF.out.size))
    clear e2 g0 g1 g2 g3 g4 c0 c1 c2 c3 c4 c5 c6 c7 d0
    go_wp2_with fail
    go_ret
    exact ⟨by rw [← HR.out]; rfl, K5.out⟩
  rw [if_neg o26] at HO
  by_cases o32 : i.op = 32
  · have HR := HO
    rw [if_pos o32] at HR
    have d0 : E.to.cell? ⟨w.heap.size + 1, 0, none⟩ = some (.int .i64 32) := by rw [← o32]; exact h2.out.on KE.out 0 _ rfl
    have c5 : E.to.cell? ⟨w.heap.size, 5, none⟩ = some (.bool f.gen) := h1.out.on KE.out 5 _ rfl
    clear o14 o19 o27 o26 o32
    go_wp2_with fail
    go_ret
    exact ⟨by rw [← HR.out]; rfl, KF.out⟩
  rw [if_neg o32] at HO
  have HR := HO
  have u14 : (i.op == 14) = false := by simpa using o14
  have u19 : (i.op == 19) = false := by simpa using o19
  have u27 : (i.op == 27) = false := by simpa using o27
  have u26 : (i.op == 26) = false := by simpa using o26
  have u32 : (i.op == 32) = false := by simpa using o32
  have d0 : E.to.cell? ⟨w.heap.size + 1, 0, none⟩ = some (.int .i64 i.op) := h2.out.on KE.out 0 _ rfl
  clear o14 o19 o27 o26 o32
  go_wp2_with fail
  go_ret
  exact ⟨by rw [← HR.out]; rfl, KF.out⟩

theorem order_c (cs ics : List Value) (p : CProg) (f : CFn) (at_ : Int) (i : CIns) (w : World) (h : LookR w w.heap.size cs p f) (hr : 1 ≤ f.regs) (hr2 : f.regs ≤ 60) (hi : CInsR ics i) :
    Calls Tryz.prog 50 #[.agg ⟨cs⟩, .int .i64 at_, .agg ⟨ics⟩] w (Gives (.bool (orderM p f at_ i)) w) := by
  cases hn : namedM p f i
  · have e : orderM p f at_ i = false := by unfold orderM; rw [hn]; rfl
    rw [e]
    exact order_un cs ics p f at_ i w h hr hr2 hi hn
  · exact order_nm cs ics p f at_ i w h hr hr2 hi hn
end Go.Proofs.YtlnkjmgfkpeicaaGreatDoor
namespace Go.Proofs.YtlnkjmgfkpeicaaGreatDoor
open Go.RowKit

def TryR (cs : List Value) (x : CTry) : Prop := cs = [.int .i64 x.reg, .int .i64 x.at_] ∧ wfi x.reg ∧ wfi x.at_

theorem take_eq_all {α : Type} {xs ys : List α} {k : Nat} (h : xs.take k = ys.take k) (h1 : xs.length ≤ k) (h2 : ys.length ≤ k) : xs = ys := by
  rwa [List.take_of_length_le h1, List.take_of_length_le h2] at h
theorem take_ne {α : Type} {xs ys : List α} {k : Nat} {x y : α} (hx : xs[k]? = some x) (hy : ys[k]? = some y) (h : x ≠ y) : xs ≠ ys := fun e => by
  rw [e, hy] at hx; injection hx with hx; exact h hx.symm
theorem take_next {α : Type} {xs ys : List α} {k : Nat} {x : α} (h : xs.take k = ys.take k) (hx : xs[k]? = some x) (hy : ys[k]? = some x) : xs.take (k + 1) = ys.take (k + 1) := by
  rw [List.take_add_one, List.take_add_one, h, hx, hy]

set_option maxHeartbeats 1000000 in
theorem equal_try_c (v u : Value) (xs ys : List CTry) (w : World) (hx : SliceR w w.heap.size 2 TryR v xs) (hy : SliceR w w.heap.size 2 TryR u ys) :
    Calls Tryz.prog 94 #[v, u] w (Gives (.bool (decide (xs = ys))) w) := by
  obtain ⟨A, cap, rfl, hc1, hc2, -⟩ := id hx
  obtain ⟨A', cap', rfl, hc1', hc2', -⟩ := id hy
  unfold maxLen at hc2 hc2'
  have HX := Lib.hid hx
  have HY := Lib.hid hy
  clear hx hy
  obtain ⟨r, hr⟩ : ∃ r : Bool, decide (xs = ys) = r := ⟨_, rfl⟩
  rw [hr]
  have HR := Lib.hid hr
  clear hr
  by_cases hl : xs.length = ys.length
  · have hl1 : xs.length ≤ ys.length := by omega
    have hl2 : ys.length ≤ xs.length := by omega
    have hb1 : ((xs.length : Int) != (ys.length : Int)) = false := by simp; omega
    clear hl
    go_enter Tryz.func94, Tryz.ntmps94
    go_wp2_with fail
    go_loopw [13] (fun k wr => ∃ kn : Nat, k = .int .i64 kn ∧ kn ≤ xs.length ∧ Hid (xs.take kn = ys.take kn) ∧ Hid (Below w.heap.size w wr)) (fun k _ => xs.length - (intOf k).toNat)
    case atStart => exact ⟨0, rfl, by omega, Lib.hid rfl, Below.refl _ _⟩
    case round =>
      obtain ⟨kn, rfl, hk, he, KW⟩ := hrel
      by_cases hlt : kn < xs.length
      · obtain ⟨b, off, x, cs, rfl, hb, hx0, -, ⟨rfl, -⟩, hat⟩ := HX.out.at_ hlt
        obtain ⟨b', off', y, cs', rfl, hb', hy0, -, ⟨rfl, -⟩, hat'⟩ := HY.out.at_ (i := kn) (by omega)
        have KE : ∀ E : Up wr, Below w.heap.size w E.to := fun E => below_to KW.out E
        have g0 : ∀ E : Up wr, E.to.cell? ⟨b, off + kn * 2, none⟩ = some (.int .i64 x.reg) := fun E => ((KE E).cell hb).trans (hat 0 _ rfl)
        have g1 : ∀ E : Up wr, E.to.cell? ⟨b, off + kn * 2 + 1, none⟩ = some (.int .i64 x.at_) := fun E => ((KE E).cell hb).trans (hat 1 _ rfl)
        have g2 : ∀ E : Up wr, E.to.cell? ⟨b', off' + kn * 2, none⟩ = some (.int .i64 y.reg) := fun E => ((KE E).cell hb').trans (hat' 0 _ rfl)
        have g3 : ∀ E : Up wr, E.to.cell? ⟨b', off' + kn * 2 + 1, none⟩ = some (.int .i64 y.at_) := fun E => ((KE E).cell hb').trans (hat' 1 _ rfl)
        have HX0 := Lib.hid hx0
        have HY0 := Lib.hid hy0
        have KE' := Lib.hid KE
        have hi1 : (kn : Int) < xs.length := by omega
        have hi2 : (kn : Int) < ys.length := by omega
        clear hx0 hy0 hat hat' KE
        by_cases hxy : x = y
        · subst hxy
          go_wp2_with fail
          refine wp_region_up (by kernel_rfl) (by kernel_rfl) ?_
          repeat (go_big_quiet_step (fail))
          refine wpQuiet_nil ?_
          rintro _ ⟨E, rfl⟩
          have KF := Lib.hid (KE'.out E)
          clear g0 g1 g2 g3
          go_wp2_with fail
          go_roundw
          case rel => exact ⟨kn + 1, by go_num, by omega, take_next he.out HX0.out HY0.out, KF⟩
          case measure => simp [intOf]; omega
        · have HF : Hid (r = false) := by rw [← HR.out]; exact decide_eq_false (take_ne HX0.out HY0.out hxy)
          by_cases h1 : x.reg = y.reg
          · have n1 : (x.at_ == y.at_) = false := by
              simp only [beq_eq_false_iff_ne]
              intro e; apply hxy; cases x; cases y; simp only at h1 e; rw [h1, e]
            rw [h1] at g0
            clear hxy h1
            go_wp2_with fail
            refine wp_region_up (by kernel_rfl) (by kernel_rfl) ?_
            repeat (go_big_quiet_step (fail))
            refine wpQuiet_nil ?_
            rintro _ ⟨E, rfl⟩
            have KF := Lib.hid (KE'.out E)
            clear g0 g1 g2 g3
            go_wp2_with fail
            go_ret
            exact ⟨by rw [HF.out]; rfl, KF.out⟩
          · have n1 : (x.reg == y.reg) = false := by simpa using h1
            clear hxy h1
            go_wp2_with fail
            refine wp_region_up (by kernel_rfl) (by kernel_rfl) ?_
            repeat (go_big_quiet_step (fail))
            refine wpQuiet_nil ?_
            rintro _ ⟨E, rfl⟩
            have KF := Lib.hid (KE'.out E)
            clear g0 g1 g2 g3
            go_wp2_with fail
            go_ret
            exact ⟨by rw [HF.out]; rfl, KF.out⟩
      · have HF : Hid (r = true) := by rw [← HR.out]; exact decide_eq_true (take_eq_all he.out (by omega) (by omega))
        go_wp2_with fail
        go_ret
        exact ⟨by rw [HF.out]; rfl, KW.out⟩
  · have hb1 : ((xs.length : Int) != (ys.length : Int)) = true := by simp; omega
    have HF : Hid (r = false) := by rw [← HR.out]; exact decide_eq_false (fun e => hl (by rw [e]))
    clear hl
    go_enter Tryz.func94, Tryz.ntmps94
    go_wp2_with fail
    go_ret
    exact ⟨by rw [HF.out]; rfl, Below.refl _ _⟩

set_option maxHeartbeats 1000000 in
theorem equal_str_c (v u : Value) (xs ys : List ByteArray) (w : World) (hx : SliceR w w.heap.size 1 StrR v xs) (hy : SliceR w w.heap.size 1 StrR u ys) :
    Calls Tryz.prog 46 #[v, u] w (Gives (.bool (decide (xs = ys))) w) := by
  obtain ⟨A, cap, rfl, hc1, hc2, -⟩ := id hx
  obtain ⟨A', cap', rfl, hc1', hc2', -⟩ := id hy
  unfold maxLen at hc2 hc2'
  have HX := Lib.hid hx
  have HY := Lib.hid hy
  clear hx hy
  obtain ⟨r, hr⟩ : ∃ r : Bool, decide (xs = ys) = r := ⟨_, rfl⟩
  rw [hr]
  have HR := Lib.hid hr
  clear hr
  by_cases hl : xs.length = ys.length
  · have hl1 : xs.length ≤ ys.length := by omega
    have hl2 : ys.length ≤ xs.length := by omega
    have hb1 : ((xs.length : Int) != (ys.length : Int)) = false := by simp; omega
    clear hl
    go_enter Tryz.func46, Tryz.ntmps46
    go_wp2_with fail
    go_loopw [13] (fun k wr => ∃ kn : Nat, k = .int .i64 kn ∧ kn ≤ xs.length ∧ Hid (xs.take kn = ys.take kn) ∧ Hid (Below w.heap.size w wr)) (fun k _ => xs.length - (intOf k).toNat)
    case atStart => exact ⟨0, rfl, by omega, Lib.hid rfl, Below.refl _ _⟩
    case round =>
      obtain ⟨kn, rfl, hk, he, KW⟩ := hrel
      by_cases hlt : kn < xs.length
      · obtain ⟨b, off, x, cs, rfl, hb, hx0, -, ⟨rfl, -⟩, hat⟩ := HX.out.at_ hlt
        obtain ⟨b', off', y, cs', rfl, hb', hy0, -, ⟨rfl, -⟩, hat'⟩ := HY.out.at_ (i := kn) (by omega)
        have KE : ∀ E : Up wr, Below w.heap.size w E.to := fun E => below_to KW.out E
        have g0 : ∀ E : Up wr, E.to.cell? ⟨b, off + kn, none⟩ = some (.string x) := fun E => ((KE E).cell hb).trans (by simpa using hat 0 _ rfl)
        have g2 : ∀ E : Up wr, E.to.cell? ⟨b', off' + kn, none⟩ = some (.string y) := fun E => ((KE E).cell hb').trans (by simpa using hat' 0 _ rfl)
        have HX0 := Lib.hid hx0
        have HY0 := Lib.hid hy0
        have KE' := Lib.hid KE
        have hi1 : (kn : Int) < xs.length := by omega
        have hi2 : (kn : Int) < ys.length := by omega
        clear hx0 hy0 hat hat' KE
        by_cases hxy : x = y
        · subst hxy
          go_wp2_with fail
          refine wp_region_up (by kernel_rfl) (by kernel_rfl) ?_
          repeat (go_big_quiet_step (fail))
          refine wpQuiet_nil ?_
          rintro _ ⟨E, rfl⟩
          have KF := Lib.hid (KE'.out E)
          clear g0 g2
          go_wp2_with fail
          go_roundw
          case rel => exact ⟨kn + 1, by go_num, by omega, take_next he.out HX0.out HY0.out, KF⟩
          case measure => simp [intOf]; omega
        · have HF : Hid (r = false) := by rw [← HR.out]; exact decide_eq_false (take_ne HX0.out HY0.out hxy)
          have n1 : (x.toList == y.toList) = false := by
            simp only [beq_eq_false_iff_ne]
            intro e; apply hxy
            rw [Lib.toList_data, Lib.toList_data] at e
            have e2 : x.data = y.data := Array.toList_inj.1 e
            cases x; cases y; simp only at e2; rw [e2]
          clear hxy
          go_wp2_with fail
          refine wp_region_up (by kernel_rfl) (by kernel_rfl) ?_
          repeat (go_big_quiet_step (fail))
          refine wpQuiet_nil ?_
          rintro _ ⟨E, rfl⟩
          have KF := Lib.hid (KE'.out E)
          clear g0 g2
          go_wp2_with fail
          go_ret
          exact ⟨by rw [HF.out]; rfl, KF.out⟩
      · have HF : Hid (r = true) := by rw [← HR.out]; exact decide_eq_true (take_eq_all he.out (by omega) (by omega))
        go_wp2_with fail
        go_ret
        exact ⟨by rw [HF.out]; rfl, KW.out⟩
  · have hb1 : ((xs.length : Int) != (ys.length : Int)) = true := by simp; omega
    have HF : Hid (r = false) := by rw [← HR.out]; exact decide_eq_false (fun e => hl (by rw [e]))
    clear hl
    go_enter Tryz.func46, Tryz.ntmps46
    go_wp2_with fail
    go_ret
    exact ⟨by rw [HF.out]; rfl, Below.refl _ _⟩
end Go.Proofs.YtlnkjmgfkpeicaaGreatDoor
