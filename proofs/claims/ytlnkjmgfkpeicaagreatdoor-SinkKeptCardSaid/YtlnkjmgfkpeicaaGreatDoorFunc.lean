/- code.function. -/
import Derived.Test.YtlnkjmgfkpeicaaGreatDoorTries
namespace Go.Proofs.YtlnkjmgfkpeicaaGreatDoor
open Go.RowKit

theorem three_box (w : World) (A B C : Array Value) (t u v : TypeId) : (∀ i, (((w.alloc (.cells A t)).alloc (.cells B u)).alloc (.cells C v)).cell? ⟨w.heap.size, i, none⟩ = A[i]?) ∧ (∀ i, (((w.alloc (.cells A t)).alloc (.cells B u)).alloc (.cells C v)).cell? ⟨w.heap.size + 1, i, none⟩ = B[i]?) ∧
    (∀ i, (((w.alloc (.cells A t)).alloc (.cells B u)).alloc (.cells C v)).cell? ⟨w.heap.size + 1 + 1, i, none⟩ = C[i]?) ∧ Below w.heap.size w (((w.alloc (.cells A t)).alloc (.cells B u)).alloc (.cells C v)) := by
  refine ⟨fun i => ?_, fun i => ?_, fun i => ?_, (below_two' w _ _).alloc (by simp; omega) _⟩
  · rw [World.cell?_alloc_lt _ _ _ (by simp; omega)]; exact two_cell0 w A t _ i
  · rw [World.cell?_alloc_lt _ _ _ (by simp)]; exact two_cell1 w B u _ i
  · have h := one_cell ((w.alloc (.cells A t)).alloc (.cells B u)) C v i
    simp only [World.size_alloc] at h
    exact h
theorem zip_all {α : Type} {q : α × Nat → Bool} : ∀ (l : List α) (k : Nat), ((l.zipIdx k).all q = true ↔ ∀ i x, l[i]? = some x → q (x, k + i) = true)
  | [], k => by simp
  | y :: l, k => by
    rw [List.zipIdx_cons, List.all_cons, Bool.and_eq_true, zip_all l (k + 1)]
    constructor
    · rintro ⟨h1, h2⟩ i x hx
      cases i with
      | zero => simp at hx; subst hx; exact h1
      | succ i => have := h2 i x (by simpa using hx); rwa [show k + 1 + i = k + (i + 1) by omega] at this
    · intro h
      exact ⟨h 0 y rfl, fun i x hx => by have := h (i + 1) x (by simpa using hx); rwa [show k + (i + 1) = k + 1 + i by omega] at this⟩

set_option maxHeartbeats 4000000 in
set_option maxRecDepth 100000 in
theorem function_c (pcs fcs : List Value) (p : CProg) (f : CFn) (w : World) (hp : ProgR w w.heap.size pcs p) (hf : FnR w w.heap.size fcs f) (hn : f.code.length ≤ 600) (hr2 : f.regs ≤ 60) :
    Calls Tryz.prog 26 #[.agg ⟨pcs⟩, .agg ⟨fcs⟩] w (Gives (.bool (functionM p f)) w) := by
  obtain ⟨r, hr⟩ : ∃ r, functionM p f = r := ⟨_, rfl⟩
  rw [hr]
  have HR := Lib.hid hr
  have HP := Lib.hid hp
  have HFN := Lib.hid hf
  clear hr
  obtain ⟨A1, n1, A2, n2, A3, n3, rfl, -⟩ := hp
  obtain ⟨A4, n4, A5, n5, rfl, q1, q2, v1, v2⟩ := hf
  have HC := Lib.hid q2
  have l5 := len_le q2
  have TB := three_box w #[.slice A1 p.fns.length n1, .slice A2 p.consts.length n2, .slice A3 p.texts.length n3] #[.int .i64 f.params, .int .i64 f.regs, .bool f.gen, .slice A4 f.caught.length n4, .slice A5 f.code.length n5]
    #[.slice A1 p.fns.length n1, .slice A2 p.consts.length n2, .slice A3 p.texts.length n3, .int .i64 f.params, .int .i64 f.regs, .bool f.gen, .slice A4 f.caught.length n4, .slice A5 f.code.length n5] 26 57 110
  obtain ⟨w0, hw0⟩ : ∃ w0, w0 = ((w.alloc (.cells #[.slice A1 p.fns.length n1, .slice A2 p.consts.length n2, .slice A3 p.texts.length n3] 26)).alloc (.cells #[.int .i64 f.params, .int .i64 f.regs, .bool f.gen, .slice A4 f.caught.length n4, .slice A5 f.code.length n5] 57)).alloc (.cells #[.slice A1 p.fns.length n1, .slice A2 p.consts.length n2, .slice A3 p.texts.length n3, .int .i64 f.params, .int .i64 f.regs, .bool f.gen, .slice A4 f.caught.length n4, .slice A5 f.code.length n5] 110) := ⟨_, rfl⟩
  rw [← hw0] at TB
  obtain ⟨-, tb2, tb3, tb4⟩ := TB
  have T2 := Lib.hid tb2
  have T3 := Lib.hid tb3
  have k0 := Lib.hid tb4
  have hz0 : Hid (w0.heap.size = w.heap.size + 1 + 1 + 1) := by rw [hw0]; simp [Hid]
  have HW := Lib.hid hw0
  clear q1 q2 tb2 tb3 tb4 hw0
  by_cases hb : f.params < 0 ∨ f.regs < 1 ∨ f.regs < f.params
  · have HF : Hid (r = false) := by
      rw [← HR.out]; unfold functionM Hid
      rcases hb with h | h | h <;> simp [h]
    by_cases h1 : f.params < 0
    · clear hb
      go_enter Tryz.func26, Tryz.ntmps26
      go_wp2_with fail
      go_ret
      rw [← HW.out]
      exact ⟨by rw [HF.out]; rfl, k0.out⟩
    by_cases h2 : f.regs < 1
    · clear hb
      go_enter Tryz.func26, Tryz.ntmps26
      go_wp2_with fail
      go_ret
      rw [← HW.out]
      exact ⟨by rw [HF.out]; rfl, k0.out⟩
    · have h3 : f.regs < f.params := by omega
      clear hb
      go_enter Tryz.func26, Tryz.ntmps26
      go_wp2_with fail
      go_ret
      rw [← HW.out]
      exact ⟨by rw [HF.out]; rfl, k0.out⟩
  · have h1 : ¬ f.params < 0 := by omega
    have h2 : ¬ f.regs < 1 := by omega
    have h3 : ¬ f.regs < f.params := by omega
    have h4 : 1 ≤ f.regs := by omega
    clear hb
    have HF : Hid ((f.code.zipIdx.all fun x => orderM p f x.2 x.1) = false → r = false) := fun e => by
      rw [← HR.out]; unfold functionM; rw [e]; simp
    have HG : Hid ((f.code.zipIdx.all fun x => orderM p f x.2 x.1) = true → r = !(triesM f.code).bad) := fun e => by
      rw [← HR.out]; unfold functionM; rw [e]; simp [h1, h2, h3]
    have hlen : (f.code.length : Int) ≤ 600 := by omega
    go_enter Tryz.func26, Tryz.ntmps26
    go_wp2_with fail
    rw [← HW.out]
    go_loopw [32] (fun k wr => ∃ kn : Nat, k = .int .i64 kn ∧ kn ≤ f.code.length ∧ Hid (∀ j i, j < kn → f.code[j]? = some i → orderM p f j i = true) ∧ Hid (Below w0.heap.size w0 wr)) (fun k _ => f.code.length - (RowKit.intOf k).toNat)
    case atStart => exact ⟨0, rfl, by omega, fun j i hj _ => by omega, Below.refl _ _⟩
    case round =>
      obtain ⟨kn, rfl, hk, KP, KW⟩ := hrel
      have KB : Hid (Below w.heap.size w wr) := k0.out.trans (KW.out.mono k0.out.size)
      by_cases hlt : kn < f.code.length
      · obtain ⟨b, off, i, ics, rfl, hb, hi0, -, hR, hat⟩ := HC.out.at_ hlt
        have HI := Lib.hid hR
        obtain ⟨rfl, -⟩ := hR
        have g0 : wr.cell? ⟨b, off + kn * 5, none⟩ = some (.int .i64 i.op) := (KB.out.cell hb).trans (hat 0 _ rfl)
        have g1 : wr.cell? ⟨b, off + kn * 5 + 1, none⟩ = some (.int .i64 i.a) := (KB.out.cell hb).trans (hat 1 _ rfl)
        have g2 : wr.cell? ⟨b, off + kn * 5 + 2, none⟩ = some (.int .i64 i.b) := (KB.out.cell hb).trans (hat 2 _ rfl)
        have g3 : wr.cell? ⟨b, off + kn * 5 + 3, none⟩ = some (.int .i64 i.c) := (KB.out.cell hb).trans (hat 3 _ rfl)
        have g4 : wr.cell? ⟨b, off + kn * 5 + 4, none⟩ = some (.int .i64 i.line) := (KB.out.cell hb).trans (hat 4 _ rfl)
        have hz1 : w.heap.size + 1 + 1 < wr.heap.size := by have := KW.out.size; have := hz0.out; omega
        have t0 : wr.cell? ⟨w.heap.size + 1 + 1, 0, none⟩ = some (.slice A1 p.fns.length n1) := cell_on KW.out (T3.out 0)
        have t1 : wr.cell? ⟨w.heap.size + 1 + 1, 1, none⟩ = some (.slice A2 p.consts.length n2) := cell_on KW.out (T3.out 1)
        have t2 : wr.cell? ⟨w.heap.size + 1 + 1, 2, none⟩ = some (.slice A3 p.texts.length n3) := cell_on KW.out (T3.out 2)
        have t3 : wr.cell? ⟨w.heap.size + 1 + 1, 3, none⟩ = some (.int .i64 f.params) := cell_on KW.out (T3.out 3)
        have t4 : wr.cell? ⟨w.heap.size + 1 + 1, 4, none⟩ = some (.int .i64 f.regs) := cell_on KW.out (T3.out 4)
        have t5 : wr.cell? ⟨w.heap.size + 1 + 1, 5, none⟩ = some (.bool f.gen) := cell_on KW.out (T3.out 5)
        have t6 : wr.cell? ⟨w.heap.size + 1 + 1, 6, none⟩ = some (.slice A4 f.caught.length n4) := cell_on KW.out (T3.out 6)
        have t7 : wr.cell? ⟨w.heap.size + 1 + 1, 7, none⟩ = some (.slice (some ⟨b, off, none⟩) f.code.length n5) := cell_on KW.out (T3.out 7)
        have HX := Lib.hid hi0
        have KL : Hid (∀ W, Below wr.heap.size wr W → LookR W W.heap.size [.slice A1 p.fns.length n1, .slice A2 p.consts.length n2, .slice A3 p.texts.length n3, .int .i64 f.params, .int .i64 f.regs, .bool f.gen, .slice A4 f.caught.length n4, .slice (some ⟨b, off, none⟩) f.code.length n5] p f) := fun W k => by
          have kb : Below w.heap.size w W := KB.out.trans (k.mono KB.out.size)
          exact ⟨_, _, rfl, HP.out.keep kb.size (fun _ h => kb.cell h), HFN.out.keep kb.size (fun _ h => kb.cell h)⟩
        clear hi0 hat
        go_wp2_with fail
        refine (order_c _ _ p f kn i _ (KL.out _ (by repeat (first | exact Below.refl _ _ | refine Below.drew ?_ | refine Below.alloc ?_ (by simp) _))) h4 hr2 HI.out).mono ?_
        rintro e w5 ⟨rfl, k5⟩
        have K5 : Hid (Below w0.heap.size w0 w5) := by refine KW.out.trans (Below.trans (b := wr.alloc _) ?_ (k5.mono ?_)); exact Below.alloc (Below.refl _ _) KW.out.size _; (have := KW.out.size; simp; omega)
        clear k5 g0 g1 g2 g3 g4 t0 t1 t2 t3 t4 t5 t6 t7
        cases ho : orderM p f kn i
        · have HO := Lib.hid ho
          clear ho
          go_wp2_with fail
          go_ret
          refine ⟨?_, k0.out.trans (K5.out.mono k0.out.size)⟩
          rw [HF.out (by
            cases hq : (f.code.zipIdx.all fun x => orderM p f x.2 x.1)
            · rfl
            · have := (zip_all f.code 0).1 hq kn i HX.out
              simp only [Nat.zero_add] at this
              rw [HO.out] at this; cases this)]
          rfl
        · have HO := Lib.hid ho
          clear ho
          go_wp2_with fail
          go_roundw
          case rel => exact ⟨kn + 1, by go_num, by omega, fun j x hj hx => by
            rcases Nat.lt_or_ge j kn with h | h
            · exact KP.out j x h hx
            · have : j = kn := by omega
              subst this
              rw [HX.out] at hx; injection hx with hx; subst hx; exact HO.out, K5⟩
          case measure => simp [RowKit.intOf]; omega
      · have hall : Hid ((f.code.zipIdx.all fun x => orderM p f x.2 x.1) = true) := (zip_all f.code 0).2 (fun i x hx => by
          rw [Nat.zero_add]; exact KP.out i x (by have := (List.getElem?_eq_some_iff.1 hx).1; omega) hx)
        have hj : Hid (JumpsOk f.code) := fun i hi => by
          obtain ⟨j, hji⟩ := List.getElem?_of_mem hi
          have hjl := (List.getElem?_eq_some_iff.1 hji).1
          have ho := KP.out j i (by omega) hji
          obtain ⟨o1, o2⟩ := order_jumps ho
          obtain ⟨cs, hR⟩ := HC.out.mem hi
          obtain ⟨-, -, wa, wb, -⟩ := hR
          exact ⟨fun h => ⟨(o1 h).1, wa.2⟩, fun h => ⟨(o2 h).1, wb.2⟩, wa⟩
        have hz1 : w.heap.size + 1 < wr.heap.size := by have := KW.out.size; have := hz0.out; omega
        have t0 : wr.cell? ⟨w.heap.size + 1, 0, none⟩ = some (.int .i64 f.params) := cell_on KW.out (T2.out 0)
        have t1 : wr.cell? ⟨w.heap.size + 1, 1, none⟩ = some (.int .i64 f.regs) := cell_on KW.out (T2.out 1)
        have t2 : wr.cell? ⟨w.heap.size + 1, 2, none⟩ = some (.bool f.gen) := cell_on KW.out (T2.out 2)
        have t3 : wr.cell? ⟨w.heap.size + 1, 3, none⟩ = some (.slice A4 f.caught.length n4) := cell_on KW.out (T2.out 3)
        have t4 : wr.cell? ⟨w.heap.size + 1, 4, none⟩ = some (.slice A5 f.code.length n5) := cell_on KW.out (T2.out 4)
        have hfn := Lib.hid (HFN.out.keep KB.out.size (fun _ h => KB.out.cell h))
        go_wp2_with fail
        refine (tries_c _ f wr hfn.out hn hj.out).mono ?_
        rintro e w5 ⟨bs, bo, ovs, rfl, -, -, -, -, -, k5⟩
        have K5 := Lib.hid (KB.out.trans (k5.mono KB.out.size))
        clear k5 t0 t1 t2 t3 t4
        go_wp2_with fail
        go_ret
        exact ⟨by rw [HG.out hall.out]; rfl, K5.out⟩
end Go.Proofs.YtlnkjmgfkpeicaaGreatDoor
