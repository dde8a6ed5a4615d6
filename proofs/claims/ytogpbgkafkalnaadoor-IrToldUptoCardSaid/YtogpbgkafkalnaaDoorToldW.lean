/- IrTold: the walk. -/
import Derived.Test.YtogpbgkafkalnaaDoorWrW
import Derived.Test.YtogpbgkafkalnaaDoorSameT
namespace Go.Proofs.YtogpbgkafkalnaaDoor
open Go.RowKit Go.Lib

theorem traceP_inj {t u : TTrace} (h : traceP t = traceP u) : t = u := traceT_inj t u (by rw [traceT_eq, traceT_eq, h])

set_option maxHeartbeats 2000000 in
set_option maxRecDepth 100000 in
theorem told_walk (ca cb : List Value) (t u : TTrace) (w : World) (hx : TraceR w w.heap.size ca t) (hy : TraceR w w.heap.size cb u)
    (lt : (traceP t).length ≤ 140737488355328) (lu : (traceP u).length ≤ 140737488355328) (ht : ∀ w', Below w.heap.size w w' → Tab w') :
    Calls Tryd.prog 3 #[.agg ⟨ca⟩, .agg ⟨cb⟩] w (Gives (.bool true) w) := by
  have HX := Lib.hid hx
  have HY := Lib.hid hy
  have HT := Lib.hid ht
  have LT := Lib.hid lt
  have LU := Lib.hid lu
  have hsame : Hid (∀ w1, Below w.heap.size w w1 → Calls Tryd.prog 6 #[.agg ⟨ca⟩, .agg ⟨cb⟩] w1 (Gives (.bool (decide (t = u))) w1)) := fun w1 k =>
    same_trace_c ca cb t u w1 (hx.keep k.size (fun _ h => k.cell h)) (hy.keep k.size (fun _ h => k.cell h))
  obtain ⟨sa, ea, ha, hwt⟩ : ∃ (sa : ByteArray) (ea : Int), (ea = 0 → sa.data.toList = traceP t) ∧ ∀ w1, Below w.heap.size w w1 → Calls Tryd.prog 4 #[.agg ⟨ca⟩] w1 (Gives (.tuple #[.string sa, .int .i64 ea]) w1) := by
    by_cases h : t.ins.length ≤ 300
    · exact ⟨⟨(traceP t).toArray⟩, 0, fun _ => by simp, fun w1 k => write_c ca t w1 (hx.keep k.size (fun _ h => k.cell h)) h lt (fun w' k' => ht w' (k.trans (k'.mono k.size)))⟩
    · exact ⟨_, 2, fun h => by simp at h, fun w1 k => write_large ca t w1 (hx.keep k.size (fun _ h => k.cell h)) (by omega)⟩
  obtain ⟨sb, eb, hb, hwu⟩ : ∃ (sb : ByteArray) (eb : Int), (eb = 0 → sb.data.toList = traceP u) ∧ ∀ w1, Below w.heap.size w w1 → Calls Tryd.prog 4 #[.agg ⟨cb⟩] w1 (Gives (.tuple #[.string sb, .int .i64 eb]) w1) := by
    by_cases h : u.ins.length ≤ 300
    · exact ⟨⟨(traceP u).toArray⟩, 0, fun _ => by simp, fun w1 k => write_c cb u w1 (hy.keep k.size (fun _ h => k.cell h)) h lu (fun w' k' => ht w' (k.trans (k'.mono k.size)))⟩
    · exact ⟨_, 2, fun h => by simp at h, fun w1 k => write_large cb u w1 (hy.keep k.size (fun _ h => k.cell h)) (by omega)⟩
  have hwt := Lib.hid hwt
  have hwu := Lib.hid hwu
  have heq : ea = 0 → eb = 0 → Hid ((sa.toList == sb.toList) = decide (t = u)) := fun h1 h2 => by
    have e1 : sa.toList = traceP t := by rw [← ha h1]; exact Lib.toList_data _
    have e2 : sb.toList = traceP u := by rw [← hb h2]; exact Lib.toList_data _
    show _ = _
    rw [e1, e2]
    by_cases h : t = u
    · subst h; simp
    · simp only [h, decide_false, beq_eq_false_iff_ne]
      exact fun e => h (traceP_inj e)
  obtain ⟨i, e, ct, cb1, rfl, a1, a2, a3, a4, -⟩ := hx
  obtain ⟨i', e', ct', cb1', rfl, b1, b2, b3, b4, -⟩ := hy
  obtain ⟨M, mc, rfl, -⟩ := id a1
  obtain ⟨M', mc', rfl, -⟩ := id b1
  obtain ⟨N, nc, rfl, -⟩ := id a2
  obtain ⟨N', nc', rfl, -⟩ := id b2
  obtain ⟨t1, t2, rfl, -⟩ := a3
  obtain ⟨t3, t4, rfl, -⟩ := a4
  obtain ⟨t1', t2', rfl, -⟩ := b3
  obtain ⟨t3', t4', rfl, -⟩ := b4
  clear a1 a2 b1 b2 lt lu ht
  obtain ⟨c0, hc0⟩ : ∃ c0 : Array Value, c0 = ⟨[.int .i64 t.fn, .int .i64 t.at_, .int .i64 t.loop, .slice M t.ins.length mc, .slice N t.exits.length nc] ++ [.int .i64 t.turn.at_, .int .i64 t.turn.steps, t1, t2] ++ [.int .i64 t.back.at_, .int .i64 t.back.steps, t3, t4]⟩ := ⟨_, rfl⟩
  obtain ⟨c1, hc1⟩ : ∃ c1 : Array Value, c1 = ⟨[.int .i64 u.fn, .int .i64 u.at_, .int .i64 u.loop, .slice M' u.ins.length mc', .slice N' u.exits.length nc'] ++ [.int .i64 u.turn.at_, .int .i64 u.turn.steps, t1', t2'] ++ [.int .i64 u.back.at_, .int .i64 u.back.steps, t3', t4']⟩ := ⟨_, rfl⟩
  obtain ⟨w0, hw0⟩ : ∃ w0, w0 = (w.alloc (.cells c0 29)).alloc (.cells c1 29) := ⟨_, rfl⟩
  have k0 : Hid (Below w.heap.size w w0) := by rw [hw0]; exact below_two' w _ _
  have f0 : Hid (∀ i, w0.cell? ⟨w.heap.size, i, none⟩ = c0[i]?) := by rw [hw0]; exact fun i => two_cell0 _ _ _ _ _
  have f1 : Hid (∀ i, w0.cell? ⟨w.heap.size + 1, i, none⟩ = c1[i]?) := by rw [hw0]; exact fun i => two_cell1 _ _ _ _ _
  rw [hc0, hc1] at hw0
  rw [hc0] at f0
  rw [hc1] at f1
  clear hc0 hc1
  have HW := Lib.hid hw0
  clear hw0
  simp only [List.cons_append, List.nil_append] at *
  go_enter Tryd.func3, Tryd.ntmps3
  go_wp2_with fail
  rw [← HW.out]
  refine (hwt.out w0 k0.out).mono ?_
  rintro e w1 ⟨rfl, k1⟩
  have K1 := Lib.hid (Below.then k0.out k1 k0.out.size)
  have C1 := Lib.hid k1
  clear k1
  have g (i : Nat) v (hv : w0.cell? ⟨w.heap.size + 1, i, none⟩ = some v) : w1.cell? ⟨w.heap.size + 1, i, none⟩ = some v := cell_on C1.out hv
  have d0 : w1.cell? ⟨w.heap.size + 1, 0, none⟩ = some (.int .i64 u.fn) := g 0 _ (f1.out 0)
  have d1 : w1.cell? ⟨w.heap.size + 1, 1, none⟩ = some (.int .i64 u.at_) := g 1 _ (f1.out 1)
  have d2 : w1.cell? ⟨w.heap.size + 1, 2, none⟩ = some (.int .i64 u.loop) := g 2 _ (f1.out 2)
  have d3 : w1.cell? ⟨w.heap.size + 1, 3, none⟩ = some (.slice M' u.ins.length mc') := g 3 _ (f1.out 3)
  have d4 : w1.cell? ⟨w.heap.size + 1, 4, none⟩ = some (.slice N' u.exits.length nc') := g 4 _ (f1.out 4)
  have d5 : w1.cell? ⟨w.heap.size + 1, 5, none⟩ = some (.int .i64 u.turn.at_) := g 5 _ (f1.out 5)
  have d6 : w1.cell? ⟨w.heap.size + 1, 6, none⟩ = some (.int .i64 u.turn.steps) := g 6 _ (f1.out 6)
  have d7 : w1.cell? ⟨w.heap.size + 1, 7, none⟩ = some t1' := g 7 _ (f1.out 7)
  have d8 : w1.cell? ⟨w.heap.size + 1, 8, none⟩ = some t2' := g 8 _ (f1.out 8)
  have d9 : w1.cell? ⟨w.heap.size + 1, 9, none⟩ = some (.int .i64 u.back.at_) := g 9 _ (f1.out 9)
  have d10 : w1.cell? ⟨w.heap.size + 1, 10, none⟩ = some (.int .i64 u.back.steps) := g 10 _ (f1.out 10)
  have d11 : w1.cell? ⟨w.heap.size + 1, 11, none⟩ = some t3' := g 11 _ (f1.out 11)
  have d12 : w1.cell? ⟨w.heap.size + 1, 12, none⟩ = some t4' := g 12 _ (f1.out 12)
  clear g
  go_wp2_with fail
  refine (hwu.out w1 K1.out).mono ?_
  rintro e w2 ⟨rfl, k2⟩
  have K2 := Lib.hid (Below.then K1.out k2 K1.out.size)
  have C2 := Lib.hid (Below.next C1.out k2)
  clear k2 d0 d1 d2 d3 d4 d5 d6 d7 d8 d9 d10 d11 d12
  go_wp2_with fail
  refine (irred_c w2).mono ?_
  rintro e w3 ⟨rfl, k3⟩
  have K3 := Lib.hid (Below.then K2.out k3 K2.out.size)
  have C3 := Lib.hid (Below.next C2.out k3)
  clear k3
  by_cases h1 : ea = 0
  · subst h1
    by_cases h2 : eb = 0
    · subst h2
      have HQ := heq rfl rfl
      clear heq ha hb
      have d0 : w3.cell? ⟨w.heap.size, 0, none⟩ = some (.int .i64 t.fn) := cell_on C3.out (f0.out 0)
      have d1 : w3.cell? ⟨w.heap.size, 1, none⟩ = some (.int .i64 t.at_) := cell_on C3.out (f0.out 1)
      have d2 : w3.cell? ⟨w.heap.size, 2, none⟩ = some (.int .i64 t.loop) := cell_on C3.out (f0.out 2)
      have d3 : w3.cell? ⟨w.heap.size, 3, none⟩ = some (.slice M t.ins.length mc) := cell_on C3.out (f0.out 3)
      have d4 : w3.cell? ⟨w.heap.size, 4, none⟩ = some (.slice N t.exits.length nc) := cell_on C3.out (f0.out 4)
      have d5 : w3.cell? ⟨w.heap.size, 5, none⟩ = some (.int .i64 t.turn.at_) := cell_on C3.out (f0.out 5)
      have d6 : w3.cell? ⟨w.heap.size, 6, none⟩ = some (.int .i64 t.turn.steps) := cell_on C3.out (f0.out 6)
      have d7 : w3.cell? ⟨w.heap.size, 7, none⟩ = some t1 := cell_on C3.out (f0.out 7)
      have d8 : w3.cell? ⟨w.heap.size, 8, none⟩ = some t2 := cell_on C3.out (f0.out 8)
      have d9 : w3.cell? ⟨w.heap.size, 9, none⟩ = some (.int .i64 t.back.at_) := cell_on C3.out (f0.out 9)
      have d10 : w3.cell? ⟨w.heap.size, 10, none⟩ = some (.int .i64 t.back.steps) := cell_on C3.out (f0.out 10)
      have d11 : w3.cell? ⟨w.heap.size, 11, none⟩ = some t3 := cell_on C3.out (f0.out 11)
      have d12 : w3.cell? ⟨w.heap.size, 12, none⟩ = some t4 := cell_on C3.out (f0.out 12)
      have e0 : w3.cell? ⟨w.heap.size + 1, 0, none⟩ = some (.int .i64 u.fn) := cell_on C3.out (f1.out 0)
      have e1 : w3.cell? ⟨w.heap.size + 1, 1, none⟩ = some (.int .i64 u.at_) := cell_on C3.out (f1.out 1)
      have e2 : w3.cell? ⟨w.heap.size + 1, 2, none⟩ = some (.int .i64 u.loop) := cell_on C3.out (f1.out 2)
      have e3 : w3.cell? ⟨w.heap.size + 1, 3, none⟩ = some (.slice M' u.ins.length mc') := cell_on C3.out (f1.out 3)
      have e4 : w3.cell? ⟨w.heap.size + 1, 4, none⟩ = some (.slice N' u.exits.length nc') := cell_on C3.out (f1.out 4)
      have e5 : w3.cell? ⟨w.heap.size + 1, 5, none⟩ = some (.int .i64 u.turn.at_) := cell_on C3.out (f1.out 5)
      have e6 : w3.cell? ⟨w.heap.size + 1, 6, none⟩ = some (.int .i64 u.turn.steps) := cell_on C3.out (f1.out 6)
      have e7 : w3.cell? ⟨w.heap.size + 1, 7, none⟩ = some t1' := cell_on C3.out (f1.out 7)
      have e8 : w3.cell? ⟨w.heap.size + 1, 8, none⟩ = some t2' := cell_on C3.out (f1.out 8)
      have e9 : w3.cell? ⟨w.heap.size + 1, 9, none⟩ = some (.int .i64 u.back.at_) := cell_on C3.out (f1.out 9)
      have e10 : w3.cell? ⟨w.heap.size + 1, 10, none⟩ = some (.int .i64 u.back.steps) := cell_on C3.out (f1.out 10)
      have e11 : w3.cell? ⟨w.heap.size + 1, 11, none⟩ = some t3' := cell_on C3.out (f1.out 11)
      have e12 : w3.cell? ⟨w.heap.size + 1, 12, none⟩ = some t4' := cell_on C3.out (f1.out 12)
      have hq : (sa.toList == sb.toList) = decide (t = u) := HQ.out
      go_wp2_with fail
      refine (hsame.out w3 K3.out).mono ?_
      rintro e w4 ⟨rfl, k4⟩
      have K4 := Lib.hid (Below.then K3.out k4 K3.out.size)
      clear k4 d0 d1 d2 d3 d4 d5 d6 d7 d8 d9 d10 d11 d12 e0 e1 e2 e3 e4 e5 e6 e7 e8 e9 e10 e11 e12
      clear hq
      cases hd : decide (t = u)
      all_goals
        go_wp2_with fail
        go_ret
        exact ⟨rfl, K4.out⟩
    · have hn : (eb != 0) = true := by simpa using h2
      clear heq ha hb h2
      go_wp2_with fail
      go_ret
      exact ⟨rfl, K3.out⟩
  · have hn : (ea != 0) = true := by simpa using h1
    clear heq ha hb h1
    go_wp2_with fail
    go_ret
    exact ⟨rfl, K3.out⟩
end Go.Proofs.YtogpbgkafkalnaaDoor
