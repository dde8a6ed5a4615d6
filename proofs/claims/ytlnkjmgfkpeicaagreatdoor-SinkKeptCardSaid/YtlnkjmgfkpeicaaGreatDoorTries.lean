/- code.tries. -/
import Derived.Test.YtlnkjmgfkpeicaaGreatDoorWalkN
import Derived.Laws.MakeOwn
import Derived.Lib.Builder
import Derived.Deep.LoopGhost
namespace Go.Proofs.YtlnkjmgfkpeicaaGreatDoor
open Go.RowKit

theorem infoBool : (Tryz.prog.info? 4).map (fun i => (i.zero, i.size, i.bytes)) = some (some (.bool false), 1, 1) := by kernel_rfl
theorem infoTrySl : (Tryz.prog.info? 161).map (fun i => (i.zero, i.size, i.bytes)) = some (some (.slice none 0 0), 1, 24) := by kernel_rfl
theorem madeCells_one (z : Value) (n : Nat) : madeCells #[z] n = ⟨List.replicate n z⟩ := by
  apply Array.toList_inj.1
  apply List.ext_getElem
  · simp [madeCells]
  · intro i h1 h2
    simp [madeCells, Nat.mod_one]
theorem mk_bools (n : Nat) (hn : n ≤ 600) (W : World) : (Instr.makeSlice 115 (.int .i64 (n : Int)) (.int .i64 (n : Int))).run Tryz.prog W = .ok (.slice (some ⟨W.heap.size, 0, none⟩) n n) (W.alloc (.cells ⟨List.replicate n (.bool false)⟩ 4)) := by
  obtain ⟨i0, hi, hz0, hz1, hz2⟩ := info_parts infoBool
  have h := run_make (P := Tryz.prog) W 115 4 i0 (.bool false) Tryz.underlying115 hi hz0 .i64 .i64 n n (by omega) (Int.le_refl _) (by rw [hz2]; omega) (by omega)
  rw [Int.toNat_natCast, hz1, Nat.mul_one] at h
  rw [h, show (Value.bool false).cells = #[.bool false] from rfl, madeCells_one]
theorem mk_tries (n : Nat) (hn : n ≤ 600) (W : World) : (Instr.makeSlice 114 (.int .i64 (n : Int)) (.int .i64 (n : Int))).run Tryz.prog W = .ok (.slice (some ⟨W.heap.size, 0, none⟩) n n) (W.alloc (.cells ⟨List.replicate n (.slice none 0 0)⟩ 161)) := by
  obtain ⟨i0, hi, hz0, hz1, hz2⟩ := info_parts infoTrySl
  have h := run_make (P := Tryz.prog) W 114 161 i0 (.slice none 0 0) Tryz.underlying114 hi hz0 .i64 .i64 n n (by omega) (Int.le_refl _) (by rw [hz2]; omega) (by omega)
  rw [Int.toNat_natCast, hz1, Nat.mul_one] at h
  rw [h, show (Value.slice none 0 0).cells = #[.slice none 0 0] from rfl, madeCells_one]

theorem WalkAt.pop {w : World} {B b : Nat} {v0 v1 v2 v3 : Value} {A5 : Option Addr} {n n5 : Nat} {s : WalkS} {bs bo : Nat} {g m cap : Nat} {ovs : List Value} (h : WalkAt w B b v0 v1 v2 v3 A5 n n5 s bs bo (.slice (some ⟨g, 0, none⟩) m cap) ovs) :
    WalkAt (w.setCell ⟨b, 7, none⟩ (.slice (some ⟨g, 0, none⟩) (m - 1) cap)) B b v0 v1 v2 v3 A5 n n5 (popM s) bs bo (.slice (some ⟨g, 0, none⟩) (m - 1) cap) ovs ∧ Walked B w (w.setCell ⟨b, 7, none⟩ (.slice (some ⟨g, 0, none⟩) (m - 1) cap)) := by
  have hk : Walked B w (w.setCell ⟨b, 7, none⟩ (.slice (some ⟨g, 0, none⟩) (m - 1) cap)) := (Walked.refl B w).set_ h.hb h.here (by decide) _ _
  have hne : bs ≠ b := by rintro rfl; have := h.here; rw [h.seen] at this; injection this with this; injection this with _ this _; exact absurd this (by decide)
  have hno : bo ≠ b := by rintro rfl; have := h.here; rw [h.outs] at this; injection this with this; injection this with _ this _; exact absurd this (by decide)
  have ho : w.ownsRow B 3 1 (.slice (some ⟨g, 0, none⟩) (m - 1) cap) (popM s).todo.length ((popM s).todo.map (.int .i64)) := by
    obtain ⟨h1, h2⟩ := h.todo
    rcases h2 with ⟨e, _⟩ | ⟨g', c', cur, e, k1, k2, k3, k4, k5, k6⟩
    · cases e
    · injection e with e1 e2 e3
      injection e1 with e1
      injection e1 with e1
      subst e1; subst e3
      have hl : (popM s).todo.length = m - 1 := by rw [e2]; simp [popM]
      refine ⟨by simp, .inr ⟨g, cap, cur, by rw [hl], k1, k2, by omega, k4, k5, ?_⟩⟩
      rw [hl]
      have e4 : (popM s).todo = s.todo.take (m - 1) := by rw [e2]; exact List.dropLast_eq_take
      rw [e4, List.map_take, ← k6, List.take_take]
      congr 1
      omega
  refine ⟨⟨h.hb, ?_, h.hbs, ?_, h.hbo, ?_, h.olen, fun i v l hv hl => hk.tries (h.out i v l hv hl), own_far ho h.here (by decide) _ _⟩, hk⟩
  · rw [heap_setCell_same w b 7 _ _ _ h.here]; rfl
  · rw [heap_setCell_other w _ bs _ hne]; exact h.seen
  · rw [heap_setCell_other w _ bo _ hno]; exact h.outs
theorem four_heap (w : World) (a b c d : Obj) : ((((w.alloc a).alloc b).alloc c).alloc d).heap[w.heap.size + 1]? = some b ∧ ((((w.alloc a).alloc b).alloc c).alloc d).heap[w.heap.size + 1 + 1]? = some c ∧ ((((w.alloc a).alloc b).alloc c).alloc d).heap[w.heap.size + 1 + 1 + 1]? = some d := by
  have e1 := heap_alloc2_new w a b
  have e2 := heap_alloc2_new (w.alloc a) b c
  have e3 := heap_alloc2_new ((w.alloc a).alloc b) c d
  simp only [World.size_alloc] at e2 e3
  exact ⟨(Lib.alloc_old _ d _ (by simp)).trans ((Lib.alloc_old _ c _ (by simp)).trans e1), (Lib.alloc_old _ d _ (by simp)).trans e2, e3⟩
theorem WalkAt.drew {w : World} {B b : Nat} {v0 v1 v2 v3 : Value} {A5 : Option Addr} {n n5 : Nat} {s : WalkS} {bs bo : Nat} {tv : Value} {ovs : List Value} (h : WalkAt w B b v0 v1 v2 v3 A5 n n5 s bs bo tv ovs) : WalkAt w.drew B b v0 v1 v2 v3 A5 n n5 s bs bo tv ovs :=
  ⟨h.hb, h.here, h.hbs, h.seen, h.hbo, h.outs, h.olen, h.out, h.todo⟩
theorem walk_fresh {w : World} {B b : Nat} {v0 v1 v2 v3 : Value} {A5 : Option Addr} {n n5 bs bo : Nat} (hb : B ≤ b) (hbs : B ≤ bs) (hbo : B ≤ bo)
    (h1 : w.heap[b]? = some (.cells #[v0, v1, v2, v3, .slice A5 n n5, .slice (some ⟨bs, 0, none⟩) n n, .slice (some ⟨bo, 0, none⟩) n n, .slice none 0 0, .bool false] 138))
    (h2 : w.heap[bs]? = some (.cells (Array.replicate n (.bool false)) 4)) (h3 : w.heap[bo]? = some (.cells (Array.replicate n (.slice none 0 0)) 161)) :
    WalkAt w B b v0 v1 v2 v3 A5 n n5 ⟨List.replicate n false, List.replicate n [], [], false⟩ bs bo (.slice none 0 0) (List.replicate n (.slice none 0 0)) := by
  refine ⟨hb, h1, hbs, ?_, hbo, ?_, by simp, fun i v l hv hl => ?_, World.ownsRow_nil _ _ _ _⟩
  · rw [h2, List.map_replicate]; rfl
  · rw [h3]; rfl
  · have e1 := (List.mem_replicate.1 (List.mem_of_getElem? hv)).2
    have e2 := (List.mem_replicate.1 (List.mem_of_getElem? hl)).2
    subst e1; subst e2
    exact SliceTy.nil _ _ _ _ _

/-- what 'tries' hands back: the tries of each order, whether a way leads to it, whether all is right -/
def TriesPost (n : Nat) (s : WalkS) (w : World) (e : Ending) (w' : World) : Prop :=
  ∃ bs bo ovs, e = .returned (.tuple #[.slice (some ⟨bo, 0, none⟩) n n, .slice (some ⟨bs, 0, none⟩) n n, .bool (!s.bad)]) ∧ w'.heap[bs]? = some (.cells ⟨s.seen.map .bool⟩ 4 (0, 0)) ∧ w'.heap[bo]? = some (.cells ⟨ovs⟩ 161 (0, 0)) ∧ ovs.length = n ∧
    (∀ (i : Nat) v l, ovs[i]? = some v → s.out[i]? = some l → SliceTy w' w.heap.size 164 2 TryR v l) ∧ WOk n s ∧ Below w.heap.size w w'

set_option maxHeartbeats 4000000 in
set_option maxRecDepth 100000 in
theorem tries_c (fcs : List Value) (f : CFn) (w : World) (hf : FnR w w.heap.size fcs f) (hn : f.code.length ≤ 600) (hj : JumpsOk f.code) :
    Calls Tryz.prog 51 #[.agg ⟨fcs⟩] w (TriesPost f.code.length (triesM f.code) w) := by
  obtain ⟨A4, n4, A5, n5, rfl, q1, q2, w1, w2⟩ := hf
  obtain ⟨n, hnn⟩ : ∃ n, f.code.length = n := ⟨_, rfl⟩
  have HT : Hid (triesM f.code = runW f.code (meas (startM n)) (startM n)) := by rw [← hnn]; rfl
  rw [hnn] at hn q2 ⊢
  obtain ⟨sf, hsf⟩ : ∃ sf, triesM f.code = sf := ⟨_, rfl⟩
  rw [hsf] at HT ⊢
  have HC := Lib.hid q2
  have HNN := Lib.hid hnn
  have HJ := Lib.hid hj
  have hmk1 := fun W => mk_bools n hn W
  have hmk2 := fun W => mk_tries n hn W
  have hn1 : (n : Int) ≤ 600 := by omega
  have hok0 : Hid (WOk n ⟨List.replicate n false, List.replicate n [], [], false⟩) := ⟨by simp, by simp, by simp, by simp, by simp [meas], by simp⟩
  clear q1 q2 hnn hsf hj
  go_enter Tryz.func51, Tryz.ntmps51
  go_wp2_with fail
  go_region
  go_wp2_with fail
  · refine (come_c w.heap.size (w.heap.size + 1 + 1 + 1) (.int .i64 f.params) (.int .i64 f.regs) (.bool f.gen) (.slice A4 f.caught.length n4) A5 n n5 _ (w.heap.size + 1) (w.heap.size + 1 + 1) _ _ 0 _ [] _ (walk_fresh (by omega) (by omega) (by omega) (four_heap w _ _ _ _).2.2 (four_heap w _ _ _ _).1 (four_heap w _ _ _ _).2.1).drew hok0.out hn (by omega) (SliceTy.nil _ _ _ _ _) (by simp; omega)).mono ?_
    rintro e w5 ⟨rfl, ⟨tv, ovs, k1⟩, k2⟩
    have K1 : Hid (∃ bs bo tv ovs, WalkAt w5 w.heap.size (w.heap.size + 1 + 1 + 1) (.int .i64 f.params) (.int .i64 f.regs) (.bool f.gen) (.slice A4 f.caught.length n4) A5 n n5 (startM n) bs bo tv ovs) := ⟨_, _, tv, ovs, k1⟩
    have K2 : Hid (Walked w.heap.size w w5) := by refine Walked.trans (Walked.of_below ?_) k2; repeat (first | exact Below.refl _ _ | refine Below.drew ?_ | refine Below.alloc ?_ (by simp <;> omega) _)
    clear k1 k2
    go_wp2_with fail
    have L0 : Hid (∃ s bs bo tv ovs, WalkAt w5 w.heap.size (w.heap.size + 1 + 1 + 1) (.int .i64 f.params) (.int .i64 f.regs) (.bool f.gen) (.slice A4 f.caught.length n4) A5 n n5 s bs bo tv ovs ∧ WOk n s ∧ meas s = meas (startM n) ∧ runW f.code (meas s) s = sf) := by
      obtain ⟨bs, bo, tv, ovs, k1⟩ := K1.out
      exact ⟨_, bs, bo, tv, ovs, k1, startM_ok n, rfl, HT.out.symm⟩
    go_loopg [6] (meas (startM n)) (fun k _ wr => Hid (∃ s bs bo tv ovs, WalkAt wr w.heap.size (w.heap.size + 1 + 1 + 1) (.int .i64 f.params) (.int .i64 f.regs) (.bool f.gen) (.slice A4 f.caught.length n4) A5 n n5 s bs bo tv ovs ∧ WOk n s ∧ meas s = k ∧ runW f.code (meas s) s = sf) ∧ Hid (Walked w.heap.size w wr))
    case atStart => exact ⟨L0, K2⟩
    case round =>
      clear L0 K1 K2
      obtain ⟨KS, KW⟩ := hrel
      obtain ⟨s, bs, bo, tv, ovs, ka, kok, km, kr⟩ := KS.out
      have KA := Lib.hid ka
      have KO := Lib.hid kok
      have KM := Lib.hid km
      have KR := Lib.hid kr
      clear KS ka kok km kr
      obtain ⟨tA, tc, rfl⟩ : ∃ tA tc, tv = .slice tA s.todo.length tc := by
        rcases KA.out.todo.2 with ⟨e, h0⟩ | ⟨g, c, _, e, _⟩
        · rw [e, h0]; exact ⟨_, _, rfl⟩
        · exact ⟨_, _, e⟩
      have hl : s.todo.length ≤ 600 := by have := KO.out.small; unfold meas at this; omega
      have hl1 : (s.todo.length : Int) ≤ 600 := by omega
      have c7 : wr.cell? ⟨w.heap.size + 1 + 1 + 1, 7, none⟩ = some (.slice tA s.todo.length tc) := cell_of_row wr _ 7 _ _ _ KA.out.here
      have c8 : wr.cell? ⟨w.heap.size + 1 + 1 + 1, 8, none⟩ = some (.bool s.bad) := cell_of_row wr _ 8 _ _ _ KA.out.here
      have c5 : wr.cell? ⟨w.heap.size + 1 + 1 + 1, 5, none⟩ = some (.slice (some ⟨bs, 0, none⟩) n n) := cell_of_row wr _ 5 _ _ _ KA.out.here
      have c6 : wr.cell? ⟨w.heap.size + 1 + 1 + 1, 6, none⟩ = some (.slice (some ⟨bo, 0, none⟩) n n) := cell_of_row wr _ 6 _ _ _ KA.out.here
      by_cases hgo : s.todo ≠ [] ∧ s.bad = false
      · obtain ⟨hne, hbad⟩ := hgo
        obtain ⟨t, ht⟩ : ∃ t, s.todo.getLast? = some t := ⟨_, List.getLast?_eq_some_getLast hne⟩
        have hpos : 0 < s.todo.length := List.length_pos_iff.2 hne
        have hp1 : (0 : Int) < s.todo.length := by omega
        obtain ⟨g, rfl, hcell⟩ : ∃ g, tA = some ⟨g, 0, none⟩ ∧ wr.cell? ⟨g, s.todo.length - 1, none⟩ = some (.int .i64 t) := by
          rcases KA.out.todo.2 with ⟨e, h0⟩ | ⟨g, c, cur, e, k1, k2, k3, k4, k5, k6⟩
          · omega
          · injection e with e1 e2 e3
            refine ⟨g, e1, ?_⟩
            rw [cell_of_row wr g _ _ _ _ k2, ← Array.getElem?_toList]
            have h7 : (cur.toList.take (s.todo.length * 1))[s.todo.length - 1]? = some (.int .i64 t) := by
              rw [k6, List.getElem?_map, ← List.getLast?_eq_getElem?, ht]; rfl
            rw [List.getElem?_take, if_pos (by omega)] at h7
            exact h7
        have htn := KO.out.todo t (List.mem_of_getLast? ht)
        obtain ⟨tn, rfl⟩ : ∃ tn : Nat, t = tn := ⟨t.toNat, by omega⟩
        have htn1 : tn < n := by omega
        obtain ⟨q, hq⟩ : ∃ q, q + 1 = s.todo.length := ⟨s.todo.length - 1, by omega⟩
        have hq1 : s.todo.length - 1 = q := by omega
        have HQ := Lib.hid hq
        rw [hq1] at hcell
        have KP := Lib.hid (KA.out.pop)
        have hcap : s.todo.length ≤ tc ∧ tc ≤ maxLen := by
          rcases KA.out.todo.2 with ⟨e, h0⟩ | ⟨g', c, cur, e, k1, k2, k3, k4, k5, k6⟩
          · cases e
          · injection e with e1 e2 e3; subst e3; exact ⟨k3, k4⟩
        have hf7 : wr.frozen? ⟨w.heap.size + 1 + 1 + 1, 7, none⟩ = false := frozen_of_row wr _ 7 _ _ KA.out.here
        obtain ⟨hcap1, hcap2⟩ := hcap
        unfold maxLen at hcap2
        have HLT := Lib.hid ht
        have HBD := Lib.hid hbad
        rw [hbad] at c8
        have f7 : ∀ E : Up wr, E.to.cell? ⟨w.heap.size + 1 + 1 + 1, 7, none⟩ = some (.slice (some ⟨g, 0, none⟩) s.todo.length tc) := fun E => E.cell c7
        have fg : ∀ E : Up wr, E.to.cell? ⟨g, q, none⟩ = some (.int .i64 tn) := fun E => E.cell hcell
        rw [← hq] at c7 f7
        have hqt : q + 1 ≤ tc := by omega
        clear hne ht htn hpos hp1 hq hq1 hbad hl hl1 hcap1
        have hqc : ((q : Int) + 1 - 1) = q := by omega
        have hqi : (q : Int) < (q : Int) + 1 := by omega
        have hq6 : (q : Int) ≤ 599 := by have := HQ.out; have := KO.out.small; unfold meas at this; omega
        go_wp2_with fail
        refine wp_region_up (by kernel_rfl) (by kernel_rfl) ?_
        repeat (go_big_quiet_step (fail))
        refine wpQuiet_nil ?_
        rintro _ ⟨E, rfl⟩
        have KE := Lib.hid E.below
        have f7' : ∀ E2 : Up E.to, E2.to.cell? ⟨w.heap.size + 1 + 1 + 1, 7, none⟩ = some (.slice (some ⟨g, 0, none⟩) (q + 1) tc) := fun E2 => E2.cell (f7 E)
        clear f7 fg hcell c5 c6 c7 c8
        go_wp2_with fail
        refine wp_region_up_tail 12 (by kernel_rfl) (by kernel_rfl) ?_
        simp only [List.take_succ_cons, List.take_zero, List.drop_succ_cons, List.drop_zero]
        repeat (go_big_quiet_step (fail))
        refine wpQuiet_nil ?_
        rintro _ ⟨E2, rfl⟩
        have KE2 : Hid (Below wr.heap.size wr E2.to) := below_to KE.out E2
        have KP2 : Hid (WalkAt (E2.to.setCell ⟨w.heap.size + 1 + 1 + 1, 7, none⟩ (.slice (some ⟨g, 0, none⟩) q tc)) w.heap.size (w.heap.size + 1 + 1 + 1) (.int .i64 f.params) (.int .i64 f.regs) (.bool f.gen) (.slice A4 f.caught.length n4) A5 n n5 (popM s) bs bo (.slice (some ⟨g, 0, none⟩) q tc) ovs ∧ Walked w.heap.size E2.to (E2.to.setCell ⟨w.heap.size + 1 + 1 + 1, 7, none⟩ (.slice (some ⟨g, 0, none⟩) q tc))) := by
          have := (KA.out.below KE2.out).pop
          rwa [show s.todo.length - 1 = q from by have := HQ.out; omega] at this
        have d7 : E2.to.cell? ⟨w.heap.size + 1 + 1 + 1, 7, none⟩ = some (.slice (some ⟨g, 0, none⟩) (q + 1) tc) := f7' E2
        have e7 : E2.to.frozen? ⟨w.heap.size + 1 + 1 + 1, 7, none⟩ = false := frozen_of_row _ _ 7 _ _ (KA.out.below KE2.out).here
        have W6 : Hid (Walked w.heap.size w (E2.to.setCell ⟨w.heap.size + 1 + 1 + 1, 7, none⟩ (.slice (some ⟨g, 0, none⟩) q tc))) := (KW.out.below_ KE2.out).trans KP2.out.2
        clear f7'
        go_wp2_with fail
        refine (from_c w.heap.size (w.heap.size + 1 + 1 + 1) (.int .i64 f.params) (.int .i64 f.regs) (.bool f.gen) (.slice A4 f.caught.length n4) A5 n n5 (popM s) bs bo _ ovs tn f.code _ KP2.out.1 KO.out.pop hn htn1 HNN.out.symm (HC.out.keep (Nat.le_refl _) (fun p hp => (W6.out.under (Nat.le_refl _)).cell hp) (fun _ _ h => h)) HJ.out W6.out.size).mono ?_
        rintro e w8 ⟨rfl, ⟨tv8, ovs8, k1⟩, k2⟩
        have K8 : Hid (∃ s' bs bo tv ovs, WalkAt w8 w.heap.size (w.heap.size + 1 + 1 + 1) (.int .i64 f.params) (.int .i64 f.regs) (.bool f.gen) (.slice A4 f.caught.length n4) A5 n n5 s' bs bo tv ovs ∧ WOk n s' ∧ meas s' = s.todo.length - 1 + s.seen.count false ∧ runW f.code (meas s') s' = sf) := by
          refine ⟨_, bs, bo, tv8, ovs8, k1, KO.out.pop.from_ HJ.out (by omega), ?_, ?_⟩
          · rw [meas_from]; simp [meas, popM]; omega
          · rw [← run_step HLT.out HBD.out]; exact KR.out
        have K9 := Lib.hid (W6.out.trans k2)
        clear k1 k2 d7 e7
        go_wp2_with fail
        go_roundg (s.todo.length - 1 + s.seen.count false)
        case measure => have h1 := KM.out; have h2 := HQ.out; unfold meas at h1; omega
        case rel => exact ⟨K8, K9⟩
      · have KRE : Hid (sf = s) := by
          rw [← KR.out]; exact run_end (by
            by_cases h : s.todo = []
            · exact .inl h
            · right
              cases hb : s.bad
              · exact absurd ⟨h, hb⟩ hgo
              · rfl) _
        have f5 : ∀ E : Up wr, E.to.cell? ⟨w.heap.size + 1 + 1 + 1, 5, none⟩ = some (.slice (some ⟨bs, 0, none⟩) n n) := fun E => E.cell c5
        have f6 : ∀ E : Up wr, E.to.cell? ⟨w.heap.size + 1 + 1 + 1, 6, none⟩ = some (.slice (some ⟨bo, 0, none⟩) n n) := fun E => E.cell c6
        have f8 : ∀ E : Up wr, E.to.cell? ⟨w.heap.size + 1 + 1 + 1, 8, none⟩ = some (.bool s.bad) := fun E => E.cell c8
        by_cases ht0 : s.todo.length = 0
        · have hx : ¬ (0 : Int) < s.todo.length := by omega
          clear hgo ht0 hl hl1
          go_wp2_with fail
          refine wp_region_up (by kernel_rfl) (by kernel_rfl) ?_
          repeat (go_big_quiet_step (fail))
          refine wpQuiet_nil ?_
          rintro _ ⟨E, rfl⟩
          have KE := Lib.hid E.below
          clear f5 f6 f8 c5 c6 c7 c8
          go_wp2_with fail
          go_ret3
          rw [KRE.out]
          have h9 := KA.out.below KE.out
          exact ⟨bs, bo, ovs, rfl, h9.seen, h9.outs, h9.olen, h9.out, KO.out, (KW.out.below_ KE.out).under (Nat.le_refl _)⟩
        · have hx : (0 : Int) < s.todo.length := by omega
          have hbad : s.bad = true := by
            cases hb : s.bad
            · exact absurd ⟨fun e => ht0 (by rw [e]; rfl), hb⟩ hgo
            · rfl
          rw [hbad] at c8 f8
          have HBD := Lib.hid hbad
          clear hgo ht0 hl hbad
          go_wp2_with fail
          refine wp_region_up (by kernel_rfl) (by kernel_rfl) ?_
          repeat (go_big_quiet_step (fail))
          refine wpQuiet_nil ?_
          rintro _ ⟨E, rfl⟩
          have KE := Lib.hid E.below
          clear f5 f6 f8 c5 c6 c7 c8
          go_wp2_with fail
          go_ret3
          rw [KRE.out]
          have h9 := KA.out.below KE.out
          exact ⟨bs, bo, ovs, by rw [HBD.out]; rfl, h9.seen, h9.outs, h9.olen, h9.out, KO.out, (KW.out.below_ KE.out).under (Nat.le_refl _)⟩
  · refine (come_c w.heap.size (w.heap.size + 1 + 1 + 1) (.int .i64 f.params) (.int .i64 f.regs) (.bool f.gen) (.slice A4 f.caught.length n4) A5 n n5 _ (w.heap.size + 1 + 1) (w.heap.size + 1) _ _ 0 _ [] _ (walk_fresh (by omega) (by omega) (by omega) (four_heap w _ _ _ _).2.2 (four_heap w _ _ _ _).2.1 (four_heap w _ _ _ _).1).drew hok0.out hn (by omega) (SliceTy.nil _ _ _ _ _) (by simp; omega)).mono ?_
    rintro e w5 ⟨rfl, ⟨tv, ovs, k1⟩, k2⟩
    have K1 : Hid (∃ bs bo tv ovs, WalkAt w5 w.heap.size (w.heap.size + 1 + 1 + 1) (.int .i64 f.params) (.int .i64 f.regs) (.bool f.gen) (.slice A4 f.caught.length n4) A5 n n5 (startM n) bs bo tv ovs) := ⟨_, _, tv, ovs, k1⟩
    have K2 : Hid (Walked w.heap.size w w5) := by refine Walked.trans (Walked.of_below ?_) k2; repeat (first | exact Below.refl _ _ | refine Below.drew ?_ | refine Below.alloc ?_ (by simp <;> omega) _)
    clear k1 k2
    go_wp2_with fail
    have L0 : Hid (∃ s bs bo tv ovs, WalkAt w5 w.heap.size (w.heap.size + 1 + 1 + 1) (.int .i64 f.params) (.int .i64 f.regs) (.bool f.gen) (.slice A4 f.caught.length n4) A5 n n5 s bs bo tv ovs ∧ WOk n s ∧ meas s = meas (startM n) ∧ runW f.code (meas s) s = sf) := by
      obtain ⟨bs, bo, tv, ovs, k1⟩ := K1.out
      exact ⟨_, bs, bo, tv, ovs, k1, startM_ok n, rfl, HT.out.symm⟩
    go_loopg [6] (meas (startM n)) (fun k _ wr => Hid (∃ s bs bo tv ovs, WalkAt wr w.heap.size (w.heap.size + 1 + 1 + 1) (.int .i64 f.params) (.int .i64 f.regs) (.bool f.gen) (.slice A4 f.caught.length n4) A5 n n5 s bs bo tv ovs ∧ WOk n s ∧ meas s = k ∧ runW f.code (meas s) s = sf) ∧ Hid (Walked w.heap.size w wr))
    case atStart => exact ⟨L0, K2⟩
    case round =>
      clear L0 K1 K2
      obtain ⟨KS, KW⟩ := hrel
      obtain ⟨s, bs, bo, tv, ovs, ka, kok, km, kr⟩ := KS.out
      have KA := Lib.hid ka
      have KO := Lib.hid kok
      have KM := Lib.hid km
      have KR := Lib.hid kr
      clear KS ka kok km kr
      obtain ⟨tA, tc, rfl⟩ : ∃ tA tc, tv = .slice tA s.todo.length tc := by
        rcases KA.out.todo.2 with ⟨e, h0⟩ | ⟨g, c, _, e, _⟩
        · rw [e, h0]; exact ⟨_, _, rfl⟩
        · exact ⟨_, _, e⟩
      have hl : s.todo.length ≤ 600 := by have := KO.out.small; unfold meas at this; omega
      have hl1 : (s.todo.length : Int) ≤ 600 := by omega
      have c7 : wr.cell? ⟨w.heap.size + 1 + 1 + 1, 7, none⟩ = some (.slice tA s.todo.length tc) := cell_of_row wr _ 7 _ _ _ KA.out.here
      have c8 : wr.cell? ⟨w.heap.size + 1 + 1 + 1, 8, none⟩ = some (.bool s.bad) := cell_of_row wr _ 8 _ _ _ KA.out.here
      have c5 : wr.cell? ⟨w.heap.size + 1 + 1 + 1, 5, none⟩ = some (.slice (some ⟨bs, 0, none⟩) n n) := cell_of_row wr _ 5 _ _ _ KA.out.here
      have c6 : wr.cell? ⟨w.heap.size + 1 + 1 + 1, 6, none⟩ = some (.slice (some ⟨bo, 0, none⟩) n n) := cell_of_row wr _ 6 _ _ _ KA.out.here
      by_cases hgo : s.todo ≠ [] ∧ s.bad = false
      · obtain ⟨hne, hbad⟩ := hgo
        obtain ⟨t, ht⟩ : ∃ t, s.todo.getLast? = some t := ⟨_, List.getLast?_eq_some_getLast hne⟩
        have hpos : 0 < s.todo.length := List.length_pos_iff.2 hne
        have hp1 : (0 : Int) < s.todo.length := by omega
        obtain ⟨g, rfl, hcell⟩ : ∃ g, tA = some ⟨g, 0, none⟩ ∧ wr.cell? ⟨g, s.todo.length - 1, none⟩ = some (.int .i64 t) := by
          rcases KA.out.todo.2 with ⟨e, h0⟩ | ⟨g, c, cur, e, k1, k2, k3, k4, k5, k6⟩
          · omega
          · injection e with e1 e2 e3
            refine ⟨g, e1, ?_⟩
            rw [cell_of_row wr g _ _ _ _ k2, ← Array.getElem?_toList]
            have h7 : (cur.toList.take (s.todo.length * 1))[s.todo.length - 1]? = some (.int .i64 t) := by
              rw [k6, List.getElem?_map, ← List.getLast?_eq_getElem?, ht]; rfl
            rw [List.getElem?_take, if_pos (by omega)] at h7
            exact h7
        have htn := KO.out.todo t (List.mem_of_getLast? ht)
        obtain ⟨tn, rfl⟩ : ∃ tn : Nat, t = tn := ⟨t.toNat, by omega⟩
        have htn1 : tn < n := by omega
        obtain ⟨q, hq⟩ : ∃ q, q + 1 = s.todo.length := ⟨s.todo.length - 1, by omega⟩
        have hq1 : s.todo.length - 1 = q := by omega
        have HQ := Lib.hid hq
        rw [hq1] at hcell
        have KP := Lib.hid (KA.out.pop)
        have hcap : s.todo.length ≤ tc ∧ tc ≤ maxLen := by
          rcases KA.out.todo.2 with ⟨e, h0⟩ | ⟨g', c, cur, e, k1, k2, k3, k4, k5, k6⟩
          · cases e
          · injection e with e1 e2 e3; subst e3; exact ⟨k3, k4⟩
        have hf7 : wr.frozen? ⟨w.heap.size + 1 + 1 + 1, 7, none⟩ = false := frozen_of_row wr _ 7 _ _ KA.out.here
        obtain ⟨hcap1, hcap2⟩ := hcap
        unfold maxLen at hcap2
        have HLT := Lib.hid ht
        have HBD := Lib.hid hbad
        rw [hbad] at c8
        have f7 : ∀ E : Up wr, E.to.cell? ⟨w.heap.size + 1 + 1 + 1, 7, none⟩ = some (.slice (some ⟨g, 0, none⟩) s.todo.length tc) := fun E => E.cell c7
        have fg : ∀ E : Up wr, E.to.cell? ⟨g, q, none⟩ = some (.int .i64 tn) := fun E => E.cell hcell
        rw [← hq] at c7 f7
        have hqt : q + 1 ≤ tc := by omega
        clear hne ht htn hpos hp1 hq hq1 hbad hl hl1 hcap1
        have hqc : ((q : Int) + 1 - 1) = q := by omega
        have hqi : (q : Int) < (q : Int) + 1 := by omega
        have hq6 : (q : Int) ≤ 599 := by have := HQ.out; have := KO.out.small; unfold meas at this; omega
        go_wp2_with fail
        refine wp_region_up (by kernel_rfl) (by kernel_rfl) ?_
        repeat (go_big_quiet_step (fail))
        refine wpQuiet_nil ?_
        rintro _ ⟨E, rfl⟩
        have KE := Lib.hid E.below
        have f7' : ∀ E2 : Up E.to, E2.to.cell? ⟨w.heap.size + 1 + 1 + 1, 7, none⟩ = some (.slice (some ⟨g, 0, none⟩) (q + 1) tc) := fun E2 => E2.cell (f7 E)
        clear f7 fg hcell c5 c6 c7 c8
        go_wp2_with fail
        refine wp_region_up_tail 12 (by kernel_rfl) (by kernel_rfl) ?_
        simp only [List.take_succ_cons, List.take_zero, List.drop_succ_cons, List.drop_zero]
        repeat (go_big_quiet_step (fail))
        refine wpQuiet_nil ?_
        rintro _ ⟨E2, rfl⟩
        have KE2 : Hid (Below wr.heap.size wr E2.to) := below_to KE.out E2
        have KP2 : Hid (WalkAt (E2.to.setCell ⟨w.heap.size + 1 + 1 + 1, 7, none⟩ (.slice (some ⟨g, 0, none⟩) q tc)) w.heap.size (w.heap.size + 1 + 1 + 1) (.int .i64 f.params) (.int .i64 f.regs) (.bool f.gen) (.slice A4 f.caught.length n4) A5 n n5 (popM s) bs bo (.slice (some ⟨g, 0, none⟩) q tc) ovs ∧ Walked w.heap.size E2.to (E2.to.setCell ⟨w.heap.size + 1 + 1 + 1, 7, none⟩ (.slice (some ⟨g, 0, none⟩) q tc))) := by
          have := (KA.out.below KE2.out).pop
          rwa [show s.todo.length - 1 = q from by have := HQ.out; omega] at this
        have d7 : E2.to.cell? ⟨w.heap.size + 1 + 1 + 1, 7, none⟩ = some (.slice (some ⟨g, 0, none⟩) (q + 1) tc) := f7' E2
        have e7 : E2.to.frozen? ⟨w.heap.size + 1 + 1 + 1, 7, none⟩ = false := frozen_of_row _ _ 7 _ _ (KA.out.below KE2.out).here
        have W6 : Hid (Walked w.heap.size w (E2.to.setCell ⟨w.heap.size + 1 + 1 + 1, 7, none⟩ (.slice (some ⟨g, 0, none⟩) q tc))) := (KW.out.below_ KE2.out).trans KP2.out.2
        clear f7'
        go_wp2_with fail
        refine (from_c w.heap.size (w.heap.size + 1 + 1 + 1) (.int .i64 f.params) (.int .i64 f.regs) (.bool f.gen) (.slice A4 f.caught.length n4) A5 n n5 (popM s) bs bo _ ovs tn f.code _ KP2.out.1 KO.out.pop hn htn1 HNN.out.symm (HC.out.keep (Nat.le_refl _) (fun p hp => (W6.out.under (Nat.le_refl _)).cell hp) (fun _ _ h => h)) HJ.out W6.out.size).mono ?_
        rintro e w8 ⟨rfl, ⟨tv8, ovs8, k1⟩, k2⟩
        have K8 : Hid (∃ s' bs bo tv ovs, WalkAt w8 w.heap.size (w.heap.size + 1 + 1 + 1) (.int .i64 f.params) (.int .i64 f.regs) (.bool f.gen) (.slice A4 f.caught.length n4) A5 n n5 s' bs bo tv ovs ∧ WOk n s' ∧ meas s' = s.todo.length - 1 + s.seen.count false ∧ runW f.code (meas s') s' = sf) := by
          refine ⟨_, bs, bo, tv8, ovs8, k1, KO.out.pop.from_ HJ.out (by omega), ?_, ?_⟩
          · rw [meas_from]; simp [meas, popM]; omega
          · rw [← run_step HLT.out HBD.out]; exact KR.out
        have K9 := Lib.hid (W6.out.trans k2)
        clear k1 k2 d7 e7
        go_wp2_with fail
        go_roundg (s.todo.length - 1 + s.seen.count false)
        case measure => have h1 := KM.out; have h2 := HQ.out; unfold meas at h1; omega
        case rel => exact ⟨K8, K9⟩
      · have KRE : Hid (sf = s) := by
          rw [← KR.out]; exact run_end (by
            by_cases h : s.todo = []
            · exact .inl h
            · right
              cases hb : s.bad
              · exact absurd ⟨h, hb⟩ hgo
              · rfl) _
        have f5 : ∀ E : Up wr, E.to.cell? ⟨w.heap.size + 1 + 1 + 1, 5, none⟩ = some (.slice (some ⟨bs, 0, none⟩) n n) := fun E => E.cell c5
        have f6 : ∀ E : Up wr, E.to.cell? ⟨w.heap.size + 1 + 1 + 1, 6, none⟩ = some (.slice (some ⟨bo, 0, none⟩) n n) := fun E => E.cell c6
        have f8 : ∀ E : Up wr, E.to.cell? ⟨w.heap.size + 1 + 1 + 1, 8, none⟩ = some (.bool s.bad) := fun E => E.cell c8
        by_cases ht0 : s.todo.length = 0
        · have hx : ¬ (0 : Int) < s.todo.length := by omega
          clear hgo ht0 hl hl1
          go_wp2_with fail
          refine wp_region_up (by kernel_rfl) (by kernel_rfl) ?_
          repeat (go_big_quiet_step (fail))
          refine wpQuiet_nil ?_
          rintro _ ⟨E, rfl⟩
          have KE := Lib.hid E.below
          clear f5 f6 f8 c5 c6 c7 c8
          go_wp2_with fail
          go_ret3
          rw [KRE.out]
          have h9 := KA.out.below KE.out
          exact ⟨bs, bo, ovs, rfl, h9.seen, h9.outs, h9.olen, h9.out, KO.out, (KW.out.below_ KE.out).under (Nat.le_refl _)⟩
        · have hx : (0 : Int) < s.todo.length := by omega
          have hbad : s.bad = true := by
            cases hb : s.bad
            · exact absurd ⟨fun e => ht0 (by rw [e]; rfl), hb⟩ hgo
            · rfl
          rw [hbad] at c8 f8
          have HBD := Lib.hid hbad
          clear hgo ht0 hl hbad
          go_wp2_with fail
          refine wp_region_up (by kernel_rfl) (by kernel_rfl) ?_
          repeat (go_big_quiet_step (fail))
          refine wpQuiet_nil ?_
          rintro _ ⟨E, rfl⟩
          have KE := Lib.hid E.below
          clear f5 f6 f8 c5 c6 c7 c8
          go_wp2_with fail
          go_ret3
          rw [KRE.out]
          have h9 := KA.out.below KE.out
          exact ⟨bs, bo, ovs, by rw [HBD.out]; rfl, h9.seen, h9.outs, h9.olen, h9.out, KO.out, (KW.out.below_ KE.out).under (Nat.le_refl _)⟩
end Go.Proofs.YtlnkjmgfkpeicaaGreatDoor
