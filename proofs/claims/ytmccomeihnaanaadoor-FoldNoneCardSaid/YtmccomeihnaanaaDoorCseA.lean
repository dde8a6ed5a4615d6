/- cse.of: the key of an instruction; keys in maps. -/
import Derived.Test.YtmccomeihnaanaaDoorCutK
import Derived.Test.YtmccomeihnaanaaDoorCseM
import Derived.DeepKeys4
import Derived.Deep.DeepCutAuto
import Derived.Maps.OwnOps
import Derived.Maps.OwnSet
import Derived.Maps.Views
namespace Go.Proofs.YtmccomeihnaanaaDoor
open Go.RowKit Go.Maps

def keyCells (k : Key) : List Value := [.int .i64 k.op, .int .i64 k.n, .int .i64 k.a, .int .i64 k.b, .bool k.ahead, .int .i64 k.k.kind, .int .i64 k.k.n]
def keyV (k : Key) : Value := .agg #[.int .i64 k.op, .int .i64 k.n, .int .i64 k.a, .int .i64 k.b, .bool k.ahead, .int .i64 k.k.kind, .int .i64 k.k.n]
def key0 : Key := ⟨0, 0, 0, 0, false, ⟨0, 0⟩⟩
def WfKey (k : Key) : Prop := wfi k.op ∧ wfi k.n ∧ wfi k.a ∧ wfi k.b ∧ wfi k.k.kind ∧ wfi k.k.n
theorem keyM_wf {x : TIns} {ah : Bool} {k : Key} (hx : WfIns x) (h : keyM x ah = some k) : WfKey k := by
  obtain ⟨h0, ha, hb, hc, hn, he, hk, hkn⟩ := hx
  have z : wfi 0 := by unfold wfi; omega
  have o1 : wfi 1 := by unfold wfi; omega
  have o2 : wfi 2 := by unfold wfi; omega
  have o3 : wfi 3 := by unfold wfi; omega
  have o7 : wfi 7 := by unfold wfi; omega
  have o8 : wfi 8 := by unfold wfi; omega
  have hmin : wfi (min x.a x.b) := by unfold wfi at *; omega
  have hmax : wfi (max x.a x.b) := by unfold wfi at *; omega
  unfold keyM at h
  repeat (split at h; · injection h with h; subst h; first | exact ⟨o2, z, z, z, hk, hkn⟩ | exact ⟨o3, z, z, z, z, z⟩ | exact ⟨o1, hn, z, z, z, z⟩ | exact ⟨o8, hn, ha, z, z, z⟩ | (split <;> first | exact ⟨o7, hn, hmin, hmax, z, z⟩ | exact ⟨o7, hn, ha, hb, z, z⟩))
  cases h
theorem keyV_inj {k q : Key} (h : keyV k = keyV q) : k = q := by
  obtain ⟨a, b, c, d, e, ⟨f, g⟩⟩ := k
  obtain ⟨a', b', c', d', e', ⟨f', g'⟩⟩ := q
  unfold keyV at h
  simp only [Value.agg.injEq, Array.mk.injEq, List.cons.injEq, Value.int.injEq, Value.bool.injEq, true_and, and_true] at h
  obtain ⟨rfl, rfl, rfl, rfl, rfl, rfl, rfl⟩ := h
  rfl

theorem keyLaid : laidOutB Tryd.prog = true := by kernel_rfl
theorem keyRow : (87 : TypeId) < Tryd.prog.types.size := of_decide_eq_true (by kernel_rfl)
theorem keyWide : (match Tryd.prog.underlying 87 with | some (.array _ _) | some (.struct _) => true | _ => false) = true := by kernel_rfl
set_option maxRecDepth 100000 in
theorem keyLawK : Keyed Tryd.prog 87 := Keyed.of_law (deep_law_laid keyLaid (m := 3) (by omega) keyRow (by kernel_rfl) keyWide)
theorem int_wf {n : Int} (h : wfi n) : (Lit.int .i64 n).wf = true := by
  unfold wfi at h; simp [Lit.wf, IntKind.min, IntKind.max, IntKind.signed, IntKind.bits]; omega
theorem kl_int (d : Nat) {n : Int} (h : wfi n) : Tryd.prog.keyLits (d + 1) 3 [.int .i64 n] = some [.int .i64 n] := by
  unfold Program.keyLits
  simp [Tryd.underlying3, int_wf h]
theorem kl_bool (d : Nat) (b : Bool) : Tryd.prog.keyLits (d + 1) 4 [.bool b] = some [.bool b] := by
  unfold Program.keyLits
  simp [Tryd.underlying4]
theorem keyLits_struct {P : Program} {d : Nat} {t : TypeId} {fs : Array Field} {cs : List Value} (h : P.underlying t = some (.struct fs)) (hc : cs.length = P.cellsOf t) (hn : fs.all (·.name != "_") = true) :
    P.keyLits (d + 1) t cs = (fs.toList.mapM fun f => P.keyLits d f.type ((cs.drop f.offset).take (P.cellsOf f.type))).map List.flatten := by
  conv => lhs; unfold Program.keyLits
  split
  all_goals (first | (rename_i e; rw [h] at e; cases e; done) | (rename_i e _; rw [h] at e; cases e; done) | skip)
  · rename_i fs' cs' e
    rw [h] at e
    injection e with e
    injection e with e
    subst e
    rw [if_pos ⟨hc, hn⟩]
  · simp_all
theorem cK1 : Tryd.prog.cellsOf 3 = 1 := by kernel_rfl
theorem cK2 : Tryd.prog.cellsOf 4 = 1 := by kernel_rfl
theorem cK3 : Tryd.prog.cellsOf 41 = 2 := by kernel_rfl
theorem cK4 : Tryd.prog.cellsOf 87 = 7 := by kernel_rfl
theorem kl_val (d : Nat) {a b : Int} (ha : wfi a) (hb : wfi b) : Tryd.prog.keyLits (d + 1 + 1) 41 [.int .i64 a, .int .i64 b] = some [.int .i64 a, .int .i64 b] := by
  rw [keyLits_struct Tryd.underlying41 (by rw [cK3]; rfl) (by simp)]
  simp [cK1, kl_int d ha, kl_int d hb]
set_option maxRecDepth 100000 in
theorem keyOf_key {k : Key} (h : WfKey k) : ∃ l, keyOf Tryd.prog 87 (keyV k) = some l := by
  obtain ⟨h0, h1, h2, h3, h4, h5⟩ := h
  have e1 : Tryd.prog.keyType 87 = true := by kernel_rfl
  have e2 : (keyV k).formed Tryd.prog 87 = true := by
    unfold keyV
    simp [Value.formed, Tryd.underlying87, cK4]
  obtain ⟨d, hd⟩ : ∃ d, Tryd.prog.types.size + 1 = d + 1 + 1 + 1 := ⟨Tryd.prog.types.size - 2, by have : 2 ≤ Tryd.prog.types.size := of_decide_eq_true (by kernel_rfl); omega⟩
  have e3 : ∃ L, Tryd.prog.keyLits (d + 1 + 1 + 1) 87 (keyV k).cells.toList = some L := by
    unfold keyV
    rw [keyLits_struct Tryd.underlying87 (by rw [cK4]; rfl) (by simp)]
    simp [cK1, cK2, cK3, Value.cells, kl_int (d + 1) h0, kl_int (d + 1) h1, kl_int (d + 1) h2, kl_int (d + 1) h3, kl_bool (d + 1) k.ahead, kl_val d h4 h5]
  obtain ⟨L, hL⟩ := e3
  refine ⟨.string (keyBytes L), ?_⟩
  unfold keyOf
  rw [Tryd.underlying87]
  simp only []
  rw [e1, e2, hd, hL]
  rfl
noncomputable def litK (k : Key) : Lit := (keyOf Tryd.prog 87 (keyV k)).getD (.int .i64 0)
theorem keyOf_lit {k : Key} (h : WfKey k) : keyOf Tryd.prog 87 (keyV k) = some (litK k) := by
  obtain ⟨l, hl⟩ := keyOf_key h
  unfold litK
  rw [hl]; rfl
theorem litK_inj {k q : Key} (hk : WfKey k) (hq : WfKey q) (h : litK k = litK q) : k = q :=
  keyV_inj (keyLawK.inj (keyOf_lit hk) (by rw [h]; exact keyOf_lit hq))
noncomputable def seenDK : List (Key × Int) → DataW Unit
  | [] => .map []
  | (k, i) :: l => (seenDK l).put (litK k) (.lit (.int .i64 i))
theorem seenDK_map : ∀ l : List (Key × Int), IsMap (seenDK l)
  | [] => isMap_empty
  | (k, i) :: l => (seenDK_map l).put _ _
set_option maxRecDepth 100000 in
theorem seenDK_spec {k : Key} (hk : WfKey k) : ∀ l : List (Key × Int), (∀ p ∈ l, WfKey p.1) →
    (seenM k l = none → Maps.has (seenDK l) (litK k) = false) ∧ ∀ i, seenM k l = some i → Maps.has (seenDK l) (litK k) = true ∧ ∀ z, (seenDK l).atKey (litK k) z = .lit (.int .i64 i)
  | [], _ => ⟨fun _ => rfl, fun i h => by cases h⟩
  | (q, i) :: l, hl => by
    have ih := seenDK_spec hk l (fun p hp => hl p (by simp [hp]))
    have hq : WfKey q := hl (q, i) (by simp)
    unfold seenM seenDK
    by_cases c : q = k
    · subst c
      rw [if_pos rfl]
      refine ⟨fun h => (by cases h), fun j h => ?_⟩
      injection h with h
      subst h
      exact ⟨has_put_same (seenDK_map l) (keyLawK.key (keyOf_lit hq)) _, fun z => atKey_put_same (seenDK_map l) (keyLawK.key (keyOf_lit hq)) _ _⟩
    · rw [if_neg c]
      have hne : litK k ≠ litK q := fun e => c (litK_inj hk hq e).symm
      refine ⟨fun h => by rw [has_put_other hne]; exact ih.1 h, fun j h => ?_⟩
      obtain ⟨a, b⟩ := ih.2 j h
      exact ⟨by rw [has_put_other hne]; exact a, fun z => by rw [atKey_put_other hne]; exact b z⟩

theorem infoKey7 : (Tryd.prog.info? 87).map (·.size) = some 7 := by kernel_rfl
set_option maxHeartbeats 2000000 in
set_option maxRecDepth 100000 in
theorem cseOf_c (x : TIns) (ah : Bool) (w : World) (hx : WfIns x) : Calls Tryd.prog 43 #[insV x, .bool ah] w (fun e w' => e = .returned (.tuple #[keyV ((keyM x ah).getD key0), .bool (keyM x ah).isSome]) ∧ Below w.heap.size w w') := by
  obtain ⟨op, xa, xb, xc, xn, xe, ⟨kk, kn⟩⟩ := x
  obtain ⟨r, hr⟩ : ∃ r, keyM ⟨op, xa, xb, xc, xn, xe, ⟨kk, kn⟩⟩ ah = r := ⟨_, rfl⟩
  rw [hr]
  unfold keyM at hr
  dsimp only at hr
  unfold insV
  dsimp only
  clear hx
  by_cases c2 : op = 2
  · subst c2
    rw [if_pos rfl] at hr
    subst hr
    go_enter Tryd.func43, Tryd.ntmps43
    go_wp2_with fail
    refine bodyPost_ret (v := .tuple #[keyV ⟨2, 0, 0, 0, false, ⟨kk, kn⟩⟩, .bool true]) (by simp [results, Tryd.results43, go_sem, keyV]) rfl ⟨rfl, ?_⟩
    repeat (first | exact Below.refl _ _ | refine Below.drew ?_ | refine Below.setCell ?_ (by simp <;> omega) _ | refine Below.alloc ?_ (by simp <;> omega) _)
  rw [if_neg c2] at hr
  by_cases c3 : op = 3
  · subst c3
    rw [if_pos rfl] at hr
    subst hr
    go_enter Tryd.func43, Tryd.ntmps43
    go_wp2_with fail
    refine bodyPost_ret (v := .tuple #[keyV ⟨3, 0, 0, 0, false, ⟨0, 0⟩⟩, .bool true]) (by simp [results, Tryd.results43, go_sem, keyV]) rfl ⟨rfl, ?_⟩
    repeat (first | exact Below.refl _ _ | refine Below.drew ?_ | refine Below.setCell ?_ (by simp <;> omega) _ | refine Below.alloc ?_ (by simp <;> omega) _)
  rw [if_neg c3] at hr
  by_cases c1 : op = 1
  · subst c1
    rw [if_pos rfl] at hr
    subst hr
    go_enter Tryd.func43, Tryd.ntmps43
    go_wp2_with fail
    refine bodyPost_ret (v := .tuple #[keyV ⟨1, xn, 0, 0, ah, ⟨0, 0⟩⟩, .bool true]) (by simp [results, Tryd.results43, go_sem, keyV]) rfl ⟨rfl, ?_⟩
    repeat (first | exact Below.refl _ _ | refine Below.drew ?_ | refine Below.setCell ?_ (by simp <;> omega) _ | refine Below.alloc ?_ (by simp <;> omega) _)
  rw [if_neg c1] at hr
  by_cases c8 : op = 8
  · subst c8
    rw [if_pos rfl] at hr
    subst hr
    go_enter Tryd.func43, Tryd.ntmps43
    go_wp2_with fail
    refine bodyPost_ret (v := .tuple #[keyV ⟨8, xn, xa, 0, false, ⟨0, 0⟩⟩, .bool true]) (by simp [results, Tryd.results43, go_sem, keyV]) rfl ⟨rfl, ?_⟩
    repeat (first | exact Below.refl _ _ | refine Below.drew ?_ | refine Below.setCell ?_ (by simp <;> omega) _ | refine Below.alloc ?_ (by simp <;> omega) _)
  rw [if_neg c8] at hr
  by_cases c7 : op = 7
  case neg =>
    rw [if_neg c7] at hr
    have b2 : (op == 2) = false := beq_eq_false_iff_ne.2 c2
    have b3 : (op == 3) = false := beq_eq_false_iff_ne.2 c3
    have b1 : (op == 1) = false := beq_eq_false_iff_ne.2 c1
    have b8 : (op == 8) = false := beq_eq_false_iff_ne.2 c8
    have b7 : (op == 7) = false := beq_eq_false_iff_ne.2 c7
    subst hr
    go_enter Tryd.func43, Tryd.ntmps43
    go_wp2_with fail
    refine bodyPost_ret (v := .tuple #[keyV key0, .bool false]) (by simp [results, Tryd.results43, go_sem, keyV, key0]) rfl ⟨rfl, ?_⟩
    repeat (first | exact Below.refl _ _ | refine Below.drew ?_ | refine Below.setCell ?_ (by simp <;> omega) _ | refine Below.alloc ?_ (by simp <;> omega) _)
  subst c7
  rw [if_pos rfl] at hr
  by_cases d : xn = 3 ∨ xn = 5 ∨ xn = 8
  case neg =>
    rw [if_neg d] at hr
    have b3 : (xn == 3) = false := beq_eq_false_iff_ne.2 (by omega)
    have b5 : (xn == 5) = false := beq_eq_false_iff_ne.2 (by omega)
    have b8 : (xn == 8) = false := beq_eq_false_iff_ne.2 (by omega)
    subst hr
    go_enter Tryd.func43, Tryd.ntmps43
    go_wp2_with fail
    refine bodyPost_ret (v := .tuple #[keyV ⟨7, xn, xa, xb, false, ⟨0, 0⟩⟩, .bool true]) (by simp [results, Tryd.results43, go_sem, keyV]) rfl ⟨rfl, ?_⟩
    repeat (first | exact Below.refl _ _ | refine Below.drew ?_ | refine Below.setCell ?_ (by simp <;> omega) _ | refine Below.alloc ?_ (by simp <;> omega) _)
  rw [if_pos d] at hr
  obtain ⟨w1, hw1⟩ : ∃ w1, w1 = ((w.alloc (.cells #[.int .i64 7, .int .i64 xa, .int .i64 xb, .int .i64 xc, .int .i64 xn, .int .i64 xe, .int .i64 kk, .int .i64 kn] 43)).alloc (.cells #[.int .i64 0, .int .i64 0, .int .i64 0, .int .i64 0, .bool false, .int .i64 0, .int .i64 0] 87)).alloc (.cells #[.int .i64 7, .int .i64 xn, .int .i64 xa, .int .i64 xb, .bool false, .int .i64 0, .int .i64 0] 87) := ⟨_, rfl⟩
  have K1 : Hid (Below w.heap.size w w1) := by rw [hw1]; exact (below_two' w _ _).alloc (by simp; omega) _
  have D0 : Hid (w1.heap[w.heap.size]? = some (.cells #[.int .i64 7, .int .i64 xa, .int .i64 xb, .int .i64 xc, .int .i64 xn, .int .i64 xe, .int .i64 kk, .int .i64 kn] 43 (0, 0))) := by rw [hw1]; exact heap_old (heap_old (heap_last w _) _) _
  have D1 : Hid (w1.heap[w.heap.size + 1]? = some (.cells #[.int .i64 0, .int .i64 0, .int .i64 0, .int .i64 0, .bool false, .int .i64 0, .int .i64 0] 87 (0, 0))) := by rw [hw1]; exact heap_old (heap_two _ _ _) _
  have D2 : Hid (w1.heap[w.heap.size + 1 + 1]? = some (.cells #[.int .i64 7, .int .i64 xn, .int .i64 xa, .int .i64 xb, .bool false, .int .i64 0, .int .i64 0] 87 (0, 0))) := by rw [hw1]; exact heap_three _ _ _ _
  have hz1 : w.heap.size + 1 + 1 < w1.heap.size := (Array.getElem?_eq_some_iff.1 D2.out).1
  have HW := Lib.hid hw1
  have HR := Lib.hid hr
  clear hw1 hr
  obtain ⟨x0, x1, x2, x3, x4, x5, x6, x7⟩ := ins_row D0.out
  have e1 : ∀ E : Fin_ (w.heap.size + 1 + 1) w1, E.wd.cell? ⟨w.heap.size, 1, none⟩ = some (.int .i64 xa) := fun E => E.cell x1 (by show w.heap.size ≠ w.heap.size + 1 + 1; omega)
  have e2 : ∀ E : Fin_ (w.heap.size + 1 + 1) w1, E.wd.cell? ⟨w.heap.size, 2, none⟩ = some (.int .i64 xb) := fun E => E.cell x2 (by show w.heap.size ≠ w.heap.size + 1 + 1; omega)
  have f2 := frozen_of_row w1 (w.heap.size + 1 + 1) 2 _ _ D2.out
  clear x0 x1 x2 x3 x5 x6 x7
  go_enter Tryd.func43, Tryd.ntmps43
  go_upto_region 12 with fail
  rw [← HW.out]
  have dn : ((xn == 3) || (xn == 5) || (xn == 8)) = true := by
    rcases d with h | h | h <;> subst h <;> rfl
  go_cut [61] (fun c wx => c = .bool true ∧ wx = w1)
  case first =>
    rcases d with h | h | h
    · subst h
      go_wp2_with fail
      go_meet
      · exact ⟨rfl, rfl⟩
    · subst h
      go_wp2_with fail
      go_meet
      · exact ⟨rfl, rfl⟩
    · subst h
      go_wp2_with fail
      go_meet
      · exact ⟨rfl, rfl⟩
  case rest =>
    obtain ⟨wi, hwi⟩ : ∃ wi, wi = wc := ⟨_, rfl⟩
    subst hwi
    obtain ⟨rfl, rfl⟩ := hcut
    go_upto_region 13 with fail
    refine wp_region_comm (fun w' => ∃ E : Fin_ (w.heap.size + 1 + 1) wi, w' = E.wd) [0, 1, 2, 3, 4, 5, 6, 7, 8, 9, 10] [11, 12, 13] [11] (by kernel_rfl) (by kernel_rfl) (fun _ _ d _ _ h => by cases d <;> exact h) ⟨⟨_, (Fined.refl _ wi).drew⟩, rfl⟩ ?_
    simp only [List.filterMap_cons, List.filterMap_nil, List.getElem?_toArray, List.getElem?_cons_zero, List.getElem?_cons_succ]
    generalize hqq : (fun a' => wpMs _ _ _ _ _ _ a' _) = qq
    have HQQ := Lib.hid hqq
    clear hqq
    show wpQuiet _ _ _ _ [_, _, _, _, _, _, _, _, _, _, _] _
    repeat (go_big_quiet_step (fail))
    refine wpQuiet_nil ?_
    rw [← HQQ.out]
    clear HQQ qq e1 e2
    have g2 : wi.drew.cell? ⟨w.heap.size + 1 + 1, 2, none⟩ = some (.int .i64 xa) := cell_of_row wi.drew (w.heap.size + 1 + 1) 2 _ _ _ D2.out
    have h2 : wi.drew.frozen? ⟨w.heap.size + 1 + 1, 2, none⟩ = false := frozen_of_row wi.drew (w.heap.size + 1 + 1) 2 _ _ D2.out
    refine wpMs_step rfl (fun K hK => ?_)
    go_simp
    refine hK _ _ (fun _ => ⟨⟨_, (Fined.refl _ wi).drew.set_ 2 _⟩, rfl⟩) ?_
    clear hK K g2 h2 f2
    obtain ⟨w2, hw2⟩ : ∃ w2, w2 = (wi.setCell ⟨w.heap.size + 1 + 1, 2, none⟩ (.int .i64 (min xa xb))).drew := ⟨_, rfl⟩
    have F0 : Hid (w2.heap[w.heap.size + 1]? = some (.cells #[.int .i64 0, .int .i64 0, .int .i64 0, .int .i64 0, .bool false, .int .i64 0, .int .i64 0] 87 (0, 0))) := by rw [hw2]; show (wi.setCell _ _).heap[_]? = _; rw [heap_setCell_other wi _ _ _ (by show _ ≠ w.heap.size + 1 + 1; omega)]; exact D1.out
    have F2 : Hid (w2.heap[w.heap.size + 1 + 1]? = some (.cells #[.int .i64 7, .int .i64 xn, .int .i64 (min xa xb), .int .i64 xb, .bool false, .int .i64 0, .int .i64 0] 87 (0, 0))) := by
      rw [hw2]; show (wi.setCell _ _).heap[_]? = _; rw [heap_setCell_same wi (w.heap.size + 1 + 1) 2 _ _ _ D2.out]; rfl
    have K2 : Hid (Below w.heap.size w w2) := by rw [hw2]; exact (Below.set_at K1.out (by omega) _ _).drew
    have HW2 := Lib.hid hw2
    clear hw2
    rw [← HW2.out]
    have g3 := cell_of_row w2 (w.heap.size + 1 + 1) 3 _ _ _ F2.out
    have h3 := frozen_of_row w2 (w.heap.size + 1 + 1) 3 _ _ F2.out
    refine wpMs_list [12, 13] _ _ (by kernel_rfl) (by kernel_rfl) ?_
    simp only [List.filterMap_cons, List.filterMap_nil, List.getElem?_toArray, List.getElem?_cons_zero, List.getElem?_cons_succ]
    go_upto_region 14 with fail
    obtain ⟨w3, hw3⟩ : ∃ w3, w3 = w2.setCell ⟨w.heap.size + 1 + 1, 3, none⟩ (.int .i64 (max xa xb)) := ⟨_, rfl⟩
    have G0 : Hid (w3.heap[w.heap.size + 1]? = some (.cells #[.int .i64 0, .int .i64 0, .int .i64 0, .int .i64 0, .bool false, .int .i64 0, .int .i64 0] 87 (0, 0))) := by rw [hw3, heap_setCell_other w2 _ _ _ (by show _ ≠ w.heap.size + 1 + 1; omega)]; exact F0.out
    have G2 : Hid (w3.heap[w.heap.size + 1 + 1]? = some (.cells #[.int .i64 7, .int .i64 xn, .int .i64 (min xa xb), .int .i64 (max xa xb), .bool false, .int .i64 0, .int .i64 0] 87 (0, 0))) := by
      rw [hw3, heap_setCell_same w2 (w.heap.size + 1 + 1) 3 _ _ _ F2.out]; rfl
    have K3 : Hid (Below w.heap.size w w3) := by rw [hw3]; exact Below.set_at K2.out (by omega) _ _
    rw [← hw3]
    clear hw3 g3 h3
    have RG : Hid (w3.rangeAt (w.heap.size + 1 + 1) 0 [.int .i64 7, .int .i64 xn, .int .i64 (min xa xb), .int .i64 (max xa xb), .bool false, .int .i64 0, .int .i64 0]) := (HeadAt.of_row G2.out).range
    have LX : Hid ((Tryd.prog.info? 87).map (·.size) = some ([.int .i64 7, .int .i64 xn, .int .i64 (min xa xb), .int .i64 (max xa xb), .bool false, .int .i64 0, .int .i64 0] : List Value).length) := infoKey7
    go_wp2_with (first
      | (refine wpList_load_mid rfl 87 _ rfl (w.heap.size + 1 + 1) 0 rfl [.int .i64 7, .int .i64 xn, .int .i64 (min xa xb), .int .i64 (max xa xb), .bool false, .int .i64 0, .int .i64 0] _ RG.out Tryd.underlying87 rfl LX.out ?_)
      | (refine wpList_store_row rfl 87 _ _ rfl (w.heap.size + 1) #[.int .i64 7, .int .i64 xn, .int .i64 (min xa xb), .int .i64 (max xa xb), .bool false, .int .i64 0, .int .i64 0] rfl rfl 87 _ G0.out infoKey7 rfl (all_oneCell_toArray (by simp [Value.oneCell'])) ?_)
      | fail)
    generalize hw9 : World.setRow _ _ _ = w9
    have QR : Hid (w9.heap[w.heap.size + 1]? = some (.cells #[.int .i64 7, .int .i64 xn, .int .i64 (min xa xb), .int .i64 (max xa xb), .bool false, .int .i64 0, .int .i64 0] 87 (0, 0))) := by rw [← hw9]; exact setRow_heap _ _ _ _ _ _ G0.out
    have K9 : Hid (Below w.heap.size w w9) := by rw [← hw9]; exact Below.set_row K3.out (by omega) _
    clear hw9
    go_wp2_with fail
    have r0 := cell_of_row w9 (w.heap.size + 1) 0 _ _ _ QR.out
    have r1 := cell_of_row w9 (w.heap.size + 1) 1 _ _ _ QR.out
    have r2 := cell_of_row w9 (w.heap.size + 1) 2 _ _ _ QR.out
    have r3 := cell_of_row w9 (w.heap.size + 1) 3 _ _ _ QR.out
    have r4 := cell_of_row w9 (w.heap.size + 1) 4 _ _ _ QR.out
    have r5 := cell_of_row w9 (w.heap.size + 1) 5 _ _ _ QR.out
    have r6 := cell_of_row w9 (w.heap.size + 1) 6 _ _ _ QR.out
    rw [← HR.out]
    refine bodyPost_ret (v := .tuple #[keyV ⟨7, xn, min xa xb, max xa xb, false, ⟨0, 0⟩⟩, .bool true]) (by simp [results, Tryd.results43, go_sem, keyV, r0, r1, r2, r3, r4, r5, r6]) rfl ⟨rfl, K9.out⟩
end Go.Proofs.YtmccomeihnaanaaDoor
