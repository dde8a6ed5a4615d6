/- sink: same, hold, left. -/
import Derived.Test.YtlnkjmgfkpeicaaGreatDoorSinkA
import Derived.Test.YtlnkjmgfkpeicaaGreatDoorComm
import Derived.Test.YtlnkjmgfkpeicaaGreatDoorMem
set_option linter.all false
namespace Go.Proofs.YtlnkjmgfkpeicaaGreatDoor
open Go.RowKit

def SinkPost (B sb mb c : Nat) (kind : Int) (ca : List Value) (t : TTrace) (s : SinkS) (w : World) (e : Ending) (w' : World) : Prop :=
  ∃ (b : Bool) (s' : SinkS), e = .returned (.bool b) ∧ SinkR w' B sb mb c kind ca t s' ∧ SinkTo sb mb w s w' s' ∧ (b = true → s'.vals.length ≤ 100)
theorem int_raw {w : World} {B : Nat} {v : Value} {l : List Int} (h : SliceR w B 1 IntR v l) : SliceR w B 1 (Raw 1) v (l.map (fun x => [.int .i64 x])) := by
  obtain ⟨A, cap, h1, h2, h3, h4⟩ := h
  refine ⟨A, cap, by rw [List.length_map]; exact h1, by rw [List.length_map]; exact h2, h3, fun hp => ?_⟩
  obtain ⟨b, off, e1, e2, e3⟩ := h4 (by simpa using hp)
  refine ⟨b, off, e1, e2, fun i x hi => ?_⟩
  rw [List.getElem?_map] at hi
  obtain ⟨y, hy, rfl⟩ := Option.map_eq_some_iff.1 hi
  obtain ⟨cs, c1, ⟨c2, -⟩, c3⟩ := e3 i y hy
  exact ⟨cs, c1, ⟨c2, rfl⟩, c3⟩
theorem flat_map_id {α : Type} (f : α → List Value) : ∀ l : List α, (l.map f).flatMap id = l.flatMap f
  | [] => rfl
  | x :: l => by rw [List.map_cons, List.flatMap_cons, List.flatMap_cons, flat_map_id f l]; rfl
theorem flat_ints : ∀ l : List Int, l.flatMap (fun x => [(.int .i64 x : Value)]) = l.map (.int .i64)
  | [] => rfl
  | x :: l => by rw [List.flatMap_cons, flat_ints l]; rfl
theorem cloneInt_c (v : Value) (l : List Int) (w : World) (hs : SliceR w w.heap.size 1 IntR v l) (hl : l.length ≤ 1000) :
    Calls Tryz.prog 59 #[v] w fun e w' => ∃ u, e = .returned u ∧ w'.ownsRow w.heap.size 3 1 u l.length (l.map (.int .i64)) ∧ Below w.heap.size w w' := by
  have h := clone_int v (l.map (fun x => [.int .i64 x])) w (int_raw hs) (by
    intro r hr u hu
    obtain ⟨x, -, rfl⟩ := List.mem_map.1 hr
    simp at hu
    rcases hu with rfl; rfl) (by rw [List.length_map]; omega)
  rw [List.length_map, flat_map_id, flat_ints] at h
  exact h
theorem infoHeld2 : (Tryz.prog.info? 76).map (·.size) = some 2 := by kernel_rfl
theorem infoSinkEx : (Tryz.prog.info? 32).map (·.size) = some 4 := by kernel_rfl
section
variable {B sb mb c : Nat} {kind : Int} {ca : List Value} {t : TTrace}
set_option maxHeartbeats 1000000 in
set_option maxRecDepth 100000 in
theorem same_c (sh : Int) (u : Value) (l : List Int) (s : SinkS) (w : World) (h : SinkR w B sb mb c kind ca t s) (hu : SliceR w w.heap.size 1 IntR u l) :
    Calls Tryz.prog 58 #[.pointer (some ⟨sb, 0, none⟩), .agg #[.int .i64 sh, u]] w (Gives (.bool (decide (sh = s.shape) && decide (l = s.vals))) w) := by
  obtain ⟨w0, hw0⟩ : ∃ w0, w0 = w.alloc (.cells #[.int .i64 sh, u] 76) := ⟨_, rfl⟩
  have K0 : Hid (Below w.heap.size w w0) := by rw [hw0]; exact below_one _ _
  have X0 : Hid (w0.heap[w.heap.size]? = some (.cells ⟨[.int .i64 sh, u]⟩ 76 (0, 0))) := by rw [hw0]; exact heap_last _ _
  have S0 := Lib.hid (h.below K0.out)
  have HU := Lib.hid (hu.below K0.out)
  obtain ⟨A', c', eV⟩ := own_len h.vals
  obtain ⟨A, c1, rfl, -⟩ := hu
  have HW := Lib.hid hw0
  have e0 : ∀ E : Up w0, E.to.cell? ⟨w.heap.size, 0, none⟩ = some (.int .i64 sh) := fun E => E.cell (HeadAt.of_row X0.out 0 _ rfl)
  have e1 : ∀ E : Up w0, E.to.cell? ⟨w.heap.size, 1, none⟩ = some (.slice A l.length c1) := fun E => E.cell (HeadAt.of_row X0.out 1 _ rfl)
  have e2 : ∀ E : Up w0, E.to.cell? ⟨sb, 15, none⟩ = some (.int .i64 s.shape) := fun E => E.cell (S0.out.cellAt (k := 2) rfl)
  have e3 : ∀ E : Up w0, E.to.cell? ⟨sb, 16, none⟩ = some (.slice A' s.vals.length c') := fun E => E.cell (S0.out.cellAt (k := 3) (by rw [eV]; rfl))
  obtain ⟨r, hr⟩ : ∃ r, decide (l = s.vals) = r := ⟨_, rfl⟩
  have CE : Hid (∀ E : Up w0, Calls Tryz.prog 77 #[.slice A l.length c1, .slice A' s.vals.length c'] E.to (Gives (.bool r) E.to)) := fun E => by
    have h1 := sliceR_of_own (S0.out.below E.below).vals (S0.out.below E.below).wfV
    rw [eV] at h1
    rw [← hr]
    exact equal_ints A A' c1 c' l s.vals E.to (HU.out.below E.below) h1
  rw [hr]
  clear hw0 hr eV h
  by_cases hs : sh = s.shape
  · have b1 : (sh == s.shape) = true := by simpa using hs
    have hd : (decide (sh = s.shape) && r) = r := by simp [hs]
    rw [hd]
    clear hd hs
    go_enter Tryz.func58, Tryz.ntmps58
    go_upto_region 1 with fail
    rw [← HW.out]
    refine wp_region_up (by kernel_rfl) (by kernel_rfl) ?_
    repeat (go_big_quiet_step ((go_at_call 77; with_reducible exact Calls.up (CE.out _))))
    refine wpQuiet_nil ?_
    rintro _ ⟨E, rfl⟩
    have KE := Lib.hid (K0.out.trans (E.below.mono K0.out.size))
    clear e0 e1 e2 e3 CE
    go_wp2_with fail
    go_ret
    exact ⟨rfl, KE.out⟩
  · have b1 : (sh == s.shape) = false := by simpa using hs
    have hd : (decide (sh = s.shape) && r) = false := by simp [hs]
    rw [hd]
    clear hd hs CE
    go_enter Tryz.func58, Tryz.ntmps58
    go_upto_region 1 with fail
    rw [← HW.out]
    refine wp_region_up (by kernel_rfl) (by kernel_rfl) ?_
    repeat (go_big_quiet_step (fail))
    refine wpQuiet_nil ?_
    rintro _ ⟨E, rfl⟩
    have KE := Lib.hid (K0.out.trans (E.below.mono K0.out.size))
    clear e0 e1 e2 e3
    go_wp2_with fail
    go_ret
    exact ⟨rfl, KE.out⟩
set_option maxHeartbeats 2000000 in
set_option maxRecDepth 100000 in
theorem hold_c (v : Int) (s : SinkS) (w : World) (h : SinkR w B sb mb c kind ca t s) (hv : wfi v) (hf : s.vals.length ≤ 100) :
    Calls Tryz.prog 60 #[.pointer (some ⟨sb, 0, none⟩), .int .i64 v] w (SinkPost B sb mb c kind ca t s w) := by
  obtain ⟨q0, hq0, hq1, hq2, hq3⟩ := info_parts infoInt
  have HS := Lib.hid h
  have HV := Lib.hid hv
  have hlt := h.lt
  have hBw : B ≤ w.heap.size := Nat.le_trans h.hB (Nat.le_of_lt hlt)
  have hlen := h.len
  obtain ⟨w1, hw1⟩ : ∃ w1, w1 = w.alloc (.cells #[.int .i64 v] 3) := ⟨_, rfl⟩
  have K1 : Hid (Below w.heap.size w w1) := by rw [hw1]; exact below_one _ _
  have N1 : Hid (w1.heap[w.heap.size]? = some (.cells #[.int .i64 v] 3 (0, 0))) := by rw [hw1]; exact heap_last _ _
  have hsz1 : w1.heap.size = w.heap.size + 1 := by rw [hw1]; simp
  have OV : Hid (w1.ownsRow B 3 1 s.uV s.vals.length (s.vals.map (.int .i64))) := (h.below K1.out).vals
  obtain ⟨A', c', eV⟩ := own_len h.vals
  have e3 : w.cell? ⟨sb, 16, none⟩ = some s.uV := h.cellAt (k := 3) rfl
  have HW := Lib.hid hw1
  have EV := Lib.hid eV
  have HZ := Lib.hid hsz1
  clear h hv hw1 eV hsz1
  go_enter Tryz.func60, Tryz.ntmps60
  go_wp2_with (at_builtin; (rw [← HW.out]); refine wpList_append_new rfl _ _ 47 rfl B 3 q0 (.int .i64 0) 1 8 Tryz.underlying47 hq0 hq1 hq2 hq3 rfl (by decide) s.uV s.vals.length (s.vals.map (.int .i64)) rfl OV.out ⟨w.heap.size, 0, none⟩ 1 1 [.int .i64 v] rfl rfl ?c1 ?c2 ?c3 ?c4 ?c5 ?_)
  case c1 => exact World.news_of_block (cs := #[.int .i64 v]) N1.out
  case c2 => intro u hu; simp at hu; subst hu; rfl
  case c3 => unfold maxLen; omega
  case c4 => omega
  case c5 => rw [HZ.out]; omega
  intro v' w2 hown hg hnew
  have OW := Lib.hid hown
  have HG := Lib.hid hg
  have HN := Lib.hid hnew
  clear hown hg hnew e3
  obtain ⟨A2, c2, eU⟩ := own_len OW.out
  have hsb : Hid (∀ k, k < w.heap.size → s.uV.ownBlock ≠ some k → w2.heap[k]? = w.heap[k]?) := fun k hk hne => (HG.out.block k (Nat.lt_of_lt_of_le hk K1.out.size) hne.symm).trans (K1.out.block k hk)
  have R2 : Hid (w2.heap[sb]? = some (.cells ⟨ca ++ [.int .i64 c, .int .i64 kind, .int .i64 s.shape, s.uV, s.uT, s.uO, .map (some mb)]⟩ 78 (0, 0))) := (hsb.out sb hlt HS.out.sbV).trans HS.out.row
  have F2 := frozen_of_row w2 sb 16 _ _ R2.out
  subst eU
  have z2 : w2.cell? ⟨sb, 16, none⟩ = some s.uV := by
    refine HeadAt.of_row R2.out 16 _ ?_
    rw [List.getElem?_append_right (by omega), hlen]; rfl
  go_wp2_with fail
  generalize hw3 : World.setCell _ _ _ = w3
  have R3 : Hid (w3.heap[sb]? = some (.cells ⟨ca ++ [.int .i64 c, .int .i64 kind, .int .i64 s.shape, .slice A2 (s.vals.length + 1) c2, s.uT, s.uO, .map (some mb)]⟩ 78 (0, 0))) := by
    rw [← hw3, heap_setCell_same w2 sb 16 _ _ _ R2.out]
    have : (⟨ca ++ [.int .i64 c, .int .i64 kind, .int .i64 s.shape, s.uV, s.uT, s.uO, .map (some mb)]⟩ : Array Value).setIfInBounds 16 (.slice A2 (s.vals.length + 1) c2) = ⟨ca ++ [.int .i64 c, .int .i64 kind, .int .i64 s.shape, .slice A2 (s.vals.length + 1) c2, s.uT, s.uO, .map (some mb)]⟩ := by
      apply Array.toList_inj.1
      rw [Array.toList_setIfInBounds]
      show (ca ++ _).set 16 _ = ca ++ _
      rw [List.set_append_right _ _ (by omega), hlen]; rfl
    rw [this]; rfl
  have L3 : Hid (Fined sb w2 w3) := by rw [← hw3]; exact (Fined.refl sb w2).set_ _ _
  have O3 : Hid (w3.ownsRow B 3 1 (.slice A2 (s.vals.length + 1) c2) (s.vals ++ [v]).length ((s.vals ++ [v]).map (.int .i64))) := by
    rw [List.map_append, List.length_append]
    exact row_stays OW.out (fun G e => L3.out.block G (row_ty OW.out e).2.1 (fun c => row_ne OW.out R2.out (by decide) (by rw [e, c])))
  have MV := Lib.hid (HS.out.moved (w' := w3) (sh := s.shape) (vs := s.vals ++ [v]) (u := .slice A2 (s.vals.length + 1) c2) (L3.out.os.trans (HG.out.os.trans K1.out.os)) (L3.out.tape.trans (HG.out.tape.trans K1.out.tape)) (L3.out.output.trans (HG.out.output.trans K1.out.output))
    (Nat.le_trans K1.out.size (Nat.le_trans HG.out.size L3.out.size)) (fun k hk hne hV => (L3.out.block k (Nat.lt_of_lt_of_le hk (Nat.le_trans K1.out.size HG.out.size)) hne).trans (hsb.out k hk hV)) R3.out O3.out
    (fun G e => by rcases HN.out G e with a | a; exact .inl a; exact .inr (by rw [HZ.out] at a; omega)) (fun x hx => by rcases List.mem_append.1 hx with hx | hx; exact HS.out.wfV x hx; simp at hx; subst hx; exact HV.out) HS.out.wfS (by rw [List.length_append]; simp; omega))
  have z3 : w3.cell? ⟨sb, 16, none⟩ = some (.slice A2 (s.vals.length + 1) c2) := by
    refine HeadAt.of_row R3.out 16 _ ?_
    rw [List.getElem?_append_right (by omega), hlen]; rfl
  clear hw3 F2 z2
  go_wp2_with fail
  go_ret
  exact ⟨_, _, rfl, MV.out.1, MV.out.2, fun hb => by simp at hb; simp; omega⟩
/-- 'm[k] = v', a key that there is not yet -/
theorem wpList_mapUpdate_n {P : Program} {w : World} {ops : Array Oper} {rest : List Oper} {o : Oper} {a : Act} {Q : Exit → Act → World → Prop}
    (hg : o.guard = none) (m x v : Operand) (ty : TypeId) (hop : o.op = Op.mapUpdate ty m x v) (k e : TypeId) (ht : P.underlying ty = some (.map k e)) (hk : P.underlying k = some (.int .i64)) (b : Nat) (L : List (Int × Value)) (z : Int) (V : Value)
    (hm : a.eval m = .map (some b)) (hx : a.eval x = .int .i64 z) (hv : a.eval v = V) (h : MapN w b L) (hn : lookN L z = none)
    (hK : ∀ w', MapN w' b (L ++ [(z, V)]) → w.grownBy w' (some b) → wpList P ops Q rest (a.put o.dst undef) w') : wpList P ops Q (o :: rest) a w := by
  refine wpList_plain hg fun K' hK' => ?_
  obtain ⟨w', hrun, r1, r2, _⟩ := MapN.put w ht hk z V h hn
  unfold Oper.wp
  simp [execOp, hop, hm, hx, hv, hrun, Result.andThen]
  exact hK' _ _ (hK w' r1 r2)
theorem zeroHeld (w : World) : (zeroValue 76).run Tryz.prog w = .ok (.agg #[.int .i64 0, .slice none 0 0]) w := by kernel_rfl
/-- what the map says of an exit -/
theorem SinkR.lookAt {w : World} {s : SinkS} (h : SinkR w B sb mb c kind ca t s) (k : Int) : ∃ (sh : Int) (u : Value) (l : List Int) (ki : Bool),
    (∀ w', Below w.heap.size w w' → (Instr.lookup 74 (.map (some mb)) (.int .i64 k) true).run Tryz.prog w' = .ok (.tuple #[.agg #[.int .i64 sh, u], .bool ki]) w') ∧ SliceR w w.heap.size 1 IntR u l ∧ (ki = false → lookN s.E k = none) ∧ u.oneCell' = true := by
  cases hl : lookN s.E k with
  | none =>
    refine ⟨0, .slice none 0 0, [], false, fun w' kb => ?_, SliceR.nil _ _ _ _, fun _ => rfl, rfl⟩
    rw [(h.below kb).map_.look w' Tryz.underlying74 Tryz.underlying3 (z := .agg #[.int .i64 0, .slice none 0 0]) zeroHeld k, hl]
    rfl
  | some v =>
    obtain ⟨sh, u, l, e, h1, h2, h3, h4, h5⟩ := h.held _ (lookN_mem hl)
    dsimp only at e
    refine ⟨sh, u, l, true, fun w' kb => ?_, sliceR_of_own h2 h4, (fun e => nomatch e), ?_⟩
    · rw [(h.below kb).map_.look w' Tryz.underlying74 Tryz.underlying3 (z := .agg #[.int .i64 0, .slice none 0 0]) zeroHeld k, hl, e]
      rfl
    · obtain ⟨A, cc, rfl⟩ := own_len h2
      rfl
end
end Go.Proofs.YtlnkjmgfkpeicaaGreatDoor
