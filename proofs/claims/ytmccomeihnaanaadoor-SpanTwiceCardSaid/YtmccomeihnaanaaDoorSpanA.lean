/- span: places and bounds in maps. -/
import Derived.Test.YtmccomeihnaanaaDoorCseA
import Derived.Test.YtmccomeihnaanaaDoorSpanM
namespace Go.Proofs.YtmccomeihnaanaaDoor
open Go.RowKit Go.Maps

def pairV (a b : Int) : Value := .agg #[.int .i64 a, .int .i64 b]
theorem pairV_inj {a b c d : Int} (h : pairV a b = pairV c d) : a = c ∧ b = d := by
  unfold pairV at h
  simp only [Value.agg.injEq, Array.mk.injEq, List.cons.injEq, Value.int.injEq, true_and, and_true] at h
  exact h
theorem pairRow : (145 : TypeId) < Tryd.prog.types.size := of_decide_eq_true (by kernel_rfl)
theorem pairWide : (match Tryd.prog.underlying 145 with | some (.array _ _) | some (.struct _) => true | _ => false) = true := by kernel_rfl
set_option maxRecDepth 100000 in
theorem pairLawK : Keyed Tryd.prog 145 := Keyed.of_law (deep_law_laid keyLaid (m := 3) (by omega) pairRow (by kernel_rfl) pairWide)
theorem keyLits_array {P : Program} {d n : Nat} {t e : TypeId} {cs : List Value} (h : P.underlying t = some (.array n e)) (hc : cs.length = P.cellsOf t) :
    P.keyLits (d + 1) t cs = ((List.range n).mapM fun i => P.keyLits d e ((cs.drop (i * P.cellsOf e)).take (P.cellsOf e))).map List.flatten := by
  conv => lhs; unfold Program.keyLits
  split
  all_goals (first | (rename_i e; rw [h] at e; cases e; done) | (rename_i e _; rw [h] at e; cases e; done) | skip)
  · rename_i n' e' cs' e
    rw [h] at e
    injection e with e
    injection e with e1 e2
    subst e1; subst e2
    rw [if_pos hc]
  · simp_all
theorem cP2 : Tryd.prog.cellsOf 145 = 2 := by kernel_rfl
set_option maxRecDepth 100000 in
theorem keyOf_pair {a b : Int} (ha : wfi a) (hb : wfi b) : ∃ l, keyOf Tryd.prog 145 (pairV a b) = some l := by
  have e1 : Tryd.prog.keyType 145 = true := by kernel_rfl
  have e2 : (pairV a b).formed Tryd.prog 145 = true := by
    unfold pairV
    simp [Value.formed, Tryd.underlying145, cP2]
  obtain ⟨d, hd⟩ : ∃ d, Tryd.prog.types.size + 1 = d + 1 + 1 := ⟨Tryd.prog.types.size - 1, by have : 2 ≤ Tryd.prog.types.size := of_decide_eq_true (by kernel_rfl); omega⟩
  have e3 : ∃ L, Tryd.prog.keyLits (d + 1 + 1) 145 (pairV a b).cells.toList = some L := by
    unfold pairV
    rw [keyLits_array Tryd.underlying145 (by rw [cP2]; rfl)]
    simp [cK1, Value.cells, List.range_succ, kl_int d ha, kl_int d hb]
  obtain ⟨L, hL⟩ := e3
  refine ⟨.string (keyBytes L), ?_⟩
  unfold keyOf
  rw [Tryd.underlying145]
  simp only []
  rw [e1, e2, hd, hL]
  rfl
noncomputable def litP (a b : Int) : Lit := (keyOf Tryd.prog 145 (pairV a b)).getD (.int .i64 0)
theorem keyOf_litP {a b : Int} (ha : wfi a) (hb : wfi b) : keyOf Tryd.prog 145 (pairV a b) = some (litP a b) := by
  obtain ⟨l, hl⟩ := keyOf_pair ha hb
  unfold litP
  rw [hl]; rfl
theorem litP_inj {a b c d : Int} (ha : wfi a) (hb : wfi b) (hc : wfi c) (hd : wfi d) (h : litP a b = litP c d) : a = c ∧ b = d :=
  pairV_inj (pairLawK.inj (keyOf_litP ha hb) (by rw [h]; exact keyOf_litP hc hd))

def boundsE : Value → Option (DataW Unit × List MemPlace)
  | .agg ⟨[.int .i64 a, .int .i64 b]⟩ => some (.agg [.lit (.int .i64 a), .lit (.int .i64 b)], [])
  | _ => none
theorem boundsE_mk (a b : Int) : boundsE (pairV a b) = some (.agg [.lit (.int .i64 a), .lit (.int .i64 b)], []) := rfl
theorem boundsE_inv {v : Value} {a b : Int} {ps : List MemPlace} (h : boundsE v = some (.agg [.lit (.int .i64 a), .lit (.int .i64 b)], ps)) : v = pairV a b := by
  unfold boundsE at h
  split at h
  · injection h with h
    injection h with h _
    simp only [DataW.agg.injEq, List.cons.injEq, DataW.lit.injEq, Lit.int.injEq, true_and, and_true] at h
    obtain ⟨rfl, rfl⟩ := h
    rfl
  · cases h
noncomputable def keptD (ins : List TIns) : List (Nat × Nat) → DataW Unit
  | [] => .map []
  | k :: l => (keptD ins l).put (litP k.1 k.2) (.agg [.lit (.int .i64 (spanM ins k.1 k.2).1), .lit (.int .i64 (spanM ins k.1 k.2).2)])
theorem keptD_map (ins : List TIns) : ∀ l : List (Nat × Nat), IsMap (keptD ins l)
  | [] => isMap_empty
  | k :: l => (keptD_map ins l).put _ _
theorem wfi_small {n : Nat} (h : n ≤ 300) : wfi (n : Int) := by unfold wfi; omega
set_option maxRecDepth 100000 in
theorem keptD_spec (ins : List TIns) {k : Nat × Nat} (hk : k.1 < k.2 ∧ k.2 ≤ 300) : ∀ l : List (Nat × Nat), (∀ q ∈ l, q.1 < q.2 ∧ q.2 ≤ 300) →
    (k ∉ l → Maps.has (keptD ins l) (litP k.1 k.2) = false ∧ ∀ z, (keptD ins l).atKey (litP k.1 k.2) z = z) ∧
      (k ∈ l → Maps.has (keptD ins l) (litP k.1 k.2) = true ∧ ∀ z, (keptD ins l).atKey (litP k.1 k.2) z = .agg [.lit (.int .i64 (spanM ins k.1 k.2).1), .lit (.int .i64 (spanM ins k.1 k.2).2)])
  | [], _ => ⟨fun _ => ⟨rfl, fun _ => rfl⟩, fun h => (by cases h)⟩
  | q :: l, hl => by
    have ih := keptD_spec ins hk l (fun p hp => hl p (by simp [hp]))
    have hq := hl q (by simp)
    have w1 : wfi (k.1 : Int) := wfi_small (by omega)
    have w2 : wfi (k.2 : Int) := wfi_small (by omega)
    have w3 : wfi (q.1 : Int) := wfi_small (by omega)
    have w4 : wfi (q.2 : Int) := wfi_small (by omega)
    unfold keptD
    by_cases c : q = k
    · subst c
      exact ⟨fun h => (h (by simp)).elim, fun _ => ⟨has_put_same (keptD_map ins l) (pairLawK.key (keyOf_litP w1 w2)) _, fun z => atKey_put_same (keptD_map ins l) (pairLawK.key (keyOf_litP w1 w2)) _ _⟩⟩
    · have hne : litP k.1 k.2 ≠ litP q.1 q.2 := fun e => c (by
        have := litP_inj w1 w2 w3 w4 e
        ext <;> omega)
      refine ⟨fun h => ?_, fun h => ?_⟩
      · obtain ⟨a, b⟩ := ih.1 (fun hm => h (by simp [hm]))
        exact ⟨by rw [has_put_other hne]; exact a, fun z => by rw [atKey_put_other hne]; exact b z⟩
      · obtain ⟨a, b⟩ := ih.2 (by rcases List.mem_cons.1 h with h | h; exact (c h.symm).elim; exact h)
        exact ⟨by rw [has_put_other hne]; exact a, fun z => by rw [atKey_put_other hne]; exact b z⟩
theorem nodup_le : ∀ (N : Nat) (l : List Nat), l.Nodup → (∀ x ∈ l, x < N) → l.length ≤ N
  | 0, [], _, _ => Nat.le_refl _
  | 0, x :: l, _, h => by have := h x (by simp); omega
  | N + 1, l, hn, h => by
    by_cases c : N ∈ l
    · have h1 := nodup_le N (l.erase N) (hn.erase N) (fun x hx => by
        have h2 := (List.Nodup.mem_erase_iff hn).1 hx
        have := h x h2.2
        omega)
      rw [List.length_erase_of_mem c] at h1
      omega
    · have := nodup_le N l hn (fun x hx => by
        have h1 := h x hx
        have h2 : x ≠ N := fun e => c (e ▸ hx)
        omega)
      omega
/-- the map holds what it should at the places L -/
structure MapAt (W : World) (mb : Nat) (ins : List TIns) (L : List (Nat × Nat)) : Prop where
  own : W.ownsMap Tryd.prog 145 boundsE mb L.length (keptD ins L)
  nodup : L.Nodup
  small : ∀ k ∈ L, k.1 < k.2 ∧ k.2 ≤ 300
theorem MapAt.len {W : World} {mb : Nat} {ins : List TIns} {L : List (Nat × Nat)} (h : MapAt W mb ins L) : L.length ≤ 100000 := by
  have h1 := nodup_le (301 * 301) (L.map (fun k => k.1 * 301 + k.2)) (by
    unfold List.Nodup
    rw [List.pairwise_map]
    refine List.Pairwise.imp_of_mem ?_ h.nodup
    intro a b ha hb hne e
    have h1 := h.small a ha
    have h2 := h.small b hb
    exact hne (by ext <;> omega)) (fun x hx => by
      obtain ⟨k, hk, rfl⟩ := List.mem_map.1 hx
      have := h.small k hk
      omega)
  rw [List.length_map] at h1
  omega
theorem zeroBounds (w : World) : (zeroValue 113).run Tryd.prog w = .ok (pairV 0 0) w := by kernel_rfl
set_option maxRecDepth 100000 in
theorem MapAt.look {W : World} {mb : Nat} {ins : List TIns} {L : List (Nat × Nat)} (h : MapAt W mb ins L) {v a : Nat} (hv : v < a) (ha : a ≤ 300) :
    (Instr.lookup 109 (.map (some mb)) (pairV v a) true).run Tryd.prog W = .ok (.tuple #[if (v, a) ∈ L then pairV (spanM ins v a).1 (spanM ins v a).2 else pairV 0 0, .bool (decide ((v, a) ∈ L))]) W := by
  obtain ⟨x, ps, hrun, hR⟩ := h.own.look_ok pairLawK Tryd.underlying109 (zeroBounds W) (boundsE_mk 0 0) (keyOf_litP (wfi_small (n := v) (by omega)) (wfi_small (n := a) ha))
  have hs := keptD_spec ins (k := (v, a)) ⟨hv, ha⟩ L h.small
  by_cases c : (v, a) ∈ L
  · obtain ⟨h1, h2⟩ := hs.2 c
    rw [h2] at hR
    rw [hrun, h1, boundsE_inv hR, if_pos c, decide_eq_true c]
  · obtain ⟨h1, h2⟩ := hs.1 c
    rw [h2] at hR
    rw [hrun, h1, boundsE_inv hR, if_neg c, decide_eq_false c]
theorem MapAt.put {W W' : World} {mb : Nat} {ins : List TIns} {L : List (Nat × Nat)} (h : MapAt W mb ins L) {v a : Nat} (hv : v < a) (ha : a ≤ 300) (hn : (v, a) ∉ L)
    (ho : W'.ownsMap Tryd.prog 145 boundsE mb (L.length + 1) ((keptD ins L).put (litP v a) (.agg [.lit (.int .i64 (spanM ins v a).1), .lit (.int .i64 (spanM ins v a).2)]))) : MapAt W' mb ins ((v, a) :: L) :=
  ⟨ho, List.nodup_cons.2 ⟨hn, h.nodup⟩, fun k hk => by
    rcases List.mem_cons.1 hk with rfl | hk
    · exact ⟨hv, ha⟩
    · exact h.small k hk⟩
end Go.Proofs.YtmccomeihnaanaaDoor
