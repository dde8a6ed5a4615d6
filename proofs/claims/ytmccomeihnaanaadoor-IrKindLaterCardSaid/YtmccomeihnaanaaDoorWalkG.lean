/- code.walk.from. Printed by wip/gen_from.py. -/
import Derived.Test.YtmccomeihnaanaaDoorWalkF
import Derived.Deep.RegionHeld3
import Derived.Deep.AppendLies
import Derived.Deep.RegionLaw
namespace Go.Proofs.YtmccomeihnaanaaDoor
open Go.RowKit
theorem own_mono {w : World} {B B' : Nat} {e : TypeId} {size : Nat} {v : Value} {n : Nat} {xs : List Value} (h : w.ownsRow B e size v n xs) (hB : B' ≤ B) : w.ownsRow B' e size v n xs :=
  ⟨h.1, h.2.imp id (fun ⟨g, cap, cur, h1, h2, h3⟩ => ⟨g, cap, cur, h1, Nat.le_trans hB h2, h3⟩)⟩
theorem news2 (w : World) (a b : Value) (t : TypeId) : ∀ j u, [a, b][j]? = some u → (w.alloc (.cells #[a, b] t)).cell? ((⟨w.heap.size, 0, none⟩ : Addr).add j) = some u := by
  intro j u hj
  match j, hj with
  | 0, hj => simp at hj; subst hj; exact one_cell w #[a, b] t 0
  | 1, hj => simp at hj; subst hj; exact one_cell w #[a, b] t 1

set_option maxHeartbeats 4000000 in
set_option maxRecDepth 100000 in
theorem from_30 (B b : Nat) (v0 v1 v2 v3 : Value) (A5 : Option Addr) (n n5 : Nat) (s : WalkS) (bs bo : Nat) (tv : Value) (ovs : List Value) (k : Nat) (code : List CIns) (i : CIns) (m : List CTry) (w : World)
    (h : WalkAt w B b v0 v1 v2 v3 A5 n n5 s bs bo tv ovs) (hok : WOk n s) (hn : n ≤ 600) (hk : k < n) (hcl : n = code.length) (hcode : SliceR w B 5 CInsR (.slice A5 n n5) code) (hi0 : code[k]? = some i) (ho : s.out[k]? = some m) (hB : B ≤ w.heap.size) (hop : i.op = 30) (hjb : 0 ≤ i.b) :
    Calls Tryd.prog 138 #[.pointer (some ⟨b, 0, none⟩), .int .i64 k] w (ComePost B b v0 v1 v2 v3 A5 n n5 (comeM (comeM s i.b m) ((k : Int) + 1) (m ++ [⟨i.a, i.b⟩])) bs bo w) := by
  obtain ⟨s', hs'⟩ : ∃ s', s' = comeM (comeM s i.b m) ((k : Int) + 1) (m ++ [⟨i.a, i.b⟩]) := ⟨_, rfl⟩
  rw [← hs']
  have HS' := Lib.hid hs'
  clear hs'
  have hkc : k < code.length := by omega
  obtain ⟨bc, oc, j, ics, rfl, hbc, hj0, -, hR, hat⟩ := hcode.at_ (i := k) hkc
  rw [hi0] at hj0
  injection hj0 with hj0
  subst hj0
  obtain ⟨rfl, v1', v2', v3', v4', v5'⟩ := hR
  obtain ⟨ov, hov⟩ : ∃ ov, ovs[k]? = some ov := ⟨_, List.getElem?_eq_getElem (by rw [h.olen]; exact hk)⟩
  have hm := h.out k ov m hov ho
  obtain ⟨A', cap', rfl, hm1, hm2, -⟩ := id hm
  have c4 : w.cell? ⟨b, 4, none⟩ = some (.slice (some ⟨bc, oc, none⟩) n n5) := cell_of_row w b 4 _ _ _ h.here
  have c6 : w.cell? ⟨b, 6, none⟩ = some (.slice (some ⟨bo, 0, none⟩) n n) := cell_of_row w b 6 _ _ _ h.here
  have c8 : w.cell? ⟨b, 8, none⟩ = some (.bool s.bad) := cell_of_row w b 8 _ _ _ h.here
  have f8 : w.frozen? ⟨b, 8, none⟩ = false := frozen_of_row w b 8 _ _ h.here
  have c7 : w.cell? ⟨bo, k, none⟩ = some (.slice A' m.length cap') := by rw [cell_of_row w bo k _ _ _ h.outs]; simpa using hov
  have g0 : w.cell? ⟨bc, oc + k * 5, none⟩ = some (.int .i64 i.op) := hat 0 _ rfl
  have g1 : w.cell? ⟨bc, oc + k * 5 + 1, none⟩ = some (.int .i64 i.a) := hat 1 _ rfl
  have g2 : w.cell? ⟨bc, oc + k * 5 + 2, none⟩ = some (.int .i64 i.b) := hat 2 _ rfl
  have g3 : w.cell? ⟨bc, oc + k * 5 + 3, none⟩ = some (.int .i64 i.c) := hat 3 _ rfl
  have g4 : w.cell? ⟨bc, oc + k * 5 + 4, none⟩ = some (.int .i64 i.line) := hat 4 _ rfl
  have l1 : bc < w.heap.size := by omega
  have l2 : b < w.heap.size := (Array.getElem?_eq_some_iff.1 h.here).1
  have l3 : bo < w.heap.size := (Array.getElem?_eq_some_iff.1 h.outs).1
  have hk1 : (k : Int) < n := by omega
  have hk2 : (k : Int) ≤ 600 := by omega
  have hml : m.length ≤ 20 := hok.few m (List.mem_of_getElem? ho)
  have HH := Lib.hid h
  have HM := Lib.hid hm
  have HF := Lib.hid (hok.wf m (List.mem_of_getElem? ho))
  unfold maxLen at hm2
  clear h hov ho hm hat hcode hi0
  have HO2 := Lib.hid (hok.come hjb HF.out)
  rw [hop] at g0
  clear hop
  go_enter Tryd.func138, Tryd.ntmps138
  go_wp2_with fail
  go_region
  go_wp2_with fail
  refine (come_c B b v0 v1 v2 v3 _ n n5 s bs bo _ _ i.b _ m _ (HH.out.below (by repeat (first | exact Below.refl _ _ | refine Below.drew ?_ | refine Below.alloc ?_ (by simp) _))) hok hn hjb (HM.out.below (by repeat (first | exact Below.refl _ _ | refine Below.drew ?_ | refine Below.alloc ?_ (by simp) _))) (by simp; omega)).mono ?_
  rintro e w5 ⟨rfl, ⟨tv', ovs', k1⟩, k2⟩
  have K1 := Lib.hid k1
  have K2 : Hid (Walked B w w5) := by refine Walked.trans (Walked.of_below ?_) k2; exact (by repeat (first | exact Below.refl _ _ | refine Below.drew ?_ | refine Below.alloc ?_ (by simp) _))
  have M2 := Lib.hid (k2.tries (HM.out.below (by repeat (first | exact Below.refl _ _ | refine Below.drew ?_ | refine Below.alloc ?_ (by simp) _))))
  have R2 : Hid (w5.heap[w.heap.size]? = some (.cells #[.int .i64 30, .int .i64 i.a, .int .i64 i.b, .int .i64 i.c, .int .i64 i.line] 168 (0, 0))) := k2.row (heap_alloc_new w _) (by decide)
  have hz5 : B ≤ w5.heap.size := Nat.le_trans hB K2.out.size
  have CK : Hid (∀ W, Below w5.heap.size w5 W → ∀ j v, (#[.int .i64 30, .int .i64 i.a, .int .i64 i.b, .int .i64 i.c, .int .i64 i.line] : Array Value)[j]? = some v → W.cell? ⟨w.heap.size, j, none⟩ = some v) := fun W k j v hv => cell_on k ((cell_of_row w5 _ j _ _ _ R2.out).trans hv)
  have CS : Hid (∀ W, Below w5.heap.size w5 W → SliceR W W.heap.size 2 (Raw 2) (.slice A' m.length cap') (m.map tryCells)) := fun W k => try_raw (M2.out.below k).slice
  have C1 : Hid (∀ r ∈ m.map tryCells, ∀ u ∈ r, u.oneCell' = true) := by
    intro r hr u hu
    obtain ⟨x, _, rfl⟩ := List.mem_map.1 hr
    simp [tryCells] at hu
    rcases hu with rfl | rfl <;> rfl
  have C2 : Hid ((m.map tryCells).length * 16 ≤ 140737488355328) := by show _ ≤ _; rw [List.length_map]; omega
  obtain ⟨i0, hi, hq⟩ := Option.map_eq_some_iff.1 infoOf_try
  simp only [Prod.mk.injEq] at hq
  obtain ⟨hz, hz1, hz2⟩ := hq
  obtain ⟨z, hz0, hz3⟩ := Option.map_eq_some_iff.1 hz
  have HI := Lib.hid hi
  have HZ := Lib.hid hz0
  have HZ1 := Lib.hid hz1
  have HZ2 := Lib.hid hz2
  have HZ3 := Lib.hid hz3
  have d1 : w5.cell? ⟨w.heap.size, 1, none⟩ = some (.int .i64 i.a) := cell_of_row w5 _ 1 _ _ _ R2.out
  have d2 : w5.cell? ⟨w.heap.size, 2, none⟩ = some (.int .i64 i.b) := cell_of_row w5 _ 2 _ _ _ R2.out
  have hz6 : w.heap.size < w5.heap.size := (Array.getElem?_eq_some_iff.1 R2.out).1
  clear k1 k2 c4 c6 c7 c8 f8 g0 g1 g2 g3 g4 hi hz hz0 hz1 hz2 hz3
  go_wp2_with fail
  go_region_held3 (fun w' => w'.cell? ⟨w.heap.size, 1, none⟩ = some (.int .i64 i.a) ∧ w'.cell? ⟨w.heap.size, 2, none⟩ = some (.int .i64 i.b)) (first | go_keep) ((first
    | (go_simp; go_at_call 149; refine (clone_try _ (m.map tryCells) _ (CS.out _ (by repeat (first | exact Below.refl _ _ | refine Below.drew ?_ | refine Below.alloc ?_ (by simp) _))) C1.out C2.out).mono ?_; rintro e w6 ⟨u, rfl, hu, hb⟩; have kb : Below w5.heap.size w5 w6 := (by refine Below.trans ?_ (hb.mono (by simp)); exact (by repeat (first | exact Below.refl _ _ | refine Below.drew ?_ | refine Below.alloc ?_ (by simp) _))); have q1 := CK.out w6 kb 1 _ rfl; have q2 := CK.out w6 kb 2 _ rfl; have KB6 := Lib.hid kb; have HB6 := Lib.hid hb; have HU6 := Lib.hid (own_mono hu (show w5.heap.size ≤ _ from by simp)); clear hu kb hb)
    | (go_loud (refine step_append_lies _ (by rfl) _ _ 197 (by rfl) w5.heap.size 200 i0 z 2 16 Tryd.underlying197 HI.out HZ.out HZ1.out HZ2.out HZ3.out (by decide) u (m.map tryCells).length ((m.map tryCells).flatMap id) (by rfl) (by first | exact HU6.out | exact HU6.out.alloc _) ⟨_, 0, none⟩ 1 1 [.int .i64 i.a, .int .i64 i.b] (by rfl) (by rfl) (by first | exact news2 _ _ _ _ | exact (fun j u hj => cell_on HB6.out (news2 _ _ _ _ j u hj))) (by intro u hu; simp at hu; rcases hu with rfl | rfl <;> rfl) (by decide) (by rw [List.length_map]; unfold maxLen; omega) (by rw [List.length_map]; omega) (by have := KB6.out.size; first | exact this | (simp; omega)) _ rfl ?_); intro g cp w7 hown hgrow hat hlt; have KB7 : Hid (Below w5.heap.size w5 w7) := (by refine Below.grown ?_ hgrow ?_ (fun k hk => (own_row HU6.out k hk).1); (first | exact KB6.out | exact KB6.out.alloc KB6.out.size _); (have := KB6.out.size; first | exact this | (simp; omega))); have KO7 := Lib.hid hown; have q7 := CK.out w7 KB7.out 1 _ rfl; have q8 := CK.out w7 KB7.out 2 _ rfl; clear hown hgrow hat hlt)))
  all_goals
    have KS7 : Hid (SliceTy w7 B 200 2 TryR (.slice (some ⟨g, 0, none⟩) (m.length + 1) cp) (m ++ [⟨i.a, i.b⟩])) := by
      have e1 : (m ++ [(⟨i.a, i.b⟩ : CTry)]).length = m.length + 1 := by simp
      have e2 : (m ++ [(⟨i.a, i.b⟩ : CTry)]).flatMap tryCells = (m.map tryCells).flatMap id ++ [.int .i64 i.a, .int .i64 i.b] := by
        rw [List.flatMap_append, List.flatMap_id, List.flatMap_def]; rfl
      have h7 := KO7.out
      rw [List.length_map, ← e2, ← e1] at h7
      have h8 := (sliceTy_of_own (R := TryR) (f := tryCells) (by decide) (fun x _ => rfl) (fun x hx => ⟨rfl, by
        rcases List.mem_append.1 hx with hx | hx
        · exact HF.out x hx
        · simp at hx; subst hx; exact ⟨v2', v3'⟩⟩) h7).more hz5
      rw [e1] at h8
      exact h8
    have hz7 : B ≤ w7.heap.size := Nat.le_trans hz5 KB7.out.size
    have W7 := Lib.hid (K1.out.below KB7.out)
    clear q7 q8 d1 d2
    go_wp2_with fail
    refine (come_c B b v0 v1 v2 v3 _ n n5 _ bs bo _ _ ((k : Int) + 1) _ (m ++ [⟨i.a, i.b⟩]) _ W7.out HO2.out hn (by omega) KS7.out hz7).mono ?_
    rintro e w8 ⟨rfl, ⟨tv2, ovs2, k1⟩, k2⟩
    have K8 := Lib.hid k1
    have K9 := Lib.hid ((K2.out.below_ KB7.out).trans k2)
    clear k1 k2
    go_wp2_with fail
    go_end0
    exact ⟨rfl, ⟨_, _, by rw [HS'.out]; exact K8.out⟩, K9.out⟩

theorem from_c (B b : Nat) (v0 v1 v2 v3 : Value) (A5 : Option Addr) (n n5 : Nat) (s : WalkS) (bs bo : Nat) (tv : Value) (ovs : List Value) (k : Nat) (code : List CIns) (w : World)
    (h : WalkAt w B b v0 v1 v2 v3 A5 n n5 s bs bo tv ovs) (hok : WOk n s) (hn : n ≤ 600) (hk : k < n) (hcl : n = code.length) (hcode : SliceR w B 5 CInsR (.slice A5 n n5) code) (hj : JumpsOk code) (hB : B ≤ w.heap.size) :
    Calls Tryd.prog 138 #[.pointer (some ⟨b, 0, none⟩), .int .i64 k] w (ComePost B b v0 v1 v2 v3 A5 n n5 (fromM code s k) bs bo w) := by
  obtain ⟨i, hi⟩ : ∃ i, code[k]? = some i := ⟨_, List.getElem?_eq_getElem (by omega)⟩
  obtain ⟨m, ho⟩ : ∃ m, s.out[k]? = some m := ⟨_, List.getElem?_eq_getElem (by rw [hok.out]; exact hk)⟩
  obtain ⟨j1, j2, j3⟩ := hj i (List.mem_of_getElem? hi)
  unfold fromM
  rw [Int.toNat_natCast, hi, ho]
  dsimp only
  by_cases h28 : i.op = 28
  · rw [if_pos (.inl h28)]
    exact from_28 B b v0 v1 v2 v3 A5 n n5 s bs bo tv ovs k code i m w h hok hn hk hcl hcode hi ho hB h28
  by_cases h29 : i.op = 29
  · rw [if_pos (.inr h29)]
    exact from_29 B b v0 v1 v2 v3 A5 n n5 s bs bo tv ovs k code i m w h hok hn hk hcl hcode hi ho hB h29
  rw [if_neg (by omega)]
  by_cases h13 : i.op = 13
  · rw [if_pos (.inl h13)]
    exact from_13 B b v0 v1 v2 v3 A5 n n5 s bs bo tv ovs k code i m w h hok hn hk hcl hcode hi ho hB h13 (j1 (.inl h13)).1
  by_cases h14 : i.op = 14
  · rw [if_pos (.inr h14)]
    exact from_14 B b v0 v1 v2 v3 A5 n n5 s bs bo tv ovs k code i m w h hok hn hk hcl hcode hi ho hB h14 (j1 (.inr h14)).1
  rw [if_neg (by omega)]
  by_cases h15 : i.op = 15
  · rw [if_pos h15]
    exact from_15 B b v0 v1 v2 v3 A5 n n5 s bs bo tv ovs k code i m w h hok hn hk hcl hcode hi ho hB h15 (j2 (.inl h15)).1
  rw [if_neg h15]
  by_cases h30 : i.op = 30
  · rw [if_pos h30]
    exact from_30 B b v0 v1 v2 v3 A5 n n5 s bs bo tv ovs k code i m w h hok hn hk hcl hcode hi ho hB h30 (j2 (.inr h30)).1
  rw [if_neg h30]
  by_cases h31 : i.op = 31
  · rw [if_pos h31]
    by_cases hm : m = []
    · rw [if_pos hm]
      exact from_31n B b v0 v1 v2 v3 A5 n n5 s bs bo tv ovs k code i m w h hok hn hk hcl hcode hi ho hB h31 hm
    · rw [if_neg hm]
      exact from_31 B b v0 v1 v2 v3 A5 n n5 s bs bo tv ovs k code i m w h hok hn hk hcl hcode hi ho hB h31 hm
  rw [if_neg h31]
  exact from_else B b v0 v1 v2 v3 A5 n n5 s bs bo tv ovs k code i m w h hok hn hk hcl hcode hi ho hB (by omega)
end Go.Proofs.YtmccomeihnaanaaDoor
