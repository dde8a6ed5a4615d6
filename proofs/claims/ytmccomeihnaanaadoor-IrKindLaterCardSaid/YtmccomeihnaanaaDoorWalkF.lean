/- code.walk.from. Printed by wip/gen_from.py. -/
import Derived.Test.YtmccomeihnaanaaDoorWalkW
import Derived.Deep.AppendLies
namespace Go.Proofs.YtmccomeihnaanaaDoor
open Go.RowKit
def tryCells (x : CTry) : List Value := [.int .i64 x.reg, .int .i64 x.at_]
theorem try_raw {w : World} {B : Nat} {v : Value} {l : List CTry} (h : SliceR w B 2 TryR v l) : SliceR w B 2 (Raw 2) v (l.map tryCells) := by
  obtain ⟨A, cap, h1, h2, h3, h4⟩ := h
  refine ⟨A, cap, by rw [h1, List.length_map], by rw [List.length_map]; exact h2, h3, fun hp => ?_⟩
  obtain ⟨b, off, h5, h6, h7⟩ := h4 (by simpa using hp)
  refine ⟨b, off, h5, h6, fun i c hc => ?_⟩
  rw [List.getElem?_map, Option.map_eq_some_iff] at hc
  obtain ⟨x, hx, rfl⟩ := hc
  obtain ⟨cs, c1, ⟨rfl, _⟩, c3⟩ := h7 i x hx
  exact ⟨_, c1, ⟨rfl, c1⟩, c3⟩

set_option maxHeartbeats 4000000 in
set_option maxRecDepth 100000 in
theorem from_28 (B b : Nat) (v0 v1 v2 v3 : Value) (A5 : Option Addr) (n n5 : Nat) (s : WalkS) (bs bo : Nat) (tv : Value) (ovs : List Value) (k : Nat) (code : List CIns) (i : CIns) (m : List CTry) (w : World)
    (h : WalkAt w B b v0 v1 v2 v3 A5 n n5 s bs bo tv ovs) (hok : WOk n s) (hn : n ≤ 600) (hk : k < n) (hcl : n = code.length) (hcode : SliceR w B 5 CInsR (.slice A5 n n5) code) (hi0 : code[k]? = some i) (ho : s.out[k]? = some m) (hB : B ≤ w.heap.size) (hop : i.op = 28) :
    Calls Tryd.prog 138 #[.pointer (some ⟨b, 0, none⟩), .int .i64 k] w (ComePost B b v0 v1 v2 v3 A5 n n5 (s) bs bo w) := by
  obtain ⟨s', hs'⟩ : ∃ s', s' = s := ⟨_, rfl⟩
  rw [← hs']
  have HS' := Lib.hid hs'
  clear hs'
  have hkc : k < code.length := by omega
  obtain ⟨bc, oc, j, ics, rfl, hbc, hj0, -, hR, hat⟩ := hcode.at_ (i := k) hkc
  rw [hi0] at hj0
  injection hj0 with hj0
  subst hj0
  obtain ⟨rfl, v1', v2', v3', v4', v5'⟩ := hR
  obtain ⟨ov, hov⟩ : ∃ ov, ovs[k]? = some ov := ⟨_, List.getElem?_eq_getElem (by rw [h.olen]; exact hk)⟩
  have hm := h.out k ov m hov ho
  obtain ⟨A', cap', rfl, hm1, hm2, -⟩ := id hm
  have c4 : w.cell? ⟨b, 4, none⟩ = some (.slice (some ⟨bc, oc, none⟩) n n5) := cell_of_row w b 4 _ _ _ h.here
  have c6 : w.cell? ⟨b, 6, none⟩ = some (.slice (some ⟨bo, 0, none⟩) n n) := cell_of_row w b 6 _ _ _ h.here
  have c8 : w.cell? ⟨b, 8, none⟩ = some (.bool s.bad) := cell_of_row w b 8 _ _ _ h.here
  have f8 : w.frozen? ⟨b, 8, none⟩ = false := frozen_of_row w b 8 _ _ h.here
  have c7 : w.cell? ⟨bo, k, none⟩ = some (.slice A' m.length cap') := by rw [cell_of_row w bo k _ _ _ h.outs]; simpa using hov
  have g0 : w.cell? ⟨bc, oc + k * 5, none⟩ = some (.int .i64 i.op) := hat 0 _ rfl
  have g1 : w.cell? ⟨bc, oc + k * 5 + 1, none⟩ = some (.int .i64 i.a) := hat 1 _ rfl
  have g2 : w.cell? ⟨bc, oc + k * 5 + 2, none⟩ = some (.int .i64 i.b) := hat 2 _ rfl
  have g3 : w.cell? ⟨bc, oc + k * 5 + 3, none⟩ = some (.int .i64 i.c) := hat 3 _ rfl
  have g4 : w.cell? ⟨bc, oc + k * 5 + 4, none⟩ = some (.int .i64 i.line) := hat 4 _ rfl
  have l1 : bc < w.heap.size := by omega
  have l2 : b < w.heap.size := (Array.getElem?_eq_some_iff.1 h.here).1
  have l3 : bo < w.heap.size := (Array.getElem?_eq_some_iff.1 h.outs).1
  have hk1 : (k : Int) < n := by omega
  have hk2 : (k : Int) ≤ 600 := by omega
  have hml : m.length ≤ 20 := hok.few m (List.mem_of_getElem? ho)
  have HH := Lib.hid h
  have HM := Lib.hid hm
  have HF := Lib.hid (hok.wf m (List.mem_of_getElem? ho))
  unfold maxLen at hm2
  clear h hov ho hm hat hcode hi0
  rw [hop] at g0
  clear hop
  go_enter Tryd.func138, Tryd.ntmps138
  go_wp2_with fail
  go_region
  go_wp2_with fail
  refine bodyPost_ret (results_none rfl _ _ _) rfl ⟨rfl, ⟨_, _, by rw [HS'.out]; exact HH.out.below (by repeat (first | exact Below.refl _ _ | refine Below.drew ?_ | refine Below.alloc ?_ (by simp) _))⟩, Walked.of_below (by repeat (first | exact Below.refl _ _ | refine Below.drew ?_ | refine Below.alloc ?_ (by simp) _))⟩

set_option maxHeartbeats 4000000 in
set_option maxRecDepth 100000 in
theorem from_29 (B b : Nat) (v0 v1 v2 v3 : Value) (A5 : Option Addr) (n n5 : Nat) (s : WalkS) (bs bo : Nat) (tv : Value) (ovs : List Value) (k : Nat) (code : List CIns) (i : CIns) (m : List CTry) (w : World)
    (h : WalkAt w B b v0 v1 v2 v3 A5 n n5 s bs bo tv ovs) (hok : WOk n s) (hn : n ≤ 600) (hk : k < n) (hcl : n = code.length) (hcode : SliceR w B 5 CInsR (.slice A5 n n5) code) (hi0 : code[k]? = some i) (ho : s.out[k]? = some m) (hB : B ≤ w.heap.size) (hop : i.op = 29) :
    Calls Tryd.prog 138 #[.pointer (some ⟨b, 0, none⟩), .int .i64 k] w (ComePost B b v0 v1 v2 v3 A5 n n5 (s) bs bo w) := by
  obtain ⟨s', hs'⟩ : ∃ s', s' = s := ⟨_, rfl⟩
  rw [← hs']
  have HS' := Lib.hid hs'
  clear hs'
  have hkc : k < code.length := by omega
  obtain ⟨bc, oc, j, ics, rfl, hbc, hj0, -, hR, hat⟩ := hcode.at_ (i := k) hkc
  rw [hi0] at hj0
  injection hj0 with hj0
  subst hj0
  obtain ⟨rfl, v1', v2', v3', v4', v5'⟩ := hR
  obtain ⟨ov, hov⟩ : ∃ ov, ovs[k]? = some ov := ⟨_, List.getElem?_eq_getElem (by rw [h.olen]; exact hk)⟩
  have hm := h.out k ov m hov ho
  obtain ⟨A', cap', rfl, hm1, hm2, -⟩ := id hm
  have c4 : w.cell? ⟨b, 4, none⟩ = some (.slice (some ⟨bc, oc, none⟩) n n5) := cell_of_row w b 4 _ _ _ h.here
  have c6 : w.cell? ⟨b, 6, none⟩ = some (.slice (some ⟨bo, 0, none⟩) n n) := cell_of_row w b 6 _ _ _ h.here
  have c8 : w.cell? ⟨b, 8, none⟩ = some (.bool s.bad) := cell_of_row w b 8 _ _ _ h.here
  have f8 : w.frozen? ⟨b, 8, none⟩ = false := frozen_of_row w b 8 _ _ h.here
  have c7 : w.cell? ⟨bo, k, none⟩ = some (.slice A' m.length cap') := by rw [cell_of_row w bo k _ _ _ h.outs]; simpa using hov
  have g0 : w.cell? ⟨bc, oc + k * 5, none⟩ = some (.int .i64 i.op) := hat 0 _ rfl
  have g1 : w.cell? ⟨bc, oc + k * 5 + 1, none⟩ = some (.int .i64 i.a) := hat 1 _ rfl
  have g2 : w.cell? ⟨bc, oc + k * 5 + 2, none⟩ = some (.int .i64 i.b) := hat 2 _ rfl
  have g3 : w.cell? ⟨bc, oc + k * 5 + 3, none⟩ = some (.int .i64 i.c) := hat 3 _ rfl
  have g4 : w.cell? ⟨bc, oc + k * 5 + 4, none⟩ = some (.int .i64 i.line) := hat 4 _ rfl
  have l1 : bc < w.heap.size := by omega
  have l2 : b < w.heap.size := (Array.getElem?_eq_some_iff.1 h.here).1
  have l3 : bo < w.heap.size := (Array.getElem?_eq_some_iff.1 h.outs).1
  have hk1 : (k : Int) < n := by omega
  have hk2 : (k : Int) ≤ 600 := by omega
  have hml : m.length ≤ 20 := hok.few m (List.mem_of_getElem? ho)
  have HH := Lib.hid h
  have HM := Lib.hid hm
  have HF := Lib.hid (hok.wf m (List.mem_of_getElem? ho))
  unfold maxLen at hm2
  clear h hov ho hm hat hcode hi0
  rw [hop] at g0
  clear hop
  go_enter Tryd.func138, Tryd.ntmps138
  go_wp2_with fail
  go_region
  go_wp2_with fail
  refine bodyPost_ret (results_none rfl _ _ _) rfl ⟨rfl, ⟨_, _, by rw [HS'.out]; exact HH.out.below (by repeat (first | exact Below.refl _ _ | refine Below.drew ?_ | refine Below.alloc ?_ (by simp) _))⟩, Walked.of_below (by repeat (first | exact Below.refl _ _ | refine Below.drew ?_ | refine Below.alloc ?_ (by simp) _))⟩

set_option maxHeartbeats 4000000 in
set_option maxRecDepth 100000 in
theorem from_13 (B b : Nat) (v0 v1 v2 v3 : Value) (A5 : Option Addr) (n n5 : Nat) (s : WalkS) (bs bo : Nat) (tv : Value) (ovs : List Value) (k : Nat) (code : List CIns) (i : CIns) (m : List CTry) (w : World)
    (h : WalkAt w B b v0 v1 v2 v3 A5 n n5 s bs bo tv ovs) (hok : WOk n s) (hn : n ≤ 600) (hk : k < n) (hcl : n = code.length) (hcode : SliceR w B 5 CInsR (.slice A5 n n5) code) (hi0 : code[k]? = some i) (ho : s.out[k]? = some m) (hB : B ≤ w.heap.size) (hop : i.op = 13) (hja : 0 ≤ i.a) :
    Calls Tryd.prog 138 #[.pointer (some ⟨b, 0, none⟩), .int .i64 k] w (ComePost B b v0 v1 v2 v3 A5 n n5 (comeM s i.a m) bs bo w) := by
  obtain ⟨s', hs'⟩ : ∃ s', s' = comeM s i.a m := ⟨_, rfl⟩
  rw [← hs']
  have HS' := Lib.hid hs'
  clear hs'
  have hkc : k < code.length := by omega
  obtain ⟨bc, oc, j, ics, rfl, hbc, hj0, -, hR, hat⟩ := hcode.at_ (i := k) hkc
  rw [hi0] at hj0
  injection hj0 with hj0
  subst hj0
  obtain ⟨rfl, v1', v2', v3', v4', v5'⟩ := hR
  obtain ⟨ov, hov⟩ : ∃ ov, ovs[k]? = some ov := ⟨_, List.getElem?_eq_getElem (by rw [h.olen]; exact hk)⟩
  have hm := h.out k ov m hov ho
  obtain ⟨A', cap', rfl, hm1, hm2, -⟩ := id hm
  have c4 : w.cell? ⟨b, 4, none⟩ = some (.slice (some ⟨bc, oc, none⟩) n n5) := cell_of_row w b 4 _ _ _ h.here
  have c6 : w.cell? ⟨b, 6, none⟩ = some (.slice (some ⟨bo, 0, none⟩) n n) := cell_of_row w b 6 _ _ _ h.here
  have c8 : w.cell? ⟨b, 8, none⟩ = some (.bool s.bad) := cell_of_row w b 8 _ _ _ h.here
  have f8 : w.frozen? ⟨b, 8, none⟩ = false := frozen_of_row w b 8 _ _ h.here
  have c7 : w.cell? ⟨bo, k, none⟩ = some (.slice A' m.length cap') := by rw [cell_of_row w bo k _ _ _ h.outs]; simpa using hov
  have g0 : w.cell? ⟨bc, oc + k * 5, none⟩ = some (.int .i64 i.op) := hat 0 _ rfl
  have g1 : w.cell? ⟨bc, oc + k * 5 + 1, none⟩ = some (.int .i64 i.a) := hat 1 _ rfl
  have g2 : w.cell? ⟨bc, oc + k * 5 + 2, none⟩ = some (.int .i64 i.b) := hat 2 _ rfl
  have g3 : w.cell? ⟨bc, oc + k * 5 + 3, none⟩ = some (.int .i64 i.c) := hat 3 _ rfl
  have g4 : w.cell? ⟨bc, oc + k * 5 + 4, none⟩ = some (.int .i64 i.line) := hat 4 _ rfl
  have l1 : bc < w.heap.size := by omega
  have l2 : b < w.heap.size := (Array.getElem?_eq_some_iff.1 h.here).1
  have l3 : bo < w.heap.size := (Array.getElem?_eq_some_iff.1 h.outs).1
  have hk1 : (k : Int) < n := by omega
  have hk2 : (k : Int) ≤ 600 := by omega
  have hml : m.length ≤ 20 := hok.few m (List.mem_of_getElem? ho)
  have HH := Lib.hid h
  have HM := Lib.hid hm
  have HF := Lib.hid (hok.wf m (List.mem_of_getElem? ho))
  unfold maxLen at hm2
  clear h hov ho hm hat hcode hi0
  rw [hop] at g0
  clear hop
  go_enter Tryd.func138, Tryd.ntmps138
  go_wp2_with fail
  go_region
  go_wp2_with fail
  refine (come_c B b v0 v1 v2 v3 _ n n5 s bs bo _ _ i.a _ m _ (HH.out.below (by repeat (first | exact Below.refl _ _ | refine Below.drew ?_ | refine Below.alloc ?_ (by simp) _))) hok hn hja (HM.out.below (by repeat (first | exact Below.refl _ _ | refine Below.drew ?_ | refine Below.alloc ?_ (by simp) _))) (by simp; omega)).mono ?_
  rintro e w5 ⟨rfl, ⟨tv', ovs', k1⟩, k2⟩
  have K1 := Lib.hid k1
  have K2 : Hid (Walked B w w5) := by refine Walked.trans (Walked.of_below ?_) k2; exact (by repeat (first | exact Below.refl _ _ | refine Below.drew ?_ | refine Below.alloc ?_ (by simp) _))
  clear k1 k2
  go_wp2_with fail
  refine bodyPost_ret (results_none rfl _ _ _) rfl ⟨rfl, ⟨_, _, by rw [HS'.out]; exact K1.out⟩, K2.out⟩

set_option maxHeartbeats 4000000 in
set_option maxRecDepth 100000 in
theorem from_14 (B b : Nat) (v0 v1 v2 v3 : Value) (A5 : Option Addr) (n n5 : Nat) (s : WalkS) (bs bo : Nat) (tv : Value) (ovs : List Value) (k : Nat) (code : List CIns) (i : CIns) (m : List CTry) (w : World)
    (h : WalkAt w B b v0 v1 v2 v3 A5 n n5 s bs bo tv ovs) (hok : WOk n s) (hn : n ≤ 600) (hk : k < n) (hcl : n = code.length) (hcode : SliceR w B 5 CInsR (.slice A5 n n5) code) (hi0 : code[k]? = some i) (ho : s.out[k]? = some m) (hB : B ≤ w.heap.size) (hop : i.op = 14) (hja : 0 ≤ i.a) :
    Calls Tryd.prog 138 #[.pointer (some ⟨b, 0, none⟩), .int .i64 k] w (ComePost B b v0 v1 v2 v3 A5 n n5 (comeM s i.a m) bs bo w) := by
  obtain ⟨s', hs'⟩ : ∃ s', s' = comeM s i.a m := ⟨_, rfl⟩
  rw [← hs']
  have HS' := Lib.hid hs'
  clear hs'
  have hkc : k < code.length := by omega
  obtain ⟨bc, oc, j, ics, rfl, hbc, hj0, -, hR, hat⟩ := hcode.at_ (i := k) hkc
  rw [hi0] at hj0
  injection hj0 with hj0
  subst hj0
  obtain ⟨rfl, v1', v2', v3', v4', v5'⟩ := hR
  obtain ⟨ov, hov⟩ : ∃ ov, ovs[k]? = some ov := ⟨_, List.getElem?_eq_getElem (by rw [h.olen]; exact hk)⟩
  have hm := h.out k ov m hov ho
  obtain ⟨A', cap', rfl, hm1, hm2, -⟩ := id hm
  have c4 : w.cell? ⟨b, 4, none⟩ = some (.slice (some ⟨bc, oc, none⟩) n n5) := cell_of_row w b 4 _ _ _ h.here
  have c6 : w.cell? ⟨b, 6, none⟩ = some (.slice (some ⟨bo, 0, none⟩) n n) := cell_of_row w b 6 _ _ _ h.here
  have c8 : w.cell? ⟨b, 8, none⟩ = some (.bool s.bad) := cell_of_row w b 8 _ _ _ h.here
  have f8 : w.frozen? ⟨b, 8, none⟩ = false := frozen_of_row w b 8 _ _ h.here
  have c7 : w.cell? ⟨bo, k, none⟩ = some (.slice A' m.length cap') := by rw [cell_of_row w bo k _ _ _ h.outs]; simpa using hov
  have g0 : w.cell? ⟨bc, oc + k * 5, none⟩ = some (.int .i64 i.op) := hat 0 _ rfl
  have g1 : w.cell? ⟨bc, oc + k * 5 + 1, none⟩ = some (.int .i64 i.a) := hat 1 _ rfl
  have g2 : w.cell? ⟨bc, oc + k * 5 + 2, none⟩ = some (.int .i64 i.b) := hat 2 _ rfl
  have g3 : w.cell? ⟨bc, oc + k * 5 + 3, none⟩ = some (.int .i64 i.c) := hat 3 _ rfl
  have g4 : w.cell? ⟨bc, oc + k * 5 + 4, none⟩ = some (.int .i64 i.line) := hat 4 _ rfl
  have l1 : bc < w.heap.size := by omega
  have l2 : b < w.heap.size := (Array.getElem?_eq_some_iff.1 h.here).1
  have l3 : bo < w.heap.size := (Array.getElem?_eq_some_iff.1 h.outs).1
  have hk1 : (k : Int) < n := by omega
  have hk2 : (k : Int) ≤ 600 := by omega
  have hml : m.length ≤ 20 := hok.few m (List.mem_of_getElem? ho)
  have HH := Lib.hid h
  have HM := Lib.hid hm
  have HF := Lib.hid (hok.wf m (List.mem_of_getElem? ho))
  unfold maxLen at hm2
  clear h hov ho hm hat hcode hi0
  rw [hop] at g0
  clear hop
  go_enter Tryd.func138, Tryd.ntmps138
  go_wp2_with fail
  go_region
  go_wp2_with fail
  refine (come_c B b v0 v1 v2 v3 _ n n5 s bs bo _ _ i.a _ m _ (HH.out.below (by repeat (first | exact Below.refl _ _ | refine Below.drew ?_ | refine Below.alloc ?_ (by simp) _))) hok hn hja (HM.out.below (by repeat (first | exact Below.refl _ _ | refine Below.drew ?_ | refine Below.alloc ?_ (by simp) _))) (by simp; omega)).mono ?_
  rintro e w5 ⟨rfl, ⟨tv', ovs', k1⟩, k2⟩
  have K1 := Lib.hid k1
  have K2 : Hid (Walked B w w5) := by refine Walked.trans (Walked.of_below ?_) k2; exact (by repeat (first | exact Below.refl _ _ | refine Below.drew ?_ | refine Below.alloc ?_ (by simp) _))
  clear k1 k2
  go_wp2_with fail
  refine bodyPost_ret (results_none rfl _ _ _) rfl ⟨rfl, ⟨_, _, by rw [HS'.out]; exact K1.out⟩, K2.out⟩

set_option maxHeartbeats 4000000 in
set_option maxRecDepth 100000 in
theorem from_else (B b : Nat) (v0 v1 v2 v3 : Value) (A5 : Option Addr) (n n5 : Nat) (s : WalkS) (bs bo : Nat) (tv : Value) (ovs : List Value) (k : Nat) (code : List CIns) (i : CIns) (m : List CTry) (w : World)
    (h : WalkAt w B b v0 v1 v2 v3 A5 n n5 s bs bo tv ovs) (hok : WOk n s) (hn : n ≤ 600) (hk : k < n) (hcl : n = code.length) (hcode : SliceR w B 5 CInsR (.slice A5 n n5) code) (hi0 : code[k]? = some i) (ho : s.out[k]? = some m) (hB : B ≤ w.heap.size) (hop : ¬ (i.op = 28 ∨ i.op = 29 ∨ i.op = 13 ∨ i.op = 14 ∨ i.op = 15 ∨ i.op = 30 ∨ i.op = 31)) :
    Calls Tryd.prog 138 #[.pointer (some ⟨b, 0, none⟩), .int .i64 k] w (ComePost B b v0 v1 v2 v3 A5 n n5 (comeM s ((k : Int) + 1) m) bs bo w) := by
  obtain ⟨s', hs'⟩ : ∃ s', s' = comeM s ((k : Int) + 1) m := ⟨_, rfl⟩
  rw [← hs']
  have HS' := Lib.hid hs'
  clear hs'
  have hkc : k < code.length := by omega
  obtain ⟨bc, oc, j, ics, rfl, hbc, hj0, -, hR, hat⟩ := hcode.at_ (i := k) hkc
  rw [hi0] at hj0
  injection hj0 with hj0
  subst hj0
  obtain ⟨rfl, v1', v2', v3', v4', v5'⟩ := hR
  obtain ⟨ov, hov⟩ : ∃ ov, ovs[k]? = some ov := ⟨_, List.getElem?_eq_getElem (by rw [h.olen]; exact hk)⟩
  have hm := h.out k ov m hov ho
  obtain ⟨A', cap', rfl, hm1, hm2, -⟩ := id hm
  have c4 : w.cell? ⟨b, 4, none⟩ = some (.slice (some ⟨bc, oc, none⟩) n n5) := cell_of_row w b 4 _ _ _ h.here
  have c6 : w.cell? ⟨b, 6, none⟩ = some (.slice (some ⟨bo, 0, none⟩) n n) := cell_of_row w b 6 _ _ _ h.here
  have c8 : w.cell? ⟨b, 8, none⟩ = some (.bool s.bad) := cell_of_row w b 8 _ _ _ h.here
  have f8 : w.frozen? ⟨b, 8, none⟩ = false := frozen_of_row w b 8 _ _ h.here
  have c7 : w.cell? ⟨bo, k, none⟩ = some (.slice A' m.length cap') := by rw [cell_of_row w bo k _ _ _ h.outs]; simpa using hov
  have g0 : w.cell? ⟨bc, oc + k * 5, none⟩ = some (.int .i64 i.op) := hat 0 _ rfl
  have g1 : w.cell? ⟨bc, oc + k * 5 + 1, none⟩ = some (.int .i64 i.a) := hat 1 _ rfl
  have g2 : w.cell? ⟨bc, oc + k * 5 + 2, none⟩ = some (.int .i64 i.b) := hat 2 _ rfl
  have g3 : w.cell? ⟨bc, oc + k * 5 + 3, none⟩ = some (.int .i64 i.c) := hat 3 _ rfl
  have g4 : w.cell? ⟨bc, oc + k * 5 + 4, none⟩ = some (.int .i64 i.line) := hat 4 _ rfl
  have l1 : bc < w.heap.size := by omega
  have l2 : b < w.heap.size := (Array.getElem?_eq_some_iff.1 h.here).1
  have l3 : bo < w.heap.size := (Array.getElem?_eq_some_iff.1 h.outs).1
  have hk1 : (k : Int) < n := by omega
  have hk2 : (k : Int) ≤ 600 := by omega
  have hml : m.length ≤ 20 := hok.few m (List.mem_of_getElem? ho)
  have HH := Lib.hid h
  have HM := Lib.hid hm
  have HF := Lib.hid (hok.wf m (List.mem_of_getElem? ho))
  unfold maxLen at hm2
  clear h hov ho hm hat hcode hi0
  have u28 : (i.op == 28) = false := by simp; omega
  have u29 : (i.op == 29) = false := by simp; omega
  have u13 : (i.op == 13) = false := by simp; omega
  have u14 : (i.op == 14) = false := by simp; omega
  have u15 : (i.op == 15) = false := by simp; omega
  have u30 : (i.op == 30) = false := by simp; omega
  have u31 : (i.op == 31) = false := by simp; omega
  clear hop
  go_enter Tryd.func138, Tryd.ntmps138
  go_wp2_with fail
  go_region
  go_wp2_with fail
  refine (come_c B b v0 v1 v2 v3 _ n n5 s bs bo _ _ ((k : Int) + 1) _ m _ (HH.out.below (by repeat (first | exact Below.refl _ _ | refine Below.drew ?_ | refine Below.alloc ?_ (by simp) _))) hok hn (by omega) (HM.out.below (by repeat (first | exact Below.refl _ _ | refine Below.drew ?_ | refine Below.alloc ?_ (by simp) _))) (by simp; omega)).mono ?_
  rintro e w5 ⟨rfl, ⟨tv', ovs', k1⟩, k2⟩
  have K1 := Lib.hid k1
  have K2 : Hid (Walked B w w5) := by refine Walked.trans (Walked.of_below ?_) k2; exact (by repeat (first | exact Below.refl _ _ | refine Below.drew ?_ | refine Below.alloc ?_ (by simp) _))
  clear k1 k2
  go_wp2_with fail
  go_end0
  exact ⟨rfl, ⟨_, _, by rw [HS'.out]; exact K1.out⟩, K2.out⟩

set_option maxHeartbeats 4000000 in
set_option maxRecDepth 100000 in
theorem from_15 (B b : Nat) (v0 v1 v2 v3 : Value) (A5 : Option Addr) (n n5 : Nat) (s : WalkS) (bs bo : Nat) (tv : Value) (ovs : List Value) (k : Nat) (code : List CIns) (i : CIns) (m : List CTry) (w : World)
    (h : WalkAt w B b v0 v1 v2 v3 A5 n n5 s bs bo tv ovs) (hok : WOk n s) (hn : n ≤ 600) (hk : k < n) (hcl : n = code.length) (hcode : SliceR w B 5 CInsR (.slice A5 n n5) code) (hi0 : code[k]? = some i) (ho : s.out[k]? = some m) (hB : B ≤ w.heap.size) (hop : i.op = 15) (hjb : 0 ≤ i.b) :
    Calls Tryd.prog 138 #[.pointer (some ⟨b, 0, none⟩), .int .i64 k] w (ComePost B b v0 v1 v2 v3 A5 n n5 (comeM (comeM s i.b m) ((k : Int) + 1) m) bs bo w) := by
  obtain ⟨s', hs'⟩ : ∃ s', s' = comeM (comeM s i.b m) ((k : Int) + 1) m := ⟨_, rfl⟩
  rw [← hs']
  have HS' := Lib.hid hs'
  clear hs'
  have hkc : k < code.length := by omega
  obtain ⟨bc, oc, j, ics, rfl, hbc, hj0, -, hR, hat⟩ := hcode.at_ (i := k) hkc
  rw [hi0] at hj0
  injection hj0 with hj0
  subst hj0
  obtain ⟨rfl, v1', v2', v3', v4', v5'⟩ := hR
  obtain ⟨ov, hov⟩ : ∃ ov, ovs[k]? = some ov := ⟨_, List.getElem?_eq_getElem (by rw [h.olen]; exact hk)⟩
  have hm := h.out k ov m hov ho
  obtain ⟨A', cap', rfl, hm1, hm2, -⟩ := id hm
  have c4 : w.cell? ⟨b, 4, none⟩ = some (.slice (some ⟨bc, oc, none⟩) n n5) := cell_of_row w b 4 _ _ _ h.here
  have c6 : w.cell? ⟨b, 6, none⟩ = some (.slice (some ⟨bo, 0, none⟩) n n) := cell_of_row w b 6 _ _ _ h.here
  have c8 : w.cell? ⟨b, 8, none⟩ = some (.bool s.bad) := cell_of_row w b 8 _ _ _ h.here
  have f8 : w.frozen? ⟨b, 8, none⟩ = false := frozen_of_row w b 8 _ _ h.here
  have c7 : w.cell? ⟨bo, k, none⟩ = some (.slice A' m.length cap') := by rw [cell_of_row w bo k _ _ _ h.outs]; simpa using hov
  have g0 : w.cell? ⟨bc, oc + k * 5, none⟩ = some (.int .i64 i.op) := hat 0 _ rfl
  have g1 : w.cell? ⟨bc, oc + k * 5 + 1, none⟩ = some (.int .i64 i.a) := hat 1 _ rfl
  have g2 : w.cell? ⟨bc, oc + k * 5 + 2, none⟩ = some (.int .i64 i.b) := hat 2 _ rfl
  have g3 : w.cell? ⟨bc, oc + k * 5 + 3, none⟩ = some (.int .i64 i.c) := hat 3 _ rfl
  have g4 : w.cell? ⟨bc, oc + k * 5 + 4, none⟩ = some (.int .i64 i.line) := hat 4 _ rfl
  have l1 : bc < w.heap.size := by omega
  have l2 : b < w.heap.size := (Array.getElem?_eq_some_iff.1 h.here).1
  have l3 : bo < w.heap.size := (Array.getElem?_eq_some_iff.1 h.outs).1
  have hk1 : (k : Int) < n := by omega
  have hk2 : (k : Int) ≤ 600 := by omega
  have hml : m.length ≤ 20 := hok.few m (List.mem_of_getElem? ho)
  have HH := Lib.hid h
  have HM := Lib.hid hm
  have HF := Lib.hid (hok.wf m (List.mem_of_getElem? ho))
  unfold maxLen at hm2
  clear h hov ho hm hat hcode hi0
  have HO2 := Lib.hid (hok.come hjb HF.out)
  rw [hop] at g0
  clear hop
  go_enter Tryd.func138, Tryd.ntmps138
  go_wp2_with fail
  go_region
  go_wp2_with fail
  refine (come_c B b v0 v1 v2 v3 _ n n5 s bs bo _ _ i.b _ m _ (HH.out.below (by repeat (first | exact Below.refl _ _ | refine Below.drew ?_ | refine Below.alloc ?_ (by simp) _))) hok hn hjb (HM.out.below (by repeat (first | exact Below.refl _ _ | refine Below.drew ?_ | refine Below.alloc ?_ (by simp) _))) (by simp; omega)).mono ?_
  rintro e w5 ⟨rfl, ⟨tv', ovs', k1⟩, k2⟩
  have K1 := Lib.hid k1
  have K2 : Hid (Walked B w w5) := by refine Walked.trans (Walked.of_below ?_) k2; exact (by repeat (first | exact Below.refl _ _ | refine Below.drew ?_ | refine Below.alloc ?_ (by simp) _))
  have M2 := Lib.hid (k2.tries (HM.out.below (by repeat (first | exact Below.refl _ _ | refine Below.drew ?_ | refine Below.alloc ?_ (by simp) _))))
  have hz5 : B ≤ w5.heap.size := Nat.le_trans hB K2.out.size
  clear k1 k2
  go_wp2_with fail
  refine (come_c B b v0 v1 v2 v3 _ n n5 _ bs bo _ _ ((k : Int) + 1) _ m _ (K1.out) HO2.out hn (by omega) (M2.out) hz5).mono ?_
  rintro e w6 ⟨rfl, ⟨tv2, ovs2, k1⟩, k2⟩
  have K3 := Lib.hid k1
  have K4 := Lib.hid (K2.out.trans k2)
  clear k1 k2
  go_wp2_with fail
  go_end0
  exact ⟨rfl, ⟨_, _, by rw [HS'.out]; exact K3.out⟩, K4.out⟩

set_option maxHeartbeats 4000000 in
set_option maxRecDepth 100000 in
theorem from_31n (B b : Nat) (v0 v1 v2 v3 : Value) (A5 : Option Addr) (n n5 : Nat) (s : WalkS) (bs bo : Nat) (tv : Value) (ovs : List Value) (k : Nat) (code : List CIns) (i : CIns) (m : List CTry) (w : World)
    (h : WalkAt w B b v0 v1 v2 v3 A5 n n5 s bs bo tv ovs) (hok : WOk n s) (hn : n ≤ 600) (hk : k < n) (hcl : n = code.length) (hcode : SliceR w B 5 CInsR (.slice A5 n n5) code) (hi0 : code[k]? = some i) (ho : s.out[k]? = some m) (hB : B ≤ w.heap.size) (hop : i.op = 31) (hm0 : m = []) :
    Calls Tryd.prog 138 #[.pointer (some ⟨b, 0, none⟩), .int .i64 k] w (ComePost B b v0 v1 v2 v3 A5 n n5 ({ s with bad := true }) bs bo w) := by
  obtain ⟨s', hs'⟩ : ∃ s', s' = ({ s with bad := true } : WalkS) := ⟨_, rfl⟩
  rw [← hs']
  have HS' := Lib.hid hs'
  clear hs'
  have hkc : k < code.length := by omega
  obtain ⟨bc, oc, j, ics, rfl, hbc, hj0, -, hR, hat⟩ := hcode.at_ (i := k) hkc
  rw [hi0] at hj0
  injection hj0 with hj0
  subst hj0
  obtain ⟨rfl, v1', v2', v3', v4', v5'⟩ := hR
  obtain ⟨ov, hov⟩ : ∃ ov, ovs[k]? = some ov := ⟨_, List.getElem?_eq_getElem (by rw [h.olen]; exact hk)⟩
  have hm := h.out k ov m hov ho
  obtain ⟨A', cap', rfl, hm1, hm2, -⟩ := id hm
  have c4 : w.cell? ⟨b, 4, none⟩ = some (.slice (some ⟨bc, oc, none⟩) n n5) := cell_of_row w b 4 _ _ _ h.here
  have c6 : w.cell? ⟨b, 6, none⟩ = some (.slice (some ⟨bo, 0, none⟩) n n) := cell_of_row w b 6 _ _ _ h.here
  have c8 : w.cell? ⟨b, 8, none⟩ = some (.bool s.bad) := cell_of_row w b 8 _ _ _ h.here
  have f8 : w.frozen? ⟨b, 8, none⟩ = false := frozen_of_row w b 8 _ _ h.here
  have c7 : w.cell? ⟨bo, k, none⟩ = some (.slice A' m.length cap') := by rw [cell_of_row w bo k _ _ _ h.outs]; simpa using hov
  have g0 : w.cell? ⟨bc, oc + k * 5, none⟩ = some (.int .i64 i.op) := hat 0 _ rfl
  have g1 : w.cell? ⟨bc, oc + k * 5 + 1, none⟩ = some (.int .i64 i.a) := hat 1 _ rfl
  have g2 : w.cell? ⟨bc, oc + k * 5 + 2, none⟩ = some (.int .i64 i.b) := hat 2 _ rfl
  have g3 : w.cell? ⟨bc, oc + k * 5 + 3, none⟩ = some (.int .i64 i.c) := hat 3 _ rfl
  have g4 : w.cell? ⟨bc, oc + k * 5 + 4, none⟩ = some (.int .i64 i.line) := hat 4 _ rfl
  have l1 : bc < w.heap.size := by omega
  have l2 : b < w.heap.size := (Array.getElem?_eq_some_iff.1 h.here).1
  have l3 : bo < w.heap.size := (Array.getElem?_eq_some_iff.1 h.outs).1
  have hk1 : (k : Int) < n := by omega
  have hk2 : (k : Int) ≤ 600 := by omega
  have hml : m.length ≤ 20 := hok.few m (List.mem_of_getElem? ho)
  have HH := Lib.hid h
  have HM := Lib.hid hm
  have HF := Lib.hid (hok.wf m (List.mem_of_getElem? ho))
  unfold maxLen at hm2
  clear h hov ho hm hat hcode hi0
  rw [hop] at g0
  have hm3 : ((m.length : Int) == 0) = true := by rw [hm0]; rfl
  clear hop hm0
  go_enter Tryd.func138, Tryd.ntmps138
  go_wp2_with fail
  go_region
  go_wp2_with fail
  refine bodyPost_ret (results_none rfl _ _ _) rfl ⟨rfl, ⟨_, _, by rw [HS'.out]; exact HH.out.set_bad.1.below (by repeat (first | exact Below.refl _ _ | refine Below.drew ?_ | refine Below.alloc ?_ (by simp [World.setCell]) _))⟩, HH.out.set_bad.2.below_ (by repeat (first | exact Below.refl _ _ | refine Below.drew ?_ | refine Below.alloc ?_ (by simp [World.setCell]) _))⟩

set_option maxHeartbeats 4000000 in
set_option maxRecDepth 100000 in
theorem from_31 (B b : Nat) (v0 v1 v2 v3 : Value) (A5 : Option Addr) (n n5 : Nat) (s : WalkS) (bs bo : Nat) (tv : Value) (ovs : List Value) (k : Nat) (code : List CIns) (i : CIns) (m : List CTry) (w : World)
    (h : WalkAt w B b v0 v1 v2 v3 A5 n n5 s bs bo tv ovs) (hok : WOk n s) (hn : n ≤ 600) (hk : k < n) (hcl : n = code.length) (hcode : SliceR w B 5 CInsR (.slice A5 n n5) code) (hi0 : code[k]? = some i) (ho : s.out[k]? = some m) (hB : B ≤ w.heap.size) (hop : i.op = 31) (hm0 : m ≠ []) :
    Calls Tryd.prog 138 #[.pointer (some ⟨b, 0, none⟩), .int .i64 k] w (ComePost B b v0 v1 v2 v3 A5 n n5 (comeM s ((k : Int) + 1) m.dropLast) bs bo w) := by
  obtain ⟨s', hs'⟩ : ∃ s', s' = comeM s ((k : Int) + 1) m.dropLast := ⟨_, rfl⟩
  rw [← hs']
  have HS' := Lib.hid hs'
  clear hs'
  have hkc : k < code.length := by omega
  obtain ⟨bc, oc, j, ics, rfl, hbc, hj0, -, hR, hat⟩ := hcode.at_ (i := k) hkc
  rw [hi0] at hj0
  injection hj0 with hj0
  subst hj0
  obtain ⟨rfl, v1', v2', v3', v4', v5'⟩ := hR
  obtain ⟨ov, hov⟩ : ∃ ov, ovs[k]? = some ov := ⟨_, List.getElem?_eq_getElem (by rw [h.olen]; exact hk)⟩
  have hm := h.out k ov m hov ho
  obtain ⟨A', cap', rfl, hm1, hm2, -⟩ := id hm
  have c4 : w.cell? ⟨b, 4, none⟩ = some (.slice (some ⟨bc, oc, none⟩) n n5) := cell_of_row w b 4 _ _ _ h.here
  have c6 : w.cell? ⟨b, 6, none⟩ = some (.slice (some ⟨bo, 0, none⟩) n n) := cell_of_row w b 6 _ _ _ h.here
  have c8 : w.cell? ⟨b, 8, none⟩ = some (.bool s.bad) := cell_of_row w b 8 _ _ _ h.here
  have f8 : w.frozen? ⟨b, 8, none⟩ = false := frozen_of_row w b 8 _ _ h.here
  have c7 : w.cell? ⟨bo, k, none⟩ = some (.slice A' m.length cap') := by rw [cell_of_row w bo k _ _ _ h.outs]; simpa using hov
  have g0 : w.cell? ⟨bc, oc + k * 5, none⟩ = some (.int .i64 i.op) := hat 0 _ rfl
  have g1 : w.cell? ⟨bc, oc + k * 5 + 1, none⟩ = some (.int .i64 i.a) := hat 1 _ rfl
  have g2 : w.cell? ⟨bc, oc + k * 5 + 2, none⟩ = some (.int .i64 i.b) := hat 2 _ rfl
  have g3 : w.cell? ⟨bc, oc + k * 5 + 3, none⟩ = some (.int .i64 i.c) := hat 3 _ rfl
  have g4 : w.cell? ⟨bc, oc + k * 5 + 4, none⟩ = some (.int .i64 i.line) := hat 4 _ rfl
  have l1 : bc < w.heap.size := by omega
  have l2 : b < w.heap.size := (Array.getElem?_eq_some_iff.1 h.here).1
  have l3 : bo < w.heap.size := (Array.getElem?_eq_some_iff.1 h.outs).1
  have hk1 : (k : Int) < n := by omega
  have hk2 : (k : Int) ≤ 600 := by omega
  have hml : m.length ≤ 20 := hok.few m (List.mem_of_getElem? ho)
  have HH := Lib.hid h
  have HM := Lib.hid hm
  have HF := Lib.hid (hok.wf m (List.mem_of_getElem? ho))
  unfold maxLen at hm2
  clear h hov ho hm hat hcode hi0
  rw [hop] at g0
  have hmp : 0 < m.length := List.length_pos_iff.2 hm0
  have hm3 : ((m.length : Int) == 0) = false := by simp; omega
  have hm4 : (1 : Int) ≤ m.length := by omega
  have hmx : (m.length : Int) - 1 ≤ cap' := by omega
  have HMD : Hid (∀ W, Below w.heap.size w W → SliceTy W B 200 2 TryR (.slice A' (m.length - 1) cap') m.dropLast) := fun W hW => by
    rw [List.dropLast_eq_take]
    exact (HM.out.below hW).take (by omega)
  clear hop hm0
  go_enter Tryd.func138, Tryd.ntmps138
  go_wp2_with fail
  go_region
  go_wp2_with fail
  refine (come_c B b v0 v1 v2 v3 _ n n5 s bs bo _ _ ((k : Int) + 1) _ m.dropLast _ (HH.out.below (by repeat (first | exact Below.refl _ _ | refine Below.drew ?_ | refine Below.alloc ?_ (by simp) _))) hok hn (by omega) (HMD.out _ (by repeat (first | exact Below.refl _ _ | refine Below.drew ?_ | refine Below.alloc ?_ (by simp) _))) (by simp; omega)).mono ?_
  rintro e w5 ⟨rfl, ⟨tv', ovs', k1⟩, k2⟩
  have K1 := Lib.hid k1
  have K2 : Hid (Walked B w w5) := by refine Walked.trans (Walked.of_below ?_) k2; exact (by repeat (first | exact Below.refl _ _ | refine Below.drew ?_ | refine Below.alloc ?_ (by simp) _))
  clear k1 k2
  go_wp2_with fail
  go_end0
  exact ⟨rfl, ⟨_, _, by rw [HS'.out]; exact K1.out⟩, K2.out⟩
end Go.Proofs.YtmccomeihnaanaaDoor
