/- peel.Do: the walk. Printed by gen_peelE.py. -/
import Derived.Test.YtmccomeihnaanaaDoorPeelD
namespace Go.Proofs.YtmccomeihnaanaaDoor
open Go.RowKit

section
variable {P : Program} {ops : Array Oper} {md : Region.Mode} {C : World → Prop} {Q : Exit → Act → World → Prop}
def closedB (md : Region.Mode) (ops : Array Oper) (listed : Array Bool) : Bool := (List.range ops.size).all fun j => !listed.getD j false || (match ops[j]? with | none => true | some o => o.after.all fun e => !Region.binds md e || listed.getD e.on false)
theorem closedB_spec {listed : Array Bool} (h : closedB md ops listed = true) : Closed md ops listed := by
  intro j oj hj hl e he hb
  have h1 := List.all_eq_true.1 h j (List.mem_range.2 (Array.getElem?_eq_some_iff.1 hj).1)
  rw [hl, hj] at h1
  simp only [Bool.not_true, Bool.false_or] at h1
  have h2 := Array.all_eq_true'.1 h1 e he
  rw [hb] at h2
  simpa using h2
def commB3 (md : Region.Mode) (ops : Array Oper) (F : Nat → Bool) (listed last : Array Bool) (qs : List Nat) : Bool :=
  Region.noSelect ops && closedB md ops listed && lateB md ops F ops.size qs && qs.all F && readB2 md ops last qs listed
/-- IN THE MIDST OF A REGION: some that only read, first -/
theorem wpAnyC_readers {F : Nat → Bool} {f : Nat} {listed : Array Bool} {a : Act} {w : World} (qs : List Nat) (m : Nat) (last : Array Bool) (lq : List Oper) (hB : commB3 md ops F listed last qs = true) (hf : f = qs.length + m) (hq : qs.filterMap (ops[·]?) = lq)
    (hQ : ∀ (c : _) (a : Act) (d : Option Tmp) (v : Value) (w : World), Q (.panic c) (a.put d v) w → Q (.panic c) a w) (hw : C w)
    (h : wpQuiet P ops C (fun a' => wpAnyC P md ops C F Q m last a' w) lq a) : wpAnyC P md ops C F Q f listed a w := by
  subst hf hq
  simp only [commB3, Bool.and_eq_true] at hB
  obtain ⟨⟨⟨⟨h1, h2⟩, h3⟩, h4⟩, h5⟩ := hB
  refine wpAnyC_read2 (qs0 := qs) h1 hQ (fun listed i j hi hc hu hj => ?_) hw qs listed a (fun _ h => h) (closedB_spec h2) h5 h
  by_cases hjq : j ∈ qs
  · exact List.all_eq_true.1 h4 j hjq
  · exact late_spec h3 hc hi hu hj hjq
end
theorem below_row {w w' : World} (h : Below w.heap.size w w') {k : Nat} {x : Obj} (hk : w.heap[k]? = some x) : w'.heap[k]? = some x := (h.block k (Array.getElem?_eq_some_iff.1 hk).1).trans hk
theorem checkM_exitP {rightV : Val → Bool} {ce : Int} {fns : List FnM} {t : TTrace} (h : checkM rightV ce fns t = 0) {i : Nat} {x : TIns} (hx : t.ins[i]? = some x) : -1 ≤ x.exit ∧ x.exit < t.exits.length := by
  obtain ⟨_, fn, h1⟩ := checkM_ins h
  obtain ⟨_, h2⟩ := insM_formed t.ins 0 h1 i x hx
  simp only [formedM, Bool.and_eq_true] at h2
  have h3 := h2.2
  split at h3
  · have : x.exit = -1 := by simpa using h3
    omega
  · simp only [Bool.and_eq_true, decide_eq_true_eq] at h3
    omega
theorem upto_wfP {n : Nat} (h : n ≤ 300) : ∀ v ∈ upto n, wfi v := fun v hv => by
  unfold upto at hv
  obtain ⟨i, hi, rfl⟩ := List.mem_map.1 hv
  have := List.mem_range.1 hi
  unfold wfi; omega
def ceP (p : CProg) (t : TTrace) : Int := checkM rightV (codeCheckM p) (p.fns.map fnOf) t
/-- what peel.Do answers -/
def Peeled (ce : Int) (t z : TTrace) (r : Int) : Prop :=
  (ce ≠ 0 ∧ r = ce) ∨ (ce = 0 ∧ z = t ∧ r = 0) ∨ (ce = 0 ∧ t.loop ≤ 0 ∧ 0 < t.ins.length ∧ ∃ tl : List Int, tl.length = t.ins.length ∧ cutM (twiceM t) (upto t.ins.length ++ tl) = (z, r))
def PeelPost (p : CProg) (t : TTrace) (w : World) (e : Ending) (w' : World) : Prop :=
  ∃ cs z r, e = .returned (.tuple #[.agg ⟨cs⟩, .int .i64 r]) ∧ TraceR w' w'.heap.size cs z ∧ Below w.heap.size w w' ∧ Peeled (ceP p t) t z r
theorem mk_boolsP (n : Nat) (hn : n ≤ 600) (W : World) : (Instr.makeSlice 91 (.int .i64 (n : Int)) (.int .i64 (n : Int))).run Tryd.prog W = .ok (.slice (some ⟨W.heap.size, 0, none⟩) n n) (W.alloc (.cells (Array.replicate n (.bool false)) 4)) := mk_bools n hn W
theorem mk_room (n : Nat) (hn : n ≤ 600) (W : World) : (Instr.makeSlice 38 (.int .i64 0) (.int .i64 (2 * (n : Int)))).run Tryd.prog W = .ok (.slice (some ⟨W.heap.size, 0, none⟩) 0 (2 * n)) (W.alloc (.cells (Array.replicate (2 * n) (.int .i64 0)) 3)) := by
  obtain ⟨i0, hi, hz0, hz1, hz2⟩ := info_parts infoInt
  have h := run_make (P := Tryd.prog) W 38 3 i0 (.int .i64 0) Tryd.underlying38 hi hz0 .i64 .i64 0 (2 * (n : Int)) (by omega) (by omega) (by rw [hz2]; omega) (by omega)
  rw [show (2 * (n : Int)).toNat = 2 * n by omega, hz1, Nat.mul_one] at h
  rw [h, show (Value.int .i64 0).cells = #[.int .i64 0] from rfl, madeCells_one]
  rfl
theorem own_room (w : World) (n : Nat) (hn : n ≤ 600) : (w.alloc (.cells (Array.replicate (2 * n) (.int .i64 0)) 3)).ownsRow w.heap.size 3 1 (.slice (some ⟨w.heap.size, 0, none⟩) 0 (2 * n)) 0 [] :=
  ⟨by simp, .inr ⟨w.heap.size, 2 * n, Array.replicate (2 * n) (.int .i64 0), rfl, Nat.le_refl _, heap_alloc_new w _, by omega, by unfold maxLen; omega, by simp, by simp⟩⟩
/-- THE MIDST OF peel.Do: which are firm (bs, in block ir; its box: ib), and where each goes (tl) -/
structure Pd (w1 : World) (ib ir n : Nat) (bs : List Bool) (v : Value) (tl : List Int) (w : World) : Prop where
  keep : Below w1.heap.size w1 w
  h1 : w1.heap.size ≤ ib
  h2 : w1.heap.size ≤ ir
  ne : ib ≠ ir
  box : w.heap[ib]? = some (.cells #[.slice (some ⟨ir, 0, none⟩) n n] 91 (0, 0))
  row : w.heap[ir]? = some (.cells ⟨bs.map (.bool)⟩ 4 (0, 0))
  own : w.ownsRow w1.heap.size 3 1 v tl.length (tl.map (.int .i64))
section
variable {w1 : World} {ib ir n : Nat} {bs : List Bool} {v : Value} {tl : List Int} {w w6 : World}
theorem Pd.below (h : Pd w1 ib ir n bs v tl w) (b : Below w.heap.size w w6) : Pd w1 ib ir n bs v tl w6 :=
  ⟨h.keep.trans (b.mono h.keep.size), h.h1, h.h2, h.ne, (b.block _ (Array.getElem?_eq_some_iff.1 h.box).1).trans h.box, (b.block _ (Array.getElem?_eq_some_iff.1 h.row).1).trans h.row, own_below h.own b⟩
theorem Pd.put (h : Pd w1 ib ir n bs v tl w) (j : Nat) (b : Bool) : Pd w1 ib ir n (bs.set j b) v tl (w.setCell ⟨ir, j, none⟩ (.bool b)) := by
  refine ⟨Below.set_at h.keep h.h2 _ _, h.h1, h.h2, h.ne, ?_, ?_, own_far h.own h.row (by decide) _ _⟩
  · rw [heap_setCell_other w _ _ _ (by show ib ≠ ir; exact h.ne)]; exact h.box
  · rw [heap_setCell_same w ir j _ _ _ h.row]
    congr 2
    apply Array.toList_inj.1
    rw [Array.toList_setIfInBounds, List.map_set]
theorem Pd.more (h : Pd w1 ib ir n bs v tl w) {v' : Value} {a : Int} (hown : w6.ownsRow w1.heap.size 3 1 v' (tl.length + 1) (tl.map (.int .i64) ++ [.int .i64 a])) (hg : w.grownBy w6 v.ownBlock) : Pd w1 ib ir n bs v' (tl ++ [a]) w6 :=
  ⟨h.keep.trans (grow_below h.own hg (Nat.le_refl _) h.keep.size), h.h1, h.h2, h.ne, grow_far h.own hg h.box (by decide), grow_far h.own hg h.row (by decide), by rw [List.length_append, List.map_append]; exact hown⟩
end
set_option maxHeartbeats 1000000 in
set_option maxRecDepth 100000 in
theorem do1_c (bs : List Bool) (v : Int) (ib ir n : Nat) (w : World) (hb : w.heap[ib]? = some (.cells #[.slice (some ⟨ir, 0, none⟩) n n] 91 (0, 0))) (hr : w.heap[ir]? = some (.cells ⟨bs.map (.bool)⟩ 4 (0, 0))) (hbs : bs.length = n) (hn : n ≤ 300) (h0 : 0 ≤ v) (h1 : v < n) :
    Calls Tryd.prog 50 #[.int .i64 v, .pointer (some ⟨ib, 0, none⟩)] w (Gives (.bool (!(bs.getD v.toNat false))) w) := by
  obtain ⟨k, rfl⟩ := Int.eq_ofNat_of_zero_le h0
  have hk : k < bs.length := by omega
  obtain ⟨b, hb0⟩ : ∃ b, bs[k]? = some b := ⟨_, List.getElem?_eq_getElem hk⟩
  have c0 := cell_of_row w ib 0 _ _ _ hb
  have c1 : w.cell? ⟨ir, k, none⟩ = some (.bool b) := HeadAt.of_row hr k _ (by rw [List.getElem?_map, hb0]; rfl)
  have HB : Hid (bs.getD ((k : Int)).toNat false = b) := by rw [Int.toNat_natCast, List.getD_eq_getElem?_getD, hb0]; rfl
  have hkn : (k : Int) < n := h1
  clear hb hr hb0 h0 h1
  go_enter Tryd.func50, Tryd.ntmps50
  go_wp2_with fail
  go_ret
  exact ⟨by rw [HB.out]; rfl, Below.refl _ _⟩
theorem enters_do1 : ∀ args W, (callFunc 50 args).run Tryd.prog W = .ok (.enter 50 args) W := enters_of Tryd.func50 (by kernel_rfl) rfl
theorem smallT_twice {t : TTrace} (h : SmallT t) (hn : t.ins.length ≤ 150) (hm : t.exits.length ≤ 100) : SmallT (twiceM t) := by
  have mv : ∀ x, Small x → Small (movedM x t.ins.length) := fun x ⟨a, b, c⟩ => ⟨by unfold movedM; simpa using a, by unfold movedM; simpa using b, fun m hm => by
    unfold movedM at hm
    obtain ⟨y, hy, rfl⟩ := List.mem_map.1 hm
    simpa using c y hy⟩
  refine ⟨by unfold twiceM; simp; omega, by unfold twiceM; simp; omega, fun x hx => ?_, h.back, mv _ h.back⟩
  rcases List.mem_append.1 hx with hx | hx
  · exact h.exits x hx
  · obtain ⟨y, hy, rfl⟩ := List.mem_map.1 hx
    exact mv y (h.exits y hy)
set_option maxHeartbeats 8000000 in
set_option maxRecDepth 100000 in
theorem peelDo_c (pcs ca : List Value) (p : CProg) (t : TTrace) (w : World) (hp : ProgR w w.heap.size pcs p) (ht : TraceR w w.heap.size ca t) (tab : Tab w) :
    Calls Tryd.prog 25 #[.agg ⟨pcs⟩, .agg ⟨ca⟩] w (PeelPost p t w) := by
  have HT := Lib.hid ht
  have HIp := Lib.hid hp.size3
  have HIt := Lib.hid ht.size13
  obtain ⟨Ai, ni, p3, qi⟩ := ht.at3
  obtain ⟨Ae, ne, p4, qe⟩ := ht.at4
  obtain ⟨p0, p1, p2, wf0, wf1, wf2⟩ := ht.at012
  have P2 := Lib.hid p2
  have P3 := Lib.hid p3
  have P4 := Lib.hid p4
  have QI := Lib.hid qi
  have hni : t.ins.length ≤ ni ∧ ni ≤ 9223372036854775807 := by obtain ⟨_, _, e, h1, h2, -⟩ := id qi; injection e with _ e1 e2; unfold maxLen at h2; omega
  have hne : t.exits.length ≤ ne ∧ ne ≤ 9223372036854775807 := by obtain ⟨_, _, e, h1, h2, -⟩ := id qe; injection e with _ e1 e2; unfold maxLen at h2; omega
  obtain ⟨hni1, hni2⟩ := hni
  obtain ⟨hne1, hne2⟩ := hne
  obtain ⟨w0, hw0⟩ : ∃ w0, w0 = ((w.alloc (.cells ⟨pcs⟩ 26)).alloc (.cells ⟨ca⟩ 34)).alloc (.cells #[.int .i64 0, .int .i64 0, .int .i64 0, .slice none 0 0, .slice none 0 0, .int .i64 0, .int .i64 0, .slice none 0 0, .slice none 0 0, .int .i64 0, .int .i64 0, .slice none 0 0, .slice none 0 0] 34) := ⟨_, rfl⟩
  have K0 : Hid (Below w.heap.size w w0) := by rw [hw0]; exact (below_two' w _ _).alloc (by simp; omega) _
  have D0 : Hid (w0.heap[w.heap.size]? = some (.cells ⟨pcs⟩ 26 (0, 0))) := by rw [hw0]; exact heap_old (heap_old (heap_last w _) _) _
  have D1 : Hid (w0.heap[w.heap.size + 1]? = some (.cells ⟨ca⟩ 34 (0, 0))) := by rw [hw0]; exact heap_old (heap_two _ _ _) _
  have D2 : Hid (w0.heap[w.heap.size + 1 + 1]? = some (.cells #[.int .i64 0, .int .i64 0, .int .i64 0, .slice none 0 0, .slice none 0 0, .int .i64 0, .int .i64 0, .slice none 0 0, .slice none 0 0, .int .i64 0, .int .i64 0, .slice none 0 0, .slice none 0 0] 34 (0, 0))) := by rw [hw0]; exact heap_three _ _ _ _
  have hz0 : w.heap.size + 1 + 1 < w0.heap.size := (Array.getElem?_eq_some_iff.1 D2.out).1
  have R1 : Hid (w0.rangeAt w.heap.size 0 pcs) := (HeadAt.of_row D0.out).range
  have R2 : Hid (w0.rangeAt (w.heap.size + 1) 0 ca) := (HeadAt.of_row D1.out).range
  have HW := Lib.hid hw0
  obtain ⟨ce, hce⟩ : ∃ ce, ceP p t = ce := ⟨_, rfl⟩
  have CE := Lib.hid (check_c pcs ca p t w0 (hp.below K0.out) (ht.below K0.out) (tab.below K0.out))
  unfold PeelPost
  rw [show ceP p t = ce from hce]
  unfold ceP at hce
  rw [hce] at CE
  have HCE := Lib.hid hce
  clear hp ht hw0 qi qe hce p0 p1 p2 p3 p4 tab wf0 wf1 wf2
  go_enter Tryd.func25, Tryd.ntmps25
  go_wp2_with (first | (refine wpList_load_mid rfl 26 _ rfl w.heap.size 0 rfl pcs _ (by rw [← HW.out]; exact R1.out) Tryd.underlying26 rfl HIp.out ?_) | (refine wpList_load_mid rfl 34 _ rfl (w.heap.size + 1) 0 rfl ca _ (by rw [← HW.out]; exact R2.out) Tryd.underlying34 rfl HIt.out ?_) | fail)
  rw [← HW.out]
  refine CE.out.mono ?_
  rintro e w1 ⟨rfl, k1⟩
  have K1 := Lib.hid (K0.out.trans (k1.mono K0.out.size))
  have E1 := Lib.hid ((k1.block _ (by omega)).trans D1.out)
  have E2 := Lib.hid ((k1.block _ (by omega)).trans D2.out)
  have hz1 : w.heap.size + 1 + 1 < w1.heap.size := (Array.getElem?_eq_some_iff.1 E2.out).1
  clear k1 R1 R2 CE
  by_cases hc : ce = 0
  case neg =>
    have hc' : (ce != 0) = true := by simpa using hc
    go_wp2_with (refine wpList_store_row rfl 34 _ _ rfl (w.heap.size + 1 + 1) #[.int .i64 0, .int .i64 0, .int .i64 0, .slice none 0 0, .slice none 0 0, .int .i64 0, .int .i64 0, .slice none 0 0, .slice none 0 0, .int .i64 0, .int .i64 0, .slice none 0 0, .slice none 0 0] rfl rfl 34 _ E2.out infoTr13 rfl (all_oneCell_toArray (by simp [Value.oneCell'])) ?_)
    generalize hw9 : World.setRow _ _ _ = w9
    have QR : Hid (w9.heap[w.heap.size + 1 + 1]? = some (.cells #[.int .i64 0, .int .i64 0, .int .i64 0, .slice none 0 0, .slice none 0 0, .int .i64 0, .int .i64 0, .slice none 0 0, .slice none 0 0, .int .i64 0, .int .i64 0, .slice none 0 0, .slice none 0 0] 34 (0, 0))) := by rw [← hw9]; exact setRow_heap _ _ _ _ _ _ E2.out
    have K9 : Hid (Below w.heap.size w w9) := by rw [← hw9]; exact Below.set_row K1.out (by omega) _
    clear hw9
    go_wp2_with fail
    have r0 := cell_of_row w9 (w.heap.size + 1 + 1) 0 _ _ _ QR.out
    have r1 := cell_of_row w9 (w.heap.size + 1 + 1) 1 _ _ _ QR.out
    have r2 := cell_of_row w9 (w.heap.size + 1 + 1) 2 _ _ _ QR.out
    have r3 := cell_of_row w9 (w.heap.size + 1 + 1) 3 _ _ _ QR.out
    have r4 := cell_of_row w9 (w.heap.size + 1 + 1) 4 _ _ _ QR.out
    have r5 := cell_of_row w9 (w.heap.size + 1 + 1) 5 _ _ _ QR.out
    have r6 := cell_of_row w9 (w.heap.size + 1 + 1) 6 _ _ _ QR.out
    have r7 := cell_of_row w9 (w.heap.size + 1 + 1) 7 _ _ _ QR.out
    have r8 := cell_of_row w9 (w.heap.size + 1 + 1) 8 _ _ _ QR.out
    have r9 := cell_of_row w9 (w.heap.size + 1 + 1) 9 _ _ _ QR.out
    have r10 := cell_of_row w9 (w.heap.size + 1 + 1) 10 _ _ _ QR.out
    have r11 := cell_of_row w9 (w.heap.size + 1 + 1) 11 _ _ _ QR.out
    have r12 := cell_of_row w9 (w.heap.size + 1 + 1) 12 _ _ _ QR.out
    refine bodyPost_ret (v := .tuple #[.agg ⟨zeroTrace⟩, .int .i64 ce]) (by simp [results, Tryd.results25, go_sem, zeroTrace, r0, r1, r2, r3, r4, r5, r6, r7, r8, r9, r10, r11, r12]) rfl ⟨_, trace0, ce, rfl, zeroTrace_R _ _, K9.out, .inl ⟨hc, rfl⟩⟩
  subst hc
  have SM := Lib.hid (check_small HCE.out)
  have CUTS := Lib.hid (checkM_cuts HCE.out)
  have HEX : Hid (∀ (k : Nat) x, t.ins[k]? = some x → x.exit < 1000) := fun k x hx => by
    have h1 := (checkM_exitP HCE.out hx).2
    have h2 := SM.out.exitsLen
    omega
  have hlen := SM.out.ins
  have hxl := SM.out.exitsLen
  have hmi : (t.ins.length : Int) ≤ 300 := by omega
  have hme : (t.exits.length : Int) ≤ 200 := by omega
  have l3 : w1.cell? ⟨w.heap.size + 1, 3, none⟩ = some (.slice Ai t.ins.length ni) := HeadAt.of_row E1.out 3 _ P3.out
  have hz1a : w.heap.size + 1 < w1.heap.size := by omega
  have hmr := mk_room t.ins.length (by omega) w1
  obtain ⟨w2, hw2⟩ : ∃ w2, w2 = w1.alloc (.cells (Array.replicate (2 * t.ins.length) (.int .i64 0)) 3) := ⟨_, rfl⟩
  have L2 : Hid (Below w1.heap.size w1 w2) := by rw [hw2]; exact below_one _ _
  have O2 : Hid (w2.ownsRow w1.heap.size 3 1 (.slice (some ⟨w1.heap.size, 0, none⟩) 0 (2 * t.ins.length)) 0 []) := by rw [hw2]; exact own_room _ _ (by omega)
  have HW2 := Lib.hid hw2
  clear hw2
  go_upto_region 6 with fail
  rw [← HW2.out]
  clear l3 hmr
  obtain ⟨q0, hq0, hq1, hq2, hq3⟩ := info_parts infoInt
  go_wp2_with fail
  go_loopw [8, 27] (fun v i wr => ∃ j : Nat, i = .int .i64 j ∧ j ≤ t.ins.length ∧ Hid (wr.ownsRow w1.heap.size 3 1 v j ((upto j).map (.int .i64))) ∧ Hid (Below w1.heap.size w1 wr)) (fun _ i _ => t.ins.length - (RowKit.intOf i).toNat)
  case atStart => exact ⟨0, rfl, by omega, O2, L2⟩
  case round =>
    obtain ⟨j, rfl, hj, OA, KW⟩ := hrel
    obtain ⟨A7, c7, rfl⟩ := own_len OA.out
    by_cases hlt : j < t.ins.length
    · have hji : (j : Int) < t.ins.length := by omega
      obtain ⟨L, hL⟩ : ∃ L, (upto j).map (Value.int .i64) = L := ⟨_, rfl⟩
      rw [hL] at OA
      have HL := Lib.hid hL
      clear hL
      go_wp2_with (at_builtin; refine wpList_append_own _ rfl _ _ 38 rfl w1.heap.size 3 q0 (.int .i64 0) 1 8 Tryd.underlying38 hq0 hq1 hq2 hq3 rfl (by decide) (.slice A7 j c7) j L rfl (OA.out.alloc _) ⟨wr.heap.size, 0, none⟩ 1 1 [.int .i64 j] rfl rfl ?a1 ?a2 ?a3 ?a4 ?a5 ?_)
      case a1 => exact World.news_of_block (cs := #[.int .i64 j]) (heap_last wr _)
      case a2 => intro u hu; simp at hu; subst hu; rfl
      case a3 => unfold maxLen; omega
      case a4 => omega
      case a5 => have := KW.out.size; simp; omega
      intro v' w6 hown hg _
      have O7 := Lib.hid hown
      have KB := Lib.hid (grow_below (B' := w1.heap.size) (OA.out.alloc (.cells #[.int .i64 j] 3)) hg (Nat.le_refl _) (by have := KW.out.size; simp; omega))
      clear hown hg
      go_wp2_with fail
      go_roundw
      case rel => exact ⟨j + 1, by go_num, by omega, by rw [upto_succ, List.map_append, HL.out]; exact O7.out, (KW.out.alloc KW.out.size _).trans KB.out⟩
      case measure => simp [RowKit.intOf]; omega
    · have hji : ¬ (j : Int) < t.ins.length := by omega
      obtain rfl : j = t.ins.length := by omega
      have BW := Lib.hid (K1.out.trans (KW.out.mono K1.out.size))
      have F1 := Lib.hid (below_row KW.out E1.out)
      have WZ := Lib.hid (below_row KW.out E2.out)
      have l2 : wr.cell? ⟨w.heap.size + 1, 2, none⟩ = some (.int .i64 t.loop) := HeadAt.of_row F1.out 2 _ P2.out
      have l4 : wr.cell? ⟨w.heap.size + 1, 4, none⟩ = some (.slice Ae t.exits.length ne) := HeadAt.of_row F1.out 4 _ P4.out
      obtain ⟨b, hb⟩ : ∃ b, (decide (0 < t.loop) || (t.ins.length == 0) || decide (150 < t.ins.length) || decide (100 < t.exits.length)) = b := ⟨_, rfl⟩
      have HB := Lib.hid hb
      clear hb
      go_upto_region 11 with fail
      go_cut [51] (fun c wx => c = .bool b ∧ wx = wr)
      case first =>
        by_cases d1 : 0 < t.loop
        · have E : Hid (true = b) := by rw [← HB.out, decide_eq_true d1]; rfl
          go_wp2_with fail
          go_meet
          case rel => exact ⟨by rw [← E.out]; first | done | rfl, rfl⟩
        by_cases d2 : t.ins.length = 0
        · have E : Hid (true = b) := by show true = b; rw [← HB.out]; simp [d2]
          have d2' : ((t.ins.length : Int) == 0) = true := beq_iff_eq.2 (by omega)
          clear d2
          go_wp2_with fail
          go_meet
          case rel => exact ⟨by rw [← E.out]; first | done | rfl, rfl⟩
        have d2' : ((t.ins.length : Int) == 0) = false := beq_eq_false_iff_ne.2 (by omega)
        have d2n : (t.ins.length == 0) = false := beq_eq_false_iff_ne.2 d2
        by_cases d3 : 150 < t.ins.length
        · have E : Hid (true = b) := by show true = b; rw [← HB.out]; simp [d3]
          have d3' : (150 : Int) < t.ins.length := by omega
          go_wp2_with fail
          go_meet
          case rel => exact ⟨by rw [← E.out]; first | done | rfl, rfl⟩
        have d3' : ¬ (150 : Int) < t.ins.length := by omega
        by_cases d4 : 100 < t.exits.length
        · have E : Hid (true = b) := by show true = b; rw [← HB.out]; simp [d4]
          have d4' : (100 : Int) < t.exits.length := by omega
          go_wp2_with fail
          go_meet
          case rel => exact ⟨by rw [← E.out]; first | done | rfl, rfl⟩
        · have E : Hid (false = b) := by rw [← HB.out, decide_eq_false d1, d2n, decide_eq_false d3, decide_eq_false d4]; rfl
          have d4' : ¬ (100 : Int) < t.exits.length := by omega
          go_wp2_with fail
          go_meet
          case rel => exact ⟨by rw [← E.out]; first | done | rfl, rfl⟩
      case rest =>
        obtain ⟨rfl, hwc⟩ := hcut
        subst hwc
        clear l2 l4
        cases b
        case true =>
          have ST : SliceR wc wc.heap.size 1 IntR (.slice A7 t.ins.length c7) (upto t.ins.length) :=
            sliceR_of_own (w := wc) (base := w1.heap.size) (e := 3) (v := .slice A7 t.ins.length c7) (xs := upto t.ins.length) (by have h1 := OA.out; rw [upto_len]; exact h1) (upto_wfP hlen)
          have RTr : Hid (wc.rangeAt (w.heap.size + 1) 0 ca) := (HeadAt.of_row F1.out).range
          have HST := Lib.hid ST
          clear ST
          go_wp2_with (first | (refine wpList_load_mid rfl 34 _ rfl (w.heap.size + 1) 0 rfl ca _ RTr.out Tryd.underlying34 rfl HIt.out ?_) | fail)
          obtain ⟨zr, hzr⟩ : ∃ zr, cutM t (upto t.ins.length) = zr := ⟨_, rfl⟩
          obtain ⟨z, r⟩ := zr
          have CC := Lib.hid (cut_c ca t _ (upto t.ins.length) wc (HT.out.below BW.out) HST.out SM.out)
          unfold CutPost at CC
          rw [hzr] at CC
          have HZR := Lib.hid hzr
          clear hzr
          refine CC.out.mono ?_
          rintro e W2 ⟨cs, rfl, tr, k2, hset⟩
          have TR2 := Lib.hid (hset (w.heap.size + 1 + 1))
          obtain ⟨B1, m1, B2, m2, B3, m3, B4, m4, B5, m5, B6, m6, rfl, -⟩ := TraceR.cells tr
          have Z2 := Lib.hid (below_row k2 WZ.out)
          have K2 : Hid (Below w.heap.size w W2) := BW.out.trans (k2.mono BW.out.size)
          have hzz : w.heap.size + 1 + 1 < wc.heap.size := (Array.getElem?_eq_some_iff.1 WZ.out).1
          clear tr k2 hset CC
          go_wp2_with (refine wpList_store_row rfl 34 _ _ rfl (w.heap.size + 1 + 1) #[.int .i64 z.fn, .int .i64 z.at_, .int .i64 z.loop, .slice B1 z.ins.length m1, .slice B2 z.exits.length m2, .int .i64 z.turn.at_, .int .i64 z.turn.steps, .slice B3 z.turn.sets.length m3, .slice B4 z.turn.makes.length m4, .int .i64 z.back.at_, .int .i64 z.back.steps, .slice B5 z.back.sets.length m5, .slice B6 z.back.makes.length m6] rfl rfl 34 _ Z2.out infoTr13 rfl (all_oneCell_toArray (by simp [Value.oneCell'])) ?_)
          generalize hw13 : World.setRow _ _ _ = W6
          have QR : Hid (W6.heap[w.heap.size + 1 + 1]? = some (.cells #[.int .i64 z.fn, .int .i64 z.at_, .int .i64 z.loop, .slice B1 z.ins.length m1, .slice B2 z.exits.length m2, .int .i64 z.turn.at_, .int .i64 z.turn.steps, .slice B3 z.turn.sets.length m3, .slice B4 z.turn.makes.length m4, .int .i64 z.back.at_, .int .i64 z.back.steps, .slice B5 z.back.sets.length m5, .slice B6 z.back.makes.length m6] 34 (0, 0))) := by rw [← hw13]; exact setRow_heap _ _ _ _ _ _ Z2.out
          have K6 : Hid (Below w.heap.size w W6) := by rw [← hw13]; exact Below.set_row K2.out (by omega) _
          have T6 : Hid (TraceR W6 W6.heap.size [.int .i64 z.fn, .int .i64 z.at_, .int .i64 z.loop, .slice B1 z.ins.length m1, .slice B2 z.exits.length m2, .int .i64 z.turn.at_, .int .i64 z.turn.steps, .slice B3 z.turn.sets.length m3, .slice B4 z.turn.makes.length m4, .int .i64 z.back.at_, .int .i64 z.back.steps, .slice B5 z.back.sets.length m5, .slice B6 z.back.makes.length m6] z) := by rw [← hw13]; exact TR2.out _ hzz
          clear hw13
          go_wp2_with fail
          have r0 := cell_of_row W6 (w.heap.size + 1 + 1) 0 _ _ _ QR.out
          have r1 := cell_of_row W6 (w.heap.size + 1 + 1) 1 _ _ _ QR.out
          have r2 := cell_of_row W6 (w.heap.size + 1 + 1) 2 _ _ _ QR.out
          have r3 := cell_of_row W6 (w.heap.size + 1 + 1) 3 _ _ _ QR.out
          have r4 := cell_of_row W6 (w.heap.size + 1 + 1) 4 _ _ _ QR.out
          have r5 := cell_of_row W6 (w.heap.size + 1 + 1) 5 _ _ _ QR.out
          have r6 := cell_of_row W6 (w.heap.size + 1 + 1) 6 _ _ _ QR.out
          have r7 := cell_of_row W6 (w.heap.size + 1 + 1) 7 _ _ _ QR.out
          have r8 := cell_of_row W6 (w.heap.size + 1 + 1) 8 _ _ _ QR.out
          have r9 := cell_of_row W6 (w.heap.size + 1 + 1) 9 _ _ _ QR.out
          have r10 := cell_of_row W6 (w.heap.size + 1 + 1) 10 _ _ _ QR.out
          have r11 := cell_of_row W6 (w.heap.size + 1 + 1) 11 _ _ _ QR.out
          have r12 := cell_of_row W6 (w.heap.size + 1 + 1) 12 _ _ _ QR.out
          refine bodyPost_ret (v := .tuple #[.agg #[.int .i64 z.fn, .int .i64 z.at_, .int .i64 z.loop, .slice B1 z.ins.length m1, .slice B2 z.exits.length m2, .int .i64 z.turn.at_, .int .i64 z.turn.steps, .slice B3 z.turn.sets.length m3, .slice B4 z.turn.makes.length m4, .int .i64 z.back.at_, .int .i64 z.back.steps, .slice B5 z.back.sets.length m5, .slice B6 z.back.makes.length m6], .int .i64 r]) (by simp [results, Tryd.results25, go_sem, r0, r1, r2, r3, r4, r5, r6, r7, r8, r9, r10, r11, r12]) rfl ⟨_, z, r, rfl, T6.out, K6.out, .inr (.inl ⟨rfl, by have h := HZR.out; rw [cutM_upto CUTS.out] at h; injection h with h1 h2; exact ⟨h1.symm, h2.symm⟩⟩)⟩
        case false =>
          have hb := HB.out
          simp only [Bool.or_eq_false_iff, decide_eq_false_iff_not, beq_eq_false_iff_ne] at hb
          obtain ⟨⟨⟨d1, d2⟩, d3⟩, d4⟩ := hb
          have hn150 : t.ins.length ≤ 150 := by omega
          have hm100 : t.exits.length ≤ 100 := by omega
          have hnpos : 0 < t.ins.length := by omega
          have hloop : Hid (t.loop ≤ 0) := by show _ ≤ _; omega
          clear d1 d2 d3 d4 HB
          have l3 : wc.cell? ⟨w.heap.size + 1, 3, none⟩ = some (.slice Ai t.ins.length ni) := HeadAt.of_row F1.out 3 _ P3.out
          have hmb := mk_boolsP t.ins.length (by omega) wc
          obtain ⟨w3, hw3⟩ : ∃ w3, w3 = (wc.alloc (.cells (Array.replicate t.ins.length (.bool false)) 4)).alloc (.cells #[.slice (some ⟨wc.heap.size, 0, none⟩) t.ins.length t.ins.length] 91) := ⟨_, rfl⟩
          have hzc : w1.heap.size ≤ wc.heap.size := KW.out.size
          have PD : Hid (Pd w1 (wc.heap.size + 1) wc.heap.size t.ins.length (List.replicate t.ins.length false) (.slice A7 t.ins.length c7) (upto t.ins.length) w3) := by
            rw [hw3]
            refine ⟨(KW.out.alloc hzc _).alloc (by simp; omega) _, by omega, hzc, by omega, heap_two _ _ _, ?_, ?_⟩
            · rw [List.map_replicate]; exact heap_old (heap_last wc _) _
            rw [upto_len]
            exact (OA.out.alloc _).alloc _
          obtain ⟨ib, hib⟩ : ∃ ib, ib = wc.heap.size + 1 := ⟨_, rfl⟩
          obtain ⟨ir, hir⟩ : ∃ ir, ir = wc.heap.size := ⟨_, rfl⟩
          rw [← hib, ← hir] at PD
          have hzw : w1.heap.size + 1 < w3.heap.size := by rw [hw3]; simp; omega
          have L3 : Hid (w3.cell? ⟨w.heap.size + 1, 3, none⟩ = some (.slice Ai t.ins.length ni)) := by
            have := below_row PD.out.keep E1.out
            exact HeadAt.of_row this 3 _ P3.out
          rw [← hir] at hw3
          have HW3 := Lib.hid hw3
          have HIB := Lib.hid hib
          have HIR := Lib.hid hir
          clear hw3 hib hir
          go_upto_region 14 with fail
          rw [← HIB.out, ← HIR.out, ← HW3.out]
          clear hmb l3
          have l3 := L3.out
          go_wp2_with fail
          clear l3 OA KW
          go_loopw [8, 62] (fun v i wr => ∃ (j : Nat) (tl : List Int) (bs : List Bool), i = .int .i64 j ∧ j ≤ t.ins.length ∧ tl.length = j ∧ bs.length = t.ins.length ∧ Hid (∀ a ∈ tl, wfi a) ∧ Hid (Pd w1 ib ir t.ins.length bs v (upto t.ins.length ++ tl) wr)) (fun _ i _ => t.ins.length - (RowKit.intOf i).toNat)
          case atStart => exact ⟨0, [], _, rfl, by omega, rfl, List.length_replicate .., (fun a h => by cases h), Lib.hid (by rw [List.append_nil]; exact PD.out)⟩
          case round =>
            obtain ⟨j, tl, bs, rfl, hj, htl, hbs, HTL, T⟩ := hrel
            obtain ⟨A8, c8, hv8⟩ := own_len T.out.own
            obtain ⟨nx, hnx⟩ : ∃ nx, nx = (upto t.ins.length ++ tl).length := ⟨_, rfl⟩
            rw [← hnx] at hv8
            subst hv8
            have hnx2 : nx ≤ 400 := by rw [hnx, List.length_append, upto_len]; omega
            have HNX := Lib.hid hnx
            clear hnx
            have B2 := Lib.hid (K1.out.trans (T.out.keep.mono K1.out.size))
            have F2 := Lib.hid (below_row T.out.keep E1.out)
            have G2 := Lib.hid (below_row T.out.keep E2.out)
            clear BW F1 WZ PD L3 HW3 HIB HIR
            by_cases hlt : j < t.ins.length
            · have hji : (j : Int) < t.ins.length := by omega
              obtain ⟨b, off, x, rfl, hb, hx, wx, hat⟩ := ins_op QI.out hlt
              obtain ⟨g0, g1, g2, g3, g4, g5, g6, g7⟩ := ins_at hat hb B2.out
              have HWX := Lib.hid wx
              have hask := CUTS.out.ins j x hx
              obtain ⟨op, xa, xb, xc, xn, xe, ⟨kk, kn⟩⟩ := x
              dsimp only at g0 g1 g2 g3 g4 g5 g6 g7
              have HASK := Lib.hid hask
              obtain ⟨wa, hwa⟩ : ∃ wa, wa = wr.alloc (.cells #[.int .i64 op, .int .i64 xa, .int .i64 xb, .int .i64 xc, .int .i64 xn, .int .i64 xe, .int .i64 kk, .int .i64 kn] 43) := ⟨_, rfl⟩
              have KA : Hid (Below wr.heap.size wr wa) := by rw [hwa]; exact below_one _ _
              have B0 : Hid (wa.heap[wr.heap.size]? = some (.cells #[.int .i64 op, .int .i64 xa, .int .i64 xb, .int .i64 xc, .int .i64 xn, .int .i64 xe, .int .i64 kk, .int .i64 kn] 43 (0, 0))) := by rw [hwa]; exact heap_last _ _
              have TA := Lib.hid (T.out.below KA.out)
              have BA := Lib.hid (B2.out.trans (KA.out.mono B2.out.size))
              have FA := Lib.hid (below_row KA.out F2.out)
              have hxr : w1.heap.size ≤ wr.heap.size := T.out.keep.size
              have hirz : ir < wr.heap.size := (Array.getElem?_eq_some_iff.1 T.out.row).1
              have HWA := Lib.hid hwa
              obtain ⟨xr, hxr2⟩ : ∃ xr, xr = wr.heap.size := ⟨_, rfl⟩
              have HXR := Lib.hid hxr2
              have hlb : off + j * 8 = off + j * 8 := rfl
              clear hat hx wx hask hwa hlb
              go_upto_region 17 with fail
              rw [← HWA.out, ← HXR.out]
              rw [← HXR.out] at B0 hxr hirz
              clear g0 g1 g2 g3 g4 g5 g6 g7 hxr2
              go_cut [] (fun wx => ∃ c : Bool, Hid (Pd w1 ib ir t.ins.length (bs.set j c) (.slice A8 nx c8) (upto t.ins.length ++ tl) wx) ∧ Hid (wx.heap[xr]? = some (.cells #[.int .i64 op, .int .i64 xa, .int .i64 xb, .int .i64 xc, .int .i64 xn, .int .i64 xe, .int .i64 kk, .int .i64 kn] 43 (0, 0))))
              case first =>
                have e10 : ∀ E : Up wa, E.to.cell? ⟨ib, 0, none⟩ = some (.slice (some ⟨ir, 0, none⟩) t.ins.length t.ins.length) := fun E => E.cell (cell_of_row wa ib 0 _ _ _ TA.out.box)
                have RT : Hid (∀ E : Up wa, E.to.rangeAt (w.heap.size + 1) 0 ca) := fun E a v hv => E.cell ((HeadAt.of_row FA.out).range a v hv)
                have RX : Hid (∀ E : Up wa, E.to.rangeAt xr 0 [.int .i64 op, .int .i64 xa, .int .i64 xb, .int .i64 xc, .int .i64 xn, .int .i64 xe, .int .i64 kk, .int .i64 kn]) := fun E a v hv => by rw [Nat.zero_add]; exact E.cell (HeadAt.of_row B0.out a v hv)
                have LX : Hid ((Tryd.prog.info? 43).map (·.size) = some ([.int .i64 op, .int .i64 xa, .int .i64 xb, .int .i64 xc, .int .i64 xn, .int .i64 xe, .int .i64 kk, .int .i64 kn] : List Value).length) := infoIns8
                have FI : Hid (Calls Tryd.prog 48 #[.agg ⟨ca⟩, .agg #[.int .i64 op, .int .i64 xa, .int .i64 xb, .int .i64 xc, .int .i64 xn, .int .i64 xe, .int .i64 kk, .int .i64 kn]] wa.drew (FirmPost wa.drew)) := firm_c ca t ⟨op, xa, xb, xc, xn, xe, ⟨kk, kn⟩⟩ wa.drew (HT.out.below BA.out.drew)
                have AS : Hid (∀ W, Calls Tryd.prog 15 #[.agg #[.int .i64 op, .int .i64 xa, .int .i64 xb, .int .i64 xc, .int .i64 xn, .int .i64 xe, .int .i64 kk, .int .i64 kn]] W (GivesInts (asksM ⟨op, xa, xb, xc, xn, xe, ⟨kk, kn⟩⟩) W)) := fun W => asks_c ⟨op, xa, xb, xc, xn, xe, ⟨kk, kn⟩⟩ HWX.out W
                have KW : Hid (Below wa.heap.size wa wa.drew) := (Below.refl _ _).drew
                refine wp_region_readers (fun w' => ∃ E : Up wa, w' = E.to) [0, 1, 2, 3] [4, 5, 6, 7, 8, 9, 10, 11] 10 #[true, true, true, true, false, false, false, false, false, false, false, false, false, false] _ (by kernel_rfl) (by kernel_rfl) (by simp only [List.filterMap_cons, List.filterMap_nil, List.getElem?_toArray, List.getElem?_cons_zero, List.getElem?_cons_succ]; rfl) (fun _ _ d _ _ h => by cases d <;> exact h) ⟨⟨_, KW.out⟩, rfl⟩ ?_
                generalize hqq : (fun a' => wpAnyC _ _ _ _ _ _ _ _ a' _) = qq
                have HQQ := Lib.hid hqq
                clear hqq
                show wpQuiet _ _ _ _ [_, _, _, _] _
                repeat (first
                  | (refine wpQuiet_load_up 34 _ rfl rfl (w.heap.size + 1) 0 rfl ca _ RT.out Tryd.underlying34 rfl HIt.out ?_; go_simp)
                  | (refine wpQuiet_load_up 43 _ rfl rfl xr 0 rfl [.int .i64 op, .int .i64 xa, .int .i64 xb, .int .i64 xc, .int .i64 xn, .int .i64 xe, .int .i64 kk, .int .i64 kn] _ RX.out Tryd.underlying43 rfl LX.out ?_; go_simp)
                  | go_big_quiet_step (fail))
                refine wpQuiet_nil ?_
                rw [← HQQ.out]
                clear HQQ qq RT e10
                generalize hv0 : World.drew wa = v0
                rw [hv0] at KW FI
                clear hv0
                refine wpAnyC_one (i := 4) (by kernel_rfl) rfl (fun K hK => ?_)
                go_simp
                refine FI.out.mono ?_
                rintro e v1 ⟨b, rfl, k1⟩
                have KW1 := Lib.hid (KW.out.trans (k1.mono KW.out.size))
                refine hK _ _ (fun _ => ⟨⟨v1, KW1.out⟩, rfl⟩) ?_
                clear hK K k1 FI KW
                refine wpAnyC_one (i := 5) (by kernel_rfl) rfl (fun K hK => ?_)
                go_simp
                refine hK _ _ (fun _ => ⟨⟨v1, KW1.out⟩, rfl⟩) ?_
                clear hK K
                cases b
                case false =>
                  have KZ := KW1
                  refine wpAnyC_readers [6] 7 #[true, true, true, true, true, true, true, false, false, false, false, false, false, false] _ (by kernel_rfl) rfl (by simp only [List.filterMap_cons, List.filterMap_nil, List.getElem?_toArray, List.getElem?_cons_zero, List.getElem?_cons_succ]; rfl) (fun _ _ d _ _ h => by cases d <;> exact h) ⟨⟨v1, KW1.out⟩, rfl⟩ ?_
                  show wpQuiet _ _ _ _ [_] _
                  go_big_quiet_step (fail)
                  refine wpQuiet_nil ?_
                  refine wpAnyC_two (i := 7) (k := 8) (by kernel_rfl) rfl rfl (fun K hK => ?_) (fun K hK => ?_)
                  · skip
                    go_simp
                    refine hK _ _ (fun _ => ⟨⟨v1, KZ.out⟩, rfl⟩) ?_
                    clear hK K
                    refine wpAnyC_of_ms [8, 9, 10, 11, 12, 13] _ _ _ (by kernel_rfl) ?_
                    refine wpMs_step rfl (fun K hK => ?_)
                    go_simp
                    refine hK _ _ (fun _ => ⟨⟨v1, KZ.out⟩, rfl⟩) ?_
                    clear hK K
                    refine wpMs_step rfl (fun K hK => ?_)
                    go_simp
                    refine hK _ _ (fun _ => ⟨⟨v1, KZ.out⟩, rfl⟩) ?_
                    clear hK K
                    refine wpMs_step rfl (fun K hK => ?_)
                    go_simp
                    refine hK _ _ (fun _ => ⟨⟨v1, KZ.out⟩, rfl⟩) ?_
                    clear hK K
                    refine wpMs_step rfl (fun K hK => ?_)
                    go_simp
                    refine hK _ _ (fun _ => ⟨⟨v1, KZ.out⟩, rfl⟩) ?_
                    clear hK K
                    refine wpMs_list [12, 13] _ _ (by kernel_rfl) (by kernel_rfl) ?_
                    simp only [List.filterMap_cons, List.filterMap_nil, List.getElem?_toArray, List.getElem?_cons_zero, List.getElem?_cons_succ]
                    have TZ := Lib.hid (TA.out.below KZ.out)
                    have BZ := Lib.hid ((KZ.out.block _ (Array.getElem?_eq_some_iff.1 B0.out).1).trans B0.out)
                    obtain ⟨b0, hb0⟩ : ∃ b0, bs[j]? = some b0 := ⟨_, List.getElem?_eq_getElem (by omega)⟩
                    have z1 : v1.cell? ⟨ir, j, none⟩ = some (.bool b0) := HeadAt.of_row TZ.out.row j _ (by rw [List.getElem?_map, hb0]; rfl)
                    have z2 := frozen_of_row v1 ir j _ _ TZ.out.row
                    clear hb0
                    go_wp2_with fail
                    go_meet
                    case rel =>
                      refine ⟨false, TZ.out.put j _, ?_⟩
                      show _ = _
                      rw [heap_setCell_other v1 _ _ _ (by show _ ≠ ir; omega)]; exact BZ.out
                  · skip
                    go_simp
                    refine hK _ _ (fun _ => ⟨⟨v1, KZ.out⟩, rfl⟩) ?_
                    clear hK K
                    refine wpAnyC_of_ms [7, 9, 10, 11, 12, 13] _ _ _ (by kernel_rfl) ?_
                    refine wpMs_step rfl (fun K hK => ?_)
                    go_simp
                    refine hK _ _ (fun _ => ⟨⟨v1, KZ.out⟩, rfl⟩) ?_
                    clear hK K
                    refine wpMs_step rfl (fun K hK => ?_)
                    go_simp
                    refine hK _ _ (fun _ => ⟨⟨v1, KZ.out⟩, rfl⟩) ?_
                    clear hK K
                    refine wpMs_step rfl (fun K hK => ?_)
                    go_simp
                    refine hK _ _ (fun _ => ⟨⟨v1, KZ.out⟩, rfl⟩) ?_
                    clear hK K
                    refine wpMs_step rfl (fun K hK => ?_)
                    go_simp
                    refine hK _ _ (fun _ => ⟨⟨v1, KZ.out⟩, rfl⟩) ?_
                    clear hK K
                    refine wpMs_list [12, 13] _ _ (by kernel_rfl) (by kernel_rfl) ?_
                    simp only [List.filterMap_cons, List.filterMap_nil, List.getElem?_toArray, List.getElem?_cons_zero, List.getElem?_cons_succ]
                    have TZ := Lib.hid (TA.out.below KZ.out)
                    have BZ := Lib.hid ((KZ.out.block _ (Array.getElem?_eq_some_iff.1 B0.out).1).trans B0.out)
                    obtain ⟨b0, hb0⟩ : ∃ b0, bs[j]? = some b0 := ⟨_, List.getElem?_eq_getElem (by omega)⟩
                    have z1 : v1.cell? ⟨ir, j, none⟩ = some (.bool b0) := HeadAt.of_row TZ.out.row j _ (by rw [List.getElem?_map, hb0]; rfl)
                    have z2 := frozen_of_row v1 ir j _ _ TZ.out.row
                    clear hb0
                    go_wp2_with fail
                    go_meet
                    case rel =>
                      refine ⟨false, TZ.out.put j _, ?_⟩
                      show _ = _
                      rw [heap_setCell_other v1 _ _ _ (by show _ ≠ ir; omega)]; exact BZ.out
                case true =>
                  refine wpAnyC_readers [6] 7 #[true, true, true, true, true, true, true, false, false, false, false, false, false, false] _ (by kernel_rfl) rfl (by simp only [List.filterMap_cons, List.filterMap_nil, List.getElem?_toArray, List.getElem?_cons_zero, List.getElem?_cons_succ]; rfl) (fun _ _ d _ _ h => by cases d <;> exact h) ⟨⟨v1, KW1.out⟩, rfl⟩ ?_
                  show wpQuiet _ _ _ _ [_] _
                  refine wpQuiet_load_up 43 _ rfl rfl xr 0 rfl [.int .i64 op, .int .i64 xa, .int .i64 xb, .int .i64 xc, .int .i64 xn, .int .i64 xe, .int .i64 kk, .int .i64 kn] _ RX.out Tryd.underlying43 rfl LX.out ?_
                  go_simp
                  refine wpQuiet_nil ?_
                  refine wpAnyC_two (i := 7) (k := 8) (by kernel_rfl) rfl rfl (fun K hK => ?_) (fun K hK => ?_)
                  · skip
                    go_simp
                    refine (AS.out v1).mono ?_
                    rintro e v2 ⟨u, rfl, hu, k2⟩
                    have KZ := Lib.hid (KW1.out.trans (k2.mono KW1.out.size))
                    have T2 := Lib.hid (TA.out.below KZ.out)
                    obtain ⟨A5, c5, rfl, -⟩ := id hu
                    have CF := containsFunc_ints IntR (fun v => !(bs.getD v.toNat false)) A5 c5 (asksM ⟨op, xa, xb, xc, xn, xe, ⟨kk, kn⟩⟩) 50 enters_do1 #[.pointer (some ⟨ib, 0, none⟩)] v2 hu (fun w3 k3 y cs hy hR => by
                      obtain ⟨rfl, -⟩ := hR
                      have T3 := T2.out.below k3
                      have h1 := HASK.out y hy
                      exact do1_c bs y ib ir t.ins.length w3 T3.box T3.row hbs (by omega) h1.1 (by omega))
                    obtain ⟨bb, hbb⟩ : ∃ bb, (asksM ⟨op, xa, xb, xc, xn, xe, ⟨kk, kn⟩⟩).any (fun v => !(bs.getD v.toNat false)) = bb := ⟨_, rfl⟩
                    rw [hbb] at CF
                    have HCF := Lib.hid CF
                    refine hK _ _ (fun _ => ⟨⟨v2, KZ.out⟩, rfl⟩) ?_
                    clear hK K hbb CF k2 hu
                    refine wpAnyC_of_ms [8, 9, 10, 11, 12, 13] _ _ _ (by kernel_rfl) ?_
                    refine wpMs_step rfl (fun K hK => ?_)
                    go_simp
                    refine hK _ _ (fun _ => ⟨⟨v2, KZ.out⟩, rfl⟩) ?_
                    clear hK K
                    refine wpMs_step rfl (fun K hK => ?_)
                    go_simp
                    refine HCF.out.mono ?_
                    rintro e v3 ⟨rfl, k3⟩
                    have KZ' := Lib.hid (KZ.out.trans (k3.mono KZ.out.size))
                    refine hK _ _ (fun _ => ⟨⟨v3, KZ'.out⟩, rfl⟩) ?_
                    clear hK K KZ T2 k3
                    have KZ := KZ'
                    clear KZ'
                    refine wpMs_step rfl (fun K hK => ?_)
                    go_simp
                    refine hK _ _ (fun _ => ⟨⟨v3, KZ.out⟩, rfl⟩) ?_
                    clear hK K
                    refine wpMs_step rfl (fun K hK => ?_)
                    go_simp
                    refine hK _ _ (fun _ => ⟨⟨v3, KZ.out⟩, rfl⟩) ?_
                    clear hK K
                    refine wpMs_list [12, 13] _ _ (by kernel_rfl) (by kernel_rfl) ?_
                    simp only [List.filterMap_cons, List.filterMap_nil, List.getElem?_toArray, List.getElem?_cons_zero, List.getElem?_cons_succ]
                    have TZ := Lib.hid (TA.out.below KZ.out)
                    have BZ := Lib.hid ((KZ.out.block _ (Array.getElem?_eq_some_iff.1 B0.out).1).trans B0.out)
                    obtain ⟨b0, hb0⟩ : ∃ b0, bs[j]? = some b0 := ⟨_, List.getElem?_eq_getElem (by omega)⟩
                    have z1 : v3.cell? ⟨ir, j, none⟩ = some (.bool b0) := HeadAt.of_row TZ.out.row j _ (by rw [List.getElem?_map, hb0]; rfl)
                    have z2 := frozen_of_row v3 ir j _ _ TZ.out.row
                    clear hb0
                    go_wp2_with fail
                    go_meet
                    case rel =>
                      refine ⟨!bb, TZ.out.put j _, ?_⟩
                      show _ = _
                      rw [heap_setCell_other v3 _ _ _ (by show _ ≠ ir; omega)]; exact BZ.out
                  · go_simp
                    refine hK _ _ (fun _ => ⟨⟨v1, KW1.out⟩, rfl⟩) ?_
                    clear hK K
                    refine wpAnyC_of_ms [7, 9, 10, 11, 12, 13] _ _ _ (by kernel_rfl) ?_
                    refine wpMs_step rfl (fun K hK => ?_)
                    go_simp
                    refine (AS.out v1).mono ?_
                    rintro e v2 ⟨u, rfl, hu, k2⟩
                    have KZ := Lib.hid (KW1.out.trans (k2.mono KW1.out.size))
                    have T2 := Lib.hid (TA.out.below KZ.out)
                    obtain ⟨A5, c5, rfl, -⟩ := id hu
                    have CF := containsFunc_ints IntR (fun v => !(bs.getD v.toNat false)) A5 c5 (asksM ⟨op, xa, xb, xc, xn, xe, ⟨kk, kn⟩⟩) 50 enters_do1 #[.pointer (some ⟨ib, 0, none⟩)] v2 hu (fun w3 k3 y cs hy hR => by
                      obtain ⟨rfl, -⟩ := hR
                      have T3 := T2.out.below k3
                      have h1 := HASK.out y hy
                      exact do1_c bs y ib ir t.ins.length w3 T3.box T3.row hbs (by omega) h1.1 (by omega))
                    obtain ⟨bb, hbb⟩ : ∃ bb, (asksM ⟨op, xa, xb, xc, xn, xe, ⟨kk, kn⟩⟩).any (fun v => !(bs.getD v.toNat false)) = bb := ⟨_, rfl⟩
                    rw [hbb] at CF
                    have HCF := Lib.hid CF
                    refine hK _ _ (fun _ => ⟨⟨v2, KZ.out⟩, rfl⟩) ?_
                    clear hK K hbb CF k2 hu
                    refine wpMs_step rfl (fun K hK => ?_)
                    go_simp
                    refine HCF.out.mono ?_
                    rintro e v3 ⟨rfl, k3⟩
                    have KZ' := Lib.hid (KZ.out.trans (k3.mono KZ.out.size))
                    refine hK _ _ (fun _ => ⟨⟨v3, KZ'.out⟩, rfl⟩) ?_
                    clear hK K KZ T2 k3
                    have KZ := KZ'
                    clear KZ'
                    refine wpMs_step rfl (fun K hK => ?_)
                    go_simp
                    refine hK _ _ (fun _ => ⟨⟨v3, KZ.out⟩, rfl⟩) ?_
                    clear hK K
                    refine wpMs_step rfl (fun K hK => ?_)
                    go_simp
                    refine hK _ _ (fun _ => ⟨⟨v3, KZ.out⟩, rfl⟩) ?_
                    clear hK K
                    refine wpMs_list [12, 13] _ _ (by kernel_rfl) (by kernel_rfl) ?_
                    simp only [List.filterMap_cons, List.filterMap_nil, List.getElem?_toArray, List.getElem?_cons_zero, List.getElem?_cons_succ]
                    have TZ := Lib.hid (TA.out.below KZ.out)
                    have BZ := Lib.hid ((KZ.out.block _ (Array.getElem?_eq_some_iff.1 B0.out).1).trans B0.out)
                    obtain ⟨b0, hb0⟩ : ∃ b0, bs[j]? = some b0 := ⟨_, List.getElem?_eq_getElem (by omega)⟩
                    have z1 : v3.cell? ⟨ir, j, none⟩ = some (.bool b0) := HeadAt.of_row TZ.out.row j _ (by rw [List.getElem?_map, hb0]; rfl)
                    have z2 := frozen_of_row v3 ir j _ _ TZ.out.row
                    clear hb0
                    go_wp2_with fail
                    go_meet
                    case rel =>
                      refine ⟨!bb, TZ.out.put j _, ?_⟩
                      show _ = _
                      rw [heap_setCell_other v3 _ _ _ (by show _ ≠ ir; omega)]; exact BZ.out
              case rest =>
                obtain ⟨c, T4, B4⟩ := hcut
                have d0 := cell_of_row wc ib 0 _ _ _ T4.out.box
                have d1 : wc.cell? ⟨ir, j, none⟩ = some (.bool c) := HeadAt.of_row T4.out.row j _ (by rw [List.getElem?_map, List.getElem?_set_self (by omega)]; rfl)
                have d2 : wc.cell? ⟨xr, 0, none⟩ = some (.int .i64 op) := HeadAt.of_row B4.out 0 _ rfl
                clear T TA KA B0 BA FA HWA HXR F2 B2 G2 HWX HASK
                cases c
                case false =>
                  obtain ⟨L, hL⟩ : ∃ L, (upto t.ins.length ++ tl).map (Value.int .i64) = L := ⟨_, rfl⟩
                  have O9 : Hid ((wc.alloc (.cells #[.int .i64 ((t.ins.length : Int) + j)] 3)).ownsRow w1.heap.size 3 1 (.slice A8 nx c8) nx L) := by
                    have h := T4.out.own.alloc (.cells #[.int .i64 ((t.ins.length : Int) + j)] 3)
                    rw [hL, ← HNX.out] at h
                    exact h
                  have HL := Lib.hid hL
                  have hzk : w1.heap.size ≤ wc.heap.size := T4.out.keep.size
                  clear hL
                  go_wp2_with (at_builtin; refine wpList_append_own _ rfl _ _ 38 rfl w1.heap.size 3 q0 (.int .i64 0) 1 8 Tryd.underlying38 hq0 hq1 hq2 hq3 rfl (by decide) (.slice A8 nx c8) nx L rfl O9.out ⟨wc.heap.size, 0, none⟩ 1 1 [.int .i64 ((t.ins.length : Int) + j)] rfl rfl ?b1 ?b2 ?b3 ?b4 ?b5 ?_)
                  case b1 => exact World.news_of_block (cs := #[.int .i64 ((t.ins.length : Int) + j)]) (heap_last wc _)
                  case b2 => intro u hu; simp at hu; subst hu; rfl
                  case b3 => unfold maxLen; omega
                  case b4 => omega
                  case b5 => simp; omega
                  intro v' w6 hown hg _
                  have TN := Lib.hid ((T4.out.below (below_one wc (.cells #[.int .i64 ((t.ins.length : Int) + j)] 3))).more (a := ((t.ins.length : Int) + j)) (by rw [← HNX.out, HL.out]; exact hown) hg)
                  clear hown hg
                  go_wp2_with fail
                  go_roundw
                  case rel =>
                    refine ⟨j + 1, tl ++ [((t.ins.length : Int) + j)], bs.set j false, by go_num, by omega, by simp; omega, by rw [List.length_set]; exact hbs, fun a ha => ?_, Lib.hid (by rw [← List.append_assoc]; exact TN.out)⟩
                    rcases List.mem_append.1 ha with ha | ha
                    · exact HTL.out a ha
                    · obtain rfl : a = ((t.ins.length : Int) + j) := by simpa using ha
                      unfold wfi; omega
                  case measure => simp [RowKit.intOf]; omega
                case true =>
                  obtain ⟨tb, htb⟩ : ∃ tb, tellsM op = tb := ⟨_, rfl⟩
                  have TLS := tells_c op wc
                  rw [htb] at TLS
                  have HTE := Lib.hid TLS
                  clear htb TLS
                  cases tb
                  case true =>
                    go_wp2_with fail
                    refine HTE.out.mono ?_
                    rintro e w5 ⟨rfl, k5⟩
                    have T5 := Lib.hid (T4.out.below k5)
                    clear k5 HTE d0 d1 d2 T4 B4
                    obtain ⟨L, hL⟩ : ∃ L, (upto t.ins.length ++ tl).map (Value.int .i64) = L := ⟨_, rfl⟩
                    have O9 : Hid ((w5.alloc (.cells #[.int .i64 (j : Int)] 3)).ownsRow w1.heap.size 3 1 (.slice A8 nx c8) nx L) := by
                      have h := T5.out.own.alloc (.cells #[.int .i64 (j : Int)] 3)
                      rw [hL, ← HNX.out] at h
                      exact h
                    have HL := Lib.hid hL
                    have hzk : w1.heap.size ≤ w5.heap.size := T5.out.keep.size
                    clear hL
                    go_wp2_with (at_builtin; refine wpList_append_own _ rfl _ _ 38 rfl w1.heap.size 3 q0 (.int .i64 0) 1 8 Tryd.underlying38 hq0 hq1 hq2 hq3 rfl (by decide) (.slice A8 nx c8) nx L rfl O9.out ⟨w5.heap.size, 0, none⟩ 1 1 [.int .i64 (j : Int)] rfl rfl ?c1 ?c2 ?c3 ?c4 ?c5 ?_)
                    case c1 => exact World.news_of_block (cs := #[.int .i64 (j : Int)]) (heap_last w5 _)
                    case c2 => intro u hu; simp at hu; subst hu; rfl
                    case c3 => unfold maxLen; omega
                    case c4 => omega
                    case c5 => simp; omega
                    intro v' w6 hown hg _
                    have TN := Lib.hid ((T5.out.below (below_one w5 (.cells #[.int .i64 (j : Int)] 3))).more (a := (j : Int)) (by rw [← HNX.out, HL.out]; exact hown) hg)
                    clear hown hg
                    go_wp2_with fail
                    go_roundw
                    case rel =>
                      refine ⟨j + 1, tl ++ [(j : Int)], bs.set j true, by go_num, by omega, by simp; omega, by rw [List.length_set]; exact hbs, fun a ha => ?_, Lib.hid (by rw [← List.append_assoc]; exact TN.out)⟩
                      rcases List.mem_append.1 ha with ha | ha
                      · exact HTL.out a ha
                      · obtain rfl : a = (j : Int) := by simpa using ha
                        unfold wfi; omega
                    case measure => simp [RowKit.intOf]; omega
                  case false =>
                    go_wp2_with fail
                    refine HTE.out.mono ?_
                    rintro e w5 ⟨rfl, k5⟩
                    have T5 := Lib.hid (T4.out.below k5)
                    clear k5 HTE d0 d1 d2 T4 B4
                    obtain ⟨L, hL⟩ : ∃ L, (upto t.ins.length ++ tl).map (Value.int .i64) = L := ⟨_, rfl⟩
                    have O9 : Hid ((w5.alloc (.cells #[.int .i64 (-1)] 3)).ownsRow w1.heap.size 3 1 (.slice A8 nx c8) nx L) := by
                      have h := T5.out.own.alloc (.cells #[.int .i64 (-1)] 3)
                      rw [hL, ← HNX.out] at h
                      exact h
                    have HL := Lib.hid hL
                    have hzk : w1.heap.size ≤ w5.heap.size := T5.out.keep.size
                    clear hL
                    go_wp2_with (at_builtin; refine wpList_append_own _ rfl _ _ 38 rfl w1.heap.size 3 q0 (.int .i64 0) 1 8 Tryd.underlying38 hq0 hq1 hq2 hq3 rfl (by decide) (.slice A8 nx c8) nx L rfl O9.out ⟨w5.heap.size, 0, none⟩ 1 1 [.int .i64 (-1)] rfl rfl ?d1 ?d2 ?d3 ?d4 ?d5 ?_)
                    case d1 => exact World.news_of_block (cs := #[.int .i64 (-1)]) (heap_last w5 _)
                    case d2 => intro u hu; simp at hu; subst hu; rfl
                    case d3 => unfold maxLen; omega
                    case d4 => omega
                    case d5 => simp; omega
                    intro v' w6 hown hg _
                    have TN := Lib.hid ((T5.out.below (below_one w5 (.cells #[.int .i64 (-1)] 3))).more (a := (-1)) (by rw [← HNX.out, HL.out]; exact hown) hg)
                    clear hown hg
                    go_wp2_with fail
                    go_roundw
                    case rel =>
                      refine ⟨j + 1, tl ++ [(-1)], bs.set j true, by go_num, by omega, by simp; omega, by rw [List.length_set]; exact hbs, fun a ha => ?_, Lib.hid (by rw [← List.append_assoc]; exact TN.out)⟩
                      rcases List.mem_append.1 ha with ha | ha
                      · exact HTL.out a ha
                      · obtain rfl : a = (-1) := by simpa using ha
                        unfold wfi; omega
                    case measure => simp [RowKit.intOf]; omega
            · obtain rfl : j = t.ins.length := by omega
              have hji : ¬ (t.ins.length : Int) < t.ins.length := by omega
              have RTr : Hid (wr.rangeAt (w.heap.size + 1) 0 ca) := (HeadAt.of_row F2.out).range
              have TWI := Lib.hid (twice_c ca t wr (HT.out.below B2.out) CUTS.out SM.out HEX.out)
              unfold TwicePost at TWI
              go_wp2_with (first | (refine wpList_load_mid rfl 34 _ rfl (w.heap.size + 1) 0 rfl ca _ RTr.out Tryd.underlying34 rfl HIt.out ?_) | fail)
              refine TWI.out.mono ?_
              rintro e w7 ⟨cs2, rfl, tr2, k7⟩
              have TR7 := Lib.hid tr2
              have B7 := Lib.hid (B2.out.trans (k7.mono B2.out.size))
              have WZ := Lib.hid (below_row k7 G2.out)
              have ST : SliceR w7 w7.heap.size 1 IntR (.slice A8 nx c8) (upto t.ins.length ++ tl) :=
                sliceR_of_own (by have h1 := own_below T.out.own k7; exact h1) (fun v hv => by
                  rcases List.mem_append.1 hv with hv | hv
                  · exact upto_wfP hlen v hv
                  · exact HTL.out v hv)
              have HST := Lib.hid ST
              have SM2 := Lib.hid (smallT_twice SM.out hn150 hm100)
              clear tr2 k7 TWI ST T
              go_wp2_with fail
              obtain ⟨zr, hzr⟩ : ∃ zr, cutM (twiceM t) (upto t.ins.length ++ tl) = zr := ⟨_, rfl⟩
              obtain ⟨z, r⟩ := zr
              have CC := Lib.hid (cut_c cs2 (twiceM t) _ (upto t.ins.length ++ tl) w7 TR7.out HST.out SM2.out)
              unfold CutPost at CC
              rw [hzr] at CC
              have HZR := Lib.hid hzr
              clear hzr
              refine CC.out.mono ?_
              rintro e W2 ⟨cs, rfl, tr, k2, hset⟩
              have TR2 := Lib.hid (hset (w.heap.size + 1 + 1))
              obtain ⟨B1, m1, B2, m2, B3, m3, B4, m4, B5, m5, B6, m6, rfl, -⟩ := TraceR.cells tr
              have Z2 := Lib.hid (below_row k2 WZ.out)
              have K2 : Hid (Below w.heap.size w W2) := B7.out.trans (k2.mono B7.out.size)
              have hzz : w.heap.size + 1 + 1 < w7.heap.size := (Array.getElem?_eq_some_iff.1 WZ.out).1
              clear tr k2 hset CC
              go_wp2_with (refine wpList_store_row rfl 34 _ _ rfl (w.heap.size + 1 + 1) #[.int .i64 z.fn, .int .i64 z.at_, .int .i64 z.loop, .slice B1 z.ins.length m1, .slice B2 z.exits.length m2, .int .i64 z.turn.at_, .int .i64 z.turn.steps, .slice B3 z.turn.sets.length m3, .slice B4 z.turn.makes.length m4, .int .i64 z.back.at_, .int .i64 z.back.steps, .slice B5 z.back.sets.length m5, .slice B6 z.back.makes.length m6] rfl rfl 34 _ Z2.out infoTr13 rfl (all_oneCell_toArray (by simp [Value.oneCell'])) ?_)
              generalize hw13 : World.setRow _ _ _ = W6
              have QR : Hid (W6.heap[w.heap.size + 1 + 1]? = some (.cells #[.int .i64 z.fn, .int .i64 z.at_, .int .i64 z.loop, .slice B1 z.ins.length m1, .slice B2 z.exits.length m2, .int .i64 z.turn.at_, .int .i64 z.turn.steps, .slice B3 z.turn.sets.length m3, .slice B4 z.turn.makes.length m4, .int .i64 z.back.at_, .int .i64 z.back.steps, .slice B5 z.back.sets.length m5, .slice B6 z.back.makes.length m6] 34 (0, 0))) := by rw [← hw13]; exact setRow_heap _ _ _ _ _ _ Z2.out
              have K6 : Hid (Below w.heap.size w W6) := by rw [← hw13]; exact Below.set_row K2.out (by omega) _
              have T6 : Hid (TraceR W6 W6.heap.size [.int .i64 z.fn, .int .i64 z.at_, .int .i64 z.loop, .slice B1 z.ins.length m1, .slice B2 z.exits.length m2, .int .i64 z.turn.at_, .int .i64 z.turn.steps, .slice B3 z.turn.sets.length m3, .slice B4 z.turn.makes.length m4, .int .i64 z.back.at_, .int .i64 z.back.steps, .slice B5 z.back.sets.length m5, .slice B6 z.back.makes.length m6] z) := by rw [← hw13]; exact TR2.out _ hzz
              clear hw13
              go_wp2_with fail
              have r0 := cell_of_row W6 (w.heap.size + 1 + 1) 0 _ _ _ QR.out
              have r1 := cell_of_row W6 (w.heap.size + 1 + 1) 1 _ _ _ QR.out
              have r2 := cell_of_row W6 (w.heap.size + 1 + 1) 2 _ _ _ QR.out
              have r3 := cell_of_row W6 (w.heap.size + 1 + 1) 3 _ _ _ QR.out
              have r4 := cell_of_row W6 (w.heap.size + 1 + 1) 4 _ _ _ QR.out
              have r5 := cell_of_row W6 (w.heap.size + 1 + 1) 5 _ _ _ QR.out
              have r6 := cell_of_row W6 (w.heap.size + 1 + 1) 6 _ _ _ QR.out
              have r7 := cell_of_row W6 (w.heap.size + 1 + 1) 7 _ _ _ QR.out
              have r8 := cell_of_row W6 (w.heap.size + 1 + 1) 8 _ _ _ QR.out
              have r9 := cell_of_row W6 (w.heap.size + 1 + 1) 9 _ _ _ QR.out
              have r10 := cell_of_row W6 (w.heap.size + 1 + 1) 10 _ _ _ QR.out
              have r11 := cell_of_row W6 (w.heap.size + 1 + 1) 11 _ _ _ QR.out
              have r12 := cell_of_row W6 (w.heap.size + 1 + 1) 12 _ _ _ QR.out
              refine bodyPost_ret (v := .tuple #[.agg #[.int .i64 z.fn, .int .i64 z.at_, .int .i64 z.loop, .slice B1 z.ins.length m1, .slice B2 z.exits.length m2, .int .i64 z.turn.at_, .int .i64 z.turn.steps, .slice B3 z.turn.sets.length m3, .slice B4 z.turn.makes.length m4, .int .i64 z.back.at_, .int .i64 z.back.steps, .slice B5 z.back.sets.length m5, .slice B6 z.back.makes.length m6], .int .i64 r]) (by simp [results, Tryd.results25, go_sem, r0, r1, r2, r3, r4, r5, r6, r7, r8, r9, r10, r11, r12]) rfl ⟨_, z, r, rfl, T6.out, K6.out, .inr (.inr ⟨rfl, hloop.out, hnpos, tl, htl, HZR.out⟩)⟩
end Go.Proofs.YtmccomeihnaanaaDoor
