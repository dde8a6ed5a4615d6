/- (*Heat).All: the heads, gathered. -/
import Derived.Test.YtdcikaenepnliaaHm
import Derived.Test.YtdcikaenepnliaaHs
import Derived.Test.YtdcikaenepnliaaRange
import Derived.Deep.AppendLies
namespace Go.Proofs.Ytdcikaenepnliaa
open Go.RowKit

theorem infoHead : (Try.prog.info? 47).map (fun i => (i.zero, i.size, i.bytes)) = some (some (.agg #[.int .i64 0, .int .i64 0, .int .i64 0, .int .i64 0, .int .i64 0, .int .i64 0]), 6, 48) := by kernel_rfl


/-- All heads, sorted -/
def AllPost (w : World) (hb mb : Nat) (hot : Int) (L : TL) (e : Ending) (w' : World) : Prop :=
  ∃ v D, e = .returned v ∧ D.Perm (L.map (·.2)) ∧ SortedH D ∧ HdRows w' v D ∧ Below w.heap.size w w' ∧ HeatAt w' hb mb hot (encT L)

def unV : Value → Hd
  | .agg cs => match cs.toList with
    | [.int _ f, .int _ a, .int _ c, .int _ l, .int _ fl, .int _ i] => ⟨f, a, c, l, fl, i⟩
    | _ => ⟨0, 0, 0, 0, 0, 0⟩
  | _ => ⟨0, 0, 0, 0, 0, 0⟩
theorem unV_v (h : Hd) : unV h.v = h := rfl
theorem perm_heads {L : TL} {D : List Hd} (h : ((encT L).map (·.2)).Perm (D.map Hd.v)) : D.Perm (L.map (·.2)) := by
  have h1 := h.map unV
  have e1 : ((encT L).map (·.2)).map unV = L.map (·.2) := by
    simp only [encT, List.map_map]
    exact List.map_congr_left fun x _ => unV_v x.2
  have e2 : (D.map Hd.v).map unV = D := by
    rw [List.map_map]
    have : (unV ∘ Hd.v) = id := funext unV_v
    rw [this, List.map_id]
  rw [e1, e2] at h1
  exact h1.symm

def AllRel (w : World) (hb mb : Nat) (hot : Int) (L : TL) (V : List Value) (r : Nat) (v : Value) (wr : World) : Prop :=
  ∃ (D : List Hd) (left : Nat), RangeI wr mb r V (D.map Hd.v) left ∧ HeatAt wr hb mb hot (encT L) ∧ wr.ownsRow (r + 1) 47 6 v D.length (D.flatMap headCells) ∧ Below w.heap.size w wr ∧ r + 1 ≤ wr.heap.size

theorem rel_start {w w0 : World} {hb mb : Nat} {hot : Int} {L : TL} (h : HeatAt w hb mb hot (encT L)) (hr : RangeI w0 mb w.heap.size ((encT L).map (·.2)) [] L.length) (hg : w.grownBy w0 none) (hs : w0.heap.size = w.heap.size + 1) :
    AllRel w hb mb hot L ((encT L).map (·.2)) w.heap.size (.slice none 0 0) w0 :=
  have hb : Below w.heap.size w w0 := ⟨hg.os, hg.tape, hg.output, hg.size, fun k hk => hg.block k hk (by simp)⟩
  ⟨[], L.length, hr, heat_below h hb, World.ownsRow_nil _ _ _ _, hb, by omega⟩

theorem vals_hd {L : TL} {v : Value} (h : v ∈ (encT L).map (·.2)) : ∃ x : Hd, v = x.v := by
  simp only [encT, List.map_map, List.mem_map, Function.comp] at h
  obtain ⟨x, _, rfl⟩ := h
  exact ⟨x.2, rfl⟩

theorem own_step {w w' : World} {r n e size : Nat} {v : Value} {xs : List Value} (h : w.ownsRow (r + 1) e size v n xs) (hg : w.grownBy w' (some r)) (o p : Obj) : ((w'.alloc o).alloc p).ownsRow (r + 1) e size v n xs := by
  have h1 : w'.ownsRow (r + 1) e size v n xs := by
    refine h.kept hg ?_
    cases hv : v.ownBlock with
    | none => exact .inl rfl
    | some k =>
      right
      have := (h.lt k hv).1
      intro e
      injection e with e
      omega
  exact (h1.alloc o).alloc p
theorem head_at {W : World} {g : Nat} {h : Hd} {t : TypeId} {fr : Nat × Nat} (hh : W.heap[g]? = some (.cells ⟨headCells h⟩ t fr)) : ∀ j u, (headCells h)[j]? = some u → W.cell? ((⟨g, 0, none⟩ : Addr).add j) = some u := by
  intro j u hj
  have e : (⟨g, 0, none⟩ : Addr).add j = ⟨g, j, none⟩ := by
    unfold Addr.add
    split
    · rename_i h0; rw [h0]
    · simp
  rw [e]
  simp only [World.cell?, hh]
  simpa using hj
theorem heap_two (w : World) (o p : Obj) : ((w.alloc o).alloc p).heap[w.heap.size + 1]? = some p := by
  show ((w.heap.push o).push p)[w.heap.size + 1]? = _
  rw [Array.getElem?_push, if_pos (by simp)]
theorem head_one (h : Hd) : ∀ u ∈ headCells h, u.oneCell' = true := by
  intro u hu
  simp only [headCells, List.mem_cons, List.not_mem_nil, or_false] at hu
  rcases hu with rfl | rfl | rfl | rfl | rfl | rfl <;> rfl
theorem small_len {n : Nat} (h : n ≤ 1000000) : n ≤ maxLen := by unfold maxLen; omega
theorem small_bytes {n : Nat} (h : n ≤ 1000000) : n * 48 ≤ 140737488355328 := by omega

theorem rel_next {w wr w1 w2 : World} {hb mb : Nat} {hot : Int} {L : TL} {V : List Value} {r left : Nat} {v v' : Value} {D : List Hd} {x : Hd} {o p : Obj} (hht : HeatAt wr hb mb hot (encT L)) (hown : wr.ownsRow (r + 1) 47 6 v D.length (D.flatMap headCells)) (hbel : Below w.heap.size w wr)
    (hsz : r + 1 ≤ wr.heap.size) (hr : r = w.heap.size) (hr1 : RangeI w1 mb r V (D.map Hd.v ++ [x.v]) left) (hg1 : wr.grownBy w1 (some r)) (hs1 : w1.heap.size = wr.heap.size)
    (hg2 : ((w1.alloc o).alloc p).grownBy w2 v.ownBlock) (hown2 : w2.ownsRow (r + 1) 47 6 v' (D.length + 1) (D.flatMap headCells ++ headCells x)) (hbl : hb < r) (hml : mb < r) : AllRel w hb mb hot L V r v' w2 ∧ w2.rangeLeft mb r = left := by
  have hvk : ∀ k, v.ownBlock = some k → r + 1 ≤ k := fun k hk => (hown.lt k hk).1
  have hne : ∀ k, k ≤ r → some k ≠ v.ownBlock := fun k hk e => by have := hvk k e.symm; omega
  have hA : wr.grownBy w1 (some r) := hg1
  have h1 : RangeI ((w1.alloc o).alloc p) mb r V (D.map Hd.v ++ [x.v]) left := (hr1.kept (World.grownBy_alloc _ o none) (by simp) (by simp)).kept (World.grownBy_alloc _ p none) (by simp) (by simp)
  have h2 : HeatAt ((w1.alloc o).alloc p) hb mb hot (encT L) := by
    have := heat_far hht hg1 (by omega) (by omega)
    exact heat_below (heat_below this ((Below.refl _ _).alloc (Nat.le_refl _) o)) ((Below.refl _ _).alloc (Nat.le_refl _) p)
  have hlt1 := h2.2.lt
  have hh1 : hb < ((w1.alloc o).alloc p).heap.size := (Array.getElem?_eq_some_iff.1 h2.1).1
  have h3 : RangeI w2 mb r V (D.map Hd.v ++ [x.v]) left := h1.kept hg2 (hne _ (by omega)) (hne _ (Nat.le_refl _))
  refine ⟨⟨D ++ [x], left, ?_, ?_, ?_, ?_, ?_⟩, h3.left_eq⟩
  · rw [List.map_append]
    exact h3
  · exact ⟨(hg2.block hb hh1 (hne _ (by omega))).trans h2.1, h2.2.kept hg2 (hne _ (by omega))⟩
  · rw [List.flatMap_append]
    simpa using hown2
  · have hb1 : Below w.heap.size w w1 := hbel.grown hg1 hbel.size (fun k hk => by injection hk with hk; omega)
    have hb2 := (hb1.alloc hb1.size o).alloc (hb1.alloc hb1.size o).size p
    exact hb2.grown hg2 hb2.size (fun k hk => by have := hvk k hk; omega)
  · have := hg2.size
    simp at this
    omega

theorem all_kept {w wr w3 : World} {hb mb : Nat} {hot : Int} {L : TL} {v : Value} {n : Nat} {xs : List Value} (hht : HeatAt wr hb mb hot (encT L)) (hown : wr.ownsRow (w.heap.size + 1) 47 6 v n xs) (hg : wr.grownBy w3 v.ownBlock) (hbl : hb < w.heap.size) (hml : mb < w.heap.size) : HeatAt w3 hb mb hot (encT L) := by
  have hne : ∀ k, k < w.heap.size → some k ≠ v.ownBlock := fun k hk e => by have := (hown.lt k e.symm).1; omega
  have hh1 : hb < wr.heap.size := (Array.getElem?_eq_some_iff.1 hht.1).1
  exact ⟨(hg.block hb hh1 (hne _ hbl)).trans hht.1, hht.2.kept hg (hne _ hml)⟩

set_option maxRecDepth 100000 in
set_option maxHeartbeats 1000000 in
theorem all_c (w : World) (hb mb : Nat) (hot : Int) (L : TL) (h : HeatAt w hb mb hot (encT L)) (hL : L.length ≤ 1000) :
    Calls Try.prog 14 #[.pointer (some ⟨hb, 0, none⟩)] w (AllPost w hb mb hot L) := by
  obtain ⟨hh, hm⟩ := h
  have c1 : w.cell? ⟨hb, 1, none⟩ = some (.map (some mb)) := by simp [World.cell?, hh]
  have hbl : hb < w.heap.size := (Array.getElem?_eq_some_iff.1 hh).1
  have hml : mb < w.heap.size := hm.lt
  have HH := Lib.hid hh
  have HM := Lib.hid hm
  obtain ⟨i0, hi, hz0, hz1, hz2⟩ := info_parts infoHead
  clear hh hm
  obtain ⟨V, hV⟩ : ∃ V, V = (encT L).map (·.2) := ⟨_, rfl⟩
  have HV := Lib.hid hV
  clear hV
  go_enter Try.func14, Try.ntmps14
  go_wp2_with (at_range; refine wpList_range_i _ rfl _ 48 52 47 rfl Try.underlying48 2 mb _ rfl HM.out ?_; intro w0 hrg0 hg0 hs0)
  go_frame
  have HR0 := Lib.hid hrg0
  have HG0 := Lib.hid hg0
  clear hrg0 hg0
  go_loopw [3] (fun v wr => AllRel w hb mb hot L V w.heap.size v wr) (fun _ wr => wr.rangeLeft mb w.heap.size)
  case atStart => rw [HV.out]; exact rel_start ⟨HH.out, HM.out⟩ (by simpa [encT] using HR0.out) HG0.out hs0
  case round =>
    obtain ⟨D, left, hrg, hht, hown, hbel, hsz⟩ := hrel
    have HR := Lib.hid hrg
    have HT := Lib.hid hht
    have HO := Lib.hid hown
    have HB := Lib.hid hbel
    clear hrg hht hown hbel
    go_wp2_with (at_next; refine wpList_next_i _ rfl _ rfl mb w.heap.size left _ _ rfl HR.out ?_ ?_)
    · intro hd
      have HD := Lib.hid hd
      clear hd
      have hDl : D.length ≤ 1000 := by
        have h1 := HR.out.count
        have h2 : V.length ≤ 1000 := by rw [HV.out]; simpa [encT] using hL
        simp at h1
        omega
      go_wp2_with fail
      refine (sort_c wr _ _ D HO.out hDl).mono ?_
      rintro e w3 ⟨rfl, D', hp, hs, hrw, hg3⟩
      have HF : Hid (AllPost w hb mb hot L (.returned _) w3) := Lib.hid ⟨_, D', rfl, hp.trans (perm_heads (HV.out ▸ HD.out)), hs, hrw, HB.out.grown hg3 HB.out.size (fun k hk => by have := (HO.out.lt k hk).1; omega), all_kept HT.out HO.out hg3 hbl hml⟩
      clear hp hs hrw hg3
      go_wp2_with fail
      go_ret
      exact HF.out
    · intro key v w1 left' hv hr1 hlt hg1 hs1 hen
      obtain ⟨x, rfl⟩ := vals_hd (HV.out ▸ hv)
      unfold Hd.v headV at hen
      have HS1 := Lib.hid hs1
      have hs2 : wr.heap.size ≤ w1.heap.size := by omega
      have HR1 := Lib.hid hr1
      have HG1 := Lib.hid hg1
      have hDl : D.length + 1 ≤ 1000000 := by
        have h1 := HR.out.count
        have h2 : V.length ≤ 1000 := by rw [HV.out]; simpa [encT] using hL
        simp at h1
        omega
      clear hr1 hg1 hv hs1
      go_wp2_with (at_builtin; refine wpList_append_own _ rfl _ _ 44 rfl (w.heap.size + 1) 47 i0 _ 6 48 Try.underlying44 hi hz0 hz1 hz2 rfl (by decide) _ D.length (D.flatMap headCells) rfl (own_step HO.out HG1.out _ _) ⟨w1.heap.size + 1, 0, none⟩ 1 1 (headCells x) rfl rfl (head_at (heap_two _ _ _)) (head_one x) (small_len hDl) (small_bytes hDl) (by simp; omega) ?_)
      intro v' w2 hown2 hg2 _
      have HN : Hid (AllRel w hb mb hot L V w.heap.size v' w2 ∧ w2.rangeLeft mb w.heap.size = left') := Lib.hid (rel_next HT.out HO.out HB.out hsz rfl HR1.out HG1.out HS1.out hg2 hown2 hbl hml)
      clear hown2 hg2
      go_wp2_with fail
      go_roundw
      case rel => exact HN.out.1
      case measure => rw [HN.out.2, HR.out.left_eq]; exact hlt
end Go.Proofs.Ytdcikaenepnliaa
