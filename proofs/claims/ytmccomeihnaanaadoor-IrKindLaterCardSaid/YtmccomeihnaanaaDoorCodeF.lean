/- Package code: form. -/
import Derived.Test.YtmccomeihnaanaaDoorCodeA
import Derived.Laws.Tables
namespace Go.Proofs.YtmccomeihnaanaaDoor
open Go.RowKit

theorem formArr : (Tryd.prog.info? 196).map (·.size) = some 39 := by kernel_rfl
theorem forms_len : (forms.map fun l => Value.string ⟨l.toArray⟩).toArray.size = 39 := rfl
theorem forms_one : ((forms.map fun l => Value.string ⟨l.toArray⟩).toArray).all (·.oneCell') = true := by kernel_rfl
theorem below_setRow (w : World) (o : Obj) (C : Array Value) : Below w.heap.size w ((w.alloc o).setRow w.heap.size C) := by
  refine (below_one w o).trans ⟨rfl, rfl, rfl, by simp [World.setRow], fun k hk => ?_⟩
  simp only [World.setRow, Array.getElem?_modify]
  rw [if_neg (by omega)]
theorem row_setRow (w : World) (c C : Array Value) (t : TypeId) : ((w.alloc (.cells c t)).setRow w.heap.size C).heap[w.heap.size]? = some (.cells C t (0, 0)) := by
  simp only [World.setRow, Array.getElem?_modify, if_true]
  rw [heap_alloc_new]; rfl

set_option maxHeartbeats 1000000 in
set_option maxRecDepth 100000 in
theorem form_c (op : Int) (w : World) : Calls Tryd.prog 132 #[.int .i64 op] w (Gives (.string ⟨(formS op).toArray⟩) w) := by
  obtain ⟨s, hs⟩ : ∃ s : ByteArray, (⟨(formS op).toArray⟩ : ByteArray) = s := ⟨_, rfl⟩
  rw [hs]
  by_cases h : op < 1 ∨ 39 ≤ op
  · have hs' : (⟨#[]⟩ : ByteArray) = s := by rw [← hs]; simp [formS, h]
    subst hs'
    clear hs
    rcases h with h | h
    · go_enter Tryd.func132, Tryd.ntmps132
      go_wp2_with (first
        | (refine wpList_build rfl 196 _ rfl (by kernel_rfl) ?_; generalize hC : Option.getD _ _ = C; have hC2 : C = (forms.map fun l => Value.string ⟨l.toArray⟩).toArray := (by rw [← hC]; kernel_rfl); have HC := Lib.hid hC2; clear hC hC2)
        | (refine wpList_store_row rfl 196 _ _ rfl w.heap.size C rfl rfl 196 _ (heap_alloc_new _ _) (by rw [HC.out]; exact formArr) (by rw [HC.out]; rfl) (by rw [HC.out]; exact forms_one) ?_; generalize hw1 : World.setRow _ _ _ = w1; have KB : Hid (Below w.heap.size w w1) := (by rw [← hw1]; exact below_setRow _ _ _); clear hw1))
      go_ret
      exact ⟨rfl, KB.out⟩
    · have h' : ¬ op < 1 := by omega
      go_enter Tryd.func132, Tryd.ntmps132
      go_wp2_with (first
        | (refine wpList_build rfl 196 _ rfl (by kernel_rfl) ?_; generalize hC : Option.getD _ _ = C; have hC2 : C = (forms.map fun l => Value.string ⟨l.toArray⟩).toArray := (by rw [← hC]; kernel_rfl); have HC := Lib.hid hC2; clear hC hC2)
        | (refine wpList_store_row rfl 196 _ _ rfl w.heap.size C rfl rfl 196 _ (heap_alloc_new _ _) (by rw [HC.out]; exact formArr) (by rw [HC.out]; rfl) (by rw [HC.out]; exact forms_one) ?_; generalize hw1 : World.setRow _ _ _ = w1; have KB : Hid (Below w.heap.size w w1) := (by rw [← hw1]; exact below_setRow _ _ _); clear hw1))
      go_ret
      exact ⟨rfl, KB.out⟩
  · obtain ⟨n, rfl⟩ : ∃ n : Nat, op = n := ⟨op.toNat, by omega⟩
    have h2 : n < 39 := by omega
    have hi1 : ¬ (n : Int) < 1 := by omega
    have hi2 : ¬ 39 ≤ (n : Int) := by omega
    have hi3 : (n : Int) < 39 := by omega
    have hc : Hid ((forms.map fun l => Value.string ⟨l.toArray⟩).toArray[n]? = some (.string s)) := by
      show _ = _
      rw [List.getElem?_toArray, List.getElem?_map, List.getElem?_eq_getElem (show n < forms.length from h2), ← hs]
      unfold formS
      rw [if_neg (by omega), Int.toNat_natCast, List.getD_eq_getElem?_getD, List.getElem?_eq_getElem (show n < forms.length from h2)]
      rfl
    clear h hs
    go_enter Tryd.func132, Tryd.ntmps132
    go_wp2_with (first
      | (refine wpList_build rfl 196 _ rfl (by kernel_rfl) ?_; generalize hC : Option.getD _ _ = C; have hC2 : C = (forms.map fun l => Value.string ⟨l.toArray⟩).toArray := (by rw [← hC]; kernel_rfl); have HC := Lib.hid hC2; clear hC hC2)
      | (refine wpList_store_row rfl 196 _ _ rfl w.heap.size C rfl rfl 196 _ (heap_alloc_new _ _) (by rw [HC.out]; exact formArr) (by rw [HC.out]; rfl) (by rw [HC.out]; exact forms_one) ?_; generalize hw1 : World.setRow _ _ _ = w1; have KB : Hid (Below w.heap.size w w1) := (by rw [← hw1]; exact below_setRow _ _ _); have hcell : w1.cell? ⟨w.heap.size, n, none⟩ = some (.string s) := (by rw [← hw1, cell_of_row _ _ _ _ _ _ (row_setRow _ _ _ _), HC.out]; exact hc.out); clear hw1))
    go_ret
    exact ⟨rfl, KB.out⟩
end Go.Proofs.YtmccomeihnaanaaDoor
