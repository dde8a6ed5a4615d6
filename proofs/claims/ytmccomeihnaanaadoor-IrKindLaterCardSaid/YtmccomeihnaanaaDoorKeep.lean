/- Small laws on memory: what is kept over calls; two boxed arguments. -/
import Derived.Test.YtmccomeihnaanaaDoorRep
import Derived.Test.YtmccomeihnaanaaDoorUp
namespace Go.Proofs.YtmccomeihnaanaaDoor
open Go.RowKit

theorem cell_to {w0 wr : World} (hb : Below w0.heap.size w0 wr) (E : Up wr) {a : Addr} {v : Value} (h : w0.cell? a = some v) : E.to.cell? a = some v := E.cell ((hb.cell (cell_lt h)).trans h)
theorem cell_on {w0 wr : World} (hb : Below w0.heap.size w0 wr) {a : Addr} {v : Value} (h : w0.cell? a = some v) : wr.cell? a = some v := (hb.cell (cell_lt h)).trans h
theorem below_to {w0 wr : World} (hb : Below w0.heap.size w0 wr) (E : Up wr) : Below w0.heap.size w0 E.to := hb.trans (E.below.mono hb.size)
/-- one behind another -/
theorem Below.then {B : Nat} {w0 w1 w2 : World} (h : Below B w0 w1) (k : Below w1.heap.size w1 w2) (hB : B ≤ w1.heap.size) : Below B w0 w2 := h.trans (k.mono hB)
theorem Below.next {w0 w1 w2 : World} (h : Below w0.heap.size w0 w1) (k : Below w1.heap.size w1 w2) : Below w0.heap.size w0 w2 := h.trans (k.mono h.size)

theorem one_cell (w : World) (A : Array Value) (t : TypeId) (i : Nat) : (w.alloc (.cells A t)).cell? ⟨w.heap.size, i, none⟩ = A[i]? := World.cell?_alloc_at _ _ _ _ rfl
theorem old_one {w : World} {a : Addr} {v : Value} (h : w.cell? a = some v) (o : Obj) : (w.alloc o).cell? a = some v := (World.cell?_alloc_lt _ _ _ (cell_lt h)).trans h
theorem two_cell0 (w : World) (A : Array Value) (t : TypeId) (o : Obj) (i : Nat) : ((w.alloc (.cells A t)).alloc o).cell? ⟨w.heap.size, i, none⟩ = A[i]? := by
  rw [World.cell?_alloc_lt _ _ _ (by simp)]; exact one_cell w A t i
theorem two_cell1 (w : World) (A : Array Value) (t : TypeId) (o : Obj) (i : Nat) : ((w.alloc o).alloc (.cells A t)).cell? ⟨w.heap.size + 1, i, none⟩ = A[i]? := by
  have h := one_cell (w.alloc o) A t i
  rwa [World.size_alloc] at h
theorem below_one (w : World) (a : Obj) : Below w.heap.size w (w.alloc a) := (Below.refl w.heap.size w).alloc (Nat.le_refl _) a
theorem below_two' (w : World) (a b : Obj) : Below w.heap.size w ((w.alloc a).alloc b) := ((Below.refl w.heap.size w).alloc (Nat.le_refl _) a).alloc (by simp) b
end Go.Proofs.YtmccomeihnaanaaDoor
