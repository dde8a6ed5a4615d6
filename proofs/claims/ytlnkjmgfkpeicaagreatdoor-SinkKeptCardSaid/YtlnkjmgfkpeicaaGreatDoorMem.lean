/- memory: blocks that are laid down, rows that are set. No program. -/
import Derived.Test.YtlnkjmgfkpeicaaGreatDoorComm
namespace Go.Proofs.YtlnkjmgfkpeicaaGreatDoor
open Go.RowKit

theorem heap_last (w : World) (o : Obj) : (w.alloc o).heap[w.heap.size]? = some o := by
  show (w.heap.push o)[w.heap.size]? = some o
  exact Array.getElem?_push_size
theorem heap_old {w : World} {k : Nat} {o : Obj} (h : w.heap[k]? = some o) (p : Obj) : (w.alloc p).heap[k]? = some o :=
  ((below_one w p).block k (Array.getElem?_eq_some_iff.1 h).1).trans h
theorem Below.set_row {B g : Nat} {w w' : World} (h : Below B w w') (hg : B ≤ g) (cs : Array Value) : Below B w (w'.setRow g cs) :=
  ⟨h.os, h.tape, h.output, by rw [size_setRow]; exact h.size, fun k hk => (setRow_other w' g k cs (by omega)).trans (h.block k hk)⟩
end Go.Proofs.YtlnkjmgfkpeicaaGreatDoor
