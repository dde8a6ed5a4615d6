/- An instruction in memory. -/
import Derived.Test.YtmccomeihnaanaaDoorIrD
namespace Go.Proofs.YtmccomeihnaanaaDoor
open Go.RowKit
def InsR (cs : List Value) (x : TIns) : Prop := cs = insCells x ∧ WfIns x

theorem ins_op {w : World} {B : Nat} {A : Option Addr} {n cap : Nat} {xs : List TIns} (h : SliceR w B 8 InsR (.slice A n cap) xs) {i : Nat} (hi : i < xs.length) :
    ∃ b off x, A = some ⟨b, off, none⟩ ∧ b < B ∧ xs[i]? = some x ∧ WfIns x ∧ CellsAt w b (off + i * 8) (insCells x) := by
  obtain ⟨b, off, x, cs, h1, h2, h3, _, ⟨rfl, h4⟩, h5⟩ := h.at_ hi
  exact ⟨b, off, x, h1, h2, h3, h4, h5⟩
end Go.Proofs.YtmccomeihnaanaaDoor
