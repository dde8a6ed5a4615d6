/- ops.Words. -/
import Derived.Test.YtlnkjmgfkpeicaaGreatDoorCodeA
import Derived.Test.YtlnkjmgfkpeicaaGreatDoorShelf
namespace Go.Proofs.YtlnkjmgfkpeicaaGreatDoor
open Go.RowKit

/-- the library's table, as it is laid -/
abbrev Tab (w : World) : Prop := Lib.TabIs Tryz.prog w "strings.asciiSpace" .u8 Lib.asciiSpaceTab
theorem gTab : Tryz.prog.globalNamed "strings.asciiSpace" = some 0 := by kernel_rfl
theorem Tab.below {w w' : World} (h : Tab w) (k : Below w.heap.size w w') : Tab w' := by
  unfold Tab Lib.TabIs World.var? at h ⊢
  rw [gTab] at h ⊢
  simp only [Option.bind_some] at h ⊢
  have hlt : 0 < w.heap.size := by
    rcases Nat.lt_or_ge 0 w.heap.size with h' | h'
    · exact h'
    · rw [Array.getElem?_eq_none h'] at h
      cases h
  rw [k.block 0 hlt]
  exact h

def wordsT : List UInt8 := [107, 105, 110, 100, 32, 114, 97, 110, 103, 101, 32, 122, 101, 114, 111, 32, 105, 110, 100, 101, 120, 32, 108, 97, 114, 103, 101, 32, 100, 101, 101, 112, 32, 115, 116, 97, 116, 101, 32, 99, 111, 117, 110, 116, 32, 110, 105, 108, 32, 98, 111, 111, 108, 32, 105, 110, 116, 32, 102, 108, 111, 97, 116, 32, 116, 101, 120, 116, 32, 111, 98, 106, 101, 99, 116, 32, 108, 105, 115, 116, 32, 102, 117, 110, 99, 116, 105, 111, 110, 32, 103, 101, 110, 101, 114, 97, 116, 111, 114, 32, 108, 111, 99, 107, 32, 119, 101, 97, 107]
/-- the words that the program itself writes -/
def wordsM : List ByteArray := (Lib.fields wordsT).map fun l => ⟨l.toArray⟩
theorem words_len : (Lib.fields wordsT).length = 19 := by kernel_rfl
theorem wordsM_len : wordsM.length = 19 := by rw [wordsM, List.length_map]; exact words_len
theorem words_ascii : ∀ b ∈ wordsT, b.toNat < 128 := by decide
theorem words_val : ((Lib.fields wordsT).map fun l => Value.string ⟨l.toArray⟩) = wordsM.map Value.string := by rw [wordsM, List.map_map]; rfl

set_option maxHeartbeats 400000 in
set_option maxRecDepth 100000 in
theorem words_c (w : World) (h : Tab w) : Calls Tryz.prog 45 #[] w fun e w' => e = .returned (.slice (some ⟨w.heap.size, 0, none⟩) 19 19) ∧ w' = w.alloc (.cells (wordsM.map Value.string).toArray 9) := by
  obtain ⟨s, hs⟩ : ∃ s : ByteArray, s = ⟨wordsT.toArray⟩ := ⟨_, rfl⟩
  have e1 : s.data.toList = wordsT := by rw [hs]
  have e2 : s.size = 109 := by rw [hs]; rfl
  have C := Tryz.strings_Fields s w (by rw [e2]; omega) (fun j b hb => by rw [e1] at hb; exact words_ascii b (List.mem_of_getElem? hb)) h
  rw [e1, words_len, words_val] at C
  have C' := Lib.hid C
  have HS := Lib.hid hs
  clear C e1 e2 hs h
  go_enter Tryz.func45, Tryz.ntmps45
  go_wp2_with fail
  have C2 := C'.out
  rw [HS.out] at C2
  refine C2.mono ?_
  rintro e w' ⟨rfl, rfl⟩
  go_wp2_with fail
  go_ret
  exact ⟨rfl, rfl⟩
end Go.Proofs.YtlnkjmgfkpeicaaGreatDoor
