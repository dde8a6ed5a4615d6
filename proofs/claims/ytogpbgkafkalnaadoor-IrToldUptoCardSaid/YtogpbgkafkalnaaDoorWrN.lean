/- ir.writer: nums. -/
import Derived.Test.YtogpbgkafkalnaaDoorBuild
import Derived.Test.YtogpbgkafkalnaaDoorWrT
import Derived.Test.YtogpbgkafkalnaaDoorTail
import Derived.Test.YtogpbgkafkalnaaDoorIrB
import Derived.Test.YtogpbgkafkalnaaDoorShelf
import Derived.Lib.AppendIntMem
namespace Go.Proofs.YtogpbgkafkalnaaDoor
open Go.RowKit Go.Lib

/-- the writer in block b has written l -/
def Says (B b : Nat) (l : List UInt8) (w : World) : Prop := IsWr B b (byteCells l) w
theorem Says.below {B b : Nat} {l : List UInt8} {w w' : World} (h : Says B b l w) (hb : Below w.heap.size w w') : Says B b l w' := IsWr.below h hb
theorem Says.lt {B b : Nat} {l : List UInt8} {w : World} (h : Says B b l w) : b < w.heap.size := by
  rcases h with h | h
  · exact Lib.BuilderAt.lt h
  · exact Lib.BuilderAt.lt h
theorem Says.le {B b : Nat} {l : List UInt8} {w : World} (h : Says B b l w) : B ≤ b := by
  rcases h with h | h <;> exact h.1
/-- it returns v; the writer has written l by then -/
def Wrote2 (v : Value) (B b : Nat) (l : List UInt8) (w : World) (e : Ending) (w' : World) : Prop := e = .returned v ∧ Says B b l w' ∧ Wrote B b w w'

theorem wb_c (B b : Nat) (l : List UInt8) (c : UInt8) (w : World) (h : Says B b l w) (hlen : l.length + 1 ≤ 140737488355328) :
    Calls Tryd.prog 9 #[.pointer (some ⟨b, 0, none⟩), .int .u8 c.toNat] w (Wrote2 .nilIface B b (l ++ [c]) w) :=
  (writeByte_c B b _ _ w h (by rw [byteCells_length]; exact hlen) (by have := h.lt; have := h.le; omega)).mono fun e w' ⟨h1, h2, h3⟩ => ⟨h1, .inr (by rw [byteCells_append]; exact h2), h3⟩
theorem ws_c (B b : Nat) (l : List UInt8) (s : ByteArray) (m : List UInt8) (hm : s.data.toList = m) (w : World) (h : Says B b l w) (hlen : l.length + m.length ≤ 140737488355328) :
    Calls Tryd.prog 7 #[.pointer (some ⟨b, 0, none⟩), .string s] w (Wrote2 (.tuple #[.int .i64 s.size, .nilIface]) B b (l ++ m) w) :=
  (writeString_c B b _ s w h (by rw [byteCells_length]; subst hm; rw [Array.length_toList] at hlen; exact hlen) (by have := h.lt; have := h.le; omega)).mono fun e w' ⟨h1, h2, h3⟩ => ⟨h1, .inr (by rw [byteCells_append, ← hm, ← strCells_eq]; exact h2), h3⟩

/-- the library's table of powers, at a world -/
abbrev Tab (w : World) : Prop := TabIs Tryd.prog w "internal/strconv.uint64pow10" .u64 pow10Tab
theorem itoa_c (n : Int) (hn : wfi n) (w : World) (ht : Tab w) : Calls Tryd.prog 18 #[.int .i64 n] w (Gives (.string ⟨(itoa n).toArray⟩) w) :=
  (Tryd.strconv_Itoa n hn.1 hn.2 w ht).mono fun e w' ⟨h1, k, os, h2⟩ => ⟨h1, by rw [h2]; exact below_grow _ _ (Nat.le_refl _) _ _⟩

/-- a row of ints of the call's own -/
def IntRow (w : World) (g : Nat) (xs : List Int) : Prop := ∃ fr, w.heap[g]? = some (.cells ⟨xs.map (.int .i64)⟩ 3 fr)
theorem IntRow.cell {w : World} {g : Nat} {xs : List Int} (h : IntRow w g xs) {i : Nat} {x : Int} (hi : xs[i]? = some x) : w.cell? ⟨g, i, none⟩ = some (.int .i64 x) := by
  obtain ⟨fr, h⟩ := h
  rw [Lib.cell_of_heap h]
  simp [hi]
theorem IntRow.wrote {w w' : World} {g B b : Nat} {xs : List Int} (h : IntRow w g xs) (k : Wrote B b w w') (hb : g ≠ b) : IntRow w' g xs := by
  obtain ⟨fr, h⟩ := h
  exact ⟨fr, k.row h hb (by decide)⟩

set_option maxHeartbeats 1000000 in
set_option maxRecDepth 100000 in
theorem nums_c (B b g cap : Nat) (l : List UInt8) (xs : List Int) (w : World) (h : Says B b l w) (hr : IntRow w g xs) (hgb : g ≠ b) (hw : ∀ x ∈ xs, wfi x) (hlen : l.length + (numsFrom 0 xs).length ≤ 140737488355328) (hxs : xs.length ≤ 1000) (hcap : xs.length ≤ cap)
    (ht : ∀ w', Below B w w' → Tab w') :
    Calls Tryd.prog 8 #[.pointer (some ⟨b, 0, none⟩), .slice (some ⟨g, 0, none⟩) xs.length cap] w (Wrote2 (.tuple #[]) B b (l ++ numsFrom 0 xs) w) := by
  have HR := Lib.hid hr
  have HT := Lib.hid ht
  have HH := Lib.hid h
  have HW := Lib.hid hw
  have hbb : B ≤ w.heap.size := by have := h.lt; have := h.le; omega
  clear hr ht h hw
  go_enter Tryd.func8, Tryd.ntmps8
  go_wp2_with fail
  go_loopw [8] (fun k wr => ∃ kn : Nat, k = .int .i64 kn ∧ kn ≤ xs.length ∧ Hid (Says B b (l ++ numsFrom 0 (xs.take kn)) wr) ∧ Hid (Wrote B b w wr)) (fun k _ => xs.length - (RowKit.intOf k).toNat)
  case atStart => exact ⟨0, rfl, by omega, by simpa [Hid, numsFrom] using HH, Wrote.refl _ _ _⟩
  case round =>
    obtain ⟨kn, rfl, hk, KS, KW⟩ := hrel
    by_cases hlt : kn < xs.length
    · obtain ⟨x, hx⟩ : ∃ x, xs[kn]? = some x := ⟨_, List.getElem?_eq_getElem hlt⟩
      have c0 : wr.cell? ⟨g, kn, none⟩ = some (.int .i64 x) := (HR.out.wrote KW hgb).cell hx
      have wx := HW.out x (List.mem_of_getElem? hx)
      have WX := Lib.hid wx
      have NS := Lib.hid (numsFrom_step hx)
      have ln := nums_le xs (kn + 1)
      rw [NS.out] at ln
      simp only [List.length_append] at ln
      have LN := Lib.hid ln
      clear hx wx ln
      by_cases h0 : kn = 0
      · subst h0
        have TB : Hid (∀ E : Up wr, Tab E.to) := fun E => HT.out _ ((KW.out.below_ E.below).under hbb)
        go_wp2_with fail
        refine wp_region_up_tail 5 (by kernel_rfl) (by kernel_rfl) ?_
        simp only [List.take_succ_cons, List.take_zero, List.drop_succ_cons, List.drop_zero]
        repeat (go_big_quiet_step ((go_at_call 18; exact Calls.up (itoa_c x WX.out _ (TB.out _)))))
        refine wpQuiet_nil ?_
        rintro _ ⟨E, rfl⟩
        go_wp2_with fail
        refine (ws_c B b _ _ (itoa x) (by simp) E.to (KS.out.below E.below) (by have := LN.out; simp only [List.length_append] at *; simp only [if_true, List.length_nil] at this; omega)).mono ?_
        rintro e w3 ⟨rfl, k1, k2⟩
        have K1 := Lib.hid k1
        have K2 := Lib.hid k2
        clear k1 k2
        go_wp2_with fail
        go_roundw
        case rel => exact ⟨1, by go_num, by omega, by rw [show (1 : Nat) = 0 + 1 from rfl, NS.out]; simpa [Hid] using K1.out, (KW.out.below_ E.below).trans K2.out⟩
        case measure => simp [RowKit.intOf]; omega
      · have h0' : (0 : Int) < kn := by omega
        have LN2 : Hid ((l ++ numsFrom 0 (List.take kn xs)).length + 1 + (itoa x).length ≤ 140737488355328) := by
          have := LN.out; rw [if_neg h0] at this; simp only [Hid, List.length_append, List.length_singleton] at *; omega
        go_wp2_with fail
        refine (wb_c B b _ 32 wr KS.out (by have := LN2.out; omega)).mono ?_
        rintro e w2 ⟨rfl, k1, k2⟩
        have K1 := Lib.hid k1
        have K2 := Lib.hid (KW.out.trans k2)
        clear k1 k2
        have TB : Hid (∀ E : Up w2, Tab E.to) := fun E => HT.out _ ((K2.out.below_ E.below).under hbb)
        go_wp2_with fail
        refine wp_region_up_tail 5 (by kernel_rfl) (by kernel_rfl) ?_
        simp only [List.take_succ_cons, List.take_zero, List.drop_succ_cons, List.drop_zero]
        repeat (go_big_quiet_step ((go_at_call 18; exact Calls.up (itoa_c x WX.out _ (TB.out _)))))
        refine wpQuiet_nil ?_
        rintro _ ⟨E, rfl⟩
        go_wp2_with fail
        refine (ws_c B b _ _ (itoa x) (by simp) E.to (K1.out.below E.below) (by have := LN2.out; simp only [List.length_append, List.length_singleton] at *; omega)).mono ?_
        rintro e w3 ⟨rfl, k1, k2⟩
        have K3 := Lib.hid k1
        have K4 := Lib.hid k2
        clear k1 k2
        go_wp2_with fail
        go_roundw
        case rel => exact ⟨kn + 1, by go_num, by omega, by rw [NS.out, if_neg h0]; simpa [Hid] using K3.out, (K2.out.below_ E.below).trans K4.out⟩
        case measure => simp [RowKit.intOf]; omega
    · go_wp2_with fail
      go_end0
      refine ⟨rfl, ?_, KW.out⟩
      have := KS.out
      rwa [List.take_of_length_le (by omega)] at this
end Go.Proofs.YtogpbgkafkalnaaDoor
