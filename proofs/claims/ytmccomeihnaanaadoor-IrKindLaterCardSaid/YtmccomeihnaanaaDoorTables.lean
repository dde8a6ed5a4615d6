/- code.tables. -/
import Derived.Test.YtmccomeihnaanaaDoorLarge
import Derived.Test.YtmccomeihnaanaaDoorRight
import Derived.Test.YtmccomeihnaanaaDoorWords
import Derived.Maps.OwnOps
import Derived.Maps.Views
namespace Go.Proofs.YtmccomeihnaanaaDoor
open Go.RowKit Go.Maps

/-- a constant that no program may hold -/
def badC (len : Nat) (v : Val) : Bool := !rightV v || v.kind == 5 || (v.kind == 4 && decide ((len : Int) ≤ v.n))
def tablesM (p : CProg) : Bool := decide (19 ≤ p.texts.length) && decide (p.texts.take 19 = wordsM) && decide p.texts.Nodup && !p.consts.any (badC p.texts.length)

/-- the texts seen so far -/
def seenD (l : List ByteArray) : DataW Unit := l.foldl (fun d t => d.put (.string t.data.toList) (.lit (.int .i64 1))) (.map [])
theorem seenD_snoc (l : List ByteArray) (t : ByteArray) : seenD (l ++ [t]) = (seenD l).put (.string t.data.toList) (.lit (.int .i64 1)) := by simp [seenD, List.foldl_append]
theorem seenD_at (t : ByteArray) (z : DataW Unit) : ∀ (l : List ByteArray) (D : DataW Unit), IsMap D →
    (t ∈ l → (l.foldl (fun d t => d.put (.string t.data.toList) (.lit (.int .i64 1))) D).atKey (.string t.data.toList) z = .lit (.int .i64 1)) ∧
    (t ∉ l → (l.foldl (fun d t => d.put (.string t.data.toList) (.lit (.int .i64 1))) D).atKey (.string t.data.toList) z = D.atKey (.string t.data.toList) z)
  | [], D, _ => ⟨fun h => by simp at h, fun _ => rfl⟩
  | x :: l, D, h => by
    rw [List.foldl_cons]
    obtain ⟨i1, i2⟩ := seenD_at t z l _ (h.put (.string x.data.toList) (.lit (.int .i64 1)))
    refine ⟨fun hm => ?_, fun hm => ?_⟩
    · by_cases h1 : t ∈ l
      · exact i1 h1
      · rw [i2 h1]
        rcases List.mem_cons.1 hm with h2 | h2
        · subst h2
          exact atKey_put_same h (show WideAt.IsKeyLit (.string _) from trivial) _ _
        · exact absurd h2 h1
    · rw [i2 (fun h => hm (List.mem_cons_of_mem _ h))]
      refine atKey_put_other (fun e => hm ?_) _ _
      injection e with e
      have : x = t := by cases t with | mk a => cases x with | mk b => cases a; cases b; simp_all
      exact this ▸ List.mem_cons_self
theorem seenD_hit {t : ByteArray} {l : List ByteArray} (h : t ∈ l) : (seenD l).atKey (.string t.data.toList) (.lit (.int .i64 0)) = .lit (.int .i64 1) := (seenD_at t _ l _ isMap_empty).1 h
theorem seenD_miss {t : ByteArray} {l : List ByteArray} (h : t ∉ l) : (seenD l).atKey (.string t.data.toList) (.lit (.int .i64 0)) = .lit (.int .i64 0) := (seenD_at t _ l _ isMap_empty).2 h
theorem lit_inj {c d : Int} (h : (DataW.lit (.int .i64 c) : DataW Unit) = .lit (.int .i64 d)) : c = d := by injection h with h; injection h

set_option maxHeartbeats 1000000 in
set_option maxRecDepth 100000 in
theorem tables1_c (v : Val) (pb : Nat) (A : Option Addr) (len cap : Nat) (w : World) (hc : w.cell? ⟨pb, 2, none⟩ = some (.slice A len cap)) :
    Calls Tryd.prog 108 #[.agg #[.int .i64 v.kind, .int .i64 v.n], .pointer (some ⟨pb, 0, none⟩)] w (Gives (.bool (badC len v)) w) := by
  obtain ⟨k, n⟩ := v
  obtain ⟨r, hr⟩ : ∃ r, badC len ⟨k, n⟩ = r := ⟨_, rfl⟩
  rw [hr]
  unfold badC at hr
  obtain ⟨q, hq⟩ : ∃ q, rightV ⟨k, n⟩ = q := ⟨_, rfl⟩
  obtain ⟨w0, hw0⟩ : ∃ w0, w0 = w.alloc (.cells #[.int .i64 k, .int .i64 n] 41) := ⟨_, rfl⟩
  have C : Hid (Calls Tryd.prog 76 #[.agg #[.int .i64 k, .int .i64 n]] w0 (Gives (.bool q) w0)) := by rw [← hq]; exact right_c ⟨k, n⟩ w0
  have f0 : w0.cell? ⟨w.heap.size, 0, none⟩ = some (.int .i64 k) := by rw [hw0]; exact one_cell _ _ _ _
  have f1 : w0.cell? ⟨w.heap.size, 1, none⟩ = some (.int .i64 n) := by rw [hw0]; exact one_cell _ _ _ _
  have f2 : w0.cell? ⟨pb, 2, none⟩ = some (.slice A len cap) := by rw [hw0]; exact old_one hc _
  have F0 := Lib.hid f0
  have F1 := Lib.hid f1
  have F2 := Lib.hid f2
  have k0 : Hid (Below w.heap.size w w0) := by rw [hw0]; exact below_one w _
  have HW := Lib.hid hw0
  rw [hq] at hr
  clear f0 f1 f2 hw0 hq hc
  cases q
  · have HR : Hid (true = r) := by rw [← hr]; rfl
    clear hr
    go_enter Tryd.func108, Tryd.ntmps108
    go_wp2_with fail
    rw [← HW.out]
    refine C.out.mono ?_
    rintro e w1 ⟨rfl, k1⟩
    have K := Lib.hid (k0.out.trans (k1.mono k0.out.size))
    clear k1
    go_wp2_with fail
    go_ret
    exact ⟨by rw [← HR.out]; rfl, K.out⟩
  by_cases h5 : k = 5
  · subst h5
    have HR : Hid (true = r) := by rw [← hr]; rfl
    clear hr
    go_enter Tryd.func108, Tryd.ntmps108
    go_wp2_with fail
    rw [← HW.out]
    refine C.out.mono ?_
    rintro e w1 ⟨rfl, k1⟩
    have g0 := cell_on k1 F0.out
    have K := Lib.hid (k0.out.trans (k1.mono k0.out.size))
    clear k1
    go_wp2_with fail
    go_ret
    exact ⟨by rw [← HR.out]; rfl, K.out⟩
  by_cases h4 : k = 4
  · subst h4
    have HR : Hid (decide ((len : Int) ≤ n) = r) := by rw [← hr]; rfl
    clear hr h5
    go_enter Tryd.func108, Tryd.ntmps108
    go_wp2_with fail
    rw [← HW.out]
    refine C.out.mono ?_
    rintro e w1 ⟨rfl, k1⟩
    have g0 := cell_on k1 F0.out
    have g1 := cell_on k1 F1.out
    have g2 := cell_on k1 F2.out
    have K := Lib.hid (k0.out.trans (k1.mono k0.out.size))
    clear k1
    go_wp2_with fail
    go_ret
    exact ⟨by rw [← HR.out]; rfl, K.out⟩
  have HR : Hid (false = r) := by
    rw [← hr]
    show false = (false || k == 5 || (k == 4 && decide ((len : Int) ≤ n)))
    rw [beq_eq_false_iff_ne.2 h5, beq_eq_false_iff_ne.2 h4]
    rfl
  clear hr
  go_enter Tryd.func108, Tryd.ntmps108
  go_wp2_with fail
  rw [← HW.out]
  refine C.out.mono ?_
  rintro e w1 ⟨rfl, k1⟩
  have g0 := cell_on k1 F0.out
  have K := Lib.hid (k0.out.trans (k1.mono k0.out.size))
  clear k1
  go_wp2_with fail
  go_ret
  refine ⟨?_, K.out⟩
  show Ending.returned (.bool (k == 5)) = _
  rw [beq_eq_false_iff_ne.2 h5, ← HR.out]
theorem enters_tables1 : ∀ args W, (callFunc 108 args).run Tryd.prog W = .ok (.enter 108 args) W := enters_of Tryd.func108 (by kernel_rfl) rfl
end Go.Proofs.YtmccomeihnaanaaDoor
