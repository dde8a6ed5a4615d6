/- sink: lists of whole numbers, and who is named by an exit. -/
import Derived.Test.YtlnkjmgfkpeicaaGreatDoorCutC
import Derived.Test.YtlnkjmgfkpeicaaGreatDoorOwn
namespace Go.Proofs.YtlnkjmgfkpeicaaGreatDoor
open Go.RowKit


set_option maxHeartbeats 1000000 in
set_option maxRecDepth 100000 in
theorem indexFunc_sets {α : Type} (R : List Value → α → Prop) (p : α → Bool) (A : Option Addr) (cap : Nat) (xs : List α) (fid : FuncId) (hen : ∀ args W, (callFunc fid args).run Tryz.prog W = .ok (.enter fid args) W) (caps : Array Value) (w : World) (hs : SliceR w w.heap.size 2 R (.slice A xs.length cap) xs)
    (hp : ∀ (w1 : World), Below w.heap.size w w1 → ∀ (x : α) (cs : List Value), x ∈ xs → R cs x → Calls Tryz.prog fid (#[.agg ⟨cs⟩] ++ caps) w1 (Gives (.bool (p x)) w1)) :
    Calls Tryz.prog 75 #[.slice A xs.length cap, .func (.func fid) #[] caps] w (Gives (.int .i64 (findM p xs)) w) := by
  have HS := Lib.hid hs
  have HP := Lib.hid hp
  have hl : xs.length ≤ cap ∧ cap ≤ maxLen := by obtain ⟨A', c', e, e1, e2, -⟩ := hs; injection e with _ _ e3; subst e3; exact ⟨e1, e2⟩
  obtain ⟨hl1, hl0⟩ := hl
  unfold maxLen at hl0
  clear hs hp
  go_enter Tryz.func75, Tryz.ntmps75
  go_wp2_with fail
  go_loopw [8] (fun k wr => ∃ kn : Nat, k = .int .i64 kn ∧ kn ≤ xs.length ∧ Hid (∀ i x, i < kn → xs[i]? = some x → p x = false) ∧ Hid (Below w.heap.size w wr)) (fun k _ => xs.length - (RowKit.intOf k).toNat)
  case atStart => exact ⟨0, rfl, by omega, fun i x hi _ => by omega, Below.refl _ _⟩
  case round =>
    obtain ⟨kn, rfl, hk, KP, KW⟩ := hrel
    by_cases hlt : kn < xs.length
    · obtain ⟨b, off, x, cs, rfl, hb, hx0, hcl, hR, hat⟩ := HS.out.at_ hlt
      match cs, hcl with
      | [c0, c1], _ =>
        have hi1 : (kn : Int) < xs.length := by omega
        have g0 : wr.cell? ⟨b, off + kn * 2, none⟩ = some c0 := (KW.out.cell hb).trans (hat 0 _ rfl)
        have g1 : wr.cell? ⟨b, off + kn * 2 + 1, none⟩ = some c1 := (KW.out.cell hb).trans (hat 1 _ rfl)
        have HC := Lib.hid (HP.out wr KW.out x _ (List.mem_of_getElem? hx0) hR)
        have HX := Lib.hid hx0
        clear hx0 hat hR
        cases hpx : p x
        · have HF := Lib.hid hpx
          rw [hpx] at HC
          clear hpx
          go_wp2_with fail
          refine HC.out.mono ?_
          rintro e w2 ⟨rfl, k2⟩
          have K2 := Lib.hid (Below.trans KW.out (k2.mono KW.out.size))
          clear k2 g0 g1
          go_wp2_with fail
          go_roundw
          case rel => exact ⟨kn + 1, by go_num, by omega, fun i y hi hy => by
            rcases Nat.lt_or_ge i kn with h | h
            · exact KP.out i y h hy
            · have : i = kn := by omega
              subst this
              rw [HX.out] at hy
              injection hy with hy
              subst hy
              exact HF.out, K2⟩
          case measure => simp [RowKit.intOf]; omega
        · have HF := Lib.hid (findM_hit KP.out HX.out hpx)
          rw [hpx] at HC
          clear hpx
          go_wp2_with fail
          refine HC.out.mono ?_
          rintro e w2 ⟨rfl, k2⟩
          have K2 := Lib.hid (Below.trans KW.out (k2.mono KW.out.size))
          clear k2 g0 g1
          go_wp2_with fail
          go_ret
          exact ⟨by rw [HF.out]; rfl, K2.out⟩
    · have HF := Lib.hid (findM_none (p := p) (xs := xs) (fun i x hi => KP.out i x (by have := (List.getElem?_eq_some_iff.1 hi).1; omega) hi))
      go_wp2_with fail
      go_ret
      exact ⟨by rw [HF.out]; rfl, KW.out⟩
set_option maxHeartbeats 1000000 in
theorem containsFunc_sets {α : Type} (R : List Value → α → Prop) (p : α → Bool) (A : Option Addr) (cap : Nat) (xs : List α) (fid : FuncId) (hen : ∀ args W, (callFunc fid args).run Tryz.prog W = .ok (.enter fid args) W) (caps : Array Value) (w : World) (hs : SliceR w w.heap.size 2 R (.slice A xs.length cap) xs)
    (hp : ∀ (w1 : World), Below w.heap.size w w1 → ∀ (x : α) (cs : List Value), x ∈ xs → R cs x → Calls Tryz.prog fid (#[.agg ⟨cs⟩] ++ caps) w1 (Gives (.bool (p x)) w1)) :
    Calls Tryz.prog 54 #[.slice A xs.length cap, .func (.func fid) #[] caps] w (Gives (.bool (xs.any p)) w) := by
  have HC := Lib.hid (indexFunc_sets R p A cap xs fid hen caps w hs hp)
  have HB := Lib.hid (findM_any p xs)
  clear hs hp hen
  go_enter Tryz.func54, Tryz.ntmps54
  go_wp2_with fail
  refine HC.out.mono ?_
  rintro e w1 ⟨rfl, k1⟩
  have K1 := Lib.hid k1
  clear k1
  go_wp2_with fail
  go_ret
  exact ⟨by rw [HB.out]; rfl, K1.out⟩


set_option maxHeartbeats 1000000 in
set_option maxRecDepth 100000 in
theorem indexFunc_makes {α : Type} (R : List Value → α → Prop) (p : α → Bool) (A : Option Addr) (cap : Nat) (xs : List α) (fid : FuncId) (hen : ∀ args W, (callFunc fid args).run Tryz.prog W = .ok (.enter fid args) W) (caps : Array Value) (w : World) (hs : SliceR w w.heap.size 4 R (.slice A xs.length cap) xs)
    (hp : ∀ (w1 : World), Below w.heap.size w w1 → ∀ (x : α) (cs : List Value), x ∈ xs → R cs x → Calls Tryz.prog fid (#[.agg ⟨cs⟩] ++ caps) w1 (Gives (.bool (p x)) w1)) :
    Calls Tryz.prog 76 #[.slice A xs.length cap, .func (.func fid) #[] caps] w (Gives (.int .i64 (findM p xs)) w) := by
  have HS := Lib.hid hs
  have HP := Lib.hid hp
  have hl : xs.length ≤ cap ∧ cap ≤ maxLen := by obtain ⟨A', c', e, e1, e2, -⟩ := hs; injection e with _ _ e3; subst e3; exact ⟨e1, e2⟩
  obtain ⟨hl1, hl0⟩ := hl
  unfold maxLen at hl0
  clear hs hp
  go_enter Tryz.func76, Tryz.ntmps76
  go_wp2_with fail
  go_loopw [8] (fun k wr => ∃ kn : Nat, k = .int .i64 kn ∧ kn ≤ xs.length ∧ Hid (∀ i x, i < kn → xs[i]? = some x → p x = false) ∧ Hid (Below w.heap.size w wr)) (fun k _ => xs.length - (RowKit.intOf k).toNat)
  case atStart => exact ⟨0, rfl, by omega, fun i x hi _ => by omega, Below.refl _ _⟩
  case round =>
    obtain ⟨kn, rfl, hk, KP, KW⟩ := hrel
    by_cases hlt : kn < xs.length
    · obtain ⟨b, off, x, cs, rfl, hb, hx0, hcl, hR, hat⟩ := HS.out.at_ hlt
      match cs, hcl with
      | [c0, c1, c2, c3], _ =>
        have hi1 : (kn : Int) < xs.length := by omega
        have g0 : wr.cell? ⟨b, off + kn * 4, none⟩ = some c0 := (KW.out.cell hb).trans (hat 0 _ rfl)
        have g1 : wr.cell? ⟨b, off + kn * 4 + 1, none⟩ = some c1 := (KW.out.cell hb).trans (hat 1 _ rfl)
        have g2 : wr.cell? ⟨b, off + kn * 4 + 2, none⟩ = some c2 := (KW.out.cell hb).trans (hat 2 _ rfl)
        have g3 : wr.cell? ⟨b, off + kn * 4 + 3, none⟩ = some c3 := (KW.out.cell hb).trans (hat 3 _ rfl)
        have HC := Lib.hid (HP.out wr KW.out x _ (List.mem_of_getElem? hx0) hR)
        have HX := Lib.hid hx0
        clear hx0 hat hR
        cases hpx : p x
        · have HF := Lib.hid hpx
          rw [hpx] at HC
          clear hpx
          go_wp2_with fail
          refine HC.out.mono ?_
          rintro e w2 ⟨rfl, k2⟩
          have K2 := Lib.hid (Below.trans KW.out (k2.mono KW.out.size))
          clear k2 g0 g1 g2 g3
          go_wp2_with fail
          go_roundw
          case rel => exact ⟨kn + 1, by go_num, by omega, fun i y hi hy => by
            rcases Nat.lt_or_ge i kn with h | h
            · exact KP.out i y h hy
            · have : i = kn := by omega
              subst this
              rw [HX.out] at hy
              injection hy with hy
              subst hy
              exact HF.out, K2⟩
          case measure => simp [RowKit.intOf]; omega
        · have HF := Lib.hid (findM_hit KP.out HX.out hpx)
          rw [hpx] at HC
          clear hpx
          go_wp2_with fail
          refine HC.out.mono ?_
          rintro e w2 ⟨rfl, k2⟩
          have K2 := Lib.hid (Below.trans KW.out (k2.mono KW.out.size))
          clear k2 g0 g1 g2 g3
          go_wp2_with fail
          go_ret
          exact ⟨by rw [HF.out]; rfl, K2.out⟩
    · have HF := Lib.hid (findM_none (p := p) (xs := xs) (fun i x hi => KP.out i x (by have := (List.getElem?_eq_some_iff.1 hi).1; omega) hi))
      go_wp2_with fail
      go_ret
      exact ⟨by rw [HF.out]; rfl, KW.out⟩
set_option maxHeartbeats 1000000 in
theorem containsFunc_makes {α : Type} (R : List Value → α → Prop) (p : α → Bool) (A : Option Addr) (cap : Nat) (xs : List α) (fid : FuncId) (hen : ∀ args W, (callFunc fid args).run Tryz.prog W = .ok (.enter fid args) W) (caps : Array Value) (w : World) (hs : SliceR w w.heap.size 4 R (.slice A xs.length cap) xs)
    (hp : ∀ (w1 : World), Below w.heap.size w w1 → ∀ (x : α) (cs : List Value), x ∈ xs → R cs x → Calls Tryz.prog fid (#[.agg ⟨cs⟩] ++ caps) w1 (Gives (.bool (p x)) w1)) :
    Calls Tryz.prog 56 #[.slice A xs.length cap, .func (.func fid) #[] caps] w (Gives (.bool (xs.any p)) w) := by
  have HC := Lib.hid (indexFunc_makes R p A cap xs fid hen caps w hs hp)
  have HB := Lib.hid (findM_any p xs)
  clear hs hp hen
  go_enter Tryz.func56, Tryz.ntmps56
  go_wp2_with fail
  refine HC.out.mono ?_
  rintro e w1 ⟨rfl, k1⟩
  have K1 := Lib.hid k1
  clear k1
  go_wp2_with fail
  go_ret
  exact ⟨by rw [HB.out]; rfl, K1.out⟩


theorem infoOf_ext : (Tryz.prog.info? 32).map (fun i => (i.zero.map (·.cells.size), i.size, i.bytes)) = some (some 4, 4, 64) := by kernel_rfl
set_option maxHeartbeats 1000000 in
set_option maxRecDepth 100000 in
theorem clone_ext (v : Value) (rows : List (List Value)) (w : World) (hs : SliceR w w.heap.size 4 (Raw 4) v rows) (h1 : ∀ r ∈ rows, ∀ u ∈ r, u.oneCell' = true) (hlen : rows.length * 64 ≤ 140737488355328) :
    Calls Tryz.prog 37 #[v] w fun e w' => ∃ u, e = .returned u ∧ w'.ownsRow w.heap.size 32 4 u rows.length (rows.flatMap id) ∧ Below w.heap.size w w' := by
  have hraw : ∀ x ∈ rows, x.length = 4 := fun x hx => by obtain ⟨cs, _, h⟩ := hs.mem hx; exact h
  obtain ⟨A, cap, rfl, hc1, hc2, hc3⟩ := id hs
  cases A with
  | none =>
    have e : rows = [] := by
      rcases Nat.eq_zero_or_pos rows.length with h | h
      · exact List.length_eq_zero_iff.1 h
      · obtain ⟨b, off, h, _⟩ := hc3 h; cases h
    subst e
    have hn : ∀ W, (binOp .eql 28 (.slice none 0 cap) (.slice none 0 0)).run Tryz.prog W = .ok (.bool true) W := fun W => Lib.run_eql_slice_nil W _ _ _ _ _ _ _ Tryz.underlying28
    clear hc3 hs hraw h1
    simp only [List.length_nil] at *
    go_enter Tryz.func37, Tryz.ntmps37
    go_wp2_with fail
    go_ret
    exact ⟨_, rfl, World.ownsRow_nil _ _ _ _, Below.refl _ _⟩
  | some ad =>
    have hn : ∀ W, (binOp .eql 28 (.slice (some ad) rows.length cap) (.slice none 0 0)).run Tryz.prog W = .ok (.bool false) W := fun W => Lib.run_eql_slice_nil W _ _ _ _ _ _ _ Tryz.underlying28
    have hnews : ∀ j u, (rows.flatMap id)[j]? = some u → w.cell? (ad.add j) = some u := by
      rcases Nat.eq_zero_or_pos rows.length with h | h
      · have e : rows = [] := List.length_eq_zero_iff.1 h
        subst e; simp
      · obtain ⟨b, off, h, _⟩ := hc3 h
        injection h with h
        subst h
        exact news_of_slice (by decide) hraw (fun cs x h => h.1) hs
    obtain ⟨i0, hi, hq⟩ := Option.map_eq_some_iff.1 infoOf_ext
    simp only [Prod.mk.injEq] at hq
    obtain ⟨hz, hz1, hz2⟩ := hq
    obtain ⟨z, hz0, hz3⟩ := Option.map_eq_some_iff.1 hz
    have HS := Lib.hid hnews
    have HI := Lib.hid hi
    have HZ := Lib.hid hz0
    have HZ1 := Lib.hid hz1
    have HZ2 := Lib.hid hz2
    have HZ3 := Lib.hid hz3
    have hl : rows.length ≤ maxLen := by unfold maxLen; omega
    have HL := Lib.hid hl
    have HR := Lib.hid hraw
    have HO := Lib.hid (ones_flat (f := id) rows h1)
    have HF := Lib.hid (flat_len (f := id) rows hraw)
    clear hnews hi hz0 hz1 hz2 hz3 hz hl hraw h1 hs hc3
    go_enter Tryz.func37, Tryz.ntmps37
    go_wp2_with (at_builtin; refine wpList_append_own _ rfl _ _ 28 rfl w.heap.size 32 i0 z 4 64 Tryz.underlying28 HI.out HZ.out HZ1.out HZ2.out HZ3.out (by decide) (.slice (some ⟨w.heap.size, 0, none⟩) 0 0) 0 [] rfl (own_empty _ _ _) ad rows.length cap (rows.flatMap id) rfl HF.out (fun j u hj => old_one (HS.out j u hj) _) HO.out (by rw [Nat.zero_add]; exact HL.out) (by rw [Nat.zero_add]; exact hlen) (by simp) ?_)
    intro v' w6 hown hg _
    have KG := Lib.hid hg
    have KO := Lib.hid hown
    clear hg hown
    go_wp2_with fail
    go_ret
    refine ⟨_, rfl, by simpa using KO.out, Below.grown (below_one w _) KG.out (by simp) (by simp [Value.ownBlock])⟩


theorem infoOf_mak : (Tryz.prog.info? 89).map (fun i => (i.zero.map (·.cells.size), i.size, i.bytes)) = some (some 4, 4, 48) := by kernel_rfl
set_option maxHeartbeats 1000000 in
set_option maxRecDepth 100000 in
theorem clone_mak (v : Value) (rows : List (List Value)) (w : World) (hs : SliceR w w.heap.size 4 (Raw 4) v rows) (h1 : ∀ r ∈ rows, ∀ u ∈ r, u.oneCell' = true) (hlen : rows.length * 48 ≤ 140737488355328) :
    Calls Tryz.prog 38 #[v] w fun e w' => ∃ u, e = .returned u ∧ w'.ownsRow w.heap.size 89 4 u rows.length (rows.flatMap id) ∧ Below w.heap.size w w' := by
  have hraw : ∀ x ∈ rows, x.length = 4 := fun x hx => by obtain ⟨cs, _, h⟩ := hs.mem hx; exact h
  obtain ⟨A, cap, rfl, hc1, hc2, hc3⟩ := id hs
  cases A with
  | none =>
    have e : rows = [] := by
      rcases Nat.eq_zero_or_pos rows.length with h | h
      · exact List.length_eq_zero_iff.1 h
      · obtain ⟨b, off, h, _⟩ := hc3 h; cases h
    subst e
    have hn : ∀ W, (binOp .eql 30 (.slice none 0 cap) (.slice none 0 0)).run Tryz.prog W = .ok (.bool true) W := fun W => Lib.run_eql_slice_nil W _ _ _ _ _ _ _ Tryz.underlying30
    clear hc3 hs hraw h1
    simp only [List.length_nil] at *
    go_enter Tryz.func38, Tryz.ntmps38
    go_wp2_with fail
    go_ret
    exact ⟨_, rfl, World.ownsRow_nil _ _ _ _, Below.refl _ _⟩
  | some ad =>
    have hn : ∀ W, (binOp .eql 30 (.slice (some ad) rows.length cap) (.slice none 0 0)).run Tryz.prog W = .ok (.bool false) W := fun W => Lib.run_eql_slice_nil W _ _ _ _ _ _ _ Tryz.underlying30
    have hnews : ∀ j u, (rows.flatMap id)[j]? = some u → w.cell? (ad.add j) = some u := by
      rcases Nat.eq_zero_or_pos rows.length with h | h
      · have e : rows = [] := List.length_eq_zero_iff.1 h
        subst e; simp
      · obtain ⟨b, off, h, _⟩ := hc3 h
        injection h with h
        subst h
        exact news_of_slice (by decide) hraw (fun cs x h => h.1) hs
    obtain ⟨i0, hi, hq⟩ := Option.map_eq_some_iff.1 infoOf_mak
    simp only [Prod.mk.injEq] at hq
    obtain ⟨hz, hz1, hz2⟩ := hq
    obtain ⟨z, hz0, hz3⟩ := Option.map_eq_some_iff.1 hz
    have HS := Lib.hid hnews
    have HI := Lib.hid hi
    have HZ := Lib.hid hz0
    have HZ1 := Lib.hid hz1
    have HZ2 := Lib.hid hz2
    have HZ3 := Lib.hid hz3
    have hl : rows.length ≤ maxLen := by unfold maxLen; omega
    have HL := Lib.hid hl
    have HR := Lib.hid hraw
    have HO := Lib.hid (ones_flat (f := id) rows h1)
    have HF := Lib.hid (flat_len (f := id) rows hraw)
    clear hnews hi hz0 hz1 hz2 hz3 hz hl hraw h1 hs hc3
    go_enter Tryz.func38, Tryz.ntmps38
    go_wp2_with (at_builtin; refine wpList_append_own _ rfl _ _ 30 rfl w.heap.size 89 i0 z 4 48 Tryz.underlying30 HI.out HZ.out HZ1.out HZ2.out HZ3.out (by decide) (.slice (some ⟨w.heap.size, 0, none⟩) 0 0) 0 [] rfl (own_empty _ _ _) ad rows.length cap (rows.flatMap id) rfl HF.out (fun j u hj => old_one (HS.out j u hj) _) HO.out (by rw [Nat.zero_add]; exact HL.out) (by rw [Nat.zero_add]; exact hlen) (by simp) ?_)
    intro v' w6 hown hg _
    have KG := Lib.hid hg
    have KO := Lib.hid hown
    clear hg hown
    go_wp2_with fail
    go_ret
    refine ⟨_, rfl, by simpa using KO.out, Below.grown (below_one w _) KG.out (by simp) (by simp [Value.ownBlock])⟩


theorem infoOf_int : (Tryz.prog.info? 3).map (fun i => (i.zero.map (·.cells.size), i.size, i.bytes)) = some (some 1, 1, 8) := by kernel_rfl
set_option maxHeartbeats 1000000 in
set_option maxRecDepth 100000 in
theorem clone_int (v : Value) (rows : List (List Value)) (w : World) (hs : SliceR w w.heap.size 1 (Raw 1) v rows) (h1 : ∀ r ∈ rows, ∀ u ∈ r, u.oneCell' = true) (hlen : rows.length * 8 ≤ 140737488355328) :
    Calls Tryz.prog 59 #[v] w fun e w' => ∃ u, e = .returned u ∧ w'.ownsRow w.heap.size 3 1 u rows.length (rows.flatMap id) ∧ Below w.heap.size w w' := by
  have hraw : ∀ x ∈ rows, x.length = 1 := fun x hx => by obtain ⟨cs, _, h⟩ := hs.mem hx; exact h
  obtain ⟨A, cap, rfl, hc1, hc2, hc3⟩ := id hs
  cases A with
  | none =>
    have e : rows = [] := by
      rcases Nat.eq_zero_or_pos rows.length with h | h
      · exact List.length_eq_zero_iff.1 h
      · obtain ⟨b, off, h, _⟩ := hc3 h; cases h
    subst e
    have hn : ∀ W, (binOp .eql 47 (.slice none 0 cap) (.slice none 0 0)).run Tryz.prog W = .ok (.bool true) W := fun W => Lib.run_eql_slice_nil W _ _ _ _ _ _ _ Tryz.underlying47
    clear hc3 hs hraw h1
    simp only [List.length_nil] at *
    go_enter Tryz.func59, Tryz.ntmps59
    go_wp2_with fail
    go_ret
    exact ⟨_, rfl, World.ownsRow_nil _ _ _ _, Below.refl _ _⟩
  | some ad =>
    have hn : ∀ W, (binOp .eql 47 (.slice (some ad) rows.length cap) (.slice none 0 0)).run Tryz.prog W = .ok (.bool false) W := fun W => Lib.run_eql_slice_nil W _ _ _ _ _ _ _ Tryz.underlying47
    have hnews : ∀ j u, (rows.flatMap id)[j]? = some u → w.cell? (ad.add j) = some u := by
      rcases Nat.eq_zero_or_pos rows.length with h | h
      · have e : rows = [] := List.length_eq_zero_iff.1 h
        subst e; simp
      · obtain ⟨b, off, h, _⟩ := hc3 h
        injection h with h
        subst h
        exact news_of_slice (by decide) hraw (fun cs x h => h.1) hs
    obtain ⟨i0, hi, hq⟩ := Option.map_eq_some_iff.1 infoOf_int
    simp only [Prod.mk.injEq] at hq
    obtain ⟨hz, hz1, hz2⟩ := hq
    obtain ⟨z, hz0, hz3⟩ := Option.map_eq_some_iff.1 hz
    have HS := Lib.hid hnews
    have HI := Lib.hid hi
    have HZ := Lib.hid hz0
    have HZ1 := Lib.hid hz1
    have HZ2 := Lib.hid hz2
    have HZ3 := Lib.hid hz3
    have hl : rows.length ≤ maxLen := by unfold maxLen; omega
    have HL := Lib.hid hl
    have HR := Lib.hid hraw
    have HO := Lib.hid (ones_flat (f := id) rows h1)
    have HF := Lib.hid (flat_len (f := id) rows hraw)
    clear hnews hi hz0 hz1 hz2 hz3 hz hl hraw h1 hs hc3
    go_enter Tryz.func59, Tryz.ntmps59
    go_wp2_with (at_builtin; refine wpList_append_own _ rfl _ _ 47 rfl w.heap.size 3 i0 z 1 8 Tryz.underlying47 HI.out HZ.out HZ1.out HZ2.out HZ3.out (by decide) (.slice (some ⟨w.heap.size, 0, none⟩) 0 0) 0 [] rfl (own_empty _ _ _) ad rows.length cap (rows.flatMap id) rfl HF.out (fun j u hj => old_one (HS.out j u hj) _) HO.out (by rw [Nat.zero_add]; exact HL.out) (by rw [Nat.zero_add]; exact hlen) (by simp) ?_)
    intro v' w6 hown hg _
    have KG := Lib.hid hg
    have KO := Lib.hid hown
    clear hg hown
    go_wp2_with fail
    go_ret
    refine ⟨_, rfl, by simpa using KO.out, Below.grown (below_one w _) KG.out (by simp) (by simp [Value.ownBlock])⟩

set_option maxHeartbeats 1000000 in
set_option maxRecDepth 100000 in
theorem index_c (v : Value) (xs : List Int) (x : Int) (w : World) (hs : SliceR w w.heap.size 1 IntR v xs) : Calls Tryz.prog 33 #[v, .int .i64 x] w (fun e w' => ∃ k : Int, e = .returned (.int .i64 k) ∧ (0 ≤ k ↔ x ∈ xs) ∧ (-1 ≤ k ∧ k < xs.length ∧ (k = 0 → xs[0]? = some x)) ∧ Below w.heap.size w w') := by
  have HS := Lib.hid hs
  obtain ⟨A, cap, rfl, l1, l2, -⟩ := id hs
  unfold maxLen at l2
  clear hs
  go_enter Tryz.func33, Tryz.ntmps33
  go_wp2_with fail
  go_loopw [8] (fun i wr => ∃ j : Nat, i = .int .i64 j ∧ j ≤ xs.length ∧ Hid (x ∉ xs.take j) ∧ Hid (Below w.heap.size w wr)) (fun i _ => xs.length - (RowKit.intOf i).toNat)
  case atStart => exact ⟨0, rfl, by omega, by rw [List.take_zero]; exact List.not_mem_nil, Below.refl _ _⟩
  case round =>
    obtain ⟨j, rfl, hj, KN, KW⟩ := hrel
    by_cases hlt : j < xs.length
    · obtain ⟨b, off, y, ys, rfl, hb, hy, -, ⟨rfl, wy⟩, hat⟩ := HS.out.at_ hlt
      have hji : (j : Int) < xs.length := by omega
      have g0 : wr.cell? ⟨b, off + j, none⟩ = some (.int .i64 y) := (KW.out.cell hb).trans (by simpa using hat 0 _ rfl)
      have HY := Lib.hid hy
      clear hat hy wy
      by_cases c : x = y
      · have HM : Hid (x ∈ xs) := by rw [c]; exact List.mem_of_getElem? HY.out
        have b1 : (x == y) = true := beq_iff_eq.2 c
        go_wp2_with fail
        go_ret
        exact ⟨_, rfl, ⟨fun _ => HM.out, fun _ => by omega⟩, ⟨by omega, by omega, fun h => by (have h9 : j = 0 := by omega); subst h9; rw [c]; exact HY.out⟩, KW.out⟩
      · have b1 : (x == y) = false := beq_eq_false_iff_ne.2 c
        have HN : Hid (x ∉ xs.take (j + 1)) := by
          rw [show Hid _ = (x ∉ xs.take (j + 1)) from rfl, take_snoc HY.out, List.mem_append]
          rintro (h | h)
          · exact KN.out h
          · simp at h; exact c h
        go_wp2_with fail
        go_roundw
        case rel => exact ⟨j + 1, by go_num, by omega, HN.out, KW.out⟩
        case measure => simp [RowKit.intOf]; omega
    · have hji : ¬ (j : Int) < xs.length := by omega
      have HM : Hid (x ∉ xs) := by have := KN.out; rwa [List.take_of_length_le (by omega)] at this
      go_wp2_with fail
      go_ret
      exact ⟨_, rfl, ⟨fun h => by omega, fun h => absurd h HM.out⟩, ⟨by omega, by omega, fun h => by omega⟩, KW.out⟩
set_option maxHeartbeats 1000000 in
set_option maxRecDepth 100000 in
theorem contains_c (v : Value) (xs : List Int) (x : Int) (w : World) (hs : SliceR w w.heap.size 1 IntR v xs) : Calls Tryz.prog 34 #[v, .int .i64 x] w (Gives (.bool (decide (x ∈ xs))) w) := by
  have IC := Lib.hid (index_c v xs x w hs)
  obtain ⟨A, cap, rfl, -⟩ := hs
  obtain ⟨r, hr⟩ : ∃ r, decide (x ∈ xs) = r := ⟨_, rfl⟩
  rw [hr]
  have HR := Lib.hid hr
  clear hr
  go_enter Tryz.func34, Tryz.ntmps34
  go_wp2_with fail
  refine IC.out.mono ?_
  rintro e w1 ⟨k, rfl, hk, -, k1⟩
  have K1 := Lib.hid k1
  have HK := Lib.hid hk
  clear k1 hk
  go_wp2_with fail
  go_ret
  exact ⟨by rw [← HR.out, show decide (x ∈ xs) = decide (0 ≤ k) from decide_eq_decide.2 HK.out.symm]; rfl, K1.out⟩
set_option maxHeartbeats 1000000 in
set_option maxRecDepth 100000 in
theorem equal_ints (A A' : Option Addr) (cap cap' : Nat) (xs ys : List Int) (w : World) (h1 : SliceR w w.heap.size 1 IntR (.slice A xs.length cap) xs) (h2 : SliceR w w.heap.size 1 IntR (.slice A' ys.length cap') ys) :
    Calls Tryz.prog 77 #[.slice A xs.length cap, .slice A' ys.length cap'] w (Gives (.bool (decide (xs = ys))) w) := by
  have H1 := Lib.hid h1
  have H2 := Lib.hid h2
  have ll := len_le h1
  have lm := len_le h2
  clear h1 h2
  obtain ⟨r, hr⟩ : ∃ r, decide (xs = ys) = r := ⟨_, rfl⟩
  rw [hr]
  by_cases hl : (xs.length : Int) = ys.length
  case neg =>
    have b1 : ((xs.length : Int) != ys.length) = true := by simpa using hl
    have HR : Hid (r = false) := by rw [← hr]; exact decide_eq_false (fun e => hl (by rw [e]))
    clear hr hl
    go_enter Tryz.func77, Tryz.ntmps77
    go_wp2_with fail
    go_ret
    exact ⟨by rw [HR.out]; rfl, Below.refl _ _⟩
  have hl' : ys.length = xs.length := by omega
  rw [hl'] at H2 lm ⊢
  have HL := Lib.hid hl'
  have HR := Lib.hid hr
  clear hl hl' hr
  go_enter Tryz.func77, Tryz.ntmps77
  go_wp2_with fail
  go_loopw [13] (fun k wr => ∃ i : Nat, k = .int .i64 i ∧ i ≤ xs.length ∧ Hid (∀ j : Nat, j < i → xs[j]? = ys[j]?) ∧ Hid (Below w.heap.size w wr)) (fun k _ => xs.length - (RowKit.intOf k).toNat)
  case atStart => exact ⟨0, rfl, by omega, fun j hj => by omega, Below.refl _ _⟩
  case round =>
    obtain ⟨i, rfl, hi, HQ, KW⟩ := hrel
    by_cases hlt : i < xs.length
    · obtain ⟨b, off, x, cs, rfl, hb, hx, -, ⟨rfl, -⟩, hat⟩ := H1.out.at_ hlt
      obtain ⟨b', off', x', cs', hA, hb', hx', -, ⟨rfl, -⟩, hat'⟩ := H2.out.at_ (by rw [HL.out]; exact hlt)
      subst hA
      have hii : (i : Int) < xs.length := by omega
      go_upto_region 6 with fail
      have a0 : ∀ E : Up wr, E.to.cell? ⟨b, off + i, none⟩ = some (.int .i64 x) := fun E => E.cell ((KW.out.cell hb).trans (by simpa using hat 0 _ rfl))
      have b0 : ∀ E : Up wr, E.to.cell? ⟨b', off' + i, none⟩ = some (.int .i64 x') := fun E => E.cell ((KW.out.cell hb').trans (by simpa using hat' 0 _ rfl))
      have X1 := Lib.hid hx
      have X2 := Lib.hid hx'
      clear hx hx' hat hat'
      refine wp_region_up (by kernel_rfl) (by kernel_rfl) ?_
      repeat (go_big_quiet_step (fail))
      refine wpQuiet_nil ?_
      rintro _ ⟨E, rfl⟩
      have KE := Lib.hid (KW.out.trans (E.below.mono KW.out.size))
      clear a0 b0
      obtain ⟨q, hq⟩ : ∃ q : Bool, (x != x') = q := ⟨_, rfl⟩
      rw [hq]
      cases q
      · have HQ' : Hid (∀ j : Nat, j < i + 1 → xs[j]? = ys[j]?) := fun j hj => by
          rcases Nat.lt_or_ge j i with c | c
          · exact HQ.out j c
          · obtain rfl : j = i := by omega
            rw [X1.out, X2.out]
            have : x = x' := by simpa using hq
            rw [this]
        clear hq
        go_wp2_with fail
        go_roundw
        case rel => exact ⟨i + 1, by go_num, by omega, HQ', KE⟩
        case measure => simp [RowKit.intOf]; omega
      · have HF : Hid (r = false) := by
          rw [← HR.out]
          refine decide_eq_false (fun e => ?_)
          have h1 := X1.out
          rw [e, X2.out] at h1
          injection h1 with h1
          rw [h1] at hq
          simp at hq
        clear hq
        go_wp2_with fail
        go_ret
        exact ⟨by rw [HF.out]; rfl, KE.out⟩
    · obtain rfl : i = xs.length := by omega
      have hnl : ¬ (xs.length : Int) < xs.length := by omega
      have HT : Hid (r = true) := by
        rw [← HR.out]
        refine decide_eq_true (List.ext_getElem? (fun j => ?_))
        rcases Nat.lt_or_ge j xs.length with c | c
        · exact HQ.out j c
        · rw [List.getElem?_eq_none c, List.getElem?_eq_none (by rw [HL.out]; exact c)]
      go_wp2_with fail
      go_ret
      exact ⟨by rw [HT.out]; rfl, KW.out⟩
/-- is the value among those of an exit? -/
def sinkNm (x : TExit) (c : Int) : Bool := x.sets.any (fun s => decide (s.val = c)) || x.makes.any (fun m => decide (m.cell = c) || decide (c ∈ m.vals))
set_option maxHeartbeats 1000000 in
set_option maxRecDepth 100000 in
theorem names1_c (x : TSet) (c : Int) (ob : Nat) (w : World) (hb : w.cell? ⟨ob, 0, none⟩ = some (.int .i64 c)) :
    Calls Tryz.prog 55 #[.agg #[.int .i64 x.reg, .int .i64 x.val], .pointer (some ⟨ob, 0, none⟩)] w (Gives (.bool (decide (x.val = c))) w) := by
  have hlt := cell_lt hb
  have B0 : ∀ o, (w.alloc o).cell? ⟨ob, 0, none⟩ = some (.int .i64 c) := fun o => cell_on (below_one w o) hb
  obtain ⟨r, hr⟩ : ∃ r, decide (x.val = c) = r := ⟨_, rfl⟩
  rw [hr]
  have HR := Lib.hid hr
  clear hr hb
  go_enter Tryz.func55, Tryz.ntmps55
  go_wp2_with fail
  go_ret
  refine ⟨?_, below_one w _⟩
  rw [← HR.out]; rfl
set_option maxHeartbeats 1000000 in
set_option maxRecDepth 100000 in
theorem names2_c (cs : List Value) (m : TMake) (c : Int) (ob : Nat) (w : World) (hm : MakeR w w.heap.size cs m) (hb : w.cell? ⟨ob, 0, none⟩ = some (.int .i64 c)) :
    Calls Tryz.prog 57 #[.agg ⟨cs⟩, .pointer (some ⟨ob, 0, none⟩)] w (Gives (.bool (decide (m.cell = c) || decide (c ∈ m.vals))) w) := by
  obtain ⟨v, rfl, hv, -⟩ := hm
  have hlt := cell_lt hb
  have CC := Lib.hid (contains_c v m.vals c (w.alloc (.cells #[.int .i64 m.cell, .int .i64 m.kind, .int .i64 m.num, v] 89)) (hv.below (below_one w _)))
  have B0 : ∀ o, (w.alloc o).cell? ⟨ob, 0, none⟩ = some (.int .i64 c) := fun o => cell_on (below_one w o) hb
  obtain ⟨A, cap, rfl, -⟩ := hv
  clear hb
  by_cases hc : m.cell = c
  · have b1 : (m.cell == c) = true := by simpa using hc
    have hd : (decide (m.cell = c) || decide (c ∈ m.vals)) = true := by simp [hc]
    rw [hd]
    clear CC
    go_enter Tryz.func57, Tryz.ntmps57
    go_wp2_with fail
    go_ret
    exact ⟨rfl, below_one w _⟩
  · have b1 : (m.cell == c) = false := by simpa using hc
    obtain ⟨r, hr⟩ : ∃ r, decide (c ∈ m.vals) = r := ⟨_, rfl⟩
    have hd : (decide (m.cell = c) || decide (c ∈ m.vals)) = r := by simp [hc, hr]
    rw [hd]
    rw [hr] at CC
    clear hr hd
    go_enter Tryz.func57, Tryz.ntmps57
    go_wp2_with fail
    refine CC.out.mono ?_
    rintro e w1 ⟨rfl, k1⟩
    have K1 := Lib.hid ((below_one w (.cells #[.int .i64 m.cell, .int .i64 m.kind, .int .i64 m.num, .slice A m.vals.length cap] 89)).trans (k1.mono (by simp)))
    clear k1
    go_wp2_with fail
    go_ret
    exact ⟨rfl, K1.out⟩
set_option maxHeartbeats 2000000 in
set_option maxRecDepth 100000 in
theorem sinkNm_c (cx : List Value) (x : TExit) (c : Int) (w : World) (hx : ExitR w w.heap.size cx x) :
    Calls Tryz.prog 32 #[.agg ⟨cx⟩, .int .i64 c] w (Gives (.bool (sinkNm x c)) w) := by
  obtain ⟨sv, mv, rfl, hs, hm, -⟩ := hx
  obtain ⟨w0, hw0⟩ : ∃ w0, w0 = (w.alloc (.cells #[.int .i64 x.at_, .int .i64 x.steps, sv, mv] 32)).alloc (.cells #[.int .i64 c] 3) := ⟨_, rfl⟩
  have K0 : Hid (Below w.heap.size w w0) := by rw [hw0]; exact below_two' _ _ _
  have X0 : Hid (w0.heap[w.heap.size]? = some (.cells ⟨[.int .i64 x.at_, .int .i64 x.steps, sv, mv]⟩ 32 (0, 0))) := by rw [hw0]; exact heap_old (heap_last w _) _
  have C0 : Hid (w0.heap[w.heap.size + 1]? = some (.cells ⟨[.int .i64 c]⟩ 3 (0, 0))) := by rw [hw0]; exact heap_two _ _ _
  have HW := Lib.hid hw0
  have HS := Lib.hid (hs.below K0.out)
  have HM : Hid (SliceR w0 w0.heap.size 4 (MakeR w0 w0.heap.size) mv x.makes) := hm.keep K0.out.size (fun _ h => K0.out.cell h) (fun _ _ ⟨v, e, h⟩ => ⟨v, e, h.1.below K0.out, h.2⟩)
  obtain ⟨As, ns, rfl, -⟩ := hs
  obtain ⟨Am, nm, rfl, -⟩ := hm
  have B0 := cell_of_row w0 (w.heap.size + 1) 0 _ _ _ C0.out
  have CS := Lib.hid (containsFunc_sets SetR (fun s => decide (s.val = c)) As ns x.sets 55 (enters_of Tryz.func55 (by kernel_rfl) rfl) #[.pointer (some ⟨w.heap.size + 1, 0, none⟩)] w0 HS.out
    (fun w1 k1 s cs _ ⟨e, _⟩ => by subst e; exact names1_c s c _ w1 (cell_on k1 B0)))
  have CM := Lib.hid (fun (w2 : World) (k2 : Below w0.heap.size w0 w2) => containsFunc_makes (MakeR w2 w2.heap.size) (fun m => decide (m.cell = c) || decide (c ∈ m.vals)) Am nm x.makes 57 (enters_of Tryz.func57 (by kernel_rfl) rfl) #[.pointer (some ⟨w.heap.size + 1, 0, none⟩)] w2
    (HM.out.keep k2.size (fun _ h => k2.cell h) (fun _ _ ⟨v, e, h⟩ => ⟨v, e, h.1.below k2, h.2⟩))
    (fun w1 k1 m cs _ ⟨v, e, h⟩ => names2_c cs m c _ w1 ⟨v, e, h.1.below k1, h.2⟩ (cell_on k1 (cell_on k2 B0))))
  obtain ⟨r1, hr1⟩ : ∃ r, x.sets.any (fun s => decide (s.val = c)) = r := ⟨_, rfl⟩
  obtain ⟨r2, hr2⟩ : ∃ r, x.makes.any (fun m => decide (m.cell = c) || decide (c ∈ m.vals)) = r := ⟨_, rfl⟩
  have hn : sinkNm x c = (r1 || r2) := by unfold sinkNm; rw [hr1, hr2]
  rw [hn]
  rw [hr1] at CS
  rw [hr2] at CM
  have x2 := cell_of_row w0 w.heap.size 2 _ _ _ X0.out
  have x3 := cell_of_row w0 w.heap.size 3 _ _ _ X0.out
  clear hw0 hr1 hr2 hn B0
  go_enter Tryz.func32, Tryz.ntmps32
  go_upto_region 1 with fail
  rw [← HW.out]
  go_wp2_with fail
  refine CS.out.mono ?_
  rintro e w1 ⟨rfl, k1⟩
  have L1 := Lib.hid k1
  have K1 := Lib.hid (K0.out.trans (k1.mono K0.out.size))
  have y3 := cell_on k1 x3
  clear k1
  cases r1
  · go_wp2_with fail
    refine (CM.out w1 L1.out).mono ?_
    rintro e w2 ⟨rfl, k2⟩
    have K2 := Lib.hid (K1.out.trans (k2.mono K1.out.size))
    clear k2
    go_wp2_with fail
    go_ret
    exact ⟨rfl, K2.out⟩
  · go_wp2_with fail
    go_ret
    exact ⟨rfl, K1.out⟩
end Go.Proofs.YtlnkjmgfkpeicaaGreatDoor
