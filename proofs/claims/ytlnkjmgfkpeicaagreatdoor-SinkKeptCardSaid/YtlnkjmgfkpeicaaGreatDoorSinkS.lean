/- slices.SortFunc over what an exit makes. -/
import Derived.Test.YtlnkjmgfkpeicaaGreatDoorSinkA
import Derived.Shelf.SlSortCmp.WholeK
import Derived.Shelf.SlSortCmp.NoneTotal
import Derived.Shelf.SlicesG.Cmp
import Derived.Ground.SlsfProg
import Derived.StillTailTactics
set_option linter.all false
namespace Go.Proofs
open Go.Shelf
def Tryz.sortMk_ren : Go.Shelf.Ren := ⟨fun | 6 => 39 | 15 => 62 | 14 => 61 | 28 => 86 | 29 => 87 | 20 => 78 | 21 => 79 | 22 => 80 | 23 => 81 | 24 => 82 | 25 => 83 | 26 => 84 | 27 => 85 | 46 => 96 | 47 => 97 | 48 => 98 | 49 => 99 | 50 => 100 | 57 => 103 | n => n, fun | 22 => 30 | 24 => 89 | 25 => 101 | 3 => 3 | 39 => 130 | 0 => 0 | 53 => 154 | 55 => 142 | 4 => 4 | 46 => 147 | 45 => 146 | 50 => 151 | 5 => 5 | 9 => 9 | 66 => 166 | 70 => 91 | 76 => 177 | 77 => 178 | n => n, fun | n => n⟩
theorem Tryz.sortMk : Go.Proofs.SlLaysF0.n6 Tryz.prog Tryz.sortMk_ren := {
  mixed := by kernel_rfl
  f6 := ⟨Tryz.f39.name, by decide, Tryz.func39.trans (congrArg some (by kernel_rfl))⟩
  f14 := ⟨Tryz.f61.name, by decide, Tryz.func61.trans (congrArg some (by kernel_rfl))⟩
  f15 := Tryz.func62.trans (congrArg some (by kernel_rfl))
  f20 := ⟨Tryz.f78.name, by decide, Tryz.func78.trans (congrArg some (by kernel_rfl))⟩
  f21 := ⟨Tryz.f79.name, by decide, Tryz.func79.trans (congrArg some (by kernel_rfl))⟩
  f22 := ⟨Tryz.f80.name, by decide, Tryz.func80.trans (congrArg some (by kernel_rfl))⟩
  f23 := ⟨Tryz.f81.name, by decide, Tryz.func81.trans (congrArg some (by kernel_rfl))⟩
  f24 := ⟨Tryz.f82.name, by decide, Tryz.func82.trans (congrArg some (by kernel_rfl))⟩
  f25 := ⟨Tryz.f83.name, by decide, Tryz.func83.trans (congrArg some (by kernel_rfl))⟩
  f26 := ⟨Tryz.f84.name, by decide, Tryz.func84.trans (congrArg some (by kernel_rfl))⟩
  f27 := ⟨Tryz.f85.name, by decide, Tryz.func85.trans (congrArg some (by kernel_rfl))⟩
  f28 := Tryz.func86.trans (congrArg some (by kernel_rfl))
  f29 := Tryz.func87.trans (congrArg some (by kernel_rfl))
  f46 := ⟨Tryz.f96.name, by decide, Tryz.func96.trans (congrArg some (by kernel_rfl))⟩
  f47 := Tryz.func97.trans (congrArg some (by kernel_rfl))
  f48 := Tryz.func98.trans (congrArg some (by kernel_rfl))
  f49 := ⟨Tryz.f99.name, by decide, Tryz.func99.trans (congrArg some (by kernel_rfl))⟩
  f50 := ⟨Tryz.f100.name, by decide, Tryz.func100.trans (congrArg some (by kernel_rfl))⟩
  f57 := ⟨Tryz.f103.name, by decide, Tryz.func103.trans (congrArg some (by kernel_rfl))⟩
  t0 := Tryz.underlying0
  a0 := Tryz.isAgg0
  z0 := Tryz.sizeOf0
  v0 := Tryz.zeroValue0
  t3 := Tryz.underlying3
  a3 := Tryz.isAgg3
  z3 := Tryz.sizeOf3
  v3 := Tryz.zeroValue3
  t4 := Tryz.underlying4
  a4 := Tryz.isAgg4
  z4 := Tryz.sizeOf4
  v4 := Tryz.zeroValue4
  t5 := Tryz.underlying5
  a5 := Tryz.isAgg5
  z5 := Tryz.sizeOf5
  v5 := Tryz.zeroValue5
  t9 := Tryz.underlying9
  a9 := Tryz.isAgg9
  z9 := Tryz.sizeOf9
  v9 := Tryz.zeroValue9
  t22 := Tryz.underlying30
  a22 := Tryz.isAgg30
  z22 := Tryz.sizeOf30
  v22 := Tryz.zeroValue30
  t25 := Tryz.underlying101
  a25 := Tryz.isAgg101
  z25 := Tryz.sizeOf101
  v25 := Tryz.zeroValue101
  t39 := Tryz.underlying130
  a39 := Tryz.isAgg130
  z39 := Tryz.sizeOf130
  v39 := Tryz.zeroValue130
  t45 := Tryz.underlying146
  a45 := Tryz.isAgg146
  z45 := Tryz.sizeOf146
  v45 := Tryz.zeroValue146
  t46 := Tryz.underlying147
  a46 := Tryz.isAgg147
  z46 := Tryz.sizeOf147
  v46 := Tryz.zeroValue147
  t50 := Tryz.underlying151
  a50 := Tryz.isAgg151
  z50 := Tryz.sizeOf151
  v50 := Tryz.zeroValue151
  t53 := Tryz.underlying154
  a53 := Tryz.isAgg154
  z53 := Tryz.sizeOf154
  v53 := Tryz.zeroValue154
  t55 := Tryz.underlying142
  a55 := Tryz.isAgg142
  z55 := Tryz.sizeOf142
  v55 := Tryz.zeroValue142
  t66 := Tryz.underlying166
  a66 := Tryz.isAgg166
  z66 := Tryz.sizeOf166
  v66 := Tryz.zeroValue166
  t70 := Tryz.underlying91
  a70 := Tryz.isAgg91
  z70 := Tryz.sizeOf91
  v70 := Tryz.zeroValue91
  t76 := Tryz.underlying177
  a76 := Tryz.isAgg177
  z76 := Tryz.sizeOf177
  v76 := Tryz.zeroValue177
  t77 := Tryz.underlying178
  a77 := Tryz.isAgg178
  z77 := Tryz.sizeOf178
  v77 := Tryz.zeroValue178 }
end Go.Proofs
namespace Go.Proofs.YtlnkjmgfkpeicaaGreatDoor
open Go.RowKit Go.Sort Go.Lib

structure MkRow where
  a : Int
  b : Int
  c : Int
  A : Option Addr
  n : Nat
  k : Nat
instance : Inhabited MkRow := ⟨⟨0, 0, 0, none, 0, 0⟩⟩
def mkCells (r : MkRow) : List Value := [.int .i64 r.a, .int .i64 r.b, .int .i64 r.c, .slice r.A r.n r.k]
def cmpI (a b : Int) : Int := if a < b then -1 else if b < a then 1 else 0
theorem cmpI_neg (a b : Int) : cmpI a b < 0 ↔ a < b := by
  unfold cmpI
  split
  · rename_i h; simp [h]
  · split <;> simp <;> omega
def cmpM (x y : MkRow) : Int := cmpI x.a y.a
theorem ltOf_M (x y : MkRow) : ltOf cmpM x y = decide (x.a < y.a) := by
  unfold ltOf cmpM
  rw [Bool.eq_iff_iff]
  simp [cmpI_neg]
theorem swoM : SWO (ltOf cmpM) where
  irrefl x := by rw [ltOf_M]; simp
  trans x y z h1 h2 := by rw [ltOf_M, decide_eq_true_eq] at *; omega
  ntrans x y z h1 h2 := by rw [ltOf_M, decide_eq_false_iff_not] at *; omega
set_option maxHeartbeats 400000 in
theorem compare_c (a b : Int) (w : World) : Calls Tryz.prog 41 #[.int .i64 a, .int .i64 b] w fun e w' => e = .returned (.int .i64 (cmpI a b)) ∧ w' = w := by
  rcases Int.lt_trichotomy a b with h | h | h
  · have e1 : cmpI a b = -1 := by simp [cmpI, h]
    rw [e1]
    go_enter Tryz.func41, Tryz.ntmps41
    go_wp2
    go_ret
    exact ⟨rfl, rfl⟩
  · subst h
    have e1 : cmpI a a = 0 := by simp [cmpI]
    rw [e1]
    go_enter Tryz.func41, Tryz.ntmps41
    go_wp2
    go_ret
    exact ⟨rfl, rfl⟩
  · have e1 : cmpI a b = 1 := by simp [cmpI, h, Int.not_lt.2 (Int.le_of_lt h)]
    rw [e1]
    have h2 : ¬ a < b := by omega
    go_enter Tryz.func41, Tryz.ntmps41
    go_wp2
    go_ret
    exact ⟨rfl, rfl⟩
set_option maxHeartbeats 1000000 in
theorem sunk1_c (x y : MkRow) (W : World) : Calls Tryz.prog 40 #[.agg ⟨mkCells x⟩, .agg ⟨mkCells y⟩] W fun e w' => e = .returned (.int .i64 (cmpM x y)) ∧ ∃ q os', w' = grow (W.drewN q) os' := by
  have hcon := fun W' => compare_c x.a y.a W'
  unfold mkCells cmpM
  generalize cmpI x.a y.a = r at hcon ⊢
  go_enter Tryz.func40, Tryz.ntmps40
  go_wp2_with (go_at_call 41; refine (hcon _).mono ?_; rintro e w' ⟨rfl, rfl⟩)
  go_ret
  exact ⟨rfl, 0, _, by rw [alloc_eq_grow, alloc_eq_grow, grow_grow]; rfl⟩
theorem aggMk : ∀ w : World, (isAgg 89).run Tryz.prog w = .ok true w := fun _ => by kernel_rfl
theorem sizeMk : ∀ w : World, (Go.sizeOf 89).run Tryz.prog w = .ok 4 w := fun _ => by kernel_rfl
theorem cmpLaysM (blk off size : Nat) (w : World) : CmpLays Tryz.prog 40 #[] mkCells 4 cmpM blk off size w :=
  fun _ _ _ _ x y => sunk1_c x y _
theorem flat_mk : ∀ (D : List MkRow) (t : Nat), t < D.length * 4 → (D.flatMap mkCells)[t]? = some ((mkCells D.toArray[t / 4]!)[t % 4]!)
  | [], t, h => by simp at h
  | x :: D, t, h => by
    rcases Nat.lt_or_ge t 4 with h6 | h6
    · rw [List.flatMap_cons, List.getElem?_append_left (by simpa [mkCells] using h6)]
      have e0 : t / 4 = 0 := Nat.div_eq_of_lt h6
      have e1 : t % 4 = t := Nat.mod_eq_of_lt h6
      rw [e0, e1]
      have hl : t < (mkCells x).length := by simpa [mkCells] using h6
      rw [List.getElem?_eq_getElem hl]
      simp [getElem!_pos, hl]
    · rw [List.flatMap_cons, List.getElem?_append_right (by simpa [mkCells] using h6)]
      have hl : (mkCells x).length = 4 := rfl
      rw [hl]
      have ih := flat_mk D (t - 4) (by simp at h; omega)
      rw [ih]
      have e0 : t / 4 = (t - 4) / 4 + 1 := by omega
      have e1 : t % 4 = (t - 4) % 4 := by omega
      rw [e0, e1]
      simp
theorem flat_mk_len (D : List MkRow) : (D.flatMap mkCells).length = D.length * 4 := by
  induction D with
  | nil => rfl
  | cons x D ih => rw [List.flatMap_cons, List.length_append, ih]; simp [mkCells]; omega
set_option maxHeartbeats 1000000 in
theorem sortMk_c (w : World) (base : Nat) (v : Value) (D : List MkRow) (hown : w.ownsRow base 89 4 v D.length (D.flatMap mkCells)) (hD : D.length ≤ 100000) :
    Calls Tryz.prog 39 #[v, .func (.func 40) #[] #[]] w fun e w' => e = .returned (.tuple #[]) ∧ ∃ D' : List MkRow, D'.Perm D ∧ w'.ownsRow base 89 4 v D'.length (D'.flatMap mkCells) ∧ w.grownBy w' v.ownBlock := by
  rcases Nat.eq_zero_or_pos D.length with h0 | hpos
  · have hn : D = [] := List.length_eq_zero_iff.1 h0
    subst hn
    obtain ⟨p, cap, rfl, hcm⟩ : ∃ p cap, v = .slice p 0 cap ∧ cap ≤ maxLen := by
      rcases hown.2 with ⟨rfl, _⟩ | ⟨g, cap, cur, rfl, _, _, _, h5, _⟩
      · exact ⟨none, 0, rfl, by decide⟩
      · exact ⟨_, cap, rfl, h5⟩
    have hcon := AnyF.slices_SortFunc_none Tryz.sortMk p cap (.func (.func 40) #[] #[]) w
    change Calls Tryz.prog 39 _ _ _ at hcon
    refine hcon.mono fun e w' ⟨he, hw⟩ => ?_
    subst hw
    exact ⟨he, [], List.Perm.refl _, hown, ⟨rfl, rfl, rfl, Nat.le_refl _, fun _ _ _ => rfl⟩⟩
  · obtain ⟨g, cap, cur, rfl, hb, hg, hcap, hcm, hcs, hcur⟩ : ∃ g cap cur, v = .slice (some ⟨g, 0, none⟩) D.length cap ∧ base ≤ g ∧ w.heap[g]? = some (.cells cur 89 (0, 0)) ∧ D.length ≤ cap ∧ cap ≤ maxLen ∧ cur.size = cap * 4 ∧ cur.toList.take (D.length * 4) = D.flatMap mkCells := by
      rcases hown.2 with ⟨_, h⟩ | h
      · omega
      · exact h
    have hlt : g < w.heap.size := (Array.getElem?_eq_some_iff.1 hg).1
    have hH : HoldsK mkCells 4 w g 0 D.toArray := by
      intro j hj
      rw [size_flatK] at hj
      have hj' : j < D.length * 4 := by simpa using hj
      refine ⟨?_, by simp [World.frozen?, hg]⟩
      rw [get_flatK _ _ _ _ hj]
      have h1 := flat_mk D j hj'
      rw [← hcur, List.getElem?_take, if_pos hj'] at h1
      simp only [World.cell?, hg, Nat.zero_add, Option.isSome_none, Bool.false_eq_true, if_false, id]
      simpa using h1
    have eg : ∀ args w, (callFunc 40 args).run Tryz.prog w = .ok (.enter 40 args) w := enters_of Tryz.func40 (by kernel_rfl) rfl
    have hcon := AnyQ.slices_SortFunc Tryz.sortMk 4 aggMk sizeMk mkCells (fun _ => rfl) (fun x v hv => by simp [mkCells] at hv; rcases hv with rfl | rfl | rfl | rfl <;> rfl) cmpM swoM 40 #[] g 0 cap D.toArray w eg (cmpLaysM g 0 D.toArray.size w) hH hlt (by simp; omega)
    change Calls Tryz.prog 39 _ _ _ at hcon
    simp only [List.size_toArray] at hcon
    refine hcon.mono fun e w' ⟨he, d', n, os, hp, hs, hw⟩ => ?_
    obtain ⟨hp1, _, hp3⟩ := hp
    have hsz : d'.size = D.length := by simpa using hp1
    have hperm : d'.toList.Perm D := by
      have e1 : d'.extract 0 D.length = d' := by rw [← hsz]; simp
      have e2 : D.toArray.extract 0 D.length = D.toArray := by simp
      rw [e1, e2] at hp3
      simpa using hp3
    have hH' : HoldsK mkCells 4 w' g 0 d' := by
      rw [hw]
      exact holdsK_grow mkCells 4 _ _ _ _ _ (by simp [putRowK, hlt]) (holdsK_putRowK mkCells 4 _ _ _ _ _ (holdsK_ahead mkCells 4 _ _ _ _ _ hH) (by simpa using hsz))
    have hgrow : w.grownBy w' (some g) := by
      rw [hw]
      refine ⟨rfl, rfl, rfl, by simp [sortWorldK, putRowK], fun k hk hne => ?_⟩
      have hkg : k ≠ g := fun e => hne (by rw [e])
      unfold sortWorldK
      rw [heap_grow_old _ _ (by simp [putRowK, hk])]
      simp only [putRowK, putRow, mapBlock, heap_ahead]
      rw [Array.getElem?_modify, if_neg (fun e => hkg e.symm)]
    have hlen : d'.toList.length = D.length := by simpa using hsz
    obtain ⟨cur', hg', hcs'⟩ : ∃ cur', w'.heap[g]? = some (.cells cur' 89 (0, 0)) ∧ cur'.size = cur.size := by
      rw [hw]
      refine ⟨putCells id 0 (flatK mkCells 4 d') cur, ?_, by simp [putCells]⟩
      unfold sortWorldK
      rw [heap_grow_old _ _ (by simp [putRowK, hlt])]
      simp only [putRowK, putRow, mapBlock, heap_ahead]
      rw [Array.getElem?_modify, if_pos rfl, hg]
      rfl
    refine ⟨he, d'.toList, hperm, ⟨by rw [flat_mk_len], .inr ⟨g, cap, cur', by rw [hlen], hb, hg', by omega, hcm, by rw [hcs']; exact hcs, ?_⟩⟩, hgrow⟩
    refine List.ext_getElem? (fun t => ?_)
    rw [List.getElem?_take]
    by_cases ht : t < d'.toList.length * 4
    · rw [if_pos ht, flat_mk d'.toList t ht]
      have h1 := (hH' t (by rw [size_flatK]; simpa using ht)).1
      rw [get_flatK _ _ _ _ (by simpa using ht)] at h1
      simp only [World.cell?, hg', Nat.zero_add, Option.isSome_none, Bool.false_eq_true, if_false, id] at h1
      simpa using h1
    · rw [if_neg ht, List.getElem?_eq_none (by rw [flat_mk_len]; omega)]
end Go.Proofs.YtlnkjmgfkpeicaaGreatDoor
