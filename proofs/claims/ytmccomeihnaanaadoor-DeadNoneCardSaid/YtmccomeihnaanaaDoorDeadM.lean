/- dead.Do as a plain function; behind it each value is asked by someone. No program. -/
import Derived.Test.YtmccomeihnaanaaDoorKeptA
namespace Go.Proofs.YtmccomeihnaanaaDoor

/-- the values of an exit -/
def exitVals (x : TExit) : List Int := x.sets.map (·.val) ++ x.makes.flatMap (fun m => m.cell :: m.vals)
theorem exitVals_C (at_ : List Int) (x : TExit) : exitVals (exitC at_ x) = (exitVals x).map (oneM at_) := by
  unfold exitVals exitC
  dsimp only
  rw [List.map_append, List.map_map, List.map_map, List.flatMap_map, List.map_flatMap]
  rfl
def usedM (t : TTrace) (i : Nat) : Bool := t.ins.any (fun x => x.exit == (i : Int))
def deadX (t : TTrace) (i : Nat) (x : TExit) : TExit := if usedM t i then x else ⟨x.at_, x.steps, [], []⟩
def deadExits (t : TTrace) : List TExit := t.exits.mapIdx (deadX t)
def deadT (t : TTrace) : TTrace := { t with exits := deadExits t }
/-- what is marked ahead of the instructions -/
def marks0 (t : TTrace) : List Int := (deadExits t).flatMap exitVals ++ exitVals t.turn ++ exitVals t.back
def keepM (t : TTrace) (marks : List Int) (i : Nat) (x : TIns) : Bool := marks.contains (i : Int) || decide (0 ≤ x.exit) || !tellsM x.op || (i == 0 && decide (0 < t.loop))
/-- the marks and the way, i instructions from the front still to be looked at -/
def deadGo (t : TTrace) : Nat → List Int → List Int → List Int
  | 0, _, acc => acc
  | i + 1, marks, acc => match t.ins[i]? with
    | none => acc
    | some x => if keepM t marks i x then deadGo t i (marks ++ asksM x) ((i : Int) :: acc) else deadGo t i marks (-1 :: acc)
def deadTo (t : TTrace) : List Int := deadGo t t.ins.length (marks0 t) []
def deadM (ce : Int) (t : TTrace) : TTrace × Int := if ce ≠ 0 then (trace0, ce) else cutM (deadT t) (deadTo t)

/-- a way's place i: kept just if it has to be, by what is marked by those behind it that are kept -/
theorem deadGo_spec (t : TTrace) : ∀ (i : Nat) (marks acc : List Int), i + acc.length = t.ins.length → (deadGo t i marks acc).length = t.ins.length ∧ (∀ k, i ≤ k → (deadGo t i marks acc)[k]? = acc[k - i]?) ∧
    ∀ k, k < i → ∀ x, t.ins[k]? = some x → (deadGo t i marks acc)[k]? = some (k : Int) →
      0 ≤ x.exit ∨ tellsM x.op = false ∨ (k = 0 ∧ 0 < t.loop) ∨ (k : Int) ∈ marks ∨ ∃ b y, k < b ∧ b < i ∧ t.ins[b]? = some y ∧ (deadGo t i marks acc)[b]? = some (b : Int) ∧ (k : Int) ∈ asksM y
  | 0, marks, acc, h => ⟨by simpa [deadGo] using h, fun k _ => rfl, fun k hk => by omega⟩
  | i + 1, marks, acc, h => by
    have hi : i < t.ins.length := by omega
    have hx : t.ins[i]? = some t.ins[i] := List.getElem?_eq_getElem hi
    unfold deadGo
    rw [hx]
    dsimp only
    by_cases c : keepM t marks i t.ins[i] = true
    · rw [if_pos c]
      obtain ⟨h1, h2, h3⟩ := deadGo_spec t i (marks ++ asksM t.ins[i]) ((i : Int) :: acc) (by simp; omega)
      refine ⟨h1, fun k hk => ?_, fun k hk x hkx hkk => ?_⟩
      · rw [h2 k (by omega)]
        obtain ⟨m, hm⟩ : ∃ m, k - i = m + 1 := ⟨k - i - 1, by omega⟩
        rw [hm, show k - (i + 1) = m by omega]; rfl
      · rcases Nat.lt_or_ge k i with d | d
        · rcases h3 k d x hkx hkk with e | e | e | e | ⟨b, y, b1, b2, b3, b4, b5⟩
          · exact .inl e
          · exact .inr (.inl e)
          · exact .inr (.inr (.inl e))
          · rcases List.mem_append.1 e with e | e
            · exact .inr (.inr (.inr (.inl e)))
            · refine .inr (.inr (.inr (.inr ⟨i, _, d, by omega, hx, ?_, e⟩)))
              rw [h2 i (Nat.le_refl _), Nat.sub_self]; rfl
          · exact .inr (.inr (.inr (.inr ⟨b, y, b1, by omega, b3, b4, b5⟩)))
        · obtain rfl : k = i := by omega
          rw [hx] at hkx; injection hkx with hkx; subst hkx
          unfold keepM at c
          simp only [Bool.or_eq_true, Bool.and_eq_true, decide_eq_true_eq, beq_iff_eq, Bool.not_eq_true', List.contains_iff_mem] at c
          rcases c with ((c | c) | c) | c
          · exact .inr (.inr (.inr (.inl c)))
          · exact .inl c
          · exact .inr (.inl c)
          · exact .inr (.inr (.inl c))
    · rw [if_neg c]
      obtain ⟨h1, h2, h3⟩ := deadGo_spec t i marks (-1 :: acc) (by simp; omega)
      refine ⟨h1, fun k hk => ?_, fun k hk x hkx hkk => ?_⟩
      · rw [h2 k (by omega)]
        obtain ⟨m, hm⟩ : ∃ m, k - i = m + 1 := ⟨k - i - 1, by omega⟩
        rw [hm, show k - (i + 1) = m by omega]; rfl
      · rcases Nat.lt_or_ge k i with d | d
        · rcases h3 k d x hkx hkk with e | e | e | e | ⟨b, y, b1, b2, b3, b4, b5⟩
          · exact .inl e
          · exact .inr (.inl e)
          · exact .inr (.inr (.inl e))
          · exact .inr (.inr (.inr (.inl e)))
          · exact .inr (.inr (.inr (.inr ⟨b, y, b1, by omega, b3, b4, b5⟩)))
        · obtain rfl : k = i := by omega
          rw [h2 k (Nat.le_refl _), Nat.sub_self] at hkk
          simp at hkk
theorem one_pos {at_ : List Int} {i p : Nat} (h : at_[i]? = some (p : Int)) : oneM at_ (i : Int) = p := by
  unfold oneM
  rw [if_neg (by omega), Int.toNat_natCast, h]
  dsimp only
  rw [if_neg (by omega)]
/-- EACH VALUE IS ASKED BY SOMEONE, that nothing can go wrong with, but for the first one of a part ahead. -/
theorem dead_none {t : TTrace} (h : (cutM (deadT t) (deadTo t)).2 = 0) {p : Nat} {y : TIns} (hy : (cutM (deadT t) (deadTo t)).1.ins[p]? = some y) :
    0 ≤ y.exit ∨ tellsM y.op = false ∨ (p = 0 ∧ 0 < (cutM (deadT t) (deadTo t)).1.loop) ∨ (p : Int) ∈ exitVals (cutM (deadT t) (deadTo t)).1.turn ∨ (p : Int) ∈ exitVals (cutM (deadT t) (deadTo t)).1.back ∨
      (∃ x ∈ (cutM (deadT t) (deadTo t)).1.exits, (p : Int) ∈ exitVals x) ∨ ∃ q x, p < q ∧ (cutM (deadT t) (deadTo t)).1.ins[q]? = some x ∧ (p : Int) ∈ asksM x := by
  obtain ⟨S, ks, hK, hA, e, hl⟩ := cutM_kept2 h
  rw [e] at hy ⊢
  have hy' : S.ins[p]? = some y := hy
  have hp := (List.getElem?_eq_some_iff.1 hy').1
  have hlen := hK.len
  obtain ⟨i, hi⟩ : ∃ i, ks[p]? = some i := ⟨_, List.getElem?_eq_getElem (by omega)⟩
  have hm := (hK.all i).1 (List.mem_of_getElem? hi)
  have hpos := hA.pos p i hi
  obtain ⟨a, a', a1, a2, a3, a4, a5, a6⟩ := hK.like p i hi
  rw [hy'] at a2; injection a2 with a2; subst a2
  have img : ∀ (l : List Int), (i : Int) ∈ l → (p : Int) ∈ l.map (oneM S.at_) := fun l hl => List.mem_map.2 ⟨_, hl, one_pos hpos⟩
  obtain ⟨-, -, h3⟩ := deadGo_spec t t.ins.length (marks0 t) [] (by simp)
  have side := kept_side (t := deadT t) hK hi
  rcases h3 i hm.1 a a1 hm.2 with c | c | ⟨c1, c2⟩ | c | ⟨b, x, b1, b2, b3, b4, b5⟩
  · exact .inl (by omega)
  · exact .inr (.inl (by rw [a3]; exact c))
  · refine .inr (.inr (.inl ⟨?_, ?_⟩))
    · rcases Nat.eq_zero_or_pos p with z | z
      · exact z
      · have h0 : ks[0]? = some (ks[0]'(by omega)) := List.getElem?_eq_getElem (by omega)
        have hpi := (List.getElem?_eq_some_iff.1 hi).2
        have := (List.pairwise_iff_getElem.1 hK.up) 0 p (by omega) (by omega) z
        omega
    · have h1 : (i : Int) < (deadT t).loop := by subst c1; exact c2
      have := side.2 h1
      omega
  · unfold marks0 at c
    rcases List.mem_append.1 c with c | c
    · rcases List.mem_append.1 c with c | c
      · obtain ⟨x, hx, hv⟩ := List.mem_flatMap.1 c
        refine .inr (.inr (.inr (.inr (.inr (.inl ⟨exitC S.at_ x, ?_, ?_⟩)))))
        · exact List.mem_map.2 ⟨x, hx, rfl⟩
        · rw [exitVals_C]; exact img _ hv
      · refine .inr (.inr (.inr (.inl ?_)))
        show (p : Int) ∈ exitVals (exitC S.at_ t.turn)
        rw [exitVals_C]; exact img _ c
    · refine .inr (.inr (.inr (.inr (.inl ?_))))
      show (p : Int) ∈ exitVals (exitC S.at_ t.back)
      rw [exitVals_C]; exact img _ c
  · refine .inr (.inr (.inr (.inr (.inr (.inr ?_)))))
    have hb : b ∈ ks := (hK.all b).2 ⟨b2, b4⟩
    obtain ⟨q, hq⟩ := List.getElem?_of_mem hb
    obtain ⟨x', x1, x2⟩ := hA.put q b hq
    have : x' = x := by
      have h1 : t.ins[b]? = some x' := x1
      rw [b3] at h1; injection h1 with h1; exact h1.symm
    subst this
    refine ⟨q, _, ?_, x2, ?_⟩
    · rcases Nat.lt_or_ge p q with d | d
      · exact d
      · exfalso
        have hqb := (List.getElem?_eq_some_iff.1 hq).2
        have hpi := (List.getElem?_eq_some_iff.1 hi).2
        rcases Nat.lt_or_ge q p with f | f
        · have := (List.pairwise_iff_getElem.1 hK.up) q p (by have := (List.getElem?_eq_some_iff.1 hq).1; omega) (by omega) f
          omega
        · obtain rfl : p = q := by omega
          omega
    · rw [asks_put]
      refine List.mem_map.2 ⟨_, b5, one_pos ?_⟩
      rw [List.getElem?_take, if_pos (by omega)]
      exact hpos
end Go.Proofs.YtmccomeihnaanaaDoor
