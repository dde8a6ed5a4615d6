/- What ir.Cut keeps. No program. -/
import Derived.Test.YtlnkjmgfkpeicaaGreatDoorCutM
namespace Go.Proofs.YtlnkjmgfkpeicaaGreatDoor

/-- y is x, its operands put anew -/
def Like (x y : TIns) : Prop := y.op = x.op ∧ y.n = x.n ∧ y.exit = x.exit ∧ y.k = x.k
theorem like_put (F : Int → Int) (x : TIns) : Like x (putM F x) := ⟨rfl, rfl, rfl, rfl⟩

/-- ks: the places that are kept of the first j, in their order -/
structure KeptTo (loop0 : Int) (l : List TIns) (m : List Int) (j : Nat) (S : CutS) (ks : List Nat) : Prop where
  at_ : S.at_.length = j
  len : ks.length = S.ins.length
  all : ∀ i, i ∈ ks ↔ i < j ∧ m[i]? = some (i : Int)
  up : ks.Pairwise (· < ·)
  like : ∀ (p i : Nat), ks[p]? = some i → ∃ x y : TIns, l[i]? = some x ∧ S.ins[p]? = some y ∧ Like x y
  loop : 0 ≤ loop0 → loop0 < j → ∀ (p i : Nat), ks[p]? = some i → ((p : Int) < S.loop ↔ (i : Int) < loop0)
  lop : S.loop ≤ S.ins.length
theorem KeptTo.zero (loop0 : Int) (l : List TIns) (m : List Int) : KeptTo loop0 l m 0 ⟨[], true, 0, []⟩ [] :=
  ⟨rfl, rfl, fun i => by simp, List.Pairwise.nil, fun p i h => by simp at h, fun _ _ p i h => by simp at h, by simp⟩
theorem KeptTo.drop {loop0 : Int} {l : List TIns} {m : List Int} {j : Nat} {S S' : CutS} {ks : List Nat} (h : KeptTo loop0 l m j S ks) {n : Int} (hm : m[j]? = some n) (hn : n ≠ j)
    (e1 : S'.at_.length = j + 1) (e2 : S'.ins = S.ins) (e3 : S'.loop = if (j : Int) = loop0 then (S.ins.length : Int) else S.loop) : KeptTo loop0 l m (j + 1) S' ks := by
  refine ⟨e1, by rw [e2]; exact h.len, fun i => ?_, h.up, fun p i hp => by rw [e2]; exact h.like p i hp, fun h0 h1 p i hp => ?_, ?_⟩
  · rw [h.all]
    constructor
    · rintro ⟨a, b⟩; exact ⟨by omega, b⟩
    · rintro ⟨a, b⟩
      refine ⟨?_, b⟩
      rcases Nat.lt_or_ge i j with c | c
      · exact c
      · obtain rfl : i = j := by omega
        rw [hm] at b; injection b with b; exact (hn b).elim
  · have hi := (h.all i).1 (List.mem_of_getElem? hp)
    have hpl := (List.getElem?_eq_some_iff.1 hp).1
    have := h.len
    rw [e3]
    split
    · omega
    · exact h.loop h0 (by omega) p i hp
  · rw [e3, e2]
    split
    · omega
    · exact h.lop
theorem KeptTo.push {loop0 : Int} {l : List TIns} {m : List Int} {j : Nat} {S S' : CutS} {ks : List Nat} (h : KeptTo loop0 l m j S ks) (hm : m[j]? = some (j : Int)) {x y : TIns} (hx : l[j]? = some x) (hy : Like x y)
    (e1 : S'.at_.length = j + 1) (e2 : S'.ins = S.ins ++ [y]) (e3 : S'.loop = if (j : Int) = loop0 then (S.ins.length : Int) else S.loop) : KeptTo loop0 l m (j + 1) S' (ks ++ [j]) := by
  have hl := h.len
  have hk : ∀ p i, (ks ++ [j])[p]? = some i → (ks[p]? = some i ∧ p < ks.length) ∨ (p = ks.length ∧ i = j) := fun p i hp => by
    rcases Nat.lt_or_ge p ks.length with c | c
    · rw [List.getElem?_append_left c] at hp; exact .inl ⟨hp, c⟩
    · rw [List.getElem?_append_right c] at hp
      have := (List.getElem?_eq_some_iff.1 hp).1
      simp only [List.length_cons, List.length_nil] at this
      have e0 : p - ks.length = 0 := by omega
      rw [e0] at hp
      exact .inr ⟨by omega, by simpa using hp.symm⟩
  refine ⟨e1, by rw [e2]; simp [hl], fun i => ?_, ?_, fun p i hp => ?_, fun h0 h1 p i hp => ?_, ?_⟩
  · rw [List.mem_append, h.all]
    constructor
    · rintro (⟨a, b⟩ | a)
      · exact ⟨by omega, b⟩
      · simp at a; subst a; exact ⟨by omega, hm⟩
    · rintro ⟨a, b⟩
      rcases Nat.lt_or_ge i j with c | c
      · exact .inl ⟨c, b⟩
      · right; simp; omega
  · rw [List.pairwise_append]
    refine ⟨h.up, List.pairwise_singleton _ _, fun a ha b hb => ?_⟩
    simp at hb; subst hb
    exact ((h.all a).1 ha).1
  · rcases hk p i hp with ⟨hp, c⟩ | ⟨rfl, rfl⟩
    · obtain ⟨x, y, a1, a2, a3⟩ := h.like p i hp
      exact ⟨x, y, a1, by rw [e2, List.getElem?_append_left (by omega)]; exact a2, a3⟩
    · exact ⟨x, y, hx, by rw [e2, List.getElem?_append_right (by omega), show ks.length - S.ins.length = 0 by omega]; rfl, hy⟩
  · rw [e3]
    rcases hk p i hp with ⟨hp, c⟩ | ⟨rfl, rfl⟩
    · have hi := (h.all i).1 (List.mem_of_getElem? hp)
      split
      · omega
      · exact h.loop h0 (by omega) p i hp
    · split
      · omega
      · rename_i hne
        have := h.lop
        constructor
        · intro c; omega
        · intro c; omega
  · rw [e3, e2, List.length_append]
    have := h.lop
    split <;> simp only [List.length_cons, List.length_nil] <;> omega
theorem kept_step {loop0 : Int} {l : List TIns} {m : List Int} {j : Nat} {S S' : CutS} {ks : List Nat} (h : KeptTo loop0 l m j S ks) {x : TIns} {n : Int} (hx : l[j]? = some x) (hm : m[j]? = some n) (e : cutStep loop0 S x n = some S') :
    ∃ ks', KeptTo loop0 l m (j + 1) S' ks' := by
  have ha := h.at_
  unfold cutStep at e
  dsimp only at e
  rw [ha] at e
  split at e
  · rename_i c
    subst c
    injection e with e; subst e
    exact ⟨_, h.push hm hx (like_put _ x) (by simp [ha]) rfl rfl⟩
  rename_i c
  split at e
  · injection e with e; subst e
    exact ⟨_, h.drop hm c (by simp [ha]) rfl rfl⟩
  split at e
  · injection e with e; subst e
    exact ⟨_, h.drop hm c (by simp [ha]) rfl rfl⟩
  · cases e
theorem kept_run {loop0 : Int} {l : List TIns} {m : List Int} (hl : m.length = l.length) : ∀ (k j : Nat) (S S' : CutS) (ks : List Nat), j + k = l.length → KeptTo loop0 l m j S ks → cutRun loop0 (l.drop j) (m.drop j) S = some S' → ∃ ks', KeptTo loop0 l m l.length S' ks'
  | 0, j, S, S', ks, hk, h, e => by
    obtain rfl : j = l.length := by omega
    rw [List.drop_length] at e
    simp only [cutRun, Option.some.injEq] at e
    subst e
    exact ⟨ks, h⟩
  | k + 1, j, S, S', ks, hk, h, e => by
    have hj : j < l.length := by omega
    have hx : l[j]? = some l[j] := List.getElem?_eq_getElem hj
    have hm : m[j]? = some (m[j]'(by omega)) := List.getElem?_eq_getElem (by omega)
    rw [List.drop_eq_getElem_cons hj, List.drop_eq_getElem_cons (l := m) (i := j) (by omega)] at e
    simp only [cutRun] at e
    split at e
    · cases e
    rename_i S1 e1
    obtain ⟨ks1, h1⟩ := kept_step h hx hm e1
    exact kept_run hl k (j + 1) S1 S' ks1 (by omega) h1 e
/-- WHAT IS KEPT by ir.Cut, where it is done. -/
theorem cutM_kept {t : TTrace} {tl : List Int} (h : (cutM t tl).2 = 0) : ∃ S ks, KeptTo t.loop t.ins tl t.ins.length S ks ∧ (cutM t tl).1 = cutEnd t S ∧ tl.length = t.ins.length ∧ cutRun t.loop t.ins tl ⟨[], true, 0, []⟩ = some S := by
  unfold cutM at h ⊢
  split at h
  · cases h
  rename_i hl
  have hl' := Classical.not_not.1 hl
  rw [if_neg hl]
  split at h
  · cases h
  rename_i S e
  split at h
  case isFalse => cases h
  rename_i c
  obtain ⟨ks, hk⟩ := kept_run hl' t.ins.length 0 _ S [] (by omega) (KeptTo.zero _ _ _) e
  refine ⟨S, ks, hk, ?_, hl', e⟩
  rw [if_pos c]
/-- a place is ahead of the loop just if what it was is -/
theorem kept_side {t : TTrace} {tl : List Int} {S : CutS} {ks : List Nat} (h : KeptTo t.loop t.ins tl t.ins.length S ks) {p i : Nat} (hp : ks[p]? = some i) : ((p : Int) < (cutEnd t S).loop ↔ (i : Int) < t.loop) := by
  have hi := (h.all i).1 (List.mem_of_getElem? hp)
  have hpl := (List.getElem?_eq_some_iff.1 hp).1
  have hl := h.len
  unfold cutEnd
  dsimp only
  split
  · omega
  split
  · omega
  · exact h.loop (by omega) (by omega) p i hp
end Go.Proofs.YtlnkjmgfkpeicaaGreatDoor
