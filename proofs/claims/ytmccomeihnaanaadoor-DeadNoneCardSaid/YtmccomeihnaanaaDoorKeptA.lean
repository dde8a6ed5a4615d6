/- What ir.Cut keeps: where it lies then, and what it asks. No program. -/
import Derived.Test.YtmccomeihnaanaaDoorKept
namespace Go.Proofs.YtmccomeihnaanaaDoor

/-- where what is kept lies -/
structure KeptAt (l : List TIns) (S : CutS) (ks : List Nat) : Prop where
  pos : ∀ (p i : Nat), ks[p]? = some i → S.at_[i]? = some (p : Int)
  put : ∀ (p i : Nat), ks[p]? = some i → ∃ x : TIns, l[i]? = some x ∧ S.ins[p]? = some (putM (oneM (S.at_.take (i + 1))) x)
theorem KeptAt.drop {loop0 : Int} {l : List TIns} {m : List Int} {j : Nat} {S S' : CutS} {ks : List Nat} (k : KeptTo loop0 l m j S ks) (h : KeptAt l S ks) {v : Int} (e1 : S'.at_ = S.at_ ++ [v]) (e2 : S'.ins = S.ins) : KeptAt l S' ks := by
  have ha := k.at_
  refine ⟨fun p i hp => ?_, fun p i hp => ?_⟩
  · have hi := (k.all i).1 (List.mem_of_getElem? hp)
    rw [e1, List.getElem?_append_left (by omega)]; exact h.pos p i hp
  · have hi := (k.all i).1 (List.mem_of_getElem? hp)
    obtain ⟨x, h1, h2⟩ := h.put p i hp
    exact ⟨x, h1, by rw [e2, e1, List.take_append_of_le_length (by omega)]; exact h2⟩
theorem KeptAt.push {loop0 : Int} {l : List TIns} {m : List Int} {j : Nat} {S S' : CutS} {ks : List Nat} (k : KeptTo loop0 l m j S ks) (h : KeptAt l S ks) {x : TIns} (hx : l[j]? = some x) (e1 : S'.at_ = S.at_ ++ [(S.ins.length : Int)]) (e2 : S'.ins = S.ins ++ [putM (oneM S'.at_) x]) : KeptAt l S' (ks ++ [j]) := by
  have ha := k.at_
  have hl := k.len
  have hk : ∀ p i, (ks ++ [j])[p]? = some i → (ks[p]? = some i ∧ p < ks.length) ∨ (p = ks.length ∧ i = j) := fun p i hp => by
    rcases Nat.lt_or_ge p ks.length with c | c
    · rw [List.getElem?_append_left c] at hp; exact .inl ⟨hp, c⟩
    · rw [List.getElem?_append_right c] at hp
      have := (List.getElem?_eq_some_iff.1 hp).1
      simp only [List.length_cons, List.length_nil] at this
      have e0 : p - ks.length = 0 := by omega
      rw [e0] at hp
      exact .inr ⟨by omega, by simpa using hp.symm⟩
  refine ⟨fun p i hp => ?_, fun p i hp => ?_⟩
  · rcases hk p i hp with ⟨hp, c⟩ | ⟨rfl, rfl⟩
    · have hi := (k.all i).1 (List.mem_of_getElem? hp)
      rw [e1, List.getElem?_append_left (by omega)]; exact h.pos p i hp
    · rw [e1, List.getElem?_append_right (by omega), ha, Nat.sub_self, hl]; rfl
  · rcases hk p i hp with ⟨hp, c⟩ | ⟨rfl, rfl⟩
    · have hi := (k.all i).1 (List.mem_of_getElem? hp)
      obtain ⟨x', h1, h2⟩ := h.put p i hp
      exact ⟨x', h1, by rw [e2, List.getElem?_append_left (by omega), e1, List.take_append_of_le_length (by omega)]; exact h2⟩
    · refine ⟨x, hx, ?_⟩
      rw [e2, List.getElem?_append_right (by omega), show ks.length - S.ins.length = 0 by omega, List.take_of_length_le (by rw [e1, List.length_append, ha]; simp)]
      rfl
theorem kept_step2 {loop0 : Int} {l : List TIns} {m : List Int} {j : Nat} {S S' : CutS} {ks : List Nat} (h : KeptTo loop0 l m j S ks) (h2 : KeptAt l S ks) {x : TIns} {n : Int} (hx : l[j]? = some x) (hm : m[j]? = some n) (e : cutStep loop0 S x n = some S') :
    ∃ ks', KeptTo loop0 l m (j + 1) S' ks' ∧ KeptAt l S' ks' := by
  have ha := h.at_
  unfold cutStep at e
  dsimp only at e
  rw [ha] at e
  split at e
  · rename_i c
    subst c
    injection e with e; subst e
    exact ⟨_, h.push hm hx (like_put _ x) (by simp [ha]) rfl rfl, KeptAt.push h h2 hx rfl rfl⟩
  rename_i c
  split at e
  · injection e with e; subst e
    exact ⟨_, h.drop hm c (by simp [ha]) rfl rfl, KeptAt.drop h h2 rfl rfl⟩
  split at e
  · injection e with e; subst e
    exact ⟨_, h.drop hm c (by simp [ha]) rfl rfl, KeptAt.drop h h2 rfl rfl⟩
  · cases e
theorem kept_run2 {loop0 : Int} {l : List TIns} {m : List Int} (hl : m.length = l.length) : ∀ (k j : Nat) (S S' : CutS) (ks : List Nat), j + k = l.length → KeptTo loop0 l m j S ks → KeptAt l S ks → cutRun loop0 (l.drop j) (m.drop j) S = some S' → ∃ ks', KeptTo loop0 l m l.length S' ks' ∧ KeptAt l S' ks'
  | 0, j, S, S', ks, hk, h, h2, e => by
    obtain rfl : j = l.length := by omega
    rw [List.drop_length] at e
    simp only [cutRun, Option.some.injEq] at e
    subst e
    exact ⟨ks, h, h2⟩
  | k + 1, j, S, S', ks, hk, h, h2, e => by
    have hj : j < l.length := by omega
    have hx : l[j]? = some l[j] := List.getElem?_eq_getElem hj
    have hm : m[j]? = some (m[j]'(by omega)) := List.getElem?_eq_getElem (by omega)
    rw [List.drop_eq_getElem_cons hj, List.drop_eq_getElem_cons (l := m) (i := j) (by omega)] at e
    simp only [cutRun] at e
    split at e
    · cases e
    rename_i S1 e1
    obtain ⟨ks1, h1, h3⟩ := kept_step2 h h2 hx hm e1
    exact kept_run2 hl k (j + 1) S1 S' ks1 (by omega) h1 h3 e
theorem cutM_kept2 {t : TTrace} {tl : List Int} (h : (cutM t tl).2 = 0) : ∃ S ks, KeptTo t.loop t.ins tl t.ins.length S ks ∧ KeptAt t.ins S ks ∧ (cutM t tl).1 = cutEnd t S ∧ tl.length = t.ins.length := by
  unfold cutM at h ⊢
  split at h
  · cases h
  rename_i hl
  have hl' := Classical.not_not.1 hl
  rw [if_neg hl]
  split at h
  · cases h
  rename_i S e
  split at h
  case isFalse => cases h
  rename_i c
  obtain ⟨ks, hk, hk2⟩ := kept_run2 hl' t.ins.length 0 _ S [] (by omega) (KeptTo.zero _ _ _) ⟨fun p i hp => (by simp at hp), fun p i hp => (by simp at hp)⟩ e
  refine ⟨S, ks, hk, hk2, ?_, hl'⟩
  rw [if_pos c]
theorem asks_put (F : Int → Int) (x : TIns) : asksM (putM F x) = (asksM x).map F := by
  unfold asksM putM
  dsimp only
  generalize (formM x.op).asks = n
  rcases (by omega : n ≤ 0 ∨ n = 1 ∨ n = 2 ∨ 3 ≤ n) with h | h | h | h
  · rw [show n.toNat = 0 by omega]; simp
  · subst h; simp
  · subst h; simp
  · rw [List.take_of_length_le (by simp; omega), List.take_of_length_le (by simp; omega), if_pos (by omega), if_pos (by omega), if_pos (by omega)]; rfl
end Go.Proofs.YtmccomeihnaanaaDoor
