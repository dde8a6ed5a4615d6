/- dead.Do's last loop as a fold over whatever has come; from the back it is deadGo. No program. -/
import Derived.Test.YtmccomeihnaanaaDoorDeadM
import Derived.Test.YtmccomeihnaanaaDoorBackw
namespace Go.Proofs.YtmccomeihnaanaaDoor

def stM (t : TTrace) (s : List Int × List Int) (p : Nat × TIns) : List Int × List Int :=
  if keepM t s.1 p.1 p.2 then (s.1 ++ asksM p.2, s.2.set p.1 (p.1 : Int)) else (s.1, s.2.set p.1 (-1))
def foldM (t : TTrace) (pre : List (Nat × TIns)) : List Int × List Int := pre.foldl (stM t) (marks0 t, List.replicate t.ins.length 0)
theorem foldM_snoc (t : TTrace) (pre : List (Nat × TIns)) (p : Nat × TIns) : foldM t (pre ++ [p]) = stM t (foldM t pre) p := by
  unfold foldM; rw [List.foldl_append]; rfl
theorem stM_len (t : TTrace) (s : List Int × List Int) (p : Nat × TIns) : (stM t s p).2.length = s.2.length := by
  unfold stM; split <;> simp
theorem foldM_len (t : TTrace) (pre : List (Nat × TIns)) : (foldM t pre).2.length = t.ins.length := by
  have h : ∀ (pre : List (Nat × TIns)) (s : List Int × List Int), (pre.foldl (stM t) s).2.length = s.2.length := fun pre => by
    induction pre with
    | nil => intro s; rfl
    | cons p r ih => intro s; rw [List.foldl_cons, ih, stM_len]
  unfold foldM
  rw [h]; simp
theorem set_last (k : Nat) (acc : List Int) (v : Int) : (List.replicate (k + 1) (0 : Int) ++ acc).set k v = List.replicate k 0 ++ v :: acc := by
  rw [List.replicate_succ', List.append_assoc, List.set_append_right _ _ (by simp)]
  simp
theorem foldM_back (t : TTrace) : ∀ k, k ≤ t.ins.length → ∃ acc : List Int, (foldM t (backTo t.ins k)).2 = List.replicate (t.ins.length - k) 0 ++ acc ∧ deadGo t (t.ins.length - k) (foldM t (backTo t.ins k)).1 acc = deadTo t
  | 0, _ => ⟨[], by simp [foldM, backTo], by simp [foldM, backTo, deadTo]⟩
  | k + 1, h => by
    obtain ⟨acc, h1, h2⟩ := foldM_back t k (by omega)
    obtain ⟨m, hm⟩ : ∃ m, t.ins.length - k = m + 1 := ⟨t.ins.length - k - 1, by omega⟩
    have hmk : t.ins.length - (k + 1) = m := by omega
    have hm1 : t.ins.length - 1 - k = m := by omega
    have hx : t.ins[m]? = some (t.ins[m]'(by omega)) := List.getElem?_eq_getElem (by omega)
    have hg : t.ins.getD m ⟨0, 0, 0, 0, 0, 0, ⟨0, 0⟩⟩ = t.ins[m]'(by omega) := by rw [List.getD_eq_getElem?_getD, hx]; rfl
    rw [backTo_succ, foldM_snoc, hmk, hm1, hg]
    rw [hm] at h1 h2
    unfold deadGo at h2
    rw [hx] at h2
    dsimp only at h2
    unfold stM
    dsimp only
    rw [h1, set_last, set_last]
    by_cases c : keepM t (foldM t (backTo t.ins k)).1 m (t.ins[m]'(by omega)) = true
    · rw [if_pos c] at h2
      rw [if_pos c]
      exact ⟨_, rfl, h2⟩
    · rw [if_neg c] at h2
      rw [if_neg c]
      exact ⟨_, rfl, h2⟩
theorem foldM_all (t : TTrace) : (foldM t (backTo t.ins t.ins.length)).2 = deadTo t := by
  obtain ⟨acc, h1, h2⟩ := foldM_back t t.ins.length (Nat.le_refl _)
  rw [Nat.sub_self] at h1 h2
  rw [h1, ← h2]; rfl
end Go.Proofs.YtmccomeihnaanaaDoor
