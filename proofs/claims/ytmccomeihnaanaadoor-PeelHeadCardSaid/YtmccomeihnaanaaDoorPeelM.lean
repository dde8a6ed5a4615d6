/- peel: one turn ahead: the turn ahead is the trace's own. No program. -/
import Derived.Test.YtmccomeihnaanaaDoorCutM
namespace Go.Proofs.YtmccomeihnaanaaDoor

def movedM (x : TExit) (n : Int) : TExit := ⟨x.at_, x.steps, x.sets.map (fun s => ⟨s.reg, s.val + n⟩), x.makes.map (fun m => ⟨m.cell + n, m.kind, m.num, m.vals.map (· + n)⟩)⟩
/-- an instruction of the second turn -/
def againI (n m : Int) (x : TIns) : TIns := { putM (· + n) x with exit := if 0 ≤ x.exit then x.exit + m else x.exit }
def twiceM (t : TTrace) : TTrace :=
  ⟨t.fn, t.at_, (t.ins.length : Int), t.ins ++ t.ins.map (againI t.ins.length t.exits.length), t.exits ++ t.exits.map (movedM · t.ins.length), t.back, movedM t.back t.ins.length⟩
theorem cutRun_append (loop0 : Int) : ∀ (l1 : List TIns) (m1 : List Int) (l2 : List TIns) (m2 : List Int) (s : CutS), l1.length = m1.length → cutRun loop0 (l1 ++ l2) (m1 ++ m2) s = (cutRun loop0 l1 m1 s).bind (cutRun loop0 l2 m2)
  | [], [], _, _, _, _ => rfl
  | [], _ :: _, _, _, _, h => by simp at h
  | _ :: _, [], _, _, _, h => by simp at h
  | x :: l1, n :: m1, l2, m2, s, h => by
    simp only [List.cons_append]
    unfold cutRun
    cases hs : cutStep loop0 s x n with
    | none => rfl
    | some s' =>
      dsimp only
      rw [cutRun_append loop0 l1 m1 l2 m2 s' (by simpa using h)]
/-- what was told stays; the loop's begin is passed once -/
theorem cutStep_grow {loop0 : Int} {s s' : CutS} {x : TIns} {n : Int} (h : cutStep loop0 s x n = some s') : ∃ a I, s'.at_ = s.at_ ++ [a] ∧ s'.ins = s.ins ++ I ∧ (((s.at_.length : Int) = loop0 → s'.loop = s.ins.length) ∧ ((s.at_.length : Int) ≠ loop0 → s'.loop = s.loop)) := by
  unfold cutStep at h
  dsimp only at h
  split at h
  · injection h with h; subst h
    exact ⟨_, _, rfl, rfl, fun e => if_pos e, fun e => if_neg e⟩
  split at h
  · injection h with h; subst h
    exact ⟨_, [], rfl, by simp, fun e => if_pos e, fun e => if_neg e⟩
  split at h
  · injection h with h; subst h
    exact ⟨_, [], rfl, by simp, fun e => if_pos e, fun e => if_neg e⟩
  · cases h
theorem cutRun_grow {loop0 : Int} : ∀ (l : List TIns) (m : List Int) (s s' : CutS), cutRun loop0 l m s = some s' → (∃ A I, s'.at_ = s.at_ ++ A ∧ s'.ins = s.ins ++ I) ∧ (loop0 < (s.at_.length : Int) → s'.loop = s.loop)
  | [], m, s, s', h => by
    have e : s = s' := by simpa [cutRun] using h
    subst e
    exact ⟨⟨[], [], by simp, by simp⟩, fun _ => rfl⟩
  | x :: l, [], s, s', h => by
    have e : s = s' := by simpa [cutRun] using h
    subst e
    exact ⟨⟨[], [], by simp, by simp⟩, fun _ => rfl⟩
  | x :: l, n :: m, s, s', h => by
    unfold cutRun at h
    cases hs : cutStep loop0 s x n with
    | none => rw [hs] at h; cases h
    | some s1 =>
      rw [hs] at h
      dsimp only at h
      obtain ⟨a, I, e1, e2, e3, e4⟩ := cutStep_grow hs
      obtain ⟨⟨A, J, f1, f2⟩, f3⟩ := cutRun_grow l m s1 s' h
      refine ⟨⟨a :: A, I ++ J, by rw [f1, e1]; simp, by rw [f2, e2]; simp⟩, fun hl => ?_⟩
      rw [f3 (by rw [e1]; simp; omega), e4 (by omega)]
theorem exit_fix {at_ : List Int} {n : Nat} (h : ∀ v : Int, 0 ≤ v → v < n → oneM at_ v = v) {x : TExit} (hx : exitIn n x) : exitC at_ x = x := by
  obtain ⟨h1, h2⟩ := hx
  obtain ⟨a, s, sets, makes⟩ := x
  unfold exitC
  simp only [TExit.mk.injEq, true_and]
  refine ⟨map_id_of _ fun s hs => ?_, map_id_of _ fun m hm => ?_⟩
  · unfold setC
    rw [h _ (h1 s hs).1 (h1 s hs).2]
  · obtain ⟨h3, h4⟩ := h2 m hm
    unfold makeC
    rw [h _ h3.1 h3.2, map_id_of _ fun v hv => h _ (h4 v hv).1 (h4 v hv).2]
theorem one_first {n : Nat} {A : List Int} {v : Int} (h0 : 0 ≤ v) (h : v < n) : oneM (upto n ++ A) v = v := by
  unfold oneM
  rw [if_neg (by omega), List.getElem?_append_left (by rw [upto_len]; omega), upto_at (by omega)]
  dsimp only
  rw [if_neg (by omega)]; omega
/-- THE TURN AHEAD IS THE TRACE's OWN. -/
theorem peel_head {t : TTrace} (hc : Cuts t) (hn : 0 < t.ins.length) {tl : List Int} (htl : tl.length = t.ins.length) {z : TTrace} (h : cutM (twiceM t) (upto t.ins.length ++ tl) = (z, 0)) :
    z.loop = t.ins.length ∧ t.ins.length ≤ z.ins.length ∧ z.ins.take t.ins.length = t.ins ∧ z.exits.length = 2 * t.exits.length ∧ z.turn = t.back ∧
      ∀ (i : Nat) (x : TExit), t.exits[i]? = some x → z.exits[i]? = some x ∧ ∃ y, z.exits[t.exits.length + i]? = some y ∧ y.at_ = x.at_ ∧ y.steps = x.steps := by
  unfold cutM at h
  split at h
  · cases h
  obtain ⟨lp', e1, e2⟩ := cutRun_id (t.ins.length : Int) t.ins [] 0 (fun k x hx v hv => by simpa using hc.ins k x hx v hv)
  rw [List.length_nil, range'_upto] at e1
  have hrun : cutRun (twiceM t).loop (twiceM t).ins (upto t.ins.length ++ tl) ⟨[], true, 0, []⟩ = cutRun (t.ins.length : Int) (t.ins.map (againI t.ins.length t.exits.length)) tl ⟨upto t.ins.length, true, lp', t.ins⟩ := by
    show cutRun (t.ins.length : Int) (t.ins ++ t.ins.map (againI t.ins.length t.exits.length)) (upto t.ins.length ++ tl) _ = _
    rw [cutRun_append _ _ _ _ _ _ (by rw [upto_len])]
    rw [show (⟨[], true, 0, []⟩ : CutS) = ⟨upto 0, true, 0, []⟩ from rfl, e1]
    simp
  rw [hrun] at h
  cases hs : cutRun (t.ins.length : Int) (t.ins.map (againI t.ins.length t.exits.length)) tl ⟨upto t.ins.length, true, lp', t.ins⟩ with
  | none => rw [hs] at h; cases h
  | some s =>
    rw [hs] at h
    dsimp only at h
    split at h
    · injection h with h _
      obtain ⟨⟨A, I, f1, f2⟩, -⟩ := cutRun_grow _ _ _ _ hs
      dsimp only at f1 f2
      have hlp : s.loop = t.ins.length := by
        obtain ⟨x, l, hx⟩ : ∃ x l, t.ins.map (againI t.ins.length t.exits.length) = x :: l := by
          cases hi : t.ins with
          | nil => rw [hi] at hn; simp at hn
          | cons y r => exact ⟨_, _, rfl⟩
        obtain ⟨n0, m, hm⟩ : ∃ n0 m, tl = n0 :: m := by
          cases tl with
          | nil => simp at htl; omega
          | cons y r => exact ⟨_, _, rfl⟩
        rw [hx, hm] at hs
        unfold cutRun at hs
        cases hst : cutStep (t.ins.length : Int) ⟨upto t.ins.length, true, lp', t.ins⟩ x n0 with
        | none => rw [hst] at hs; cases hs
        | some s1 =>
          rw [hst] at hs
          dsimp only at hs
          obtain ⟨a, J, g1, g2, g3, -⟩ := cutStep_grow hst
          dsimp only at g1 g3
          have := (cutRun_grow _ _ _ _ hs).2 (by rw [g1]; simp [upto_len]; omega)
          rw [this, g3 (by rw [upto_len])]
      have hat : ∀ v : Int, 0 ≤ v → v < t.ins.length → oneM s.at_ v = v := fun v h0 h1 => by rw [f1]; exact one_first h0 h1
      subst h
      refine ⟨?_, ?_, ?_, ?_, ?_, ?_⟩
      · show (if (twiceM t).loop ≤ 0 then 0 else if ((twiceM t).ins.length : Int) ≤ (twiceM t).loop then (s.ins.length : Int) else s.loop) = _
        rw [if_neg (show ¬ (twiceM t).loop ≤ 0 from by show ¬ (t.ins.length : Int) ≤ 0; omega), if_neg (show ¬ ((twiceM t).ins.length : Int) ≤ (twiceM t).loop from by show ¬ (((t.ins ++ t.ins.map (againI t.ins.length t.exits.length)).length : Nat) : Int) ≤ (t.ins.length : Int); simp; omega), hlp]
      · show _ ≤ s.ins.length
        rw [f2]; simp
      · show s.ins.take _ = _
        rw [f2, List.take_left]
      · show ((t.exits ++ t.exits.map (movedM · t.ins.length)).map (exitC s.at_)).length = _
        simp; omega
      · show exitC s.at_ t.back = t.back
        exact exit_fix hat hc.back
      · intro i x hx
        have hi := (List.getElem?_eq_some_iff.1 hx).1
        constructor
        · show ((t.exits ++ t.exits.map (movedM · t.ins.length)).map (exitC s.at_))[i]? = _
          rw [List.getElem?_map, List.getElem?_append_left hi, hx, Option.map_some, exit_fix hat (hc.exits x (List.mem_of_getElem? hx))]
        · refine ⟨exitC s.at_ (movedM x t.ins.length), ?_, rfl, rfl⟩
          show ((t.exits ++ t.exits.map (movedM · t.ins.length)).map (exitC s.at_))[t.exits.length + i]? = _
          rw [List.getElem?_map, List.getElem?_append_right (by omega), Nat.add_sub_cancel_left, List.getElem?_map, hx]
          rfl
    · cases h
end Go.Proofs.YtmccomeihnaanaaDoor
