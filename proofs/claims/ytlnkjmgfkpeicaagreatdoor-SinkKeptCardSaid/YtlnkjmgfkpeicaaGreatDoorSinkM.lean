/- sink: what a sinking keeps, and what it makes less. No program. -/
import Derived.Test.YtlnkjmgfkpeicaaGreatDoorKept
import Derived.Test.YtlnkjmgfkpeicaaGreatDoorCutK
set_option linter.all false
namespace Go.Proofs.YtlnkjmgfkpeicaaGreatDoor

def news (l : List TIns) : Nat := l.countP (fun x => x.op == 16)
/-- what a trace must be, so that sink.first can go over it -/
structure FitS (t : TTrace) : Prop where
  ins : t.ins.length ≤ 300
  exitsLen : t.exits.length ≤ 200
  ok : ∀ x ∈ t.ins, (-1 ≤ x.exit ∧ x.exit < t.exits.length) ∧ 0 ≤ x.n
  exits : ∀ x ∈ t.exits, x.sets.length ≤ 1000 ∧ x.makes.length + news t.ins ≤ 700 ∧ ∀ m ∈ x.makes, m.vals.length ≤ 1000
  turn : Small t.turn
  back : Small t.back
theorem FitS.small {t : TTrace} (h : FitS t) : SmallT t :=
  ⟨h.ins, h.exitsLen, fun x hx => by obtain ⟨a, b, c⟩ := h.exits x hx; exact ⟨a, by omega, c⟩, h.turn, h.back⟩
theorem news_le (l : List TIns) : news l ≤ l.length := List.countP_le_length
theorem form_low (op : Int) : 0 ≤ (formM op).low := by
  by_cases h : isOp op = true
  · rcases isOp_cases h with rfl | rfl | rfl | rfl | rfl | rfl | rfl | rfl | rfl | rfl | rfl | rfl | rfl | rfl | rfl | rfl | rfl | rfl | rfl <;> decide
  · rw [formM_else op (fun c => h (by simp only [isOp, decide_eq_true_eq]; omega))]; decide
theorem check_fits {p : CProg} {t : TTrace} {rv : Val → Bool} (h : checkM rv (codeCheckM p) (p.fns.map fnOf) t = 0) : FitS t := by
  have hs := check_small h
  obtain ⟨h1, h2, fn, hf, _, hl, hi, ht0, ht1, hb, hx⟩ := checkM_parts h
  have hn := news_le t.ins
  refine ⟨h1, h2, fun x hx' => ?_, fun x hx' => ?_, hs.turn, hs.back⟩
  · obtain ⟨k, hk⟩ := List.getElem?_of_mem hx'
    obtain ⟨_, hfm⟩ := insM_formed t.ins 0 hi k x hk
    simp only [formedM, Bool.and_eq_true] at hfm
    have hlo := form_low x.op
    have h3 := hfm.1.1.2
    simp only [Bool.not_eq_true', Bool.or_eq_false_iff, decide_eq_false_iff_not] at h3
    have h4 := hfm.2
    refine ⟨?_, by omega⟩
    split at h4
    · simp only [beq_iff_eq] at h4; omega
    · simp only [Bool.and_eq_true, decide_eq_true_eq] at h4; omega
  · obtain ⟨a, b, c⟩ := hs.exits x hx'
    have hr := List.all_eq_true.1 hx x hx'
    simp only [rightM, Bool.and_eq_true] at hr
    refine ⟨a, ?_, c⟩
    rcases makesM_len _ _ hr.2 with e | e
    · rw [e]; simp only [List.length_nil]; omega
    · omega
def IsNew (t : TTrace) (v : Int) : Prop := ∃ (k : Nat) (x : TIns), v = (k : Int) ∧ t.ins[k]? = some x ∧ x.op = 16
/-- what the law says -/
structure Keeps (t u : TTrace) : Prop where
  turn : u.turn.sets.length = t.turn.sets.length
  back : u.back.sets.length = t.back.sets.length
  new_ : ∀ (i : Nat) s s', t.back.sets[i]? = some s → u.back.sets[i]? = some s' → IsNew t s.val → IsNew u s'.val
theorem Keeps.refl (t : TTrace) : Keeps t t := ⟨rfl, rfl, fun i s s' h h' hn => by rw [h] at h'; injection h' with h'; subst h'; exact hn⟩
theorem Keeps.trans {t u v : TTrace} (h : Keeps t u) (g : Keeps u v) : Keeps t v :=
  ⟨g.turn.trans h.turn, g.back.trans h.back, fun i s s'' hs hs' hn => by
    have hi : i < u.back.sets.length := by rw [h.back]; exact (List.getElem?_eq_some_iff.1 hs).1
    exact g.new_ i _ s'' (List.getElem?_eq_getElem hi) hs' (h.new_ i s _ hs (List.getElem?_eq_getElem hi) hn)⟩
/-- what may() leaves: the instructions as they are to be, and where each value is told -/
structure Sinks (t : TTrace) (c : Nat) (out : List TIns) (tl : List Int) : Prop where
  lenO : out.length = t.ins.length
  lenT : tl.length = t.ins.length
  less : ∀ (k : Nat) y, out[k]? = some y → y.op = 16 → ∃ x, t.ins[k]? = some x ∧ x.op = 16
  keep : ∀ (k : Nat) x, t.ins[k]? = some x → x.op = 16 → out[k]? = some x ∧ tl[k]? = some (k : Int)
  ok : ∀ y ∈ out, (-1 ≤ y.exit ∧ y.exit < t.exits.length) ∧ 0 ≤ y.n
theorem Sinks.refl {t : TTrace} (h : FitS t) (c : Nat) : Sinks t c t.ins (upto t.ins.length) :=
  ⟨rfl, upto_len _, fun k y h1 h2 => ⟨y, h1, h2⟩, fun k x h1 _ => ⟨h1, upto_at (List.getElem?_eq_some_iff.1 h1).1⟩, h.ok⟩
/-- an instruction that makes nothing is put anew -/
theorem Sinks.setOut {t : TTrace} {c : Nat} {out : List TIns} {tl : List Int} (h : Sinks t c out tl) {i : Nat} {x y : TIns} (hx : t.ins[i]? = some x) (hn : x.op ≠ 16) (hy : y.op ≠ 16) (h1 : -1 ≤ y.exit ∧ y.exit < t.exits.length) (h2 : 0 ≤ y.n) : Sinks t c (out.set i y) tl := by
  refine ⟨by rw [List.length_set]; exact h.lenO, h.lenT, fun k z hz ho => ?_, fun k z hz ho => ?_, fun z hz => ?_⟩
  · rw [List.getElem?_set] at hz
    split at hz
    · split at hz
      · injection hz with hz; subst hz; exact (hy ho).elim
      · cases hz
    · exact h.less k z hz ho
  · obtain ⟨a, b⟩ := h.keep k z hz ho
    refine ⟨?_, b⟩
    rw [List.getElem?_set]
    split
    · rename_i e; subst e; rw [hx] at hz; injection hz with hz; subst hz; exact (hn ho).elim
    · exact a
  · rcases List.mem_or_eq_of_mem_set hz with hz | rfl
    · exact h.ok z hz
    · exact ⟨h1, h2⟩
theorem Sinks.setTo {t : TTrace} {c : Nat} {out : List TIns} {tl : List Int} (h : Sinks t c out tl) {i : Nat} {x : TIns} (hx : t.ins[i]? = some x) (hn : x.op ≠ 16) (v : Int) : Sinks t c out (tl.set i v) := by
  refine ⟨h.lenO, by rw [List.length_set]; exact h.lenT, h.less, fun k z hz ho => ?_, h.ok⟩
  obtain ⟨a, b⟩ := h.keep k z hz ho
  refine ⟨a, ?_⟩
  rw [List.getElem?_set]
  split
  · rename_i e; subst e; rw [hx] at hz; injection hz with hz; subst hz; exact (hn ho).elim
  · exact b
/-- the one that is sunk is told free -/
def freed (out : List TIns) (c : Nat) : List TIns := match out[c]? with | some x => out.set c { x with op := 18, n := 0 } | none => out
theorem freed_len (out : List TIns) (c : Nat) : (freed out c).length = out.length := by unfold freed; split <;> simp
theorem count_lt : ∀ (l m : List TIns) (c : Nat), m.length = l.length → (∀ (k : Nat) y, m[k]? = some y → y.op = 16 → ∃ x, l[k]? = some x ∧ x.op = 16) → news m ≤ news l ∧ ((∃ x, l[c]? = some x ∧ x.op = 16) → (∃ y, m[c]? = some y ∧ y.op ≠ 16) → news m < news l)
  | [], [], _, _, _ => ⟨Nat.le_refl _, fun h => by obtain ⟨x, h, _⟩ := h; simp at h⟩
  | [], _ :: _, _, h, _ => by simp at h
  | _ :: _, [], _, h, _ => by simp at h
  | x :: l, y :: m, c, hl, h => by
    have ih := fun c => count_lt l m c (by simpa using hl) (fun k z hz ho => by simpa using h (k + 1) z (by simpa using hz) ho)
    have h0 : y.op = 16 → x.op = 16 := fun e => by obtain ⟨x', a, b⟩ := h 0 y rfl e; obtain rfl : x = x' := (by simpa using a); exact b
    have ex : news (x :: l) = news l + (if x.op = 16 then 1 else 0) := by unfold news; rw [List.countP_cons]; simp
    have ey : news (y :: m) = news m + (if y.op = 16 then 1 else 0) := by unfold news; rw [List.countP_cons]; simp
    rw [ex, ey]
    refine ⟨?_, fun a b => ?_⟩
    · have := (ih 0).1
      by_cases p : y.op = 16
      · rw [if_pos p, if_pos (h0 p)]; omega
      · rw [if_neg p]; omega
    · cases c with
      | zero =>
        obtain ⟨x', a1, a2⟩ := a
        obtain ⟨y', b1, b2⟩ := b
        have : x = x' := by simpa using a1
        subst this
        have : y = y' := by simpa using b1
        subst this
        have := (ih 0).1
        rw [if_pos a2, if_neg b2]; omega
      | succ c =>
        have := (ih c).2 (by simpa using a) (by simpa using b)
        by_cases p : y.op = 16
        · rw [if_pos p, if_pos (h0 p)]; omega
        · rw [if_neg p]; omega
theorem cutRun_news (loop0 : Int) : ∀ (l : List TIns) (m : List Int) (s s' : CutS), cutRun loop0 l m s = some s' → news s'.ins ≤ news s.ins + news l
  | [], m, s, s', h => by
    cases m <;> (simp only [cutRun, Option.some.injEq] at h; subst h; simp [news])
  | x :: l, [], s, s', h => by simp only [cutRun, Option.some.injEq] at h; subst h; omega
  | x :: l, n :: m, s, s', h => by
    simp only [cutRun] at h
    split at h
    · cases h
    rename_i s1 e
    have h1 := cutRun_news loop0 l m s1 s' h
    have ex : news (x :: l) = news l + news [x] := by unfold news; rw [List.countP_cons, List.countP_cons]; simp
    have h2 : news s1.ins ≤ news s.ins + news [x] := by
      unfold cutStep at e
      dsimp only at e
      split at e
      · injection e with e; subst e
        have : ∀ a, news (s.ins ++ [insC a x]) = news s.ins + news [x] := fun a => by
          unfold news
          rw [List.countP_append]
          simp [insC, putM]
        rw [this]; exact Nat.le_refl _
      split at e
      · injection e with e; subst e; simp
      split at e
      · injection e with e; subst e; simp
      · cases e
    omega
theorem cutRun_pre (loop0 : Int) : ∀ (l : List TIns) (m : List Int) (s s' : CutS), cutRun loop0 l m s = some s' → (∃ r, s'.at_ = s.at_ ++ r) ∧ ∃ r, s'.ins = s.ins ++ r
  | [], m, s, s', h => by
    cases m <;> (simp only [cutRun, Option.some.injEq] at h; subst h; exact ⟨⟨[], by simp⟩, ⟨[], by simp⟩⟩)
  | x :: l, [], s, s', h => by simp only [cutRun, Option.some.injEq] at h; subst h; exact ⟨⟨[], by simp⟩, ⟨[], by simp⟩⟩
  | x :: l, n :: m, s, s', h => by
    simp only [cutRun] at h
    split at h
    · cases h
    rename_i s1 e
    obtain ⟨⟨r1, h1⟩, ⟨r2, h2⟩⟩ := cutRun_pre loop0 l m s1 s' h
    unfold cutStep at e
    dsimp only at e
    split at e
    · injection e with e; subst e
      exact ⟨⟨_, h1.trans (List.append_assoc _ _ _)⟩, ⟨_, h2.trans (List.append_assoc _ _ _)⟩⟩
    split at e
    · injection e with e; subst e
      exact ⟨⟨_, h1.trans (List.append_assoc _ _ _)⟩, ⟨r2, h2⟩⟩
    split at e
    · injection e with e; subst e
      exact ⟨⟨_, h1.trans (List.append_assoc _ _ _)⟩, ⟨r2, h2⟩⟩
    · cases e
/-- an instruction that is kept: where it is -/
theorem cutRun_at (loop0 : Int) : ∀ (l : List TIns) (m : List Int) (s s' : CutS), m.length = l.length → cutRun loop0 l m s = some s' → ∀ (k : Nat) x, l[k]? = some x → m[k]? = some ((s.at_.length + k : Nat) : Int) → ∃ (p : Nat) (y : TIns), s'.at_[s.at_.length + k]? = some (p : Int) ∧ s'.ins[p]? = some y ∧ y.op = x.op
  | [], _, _, _, _, _, _, _, hx, _ => by simp at hx
  | _ :: _, [], _, _, hl, _, _, _, _, _ => by simp at hl
  | x :: l, n :: m, s, s', hl, h, k, z, hz, hm => by
    simp only [cutRun] at h
    split at h
    · cases h
    rename_i s1 e
    cases k with
    | zero =>
      have hz : x = z := by simpa using hz
      subst hz
      have hm : n = (s.at_.length : Int) := by simpa using hm
      obtain ⟨⟨r1, h1⟩, ⟨r2, h2⟩⟩ := cutRun_pre loop0 l m s1 s' h
      unfold cutStep at e
      dsimp only at e
      rw [if_pos hm] at e
      injection e with e; subst e
      refine ⟨s.ins.length, insC (s.at_ ++ [(s.ins.length : Int)]) x, ?_, ?_, rfl⟩
      · rw [h1]; simp
      · rw [h2]; simp
    | succ k =>
      have hlen : s1.at_.length = s.at_.length + 1 := by
        unfold cutStep at e
        dsimp only at e
        split at e
        · injection e with e; subst e; simp
        split at e
        · injection e with e; subst e; simp
        split at e
        · injection e with e; subst e; simp
        · cases e
      have := cutRun_at loop0 l m s1 s' (by simpa using hl) h k z (by simpa using hz) (by rw [hlen, show s.at_.length + 1 + k = s.at_.length + (k + 1) by omega]; simpa using hm)
      rwa [hlen, show s.at_.length + 1 + k = s.at_.length + (k + 1) by omega] at this
/-- the exits behind a sinking -/
def ExitsTo (l l' : List TExit) : Prop := l'.length = l.length ∧ ∀ (i : Nat) x', l'[i]? = some x' → ∃ x, l[i]? = some x ∧ x'.sets = x.sets ∧ x'.makes.length ≤ x.makes.length + 1 ∧ ∀ m ∈ x'.makes, m.vals.length ≤ 1000
theorem sunk_small {t : TTrace} (h : FitS t) {c : Nat} {out : List TIns} {tl : List Int} (hs : Sinks t c out tl) {ex : List TExit} (he : ExitsTo t.exits ex) : SmallT { t with ins := freed out c, exits := ex } := by
  refine ⟨by show (freed out c).length ≤ 300; rw [freed_len, hs.lenO]; exact h.ins, by show ex.length ≤ 200; rw [he.1]; exact h.exitsLen, fun x hx => ?_, h.turn, h.back⟩
  obtain ⟨i, hi⟩ := List.getElem?_of_mem hx
  obtain ⟨x0, h1, h2, h3, h4⟩ := he.2 i x hi
  obtain ⟨a, b, _⟩ := h.exits x0 (List.mem_of_getElem? h1)
  exact ⟨by rw [h2]; exact a, by omega, h4⟩
theorem sunk_law {t u : TTrace} (h : FitS t) {c : Nat} {out : List TIns} {tl : List Int} (hs : Sinks t c out tl) (hc : ∃ x, t.ins[c]? = some x ∧ x.op = 16) (hb : ∀ s ∈ t.back.sets, s.val ≠ c) {ex : List TExit} (he : ExitsTo t.exits ex)
    (hu : cutM { t with ins := freed out c, exits := ex } tl = (u, 0)) : FitS u ∧ news u.ins < news t.ins ∧ Keeps t u := by
  obtain ⟨xc, hc1, hc2⟩ := hc
  obtain ⟨S, ks, hk, e1, e2, e3⟩ := cutM_kept (t := { t with ins := freed out c, exits := ex }) (tl := tl) (by rw [hu])
  rw [hu] at e1
  dsimp only at e1 e2 e3 hk
  have hoc := (hs.keep c xc hc1 hc2).1
  have hcl : c < out.length := (List.getElem?_eq_some_iff.1 hoc).1
  have hfr : freed out c = out.set c { xc with op := 18, n := 0 } := by unfold freed; rw [hoc]
  have hnew : news (freed out c) < news t.ins := by
    refine (count_lt t.ins (freed out c) c (by rw [freed_len]; exact hs.lenO) (fun k y hy ho => ?_)).2 ⟨xc, hc1, hc2⟩ ⟨{ xc with op := 18, n := 0 }, by rw [hfr]; exact List.getElem?_set_self hcl, by show (18 : Int) ≠ 16; decide⟩
    rw [hfr] at hy
    by_cases e : c = k
    · subst e
      rw [List.getElem?_set_self hcl] at hy
      injection hy with hy
      subst hy
      exact absurd ho (show ¬ (18 : Int) = 16 by decide)
    · rw [List.getElem?_set_ne e] at hy
      exact hs.less k y hy ho
  have hrun := cutRun_news _ _ _ _ _ e3
  have hn0 : news ([] : List TIns) = 0 := rfl
  have hnu : news u.ins < news t.ins := by
    rw [e1]
    show news S.ins < _
    dsimp only at hrun
    omega
  have hmem : ∀ y ∈ u.ins, ∃ x ∈ freed out c, Like x y := fun y hy => by
    rw [e1] at hy
    obtain ⟨p, hp⟩ := List.getElem?_of_mem (show y ∈ S.ins from hy)
    have hpl : p < ks.length := by rw [hk.len]; exact (List.getElem?_eq_some_iff.1 hp).1
    obtain ⟨x, y', a1, a2, a3⟩ := hk.like p _ (List.getElem?_eq_getElem hpl)
    rw [hp] at a2
    injection a2 with a2
    subst a2
    exact ⟨x, List.mem_of_getElem? a1, a3⟩
  have huex : u.exits = ex.map (exitC S.at_) := by rw [e1]; rfl
  have small : ∀ x, Small x → Small (exitC S.at_ x) := fun x ⟨a, b, d⟩ => ⟨by simpa [exitC] using a, by simpa [exitC] using b, fun m hm => by
    obtain ⟨m0, hm0, rfl⟩ := List.mem_map.1 (show m ∈ x.makes.map (makeC S.at_) from hm)
    simpa [makeC] using d m0 hm0⟩
  refine ⟨⟨?_, ?_, fun y hy => ?_, fun x hx => ?_, ?_, ?_⟩, hnu, ?_, ?_, fun i s s' h1 h2 h3 => ?_⟩
  · have := cutRun_len _ _ _ _ _ e3
    rw [e1]
    show S.ins.length ≤ 300
    have h1 := h.ins
    have h2 := hs.lenO
    rw [freed_len] at this
    simp only [List.length_nil] at this
    omega
  · rw [huex, List.length_map, he.1]; exact h.exitsLen
  · obtain ⟨x, hx, l1, l2, l3, _⟩ := hmem y hy
    rw [huex, List.length_map, he.1, l2, l3]
    rw [hfr] at hx
    rcases List.mem_or_eq_of_mem_set hx with hx | rfl
    · exact hs.ok x hx
    · exact ⟨(h.ok xc (List.mem_of_getElem? hc1)).1, Int.le_refl _⟩
  · rw [huex] at hx
    obtain ⟨x1, hx1, rfl⟩ := List.mem_map.1 hx
    obtain ⟨i, hi⟩ := List.getElem?_of_mem hx1
    obtain ⟨x0, a1, a2, a3, a4⟩ := he.2 i x1 hi
    obtain ⟨b1, b2, b3⟩ := h.exits x0 (List.mem_of_getElem? a1)
    refine ⟨by simp only [exitC, List.length_map]; rw [a2]; exact b1, by simp only [exitC, List.length_map]; omega, fun m hm => ?_⟩
    obtain ⟨m0, hm0, rfl⟩ := List.mem_map.1 (show m ∈ x1.makes.map (makeC S.at_) from hm)
    simpa [makeC] using a4 m0 hm0
  · rw [e1]; exact small _ h.turn
  · rw [e1]; exact small _ h.back
  · rw [e1]; simp [cutEnd, exitC]
  · rw [e1]; simp [cutEnd, exitC]
  · obtain ⟨k, x, hv, hx, ho⟩ := h3
    have hkc : k ≠ c := fun e => hb s (List.mem_of_getElem? h1) (by rw [hv, e])
    obtain ⟨ho1, ho2⟩ := hs.keep k x hx ho
    have hf : (freed out c)[k]? = some x := by rw [hfr, List.getElem?_set_ne (fun e => hkc e.symm)]; exact ho1
    obtain ⟨p, y, hp1, hp2, hp3⟩ := cutRun_at _ _ _ _ _ e2 e3 k x hf (by simpa using ho2)
    simp only [List.length_nil, Nat.zero_add] at hp1
    rw [e1] at h2
    have h2 : (t.back.sets.map (setC S.at_))[i]? = some s' := h2
    rw [List.getElem?_map, h1] at h2
    have h2 : setC S.at_ s = s' := by simpa using h2
    subst h2
    refine ⟨p, y, ?_, by rw [e1]; exact hp2, by rw [hp3]; exact ho⟩
    show oneM S.at_ s.val = _
    unfold oneM
    rw [hv, if_neg (by omega), Int.toNat_natCast, hp1]
    dsimp only
    rw [if_neg (by omega)]
end Go.Proofs.YtlnkjmgfkpeicaaGreatDoor
