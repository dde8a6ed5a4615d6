/- Traces told in letters: two of one text are one. No program. -/
import Derived.Test.YtogpbgkafkalnaaDoorIrM
import Derived.Lib.ItoaNum
namespace Go.Proofs.YtogpbgkafkalnaaDoor
open Go.Lib

theorem digit_nat {d : Nat} (h : d < 10) : (UInt8.ofNat (48 + d)).toNat = 48 + d := by
  rw [UInt8.toNat_ofNat']; omega

def valOf (l : List UInt8) : Nat := l.foldl (fun a b => a * 10 + (b.toNat - 48)) 0
theorem valOf_dec (u : Nat) : valOf (decDigits u) = u := by
  induction u using Nat.strongRecOn with
  | ind u ih =>
    rw [decDigits]
    by_cases h : u < 10
    · rw [dif_pos h]
      simp only [valOf, List.foldl_cons, List.foldl_nil, digit_nat h]
      omega
    · rw [dif_neg h]
      have e := ih (u / 10) (by omega)
      unfold valOf at *
      rw [List.foldl_append, e]
      simp only [List.foldl_cons, List.foldl_nil, digit_nat (Nat.mod_lt u (show 0 < 10 by omega))]
      omega
theorem dec_num (u : Nat) : ∀ b ∈ decDigits u, 48 ≤ b.toNat ∧ b.toNat ≤ 57 := by
  induction u using Nat.strongRecOn with
  | ind u ih =>
    rw [decDigits]
    by_cases h : u < 10
    · rw [dif_pos h]
      intro b hb
      rw [List.mem_singleton] at hb
      subst hb
      rw [digit_nat h]
      omega
    · rw [dif_neg h]
      intro b hb
      rw [List.mem_append, List.mem_singleton] at hb
      rcases hb with hb | rfl
      · exact ih (u / 10) (by omega) b hb
      · rw [digit_nat (Nat.mod_lt u (show 0 < 10 by omega))]
        omega

/-- a numeral's letter -/
def NumB (b : UInt8) : Prop := b = 45 ∨ (48 ≤ b.toNat ∧ b.toNat ≤ 57)
theorem dec_not_minus {n : Nat} {l : List UInt8} (h : 45 :: l = decDigits n) : False := by
  have := dec_num n 45 (by rw [← h]; simp)
  have e : (45 : UInt8).toNat = 45 := rfl
  omega
theorem dec_inj {a b : Nat} (h : decDigits a = decDigits b) : a = b := by
  have := congrArg valOf h
  rwa [valOf_dec, valOf_dec] at this
theorem itoa_inj {a b : Int} (h : itoa a = itoa b) : a = b := by
  unfold itoa at h
  split at h <;> split at h
  · injection h with _ h
    have := dec_inj h
    omega
  · exact (dec_not_minus h).elim
  · exact (dec_not_minus h.symm).elim
  · have := dec_inj h
    omega
theorem itoa_num (n : Int) : ∀ b ∈ itoa n, NumB b := by
  unfold itoa
  intro b hb
  split at hb
  · rcases List.mem_cons.1 hb with rfl | hb
    · exact .inl rfl
    · exact .inr (dec_num _ b hb)
  · exact .inr (dec_num _ b hb)
theorem dec_ne (u : Nat) : decDigits u ≠ [] := by
  rw [decDigits]
  split <;> simp
theorem itoa_cons (n : Int) : ∃ b r, itoa n = b :: r ∧ NumB b := by
  cases h : itoa n with
  | nil =>
    unfold itoa at h
    split at h
    · cases h
    · exact (dec_ne _ h).elim
  | cons b r => exact ⟨b, r, rfl, itoa_num n b (by rw [h]; simp)⟩

/-- what follows is no numeral's letter -/
def Off (l : List UInt8) : Prop := ∀ b r, l = b :: r → ¬ NumB b
theorem Off.cons {b : UInt8} {r : List UInt8} (h : ¬ NumB b) : Off (b :: r) := fun _ _ e => by
  injection e with e _
  exact e ▸ h
theorem off32 (r : List UInt8) : Off (32 :: r) := Off.cons (by unfold NumB; decide)
theorem off10 (r : List UInt8) : Off (10 :: r) := Off.cons (by unfold NumB; decide)
theorem off61 (r : List UInt8) : Off (61 :: r) := Off.cons (by unfold NumB; decide)
theorem off58 (r : List UInt8) : Off (58 :: r) := Off.cons (by unfold NumB; decide)
theorem off44 (r : List UInt8) : Off (44 :: r) := Off.cons (by unfold NumB; decide)

theorem split_inj : ∀ {A B k l : List UInt8}, (∀ b ∈ A, NumB b) → (∀ b ∈ B, NumB b) → Off k → Off l → A ++ k = B ++ l → A = B ∧ k = l
  | [], [], _, _, _, _, _, _, h => ⟨rfl, h⟩
  | [], b :: B, k, l, _, hB, hk, _, h => (hk b (B ++ l) h (hB b (by simp))).elim
  | a :: A, [], k, l, hA, _, _, hl, h => (hl a (A ++ k) h.symm (hA a (by simp))).elim
  | a :: A, b :: B, k, l, hA, hB, hk, hl, h => by
    injection h with h1 h2
    obtain ⟨e1, e2⟩ := split_inj (fun c hc => hA c (by simp [hc])) (fun c hc => hB c (by simp [hc])) hk hl h2
    exact ⟨by rw [h1, e1], e2⟩
theorem num_inj {a b : Int} {k l : List UInt8} (hk : Off k) (hl : Off l) (h : itoa a ++ k = itoa b ++ l) : a = b ∧ k = l := by
  obtain ⟨e1, e2⟩ := split_inj (itoa_num a) (itoa_num b) hk hl h
  exact ⟨itoa_inj e1, e2⟩
theorem num_step {a b : Int} {c : UInt8} {k l : List UInt8} (hc : ¬ NumB c) (h : itoa a ++ c :: k = itoa b ++ c :: l) : a = b ∧ k = l := by
  obtain ⟨e1, e2⟩ := num_inj (Off.cons hc) (Off.cons hc) h
  injection e2 with _ e2
  exact ⟨e1, e2⟩

theorem foldr_inj {α : Type} {f : α → List UInt8 → List UInt8} {E F : List UInt8 → Prop} (hFE : ∀ k, F k → E k) (hE : ∀ x k, E k → E (f x k))
    (hinj : ∀ x y k l, E k → E l → f x k = f y l → x = y ∧ k = l) (hno : ∀ x k l, F l → f x k = l → False) :
    ∀ {A B : List α} {k l : List UInt8}, F k → F l → A.foldr f k = B.foldr f l → A = B ∧ k = l
  | [], [], _, _, _, _, h => ⟨rfl, h⟩
  | [], b :: B, k, l, hk, _, h => (hno b (B.foldr f l) k hk h.symm).elim
  | a :: A, [], k, l, _, hl, h => (hno a (A.foldr f k) l hl h).elim
  | a :: A, b :: B, k, l, hk, hl, h => by
    have hr : ∀ (L : List α) (m : List UInt8), F m → E (L.foldr f m) := fun L m hm => by
      induction L with
      | nil => exact hFE m hm
      | cons x L ih => exact hE x _ ih
    obtain ⟨e1, e2⟩ := hinj a b _ _ (hr A k hk) (hr B l hl) h
    obtain ⟨e3, e4⟩ := foldr_inj hFE hE hinj hno hk hl e2
    exact ⟨by rw [e1, e3], e4⟩
theorem foldr_ends {α : Type} {f : α → List UInt8 → List UInt8} {E F : List UInt8 → Prop} (hFE : ∀ k, F k → E k) (hE : ∀ x k, E k → E (f x k)) : ∀ (L : List α) (m : List UInt8), F m → E (L.foldr f m)
  | [], m, hm => hFE m hm
  | x :: L, m, hm => hE x _ (foldr_ends hFE hE L m hm)

/-! The texts, each ahead of what follows it. -/
def insT (x : TIns) (k : List UInt8) : List UInt8 :=
  itoa x.op ++ 32 :: (itoa x.a ++ 32 :: (itoa x.b ++ 32 :: (itoa x.c ++ 32 :: (itoa x.n ++ 32 :: (itoa x.exit ++ 32 :: (itoa x.k.kind ++ 32 :: (itoa x.k.n ++ 10 :: k)))))))
def setT (s : TSet) (k : List UInt8) : List UInt8 := 32 :: 114 :: (itoa s.reg ++ 61 :: (itoa s.val ++ k))
def valT (v : Int) (k : List UInt8) : List UInt8 := 44 :: (itoa v ++ k)
def makeT (m : TMake) (k : List UInt8) : List UInt8 := 32 :: 109 :: (itoa m.cell ++ 58 :: (itoa m.kind ++ 58 :: (itoa m.num ++ m.vals.foldr valT k)))
def exitT (x : TExit) (k : List UInt8) : List UInt8 := itoa x.at_ ++ 32 :: (itoa x.steps ++ x.sets.foldr setT (x.makes.foldr makeT (10 :: k)))
def exitL (x : TExit) (k : List UInt8) : List UInt8 := 101 :: 120 :: 105 :: 116 :: 32 :: exitT x k
def traceT (t : TTrace) : List UInt8 :=
  116 :: 114 :: 97 :: 99 :: 101 :: 32 :: (itoa t.fn ++ 32 :: (itoa t.at_ ++ 32 :: (itoa t.loop ++ 10 :: t.ins.foldr insT (t.exits.foldr exitL (116 :: 117 :: 114 :: 110 :: 32 :: exitT t.turn (98 :: 97 :: 99 :: 107 :: 32 :: exitT t.back []))))))

theorem n32 : ¬ NumB 32 := by unfold NumB; decide
theorem n10 : ¬ NumB 10 := by unfold NumB; decide
theorem n61 : ¬ NumB 61 := by unfold NumB; decide
theorem n58 : ¬ NumB 58 := by unfold NumB; decide

theorem insT_inj (x y : TIns) (k l : List UInt8) (h : insT x k = insT y l) : x = y ∧ k = l := by
  unfold insT at h
  obtain ⟨e1, h⟩ := num_step n32 h
  obtain ⟨e2, h⟩ := num_step n32 h
  obtain ⟨e3, h⟩ := num_step n32 h
  obtain ⟨e4, h⟩ := num_step n32 h
  obtain ⟨e5, h⟩ := num_step n32 h
  obtain ⟨e6, h⟩ := num_step n32 h
  obtain ⟨e7, h⟩ := num_step n32 h
  obtain ⟨e8, hq⟩ := num_step n10 h
  obtain ⟨_, _, _, _, _, _, _, _⟩ := x
  obtain ⟨_, _, _, _, _, _, _, _⟩ := y
  simp only at e1 e2 e3 e4 e5 e6 e7 e8
  subst e1 e2 e3 e4 e5 e6 e7 e8
  exact ⟨rfl, hq⟩

theorem valT_inj (x y : Int) (k l : List UInt8) (hk : Off k) (hl : Off l) (h : valT x k = valT y l) : x = y ∧ k = l := by
  injection h with _ h
  exact num_inj hk hl h
theorem setT_inj (x y : TSet) (k l : List UInt8) (hk : Off k) (hl : Off l) (h : setT x k = setT y l) : x = y ∧ k = l := by
  injection h with _ h
  injection h with _ h
  obtain ⟨e1, h⟩ := num_step n61 h
  obtain ⟨e2, hq⟩ := num_inj hk hl h
  obtain ⟨_, _⟩ := x
  obtain ⟨_, _⟩ := y
  simp only at e1 e2
  subst e1 e2
  exact ⟨rfl, hq⟩

/-- what may follow a made cell: a further one, or the line's end -/
def EndM (l : List UInt8) : Prop := ∃ r, l = 32 :: r ∨ l = 10 :: r
theorem EndM.off {l : List UInt8} (h : EndM l) : Off l := by
  obtain ⟨r, rfl | rfl⟩ := h
  · exact off32 r
  · exact off10 r
theorem vals_inj {A B : List Int} {k l : List UInt8} (hk : EndM k) (hl : EndM l) (h : A.foldr valT k = B.foldr valT l) : A = B ∧ k = l :=
  foldr_inj (E := Off) (F := EndM) (fun _ h => h.off) (fun _ _ _ => off44 _) valT_inj (fun x k l ⟨r, hr⟩ e => by rcases hr with rfl | rfl <;> · injection e with e _; exact absurd e (by decide)) hk hl h
theorem vals_off (A : List Int) {k : List UInt8} (hk : EndM k) : Off (A.foldr valT k) := foldr_ends (E := Off) (F := EndM) (fun _ h => h.off) (fun _ _ _ => off44 _) A k hk
theorem makeT_inj (x y : TMake) (k l : List UInt8) (hk : EndM k) (hl : EndM l) (h : makeT x k = makeT y l) : x = y ∧ k = l := by
  injection h with _ h
  injection h with _ h
  obtain ⟨e1, h⟩ := num_step n58 h
  obtain ⟨e2, h⟩ := num_step n58 h
  obtain ⟨e3, h⟩ := num_inj (vals_off _ hk) (vals_off _ hl) h
  obtain ⟨e4, hq⟩ := vals_inj hk hl h
  obtain ⟨_, _, _, _⟩ := x
  obtain ⟨_, _, _, _⟩ := y
  simp only at e1 e2 e3 e4
  subst e1 e2 e3 e4
  exact ⟨rfl, hq⟩
def EndL (l : List UInt8) : Prop := ∃ r, l = 10 :: r
theorem makes_inj {A B : List TMake} {k l : List UInt8} (hk : EndL k) (hl : EndL l) (h : A.foldr makeT k = B.foldr makeT l) : A = B ∧ k = l :=
  foldr_inj (E := EndM) (F := EndL) (fun _ ⟨r, h⟩ => ⟨r, .inr h⟩) (fun _ _ _ => ⟨_, .inl rfl⟩) makeT_inj (fun x k l ⟨r, hr⟩ e => by subst hr; injection e with e _; exact absurd e (by decide)) hk hl h
def EndS (l : List UInt8) : Prop := (∃ r, l = 10 :: r) ∨ ∃ r, l = 32 :: 109 :: r
theorem makes_end : ∀ (A : List TMake) (k : List UInt8), EndS (A.foldr makeT (10 :: k))
  | [], k => .inl ⟨k, rfl⟩
  | _ :: _, _ => .inr ⟨_, rfl⟩
theorem EndS.off {l : List UInt8} (h : EndS l) : Off l := by
  rcases h with ⟨r, rfl⟩ | ⟨r, rfl⟩
  · exact off10 r
  · exact off32 _
theorem sets_inj {A B : List TSet} {k l : List UInt8} (hk : EndS k) (hl : EndS l) (h : A.foldr setT k = B.foldr setT l) : A = B ∧ k = l :=
  foldr_inj (E := Off) (F := EndS) (fun _ h => h.off) (fun _ _ _ => off32 _) setT_inj (fun x k l hr e => by
    rcases hr with ⟨r, rfl⟩ | ⟨r, rfl⟩
    · injection e with e _
      exact absurd e (by decide)
    · injection e with _ e
      injection e with e _
      exact absurd e (by decide)) hk hl h
theorem sets_off (A : List TSet) {k : List UInt8} (hk : EndS k) : Off (A.foldr setT k) := foldr_ends (E := Off) (F := EndS) (fun _ h => h.off) (fun _ _ _ => off32 _) A k hk
theorem exitT_inj (x y : TExit) (k l : List UInt8) (h : exitT x k = exitT y l) : x = y ∧ k = l := by
  unfold exitT at h
  obtain ⟨e1, h⟩ := num_step n32 h
  obtain ⟨e2, h⟩ := num_inj (sets_off _ (makes_end _ _)) (sets_off _ (makes_end _ _)) h
  obtain ⟨e3, h⟩ := sets_inj (makes_end _ _) (makes_end _ _) h
  obtain ⟨e4, h⟩ := makes_inj ⟨_, rfl⟩ ⟨_, rfl⟩ h
  injection h with _ hq
  obtain ⟨_, _, _, _⟩ := x
  obtain ⟨_, _, _, _⟩ := y
  simp only at e1 e2 e3 e4
  subst e1 e2 e3 e4
  exact ⟨rfl, hq⟩
def EndT (l : List UInt8) : Prop := ∃ r, l = 116 :: r
theorem exits_inj {A B : List TExit} {k l : List UInt8} (hk : EndT k) (hl : EndT l) (h : A.foldr exitL k = B.foldr exitL l) : A = B ∧ k = l :=
  foldr_inj (E := fun _ => True) (F := EndT) (fun _ _ => trivial) (fun _ _ _ => trivial) (fun x y k l _ _ h => by
    simp only [exitL, List.cons.injEq, true_and] at h
    exact exitT_inj x y k l h) (fun x k l ⟨r, hr⟩ e => by subst hr; injection e with e _; exact absurd e (by decide)) hk hl h
def EndI (l : List UInt8) : Prop := ∃ b r, l = b :: r ∧ ¬ NumB b
theorem ins_inj {A B : List TIns} {k l : List UInt8} (hk : EndI k) (hl : EndI l) (h : A.foldr insT k = B.foldr insT l) : A = B ∧ k = l :=
  foldr_inj (E := fun _ => True) (F := EndI) (fun _ _ => trivial) (fun _ _ _ => trivial) (fun x y k l _ _ h => insT_inj x y k l h) (fun x k l ⟨b, r, hr, hb⟩ e => by
    obtain ⟨c, s, e1, hc⟩ := itoa_cons x.op
    unfold insT at e
    rw [e1, hr] at e
    injection e with e _
    exact hb (e ▸ hc)) hk hl h
theorem exits_end : ∀ (A : List TExit) (k : List UInt8), EndI (A.foldr exitL (116 :: k))
  | [], k => ⟨116, k, rfl, by unfold NumB; decide⟩
  | _ :: _, _ => ⟨101, _, rfl, by unfold NumB; decide⟩

/-- TWO OF ONE TEXT ARE ONE. -/
theorem traceT_inj (t u : TTrace) (h : traceT t = traceT u) : t = u := by
  simp only [traceT, List.cons.injEq, true_and] at h
  obtain ⟨e1, h⟩ := num_step n32 h
  obtain ⟨e2, h⟩ := num_step n32 h
  obtain ⟨e3, h⟩ := num_step n10 h
  obtain ⟨e4, h⟩ := ins_inj (exits_end _ _) (exits_end _ _) h
  obtain ⟨e5, h⟩ := exits_inj ⟨_, rfl⟩ ⟨_, rfl⟩ h
  simp only [List.cons.injEq, true_and] at h
  obtain ⟨e6, h⟩ := exitT_inj _ _ _ _ h
  simp only [List.cons.injEq, true_and] at h
  obtain ⟨e7, _⟩ := exitT_inj _ _ _ _ h
  obtain ⟨_, _, _, _, _, _, _⟩ := t
  obtain ⟨_, _, _, _, _, _, _⟩ := u
  simp only at e1 e2 e3 e4 e5 e6 e7
  subst e1 e2 e3 e4 e5 e6 e7
  rfl
end Go.Proofs.YtogpbgkafkalnaaDoor
