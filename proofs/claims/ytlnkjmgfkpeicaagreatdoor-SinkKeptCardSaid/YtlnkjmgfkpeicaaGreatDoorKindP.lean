/- ir.Kind as a plain function; what is known of a value stays known. And what a trace's cells say. -/
import Derived.Test.YtlnkjmgfkpeicaaGreatDoorChk
import Derived.Test.YtlnkjmgfkpeicaaGreatDoorChkN
namespace Go.Proofs.YtlnkjmgfkpeicaaGreatDoor

/-- own kind of an instruction's value, if its operation says it; K: what Kind says of a value -/
def ownM (K : Int → Int) (x : TIns) : Int :=
  if x.op = 2 then x.k.kind
  else if x.op = 15 then 2
  else if x.op = 16 then 5
  else if x.op = 18 then 5
  else if x.op = 7 ∨ x.op = 8 then
    if (8 ≤ x.n ∧ x.n ≤ 10 ∧ x.op = 7) ∨ (x.n = 11 ∧ x.op = 8) then 1
    else if K x.a = 2 ∨ K x.a = 3 then K x.a else -1
  else -1
/-- the first guard that says it -/
def guardM (v : Int) : List TIns → Int
  | [] => -1
  | x :: l => if x.a ≠ v then guardM v l else if x.op = 4 then x.n else if x.op = 6 then x.k.kind else if x.op = 9 then 5 else guardM v l
def insAt (ins : List TIns) (v : Int) : TIns := (ins[v.toNat]?).getD ⟨0, 0, 0, 0, 0, 0, ⟨0, 0⟩⟩
/-- with so much fuel -/
def kindF (ins : List TIns) : Nat → Int → Int → Int
  | 0, _, _ => -1
  | n + 1, v, at_ =>
    if v < 0 ∨ at_ ≤ v ∨ (ins.length : Int) < at_ ∨ tellsM (opOf ins v) = false then -1
    else
      let k := ownM (kindF ins n · v) (insAt ins v)
      if 0 ≤ k then k else guardM v ((ins.take at_.toNat).drop (v.toNat + 1))
def kindM (ins : List TIns) (v at_ : Int) : Int := kindF ins (v.toNat + 1) v at_

theorem ownM_congr {K L : Int → Int} {x : TIns} (h : K x.a = L x.a) : ownM K x = ownM L x := by unfold ownM; rw [h]

theorem kindF_neg {ins : List TIns} {n : Nat} {v at_ : Int} (h : v < 0) : kindF ins n v at_ = -1 := by
  cases n with
  | zero => rfl
  | succ n => unfold kindF; rw [if_pos (.inl h)]
theorem kindF_late {ins : List TIns} {n : Nat} {v at_ : Int} (h : at_ ≤ v) : kindF ins n v at_ = -1 := by
  cases n with
  | zero => rfl
  | succ n => unfold kindF; rw [if_pos (.inr (.inl h))]
/-- enough is enough -/
theorem kindF_fuel {ins : List TIns} : ∀ (n m : Nat) (v at_ : Int), v < n → v < m → kindF ins n v at_ = kindF ins m v at_
  | 0, m, v, at_, h1, _ => by rw [kindF_neg (by omega), kindF_neg (by omega)]
  | n + 1, 0, v, at_, _, h2 => by rw [kindF_neg (by omega), kindF_neg (by omega)]
  | n + 1, m + 1, v, at_, h1, h2 => by
    unfold kindF
    have e : ownM (kindF ins n · v) (insAt ins v) = ownM (kindF ins m · v) (insAt ins v) := by
      refine ownM_congr ?_
      rcases Int.lt_or_le (insAt ins v).a v with h | h
      · exact kindF_fuel n m _ _ (by omega) (by omega)
      · rw [kindF_late h, kindF_late h]
    rw [e]
theorem kindM_of {ins : List TIns} {n : Nat} {v at_ : Int} (h : v < n) : kindF ins n v at_ = kindM ins v at_ := kindF_fuel _ _ _ _ h (by omega)
theorem kindM_eq (ins : List TIns) (v at_ : Int) : kindM ins v at_ =
    if v < 0 ∨ at_ ≤ v ∨ (ins.length : Int) < at_ ∨ tellsM (opOf ins v) = false then -1
    else if 0 ≤ ownM (kindM ins · v) (insAt ins v) then ownM (kindM ins · v) (insAt ins v) else guardM v ((ins.take at_.toNat).drop (v.toNat + 1)) := by
  conv => lhs; unfold kindM kindF
  by_cases h0 : v < 0
  · rw [if_pos (.inl h0), if_pos (.inl h0)]
  have e : ownM (kindF ins v.toNat · v) (insAt ins v) = ownM (kindM ins · v) (insAt ins v) := by
    refine ownM_congr ?_
    rcases Int.lt_or_le (insAt ins v).a v with h | h
    · exact kindM_of (by omega)
    · rw [kindF_late h]; unfold kindM; rw [kindF_late h]
  dsimp only
  rw [e]

theorem guardM_app (v : Int) : ∀ l m, guardM v l ≠ -1 → guardM v (l ++ m) = guardM v l
  | [], _, h => absurd rfl h
  | x :: l, m, h => by
    simp only [guardM, List.cons_append] at h ⊢
    split
    · rename_i c; rw [if_pos c] at h; exact guardM_app v l m h
    · rename_i c; rw [if_neg c] at h
      split
      · rfl
      · rename_i c1; rw [if_neg c1] at h
        split
        · rfl
        · rename_i c2; rw [if_neg c2] at h
          split
          · rfl
          · rename_i c3; rw [if_neg c3] at h; exact guardM_app v l m h
theorem guardM_bd (v lo hi : Int) (hlo : lo ≤ -1) (h5 : 5 ≤ hi) : ∀ l : List TIns, (∀ x ∈ l, (x.op = 4 → lo ≤ x.n ∧ x.n ≤ hi) ∧ (x.op = 6 → lo ≤ x.k.kind ∧ x.k.kind ≤ hi)) → lo ≤ guardM v l ∧ guardM v l ≤ hi
  | [], _ => by simp [guardM]; omega
  | x :: l, h => by
    have ih := guardM_bd v lo hi hlo h5 l (fun y hy => h y (by simp [hy]))
    obtain ⟨h1, h2⟩ := h x (by simp)
    simp only [guardM]
    split
    · exact ih
    split
    · rename_i c; exact h1 c
    split
    · rename_i c; exact h2 c
    split
    · omega
    · exact ih
theorem ownM_bd {K : Int → Int} {x : TIns} {hi : Int} (h5 : 5 ≤ hi) (h : x.op = 2 → -1 ≤ x.k.kind ∧ x.k.kind ≤ hi) : -1 ≤ ownM K x ∧ ownM K x ≤ hi := by
  unfold ownM
  split
  · rename_i c; exact h c
  split
  · omega
  split
  · omega
  split
  · omega
  split
  · split
    · omega
    · split <;> omega
  · omega

/-- what a checked trace owes -/
def KindsFine (ins : List TIns) : Prop := ∀ x ∈ ins, (x.op = 4 → 0 ≤ x.n ∧ x.n ≤ 6) ∧ (x.op = 6 → 0 ≤ x.k.kind ∧ x.k.kind ≤ 6) ∧ (x.op = 2 → 0 ≤ x.k.kind ∧ x.k.kind ≤ 6)
theorem insAt_mem {ins : List TIns} {v : Int} (h0 : 0 ≤ v) (h : v < ins.length) : insAt ins v ∈ ins := by
  unfold insAt
  have : v.toNat < ins.length := by omega
  rw [List.getElem?_eq_getElem this]
  exact List.getElem_mem this
theorem kindM_bd {ins : List TIns} (hf : KindsFine ins) (v at_ : Int) : -1 ≤ kindM ins v at_ ∧ kindM ins v at_ ≤ 6 := by
  rw [kindM_eq]
  split
  · omega
  rename_i h
  have hm := hf _ (insAt_mem (ins := ins) (v := v) (by omega) (by omega))
  have ho := ownM_bd (K := (kindM ins · v)) (x := insAt ins v) (hi := 6) (by omega) (fun c => by have := hm.2.2 c; omega)
  have hg := guardM_bd v (-1) 6 (by omega) (by omega) ((ins.take at_.toNat).drop (v.toNat + 1)) (fun x hx => by
    have hx' : x ∈ ins := List.mem_of_mem_take (List.mem_of_mem_drop hx)
    have := hf x hx'
    exact ⟨fun c => by have := this.1 c; omega, fun c => by have := this.2.1 c; omega⟩)
  split <;> omega
/-- WHAT IS KNOWN OF A VALUE STAYS KNOWN. -/
theorem kindM_later {ins : List TIns} {v a b : Int} (hab : a ≤ b) (hb : b ≤ ins.length) (h : kindM ins v a ≠ -1) : kindM ins v b = kindM ins v a := by
  rw [kindM_eq] at h ⊢
  rw [kindM_eq ins v a]
  by_cases c : v < 0 ∨ a ≤ v ∨ (ins.length : Int) < a ∨ tellsM (opOf ins v) = false
  · rw [if_pos c] at h; exact absurd rfl h
  rw [if_neg c] at h ⊢
  have c2 : ¬ (v < 0 ∨ b ≤ v ∨ (ins.length : Int) < b ∨ tellsM (opOf ins v) = false) := by
    rintro (h1 | h1 | h1 | h1)
    · exact c (.inl h1)
    · exact c (.inr (.inl (by omega)))
    · omega
    · exact c (.inr (.inr (.inr h1)))
  rw [if_neg c2]
  by_cases d : 0 ≤ ownM (kindM ins · v) (insAt ins v)
  · rw [if_pos d, if_pos d]
  rw [if_neg d] at h ⊢
  rw [if_neg d]
  have e : ins.take b.toNat = ins.take a.toNat ++ (ins.take b.toNat).drop a.toNat := by
    conv => lhs; rw [← List.take_append_drop a.toNat (ins.take b.toNat)]
    rw [List.take_take, Nat.min_eq_left (by omega)]
  have ha : ¬ (v < 0) := fun h => c (.inl h)
  have ha2 : ¬ (a ≤ v) := fun h => c (.inr (.inl h))
  have ha3 : ¬ ((ins.length : Int) < a) := fun h => c (.inr (.inr (.inl h)))
  rw [e, List.drop_append_of_le_length (by rw [List.length_take]; omega)]
  exact guardM_app v _ _ h

theorem rightV_kind (rightV : Val → Bool) (hr : ∀ k, rightV k = true → 0 ≤ k.kind ∧ k.kind ≤ 6) {ce : Int} {fns : List FnM} {t : TTrace} (h : checkM rightV ce fns t = 0) : KindsFine t.ins := by
  intro x hx
  obtain ⟨_, fn, h1⟩ := checkM_ins h
  obtain ⟨i, hi⟩ := List.getElem?_of_mem hx
  obtain ⟨_, h2⟩ := insM_formed t.ins 0 h1 i x hi
  simp only [formedM, Bool.and_eq_true] at h2
  obtain ⟨⟨⟨⟨_, _⟩, h3⟩, h4⟩, _⟩ := h2
  have h3' := h3
  simp only [Bool.not_eq_true', Bool.or_eq_false_iff, decide_eq_false_iff_not] at h3'
  have h4' := h4
  simp only [Bool.not_eq_true', Bool.or_eq_false_iff, Bool.and_eq_false_iff] at h4'
  refine ⟨fun c => ?_, fun c => hr _ ?_, fun c => hr _ ?_⟩
  · have hf : formM x.op = ⟨1, 0, 6, false, false, 2⟩ := by rw [c]; rfl
    rw [hf] at h3'
    dsimp only at h3'
    omega
  · have hf : formM x.op = ⟨1, 0, 0, true, false, 2⟩ := by rw [c]; rfl
    rw [hf] at h4'
    simpa using h4'.1.2
  · have hf : formM x.op = ⟨0, 0, 0, true, true, 0⟩ := by rw [c]; rfl
    rw [hf] at h4'
    simpa using h4'.1.2
end Go.Proofs.YtlnkjmgfkpeicaaGreatDoor
namespace Go.Proofs.YtlnkjmgfkpeicaaGreatDoor
open Go.RowKit

theorem infoTrace : (Tryz.prog.info? 34).map (·.size) = some 13 := by kernel_rfl
theorem TraceR.size13 {w : World} {B : Nat} {cs : List Value} {t : TTrace} (h : TraceR w B cs t) : (Tryz.prog.info? 34).map (·.size) = some cs.length := by
  obtain ⟨i, e, ct, cb, rfl, -, -, ⟨_, _, rfl, -⟩, ⟨_, _, rfl, -⟩, -⟩ := h
  exact infoTrace
theorem TraceR.at3 {w : World} {B : Nat} {cs : List Value} {t : TTrace} (h : TraceR w B cs t) : ∃ Ai ni, cs[3]? = some (.slice Ai t.ins.length ni) ∧ SliceR w B 8 InsR (.slice Ai t.ins.length ni) t.ins := by
  obtain ⟨i, e, ct, cb, rfl, hi, -, ⟨_, _, rfl, -⟩, ⟨_, _, rfl, -⟩, -⟩ := h
  obtain ⟨Ai, ni, rfl, -⟩ := id hi
  exact ⟨Ai, ni, rfl, hi⟩
theorem TraceR.at4 {w : World} {B : Nat} {cs : List Value} {t : TTrace} (h : TraceR w B cs t) : ∃ Ae ne, cs[4]? = some (.slice Ae t.exits.length ne) ∧ SliceR w B 4 (ExitR w B) (.slice Ae t.exits.length ne) t.exits := by
  obtain ⟨i, e, ct, cb, rfl, -, he, ⟨_, _, rfl, -⟩, ⟨_, _, rfl, -⟩, -⟩ := h
  obtain ⟨Ae, ne, rfl, -⟩ := id he
  exact ⟨Ae, ne, rfl, he⟩
theorem TraceR.at012 {w : World} {B : Nat} {cs : List Value} {t : TTrace} (h : TraceR w B cs t) : cs[0]? = some (.int .i64 t.fn) ∧ cs[1]? = some (.int .i64 t.at_) ∧ cs[2]? = some (.int .i64 t.loop) ∧ wfi t.fn ∧ wfi t.at_ ∧ wfi t.loop := by
  obtain ⟨i, e, ct, cb, rfl, -, -, ⟨_, _, rfl, -⟩, ⟨_, _, rfl, -⟩, h1, h2, h3⟩ := h
  exact ⟨rfl, rfl, rfl, h1, h2, h3⟩

theorem insAt_some {ins : List TIns} {k : Nat} {x : TIns} (h : ins[k]? = some x) : insAt ins k = x ∧ opOf ins k = x.op := by
  unfold insAt opOf
  rw [Int.toNat_natCast, h]
  exact ⟨rfl, rfl⟩

theorem ins_at {w W : World} {b o : Nat} {x : TIns} (hat : CellsAt w b o (insCells x)) (hb : b < w.heap.size) (hk : Below w.heap.size w W) :
    W.cell? ⟨b, o, none⟩ = some (.int .i64 x.op) ∧ W.cell? ⟨b, o + 1, none⟩ = some (.int .i64 x.a) ∧ W.cell? ⟨b, o + 2, none⟩ = some (.int .i64 x.b) ∧ W.cell? ⟨b, o + 3, none⟩ = some (.int .i64 x.c) ∧
      W.cell? ⟨b, o + 4, none⟩ = some (.int .i64 x.n) ∧ W.cell? ⟨b, o + 5, none⟩ = some (.int .i64 x.exit) ∧ W.cell? ⟨b, o + 6, none⟩ = some (.int .i64 x.k.kind) ∧ W.cell? ⟨b, o + 7, none⟩ = some (.int .i64 x.k.n) :=
  ⟨(hk.cell hb).trans (hat 0 _ rfl), (hk.cell hb).trans (hat 1 _ rfl), (hk.cell hb).trans (hat 2 _ rfl), (hk.cell hb).trans (hat 3 _ rfl), (hk.cell hb).trans (hat 4 _ rfl), (hk.cell hb).trans (hat 5 _ rfl), (hk.cell hb).trans (hat 6 _ rfl), (hk.cell hb).trans (hat 7 _ rfl)⟩

end Go.Proofs.YtlnkjmgfkpeicaaGreatDoor
