/- How much a trace that came in holds: its letters against the bulk of what was read. -/
import Derived.Test.YtogpbgkafkalnaaDoorRows
import Derived.Test.YtogpbgkafkalnaaDoorTr
import Derived.Test.YtogpbgkafkalnaaDoorWrT
import Derived.Lib.ItoaLen
namespace Go.Proofs.YtogpbgkafkalnaaDoor
open Go.ChangeShapes Go.WideShapes Go.ChangeAt Go.RowKit Go.Lib

/-- how many numbers -/
def szM (m : TMake) : Nat := 3 + m.vals.length
def szX (x : TExit) : Nat := 2 + 2 * x.sets.length + (x.makes.map szM).sum
def szT (t : TTrace) : Nat := 3 + 8 * t.ins.length + (t.exits.map szX).sum + szX t.turn + szX t.back

theorem SliceR.mem {α : Type} {w : World} {B size : Nat} {R : List Value → α → Prop} {v : Value} {xs : List α} (h : SliceR w B size R v xs) {x : α} (hx : x ∈ xs) : ∃ cs, R cs x := by
  obtain ⟨A, cap, h1, h2, h3, h4⟩ := h
  obtain ⟨i, hi⟩ := List.getElem?_of_mem hx
  obtain ⟨b, off, _, _, h7⟩ := h4 (by have := (List.getElem?_eq_some_iff.1 hi).1; omega)
  obtain ⟨cs, _, c2, _⟩ := h7 i x hi
  exact ⟨cs, c2⟩

theorem flat_bound {α : Type} {f : α → List UInt8} {g : α → Nat} {c : Nat} : ∀ {xs : List α}, (∀ x ∈ xs, (f x).length ≤ c * g x) → (xs.flatMap f).length ≤ c * (xs.map g).sum
  | [], _ => by simp
  | x :: xs, h => by
    have h1 := h x (by simp)
    have h2 := flat_bound (xs := xs) (fun y hy => h y (by simp [hy]))
    simp only [List.flatMap_cons, List.length_append, List.map_cons, List.sum_cons, Nat.mul_add]
    omega
theorem sum_const {α : Type} (c : Nat) : ∀ xs : List α, (xs.map fun _ => c).sum = c * xs.length
  | [] => by simp
  | x :: xs => by simp only [List.map_cons, List.sum_cons, sum_const c xs, List.length_cons, Nat.mul_add]; omega
theorem nums_bound : ∀ (xs : List Int) (i : Nat), (∀ x ∈ xs, wfi x) → (numsFrom i xs).length ≤ 22 * xs.length
  | [], _, _ => by simp [numsFrom]
  | x :: xs, i, h => by
    have h1 := h x (by simp)
    have h2 := itoa_length_le x h1.1 h1.2
    have h3 := nums_bound xs (i + 1) (fun y hy => h y (by simp [hy]))
    simp only [numsFrom, List.length_append, List.length_cons]
    split <;> simp <;> omega
theorem itoa_le {x : Int} (h : wfi x) : (itoa x).length ≤ 21 := itoa_length_le x h.1 h.2

theorem make_bound {w : World} {B : Nat} {cs : List Value} {m : TMake} (h : MakeR w B cs m) : (makeP m).length ≤ 30 * szM m := by
  obtain ⟨v, _, h2, h3, h4, h5⟩ := h
  have e1 := itoa_le h3
  have e2 := itoa_le h4
  have e3 := itoa_le h5
  have e4 : (m.vals.flatMap valP).length ≤ 30 * (m.vals.map fun _ => 1).sum := flat_bound fun x hx => by
    obtain ⟨cs, _, hw⟩ := h2.mem hx
    have := itoa_le hw
    simp only [valP, List.length_append, List.length_singleton]; omega
  rw [sum_const] at e4
  simp only [makeP, headP, szM, List.length_append, List.length_cons, List.length_nil]
  omega
theorem exit_bound {w : World} {B : Nat} {cs : List Value} {x : TExit} (h : ExitR w B cs x) : (exitP x).length + 5 ≤ 30 * szX x := by
  obtain ⟨s, m, _, h2, h3, h4, h5⟩ := h
  have e1 := nums_bound [x.at_, x.steps] 0 (by intro z hz; simp at hz; rcases hz with rfl | rfl <;> assumption)
  have e2 : (x.sets.flatMap setP).length ≤ 30 * (x.sets.map fun _ => 2).sum := flat_bound fun x hx => by
    obtain ⟨cs, _, hw1, hw2⟩ := h2.mem hx
    have := itoa_le hw1
    have := itoa_le hw2
    simp only [setP, List.length_append, List.length_cons, List.length_nil]; omega
  have e3 : (x.makes.flatMap makeP).length ≤ 30 * (x.makes.map szM).sum := flat_bound fun x hx => by
    obtain ⟨cs, hr⟩ := h3.mem hx
    exact make_bound hr
  rw [sum_const] at e2
  simp only [exitP, szX, List.length_append, List.length_cons, List.length_nil] at *
  omega
theorem trace_bound {w : World} {B : Nat} {cs : List Value} {t : TTrace} (h : TraceR w B cs t) : (traceP t).length ≤ 30 * szT t := by
  obtain ⟨i, e, ct, cb, _, h2, h3, h4, h5, h6, h7, h8⟩ := h
  have e1 := nums_bound [t.fn, t.at_, t.loop] 0 (by intro z hz; simp at hz; rcases hz with rfl | rfl | rfl <;> assumption)
  have e2 : (t.ins.flatMap insP).length ≤ 30 * (t.ins.map fun _ => 8).sum := flat_bound fun x hx => by
    obtain ⟨cs, _, w0, w1, w2, w3, w4, w5, w6, w7⟩ := h2.mem hx
    have := nums_bound [x.op, x.a, x.b, x.c, x.n, x.exit, x.k.kind, x.k.n] 0 (by intro z hz; simp only [List.mem_cons, List.not_mem_nil, or_false] at hz; rcases hz with rfl | rfl | rfl | rfl | rfl | rfl | rfl | rfl <;> assumption)
    simp only [insP, List.length_append, List.length_cons, List.length_nil] at *; omega
  have e3 : (t.exits.flatMap fun x => [101, 120, 105, 116, 32] ++ exitP x).length ≤ 30 * (t.exits.map szX).sum := flat_bound fun x hx => by
    obtain ⟨cs, hr⟩ := h3.mem hx
    have := exit_bound hr
    simp only [List.length_append, List.length_cons, List.length_nil]; omega
  have e4 := exit_bound h4
  have e5 := exit_bound h5
  rw [sum_const] at e2
  simp only [traceP, szT, List.length_append, List.length_cons, List.length_nil] at *
  omega

/- ### the reading, with its bulk -/
section
variable {H : Type} {enc : TypeId × Value → H} {P : Program} {w : World} {spare : Nat → Bool} {held : Bool}

theorem bulk_one (d : DataW H) : 1 ≤ Rows.uptoBulk d := by
  cases d with
  | lit l => cases l <;> simp [Rows.uptoBulk]
  | nil => simp [Rows.uptoBulk]
  | ptr d => simp [Rows.uptoBulk]
  | slice elems spare => simp [Rows.uptoBulk]
  | agg parts => simp [Rows.uptoBulk]
  | iface t d => simp [Rows.uptoBulk]
  | map entries => simp [Rows.uptoBulk]
  | held h => simp [Rows.uptoBulk]
theorem bulk_part {d : DataW H} {l : List (DataW H)} (h : d ∈ l) : Rows.uptoBulk d ≤ Rows.uptoBulkAll l := by
  induction l with
  | nil => cases h
  | cons x r ih =>
    simp only [Rows.uptoBulkAll]
    cases List.mem_cons.1 h with
    | inl e => subst e; omega
    | inr e => have := ih e; omega

/-- as 'Opens', and a is no more than what was read -/
def OpensB {α : Type} (enc : TypeId × Value → H) (P : Program) (w : World) (spare : Nat → Bool) (held : Bool) (t : TypeId) (R : List Value → α → Prop) (sz : α → Nat) : Prop :=
  ∀ (fuel : Nat) (cs : List Value) (x : DataW H × List MemPlace), DataW.trod enc P w 0 spare held fuel t cs = some x → cs.length = P.cellsOf t ∧ ∃ a, R cs a ∧ sz a ≤ Rows.uptoBulk x.1
theorem Opens.one {α : Type} {t : TypeId} {R : List Value → α → Prop} (h : Opens enc P w spare held t R) : OpensB enc P w spare held t R (fun _ => 1) := fun fuel cs x hx => by
  obtain ⟨h1, a, h2⟩ := h fuel cs x hx
  exact ⟨h1, a, h2, bulk_one _⟩

theorem sum_le : ∀ (len : Nat) (xs : List Nat) (D : Nat → DataW H), xs.length = len → (∀ i x, xs[i]? = some x → x ≤ Rows.uptoBulk (D i)) → xs.sum ≤ Rows.uptoBulkAll ((List.range len).map D)
  | 0, xs, D, hl, _ => by
    have : xs = [] := List.length_eq_zero_iff.1 hl
    subst this; simp
  | n + 1, xs, D, hl, h => by
    match xs, hl with
    | x :: xs, hl =>
      rw [List.range_succ_eq_map, List.map_cons, List.map_map]
      simp only [Rows.uptoBulkAll, List.sum_cons]
      have h0 := h 0 x rfl
      have h1 := sum_le n xs (D ∘ Nat.succ) (by simpa using hl) (fun i y hy => h (i + 1) y (by simpa using hy))
      omega

theorem opens_slice_b {α : Type} {t e : TypeId} {R : List Value → α → Prop} {sz : α → Nat} {n : Nat} (ht : P.underlying t = some (.slice e)) (hn : P.cellsOf e = n) (hpos : 0 < n) (hc : P.cellsOf t = 1)
    (he : OpensB enc P w spare held e R sz) : OpensB enc P w spare held t (fun cs (xs : List α) => ∃ v, cs = [v] ∧ SliceR w w.heap.size n R v xs) (fun xs => (xs.map sz).sum + 1) := by
  intro fuel cs x h
  rcases Deep.open_slice ht h with ⟨rfl, _⟩ | ⟨a, len, cap, m, n', D, Pl, rfl, hb, hl, hm, hmm, hx, hi⟩
  · exact ⟨hc.symm, [], ⟨_, rfl, SliceR.nil _ _ _ _⟩, by simpa using bulk_one _⟩
  · refine ⟨hc.symm, ?_⟩
    have hlm : len ≤ m := by rw [hmm]; split <;> omega
    obtain ⟨xs, h1, h2⟩ := choose_list (len := len) (p := fun i (x : α) => ∃ cs, (cs.length = n ∧ R cs x ∧ ∀ j v, cs[j]? = some v → w.cell? (a.add (i * n + j)) = some v) ∧ sz x ≤ Rows.uptoBulk (D i)) (fun i hil => by
      obtain ⟨cs', hc', ht'⟩ := hi i (by omega)
      rw [hn] at hc'
      obtain ⟨_, hcl, hat⟩ := World.cells?_some hc'
      obtain ⟨_, y, hy, hys⟩ := he _ _ _ ht'
      refine ⟨y, cs', ⟨hcl, hy, fun j v hj => ?_⟩, hys⟩
      have hjl : j < cs'.length := (List.getElem?_eq_some_iff.1 hj).1
      have hcell := hat j (by omega)
      rw [← Go.Deep.add_add, hcell]
      exact hj)
    refine ⟨xs, ⟨_, rfl, some a, cap, by rw [h1], by omega, hm, fun hp => ?_⟩, ?_⟩
    · have e0 : xs[0]? = some xs[0] := List.getElem?_eq_getElem hp
      obtain ⟨cs0, ⟨b1, b2, b3⟩, -⟩ := h2 0 _ e0
      have e1 : cs0[0]? = some (cs0[0]'(by omega)) := List.getElem?_eq_getElem (by omega)
      have hc0 := b3 0 _ e1
      have hsp := cell_spot hc0
      have hlt := cell_lt hc0
      simp [Addr.add] at hsp hlt
      obtain ⟨b, off, sp⟩ := a
      simp at hsp hlt
      subst hsp
      refine ⟨b, off, rfl, hlt, fun i x hi => ?_⟩
      obtain ⟨cs, ⟨c1, c2, c3⟩, -⟩ := h2 i x hi
      refine ⟨cs, c1, c2, fun j v hj => ?_⟩
      have := c3 j v hj
      rw [Addr.add] at this
      split at this
      · rename_i h0
        rw [Nat.add_assoc, h0]; exact this
      · rw [Nat.add_assoc]; exact this
    · have := sum_le len (xs.map sz) D (by simpa using h1) (fun i y hy => by
        rw [List.getElem?_map, Option.map_eq_some_iff] at hy
        obtain ⟨x, hx, rfl⟩ := hy
        obtain ⟨cs, -, hs⟩ := h2 i x hx
        exact hs)
      rw [hx]
      simp only [Rows.uptoBulk]
      omega

/-- a struct's fields, read -/
theorem opens_fields_b {t : TypeId} {fs : Array Field} {fuel : Nat} {cs : List Value} {x : DataW H × List MemPlace} (ht : P.underlying t = some (.struct fs)) (h : DataW.trod enc P w 0 spare held fuel t cs = some x) :
    ∃ ps : List (DataW H), ps.length = fs.size ∧ Rows.uptoBulk x.1 = Rows.uptoBulkAll ps + 1 ∧ ∀ (i : Nat) (f : Field) (_ : fs[i]? = some f) {α : Type} {R : List Value → α → Prop} {sz : α → Nat} (_ : OpensB enc P w spare held f.type R sz), ∃ a, R ((cs.drop f.offset).take (P.cellsOf f.type)) a ∧ ∃ d, ps[i]? = some d ∧ sz a ≤ Rows.uptoBulk d := by
  obtain ⟨xs, m, _, hx, hlen, hxl, hg⟩ := DataW.trod_struct ht h
  refine ⟨xs.map (·.1), by simpa using hxl, by rw [hx]; simp [Rows.uptoBulk], fun i f hf α R sz ho => ?_⟩
  have h1 := hg i f hf
  have hi : i < fs.size := (Array.getElem?_eq_some_iff.1 hf).1
  have h2 : xs[i]? = some (xs[i]'(by omega)) := List.getElem?_eq_getElem (by omega)
  rw [h2] at h1
  obtain ⟨_, a, ha, hs⟩ := ho _ _ _ h1
  exact ⟨a, ha, _, by rw [List.getElem?_map, h2]; rfl, hs⟩
end
end Go.Proofs.YtogpbgkafkalnaaDoor
