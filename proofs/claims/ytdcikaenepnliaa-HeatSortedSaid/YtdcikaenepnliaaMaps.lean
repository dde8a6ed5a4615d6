/- Maps keyed by structs of ints: laws on look-up and update, for whatever program. -/
import Derived.WalkKit
import Derived.Lib.Hide
import Derived.Maps.Own
namespace Go.Proofs.Ytdcikaenepnliaa
open Go.RowKit

/-- the cells of a list of ints -/
def ints (xs : List Int) : Array Value := (xs.map (Value.int .i64)).toArray

/-- type k is a struct of n ints -/
def intStruct (P : Program) (k : TypeId) (n : Nat) : Bool :=
  match P.underlying k with
  | some (.struct fs) => fs.size == n && !P.stoodInHeld k && (List.range n).all fun i =>
      match fs[i]? with
      | some f => f.name != "_" && f.offset == i && (match P.underlying f.type with | some (.int .i64) => true | _ => false)
      | none => false
  | _ => false

structure FieldsOk (P : Program) (i : Nat) (fs : List Field) : Prop where
  ok : ∀ j f, fs[j]? = some f → f.name ≠ "_" ∧ f.offset = i + j ∧ P.underlying f.type = some (.int .i64)

theorem intStruct_spec {P : Program} {k : TypeId} {n : Nat} (h : intStruct P k n = true) :
    ∃ fs, P.underlying k = some (.struct fs) ∧ fs.size = n ∧ P.stoodInHeld k = false ∧ FieldsOk P 0 fs.toList := by
  unfold intStruct at h
  split at h
  · rename_i fs hu
    simp only [Bool.and_eq_true, beq_iff_eq, Bool.not_eq_true', List.all_eq_true, List.mem_range] at h
    obtain ⟨⟨h1, h2⟩, h3⟩ := h
    refine ⟨fs, hu, h1, h2, ⟨fun j f hj => ?_⟩⟩
    have hlt : j < fs.size := by
      have := (List.getElem?_eq_some_iff.1 hj).1
      simpa using this
    have := h3 j (by omega)
    rw [← Array.getElem?_toList, hj] at this
    simp only [Bool.and_eq_true, bne_iff_ne, ne_eq, beq_iff_eq] at this
    refine ⟨this.1.1, by omega, ?_⟩
    have h5 := this.2
    split at h5
    · assumption
    · cases h5
  · cases h

section
variable {P : Program} (w : World)

theorem run_part_int {t : TypeId} (ht : P.underlying t = some (.int .i64)) (xs : List Int) (i : Nat) (x : Int) (hx : xs[i]? = some x) :
    (part t (ints xs) i).run P w = .ok (.int .i64 x) w := by
  have h : (ints xs)[i]? = some (.int .i64 x) := by simp [ints, hx]
  simp [part, isAgg, run_underlying ht, h]

theorem FieldsOk.tail {P : Program} {i : Nat} {f : Field} {fs : List Field} (h : FieldsOk P i (f :: fs)) : FieldsOk P (i + 1) fs :=
  ⟨fun j g hj => by have := h.ok (j + 1) g (by simpa using hj); exact ⟨this.1, by omega, this.2.2⟩⟩

theorem run_eqFields_ints (d : Nat) (xs ys : List Int) : ∀ (fs : List Field) (i : Nat), FieldsOk P i fs → xs.length = i + fs.length → ys.length = i + fs.length →
    (Op.eqFields (d + 1) (ints xs) (ints ys) fs).run P w = .ok (decide (xs.drop i = ys.drop i)) w
  | [], i, _, hx, hy => by
    have h1 : xs.drop i = [] := List.drop_eq_nil_of_le (by simp at hx; omega)
    have h2 : ys.drop i = [] := List.drop_eq_nil_of_le (by simp at hy; omega)
    simp [Op.eqFields, h1, h2]
  | f :: fs, i, h, hx, hy => by
    obtain ⟨h1, h2, h3⟩ := h.ok 0 f rfl
    simp at hx hy h2
    have ex : xs[i]? = some (xs[i]'(by omega)) := List.getElem?_eq_getElem (by omega)
    have ey : ys[i]? = some (ys[i]'(by omega)) := List.getElem?_eq_getElem (by omega)
    have dx : xs.drop i = xs[i]'(by omega) :: xs.drop (i + 1) := List.drop_eq_getElem_cons (by omega)
    have dy : ys.drop i = ys[i]'(by omega) :: ys.drop (i + 1) := List.drop_eq_getElem_cons (by omega)
    have ih := run_eqFields_ints d xs ys fs (i + 1) h.tail (by omega) (by omega)
    have hd : (xs.drop i = ys.drop i) ↔ (xs[i]'(by omega) = ys[i]'(by omega) ∧ xs.drop (i + 1) = ys.drop (i + 1)) := by
      rw [dx, dy]; exact List.cons_eq_cons
    simp only [Op.eqFields, h1, ne_eq, not_false_eq_true, if_true, Sem.run_bind, h2, run_part_int w h3 _ _ _ ex, run_part_int w h3 _ _ _ ey, Result.andThen_ok, run_equalIn_int w d _ _ _ _ _ h3, hd]
    by_cases e : xs[i]'(by omega) = ys[i]'(by omega)
    · simp [e, ih]
    · simp [e]

theorem run_equal_ints {k : TypeId} {n : Nat} (h : intStruct P k n = true) (xs ys : List Int) (hx : xs.length = n) (hy : ys.length = n) :
    (Op.equal k (.agg (ints xs)) (.agg (ints ys))).run P w = .ok (decide (xs = ys)) w := by
  obtain ⟨fs, hu, hs, hp, hf⟩ := intStruct_spec h
  have hfo : P.fieldsOf k = fs := by simp [Program.fieldsOf, hu]
  show (Op.equalIn (9999 + 1) k _ _).run P w = _
  rw [run_equalIn_struct w 9999 k _ _ (by rw [hfo, hu]) hp, hfo]
  have := run_eqFields_ints (P := P) w 9998 xs ys fs.toList 0 hf (by simp; omega) (by simp; omega)
  simpa using this

theorem run_checkKey_ints' {k : TypeId} {n : Nat} (h : intStruct P k n = true) (em : Bool) (xs : List Int) (hx : xs.length = n) (d : Nat) :
    (Instr.checkKey em (d + 1 + 1) k (.agg (ints xs))).run P w = .ok () w := by
  obtain ⟨fs, hu, hs, hp, hf⟩ := intStruct_spec h
  rw [Instr.checkKey]
  simp only [Sem.run_bind, run_underlying hu, Result.andThen_ok]
  rw [← Array.forIn_toList]
  have key : ∀ (l : List Field) (i : Nat), FieldsOk P i l → xs.length = i + l.length →
      (forIn l PUnit.unit (fun f (_ : PUnit) => (do
        if f.name ≠ "_" then do
          let __x ← part f.type (ints xs) f.offset
          Instr.checkKey em (d + 1) f.type __x
          pure (ForInStep.yield PUnit.unit)
        else pure (ForInStep.yield PUnit.unit) : Sem (ForInStep PUnit)))).run P w = .ok PUnit.unit w := by
    intro l
    induction l with
    | nil => intro i _ _; simp
    | cons f l ih =>
      intro i h hx
      obtain ⟨h1, h2, h3⟩ := h.ok 0 f rfl
      simp at hx h2
      have ex : xs[i]? = some (xs[i]'(by omega)) := List.getElem?_eq_getElem (by omega)
      have hc : ∀ v, (Instr.checkKey em (d + 1) f.type (.int .i64 v)).run P w = .ok () w := fun v => by
        simp [Instr.checkKey, run_underlying h3]
      simp only [List.forIn_cons, h1, ne_eq, not_false_eq_true, if_true, Sem.run_bind, h2, run_part_int w h3 _ _ _ ex, Result.andThen_ok, hc, Sem.run_pure]
      exact ih (i + 1) h.tail (by omega)
  have := key fs.toList 0 hf (by simp; omega)
  simp at this
  simp [this]
theorem run_checkKey_ints {k : TypeId} {n : Nat} (h : intStruct P k n = true) (em : Bool) (xs : List Int) (hx : xs.length = n) :
    (Instr.checkKey em 10000 k (.agg (ints xs))).run P w = .ok () w := run_checkKey_ints' w h em xs hx 9998

/-- an entry -/
def IsEnt (e : MapEntry) (x : List Int × Value) : Prop := e.key = .agg (ints x.1) ∧ e.val = x.2
def Ents : List MapEntry → List (List Int × Value) → Prop
  | [], [] => True
  | e :: es, x :: L => IsEnt e x ∧ Ents es L
  | _, _ => False

theorem run_findAsking_ints {k : TypeId} {n : Nat} (h : intStruct P k n = true) (xs : List Int) (hx : xs.length = n) : ∀ (es : List MapEntry) (L : List (List Int × Value)) (i : Nat),
    Ents es L → (∀ x ∈ L, x.1.length = n) →
    (Instr.findAsking k (.agg (ints xs)) es i).run P w = .ok ((L.findIdx? (fun x => decide (xs = x.1))).map (fun j => (i + j, ((L[j]?).map (·.2)).getD undef))) w
  | [], [], i, _, _ => by simp [Instr.findAsking]
  | [], _ :: _, _, h2, _ => h2.elim
  | _ :: _, [], _, h2, _ => h2.elim
  | e :: es, x :: L, i, ⟨he, hr⟩, hn => by
    have hk := run_equal_ints (P := P) w h xs x.1 hx (hn x (by simp))
    have ih := run_findAsking_ints h xs hx es L (i + 1) hr (fun y hy => hn y (by simp [hy]))
    simp only [Instr.findAsking, Sem.run_bind, he.1, hk, Result.andThen_ok]
    by_cases c : xs = x.1
    · simp [c, he.2, List.findIdx?_cons]
    · simp only [c, decide_false, Bool.false_eq_true, if_false, ih, List.findIdx?_cons, Option.map_map]
      congr 2
      funext j
      simp [Nat.add_assoc, Nat.add_comm 1 j]

/-- no stamp twice, each below the clock -/
def Stamps (es : List MapEntry) (clock : Nat) : Prop := (∀ e ∈ es, e.born < clock) ∧ (es.map (·.born)).Nodup

/-- BLOCK b IS A MAP OF THE ENTRIES L (keys: structs of n ints). -/
def MapI (n : Nat) (w : World) (b : Nat) (L : List (List Int × Value)) : Prop :=
  ∃ es clock, w.heap[b]? = some (.map es clock) ∧ Ents es.toList L ∧ (∀ x ∈ L, x.1.length = n) ∧ Stamps es.toList clock

def lookL (L : List (List Int × Value)) (xs : List Int) : Option Value := (L.find? (fun x => decide (xs = x.1))).map (·.2)

theorem lookL_findIdx (L : List (List Int × Value)) (xs : List Int) : (L.findIdx? (fun x => decide (xs = x.1))).map (fun j => ((L[j]?).map (·.2)).getD undef) = lookL L xs := by
  induction L with
  | nil => rfl
  | cons x L ih =>
    unfold lookL at *
    by_cases c : xs = x.1
    · simp [c, List.findIdx?_cons]
    · simp only [List.findIdx?_cons, c, decide_false, Bool.false_eq_true, if_false, Option.map_map, List.find?_cons]
      rw [← ih]
      congr 1

theorem run_findKey_ints {k : TypeId} {n : Nat} (h : intStruct P k n = true) (xs : List Int) (hx : xs.length = n) (es : List MapEntry) (L : List (List Int × Value))
    (h2 : Ents es L) (hn : ∀ x ∈ L, x.1.length = n) :
    (Instr.findKey k (.agg (ints xs)) es).run P w = .ok ((L.findIdx? (fun x => decide (xs = x.1))).map (fun j => (j, ((L[j]?).map (·.2)).getD undef))) w := by
  obtain ⟨fs, hu, _⟩ := intStruct_spec h
  match es, L, h2 with
  | [], [], _ => simp [Instr.findKey, run_underlying hu, Instr.findNow]
  | e :: es, x :: L, ⟨he, hr⟩ =>
    have := run_findAsking_ints (P := P) w h xs hx (e :: es) (x :: L) 0 ⟨he, hr⟩ hn
    simp only [Instr.findKey, Sem.run_bind, run_underlying hu, Result.andThen_ok, Instr.findNow, Instr.sameNow]
    simpa using this

theorem run_lookup_ints {t k e : TypeId} {n : Nat} (ht : P.underlying t = some (.map k e)) (h : intStruct P k n = true) {z : Value} (hz : ∀ w, (zeroValue e).run P w = .ok z w)
    (xs : List Int) (hx : xs.length = n) {b : Nat} {L : List (List Int × Value)} (hm : MapI n w b L) :
    (Instr.lookup t (.map (some b)) (.agg (ints xs)) true).run P w = .ok (.tuple #[(lookL L xs).getD z, .bool (lookL L xs).isSome]) w := by
  obtain ⟨es, clock, hb, h2, hn, _⟩ := hm
  have h3 := run_findKey_ints (P := P) w h xs hx es.toList L h2 hn
  simp only [Instr.lookup, Sem.run_bind, run_underlying ht, Result.andThen_ok, MapKept.run_getObj_map hb, run_checkKey_ints w h _ xs hx, h3, Sem.run_pure]
  rw [← lookL_findIdx]
  cases L.findIdx? (fun x => decide (xs = x.1)) with
  | none => simp [hz]
  | some j => simp


/-- the entries with v at key xs -/
def putL : List (List Int × Value) → List Int → Value → List (List Int × Value)
  | [], xs, v => [(xs, v)]
  | x :: L, xs, v => if xs = x.1 then (x.1, v) :: L else x :: putL L xs v

theorem putL_keys {n : Nat} : ∀ (L : List (List Int × Value)) (xs : List Int) (v : Value), xs.length = n → (∀ x ∈ L, x.1.length = n) → ∀ x ∈ putL L xs v, x.1.length = n
  | [], xs, v, hx, _ => by simp [putL, hx]
  | y :: L, xs, v, hx, hn => by
    unfold putL
    split
    · intro x hm
      rcases List.mem_cons.1 hm with rfl | hm
      · exact hn y (by simp)
      · exact hn x (by simp [hm])
    · intro x hm
      rcases List.mem_cons.1 hm with rfl | hm
      · exact hn x (by simp)
      · exact putL_keys L xs v hx (fun z hz => hn z (by simp [hz])) x hm

theorem Ents.push : ∀ {es : List MapEntry} {L : List (List Int × Value)} {e : MapEntry} {x : List Int × Value}, Ents es L → IsEnt e x → Ents (es ++ [e]) (L ++ [x])
  | [], [], _, _, _, he => ⟨he, trivial⟩
  | [], _ :: _, _, _, h, _ => h.elim
  | _ :: _, [], _, _, h, _ => h.elim
  | _ :: _, _ :: _, _, _, ⟨h1, h2⟩, he => ⟨h1, Ents.push h2 he⟩

theorem putL_none : ∀ (L : List (List Int × Value)) (xs : List Int) (v : Value), L.findIdx? (fun x => decide (xs = x.1)) = none → putL L xs v = L ++ [(xs, v)]
  | [], _, _, _ => rfl
  | x :: L, xs, v, h => by
    unfold putL
    by_cases c : xs = x.1
    · simp [c, List.findIdx?_cons] at h
    · rw [if_neg c, List.cons_append, putL_none L xs v]
      simpa [c, List.findIdx?_cons] using h

theorem Ents.modify : ∀ {es : List MapEntry} {L : List (List Int × Value)} (xs : List Int) (v : Value) (j : Nat), Ents es L → L.findIdx? (fun x => decide (xs = x.1)) = some j →
    Ents (es.modify j fun e => { e with key := .agg (ints xs), val := v }) (putL L xs v)
  | [], [], _, _, _, _, h => by simp at h
  | [], _ :: _, _, _, _, h, _ => h.elim
  | _ :: _, [], _, _, _, h, _ => h.elim
  | e :: es, x :: L, xs, v, j, ⟨h1, h2⟩, h => by
    unfold putL
    by_cases c : xs = x.1
    · simp [c, List.findIdx?_cons] at h
      subst h
      rw [if_pos c]
      exact ⟨⟨by rw [c], rfl⟩, h2⟩
    · rw [if_neg c]
      simp only [List.findIdx?_cons, c, decide_false, Bool.false_eq_true, if_false, Option.map_eq_some_iff] at h
      obtain ⟨j', hj, rfl⟩ := h
      exact ⟨h1, Ents.modify xs v j' h2 hj⟩

theorem Ents.key_at : ∀ {es : List MapEntry} {L : List (List Int × Value)} (xs : List Int) (j : Nat), Ents es L → L.findIdx? (fun x => decide (xs = x.1)) = some j → ∃ e, es[j]? = some e ∧ e.key = .agg (ints xs)
  | [], [], _, _, _, h => by simp at h
  | [], _ :: _, _, _, h, _ => h.elim
  | _ :: _, [], _, _, h, _ => h.elim
  | e :: es, x :: L, xs, j, ⟨h1, h2⟩, h => by
    by_cases c : xs = x.1
    · simp [c, List.findIdx?_cons] at h
      subst h
      exact ⟨e, rfl, by rw [h1.1, c]⟩
    · simp only [List.findIdx?_cons, c, decide_false, Bool.false_eq_true, if_false, Option.map_eq_some_iff] at h
      obtain ⟨j', hj, rfl⟩ := h
      obtain ⟨e', h3, h4⟩ := Ents.key_at xs j' h2 hj
      exact ⟨e', by simpa using h3, h4⟩

theorem sameBits_ints : ∀ (d : Nat) (xs : List Int), Instr.sameBits (d + 1) (.agg (ints xs)) (.agg (ints xs)) = true := by
  intro d xs
  simp only [Instr.sameBits, beq_self_eq_true, Bool.true_and, ints, List.all_eq_true]
  rintro ⟨x, y⟩ hm
  have : x = y ∧ ∃ i, x = .int .i64 i := by
    simp only [List.zip_map', List.mem_map, Prod.mk.injEq] at hm
    obtain ⟨i, _, rfl, rfl⟩ := hm
    exact ⟨rfl, i, rfl⟩
  obtain ⟨rfl, i, rfl⟩ := this
  cases d <;> simp [Instr.sameBits]

theorem run_keyThatStays_ints (xs : List Int) : (Instr.keyThatStays (.agg (ints xs)) (.agg (ints xs))).run P w = .ok (.agg (ints xs)) w := by
  have := sameBits_ints 9999 xs
  simp only [Instr.keyThatStays]
  rw [if_pos this]
  rfl

theorem heap_setBlock_lt {w : World} {b : Nat} {o : Obj} (hb : b < w.heap.size) : (ChangeMaps.setBlock w b o).heap[b]? = some o := by
  simp [ChangeMaps.setBlock, hb]

theorem MapI.lt {w : World} {n b : Nat} {L : List (List Int × Value)} (h : MapI n w b L) : b < w.heap.size := by
  obtain ⟨es, clock, hb, _⟩ := h
  exact (Array.getElem?_eq_some_iff.1 hb).1

theorem run_mapUpdate_ints {t k e : TypeId} {n : Nat} (ht : P.underlying t = some (.map k e)) (h : intStruct P k n = true)
    (xs : List Int) (hx : xs.length = n) (v : Value) {b : Nat} {L : List (List Int × Value)} (hm : MapI n w b L) :
    ∃ w', (Instr.mapUpdate t (.map (some b)) (.agg (ints xs)) v).run P w = .ok () w' ∧ MapI n w' b (putL L xs v) ∧ w.grownBy w' (some b) := by
  have hlt := hm.lt
  obtain ⟨es, clock, hb, h2, hn, hst1, hst2⟩ := hm
  have h3 := run_findKey_ints (P := P) w h xs hx es.toList L h2 hn
  have hg : ∀ o, w.grownBy (ChangeMaps.setBlock w b o) (some b) := fun o =>
    ⟨rfl, rfl, rfl, by simp [ChangeMaps.setBlock], fun k _ hne => by
      have : k ≠ b := fun e => hne (by rw [e])
      simp only [ChangeMaps.setBlock]
      rw [Array.getElem?_setIfInBounds_ne (fun e => this e.symm)]⟩
  cases hj : L.findIdx? (fun x => decide (xs = x.1)) with
  | none =>
    refine ⟨ChangeMaps.setBlock w b (.map (es.push ⟨.agg (ints xs), v, clock⟩) (clock + 1)), ?_, ?_, hg _⟩
    · rw [hj] at h3
      simp [Instr.mapUpdate, run_underlying ht, MapKept.run_getObj_map hb, run_checkKey_ints w h _ xs hx, h3, setObj, Sem.run, ChangeMaps.setBlock, hb]
    · refine ⟨_, _, heap_setBlock_lt hlt, ?_, putL_keys L xs v hx hn, ?_⟩
      · rw [putL_none L xs v hj, Array.toList_push]
        exact h2.push ⟨rfl, rfl⟩
      · rw [Array.toList_push]
        refine ⟨fun e he => ?_, ?_⟩
        · rcases List.mem_append.1 he with he | he
          · have := hst1 e he; omega
          · simp at he; subst he; simp
        · rw [List.map_append, List.nodup_append]
          refine ⟨hst2, by simp, fun a ha b hb' => ?_⟩
          simp at hb'
          subst hb'
          obtain ⟨e, he, rfl⟩ := List.mem_map.1 ha
          have := hst1 e he
          omega
  | some j =>
    rw [hj] at h3
    obtain ⟨e0, he0, hk0⟩ := h2.key_at xs j hj
    refine ⟨ChangeMaps.setBlock w b (.map (es.modify j fun e => { e with key := .agg (ints xs), val := v }) clock), ?_, ?_, hg _⟩
    · have he1 : es[j]? = some e0 := by simpa using he0
      simp [Instr.mapUpdate, run_underlying ht, MapKept.run_getObj_map hb, run_checkKey_ints w h _ xs hx, h3, he1, hk0, run_keyThatStays_ints, setObj, Sem.run, ChangeMaps.setBlock, hb]
    · refine ⟨_, _, heap_setBlock_lt hlt, ?_, putL_keys L xs v hx hn, ?_⟩
      · rw [Array.toList_modify]
        exact h2.modify xs v j hj
      · rw [Array.toList_modify]
        have hb1 : ∀ (l : List MapEntry) (i : Nat), (l.modify i fun e => { e with key := .agg (ints xs), val := v }).map (·.born) = l.map (·.born) := by
          intro l
          induction l with
          | nil => intro i; simp
          | cons a l ih => intro i; cases i <;> simp [ih]
        refine ⟨fun e he => ?_, by rw [hb1]; exact hst2⟩
        have : e.born ∈ (es.toList.modify j fun e => { e with key := .agg (ints xs), val := v }).map (·.born) := List.mem_map_of_mem he
        rw [hb1] at this
        obtain ⟨e', he', h9⟩ := List.mem_map.1 this
        rw [← h9]
        exact hst1 e' he'

/-- the world behind a store into a map -/
def mapSet (P : Program) (t : TypeId) (b : Nat) (key v : Value) (w : World) : World :=
  match (Instr.mapUpdate t (.map (some b)) key v).run P w with
  | .ok _ w' => w'
  | .halt _ w' => w'
theorem run_mapSet {t k e : TypeId} {n : Nat} (ht : P.underlying t = some (.map k e)) (h : intStruct P k n = true)
    (xs : List Int) (hx : xs.length = n) (v : Value) {b : Nat} {L : List (List Int × Value)} (hm : MapI n w b L) :
    (Instr.mapUpdate t (.map (some b)) (.agg (ints xs)) v).run P w = .ok () (mapSet P t b (.agg (ints xs)) v w) := by
  obtain ⟨w', h1, _⟩ := run_mapUpdate_ints w ht h xs hx v hm
  simp [mapSet, h1]
theorem MapI.set_ {t k e : TypeId} {n : Nat} (ht : P.underlying t = some (.map k e)) (h : intStruct P k n = true)
    (xs : List Int) (hx : xs.length = n) (v : Value) {b : Nat} {L : List (List Int × Value)} (hm : MapI n w b L) :
    MapI n (mapSet P t b (.agg (ints xs)) v w) b (putL L xs v) ∧ w.grownBy (mapSet P t b (.agg (ints xs)) v w) (some b) := by
  obtain ⟨w', h1, h2⟩ := run_mapUpdate_ints w ht h xs hx v hm
  have e : mapSet P t b (.agg (ints xs)) v w = w' := by simp [mapSet, h1]
  rw [e]
  exact h2

theorem MapI.kept {w w' : World} {n b : Nat} {L : List (List Int × Value)} {row : Option Nat} (h : MapI n w b L) (hg : w.grownBy w' row) (hne : some b ≠ row) : MapI n w' b L := by
  have hlt := h.lt
  obtain ⟨es, clock, hb, h2⟩ := h
  exact ⟨es, clock, (hg.block b hlt hne).trans hb, h2⟩
theorem MapI.alloc {w : World} {n b : Nat} {L : List (List Int × Value)} (h : MapI n w b L) (o : Obj) : MapI n (w.alloc o) b L := h.kept (World.grownBy_alloc w o none) (by simp)
theorem MapI.drew_iff (w : World) (n b : Nat) (L : List (List Int × Value)) : MapI n w.drew b L ↔ MapI n w b L := Iff.rfl
theorem MapI.drew {w : World} {n b : Nat} {L : List (List Int × Value)} (h : MapI n w b L) : MapI n w.drew b L := h
theorem MapI.setCell {w : World} {n b : Nat} {L : List (List Int × Value)} (h : MapI n w b L) (a : Addr) (u : Value) : MapI n (w.setCell a u) b L := by
  obtain ⟨es, clock, hb, h2⟩ := h
  refine ⟨es, clock, ?_, h2⟩
  simp only [World.setCell, Array.getElem?_modify, hb]
  split <;> simp

theorem MapI.setCell_iff (w : World) (n b : Nat) (L : List (List Int × Value)) (a : Addr) (u : Value) : MapI n (w.setCell a u) b L ↔ MapI n w b L := by
  refine ⟨fun h => ?_, fun h => h.setCell a u⟩
  obtain ⟨es, clock, hb, h2⟩ := h
  refine ⟨es, clock, ?_, h2⟩
  simp only [World.setCell, Array.getElem?_modify] at hb
  split at hb
  · cases h3 : w.heap[b]? with
    | none => simp [h3] at hb
    | some o => cases o <;> simp [h3] at hb ⊢ <;> exact hb
  · exact hb

theorem Ents.length : ∀ {es : List MapEntry} {L : List (List Int × Value)}, Ents es L → es.length = L.length
  | [], [], _ => rfl
  | [], _ :: _, h => h.elim
  | _ :: _, [], h => h.elim
  | _ :: _, _ :: _, ⟨_, h⟩ => by simp [Ents.length h]
theorem run_len_ints {t k e : TypeId} {n : Nat} (ht : P.underlying t = some (.map k e)) (ty : TypeId) {b : Nat} {L : List (List Int × Value)} (hm : MapI n w b L) :
    (Builtin.len_ #[t] ty #[.map (some b)]).run P w = .ok (.int .i64 L.length) w := by
  obtain ⟨es, clock, hb, h2, _⟩ := hm
  have := h2.length
  simp only [Array.length_toList] at this
  simp [Builtin.len_, run_underlying ht, MapKept.run_getObj_map hb, goInt, Result.andThen, this]

theorem lookL_put (L : List (List Int × Value)) (xs ys : List Int) (v : Value) : lookL (putL L xs v) ys = if ys = xs then some v else lookL L ys := by
  induction L with
  | nil => by_cases c : ys = xs <;> simp [lookL, putL, c]
  | cons x L ih =>
    unfold putL
    by_cases c : xs = x.1
    · rw [if_pos c]
      by_cases d : ys = x.1
      · simp [lookL, d, c]
      · simp [lookL, d, c]
    · rw [if_neg c]
      unfold lookL at *
      by_cases d : ys = x.1
      · have : ys ≠ xs := fun e => c (by rw [← e, d])
        simp [d]
        intro e; exact absurd e.symm c
      · simp only [List.find?_cons, d, decide_false, ih]

end
end Go.Proofs.Ytdcikaenepnliaa
