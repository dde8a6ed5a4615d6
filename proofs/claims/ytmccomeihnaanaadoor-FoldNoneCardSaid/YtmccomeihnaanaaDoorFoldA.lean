/- ops: what is reckoned: Unary and Binary, as plain functions. -/
import Derived.Test.YtmccomeihnaanaaDoorCutN
import Derived.Laws.FloatArith
namespace Go.Proofs.YtmccomeihnaanaaDoor
open Go.RowKit Go.IntWalk

def nanM : Int := 9221120237041090561
/-- no number of the model's own -/
theorem nan_order (x y t : Nat) : (FloatKind.f64.format.order ((Question.nanBits .f64 x y).cut t) ((Question.nanBits .f64 x y).cut t) == some .eq) = false := by
  have h : ∃ s f, FloatKind.f64.format.read ((Question.nanBits .f64 x y).cut t) = .nan s f := by
    unfold Ieee.Format.read
    dsimp only
    have e1 : FloatKind.f64.format.signWeight = 2 ^ 63 := by kernel_rfl
    have e2 : FloatKind.f64.format.infRung = 0x7ff0000000000000 := by kernel_rfl
    have e3 : FloatKind.f64.format.binade = 2 ^ 52 := by kernel_rfl
    have e4 : (Question.nanBits .f64 x y).cut t = (t % 2) * 2 ^ 63 + 0x7ff0000000000000 + 1 + (t / 2) % (2 ^ 52 - 1) := rfl
    rw [e1, e2, e3, e4]
    have hs : t % 2 = 0 ∨ t % 2 = 1 := by omega
    have hu : (t / 2) % (2 ^ 52 - 1) < 2 ^ 52 - 1 := Nat.mod_lt _ (by decide)
    generalize (t / 2) % (2 ^ 52 - 1) = u at hu
    rcases hs with e | e <;> rw [e, if_neg (by omega), if_neg (by omega), if_neg (by omega)] <;> exact ⟨_, _, rfl⟩
  obtain ⟨s, f, h⟩ := h
  unfold Ieee.Format.order
  rw [h]
  rfl
theorem run_float_any {P : Program} (op : BinOp) (t : TypeId) (x y : Nat) (hop : op = .add ∨ op = .sub ∨ op = .mul ∨ op = .quo) (w : World) :
    (∃ r, floatBits op .f64 x y = some r ∧ (binOp op t (.float .f64 x) (.float .f64 y)).run P w = .ok (.float .f64 r) w) ∨
    (floatBits op .f64 x y = none ∧ ∃ b, (FloatKind.f64.format.order b b == some .eq) = false ∧ (binOp op t (.float .f64 x) (.float .f64 y)).run P w = .ok (.float .f64 b) w.drew) := by
  cases h : floatBits op .f64 x y with
  | some r => exact .inl ⟨r, rfl, run_float_arith w op t .f64 x y r h⟩
  | none =>
    refine .inr ⟨rfl, (Question.nanBits .f64 x y).cut (w.tape w.drawn (Question.nanBits .f64 x y)), nan_order x y _, ?_⟩
    unfold floatBits at h
    rcases hop with rfl | rfl | rfl | rfl <;> simp only at h <;> simp [binOp, Op.floatArith, h] <;> (intro hf; cases hf)
def ofM (b : Nat) : Val := if FloatKind.f64.format.order b b == some .eq then ⟨3, wrap64 b⟩ else ⟨3, nanM⟩
def truthM (b : Bool) : Val := if b then ⟨1, 1⟩ else ⟨1, 0⟩
def takenM (v : Val) : Val := if rightV v then v else ⟨0, 0⟩
def isTrueM (v : Val) : Bool := (takenM v).kind != 0 && !((takenM v).kind == 1 && (takenM v).n == 0)
def wholeM (n : Int) : Val × Int := if withinM n (-2147483648) 2147483647 then (⟨2, n⟩, -1) else (⟨0, 0⟩, 1)
def orderedM (op : Int) (lt le : Bool) : Val × Int := if op = 9 then (truthM lt, -1) else if op = 10 then (truthM le, -1) else (⟨0, 0⟩, 0)
def wholesM (op a b : Int) : Val × Int :=
  if op = 3 then wholeM (wrap64 (a + b)) else if op = 4 then wholeM (wrap64 (a - b)) else if op = 5 then wholeM (wrap64 (a * b))
  else if op = 6 ∨ op = 7 then (if b = 0 then (⟨0, 0⟩, 2) else if op = 6 then wholeM (wrap64 (a.tdiv b)) else wholeM (a.tmod b))
  else orderedM op (decide (a < b)) (decide (a ≤ b))
def ofB (op : BinOp) (x y : Nat) : Val := match floatBits op .f64 x y with | some r => ofM r | none => ⟨3, nanM⟩
def ltF (x y : Nat) : Bool := FloatKind.f64.format.order x y == some .lt
def eqF (x y : Nat) : Bool := FloatKind.f64.format.order x y == some .eq
def floatsM (op : Int) (x y : Nat) : Val × Int :=
  if op = 3 then (ofB .add x y, -1) else if op = 4 then (ofB .sub x y, -1) else if op = 5 then (ofB .mul x y, -1) else if op = 6 then (ofB .quo x y, -1)
  else if op = 8 then (truthM (eqF x y), -1) else orderedM op (ltF x y) (ltF x y || eqF x y)
def unaryM (op : Int) (v : Val) : Val × Int :=
  if op = 11 then (truthM (!isTrueM (takenM v)), -1)
  else if op = 12 ∧ (takenM v).kind = 2 then wholeM (wrap64 (-(takenM v).n))
  else if op = 12 ∧ (takenM v).kind = 3 then (ofM (Op.negFloat .f64 (bitsM (takenM v).n)), -1)
  else (⟨0, 0⟩, 0)
def binaryM (op : Int) (u v : Val) : Val × Int :=
  if (takenM u).kind = 3 ∧ (takenM v).kind = 3 then floatsM op (bitsM (takenM u).n) (bitsM (takenM v).n)
  else if op = 8 then (truthM ((takenM u).kind == (takenM v).kind && (takenM u).n == (takenM v).n), -1)
  else if (takenM u).kind = 2 ∧ (takenM v).kind = 2 then wholesM op (takenM u).n (takenM v).n
  else (⟨0, 0⟩, 0)
def GivesV (r : Val × Int) (w : World) : Ending → World → Prop := Gives (.tuple #[.agg #[.int .i64 r.1.kind, .int .i64 r.1.n], .int .i64 r.2]) w

theorem infoValC : (Tryd.prog.info? 41).map (·.size) = some 2 := by kernel_rfl
set_option maxHeartbeats 1000000 in
set_option maxRecDepth 100000 in
theorem otruth_c (b : Bool) (w : World) : Calls Tryd.prog 62 #[.bool b] w (Gives (.agg #[.int .i64 (truthM b).kind, .int .i64 (truthM b).n]) w) := by
  unfold truthM
  cases b
  · simp only [↓reduceIte, Bool.false_eq_true]
    obtain ⟨w0, hw0⟩ : ∃ w0, w0 = w.alloc (.cells #[.int .i64 0, .int .i64 0] 41) := ⟨_, rfl⟩
    have K0 : Hid (Below w.heap.size w w0) := by rw [hw0]; exact below_one _ _
    have Z0 : Hid (w0.heap[w.heap.size]? = some (.cells #[.int .i64 0, .int .i64 0] 41 (0, 0))) := by rw [hw0]; exact heap_last _ _
    have hz0 : w.heap.size < w0.heap.size := (Array.getElem?_eq_some_iff.1 Z0.out).1
    have HW := Lib.hid hw0
    clear hw0
    go_enter Tryd.func62, Tryd.ntmps62
    go_upto_region 1 with fail
    rw [← HW.out]
    have K5 : Hid (Below w0.heap.size w0 w0) := Below.refl _ _
    have ZX := Lib.hid ((K5.out.block _ hz0).trans Z0.out)
    have KX : Hid (Below w.heap.size w w0) := K0.out.trans (K5.out.mono K0.out.size)
    go_wp2_with (refine wpList_store_row rfl 41 _ _ rfl (w.heap.size) #[.int .i64 1, .int .i64 0] rfl rfl 41 _ ZX.out infoValC rfl (all_oneCell_toArray (by simp [Value.oneCell'])) ?_)
    generalize hw9 : World.setRow _ _ _ = w9
    have QR : Hid (w9.heap[w.heap.size]? = some (.cells #[.int .i64 1, .int .i64 0] 41 (0, 0))) := by rw [← hw9]; exact setRow_heap _ _ _ _ _ _ ZX.out
    have K9 : Hid (Below w.heap.size w w9) := by rw [← hw9]; exact Below.set_row KX.out (by omega) _
    clear hw9
    go_wp2_with fail
    have q0 := cell_of_row w9 (w.heap.size) 0 _ _ _ QR.out
    have q1 := cell_of_row w9 (w.heap.size) 1 _ _ _ QR.out
    refine bodyPost_ret (v := (.agg #[.int .i64 1, .int .i64 0])) (by simp [results, Tryd.results62, go_sem, q0, q1]) rfl ⟨rfl, K9.out⟩
  · simp only [↓reduceIte, Bool.false_eq_true]
    obtain ⟨w0, hw0⟩ : ∃ w0, w0 = w.alloc (.cells #[.int .i64 0, .int .i64 0] 41) := ⟨_, rfl⟩
    have K0 : Hid (Below w.heap.size w w0) := by rw [hw0]; exact below_one _ _
    have Z0 : Hid (w0.heap[w.heap.size]? = some (.cells #[.int .i64 0, .int .i64 0] 41 (0, 0))) := by rw [hw0]; exact heap_last _ _
    have hz0 : w.heap.size < w0.heap.size := (Array.getElem?_eq_some_iff.1 Z0.out).1
    have HW := Lib.hid hw0
    clear hw0
    go_enter Tryd.func62, Tryd.ntmps62
    go_upto_region 1 with fail
    rw [← HW.out]
    have K5 : Hid (Below w0.heap.size w0 w0) := Below.refl _ _
    have ZX := Lib.hid ((K5.out.block _ hz0).trans Z0.out)
    have KX : Hid (Below w.heap.size w w0) := K0.out.trans (K5.out.mono K0.out.size)
    go_wp2_with (refine wpList_store_row rfl 41 _ _ rfl (w.heap.size) #[.int .i64 1, .int .i64 1] rfl rfl 41 _ ZX.out infoValC rfl (all_oneCell_toArray (by simp [Value.oneCell'])) ?_)
    generalize hw9 : World.setRow _ _ _ = w9
    have QR : Hid (w9.heap[w.heap.size]? = some (.cells #[.int .i64 1, .int .i64 1] 41 (0, 0))) := by rw [← hw9]; exact setRow_heap _ _ _ _ _ _ ZX.out
    have K9 : Hid (Below w.heap.size w w9) := by rw [← hw9]; exact Below.set_row KX.out (by omega) _
    clear hw9
    go_wp2_with fail
    have q0 := cell_of_row w9 (w.heap.size) 0 _ _ _ QR.out
    have q1 := cell_of_row w9 (w.heap.size) 1 _ _ _ QR.out
    refine bodyPost_ret (v := (.agg #[.int .i64 1, .int .i64 1])) (by simp [results, Tryd.results62, go_sem, q0, q1]) rfl ⟨rfl, K9.out⟩
set_option maxHeartbeats 1000000 in
set_option maxRecDepth 100000 in
theorem ofail_c (n : Int) (w : World) : Calls Tryd.prog 67 #[.int .i64 n] w (GivesV (⟨0, 0⟩, n) w) := by
  unfold GivesV
  try dsimp only
  obtain ⟨w0, hw0⟩ : ∃ w0, w0 = w.alloc (.cells #[.int .i64 0, .int .i64 0] 41) := ⟨_, rfl⟩
  have K0 : Hid (Below w.heap.size w w0) := by rw [hw0]; exact below_one _ _
  have Z0 : Hid (w0.heap[w.heap.size]? = some (.cells #[.int .i64 0, .int .i64 0] 41 (0, 0))) := by rw [hw0]; exact heap_last _ _
  have hz0 : w.heap.size < w0.heap.size := (Array.getElem?_eq_some_iff.1 Z0.out).1
  have HW := Lib.hid hw0
  clear hw0
  go_enter Tryd.func67, Tryd.ntmps67
  go_upto_region 1 with fail
  rw [← HW.out]
  have K5 : Hid (Below w0.heap.size w0 w0) := Below.refl _ _
  have ZX := Lib.hid ((K5.out.block _ hz0).trans Z0.out)
  have KX : Hid (Below w.heap.size w w0) := K0.out.trans (K5.out.mono K0.out.size)
  go_wp2_with (refine wpList_store_row rfl 41 _ _ rfl (w.heap.size) #[.int .i64 0, .int .i64 0] rfl rfl 41 _ ZX.out infoValC rfl (all_oneCell_toArray (by simp [Value.oneCell'])) ?_)
  generalize hw9 : World.setRow _ _ _ = w9
  have QR : Hid (w9.heap[w.heap.size]? = some (.cells #[.int .i64 0, .int .i64 0] 41 (0, 0))) := by rw [← hw9]; exact setRow_heap _ _ _ _ _ _ ZX.out
  have K9 : Hid (Below w.heap.size w w9) := by rw [← hw9]; exact Below.set_row KX.out (by omega) _
  clear hw9
  go_wp2_with fail
  have q0 := cell_of_row w9 (w.heap.size) 0 _ _ _ QR.out
  have q1 := cell_of_row w9 (w.heap.size) 1 _ _ _ QR.out
  refine bodyPost_ret (v := (.tuple #[.agg #[.int .i64 0, .int .i64 0], .int .i64 n])) (by simp [results, Tryd.results67, go_sem, q0, q1]) rfl ⟨rfl, K9.out⟩
set_option maxHeartbeats 1000000 in
set_option maxRecDepth 100000 in
theorem owhole_c (n : Int) (w : World) : Calls Tryd.prog 64 #[.int .i64 n] w (GivesV (wholeM n) w) := by
  unfold wholeM GivesV
  cases h : withinM n (-2147483648) 2147483647
  · simp only [↓reduceIte, Bool.false_eq_true]
    try dsimp only
    have H := Lib.hid h
    obtain ⟨w0, hw0⟩ : ∃ w0, w0 = w.alloc (.cells #[.int .i64 0, .int .i64 0] 41) := ⟨_, rfl⟩
    have K0 : Hid (Below w.heap.size w w0) := by rw [hw0]; exact below_one _ _
    have Z0 : Hid (w0.heap[w.heap.size]? = some (.cells #[.int .i64 0, .int .i64 0] 41 (0, 0))) := by rw [hw0]; exact heap_last _ _
    have hz0 : w.heap.size < w0.heap.size := (Array.getElem?_eq_some_iff.1 Z0.out).1
    have HW := Lib.hid hw0
    clear hw0
    go_enter Tryd.func64, Tryd.ntmps64
    go_upto_region 1 with fail
    rw [← HW.out]
    go_wp2_with fail
    refine (owithin_c _ _ _ _).mono ?_
    rw [H.out]
    rintro e w1 ⟨rfl, rfl⟩
    go_wp2_with fail
    refine (ofail_c _ _).mono ?_
    rintro e w5 ⟨rfl, k5⟩
    have K5 := Lib.hid k5
    clear k5
    have ZX := Lib.hid ((K5.out.block _ hz0).trans Z0.out)
    have KX : Hid (Below w.heap.size w w5) := K0.out.trans (K5.out.mono K0.out.size)
    go_wp2_with (refine wpList_store_row rfl 41 _ _ rfl (w.heap.size) #[.int .i64 0, .int .i64 0] rfl rfl 41 _ ZX.out infoValC rfl (all_oneCell_toArray (by simp [Value.oneCell'])) ?_)
    generalize hw9 : World.setRow _ _ _ = w9
    have QR : Hid (w9.heap[w.heap.size]? = some (.cells #[.int .i64 0, .int .i64 0] 41 (0, 0))) := by rw [← hw9]; exact setRow_heap _ _ _ _ _ _ ZX.out
    have K9 : Hid (Below w.heap.size w w9) := by rw [← hw9]; exact Below.set_row KX.out (by omega) _
    clear hw9
    go_wp2_with fail
    have q0 := cell_of_row w9 (w.heap.size) 0 _ _ _ QR.out
    have q1 := cell_of_row w9 (w.heap.size) 1 _ _ _ QR.out
    refine bodyPost_ret (v := (.tuple #[.agg #[.int .i64 0, .int .i64 0], .int .i64 1])) (by simp [results, Tryd.results64, go_sem, q0, q1]) rfl ⟨rfl, K9.out⟩
  · simp only [↓reduceIte, Bool.false_eq_true]
    try dsimp only
    have H := Lib.hid h
    obtain ⟨w0, hw0⟩ : ∃ w0, w0 = w.alloc (.cells #[.int .i64 0, .int .i64 0] 41) := ⟨_, rfl⟩
    have K0 : Hid (Below w.heap.size w w0) := by rw [hw0]; exact below_one _ _
    have Z0 : Hid (w0.heap[w.heap.size]? = some (.cells #[.int .i64 0, .int .i64 0] 41 (0, 0))) := by rw [hw0]; exact heap_last _ _
    have hz0 : w.heap.size < w0.heap.size := (Array.getElem?_eq_some_iff.1 Z0.out).1
    have HW := Lib.hid hw0
    clear hw0
    go_enter Tryd.func64, Tryd.ntmps64
    go_upto_region 1 with fail
    rw [← HW.out]
    go_wp2_with fail
    refine (owithin_c _ _ _ _).mono ?_
    rw [H.out]
    rintro e w1 ⟨rfl, rfl⟩
    have K5 : Hid (Below w0.heap.size w0 w0) := Below.refl _ _
    have ZX := Lib.hid ((K5.out.block _ hz0).trans Z0.out)
    have KX : Hid (Below w.heap.size w w0) := K0.out.trans (K5.out.mono K0.out.size)
    go_wp2_with (refine wpList_store_row rfl 41 _ _ rfl (w.heap.size) #[.int .i64 2, .int .i64 n] rfl rfl 41 _ ZX.out infoValC rfl (all_oneCell_toArray (by simp [Value.oneCell'])) ?_)
    generalize hw9 : World.setRow _ _ _ = w9
    have QR : Hid (w9.heap[w.heap.size]? = some (.cells #[.int .i64 2, .int .i64 n] 41 (0, 0))) := by rw [← hw9]; exact setRow_heap _ _ _ _ _ _ ZX.out
    have K9 : Hid (Below w.heap.size w w9) := by rw [← hw9]; exact Below.set_row KX.out (by omega) _
    clear hw9
    go_wp2_with fail
    have q0 := cell_of_row w9 (w.heap.size) 0 _ _ _ QR.out
    have q1 := cell_of_row w9 (w.heap.size) 1 _ _ _ QR.out
    refine bodyPost_ret (v := (.tuple #[.agg #[.int .i64 2, .int .i64 n], .int .i64 (-1)])) (by simp [results, Tryd.results64, go_sem, q0, q1]) rfl ⟨rfl, K9.out⟩
set_option maxHeartbeats 1000000 in
set_option maxRecDepth 100000 in
theorem fof_c (b : Nat) (w : World) : Calls Tryd.prog 65 #[.float .f64 b] w (Gives (.agg #[.int .i64 (ofM b).kind, .int .i64 (ofM b).n]) w) := by
  unfold ofM nanM
  cases h : (FloatKind.f64.format.order b b == some .eq)
  · simp only [↓reduceIte, Bool.false_eq_true]
    have h' : (FloatKind.f64.format.order b b != some .eq) = true := by unfold bne; rw [h]; rfl
    obtain ⟨w0, hw0⟩ : ∃ w0, w0 = w.alloc (.cells #[.int .i64 0, .int .i64 0] 41) := ⟨_, rfl⟩
    have K0 : Hid (Below w.heap.size w w0) := by rw [hw0]; exact below_one _ _
    have Z0 : Hid (w0.heap[w.heap.size]? = some (.cells #[.int .i64 0, .int .i64 0] 41 (0, 0))) := by rw [hw0]; exact heap_last _ _
    have hz0 : w.heap.size < w0.heap.size := (Array.getElem?_eq_some_iff.1 Z0.out).1
    have HW := Lib.hid hw0
    clear hw0
    go_enter Tryd.func65, Tryd.ntmps65
    go_upto_region 1 with fail
    rw [← HW.out]
    have K5 : Hid (Below w0.heap.size w0 w0) := Below.refl _ _
    have ZX := Lib.hid ((K5.out.block _ hz0).trans Z0.out)
    have KX : Hid (Below w.heap.size w w0) := K0.out.trans (K5.out.mono K0.out.size)
    go_wp2_with (refine wpList_store_row rfl 41 _ _ rfl (w.heap.size) #[.int .i64 3, .int .i64 9221120237041090561] rfl rfl 41 _ ZX.out infoValC rfl (all_oneCell_toArray (by simp [Value.oneCell'])) ?_)
    generalize hw9 : World.setRow _ _ _ = w9
    have QR : Hid (w9.heap[w.heap.size]? = some (.cells #[.int .i64 3, .int .i64 9221120237041090561] 41 (0, 0))) := by rw [← hw9]; exact setRow_heap _ _ _ _ _ _ ZX.out
    have K9 : Hid (Below w.heap.size w w9) := by rw [← hw9]; exact Below.set_row KX.out (by omega) _
    clear hw9
    go_wp2_with fail
    have q0 := cell_of_row w9 (w.heap.size) 0 _ _ _ QR.out
    have q1 := cell_of_row w9 (w.heap.size) 1 _ _ _ QR.out
    refine bodyPost_ret (v := (.agg #[.int .i64 3, .int .i64 9221120237041090561])) (by simp [results, Tryd.results65, go_sem, q0, q1]) rfl ⟨rfl, K9.out⟩
  · simp only [↓reduceIte]
    have h' : (FloatKind.f64.format.order b b != some .eq) = false := by unfold bne; rw [h]; rfl
    go_enter Tryd.func65, Tryd.ntmps65
    go_wp2
    rw [run_callFunc_extern Tryd.func98 (by kernel_rfl) (by kernel_rfl) (by kernel_rfl) (e := Extern.MathFloatBits.float64bits) (by kernel_rfl)]
    rw [show ∀ (m : Nat) (W : World), (Extern.MathFloatBits.float64bits #[.float .f64 m]).run Tryd.prog W = .ok (.int .u64 m) W from fun _ _ => rfl]
    simp only [Result.andThen]
    rw [Oper.upon_value]
    go_wp2
    refine bodyPost_ret (v := .agg #[.int .i64 3, .int .i64 (wrap64 b)]) (by simp [results, Tryd.results65, go_sem, one_cell]) rfl ⟨rfl, below_one w _⟩
set_option maxHeartbeats 1000000 in
set_option maxRecDepth 100000 in
theorem ordered_f (op : Int) (x y : Nat) (w : World) : Calls Tryd.prog 100 #[.int .i64 op, .float .f64 x, .float .f64 y] w (GivesV (orderedM op (ltF x y) ((ltF x y || eqF x y))) w) := by
  unfold ltF eqF
  unfold orderedM GivesV
  by_cases c9 : op = 9
  · subst c9
    simp only [↓reduceIte, show ¬ (10 : Int) = 9 from by decide]
    try dsimp only
    show Calls _ _ _ _ (Gives (.tuple #[.agg #[.int .i64 (truthM (FloatKind.f64.format.order x y == some .lt)).kind, .int .i64 (truthM (FloatKind.f64.format.order x y == some .lt)).n], .int .i64 (-1)]) w)
    have TC := fun W => otruth_c (FloatKind.f64.format.order x y == some .lt) W
    generalize truthM (FloatKind.f64.format.order x y == some .lt) = r at TC ⊢
    obtain ⟨r1, r2⟩ := r
    have HTC := Lib.hid TC
    clear TC
    obtain ⟨w0, hw0⟩ : ∃ w0, w0 = w.alloc (.cells #[.int .i64 0, .int .i64 0] 41) := ⟨_, rfl⟩
    have K0 : Hid (Below w.heap.size w w0) := by rw [hw0]; exact below_one _ _
    have Z0 : Hid (w0.heap[w.heap.size]? = some (.cells #[.int .i64 0, .int .i64 0] 41 (0, 0))) := by rw [hw0]; exact heap_last _ _
    have hz0 : w.heap.size < w0.heap.size := (Array.getElem?_eq_some_iff.1 Z0.out).1
    have HW := Lib.hid hw0
    clear hw0
    go_enter Tryd.func100, Tryd.ntmps100
    go_upto_region 1 with fail
    rw [← HW.out]
    go_wp2_with fail
    refine (HTC.out _).mono ?_
    rintro e w5 ⟨rfl, k5⟩
    have K5 := Lib.hid k5
    clear k5
    have ZX := Lib.hid ((K5.out.block _ hz0).trans Z0.out)
    have KX : Hid (Below w.heap.size w w5) := K0.out.trans (K5.out.mono K0.out.size)
    go_wp2_with (refine wpList_store_row rfl 41 _ _ rfl (w.heap.size) #[.int .i64 r1, .int .i64 r2] rfl rfl 41 _ ZX.out infoValC rfl (all_oneCell_toArray (by simp [Value.oneCell'])) ?_)
    generalize hw9 : World.setRow _ _ _ = w9
    have QR : Hid (w9.heap[w.heap.size]? = some (.cells #[.int .i64 r1, .int .i64 r2] 41 (0, 0))) := by rw [← hw9]; exact setRow_heap _ _ _ _ _ _ ZX.out
    have K9 : Hid (Below w.heap.size w w9) := by rw [← hw9]; exact Below.set_row KX.out (by omega) _
    clear hw9
    go_wp2_with fail
    have q0 := cell_of_row w9 (w.heap.size) 0 _ _ _ QR.out
    have q1 := cell_of_row w9 (w.heap.size) 1 _ _ _ QR.out
    refine bodyPost_ret (v := (.tuple #[.agg #[.int .i64 r1, .int .i64 r2], .int .i64 (-1)])) (by simp [results, Tryd.results100, go_sem, q0, q1]) rfl ⟨rfl, K9.out⟩
  by_cases c10 : op = 10
  · subst c10
    clear c9
    simp only [↓reduceIte, show ¬ (10 : Int) = 9 from by decide]
    try dsimp only
    show Calls _ _ _ _ (Gives (.tuple #[.agg #[.int .i64 (truthM ((FloatKind.f64.format.order x y == some .lt || FloatKind.f64.format.order x y == some .eq))).kind, .int .i64 (truthM ((FloatKind.f64.format.order x y == some .lt || FloatKind.f64.format.order x y == some .eq))).n], .int .i64 (-1)]) w)
    have TC := fun W => otruth_c ((FloatKind.f64.format.order x y == some .lt || FloatKind.f64.format.order x y == some .eq)) W
    generalize truthM ((FloatKind.f64.format.order x y == some .lt || FloatKind.f64.format.order x y == some .eq)) = r at TC ⊢
    obtain ⟨r1, r2⟩ := r
    have HTC := Lib.hid TC
    clear TC
    obtain ⟨w0, hw0⟩ : ∃ w0, w0 = w.alloc (.cells #[.int .i64 0, .int .i64 0] 41) := ⟨_, rfl⟩
    have K0 : Hid (Below w.heap.size w w0) := by rw [hw0]; exact below_one _ _
    have Z0 : Hid (w0.heap[w.heap.size]? = some (.cells #[.int .i64 0, .int .i64 0] 41 (0, 0))) := by rw [hw0]; exact heap_last _ _
    have hz0 : w.heap.size < w0.heap.size := (Array.getElem?_eq_some_iff.1 Z0.out).1
    have HW := Lib.hid hw0
    clear hw0
    go_enter Tryd.func100, Tryd.ntmps100
    go_upto_region 1 with fail
    rw [← HW.out]
    go_wp2_with fail
    refine (HTC.out _).mono ?_
    rintro e w5 ⟨rfl, k5⟩
    have K5 := Lib.hid k5
    clear k5
    have ZX := Lib.hid ((K5.out.block _ hz0).trans Z0.out)
    have KX : Hid (Below w.heap.size w w5) := K0.out.trans (K5.out.mono K0.out.size)
    go_wp2_with (refine wpList_store_row rfl 41 _ _ rfl (w.heap.size) #[.int .i64 r1, .int .i64 r2] rfl rfl 41 _ ZX.out infoValC rfl (all_oneCell_toArray (by simp [Value.oneCell'])) ?_)
    generalize hw9 : World.setRow _ _ _ = w9
    have QR : Hid (w9.heap[w.heap.size]? = some (.cells #[.int .i64 r1, .int .i64 r2] 41 (0, 0))) := by rw [← hw9]; exact setRow_heap _ _ _ _ _ _ ZX.out
    have K9 : Hid (Below w.heap.size w w9) := by rw [← hw9]; exact Below.set_row KX.out (by omega) _
    clear hw9
    go_wp2_with fail
    have q0 := cell_of_row w9 (w.heap.size) 0 _ _ _ QR.out
    have q1 := cell_of_row w9 (w.heap.size) 1 _ _ _ QR.out
    refine bodyPost_ret (v := (.tuple #[.agg #[.int .i64 r1, .int .i64 r2], .int .i64 (-1)])) (by simp [results, Tryd.results100, go_sem, q0, q1]) rfl ⟨rfl, K9.out⟩
  rw [if_neg c9, if_neg c10]
  try dsimp only
  have n9 : (op == 9) = false := beq_eq_false_iff_ne.2 c9
  have n10 : (op == 10) = false := beq_eq_false_iff_ne.2 c10
  clear c9 c10
  obtain ⟨w0, hw0⟩ : ∃ w0, w0 = w.alloc (.cells #[.int .i64 0, .int .i64 0] 41) := ⟨_, rfl⟩
  have K0 : Hid (Below w.heap.size w w0) := by rw [hw0]; exact below_one _ _
  have Z0 : Hid (w0.heap[w.heap.size]? = some (.cells #[.int .i64 0, .int .i64 0] 41 (0, 0))) := by rw [hw0]; exact heap_last _ _
  have hz0 : w.heap.size < w0.heap.size := (Array.getElem?_eq_some_iff.1 Z0.out).1
  have HW := Lib.hid hw0
  clear hw0
  go_enter Tryd.func100, Tryd.ntmps100
  go_upto_region 1 with fail
  rw [← HW.out]
  go_wp2_with fail
  refine (ofail_c _ _).mono ?_
  rintro e w5 ⟨rfl, k5⟩
  have K5 := Lib.hid k5
  clear k5
  have ZX := Lib.hid ((K5.out.block _ hz0).trans Z0.out)
  have KX : Hid (Below w.heap.size w w5) := K0.out.trans (K5.out.mono K0.out.size)
  go_wp2_with (refine wpList_store_row rfl 41 _ _ rfl (w.heap.size) #[.int .i64 0, .int .i64 0] rfl rfl 41 _ ZX.out infoValC rfl (all_oneCell_toArray (by simp [Value.oneCell'])) ?_)
  generalize hw9 : World.setRow _ _ _ = w9
  have QR : Hid (w9.heap[w.heap.size]? = some (.cells #[.int .i64 0, .int .i64 0] 41 (0, 0))) := by rw [← hw9]; exact setRow_heap _ _ _ _ _ _ ZX.out
  have K9 : Hid (Below w.heap.size w w9) := by rw [← hw9]; exact Below.set_row KX.out (by omega) _
  clear hw9
  go_wp2_with fail
  have q0 := cell_of_row w9 (w.heap.size) 0 _ _ _ QR.out
  have q1 := cell_of_row w9 (w.heap.size) 1 _ _ _ QR.out
  refine bodyPost_ret (v := (.tuple #[.agg #[.int .i64 0, .int .i64 0], .int .i64 0])) (by simp [results, Tryd.results100, go_sem, q0, q1]) rfl ⟨rfl, K9.out⟩
set_option maxHeartbeats 1000000 in
set_option maxRecDepth 100000 in
theorem ordered_i (op : Int) (x y : Int) (w : World) : Calls Tryd.prog 101 #[.int .i64 op, .int .i64 x, .int .i64 y] w (GivesV (orderedM op (decide (x < y)) (decide (x ≤ y))) w) := by
  unfold orderedM GivesV
  by_cases c9 : op = 9
  · subst c9
    simp only [↓reduceIte, show ¬ (10 : Int) = 9 from by decide]
    try dsimp only
    show Calls _ _ _ _ (Gives (.tuple #[.agg #[.int .i64 (truthM (decide (x < y))).kind, .int .i64 (truthM (decide (x < y))).n], .int .i64 (-1)]) w)
    have TC := fun W => otruth_c (decide (x < y)) W
    generalize truthM (decide (x < y)) = r at TC ⊢
    obtain ⟨r1, r2⟩ := r
    have HTC := Lib.hid TC
    clear TC
    obtain ⟨w0, hw0⟩ : ∃ w0, w0 = w.alloc (.cells #[.int .i64 0, .int .i64 0] 41) := ⟨_, rfl⟩
    have K0 : Hid (Below w.heap.size w w0) := by rw [hw0]; exact below_one _ _
    have Z0 : Hid (w0.heap[w.heap.size]? = some (.cells #[.int .i64 0, .int .i64 0] 41 (0, 0))) := by rw [hw0]; exact heap_last _ _
    have hz0 : w.heap.size < w0.heap.size := (Array.getElem?_eq_some_iff.1 Z0.out).1
    have HW := Lib.hid hw0
    clear hw0
    go_enter Tryd.func101, Tryd.ntmps101
    go_upto_region 1 with fail
    rw [← HW.out]
    go_wp2_with fail
    refine (HTC.out _).mono ?_
    rintro e w5 ⟨rfl, k5⟩
    have K5 := Lib.hid k5
    clear k5
    have ZX := Lib.hid ((K5.out.block _ hz0).trans Z0.out)
    have KX : Hid (Below w.heap.size w w5) := K0.out.trans (K5.out.mono K0.out.size)
    go_wp2_with (refine wpList_store_row rfl 41 _ _ rfl (w.heap.size) #[.int .i64 r1, .int .i64 r2] rfl rfl 41 _ ZX.out infoValC rfl (all_oneCell_toArray (by simp [Value.oneCell'])) ?_)
    generalize hw9 : World.setRow _ _ _ = w9
    have QR : Hid (w9.heap[w.heap.size]? = some (.cells #[.int .i64 r1, .int .i64 r2] 41 (0, 0))) := by rw [← hw9]; exact setRow_heap _ _ _ _ _ _ ZX.out
    have K9 : Hid (Below w.heap.size w w9) := by rw [← hw9]; exact Below.set_row KX.out (by omega) _
    clear hw9
    go_wp2_with fail
    have q0 := cell_of_row w9 (w.heap.size) 0 _ _ _ QR.out
    have q1 := cell_of_row w9 (w.heap.size) 1 _ _ _ QR.out
    refine bodyPost_ret (v := (.tuple #[.agg #[.int .i64 r1, .int .i64 r2], .int .i64 (-1)])) (by simp [results, Tryd.results101, go_sem, q0, q1]) rfl ⟨rfl, K9.out⟩
  by_cases c10 : op = 10
  · subst c10
    clear c9
    simp only [↓reduceIte, show ¬ (10 : Int) = 9 from by decide]
    try dsimp only
    show Calls _ _ _ _ (Gives (.tuple #[.agg #[.int .i64 (truthM (decide (x ≤ y))).kind, .int .i64 (truthM (decide (x ≤ y))).n], .int .i64 (-1)]) w)
    have TC := fun W => otruth_c (decide (x ≤ y)) W
    generalize truthM (decide (x ≤ y)) = r at TC ⊢
    obtain ⟨r1, r2⟩ := r
    have HTC := Lib.hid TC
    clear TC
    obtain ⟨w0, hw0⟩ : ∃ w0, w0 = w.alloc (.cells #[.int .i64 0, .int .i64 0] 41) := ⟨_, rfl⟩
    have K0 : Hid (Below w.heap.size w w0) := by rw [hw0]; exact below_one _ _
    have Z0 : Hid (w0.heap[w.heap.size]? = some (.cells #[.int .i64 0, .int .i64 0] 41 (0, 0))) := by rw [hw0]; exact heap_last _ _
    have hz0 : w.heap.size < w0.heap.size := (Array.getElem?_eq_some_iff.1 Z0.out).1
    have HW := Lib.hid hw0
    clear hw0
    go_enter Tryd.func101, Tryd.ntmps101
    go_upto_region 1 with fail
    rw [← HW.out]
    go_wp2_with fail
    refine (HTC.out _).mono ?_
    rintro e w5 ⟨rfl, k5⟩
    have K5 := Lib.hid k5
    clear k5
    have ZX := Lib.hid ((K5.out.block _ hz0).trans Z0.out)
    have KX : Hid (Below w.heap.size w w5) := K0.out.trans (K5.out.mono K0.out.size)
    go_wp2_with (refine wpList_store_row rfl 41 _ _ rfl (w.heap.size) #[.int .i64 r1, .int .i64 r2] rfl rfl 41 _ ZX.out infoValC rfl (all_oneCell_toArray (by simp [Value.oneCell'])) ?_)
    generalize hw9 : World.setRow _ _ _ = w9
    have QR : Hid (w9.heap[w.heap.size]? = some (.cells #[.int .i64 r1, .int .i64 r2] 41 (0, 0))) := by rw [← hw9]; exact setRow_heap _ _ _ _ _ _ ZX.out
    have K9 : Hid (Below w.heap.size w w9) := by rw [← hw9]; exact Below.set_row KX.out (by omega) _
    clear hw9
    go_wp2_with fail
    have q0 := cell_of_row w9 (w.heap.size) 0 _ _ _ QR.out
    have q1 := cell_of_row w9 (w.heap.size) 1 _ _ _ QR.out
    refine bodyPost_ret (v := (.tuple #[.agg #[.int .i64 r1, .int .i64 r2], .int .i64 (-1)])) (by simp [results, Tryd.results101, go_sem, q0, q1]) rfl ⟨rfl, K9.out⟩
  rw [if_neg c9, if_neg c10]
  try dsimp only
  have n9 : (op == 9) = false := beq_eq_false_iff_ne.2 c9
  have n10 : (op == 10) = false := beq_eq_false_iff_ne.2 c10
  clear c9 c10
  obtain ⟨w0, hw0⟩ : ∃ w0, w0 = w.alloc (.cells #[.int .i64 0, .int .i64 0] 41) := ⟨_, rfl⟩
  have K0 : Hid (Below w.heap.size w w0) := by rw [hw0]; exact below_one _ _
  have Z0 : Hid (w0.heap[w.heap.size]? = some (.cells #[.int .i64 0, .int .i64 0] 41 (0, 0))) := by rw [hw0]; exact heap_last _ _
  have hz0 : w.heap.size < w0.heap.size := (Array.getElem?_eq_some_iff.1 Z0.out).1
  have HW := Lib.hid hw0
  clear hw0
  go_enter Tryd.func101, Tryd.ntmps101
  go_upto_region 1 with fail
  rw [← HW.out]
  go_wp2_with fail
  refine (ofail_c _ _).mono ?_
  rintro e w5 ⟨rfl, k5⟩
  have K5 := Lib.hid k5
  clear k5
  have ZX := Lib.hid ((K5.out.block _ hz0).trans Z0.out)
  have KX : Hid (Below w.heap.size w w5) := K0.out.trans (K5.out.mono K0.out.size)
  go_wp2_with (refine wpList_store_row rfl 41 _ _ rfl (w.heap.size) #[.int .i64 0, .int .i64 0] rfl rfl 41 _ ZX.out infoValC rfl (all_oneCell_toArray (by simp [Value.oneCell'])) ?_)
  generalize hw9 : World.setRow _ _ _ = w9
  have QR : Hid (w9.heap[w.heap.size]? = some (.cells #[.int .i64 0, .int .i64 0] 41 (0, 0))) := by rw [← hw9]; exact setRow_heap _ _ _ _ _ _ ZX.out
  have K9 : Hid (Below w.heap.size w w9) := by rw [← hw9]; exact Below.set_row KX.out (by omega) _
  clear hw9
  go_wp2_with fail
  have q0 := cell_of_row w9 (w.heap.size) 0 _ _ _ QR.out
  have q1 := cell_of_row w9 (w.heap.size) 1 _ _ _ QR.out
  refine bodyPost_ret (v := (.tuple #[.agg #[.int .i64 0, .int .i64 0], .int .i64 0])) (by simp [results, Tryd.results101, go_sem, q0, q1]) rfl ⟨rfl, K9.out⟩
end Go.Proofs.YtmccomeihnaanaaDoor
