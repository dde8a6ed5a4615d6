/- ir.bare. -/
import Derived.Test.YtmccomeihnaanaaDoorChkD
namespace Go.Proofs.YtmccomeihnaanaaDoor
open Go.RowKit

/-- the load of a whole struct, in a region that draws its order (wp_region_up's quiet walk) -/
theorem wpQuiet_load_up {P : Program} {ops : Array Oper} {rest : List Oper} {o : Oper} {a : Act} {w : World} {Q : Act → Prop} (ty : TypeId) (x : Operand) (ho : o.op = .load ty x)
    (hgd : Region.wanted o (yielded ops a.tmps) = true)
    (b off : Nat) (hx : a.eval x = .pointer (some ⟨b, off, none⟩)) (cs : List Value) (d : TypeDesc) (hc : ∀ E : Up w, E.to.rangeAt b off cs)
    (hu : P.underlying ty = some d) (hd : d.isRow = true) (hi : (P.info? ty).map (·.size) = some cs.length)
    (h : wpQuiet P ops (fun w' => ∃ E : Up w, w' = E.to) Q rest (a.put o.dst (.agg cs.toArray))) : wpQuiet P ops (fun w' => ∃ E : Up w, w' = E.to) Q (o :: rest) a :=
  wpQuiet_step fun K hK => by
    rw [if_pos hgd]
    refine ⟨.agg cs.toArray, fun w' ⟨E, e⟩ => ?_, hK _ h⟩
    subst e
    unfold Oper.quietAt execOp
    simp only [ho, hx, Instr.loadAt, Instr.sureAddr, Sem.run_bind, Sem.run_pure, Result.andThen_ok, run_loadVar_mid E.to b off ty cs d (hc E) hu hd hi]
    exact ⟨rfl, rfl⟩

set_option maxHeartbeats 1000000 in
set_option maxRecDepth 100000 in
theorem bare_c (xs : List Value) (x : TExit) (w : World) (B : Nat) (w' : World) (hx : ExitR w' B xs x) : Calls Tryd.prog 37 #[.agg ⟨xs⟩] w (Gives (.bool (bareM x)) w) := by
  obtain ⟨r, hr⟩ : ∃ r, bareM x = r := ⟨_, rfl⟩
  rw [hr]
  unfold bareM at hr
  obtain ⟨s, m, rfl, hs, hm, wa, ws⟩ := hx
  obtain ⟨S, cS, rfl, ls1, ls2, -⟩ := hs
  obtain ⟨M, cM, rfl, lm1, lm2, -⟩ := hm
  unfold maxLen at ls2 lm2
  by_cases b1 : x.at_ = 0
  case neg =>
    have HR : Hid (false = r) := by rw [← hr, beq_eq_false_iff_ne.2 b1]; rfl
    have b1' : (x.at_ == 0) = false := beq_eq_false_iff_ne.2 b1
    clear hr
    go_enter Tryd.func37, Tryd.ntmps37
    go_wp2_with fail
    go_ret
    exact ⟨by rw [← HR.out]; rfl, below_one w _⟩
  rw [b1, show ((0 : Int) == 0) = true from rfl, Bool.true_and] at hr
  rw [b1]
  by_cases b2 : x.steps = 0
  case neg =>
    have HR : Hid (false = r) := by rw [← hr, beq_eq_false_iff_ne.2 b2]; rfl
    have b2' : (x.steps == 0) = false := beq_eq_false_iff_ne.2 b2
    clear hr b1
    go_enter Tryd.func37, Tryd.ntmps37
    go_wp2_with fail
    go_ret
    exact ⟨by rw [← HR.out]; rfl, below_one w _⟩
  rw [b2, show ((0 : Int) == 0) = true from rfl, Bool.true_and] at hr
  rw [b2]
  by_cases b3 : x.sets.length = 0
  case neg =>
    have e3 : x.sets.isEmpty = false := by cases h : x.sets <;> simp_all
    have HR : Hid (false = r) := by rw [← hr, e3]; rfl
    have b3' : ((x.sets.length : Int) == 0) = false := by rw [beq_eq_false_iff_ne]; omega
    have b3'' : ¬ (x.sets.length : Int) = 0 := by omega
    clear hr b1 b2
    go_enter Tryd.func37, Tryd.ntmps37
    go_wp2_with fail
    go_ret
    exact ⟨by rw [← HR.out]; rfl, below_one w _⟩
  have e3 : x.sets.isEmpty = true := by cases h : x.sets <;> simp_all
  rw [e3, Bool.true_and] at hr
  rw [b3]
  by_cases b4 : x.makes.length = 0
  case neg =>
    have e4 : x.makes.isEmpty = false := by cases h : x.makes <;> simp_all
    have HR : Hid (false = r) := by rw [← hr, e4]; exact rfl
    have b4' : ((x.makes.length : Int) == 0) = false := by rw [beq_eq_false_iff_ne]; omega
    have b4'' : ¬ (x.makes.length : Int) = 0 := by omega
    clear hr b1 b2 b3
    go_enter Tryd.func37, Tryd.ntmps37
    go_wp2_with fail
    go_ret
    refine ⟨?_, below_one w _⟩
    rw [← HR.out]
    show Ending.returned (.bool _) = _
    congr 2
  have e4 : x.makes.isEmpty = true := by cases h : x.makes <;> simp_all
  have HR : Hid (true = r) := by rw [← hr, e4]; exact rfl
  rw [b4]
  clear hr b1 b2 b3 b4
  go_enter Tryd.func37, Tryd.ntmps37
  go_wp2_with fail
  go_ret
  exact ⟨by rw [← HR.out]; rfl, below_one w _⟩
end Go.Proofs.YtmccomeihnaanaaDoor
