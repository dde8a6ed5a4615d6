/- Package alias: Apart. -/
import Derived.Test.YtdcikaenepnliaaIrD
namespace Go.Proofs.Ytdcikaenepnliaa
open Go.RowKit

set_option maxHeartbeats 400000 in
theorem fresh_c (op : Int) (w : World) : Calls Try.prog 18 #[.int .i64 op] w fun e w' => e = .returned (.bool (freshM op)) ∧ w' = w := by
  unfold freshM
  by_cases h : op = 16
  · subst h
    go_enter Try.func18, Try.ntmps18
    go_wp2
    go_ret
    exact ⟨rfl, rfl⟩
  · have h1 : (op == 16) = false := by simpa using h
    clear h
    go_enter Try.func18, Try.ntmps18
    go_wp2
    go_ret
    exact ⟨by rw [h1]; rfl, rfl⟩
set_option maxHeartbeats 400000 in
theorem before_c (op : Int) (w : World) : Calls Try.prog 19 #[.int .i64 op] w fun e w' => e = .returned (.bool (beforeM op)) ∧ w' = w := by
  unfold beforeM
  by_cases h : op = 1
  · subst h
    go_enter Try.func19, Try.ntmps19
    go_wp2
    go_ret
    exact ⟨rfl, rfl⟩
  by_cases h' : op = 2
  · subst h'
    go_enter Try.func19, Try.ntmps19
    go_wp2
    go_ret
    exact ⟨rfl, rfl⟩
  · have h1 : (op == 1) = false := by simpa using h
    have h2 : (op == 2) = false := by simpa using h'
    clear h h'
    go_enter Try.func19, Try.ntmps19
    go_wp2
    go_ret
    exact ⟨by rw [h1, h2]; rfl, rfl⟩
def InsR (cs : List Value) (x : TIns) : Prop := cs = insCells x ∧ WfIns x

theorem ins_op {w : World} {B : Nat} {A : Option Addr} {n cap : Nat} {xs : List TIns} (h : SliceR w B 8 InsR (.slice A n cap) xs) {i : Nat} (hi : i < xs.length) :
    ∃ b off x, A = some ⟨b, off, none⟩ ∧ b < B ∧ xs[i]? = some x ∧ WfIns x ∧ CellsAt w b (off + i * 8) (insCells x) := by
  obtain ⟨b, off, x, cs, h1, h2, h3, _, ⟨rfl, h4⟩, h5⟩ := h.at_ hi
  exact ⟨b, off, x, h1, h2, h3, h4, h5⟩

theorem apartM_lt0 (xs : List TIns) (loop a b : Int) (h : a ≤ b) (h0 : a < 0) : apartM xs loop a b = false := by
  unfold apartM
  rw [Int.min_eq_left h, Int.max_eq_right h]
  simp [h0]
theorem apartM_ge (xs : List TIns) (loop a b : Int) (h : a ≤ b) (h0 : (xs.length : Int) ≤ b) : apartM xs loop a b = false := by
  unfold apartM
  rw [Int.min_eq_left h, Int.max_eq_right h]
  simp [h0]
theorem apartM_same (xs : List TIns) (loop a : Int) : apartM xs loop a a = false := apartM_self xs loop a
theorem apartM_eq (xs : List TIns) (loop : Int) (a b : Nat) (h2 : a < b) (h1 : b < xs.length) (x y : TIns) (hx : xs[a]? = some x) (hy : xs[b]? = some y) :
    apartM xs loop a b = (if !tellsM x.op || !tellsM y.op then false else if (a : Int) < loop && loop ≤ (b : Int) then freshM x.op && freshM y.op else freshM y.op || (freshM x.op && beforeM y.op)) := by
  unfold apartM
  rw [Int.min_eq_left (by omega), Int.max_eq_right (by omega)]
  simp only [Int.toNat_natCast, hx, hy, Option.map_some, Option.getD_some]
  rw [if_neg (by simp; omega)]

theorem Below.drewN_ {B : Nat} {a w : World} (h : Below B a w) (n : Nat) : Below B a (w.drewN n) := ⟨h.os, h.tape, h.output, h.size, h.block⟩
theorem gives_below {W w w' : World} {v : Value} (h : Below W.heap.size W w) (h' : Below w.heap.size w w') : Below W.heap.size W w' := h.trans (h'.mono h.size)

set_option maxHeartbeats 2000000 in
set_option maxRecDepth 100000 in
theorem apart_le (fn at_ loop a b p q : Int) (A : Option Addr) (cap : Nat) (v4 v5 v6 v7 v8 v9 v10 v11 v12 : Value) (xs : List TIns) (w : World) (h : SliceR w w.heap.size 8 InsR (.slice A xs.length cap) xs) (hab : a ≤ b)
    (hpq : (p = a ∧ q = b) ∨ (p = b ∧ q = a ∧ a < b)) :
    Calls Try.prog 13 #[.agg #[.int .i64 fn, .int .i64 at_, .int .i64 loop, .slice A xs.length cap, v4, v5, v6, v7, v8, v9, v10, v11, v12], .int .i64 p, .int .i64 q] w (Gives (.bool (apartM xs loop a b)) w) := by
  have HS := Lib.hid h
  clear h
  by_cases h0 : a < 0
  · have HE := Lib.hid (apartM_lt0 xs loop a b hab h0)
    rcases hpq with ⟨rfl, rfl⟩ | ⟨rfl, rfl, hlt⟩
    all_goals
      go_enter Try.func13, Try.ntmps13
      go_wp2_with fail
    all_goals
      go_ret
      exact ⟨by rw [HE.out]; rfl, (Below.refl _ _).alloc (Nat.le_refl _) _⟩
  by_cases h1 : (xs.length : Int) ≤ b
  · have HE := Lib.hid (apartM_ge xs loop a b hab h1)
    rcases hpq with ⟨rfl, rfl⟩ | ⟨rfl, rfl, hlt⟩
    all_goals
      go_enter Try.func13, Try.ntmps13
      go_wp2_with fail
    all_goals
      go_ret
      exact ⟨by rw [HE.out]; rfl, (Below.refl _ _).alloc (Nat.le_refl _) _⟩
  by_cases h2 : a = b
  · subst h2
    have HE := Lib.hid (apartM_same xs loop a)
    obtain ⟨rfl, rfl⟩ : p = a ∧ q = a := by omega
    clear hpq
    go_enter Try.func13, Try.ntmps13
    go_wp2_with fail
    all_goals
      go_ret
      exact ⟨by rw [HE.out]; rfl, (Below.refl _ _).alloc (Nat.le_refl _) _⟩
  · obtain ⟨an, rfl⟩ : ∃ n : Nat, a = n := ⟨a.toNat, by omega⟩
    obtain ⟨bn, rfl⟩ : ∃ n : Nat, b = n := ⟨b.toNat, by omega⟩
    have hlt : an < bn := by omega
    have hbn : bn < xs.length := by omega
    have hab1 : (an : Int) < bn := by omega
    have hbn1 : (bn : Int) < xs.length := by omega
    have han1 : (an : Int) < xs.length := by omega
    have hne : ((an : Int) == (bn : Int)) = false := by simp; omega
    have hne2 : ((bn : Int) == (an : Int)) = false := by simp; omega
    obtain ⟨blk, off, x, rfl, hb, hx, _, hcx⟩ := ins_op HS.out (i := an) (by omega)
    obtain ⟨blk', off', y, hA, hb', hy, _, hcy⟩ := ins_op HS.out (i := bn) (by omega)
    injection hA with hA
    injection hA with hA1 hA2
    subst hA1; subst hA2
    have HE := Lib.hid (apartM_eq xs loop an bn hlt hbn x y hx hy)
    have FX : ∀ w', Below (w.heap.size + 1) (w.alloc (.cells #[.int .i64 fn, .int .i64 at_, .int .i64 loop, .slice (some ⟨blk, off, none⟩) xs.length cap, v4, v5, v6, v7, v8, v9, v10, v11, v12] 42)) w' →
        w'.cell? ⟨w.heap.size, 2, none⟩ = some (.int .i64 loop) ∧ w'.cell? ⟨w.heap.size, 3, none⟩ = some (.slice (some ⟨blk, off, none⟩) xs.length cap) ∧
        w'.cell? ⟨blk, off + an * 8, none⟩ = some (.int .i64 x.op) ∧ w'.cell? ⟨blk, off + bn * 8, none⟩ = some (.int .i64 y.op) ∧ w.heap.size < w'.heap.size := fun w' hw => by
      refine ⟨(hw.cell (p := ⟨w.heap.size, 2, none⟩) (by simp)).trans (World.cell?_alloc_at _ _ _ _ rfl), (hw.cell (p := ⟨w.heap.size, 3, none⟩) (by simp)).trans (World.cell?_alloc_at _ _ _ _ rfl),
        (hw.cell (p := ⟨blk, off + an * 8, none⟩) (by simp; omega)).trans ((World.cell?_alloc_lt _ _ _ hb).trans (by simpa using hcx 0 _ rfl)),
        (hw.cell (p := ⟨blk, off + bn * 8, none⟩) (by simp; omega)).trans ((World.cell?_alloc_lt _ _ _ hb).trans (by simpa using hcy 0 _ rfl)), ?_⟩
      have := hw.size; simp at this; omega
    have FX' := Lib.hid FX
    have c3 : w.cell? ⟨blk, off + an * 8, none⟩ = some (.int .i64 x.op) := by simpa using hcx 0 _ rfl
    have c4 : w.cell? ⟨blk, off + bn * 8, none⟩ = some (.int .i64 y.op) := by simpa using hcy 0 _ rfl
    have TX := Lib.hid (fun w' => tells_c x.op w')
    have TY := Lib.hid (fun w' => tells_c y.op w')
    clear FX hx hy hcx hcy hb' h2 h0 h1
    have B0 := Lib.hid ((Below.refl w.heap.size w).alloc (Nat.le_refl _) (.cells #[.int .i64 fn, .int .i64 at_, .int .i64 loop, .slice (some ⟨blk, off, none⟩) xs.length cap, v4, v5, v6, v7, v8, v9, v10, v11, v12] 42))
    have S0 : (w.alloc (.cells #[.int .i64 fn, .int .i64 at_, .int .i64 loop, .slice (some ⟨blk, off, none⟩) xs.length cap, v4, v5, v6, v7, v8, v9, v10, v11, v12] 42)).heap.size = w.heap.size + 1 := by simp
    have S0' := Lib.hid S0
    clear S0
    rcases hpq with ⟨rfl, rfl⟩ | ⟨rfl, rfl, _⟩
    all_goals
      by_cases tx : tellsM x.op = true
      · go_enter Try.func13, Try.ntmps13
        go_wp2_with fail
        refine (TX.out _).mono ?_
        rw [tx]
        rintro e w2 ⟨rfl, b2⟩
        have b2' := b2.mono (Nat.le_of_eq S0'.out.symm)
        have B2 := Lib.hid (B0.out.trans (b2.mono (by rw [S0'.out]; omega)))
        obtain ⟨d1, d2, d3, d4, d5⟩ := FX'.out w2 b2'
        have M2 := Lib.hid b2'
        clear b2 b2'
        by_cases ty : tellsM y.op = true
        · go_wp2_with fail
          refine (TY.out _).mono ?_
          rw [ty]
          rintro e w3 ⟨rfl, b3⟩
          have M3 := Lib.hid (M2.out.trans (b3.mono d5))
          have B3 := Lib.hid (B2.out.trans (b3.mono (Nat.le_of_lt d5)))
          clear b3 d1 d2 d3 d4
          obtain ⟨d1, d2, d3, d4, d6⟩ := FX'.out w3 M3.out
          go_wp2_with fail
          go_quiet (fail)
          have HF := Lib.hid (Below.drewN_ B3.out nq)
          by_cases hs : (an : Int) < loop ∧ loop ≤ (bn : Int)
          · obtain ⟨hs1, hs2⟩ := hs
            cases fx : freshM x.op
            · go_wp2_with (go_at_call 18; refine (fresh_c _ _).mono ?_; rintro e w' ⟨rfl, rfl⟩)
              go_ret
              exact ⟨by rw [HE.out, tx, ty]; simp [hs1, hs2, fx], HF.out⟩
            · cases fy : freshM y.op
              all_goals
                go_wp2_with (go_at_call 18; refine (fresh_c _ _).mono ?_; rintro e w' ⟨rfl, rfl⟩)
                go_ret
                exact ⟨by rw [HE.out, tx, ty]; simp [hs1, hs2, fx, fy], HF.out⟩
          · have hs' : (decide ((an : Int) < loop) && decide (loop ≤ (bn : Int))) = false := by
              simp only [Bool.and_eq_false_iff, decide_eq_false_iff_not]
              by_cases hc : (an : Int) < loop
              · exact .inr (fun h => hs ⟨hc, h⟩)
              · exact .inl hc
            have HS' := Lib.hid hs'
            clear hs'
            by_cases hc : (an : Int) < loop
            · have hd : ¬ loop ≤ (bn : Int) := fun h => hs ⟨hc, h⟩
              clear hs
              cases fy : freshM y.op
              · cases fx : freshM x.op
                · go_wp2_with (first | (go_at_call 18; refine (fresh_c _ _).mono ?_; rintro e w' ⟨rfl, rfl⟩) | (go_at_call 19; refine (before_c _ _).mono ?_; rintro e w' ⟨rfl, rfl⟩))
                  go_ret
                  exact ⟨by rw [HE.out, tx, ty]; simp [HS'.out, fx, fy], HF.out⟩
                · cases by_ : beforeM y.op
                  all_goals
                    go_wp2_with (first | (go_at_call 18; refine (fresh_c _ _).mono ?_; rintro e w' ⟨rfl, rfl⟩) | (go_at_call 19; refine (before_c _ _).mono ?_; rintro e w' ⟨rfl, rfl⟩))
                    go_ret
                    exact ⟨by rw [HE.out, tx, ty]; simp [HS'.out, fx, fy, by_], HF.out⟩
              · go_wp2_with (go_at_call 18; refine (fresh_c _ _).mono ?_; rintro e w' ⟨rfl, rfl⟩)
                go_ret
                exact ⟨by rw [HE.out, tx, ty]; simp [HS'.out, fy], HF.out⟩
            · clear hs
              cases fy : freshM y.op
              · cases fx : freshM x.op
                · go_wp2_with (first | (go_at_call 18; refine (fresh_c _ _).mono ?_; rintro e w' ⟨rfl, rfl⟩) | (go_at_call 19; refine (before_c _ _).mono ?_; rintro e w' ⟨rfl, rfl⟩))
                  go_ret
                  exact ⟨by rw [HE.out, tx, ty]; simp [HS'.out, fx, fy], HF.out⟩
                · cases by_ : beforeM y.op
                  all_goals
                    go_wp2_with (first | (go_at_call 18; refine (fresh_c _ _).mono ?_; rintro e w' ⟨rfl, rfl⟩) | (go_at_call 19; refine (before_c _ _).mono ?_; rintro e w' ⟨rfl, rfl⟩))
                    go_ret
                    exact ⟨by rw [HE.out, tx, ty]; simp [HS'.out, fx, fy, by_], HF.out⟩
              · go_wp2_with (go_at_call 18; refine (fresh_c _ _).mono ?_; rintro e w' ⟨rfl, rfl⟩)
                go_ret
                exact ⟨by rw [HE.out, tx, ty]; simp [HS'.out, fy], HF.out⟩
        · have ty' : tellsM y.op = false := by simpa using ty
          go_wp2_with fail
          refine (TY.out _).mono ?_
          rw [ty']
          rintro e w3 ⟨rfl, b3⟩
          have B3 := Lib.hid (B2.out.trans (b3.mono (Nat.le_of_lt d5)))
          clear b3
          go_wp2_with fail
          go_ret
          exact ⟨by rw [HE.out, tx, ty']; rfl, B3.out⟩
      · have tx' : tellsM x.op = false := by simpa using tx
        go_enter Try.func13, Try.ntmps13
        go_wp2_with fail
        refine (TX.out _).mono ?_
        rw [tx']
        rintro e w2 ⟨rfl, b2⟩
        have B2 := Lib.hid (B0.out.trans (b2.mono (by rw [S0'.out]; omega)))
        clear b2
        go_wp2_with fail
        go_ret
        exact ⟨by rw [HE.out, tx']; rfl, B2.out⟩

theorem apart_c (fn at_ loop p q : Int) (A : Option Addr) (cap : Nat) (v4 v5 v6 v7 v8 v9 v10 v11 v12 : Value) (xs : List TIns) (w : World) (h : SliceR w w.heap.size 8 InsR (.slice A xs.length cap) xs) :
    Calls Try.prog 13 #[.agg #[.int .i64 fn, .int .i64 at_, .int .i64 loop, .slice A xs.length cap, v4, v5, v6, v7, v8, v9, v10, v11, v12], .int .i64 p, .int .i64 q] w (Gives (.bool (apartM xs loop p q)) w) := by
  by_cases hpq : p ≤ q
  · exact apart_le fn at_ loop p q p q A cap v4 v5 v6 v7 v8 v9 v10 v11 v12 xs w h hpq (.inl ⟨rfl, rfl⟩)
  · rw [apartM_symm]
    exact apart_le fn at_ loop q p p q A cap v4 v5 v6 v7 v8 v9 v10 v11 v12 xs w h (by omega) (.inr ⟨rfl, rfl, by omega⟩)
end Go.Proofs.Ytdcikaenepnliaa
