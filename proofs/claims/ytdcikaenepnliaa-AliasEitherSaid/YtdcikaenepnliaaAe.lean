/- AliasEither: the walk. -/
import Derived.Test.YtdcikaenepnliaaAl
namespace Go.Proofs.Ytdcikaenepnliaa
open Go.RowKit

set_option maxHeartbeats 2000000 in
set_option maxRecDepth 100000 in
theorem ae_walk (fn at_ loop p q : Int) (A : Option Addr) (cap : Nat) (v4 v5 v6 v7 v8 v9 v10 v11 v12 : Value) (xs : List TIns) (w : World) (h : SliceR w w.heap.size 8 InsR (.slice A xs.length cap) xs) :
    Calls Try.prog 5 #[.agg #[.int .i64 fn, .int .i64 at_, .int .i64 loop, .slice A xs.length cap, v4, v5, v6, v7, v8, v9, v10, v11, v12], .int .i64 p, .int .i64 q] w (Gives (.bool true) w) := by
  obtain ⟨W, hW⟩ : ∃ W, W = w.alloc (.cells #[.int .i64 fn, .int .i64 at_, .int .i64 loop, .slice A xs.length cap, v4, v5, v6, v7, v8, v9, v10, v11, v12] 42) := ⟨_, rfl⟩
  have hE : ∀ (E : Up W) (o : Nat), E.to.cell? ⟨w.heap.size, o, none⟩ = (#[.int .i64 fn, .int .i64 at_, .int .i64 loop, .slice A xs.length cap, v4, v5, v6, v7, v8, v9, v10, v11, v12] : Array Value)[o]? := fun E o => by
    rw [E.below.cell (p := ⟨w.heap.size, o, none⟩) (by rw [hW]; simp), hW, World.cell?_alloc_at _ _ _ _ rfl]
  have hb0 : Below w.heap.size w W := by rw [hW]; exact (Below.refl _ _).alloc (Nat.le_refl _) _
  have hA : ∀ (E : Up W) (p q : Int), Calls Try.prog 13 #[.agg #[.int .i64 fn, .int .i64 at_, .int .i64 loop, .slice A xs.length cap, v4, v5, v6, v7, v8, v9, v10, v11, v12], .int .i64 p, .int .i64 q] E.to (Gives (.bool (apartM xs loop p q)) E.to) := fun E p q =>
    apart_c fn at_ loop p q A cap v4 v5 v6 v7 v8 v9 v10 v11 v12 xs E.to ((h.below hb0).below E.below)
  have HA := Lib.hid hA
  have HB := Lib.hid hb0
  have hs := apartM_symm xs loop q p
  have ht := apartM_self xs loop p
  have HW := Lib.hid hW
  clear hA hb0 hW h
  go_enter Try.func5, Try.ntmps5
  go_wp2_with fail
  rw [← HW.out]
  refine wp_region_up (by kernel_rfl) (by kernel_rfl) ?_
  repeat (go_big_quiet_step ((first
    | (go_at_call 12; exact Calls.up (irred_c _))
    | (go_at_call 13; exact Calls.up (HA.out _ _ _)))))
  refine wpQuiet_nil ?_
  rintro _ ⟨E, rfl⟩
  have HE := Lib.hid E.below
  go_wp2_with fail
  go_ret
  exact ⟨rfl, HB.out.trans (HE.out.mono HB.out.size)⟩
end Go.Proofs.Ytdcikaenepnliaa
