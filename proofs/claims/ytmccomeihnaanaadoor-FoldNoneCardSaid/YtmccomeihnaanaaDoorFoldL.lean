/- fold.Do: the walk. -/
import Derived.Test.YtmccomeihnaanaaDoorFoldK
import Derived.Test.YtmccomeihnaanaaDoorChkG
import Derived.Test.YtmccomeihnaanaaDoorNone
namespace Go.Proofs.YtmccomeihnaanaaDoor
open Go.RowKit Go.Maps

def ceF (p : CProg) (t : TTrace) : Int := checkM rightV (codeCheckM p) (p.fns.map fnOf) t
def FoldDone (p : CProg) (t : TTrace) (w : World) (e : Ending) (w' : World) : Prop :=
  ∃ cs, e = .returned (.tuple #[.agg ⟨cs⟩, .int .i64 (foldM (foldE t.ins) (ceF p t) t).2]) ∧ TraceR w' w'.heap.size cs (foldM (foldE t.ins) (ceF p t) t).1 ∧ Below w.heap.size w w'
theorem foldX_wf {E : FoldE} {l : List TIns} {j : Nat} {s : FoldS} (h : FoldI E l j s) {x : TIns} (hx : WfIns x) (hj : j ≤ 300) : WfIns (foldX s x) := by
  obtain ⟨h0, ha, hb, hc, h4⟩ := hx
  have b : ∀ v : Int, wfi (s.tl.getD v.toNat 0) := fun v => by
    rw [List.getD_eq_getElem?_getD]
    cases e : s.tl[v.toNat]? with
    | none => unfold wfi; simp
    | some u =>
      have hl := (List.getElem?_eq_some_iff.1 e).1
      have := h.len
      rcases h.idem _ _ e with ⟨c, _⟩ | ⟨c, d, _⟩
      · subst c; unfold wfi; simp
      · unfold wfi; simp only [Option.getD_some]; omega
  refine ⟨h0, ?_, ?_, ?_, h4⟩
  · unfold foldX putM; dsimp only; split
    · exact b _
    · exact ha
  · unfold foldX putM; dsimp only; split
    · exact b _
    · exact hb
  · unfold foldX putM; dsimp only; split
    · exact b _
    · exact hc
theorem flat_size : ∀ (xs : List TIns), (xs.flatMap insCells).length = xs.length * 8
  | [] => rfl
  | x :: l => by rw [List.flatMap_cons, List.length_append, flat_size l, List.length_cons]; simp [insCells]; omega
theorem ins_news {w : World} {ad : Addr} {c : Nat} {xs : List TIns} (h : SliceR w w.heap.size 8 InsR (.slice (some ad) xs.length c) xs) : ∀ j u, (xs.flatMap insCells)[j]? = some u → w.cell? (ad.add j) = some u := by
  intro j u hj
  have hl : j < (xs.flatMap insCells).length := (List.getElem?_eq_some_iff.1 hj).1
  rw [flat_size] at hl
  obtain ⟨b, off, x, cs, e, hb, hx, -, ⟨rfl, _⟩, hat⟩ := h.at_ (i := j / 8) (by omega)
  injection e with e
  subst e
  have h1 := flat_ins xs (j / 8) (j % 8) x hx (by omega)
  rw [show j / 8 * 8 + j % 8 = j by omega, hj] at h1
  have h2 := hat (j % 8) u h1.symm
  rw [show off + j / 8 * 8 + j % 8 = off + j by omega] at h2
  by_cases hj0 : j = 0
  · subst hj0; simpa [Addr.add] using h2
  · simpa [Addr.add, hj0] using h2
set_option maxHeartbeats 4000000 in
set_option maxRecDepth 100000 in
theorem foldDo_c (pcs ca : List Value) (p : CProg) (t : TTrace) (w : World) (hp : ProgR w w.heap.size pcs p) (ht : TraceR w w.heap.size ca t) (tab : Tab w) :
    Calls Tryd.prog 31 #[.agg ⟨pcs⟩, .agg ⟨ca⟩] w (FoldDone p t w) := by
  have HT := Lib.hid ht
  have HIp := Lib.hid hp.size3
  have HIt := Lib.hid ht.size13
  obtain ⟨Ai, ni, p3, qi⟩ := ht.at3
  have QI := Lib.hid qi
  have P3 := Lib.hid p3
  obtain ⟨aA1, an1, aA2, an2, aA3, an3, aA4, an4, aA5, an5, aA6, an6, hca, -⟩ := ht.cells
  have HCA := Lib.hid hca
  have e3 : (.slice aA1 t.ins.length an1 : Value) = .slice Ai t.ins.length ni := by
    have := p3; rw [hca] at this; simpa using this
  injection e3 with e3 _ e4
  subst e3 e4
  obtain ⟨w0, hw0⟩ : ∃ w0, w0 = ((w.alloc (.cells ⟨pcs⟩ 26)).alloc (.cells ⟨ca⟩ 34)).alloc (.cells ⟨zeroTrace⟩ 34) := ⟨_, rfl⟩
  have K0 : Hid (Below w.heap.size w w0) := by rw [hw0]; exact (below_two' w _ _).alloc (by simp; omega) _
  have D0 : Hid (w0.heap[w.heap.size]? = some (.cells ⟨pcs⟩ 26 (0, 0))) := by rw [hw0]; exact heap_old (heap_old (heap_last w _) _) _
  have D1 : Hid (w0.heap[w.heap.size + 1]? = some (.cells ⟨ca⟩ 34 (0, 0))) := by rw [hw0]; exact heap_old (heap_two _ _ _) _
  have D2 : Hid (w0.heap[w.heap.size + 1 + 1]? = some (.cells ⟨zeroTrace⟩ 34 (0, 0))) := by rw [hw0]; exact heap_three _ _ _ _
  have hz0 : w.heap.size + 1 + 1 < w0.heap.size := (Array.getElem?_eq_some_iff.1 D2.out).1
  have R1 : Hid (w0.rangeAt w.heap.size 0 pcs) := (HeadAt.of_row D0.out).range
  have R2 : Hid (w0.rangeAt (w.heap.size + 1) 0 ca) := (HeadAt.of_row D1.out).range
  unfold zeroTrace at hw0
  have HW := Lib.hid hw0
  unfold FoldDone
  obtain ⟨ce, hce⟩ : ∃ ce, ceF p t = ce := ⟨_, rfl⟩
  have CE := Lib.hid (check_c pcs ca p t w0 (hp.below K0.out) (ht.below K0.out) (tab.below K0.out))
  unfold ceF at hce
  rw [hce] at CE
  have HCE := Lib.hid hce
  rw [show ceF p t = ce from hce]
  obtain ⟨E, hE⟩ : ∃ E, foldE t.ins = E := ⟨_, rfl⟩
  rw [hE]
  have HE := Lib.hid hE
  clear hp ht hw0 qi hce p3 tab hca hE
  go_enter Tryd.func31, Tryd.ntmps31
  go_wp2_with (first | (refine wpList_load_mid rfl 26 _ rfl w.heap.size 0 rfl pcs _ (by rw [← HW.out]; exact R1.out) Tryd.underlying26 rfl HIp.out ?_) | (refine wpList_load_mid rfl 34 _ rfl (w.heap.size + 1) 0 rfl ca _ (by rw [← HW.out]; exact R2.out) Tryd.underlying34 rfl HIt.out ?_) | fail)
  rw [← HW.out]
  refine CE.out.mono ?_
  rintro e w1 ⟨rfl, k1⟩
  have K1 := Lib.hid (K0.out.trans (k1.mono K0.out.size))
  have E1 := Lib.hid ((k1.block _ (by omega)).trans D1.out)
  have E2 := Lib.hid ((k1.block _ (by omega)).trans D2.out)
  have hz1 : w.heap.size + 1 + 1 < w1.heap.size := (Array.getElem?_eq_some_iff.1 E2.out).1
  clear k1 R1 R2 CE D0 D1 D2 HW
  by_cases hc : ce = 0
  case neg =>
    have hc' : (ce != 0) = true := by simpa using hc
    have HN : Hid (foldM E ce t = (trace0, ce)) := by unfold foldM Hid; rw [if_pos hc]
    go_wp2_with (refine wpList_store_row rfl 34 _ _ rfl (w.heap.size + 1 + 1) #[.int .i64 0, .int .i64 0, .int .i64 0, .slice none 0 0, .slice none 0 0, .int .i64 0, .int .i64 0, .slice none 0 0, .slice none 0 0, .int .i64 0, .int .i64 0, .slice none 0 0, .slice none 0 0] rfl rfl 34 _ E2.out infoTr13 rfl (all_oneCell_toArray (by simp [Value.oneCell'])) ?_)
    generalize hw9 : World.setRow _ _ _ = w9
    have QR : Hid (w9.heap[w.heap.size + 1 + 1]? = some (.cells #[.int .i64 0, .int .i64 0, .int .i64 0, .slice none 0 0, .slice none 0 0, .int .i64 0, .int .i64 0, .slice none 0 0, .slice none 0 0, .int .i64 0, .int .i64 0, .slice none 0 0, .slice none 0 0] 34 (0, 0))) := by rw [← hw9]; exact setRow_heap _ _ _ _ _ _ E2.out
    have K9 : Hid (Below w.heap.size w w9) := by rw [← hw9]; exact Below.set_row K1.out (by omega) _
    clear hw9
    go_wp2_with fail
    have r0 := cell_of_row w9 (w.heap.size + 1 + 1) 0 _ _ _ QR.out
    have r1 := cell_of_row w9 (w.heap.size + 1 + 1) 1 _ _ _ QR.out
    have r2 := cell_of_row w9 (w.heap.size + 1 + 1) 2 _ _ _ QR.out
    have r3 := cell_of_row w9 (w.heap.size + 1 + 1) 3 _ _ _ QR.out
    have r4 := cell_of_row w9 (w.heap.size + 1 + 1) 4 _ _ _ QR.out
    have r5 := cell_of_row w9 (w.heap.size + 1 + 1) 5 _ _ _ QR.out
    have r6 := cell_of_row w9 (w.heap.size + 1 + 1) 6 _ _ _ QR.out
    have r7 := cell_of_row w9 (w.heap.size + 1 + 1) 7 _ _ _ QR.out
    have r8 := cell_of_row w9 (w.heap.size + 1 + 1) 8 _ _ _ QR.out
    have r9 := cell_of_row w9 (w.heap.size + 1 + 1) 9 _ _ _ QR.out
    have r10 := cell_of_row w9 (w.heap.size + 1 + 1) 10 _ _ _ QR.out
    have r11 := cell_of_row w9 (w.heap.size + 1 + 1) 11 _ _ _ QR.out
    have r12 := cell_of_row w9 (w.heap.size + 1 + 1) 12 _ _ _ QR.out
    rw [HN.out]
    refine bodyPost_ret (v := .tuple #[.agg ⟨zeroTrace⟩, .int .i64 ce]) (by simp [results, Tryd.results31, go_sem, zeroTrace, r0, r1, r2, r3, r4, r5, r6, r7, r8, r9, r10, r11, r12]) rfl ⟨_, rfl, zeroTrace_R _ _, K9.out⟩
  subst hc
  have SM := Lib.hid (check_small HCE.out)
  have AK := Lib.hid (check_asks HCE.out)
  have hlen := SM.out.ins
  have HM : Hid (foldM E 0 t = cutM (foldT E t) (foldRun E t.ins ⟨[], []⟩).tl) := by unfold foldM Hid; rw [if_neg (by simp)]
  have WI : Hid (∀ x ∈ t.ins, WfIns x) := fun x hx => by
    obtain ⟨_, h⟩ := QI.out.mem hx
    exact h.2
  have hmi : (t.ins.length : Int) ≤ 300 := by omega
  have RT : Hid (w1.rangeAt (w.heap.size + 1) 0 [.int .i64 t.fn, .int .i64 t.at_, .int .i64 t.loop, .slice aA1 t.ins.length an1, .slice aA2 t.exits.length an2, .int .i64 t.turn.at_, .int .i64 t.turn.steps, .slice aA3 t.turn.sets.length an3, .slice aA4 t.turn.makes.length an4, .int .i64 t.back.at_, .int .i64 t.back.steps, .slice aA5 t.back.sets.length an5, .slice aA6 t.back.makes.length an6]) := by
    have := (HeadAt.of_row E1.out).range
    rwa [HCA.out] at this
  obtain ⟨w2, hw2⟩ : ∃ w2, w2 = w1.alloc (.cells #[.int .i64 t.fn, .int .i64 t.at_, .int .i64 t.loop, .slice aA1 t.ins.length an1, .slice aA2 t.exits.length an2, .int .i64 t.turn.at_, .int .i64 t.turn.steps, .slice aA3 t.turn.sets.length an3, .slice aA4 t.turn.makes.length an4, .int .i64 t.back.at_, .int .i64 t.back.steps, .slice aA5 t.back.sets.length an5, .slice aA6 t.back.makes.length an6, .int .i64 t.fn, .int .i64 t.at_, .int .i64 t.loop, .slice aA1 t.ins.length an1, .slice aA2 t.exits.length an2, .int .i64 t.turn.at_, .int .i64 t.turn.steps, .slice aA3 t.turn.sets.length an3, .slice aA4 t.turn.makes.length an4, .int .i64 t.back.at_, .int .i64 t.back.steps, .slice aA5 t.back.sets.length an5, .slice aA6 t.back.makes.length an6, .slice none 0 0] 119) := ⟨_, rfl⟩
  obtain ⟨fb, hfb⟩ : ∃ b, b = w1.heap.size := ⟨_, rfl⟩
  have L2 : Hid (Below fb w1 w2) := by rw [hw2, hfb]; exact below_one _ _
  have K2 : Hid (Below w.heap.size w w2) := K1.out.trans (L2.out.mono (by have := K1.out.size; omega))
  have F2 : Hid (w2.heap[fb]? = some (.cells #[.int .i64 t.fn, .int .i64 t.at_, .int .i64 t.loop, .slice aA1 t.ins.length an1, .slice aA2 t.exits.length an2, .int .i64 t.turn.at_, .int .i64 t.turn.steps, .slice aA3 t.turn.sets.length an3, .slice aA4 t.turn.makes.length an4, .int .i64 t.back.at_, .int .i64 t.back.steps, .slice aA5 t.back.sets.length an5, .slice aA6 t.back.makes.length an6, .int .i64 t.fn, .int .i64 t.at_, .int .i64 t.loop, .slice aA1 t.ins.length an1, .slice aA2 t.exits.length an2, .int .i64 t.turn.at_, .int .i64 t.turn.steps, .slice aA3 t.turn.sets.length an3, .slice aA4 t.turn.makes.length an4, .int .i64 t.back.at_, .int .i64 t.back.steps, .slice aA5 t.back.sets.length an5, .slice aA6 t.back.makes.length an6, .slice none 0 0] 119 (0, 0))) := by rw [hw2, hfb]; exact heap_last _ _
  have hz2 : fb < w2.heap.size := (Array.getElem?_eq_some_iff.1 F2.out).1
  have hwf : w.heap.size + 1 + 1 < fb := by omega
  have T2 := Lib.hid ((L2.out.block _ (by omega)).trans E1.out)
  have Z2 := Lib.hid ((L2.out.block _ (by omega)).trans E2.out)
  have HW2 := Lib.hid hw2
  clear hw2
  have HFB := Lib.hid hfb
  go_upto_region 5 with (first | (refine wpList_load_mid rfl 34 _ rfl (w.heap.size + 1) 0 rfl [.int .i64 t.fn, .int .i64 t.at_, .int .i64 t.loop, .slice aA1 t.ins.length an1, .slice aA2 t.exits.length an2, .int .i64 t.turn.at_, .int .i64 t.turn.steps, .slice aA3 t.turn.sets.length an3, .slice aA4 t.turn.makes.length an4, .int .i64 t.back.at_, .int .i64 t.back.steps, .slice aA5 t.back.sets.length an5, .slice aA6 t.back.makes.length an6] _ RT.out Tryd.underlying34 rfl infoTr13 ?_) | fail)
  rw [← hfb]
  rw [← HW2.out]
  clear hfb HW2 RT E1 E2 L2 K1
  have l3 : w2.cell? ⟨w.heap.size + 1, 3, none⟩ = some (.slice aA1 t.ins.length an1) := by rw [cell_of_row w2 _ 3 _ _ _ T2.out]; simpa using P3.out
  have START : ∀ (wx : World) (uI : Value), wx.heap[fb]? = some (.cells #[.int .i64 t.fn, .int .i64 t.at_, .int .i64 t.loop, .slice aA1 t.ins.length an1, .slice aA2 t.exits.length an2, .int .i64 t.turn.at_, .int .i64 t.turn.steps, .slice aA3 t.turn.sets.length an3, .slice aA4 t.turn.makes.length an4, .int .i64 t.back.at_, .int .i64 t.back.steps, .slice aA5 t.back.sets.length an5, .slice aA6 t.back.makes.length an6, .int .i64 t.fn, .int .i64 t.at_, .int .i64 t.loop, uI, .slice aA2 t.exits.length an2, .int .i64 t.turn.at_, .int .i64 t.turn.steps, .slice aA3 t.turn.sets.length an3, .slice aA4 t.turn.makes.length an4, .int .i64 t.back.at_, .int .i64 t.back.steps, .slice aA5 t.back.sets.length an5, .slice aA6 t.back.makes.length an6, .slice none 0 0] 119 (0, 0)) → Below fb w2 wx → wx.ownsRow (fb + 1) 43 8 uI t.ins.length (t.ins.flatMap insCells) → Hid (FoldR wx w.heap.size fb ca t uI (.slice none 0 0) t.ins []) := fun wx uI hrow hk hown =>
    ⟨HT.out.keep (Nat.le_refl _) (fun pp hp' => (K2.out.trans (hk.mono (by omega))).cell hp'), by omega, by rw [HCA.out]; exact hrow, hown, World.ownsRow_nil _ _ _ _, WI.out, fun v hv => (by simp at hv), hlen, by simp⟩
  have ST0 := Lib.hid START
  clear START
  go_cut [] (fun wx => ∃ uI, Hid (FoldR wx w.heap.size fb ca t uI (.slice none 0 0) t.ins []) ∧ Hid (Below fb w2 wx))
  case first =>
    have c16 := cell_of_row w2 fb 16 _ _ _ F2.out
    have f16 := frozen_of_row w2 fb 16 _ _ F2.out
    have TRW : Hid (TraceR w w.heap.size ca t) := HT.out
    obtain ⟨i0, hi0, hy0, hy1, hy2⟩ := info_parts infoInsG
    cases aA1 with
    | none =>
      have e0 : t.ins = [] := by
        rcases Nat.eq_zero_or_pos t.ins.length with h | h
        · exact List.length_eq_zero_iff.1 h
        · obtain ⟨b, off, x, cs, h, _⟩ := QI.out.at_ (i := 0) h; cases h
      have happ : ∀ W, (Builtin.append_ #[27, 27] 27 #[.slice none 0 0, .slice none 0 an1]).run Tryd.prog W = .ok (.slice none 0 0) W := fun W => append_nil_nil _ _ _ _ Tryd.underlying27 hi0 _ W
      have hl0 : t.ins.length = 0 := by rw [e0]; rfl
      have l3' : w2.cell? ⟨w.heap.size + 1, 3, none⟩ = some (.slice none 0 an1) := by rw [l3, hl0]
      have E0 := Lib.hid e0
      clear l3 e0
      go_wp2_with fail
      go_meet
      exact ⟨.slice none 0 0, ST0.out (w2.setCell ⟨fb, 16, none⟩ (.slice none 0 0)) _ (by rw [heap_setCell_same w2 fb 16 _ _ _ F2.out]; rfl) (Below.set_at (Below.refl _ _) (Nat.le_refl _) _ _) (by rw [E0.out]; exact World.ownsRow_nil _ _ _ _), Below.set_at (Below.refl _ _) (Nat.le_refl _) _ _⟩
    | some ad =>
      go_wp2_with (at_builtin; refine wpList_append_own _ rfl _ _ 27 rfl (fb + 1) 43 i0 (.agg #[.int .i64 0, .int .i64 0, .int .i64 0, .int .i64 0, .int .i64 0, .int .i64 0, .int .i64 0, .int .i64 0]) 8 64 Tryd.underlying27 hi0 hy0 hy1 hy2 rfl (by decide) (.slice none 0 0) 0 [] rfl (World.ownsRow_nil _ _ _ _) ad t.ins.length an1 (t.ins.flatMap insCells) rfl (flat_size _) (fun j u hj => cell_on K2.out (ins_news QI.out j u hj)) ?k3 ?k4 ?k5 ?k6 ?_)
      case k3 =>
        intro u hu
        obtain ⟨x, hx, hu⟩ := List.mem_flatMap.1 hu
        exact ins_ones x u hu
      case k4 => unfold maxLen; omega
      case k5 => omega
      case k6 => omega
      intro v' w6 hown hg _
      have F6 : Hid (w6.heap[fb]? = some (.cells #[.int .i64 t.fn, .int .i64 t.at_, .int .i64 t.loop, .slice (some ad) t.ins.length an1, .slice aA2 t.exits.length an2, .int .i64 t.turn.at_, .int .i64 t.turn.steps, .slice aA3 t.turn.sets.length an3, .slice aA4 t.turn.makes.length an4, .int .i64 t.back.at_, .int .i64 t.back.steps, .slice aA5 t.back.sets.length an5, .slice aA6 t.back.makes.length an6, .int .i64 t.fn, .int .i64 t.at_, .int .i64 t.loop, .slice (some ad) t.ins.length an1, .slice aA2 t.exits.length an2, .int .i64 t.turn.at_, .int .i64 t.turn.steps, .slice aA3 t.turn.sets.length an3, .slice aA4 t.turn.makes.length an4, .int .i64 t.back.at_, .int .i64 t.back.steps, .slice aA5 t.back.sets.length an5, .slice aA6 t.back.makes.length an6, .slice none 0 0] 119 (0, 0))) := (hg.block fb hz2 (by simp [Value.ownBlock])).trans F2.out
      have B6 : Hid (Below fb w2 w6) := ⟨hg.os, hg.tape, hg.output, hg.size, fun k hk => hg.block k (by omega) (by simp [Value.ownBlock])⟩
      have O6 := Lib.hid hown
      obtain ⟨A', n', c', rfl⟩ := own_is_slice hown
      have g16 := cell_of_row w6 fb 16 _ _ _ F6.out
      have h16 := frozen_of_row w6 fb 16 _ _ F6.out
      clear hown hg c16 f16 l3
      go_wp2_with fail
      go_meet
      refine ⟨.slice A' n' c', ST0.out (w6.setCell ⟨fb, 16, none⟩ (.slice A' n' c')) _ (by rw [heap_setCell_same w6 fb 16 _ _ _ F6.out]; rfl) (Below.set_at B6.out (Nat.le_refl _) _ _) ?_, Below.set_at B6.out (Nat.le_refl _) _ _⟩
      have h9 := own_far O6.out F6.out (by decide) 16 (.slice A' n' c')
      exact h9
  case rest =>
    obtain ⟨w3, hw3⟩ : ∃ w3, w3 = wc := ⟨_, rfl⟩
    subst hw3
    obtain ⟨uI, F3, K3⟩ := hcut
    clear l3 ST0
    obtain ⟨A3, n3, e3'⟩ := own_len F3.out.ins
    have l16 : w3.cell? ⟨fb, 16, none⟩ = some (.slice A3 t.ins.length n3) := by rw [← e3']; exact F3.out.cellI
    obtain ⟨q0, hq0, hq1, hq2, hq3⟩ := info_parts infoInt
    have HE3 := Lib.hid e3'
    clear e3'
    go_wp2_with fail
    clear l16
    have HS0 : Hid (foldRun E (t.ins.take 0) ⟨[], []⟩ = ⟨[], []⟩) := by rw [List.take_zero]; rfl
    go_loopw [33] (fun i wr => ∃ (j : Nat) (uI uT : Value), i = .int .i64 j ∧ j ≤ t.ins.length ∧ Hid (FoldR wr w.heap.size fb ca t uI uT ((foldRun E (t.ins.take j) ⟨[], []⟩).ins ++ t.ins.drop j) (foldRun E (t.ins.take j) ⟨[], []⟩).tl) ∧ Hid (Below fb w2 wr)) (fun i _ => t.ins.length - (RowKit.intOf i).toNat)
    case atStart => exact ⟨0, _, _, rfl, by omega, by rw [HS0.out]; exact F3.out, K3.out⟩
    case round =>
      obtain ⟨j, vI, vT, rfl, hj, FR, KR⟩ := hrel
      obtain ⟨wo, hwo⟩ : ∃ wo, wo = wr := ⟨_, rfl⟩
      subst hwo
      have FI := Lib.hid (fold_at E AK.out j hj)
      obtain ⟨s, hs⟩ : ∃ s, foldRun E (t.ins.take j) ⟨[], []⟩ = s := ⟨_, rfl⟩
      rw [hs] at FR FI
      have HS := Lib.hid hs
      clear hs
      have hsl := FI.out.len
      have hsi := FI.out.lin
      have hcl : (s.ins ++ t.ins.drop j).length = t.ins.length := by rw [List.length_append, List.length_drop, hsi]; omega
      have HCL := Lib.hid hcl
      have hwo2 : fb < wo.heap.size := FR.out.lt
      by_cases hlt : j < t.ins.length
      · obtain ⟨x, hx⟩ : ∃ x, t.ins[j]? = some x := ⟨_, List.getElem?_eq_getElem hlt⟩
        have WX := Lib.hid (WI.out x (List.mem_of_getElem? hx))
        obtain ⟨c1, c2, c3, c4, c5, c6, c7, c8, c9⟩ := fold_round FI.out AK.out hx
        have ST : Hid (foldRun E (t.ins.take (j + 1)) ⟨[], []⟩ = foldStep E s x) := by rw [← HS.out]; exact fold_take hx _
        obtain ⟨y, hy⟩ : ∃ y, foldX s x = y := ⟨_, rfl⟩
        rw [hy] at c2 c4 c5 c7 c8 c9
        have HYY := Lib.hid hy
        have C1 := Lib.hid c1
        have C2 := Lib.hid c2
        have C3 := Lib.hid c3
        have C4 := Lib.hid c4
        have C5 := Lib.hid c5
        have C6 := Lib.hid c6
        have C7 := Lib.hid c7
        have C8 := Lib.hid c8
        have C9 := Lib.hid c9
        obtain ⟨cur, hcu⟩ : ∃ cur, s.ins ++ t.ins.drop j = cur := ⟨_, rfl⟩
        rw [hcu] at FR C1 C4 HCL
        have hcn : cur.length = t.ins.length := HCL.out
        obtain ⟨G, cG, rfl⟩ := FR.out.open_ (by omega)
        obtain ⟨A7, c7', rfl⟩ := own_len FR.out.tl_
        rw [hsl] at FR
        have c26 := FR.out.cellT
        obtain ⟨L, hL⟩ : ∃ L, s.tl.map (Value.int .i64) = L := ⟨_, rfl⟩
        have OT : Hid (wo.ownsRow (fb + 1) 3 1 (.slice A7 j c7') j L) := by
          have := FR.out.tl_
          rw [hsl, hL] at this
          exact this
        have HL := Lib.hid hL
        have hji : (j : Int) < t.ins.length := by omega
        have hjc : (j : Int) < cur.length := by omega
        have hjl : j < cur.length := by omega
        clear c1 c2 c3 c4 c5 c6 c7 c8 c9 hx hy hL hcu
        go_wp2_with (at_builtin; refine wpList_append_own _ rfl _ _ 38 rfl (fb + 1) 3 q0 (.int .i64 0) 1 8 Tryd.underlying38 hq0 hq1 hq2 hq3 rfl (by decide) (.slice A7 j c7') j L rfl (OT.out.alloc _) ⟨wo.heap.size, 0, none⟩ 1 1 [.int .i64 j] rfl rfl ?a1 ?a2 ?a3 ?a4 ?a5 ?_)
        case a1 => exact World.news_of_block (cs := #[.int .i64 j]) (heap_last wo _)
        case a2 => intro u hu; simp at hu; subst hu; rfl
        case a3 => unfold maxLen; omega
        case a4 => omega
        case a5 => simp; omega
        intro v' w6 hown hg _
        have FA : Hid (FoldR (wo.alloc (.cells #[.int .i64 j] 3)) w.heap.size fb ca t (.slice (some ⟨G, 0, none⟩) cur.length cG) (.slice A7 j c7') cur s.tl) := FR.out.below (below_one _ _)
        obtain ⟨A', n', c', rfl⟩ := own_is_slice hown
        have GF := Lib.hid (grow_far FA.out.tl_ hg FA.out.row (by decide))
        have g26 : w6.cell? ⟨fb, 26, none⟩ = some (.slice A7 j c7') := HeadAt.of_row GF.out 26 _ (by
          have hl := FA.out.len
          rw [List.getElem?_append_right (by simp; omega)]; simp [hl])
        have f26 := frozen_of_row w6 fb 26 _ _ GF.out
        have H7 : Hid (FoldR (w6.setCell ⟨fb, 26, none⟩ (.slice A' n' c')) w.heap.size fb ca t (.slice (some ⟨G, 0, none⟩) cur.length cG) (.slice A' n' c') cur (s.tl ++ [(j : Int)])) := FA.out.pushTo (by rw [HL.out, hsl]; exact hown) hg (by unfold wfi; omega) (by omega)
        have K7 : Hid (Below fb w2 (w6.setCell ⟨fb, 26, none⟩ (.slice A' n' c'))) := Below.set_at ((KR.out.alloc (by have := KR.out.size; omega) _).trans (grow_below (B' := fb) FA.out.tl_ hg (by omega) (by simp; omega))) (Nat.le_refl _) _ _
        clear hown hg c26 FA OT FR KR
        go_upto_region 10 with fail
        generalize w6.setCell ⟨fb, 26, none⟩ (.slice A' n' c') = w7 at H7 K7 ⊢
        clear g26 f26 GF
        obtain ⟨T, cT, eT⟩ := H7.out.openT (by simp)
        rw [eT] at H7
        rw [eT]
        clear eT
        have hn7 : (s.tl ++ [(j : Int)]).length = j + 1 := by simp [hsl]
        rw [hn7] at H7
        rw [hn7]
        have c16 : ∀ E : Up w7, E.to.cell? ⟨fb, 13 + 3, none⟩ = some (.slice (some ⟨G, 0, none⟩) cur.length cG) := fun E => E.cell H7.out.cellI
        have c26 : ∀ E : Up w7, E.to.cell? ⟨fb, 26, none⟩ = some (.slice (some ⟨T, 0, none⟩) (j + 1) cT) := fun E => E.cell H7.out.cellT
        have RG : Hid (∀ E : Up w7, E.to.rangeAt G (j * 8) [.int .i64 x.op, .int .i64 x.a, .int .i64 x.b, .int .i64 x.c, .int .i64 x.n, .int .i64 x.exit, .int .i64 x.k.kind, .int .i64 x.k.n]) := fun E a u hu => E.cell (H7.out.at_ C1.out hu)
        have PC : Hid (∀ E : Up w7, Calls Tryd.prog 59 #[.agg #[.int .i64 x.op, .int .i64 x.a, .int .i64 x.b, .int .i64 x.c, .int .i64 x.n, .int .i64 x.exit, .int .i64 x.k.kind, .int .i64 x.k.n], .slice (some ⟨T, 0, none⟩) (j + 1) cT] E.to (Gives (.agg #[.int .i64 y.op, .int .i64 y.a, .int .i64 y.b, .int .i64 y.c, .int .i64 y.n, .int .i64 y.exit, .int .i64 y.k.kind, .int .i64 y.k.n]) E.to)) := fun E => by
          have := fput_c x _ (s.tl ++ [(j : Int)]) E.to WX.out (H7.out.below E.below).toSlice C3.out (by rw [hn7]; omega)
          rw [C2.out] at this
          exact this
        have HN7 := Lib.hid hn7
        clear hn7
        refine wp_region_up_tail 19 (by kernel_rfl) (by kernel_rfl) ?_
        simp only [List.take_succ_cons, List.take_zero, List.drop_succ_cons, List.drop_zero]
        repeat (first
          | (refine wpQuiet_load_up 43 _ rfl rfl G (j * 8) rfl [.int .i64 x.op, .int .i64 x.a, .int .i64 x.b, .int .i64 x.c, .int .i64 x.n, .int .i64 x.exit, .int .i64 x.k.kind, .int .i64 x.k.n] _ RG.out Tryd.underlying43 rfl infoIns8 ?_; go_simp)
          | go_big_quiet_step ((go_at_call 59; exact Calls.up (PC.out _))))
        refine wpQuiet_nil ?_
        first | (rintro _ ⟨E', rfl⟩) | (intro E') | (rename_i E')
        obtain ⟨w8, k8⟩ := E'
        dsimp only
        have H8 := Lib.hid (H7.out.below k8)
        have K8 : Hid (Below fb w2 w8) := K7.out.trans (k8.mono (by have := H7.out.lt; omega))
        have TH := Lib.hid (H8.out.there hjl)
        clear k8 c16 c26 RG PC H7 K7
        have WY : Hid (WfIns y) := by rw [← HYY.out]; exact foldX_wf FI.out WX.out (by omega)
        go_upto_region 11 with (first | (refine wpList_store_mid rfl 43 _ _ rfl G (j * 8) #[.int .i64 y.op, .int .i64 y.a, .int .i64 y.b, .int .i64 y.c, .int .i64 y.n, .int .i64 y.exit, .int .i64 y.k.kind, .int .i64 y.k.n] rfl rfl TH.out infoIns8 (all_oneCell_toArray (by simp [Value.oneCell'])) ?_) | fail)
        have P9 := Lib.hid (H8.out.put hjl WY.out)
        have K9 : Hid (Below fb w2 (w8.setCells G (j * 8) (insCells y))) := Below.setCells_ (by have := H8.out.gap; omega) _ _ _ K8.out
        unfold insCells at P9 K9
        generalize hw9 : World.setCells _ _ _ _ = w9
        (try dsimp only [Act.put])
        have e9 : w8.setCells G (j * 8) [.int .i64 y.op, .int .i64 y.a, .int .i64 y.b, .int .i64 y.c, .int .i64 y.n, .int .i64 y.exit, .int .i64 y.k.kind, .int .i64 y.k.n] = w9 := hw9
        rw [e9] at P9 K9
        rw [C4.out] at P9
        clear e9 hw9 TH H8 K8
        have OC := Lib.hid (fone_c P9.out y j C5.out C6.out C7.out)
        rw [HE.out] at OC
        go_wp2_with fail
        refine OC.out.mono ?_
        rintro e w10 ⟨rfl, h10, k10⟩
        rw [C8.out, C9.out] at h10
        have H10 := Lib.hid h10
        have K10 : Hid (Below fb w2 w10) := K9.out.trans (k10.below (by have := P9.out.gap; omega) (by have := (own_row P9.out.tl_ T rfl).1; omega) (by have := P9.out.lt; omega))
        clear h10 k10 OC P9 K9
        go_wp2_with fail
        go_roundw
        case rel => exact ⟨j + 1, _, _, by go_num, by omega, by rw [ST.out]; exact H10.out, K10.out⟩
        case measure => simp [RowKit.intOf]; omega
      · obtain rfl : j = t.ins.length := by omega
        have hji : ¬ (t.ins.length : Int) < t.ins.length := by omega
        have hsf : foldRun E t.ins ⟨[], []⟩ = s := by have := HS.out; rwa [List.take_length] at this
        have HSF := Lib.hid hsf
        clear hsf
        rw [List.drop_length, List.append_nil] at FR
        obtain ⟨A8, n8, rfl⟩ := own_len FR.out.ins
        obtain ⟨A7, c7', rfl⟩ := own_len FR.out.tl_
        have hca13 := FR.out.len
        have KW : Hid (Below w.heap.size w wo) := K2.out.trans (KR.out.mono (by omega))
        have FT : Hid (foldT E t = { t with ins := s.ins }) := by unfold foldT Hid; rw [HSF.out]
        have TRZ : Hid (TraceR wo.drew wo.drew.heap.size (ca.set 3 (.slice A8 s.ins.length n8)) (foldT E t)) := by
          have hf := FR.out.below (Below.refl _ wo).drew
          rw [FT.out]
          exact traceR_ins HT.out (Nat.le_trans KW.out.size (Nat.le_refl _)) (fun pp hp' => (KW.out.drew).cell hp') (sliceR_ins hf.ins hf.wf)
        have SMZ : Hid (SmallT (foldT E t)) := by
          rw [FT.out]
          exact ⟨by show s.ins.length ≤ 300; omega, SM.out.exitsLen, SM.out.exits, SM.out.turn, SM.out.back⟩
        have CC := cut_c _ _ _ s.tl wo.drew TRZ.out (FR.out.below (Below.refl _ wo).drew).toSlice SMZ.out
        unfold CutPost at CC
        obtain ⟨zr, hzr⟩ : ∃ z, cutM (foldT E t) s.tl = z := ⟨_, rfl⟩
        rw [hzr] at CC
        have HZR : Hid (foldM E 0 t = zr) := by rw [HM.out, HSF.out]; exact hzr
        clear hzr
        obtain ⟨z, r⟩ := zr
        dsimp only at CC
        have HCC := Lib.hid CC
        have RB : Hid (∀ E : Up wo, E.to.rangeAt fb 13 (ca.set 3 (.slice A8 s.ins.length n8))) := fun E a v hv => E.cell (HeadAt.of_row FR.out.row (13 + a) v (by
          have ha := (List.getElem?_eq_some_iff.1 hv).1
          rw [List.append_assoc, List.getElem?_append_right (by omega), hca13, Nat.add_sub_cancel_left, List.getElem?_append_left ha]; exact hv))
        have LB : Hid ((Tryd.prog.info? 34).map (·.size) = some (ca.set 3 (.slice A8 s.ins.length n8)).length) := by rw [List.length_set]; exact HIt.out
        obtain ⟨cf, hcf⟩ : ∃ cf, ca.set 3 (.slice A8 s.ins.length n8) = cf := ⟨_, rfl⟩
        rw [hcf] at HCC RB LB
        rw [hsl] at HCC
        clear hcf
        have c26 : ∀ E : Up wo, E.to.cell? ⟨fb, 26, none⟩ = some (.slice A7 s.tl.length c7') := fun E => E.cell FR.out.cellT
        have ZO : Hid (wo.heap[w.heap.size + 1 + 1]? = some (.cells ⟨zeroTrace⟩ 34 (0, 0))) := (KR.out.block _ (by omega)).trans Z2.out
        have hzo : w.heap.size + 1 + 1 < wo.heap.size := by omega
        clear CC TRZ SMZ hca13 FR KR
        go_upto_region 13 with fail
        refine wp_region_readers (fun w' => ∃ E : Up wo, w' = E.to) [0, 1, 2, 3, 4, 5, 6, 7] [] 5 #[true, true, true, true, true, true, true, true, false, false, false, false, false] _ (by kernel_rfl) (by kernel_rfl) (by simp only [List.filterMap_cons, List.filterMap_nil, List.getElem?_toArray, List.getElem?_cons_zero, List.getElem?_cons_succ]; rfl) (fun _ _ d _ _ h => by cases d <;> exact h) ⟨⟨_, (Below.refl _ wo).drew⟩, rfl⟩ ?_
        generalize hqq : (fun a' => wpAnyC _ _ _ _ _ _ _ _ a' _) = qq
        have HQQ := Lib.hid hqq
        clear hqq
        show wpQuiet _ _ _ _ [_, _, _, _, _, _, _, _] _
        repeat (first
          | (refine wpQuiet_load_up 34 _ rfl rfl fb 13 rfl cf _ RB.out Tryd.underlying34 rfl LB.out ?_; go_simp)
          | go_big_quiet_step (fail))
        refine wpQuiet_nil ?_
        rw [← HQQ.out]
        clear HQQ qq RB LB c26
        refine wpAnyC_one (i := 8) (by kernel_rfl) rfl (fun K hK => ?_)
        go_simp
        refine HCC.out.mono ?_
        rintro e w5 ⟨cs, rfl, tr, k5, kg⟩
        refine hK _ _ (fun hf => by cases hf) ?_
        clear hK K HCC
        obtain ⟨zA1, zn1, zA2, zn2, zA3, zn3, zA4, zn4, zA5, zn5, zA6, zn6, rfl, lz⟩ := tr.cells
        have KG := Lib.hid kg
        have K5 : Hid (Below w.heap.size w w5) := KW.out.trans ((((Below.refl _ wo).drew).trans k5).mono KW.out.size)
        have Z5 : Hid (w5.heap[w.heap.size + 1 + 1]? = some (.cells ⟨zeroTrace⟩ 34 (0, 0))) := (k5.block _ hzo).trans ZO.out
        clear tr kg k5 lz
        refine wpAnyC_again (fun w' => ∃ E : Up w5, w' = E.to) [9, 10] [0, 1, 2, 3, 4, 5, 6, 7, 8] 2 #[true, true, true, true, true, true, true, true, true, true, true, false, false] _ (by kernel_rfl) rfl (by simp only [List.filterMap_cons, List.filterMap_nil, List.getElem?_toArray, List.getElem?_cons_zero, List.getElem?_cons_succ]; rfl) (fun _ _ d _ _ h => by cases d <;> exact h) ⟨⟨_, Below.refl _ w5⟩, rfl⟩ ?_
        generalize hqq : (fun a' => wpAnyC _ _ _ _ _ _ _ _ a' _) = qq
        have HQQ := Lib.hid hqq
        clear hqq
        show wpQuiet _ _ _ _ [_, _] _
        repeat (go_big_quiet_step (fail))
        refine wpQuiet_nil ?_
        rw [← HQQ.out]
        clear HQQ qq
        refine wpAnyC_of_ms [11, 12] _ _ _ (by kernel_rfl) ?_
        refine wpMs_list [11, 12] _ _ (by kernel_rfl) (by kernel_rfl) ?_
        simp only [List.filterMap_cons, List.filterMap_nil, List.getElem?_toArray, List.getElem?_cons_zero, List.getElem?_cons_succ]
        have TR9 := Lib.hid (KG.out (w.heap.size + 1 + 1) #[.int .i64 z.fn, .int .i64 z.at_, .int .i64 z.loop, .slice zA1 z.ins.length zn1, .slice zA2 z.exits.length zn2, .int .i64 z.turn.at_, .int .i64 z.turn.steps, .slice zA3 z.turn.sets.length zn3, .slice zA4 z.turn.makes.length zn4, .int .i64 z.back.at_, .int .i64 z.back.steps, .slice zA5 z.back.sets.length zn5, .slice zA6 z.back.makes.length zn6] hzo)
        refine wpList_store_row rfl 34 _ _ rfl (w.heap.size + 1 + 1) #[.int .i64 z.fn, .int .i64 z.at_, .int .i64 z.loop, .slice zA1 z.ins.length zn1, .slice zA2 z.exits.length zn2, .int .i64 z.turn.at_, .int .i64 z.turn.steps, .slice zA3 z.turn.sets.length zn3, .slice zA4 z.turn.makes.length zn4, .int .i64 z.back.at_, .int .i64 z.back.steps, .slice zA5 z.back.sets.length zn5, .slice zA6 z.back.makes.length zn6] rfl rfl 34 _ Z5.out infoTr13 rfl (all_oneCell_toArray (by simp [Value.oneCell'])) ?_
        generalize hw9 : World.setRow _ _ _ = w9
        rw [hw9] at TR9
        have QR : Hid (w9.heap[w.heap.size + 1 + 1]? = some (.cells #[.int .i64 z.fn, .int .i64 z.at_, .int .i64 z.loop, .slice zA1 z.ins.length zn1, .slice zA2 z.exits.length zn2, .int .i64 z.turn.at_, .int .i64 z.turn.steps, .slice zA3 z.turn.sets.length zn3, .slice zA4 z.turn.makes.length zn4, .int .i64 z.back.at_, .int .i64 z.back.steps, .slice zA5 z.back.sets.length zn5, .slice zA6 z.back.makes.length zn6] 34 (0, 0))) := by rw [← hw9]; exact setRow_heap _ _ _ _ _ _ Z5.out
        have K9 : Hid (Below w.heap.size w w9) := by rw [← hw9]; exact Below.set_row K5.out (by omega) _
        clear hw9 KG
        go_wp2_with fail
        have r0 := cell_of_row w9 (w.heap.size + 1 + 1) 0 _ _ _ QR.out
        have r1 := cell_of_row w9 (w.heap.size + 1 + 1) 1 _ _ _ QR.out
        have r2 := cell_of_row w9 (w.heap.size + 1 + 1) 2 _ _ _ QR.out
        have r3 := cell_of_row w9 (w.heap.size + 1 + 1) 3 _ _ _ QR.out
        have r4 := cell_of_row w9 (w.heap.size + 1 + 1) 4 _ _ _ QR.out
        have r5 := cell_of_row w9 (w.heap.size + 1 + 1) 5 _ _ _ QR.out
        have r6 := cell_of_row w9 (w.heap.size + 1 + 1) 6 _ _ _ QR.out
        have r7 := cell_of_row w9 (w.heap.size + 1 + 1) 7 _ _ _ QR.out
        have r8 := cell_of_row w9 (w.heap.size + 1 + 1) 8 _ _ _ QR.out
        have r9 := cell_of_row w9 (w.heap.size + 1 + 1) 9 _ _ _ QR.out
        have r10 := cell_of_row w9 (w.heap.size + 1 + 1) 10 _ _ _ QR.out
        have r11 := cell_of_row w9 (w.heap.size + 1 + 1) 11 _ _ _ QR.out
        have r12 := cell_of_row w9 (w.heap.size + 1 + 1) 12 _ _ _ QR.out
        rw [HZR.out]
        refine bodyPost_ret (v := .tuple #[.agg ⟨[.int .i64 z.fn, .int .i64 z.at_, .int .i64 z.loop, .slice zA1 z.ins.length zn1, .slice zA2 z.exits.length zn2, .int .i64 z.turn.at_, .int .i64 z.turn.steps, .slice zA3 z.turn.sets.length zn3, .slice zA4 z.turn.makes.length zn4, .int .i64 z.back.at_, .int .i64 z.back.steps, .slice zA5 z.back.sets.length zn5, .slice zA6 z.back.makes.length zn6]⟩, .int .i64 r]) (by simp [results, Tryd.results31, go_sem, r0, r1, r2, r3, r4, r5, r6, r7, r8, r9, r10, r11, r12]) rfl ⟨_, rfl, TR9.out, K9.out⟩
end Go.Proofs.YtmccomeihnaanaaDoor
