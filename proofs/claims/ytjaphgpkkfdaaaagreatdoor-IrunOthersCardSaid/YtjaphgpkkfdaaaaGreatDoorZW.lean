/- Part of the walk of the given code: contracts of the functions that irun.Run reaches, and plain laws on what it reckons. -/
import Derived.Test.YtjaphgpkkfdaaaaGreatDoorZV
import Derived.Test.YtjaphgpkkfdaaaaGreatDoorZS
set_option maxHeartbeats 16000000
set_option maxRecDepth 100000
set_option linter.all false
namespace Go.Proofs.YtjaphgpkkfdaaaaGreatDoor
section
open Go.RowKit
section
variable {Γ : kI} {w w':World} {W:aI} {cv vv:Value} {vs fs:List Value}
theorem push_c (K:hP Γ) (L:bO Γ w W cv vv vs fs) (hn:W.vals.length≤300) (hl:W.cells.length≤300) (x:bG) (ha:0≤x.a∧x.a<W.vals.length) (hb:0≤x.b∧x.b<W.vals.length) :
  Calls Tryz.prog 152 #[.pointer (some ⟨Γ.wb,0,none⟩),.agg #[.int .i64 x.op,.int .i64 x.a,.int .i64 x.b,.int .i64 x.c,.int .i64 x.n,.int .i64 x.exit,.int .i64 x.k.kind,.int .i64 x.k.n]] w (sJ Γ (iT W x).1 (.int .i64 (iT W x).2) w):=by
 obtain⟨g,cap,hvv,-,hgl⟩:=L.vals.form (by omega)
 obtain⟨ka,hka⟩:∃ka:Nat,x.a=(ka:Int):=⟨x.a.toNat,by omega⟩
 obtain⟨y,hy⟩:∃y,W.vals[ka]? = some y:=⟨_,lG (by omega)⟩
 obtain⟨kb,hkb⟩:∃kb:Nat,x.b=(kb:Int):=⟨x.b.toNat,by omega⟩
 have hkl:kb<W.vals.length:=by omega
 have hki:(kb:Int)<W.vals.length:=by omega
 obtain⟨y3,hy3⟩:∃y3,W.vals[kb]? = some y3:=⟨_,lG hkl⟩
 have HKB:=hI hkb
 have HY3:=hI hy3
 obtain⟨w1,hw1⟩:∃w1,w1=w.alloc (.cells #[.int .i64 x.op,.int .i64 x.a,.int .i64 x.b,.int .i64 x.c,.int .i64 x.n,.int .i64 x.exit,.int .i64 x.k.kind,.int .i64 x.k.n] 92):=⟨_,rfl⟩
 have K1:Hid (Below w.heap.size w w1):=by rw[hw1];exact aB _ _
 have HB1:Hid (aA w1 w.heap.size [.int .i64 x.op,.int .i64 x.a,.int .i64 x.b,.int .i64 x.c,.int .i64 x.n,.int .i64 x.exit,.int .i64 x.k.kind,.int .i64 x.k.n]):=by rw[hw1];exact ad5 _ _ _
 have HK:=hI K
 have L1:=hI (L.below K K1.out)
 have CC:=hI (nY K L1.out hy hl)
 rw[←hka] at CC
 clear hka hkb hy3
 have HV:=hI hvv
 have HW1:=hI hw1
 have g1:=HB1.out 1 _ rfl
 clear hw1 L K hvv hb ha
 obtain⟨i0,hi0,hq⟩:=Option.map_eq_some_iff.1 lH
 simp only[Prod.mk.injEq] at hq
 obtain⟨hz,hz1,hz2⟩:=hq
 obtain⟨z,hz0,hz3⟩:=Option.map_eq_some_iff.1 hz
 have HI:=hI hi0
 have HZ:=hI hz0
 have HZ1:=hI hz1
 have HZ2:=hI hz2
 have HZ3:=hI hz3
 clear hi0 hz0 hz1 hz2 hz3 hz
 obtain⟨W',hW'⟩:∃W',(iT W x).1=W':=⟨_,rfl⟩
 obtain⟨q,hq⟩:∃q,(iT W x).2=q:=⟨_,rfl⟩
 rw[hW',hq]
 have HW:=hI hW'
 have HQ:=hI hq
 clear hW' hq
 go_enter Tryz.func152,Tryz.ntmps152
 go_wp2_with fail
 rw[←HW1.out]
 refine CC.out.mono ?_
 rintro e w2 ⟨rfl,k2⟩
 have K12:=hI k2
 have K2:=btZ K1 k2
 have L2:=hI (L1.out.below HK.out k2)
 clear k2 g1
 have g5:w2.cell? ⟨w.heap.size,5,none⟩=some (.int .i64 x.exit):=aC K12.out (HB1.out 5 _ rfl)
 cases hcell:eF W x.a with
 | none=>
  rw[eV hcell]
  have HN:Hid ((W,(2:Int))=(W',q)):=by rw[←HW.out,←HQ.out];unfold iT;rw[hcell];rfl
  go_wp2_with fail
  go_ret
  have e1:=congrArg Prod.fst HN.out
  have e2:=congrArg Prod.snd HN.out
  dsimp only at e1 e2
  subst e1;subst e2
  exact⟨rfl,⟨_,_,_,_,L2.out⟩,aQ.of K2.out⟩
 | some p=>
  obtain⟨n,c⟩:=p
  obtain⟨gc,cc,v,f,vA,vc,hcv,hc,hv,hf,hvs,hpt,c0,c1,c2,c3,hgc⟩:=L2.out.atCell hcell
  rw[hpt]
  subst hvs
  have HCV:=hI hcv
  have HC:=hI hc
  have HVN:=hI hv
  have HF:=hI hf
  have C2:=hI c2
  have HS:Hid ((if c.kind≠2∧c.kind≠3 then(W,(2:Int)) else if c.vals.length<100 then(setCW W n { c with vals:=c.vals++[y3] },0) else if x.exit<0 then(W,2) else(W,1))=(W',q)):=by
   rw[←HW.out,←HQ.out];unfold iT;rw[hcell,HKB.out,fR HY3.out];show _=_;rfl
  clear hcell c1 c3 hc hv hf hpt HW HQ hcv
  by_cases h2:c.kind=2
  ·rw[h2] at c0
   have H2:=hI h2
   clear h2
   by_cases h100:c.vals.length<100
   ·have h100i:(c.vals.length:Int)<100:=by omega
    have HN:Hid ((setCW W n { c with vals:=c.vals++[y3] },(0:Int))=(W',q)):=by
     show _=_
     rw[←HS.out,if_neg (fun h=>h.1 H2.out),if_pos h100]
    go_upto_region 5 with fail
    have a0:∀E:Up w2,E.to.cell? ⟨Γ.wb,17,none⟩=some (.slice (some ⟨g,0,none⟩) W.vals.length cap):=fun E=>E.cell (by have h:=L2.out.own HK.out 4;rw[HV.out] at h;exact h)
    have a1:=ecZ C2.out
    have a2:∀E:Up w2,E.to.cell? ⟨w.heap.size,2,none⟩=some (.int .i64 kb):=fun E=>E.cell (by rw[←HKB.out];exact aC K12.out (HB1.out 2 _ rfl))
    have OW:=hI (L2.out.vals)
    rw[HV.out] at OW
    have a3:∀E:Up w2,E.to.cell? ⟨g,kb*2,none⟩=some (.int .i64 y3.kind):=fun E=>E.cell (by rw[OW.out.cellAt (kb*2) (by omega)];exact bS HY3.out (k:=0) (by decide))
    have a4:∀E:Up w2,E.to.cell? ⟨g,kb*2+1,none⟩=some (.int .i64 y3.n):=fun E=>E.cell (by rw[OW.out.cellAt (kb*2+1) (by omega)];exact bS HY3.out (k:=1) (by decide))
    refine gG (fun w'=>∃E:Up w2,w'=E.to) [0] [1,2,3,4,5,6,7,8,9,10,11,12] [13,14,15,16,17] [13] _ (by kernel_rfl) (by kernel_rfl) (by simp only[List.cons_append,List.nil_append,List.filterMap_cons,List.filterMap_nil,List.getElem?_toArray,List.getElem?_cons_zero,List.getElem?_cons_succ];rfl) (fun _ _ d _ _ h=>by cases d <;> exact h) ⟨⟨_,(Below.refl _ w2).drew⟩,rfl⟩ ?_
    generalize hqq:(fun a'=>gA _ _ _ _ _ _ a' _)=qq
    have HQQ:=hI hqq
    clear hqq
    show wpQuiet _ _ _ _ [_,_,_,_,_,_,_,_,_,_,_,_,_] _
    repeat (go_big_quiet_step (fail))
    refine wpQuiet_nil ?_
    rw[←HQQ.out]
    clear HQQ qq a0 a1 a2 a3 a4
    refine bA rfl (fun K hK=>?_)
    go_simp
    obtain⟨wa,hwa⟩:∃wa,wa=(w2.alloc (.cells #[.int .i64 y3.kind,.int .i64 y3.n] 48)).drew:=⟨_,rfl⟩
    have KA:Hid (Below w2.heap.size w2 wa):=by rw[hwa];exact((Below.refl _ w2).alloc (Nat.le_refl _) _).drew
    have BA:Hid (wa.heap[w2.heap.size]? = some (.cells #[.int .i64 y3.kind,.int .i64 y3.n] 48 (0,0))):=by rw[hwa];exact aJ w2 _
    have HWA:=hI hwa
    clear hwa
    refine hK _ _ (fun _=>⟨⟨wa,KA.out⟩,HWA.out.symm⟩) ?_
    clear hK K
    have hsz2:w2.drew.heap.size=w2.heap.size:=rfl
    (try rw[hsz2])
    rw[←HWA.out]
    have LA:=hI (L2.out.below HK.out KA.out)
    have OV:=hI (LA.out.cvals n _ c HVN.out HC.out)
    have hbz : Γ.B≤wa.heap.size:=Nat.le_trans HK.out.b1 LA.out.size
    refine bA rfl (fun K hK=>?_)
    refine Eq.mpr (if_pos ?hw) ?_
    case hw=>rfl
    refine iK _ _ _ 23 rfl Γ.B 48 i0 z 2 16 Tryz.underlying23 HI.out HZ.out HZ1.out HZ2.out HZ3.out (by decide) (.slice vA c.vals.length vc) c.vals.length (c.vals.flatMap aZ) rfl OV.out ⟨w2.heap.size,0,none⟩ 1 1 [.int .i64 y3.kind,.int .i64 y3.n] rfl rfl (World.news_of_block (cs:=#[.int .i64 y3.kind,.int .i64 y3.n]) BA.out) ?k2 ?k3 ?k4 hbz ?_
    case k2=>intro u hu;simp at hu;rcases hu with rfl | rfl <;> rfl
    case k3=>unfold maxLen;omega
    case k4=>omega
    intro v' w6 hown hg hbb0
    obtain⟨A',c',rfl⟩:=bV hown
    have HBB:=hI hbb0
    have OWN:=hI hown
    have GR:=hI hg
    have ON6:Hid (cA (fun k=>(Value.slice vA c.vals.length vc).ownBlock=some k) wa w6):=cA.grown cA.refl hg (fun k hk=>hk)
    clear hown hg hbb0
    refine hK _ _ (fun h=>by cases h) ?_
    clear hK K
    have CR6:Hid (w6.ownsRow Γ.B 55 4 (.slice (some ⟨gc,0,none⟩) W.cells.length cc) W.cells.length ((cK W.cells vs fs).flatMap id)):=by
     have h:=LA.out.crow
     rw[HCV.out] at h
     exact h.kept GR.out (.inr (fun e=>by
      obtain⟨cs,h1⟩:=aX h (g:=gc) rfl
      obtain⟨cs',h2⟩:=aX OV.out (g:=gc) (e ▸ rfl)
      exact bJ h1 h2 (by decide) rfl))
    have hn4:n*4+2<W.cells.length*4:=by have:=(lE HC.out).1;omega
    have e2:w6.cell? ⟨gc,n*4+2,none⟩=some (.slice vA c.vals.length vc):=by
     rw[CR6.out.cellAt (n*4+2) hn4]
     exact b9 _ n 2 _ (g8 _ _ _) (eP _ _ _ n _ _ _ HC.out HVN.out HF.out) (by decide)
    have z2:=CR6.out.frozenAt (n*4+2)
    refine bP [15,16,17] _ _ (by kernel_rfl) (by kernel_rfl) ?_
    simp only[List.filterMap_cons,List.filterMap_nil,List.getElem?_toArray,List.getElem?_cons_zero,List.getElem?_cons_succ]
    go_upto_region 6 with fail
    generalize hw7:World.setCell _ _ _=w7
    have S7:=t8 CR6.out LA.out.lv LA.out.lf HC.out HVN.out HF.out (.slice A' (c.vals.length+1) c') (c.vals++[y3])
    rw[hw7] at S7
    have S77:=hI S7
    have ON7:Hid (cA (fun k=>(Value.slice vA c.vals.length vc).ownBlock=some k∨cv.ownBlock=some k) wa w7):=by
     rw[←hw7]
     exact(ON6.out.mono fun _ _ h=>.inl h).set (.inr (by rw[HCV.out];rfl)) _ _
    have O7:Hid (w7.ownsRow Γ.B 48 2 (.slice A' (c.vals.length+1) c') (c.vals++[y3]).length ((c.vals++[y3]).flatMap aZ)):=by
     rw[←hw7]
     have h:=iS (j:=n*4+2) (u:=.slice A' (c.vals.length+1) c') OWN.out CR6.out (by decide)
     rw[List.length_append,List.flatMap_append]
     exact h
    have wfn:WfC { c with vals:=c.vals++[y3] }:=by
     have h:=LA.out.wfc c (List.mem_of_getElem? HC.out)
     refine⟨h.1,h.2.1,fun y hy=>?_⟩
     rcases List.mem_append.1 (show y∈c.vals++[y3] from hy) with h1 | h1
     ·exact h.2.2 y h1
     ·rw[List.mem_singleton] at h1;rw[h1];exact LA.out.wfv y3 (List.mem_of_getElem? HY3.out)
    have L7:=hI (LA.out.putCell HK.out (c':={ c with vals:=c.vals++[y3] }) HVN.out ON7.out (by rw[HCV.out];exact S77.out) O7.out HBB.out (LA.out.cfr n f c HF.out HC.out) wfn)
    have K7:Hid (aQ w w7):=(aQ.of (K2.out.trans (KA.out.mono K2.out.size))).trans (aeC ON7.out (fun k _ hk=>by
     rcases hk with hk | hk
     ·obtain⟨cs,h⟩:=aX OV.out hk
      exact⟨cs,_,h,.inr (.inr (.inr rfl))⟩
     ·obtain⟨cs,h⟩:=aX LA.out.crow hk
      exact⟨cs,_,h,.inr (.inr (.inl rfl))⟩))
    clear hw7 S7 e2 z2 wfn
    (try dsimp only [Act.put])
    go_wp2_with fail
    go_ret
    have e1:=congrArg Prod.fst HN.out
    have e2:=congrArg Prod.snd HN.out
    dsimp only at e1 e2
    subst e1;subst e2
    exact⟨rfl,⟨_,_,_,_,L7.out⟩,K7.out⟩
   ·have h100i:¬(c.vals.length:Int)<100:=by omega
    by_cases hx0:x.exit<0
    ·have HN:Hid ((W,(2:Int))=(W',q)):=by show _=_;rw[←HS.out,if_neg (fun h=>h.1 H2.out),if_neg h100,if_pos hx0]
     go_wp2_with fail
     go_ret
     have e1:=congrArg Prod.fst HN.out
     have e2:=congrArg Prod.snd HN.out
     dsimp only at e1 e2
     subst e1;subst e2
     exact⟨rfl,⟨_,_,_,_,L2.out⟩,aQ.of K2.out⟩
    ·have HN:Hid ((W,(1:Int))=(W',q)):=by show _=_;rw[←HS.out,if_neg (fun h=>h.1 H2.out),if_neg h100,if_neg hx0]
     go_wp2_with fail
     go_ret
     have e1:=congrArg Prod.fst HN.out
     have e2:=congrArg Prod.snd HN.out
     dsimp only at e1 e2
     subst e1;subst e2
     exact⟨rfl,⟨_,_,_,_,L2.out⟩,aQ.of K2.out⟩
  ·by_cases h3:c.kind=3
   ·rw[h3] at c0
    have H3:=hI h3
    clear h2 h3
    by_cases h100:c.vals.length<100
    ·have h100i:(c.vals.length:Int)<100:=by omega
     have HN:Hid ((setCW W n { c with vals:=c.vals++[y3] },(0:Int))=(W',q)):=by
      show _=_
      rw[←HS.out,if_neg (fun h=>h.2 H3.out),if_pos h100]
     go_upto_region 5 with fail
     have a0:∀E:Up w2,E.to.cell? ⟨Γ.wb,17,none⟩=some (.slice (some ⟨g,0,none⟩) W.vals.length cap):=fun E=>E.cell (by have h:=L2.out.own HK.out 4;rw[HV.out] at h;exact h)
     have a1:=ecZ C2.out
     have a2:∀E:Up w2,E.to.cell? ⟨w.heap.size,2,none⟩=some (.int .i64 kb):=fun E=>E.cell (by rw[←HKB.out];exact aC K12.out (HB1.out 2 _ rfl))
     have OW:=hI (L2.out.vals)
     rw[HV.out] at OW
     have a3:∀E:Up w2,E.to.cell? ⟨g,kb*2,none⟩=some (.int .i64 y3.kind):=fun E=>E.cell (by rw[OW.out.cellAt (kb*2) (by omega)];exact bS HY3.out (k:=0) (by decide))
     have a4:∀E:Up w2,E.to.cell? ⟨g,kb*2+1,none⟩=some (.int .i64 y3.n):=fun E=>E.cell (by rw[OW.out.cellAt (kb*2+1) (by omega)];exact bS HY3.out (k:=1) (by decide))
     refine gG (fun w'=>∃E:Up w2,w'=E.to) [0] [1,2,3,4,5,6,7,8,9,10,11,12] [13,14,15,16,17] [13] _ (by kernel_rfl) (by kernel_rfl) (by simp only[List.cons_append,List.nil_append,List.filterMap_cons,List.filterMap_nil,List.getElem?_toArray,List.getElem?_cons_zero,List.getElem?_cons_succ];rfl) (fun _ _ d _ _ h=>by cases d <;> exact h) ⟨⟨_,(Below.refl _ w2).drew⟩,rfl⟩ ?_
     generalize hqq:(fun a'=>gA _ _ _ _ _ _ a' _)=qq
     have HQQ:=hI hqq
     clear hqq
     show wpQuiet _ _ _ _ [_,_,_,_,_,_,_,_,_,_,_,_,_] _
     repeat (go_big_quiet_step (fail))
     refine wpQuiet_nil ?_
     rw[←HQQ.out]
     clear HQQ qq a0 a1 a2 a3 a4
     refine bA rfl (fun K hK=>?_)
     go_simp
     obtain⟨wa,hwa⟩:∃wa,wa=(w2.alloc (.cells #[.int .i64 y3.kind,.int .i64 y3.n] 48)).drew:=⟨_,rfl⟩
     have KA:Hid (Below w2.heap.size w2 wa):=by rw[hwa];exact((Below.refl _ w2).alloc (Nat.le_refl _) _).drew
     have BA:Hid (wa.heap[w2.heap.size]? = some (.cells #[.int .i64 y3.kind,.int .i64 y3.n] 48 (0,0))):=by rw[hwa];exact aJ w2 _
     have HWA:=hI hwa
     clear hwa
     refine hK _ _ (fun _=>⟨⟨wa,KA.out⟩,HWA.out.symm⟩) ?_
     clear hK K
     have hsz2:w2.drew.heap.size=w2.heap.size:=rfl
     (try rw[hsz2])
     rw[←HWA.out]
     have LA:=hI (L2.out.below HK.out KA.out)
     have OV:=hI (LA.out.cvals n _ c HVN.out HC.out)
     have hbz : Γ.B≤wa.heap.size:=Nat.le_trans HK.out.b1 LA.out.size
     refine bA rfl (fun K hK=>?_)
     refine Eq.mpr (if_pos ?hw) ?_
     case hw=>rfl
     refine iK _ _ _ 23 rfl Γ.B 48 i0 z 2 16 Tryz.underlying23 HI.out HZ.out HZ1.out HZ2.out HZ3.out (by decide) (.slice vA c.vals.length vc) c.vals.length (c.vals.flatMap aZ) rfl OV.out ⟨w2.heap.size,0,none⟩ 1 1 [.int .i64 y3.kind,.int .i64 y3.n] rfl rfl (World.news_of_block (cs:=#[.int .i64 y3.kind,.int .i64 y3.n]) BA.out) ?k2 ?k3 ?k4 hbz ?_
     case k2=>intro u hu;simp at hu;rcases hu with rfl | rfl <;> rfl
     case k3=>unfold maxLen;omega
     case k4=>omega
     intro v' w6 hown hg hbb0
     obtain⟨A',c',rfl⟩:=bV hown
     have HBB:=hI hbb0
     have OWN:=hI hown
     have GR:=hI hg
     have ON6:Hid (cA (fun k=>(Value.slice vA c.vals.length vc).ownBlock=some k) wa w6):=cA.grown cA.refl hg (fun k hk=>hk)
     clear hown hg hbb0
     refine hK _ _ (fun h=>by cases h) ?_
     clear hK K
     have CR6:Hid (w6.ownsRow Γ.B 55 4 (.slice (some ⟨gc,0,none⟩) W.cells.length cc) W.cells.length ((cK W.cells vs fs).flatMap id)):=by
      have h:=LA.out.crow
      rw[HCV.out] at h
      exact h.kept GR.out (.inr (fun e=>by
       obtain⟨cs,h1⟩:=aX h (g:=gc) rfl
       obtain⟨cs',h2⟩:=aX OV.out (g:=gc) (e ▸ rfl)
       exact bJ h1 h2 (by decide) rfl))
     have hn4:n*4+2<W.cells.length*4:=by have:=(lE HC.out).1;omega
     have e2:w6.cell? ⟨gc,n*4+2,none⟩=some (.slice vA c.vals.length vc):=by
      rw[CR6.out.cellAt (n*4+2) hn4]
      exact b9 _ n 2 _ (g8 _ _ _) (eP _ _ _ n _ _ _ HC.out HVN.out HF.out) (by decide)
     have z2:=CR6.out.frozenAt (n*4+2)
     refine bP [15,16,17] _ _ (by kernel_rfl) (by kernel_rfl) ?_
     simp only[List.filterMap_cons,List.filterMap_nil,List.getElem?_toArray,List.getElem?_cons_zero,List.getElem?_cons_succ]
     go_upto_region 6 with fail
     generalize hw7:World.setCell _ _ _=w7
     have S7:=t8 CR6.out LA.out.lv LA.out.lf HC.out HVN.out HF.out (.slice A' (c.vals.length+1) c') (c.vals++[y3])
     rw[hw7] at S7
     have S77:=hI S7
     have ON7:Hid (cA (fun k=>(Value.slice vA c.vals.length vc).ownBlock=some k∨cv.ownBlock=some k) wa w7):=by
      rw[←hw7]
      exact(ON6.out.mono fun _ _ h=>.inl h).set (.inr (by rw[HCV.out];rfl)) _ _
     have O7:Hid (w7.ownsRow Γ.B 48 2 (.slice A' (c.vals.length+1) c') (c.vals++[y3]).length ((c.vals++[y3]).flatMap aZ)):=by
      rw[←hw7]
      have h:=iS (j:=n*4+2) (u:=.slice A' (c.vals.length+1) c') OWN.out CR6.out (by decide)
      rw[List.length_append,List.flatMap_append]
      exact h
     have wfn:WfC { c with vals:=c.vals++[y3] }:=by
      have h:=LA.out.wfc c (List.mem_of_getElem? HC.out)
      refine⟨h.1,h.2.1,fun y hy=>?_⟩
      rcases List.mem_append.1 (show y∈c.vals++[y3] from hy) with h1 | h1
      ·exact h.2.2 y h1
      ·rw[List.mem_singleton] at h1;rw[h1];exact LA.out.wfv y3 (List.mem_of_getElem? HY3.out)
     have L7:=hI (LA.out.putCell HK.out (c':={ c with vals:=c.vals++[y3] }) HVN.out ON7.out (by rw[HCV.out];exact S77.out) O7.out HBB.out (LA.out.cfr n f c HF.out HC.out) wfn)
     have K7:Hid (aQ w w7):=(aQ.of (K2.out.trans (KA.out.mono K2.out.size))).trans (aeC ON7.out (fun k _ hk=>by
      rcases hk with hk | hk
      ·obtain⟨cs,h⟩:=aX OV.out hk
       exact⟨cs,_,h,.inr (.inr (.inr rfl))⟩
      ·obtain⟨cs,h⟩:=aX LA.out.crow hk
       exact⟨cs,_,h,.inr (.inr (.inl rfl))⟩))
     clear hw7 S7 e2 z2 wfn
     (try dsimp only [Act.put])
     go_wp2_with fail
     go_ret
     have e1:=congrArg Prod.fst HN.out
     have e2:=congrArg Prod.snd HN.out
     dsimp only at e1 e2
     subst e1;subst e2
     exact⟨rfl,⟨_,_,_,_,L7.out⟩,K7.out⟩
    ·have h100i:¬(c.vals.length:Int)<100:=by omega
     by_cases hx0:x.exit<0
     ·have HN:Hid ((W,(2:Int))=(W',q)):=by show _=_;rw[←HS.out,if_neg (fun h=>h.2 H3.out),if_neg h100,if_pos hx0]
      go_wp2_with fail
      go_ret
      have e1:=congrArg Prod.fst HN.out
      have e2:=congrArg Prod.snd HN.out
      dsimp only at e1 e2
      subst e1;subst e2
      exact⟨rfl,⟨_,_,_,_,L2.out⟩,aQ.of K2.out⟩
     ·have HN:Hid ((W,(1:Int))=(W',q)):=by show _=_;rw[←HS.out,if_neg (fun h=>h.2 H3.out),if_neg h100,if_neg hx0]
      go_wp2_with fail
      go_ret
      have e1:=congrArg Prod.fst HN.out
      have e2:=congrArg Prod.snd HN.out
      dsimp only at e1 e2
      subst e1;subst e2
      exact⟨rfl,⟨_,_,_,_,L2.out⟩,aQ.of K2.out⟩
   ·have HN:Hid ((W,(2:Int))=(W',q)):=by show _=_;rw[←HS.out,if_pos ⟨h2,h3⟩]
    have hb2:(c.kind != 2)=true:=by simpa using h2
    have hb3:(c.kind != 3)=true:=by simpa using h3
    go_wp2_with fail
    go_ret
    have e1:=congrArg Prod.fst HN.out
    have e2:=congrArg Prod.snd HN.out
    dsimp only at e1 e2
    subst e1;subst e2
    exact⟨rfl,⟨_,_,_,_,L2.out⟩,aQ.of K2.out⟩
end
end
section
open Go.RowKit
section
variable {Γ : kI} {w w':World} {W:aI} {cv vv:Value} {vs fs:List Value}
theorem grow_c (K:hP Γ) (L:bO Γ w W cv vv vs fs) (hn:W.vals.length≤300) (hl:W.cells.length≤300) (x:bG) (ha:0≤x.a∧x.a<W.vals.length) (hb:0≤x.b∧x.b<W.vals.length) (hxn:0≤x.n) (hxw:wfi x.n) :
  Calls Tryz.prog 148 #[.pointer (some ⟨Γ.wb,0,none⟩),.agg #[.int .i64 x.op,.int .i64 x.a,.int .i64 x.b,.int .i64 x.c,.int .i64 x.n,.int .i64 x.exit,.int .i64 x.k.kind,.int .i64 x.k.n]] w (sJ Γ (jT Γ.shapes W x).1 (.int .i64 (jT Γ.shapes W x).2) w):=by
 obtain⟨g,cap,hvv,-,hgl⟩:=L.vals.form (by omega)
 obtain⟨ka,hka⟩:∃ka:Nat,x.a=(ka:Int):=⟨x.a.toNat,by omega⟩
 obtain⟨y,hy⟩:∃y,W.vals[ka]? = some y:=⟨_,lG (by omega)⟩
 obtain⟨kb,hkb⟩:∃kb:Nat,x.b=(kb:Int):=⟨x.b.toNat,by omega⟩
 have hkl:kb<W.vals.length:=by omega
 have hki:(kb:Int)<W.vals.length:=by omega
 obtain⟨y3,hy3⟩:∃y3,W.vals[kb]? = some y3:=⟨_,lG hkl⟩
 obtain⟨m,hm⟩:∃m:Nat,x.n=(m:Int):=⟨x.n.toNat,by omega⟩
 obtain⟨SA,sc,hsv,-,-,hsh⟩:=K.sh
 have HM:=hI hm
 have HSV:=hI hsv
 have HKB:=hI hkb
 have HY3:=hI hy3
 obtain⟨w1,hw1⟩:∃w1,w1=w.alloc (.cells #[.int .i64 x.op,.int .i64 x.a,.int .i64 x.b,.int .i64 x.c,.int .i64 x.n,.int .i64 x.exit,.int .i64 x.k.kind,.int .i64 x.k.n] 92):=⟨_,rfl⟩
 have K1:Hid (Below w.heap.size w w1):=by rw[hw1];exact aB _ _
 have HB1:Hid (aA w1 w.heap.size [.int .i64 x.op,.int .i64 x.a,.int .i64 x.b,.int .i64 x.c,.int .i64 x.n,.int .i64 x.exit,.int .i64 x.k.kind,.int .i64 x.k.n]):=by rw[hw1];exact ad5 _ _ _
 have ROW1:Hid (w1.heap[w.heap.size]? = some (.cells #[.int .i64 x.op,.int .i64 x.a,.int .i64 x.b,.int .i64 x.c,.int .i64 x.n,.int .i64 x.exit,.int .i64 x.k.kind,.int .i64 x.k.n] 92 (0,0))):=by rw[hw1];exact aJ _ _
 have HK:=hI K
 have L1:=hI (L.below K K1.out)
 have CC:=hI (nY K L1.out hy hl)
 rw[←hka] at CC
 have HSH:=hI hsh
 have HXW:=hI hxw
 clear hka hkb hy3 hm hsv hsh hxw
 have HV:=hI hvv
 have HW1:=hI hw1
 have g1:=HB1.out 1 _ rfl
 clear hw1 L K hvv hb ha hxn
 obtain⟨i0,hi0,hq⟩:=Option.map_eq_some_iff.1 lH
 simp only[Prod.mk.injEq] at hq
 obtain⟨hz,hz1,hz2⟩:=hq
 obtain⟨z,hz0,hz3⟩:=Option.map_eq_some_iff.1 hz
 have HI:=hI hi0
 have HZ:=hI hz0
 have HZ1:=hI hz1
 have HZ2:=hI hz2
 have HZ3:=hI hz3
 clear hi0 hz0 hz1 hz2 hz3 hz
 obtain⟨W',hW'⟩:∃W',(jT Γ.shapes W x).1=W':=⟨_,rfl⟩
 obtain⟨q,hq⟩:∃q,(jT Γ.shapes W x).2=q:=⟨_,rfl⟩
 rw[hW',hq]
 have HW:=hI hW'
 have HQ:=hI hq
 clear hW' hq
 go_enter Tryz.func148,Tryz.ntmps148
 go_wp2_with fail
 rw[←HW1.out]
 refine CC.out.mono ?_
 rintro e w2 ⟨rfl,k2⟩
 have K12:=hI k2
 have K2:=btZ K1 k2
 have L2:=hI (L1.out.below HK.out k2)
 have ROW2:Hid (w2.heap[w.heap.size]? = some (.cells #[.int .i64 x.op,.int .i64 x.a,.int .i64 x.b,.int .i64 x.c,.int .i64 x.n,.int .i64 x.exit,.int .i64 x.k.kind,.int .i64 x.k.n] 92 (0,0))):=by
  show _=_
  rw[k2.block _ (aV ROW1.out)];exact ROW1.out
 clear k2 g1
 cases hcell:eF W x.a with
 | none=>
  rw[eV hcell]
  have HN:Hid ((W,(2:Int))=(W',q)):=by rw[←HW.out,←HQ.out];unfold jT;rw[hcell];rfl
  go_wp2_with fail
  go_ret
  have e1:=congrArg Prod.fst HN.out
  have e2:=congrArg Prod.snd HN.out
  dsimp only at e1 e2
  subst e1;subst e2
  exact⟨rfl,⟨_,_,_,_,L2.out⟩,aQ.of K2.out⟩
 | some p=>
  obtain⟨n,c⟩:=p
  obtain⟨gc,cc,v,f,vA,vc,hcv,hc,hv,hf,hvs,hpt,c0,c1,c2,c3,hgc⟩:=L2.out.atCell hcell
  rw[hpt]
  subst hvs
  have HCV:=hI hcv
  have HC:=hI hc
  have HVN:=hI hv
  have HF:=hI hf
  have C1:=hI c1
  have C2:=hI c2
  have HS:Hid ((if c.kind≠1 then(W,(2:Int)) else match Γ.shapes[m]? with | none=>(W,1) | some s=>if s.up≠c.num∨100≤c.vals.length then(W,1) else(setCW W n { c with num:=m,vals:=c.vals++[y3] },0))=(W',q)):=by
   rw[←HW.out,←HQ.out];unfold jT;rw[hcell,HKB.out,HM.out,fR HY3.out];show _=_;rfl
  clear hcell c1 c2 c3 hc hv hf hpt HW HQ hcv
  by_cases h1:c.kind=1
  ·rw[h1] at c0
   have H1:=hI h1
   clear h1
   by_cases hmS:m < Γ.shapes.length
   ·obtain⟨sb,soff,hSA,hsq,hsr⟩:=HSH.out (by omega)
    subst hSA
    obtain⟨s,hs⟩:∃s,Γ.shapes[m]? = some s:=⟨_,lG hmS⟩
    obtain⟨scs,-,⟨rfl,-,-⟩,hsat⟩:=hsr m s hs
    have hmi:(m:Int) < Γ.shapes.length:=by omega
    have hmn:¬ Γ.shapes.length≤m:=by omega
    have HSS:Hid ((if s.up≠c.num∨100≤c.vals.length then(W,(1:Int)) else(setCW W n { c with num:=m,vals:=c.vals++[y3] },0))=(W',q)):=by
     have:=HS.out
     rw[if_neg (fun h=>h H1.out),hs] at this
     exact this
    clear hs hsr
    have a0:∀E:Up w2,E.to.cell? ⟨w.heap.size,4,none⟩=some (.int .i64 m):=fun E=>E.cell (by rw[←HM.out];exact aC K12.out (HB1.out 4 _ rfl))
    have a1:∀E:Up w2,E.to.cell? ⟨Γ.wb,14,none⟩=some (.slice (some ⟨sb,soff,none⟩) Γ.shapes.length sc):=fun E=>E.cell (by rw[←HSV.out];exact L2.out.own HK.out 1)
    have a2:∀E:Up w2,E.to.cell? ⟨sb,soff+m*2,none⟩=some (.int .i64 s.up):=fun E=>E.cell ((L2.out.held ⟨sb,_,none⟩ hsq).trans (hsat 0 _ rfl))
    have a3:=ecZ C1.out
    clear hsat hsq
    by_cases hup:s.up=c.num
    ·rw[hup] at a2
     have HUP:=hI hup
     clear hup
     have a4:=ecZ C2.out
     by_cases h100:c.vals.length<100
     ·have h100i:¬ 100≤c.vals.length:=by omega
      have HN:Hid ((setCW W n { c with num:=m,vals:=c.vals++[y3] },(0:Int))=(W',q)):=by
       show _=_
       rw[←HSS.out,if_neg (fun h=>h.elim (fun h=>h HUP.out) h100i)]
      go_upto_region 4 with fail
      refine aD (by kernel_rfl) (by kernel_rfl) ?_
      repeat (go_big_quiet_step (fail))
      refine wpQuiet_nil ?_
      rintro _ ⟨E,rfl⟩
      obtain⟨w3,k3⟩:=E
      dsimp only
      have K3:=btZ K2 k3
      have L3:=hI (L2.out.below HK.out k3)
      have K23:=hI k3
      clear k3 c0 a0 a1 a2 a3 a4
      go_upto_region 6 with fail
      have HBOX:Hid (aA w3 w.heap.size [.int .i64 x.op,.int .i64 x.a,.int .i64 x.b,.int .i64 x.c,.int .i64 x.n,.int .i64 x.exit,.int .i64 x.k.kind,.int .i64 x.k.n]):=fun i v hv=>aC (K12.out.trans (K23.out.mono K12.out.size)) (HB1.out i v hv)
      have ROW3:Hid (w3.heap[w.heap.size]? = some (.cells #[.int .i64 x.op,.int .i64 x.a,.int .i64 x.b,.int .i64 x.c,.int .i64 x.n,.int .i64 x.exit,.int .i64 x.k.kind,.int .i64 x.k.n] 92 (0,0))):=by
       show _=_
       rw[K23.out.block _ (aV ROW2.out)];exact ROW2.out
      have C3:Hid (w3.cell? ⟨gc,n*4+2,none⟩=some (.slice vA c.vals.length vc)):=aC K23.out C2.out
      have OW:=hI (L3.out.vals)
      rw[HV.out] at OW
      have OV3:=hI (L3.out.cvals n _ c HVN.out HC.out)
      obtain⟨L,hL⟩:∃L:List (Addr×Value),L=[(⟨Γ.wb,17,none⟩,.slice (some ⟨g,0,none⟩) W.vals.length cap),(⟨gc,n*4+2,none⟩,.slice vA c.vals.length vc),(⟨w.heap.size,2,none⟩,.int .i64 kb),(⟨w.heap.size,4,none⟩,.int .i64 m),(⟨g,kb*2,none⟩,.int .i64 y3.kind),(⟨g,kb*2+1,none⟩,.int .i64 y3.n)]:=⟨_,rfl⟩
      have CA3:Hid (∀p∈L,w3.cell? p.1=some p.2∧p.1.block<w3.heap.size∧(Value.slice vA c.vals.length vc).ownBlock≠some p.1.block):=by
       show ∀p∈L,_
       rw[hL]
       have hown:∀(g':Nat) (cs:Array Value) (e:TypeId),w3.heap[g']? = some (.cells cs e (0,0))→e≠48→(Value.slice vA c.vals.length vc).ownBlock≠some g':=fun g' cs e h he ht=>by
        obtain⟨cs',h'⟩:=aX OV3.out ht
        exact bJ h h' he rfl
       intro p hp
       simp only[List.mem_cons,List.not_mem_nil,or_false] at hp
       have CR:=L3.out.crow
       rw[HCV.out] at CR
       obtain⟨gcs,hgcs⟩:=aX CR (g:=gc) rfl
       have hgne:(Value.slice vA c.vals.length vc).ownBlock≠some g:=fun ht=>(L3.out.ap2 n _ g HVN.out ht).1 (by rw[HV.out];rfl)
       have hglt:=(OW.out.lt g rfl).2
       rcases hp with rfl | rfl | rfl | rfl | rfl | rfl
       ·exact⟨by have h:=L3.out.own HK.out 4;rw[HV.out] at h;exact h,aV L3.out.row,hown _ _ _ L3.out.row (by decide)⟩
       ·exact⟨C3.out,aV hgcs,hown _ _ _ hgcs (by decide)⟩
       ·exact⟨by rw[←HKB.out];exact HBOX.out 2 _ rfl,aV ROW3.out,hown _ _ _ ROW3.out (by decide)⟩
       ·exact⟨by rw[←HM.out];exact HBOX.out 4 _ rfl,aV ROW3.out,hown _ _ _ ROW3.out (by decide)⟩
       ·exact⟨by rw[OW.out.cellAt (kb*2) (by omega)];exact bS HY3.out (k:=0) (by decide),hglt,hgne⟩
       ·exact⟨by rw[OW.out.cellAt (kb*2+1) (by omega)];exact bS HY3.out (k:=1) (by decide),hglt,hgne⟩
      have d0:∀E:cI L,E.wd.cell? ⟨Γ.wb,17,none⟩=some (.slice (some ⟨g,0,none⟩) W.vals.length cap):=fun E=>E.here (_,_) (by rw[hL];simp)
      have d1:∀E:cI L,E.wd.cell? ⟨gc,n*4+2,none⟩=some (.slice vA c.vals.length vc):=fun E=>E.here (_,_) (by rw[hL];simp)
      have d2:∀E:cI L,E.wd.cell? ⟨w.heap.size,2,none⟩=some (.int .i64 kb):=fun E=>E.here (_,_) (by rw[hL];simp)
      have d3:∀E:cI L,E.wd.cell? ⟨w.heap.size,4,none⟩=some (.int .i64 m):=fun E=>E.here (_,_) (by rw[hL];simp)
      have d4:∀E:cI L,E.wd.cell? ⟨g,kb*2,none⟩=some (.int .i64 y3.kind):=fun E=>E.here (_,_) (by rw[hL];simp)
      have d5:∀E:cI L,E.wd.cell? ⟨g,kb*2+1,none⟩=some (.int .i64 y3.n):=fun E=>E.here (_,_) (by rw[hL];simp)
      have CLS:Hid (∀W',Below w3.heap.size w3 W'→∃E:cI L,W'=E.wd):=fun W' k=>⟨⟨W',fun p hp=>(k.cell (CA3.out p hp).2.1).trans (CA3.out p hp).1⟩,rfl⟩
      clear hL
      haveI:Nonempty (cI L):=⟨(CLS.out w3 (Below.refl _ _)).choose⟩
      refine gG (fun w'=>∃E:cI L,w'=E.wd) [0,1] [2,3,4,5,6,7,8,9,10,11,12,13,14,15] [16,17,18,19,20,21,22,23] [16,17] _ (by kernel_rfl) (by kernel_rfl) (by simp only[List.cons_append,List.nil_append,List.filterMap_cons,List.filterMap_nil,List.getElem?_toArray,List.getElem?_cons_zero,List.getElem?_cons_succ];rfl) (fun _ _ d _ _ h=>by cases d <;> exact h) (CLS.out _ (Below.refl _ w3).drew) ?_
      generalize hqq:(fun a'=>gA _ _ _ _ _ _ a' _)=qq
      have HQQ:=hI hqq
      clear hqq
      show wpQuiet _ _ _ _ [_,_,_,_,_,_,_,_,_,_,_,_,_,_,_,_] _
      repeat (go_big_quiet_step (fail))
      refine wpQuiet_nil ?_
      rw[←HQQ.out]
      clear HQQ qq d0 d1 d2 d3 d4 d5
      refine bA rfl (fun K hK=>?_)
      go_simp
      obtain⟨wa,hwa⟩:∃wa,wa=(w3.alloc (.cells #[.int .i64 y3.kind,.int .i64 y3.n] 48)).drew:=⟨_,rfl⟩
      have KA:Hid (Below w3.heap.size w3 wa):=by rw[hwa];exact((Below.refl _ w3).alloc (Nat.le_refl _) _).drew
      have BA:Hid (wa.heap[w3.heap.size]? = some (.cells #[.int .i64 y3.kind,.int .i64 y3.n] 48 (0,0))):=by rw[hwa];exact aJ w3 _
      have HWA:=hI hwa
      clear hwa
      refine hK _ _ (fun _=>by obtain⟨E,hE⟩:=CLS.out wa KA.out;exact⟨E,HWA.out.symm.trans hE⟩) ?_
      clear hK K
      have hsz3:w3.drew.heap.size=w3.heap.size:=rfl
      (try rw[hsz3])
      rw[←HWA.out]
      have LA:=hI (L3.out.below HK.out KA.out)
      have OV:=hI (LA.out.cvals n _ c HVN.out HC.out)
      have hbz : Γ.B≤wa.heap.size:=Nat.le_trans HK.out.b1 LA.out.size
      refine bA rfl (fun K hK=>?_)
      refine Eq.mpr (if_pos ?hw) ?_
      case hw=>rfl
      refine iK _ _ _ 23 rfl Γ.B 48 i0 z 2 16 Tryz.underlying23 HI.out HZ.out HZ1.out HZ2.out HZ3.out (by decide) (.slice vA c.vals.length vc) c.vals.length (c.vals.flatMap aZ) rfl OV.out ⟨w3.heap.size,0,none⟩ 1 1 [.int .i64 y3.kind,.int .i64 y3.n] rfl rfl (World.news_of_block (cs:=#[.int .i64 y3.kind,.int .i64 y3.n]) BA.out) ?k2 ?k3 ?k4 hbz ?_
      case k2=>intro u hu;simp at hu;rcases hu with rfl | rfl <;> rfl
      case k3=>unfold maxLen;omega
      case k4=>omega
      intro v' w6 hown hg hbb0
      obtain⟨A',c',rfl⟩:=bV hown
      have HBB:=hI hbb0
      have OWN:=hI hown
      have GR:=hI hg
      have ON6:Hid (cA (fun k=>(Value.slice vA c.vals.length vc).ownBlock=some k) wa w6):=cA.grown cA.refl hg (fun k hk=>hk)
      clear hown hg hbb0
      refine hK _ _ (fun _=>⟨⟨w6,fun p hp=>(World.cell?_of_block (ON6.out.block _ (Nat.lt_of_lt_of_le (CA3.out p hp).2.1 KA.out.size) (CA3.out p hp).2.2)).trans ((KA.out.cell (CA3.out p hp).2.1).trans (CA3.out p hp).1)⟩,rfl⟩) ?_
      clear hK K CLS CA3
      have CR6:Hid (w6.ownsRow Γ.B 55 4 (.slice (some ⟨gc,0,none⟩) W.cells.length cc) W.cells.length ((cK W.cells vs fs).flatMap id)):=by
       have h:=LA.out.crow
       rw[HCV.out] at h
       exact h.kept GR.out (.inr (fun e=>by
        obtain⟨cs,h1⟩:=aX h (g:=gc) rfl
        obtain⟨cs',h2⟩:=aX OV.out (g:=gc) (e ▸ rfl)
        exact bJ h1 h2 (by decide) rfl))
      have hn4:n*4+4≤W.cells.length*4:=by have:=(lE HC.out).1;omega
      have e1:w6.cell? ⟨gc,n*4+1,none⟩=some (.int .i64 c.num):=by
       rw[CR6.out.cellAt (n*4+1) (by omega)]
       exact b9 _ n 1 _ (g8 _ _ _) (eP _ _ _ n _ _ _ HC.out HVN.out HF.out) (by decide)
      have z1:=CR6.out.frozenAt (n*4+1)
      have e2:w6.cell? ⟨gc,n*4+2,none⟩=some (.slice vA c.vals.length vc):=by
       rw[CR6.out.cellAt (n*4+2) (by omega)]
       exact b9 _ n 2 _ (g8 _ _ _) (eP _ _ _ n _ _ _ HC.out HVN.out HF.out) (by decide)
      have z2:=CR6.out.frozenAt (n*4+2)
      refine bP [18,19,20,21,22,23] _ _ (by kernel_rfl) (by kernel_rfl) ?_
      simp only[List.filterMap_cons,List.filterMap_nil,List.getElem?_toArray,List.getElem?_cons_zero,List.getElem?_cons_succ]
      go_upto_region 7 with fail
      generalize hw7:World.setCell _ _ _=w7
      have S7:=adK CR6.out LA.out.lv LA.out.lf HC.out HVN.out HF.out (.slice A' (c.vals.length+1) c') (c.vals++[y3]) (m:Int)
      rw[hw7] at S7
      have S77:=hI S7
      have ON7:Hid (cA (fun k=>(Value.slice vA c.vals.length vc).ownBlock=some k∨cv.ownBlock=some k) wa w7):=by
       rw[←hw7]
       exact((ON6.out.mono fun _ _ h=>.inl h).set (.inr (by rw[HCV.out];rfl)) _ _).set (.inr (by rw[HCV.out];rfl)) _ _
      have O7:Hid (w7.ownsRow Γ.B 48 2 (.slice A' (c.vals.length+1) c') (c.vals++[y3]).length ((c.vals++[y3]).flatMap aZ)):=by
       rw[←hw7]
       have h:=iS (j:=n*4+1) (u:=.int .i64 (m:Int)) OWN.out CR6.out (by decide)
       have h:=iS (j:=n*4+2) (u:=.slice A' (c.vals.length+1) c') h (CR6.out.stored (n*4+1) (.int .i64 (m:Int))).1 (by decide)
       rw[List.length_append,List.flatMap_append]
       exact h
      have wfn:WfC { c with num:=(m:Int),vals:=c.vals++[y3] }:=by
       have h:=LA.out.wfc c (List.mem_of_getElem? HC.out)
       refine⟨h.1,by have:=HXW.out;rw[HM.out] at this;exact this,fun y hy=>?_⟩
       rcases List.mem_append.1 (show y∈c.vals++[y3] from hy) with h1 | h1
       ·exact h.2.2 y h1
       ·rw[List.mem_singleton] at h1;rw[h1];exact LA.out.wfv y3 (List.mem_of_getElem? HY3.out)
      have L7:=hI (LA.out.putCell HK.out (c':={ c with num:=(m:Int),vals:=c.vals++[y3] }) HVN.out ON7.out (by rw[HCV.out];exact S77.out) O7.out HBB.out (LA.out.cfr n f c HF.out HC.out) wfn)
      have K7:Hid (aQ w w7):=(aQ.of (K3.out.trans (KA.out.mono K3.out.size))).trans (aeC ON7.out (fun k _ hk=>by
       rcases hk with hk | hk
       ·obtain⟨cs,h⟩:=aX OV.out hk
        exact⟨cs,_,h,.inr (.inr (.inr rfl))⟩
       ·obtain⟨cs,h⟩:=aX LA.out.crow hk
        exact⟨cs,_,h,.inr (.inr (.inl rfl))⟩))
      clear hw7 S7 e1 z1 e2 z2 wfn
      (try dsimp only [Act.put])
      go_wp2_with fail
      go_ret
      have e1:=congrArg Prod.fst HN.out
      have e2:=congrArg Prod.snd HN.out
      dsimp only at e1 e2
      subst e1;subst e2
      exact⟨rfl,⟨_,_,_,_,L7.out⟩,K7.out⟩
     ·have h100i:100≤c.vals.length:=by omega
      have HN:Hid ((W,(1:Int))=(W',q)):=by show _=_;rw[←HSS.out,if_pos (.inr h100i)]
      go_upto_region 4 with fail
      refine aD (by kernel_rfl) (by kernel_rfl) ?_
      repeat (go_big_quiet_step (fail))
      refine wpQuiet_nil ?_
      rintro _ ⟨E,rfl⟩
      obtain⟨w3,k3⟩:=E
      dsimp only
      have K3:=btZ K2 k3
      have L3:=hI (L2.out.below HK.out k3)
      have K23:=hI k3
      clear k3 c0 a0 a1 a2 a3 a4
      go_wp2_with fail
      go_ret
      have e1:=congrArg Prod.fst HN.out
      have e2:=congrArg Prod.snd HN.out
      dsimp only at e1 e2
      subst e1;subst e2
      exact⟨rfl,⟨_,_,_,_,L3.out⟩,aQ.of K3.out⟩
    ·have hupb:(s.up != c.num)=true:=by simpa using hup
     have HN:Hid ((W,(1:Int))=(W',q)):=by show _=_;rw[←HSS.out,if_pos (.inl hup)]
     clear hup
     go_upto_region 4 with fail
     refine aD (by kernel_rfl) (by kernel_rfl) ?_
     repeat (go_big_quiet_step (fail))
     refine wpQuiet_nil ?_
     rintro _ ⟨E,rfl⟩
     obtain⟨w3,k3⟩:=E
     dsimp only
     have K3:=btZ K2 k3
     have L3:=hI (L2.out.below HK.out k3)
     have K23:=hI k3
     clear k3 c0 a0 a1 a2 a3
     go_wp2_with fail
     go_ret
     have e1:=congrArg Prod.fst HN.out
     have e2:=congrArg Prod.snd HN.out
     dsimp only at e1 e2
     subst e1;subst e2
     exact⟨rfl,⟨_,_,_,_,L3.out⟩,aQ.of K3.out⟩
   ·have hmn : Γ.shapes.length≤m:=by omega
    have HN:Hid ((W,(1:Int))=(W',q)):=by
     show _=_
     rw[←HS.out,if_neg (fun h=>h H1.out),List.getElem?_eq_none hmn]
    have a0:∀E:Up w2,E.to.cell? ⟨w.heap.size,4,none⟩=some (.int .i64 m):=fun E=>E.cell (by rw[←HM.out];exact aC K12.out (HB1.out 4 _ rfl))
    have a1:∀E:Up w2,E.to.cell? ⟨Γ.wb,14,none⟩=some (.slice SA Γ.shapes.length sc):=fun E=>E.cell (by rw[←HSV.out];exact L2.out.own HK.out 1)
    go_upto_region 4 with fail
    refine aD (by kernel_rfl) (by kernel_rfl) ?_
    repeat (go_big_quiet_step (fail))
    refine wpQuiet_nil ?_
    rintro _ ⟨E,rfl⟩
    obtain⟨w3,k3⟩:=E
    dsimp only
    have K3:=btZ K2 k3
    have L3:=hI (L2.out.below HK.out k3)
    have K23:=hI k3
    clear k3 c0 a0 a1
    go_wp2_with fail
    go_ret
    have e1:=congrArg Prod.fst HN.out
    have e2:=congrArg Prod.snd HN.out
    dsimp only at e1 e2
    subst e1;subst e2
    exact⟨rfl,⟨_,_,_,_,L3.out⟩,aQ.of K3.out⟩
  ·have HN:Hid ((W,(2:Int))=(W',q)):=by show _=_;rw[←HS.out,if_pos h1]
   have hb2:(c.kind != 1)=true:=by simpa using h1
   go_wp2_with fail
   go_ret
   have e1:=congrArg Prod.fst HN.out
   have e2:=congrArg Prod.snd HN.out
   dsimp only at e1 e2
   subst e1;subst e2
   exact⟨rfl,⟨_,_,_,_,L2.out⟩,aQ.of K2.out⟩
end
end
end Go.Proofs.YtjaphgpkkfdaaaaGreatDoor
