/- A part of the walk. -/
import Derived.Test.YtjaphgpkkfdaaaaGreatDoorZV
set_option maxHeartbeats 16000000
set_option maxRecDepth 100000
set_option linter.all false
namespace Go.Proofs.YtjaphgpkkfdaaaaGreatDoor
open Tryz
section
open Go.RowKit
section
variable {Γ : kI} {w w':World} {W:aI} {cv vv:Value} {vs fs:List Value}
theorem push_c (K:hP Γ) (L:bO Γ w W cv vv vs fs) (hn:W.vals.length<=300) (hl:W.cells.length<=300) (x:bG) (ha:0<=x.a/\x.a<W.vals.length) (hb:0<=x.b/\x.b<W.vals.length) : Calls prog 152 #[.pointer (some ⟨Γ.wb,0,none⟩),.agg #[.int .i64 x.op,.int .i64 x.a,.int .i64 x.b,.int .i64 x.c,.int .i64 x.n,.int .i64 x.exit,.int .i64 x.k.kind,.int .i64 x.k.n]] w (sJ Γ (iT W x).1 (.int .i64 (iT W x).2) w):=by
 obtain⟨g,g4,g6,-,n8⟩:=L.vals.form (by omega);obtain⟨ka,g7⟩:∃ka:Nat,x.a=(ka:Int):=⟨x.a.toNat,by omega⟩;obtain⟨y,hy⟩:∃y,W.vals[ka]? = some y:=⟨_,lG (by omega)⟩;obtain⟨D,h0⟩:∃D:Nat,x.b=(D:Int):=⟨x.b.toNat,by omega⟩;have l0:D<W.vals.length:=by omega
 have n5:(D:Int)<W.vals.length:=by omega
 obtain⟨i,h4⟩:∃i,W.vals[D]? = some i:=⟨_,lG l0⟩;have e3:=hI h0;have R:=hI h4;obtain⟨w1,d7⟩:∃w1,w1=w.alloc (.cells #[.int .i64 x.op,.int .i64 x.a,.int .i64 x.b,.int .i64 x.c,.int .i64 x.n,.int .i64 x.exit,.int .i64 x.k.kind,.int .i64 x.k.n] 92):=⟨_,rfl⟩;have K1:Hid (Below w.heap.size w w1):=by rw[d7];exact aB _ _
 have d6:Hid (aA w1 w.heap.size [.int .i64 x.op,.int .i64 x.a,.int .i64 x.b,.int .i64 x.c,.int .i64 x.n,.int .i64 x.exit,.int .i64 x.k.kind,.int .i64 x.k.n]):=by rw[d7];exact ad5 _ _ _
 have HK:=hI K;have L1:=hI (L.below K K1.o);have CC:=hI (nY K L1.o hy hl);rw[<-g7] at CC;clear g7 h0 h4;have HV:=hI g6;have l4:=hI d7;have g1:=d6.o 1 _ rfl;clear d7 L K g6 hb ha;obtain⟨i0,h5,hq⟩:=Option.map_eq_some_iff.1 lH;simp only[Prod.mk.injEq] at hq;obtain⟨hz,h6,h7⟩:=hq;obtain⟨z,h8,h9⟩:=Option.map_eq_some_iff.1 hz;have HI:=hI h5;have HZ:=hI h8;have g0:=hI h6;have g2:=hI h7;have g3:=hI h9;clear h5 h8 h6 h7 h9 hz;obtain⟨S,f3⟩:∃S,(iT W x).1=S:=⟨_,rfl⟩;obtain⟨q,hq⟩:∃q,(iT W x).2=q:=⟨_,rfl⟩;rw[f3,hq];have HW:=hI f3;have HQ:=hI hq;clear f3 hq;go_enter func152,ntmps152;go_wp2_with fail;rw[<-l4.o];refine CC.o.mono ?_;rintro e l ⟨rfl,k2⟩;have e4:=hI k2;have Y:=btZ K1 k2;have N:=hI (L1.o.below HK.o k2);clear k2 g1;have g5:=aC e4.o (d6.o 5 _ rfl);cases J:eF W x.a with
 | none=>
  rw[eV J]
  have r:Hid ((W,(2:Int))=(S,q)):=by rw[<-HW.o,<-HQ.o];unfold iT;rw[J];rfl
  go_wp2_with fail
  go_ret
  have s:=congrArg Prod.fst r.o
  have m:=congrArg Prod.snd r.o
  dsimp only at s m
  subst s;subst m
  exact⟨rfl,⟨_,_,_,_,N.o⟩,aQ.of Y.o⟩
 | some p=>
  obtain⟨n,c⟩:=p
  obtain⟨gc,cc,v,f,vA,vc,i1,hc,hv,hf,m6,i2,c0,c1,c2,c3,n9⟩:=N.o.atCell J
  rw[i2]
  subst m6
  have a5:=hI i1
  have P:=hI hc
  have O:=hI hv
  have HF:=hI hf
  have C2:=hI c2
  have HS:Hid ((if c.kind≠2/\c.kind≠3 then(W,(2:Int)) else if c.vals.length<100 then(setCW W n { c with vals:=c.vals++[i] },0) else if x.exit<0 then(W,2) else(W,1))=(S,q)):=by
   rw[<-HW.o,<-HQ.o];unfold iT;rw[J,e3.o,fR R.o];show _=_;rfl
  clear J c1 c3 hc hv hf i2 HW HQ i1
  by_cases Z:c.kind=2
  ·rw[Z] at c0
   have H2:=hI Z
   clear Z
   by_cases G:c.vals.length<100
   ·have a7:(c.vals.length:Int)<100:=by omega
    have r:Hid ((setCW W n { c with vals:=c.vals++[i] },(0:Int))=(S,q)):=by
     show _=_
     rw[<-HS.o,if_neg (λh=>h.1 H2.o),if_pos G]
    go_upto_region 5 with fail
    have a0:∀E:Up l,E.to.cell? ⟨Γ.wb,17,none⟩=some (.slice (some ⟨g,0,none⟩) W.vals.length g4):=λE=>E.cell (by have h:=N.o.own HK.o 4;rw[HV.o] at h;exact h)
    have a1:=ecZ C2.o
    have a2:∀E:Up l,E.to.cell? ⟨w.heap.size,2,none⟩=some (.int .i64 D):=λE=>E.cell (by rw[<-e3.o];exact aC e4.o (d6.o 2 _ rfl))
    have OW:=hI (N.o.vals)
    rw[HV.o] at OW
    have a3:∀E:Up l,E.to.cell? ⟨g,D*2,none⟩=some (.int .i64 i.kind):=λE=>E.cell (by rw[OW.o.cellAt (D*2) (by omega)];exact bS R.o (k:=0) (by decide))
    have a4:∀E:Up l,E.to.cell? ⟨g,D*2+1,none⟩=some (.int .i64 i.n):=λE=>E.cell (by rw[OW.o.cellAt (D*2+1) (by omega)];exact bS R.o (k:=1) (by decide))
    refine gG (λw'=>∃E:Up l,w'=E.to) [0] [1,2,3,4,5,6,7,8,9,10,11,12] [13,14,15,16,17] [13] _ (by kernel_rfl) (by kernel_rfl) (by simp only[List.cons_append,List.nil_append,List.filterMap_cons,List.filterMap_nil,List.getElem?_toArray,List.getElem?_cons_zero,List.getElem?_cons_succ];rfl) (λ_ _ d _ _ h=>by cases d <;> exact h) ⟨⟨_,(Below.refl _ l).drew⟩,rfl⟩ ?_
    generalize c6:(λa'=>gA _ _ _ _ _ _ a' _)=qq
    have a9:=hI c6
    clear c6
    show wpQuiet _ _ _ _ [_,_,_,_,_,_,_,_,_,_,_,_,_] _
    repeat (go_big_quiet_step (fail))
    refine wpQuiet_nil ?_
    rw[<-a9.o]
    clear a9 qq a0 a1 a2 a3 a4
    refine bA rfl (λK X=>?_)
    go_simp
    obtain⟨C,I⟩:∃C,C=(l.alloc (.cells #[.int .i64 i.kind,.int .i64 i.n] 48)).drew:=⟨_,rfl⟩
    have KA:Hid (Below l.heap.size l C):=by rw[I];exact((Below.refl _ l).alloc (Nat.le_refl _) _).drew
    have BA:Hid (C.heap[l.heap.size]? = some (.cells #[.int .i64 i.kind,.int .i64 i.n] 48 (0,0))):=by rw[I];exact aJ l _
    have b0:=hI I
    clear I
    refine X _ _ (λ_=>⟨⟨C,KA.o⟩,b0.o.symm⟩) ?_
    clear X K
    have d0:l.drew.heap.size=l.heap.size:=rfl
    (try rw[d0])
    rw[<-b0.o]
    have A:=hI (N.o.below HK.o KA.o)
    have OV:=hI (A.o.cvals n _ c O.o P.o)
    have e5 : Γ.B<=C.heap.size:=Nat.le_trans HK.o.b1 A.o.size
    refine bA rfl (λK X=>?_)
    refine Eq.mpr (if_pos ?hw) ?_
    case hw=>rfl
    refine iK _ _ _ 23 rfl Γ.B 48 i0 z 2 16 underlying23 HI.o HZ.o g0.o g2.o g3.o (by decide) (.slice vA c.vals.length vc) c.vals.length (c.vals.flatMap aZ) rfl OV.o ⟨l.heap.size,0,none⟩ 1 1 [.int .i64 i.kind,.int .i64 i.n] rfl rfl (World.news_of_block (cs:=#[.int .i64 i.kind,.int .i64 i.n]) BA.o) ?k2 ?k3 ?k4 e5 ?_
    case k2=>intro u hu;simp at hu;rcases hu with rfl | rfl <;> rfl
    case k3=>unfold maxLen;omega
    case k4=>omega
    intro v' w6 F hg V
    obtain⟨A',c',rfl⟩:=bV F
    have e6:=hI V
    have e7:=hI F
    have GR:=hI hg
    have e9:Hid (cA (λk=>(Value.slice vA c.vals.length vc).ownBlock=some k) C w6):=cA.grown cA.refl hg (λk hk=>hk)
    clear F hg V
    refine X _ _ (λh=>by cases h) ?_
    clear X K
    have H:Hid (w6.ownsRow Γ.B 55 4 (.slice (some ⟨gc,0,none⟩) W.cells.length cc) W.cells.length ((cK W.cells vs fs).flatMap id)):=by
     have h:=A.o.crow
     rw[a5.o] at h
     exact h.kept GR.o (.inr (λe=>by
      obtain⟨cs,h1⟩:=aX h (g:=gc) rfl
      obtain⟨m8,Z⟩:=aX OV.o (g:=gc) (e ▸ rfl)
      exact bJ h1 Z (by decide) rfl))
    have f0:n*4+2<W.cells.length*4:=by have:=(lE P.o).1;omega
    have m:w6.cell? ⟨gc,n*4+2,none⟩=some (.slice vA c.vals.length vc):=by
     rw[H.o.cellAt (n*4+2) f0]
     exact b9 _ n 2 _ (g8 _ _ _) (eP _ _ _ n _ _ _ P.o O.o HF.o) (by decide)
    have z2:=H.o.frozenAt (n*4+2)
    refine bP [15,16,17] _ _ (by kernel_rfl) (by kernel_rfl) ?_
    simp only[List.filterMap_cons,List.filterMap_nil,List.getElem?_toArray,List.getElem?_cons_zero,List.getElem?_cons_succ]
    go_upto_region 6 with fail
    generalize M:World.setCell _ _ _=w7
    have S7:=t8 H.o A.o.lv A.o.lf P.o O.o HF.o (.slice A' (c.vals.length+1) c') (c.vals++[i])
    rw[M] at S7
    have f1:=hI S7
    have b2:Hid (cA (λk=>(Value.slice vA c.vals.length vc).ownBlock=some k\/cv.ownBlock=some k) C w7):=by
     rw[<-M]
     exact(e9.o.mono λ_ _ h=>.inl h).set (.inr (by rw[a5.o];rfl)) _ _
    have O7:Hid (w7.ownsRow Γ.B 48 2 (.slice A' (c.vals.length+1) c') (c.vals++[i]).length ((c.vals++[i]).flatMap aZ)):=by
     rw[<-M]
     have h:=iS (j:=n*4+2) (u:=.slice A' (c.vals.length+1) c') e7.o H.o (by decide)
     rw[List.length_append,List.flatMap_append]
     exact h
    have b3:WfC { c with vals:=c.vals++[i] }:=by
     have h:=A.o.wfc c (lM P.o)
     refine⟨h.1,h.2.1,λy hy=>?_⟩
     rcases List.mem_append.1 (show y∈c.vals++[i] from hy) with h1 | h1
     ·exact h.2.2 y h1
     ·rw[List.mem_singleton] at h1;rw[h1];exact A.o.wfv i (lM R.o)
    have L7:=hI (A.o.putCell HK.o (c':={ c with vals:=c.vals++[i] }) O.o b2.o (by rw[a5.o];exact f1.o) O7.o e6.o (A.o.cfr n f c HF.o P.o) b3)
    have K7:Hid (aQ w w7):=(aQ.of (Y.o.trans (KA.o.mono Y.o.size))).trans (aeC b2.o (λk _ hk=>by
     rcases hk with hk | hk
     ·obtain⟨cs,h⟩:=aX OV.o hk
      exact⟨cs,_,h,.inr (.inr (.inr rfl))⟩
     ·obtain⟨cs,h⟩:=aX A.o.crow hk
      exact⟨cs,_,h,.inr (.inr (.inl rfl))⟩))
    clear M S7 m z2 b3
    (try dsimp only [Act.put])
    go_wp2_with fail
    go_ret
    have s:=congrArg Prod.fst r.o
    have m:=congrArg Prod.snd r.o
    dsimp only at s m
    subst s;subst m
    exact⟨rfl,⟨_,_,_,_,L7.o⟩,K7.o⟩
   ·have a7:¬(c.vals.length:Int)<100:=by omega
    by_cases c5:x.exit<0
    ·have r:Hid ((W,(2:Int))=(S,q)):=by show _=_;rw[<-HS.o,if_neg (λh=>h.1 H2.o),if_neg G,if_pos c5]
     go_wp2_with fail
     go_ret
     have s:=congrArg Prod.fst r.o
     have m:=congrArg Prod.snd r.o
     dsimp only at s m
     subst s;subst m
     exact⟨rfl,⟨_,_,_,_,N.o⟩,aQ.of Y.o⟩
    ·have r:Hid ((W,(1:Int))=(S,q)):=by show _=_;rw[<-HS.o,if_neg (λh=>h.1 H2.o),if_neg G,if_neg c5]
     go_wp2_with fail
     go_ret
     have s:=congrArg Prod.fst r.o
     have m:=congrArg Prod.snd r.o
     dsimp only at s m
     subst s;subst m
     exact⟨rfl,⟨_,_,_,_,N.o⟩,aQ.of Y.o⟩
  ·by_cases h3:c.kind=3
   ·rw[h3] at c0
    have H3:=hI h3
    clear Z h3
    by_cases G:c.vals.length<100
    ·have a7:(c.vals.length:Int)<100:=by omega
     have r:Hid ((setCW W n { c with vals:=c.vals++[i] },(0:Int))=(S,q)):=by
      show _=_
      rw[<-HS.o,if_neg (λh=>h.2 H3.o),if_pos G]
     go_upto_region 5 with fail
     have a0:∀E:Up l,E.to.cell? ⟨Γ.wb,17,none⟩=some (.slice (some ⟨g,0,none⟩) W.vals.length g4):=λE=>E.cell (by have h:=N.o.own HK.o 4;rw[HV.o] at h;exact h)
     have a1:=ecZ C2.o
     have a2:∀E:Up l,E.to.cell? ⟨w.heap.size,2,none⟩=some (.int .i64 D):=λE=>E.cell (by rw[<-e3.o];exact aC e4.o (d6.o 2 _ rfl))
     have OW:=hI (N.o.vals)
     rw[HV.o] at OW
     have a3:∀E:Up l,E.to.cell? ⟨g,D*2,none⟩=some (.int .i64 i.kind):=λE=>E.cell (by rw[OW.o.cellAt (D*2) (by omega)];exact bS R.o (k:=0) (by decide))
     have a4:∀E:Up l,E.to.cell? ⟨g,D*2+1,none⟩=some (.int .i64 i.n):=λE=>E.cell (by rw[OW.o.cellAt (D*2+1) (by omega)];exact bS R.o (k:=1) (by decide))
     refine gG (λw'=>∃E:Up l,w'=E.to) [0] [1,2,3,4,5,6,7,8,9,10,11,12] [13,14,15,16,17] [13] _ (by kernel_rfl) (by kernel_rfl) (by simp only[List.cons_append,List.nil_append,List.filterMap_cons,List.filterMap_nil,List.getElem?_toArray,List.getElem?_cons_zero,List.getElem?_cons_succ];rfl) (λ_ _ d _ _ h=>by cases d <;> exact h) ⟨⟨_,(Below.refl _ l).drew⟩,rfl⟩ ?_
     generalize c6:(λa'=>gA _ _ _ _ _ _ a' _)=qq
     have a9:=hI c6
     clear c6
     show wpQuiet _ _ _ _ [_,_,_,_,_,_,_,_,_,_,_,_,_] _
     repeat (go_big_quiet_step (fail))
     refine wpQuiet_nil ?_
     rw[<-a9.o]
     clear a9 qq a0 a1 a2 a3 a4
     refine bA rfl (λK X=>?_)
     go_simp
     obtain⟨C,I⟩:∃C,C=(l.alloc (.cells #[.int .i64 i.kind,.int .i64 i.n] 48)).drew:=⟨_,rfl⟩
     have KA:Hid (Below l.heap.size l C):=by rw[I];exact((Below.refl _ l).alloc (Nat.le_refl _) _).drew
     have BA:Hid (C.heap[l.heap.size]? = some (.cells #[.int .i64 i.kind,.int .i64 i.n] 48 (0,0))):=by rw[I];exact aJ l _
     have b0:=hI I
     clear I
     refine X _ _ (λ_=>⟨⟨C,KA.o⟩,b0.o.symm⟩) ?_
     clear X K
     have d0:l.drew.heap.size=l.heap.size:=rfl
     (try rw[d0])
     rw[<-b0.o]
     have A:=hI (N.o.below HK.o KA.o)
     have OV:=hI (A.o.cvals n _ c O.o P.o)
     have e5 : Γ.B<=C.heap.size:=Nat.le_trans HK.o.b1 A.o.size
     refine bA rfl (λK X=>?_)
     refine Eq.mpr (if_pos ?hw) ?_
     case hw=>rfl
     refine iK _ _ _ 23 rfl Γ.B 48 i0 z 2 16 underlying23 HI.o HZ.o g0.o g2.o g3.o (by decide) (.slice vA c.vals.length vc) c.vals.length (c.vals.flatMap aZ) rfl OV.o ⟨l.heap.size,0,none⟩ 1 1 [.int .i64 i.kind,.int .i64 i.n] rfl rfl (World.news_of_block (cs:=#[.int .i64 i.kind,.int .i64 i.n]) BA.o) ?k2 ?k3 ?k4 e5 ?_
     case k2=>intro u hu;simp at hu;rcases hu with rfl | rfl <;> rfl
     case k3=>unfold maxLen;omega
     case k4=>omega
     intro v' w6 F hg V
     obtain⟨A',c',rfl⟩:=bV F
     have e6:=hI V
     have e7:=hI F
     have GR:=hI hg
     have e9:Hid (cA (λk=>(Value.slice vA c.vals.length vc).ownBlock=some k) C w6):=cA.grown cA.refl hg (λk hk=>hk)
     clear F hg V
     refine X _ _ (λh=>by cases h) ?_
     clear X K
     have H:Hid (w6.ownsRow Γ.B 55 4 (.slice (some ⟨gc,0,none⟩) W.cells.length cc) W.cells.length ((cK W.cells vs fs).flatMap id)):=by
      have h:=A.o.crow
      rw[a5.o] at h
      exact h.kept GR.o (.inr (λe=>by
       obtain⟨cs,h1⟩:=aX h (g:=gc) rfl
       obtain⟨m8,Z⟩:=aX OV.o (g:=gc) (e ▸ rfl)
       exact bJ h1 Z (by decide) rfl))
     have f0:n*4+2<W.cells.length*4:=by have:=(lE P.o).1;omega
     have m:w6.cell? ⟨gc,n*4+2,none⟩=some (.slice vA c.vals.length vc):=by
      rw[H.o.cellAt (n*4+2) f0]
      exact b9 _ n 2 _ (g8 _ _ _) (eP _ _ _ n _ _ _ P.o O.o HF.o) (by decide)
     have z2:=H.o.frozenAt (n*4+2)
     refine bP [15,16,17] _ _ (by kernel_rfl) (by kernel_rfl) ?_
     simp only[List.filterMap_cons,List.filterMap_nil,List.getElem?_toArray,List.getElem?_cons_zero,List.getElem?_cons_succ]
     go_upto_region 6 with fail
     generalize M:World.setCell _ _ _=w7
     have S7:=t8 H.o A.o.lv A.o.lf P.o O.o HF.o (.slice A' (c.vals.length+1) c') (c.vals++[i])
     rw[M] at S7
     have f1:=hI S7
     have b2:Hid (cA (λk=>(Value.slice vA c.vals.length vc).ownBlock=some k\/cv.ownBlock=some k) C w7):=by
      rw[<-M]
      exact(e9.o.mono λ_ _ h=>.inl h).set (.inr (by rw[a5.o];rfl)) _ _
     have O7:Hid (w7.ownsRow Γ.B 48 2 (.slice A' (c.vals.length+1) c') (c.vals++[i]).length ((c.vals++[i]).flatMap aZ)):=by
      rw[<-M]
      have h:=iS (j:=n*4+2) (u:=.slice A' (c.vals.length+1) c') e7.o H.o (by decide)
      rw[List.length_append,List.flatMap_append]
      exact h
     have b3:WfC { c with vals:=c.vals++[i] }:=by
      have h:=A.o.wfc c (lM P.o)
      refine⟨h.1,h.2.1,λy hy=>?_⟩
      rcases List.mem_append.1 (show y∈c.vals++[i] from hy) with h1 | h1
      ·exact h.2.2 y h1
      ·rw[List.mem_singleton] at h1;rw[h1];exact A.o.wfv i (lM R.o)
     have L7:=hI (A.o.putCell HK.o (c':={ c with vals:=c.vals++[i] }) O.o b2.o (by rw[a5.o];exact f1.o) O7.o e6.o (A.o.cfr n f c HF.o P.o) b3)
     have K7:Hid (aQ w w7):=(aQ.of (Y.o.trans (KA.o.mono Y.o.size))).trans (aeC b2.o (λk _ hk=>by
      rcases hk with hk | hk
      ·obtain⟨cs,h⟩:=aX OV.o hk
       exact⟨cs,_,h,.inr (.inr (.inr rfl))⟩
      ·obtain⟨cs,h⟩:=aX A.o.crow hk
       exact⟨cs,_,h,.inr (.inr (.inl rfl))⟩))
     clear M S7 m z2 b3
     (try dsimp only [Act.put])
     go_wp2_with fail
     go_ret
     have s:=congrArg Prod.fst r.o
     have m:=congrArg Prod.snd r.o
     dsimp only at s m
     subst s;subst m
     exact⟨rfl,⟨_,_,_,_,L7.o⟩,K7.o⟩
    ·have a7:¬(c.vals.length:Int)<100:=by omega
     by_cases c5:x.exit<0
     ·have r:Hid ((W,(2:Int))=(S,q)):=by show _=_;rw[<-HS.o,if_neg (λh=>h.2 H3.o),if_neg G,if_pos c5]
      go_wp2_with fail
      go_ret
      have s:=congrArg Prod.fst r.o
      have m:=congrArg Prod.snd r.o
      dsimp only at s m
      subst s;subst m
      exact⟨rfl,⟨_,_,_,_,N.o⟩,aQ.of Y.o⟩
     ·have r:Hid ((W,(1:Int))=(S,q)):=by show _=_;rw[<-HS.o,if_neg (λh=>h.2 H3.o),if_neg G,if_neg c5]
      go_wp2_with fail
      go_ret
      have s:=congrArg Prod.fst r.o
      have m:=congrArg Prod.snd r.o
      dsimp only at s m
      subst s;subst m
      exact⟨rfl,⟨_,_,_,_,N.o⟩,aQ.of Y.o⟩
   ·have r:Hid ((W,(2:Int))=(S,q)):=by show _=_;rw[<-HS.o,if_pos ⟨Z,h3⟩]
    have n6:(c.kind != 2)=true:=by simpa using Z
    have n7:(c.kind != 3)=true:=by simpa using h3
    go_wp2_with fail
    go_ret
    have s:=congrArg Prod.fst r.o
    have m:=congrArg Prod.snd r.o
    dsimp only at s m
    subst s;subst m
    exact⟨rfl,⟨_,_,_,_,N.o⟩,aQ.of Y.o⟩
end
end
section
open Go.RowKit
section
variable {Γ : kI} {w w':World} {W:aI} {cv vv:Value} {vs fs:List Value}
theorem grow_c (K:hP Γ) (L:bO Γ w W cv vv vs fs) (hn:W.vals.length<=300) (hl:W.cells.length<=300) (x:bG) (ha:0<=x.a/\x.a<W.vals.length) (hb:0<=x.b/\x.b<W.vals.length) (q7:0<=x.n) (k9:wfi x.n) : Calls prog 148 #[.pointer (some ⟨Γ.wb,0,none⟩),.agg #[.int .i64 x.op,.int .i64 x.a,.int .i64 x.b,.int .i64 x.c,.int .i64 x.n,.int .i64 x.exit,.int .i64 x.k.kind,.int .i64 x.k.n]] w (sJ Γ (jT Γ.shapes W x).1 (.int .i64 (jT Γ.shapes W x).2) w):=by
 obtain⟨g,i3,i4,-,v3⟩:=L.vals.form (by omega);obtain⟨ka,i5⟩:∃ka:Nat,x.a=(ka:Int):=⟨x.a.toNat,by omega⟩;obtain⟨y,hy⟩:∃y,W.vals[ka]? = some y:=⟨_,lG (by omega)⟩;obtain⟨J,i6⟩:∃J:Nat,x.b=(J:Int):=⟨x.b.toNat,by omega⟩;have n0:J<W.vals.length:=by omega
 have u8:(J:Int)<W.vals.length:=by omega
 obtain⟨l,i9⟩:∃l,W.vals[J]? = some l:=⟨_,lG n0⟩;obtain⟨m,hm⟩:∃m:Nat,x.n=(m:Int):=⟨x.n.toNat,by omega⟩;obtain⟨SA,sc,j0,-,-,j1⟩:=K.sh;have HM:=hI hm;have h4:=hI j0;have h5:=hI i6;have c5:=hI i9;obtain⟨w1,b4⟩:∃w1,w1=w.alloc (.cells #[.int .i64 x.op,.int .i64 x.a,.int .i64 x.b,.int .i64 x.c,.int .i64 x.n,.int .i64 x.exit,.int .i64 x.k.kind,.int .i64 x.k.n] 92):=⟨_,rfl⟩;have K1:Hid (Below w.heap.size w w1):=by rw[b4];exact aB _ _
 have c6:Hid (aA w1 w.heap.size [.int .i64 x.op,.int .i64 x.a,.int .i64 x.b,.int .i64 x.c,.int .i64 x.n,.int .i64 x.exit,.int .i64 x.k.kind,.int .i64 x.k.n]):=by rw[b4];exact ad5 _ _ _
 have e4:Hid (w1.heap[w.heap.size]? = some (.cells #[.int .i64 x.op,.int .i64 x.a,.int .i64 x.b,.int .i64 x.c,.int .i64 x.n,.int .i64 x.exit,.int .i64 x.k.kind,.int .i64 x.k.n] 92 (0,0))):=by rw[b4];exact aJ _ _
 have M:=hI K;have L1:=hI (L.below K K1.o);have CC:=hI (nY K L1.o hy hl);rw[<-i5] at CC;have n4:=hI j1;have n5:=hI k9;clear i5 i6 i9 hm j0 j1 k9;have HV:=hI i4;have n6:=hI b4;have g1:=c6.o 1 _ rfl;clear b4 L K i4 hb ha q7;obtain⟨i0,j2,hq⟩:=Option.map_eq_some_iff.1 lH;simp only[Prod.mk.injEq] at hq;obtain⟨hz,j3,j4⟩:=hq;obtain⟨z,k0,k1⟩:=Option.map_eq_some_iff.1 hz;have HI:=hI j2;have HZ:=hI k0;have n7:=hI j3;have n8:=hI j4;have n9:=hI k1;clear j2 k0 j3 j4 k1 hz;obtain⟨G,f7⟩:∃G,(jT Γ.shapes W x).1=G:=⟨_,rfl⟩;obtain⟨q,hq⟩:∃q,(jT Γ.shapes W x).2=q:=⟨_,rfl⟩;rw[f7,hq];have HW:=hI f7;have HQ:=hI hq;clear f7 hq;go_enter func148,ntmps148;go_wp2_with fail;rw[<-n6.o];refine CC.o.mono ?_;rintro e w2 ⟨rfl,k2⟩;have c7:=hI k2;have K2:=btZ K1 k2;have R:=hI (L1.o.below M.o k2);have e5:Hid (w2.heap[w.heap.size]? = some (.cells #[.int .i64 x.op,.int .i64 x.a,.int .i64 x.b,.int .i64 x.c,.int .i64 x.n,.int .i64 x.exit,.int .i64 x.k.kind,.int .i64 x.k.n] 92 (0,0))):=by show _=_;rw[k2.block _ (aV e4.o)];exact e4.o
 clear k2 g1;cases I:eF W x.a with
 | none=>
  rw[eV I]
  have D:Hid ((W,(2:Int))=(G,q)):=by rw[<-HW.o,<-HQ.o];unfold jT;rw[I];rfl
  go_wp2_with fail
  go_ret
  have A:=congrArg Prod.fst D.o
  have C:=congrArg Prod.snd D.o
  dsimp only at A C
  subst A;subst C
  exact⟨rfl,⟨_,_,_,_,R.o⟩,aQ.of K2.o⟩
 | some p=>
  obtain⟨n,c⟩:=p
  obtain⟨gc,cc,v,f,V,X,k5,hc,hv,hf,p9,k6,c0,c1,c2,c3,v4⟩:=R.o.atCell I
  rw[k6]
  subst p9
  have b0:=hI k5
  have HC:=hI hc
  have N:=hI hv
  have HF:=hI hf
  have C1:=hI c1
  have C2:=hI c2
  have HS:Hid ((if c.kind≠1 then(W,(2:Int)) else match Γ.shapes[m]? with | none=>(W,1) | some s=>if s.up≠c.num\/100<=c.vals.length then(W,1) else(setCW W n { c with num:=m,vals:=c.vals++[l] },0))=(G,q)):=by
   rw[<-HW.o,<-HQ.o];unfold jT;rw[I,h5.o,HM.o,fR c5.o];show _=_;rfl
  clear I c1 c2 c3 hc hv hf k6 HW HQ k5
  by_cases h1:c.kind=1
  ·rw[h1] at c0
   have H1:=hI h1
   clear h1
   by_cases q8:m < Γ.shapes.length
   ·obtain⟨sb,f9,q4,k7,k8⟩:=n4.o (by omega)
    subst q4
    obtain⟨s,hs⟩:∃s,Γ.shapes[m]? = some s:=⟨_,lG q8⟩
    obtain⟨v5,-,⟨rfl,-,-⟩,g0⟩:=k8 m s hs
    have v0:(m:Int) < Γ.shapes.length:=by omega
    have h6:¬ Γ.shapes.length<=m:=by omega
    have e6:Hid ((if s.up≠c.num\/100<=c.vals.length then(W,(1:Int)) else(setCW W n { c with num:=m,vals:=c.vals++[l] },0))=(G,q)):=by
     have:=HS.o
     rw[if_neg (λh=>h H1.o),hs] at this
     exact this
    clear hs k8
    have a0:∀E:Up w2,E.to.cell? ⟨w.heap.size,4,none⟩=some (.int .i64 m):=λE=>E.cell (by rw[<-HM.o];exact aC c7.o (c6.o 4 _ rfl))
    have a1:∀E:Up w2,E.to.cell? ⟨Γ.wb,14,none⟩=some (.slice (some ⟨sb,f9,none⟩) Γ.shapes.length sc):=λE=>E.cell (by rw[<-h4.o];exact R.o.own M.o 1)
    have a2:∀E:Up w2,E.to.cell? ⟨sb,f9+m*2,none⟩=some (.int .i64 s.up):=λE=>E.cell ((R.o.held ⟨sb,_,none⟩ k7).trans (g0 0 _ rfl))
    have a3:=ecZ C1.o
    clear g0 k7
    by_cases a5:s.up=c.num
    ·rw[a5] at a2
     have o2:=hI a5
     clear a5
     have a4:=ecZ C2.o
     by_cases u7:c.vals.length<100
     ·have a6:¬ 100<=c.vals.length:=by omega
      have D:Hid ((setCW W n { c with num:=m,vals:=c.vals++[l] },(0:Int))=(G,q)):=by
       show _=_
       rw[<-e6.o,if_neg (λh=>h.elim (λh=>h o2.o) a6)]
      go_upto_region 4 with fail
      refine aD (by kernel_rfl) (by kernel_rfl) ?_
      repeat (go_big_quiet_step (fail))
      refine wpQuiet_nil ?_
      rintro _ ⟨E,rfl⟩
      obtain⟨r,k3⟩:=E
      dsimp only
      have K3:=btZ K2 k3
      have H:=hI (R.o.below M.o k3)
      have Z:=hI k3
      clear k3 c0 a0 a1 a2 a3 a4
      go_upto_region 6 with fail
      have f0:Hid (aA r w.heap.size [.int .i64 x.op,.int .i64 x.a,.int .i64 x.b,.int .i64 x.c,.int .i64 x.n,.int .i64 x.exit,.int .i64 x.k.kind,.int .i64 x.k.n]):=λi v hv=>aC (c7.o.trans (Z.o.mono c7.o.size)) (c6.o i v hv)
      have a7:Hid (r.heap[w.heap.size]? = some (.cells #[.int .i64 x.op,.int .i64 x.a,.int .i64 x.b,.int .i64 x.c,.int .i64 x.n,.int .i64 x.exit,.int .i64 x.k.kind,.int .i64 x.k.n] 92 (0,0))):=by
       show _=_
       rw[Z.o.block _ (aV e5.o)];exact e5.o
      have C3:Hid (r.cell? ⟨gc,n*4+2,none⟩=some (.slice V c.vals.length X)):=aC Z.o C2.o
      have OW:=hI (H.o.vals)
      rw[HV.o] at OW
      have o7:=hI (H.o.cvals n _ c N.o HC.o)
      obtain⟨L,hL⟩:∃L:List (Addr×Value),L=[(⟨Γ.wb,17,none⟩,.slice (some ⟨g,0,none⟩) W.vals.length i3),(⟨gc,n*4+2,none⟩,.slice V c.vals.length X),(⟨w.heap.size,2,none⟩,.int .i64 J),(⟨w.heap.size,4,none⟩,.int .i64 m),(⟨g,J*2,none⟩,.int .i64 l.kind),(⟨g,J*2+1,none⟩,.int .i64 l.n)]:=⟨_,rfl⟩
      have O:Hid (∀p∈L,r.cell? p.1=some p.2/\p.1.block<r.heap.size/\(Value.slice V c.vals.length X).ownBlock≠some p.1.block):=by
       show ∀p∈L,_
       rw[hL]
       have F:∀(g':Nat) (cs:Array Value) (e:TypeId),r.heap[g']? = some (.cells cs e (0,0))->e≠48->(Value.slice V c.vals.length X).ownBlock≠some g':=λg' cs e h he ht=>by
        obtain⟨q5,h'⟩:=aX o7.o ht
        exact bJ h h' he rfl
       intro p Y
       simp only[List.mem_cons,List.not_mem_nil,or_false] at Y
       have CR:=H.o.crow
       rw[b0.o] at CR
       obtain⟨v9,g2⟩:=aX CR (g:=gc) rfl
       have f1:(Value.slice V c.vals.length X).ownBlock≠some g:=λht=>(H.o.ap2 n _ g N.o ht).1 (by rw[HV.o];rfl)
       have f2:=(OW.o.lt g rfl).2
       rcases Y with rfl | rfl | rfl | rfl | rfl | rfl
       ·exact⟨by have h:=H.o.own M.o 4;rw[HV.o] at h;exact h,aV H.o.row,F _ _ _ H.o.row (by decide)⟩
       ·exact⟨C3.o,aV g2,F _ _ _ g2 (by decide)⟩
       ·exact⟨by rw[<-h5.o];exact f0.o 2 _ rfl,aV a7.o,F _ _ _ a7.o (by decide)⟩
       ·exact⟨by rw[<-HM.o];exact f0.o 4 _ rfl,aV a7.o,F _ _ _ a7.o (by decide)⟩
       ·exact⟨by rw[OW.o.cellAt (J*2) (by omega)];exact bS c5.o (k:=0) (by decide),f2,f1⟩
       ·exact⟨by rw[OW.o.cellAt (J*2+1) (by omega)];exact bS c5.o (k:=1) (by decide),f2,f1⟩
      have d0:∀E:cI L,E.wd.cell? ⟨Γ.wb,17,none⟩=some (.slice (some ⟨g,0,none⟩) W.vals.length i3):=λE=>E.here (_,_) (by rw[hL];simp)
      have d1:∀E:cI L,E.wd.cell? ⟨gc,n*4+2,none⟩=some (.slice V c.vals.length X):=λE=>E.here (_,_) (by rw[hL];simp)
      have d2:∀E:cI L,E.wd.cell? ⟨w.heap.size,2,none⟩=some (.int .i64 J):=λE=>E.here (_,_) (by rw[hL];simp)
      have d3:∀E:cI L,E.wd.cell? ⟨w.heap.size,4,none⟩=some (.int .i64 m):=λE=>E.here (_,_) (by rw[hL];simp)
      have d4:∀E:cI L,E.wd.cell? ⟨g,J*2,none⟩=some (.int .i64 l.kind):=λE=>E.here (_,_) (by rw[hL];simp)
      have d5:∀E:cI L,E.wd.cell? ⟨g,J*2+1,none⟩=some (.int .i64 l.n):=λE=>E.here (_,_) (by rw[hL];simp)
      have c8:Hid (∀G,Below r.heap.size r G->∃E:cI L,G=E.wd):=λG k=>⟨⟨G,λp Y=>(k.cell (O.o p Y).2.1).trans (O.o p Y).1⟩,rfl⟩
      clear hL
      haveI:Nonempty (cI L):=⟨(c8.o r (Below.refl _ _)).choose⟩
      refine gG (λw'=>∃E:cI L,w'=E.wd) [0,1] [2,3,4,5,6,7,8,9,10,11,12,13,14,15] [16,17,18,19,20,21,22,23] [16,17] _ (by kernel_rfl) (by kernel_rfl) (by simp only[List.cons_append,List.nil_append,List.filterMap_cons,List.filterMap_nil,List.getElem?_toArray,List.getElem?_cons_zero,List.getElem?_cons_succ];rfl) (λ_ _ d _ _ h=>by cases d <;> exact h) (c8.o _ (Below.refl _ r).drew) ?_
      generalize l0:(λa'=>gA _ _ _ _ _ _ a' _)=qq
      have h7:=hI l0
      clear l0
      show wpQuiet _ _ _ _ [_,_,_,_,_,_,_,_,_,_,_,_,_,_,_,_] _
      repeat (go_big_quiet_step (fail))
      refine wpQuiet_nil ?_
      rw[<-h7.o]
      clear h7 qq d0 d1 d2 d3 d4 d5
      refine bA rfl (λK hK=>?_)
      go_simp
      obtain⟨wa,c9⟩:∃wa,wa=(r.alloc (.cells #[.int .i64 l.kind,.int .i64 l.n] 48)).drew:=⟨_,rfl⟩
      have KA:Hid (Below r.heap.size r wa):=by rw[c9];exact((Below.refl _ r).alloc (Nat.le_refl _) _).drew
      have BA:Hid (wa.heap[r.heap.size]? = some (.cells #[.int .i64 l.kind,.int .i64 l.n] 48 (0,0))):=by rw[c9];exact aJ r _
      have h8:=hI c9
      clear c9
      refine hK _ _ (λ_=>by obtain⟨E,hE⟩:=c8.o wa KA.o;exact⟨E,h8.o.symm.trans hE⟩) ?_
      clear hK K
      have l9:r.drew.heap.size=r.heap.size:=rfl
      (try rw[l9])
      rw[<-h8.o]
      have S:=hI (H.o.below M.o KA.o)
      have OV:=hI (S.o.cvals n _ c N.o HC.o)
      have o9 : Γ.B<=wa.heap.size:=Nat.le_trans M.o.b1 S.o.size
      refine bA rfl (λK hK=>?_)
      refine Eq.mpr (if_pos ?hw) ?_
      case hw=>rfl
      refine iK _ _ _ 23 rfl Γ.B 48 i0 z 2 16 underlying23 HI.o HZ.o n7.o n8.o n9.o (by decide) (.slice V c.vals.length X) c.vals.length (c.vals.flatMap aZ) rfl OV.o ⟨r.heap.size,0,none⟩ 1 1 [.int .i64 l.kind,.int .i64 l.n] rfl rfl (World.news_of_block (cs:=#[.int .i64 l.kind,.int .i64 l.n]) BA.o) ?k2 ?k3 ?k4 o9 ?_
      case k2=>intro u hu;simp at hu;rcases hu with rfl | rfl <;> rfl
      case k3=>unfold maxLen;omega
      case k4=>omega
      intro v' w6 F hg g4
      obtain⟨A',c',rfl⟩:=bV F
      have p0:=hI g4
      have p1:=hI F
      have GR:=hI hg
      have h9:Hid (cA (λk=>(Value.slice V c.vals.length X).ownBlock=some k) wa w6):=cA.grown cA.refl hg (λk hk=>hk)
      clear F hg g4
      refine hK _ _ (λ_=>⟨⟨w6,λp Y=>(World.cell?_of_block (h9.o.block _ (Nat.lt_of_lt_of_le (O.o p Y).2.1 KA.o.size) (O.o p Y).2.2)).trans ((KA.o.cell (O.o p Y).2.1).trans (O.o p Y).1)⟩,rfl⟩) ?_
      clear hK K c8 O
      have P:Hid (w6.ownsRow Γ.B 55 4 (.slice (some ⟨gc,0,none⟩) W.cells.length cc) W.cells.length ((cK W.cells vs fs).flatMap id)):=by
       have h:=S.o.crow
       rw[b0.o] at h
       exact h.kept GR.o (.inr (λe=>by
        obtain⟨cs,h1⟩:=aX h (g:=gc) rfl
        obtain⟨q5,h2⟩:=aX OV.o (g:=gc) (e ▸ rfl)
        exact bJ h1 h2 (by decide) rfl))
      have v1:n*4+4<=W.cells.length*4:=by have:=(lE HC.o).1;omega
      have A:w6.cell? ⟨gc,n*4+1,none⟩=some (.int .i64 c.num):=by
       rw[P.o.cellAt (n*4+1) (by omega)]
       exact b9 _ n 1 _ (g8 _ _ _) (eP _ _ _ n _ _ _ HC.o N.o HF.o) (by decide)
      have z1:=P.o.frozenAt (n*4+1)
      have C:w6.cell? ⟨gc,n*4+2,none⟩=some (.slice V c.vals.length X):=by
       rw[P.o.cellAt (n*4+2) (by omega)]
       exact b9 _ n 2 _ (g8 _ _ _) (eP _ _ _ n _ _ _ HC.o N.o HF.o) (by decide)
      have z2:=P.o.frozenAt (n*4+2)
      refine bP [18,19,20,21,22,23] _ _ (by kernel_rfl) (by kernel_rfl) ?_
      simp only[List.filterMap_cons,List.filterMap_nil,List.getElem?_toArray,List.getElem?_cons_zero,List.getElem?_cons_succ]
      go_upto_region 7 with fail
      generalize d6:World.setCell _ _ _=w7
      have S7:=adK P.o S.o.lv S.o.lf HC.o N.o HF.o (.slice A' (c.vals.length+1) c') (c.vals++[l]) (m:Int)
      rw[d6] at S7
      have p2:=hI S7
      have i1:Hid (cA (λk=>(Value.slice V c.vals.length X).ownBlock=some k\/cv.ownBlock=some k) wa w7):=by
       rw[<-d6]
       exact((h9.o.mono λ_ _ h=>.inl h).set (.inr (by rw[b0.o];rfl)) _ _).set (.inr (by rw[b0.o];rfl)) _ _
      have O7:Hid (w7.ownsRow Γ.B 48 2 (.slice A' (c.vals.length+1) c') (c.vals++[l]).length ((c.vals++[l]).flatMap aZ)):=by
       rw[<-d6]
       have h:=iS (j:=n*4+1) (u:=.int .i64 (m:Int)) p1.o P.o (by decide)
       have h:=iS (j:=n*4+2) (u:=.slice A' (c.vals.length+1) c') h (P.o.stored (n*4+1) (.int .i64 (m:Int))).1 (by decide)
       rw[List.length_append,List.flatMap_append]
       exact h
      have i2:WfC { c with num:=(m:Int),vals:=c.vals++[l] }:=by
       have h:=S.o.wfc c (lM HC.o)
       refine⟨h.1,by have:=n5.o;rw[HM.o] at this;exact this,λy hy=>?_⟩
       rcases List.mem_append.1 (show y∈c.vals++[l] from hy) with h1 | h1
       ·exact h.2.2 y h1
       ·rw[List.mem_singleton] at h1;rw[h1];exact S.o.wfv l (lM c5.o)
      have L7:=hI (S.o.putCell M.o (c':={ c with num:=(m:Int),vals:=c.vals++[l] }) N.o i1.o (by rw[b0.o];exact p2.o) O7.o p0.o (S.o.cfr n f c HF.o HC.o) i2)
      have K7:Hid (aQ w w7):=(aQ.of (K3.o.trans (KA.o.mono K3.o.size))).trans (aeC i1.o (λk _ hk=>by
       rcases hk with hk | hk
       ·obtain⟨cs,h⟩:=aX OV.o hk
        exact⟨cs,_,h,.inr (.inr (.inr rfl))⟩
       ·obtain⟨cs,h⟩:=aX S.o.crow hk
        exact⟨cs,_,h,.inr (.inr (.inl rfl))⟩))
      clear d6 S7 A z1 C z2 i2
      (try dsimp only [Act.put])
      go_wp2_with fail
      go_ret
      have A:=congrArg Prod.fst D.o
      have C:=congrArg Prod.snd D.o
      dsimp only at A C
      subst A;subst C
      exact⟨rfl,⟨_,_,_,_,L7.o⟩,K7.o⟩
     ·have a6:100<=c.vals.length:=by omega
      have D:Hid ((W,(1:Int))=(G,q)):=by show _=_;rw[<-e6.o,if_pos (.inr a6)]
      go_upto_region 4 with fail
      refine aD (by kernel_rfl) (by kernel_rfl) ?_
      repeat (go_big_quiet_step (fail))
      refine wpQuiet_nil ?_
      rintro _ ⟨E,rfl⟩
      obtain⟨r,k3⟩:=E
      dsimp only
      have K3:=btZ K2 k3
      have H:=hI (R.o.below M.o k3)
      have Z:=hI k3
      clear k3 c0 a0 a1 a2 a3 a4
      go_wp2_with fail
      go_ret
      have A:=congrArg Prod.fst D.o
      have C:=congrArg Prod.snd D.o
      dsimp only at A C
      subst A;subst C
      exact⟨rfl,⟨_,_,_,_,H.o⟩,aQ.of K3.o⟩
    ·have t3:(s.up != c.num)=true:=by simpa using a5
     have D:Hid ((W,(1:Int))=(G,q)):=by show _=_;rw[<-e6.o,if_pos (.inl a5)]
     clear a5
     go_upto_region 4 with fail
     refine aD (by kernel_rfl) (by kernel_rfl) ?_
     repeat (go_big_quiet_step (fail))
     refine wpQuiet_nil ?_
     rintro _ ⟨E,rfl⟩
     obtain⟨r,k3⟩:=E
     dsimp only
     have K3:=btZ K2 k3
     have H:=hI (R.o.below M.o k3)
     have Z:=hI k3
     clear k3 c0 a0 a1 a2 a3
     go_wp2_with fail
     go_ret
     have A:=congrArg Prod.fst D.o
     have C:=congrArg Prod.snd D.o
     dsimp only at A C
     subst A;subst C
     exact⟨rfl,⟨_,_,_,_,H.o⟩,aQ.of K3.o⟩
   ·have h6 : Γ.shapes.length<=m:=by omega
    have D:Hid ((W,(1:Int))=(G,q)):=by
     show _=_
     rw[<-HS.o,if_neg (λh=>h H1.o),List.getElem?_eq_none h6]
    have a0:∀E:Up w2,E.to.cell? ⟨w.heap.size,4,none⟩=some (.int .i64 m):=λE=>E.cell (by rw[<-HM.o];exact aC c7.o (c6.o 4 _ rfl))
    have a1:∀E:Up w2,E.to.cell? ⟨Γ.wb,14,none⟩=some (.slice SA Γ.shapes.length sc):=λE=>E.cell (by rw[<-h4.o];exact R.o.own M.o 1)
    go_upto_region 4 with fail
    refine aD (by kernel_rfl) (by kernel_rfl) ?_
    repeat (go_big_quiet_step (fail))
    refine wpQuiet_nil ?_
    rintro _ ⟨E,rfl⟩
    obtain⟨r,k3⟩:=E
    dsimp only
    have K3:=btZ K2 k3
    have H:=hI (R.o.below M.o k3)
    have Z:=hI k3
    clear k3 c0 a0 a1
    go_wp2_with fail
    go_ret
    have A:=congrArg Prod.fst D.o
    have C:=congrArg Prod.snd D.o
    dsimp only at A C
    subst A;subst C
    exact⟨rfl,⟨_,_,_,_,H.o⟩,aQ.of K3.o⟩
  ·have D:Hid ((W,(2:Int))=(G,q)):=by show _=_;rw[<-HS.o,if_pos h1]
   have v2:(c.kind != 1)=true:=by simpa using h1
   go_wp2_with fail
   go_ret
   have A:=congrArg Prod.fst D.o
   have C:=congrArg Prod.snd D.o
   dsimp only at A C
   subst A;subst C
   exact⟨rfl,⟨_,_,_,_,R.o⟩,aQ.of K2.o⟩
end
end
end Go.Proofs.YtjaphgpkkfdaaaaGreatDoor
