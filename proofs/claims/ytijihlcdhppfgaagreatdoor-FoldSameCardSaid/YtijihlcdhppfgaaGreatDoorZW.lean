/- A part of the walk. -/
import Derived.Test.YtijihlcdhppfgaaGreatDoorZV
set_option maxHeartbeats 16000000
set_option maxRecDepth 100000
set_option linter.all false
namespace Go.Proofs.YtijihlcdhppfgaaGreatDoor
open Tryz
section
open Go.RowKit
section
variable {Γ : mW} {w w':World} {W:aG} {cv vv:Value} {vs fs:List Value}
theorem push_c (K:jZ Γ) (L:cC Γ w W cv vv vs fs) (hn:W.vals.length<=300) (hl:W.cells.length<=300) (x:aT) (ha:0<=x.a/\x.a<W.vals.length) (hb:0<=x.b/\x.b<W.vals.length) : Calls prog 239 #[.pointer (some ⟨Γ.wb,0,none⟩),.agg #[.int .i64 x.op,.int .i64 x.a,.int .i64 x.b,.int .i64 x.c,.int .i64 x.n,.int .i64 x.exit,.int .i64 x.k.kind,.int .i64 x.k.n]] w (xL Γ (j6 W x).1 (.int .i64 (j6 W x).2) w):=by
 obtain⟨g,h0,h4,-,o2⟩:=L.vals.form (by omega);obtain⟨ka,h5⟩:∃ka:Nat,x.a=(ka:Int):=⟨x.a.toNat,by omega⟩;obtain⟨y,hy⟩:∃y,W.vals[ka]? = some y:=⟨_,lG (by omega)⟩;obtain⟨H,h6⟩:∃H:Nat,x.b=(H:Int):=⟨x.b.toNat,by omega⟩;have l4:H<W.vals.length:=by omega
 have n9:(H:Int)<W.vals.length:=by omega
 obtain⟨l,h7⟩:∃l,W.vals[H]? = some l:=⟨_,lG l4⟩;have e6:=hI h6;have X:=hI h7;obtain⟨w1,e3⟩:∃w1,w1=w.alloc (.cells #[.int .i64 x.op,.int .i64 x.a,.int .i64 x.b,.int .i64 x.c,.int .i64 x.n,.int .i64 x.exit,.int .i64 x.k.kind,.int .i64 x.k.n] 53):=⟨_,rfl⟩;have K1:Hid (Below w.heap.size w w1):=by rw[e3];exact aA _ _
 have e0:Hid (aJ w1 w.heap.size [.int .i64 x.op,.int .i64 x.a,.int .i64 x.b,.int .i64 x.c,.int .i64 x.n,.int .i64 x.exit,.int .i64 x.k.kind,.int .i64 x.k.n]):=by rw[e3];exact akV _ _ _
 have HK:=hI K;have L1:=hI (L.below K K1.o);have CC:=hI (rN K L1.o hy hl);rw[<-h5] at CC;clear h5 h6 h7;have HV:=hI h4;have m1:=hI e3;have g1:=e0.o 1 _ rfl;clear e3 L K h4 hb ha;obtain⟨i0,h8,hq⟩:=Option.map_eq_some_iff.1 oF;simp only[Prod.mk.injEq] at hq;obtain⟨hz,h9,i1⟩:=hq;obtain⟨z,i2,i3⟩:=Option.map_eq_some_iff.1 hz;have HI:=hI h8;have HZ:=hI i2;have g4:=hI h9;have g6:=hI i1;have g7:=hI i3;clear h8 i2 h9 i1 i3 hz;obtain⟨Y,f9⟩:∃Y,(j6 W x).1=Y:=⟨_,rfl⟩;obtain⟨q,hq⟩:∃q,(j6 W x).2=q:=⟨_,rfl⟩;rw[f9,hq];have HW:=hI f9;have HQ:=hI hq;clear f9 hq;go_enter func239,ntmps239;go_wp2_with fail;rw[<-m1.o];refine CC.o.mono ?_;rintro e r ⟨rfl,k2⟩;have e7:=hI k2;have K2:=btZ K1 k2;have R:=hI (L1.o.below HK.o k2);clear k2 g1;have g5:=aC e7.o (e0.o 5 _ rfl);cases O:dG W x.a with
 | none=>
  rw[gS O]
  have A:Hid ((W,(2:Int))=(Y,q)):=by rw[<-HW.o,<-HQ.o];unfold j6;rw[O];rfl
  go_wp2_with fail
  go_ret
  have D:=congrArg Prod.fst A.o
  have s:=congrArg Prod.snd A.o
  dsimp only at D s
  subst D;subst s
  exact⟨rfl,⟨_,_,_,_,R.o⟩,aQ.of K2.o⟩
 | some p=>
  obtain⟨n,c⟩:=p
  obtain⟨gc,cc,v,f,vA,vc,i4,hc,hv,hf,n1,i5,c0,c1,c2,c3,o3⟩:=R.o.atCell O
  rw[i5]
  subst n1
  have a9:=hI i4
  have V:=hI hc
  have S:=hI hv
  have HF:=hI hf
  have C2:=hI c2
  have HS:Hid ((if c.kind≠2/\c.kind≠3 then(W,(2:Int)) else if c.vals.length<100 then(setCW W n { c with vals:=c.vals++[l] },0) else if x.exit<0 then(W,2) else(W,1))=(Y,q)):=by
   rw[<-HW.o,<-HQ.o];unfold j6;rw[O,e6.o,iJ X.o];show _=_;rfl
  clear O c1 c3 hc hv hf i5 HW HQ i4
  by_cases h2:c.kind=2
  ·rw[h2] at c0
   have H2:=hI h2
   clear h2
   by_cases J:c.vals.length<100
   ·have b2:(c.vals.length:Int)<100:=by omega
    have A:Hid ((setCW W n { c with vals:=c.vals++[l] },(0:Int))=(Y,q)):=by
     show _=_
     rw[<-HS.o,if_neg (λh=>h.1 H2.o),if_pos J]
    go_upto_region 5 with fail
    have a0:∀E:Up r,E.to.cell? ⟨Γ.wb,17,none⟩=some (.slice (some ⟨g,0,none⟩) W.vals.length h0):=λE=>E.cell (by have h:=R.o.own HK.o 4;rw[HV.o] at h;exact h)
    have a1:=ecZ C2.o
    have a2:∀E:Up r,E.to.cell? ⟨w.heap.size,2,none⟩=some (.int .i64 H):=λE=>E.cell (by rw[<-e6.o];exact aC e7.o (e0.o 2 _ rfl))
    have OW:=hI (R.o.vals)
    rw[HV.o] at OW
    have a3:∀E:Up r,E.to.cell? ⟨g,H*2,none⟩=some (.int .i64 l.kind):=λE=>E.cell (by rw[OW.o.cellAt (H*2) (by omega)];exact cF X.o (k:=0) (by decide))
    have a4:∀E:Up r,E.to.cell? ⟨g,H*2+1,none⟩=some (.int .i64 l.n):=λE=>E.cell (by rw[OW.o.cellAt (H*2+1) (by omega)];exact cF X.o (k:=1) (by decide))
    refine fP (λw'=>∃E:Up r,w'=E.to) [0] [1,2,3,4,5,6,7,8,9,10,11,12] [13,14,15,16,17] [13] _ (by kernel_rfl) (by kernel_rfl) (by simp only[List.cons_append,List.nil_append,List.filterMap_cons,List.filterMap_nil,List.getElem?_toArray,List.getElem?_cons_zero,List.getElem?_cons_succ];rfl) (λ_ _ d _ _ h=>by cases d <;> exact h) ⟨⟨_,(Below.refl _ r).drew⟩,rfl⟩ ?_
    generalize c9:(λa'=>gT _ _ _ _ _ _ a' _)=qq
    have b3:=hI c9
    clear c9
    show wpQuiet _ _ _ _ [_,_,_,_,_,_,_,_,_,_,_,_,_] _
    repeat (go_big_quiet_step (fail))
    refine wpQuiet_nil ?_
    rw[<-b3.o]
    clear b3 qq a0 a1 a2 a3 a4
    refine aR rfl (λK hK=>?_)
    go_simp
    obtain⟨G,N⟩:∃G,G=(r.alloc (.cells #[.int .i64 l.kind,.int .i64 l.n] 51)).drew:=⟨_,rfl⟩
    have KA:Hid (Below r.heap.size r G):=by rw[N];exact((Below.refl _ r).alloc (Nat.le_refl _) _).drew
    have BA:Hid (G.heap[r.heap.size]? = some (.cells #[.int .i64 l.kind,.int .i64 l.n] 51 (0,0))):=by rw[N];exact aS r _
    have b4:=hI N
    clear N
    refine hK _ _ (λ_=>⟨⟨G,KA.o⟩,b4.o.symm⟩) ?_
    clear hK K
    have d3:r.drew.heap.size=r.heap.size:=rfl
    (try rw[d3])
    rw[<-b4.o]
    have F:=hI (R.o.below HK.o KA.o)
    have OV:=hI (F.o.cvals n _ c S.o V.o)
    have e9 : Γ.B<=G.heap.size:=Nat.le_trans HK.o.b1 F.o.size
    refine aR rfl (λK hK=>?_)
    refine Eq.mpr (if_pos ?hw) ?_
    case hw=>rfl
    refine kK _ _ _ 23 rfl Γ.B 51 i0 z 2 16 underlying23 HI.o HZ.o g4.o g6.o g7.o (by decide) (.slice vA c.vals.length vc) c.vals.length (c.vals.flatMap bE) rfl OV.o ⟨r.heap.size,0,none⟩ 1 1 [.int .i64 l.kind,.int .i64 l.n] rfl rfl (World.news_of_block (cs:=#[.int .i64 l.kind,.int .i64 l.n]) BA.o) ?k2 ?k3 ?k4 e9 ?_
    case k2=>intro u hu;simp at hu;rcases hu with rfl | rfl <;> rfl
    case k3=>unfold maxLen;omega
    case k4=>omega
    intro v' w6 I hg Z
    obtain⟨A',c',rfl⟩:=cJ I
    have f0:=hI Z
    have f1:=hI I
    have GR:=hI hg
    have f2:Hid (dC (λk=>(Value.slice vA c.vals.length vc).ownBlock=some k) G w6):=dC.grown dC.refl hg (λk hk=>hk)
    clear I hg Z
    refine hK _ _ (λh=>by cases h) ?_
    clear hK K
    have M:Hid (w6.ownsRow Γ.B 166 4 (.slice (some ⟨gc,0,none⟩) W.cells.length cc) W.cells.length ((dR W.cells vs fs).flatMap id)):=by
     have h:=F.o.crow
     rw[a9.o] at h
     exact h.kept GR.o (.inr (λe=>by
      obtain⟨cs,h1⟩:=bB h (g:=gc) rfl
      obtain⟨n3,h2⟩:=bB OV.o (g:=gc) (e ▸ rfl)
      exact bS h1 h2 (by decide) rfl))
    have f3:n*4+2<W.cells.length*4:=by have:=(lE V.o).1;omega
    have s:w6.cell? ⟨gc,n*4+2,none⟩=some (.slice vA c.vals.length vc):=by
     rw[M.o.cellAt (n*4+2) f3]
     exact dB _ n 2 _ (jU _ _ _) (gP _ _ _ n _ _ _ V.o S.o HF.o) (by decide)
    have z2:=M.o.frozenAt (n*4+2)
    refine bG [15,16,17] _ _ (by kernel_rfl) (by kernel_rfl) ?_
    simp only[List.filterMap_cons,List.filterMap_nil,List.getElem?_toArray,List.getElem?_cons_zero,List.getElem?_cons_succ]
    go_upto_region 6 with fail
    generalize P:World.setCell _ _ _=w7
    have S7:=zP M.o F.o.lv F.o.lf V.o S.o HF.o (.slice A' (c.vals.length+1) c') (c.vals++[l])
    rw[P] at S7
    have f7:=hI S7
    have b5:Hid (dC (λk=>(Value.slice vA c.vals.length vc).ownBlock=some k\/cv.ownBlock=some k) G w7):=by
     rw[<-P]
     exact(f2.o.mono λ_ _ h=>.inl h).set (.inr (by rw[a9.o];rfl)) _ _
    have O7:Hid (w7.ownsRow Γ.B 51 2 (.slice A' (c.vals.length+1) c') (c.vals++[l]).length ((c.vals++[l]).flatMap bE)):=by
     rw[<-P]
     have h:=kQ (j:=n*4+2) (u:=.slice A' (c.vals.length+1) c') f1.o M.o (by decide)
     rw[List.length_append,List.flatMap_append]
     exact h
    have b6:WfC { c with vals:=c.vals++[l] }:=by
     have h:=F.o.wfc c (lM V.o)
     refine⟨h.1,h.2.1,λy hy=>?_⟩
     rcases List.mem_append.1 (show y∈c.vals++[l] from hy) with h1 | h1
     ·exact h.2.2 y h1
     ·rw[List.mem_singleton] at h1;rw[h1];exact F.o.wfv l (lM X.o)
    have L7:=hI (F.o.putCell HK.o (c':={ c with vals:=c.vals++[l] }) S.o b5.o (by rw[a9.o];exact f7.o) O7.o f0.o (F.o.cfr n f c HF.o V.o) b6)
    have K7:Hid (aQ w w7):=(aQ.of (K2.o.trans (KA.o.mono K2.o.size))).trans (ak0 b5.o (λk _ hk=>by
     rcases hk with hk | hk
     ·obtain⟨cs,h⟩:=bB OV.o hk
      exact⟨cs,_,h,.inr (.inr (.inr rfl))⟩
     ·obtain⟨cs,h⟩:=bB F.o.crow hk
      exact⟨cs,_,h,.inr (.inr (.inl rfl))⟩))
    clear P S7 s z2 b6
    (try dsimp only [Act.put])
    go_wp2_with fail
    go_ret
    have D:=congrArg Prod.fst A.o
    have s:=congrArg Prod.snd A.o
    dsimp only at D s
    subst D;subst s
    exact⟨rfl,⟨_,_,_,_,L7.o⟩,K7.o⟩
   ·have b2:¬(c.vals.length:Int)<100:=by omega
    by_cases c8:x.exit<0
    ·have A:Hid ((W,(2:Int))=(Y,q)):=by show _=_;rw[<-HS.o,if_neg (λh=>h.1 H2.o),if_neg J,if_pos c8]
     go_wp2_with fail
     go_ret
     have D:=congrArg Prod.fst A.o
     have s:=congrArg Prod.snd A.o
     dsimp only at D s
     subst D;subst s
     exact⟨rfl,⟨_,_,_,_,R.o⟩,aQ.of K2.o⟩
    ·have A:Hid ((W,(1:Int))=(Y,q)):=by show _=_;rw[<-HS.o,if_neg (λh=>h.1 H2.o),if_neg J,if_neg c8]
     go_wp2_with fail
     go_ret
     have D:=congrArg Prod.fst A.o
     have s:=congrArg Prod.snd A.o
     dsimp only at D s
     subst D;subst s
     exact⟨rfl,⟨_,_,_,_,R.o⟩,aQ.of K2.o⟩
  ·by_cases h3:c.kind=3
   ·rw[h3] at c0
    have H3:=hI h3
    clear h2 h3
    by_cases J:c.vals.length<100
    ·have b2:(c.vals.length:Int)<100:=by omega
     have A:Hid ((setCW W n { c with vals:=c.vals++[l] },(0:Int))=(Y,q)):=by
      show _=_
      rw[<-HS.o,if_neg (λh=>h.2 H3.o),if_pos J]
     go_upto_region 5 with fail
     have a0:∀E:Up r,E.to.cell? ⟨Γ.wb,17,none⟩=some (.slice (some ⟨g,0,none⟩) W.vals.length h0):=λE=>E.cell (by have h:=R.o.own HK.o 4;rw[HV.o] at h;exact h)
     have a1:=ecZ C2.o
     have a2:∀E:Up r,E.to.cell? ⟨w.heap.size,2,none⟩=some (.int .i64 H):=λE=>E.cell (by rw[<-e6.o];exact aC e7.o (e0.o 2 _ rfl))
     have OW:=hI (R.o.vals)
     rw[HV.o] at OW
     have a3:∀E:Up r,E.to.cell? ⟨g,H*2,none⟩=some (.int .i64 l.kind):=λE=>E.cell (by rw[OW.o.cellAt (H*2) (by omega)];exact cF X.o (k:=0) (by decide))
     have a4:∀E:Up r,E.to.cell? ⟨g,H*2+1,none⟩=some (.int .i64 l.n):=λE=>E.cell (by rw[OW.o.cellAt (H*2+1) (by omega)];exact cF X.o (k:=1) (by decide))
     refine fP (λw'=>∃E:Up r,w'=E.to) [0] [1,2,3,4,5,6,7,8,9,10,11,12] [13,14,15,16,17] [13] _ (by kernel_rfl) (by kernel_rfl) (by simp only[List.cons_append,List.nil_append,List.filterMap_cons,List.filterMap_nil,List.getElem?_toArray,List.getElem?_cons_zero,List.getElem?_cons_succ];rfl) (λ_ _ d _ _ h=>by cases d <;> exact h) ⟨⟨_,(Below.refl _ r).drew⟩,rfl⟩ ?_
     generalize c9:(λa'=>gT _ _ _ _ _ _ a' _)=qq
     have b3:=hI c9
     clear c9
     show wpQuiet _ _ _ _ [_,_,_,_,_,_,_,_,_,_,_,_,_] _
     repeat (go_big_quiet_step (fail))
     refine wpQuiet_nil ?_
     rw[<-b3.o]
     clear b3 qq a0 a1 a2 a3 a4
     refine aR rfl (λK hK=>?_)
     go_simp
     obtain⟨G,N⟩:∃G,G=(r.alloc (.cells #[.int .i64 l.kind,.int .i64 l.n] 51)).drew:=⟨_,rfl⟩
     have KA:Hid (Below r.heap.size r G):=by rw[N];exact((Below.refl _ r).alloc (Nat.le_refl _) _).drew
     have BA:Hid (G.heap[r.heap.size]? = some (.cells #[.int .i64 l.kind,.int .i64 l.n] 51 (0,0))):=by rw[N];exact aS r _
     have b4:=hI N
     clear N
     refine hK _ _ (λ_=>⟨⟨G,KA.o⟩,b4.o.symm⟩) ?_
     clear hK K
     have d3:r.drew.heap.size=r.heap.size:=rfl
     (try rw[d3])
     rw[<-b4.o]
     have F:=hI (R.o.below HK.o KA.o)
     have OV:=hI (F.o.cvals n _ c S.o V.o)
     have e9 : Γ.B<=G.heap.size:=Nat.le_trans HK.o.b1 F.o.size
     refine aR rfl (λK hK=>?_)
     refine Eq.mpr (if_pos ?hw) ?_
     case hw=>rfl
     refine kK _ _ _ 23 rfl Γ.B 51 i0 z 2 16 underlying23 HI.o HZ.o g4.o g6.o g7.o (by decide) (.slice vA c.vals.length vc) c.vals.length (c.vals.flatMap bE) rfl OV.o ⟨r.heap.size,0,none⟩ 1 1 [.int .i64 l.kind,.int .i64 l.n] rfl rfl (World.news_of_block (cs:=#[.int .i64 l.kind,.int .i64 l.n]) BA.o) ?k2 ?k3 ?k4 e9 ?_
     case k2=>intro u hu;simp at hu;rcases hu with rfl | rfl <;> rfl
     case k3=>unfold maxLen;omega
     case k4=>omega
     intro v' w6 I hg Z
     obtain⟨A',c',rfl⟩:=cJ I
     have f0:=hI Z
     have f1:=hI I
     have GR:=hI hg
     have f2:Hid (dC (λk=>(Value.slice vA c.vals.length vc).ownBlock=some k) G w6):=dC.grown dC.refl hg (λk hk=>hk)
     clear I hg Z
     refine hK _ _ (λh=>by cases h) ?_
     clear hK K
     have M:Hid (w6.ownsRow Γ.B 166 4 (.slice (some ⟨gc,0,none⟩) W.cells.length cc) W.cells.length ((dR W.cells vs fs).flatMap id)):=by
      have h:=F.o.crow
      rw[a9.o] at h
      exact h.kept GR.o (.inr (λe=>by
       obtain⟨cs,h1⟩:=bB h (g:=gc) rfl
       obtain⟨n3,h2⟩:=bB OV.o (g:=gc) (e ▸ rfl)
       exact bS h1 h2 (by decide) rfl))
     have f3:n*4+2<W.cells.length*4:=by have:=(lE V.o).1;omega
     have s:w6.cell? ⟨gc,n*4+2,none⟩=some (.slice vA c.vals.length vc):=by
      rw[M.o.cellAt (n*4+2) f3]
      exact dB _ n 2 _ (jU _ _ _) (gP _ _ _ n _ _ _ V.o S.o HF.o) (by decide)
     have z2:=M.o.frozenAt (n*4+2)
     refine bG [15,16,17] _ _ (by kernel_rfl) (by kernel_rfl) ?_
     simp only[List.filterMap_cons,List.filterMap_nil,List.getElem?_toArray,List.getElem?_cons_zero,List.getElem?_cons_succ]
     go_upto_region 6 with fail
     generalize P:World.setCell _ _ _=w7
     have S7:=zP M.o F.o.lv F.o.lf V.o S.o HF.o (.slice A' (c.vals.length+1) c') (c.vals++[l])
     rw[P] at S7
     have f7:=hI S7
     have b5:Hid (dC (λk=>(Value.slice vA c.vals.length vc).ownBlock=some k\/cv.ownBlock=some k) G w7):=by
      rw[<-P]
      exact(f2.o.mono λ_ _ h=>.inl h).set (.inr (by rw[a9.o];rfl)) _ _
     have O7:Hid (w7.ownsRow Γ.B 51 2 (.slice A' (c.vals.length+1) c') (c.vals++[l]).length ((c.vals++[l]).flatMap bE)):=by
      rw[<-P]
      have h:=kQ (j:=n*4+2) (u:=.slice A' (c.vals.length+1) c') f1.o M.o (by decide)
      rw[List.length_append,List.flatMap_append]
      exact h
     have b6:WfC { c with vals:=c.vals++[l] }:=by
      have h:=F.o.wfc c (lM V.o)
      refine⟨h.1,h.2.1,λy hy=>?_⟩
      rcases List.mem_append.1 (show y∈c.vals++[l] from hy) with h1 | h1
      ·exact h.2.2 y h1
      ·rw[List.mem_singleton] at h1;rw[h1];exact F.o.wfv l (lM X.o)
     have L7:=hI (F.o.putCell HK.o (c':={ c with vals:=c.vals++[l] }) S.o b5.o (by rw[a9.o];exact f7.o) O7.o f0.o (F.o.cfr n f c HF.o V.o) b6)
     have K7:Hid (aQ w w7):=(aQ.of (K2.o.trans (KA.o.mono K2.o.size))).trans (ak0 b5.o (λk _ hk=>by
      rcases hk with hk | hk
      ·obtain⟨cs,h⟩:=bB OV.o hk
       exact⟨cs,_,h,.inr (.inr (.inr rfl))⟩
      ·obtain⟨cs,h⟩:=bB F.o.crow hk
       exact⟨cs,_,h,.inr (.inr (.inl rfl))⟩))
     clear P S7 s z2 b6
     (try dsimp only [Act.put])
     go_wp2_with fail
     go_ret
     have D:=congrArg Prod.fst A.o
     have s:=congrArg Prod.snd A.o
     dsimp only at D s
     subst D;subst s
     exact⟨rfl,⟨_,_,_,_,L7.o⟩,K7.o⟩
    ·have b2:¬(c.vals.length:Int)<100:=by omega
     by_cases c8:x.exit<0
     ·have A:Hid ((W,(2:Int))=(Y,q)):=by show _=_;rw[<-HS.o,if_neg (λh=>h.2 H3.o),if_neg J,if_pos c8]
      go_wp2_with fail
      go_ret
      have D:=congrArg Prod.fst A.o
      have s:=congrArg Prod.snd A.o
      dsimp only at D s
      subst D;subst s
      exact⟨rfl,⟨_,_,_,_,R.o⟩,aQ.of K2.o⟩
     ·have A:Hid ((W,(1:Int))=(Y,q)):=by show _=_;rw[<-HS.o,if_neg (λh=>h.2 H3.o),if_neg J,if_neg c8]
      go_wp2_with fail
      go_ret
      have D:=congrArg Prod.fst A.o
      have s:=congrArg Prod.snd A.o
      dsimp only at D s
      subst D;subst s
      exact⟨rfl,⟨_,_,_,_,R.o⟩,aQ.of K2.o⟩
   ·have A:Hid ((W,(2:Int))=(Y,q)):=by show _=_;rw[<-HS.o,if_pos ⟨h2,h3⟩]
    have o0:(c.kind != 2)=true:=by simpa using h2
    have o1:(c.kind != 3)=true:=by simpa using h3
    go_wp2_with fail
    go_ret
    have D:=congrArg Prod.fst A.o
    have s:=congrArg Prod.snd A.o
    dsimp only at D s
    subst D;subst s
    exact⟨rfl,⟨_,_,_,_,R.o⟩,aQ.of K2.o⟩
end
end
section
open Go.RowKit
section
variable {Γ : mW} {w w':World} {W:aG} {cv vv:Value} {vs fs:List Value}
theorem grow_c (K:jZ Γ) (L:cC Γ w W cv vv vs fs) (hn:W.vals.length<=300) (hl:W.cells.length<=300) (x:aT) (ha:0<=x.a/\x.a<W.vals.length) (hb:0<=x.b/\x.b<W.vals.length) (r0:0<=x.n) (l0:wfi x.n) : Calls prog 235 #[.pointer (some ⟨Γ.wb,0,none⟩),.agg #[.int .i64 x.op,.int .i64 x.a,.int .i64 x.b,.int .i64 x.c,.int .i64 x.n,.int .i64 x.exit,.int .i64 x.k.kind,.int .i64 x.k.n]] w (xL Γ (lH Γ.shapes W x).1 (.int .i64 (lH Γ.shapes W x).2) w):=by
 obtain⟨g,i4,i5,-,v9⟩:=L.vals.form (by omega);obtain⟨ka,i6⟩:∃ka:Nat,x.a=(ka:Int):=⟨x.a.toNat,by omega⟩;obtain⟨y,hy⟩:∃y,W.vals[ka]? = some y:=⟨_,lG (by omega)⟩;obtain⟨M,i9⟩:∃M:Nat,x.b=(M:Int):=⟨x.b.toNat,by omega⟩;have n2:M<W.vals.length:=by omega
 have v2:(M:Int)<W.vals.length:=by omega
 obtain⟨l,j0⟩:∃l,W.vals[M]? = some l:=⟨_,lG n2⟩;obtain⟨m,hm⟩:∃m:Nat,x.n=(m:Int):=⟨x.n.toNat,by omega⟩;obtain⟨SA,sc,j1,-,-,j2⟩:=K.sh;have HM:=hI hm;have h5:=hI j1;have h6:=hI i9;have c6:=hI j0;obtain⟨w1,b5⟩:∃w1,w1=w.alloc (.cells #[.int .i64 x.op,.int .i64 x.a,.int .i64 x.b,.int .i64 x.c,.int .i64 x.n,.int .i64 x.exit,.int .i64 x.k.kind,.int .i64 x.k.n] 53):=⟨_,rfl⟩;have K1:Hid (Below w.heap.size w w1):=by rw[b5];exact aA _ _
 have c7:Hid (aJ w1 w.heap.size [.int .i64 x.op,.int .i64 x.a,.int .i64 x.b,.int .i64 x.c,.int .i64 x.n,.int .i64 x.exit,.int .i64 x.k.kind,.int .i64 x.k.n]):=by rw[b5];exact akV _ _ _
 have e5:Hid (w1.heap[w.heap.size]? = some (.cells #[.int .i64 x.op,.int .i64 x.a,.int .i64 x.b,.int .i64 x.c,.int .i64 x.n,.int .i64 x.exit,.int .i64 x.k.kind,.int .i64 x.k.n] 53 (0,0))):=by rw[b5];exact aS _ _
 have N:=hI K;have L1:=hI (L.below K K1.o);have CC:=hI (rN K L1.o hy hl);rw[<-i6] at CC;have n6:=hI j2;have n7:=hI l0;clear i6 i9 j0 hm j1 j2 l0;have HV:=hI i5;have n8:=hI b5;have g1:=c7.o 1 _ rfl;clear b5 L K i5 hb ha r0;obtain⟨i0,j3,hq⟩:=Option.map_eq_some_iff.1 oF;simp only[Prod.mk.injEq] at hq;obtain⟨hz,j4,k0⟩:=hq;obtain⟨z,k1,k5⟩:=Option.map_eq_some_iff.1 hz;have HI:=hI j3;have HZ:=hI k1;have n9:=hI j4;have o0:=hI k0;have o1:=hI k5;clear j3 k1 j4 k0 k5 hz;obtain⟨H,f8⟩:∃H,(lH Γ.shapes W x).1=H:=⟨_,rfl⟩;obtain⟨q,hq⟩:∃q,(lH Γ.shapes W x).2=q:=⟨_,rfl⟩;rw[f8,hq];have HW:=hI f8;have HQ:=hI hq;clear f8 hq;go_enter func235,ntmps235;go_wp2_with fail;rw[<-n8.o];refine CC.o.mono ?_;rintro e w2 ⟨rfl,k2⟩;have c8:=hI k2;have K2:=btZ K1 k2;have S:=hI (L1.o.below N.o k2);have e6:Hid (w2.heap[w.heap.size]? = some (.cells #[.int .i64 x.op,.int .i64 x.a,.int .i64 x.b,.int .i64 x.c,.int .i64 x.n,.int .i64 x.exit,.int .i64 x.k.kind,.int .i64 x.k.n] 53 (0,0))):=by show _=_;rw[k2.block _ (aY e5.o)];exact e5.o
 clear k2 g1;cases J:dG W x.a with
 | none=>
  rw[gS J]
  have F:Hid ((W,(2:Int))=(H,q)):=by rw[<-HW.o,<-HQ.o];unfold lH;rw[J];rfl
  go_wp2_with fail
  go_ret
  have A:=congrArg Prod.fst F.o
  have D:=congrArg Prod.snd F.o
  dsimp only at A D
  subst A;subst D
  exact⟨rfl,⟨_,_,_,_,S.o⟩,aQ.of K2.o⟩
 | some p=>
  obtain⟨n,c⟩:=p
  obtain⟨gc,cc,v,f,X,Y,k6,hc,hv,hf,q3,k7,c0,c1,c2,c3,w0⟩:=S.o.atCell J
  rw[k7]
  subst q3
  have b2:=hI k6
  have HC:=hI hc
  have O:=hI hv
  have HF:=hI hf
  have C1:=hI c1
  have C2:=hI c2
  have HS:Hid ((if c.kind≠1 then(W,(2:Int)) else match Γ.shapes[m]? with | none=>(W,1) | some s=>if s.up≠c.num\/100<=c.vals.length then(W,1) else(setCW W n { c with num:=m,vals:=c.vals++[l] },0))=(H,q)):=by
   rw[<-HW.o,<-HQ.o];unfold lH;rw[J,h6.o,HM.o,iJ c6.o];show _=_;rfl
  clear J c1 c2 c3 hc hv hf k7 HW HQ k6
  by_cases h1:c.kind=1
  ·rw[h1] at c0
   have H1:=hI h1
   clear h1
   by_cases r1:m < Γ.shapes.length
   ·obtain⟨sb,g0,q6,k8,k9⟩:=n6.o (by omega)
    subst q6
    obtain⟨s,hs⟩:∃s,Γ.shapes[m]? = some s:=⟨_,lG r1⟩
    obtain⟨w4,-,⟨rfl,-,-⟩,g2⟩:=k9 m s hs
    have v3:(m:Int) < Γ.shapes.length:=by omega
    have h7:¬ Γ.shapes.length<=m:=by omega
    have e7:Hid ((if s.up≠c.num\/100<=c.vals.length then(W,(1:Int)) else(setCW W n { c with num:=m,vals:=c.vals++[l] },0))=(H,q)):=by
     have:=HS.o
     rw[if_neg (λh=>h H1.o),hs] at this
     exact this
    clear hs k9
    have a0:∀E:Up w2,E.to.cell? ⟨w.heap.size,4,none⟩=some (.int .i64 m):=λE=>E.cell (by rw[<-HM.o];exact aC c8.o (c7.o 4 _ rfl))
    have a1:∀E:Up w2,E.to.cell? ⟨Γ.wb,14,none⟩=some (.slice (some ⟨sb,g0,none⟩) Γ.shapes.length sc):=λE=>E.cell (by rw[<-h5.o];exact S.o.own N.o 1)
    have a2:∀E:Up w2,E.to.cell? ⟨sb,g0+m*2,none⟩=some (.int .i64 s.up):=λE=>E.cell ((S.o.held ⟨sb,_,none⟩ k8).trans (g2 0 _ rfl))
    have a3:=ecZ C1.o
    clear g2 k8
    by_cases a6:s.up=c.num
    ·rw[a6] at a2
     have o7:=hI a6
     clear a6
     have a4:=ecZ C2.o
     by_cases v1:c.vals.length<100
     ·have a7:¬ 100<=c.vals.length:=by omega
      have F:Hid ((setCW W n { c with num:=m,vals:=c.vals++[l] },(0:Int))=(H,q)):=by
       show _=_
       rw[<-e7.o,if_neg (λh=>h.elim (λh=>h o7.o) a7)]
      go_upto_region 4 with fail
      refine aD (by kernel_rfl) (by kernel_rfl) ?_
      repeat (go_big_quiet_step (fail))
      refine wpQuiet_nil ?_
      rintro _ ⟨E,rfl⟩
      obtain⟨r,k3⟩:=E
      dsimp only
      have K3:=btZ K2 k3
      have I:=hI (S.o.below N.o k3)
      have a5:=hI k3
      clear k3 c0 a0 a1 a2 a3 a4
      go_upto_region 6 with fail
      have f1:Hid (aJ r w.heap.size [.int .i64 x.op,.int .i64 x.a,.int .i64 x.b,.int .i64 x.c,.int .i64 x.n,.int .i64 x.exit,.int .i64 x.k.kind,.int .i64 x.k.n]):=λi v hv=>aC (c8.o.trans (a5.o.mono c8.o.size)) (c7.o i v hv)
      have a9:Hid (r.heap[w.heap.size]? = some (.cells #[.int .i64 x.op,.int .i64 x.a,.int .i64 x.b,.int .i64 x.c,.int .i64 x.n,.int .i64 x.exit,.int .i64 x.k.kind,.int .i64 x.k.n] 53 (0,0))):=by
       show _=_
       rw[a5.o.block _ (aY e6.o)];exact e6.o
      have C3:Hid (r.cell? ⟨gc,n*4+2,none⟩=some (.slice X c.vals.length Y)):=aC a5.o C2.o
      have OW:=hI (I.o.vals)
      rw[HV.o] at OW
      have o9:=hI (I.o.cvals n _ c O.o HC.o)
      obtain⟨L,hL⟩:∃L:List (Addr×Value),L=[(⟨Γ.wb,17,none⟩,.slice (some ⟨g,0,none⟩) W.vals.length i4),(⟨gc,n*4+2,none⟩,.slice X c.vals.length Y),(⟨w.heap.size,2,none⟩,.int .i64 M),(⟨w.heap.size,4,none⟩,.int .i64 m),(⟨g,M*2,none⟩,.int .i64 l.kind),(⟨g,M*2+1,none⟩,.int .i64 l.n)]:=⟨_,rfl⟩
      have P:Hid (∀p∈L,r.cell? p.1=some p.2/\p.1.block<r.heap.size/\(Value.slice X c.vals.length Y).ownBlock≠some p.1.block):=by
       show ∀p∈L,_
       rw[hL]
       have G:∀(g':Nat) (cs:Array Value) (e:TypeId),r.heap[g']? = some (.cells cs e (0,0))->e≠51->(Value.slice X c.vals.length Y).ownBlock≠some g':=λg' cs e h he ht=>by
        obtain⟨q7,h'⟩:=bB o9.o ht
        exact bS h h' he rfl
       intro p Z
       simp only[List.mem_cons,List.not_mem_nil,or_false] at Z
       have CR:=I.o.crow
       rw[b2.o] at CR
       obtain⟨w5,g3⟩:=bB CR (g:=gc) rfl
       have f2:(Value.slice X c.vals.length Y).ownBlock≠some g:=λht=>(I.o.ap2 n _ g O.o ht).1 (by rw[HV.o];rfl)
       have f3:=(OW.o.lt g rfl).2
       rcases Z with rfl | rfl | rfl | rfl | rfl | rfl
       ·exact⟨by have h:=I.o.own N.o 4;rw[HV.o] at h;exact h,aY I.o.row,G _ _ _ I.o.row (by decide)⟩
       ·exact⟨C3.o,aY g3,G _ _ _ g3 (by decide)⟩
       ·exact⟨by rw[<-h6.o];exact f1.o 2 _ rfl,aY a9.o,G _ _ _ a9.o (by decide)⟩
       ·exact⟨by rw[<-HM.o];exact f1.o 4 _ rfl,aY a9.o,G _ _ _ a9.o (by decide)⟩
       ·exact⟨by rw[OW.o.cellAt (M*2) (by omega)];exact cF c6.o (k:=0) (by decide),f3,f2⟩
       ·exact⟨by rw[OW.o.cellAt (M*2+1) (by omega)];exact cF c6.o (k:=1) (by decide),f3,f2⟩
      have d0:∀E:dP L,E.wd.cell? ⟨Γ.wb,17,none⟩=some (.slice (some ⟨g,0,none⟩) W.vals.length i4):=λE=>E.here (_,_) (by rw[hL];simp)
      have d1:∀E:dP L,E.wd.cell? ⟨gc,n*4+2,none⟩=some (.slice X c.vals.length Y):=λE=>E.here (_,_) (by rw[hL];simp)
      have d2:∀E:dP L,E.wd.cell? ⟨w.heap.size,2,none⟩=some (.int .i64 M):=λE=>E.here (_,_) (by rw[hL];simp)
      have d3:∀E:dP L,E.wd.cell? ⟨w.heap.size,4,none⟩=some (.int .i64 m):=λE=>E.here (_,_) (by rw[hL];simp)
      have d4:∀E:dP L,E.wd.cell? ⟨g,M*2,none⟩=some (.int .i64 l.kind):=λE=>E.here (_,_) (by rw[hL];simp)
      have d5:∀E:dP L,E.wd.cell? ⟨g,M*2+1,none⟩=some (.int .i64 l.n):=λE=>E.here (_,_) (by rw[hL];simp)
      have c9:Hid (∀H,Below r.heap.size r H->∃E:dP L,H=E.wd):=λH k=>⟨⟨H,λp Z=>(k.cell (P.o p Z).2.1).trans (P.o p Z).1⟩,rfl⟩
      clear hL
      haveI:Nonempty (dP L):=⟨(c9.o r (Below.refl _ _)).choose⟩
      refine fP (λw'=>∃E:dP L,w'=E.wd) [0,1] [2,3,4,5,6,7,8,9,10,11,12,13,14,15] [16,17,18,19,20,21,22,23] [16,17] _ (by kernel_rfl) (by kernel_rfl) (by simp only[List.cons_append,List.nil_append,List.filterMap_cons,List.filterMap_nil,List.getElem?_toArray,List.getElem?_cons_zero,List.getElem?_cons_succ];rfl) (λ_ _ d _ _ h=>by cases d <;> exact h) (c9.o _ (Below.refl _ r).drew) ?_
      generalize l2:(λa'=>gT _ _ _ _ _ _ a' _)=qq
      have h8:=hI l2
      clear l2
      show wpQuiet _ _ _ _ [_,_,_,_,_,_,_,_,_,_,_,_,_,_,_,_] _
      repeat (go_big_quiet_step (fail))
      refine wpQuiet_nil ?_
      rw[<-h8.o]
      clear h8 qq d0 d1 d2 d3 d4 d5
      refine aR rfl (λK hK=>?_)
      go_simp
      obtain⟨wa,d6⟩:∃wa,wa=(r.alloc (.cells #[.int .i64 l.kind,.int .i64 l.n] 51)).drew:=⟨_,rfl⟩
      have KA:Hid (Below r.heap.size r wa):=by rw[d6];exact((Below.refl _ r).alloc (Nat.le_refl _) _).drew
      have BA:Hid (wa.heap[r.heap.size]? = some (.cells #[.int .i64 l.kind,.int .i64 l.n] 51 (0,0))):=by rw[d6];exact aS r _
      have h9:=hI d6
      clear d6
      refine hK _ _ (λ_=>by obtain⟨E,hE⟩:=c9.o wa KA.o;exact⟨E,h9.o.symm.trans hE⟩) ?_
      clear hK K
      have m1:r.drew.heap.size=r.heap.size:=rfl
      (try rw[m1])
      rw[<-h9.o]
      have V:=hI (I.o.below N.o KA.o)
      have OV:=hI (V.o.cvals n _ c O.o HC.o)
      have p1 : Γ.B<=wa.heap.size:=Nat.le_trans N.o.b1 V.o.size
      refine aR rfl (λK hK=>?_)
      refine Eq.mpr (if_pos ?hw) ?_
      case hw=>rfl
      refine kK _ _ _ 23 rfl Γ.B 51 i0 z 2 16 underlying23 HI.o HZ.o n9.o o0.o o1.o (by decide) (.slice X c.vals.length Y) c.vals.length (c.vals.flatMap bE) rfl OV.o ⟨r.heap.size,0,none⟩ 1 1 [.int .i64 l.kind,.int .i64 l.n] rfl rfl (World.news_of_block (cs:=#[.int .i64 l.kind,.int .i64 l.n]) BA.o) ?k2 ?k3 ?k4 p1 ?_
      case k2=>intro u hu;simp at hu;rcases hu with rfl | rfl <;> rfl
      case k3=>unfold maxLen;omega
      case k4=>omega
      intro v' w6 G hg g5
      obtain⟨A',c',rfl⟩:=cJ G
      have p2:=hI g5
      have p3:=hI G
      have GR:=hI hg
      have i1:Hid (dC (λk=>(Value.slice X c.vals.length Y).ownBlock=some k) wa w6):=dC.grown dC.refl hg (λk hk=>hk)
      clear G hg g5
      refine hK _ _ (λ_=>⟨⟨w6,λp Z=>(World.cell?_of_block (i1.o.block _ (Nat.lt_of_lt_of_le (P.o p Z).2.1 KA.o.size) (P.o p Z).2.2)).trans ((KA.o.cell (P.o p Z).2.1).trans (P.o p Z).1)⟩,rfl⟩) ?_
      clear hK K c9 P
      have R:Hid (w6.ownsRow Γ.B 166 4 (.slice (some ⟨gc,0,none⟩) W.cells.length cc) W.cells.length ((dR W.cells vs fs).flatMap id)):=by
       have h:=V.o.crow
       rw[b2.o] at h
       exact h.kept GR.o (.inr (λe=>by
        obtain⟨cs,h1⟩:=bB h (g:=gc) rfl
        obtain⟨q7,h2⟩:=bB OV.o (g:=gc) (e ▸ rfl)
        exact bS h1 h2 (by decide) rfl))
      have v4:n*4+4<=W.cells.length*4:=by have:=(lE HC.o).1;omega
      have A:w6.cell? ⟨gc,n*4+1,none⟩=some (.int .i64 c.num):=by
       rw[R.o.cellAt (n*4+1) (by omega)]
       exact dB _ n 1 _ (jU _ _ _) (gP _ _ _ n _ _ _ HC.o O.o HF.o) (by decide)
      have z1:=R.o.frozenAt (n*4+1)
      have D:w6.cell? ⟨gc,n*4+2,none⟩=some (.slice X c.vals.length Y):=by
       rw[R.o.cellAt (n*4+2) (by omega)]
       exact dB _ n 2 _ (jU _ _ _) (gP _ _ _ n _ _ _ HC.o O.o HF.o) (by decide)
      have z2:=R.o.frozenAt (n*4+2)
      refine bG [18,19,20,21,22,23] _ _ (by kernel_rfl) (by kernel_rfl) ?_
      simp only[List.filterMap_cons,List.filterMap_nil,List.getElem?_toArray,List.getElem?_cons_zero,List.getElem?_cons_succ]
      go_upto_region 7 with fail
      generalize d7:World.setCell _ _ _=w7
      have S7:=aj1 R.o V.o.lv V.o.lf HC.o O.o HF.o (.slice A' (c.vals.length+1) c') (c.vals++[l]) (m:Int)
      rw[d7] at S7
      have p4:=hI S7
      have i2:Hid (dC (λk=>(Value.slice X c.vals.length Y).ownBlock=some k\/cv.ownBlock=some k) wa w7):=by
       rw[<-d7]
       exact((i1.o.mono λ_ _ h=>.inl h).set (.inr (by rw[b2.o];rfl)) _ _).set (.inr (by rw[b2.o];rfl)) _ _
      have O7:Hid (w7.ownsRow Γ.B 51 2 (.slice A' (c.vals.length+1) c') (c.vals++[l]).length ((c.vals++[l]).flatMap bE)):=by
       rw[<-d7]
       have h:=kQ (j:=n*4+1) (u:=.int .i64 (m:Int)) p3.o R.o (by decide)
       have h:=kQ (j:=n*4+2) (u:=.slice A' (c.vals.length+1) c') h (R.o.stored (n*4+1) (.int .i64 (m:Int))).1 (by decide)
       rw[List.length_append,List.flatMap_append]
       exact h
      have i3:WfC { c with num:=(m:Int),vals:=c.vals++[l] }:=by
       have h:=V.o.wfc c (lM HC.o)
       refine⟨h.1,by have:=n7.o;rw[HM.o] at this;exact this,λy hy=>?_⟩
       rcases List.mem_append.1 (show y∈c.vals++[l] from hy) with h1 | h1
       ·exact h.2.2 y h1
       ·rw[List.mem_singleton] at h1;rw[h1];exact V.o.wfv l (lM c6.o)
      have L7:=hI (V.o.putCell N.o (c':={ c with num:=(m:Int),vals:=c.vals++[l] }) O.o i2.o (by rw[b2.o];exact p4.o) O7.o p2.o (V.o.cfr n f c HF.o HC.o) i3)
      have K7:Hid (aQ w w7):=(aQ.of (K3.o.trans (KA.o.mono K3.o.size))).trans (ak0 i2.o (λk _ hk=>by
       rcases hk with hk | hk
       ·obtain⟨cs,h⟩:=bB OV.o hk
        exact⟨cs,_,h,.inr (.inr (.inr rfl))⟩
       ·obtain⟨cs,h⟩:=bB V.o.crow hk
        exact⟨cs,_,h,.inr (.inr (.inl rfl))⟩))
      clear d7 S7 A z1 D z2 i3
      (try dsimp only [Act.put])
      go_wp2_with fail
      go_ret
      have A:=congrArg Prod.fst F.o
      have D:=congrArg Prod.snd F.o
      dsimp only at A D
      subst A;subst D
      exact⟨rfl,⟨_,_,_,_,L7.o⟩,K7.o⟩
     ·have a7:100<=c.vals.length:=by omega
      have F:Hid ((W,(1:Int))=(H,q)):=by show _=_;rw[<-e7.o,if_pos (.inr a7)]
      go_upto_region 4 with fail
      refine aD (by kernel_rfl) (by kernel_rfl) ?_
      repeat (go_big_quiet_step (fail))
      refine wpQuiet_nil ?_
      rintro _ ⟨E,rfl⟩
      obtain⟨r,k3⟩:=E
      dsimp only
      have K3:=btZ K2 k3
      have I:=hI (S.o.below N.o k3)
      have a5:=hI k3
      clear k3 c0 a0 a1 a2 a3 a4
      go_wp2_with fail
      go_ret
      have A:=congrArg Prod.fst F.o
      have D:=congrArg Prod.snd F.o
      dsimp only at A D
      subst A;subst D
      exact⟨rfl,⟨_,_,_,_,I.o⟩,aQ.of K3.o⟩
    ·have t7:(s.up != c.num)=true:=by simpa using a6
     have F:Hid ((W,(1:Int))=(H,q)):=by show _=_;rw[<-e7.o,if_pos (.inl a6)]
     clear a6
     go_upto_region 4 with fail
     refine aD (by kernel_rfl) (by kernel_rfl) ?_
     repeat (go_big_quiet_step (fail))
     refine wpQuiet_nil ?_
     rintro _ ⟨E,rfl⟩
     obtain⟨r,k3⟩:=E
     dsimp only
     have K3:=btZ K2 k3
     have I:=hI (S.o.below N.o k3)
     have a5:=hI k3
     clear k3 c0 a0 a1 a2 a3
     go_wp2_with fail
     go_ret
     have A:=congrArg Prod.fst F.o
     have D:=congrArg Prod.snd F.o
     dsimp only at A D
     subst A;subst D
     exact⟨rfl,⟨_,_,_,_,I.o⟩,aQ.of K3.o⟩
   ·have h7 : Γ.shapes.length<=m:=by omega
    have F:Hid ((W,(1:Int))=(H,q)):=by
     show _=_
     rw[<-HS.o,if_neg (λh=>h H1.o),List.getElem?_eq_none h7]
    have a0:∀E:Up w2,E.to.cell? ⟨w.heap.size,4,none⟩=some (.int .i64 m):=λE=>E.cell (by rw[<-HM.o];exact aC c8.o (c7.o 4 _ rfl))
    have a1:∀E:Up w2,E.to.cell? ⟨Γ.wb,14,none⟩=some (.slice SA Γ.shapes.length sc):=λE=>E.cell (by rw[<-h5.o];exact S.o.own N.o 1)
    go_upto_region 4 with fail
    refine aD (by kernel_rfl) (by kernel_rfl) ?_
    repeat (go_big_quiet_step (fail))
    refine wpQuiet_nil ?_
    rintro _ ⟨E,rfl⟩
    obtain⟨r,k3⟩:=E
    dsimp only
    have K3:=btZ K2 k3
    have I:=hI (S.o.below N.o k3)
    have a5:=hI k3
    clear k3 c0 a0 a1
    go_wp2_with fail
    go_ret
    have A:=congrArg Prod.fst F.o
    have D:=congrArg Prod.snd F.o
    dsimp only at A D
    subst A;subst D
    exact⟨rfl,⟨_,_,_,_,I.o⟩,aQ.of K3.o⟩
  ·have F:Hid ((W,(2:Int))=(H,q)):=by show _=_;rw[<-HS.o,if_pos h1]
   have v5:(c.kind != 1)=true:=by simpa using h1
   go_wp2_with fail
   go_ret
   have A:=congrArg Prod.fst F.o
   have D:=congrArg Prod.snd F.o
   dsimp only at A D
   subst A;subst D
   exact⟨rfl,⟨_,_,_,_,S.o⟩,aQ.of K2.o⟩
end
end
section
open Go.RowKit Go.IntWalk
theorem aJ.of_row3 {w:World} {g:Nat} {cs:List Value} {t:TypeId} (h:w.heap[g]? = some (.cells ⟨cs⟩ t (0,0))):aJ w g cs:=λi v d=>by
 rw[cell_of_row w g i _ _ _ h];simpa using d
end
end Go.Proofs.YtijihlcdhppfgaaGreatDoor
