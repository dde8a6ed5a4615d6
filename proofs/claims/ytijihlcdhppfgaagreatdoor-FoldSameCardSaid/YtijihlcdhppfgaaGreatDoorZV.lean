/- A part of the walk. -/
import Derived.Test.YtijihlcdhppfgaaGreatDoorZU
set_option maxHeartbeats 16000000
set_option maxRecDepth 100000
set_option linter.all false
namespace Go.Proofs.YtijihlcdhppfgaaGreatDoor
open Tryz
section
open Go.RowKit
section
variable {Γ : mW} {w w':World} {W:aG} {cv vv:Value} {vs fs:List Value}
theorem akA {a:Int} {n:Nat} {c:bJ} (h:dG W a=some (n,c)):W.cells[n]? = some c:=by
 unfold dG at h;split at h
 ·obtain⟨d,f,g⟩:=Option.map_eq_some_iff.1 h;injection g with h1 j
  subst j;rw[<-h1];exact f
 ·cases h
theorem cC.atCell (L:cC Γ w W cv vv vs fs) {a:Int} {n:Nat} {c:bJ} (h:dG W a=some (n,c)) : ∃d p v f q r,cv=.slice (some ⟨d,0,none⟩) W.cells.length p/\W.cells[n]? = some c/\vs[n]? = some v/\fs[n]? = some f/\v=.slice q c.vals.length r/\rO cv W a=some ⟨d,n*4,none⟩/\ w.cell? ⟨d,n*4,none⟩=some (.int .i64 c.kind)/\w.cell? ⟨d,n*4+1,none⟩=some (.int .i64 c.num)/\w.cell? ⟨d,n*4+2,none⟩=some v/\w.cell? ⟨d,n*4+3,none⟩=some f/\d<w.heap.size:=by
 have j:=akA h;have s:=(lE j).1;obtain⟨d,p,rfl,-,x⟩:=L.crow.form (by omega);have l:vs[n]? = some (vs[n]'(by rw[L.lv];exact s)):=lG _;have hf:fs[n]? = some (fs[n]'(by rw[L.lf];exact s)):=lG _;have u:=gP _ _ _ n _ _ _ j l hf;have z:n*4+4<=W.cells.length*4:=by omega
 have g:∀k,k<4->w.cell? ⟨d,n*4+k,none⟩=(bM c _ _)[k]?:=λk y=>by rw[L.crow.cellAt (n*4+k) (by omega)];exact dB _ n k _ (jU _ _ _) u y
 obtain⟨q,r,e⟩:=cJ (L.cvals n _ c l j);refine⟨d,p,_,_,q,r,rfl,j,l,hf,e,?_,g 0 (by decide),g 1 (by decide),g 2 (by decide),g 3 (by decide),x⟩;unfold rO;rw[h];rfl
theorem gS {a:Int} (h:dG W a=none):rO cv W a=none:=by unfold rO;rw[h];rfl
theorem cC.setCV (L:cC Γ w W cv vv vs fs) (K:jZ Γ) {n k:Nat} {c:bJ} {v f:Value} {x u:Val} (q:W.cells[n]? = some c) (s:vs[n]? = some v) (hf:fs[n]? = some f) (p:c.vals[k]? = some u) (J:WfV x) {g m l:Nat} (E:v=.slice (some ⟨g,0,none⟩) m l) : (∃A D,cC Γ (w.setCells g (k*2) (bE x)) (setCW W n { c with vals:=c.vals.set k x }) cv vv A D)/\aQ w (w.setCells g (k*2) (bE x)):=by
 subst E;have M:=(lE q).1;have own:=L.cvals n _ c s q;have F:=ahF own;subst F;have o:dC (λj=>(Value.slice (some ⟨g,0,none⟩) c.vals.length l).ownBlock=some j) w (w.setCells g (k*2) (bE x)):= dC.set (T:=λj=>(Value.slice (some ⟨g,0,none⟩) c.vals.length l).ownBlock=some j) (dC.set (T:=λj=>(Value.slice (some ⟨g,0,none⟩) c.vals.length l).ownBlock=some j) dC.refl rfl _ _) rfl _ _;have G:∀j,j<w.heap.size->(Value.slice (some ⟨g,0,none⟩) c.vals.length l).ownBlock=some j->∃cs,w.heap[j]? = some (.cells cs 51 (0,0)):=λj _ d=>bB own d;refine⟨⟨vs.set n (.slice (some ⟨g,0,none⟩) c.vals.length l),fs.set n f,L.putCell K (v':=.slice (some ⟨g,0,none⟩) c.vals.length l) (f':=f) (c':={ c with vals:=c.vals.set k x }) s (o.mono λ_ _ h=>.inl h) ?_ ?_ (λj d=>.inl d) (L.cfr n f c hf q) ?_⟩,ak0 o (λj d p=>by obtain⟨cs,h⟩:=G j d p;exact⟨cs,_,h,.inr (.inr (.inr rfl))⟩)⟩
 ·have e:dR (W.cells.set n { c with vals:=c.vals.set k x }) (vs.set n (.slice (some ⟨g,0,none⟩) c.vals.length l)) (fs.set n f)=dR W.cells vs fs:=by
   rw[<-nK _ _ _ n _ _ _ L.lv L.lf];have z:=gP _ _ _ n _ _ _ q s hf;apply List.ext_getElem?;intro i;by_cases hi:i=n;·subst hi;rw[fC z,z];rfl
   ·rw[List.getElem?_set_ne (λe=>hi e.symm)]
  rw[e];exact gN L.crow (λj d=>o.block j (L.crow.lt j d).2 (λp=>by obtain⟨cs,h1⟩:=bB L.crow d;obtain⟨N,H⟩:=bB own p;exact bS h1 H (by decide) rfl))
 ·show World.ownsRow _ _ _ 2 _ (c.vals.set k x).length ((c.vals.set k x).flatMap bE);rw[List.length_set];exact aaB own p
 ·have r:=L.wfc c (lM q);refine⟨r.1,r.2.1,λy I=>?_⟩;rcases List.mem_or_eq_of_mem_set (show y∈c.vals.set k x from I) with h | h;·exact r.2.2 y h
  ·rw[h];exact J
theorem zP {w:World} {B g len j:Nat} {cells:List bJ} {vs d:List Value} {n:Nat} {c:bJ} {v f:Value} (h:w.ownsRow B 166 4 (.slice (some ⟨g,0,none⟩) len j) len ((dR cells vs d).flatMap id)) (lv:vs.length=cells.length) (lf:d.length=cells.length) (p:cells[n]? = some c) (q:vs[n]? = some v) (hf:d[n]? = some f) (v':Value) (l:List Val) : (w.setCell ⟨g,n*4+2,none⟩ v').ownsRow B 166 4 (.slice (some ⟨g,0,none⟩) len j) len ((dR (cells.set n { c with vals:=l }) (vs.set n v') (d.set n f)).flatMap id):=by have h1:=(h.stored (n*4+2) v').1;rw[fG _ n 2 _ _ (jU _ _ _) (gP _ _ _ n _ _ _ p q hf) (by decide)] at h1;rw[<-nK _ _ _ n _ _ _ lv lf];exact h1
theorem aj1 {w:World} {B d len q:Nat} {cells:List bJ} {vs g:List Value} {n:Nat} {c:bJ} {v f:Value} (h:w.ownsRow B 166 4 (.slice (some ⟨d,0,none⟩) len q) len ((dR cells vs g).flatMap id)) (lv:vs.length=cells.length) (lf:g.length=cells.length) (r:cells[n]? = some c) (s:vs[n]? = some v) (hf:g[n]? = some f) (v':Value) (l:List Val) (num:Int) : ((w.setCell ⟨d,n*4+1,none⟩ (.int .i64 num)).setCell ⟨d,n*4+2,none⟩ v').ownsRow B 166 4 (.slice (some ⟨d,0,none⟩) len q) len ((dR (cells.set n { c with num:=num,vals:=l }) (vs.set n v') (g.set n f)).flatMap id):=by have h1:=(h.stored (n*4+1) (.int .i64 num)).1;have j:=gP _ _ _ n _ _ _ r s hf;rw[fG _ n 1 _ _ (jU _ _ _) j (by decide)] at h1;have p:=(h1.stored (n*4+2) v').1;rw[fG _ n 2 _ _ (gR (jU _ _ _) rfl) (fC j _) (by decide),List.set_set] at p;rw[<-nK _ _ _ n _ _ _ lv lf];exact p
theorem acY (K:jZ Γ) (L:cC Γ w W cv vv vs fs) {i:Nat} (hi:i<W.vals.length) (hn:W.vals.length<=300) (hl:W.cells.length<=300) (x:aT) (ha:0<=x.a/\x.a<W.vals.length) (hb:x.op=11->0<=x.b/\x.b<W.vals.length) (i1:x.op≠15->0<=x.n) (i2:x.op=10\/x.op=11\/x.op=15) (i3:wfi x.n) : Calls prog 234 #[.pointer (some ⟨Γ.wb,0,none⟩),.int .i64 (i:Int),.agg #[.int .i64 x.op,.int .i64 x.a,.int .i64 x.b,.int .i64 x.c,.int .i64 x.n,.int .i64 x.exit,.int .i64 x.k.kind,.int .i64 x.k.n]] w (xL Γ (jK W i x).1 (.int .i64 (jK W i x).2) w):=by
 obtain⟨g,f7,g6,-,o3⟩:=L.vals.form (by omega);obtain⟨ka,g7⟩:∃ka:Nat,x.a=(ka:Int):=⟨x.a.toNat,by omega⟩;obtain⟨y,hy⟩:∃y,W.vals[ka]? = some y:=⟨_,lG (by omega)⟩;obtain⟨w1,d8⟩:∃w1,w1=w.alloc (.cells #[.int .i64 x.op,.int .i64 x.a,.int .i64 x.b,.int .i64 x.c,.int .i64 x.n,.int .i64 x.exit,.int .i64 x.k.kind,.int .i64 x.k.n] 53):=⟨_,rfl⟩;have K1:Hid (Below w.heap.size w w1):=by rw[d8];exact aA _ _
 have s:Hid (aJ w1 w.heap.size [.int .i64 x.op,.int .i64 x.a,.int .i64 x.b,.int .i64 x.c,.int .i64 x.n,.int .i64 x.exit,.int .i64 x.k.kind,.int .i64 x.k.n]):=by rw[d8];exact akV _ _ _
 have I:=hI K;have L1:=hI (L.below K K1.o);have CC:=hI (rN K L1.o hy hl);rw[<-g7] at CC;clear g7;have HV:=hI g6;have k8:=hI d8;have g1:=s.o 1 _ rfl;have o0:(i:Int)<W.vals.length:=by omega
 have l0:=hI hb;have g3:=hI i1;have l2:=hI i2;have o1:=hI i3;clear d8 L K g6 hb i1 i2 i3 ha;obtain⟨W',f8⟩:∃W',(jK W i x).1=W':=⟨_,rfl⟩;obtain⟨q,hq⟩:∃q,(jK W i x).2=q:=⟨_,rfl⟩;rw[f8,hq];have HW:=hI f8;have HQ:=hI hq;clear f8 hq;go_enter func234,ntmps234;go_wp2_with fail;rw[<-k8.o];refine CC.o.mono ?_;rintro e w2 ⟨rfl,k2⟩;have d:=hI k2;have K2:=btZ K1 k2;have L2:=hI (L1.o.below I.o k2);clear k2 g1;cases N:dG W x.a with
 | none=>
  rw[gS N]
  have F:Hid ((W,(2:Int))=(W',q)):=by rw[<-HW.o,<-HQ.o];unfold jK;rw[N];rfl
  go_upto_region 3 with fail
  refine aD (by kernel_rfl) (by kernel_rfl) ?_
  repeat (go_big_quiet_step (fail))
  refine wpQuiet_nil ?_
  rintro _ ⟨E,rfl⟩
  have J:=btZ K2 E.below
  have z:=hI (L2.o.below I.o E.below)
  go_wp2_with fail
  go_ret
  have G:=congrArg Prod.fst F.o
  have H:=congrArg Prod.snd F.o
  dsimp only at G H
  subst G;subst H
  exact⟨rfl,⟨_,_,_,_,z.o⟩,aQ.of J.o⟩
 | some p=>
  obtain⟨n,c⟩:=p
  obtain⟨gc,cc,v,f,vA,vc,o7,hc,hv,hf,m2,h6,c0,c1,c2,c3,o8⟩:=L2.o.atCell N
  rw[h6]
  subst m2
  have HC:=hI hc
  have S:=hI hv
  have HF:=hI hf
  have C2:=hI c2
  have HS:Hid ((if x.op≠15/\(c.vals.length:Int)<=x.n then(W,2) else if x.op=10 then(setV W i (c.vals.getD x.n.toNat ⟨0,0⟩),0) else if x.op=11 then(setCW W n { c with vals:=c.vals.set x.n.toNat (bL W x.b) },0) else(setV W i ⟨2,c.vals.length⟩,0))=(W',q)):=by
   rw[<-HW.o,<-HQ.o];unfold jK;rw[N];show _=_;rfl
  clear N c0 c1 c3 hc hv hf h6 HW HQ
  rcases l2.o with h | h | h
  ·have l:=hI h
   have a0:∀E:Up w2,E.to.cell? ⟨w.heap.size,0,none⟩=some (.int .i64 10):=λE=>E.cell (aC d.o (by rw[<-h];exact s.o 0 _ rfl))
   have a5:=ecZ c2
   clear c2
   by_cases a1:(c.vals.length:Int)<=x.n
   ·have a4:∀E:Up w2,E.to.cell? ⟨w.heap.size,4,none⟩=some (.int .i64 x.n):=λE=>E.cell (aC d.o (s.o 4 _ rfl))
    have F:Hid ((W,(2:Int))=(W',q)):=by show _=_;rw[<-HS.o,if_pos ⟨by rw[l.o];decide,a1⟩]
    go_upto_region 3 with fail
    refine aD (by kernel_rfl) (by kernel_rfl) ?_
    repeat (go_big_quiet_step (fail))
    refine wpQuiet_nil ?_
    rintro _ ⟨E,rfl⟩
    have J:=btZ K2 E.below
    have z:=hI (L2.o.below I.o E.below)
    have r:=hI E.below
    obtain⟨j,A⟩:∃j,j=E.to:=⟨_,rfl⟩
    rw[<-A] at J z r ⊢
    clear A E a0 a4 a5
    have b0:j.cell? ⟨w.heap.size,0,none⟩=some (.int .i64 10):=aC (d.o.trans (r.o.mono d.o.size)) (by rw[<-l.o];exact s.o 0 _ rfl)
    go_wp2_with fail
    go_ret
    have G:=congrArg Prod.fst F.o
    have H:=congrArg Prod.snd F.o
    dsimp only at G H
    subst G;subst H
    exact⟨rfl,⟨_,_,_,_,z.o⟩,aQ.of J.o⟩
   ·have e4:=g3.o (by rw[l.o];decide)
    obtain⟨m,hm⟩:∃m:Nat,x.n=(m:Int):=⟨x.n.toNat,by omega⟩
    have HM:=hI hm
    have V:=HS.o
    rw[if_neg (λh=>a1 h.2),hm,Int.toNat_natCast] at V
    have e6:=hI V
    have b4:m<c.vals.length:=by omega
    clear V a1 hm e4
    have l3:(m:Int)<c.vals.length:=by omega
    have l4:¬c.vals.length<=m:=by omega
    obtain⟨D,b5⟩:∃D,c.vals[m]? = some D:=⟨_,lG b4⟩
    have a3:=hI b5
    clear b5
    have a4:∀E:Up w2,E.to.cell? ⟨w.heap.size,4,none⟩=some (.int .i64 m):=λE=>E.cell (by rw[<-HM.o];exact aC d.o (s.o 4 _ rfl))
    go_upto_region 3 with fail
    refine aD (by kernel_rfl) (by kernel_rfl) ?_
    repeat (go_big_quiet_step (fail))
    refine wpQuiet_nil ?_
    rintro _ ⟨E,rfl⟩
    have J:=btZ K2 E.below
    have z:=hI (L2.o.below I.o E.below)
    have r:=hI E.below
    obtain⟨j,A⟩:∃j,j=E.to:=⟨_,rfl⟩
    rw[<-A] at J z r ⊢
    clear A E a0 a4 a5
    have b0:j.cell? ⟨w.heap.size,0,none⟩=some (.int .i64 10):=aC (d.o.trans (r.o.mono d.o.size)) (by rw[<-l.o];exact s.o 0 _ rfl)
    obtain⟨X,k4,Y,-,m3⟩:=(z.o.cvals n _ c S.o HC.o).form (Nat.zero_lt_of_lt b4)
    injection Y with Y _ _
    subst Y
    have OV:=hI (z.o.cvals n _ c S.o HC.o)
    have F:Hid ((setV W i D,(0:Int))=(W',q)):=by
     show _=_
     rw[<-e6.o,if_pos l.o,List.getD_eq_getElem?_getD,a3.o];rfl
    have v0:j.cell? ⟨X,m*2,none⟩=some (.int .i64 D.kind):=by rw[OV.o.cellAt (m*2) (by omega)];exact cF a3.o (k:=0) (by decide)
    have v1:j.cell? ⟨X,m*2+1,none⟩=some (.int .i64 D.n):=by rw[OV.o.cellAt (m*2+1) (by omega)];exact cF a3.o (k:=1) (by decide)
    go_upto_region 6 with fail
    have d0:∀E:Up j,E.to.cell? ⟨Γ.wb,17,none⟩=some (.slice (some ⟨g,0,none⟩) W.vals.length f7):=λE=>E.cell (by have h:=z.o.own I.o 4;rw[HV.o] at h;exact h)
    have d1:∀E:Up j,E.to.cell? ⟨gc,n*4+2,none⟩=some (.slice (some ⟨X,0,none⟩) c.vals.length vc):=λE=>E.cell (aC r.o C2.o)
    have d2:∀E:Up j,E.to.cell? ⟨w.heap.size,4,none⟩=some (.int .i64 m):=λE=>E.cell (by rw[<-HM.o];exact aC (d.o.trans (r.o.mono d.o.size)) (s.o 4 _ rfl))
    have d3:∀E:Up j,E.to.cell? ⟨X,m*2,none⟩=some (.int .i64 D.kind):=λE=>E.cell (v0)
    have d4:∀E:Up j,E.to.cell? ⟨X,m*2+1,none⟩=some (.int .i64 D.n):=λE=>E.cell (v1)
    refine aU 13 (by kernel_rfl) (by kernel_rfl) ?_
    simp only[List.take_succ_cons,List.take_zero]
    repeat (go_big_quiet_step (fail))
    refine wpQuiet_nil ?_
    intro w' hE
    obtain⟨E,rfl⟩:=hE
    obtain⟨wy,Z⟩:=E
    dsimp only
    have LY:=hI (z.o.below I.o Z)
    have KY:=btZ J Z
    clear Z b0 d0 d1 d2 d3 d4
    have TH:Hid (wy.there g (i*2) 2):=by
     have:=LY.o.vals
     rw[HV.o] at this
     exact fQ this (by omega)
    obtain⟨u,hu⟩:∃u,W.vals[i]? = some u:=⟨_,lG hi⟩
    have O:WfV D:=(z.o.wfc c (lM HC.o)).2.2 D (lM a3.o)
    have S9:Hid (cC Γ (wy.setCells g (i*2) [.int .i64 D.kind,.int .i64 D.n]) (setV W i D) cv vv vs fs/\aQ wy (wy.setCells g (i*2) [.int .i64 D.kind,.int .i64 D.n])):=LY.o.setVal I.o hu O HV.o
    clear hu O v0 v1
    simp only[List.drop_succ_cons,List.drop_zero]
    go_upto_region 9 with (first | (refine wpList_store_mid rfl 51 _ _ rfl g (i*2) #[.int .i64 D.kind,.int .i64 D.n] rfl rfl TH.o fB (oCz (by simp[Value.oneCell'])) ?_) | fail)
    generalize P:World.setCells _ _ _ _=w9
    rw[P] at S9
    clear P
    (try dsimp only [Act.put])
    go_wp2_with fail
    go_ret
    have G:=congrArg Prod.fst F.o
    have H:=congrArg Prod.snd F.o
    dsimp only at G H
    subst G;subst H
    exact⟨rfl,⟨_,_,_,_,S9.o.1⟩,(aQ.of KY.o).trans S9.o.2⟩
  ·have l:=hI h
   have a0:∀E:Up w2,E.to.cell? ⟨w.heap.size,0,none⟩=some (.int .i64 11):=λE=>E.cell (aC d.o (by rw[<-h];exact s.o 0 _ rfl))
   have a5:=ecZ c2
   clear c2
   by_cases a1:(c.vals.length:Int)<=x.n
   ·have a4:∀E:Up w2,E.to.cell? ⟨w.heap.size,4,none⟩=some (.int .i64 x.n):=λE=>E.cell (aC d.o (s.o 4 _ rfl))
    have F:Hid ((W,(2:Int))=(W',q)):=by show _=_;rw[<-HS.o,if_pos ⟨by rw[l.o];decide,a1⟩]
    go_upto_region 3 with fail
    refine aD (by kernel_rfl) (by kernel_rfl) ?_
    repeat (go_big_quiet_step (fail))
    refine wpQuiet_nil ?_
    rintro _ ⟨E,rfl⟩
    have J:=btZ K2 E.below
    have z:=hI (L2.o.below I.o E.below)
    have r:=hI E.below
    obtain⟨j,A⟩:∃j,j=E.to:=⟨_,rfl⟩
    rw[<-A] at J z r ⊢
    clear A E a0 a4 a5
    have b0:j.cell? ⟨w.heap.size,0,none⟩=some (.int .i64 11):=aC (d.o.trans (r.o.mono d.o.size)) (by rw[<-l.o];exact s.o 0 _ rfl)
    go_wp2_with fail
    go_ret
    have G:=congrArg Prod.fst F.o
    have H:=congrArg Prod.snd F.o
    dsimp only at G H
    subst G;subst H
    exact⟨rfl,⟨_,_,_,_,z.o⟩,aQ.of J.o⟩
   ·obtain⟨m4,m5⟩:=l0.o h
    obtain⟨R,h7⟩:∃R:Nat,x.b=(R:Int):=⟨x.b.toNat,by omega⟩
    have l5:R<W.vals.length:=by omega
    have o2:(R:Int)<W.vals.length:=by omega
    obtain⟨M,h8⟩:∃M,W.vals[R]? = some M:=⟨_,lG l5⟩
    have g4:=hI h7
    have d7:=hI h8
    clear m4 m5 h7 h8
    have e4:=g3.o (by rw[l.o];decide)
    obtain⟨m,hm⟩:∃m:Nat,x.n=(m:Int):=⟨x.n.toNat,by omega⟩
    have HM:=hI hm
    have V:=HS.o
    rw[if_neg (λh=>a1 h.2),hm,Int.toNat_natCast] at V
    have e6:=hI V
    have b4:m<c.vals.length:=by omega
    clear V a1 hm e4
    have l3:(m:Int)<c.vals.length:=by omega
    have l4:¬c.vals.length<=m:=by omega
    obtain⟨D,b5⟩:∃D,c.vals[m]? = some D:=⟨_,lG b4⟩
    have a3:=hI b5
    clear b5
    have a4:∀E:Up w2,E.to.cell? ⟨w.heap.size,4,none⟩=some (.int .i64 m):=λE=>E.cell (by rw[<-HM.o];exact aC d.o (s.o 4 _ rfl))
    go_upto_region 3 with fail
    refine aD (by kernel_rfl) (by kernel_rfl) ?_
    repeat (go_big_quiet_step (fail))
    refine wpQuiet_nil ?_
    rintro _ ⟨E,rfl⟩
    have J:=btZ K2 E.below
    have z:=hI (L2.o.below I.o E.below)
    have r:=hI E.below
    obtain⟨j,A⟩:∃j,j=E.to:=⟨_,rfl⟩
    rw[<-A] at J z r ⊢
    clear A E a0 a4 a5
    have b0:j.cell? ⟨w.heap.size,0,none⟩=some (.int .i64 11):=aC (d.o.trans (r.o.mono d.o.size)) (by rw[<-l.o];exact s.o 0 _ rfl)
    obtain⟨X,k4,Y,-,m3⟩:=(z.o.cvals n _ c S.o HC.o).form (Nat.zero_lt_of_lt b4)
    injection Y with Y _ _
    subst Y
    have OV:=hI (z.o.cvals n _ c S.o HC.o)
    have F:Hid ((setCW W n { c with vals:=c.vals.set m M },(0:Int))=(W',q)):=by
     show _=_
     rw[<-e6.o,if_neg (by rw[l.o];decide),if_pos l.o,g4.o,iJ d7.o]
    have OW:=hI (z.o.vals)
    rw[HV.o] at OW
    have v0:j.cell? ⟨g,R*2,none⟩=some (.int .i64 M.kind):=by rw[OW.o.cellAt (R*2) (by omega)];exact cF d7.o (k:=0) (by decide)
    have v1:j.cell? ⟨g,R*2+1,none⟩=some (.int .i64 M.n):=by rw[OW.o.cellAt (R*2+1) (by omega)];exact cF d7.o (k:=1) (by decide)
    go_upto_region 8 with fail
    have d0:∀E:Up j,E.to.cell? ⟨Γ.wb,17,none⟩=some (.slice (some ⟨g,0,none⟩) W.vals.length f7):=λE=>E.cell (by have h:=z.o.own I.o 4;rw[HV.o] at h;exact h)
    have d1:∀E:Up j,E.to.cell? ⟨gc,n*4+2,none⟩=some (.slice (some ⟨X,0,none⟩) c.vals.length vc):=λE=>E.cell (aC r.o C2.o)
    have d2:∀E:Up j,E.to.cell? ⟨w.heap.size,4,none⟩=some (.int .i64 m):=λE=>E.cell (by rw[<-HM.o];exact aC (d.o.trans (r.o.mono d.o.size)) (s.o 4 _ rfl))
    have d3:∀E:Up j,E.to.cell? ⟨w.heap.size,2,none⟩=some (.int .i64 R):=λE=>E.cell (by rw[<-g4.o];exact aC (d.o.trans (r.o.mono d.o.size)) (s.o 2 _ rfl))
    have d4:∀E:Up j,E.to.cell? ⟨g,R*2,none⟩=some (.int .i64 M.kind):=λE=>E.cell (v0)
    have d5:∀E:Up j,E.to.cell? ⟨g,R*2+1,none⟩=some (.int .i64 M.n):=λE=>E.cell (v1)
    refine aU 14 (by kernel_rfl) (by kernel_rfl) ?_
    simp only[List.take_succ_cons,List.take_zero]
    repeat (go_big_quiet_step (fail))
    refine wpQuiet_nil ?_
    intro w' hE
    obtain⟨E,rfl⟩:=hE
    obtain⟨wy,Z⟩:=E
    dsimp only
    have LY:=hI (z.o.below I.o Z)
    have KY:=btZ J Z
    clear Z b0 d0 d1 d2 d3 d4 d5
    have TH:Hid (wy.there X (m*2) 2):=fQ (LY.o.cvals n _ c S.o HC.o) (by omega)
    have O:WfV M:=z.o.wfv M (lM d7.o)
    have S9:Hid ((∃h9 i0,cC Γ (wy.setCells X (m*2) [.int .i64 M.kind,.int .i64 M.n]) (setCW W n { c with vals:=c.vals.set m M }) cv vv h9 i0)/\aQ wy (wy.setCells X (m*2) [.int .i64 M.kind,.int .i64 M.n])):=LY.o.setCV I.o HC.o S.o HF.o a3.o O rfl
    clear O v0 v1
    simp only[List.drop_succ_cons,List.drop_zero]
    go_upto_region 9 with (first | (refine wpList_store_mid rfl 51 _ _ rfl X (m*2) #[.int .i64 M.kind,.int .i64 M.n] rfl rfl TH.o fB (oCz (by simp[Value.oneCell'])) ?_) | fail)
    generalize P:World.setCells _ _ _ _=w9
    rw[P] at S9
    clear P
    (try dsimp only [Act.put])
    go_wp2_with fail
    go_ret
    have G:=congrArg Prod.fst F.o
    have H:=congrArg Prod.snd F.o
    dsimp only at G H
    subst G;subst H
    obtain⟨⟨h9,i0,l9⟩,k9⟩:=S9.o
    exact⟨rfl,⟨_,_,_,_,l9⟩,(aQ.of KY.o).trans k9⟩
  ·have l:=hI h
   have a0:∀E:Up w2,E.to.cell? ⟨w.heap.size,0,none⟩=some (.int .i64 15):=λE=>E.cell (aC d.o (by rw[<-h];exact s.o 0 _ rfl))
   have a5:=ecZ c2
   clear c2
   have a4:∀E:Up w2,E.to.cell? ⟨w.heap.size,4,none⟩=some (.int .i64 x.n):=λE=>E.cell (aC d.o (s.o 4 _ rfl))
   go_upto_region 3 with fail
   refine aD (by kernel_rfl) (by kernel_rfl) ?_
   repeat (go_big_quiet_step (fail))
   refine wpQuiet_nil ?_
   rintro _ ⟨E,rfl⟩
   have J:=btZ K2 E.below
   have z:=hI (L2.o.below I.o E.below)
   have r:=hI E.below
   obtain⟨j,A⟩:∃j,j=E.to:=⟨_,rfl⟩
   rw[<-A] at J z r ⊢
   clear A E a0 a4 a5
   have b0:j.cell? ⟨w.heap.size,0,none⟩=some (.int .i64 15):=aC (d.o.trans (r.o.mono d.o.size)) (by rw[<-l.o];exact s.o 0 _ rfl)
   have F:Hid ((setV W i ⟨2,(c.vals.length:Int)⟩,(0:Int))=(W',q)):=by
    show _=_
    rw[<-HS.o,if_neg (λh=>h.1 l.o),if_neg (by rw[l.o];decide),if_neg (by rw[l.o];decide)]
   go_upto_region 2 with fail
   have d0:∀E:Up j,E.to.cell? ⟨Γ.wb,17,none⟩=some (.slice (some ⟨g,0,none⟩) W.vals.length f7):=λE=>E.cell (by have h:=z.o.own I.o 4;rw[HV.o] at h;exact h)
   have d1:∀E:Up j,E.to.cell? ⟨gc,n*4+2,none⟩=some (.slice vA c.vals.length vc):=λE=>E.cell (aC r.o C2.o)
   refine aU 11 (by kernel_rfl) (by kernel_rfl) ?_
   simp only[List.take_succ_cons,List.take_zero]
   repeat (go_big_quiet_step (fail))
   refine wpQuiet_nil ?_
   intro w' hE
   obtain⟨E,rfl⟩:=hE
   obtain⟨wy,Z⟩:=E
   dsimp only
   have LY:=hI (z.o.below I.o Z)
   have KY:=btZ J Z
   clear Z b0 d0 d1
   have TH:Hid (wy.there g (i*2) 2):=by
    have:=LY.o.vals
    rw[HV.o] at this
    exact fQ this (by omega)
   obtain⟨u,hu⟩:∃u,W.vals[i]? = some u:=⟨_,lG hi⟩
   have g5:c.vals.length<=maxLen:=by
    rcases (LY.o.cvals n _ c S.o HC.o).2 with ⟨e,h0⟩ | ⟨g',n9,o9,e,h1,h2,h3,h4,h5⟩
    ·rw[h0];exact Nat.zero_le _
    ·omega
   have O:WfV ⟨2,(c.vals.length:Int)⟩:=by unfold maxLen at g5;unfold WfV wfi;constructor <;> (constructor <;> simp <;> omega)
   have S9:Hid (cC Γ (wy.setCells g (i*2) [.int .i64 2,.int .i64 (c.vals.length:Int)]) (setV W i ⟨2,(c.vals.length:Int)⟩) cv vv vs fs/\aQ wy (wy.setCells g (i*2) [.int .i64 2,.int .i64 (c.vals.length:Int)])):=LY.o.setVal I.o hu O HV.o
   clear hu O g5
   simp only[List.drop_succ_cons,List.drop_zero]
   go_upto_region 9 with (first | (refine wpList_store_mid rfl 51 _ _ rfl g (i*2) #[.int .i64 2,.int .i64 (c.vals.length:Int)] rfl rfl TH.o fB (oCz (by simp[Value.oneCell'])) ?_) | fail)
   generalize P:World.setCells _ _ _ _=w9
   rw[P] at S9
   clear P
   (try dsimp only [Act.put])
   go_wp2_with fail
   go_ret
   have G:=congrArg Prod.fst F.o
   have H:=congrArg Prod.snd F.o
   dsimp only at G H
   subst G;subst H
   exact⟨rfl,⟨_,_,_,_,S9.o.1⟩,(aQ.of KY.o).trans S9.o.2⟩
end
end
section
open Go.RowKit
def gA (W:aG) (a:Int) (y:Val) (m how:Int):Prop:=
 match dG W a with
 | none=>how=2
 | some (_,c)=>if c.kind≠2 then how=2 else if ¬(y.kind=2/\0<=y.n/\y.n<c.vals.length) then how=1 else how=0/\m=y.n
theorem iY {W:aG} {a:Int} {y:Val} {m how:Int} {n:Nat} {c:bJ} (h:dG W a=some (n,c)) (d:if c.kind≠2 then how=2 else if ¬(y.kind=2/\0<=y.n/\y.n<c.vals.length) then how=1 else how=0/\m=y.n):gA W a y m how:=by unfold gA;rw[h];exact d
section
variable {Γ : mW} {w w':World} {W:aG} {cv vv:Value} {vs fs:List Value}
theorem ai5 (K:jZ Γ) (L:cC Γ w W cv vv vs fs) {i:Nat} {y:Val} (hy:W.vals[i]? = some y) (hn:W.vals.length<=300) (a:Int) : Calls prog 237 #[.pointer (some ⟨Γ.wb,0,none⟩),.pointer (rO cv W a),.int .i64 (i:Int)] w λe w'=>∃m how,e=.returned (.tuple #[.int .i64 m,.int .i64 how])/\Below w.heap.size w w'/\gA W a y m how:=by
 have hi:i<W.vals.length:=(lE hy).1;have c7:(i:Int)<W.vals.length:=by omega
 cases l:dG W a with
 | none=>
  rw[gS l]
  have r:Hid (∀m,gA W a y m 2):=λm=>by unfold gA;rw[l]
  go_enter func237,ntmps237
  go_wp2_with fail
  refine bodyPost_ret (v:=.tuple #[.int .i64 0,.int .i64 2]) (by simp[results,results237,go_sem]) rfl ⟨_,_,rfl,Below.refl _ _,r.o _⟩
 | some p=>
  obtain⟨n,c⟩:=p
  obtain⟨X,cc,v,f,Y,Z,b2,hc,hv,hf,b3,a6,P,c1,z,c3,d1⟩:=L.atCell l
  rw[a6]
  subst b3
  have u:=hI l
  clear l c1 c3 hc hv hf a6 b2
  by_cases S:c.kind=2
  ·obtain⟨g,b4,R,-,d2⟩:=L.vals.form (by omega)
   have c8:w.cell? ⟨Γ.wb,17,none⟩=some (.slice (some ⟨g,0,none⟩) W.vals.length b4):=by rw[<-R];exact L.own K 4
   have OW:=hI L.vals
   rw[R] at OW
   have g0:w.cell? ⟨g,i*2,none⟩=some (.int .i64 y.kind):=by rw[OW.o.cellAt (i*2) (by omega)];exact cF hy (k:=0) (by decide)
   have g1:w.cell? ⟨g,i*2+1,none⟩=some (.int .i64 y.n):=by rw[OW.o.cellAt (i*2+1) (by omega)];exact cF hy (k:=1) (by decide)
   obtain⟨w1,M⟩:∃w1,w1=w.alloc (.cells #[.int .i64 y.kind,.int .i64 y.n] 51):=⟨_,rfl⟩
   have x:Hid (Below w.heap.size w w1):=by rw[M];exact aA _ _
   have q:Hid (aJ w1 w.heap.size [.int .i64 y.kind,.int .i64 y.n]):=by rw[M];exact akV _ _ _
   have I:=hI M
   rw[S] at P
   have V:=hI S
   clear M S L K R hy
   go_enter func237,ntmps237
   by_cases hk:y.kind=2
   ·have J:=hI hk
    clear hk
    by_cases N:0<=y.n
    ·obtain⟨m,hm⟩:∃m:Nat,y.n=(m:Int):=⟨y.n.toNat,by omega⟩
     have HM:=hI hm
     by_cases O:y.n<c.vals.length
     ·have r:Hid (gA W a y m 0):=iY u.o (by rw[if_neg (λh=>h V.o),if_neg (λh=>h ⟨J.o,N,O⟩)];exact⟨rfl,hm.symm⟩)
      have b0:m<c.vals.length:=by omega
      clear hm N O
      have A:∀E:Up w1,E.to.cell? ⟨w.heap.size,0,none⟩=some (.int .i64 2):=λE=>E.cell (by rw[<-J.o];exact q.o 0 _ rfl)
      have D:∀E:Up w1,E.to.cell? ⟨w.heap.size,1,none⟩=some (.int .i64 m):=λE=>E.cell (by rw[<-HM.o];exact q.o 1 _ rfl)
      have F:∀E:Up w1,E.to.cell? ⟨X,n*4+2,none⟩=some (.slice Y c.vals.length Z):=λE=>E.cell (aC x.o z)
      have j:∀(b:Bool) (d:World),Calls prog 231 #[.bool b,.int .i64 1] d λe w'=>e=.returned (.int .i64 (isW b 1))/\d=w':=λb d=>aaM b 1 d
      have s:=hI j
      clear j z
      go_upto_region 4 with fail
      rw[<-I.o]
      clear P
      refine aU 21 (by kernel_rfl) (by kernel_rfl) ?_
      simp only[List.take_succ_cons,List.take_zero]
      repeat (go_big_quiet_step ((go_at_call 231;with_reducible exact akW (s.o _ _))))
      refine wpQuiet_nil ?_
      intro w' H
      obtain⟨E,rfl⟩:=H
      have G:=btZ x E.below
      clear A D F
      simp only[List.drop_succ_cons,List.drop_zero]
      go_wp2_with fail
      refine bodyPost_ret (v:=.tuple #[.int .i64 m,.int .i64 0]) (by simp[results,results237,go_sem,isW]) rfl ⟨_,_,rfl,G.o,r.o⟩
     ·have r:Hid (gA W a y m 1):=iY u.o (by rw[if_neg (λh=>h V.o),if_pos (λh=>O h.2.2)])
      have b0:¬m<c.vals.length:=by omega
      clear hm N O
      have A:∀E:Up w1,E.to.cell? ⟨w.heap.size,0,none⟩=some (.int .i64 2):=λE=>E.cell (by rw[<-J.o];exact q.o 0 _ rfl)
      have D:∀E:Up w1,E.to.cell? ⟨w.heap.size,1,none⟩=some (.int .i64 m):=λE=>E.cell (by rw[<-HM.o];exact q.o 1 _ rfl)
      have F:∀E:Up w1,E.to.cell? ⟨X,n*4+2,none⟩=some (.slice Y c.vals.length Z):=λE=>E.cell (aC x.o z)
      have j:∀(b:Bool) (d:World),Calls prog 231 #[.bool b,.int .i64 1] d λe w'=>e=.returned (.int .i64 (isW b 1))/\d=w':=λb d=>aaM b 1 d
      have s:=hI j
      clear j z
      go_upto_region 4 with fail
      rw[<-I.o]
      clear P
      refine aU 21 (by kernel_rfl) (by kernel_rfl) ?_
      simp only[List.take_succ_cons,List.take_zero]
      repeat (go_big_quiet_step ((go_at_call 231;with_reducible exact akW (s.o _ _))))
      refine wpQuiet_nil ?_
      intro w' H
      obtain⟨E,rfl⟩:=H
      have G:=btZ x E.below
      clear A D F
      simp only[List.drop_succ_cons,List.drop_zero]
      go_wp2_with fail
      refine bodyPost_ret (v:=.tuple #[.int .i64 m,.int .i64 1]) (by simp[results,results237,go_sem,isW]) rfl ⟨_,_,rfl,G.o,r.o⟩
    ·have r:Hid (∀m,gA W a y m 1):=λm=>iY u.o (by rw[if_neg (λh=>h V.o),if_pos (λh=>N h.2.1)])
     have A:∀E:Up w1,E.to.cell? ⟨w.heap.size,0,none⟩=some (.int .i64 2):=λE=>E.cell (by rw[<-J.o];exact q.o 0 _ rfl)
     have D:=ecZ (q.o 1 _ rfl)
     have F:∀E:Up w1,E.to.cell? ⟨X,n*4+2,none⟩=some (.slice Y c.vals.length Z):=λE=>E.cell (aC x.o z)
     have j:∀(b:Bool) (d:World),Calls prog 231 #[.bool b,.int .i64 1] d λe w'=>e=.returned (.int .i64 (isW b 1))/\d=w':=λb d=>aaM b 1 d
     have s:=hI j
     clear j z
     go_upto_region 4 with fail
     rw[<-I.o]
     clear P
     refine aU 21 (by kernel_rfl) (by kernel_rfl) ?_
     simp only[List.take_succ_cons,List.take_zero]
     repeat (go_big_quiet_step ((go_at_call 231;with_reducible exact akW (s.o _ _))))
     refine wpQuiet_nil ?_
     intro w' H
     obtain⟨E,rfl⟩:=H
     have G:=btZ x E.below
     clear A D F
     simp only[List.drop_succ_cons,List.drop_zero]
     go_wp2_with fail
     refine bodyPost_ret (v:=.tuple #[.int .i64 y.n,.int .i64 1]) (by simp[results,results237,go_sem,isW]) rfl ⟨_,_,rfl,G.o,r.o _⟩
   ·have r:Hid (∀m,gA W a y m 1):=λm=>iY u.o (by rw[if_neg (λh=>h V.o),if_pos (λh=>hk h.1)])
    have c9:(y.kind == 2)=false:=by simpa using hk
    have A:=ecZ (q.o 0 _ rfl)
    have D:=ecZ (q.o 1 _ rfl)
    have F:∀E:Up w1,E.to.cell? ⟨X,n*4+2,none⟩=some (.slice Y c.vals.length Z):=λE=>E.cell (aC x.o z)
    have j:∀(b:Bool) (d:World),Calls prog 231 #[.bool b,.int .i64 1] d λe w'=>e=.returned (.int .i64 (isW b 1))/\d=w':=λb d=>aaM b 1 d
    have s:=hI j
    clear j z
    go_upto_region 4 with fail
    rw[<-I.o]
    clear P
    refine aU 21 (by kernel_rfl) (by kernel_rfl) ?_
    simp only[List.take_succ_cons,List.take_zero]
    repeat (go_big_quiet_step ((go_at_call 231;with_reducible exact akW (s.o _ _))))
    refine wpQuiet_nil ?_
    intro w' H
    obtain⟨E,rfl⟩:=H
    have G:=btZ x E.below
    clear A D F
    simp only[List.drop_succ_cons,List.drop_zero]
    go_wp2_with fail
    refine bodyPost_ret (v:=.tuple #[.int .i64 y.n,.int .i64 1]) (by simp[results,results237,go_sem,isW]) rfl ⟨_,_,rfl,G.o,r.o _⟩
  ·have r:Hid (∀m,gA W a y m 2):=λm=>iY u.o (by rw[if_pos S])
   have d0:(c.kind != 2)=true:=by simpa using S
   go_enter func237,ntmps237
   go_wp2_with fail
   refine bodyPost_ret (v:=.tuple #[.int .i64 0,.int .i64 2]) (by simp[results,results237,go_sem]) rfl ⟨_,_,rfl,Below.refl _ _,r.o _⟩
end
end
section
open Go.RowKit
section
variable {P:Program} {ops:Array Oper} {md:Region.Mode} {C:World->Prop} {Q:Exit->Act->World->Prop}
def ae6 (md:Region.Mode) (ops:Array Oper) (listed:Array Bool):Bool:=(List.range ops.size).all λj=>!listed.getD j false || (match ops[j]? with | none=>true | some o=>o.after.all λe=>!Region.binds md e || listed.getD e.on false)
theorem aaV {d:Array Bool} (h:ae6 md ops d=true):jH md ops d:=by intro j p g hl e l hb;have h1:=List.all_eq_true.1 h j (List.mem_range.2 (aE g).1);rw[hl,g] at h1;simp only[Bool.not_true,Bool.false_or] at h1;have f:=Array.all_eq_true'.1 h1 e l;rw[hb] at f;simpa using f
def aj3 (md:Region.Mode) (ops:Array Oper) (F:Nat->Bool) (listed last:Array Bool) (qs:List Nat):Bool:=
 Region.noSelect ops && ae6 md ops listed && abS md ops F ops.size qs && qs.all F && tG md ops last qs listed
theorem iB {F:Nat->Bool} {f:Nat} {g:Array Bool} {a:Act} {w:World} (qs:List Nat) (m:Nat) (last:Array Bool) (lq:List Oper) (hB:aj3 md ops F g last qs=true) (hf:f=qs.length+m) (u:qs.filterMap (ops[·]?)=lq) (x:∀(c:_) (a:Act) (d:Option Tmp) (v:Value) (w:World),Q (.panic c) (a.put d v) w->Q (.panic c) a w) (y:C w) (h:wpQuiet P ops C (λp=>dH P md ops C F Q m last p w) lq a):dH P md ops C F Q f g a w:=by
 subst hf u;simp only[aj3,Bool.and_eq_true] at hB;obtain⟨⟨⟨⟨h1,h2⟩,h3⟩,h4⟩,h5⟩:=hB;refine nQ (qs0:=qs) h1 x (λg i j hi q r s=>?_) y qs g a (λ_ h=>h) (aaV h2) h5 h;by_cases l:j∈qs;·exact List.all_eq_true.1 h4 j l
 ·exact pZ h3 q hi r s l
end
end
end Go.Proofs.YtijihlcdhppfgaaGreatDoor
