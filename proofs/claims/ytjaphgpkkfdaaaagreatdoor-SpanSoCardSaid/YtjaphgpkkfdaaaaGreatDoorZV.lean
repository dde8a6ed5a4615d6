/- A part of the walk. -/
import Derived.Test.YtjaphgpkkfdaaaaGreatDoorZU
set_option maxHeartbeats 16000000
set_option maxRecDepth 100000
set_option linter.all false
namespace Go.Proofs.YtjaphgpkkfdaaaaGreatDoor
open Tryz
section
open Go.RowKit
section
variable {Γ : kI} {w w':World} {W:aI} {cv vv:Value} {vs fs:List Value}
theorem adT {a:Int} {n:Nat} {c:bC} (h:eF W a=some (n,c)):W.cells[n]? = some c:=by
 unfold eF at h;split at h
 ·obtain⟨d,e,f⟩:=Option.map_eq_some_iff.1 h;injection f with g i
  subst i;rw[<-g];exact e
 ·cases h
theorem bO.atCell (L:bO Γ w W cv vv vs fs) {a:Int} {n:Nat} {c:bC} (h:eF W a=some (n,c)) : ∃d l v f m p,cv=.slice (some ⟨d,0,none⟩) W.cells.length l/\W.cells[n]? = some c/\vs[n]? = some v/\fs[n]? = some f/\v=.slice m c.vals.length p/\nZ cv W a=some ⟨d,n*4,none⟩/\ w.cell? ⟨d,n*4,none⟩=some (.int .i64 c.kind)/\w.cell? ⟨d,n*4+1,none⟩=some (.int .i64 c.num)/\w.cell? ⟨d,n*4+2,none⟩=some v/\w.cell? ⟨d,n*4+3,none⟩=some f/\d<w.heap.size:=by
 have i:=adT h;have q:=(lE i).1;obtain⟨d,l,rfl,-,s⟩:=L.crow.form (by omega);have j:vs[n]? = some (vs[n]'(by rw[L.lv];exact q)):=lG _;have hf:fs[n]? = some (fs[n]'(by rw[L.lf];exact q)):=lG _;have r:=eP _ _ _ n _ _ _ i j hf;have x:n*4+4<=W.cells.length*4:=by omega
 have g:∀k,k<4->w.cell? ⟨d,n*4+k,none⟩=(bD c _ _)[k]?:=λk u=>by rw[L.crow.cellAt (n*4+k) (by omega)];exact b9 _ n k _ (g8 _ _ _) r u
 obtain⟨m,p,e⟩:=bV (L.cvals n _ c j i);refine⟨d,l,_,_,m,p,rfl,i,j,hf,e,?_,g 0 (by decide),g 1 (by decide),g 2 (by decide),g 3 (by decide),s⟩;unfold nZ;rw[h];rfl
theorem eV {a:Int} (h:eF W a=none):nZ cv W a=none:=by unfold nZ;rw[h];rfl
theorem bO.setCV (L:bO Γ w W cv vv vs fs) (K:hP Γ) {n k:Nat} {c:bC} {v f:Value} {x u:Val} (q:W.cells[n]? = some c) (s:vs[n]? = some v) (hf:fs[n]? = some f) (p:c.vals[k]? = some u) (J:WfV x) {g m l:Nat} (D:v=.slice (some ⟨g,0,none⟩) m l) : (∃A C,bO Γ (w.setCells g (k*2) (aZ x)) (setCW W n { c with vals:=c.vals.set k x }) cv vv A C)/\aQ w (w.setCells g (k*2) (aZ x)):=by
 subst D;have M:=(lE q).1;have own:=L.cvals n _ c s q;have E:=abP own;subst E;have o:cA (λj=>(Value.slice (some ⟨g,0,none⟩) c.vals.length l).ownBlock=some j) w (w.setCells g (k*2) (aZ x)):= cA.set (T:=λj=>(Value.slice (some ⟨g,0,none⟩) c.vals.length l).ownBlock=some j) (cA.set (T:=λj=>(Value.slice (some ⟨g,0,none⟩) c.vals.length l).ownBlock=some j) cA.refl rfl _ _) rfl _ _;have F:∀j,j<w.heap.size->(Value.slice (some ⟨g,0,none⟩) c.vals.length l).ownBlock=some j->∃cs,w.heap[j]? = some (.cells cs 48 (0,0)):=λj _ d=>aX own d;refine⟨⟨vs.set n (.slice (some ⟨g,0,none⟩) c.vals.length l),fs.set n f,L.putCell K (v':=.slice (some ⟨g,0,none⟩) c.vals.length l) (f':=f) (c':={ c with vals:=c.vals.set k x }) s (o.mono λ_ _ h=>.inl h) ?_ ?_ (λj d=>.inl d) (L.cfr n f c hf q) ?_⟩,aeC o (λj d p=>by obtain⟨cs,h⟩:=F j d p;exact⟨cs,_,h,.inr (.inr (.inr rfl))⟩)⟩
 ·have e:cK (W.cells.set n { c with vals:=c.vals.set k x }) (vs.set n (.slice (some ⟨g,0,none⟩) c.vals.length l)) (fs.set n f)=cK W.cells vs fs:=by
   rw[<-kP _ _ _ n _ _ _ L.lv L.lf];have z:=eP _ _ _ n _ _ _ q s hf;apply List.ext_getElem?;intro i;by_cases hi:i=n;·subst hi;rw[dO z,z];rfl
   ·rw[List.getElem?_set_ne (λe=>hi e.symm)]
  rw[e];exact fG L.crow (λj d=>o.block j (L.crow.lt j d).2 (λp=>by obtain⟨cs,G⟩:=aX L.crow d;obtain⟨N,H⟩:=aX own p;exact bJ G H (by decide) rfl))
 ·show World.ownsRow _ _ _ 2 _ (c.vals.set k x).length ((c.vals.set k x).flatMap aZ);rw[List.length_set];exact uP own p
 ·have r:=L.wfc c (lM q);refine⟨r.1,r.2.1,λy I=>?_⟩;rcases List.mem_or_eq_of_mem_set (show y∈c.vals.set k x from I) with h | h;·exact r.2.2 y h
  ·rw[h];exact J
theorem t8 {w:World} {B e len i:Nat} {cells:List bC} {vs d:List Value} {n:Nat} {c:bC} {v f:Value} (h:w.ownsRow B 55 4 (.slice (some ⟨e,0,none⟩) len i) len ((cK cells vs d).flatMap id)) (lv:vs.length=cells.length) (lf:d.length=cells.length) (j:cells[n]? = some c) (m:vs[n]? = some v) (hf:d[n]? = some f) (v':Value) (l:List Val) : (w.setCell ⟨e,n*4+2,none⟩ v').ownsRow B 55 4 (.slice (some ⟨e,0,none⟩) len i) len ((cK (cells.set n { c with vals:=l }) (vs.set n v') (d.set n f)).flatMap id):=by have g:=(h.stored (n*4+2) v').1;rw[dT _ n 2 _ _ (g8 _ _ _) (eP _ _ _ n _ _ _ j m hf) (by decide)] at g;rw[<-kP _ _ _ n _ _ _ lv lf];exact g
theorem adK {w:World} {B d len m:Nat} {cells:List bC} {vs e:List Value} {n:Nat} {c:bC} {v f:Value} (h:w.ownsRow B 55 4 (.slice (some ⟨d,0,none⟩) len m) len ((cK cells vs e).flatMap id)) (lv:vs.length=cells.length) (lf:e.length=cells.length) (p:cells[n]? = some c) (q:vs[n]? = some v) (hf:e[n]? = some f) (v':Value) (l:List Val) (num:Int) : ((w.setCell ⟨d,n*4+1,none⟩ (.int .i64 num)).setCell ⟨d,n*4+2,none⟩ v').ownsRow B 55 4 (.slice (some ⟨d,0,none⟩) len m) len ((cK (cells.set n { c with num:=num,vals:=l }) (vs.set n v') (e.set n f)).flatMap id):=by have g:=(h.stored (n*4+1) (.int .i64 num)).1;have i:=eP _ _ _ n _ _ _ p q hf;rw[dT _ n 1 _ _ (g8 _ _ _) i (by decide)] at g;have j:=(g.stored (n*4+2) v').1;rw[dT _ n 2 _ _ (eU (g8 _ _ _) rfl) (dO i _) (by decide),List.set_set] at j;rw[<-kP _ _ _ n _ _ _ lv lf];exact j
theorem xB (K:hP Γ) (L:bO Γ w W cv vv vs fs) {i:Nat} (hi:i<W.vals.length) (hn:W.vals.length<=300) (hl:W.cells.length<=300) (x:bG) (ha:0<=x.a/\x.a<W.vals.length) (hb:x.op=11->0<=x.b/\x.b<W.vals.length) (i0:x.op≠15->0<=x.n) (i1:x.op=10\/x.op=11\/x.op=15) (i2:wfi x.n) : Calls prog 147 #[.pointer (some ⟨Γ.wb,0,none⟩),.int .i64 (i:Int),.agg #[.int .i64 x.op,.int .i64 x.a,.int .i64 x.b,.int .i64 x.c,.int .i64 x.n,.int .i64 x.exit,.int .i64 x.k.kind,.int .i64 x.k.n]] w (sJ Γ (gW W i x).1 (.int .i64 (gW W i x).2) w):=by
 obtain⟨g,f3,g5,-,o1⟩:=L.vals.form (by omega);obtain⟨ka,g6⟩:∃ka:Nat,x.a=(ka:Int):=⟨x.a.toNat,by omega⟩;obtain⟨y,hy⟩:∃y,W.vals[ka]? = some y:=⟨_,lG (by omega)⟩;obtain⟨w1,d7⟩:∃w1,w1=w.alloc (.cells #[.int .i64 x.op,.int .i64 x.a,.int .i64 x.b,.int .i64 x.c,.int .i64 x.n,.int .i64 x.exit,.int .i64 x.k.kind,.int .i64 x.k.n] 92):=⟨_,rfl⟩;have K1:Hid (Below w.heap.size w w1):=by rw[d7];exact aB _ _
 have s:Hid (aA w1 w.heap.size [.int .i64 x.op,.int .i64 x.a,.int .i64 x.b,.int .i64 x.c,.int .i64 x.n,.int .i64 x.exit,.int .i64 x.k.kind,.int .i64 x.k.n]):=by rw[d7];exact ad5 _ _ _
 have H:=hI K;have L1:=hI (L.below K K1.o);have CC:=hI (nY K L1.o hy hl);rw[<-g6] at CC;clear g6;have HV:=hI g5;have k7:=hI d7;have g1:=s.o 1 _ rfl;have n8:(i:Int)<W.vals.length:=by omega
 have k8:=hI hb;have g2:=hI i0;have l0:=hI i1;have n9:=hI i2;clear d7 L K g5 hb i0 i1 i2 ha;obtain⟨W',f7⟩:∃W',(gW W i x).1=W':=⟨_,rfl⟩;obtain⟨q,hq⟩:∃q,(gW W i x).2=q:=⟨_,rfl⟩;rw[f7,hq];have HW:=hI f7;have HQ:=hI hq;clear f7 hq;go_enter func147,ntmps147;go_wp2_with fail;rw[<-k7.o];refine CC.o.mono ?_;rintro e w2 ⟨rfl,k2⟩;have d:=hI k2;have K2:=btZ K1 k2;have L2:=hI (L1.o.below H.o k2);clear k2 g1;cases M:eF W x.a with
 | none=>
  rw[eV M]
  have D:Hid ((W,(2:Int))=(W',q)):=by rw[<-HW.o,<-HQ.o];unfold gW;rw[M];rfl
  go_upto_region 3 with fail
  refine aD (by kernel_rfl) (by kernel_rfl) ?_
  repeat (go_big_quiet_step (fail))
  refine wpQuiet_nil ?_
  rintro _ ⟨E,rfl⟩
  have I:=btZ K2 E.below
  have z:=hI (L2.o.below H.o E.below)
  go_wp2_with fail
  go_ret
  have F:=congrArg Prod.fst D.o
  have G:=congrArg Prod.snd D.o
  dsimp only at F G
  subst F;subst G
  exact⟨rfl,⟨_,_,_,_,z.o⟩,aQ.of I.o⟩
 | some p=>
  obtain⟨n,c⟩:=p
  obtain⟨gc,cc,v,f,vA,vc,o2,hc,hv,hf,m0,g7,c0,c1,c2,c3,o3⟩:=L2.o.atCell M
  rw[g7]
  subst m0
  have HC:=hI hc
  have R:=hI hv
  have HF:=hI hf
  have C2:=hI c2
  have HS:Hid ((if x.op≠15/\(c.vals.length:Int)<=x.n then(W,2) else if x.op=10 then(fS W i (c.vals.getD x.n.toNat ⟨0,0⟩),0) else if x.op=11 then(setCW W n { c with vals:=c.vals.set x.n.toNat (cX W x.b) },0) else(fS W i ⟨2,c.vals.length⟩,0))=(W',q)):=by
   rw[<-HW.o,<-HQ.o];unfold gW;rw[M];show _=_;rfl
  clear M c0 c1 c3 hc hv hf g7 HW HQ
  rcases l0.o with h | h | h
  ·have l:=hI h
   have a0:∀E:Up w2,E.to.cell? ⟨w.heap.size,0,none⟩=some (.int .i64 10):=λE=>E.cell (aC d.o (by rw[<-h];exact s.o 0 _ rfl))
   have a5:=ecZ c2
   clear c2
   by_cases Z:(c.vals.length:Int)<=x.n
   ·have a4:∀E:Up w2,E.to.cell? ⟨w.heap.size,4,none⟩=some (.int .i64 x.n):=λE=>E.cell (aC d.o (s.o 4 _ rfl))
    have D:Hid ((W,(2:Int))=(W',q)):=by show _=_;rw[<-HS.o,if_pos ⟨by rw[l.o];decide,Z⟩]
    go_upto_region 3 with fail
    refine aD (by kernel_rfl) (by kernel_rfl) ?_
    repeat (go_big_quiet_step (fail))
    refine wpQuiet_nil ?_
    rintro _ ⟨E,rfl⟩
    have I:=btZ K2 E.below
    have z:=hI (L2.o.below H.o E.below)
    have r:=hI E.below
    obtain⟨j,A⟩:∃j,j=E.to:=⟨_,rfl⟩
    rw[<-A] at I z r ⊢
    clear A E a0 a4 a5
    have b0:j.cell? ⟨w.heap.size,0,none⟩=some (.int .i64 10):=aC (d.o.trans (r.o.mono d.o.size)) (by rw[<-l.o];exact s.o 0 _ rfl)
    go_wp2_with fail
    go_ret
    have F:=congrArg Prod.fst D.o
    have G:=congrArg Prod.snd D.o
    dsimp only at F G
    subst F;subst G
    exact⟨rfl,⟨_,_,_,_,z.o⟩,aQ.of I.o⟩
   ·have e3:=g2.o (by rw[l.o];decide)
    obtain⟨m,hm⟩:∃m:Nat,x.n=(m:Int):=⟨x.n.toNat,by omega⟩
    have HM:=hI hm
    have S:=HS.o
    rw[if_neg (λh=>Z h.2),hm,Int.toNat_natCast] at S
    have e5:=hI S
    have b3:m<c.vals.length:=by omega
    clear S Z hm e3
    have l1:(m:Int)<c.vals.length:=by omega
    have l2:¬c.vals.length<=m:=by omega
    obtain⟨C,b4⟩:∃C,c.vals[m]? = some C:=⟨_,lG b3⟩
    have a2:=hI b4
    clear b4
    have a4:∀E:Up w2,E.to.cell? ⟨w.heap.size,4,none⟩=some (.int .i64 m):=λE=>E.cell (by rw[<-HM.o];exact aC d.o (s.o 4 _ rfl))
    go_upto_region 3 with fail
    refine aD (by kernel_rfl) (by kernel_rfl) ?_
    repeat (go_big_quiet_step (fail))
    refine wpQuiet_nil ?_
    rintro _ ⟨E,rfl⟩
    have I:=btZ K2 E.below
    have z:=hI (L2.o.below H.o E.below)
    have r:=hI E.below
    obtain⟨j,A⟩:∃j,j=E.to:=⟨_,rfl⟩
    rw[<-A] at I z r ⊢
    clear A E a0 a4 a5
    have b0:j.cell? ⟨w.heap.size,0,none⟩=some (.int .i64 10):=aC (d.o.trans (r.o.mono d.o.size)) (by rw[<-l.o];exact s.o 0 _ rfl)
    obtain⟨V,k3,X,-,m1⟩:=(z.o.cvals n _ c R.o HC.o).form (Nat.zero_lt_of_lt b3)
    injection X with X _ _
    subst X
    have OV:=hI (z.o.cvals n _ c R.o HC.o)
    have D:Hid ((fS W i C,(0:Int))=(W',q)):=by
     show _=_
     rw[<-e5.o,if_pos l.o,List.getD_eq_getElem?_getD,a2.o];rfl
    have v0:j.cell? ⟨V,m*2,none⟩=some (.int .i64 C.kind):=by rw[OV.o.cellAt (m*2) (by omega)];exact bS a2.o (k:=0) (by decide)
    have v1:j.cell? ⟨V,m*2+1,none⟩=some (.int .i64 C.n):=by rw[OV.o.cellAt (m*2+1) (by omega)];exact bS a2.o (k:=1) (by decide)
    go_upto_region 6 with fail
    have d0:∀E:Up j,E.to.cell? ⟨Γ.wb,17,none⟩=some (.slice (some ⟨g,0,none⟩) W.vals.length f3):=λE=>E.cell (by have h:=z.o.own H.o 4;rw[HV.o] at h;exact h)
    have d1:∀E:Up j,E.to.cell? ⟨gc,n*4+2,none⟩=some (.slice (some ⟨V,0,none⟩) c.vals.length vc):=λE=>E.cell (aC r.o C2.o)
    have d2:∀E:Up j,E.to.cell? ⟨w.heap.size,4,none⟩=some (.int .i64 m):=λE=>E.cell (by rw[<-HM.o];exact aC (d.o.trans (r.o.mono d.o.size)) (s.o 4 _ rfl))
    have d3:∀E:Up j,E.to.cell? ⟨V,m*2,none⟩=some (.int .i64 C.kind):=λE=>E.cell (v0)
    have d4:∀E:Up j,E.to.cell? ⟨V,m*2+1,none⟩=some (.int .i64 C.n):=λE=>E.cell (v1)
    refine aL 13 (by kernel_rfl) (by kernel_rfl) ?_
    simp only[List.take_succ_cons,List.take_zero]
    repeat (go_big_quiet_step (fail))
    refine wpQuiet_nil ?_
    intro w' hE
    obtain⟨E,rfl⟩:=hE
    obtain⟨wy,Y⟩:=E
    dsimp only
    have LY:=hI (z.o.below H.o Y)
    have KY:=btZ I Y
    clear Y b0 d0 d1 d2 d3 d4
    have TH:Hid (wy.there g (i*2) 2):=by
     have:=LY.o.vals
     rw[HV.o] at this
     exact dZ this (by omega)
    obtain⟨u,hu⟩:∃u,W.vals[i]? = some u:=⟨_,lG hi⟩
    have N:WfV C:=(z.o.wfc c (lM HC.o)).2.2 C (lM a2.o)
    have S9:Hid (bO Γ (wy.setCells g (i*2) [.int .i64 C.kind,.int .i64 C.n]) (fS W i C) cv vv vs fs/\aQ wy (wy.setCells g (i*2) [.int .i64 C.kind,.int .i64 C.n])):=LY.o.setVal H.o hu N HV.o
    clear hu N v0 v1
    simp only[List.drop_succ_cons,List.drop_zero]
    go_upto_region 9 with (first | (refine wpList_store_mid rfl 48 _ _ rfl g (i*2) #[.int .i64 C.kind,.int .i64 C.n] rfl rfl TH.o aF (oC (by simp[Value.oneCell'])) ?_) | fail)
    generalize O:World.setCells _ _ _ _=w9
    rw[O] at S9
    clear O
    (try dsimp only [Act.put])
    go_wp2_with fail
    go_ret
    have F:=congrArg Prod.fst D.o
    have G:=congrArg Prod.snd D.o
    dsimp only at F G
    subst F;subst G
    exact⟨rfl,⟨_,_,_,_,S9.o.1⟩,(aQ.of KY.o).trans S9.o.2⟩
  ·have l:=hI h
   have a0:∀E:Up w2,E.to.cell? ⟨w.heap.size,0,none⟩=some (.int .i64 11):=λE=>E.cell (aC d.o (by rw[<-h];exact s.o 0 _ rfl))
   have a5:=ecZ c2
   clear c2
   by_cases Z:(c.vals.length:Int)<=x.n
   ·have a4:∀E:Up w2,E.to.cell? ⟨w.heap.size,4,none⟩=some (.int .i64 x.n):=λE=>E.cell (aC d.o (s.o 4 _ rfl))
    have D:Hid ((W,(2:Int))=(W',q)):=by show _=_;rw[<-HS.o,if_pos ⟨by rw[l.o];decide,Z⟩]
    go_upto_region 3 with fail
    refine aD (by kernel_rfl) (by kernel_rfl) ?_
    repeat (go_big_quiet_step (fail))
    refine wpQuiet_nil ?_
    rintro _ ⟨E,rfl⟩
    have I:=btZ K2 E.below
    have z:=hI (L2.o.below H.o E.below)
    have r:=hI E.below
    obtain⟨j,A⟩:∃j,j=E.to:=⟨_,rfl⟩
    rw[<-A] at I z r ⊢
    clear A E a0 a4 a5
    have b0:j.cell? ⟨w.heap.size,0,none⟩=some (.int .i64 11):=aC (d.o.trans (r.o.mono d.o.size)) (by rw[<-l.o];exact s.o 0 _ rfl)
    go_wp2_with fail
    go_ret
    have F:=congrArg Prod.fst D.o
    have G:=congrArg Prod.snd D.o
    dsimp only at F G
    subst F;subst G
    exact⟨rfl,⟨_,_,_,_,z.o⟩,aQ.of I.o⟩
   ·obtain⟨m2,m3⟩:=k8.o h
    obtain⟨P,h6⟩:∃P:Nat,x.b=(P:Int):=⟨x.b.toNat,by omega⟩
    have l3:P<W.vals.length:=by omega
    have o0:(P:Int)<W.vals.length:=by omega
    obtain⟨J,h7⟩:∃J,W.vals[P]? = some J:=⟨_,lG l3⟩
    have g3:=hI h6
    have d6:=hI h7
    clear m2 m3 h6 h7
    have e3:=g2.o (by rw[l.o];decide)
    obtain⟨m,hm⟩:∃m:Nat,x.n=(m:Int):=⟨x.n.toNat,by omega⟩
    have HM:=hI hm
    have S:=HS.o
    rw[if_neg (λh=>Z h.2),hm,Int.toNat_natCast] at S
    have e5:=hI S
    have b3:m<c.vals.length:=by omega
    clear S Z hm e3
    have l1:(m:Int)<c.vals.length:=by omega
    have l2:¬c.vals.length<=m:=by omega
    obtain⟨C,b4⟩:∃C,c.vals[m]? = some C:=⟨_,lG b3⟩
    have a2:=hI b4
    clear b4
    have a4:∀E:Up w2,E.to.cell? ⟨w.heap.size,4,none⟩=some (.int .i64 m):=λE=>E.cell (by rw[<-HM.o];exact aC d.o (s.o 4 _ rfl))
    go_upto_region 3 with fail
    refine aD (by kernel_rfl) (by kernel_rfl) ?_
    repeat (go_big_quiet_step (fail))
    refine wpQuiet_nil ?_
    rintro _ ⟨E,rfl⟩
    have I:=btZ K2 E.below
    have z:=hI (L2.o.below H.o E.below)
    have r:=hI E.below
    obtain⟨j,A⟩:∃j,j=E.to:=⟨_,rfl⟩
    rw[<-A] at I z r ⊢
    clear A E a0 a4 a5
    have b0:j.cell? ⟨w.heap.size,0,none⟩=some (.int .i64 11):=aC (d.o.trans (r.o.mono d.o.size)) (by rw[<-l.o];exact s.o 0 _ rfl)
    obtain⟨V,k3,X,-,m1⟩:=(z.o.cvals n _ c R.o HC.o).form (Nat.zero_lt_of_lt b3)
    injection X with X _ _
    subst X
    have OV:=hI (z.o.cvals n _ c R.o HC.o)
    have D:Hid ((setCW W n { c with vals:=c.vals.set m J },(0:Int))=(W',q)):=by
     show _=_
     rw[<-e5.o,if_neg (by rw[l.o];decide),if_pos l.o,g3.o,fR d6.o]
    have OW:=hI (z.o.vals)
    rw[HV.o] at OW
    have v0:j.cell? ⟨g,P*2,none⟩=some (.int .i64 J.kind):=by rw[OW.o.cellAt (P*2) (by omega)];exact bS d6.o (k:=0) (by decide)
    have v1:j.cell? ⟨g,P*2+1,none⟩=some (.int .i64 J.n):=by rw[OW.o.cellAt (P*2+1) (by omega)];exact bS d6.o (k:=1) (by decide)
    go_upto_region 8 with fail
    have d0:∀E:Up j,E.to.cell? ⟨Γ.wb,17,none⟩=some (.slice (some ⟨g,0,none⟩) W.vals.length f3):=λE=>E.cell (by have h:=z.o.own H.o 4;rw[HV.o] at h;exact h)
    have d1:∀E:Up j,E.to.cell? ⟨gc,n*4+2,none⟩=some (.slice (some ⟨V,0,none⟩) c.vals.length vc):=λE=>E.cell (aC r.o C2.o)
    have d2:∀E:Up j,E.to.cell? ⟨w.heap.size,4,none⟩=some (.int .i64 m):=λE=>E.cell (by rw[<-HM.o];exact aC (d.o.trans (r.o.mono d.o.size)) (s.o 4 _ rfl))
    have d3:∀E:Up j,E.to.cell? ⟨w.heap.size,2,none⟩=some (.int .i64 P):=λE=>E.cell (by rw[<-g3.o];exact aC (d.o.trans (r.o.mono d.o.size)) (s.o 2 _ rfl))
    have d4:∀E:Up j,E.to.cell? ⟨g,P*2,none⟩=some (.int .i64 J.kind):=λE=>E.cell (v0)
    have d5:∀E:Up j,E.to.cell? ⟨g,P*2+1,none⟩=some (.int .i64 J.n):=λE=>E.cell (v1)
    refine aL 14 (by kernel_rfl) (by kernel_rfl) ?_
    simp only[List.take_succ_cons,List.take_zero]
    repeat (go_big_quiet_step (fail))
    refine wpQuiet_nil ?_
    intro w' hE
    obtain⟨E,rfl⟩:=hE
    obtain⟨wy,Y⟩:=E
    dsimp only
    have LY:=hI (z.o.below H.o Y)
    have KY:=btZ I Y
    clear Y b0 d0 d1 d2 d3 d4 d5
    have TH:Hid (wy.there V (m*2) 2):=dZ (LY.o.cvals n _ c R.o HC.o) (by omega)
    have N:WfV J:=z.o.wfv J (lM d6.o)
    have S9:Hid ((∃h8 h9,bO Γ (wy.setCells V (m*2) [.int .i64 J.kind,.int .i64 J.n]) (setCW W n { c with vals:=c.vals.set m J }) cv vv h8 h9)/\aQ wy (wy.setCells V (m*2) [.int .i64 J.kind,.int .i64 J.n])):=LY.o.setCV H.o HC.o R.o HF.o a2.o N rfl
    clear N v0 v1
    simp only[List.drop_succ_cons,List.drop_zero]
    go_upto_region 9 with (first | (refine wpList_store_mid rfl 48 _ _ rfl V (m*2) #[.int .i64 J.kind,.int .i64 J.n] rfl rfl TH.o aF (oC (by simp[Value.oneCell'])) ?_) | fail)
    generalize O:World.setCells _ _ _ _=w9
    rw[O] at S9
    clear O
    (try dsimp only [Act.put])
    go_wp2_with fail
    go_ret
    have F:=congrArg Prod.fst D.o
    have G:=congrArg Prod.snd D.o
    dsimp only at F G
    subst F;subst G
    obtain⟨⟨h8,h9,l9⟩,k9⟩:=S9.o
    exact⟨rfl,⟨_,_,_,_,l9⟩,(aQ.of KY.o).trans k9⟩
  ·have l:=hI h
   have a0:∀E:Up w2,E.to.cell? ⟨w.heap.size,0,none⟩=some (.int .i64 15):=λE=>E.cell (aC d.o (by rw[<-h];exact s.o 0 _ rfl))
   have a5:=ecZ c2
   clear c2
   have a4:∀E:Up w2,E.to.cell? ⟨w.heap.size,4,none⟩=some (.int .i64 x.n):=λE=>E.cell (aC d.o (s.o 4 _ rfl))
   go_upto_region 3 with fail
   refine aD (by kernel_rfl) (by kernel_rfl) ?_
   repeat (go_big_quiet_step (fail))
   refine wpQuiet_nil ?_
   rintro _ ⟨E,rfl⟩
   have I:=btZ K2 E.below
   have z:=hI (L2.o.below H.o E.below)
   have r:=hI E.below
   obtain⟨j,A⟩:∃j,j=E.to:=⟨_,rfl⟩
   rw[<-A] at I z r ⊢
   clear A E a0 a4 a5
   have b0:j.cell? ⟨w.heap.size,0,none⟩=some (.int .i64 15):=aC (d.o.trans (r.o.mono d.o.size)) (by rw[<-l.o];exact s.o 0 _ rfl)
   have D:Hid ((fS W i ⟨2,(c.vals.length:Int)⟩,(0:Int))=(W',q)):=by
    show _=_
    rw[<-HS.o,if_neg (λh=>h.1 l.o),if_neg (by rw[l.o];decide),if_neg (by rw[l.o];decide)]
   go_upto_region 2 with fail
   have d0:∀E:Up j,E.to.cell? ⟨Γ.wb,17,none⟩=some (.slice (some ⟨g,0,none⟩) W.vals.length f3):=λE=>E.cell (by have h:=z.o.own H.o 4;rw[HV.o] at h;exact h)
   have d1:∀E:Up j,E.to.cell? ⟨gc,n*4+2,none⟩=some (.slice vA c.vals.length vc):=λE=>E.cell (aC r.o C2.o)
   refine aL 11 (by kernel_rfl) (by kernel_rfl) ?_
   simp only[List.take_succ_cons,List.take_zero]
   repeat (go_big_quiet_step (fail))
   refine wpQuiet_nil ?_
   intro w' hE
   obtain⟨E,rfl⟩:=hE
   obtain⟨wy,Y⟩:=E
   dsimp only
   have LY:=hI (z.o.below H.o Y)
   have KY:=btZ I Y
   clear Y b0 d0 d1
   have TH:Hid (wy.there g (i*2) 2):=by
    have:=LY.o.vals
    rw[HV.o] at this
    exact dZ this (by omega)
   obtain⟨u,hu⟩:∃u,W.vals[i]? = some u:=⟨_,lG hi⟩
   have g4:c.vals.length<=maxLen:=by
    rcases (LY.o.cvals n _ c R.o HC.o).2 with ⟨e,h0⟩ | ⟨g',n7,o7,e,h1,h2,h3,h4,h5⟩
    ·rw[h0];exact Nat.zero_le _
    ·omega
   have N:WfV ⟨2,(c.vals.length:Int)⟩:=by unfold maxLen at g4;unfold WfV wfi;constructor <;> (constructor <;> simp <;> omega)
   have S9:Hid (bO Γ (wy.setCells g (i*2) [.int .i64 2,.int .i64 (c.vals.length:Int)]) (fS W i ⟨2,(c.vals.length:Int)⟩) cv vv vs fs/\aQ wy (wy.setCells g (i*2) [.int .i64 2,.int .i64 (c.vals.length:Int)])):=LY.o.setVal H.o hu N HV.o
   clear hu N g4
   simp only[List.drop_succ_cons,List.drop_zero]
   go_upto_region 9 with (first | (refine wpList_store_mid rfl 48 _ _ rfl g (i*2) #[.int .i64 2,.int .i64 (c.vals.length:Int)] rfl rfl TH.o aF (oC (by simp[Value.oneCell'])) ?_) | fail)
   generalize O:World.setCells _ _ _ _=w9
   rw[O] at S9
   clear O
   (try dsimp only [Act.put])
   go_wp2_with fail
   go_ret
   have F:=congrArg Prod.fst D.o
   have G:=congrArg Prod.snd D.o
   dsimp only at F G
   subst F;subst G
   exact⟨rfl,⟨_,_,_,_,S9.o.1⟩,(aQ.of KY.o).trans S9.o.2⟩
end
end
section
open Go.RowKit
def eG (W:aI) (a:Int) (y:Val) (m how:Int):Prop:=
 match eF W a with
 | none=>how=2
 | some (_,c)=>if c.kind≠2 then how=2 else if ¬(y.kind=2/\0<=y.n/\y.n<c.vals.length) then how=1 else how=0/\m=y.n
theorem gB {W:aI} {a:Int} {y:Val} {m how:Int} {n:Nat} {c:bC} (h:eF W a=some (n,c)) (d:if c.kind≠2 then how=2 else if ¬(y.kind=2/\0<=y.n/\y.n<c.vals.length) then how=1 else how=0/\m=y.n):eG W a y m how:=by unfold eG;rw[h];exact d
section
variable {Γ : kI} {w w':World} {W:aI} {cv vv:Value} {vs fs:List Value}
theorem acS (K:hP Γ) (L:bO Γ w W cv vv vs fs) {i:Nat} {y:Val} (hy:W.vals[i]? = some y) (hn:W.vals.length<=300) (a:Int) : Calls prog 150 #[.pointer (some ⟨Γ.wb,0,none⟩),.pointer (nZ cv W a),.int .i64 (i:Int)] w λe w'=>∃m how,e=.returned (.tuple #[.int .i64 m,.int .i64 how])/\Below w.heap.size w w'/\eG W a y m how:=by
 have hi:i<W.vals.length:=(lE hy).1;have c6:(i:Int)<W.vals.length:=by omega
 cases l:eF W a with
 | none=>
  rw[eV l]
  have r:Hid (∀m,eG W a y m 2):=λm=>by unfold eG;rw[l]
  go_enter func150,ntmps150
  go_wp2_with fail
  refine bodyPost_ret (v:=.tuple #[.int .i64 0,.int .i64 2]) (by simp[results,results150,go_sem]) rfl ⟨_,_,rfl,Below.refl _ _,r.o _⟩
 | some p=>
  obtain⟨n,c⟩:=p
  obtain⟨V,cc,v,f,X,Y,b0,hc,hv,hf,b2,a5,O,c1,z,c3,d0⟩:=L.atCell l
  rw[a5]
  subst b2
  have u:=hI l
  clear l c1 c3 hc hv hf a5 b0
  by_cases R:c.kind=2
  ·obtain⟨g,b3,P,-,d1⟩:=L.vals.form (by omega)
   have c7:w.cell? ⟨Γ.wb,17,none⟩=some (.slice (some ⟨g,0,none⟩) W.vals.length b3):=by rw[<-P];exact L.own K 4
   have OW:=hI L.vals
   rw[P] at OW
   have g0:w.cell? ⟨g,i*2,none⟩=some (.int .i64 y.kind):=by rw[OW.o.cellAt (i*2) (by omega)];exact bS hy (k:=0) (by decide)
   have g1:w.cell? ⟨g,i*2+1,none⟩=some (.int .i64 y.n):=by rw[OW.o.cellAt (i*2+1) (by omega)];exact bS hy (k:=1) (by decide)
   obtain⟨w1,J⟩:∃w1,w1=w.alloc (.cells #[.int .i64 y.kind,.int .i64 y.n] 48):=⟨_,rfl⟩
   have x:Hid (Below w.heap.size w w1):=by rw[J];exact aB _ _
   have q:Hid (aA w1 w.heap.size [.int .i64 y.kind,.int .i64 y.n]):=by rw[J];exact ad5 _ _ _
   have H:=hI J
   rw[R] at O
   have S:=hI R
   clear J R L K P hy
   go_enter func150,ntmps150
   by_cases hk:y.kind=2
   ·have I:=hI hk
    clear hk
    by_cases M:0<=y.n
    ·obtain⟨m,Z⟩:∃m:Nat,y.n=(m:Int):=⟨y.n.toNat,by omega⟩
     have HM:=hI Z
     by_cases N:y.n<c.vals.length
     ·have r:Hid (eG W a y m 0):=gB u.o (by rw[if_neg (λh=>h S.o),if_neg (λh=>h ⟨I.o,M,N⟩)];exact⟨rfl,Z.symm⟩)
      have a9:m<c.vals.length:=by omega
      clear Z M N
      have A:∀E:Up w1,E.to.cell? ⟨w.heap.size,0,none⟩=some (.int .i64 2):=λE=>E.cell (by rw[<-I.o];exact q.o 0 _ rfl)
      have C:∀E:Up w1,E.to.cell? ⟨w.heap.size,1,none⟩=some (.int .i64 m):=λE=>E.cell (by rw[<-HM.o];exact q.o 1 _ rfl)
      have D:∀E:Up w1,E.to.cell? ⟨V,n*4+2,none⟩=some (.slice X c.vals.length Y):=λE=>E.cell (aC x.o z)
      have j:∀(b:Bool) (d:World),Calls prog 142 #[.bool b,.int .i64 1] d λe w'=>e=.returned (.int .i64 (isW b 1))/\d=w':=λb d=>uV b 1 d
      have s:=hI j
      clear j z
      go_upto_region 4 with fail
      rw[<-H.o]
      clear O
      refine aL 21 (by kernel_rfl) (by kernel_rfl) ?_
      simp only[List.take_succ_cons,List.take_zero]
      repeat (go_big_quiet_step ((go_at_call 142;with_reducible exact ad6 (s.o _ _))))
      refine wpQuiet_nil ?_
      intro w' G
      obtain⟨E,rfl⟩:=G
      have F:=btZ x E.below
      clear A C D
      simp only[List.drop_succ_cons,List.drop_zero]
      go_wp2_with fail
      refine bodyPost_ret (v:=.tuple #[.int .i64 m,.int .i64 0]) (by simp[results,results150,go_sem,isW]) rfl ⟨_,_,rfl,F.o,r.o⟩
     ·have r:Hid (eG W a y m 1):=gB u.o (by rw[if_neg (λh=>h S.o),if_pos (λh=>N h.2.2)])
      have a9:¬m<c.vals.length:=by omega
      clear Z M N
      have A:∀E:Up w1,E.to.cell? ⟨w.heap.size,0,none⟩=some (.int .i64 2):=λE=>E.cell (by rw[<-I.o];exact q.o 0 _ rfl)
      have C:∀E:Up w1,E.to.cell? ⟨w.heap.size,1,none⟩=some (.int .i64 m):=λE=>E.cell (by rw[<-HM.o];exact q.o 1 _ rfl)
      have D:∀E:Up w1,E.to.cell? ⟨V,n*4+2,none⟩=some (.slice X c.vals.length Y):=λE=>E.cell (aC x.o z)
      have j:∀(b:Bool) (d:World),Calls prog 142 #[.bool b,.int .i64 1] d λe w'=>e=.returned (.int .i64 (isW b 1))/\d=w':=λb d=>uV b 1 d
      have s:=hI j
      clear j z
      go_upto_region 4 with fail
      rw[<-H.o]
      clear O
      refine aL 21 (by kernel_rfl) (by kernel_rfl) ?_
      simp only[List.take_succ_cons,List.take_zero]
      repeat (go_big_quiet_step ((go_at_call 142;with_reducible exact ad6 (s.o _ _))))
      refine wpQuiet_nil ?_
      intro w' G
      obtain⟨E,rfl⟩:=G
      have F:=btZ x E.below
      clear A C D
      simp only[List.drop_succ_cons,List.drop_zero]
      go_wp2_with fail
      refine bodyPost_ret (v:=.tuple #[.int .i64 m,.int .i64 1]) (by simp[results,results150,go_sem,isW]) rfl ⟨_,_,rfl,F.o,r.o⟩
    ·have r:Hid (∀m,eG W a y m 1):=λm=>gB u.o (by rw[if_neg (λh=>h S.o),if_pos (λh=>M h.2.1)])
     have A:∀E:Up w1,E.to.cell? ⟨w.heap.size,0,none⟩=some (.int .i64 2):=λE=>E.cell (by rw[<-I.o];exact q.o 0 _ rfl)
     have C:=ecZ (q.o 1 _ rfl)
     have D:∀E:Up w1,E.to.cell? ⟨V,n*4+2,none⟩=some (.slice X c.vals.length Y):=λE=>E.cell (aC x.o z)
     have j:∀(b:Bool) (d:World),Calls prog 142 #[.bool b,.int .i64 1] d λe w'=>e=.returned (.int .i64 (isW b 1))/\d=w':=λb d=>uV b 1 d
     have s:=hI j
     clear j z
     go_upto_region 4 with fail
     rw[<-H.o]
     clear O
     refine aL 21 (by kernel_rfl) (by kernel_rfl) ?_
     simp only[List.take_succ_cons,List.take_zero]
     repeat (go_big_quiet_step ((go_at_call 142;with_reducible exact ad6 (s.o _ _))))
     refine wpQuiet_nil ?_
     intro w' G
     obtain⟨E,rfl⟩:=G
     have F:=btZ x E.below
     clear A C D
     simp only[List.drop_succ_cons,List.drop_zero]
     go_wp2_with fail
     refine bodyPost_ret (v:=.tuple #[.int .i64 y.n,.int .i64 1]) (by simp[results,results150,go_sem,isW]) rfl ⟨_,_,rfl,F.o,r.o _⟩
   ·have r:Hid (∀m,eG W a y m 1):=λm=>gB u.o (by rw[if_neg (λh=>h S.o),if_pos (λh=>hk h.1)])
    have c8:(y.kind == 2)=false:=by simpa using hk
    have A:=ecZ (q.o 0 _ rfl)
    have C:=ecZ (q.o 1 _ rfl)
    have D:∀E:Up w1,E.to.cell? ⟨V,n*4+2,none⟩=some (.slice X c.vals.length Y):=λE=>E.cell (aC x.o z)
    have j:∀(b:Bool) (d:World),Calls prog 142 #[.bool b,.int .i64 1] d λe w'=>e=.returned (.int .i64 (isW b 1))/\d=w':=λb d=>uV b 1 d
    have s:=hI j
    clear j z
    go_upto_region 4 with fail
    rw[<-H.o]
    clear O
    refine aL 21 (by kernel_rfl) (by kernel_rfl) ?_
    simp only[List.take_succ_cons,List.take_zero]
    repeat (go_big_quiet_step ((go_at_call 142;with_reducible exact ad6 (s.o _ _))))
    refine wpQuiet_nil ?_
    intro w' G
    obtain⟨E,rfl⟩:=G
    have F:=btZ x E.below
    clear A C D
    simp only[List.drop_succ_cons,List.drop_zero]
    go_wp2_with fail
    refine bodyPost_ret (v:=.tuple #[.int .i64 y.n,.int .i64 1]) (by simp[results,results150,go_sem,isW]) rfl ⟨_,_,rfl,F.o,r.o _⟩
  ·have r:Hid (∀m,eG W a y m 2):=λm=>gB u.o (by rw[if_pos R])
   have c9:(c.kind != 2)=true:=by simpa using R
   go_enter func150,ntmps150
   go_wp2_with fail
   refine bodyPost_ret (v:=.tuple #[.int .i64 0,.int .i64 2]) (by simp[results,results150,go_sem]) rfl ⟨_,_,rfl,Below.refl _ _,r.o _⟩
end
end
section
open Go.RowKit
section
variable {P:Program} {ops:Array Oper} {md:Region.Mode} {C:World->Prop} {Q:Exit->Act->World->Prop}
def zO (md:Region.Mode) (ops:Array Oper) (listed:Array Bool):Bool:=(List.range ops.size).all λj=>!listed.getD j false || (match ops[j]? with | none=>true | some o=>o.after.all λe=>!Region.binds md e || listed.getD e.on false)
theorem vB {d:Array Bool} (h:zO md ops d=true):gL md ops d:=by intro j m i hl e l hb;have f:=List.all_eq_true.1 h j (List.mem_range.2 (aE i).1);rw[hl,i] at f;simp only[Bool.not_true,Bool.false_or] at f;have g:=Array.all_eq_true'.1 f e l;rw[hb] at g;simpa using g
def adM (md:Region.Mode) (ops:Array Oper) (F:Nat->Bool) (listed last:Array Bool) (qs:List Nat):Bool:=
 Region.noSelect ops && zO md ops listed && v7 md ops F ops.size qs && qs.all F && pF md ops last qs listed
theorem fJ {F:Nat->Bool} {f:Nat} {e:Array Bool} {a:Act} {w:World} (qs:List Nat) (m:Nat) (last:Array Bool) (l:List Oper) (hB:adM md ops F e last qs=true) (hf:f=qs.length+m) (u:qs.filterMap (ops[·]?)=l) (x:∀(c:_) (a:Act) (d:Option Tmp) (v:Value) (w:World),Q (.panic c) (a.put d v) w->Q (.panic c) a w) (y:C w) (h:wpQuiet P ops C (λp=>cN P md ops C F Q m last p w) l a):cN P md ops C F Q f e a w:=by
 subst hf u;simp only[adM,Bool.and_eq_true] at hB;obtain⟨⟨⟨⟨h1,h2⟩,h3⟩,h4⟩,h5⟩:=hB;refine kT (qs0:=qs) h1 x (λe i j hi q r s=>?_) y qs e a (λ_ h=>h) (vB h2) h5 h;by_cases g:j∈qs;·exact List.all_eq_true.1 h4 j g
 ·exact mQ h3 q hi r s g
end
end
end Go.Proofs.YtjaphgpkkfdaaaaGreatDoor
