/- A part of the walk. -/
import Derived.Test.YtjaphgpkkfdaaaaGreatDoorZBC
set_option maxHeartbeats 16000000
set_option maxRecDepth 100000
set_option linter.all false
namespace Go.Proofs.YtjaphgpkkfdaaaaGreatDoor
open Tryz
section
open Go.RowKit
theorem yN {w:World} {B e size n:Nat} {A:Option Addr} {m c:Nat} {xs:List Value} (h:w.ownsRow B e size (.slice A m c) n xs):m=n:=by
 rcases h.2 with ⟨h,f⟩ | ⟨g,c',d,h,-⟩;·injection h with _ h;omega
 ·injection h with _ h
section
variable {Γ : kI} {w w':World} {W:aI} {cv vv:Value} {vs fs:List Value}
theorem bO.putAt (L:bO Γ w W cv vv vs fs) (K:hP Γ) {n:Int} (x:wfi n) : bO Γ (w.setCell ⟨Γ.fb,Γ.fo+1,none⟩ (.int .i64 n)) { W with at_:=n } cv vv vs fs/\aQ w (w.setCell ⟨Γ.fb,Γ.fo+1,none⟩ (.int .i64 n)):=by
 obtain⟨j,hf⟩:=L.frow;have o:cA (λk=>k = Γ.fb) w (w.setCell ⟨Γ.fb,Γ.fo+1,none⟩ (.int .i64 n)):=cA.set (T:=λk=>k = Γ.fb) cA.refl rfl _ _;have far:∀(g:Nat) (cs:Array Value) (e:TypeId),w.heap[g]? = some (.cells cs e (0,0))->e≠61->(w.setCell ⟨Γ.fb,Γ.fo+1,none⟩ (.int .i64 n)).heap[g]? = w.heap[g]?:=λg cs e h q=> o.block g (aV h) (λht=>bJ h hf q ht);have d:∀(e:TypeId) (size m:Nat) (u:Value) (xs:List Value),w.ownsRow Γ.B e size u m xs->e≠61->(w.setCell ⟨Γ.fb,Γ.fo+1,none⟩ (.int .i64 n)).ownsRow Γ.B e size u m xs:=λe size m u xs h p=>gI h hf (Ne.symm p) _ _;have same:(w.setCell ⟨Γ.fb,Γ.fo+1,none⟩ (.int .i64 n)).heap[Γ.fb]? = some (.cells (j.setIfInBounds (Γ.fo+1) (.int .i64 n)) 61 (0,0)):=heap_setCell_same _ _ _ _ _ _ hf;have l : Γ.fo+1<j.size:=by have h:=L.fat;rw[cell_of_row w Γ.fb (Γ.fo+1) _ _ _ hf] at h;exact(aE h).1
 refine⟨{ L with
  row:=(far _ _ _ L.row (by decide)).trans L.row
  frow:=⟨_,same⟩
  fat:=by rw[cell_of_row _ _ _ _ _ _ same];simp[l]
  frest:=λk f=>by
   rw[cell_of_row _ _ _ _ _ _ same,<-L.frest k f,cell_of_row _ _ _ _ _ _ hf]
   simp[Array.getElem?_setIfInBounds,Ne.symm f]
  crow:=d _ _ _ _ _ L.crow (by decide)
  vals:=d _ _ _ _ _ L.vals (by decide)
  regs:=d _ _ _ _ _ L.regs (by decide)
  cvals:=λi v c r s=>d _ _ _ _ _ (L.cvals i v c r s) (by decide)
  fixed:=λb hb=>(o.block b (Nat.lt_of_lt_of_le (K.q1 b hb) L.size) (λe=>K.qf (e ▸ hb))).trans (L.fixed b hb)
  size:=Nat.le_trans L.size o.size
  wfa:=x },aeC o (λk _ f=>by subst f;exact⟨j,_,hf,.inr (.inl rfl)⟩)⟩
theorem bO.putSteps (L:bO Γ w W cv vv vs fs) (K:hP Γ) {n:Int} (y:wfi n) : bO Γ (w.setCell ⟨Γ.wb,16,none⟩ (.int .i64 n)) { W with steps:=n } cv vv vs fs/\aQ w (w.setCell ⟨Γ.wb,16,none⟩ (.int .i64 n)):=by
 obtain⟨q,hf⟩:=L.frow;have o:cA (λk=>k = Γ.wb) w (w.setCell ⟨Γ.wb,16,none⟩ (.int .i64 n)):=cA.set (T:=λk=>k = Γ.wb) cA.refl rfl _ _;have far:∀(g:Nat) (cs:Array Value) (e:TypeId),w.heap[g]? = some (.cells cs e (0,0))->e≠85->(w.setCell ⟨Γ.wb,16,none⟩ (.int .i64 n)).heap[g]? = w.heap[g]?:=λg cs e h r=> o.block g (aV h) (λht=>bJ h L.row r ht);have d:∀(e:TypeId) (size m:Nat) (u:Value) (xs:List Value),w.ownsRow Γ.B e size u m xs->e≠85->(w.setCell ⟨Γ.wb,16,none⟩ (.int .i64 n)).ownsRow Γ.B e size u m xs:=λe size m u xs h p=>gI h L.row (Ne.symm p) _ _;have f:=far _ _ _ hf (by decide);have l:(Γ.tcs++[cv,Γ.shv,.pointer (some ⟨Γ.fb,Γ.fo,none⟩),.int .i64 W.steps,vv]).set 16 (.int .i64 n) = Γ.tcs++[cv,Γ.shv,.pointer (some ⟨Γ.fb,Γ.fo,none⟩),.int .i64 n,vv]:=by rw[List.set_append_right _ _ (by rw[K.tl];omega),K.tl];rfl
 refine⟨{ L with
  row:=by
   rw[heap_setCell_same _ _ _ _ _ _ L.row]
   show some (Obj.cells ((_:Array Value).setIfInBounds 16 _) _ _)=_
   rw[<-l]
   simp
  frow:=⟨q,f.trans hf⟩
  fat:=(World.cell?_of_block f).trans L.fat
  frest:=λk j=>(World.cell?_of_block f).trans (L.frest k j)
  crow:=d _ _ _ _ _ L.crow (by decide)
  vals:=d _ _ _ _ _ L.vals (by decide)
  regs:=d _ _ _ _ _ L.regs (by decide)
  cvals:=λi v c s x=>d _ _ _ _ _ (L.cvals i v c s x) (by decide)
  fixed:=λb hb=>(o.block b (Nat.lt_of_lt_of_le (K.q1 b hb) L.size) (λe=>K.qw (e ▸ hb))).trans (L.fixed b hb)
  size:=Nat.le_trans L.size o.size
  wfs:=y },aeC o (λk _ j=>by subst j;exact⟨_,_,L.row,.inl rfl⟩)⟩
theorem bO.setReg (L:bO Γ w W cv vv vs fs) (K:hP Γ) {i:Nat} {v u:Val} (hi:W.regs[i]? = some u) (m:WfV v) {g n e:Nat} (d : Γ.rv=.slice (some ⟨g,0,none⟩) n e) : bO Γ (w.setCells g (i*2) (aZ v)) { W with regs:=W.regs.set i v } cv vv vs fs/\aQ w (w.setCells g (i*2) (aZ v)):=by
 have R:=L.regs;rw[d] at R;have f:=yN R;subst f;have o:cA (λk=>Γ.rv.ownBlock=some k) w (w.setCells g (i*2) (aZ v)):= cA.set (T:=λk=>Γ.rv.ownBlock=some k) (cA.set (T:=λk=>Γ.rv.ownBlock=some k) cA.refl (by rw[d];rfl) _ _) (by rw[d];rfl) _ _;refine⟨L.putRegs K o ?_ (λx j=>?_),aeC o (λk _ l=>?_)⟩;·rw[List.length_set,d];exact uP R hi
 ·rcases List.mem_or_eq_of_mem_set j with h | h;·exact L.wfr x h
  ·rw[h];exact m
 ·obtain⟨cs,h⟩:=aX L.regs l;exact⟨cs,_,h,.inr (.inr (.inr rfl))⟩
theorem bO.exitAt (L:bO Γ w W cv vv vs fs) (K:hP Γ) {i:Nat} {x:cW} (q : Γ.t.exits[i]? = some x) : ∃b d f cs,w.cell? ⟨Γ.wb,4,none⟩=some (.slice (some ⟨b,d,none⟩) Γ.t.exits.length f)/\cs.length=4/\hJ w b (d+i*4) cs/\gF w Γ.B0 cs x/\b < Γ.w1.heap.size:=by
 obtain⟨C,D,E,cb,e,-,m,-⟩:=K.tr;obtain⟨A,f,rfl,-⟩:=id m;have h:=(lE q).1;obtain⟨b,d,y,cs,rfl,hb,g,hl,r,s⟩:=m.at_ h;rw[q] at g;injection g with g;subst g
 have l:=L.tr K (k:=4) (by decide);rw[e] at l;exact⟨b,d,f,cs,l,hl,λj u v=>(L.held ⟨b,_,none⟩ (K.q0 b hb)).trans (s j u v),r.keep (Nat.le_refl _) (λp z=>L.held p (K.q0 _ z)),K.q1 b (K.q0 b hb)⟩
end
end
section
open Go.RowKit
theorem take_mk {α : Type} {l:List α} {k:Nat} {x : α} (h:l[k]? = some x):l.take (k+1)=l.take k++[x]:=by obtain⟨d,e⟩:=lE h;rw[List.take_succ_eq_append_getElem d,e]
theorem zN {α : Type} {l:List α} {k:Nat} {x : α} (h:l[k]? = some x):l.drop k=x::l.drop (k+1):=by obtain⟨d,e⟩:=lE h;rw[List.drop_eq_getElem_cons d,e]
theorem Lim.setCW {t:aN} {r:Nat} {w:aI} (h:Lim t r w) (n:Nat) (c:bC):Lim t r (setCW w n c):=⟨h.vals,oI h.cells n c,h.regs⟩
theorem Lim.setReg {t:aN} {r:Nat} {w:aI} (h:Lim t r w) (n:Nat) (v:Val):Lim t r { w with regs:=w.regs.set n v }:=⟨h.vals,h.cells,by show(w.regs.set n v).length=r;rw[List.length_set];exact h.regs⟩
section
variable {Γ : kI} {w w':World} {W:aI} {cv vv:Value} {vs fs:List Value}
theorem adL {w:World} {B j len x:Nat} {cells:List bC} {vs d:List Value} {n:Nat} {c:bC} {v f:Value} (h:w.ownsRow B 55 4 (.slice (some ⟨j,0,none⟩) len x) len ((cK cells vs d).flatMap id)) (lv:vs.length=cells.length) (lf:d.length=cells.length) (C:cells[n]? = some c) (D:vs[n]? = some v) (hf:d[n]? = some f) (c':bC) (v' f':Value) : (w.setCells j (n*4) (bD c' v' f')).ownsRow B 55 4 (.slice (some ⟨j,0,none⟩) len x) len ((cK (cells.set n c') (vs.set n v') (d.set n f')).flatMap id):=by have e:=eP _ _ _ n _ _ _ C D hf;have g:=g8 cells vs d;have l:=(h.stored (n*4+0) (.int .i64 c'.kind)).1;rw[dT _ n 0 _ _ g e (by decide)] at l;have m:=dO e ((bD c v f).set 0 (.int .i64 c'.kind));have y:=eU (i:=n) g (show((bD c v f).set 0 (.int .i64 c'.kind)).length=4 from rfl);have p:=(l.stored (n*4+1) (.int .i64 c'.num)).1;rw[dT _ n 1 _ _ y m (by decide),List.set_set] at p;have q:=dO e (((bD c v f).set 0 (.int .i64 c'.kind)).set 1 (.int .i64 c'.num));have z:=eU (i:=n) g (show(((bD c v f).set 0 (.int .i64 c'.kind)).set 1 (.int .i64 c'.num)).length=4 from rfl);have r:=(p.stored (n*4+2) v').1;rw[dT _ n 2 _ _ z q (by decide),List.set_set] at r;have s:=dO e ((((bD c v f).set 0 (.int .i64 c'.kind)).set 1 (.int .i64 c'.num)).set 2 v');have A:=eU (i:=n) g (show((((bD c v f).set 0 (.int .i64 c'.kind)).set 1 (.int .i64 c'.num)).set 2 v').length=4 from rfl);have u:=(r.stored (n*4+3) f').1;rw[dT _ n 3 _ _ A s (by decide),List.set_set] at u;rw[<-kP _ _ _ n _ _ _ lv lf];exact u
theorem ac2:(prog.info? 55).map (·.size)=some 4:=by kernel_rfl
theorem end_c (K:hP Γ) (L:bO Γ w W cv vv vs fs) {x:cW} {cs:List Value} {R:Int} {k:Nat} (hX:gF Γ.w1 Γ.B0 cs x) (EF:mX R Γ.t x k) (hk:k<=Γ.t.ins.length) (M:Lim Γ.t R.toNat W) (ht : Γ.t.ins.length<=300) (r6:0<=W.steps/\W.steps<=1000000000) : Calls prog 108 #[.pointer (some ⟨Γ.wb,0,none⟩),.agg ⟨cs⟩] w (sJ Γ (iG W x).1 (.int .i64 (iG W x).2) w):=by
 obtain⟨sv,mv,rfl,hs,hm,wa,ws⟩:=hX;obtain⟨SA,sc,rfl,-⟩:=id hs;obtain⟨MA,mc,rfl,-⟩:=id hm;have F0:=aP hs;have F1:=aP hm;have v3:=hI hs;have v4:=hI hm;have v5:=hI wa;have g6:=hI EF;have d:=hI K;have n6:=hI r6;obtain⟨w1,e9⟩:∃w1,w1=w.alloc (.cells #[.int .i64 x.at_,.int .i64 x.steps,.slice SA x.sets.length sc,.slice MA x.makes.length mc] 32):=⟨_,rfl⟩;have K1:Hid (Below w.heap.size w w1):=by rw[e9];exact aB _ _
 have d3:Hid (w1.heap[w.heap.size]? = some (.cells #[.int .i64 x.at_,.int .i64 x.steps,.slice SA x.sets.length sc,.slice MA x.makes.length mc] 32 (0,0))):=by rw[e9];exact aJ _ _
 have v9:=hI e9;have L1:=hI (L.below K K1.o);obtain⟨W',k0⟩:∃W',(iG W x).1=W':=⟨_,rfl⟩;obtain⟨q,hq⟩:∃q,(iG W x).2=q:=⟨_,rfl⟩;rw[k0,hq];obtain⟨P,f0⟩:∃P,eK W x.makes=P:=⟨_,rfl⟩;have HE:Hid ((if P.2≠0 then P else({ fN P.1 x.sets with at_:=x.at_,steps:=(fN P.1 x.sets).steps+x.steps },0))=(W',q)):=by show _=_;rw[<-k0,<-hq,<-f0];rfl
 have n7:Hid (P.1.steps=W.steps):=by rw[<-f0];exact(mK x.makes W).2.2
 have w0:=hI f0;obtain⟨i0,p8,p9⟩:=Option.map_eq_some_iff.1 lH;simp only[Prod.mk.injEq] at p9;obtain⟨hz,q2,q3⟩:=p9;obtain⟨z,q4,q5⟩:=Option.map_eq_some_iff.1 hz;have HI:=hI p8;have HZ:=hI q4;have w4:=hI q2;have w5:=hI q3;have w7:=hI q5;clear p8 q4 q2 q3 q5 hz e9 k0 hq f0 hs hm wa ws EF K L r6;have s3:=crZ d3 3 rfl;go_enter func108,ntmps108;go_upto_region 1 with fail;rw[<-v9.o];go_wp2_with fail;clear s3;go_loopw [16] (λkk wr=>∃(j:Nat) (V:aI),kk=.int .i64 j/\j<=x.makes.length/\Hid (eK V (x.makes.drop j)=P)/\Hid (∃cv vv vs fs,bO Γ wr V cv vv vs fs)/\Hid (Lim Γ.t R.toNat V)/\Hid (aQ w1 wr)) (λkk _=>x.makes.length - (RowKit.intOf kk).toNat);case atStart=>exact⟨0,W,rfl,by omega,w0.o,⟨_,_,_,_,L1.o⟩,M,aQ.refl _⟩
 case round=>
  obtain⟨j,V,rfl,hj,HM,HL,c8,KW⟩:=hrel
  obtain⟨A,y7⟩:∃A,A=wr:=⟨_,rfl⟩
  subst y7
  obtain⟨q6,G2,G3,G4,J⟩:=HL.o
  have LV:=hI J
  have d4:Hid (A.heap[w.heap.size]? = some (.cells #[.int .i64 x.at_,.int .i64 x.steps,.slice SA x.sets.length sc,.slice MA x.makes.length mc] 32 (0,0))):=(KW.o.block _ _ _ _ d3.o (by decide) (by decide) (by decide) (by decide)).trans d3.o
  have F2:=KW.o.size
  clear J HL
  by_cases l5:j<x.makes.length
  ·have w8:(j:Int)<x.makes.length:=by omega
   obtain⟨mb,b4,m,G5,rfl,f2,f3,-,⟨G6,rfl,k2,z0,q7,q8⟩,F⟩:=v4.o.at_ l5
   obtain⟨VA,N,rfl,-⟩:=id k2
   have MF:=hI (g6.o.makes m (lM f3))
   have x0:=hI k2
   have g0:A.cell? ⟨mb,b4+j*4,none⟩=some (.int .i64 m.cell):=(LV.o.held ⟨mb,_,none⟩ (d.o.q0 _ f2)).trans (F 0 _ rfl)
   have g1:A.cell? ⟨mb,b4+j*4+1,none⟩=some (.int .i64 m.kind):=(LV.o.held ⟨mb,_,none⟩ (d.o.q0 _ f2)).trans (F 1 _ rfl)
   have g2:A.cell? ⟨mb,b4+j*4+2,none⟩=some (.int .i64 m.num):=(LV.o.held ⟨mb,_,none⟩ (d.o.q0 _ f2)).trans (F 2 _ rfl)
   have g3:A.cell? ⟨mb,b4+j*4+3,none⟩=some (.slice VA m.vals.length N):=(LV.o.held ⟨mb,_,none⟩ (d.o.q0 _ f2)).trans (F 3 _ rfl)
   have x1:=MF.o.cell
   obtain⟨kc,k4⟩:∃kc:Nat,m.cell=(kc:Int):=⟨m.cell.toNat,by omega⟩
   obtain⟨y,hy⟩:∃y,V.vals[kc]? = some y:=⟨_,lG (by rw[c8.o.vals];omega)⟩
   have F3:=hI k4
   have F4:=hI f3
   have n8:Hid (wfi m.kind/\wfi m.num):=⟨q7,q8⟩
   obtain⟨C,G⟩:∃C,C=A.alloc (.cells #[.int .i64 m.cell,.int .i64 m.kind,.int .i64 m.num,.slice VA m.vals.length N] 181):=⟨_,rfl⟩
   have K2:Hid (Below A.heap.size A C):=by rw[G];exact aB _ _
   have Z:Hid (aA C A.heap.size [.int .i64 m.cell,.int .i64 m.kind,.int .i64 m.num,.slice VA m.vals.length N]):=by rw[G];exact ad5 _ _ _
   have h0:=hI G
   have J:=hI (LV.o.below d.o K2.o)
   have CC:=hI (nY d.o J.o hy c8.o.cells)
   rw[<-k4] at CC
   have b2:Hid ((if(fP V m).2≠0 then fP V m else eK (fP V m).1 (x.makes.drop (j+1)))=P):=by
    have h:=HM.o
    rw[zN f3] at h
    exact h
   have b0:=Z.o 0 _ rfl
   clear G F f3 k2 z0 q7 q8 x1 k4 hy
   go_upto_region 4 with fail
   rw[<-h0.o]
   clear g0 g1 g2 g3
   go_wp2_with fail
   refine CC.o.mono ?_
   rintro e H ⟨rfl,k3⟩
   have n9:=hI k3
   have K3:=btZ K2 k3
   have l:=hI (J.o.below d.o k3)
   have h3:Hid (aQ w1 H):=KW.o.trans (aQ.of K3.o)
   clear k3 b0
   cases r:eF V m.cell with
   | none=>
    rw[eV r]
    have HN:Hid ((V,(2:Int))=(W',q)):=by
     have e:fP V m=(V,2):=by unfold fP;rw[r]
     have h:=b2.o
     rw[e,if_pos (show(2:Int)≠0 by decide)] at h
     have h2:=HE.o
     rw[<-h,if_pos (show(2:Int)≠0 by decide)] at h2
     exact h2
    clear r
    go_wp2_with fail
    go_ret
    have e1:=congrArg Prod.fst HN.o
    have X:=congrArg Prod.snd HN.o
    dsimp only at e1 X
    subst e1;subst X
    exact⟨rfl,⟨_,_,_,_,l.o⟩,(aQ.of K1.o).trans h3.o⟩
   | some p=>
    obtain⟨n,c⟩:=p
    obtain⟨gc,cc,v,f,vA,vc,r0,hc,hv,hf,z5,r1,c0,c1,c2,c3,G7⟩:=l.o.atCell r
    rw[r1]
    subst z5
    have e5:=hI r0
    have HC:=hI hc
    have e6:=hI hv
    have HF:=hI hf
    have o0:fP V m=if c.kind≠0 then(V,2) else(setCW V n ⟨m.kind,m.num,m.vals.map (cX V),[]⟩,0):=by unfold fP;rw[r]
    have o1:=hI o0
    clear r c1 c2 c3 hc hv hf r1 r0 o0
    by_cases a9:c.kind=0
    ·rw[a9] at c0
     have HT:Hid (eK (setCW V n ⟨m.kind,m.num,m.vals.map (cX V),[]⟩) (x.makes.drop (j+1))=P):=by
      have h:=b2.o
      have e:fP V m=(setCW V n ⟨m.kind,m.num,m.vals.map (cX V),[]⟩,0):=by rw[o1.o,if_neg (λh=>h a9)]
      rw[e,if_neg (λh=>h rfl)] at h
      exact h
     have b3:=aC n9.o (Z.o 3 _ rfl)
     have b1:Hid (aA H A.heap.size [.int .i64 m.cell,.int .i64 m.kind,.int .i64 m.num,.slice VA m.vals.length N]):=λi v hv=>aC n9.o (Z.o i v hv)
     have C3:=MF.o.len
     clear a9
     go_wp2_with fail
     clear b3 c0
     go_loopw [8,36] (λa ik wr=>∃i:Nat,ik=.int .i64 i/\i<=m.vals.length/\Hid (wr.ownsRow H.heap.size 48 2 a i (((m.vals.take i).map (cX V)).flatMap aZ))/\Hid (Below H.heap.size H wr)) (λ_ ik _=>m.vals.length - (RowKit.intOf ik).toNat)
     case atStart=>exact⟨0,rfl,by omega,World.ownsRow_nil _ _ _ _,Below.refl _ _⟩
     case round=>
      obtain⟨i,rfl,hi,OA,KI⟩:=hrel
      obtain⟨A7,c7,rfl⟩:=bV OA.o
      have s0:=KI.o.size
      by_cases A9:i<m.vals.length
      ·have F5:(i:Int)<m.vals.length:=by omega
       obtain⟨xb,u6,zv,G8,rfl,z7,k5,-,⟨rfl,wz⟩,r2⟩:=x0.o.at_ A9
       have x3:=MF.o.vals zv (lM k5)
       obtain⟨Y,rfl⟩:∃Y:Nat,zv=(Y:Int):=⟨zv.toNat,by omega⟩
       have x4:Y<V.vals.length:=by rw[c8.o.vals];omega
       have F6:(Y:Int)<V.vals.length:=by omega
       obtain⟨O,f7⟩:∃O,V.vals[Y]? = some O:=⟨_,lG x4⟩
       obtain⟨g,d1,a7,-,z9⟩:=l.o.vals.form (by omega)
       have h5:=d.o.q0 _ z7
       have o2:xb<H.heap.size:=Nat.lt_of_lt_of_le (d.o.q1 _ h5) l.o.size
       have gz:wr.cell? ⟨xb,u6+i,none⟩=some (.int .i64 Y):=(KI.o.cell o2).trans ((l.o.held ⟨xb,_,none⟩ h5).trans (by simpa using r2 0 _ rfl))
       have x5:wr.cell? ⟨Γ.wb,17,none⟩=some (.slice (some ⟨g,0,none⟩) V.vals.length d1):=aC KI.o (by have h:=l.o.own d.o 4;rw[a7] at h;exact h)
       have OV:Hid (H.ownsRow Γ.B 48 2 (.slice (some ⟨g,0,none⟩) V.vals.length d1) V.vals.length (V.vals.flatMap aZ)):=by have h:=l.o.vals;rw[a7] at h;exact h
       have p0:wr.cell? ⟨g,Y*2,none⟩=some (.int .i64 O.kind):=aC KI.o (by rw[OV.o.cellAt (Y*2) (by omega)];exact bS f7 (k:=0) (by decide))
       have p1:wr.cell? ⟨g,Y*2+1,none⟩=some (.int .i64 O.n):=aC KI.o (by rw[OV.o.cellAt (Y*2+1) (by omega)];exact bS f7 (k:=1) (by decide))
       have o3:Hid (((m.vals.take (i+1)).map (cX V)).flatMap aZ=((m.vals.take i).map (cX V)).flatMap aZ++[.int .i64 O.kind,.int .i64 O.n]):=by
        show _=_
        rw[take_mk k5,List.map_append,List.flatMap_append]
        simp[fR f7,aZ]
       obtain⟨LX,r3⟩:∃LX,((m.vals.take i).map (cX V)).flatMap aZ=LX:=⟨_,rfl⟩
       rw[r3] at OA o3
       clear k5 f7 a7 r2 h5 o2 r3 x3
       go_wp2_with (at_builtin;refine wpList_append_own _ rfl _ _ 23 rfl H.heap.size 48 i0 z 2 16 underlying23 HI.o HZ.o w4.o w5.o w7.o (by decide) (.slice A7 i c7) i LX rfl (OA.o.alloc _) ⟨wr.heap.size,0,none⟩ 1 1 [.int .i64 O.kind,.int .i64 O.n] rfl rfl ?c1 ?c2 ?c3 ?c4 ?c5 ?_)
       case c1=>exact World.news_of_block (cs:=#[.int .i64 O.kind,.int .i64 O.n]) (aJ _ _)
       case c2=>intro u hu;simp at hu;rcases hu with rfl | rfl <;> rfl
       case c3=>unfold maxLen;omega
       case c4=>omega
       case c5=>simp;omega
       intro v' w6 l3 hg _
       have O7:=hI l3
       have KB:=hI (mO (B':=H.heap.size) (OA.o.alloc (.cells #[.int .i64 O.kind,.int .i64 O.n] 48)) hg (Nat.le_refl _) (by simp;omega))
       have K7:=hI ((KI.o.alloc s0 _).trans KB.o)
       clear l3 hg gz x5 p0 p1
       go_wp2_with fail
       go_roundw
       case rel=>exact⟨i+1,by go_num,by omega,by show World.ownsRow _ _ _ _ _ _ _;rw[o3.o];exact O7.o,K7⟩
       case measure=>simp[RowKit.intOf];omega
      ·obtain rfl:i=m.vals.length:=by omega
       have F7:¬(m.vals.length:Int)<m.vals.length:=by omega
       have LI:=hI (l.o.below d.o KI.o)
       have o7:wr.there gc (n*4) 4:=by
        have h:=LI.o.crow
        rw[e5.o] at h
        have:=(lE HC.o).1
        exact dZ h (by omega)
       have TH:=hI o7
       have B1:Hid (aA wr A.heap.size [.int .i64 m.cell,.int .i64 m.kind,.int .i64 m.num,.slice VA m.vals.length N]):=λi v hv=>aC KI.o (b1.o i v hv)
       have p1:=B1.o 1 _ rfl
       have p2:=B1.o 2 _ rfl
       have e7:Hid (wr.ownsRow H.heap.size 48 2 (.slice A7 m.vals.length c7) m.vals.length ((m.vals.map (cX V)).flatMap aZ)):=by
        have h:=OA.o
        rw[List.take_length] at h
        exact h
       clear o7 OA
       go_upto_region 14 with (first | (refine wpList_store_mid rfl 55 _ _ rfl gc (n*4) #[.int .i64 m.kind,.int .i64 m.num,.slice A7 m.vals.length c7,.slice none 0 0] rfl rfl TH.o ac2 (oC (by simp[Value.oneCell'])) ?_) | fail)
       generalize I:World.setCells _ _ _ _=w9
       have h7:=LI.o.crow
       rw[e5.o] at h7
       have h8:=adL h7 LI.o.lv LI.o.lf HC.o e6.o HF.o ⟨m.kind,m.num,m.vals.map (cX V),[]⟩ (.slice A7 m.vals.length c7) (.slice none 0 0)
       have h9:wr.setCells gc (n*4) (bD ⟨m.kind,m.num,m.vals.map (cX V),[]⟩ (.slice A7 m.vals.length c7) (.slice none 0 0))=w9:=I
       rw[h9] at h8
       have C9:=hI h8
       have o8:Hid (cA (λk=>(Value.slice vA c.vals.length vc).ownBlock=some k\/q6.ownBlock=some k) wr w9):=by
        rw[<-I,e5.o]
        exact cA.set (cA.set (cA.set (cA.set cA.refl (.inr rfl) _ _) (.inr rfl) _ _) (.inr rfl) _ _) (.inr rfl) _ _
       have i1:Hid (cA (λk=>(Value.slice vA c.vals.length vc).ownBlock=some k\/q6.ownBlock=some k) H w9):=cA.trans (cA.of KI.o) o8.o
       have O9:Hid (w9.ownsRow Γ.B 48 2 (.slice A7 m.vals.length c7) (m.vals.map (cX V)).length ((m.vals.map (cX V)).flatMap aZ)):=by
        have h:w9.ownsRow H.heap.size 48 2 (.slice A7 m.vals.length c7) m.vals.length ((m.vals.map (cX V)).flatMap aZ):=by
         refine fG e7.o (λg hg=>o8.o.block g (e7.o.lt g hg).2 (λhh=>?_))
         have h1:=(e7.o.lt g hg).1
         rcases hh with hh | hh
         ·have:=((l.o.cvals n _ c e6.o HC.o).lt g hh).2;omega
         ·have:=(l.o.crow.lt g hh).2;omega
        rw[List.length_map]
        exact dU h (Nat.le_trans d.o.b1 l.o.size)
       have o9:WfC ⟨m.kind,m.num,m.vals.map (cX V),[]⟩:=by
        refine⟨n8.o.1,n8.o.2,λy hy=>?_⟩
        obtain⟨z,-,rfl⟩:=List.mem_map.1 (show y∈m.vals.map (cX V) from hy)
        unfold cX
        cases e:V.vals[z.toNat]? with
        | none=>exact⟨⟨by simp,by simp⟩,⟨by simp,by simp⟩⟩
        | some u=>exact l.o.wfv u (lM e)
       have L9:=hI (l.o.putCell d.o (c':=⟨m.kind,m.num,m.vals.map (cX V),[]⟩) e6.o i1.o (by rw[e5.o];exact C9.o) O9.o (λg hg=>.inr (e7.o.lt g hg).1) (bK.nil _ _ _ _) o9)
       have K9:Hid (aQ H w9):=aeC i1.o (λk _ hk=>by
        rcases hk with hk | hk
        ·obtain⟨cs,h⟩:=aX (l.o.cvals n _ c e6.o HC.o) hk
         exact⟨cs,_,h,.inr (.inr (.inr rfl))⟩
        ·obtain⟨cs,h⟩:=aX l.o.crow hk
         exact⟨cs,_,h,.inr (.inr (.inl rfl))⟩)
       clear I h9 h8 h7 o9 p1 p2
       (try dsimp only [Act.put])
       go_wp2_with fail
       go_roundw
       case rel=>exact⟨j+1,setCW V n ⟨m.kind,m.num,m.vals.map (cX V),[]⟩,by go_num,by omega,HT.o,⟨_,_,_,_,L9.o⟩,c8.o.setCW _ _,h3.o.trans K9.o⟩
       case measure=>simp[RowKit.intOf];omega
    ·have HN:Hid ((V,(2:Int))=(W',q)):=by
      have h:=b2.o
      have e:fP V m=(V,2):=by rw[o1.o,if_pos a9]
      rw[e,if_pos (show(2:Int)≠0 by decide)] at h
      have h2:=HE.o
      rw[<-h,if_pos (show(2:Int)≠0 by decide)] at h2
      exact h2
     have F8:(c.kind != 0)=true:=by simpa using a9
     clear a9
     go_wp2_with fail
     go_ret
     have e1:=congrArg Prod.fst HN.o
     have X:=congrArg Prod.snd HN.o
     dsimp only at e1 X
     subst e1;subst X
     exact⟨rfl,⟨_,_,_,_,l.o⟩,(aQ.of K1.o).trans h3.o⟩
  ·obtain rfl:j=x.makes.length:=by omega
   have F9:¬(x.makes.length:Int)<x.makes.length:=by omega
   have HV:Hid ((V,(0:Int))=P):=by have h:=HM.o;rw[List.drop_length] at h;exact h
   have y0:Hid (({ fN V x.sets with at_:=x.at_,steps:=(fN V x.sets).steps+x.steps },(0:Int))=(W',q)):=by
    have h:=HE.o
    rw[<-HV.o,if_neg (λh=>h rfl)] at h
    exact h
   have y1:Hid (V.steps=W.steps):=by have h:=n7.o;rw[<-HV.o] at h;exact h
   have s2:=crZ d4 2 rfl
   clear HM HV n7 HE
   go_wp2_with fail
   clear s2
   go_loopw [63] (λkk wr=>∃(j:Nat) (U:aI),kk=.int .i64 j/\j<=x.sets.length/\Hid (fN U (x.sets.drop j)=fN V x.sets)/\Hid (∃cv vv vs fs,bO Γ wr U cv vv vs fs)/\Hid (Lim Γ.t R.toNat U)/\Hid (aQ A wr)) (λkk _=>x.sets.length - (RowKit.intOf kk).toNat)
   case atStart=>exact⟨0,V,rfl,by omega,rfl,⟨_,_,_,_,LV.o⟩,c8.o,aQ.refl _⟩
   case round=>
    obtain⟨j,U,rfl,G9,HS,HL,k6,KU⟩:=hrel
    obtain⟨A1,A2,A3,A4,l⟩:=HL.o
    have LU:=hI l
    have i3:Hid (wr.heap[w.heap.size]? = some (.cells #[.int .i64 x.at_,.int .i64 x.steps,.slice SA x.sets.length sc,.slice MA x.makes.length mc] 32 (0,0))):=(KU.o.block _ _ _ _ d4.o (by decide) (by decide) (by decide) (by decide)).trans d4.o
    clear l HL
    by_cases l5:j<x.sets.length
    ·have w8:(j:Int)<x.sets.length:=by omega
     obtain⟨sb,k7,s,H0,rfl,r4,k8,-,⟨rfl,A5,A6⟩,F⟩:=v3.o.at_ l5
     have SF:=g6.o.sets s (lM k8)
     have g0:wr.cell? ⟨sb,k7+j*2,none⟩=some (.int .i64 s.reg):=(LU.o.held ⟨sb,_,none⟩ (d.o.q0 _ r4)).trans (F 0 _ rfl)
     have g1:wr.cell? ⟨sb,k7+j*2+1,none⟩=some (.int .i64 s.val):=(LU.o.held ⟨sb,_,none⟩ (d.o.q0 _ r4)).trans (F 1 _ rfl)
     obtain⟨D,k9⟩:∃D:Nat,s.reg=(D:Int):=⟨s.reg.toNat,by omega⟩
     obtain⟨S,l0⟩:∃S:Nat,s.val=(S:Int):=⟨s.val.toNat,by omega⟩
     have y2:S<U.vals.length:=by rw[k6.o.vals];omega
     have y3:D<U.regs.length:=by rw[k6.o.regs];omega
     have G0:(S:Int)<U.vals.length:=by omega
     have G1:(D:Int)<U.regs.length:=by omega
     obtain⟨y,hy⟩:∃y,U.vals[S]? = some y:=⟨_,lG y2⟩
     obtain⟨u,hu⟩:∃u,U.regs[D]? = some u:=⟨_,lG y3⟩
     rw[k9] at g0
     rw[l0] at g1
     have HY:=hI hy
     have HU:=hI hu
     have y4:Hid (fN { U with regs:=U.regs.set D y } (x.sets.drop (j+1))=fN V x.sets):=by
      have h:=HS.o
      rw[zN k8] at h
      have e:cX U s.val=y:=by rw[l0];exact fR hy
      have X:s.reg.toNat=D:=by rw[k9];rfl
      show _=_
      rw[<-h,<-e,<-X];rfl
     obtain⟨C,G⟩:∃C,C=wr.alloc (.cells #[.int .i64 D,.int .i64 S] 66):=⟨_,rfl⟩
     have K2:Hid (Below wr.heap.size wr C):=by rw[G];exact aB _ _
     have Z:Hid (aA C wr.heap.size [.int .i64 D,.int .i64 S]):=by rw[G];exact ad5 _ _ _
     have h0:=hI G
     have J:=hI (LU.o.below d.o K2.o)
     obtain⟨g,d1,a7,-,z9⟩:=J.o.vals.form (by omega)
     obtain⟨rg,rc,hrv,-,H1⟩:=J.o.regs.form (by omega)
     have p3:=hI a7
     have i4:=hI hrv
     clear G F k8 hy hu k9 l0 SF a7 hrv A5 A6
     go_upto_region 18 with fail
     rw[<-h0.o]
     clear g0 g1
     have OV:Hid (C.ownsRow Γ.B 48 2 (.slice (some ⟨g,0,none⟩) U.vals.length d1) U.vals.length (U.vals.flatMap aZ)):=by have h:=J.o.vals;rw[p3.o] at h;exact h
     have a0:∀E:Up C,E.to.cell? ⟨Γ.wb,17,none⟩=some (.slice (some ⟨g,0,none⟩) U.vals.length d1):=λE=>E.cell (by have h:=J.o.own d.o 4;rw[p3.o] at h;exact h)
     have a1:∀E:Up C,E.to.cell? ⟨Γ.wb,15,none⟩=some (.pointer (some ⟨Γ.fb,Γ.fo,none⟩)):=λE=>E.cell (J.o.own d.o 2)
     have a2:∀E:Up C,E.to.cell? ⟨Γ.fb,Γ.fo+6,none⟩=some (.slice (some ⟨rg,0,none⟩) U.regs.length rc):=λE=>E.cell (by rw[J.o.frest (Γ.fo+6) (by omega),<-i4.o];exact d.o.f6)
     have a3:=ecZ (Z.o 0 _ rfl)
     have a4:=ecZ (Z.o 1 _ rfl)
     have a5:∀E:Up C,E.to.cell? ⟨g,S*2,none⟩=some (.int .i64 y.kind):=λE=>E.cell (by rw[OV.o.cellAt (S*2) (by omega)];exact bS HY.o (k:=0) (by decide))
     have a6:∀E:Up C,E.to.cell? ⟨g,S*2+1,none⟩=some (.int .i64 y.n):=λE=>E.cell (by rw[OV.o.cellAt (S*2+1) (by omega)];exact bS HY.o (k:=1) (by decide))
     refine aL 17 (by kernel_rfl) (by kernel_rfl) ?_
     simp only[List.take_succ_cons,List.take_zero]
     repeat (go_big_quiet_step (fail))
     refine wpQuiet_nil ?_
     intro w' hE
     obtain⟨E,rfl⟩:=hE
     obtain⟨wy,ky⟩:=E
     dsimp only
     have LY:=hI (J.o.below d.o ky)
     have KY:=btZ K2 ky
     clear ky a0 a1 a2 a3 a4 a5 a6
     have TH:Hid (wy.there rg (D*2) 2):=by
      have:=LY.o.regs
      rw[i4.o] at this
      exact dZ this (by omega)
     have S9:Hid (bO Γ (wy.setCells rg (D*2) [.int .i64 y.kind,.int .i64 y.n]) { U with regs:=U.regs.set D y } A1 A2 A3 A4/\aQ wy (wy.setCells rg (D*2) [.int .i64 y.kind,.int .i64 y.n])):=LY.o.setReg d.o HU.o (LY.o.wfv y (lM HY.o)) i4.o
     simp only[List.drop_succ_cons,List.drop_zero]
     go_upto_region 19 with (first | (refine wpList_store_mid rfl 48 _ _ rfl rg (D*2) #[.int .i64 y.kind,.int .i64 y.n] rfl rfl TH.o aF (oC (by simp[Value.oneCell'])) ?_) | fail)
     generalize I:World.setCells _ _ _ _=w9
     rw[I] at S9
     clear I
     (try dsimp only [Act.put])
     go_wp2_with fail
     go_roundw
     case rel=>exact⟨j+1,{ U with regs:=U.regs.set D y },by go_num,by omega,y4.o,⟨_,_,_,_,S9.o.1⟩,k6.o.setReg _ _,KU.o.trans ((aQ.of KY.o).trans S9.o.2)⟩
     case measure=>simp[RowKit.intOf];omega
    ·obtain rfl:j=x.sets.length:=by omega
     have E3:¬(x.sets.length:Int)<x.sets.length:=by omega
     have p4:Hid (U=fN V x.sets):=by have h:=HS.o;rw[List.drop_length] at h;exact h
     have i9:Hid (U.steps=W.steps):=by show _=_;rw[p4.o,(kV x.sets V).2.1];exact y1.o
     have p5:Hid (({ U with at_:=x.at_,steps:=U.steps+x.steps },(0:Int))=(W',q)):=by
      have h:=y0.o
      rw[<-p4.o] at h
      exact h
     have E4:=g6.o.steps
     go_upto_region 20 with fail
     have a1:∀E:Up wr,E.to.cell? ⟨Γ.wb,15,none⟩=some (.pointer (some ⟨Γ.fb,Γ.fo,none⟩)):=λE=>E.cell (LU.o.own d.o 2)
     have a3:=ecZ (crZ i3 0 rfl)
     refine aL 6 (by kernel_rfl) (by kernel_rfl) ?_
     simp only[List.take_succ_cons,List.take_zero]
     repeat (go_big_quiet_step (fail))
     refine wpQuiet_nil ?_
     intro w' hE
     obtain⟨E,rfl⟩:=hE
     obtain⟨wy,ky⟩:=E
     dsimp only
     have LY:=hI (LU.o.below d.o ky)
     have KY:=hI ky
     have j0:=rkZ i3 ky
     clear ky a1 a3
     have f1:wy.cell? ⟨Γ.fb,Γ.fo+1,none⟩=some (.int .i64 U.at_):=LY.o.fat
     obtain⟨cf,r5⟩:=LY.o.frow
     have z1:wy.frozen? ⟨Γ.fb,Γ.fo+1,none⟩=false:=frozen_of_row wy _ _ _ _ r5
     have c6:=hI (LY.o.putAt d.o v5.o)
     clear r5
     simp only[List.drop_succ_cons,List.drop_zero]
     go_upto_region 21 with fail
     generalize I:World.setCell _ _ _=w9
     rw[I] at c6
     have t4:Hid (w9.heap[w.heap.size]? = some (.cells #[.int .i64 x.at_,.int .i64 x.steps,.slice SA x.sets.length sc,.slice MA x.makes.length mc] 32 (0,0))):=(c6.o.2.block _ _ _ _ j0.o (by decide) (by decide) (by decide) (by decide)).trans j0.o
     clear I f1 z1
     (try dsimp only [Act.put])
     have t6:wrap64 (U.steps+x.steps)=U.steps+x.steps:=by have h1:=i9.o;have h2:=n6.o;unfold wrap64;omega
     have a1:∀E:Up w9,E.to.cell? ⟨Γ.wb,16,none⟩=some (.int .i64 U.steps):=λE=>E.cell (c6.o.1.own d.o 3)
     have a3:=ecZ (crZ t4 1 rfl)
     refine aL 7 (by kernel_rfl) (by kernel_rfl) ?_
     simp only[List.take_succ_cons,List.take_zero]
     repeat (go_big_quiet_step (fail))
     refine wpQuiet_nil ?_
     intro w' hE
     obtain⟨E,rfl⟩:=hE
     obtain⟨wz,kz⟩:=E
     dsimp only
     have LZ:=hI (c6.o.1.below d.o kz)
     have KZ:=hI kz
     clear kz a1 a3
     have f1:wz.cell? ⟨Γ.wb,16,none⟩=some (.int .i64 U.steps):=LZ.o.own d.o 3
     have z1:wz.frozen? ⟨Γ.wb,16,none⟩=false:=frozen_of_row wz _ _ _ _ LZ.o.row
     have SB:=hI (LZ.o.putSteps d.o (n:=U.steps+x.steps) (by have h1:=i9.o;have h2:=n6.o;unfold wfi;omega))
     simp only[List.drop_succ_cons,List.drop_zero]
     go_upto_region 22 with fail
     generalize l9:World.setCell _ _ _=w10
     rw[l9] at SB
     clear l9 f1 z1
     (try dsimp only [Act.put])
     clear t6
     go_wp2_with fail
     go_ret
     have e1:=congrArg Prod.fst p5.o
     have X:=congrArg Prod.snd p5.o
     dsimp only at e1 X
     subst e1;subst X
     exact⟨rfl,⟨_,_,_,_,SB.o.1⟩,(aQ.of K1.o).trans (KW.o.trans (KU.o.trans ((aQ.of KY.o).trans (c6.o.2.trans ((aQ.of KZ.o).trans SB.o.2)))))⟩
end
end
section
open Go.RowKit
section
variable {Γ : kI} {w w':World} {W:aI} {cv vv:Value} {vs fs:List Value}
def zU (Γ : kI) (r:aI×Int×Int) (w:World) (e:Ending) (w':World):Prop:=e=.returned (.tuple #[.int .i64 r.2.1,.int .i64 r.2.2])/\(∃cv vv vs fs,bO Γ w' r.1 cv vv vs fs)/\aQ w w'
theorem wW (K:hP Γ) (L:bO Γ w W cv vv vs fs) {x:cW} {cs:List Value} {R:Int} (F:sI R Γ.t) (c0:jA Γ.t) {from_ to_:Nat} (i3:from_<=to_) (i4:to_<=Γ.t.ins.length) (hX:gF Γ.w1 Γ.B0 cs x) (EF:mX R Γ.t x to_) (M:Lim Γ.t R.toNat W) (c1:0<=W.steps/\W.steps<=1000000000) : Calls prog 69 #[.pointer (some ⟨Γ.wb,0,none⟩),.int .i64 (from_:Int),.int .i64 (to_:Int),.agg ⟨cs⟩] w (zU Γ (dM cJ Γ.t Γ.self Γ.shapes x (to_ - from_) from_ W) w):=by
 have b2:=hX;obtain⟨sv,mv,rfl,hs,hm,wa,ws⟩:=hX;obtain⟨SA,sc,rfl,-⟩:=id hs;obtain⟨MA,mc,rfl,-⟩:=id hm;have e4:=hI b2;have e5:=hI EF;have A:=hI K;have b3:=hI c1;have HF:=hI F;have e7:=hI c0;have m:=F.len;obtain⟨w1,z⟩:∃w1,w1=w.alloc (.cells #[.int .i64 x.at_,.int .i64 x.steps,.slice SA x.sets.length sc,.slice MA x.makes.length mc] 32):=⟨_,rfl⟩;have K1:Hid (Below w.heap.size w w1):=by rw[z];exact aB _ _
 have G:Hid (w1.heap[w.heap.size]? = some (.cells #[.int .i64 x.at_,.int .i64 x.steps,.slice SA x.sets.length sc,.slice MA x.makes.length mc] 32 (0,0))):=by rw[z];exact aJ _ _
 have e9:=hI z;have L1:=hI (L.below K K1.o);obtain⟨r,hr⟩:∃r,dM cJ Γ.t Γ.self Γ.shapes x (to_ - from_) from_ W=r:=⟨_,rfl⟩;rw[hr];have HR:=hI hr;clear z hr hs hm wa ws EF K L c1 b2 F c0;go_enter func69,ntmps69;go_upto_region 1 with fail;rw[<-e9.o];go_wp2_with fail;go_loopw [10] (λkk wr=>∃(i:Nat) (V:aI),kk=.int .i64 i/\i<=to_/\Hid (dM cJ Γ.t Γ.self Γ.shapes x (to_ - i) i V=r)/\Hid (∃cv vv vs fs,bO Γ wr V cv vv vs fs)/\Hid (Lim Γ.t R.toNat V)/\Hid (V.steps=W.steps)/\Hid (aQ w1 wr)) (λkk _=>to_ - (RowKit.intOf kk).toNat);case atStart=>exact⟨from_,W,rfl,i3,HR.o,⟨_,_,_,_,L1.o⟩,M,rfl,aQ.refl _⟩
 case round=>
  obtain⟨i,V,rfl,hi,HT,HL,a0,b5,KW⟩:=hrel;obtain⟨k9,l0,l1,l2,L2⟩:=HL.o;have LV:=hI L2;clear L2 HL;by_cases m2:i<to_
  ·have k8:(i:Int)<to_:=(by omega);have H:i < Γ.t.ins.length:=(by omega);obtain⟨y,hy⟩:∃y,Γ.t.ins[i]? = some y:=⟨_,lG H⟩;obtain⟨D,how,u⟩:∃D how,doW cJ Γ.t Γ.self Γ.shapes V i=(D,how):=⟨_,_,rfl⟩;have q:jE Γ.t i=y:=(by unfold jE;rw[Int.toNat_natCast,hy];rfl);have DC:=do_c A.o LV.o hy (HF.o.ins i y hy) a0.o m;rw[u] at DC;dsimp only at DC;have d:=adJ cJ Γ.self Γ.shapes V i (jE Γ.t i);change (doW cJ Γ.t Γ.self Γ.shapes V i).2=0\/(doW cJ Γ.t Γ.self Γ.shapes V i).2=1\/(doW cJ Γ.t Γ.self Γ.shapes V i).2=2 at d;rw[u] at d;dsimp only at d;have I:=a0.o.do_ cJ Γ.self Γ.shapes i;rw[u] at I;have J:=(sA cJ Γ.t Γ.self Γ.shapes V i).steps;rw[u] at J;have LD:=hI I;have b4:Hid (D.steps=W.steps):=(by show _=_;rw[show D.steps=V.steps from J];exact b5.o);have f2:=hI DC;have c2:=hI d;have HY:=hI hy;have c6:=hI q;have f7:=hI u;have N:Hid ((if how=2 then(D,0,2) else if how=1 then(match Γ.t.exits[y.exit.toNat]? with | none=>(D,y.exit,2) | some e=>((iG D e).1,y.exit,(iG D e).2)) else dM cJ Γ.t Γ.self Γ.shapes x (to_ - (i+1)) (i+1) D)=r):=by
    have h:=HT.o
    rw[show to_ - i=(to_ - (i+1))+1 by omega,dM,u,q] at h
    exact h
   clear hy u q I J DC d HT;go_wp2_with fail;refine f2.o.mono ?_;rintro e E ⟨rfl,⟨l5,l9,m0,m1,L3⟩,K3⟩;have C:=hI L3;have O:Hid (aQ w1 E):=KW.o.trans K3;clear L3 K3;rcases c2.o with h | h | h
   ·have s:Hid (dM cJ Γ.t Γ.self Γ.shapes x (to_ - (i+1)) (i+1) D=r):=(by have j:=N.o;rw[if_neg (by omega),if_neg (by omega)] at j;exact j);rw[h];clear h;go_wp2_with fail;go_roundw;case rel=>exact⟨i+1,D,by go_num,by omega,s.o,⟨_,_,_,_,C.o⟩,LD.o,b4.o,O.o⟩
    case measure=>simp[RowKit.intOf];omega
   ·have P:=u0 cJ e7.o Γ.self Γ.shapes V H (by rw[f7.o];exact h);rw[c6.o] at P;obtain⟨n,hn⟩:∃n:Nat,y.exit=(n:Int):=⟨y.exit.toNat,by omega⟩;have f8:n < Γ.t.exits.length:=(by omega);obtain⟨e,he⟩:∃e,Γ.t.exits[n]? = some e:=⟨_,lG f8⟩;have f9:=hI (HF.o.exits i y e HY.o P.1 (by rw[hn,Int.toNat_natCast];exact he));have s:Hid (((iG D e).1,(n:Int),(iG D e).2)=r):=(by have j:=N.o;rw[if_neg (by omega),if_pos h,hn,Int.toNat_natCast,he] at j;exact j);obtain⟨b,g5,k0,c3,hc,-⟩:=C.o.insAt A.o HY.o;have c5:E.cell? ⟨b,g5+i*8+5,none⟩=some (.int .i64 n):=(by rw[<-hn];exact hc 5 _ rfl);obtain⟨eb,g,k2,g7,c4,-,l,b6,h0⟩:=C.o.exitAt A.o he;have S:gF Γ.w1 Γ.B0 g7 e:=b6.keep (Nat.le_refl _) (λp hp=>(C.o.held p (A.o.q0 _ hp)).symm);have EC:=hI (end_c A.o C.o S f9.o (Nat.le_of_lt H) LD.o m (by rw[b4.o];exact b3.o));obtain⟨l3,l4,rfl,⟨EA,h1,rfl,-⟩,⟨EM,h3,rfl,-⟩,-⟩:=S;have e0:E.cell? ⟨eb,g+n*4,none⟩=some (.int .i64 e.at_):=l 0 _ rfl;have e1:E.cell? ⟨eb,g+n*4+1,none⟩=some (.int .i64 e.steps):=l 1 _ rfl;have e2:E.cell? ⟨eb,g+n*4+2,none⟩=some (.slice EA e.sets.length h1):=l 2 _ rfl;have e3:E.cell? ⟨eb,g+n*4+3,none⟩=some (.slice EM e.makes.length h3):=l 3 _ rfl;have g0:(n:Int) < Γ.t.exits.length:=(by omega);have j2:(i:Int) < Γ.t.ins.length:=(by omega);rw[h];clear h P hn he hc l b6 h0;go_wp2_with fail;refine EC.o.mono ?_;rintro e' w4 ⟨rfl,⟨h6,h7,h8,h9,L4⟩,K4⟩;have X:=hI L4;have Y:=hI K4;clear L4 K4 c3 c4 c5 e0 e1 e2 e3;go_wp2_with fail;refine bodyPost_ret (v:=.tuple #[.int .i64 n,.int .i64 (iG D e).2]) (by simp[results,results69,go_sem]) rfl ?_;have Z:=s.o;subst Z;exact⟨rfl,⟨_,_,_,_,X.o⟩,(aQ.of K1.o).trans (O.o.trans Y.o)⟩
   ·have s:Hid ((D,(0:Int),(2:Int))=r):=(by have j:=N.o;rw[if_pos h] at j;exact j);rw[h];clear h;go_wp2_with fail;refine bodyPost_ret (v:=.tuple #[.int .i64 0,.int .i64 2]) (by simp[results,results69,go_sem]) rfl ?_;have Z:=s.o;subst Z;exact⟨rfl,⟨_,_,_,_,C.o⟩,(aQ.of K1.o).trans O.o⟩
  ·obtain rfl:i=to_:=by omega
   have g0:¬(i:Int)<i:=(by omega);have s:Hid (((iG V x).1,(-1:Int),(iG V x).2)=r):=(by have h:=HT.o;rw[Nat.sub_self,dM] at h;exact h);have f:Hid (wr.heap[w.heap.size]? = some (.cells #[.int .i64 x.at_,.int .i64 x.steps,.slice SA x.sets.length sc,.slice MA x.makes.length mc] 32 (0,0))):=(KW.o.block _ _ _ _ G.o (by decide) (by decide) (by decide) (by decide)).trans G.o;have e0:=crZ f 0 rfl;have e1:=crZ f 1 rfl;have e2:=crZ f 2 rfl;have e3:=crZ f 3 rfl;have EC:=hI (end_c A.o LV.o e4.o e5.o i4 a0.o m (by rw[b5.o];exact b3.o));clear HT;go_wp2_with fail;refine EC.o.mono ?_;rintro e' w4 ⟨rfl,⟨h6,h7,h8,h9,L4⟩,K4⟩;have X:=hI L4;have Y:=hI K4;clear L4 K4 e0 e1 e2 e3;go_wp2_with fail;refine bodyPost_ret (v:=.tuple #[.int .i64 (-1),.int .i64 (iG V x).2]) (by simp[results,results69,go_sem]) rfl ?_;have Z:=s.o;subst Z;exact⟨rfl,⟨_,_,_,_,X.o⟩,(aQ.of K1.o).trans (KW.o.trans Y.o)⟩
end
end
end Go.Proofs.YtjaphgpkkfdaaaaGreatDoor
