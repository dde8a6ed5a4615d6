/- A part of the walk. -/
import Derived.Test.YtijihlcdhppfgaaGreatDoorZBC
set_option maxHeartbeats 16000000
set_option maxRecDepth 100000
set_option linter.all false
namespace Go.Proofs.YtijihlcdhppfgaaGreatDoor
open Tryz
section
open Go.RowKit
theorem ad3 {w:World} {B e size n:Nat} {A:Option Addr} {m c:Nat} {xs:List Value} (h:w.ownsRow B e size (.slice A m c) n xs):m=n:=by
 rcases h.2 with ⟨h,f⟩ | ⟨g,c',d,h,-⟩;·injection h with _ h;omega
 ·injection h with _ h
section
variable {Γ : mW} {w w':World} {W:aG} {cv vv:Value} {vs fs:List Value}
theorem cC.putAt (L:cC Γ w W cv vv vs fs) (K:jZ Γ) {n:Int} (s:wfi n) : cC Γ (w.setCell ⟨Γ.fb,Γ.fo+1,none⟩ (.int .i64 n)) { W with at_:=n } cv vv vs fs/\aQ w (w.setCell ⟨Γ.fb,Γ.fo+1,none⟩ (.int .i64 n)):=by
 obtain⟨j,hf⟩:=L.frow;have o:dC (λk=>k = Γ.fb) w (w.setCell ⟨Γ.fb,Γ.fo+1,none⟩ (.int .i64 n)):=dC.set (T:=λk=>k = Γ.fb) dC.refl rfl _ _;have far:∀(g:Nat) (cs:Array Value) (e:TypeId),w.heap[g]? = some (.cells cs e (0,0))->e≠145->(w.setCell ⟨Γ.fb,Γ.fo+1,none⟩ (.int .i64 n)).heap[g]? = w.heap[g]?:=λg cs e h h1=> o.block g (aY h) (λht=>bS h hf h1 ht);have d:∀(e:TypeId) (size m:Nat) (u:Value) (xs:List Value),w.ownsRow Γ.B e size u m xs->e≠145->(w.setCell ⟨Γ.fb,Γ.fo+1,none⟩ (.int .i64 n)).ownsRow Γ.B e size u m xs:=λe size m u xs h p=>cY h hf (Ne.symm p) _ _;have same:(w.setCell ⟨Γ.fb,Γ.fo+1,none⟩ (.int .i64 n)).heap[Γ.fb]? = some (.cells (j.setIfInBounds (Γ.fo+1) (.int .i64 n)) 145 (0,0)):=heap_setCell_same _ _ _ _ _ _ hf;have l : Γ.fo+1<j.size:=by have h:=L.fat;rw[cell_of_row w Γ.fb (Γ.fo+1) _ _ _ hf] at h;exact(aE h).1
 refine⟨{ L with
  row:=(far _ _ _ L.row (by decide)).trans L.row
  frow:=⟨_,same⟩
  fat:=by rw[cell_of_row _ _ _ _ _ _ same];simp[l]
  frest:=λk f=>by
   rw[cell_of_row _ _ _ _ _ _ same,<-L.frest k f,cell_of_row _ _ _ _ _ _ hf]
   simp[Array.getElem?_setIfInBounds,Ne.symm f]
  crow:=d _ _ _ _ _ L.crow (by decide)
  vals:=d _ _ _ _ _ L.vals (by decide)
  regs:=d _ _ _ _ _ L.regs (by decide)
  cvals:=λi v c q r=>d _ _ _ _ _ (L.cvals i v c q r) (by decide)
  fixed:=λb hb=>(o.block b (Nat.lt_of_lt_of_le (K.q1 b hb) L.size) (λe=>K.qf (e ▸ hb))).trans (L.fixed b hb)
  size:=Nat.le_trans L.size o.size
  wfa:=s },ak0 o (λk _ f=>by subst f;exact⟨j,_,hf,.inr (.inl rfl)⟩)⟩
theorem cC.putSteps (L:cC Γ w W cv vv vs fs) (K:jZ Γ) {n:Int} (x:wfi n) : cC Γ (w.setCell ⟨Γ.wb,16,none⟩ (.int .i64 n)) { W with steps:=n } cv vv vs fs/\aQ w (w.setCell ⟨Γ.wb,16,none⟩ (.int .i64 n)):=by
 obtain⟨q,hf⟩:=L.frow;have o:dC (λk=>k = Γ.wb) w (w.setCell ⟨Γ.wb,16,none⟩ (.int .i64 n)):=dC.set (T:=λk=>k = Γ.wb) dC.refl rfl _ _;have far:∀(g:Nat) (cs:Array Value) (e:TypeId),w.heap[g]? = some (.cells cs e (0,0))->e≠147->(w.setCell ⟨Γ.wb,16,none⟩ (.int .i64 n)).heap[g]? = w.heap[g]?:=λg cs e h h1=> o.block g (aY h) (λht=>bS h L.row h1 ht);have d:∀(e:TypeId) (size m:Nat) (u:Value) (xs:List Value),w.ownsRow Γ.B e size u m xs->e≠147->(w.setCell ⟨Γ.wb,16,none⟩ (.int .i64 n)).ownsRow Γ.B e size u m xs:=λe size m u xs h p=>cY h L.row (Ne.symm p) _ _;have f:=far _ _ _ hf (by decide);have l:(Γ.tcs++[cv,Γ.shv,.pointer (some ⟨Γ.fb,Γ.fo,none⟩),.int .i64 W.steps,vv]).set 16 (.int .i64 n) = Γ.tcs++[cv,Γ.shv,.pointer (some ⟨Γ.fb,Γ.fo,none⟩),.int .i64 n,vv]:=by rw[List.set_append_right _ _ (by rw[K.tl];omega),K.tl];rfl
 refine⟨{ L with
  row:=by
   rw[heap_setCell_same _ _ _ _ _ _ L.row]
   show some (Obj.cells ((_:Array Value).setIfInBounds 16 _) _ _)=_
   rw[<-l]
   simp
  frow:=⟨q,f.trans hf⟩
  fat:=(World.cell?_of_block f).trans L.fat
  frest:=λk j=>(World.cell?_of_block f).trans (L.frest k j)
  crow:=d _ _ _ _ _ L.crow (by decide)
  vals:=d _ _ _ _ _ L.vals (by decide)
  regs:=d _ _ _ _ _ L.regs (by decide)
  cvals:=λi v c r s=>d _ _ _ _ _ (L.cvals i v c r s) (by decide)
  fixed:=λb hb=>(o.block b (Nat.lt_of_lt_of_le (K.q1 b hb) L.size) (λe=>K.qw (e ▸ hb))).trans (L.fixed b hb)
  size:=Nat.le_trans L.size o.size
  wfs:=x },ak0 o (λk _ j=>by subst j;exact⟨_,_,L.row,.inl rfl⟩)⟩
theorem cC.setReg (L:cC Γ w W cv vv vs fs) (K:jZ Γ) {i:Nat} {v u:Val} (hi:W.regs[i]? = some u) (q:WfV v) {g n f:Nat} (d : Γ.rv=.slice (some ⟨g,0,none⟩) n f) : cC Γ (w.setCells g (i*2) (bE v)) { W with regs:=W.regs.set i v } cv vv vs fs/\aQ w (w.setCells g (i*2) (bE v)):=by
 have R:=L.regs;rw[d] at R;have j:=ad3 R;subst j;have o:dC (λk=>Γ.rv.ownBlock=some k) w (w.setCells g (i*2) (bE v)):= dC.set (T:=λk=>Γ.rv.ownBlock=some k) (dC.set (T:=λk=>Γ.rv.ownBlock=some k) dC.refl (by rw[d];rfl) _ _) (by rw[d];rfl) _ _;refine⟨L.putRegs K o ?_ (λx l=>?_),ak0 o (λk _ p=>?_)⟩;·rw[List.length_set,d];exact aaB R hi
 ·rcases List.mem_or_eq_of_mem_set l with h | h;·exact L.wfr x h
  ·rw[h];exact q
 ·obtain⟨cs,h⟩:=bB L.regs p;exact⟨cs,_,h,.inr (.inr (.inr rfl))⟩
theorem cC.exitAt (L:cC Γ w W cv vv vs fs) (K:jZ Γ) {i:Nat} {x:bX} (q : Γ.t.exits[i]? = some x) : ∃b d f cs,w.cell? ⟨Γ.wb,4,none⟩=some (.slice (some ⟨b,d,none⟩) Γ.t.exits.length f)/\cs.length=4/\jY w b (d+i*4) cs/\fM w Γ.B0 cs x/\b < Γ.w1.heap.size:=by
 obtain⟨D,E,F,cb,e,-,h1,-⟩:=K.tr;obtain⟨A,f,rfl,-⟩:=id h1;have h:=(lE q).1;obtain⟨b,d,y,cs,rfl,hb,g,hl,r,s⟩:=h1.at_ h;rw[q] at g;injection g with g;subst g
 have l:=L.tr K (k:=4) (by decide);rw[e] at l;exact⟨b,d,f,cs,l,hl,λj u v=>(L.held ⟨b,_,none⟩ (K.q0 b hb)).trans (s j u v),r.keep (Nat.le_refl _) (λp z=>L.held p (K.q0 _ z)),K.q1 b (K.q0 b hb)⟩
end
end
section
open Go.RowKit
theorem take_mk {α : Type} {l:List α} {k:Nat} {x : α} (h:l[k]? = some x):l.take (k+1)=l.take k++[x]:=by obtain⟨h1,d⟩:=lE h;rw[List.take_succ_eq_append_getElem h1,d]
theorem ae3 {α : Type} {l:List α} {k:Nat} {x : α} (h:l[k]? = some x):l.drop k=x::l.drop (k+1):=by obtain⟨h1,d⟩:=lE h;rw[List.drop_eq_getElem_cons h1,d]
theorem Lim.setCW {t:aH} {r:Nat} {w:aG} (h:Lim t r w) (n:Nat) (c:bJ):Lim t r (setCW w n c):=⟨h.vals,sC h.cells n c,h.regs⟩
theorem Lim.setReg {t:aH} {r:Nat} {w:aG} (h:Lim t r w) (n:Nat) (v:Val):Lim t r { w with regs:=w.regs.set n v }:=⟨h.vals,h.cells,by show(w.regs.set n v).length=r;rw[List.length_set];exact h.regs⟩
section
variable {Γ : mW} {w w':World} {W:aG} {cv vv:Value} {vs fs:List Value}
theorem aj2 {w:World} {B l len y:Nat} {cells:List bJ} {vs d:List Value} {n:Nat} {c:bJ} {v f:Value} (h:w.ownsRow B 166 4 (.slice (some ⟨l,0,none⟩) len y) len ((dR cells vs d).flatMap id)) (lv:vs.length=cells.length) (lf:d.length=cells.length) (E:cells[n]? = some c) (F:vs[n]? = some v) (hf:d[n]? = some f) (c':bJ) (v' f':Value) : (w.setCells l (n*4) (bM c' v' f')).ownsRow B 166 4 (.slice (some ⟨l,0,none⟩) len y) len ((dR (cells.set n c') (vs.set n v') (d.set n f')).flatMap id):=by have g:=gP _ _ _ n _ _ _ E F hf;have j:=jU cells vs d;have p:=(h.stored (n*4+0) (.int .i64 c'.kind)).1;rw[fG _ n 0 _ _ j g (by decide)] at p;have q:=fC g ((bM c v f).set 0 (.int .i64 c'.kind));have z:=gR (i:=n) j (show((bM c v f).set 0 (.int .i64 c'.kind)).length=4 from rfl);have h1:=(p.stored (n*4+1) (.int .i64 c'.num)).1;rw[fG _ n 1 _ _ z q (by decide),List.set_set] at h1;have r:=fC g (((bM c v f).set 0 (.int .i64 c'.kind)).set 1 (.int .i64 c'.num));have A:=gR (i:=n) j (show(((bM c v f).set 0 (.int .i64 c'.kind)).set 1 (.int .i64 c'.num)).length=4 from rfl);have s:=(h1.stored (n*4+2) v').1;rw[fG _ n 2 _ _ A r (by decide),List.set_set] at s;have u:=fC g ((((bM c v f).set 0 (.int .i64 c'.kind)).set 1 (.int .i64 c'.num)).set 2 v');have D:=gR (i:=n) j (show((((bM c v f).set 0 (.int .i64 c'.kind)).set 1 (.int .i64 c'.num)).set 2 v').length=4 from rfl);have x:=(s.stored (n*4+3) f').1;rw[fG _ n 3 _ _ D u (by decide),List.set_set] at x;rw[<-nK _ _ _ n _ _ _ lv lf];exact x
theorem ajF:(prog.info? 166).map (·.size)=some 4:=by kernel_rfl
theorem end_c (K:jZ Γ) (L:cC Γ w W cv vv vs fs) {x:bX} {cs:List Value} {R:Int} {k:Nat} (hX:fM Γ.w1 Γ.B0 cs x) (EF:qJ R Γ.t x k) (hk:k<=Γ.t.ins.length) (M:Lim Γ.t R.toNat W) (ht : Γ.t.ins.length<=300) (r6:0<=W.steps/\W.steps<=1000000000) : Calls prog 192 #[.pointer (some ⟨Γ.wb,0,none⟩),.agg ⟨cs⟩] w (xL Γ (g8 W x).1 (.int .i64 (g8 W x).2) w):=by
 obtain⟨sv,mv,rfl,hs,hm,wa,ws⟩:=hX;obtain⟨SA,sc,rfl,-⟩:=id hs;obtain⟨MA,mc,rfl,-⟩:=id hm;have F0:=aM hs;have F1:=aM hm;have v4:=hI hs;have v5:=hI hm;have v9:=hI wa;have g6:=hI EF;have d:=hI K;have n6:=hI r6;obtain⟨w1,e9⟩:∃w1,w1=w.alloc (.cells #[.int .i64 x.at_,.int .i64 x.steps,.slice SA x.sets.length sc,.slice MA x.makes.length mc] 32):=⟨_,rfl⟩;have K1:Hid (Below w.heap.size w w1):=by rw[e9];exact aA _ _
 have d3:Hid (w1.heap[w.heap.size]? = some (.cells #[.int .i64 x.at_,.int .i64 x.steps,.slice SA x.sets.length sc,.slice MA x.makes.length mc] 32 (0,0))):=by rw[e9];exact aS _ _
 have w0:=hI e9;have L1:=hI (L.below K K1.o);obtain⟨W',k0⟩:∃W',(g8 W x).1=W':=⟨_,rfl⟩;obtain⟨q,hq⟩:∃q,(g8 W x).2=q:=⟨_,rfl⟩;rw[k0,hq];obtain⟨rm,f0⟩:∃rm,eO W x.makes=rm:=⟨_,rfl⟩;have HE:Hid ((if rm.2≠0 then rm else({ gY rm.1 x.sets with at_:=x.at_,steps:=(gY rm.1 x.sets).steps+x.steps },0))=(W',q)):=by show _=_;rw[<-k0,<-hq,<-f0];rfl
 have n7:Hid (rm.1.steps=W.steps):=by rw[<-f0];exact(pG x.makes W).2.2
 have w4:=hI f0;obtain⟨i0,p8,p9⟩:=Option.map_eq_some_iff.1 oF;simp only[Prod.mk.injEq] at p9;obtain⟨hz,q2,q3⟩:=p9;obtain⟨z,q4,q5⟩:=Option.map_eq_some_iff.1 hz;have HI:=hI p8;have HZ:=hI q4;have w5:=hI q2;have w7:=hI q3;have w8:=hI q5;clear p8 q4 q2 q3 q5 hz e9 k0 hq f0 hs hm wa ws EF K L r6;have s3:=crZ d3 3 rfl;go_enter func192,ntmps192;go_upto_region 1 with fail;rw[<-w0.o];go_wp2_with fail;clear s3;go_loopw [16] (λkk wr=>∃(j:Nat) (V:aG),kk=.int .i64 j/\j<=x.makes.length/\Hid (eO V (x.makes.drop j)=rm)/\Hid (∃cv vv vs fs,cC Γ wr V cv vv vs fs)/\Hid (Lim Γ.t R.toNat V)/\Hid (aQ w1 wr)) (λkk _=>x.makes.length - (RowKit.intOf kk).toNat);case atStart=>exact⟨0,W,rfl,by omega,w4.o,⟨_,_,_,_,L1.o⟩,M,aQ.refl _⟩
 case round=>
  obtain⟨j,V,rfl,hj,HM,HL,c8,KW⟩:=hrel
  obtain⟨A,y7⟩:∃A,A=wr:=⟨_,rfl⟩
  subst y7
  obtain⟨q6,G2,G3,G4,N⟩:=HL.o
  have LV:=hI N
  have d4:Hid (A.heap[w.heap.size]? = some (.cells #[.int .i64 x.at_,.int .i64 x.steps,.slice SA x.sets.length sc,.slice MA x.makes.length mc] 32 (0,0))):=(KW.o.block _ _ _ _ d3.o (by decide) (by decide) (by decide) (by decide)).trans d3.o
  have F2:=KW.o.size
  clear N HL
  by_cases l5:j<x.makes.length
  ·have x0:(j:Int)<x.makes.length:=by omega
   obtain⟨mb,b4,m,G5,rfl,f2,f3,-,⟨G6,rfl,k2,z0,q7,q8⟩,G⟩:=v5.o.at_ l5
   obtain⟨VA,O,rfl,-⟩:=id k2
   have MF:=hI (g6.o.makes m (lM f3))
   have x1:=hI k2
   have g0:A.cell? ⟨mb,b4+j*4,none⟩=some (.int .i64 m.cell):=(LV.o.held ⟨mb,_,none⟩ (d.o.q0 _ f2)).trans (G 0 _ rfl)
   have g1:A.cell? ⟨mb,b4+j*4+1,none⟩=some (.int .i64 m.kind):=(LV.o.held ⟨mb,_,none⟩ (d.o.q0 _ f2)).trans (G 1 _ rfl)
   have g2:A.cell? ⟨mb,b4+j*4+2,none⟩=some (.int .i64 m.num):=(LV.o.held ⟨mb,_,none⟩ (d.o.q0 _ f2)).trans (G 2 _ rfl)
   have g3:A.cell? ⟨mb,b4+j*4+3,none⟩=some (.slice VA m.vals.length O):=(LV.o.held ⟨mb,_,none⟩ (d.o.q0 _ f2)).trans (G 3 _ rfl)
   have x2:=MF.o.cell
   obtain⟨kc,k4⟩:∃kc:Nat,m.cell=(kc:Int):=⟨m.cell.toNat,by omega⟩
   obtain⟨y,hy⟩:∃y,V.vals[kc]? = some y:=⟨_,lG (by rw[c8.o.vals];omega)⟩
   have F3:=hI k4
   have F4:=hI f3
   have n8:Hid (wfi m.kind/\wfi m.num):=⟨q7,q8⟩
   obtain⟨D,H⟩:∃D,D=A.alloc (.cells #[.int .i64 m.cell,.int .i64 m.kind,.int .i64 m.num,.slice VA m.vals.length O] 127):=⟨_,rfl⟩
   have K2:Hid (Below A.heap.size A D):=by rw[H];exact aA _ _
   have Z:Hid (aJ D A.heap.size [.int .i64 m.cell,.int .i64 m.kind,.int .i64 m.num,.slice VA m.vals.length O]):=by rw[H];exact akV _ _ _
   have h0:=hI H
   have N:=hI (LV.o.below d.o K2.o)
   have CC:=hI (rN d.o N.o hy c8.o.cells)
   rw[<-k4] at CC
   have b2:Hid ((if(gF V m).2≠0 then gF V m else eO (gF V m).1 (x.makes.drop (j+1)))=rm):=by
    have h:=HM.o
    rw[ae3 f3] at h
    exact h
   have b0:=Z.o 0 _ rfl
   clear H G f3 k2 z0 q7 q8 x2 k4 hy
   go_upto_region 4 with fail
   rw[<-h0.o]
   clear g0 g1 g2 g3
   go_wp2_with fail
   refine CC.o.mono ?_
   rintro e I ⟨rfl,k3⟩
   have n9:=hI k3
   have K3:=btZ K2 k3
   have l:=hI (N.o.below d.o k3)
   have h3:Hid (aQ w1 I):=KW.o.trans (aQ.of K3.o)
   clear k3 b0
   cases r:dG V m.cell with
   | none=>
    rw[gS r]
    have HN:Hid ((V,(2:Int))=(W',q)):=by
     have e:gF V m=(V,2):=by unfold gF;rw[r]
     have h:=b2.o
     rw[e,if_pos (show(2:Int)≠0 by decide)] at h
     have h2:=HE.o
     rw[<-h,if_pos (show(2:Int)≠0 by decide)] at h2
     exact h2
    clear r
    go_wp2_with fail
    go_ret
    have e1:=congrArg Prod.fst HN.o
    have X:=congrArg Prod.snd HN.o
    dsimp only at e1 X
    subst e1;subst X
    exact⟨rfl,⟨_,_,_,_,l.o⟩,(aQ.of K1.o).trans h3.o⟩
   | some p=>
    obtain⟨n,c⟩:=p
    obtain⟨gc,cc,v,f,vA,vc,r0,hc,hv,hf,z5,r1,c0,c1,c2,c3,G7⟩:=l.o.atCell r
    rw[r1]
    subst z5
    have e5:=hI r0
    have HC:=hI hc
    have e6:=hI hv
    have HF:=hI hf
    have o0:gF V m=if c.kind≠0 then(V,2) else(setCW V n ⟨m.kind,m.num,m.vals.map (bL V),[]⟩,0):=by unfold gF;rw[r]
    have o1:=hI o0
    clear r c1 c2 c3 hc hv hf r1 r0 o0
    by_cases a9:c.kind=0
    ·rw[a9] at c0
     have HT:Hid (eO (setCW V n ⟨m.kind,m.num,m.vals.map (bL V),[]⟩) (x.makes.drop (j+1))=rm):=by
      have h:=b2.o
      have e:gF V m=(setCW V n ⟨m.kind,m.num,m.vals.map (bL V),[]⟩,0):=by rw[o1.o,if_neg (λh=>h a9)]
      rw[e,if_neg (λh=>h rfl)] at h
      exact h
     have b3:=aC n9.o (Z.o 3 _ rfl)
     have b1:Hid (aJ I A.heap.size [.int .i64 m.cell,.int .i64 m.kind,.int .i64 m.num,.slice VA m.vals.length O]):=λi v hv=>aC n9.o (Z.o i v hv)
     have C3:=MF.o.len
     clear a9
     go_wp2_with fail
     clear b3 c0
     go_loopw [8,36] (λa ik wr=>∃i:Nat,ik=.int .i64 i/\i<=m.vals.length/\Hid (wr.ownsRow I.heap.size 51 2 a i (((m.vals.take i).map (bL V)).flatMap bE))/\Hid (Below I.heap.size I wr)) (λ_ ik _=>m.vals.length - (RowKit.intOf ik).toNat)
     case atStart=>exact⟨0,rfl,by omega,World.ownsRow_nil _ _ _ _,Below.refl _ _⟩
     case round=>
      obtain⟨i,rfl,hi,OA,KI⟩:=hrel
      obtain⟨A7,c7,rfl⟩:=cJ OA.o
      have s0:=KI.o.size
      by_cases A9:i<m.vals.length
      ·have F5:(i:Int)<m.vals.length:=by omega
       obtain⟨xb,u7,zv,G8,rfl,z7,k5,-,⟨rfl,wz⟩,r2⟩:=x1.o.at_ A9
       have x4:=MF.o.vals zv (lM k5)
       obtain⟨Y,rfl⟩:∃Y:Nat,zv=(Y:Int):=⟨zv.toNat,by omega⟩
       have x5:Y<V.vals.length:=by rw[c8.o.vals];omega
       have F6:(Y:Int)<V.vals.length:=by omega
       obtain⟨P,f7⟩:∃P,V.vals[Y]? = some P:=⟨_,lG x5⟩
       obtain⟨g,d1,a7,-,z9⟩:=l.o.vals.form (by omega)
       have h5:=d.o.q0 _ z7
       have o2:xb<I.heap.size:=Nat.lt_of_lt_of_le (d.o.q1 _ h5) l.o.size
       have gz:wr.cell? ⟨xb,u7+i,none⟩=some (.int .i64 Y):=(KI.o.cell o2).trans ((l.o.held ⟨xb,_,none⟩ h5).trans (by simpa using r2 0 _ rfl))
       have x6:wr.cell? ⟨Γ.wb,17,none⟩=some (.slice (some ⟨g,0,none⟩) V.vals.length d1):=aC KI.o (by have h:=l.o.own d.o 4;rw[a7] at h;exact h)
       have OV:Hid (I.ownsRow Γ.B 51 2 (.slice (some ⟨g,0,none⟩) V.vals.length d1) V.vals.length (V.vals.flatMap bE)):=by have h:=l.o.vals;rw[a7] at h;exact h
       have p0:wr.cell? ⟨g,Y*2,none⟩=some (.int .i64 P.kind):=aC KI.o (by rw[OV.o.cellAt (Y*2) (by omega)];exact cF f7 (k:=0) (by decide))
       have p1:wr.cell? ⟨g,Y*2+1,none⟩=some (.int .i64 P.n):=aC KI.o (by rw[OV.o.cellAt (Y*2+1) (by omega)];exact cF f7 (k:=1) (by decide))
       have o3:Hid (((m.vals.take (i+1)).map (bL V)).flatMap bE=((m.vals.take i).map (bL V)).flatMap bE++[.int .i64 P.kind,.int .i64 P.n]):=by
        show _=_
        rw[take_mk k5,List.map_append,List.flatMap_append]
        simp[iJ f7,bE]
       obtain⟨LX,r3⟩:∃LX,((m.vals.take i).map (bL V)).flatMap bE=LX:=⟨_,rfl⟩
       rw[r3] at OA o3
       clear k5 f7 a7 r2 h5 o2 r3 x4
       go_wp2_with (at_builtin;refine wpList_append_own _ rfl _ _ 23 rfl I.heap.size 51 i0 z 2 16 underlying23 HI.o HZ.o w5.o w7.o w8.o (by decide) (.slice A7 i c7) i LX rfl (OA.o.alloc _) ⟨wr.heap.size,0,none⟩ 1 1 [.int .i64 P.kind,.int .i64 P.n] rfl rfl ?c1 ?c2 ?c3 ?c4 ?c5 ?_)
       case c1=>exact World.news_of_block (cs:=#[.int .i64 P.kind,.int .i64 P.n]) (aS _ _)
       case c2=>intro u hu;simp at hu;rcases hu with rfl | rfl <;> rfl
       case c3=>unfold maxLen;omega
       case c4=>omega
       case c5=>simp;omega
       intro v' w6 l3 hg _
       have O7:=hI l3
       have KB:=hI (pV (B':=I.heap.size) (OA.o.alloc (.cells #[.int .i64 P.kind,.int .i64 P.n] 51)) hg (Nat.le_refl _) (by simp;omega))
       have K7:=hI ((KI.o.alloc s0 _).trans KB.o)
       clear l3 hg gz x6 p0 p1
       go_wp2_with fail
       go_roundw
       case rel=>exact⟨i+1,by go_num,by omega,by show World.ownsRow _ _ _ _ _ _ _;rw[o3.o];exact O7.o,K7⟩
       case measure=>simp[RowKit.intOf];omega
      ·obtain rfl:i=m.vals.length:=by omega
       have F7:¬(m.vals.length:Int)<m.vals.length:=by omega
       have LI:=hI (l.o.below d.o KI.o)
       have o7:wr.there gc (n*4) 4:=by
        have h:=LI.o.crow
        rw[e5.o] at h
        have:=(lE HC.o).1
        exact fQ h (by omega)
       have TH:=hI o7
       have B1:Hid (aJ wr A.heap.size [.int .i64 m.cell,.int .i64 m.kind,.int .i64 m.num,.slice VA m.vals.length O]):=λi v hv=>aC KI.o (b1.o i v hv)
       have p1:=B1.o 1 _ rfl
       have p2:=B1.o 2 _ rfl
       have e7:Hid (wr.ownsRow I.heap.size 51 2 (.slice A7 m.vals.length c7) m.vals.length ((m.vals.map (bL V)).flatMap bE)):=by
        have h:=OA.o
        rw[List.take_length] at h
        exact h
       clear o7 OA
       go_upto_region 14 with (first | (refine wpList_store_mid rfl 166 _ _ rfl gc (n*4) #[.int .i64 m.kind,.int .i64 m.num,.slice A7 m.vals.length c7,.slice none 0 0] rfl rfl TH.o ajF (oCz (by simp[Value.oneCell'])) ?_) | fail)
       generalize J:World.setCells _ _ _ _=w9
       have h7:=LI.o.crow
       rw[e5.o] at h7
       have h8:=aj2 h7 LI.o.lv LI.o.lf HC.o e6.o HF.o ⟨m.kind,m.num,m.vals.map (bL V),[]⟩ (.slice A7 m.vals.length c7) (.slice none 0 0)
       have h9:wr.setCells gc (n*4) (bM ⟨m.kind,m.num,m.vals.map (bL V),[]⟩ (.slice A7 m.vals.length c7) (.slice none 0 0))=w9:=J
       rw[h9] at h8
       have C9:=hI h8
       have o8:Hid (dC (λk=>(Value.slice vA c.vals.length vc).ownBlock=some k\/q6.ownBlock=some k) wr w9):=by
        rw[<-J,e5.o]
        exact dC.set (dC.set (dC.set (dC.set dC.refl (.inr rfl) _ _) (.inr rfl) _ _) (.inr rfl) _ _) (.inr rfl) _ _
       have i1:Hid (dC (λk=>(Value.slice vA c.vals.length vc).ownBlock=some k\/q6.ownBlock=some k) I w9):=dC.trans (dC.of KI.o) o8.o
       have O9:Hid (w9.ownsRow Γ.B 51 2 (.slice A7 m.vals.length c7) (m.vals.map (bL V)).length ((m.vals.map (bL V)).flatMap bE)):=by
        have h:w9.ownsRow I.heap.size 51 2 (.slice A7 m.vals.length c7) m.vals.length ((m.vals.map (bL V)).flatMap bE):=by
         refine gN e7.o (λg hg=>o8.o.block g (e7.o.lt g hg).2 (λhh=>?_))
         have h1:=(e7.o.lt g hg).1
         rcases hh with hh | hh
         ·have:=((l.o.cvals n _ c e6.o HC.o).lt g hh).2;omega
         ·have:=(l.o.crow.lt g hh).2;omega
        rw[List.length_map]
        exact fH h (Nat.le_trans d.o.b1 l.o.size)
       have o9:WfC ⟨m.kind,m.num,m.vals.map (bL V),[]⟩:=by
        refine⟨n8.o.1,n8.o.2,λy hy=>?_⟩
        obtain⟨z,-,rfl⟩:=List.mem_map.1 (show y∈m.vals.map (bL V) from hy)
        unfold bL
        cases e:V.vals[z.toNat]? with
        | none=>exact⟨⟨by simp,by simp⟩,⟨by simp,by simp⟩⟩
        | some u=>exact l.o.wfv u (lM e)
       have L9:=hI (l.o.putCell d.o (c':=⟨m.kind,m.num,m.vals.map (bL V),[]⟩) e6.o i1.o (by rw[e5.o];exact C9.o) O9.o (λg hg=>.inr (e7.o.lt g hg).1) (bW.nil _ _ _ _) o9)
       have K9:Hid (aQ I w9):=ak0 i1.o (λk _ hk=>by
        rcases hk with hk | hk
        ·obtain⟨cs,h⟩:=bB (l.o.cvals n _ c e6.o HC.o) hk
         exact⟨cs,_,h,.inr (.inr (.inr rfl))⟩
        ·obtain⟨cs,h⟩:=bB l.o.crow hk
         exact⟨cs,_,h,.inr (.inr (.inl rfl))⟩)
       clear J h9 h8 h7 o9 p1 p2
       (try dsimp only [Act.put])
       go_wp2_with fail
       go_roundw
       case rel=>exact⟨j+1,setCW V n ⟨m.kind,m.num,m.vals.map (bL V),[]⟩,by go_num,by omega,HT.o,⟨_,_,_,_,L9.o⟩,c8.o.setCW _ _,h3.o.trans K9.o⟩
       case measure=>simp[RowKit.intOf];omega
    ·have HN:Hid ((V,(2:Int))=(W',q)):=by
      have h:=b2.o
      have e:gF V m=(V,2):=by rw[o1.o,if_pos a9]
      rw[e,if_pos (show(2:Int)≠0 by decide)] at h
      have h2:=HE.o
      rw[<-h,if_pos (show(2:Int)≠0 by decide)] at h2
      exact h2
     have F8:(c.kind != 0)=true:=by simpa using a9
     clear a9
     go_wp2_with fail
     go_ret
     have e1:=congrArg Prod.fst HN.o
     have X:=congrArg Prod.snd HN.o
     dsimp only at e1 X
     subst e1;subst X
     exact⟨rfl,⟨_,_,_,_,l.o⟩,(aQ.of K1.o).trans h3.o⟩
  ·obtain rfl:j=x.makes.length:=by omega
   have F9:¬(x.makes.length:Int)<x.makes.length:=by omega
   have HV:Hid ((V,(0:Int))=rm):=by have h:=HM.o;rw[List.drop_length] at h;exact h
   have y0:Hid (({ gY V x.sets with at_:=x.at_,steps:=(gY V x.sets).steps+x.steps },(0:Int))=(W',q)):=by
    have h:=HE.o
    rw[<-HV.o,if_neg (λh=>h rfl)] at h
    exact h
   have y1:Hid (V.steps=W.steps):=by have h:=n7.o;rw[<-HV.o] at h;exact h
   have s2:=crZ d4 2 rfl
   clear HM HV n7 HE
   go_wp2_with fail
   clear s2
   go_loopw [63] (λkk wr=>∃(j:Nat) (U:aG),kk=.int .i64 j/\j<=x.sets.length/\Hid (gY U (x.sets.drop j)=gY V x.sets)/\Hid (∃cv vv vs fs,cC Γ wr U cv vv vs fs)/\Hid (Lim Γ.t R.toNat U)/\Hid (aQ A wr)) (λkk _=>x.sets.length - (RowKit.intOf kk).toNat)
   case atStart=>exact⟨0,V,rfl,by omega,rfl,⟨_,_,_,_,LV.o⟩,c8.o,aQ.refl _⟩
   case round=>
    obtain⟨j,U,rfl,G9,HS,HL,k6,KU⟩:=hrel
    obtain⟨A1,A2,A3,A4,l⟩:=HL.o
    have LU:=hI l
    have i3:Hid (wr.heap[w.heap.size]? = some (.cells #[.int .i64 x.at_,.int .i64 x.steps,.slice SA x.sets.length sc,.slice MA x.makes.length mc] 32 (0,0))):=(KU.o.block _ _ _ _ d4.o (by decide) (by decide) (by decide) (by decide)).trans d4.o
    clear l HL
    by_cases l5:j<x.sets.length
    ·have x0:(j:Int)<x.sets.length:=by omega
     obtain⟨sb,k7,s,H0,rfl,r4,k8,-,⟨rfl,A5,A6⟩,G⟩:=v4.o.at_ l5
     have SF:=g6.o.sets s (lM k8)
     have g0:wr.cell? ⟨sb,k7+j*2,none⟩=some (.int .i64 s.reg):=(LU.o.held ⟨sb,_,none⟩ (d.o.q0 _ r4)).trans (G 0 _ rfl)
     have g1:wr.cell? ⟨sb,k7+j*2+1,none⟩=some (.int .i64 s.val):=(LU.o.held ⟨sb,_,none⟩ (d.o.q0 _ r4)).trans (G 1 _ rfl)
     obtain⟨F,k9⟩:∃F:Nat,s.reg=(F:Int):=⟨s.reg.toNat,by omega⟩
     obtain⟨S,l0⟩:∃S:Nat,s.val=(S:Int):=⟨s.val.toNat,by omega⟩
     have y2:S<U.vals.length:=by rw[k6.o.vals];omega
     have y3:F<U.regs.length:=by rw[k6.o.regs];omega
     have G0:(S:Int)<U.vals.length:=by omega
     have G1:(F:Int)<U.regs.length:=by omega
     obtain⟨y,hy⟩:∃y,U.vals[S]? = some y:=⟨_,lG y2⟩
     obtain⟨u,hu⟩:∃u,U.regs[F]? = some u:=⟨_,lG y3⟩
     rw[k9] at g0
     rw[l0] at g1
     have HY:=hI hy
     have HU:=hI hu
     have y4:Hid (gY { U with regs:=U.regs.set F y } (x.sets.drop (j+1))=gY V x.sets):=by
      have h:=HS.o
      rw[ae3 k8] at h
      have e:bL U s.val=y:=by rw[l0];exact iJ hy
      have X:s.reg.toNat=F:=by rw[k9];rfl
      show _=_
      rw[<-h,<-e,<-X];rfl
     obtain⟨D,H⟩:∃D,D=wr.alloc (.cells #[.int .i64 F,.int .i64 S] 124):=⟨_,rfl⟩
     have K2:Hid (Below wr.heap.size wr D):=by rw[H];exact aA _ _
     have Z:Hid (aJ D wr.heap.size [.int .i64 F,.int .i64 S]):=by rw[H];exact akV _ _ _
     have h0:=hI H
     have N:=hI (LU.o.below d.o K2.o)
     obtain⟨g,d1,a7,-,z9⟩:=N.o.vals.form (by omega)
     obtain⟨rg,rc,hrv,-,H1⟩:=N.o.regs.form (by omega)
     have p3:=hI a7
     have i4:=hI hrv
     clear H G k8 hy hu k9 l0 SF a7 hrv A5 A6
     go_upto_region 18 with fail
     rw[<-h0.o]
     clear g0 g1
     have OV:Hid (D.ownsRow Γ.B 51 2 (.slice (some ⟨g,0,none⟩) U.vals.length d1) U.vals.length (U.vals.flatMap bE)):=by have h:=N.o.vals;rw[p3.o] at h;exact h
     have a0:∀E:Up D,E.to.cell? ⟨Γ.wb,17,none⟩=some (.slice (some ⟨g,0,none⟩) U.vals.length d1):=λE=>E.cell (by have h:=N.o.own d.o 4;rw[p3.o] at h;exact h)
     have a1:∀E:Up D,E.to.cell? ⟨Γ.wb,15,none⟩=some (.pointer (some ⟨Γ.fb,Γ.fo,none⟩)):=λE=>E.cell (N.o.own d.o 2)
     have a2:∀E:Up D,E.to.cell? ⟨Γ.fb,Γ.fo+6,none⟩=some (.slice (some ⟨rg,0,none⟩) U.regs.length rc):=λE=>E.cell (by rw[N.o.frest (Γ.fo+6) (by omega),<-i4.o];exact d.o.f6)
     have a3:=ecZ (Z.o 0 _ rfl)
     have a4:=ecZ (Z.o 1 _ rfl)
     have a5:∀E:Up D,E.to.cell? ⟨g,S*2,none⟩=some (.int .i64 y.kind):=λE=>E.cell (by rw[OV.o.cellAt (S*2) (by omega)];exact cF HY.o (k:=0) (by decide))
     have a6:∀E:Up D,E.to.cell? ⟨g,S*2+1,none⟩=some (.int .i64 y.n):=λE=>E.cell (by rw[OV.o.cellAt (S*2+1) (by omega)];exact cF HY.o (k:=1) (by decide))
     refine aU 17 (by kernel_rfl) (by kernel_rfl) ?_
     simp only[List.take_succ_cons,List.take_zero]
     repeat (go_big_quiet_step (fail))
     refine wpQuiet_nil ?_
     intro w' hE
     obtain⟨E,rfl⟩:=hE
     obtain⟨wy,ky⟩:=E
     dsimp only
     have LY:=hI (N.o.below d.o ky)
     have KY:=btZ K2 ky
     clear ky a0 a1 a2 a3 a4 a5 a6
     have TH:Hid (wy.there rg (F*2) 2):=by
      have:=LY.o.regs
      rw[i4.o] at this
      exact fQ this (by omega)
     have S9:Hid (cC Γ (wy.setCells rg (F*2) [.int .i64 y.kind,.int .i64 y.n]) { U with regs:=U.regs.set F y } A1 A2 A3 A4/\aQ wy (wy.setCells rg (F*2) [.int .i64 y.kind,.int .i64 y.n])):=LY.o.setReg d.o HU.o (LY.o.wfv y (lM HY.o)) i4.o
     simp only[List.drop_succ_cons,List.drop_zero]
     go_upto_region 19 with (first | (refine wpList_store_mid rfl 51 _ _ rfl rg (F*2) #[.int .i64 y.kind,.int .i64 y.n] rfl rfl TH.o fB (oCz (by simp[Value.oneCell'])) ?_) | fail)
     generalize J:World.setCells _ _ _ _=w9
     rw[J] at S9
     clear J
     (try dsimp only [Act.put])
     go_wp2_with fail
     go_roundw
     case rel=>exact⟨j+1,{ U with regs:=U.regs.set F y },by go_num,by omega,y4.o,⟨_,_,_,_,S9.o.1⟩,k6.o.setReg _ _,KU.o.trans ((aQ.of KY.o).trans S9.o.2)⟩
     case measure=>simp[RowKit.intOf];omega
    ·obtain rfl:j=x.sets.length:=by omega
     have E3:¬(x.sets.length:Int)<x.sets.length:=by omega
     have p4:Hid (U=gY V x.sets):=by have h:=HS.o;rw[List.drop_length] at h;exact h
     have i9:Hid (U.steps=W.steps):=by show _=_;rw[p4.o,(nV x.sets V).2.1];exact y1.o
     have p5:Hid (({ U with at_:=x.at_,steps:=U.steps+x.steps },(0:Int))=(W',q)):=by
      have h:=y0.o
      rw[<-p4.o] at h
      exact h
     have E4:=g6.o.steps
     go_upto_region 20 with fail
     have a1:∀E:Up wr,E.to.cell? ⟨Γ.wb,15,none⟩=some (.pointer (some ⟨Γ.fb,Γ.fo,none⟩)):=λE=>E.cell (LU.o.own d.o 2)
     have a3:=ecZ (crZ i3 0 rfl)
     refine aU 6 (by kernel_rfl) (by kernel_rfl) ?_
     simp only[List.take_succ_cons,List.take_zero]
     repeat (go_big_quiet_step (fail))
     refine wpQuiet_nil ?_
     intro w' hE
     obtain⟨E,rfl⟩:=hE
     obtain⟨wy,ky⟩:=E
     dsimp only
     have LY:=hI (LU.o.below d.o ky)
     have KY:=hI ky
     have j0:=rkZ i3 ky
     clear ky a1 a3
     have f1:wy.cell? ⟨Γ.fb,Γ.fo+1,none⟩=some (.int .i64 U.at_):=LY.o.fat
     obtain⟨cf,r5⟩:=LY.o.frow
     have z1:wy.frozen? ⟨Γ.fb,Γ.fo+1,none⟩=false:=frozen_of_row wy _ _ _ _ r5
     have c6:=hI (LY.o.putAt d.o v9.o)
     clear r5
     simp only[List.drop_succ_cons,List.drop_zero]
     go_upto_region 21 with fail
     generalize J:World.setCell _ _ _=w9
     rw[J] at c6
     have t6:Hid (w9.heap[w.heap.size]? = some (.cells #[.int .i64 x.at_,.int .i64 x.steps,.slice SA x.sets.length sc,.slice MA x.makes.length mc] 32 (0,0))):=(c6.o.2.block _ _ _ _ j0.o (by decide) (by decide) (by decide) (by decide)).trans j0.o
     clear J f1 z1
     (try dsimp only [Act.put])
     have t7:wrap64 (U.steps+x.steps)=U.steps+x.steps:=by have h1:=i9.o;have h2:=n6.o;unfold wrap64;omega
     have a1:∀E:Up w9,E.to.cell? ⟨Γ.wb,16,none⟩=some (.int .i64 U.steps):=λE=>E.cell (c6.o.1.own d.o 3)
     have a3:=ecZ (crZ t6 1 rfl)
     refine aU 7 (by kernel_rfl) (by kernel_rfl) ?_
     simp only[List.take_succ_cons,List.take_zero]
     repeat (go_big_quiet_step (fail))
     refine wpQuiet_nil ?_
     intro w' hE
     obtain⟨E,rfl⟩:=hE
     obtain⟨wz,kz⟩:=E
     dsimp only
     have LZ:=hI (c6.o.1.below d.o kz)
     have KZ:=hI kz
     clear kz a1 a3
     have f1:wz.cell? ⟨Γ.wb,16,none⟩=some (.int .i64 U.steps):=LZ.o.own d.o 3
     have z1:wz.frozen? ⟨Γ.wb,16,none⟩=false:=frozen_of_row wz _ _ _ _ LZ.o.row
     have SB:=hI (LZ.o.putSteps d.o (n:=U.steps+x.steps) (by have h1:=i9.o;have h2:=n6.o;unfold wfi;omega))
     simp only[List.drop_succ_cons,List.drop_zero]
     go_upto_region 22 with fail
     generalize l9:World.setCell _ _ _=w10
     rw[l9] at SB
     clear l9 f1 z1
     (try dsimp only [Act.put])
     clear t7
     go_wp2_with fail
     go_ret
     have e1:=congrArg Prod.fst p5.o
     have X:=congrArg Prod.snd p5.o
     dsimp only at e1 X
     subst e1;subst X
     exact⟨rfl,⟨_,_,_,_,SB.o.1⟩,(aQ.of K1.o).trans (KW.o.trans (KU.o.trans ((aQ.of KY.o).trans (c6.o.2.trans ((aQ.of KZ.o).trans SB.o.2)))))⟩
end
end
section
open Go.RowKit
section
variable {Γ : mW} {w w':World} {W:aG} {cv vv:Value} {vs fs:List Value}
def afD (Γ : mW) (r:aG×Int×Int) (w:World) (e:Ending) (w':World):Prop:=e=.returned (.tuple #[.int .i64 r.2.1,.int .i64 r.2.2])/\(∃cv vv vs fs,cC Γ w' r.1 cv vv vs fs)/\aQ w w'
theorem acS (K:jZ Γ) (L:cC Γ w W cv vv vs fs) {x:bX} {cs:List Value} {R:Int} (F:xK R Γ.t) (c2:mB Γ.t) {from_ to_:Nat} (i5:from_<=to_) (i6:to_<=Γ.t.ins.length) (hX:fM Γ.w1 Γ.B0 cs x) (EF:qJ R Γ.t x to_) (M:Lim Γ.t R.toNat W) (c6:0<=W.steps/\W.steps<=1000000000) : Calls prog 130 #[.pointer (some ⟨Γ.wb,0,none⟩),.int .i64 (from_:Int),.int .i64 (to_:Int),.agg ⟨cs⟩] w (afD Γ (dA cU Γ.t Γ.self Γ.shapes x (to_ - from_) from_ W) w):=by
 have b4:=hX;obtain⟨sv,mv,rfl,hs,hm,wa,ws⟩:=hX;obtain⟨SA,sc,rfl,-⟩:=id hs;obtain⟨MA,mc,rfl,-⟩:=id hm;have e6:=hI b4;have e7:=hI EF;have E:=hI K;have b5:=hI c6;have HF:=hI F;have f0:=hI c2;have q:=F.len;obtain⟨w1,A⟩:∃w1,w1=w.alloc (.cells #[.int .i64 x.at_,.int .i64 x.steps,.slice SA x.sets.length sc,.slice MA x.makes.length mc] 32):=⟨_,rfl⟩;have K1:Hid (Below w.heap.size w w1):=by rw[A];exact aA _ _
 have I:Hid (w1.heap[w.heap.size]? = some (.cells #[.int .i64 x.at_,.int .i64 x.steps,.slice SA x.sets.length sc,.slice MA x.makes.length mc] 32 (0,0))):=by rw[A];exact aS _ _
 have f1:=hI A;have L1:=hI (L.below K K1.o);obtain⟨r,hr⟩:∃r,dA cU Γ.t Γ.self Γ.shapes x (to_ - from_) from_ W=r:=⟨_,rfl⟩;rw[hr];have HR:=hI hr;clear A hr hs hm wa ws EF K L c6 b4 F c2;go_enter func130,ntmps130;go_upto_region 1 with fail;rw[<-f1.o];go_wp2_with fail;go_loopw [10] (λkk wr=>∃(i:Nat) (V:aG),kk=.int .i64 i/\i<=to_/\Hid (dA cU Γ.t Γ.self Γ.shapes x (to_ - i) i V=r)/\Hid (∃cv vv vs fs,cC Γ wr V cv vv vs fs)/\Hid (Lim Γ.t R.toNat V)/\Hid (V.steps=W.steps)/\Hid (aQ w1 wr)) (λkk _=>to_ - (RowKit.intOf kk).toNat);case atStart=>exact⟨from_,W,rfl,i5,HR.o,⟨_,_,_,_,L1.o⟩,M,rfl,aQ.refl _⟩
 case round=>
  obtain⟨i,V,rfl,hi,HT,HL,a2,c0,KW⟩:=hrel;obtain⟨l2,l3,l4,l5,L2⟩:=HL.o;have LV:=hI L2;clear L2 HL;by_cases m5:i<to_
  ·have l0:(i:Int)<to_:=(by omega);have J:i < Γ.t.ins.length:=(by omega);obtain⟨y,hy⟩:∃y,Γ.t.ins[i]? = some y:=⟨_,lG J⟩;obtain⟨D,how,z⟩:∃D how,doW cU Γ.t Γ.self Γ.shapes V i=(D,how):=⟨_,_,rfl⟩;have s:bT Γ.t i=y:=(by unfold bT;rw[Int.toNat_natCast,hy];rfl);have DC:=do_c E.o LV.o hy (HF.o.ins i y hy) a2.o q;rw[z] at DC;dsimp only at DC;have d:=ajW cU Γ.self Γ.shapes V i (bT Γ.t i);change (doW cU Γ.t Γ.self Γ.shapes V i).2=0\/(doW cU Γ.t Γ.self Γ.shapes V i).2=1\/(doW cU Γ.t Γ.self Γ.shapes V i).2=2 at d;rw[z] at d;dsimp only at d;have N:=a2.o.do_ cU Γ.self Γ.shapes i;rw[z] at N;have O:=(pK cU Γ.t Γ.self Γ.shapes V i).steps;rw[z] at O;have LD:=hI N;have b6:Hid (D.steps=W.steps):=(by show _=_;rw[show D.steps=V.steps from O];exact c0.o);have f7:=hI DC;have c7:=hI d;have HY:=hI hy;have c8:=hI s;have f9:=hI z;have P:Hid ((if how=2 then(D,0,2) else if how=1 then(match Γ.t.exits[y.exit.toNat]? with | none=>(D,y.exit,2) | some e=>((g8 D e).1,y.exit,(g8 D e).2)) else dA cU Γ.t Γ.self Γ.shapes x (to_ - (i+1)) (i+1) D)=r):=by
    have h:=HT.o
    rw[show to_ - i=(to_ - (i+1))+1 by omega,dA,z,s] at h
    exact h
   clear hy z s N O DC d HT;go_wp2_with fail;refine f7.o.mono ?_;rintro e H ⟨rfl,⟨m1,m2,m3,m4,L3⟩,K3⟩;have G:=hI L3;have S:Hid (aQ w1 H):=KW.o.trans K3;clear L3 K3;rcases c7.o with h | h | h
   ·have u:Hid (dA cU Γ.t Γ.self Γ.shapes x (to_ - (i+1)) (i+1) D=r):=(by have j:=P.o;rw[if_neg (by omega),if_neg (by omega)] at j;exact j);rw[h];clear h;go_wp2_with fail;go_roundw;case rel=>exact⟨i+1,D,by go_num,by omega,u.o,⟨_,_,_,_,G.o⟩,LD.o,b6.o,S.o⟩
    case measure=>simp[RowKit.intOf];omega
   ·have X:=aaR cU f0.o Γ.self Γ.shapes V J (by rw[f9.o];exact h);rw[c8.o] at X;obtain⟨n,hn⟩:∃n:Nat,y.exit=(n:Int):=⟨y.exit.toNat,by omega⟩;have g0:n < Γ.t.exits.length:=(by omega);obtain⟨e,he⟩:∃e,Γ.t.exits[n]? = some e:=⟨_,lG g0⟩;have g1:=hI (HF.o.exits i y e HY.o X.1 (by rw[hn,Int.toNat_natCast];exact he));have u:Hid (((g8 D e).1,(n:Int),(g8 D e).2)=r):=(by have j:=P.o;rw[if_neg (by omega),if_pos h,hn,Int.toNat_natCast,he] at j;exact j);obtain⟨b,g7,k2,c3,hc,-⟩:=G.o.insAt E.o HY.o;have c5:H.cell? ⟨b,g7+i*8+5,none⟩=some (.int .i64 n):=(by rw[<-hn];exact hc 5 _ rfl);obtain⟨eb,g,k4,h1,c4,-,l,c1,h3⟩:=G.o.exitAt E.o he;have Y:fM Γ.w1 Γ.B0 h1 e:=c1.keep (Nat.le_refl _) (λp hp=>(G.o.held p (E.o.q0 _ hp)).symm);have EC:=hI (end_c E.o G.o Y g1.o (Nat.le_of_lt J) LD.o q (by rw[b6.o];exact b5.o));obtain⟨l9,m0,rfl,⟨EA,h4,rfl,-⟩,⟨EM,h5,rfl,-⟩,-⟩:=Y;have e0:H.cell? ⟨eb,g+n*4,none⟩=some (.int .i64 e.at_):=l 0 _ rfl;have e1:H.cell? ⟨eb,g+n*4+1,none⟩=some (.int .i64 e.steps):=l 1 _ rfl;have e2:H.cell? ⟨eb,g+n*4+2,none⟩=some (.slice EA e.sets.length h4):=l 2 _ rfl;have e3:H.cell? ⟨eb,g+n*4+3,none⟩=some (.slice EM e.makes.length h5):=l 3 _ rfl;have g2:(n:Int) < Γ.t.exits.length:=(by omega);have j4:(i:Int) < Γ.t.ins.length:=(by omega);rw[h];clear h X hn he hc l c1 h3;go_wp2_with fail;refine EC.o.mono ?_;rintro e' w4 ⟨rfl,⟨h8,h9,i0,i1,L4⟩,K4⟩;have Z:=hI L4;have a0:=hI K4;clear L4 K4 c3 c4 c5 e0 e1 e2 e3;go_wp2_with fail;refine bodyPost_ret (v:=.tuple #[.int .i64 n,.int .i64 (g8 D e).2]) (by simp[results,results130,go_sem]) rfl ?_;have hN:=u.o;subst hN;exact⟨rfl,⟨_,_,_,_,Z.o⟩,(aQ.of K1.o).trans (S.o.trans a0.o)⟩
   ·have u:Hid ((D,(0:Int),(2:Int))=r):=(by have j:=P.o;rw[if_pos h] at j;exact j);rw[h];clear h;go_wp2_with fail;refine bodyPost_ret (v:=.tuple #[.int .i64 0,.int .i64 2]) (by simp[results,results130,go_sem]) rfl ?_;have hN:=u.o;subst hN;exact⟨rfl,⟨_,_,_,_,G.o⟩,(aQ.of K1.o).trans S.o⟩
  ·obtain rfl:i=to_:=by omega
   have g2:¬(i:Int)<i:=(by omega);have u:Hid (((g8 V x).1,(-1:Int),(g8 V x).2)=r):=(by have h:=HT.o;rw[Nat.sub_self,dA] at h;exact h);have f:Hid (wr.heap[w.heap.size]? = some (.cells #[.int .i64 x.at_,.int .i64 x.steps,.slice SA x.sets.length sc,.slice MA x.makes.length mc] 32 (0,0))):=(KW.o.block _ _ _ _ I.o (by decide) (by decide) (by decide) (by decide)).trans I.o;have e0:=crZ f 0 rfl;have e1:=crZ f 1 rfl;have e2:=crZ f 2 rfl;have e3:=crZ f 3 rfl;have EC:=hI (end_c E.o LV.o e6.o e7.o i6 a2.o q (by rw[c0.o];exact b5.o));clear HT;go_wp2_with fail;refine EC.o.mono ?_;rintro e' w4 ⟨rfl,⟨h8,h9,i0,i1,L4⟩,K4⟩;have Z:=hI L4;have a0:=hI K4;clear L4 K4 e0 e1 e2 e3;go_wp2_with fail;refine bodyPost_ret (v:=.tuple #[.int .i64 (-1),.int .i64 (g8 V x).2]) (by simp[results,results130,go_sem]) rfl ?_;have hN:=u.o;subst hN;exact⟨rfl,⟨_,_,_,_,Z.o⟩,(aQ.of K1.o).trans (KW.o.trans a0.o)⟩
end
end
end Go.Proofs.YtijihlcdhppfgaaGreatDoor
