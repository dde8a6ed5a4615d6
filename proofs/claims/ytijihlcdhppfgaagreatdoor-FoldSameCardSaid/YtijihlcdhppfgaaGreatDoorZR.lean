/- A part of the walk. -/
import Derived.Test.YtijihlcdhppfgaaGreatDoorZQ
set_option maxHeartbeats 16000000
set_option maxRecDepth 100000
set_option linter.all false
namespace Go.Proofs.YtijihlcdhppfgaaGreatDoor
open Tryz
section
open Go.RowKit Go.Maps Go.WideMaps
theorem akZ {w:World} {g:Nat} {cs:List Value} {t:TypeId} (h:w.heap[g]? = some (.cells ⟨cs⟩ t (0,0))):aJ w g cs:=λi v d=>by
 rw[cell_of_row w g i _ _ _ h];simpa using d
theorem ah9 (X cs:List Value) (p:aZ) (S:aP) (w:World) (hp:fL w w.heap.size X p) (h:eB w w.heap.size cs S) (ht:Tab w):Calls prog 36 #[.agg ⟨X⟩,.agg ⟨cs⟩] w (aK (.int .i64 (eN aF p S dI (bH p))) w):=by
 obtain⟨r,j⟩:∃r,eN aF p S dI (bH p)=r:=⟨_,rfl⟩;rw[j];unfold eN at j;obtain⟨w0,R⟩:∃w0,w0=(w.alloc (.cells ⟨X⟩ 26)).alloc (.cells ⟨cs⟩ 40):=⟨_,rfl⟩;have TB:=nR w X cs 26 40;rw[<-R] at TB;obtain⟨t1,H,t3⟩:=TB;have Y:=hI t1;have E:=hI H;have Z:=hI t3;have hz:w.heap.size+1<w0.heap.size:=by rw[R];simp
 have a1:=hI (hp.below Z.o);have d8:Hid (kI w0 (w.heap.size+1) S):=⟨cs,H,hz,h.below Z.o⟩;have h8:=hI (h.below Z.o);have T0:=hI (ht.below Z.o);obtain⟨A1,n1,A2,n2,A3,n3,rfl,-⟩:=id hp;obtain⟨Ac,nc,As,ns,At,nt,Ah,nh,Ae,ne,Aa,na,D,-,-,-,-,s3,-⟩:=d8.o.parts;have S3:=hI s3;have l3:=aM s3;have i6:cs=[.slice Ac S.cells.length nc,.slice As S.shapes.length ns,.slice At S.texts.length nt,.slice Ah S.threads.length nh,.slice Ae S.ends.length ne,.slice Aa S.said.length na,.int .i64 S.asked,.int .i64 S.steps]:=by obtain⟨c,s,t,g,e,a,rfl,-⟩:=h;have i0:=(H 0 _ rfl).symm.trans (D 0 _ rfl);have i1:=(H 1 _ rfl).symm.trans (D 1 _ rfl);have i2:=(H 2 _ rfl).symm.trans (D 2 _ rfl);have i3:=(H 3 _ rfl).symm.trans (D 3 _ rfl);have i4:=(H 4 _ rfl).symm.trans (D 4 _ rfl);have i5:=(H 5 _ rfl).symm.trans (D 5 _ rfl);simp only[Option.some.injEq] at i0 i1 i2 i3 i4 i5;rw[i0,i1,i2,i3,i4,i5]
 have e0:wfi S.asked/\wfi S.steps:=by obtain⟨_,_,_,_,_,_,-,-,-,-,-,-,-,a,b⟩:=h;exact⟨a,b⟩
 subst i6;have HW:=hI R;have C1:=hI (uU _ p w0 a1.o T0.o);obtain⟨q1,a9⟩:∃q,bH p=q:=⟨_,rfl⟩;rw[a9] at C1 j;have e1:=hI a9;clear R hp h ht t1 H t3 D s3 a9;by_cases h1:q1=0;case neg=>rw[if_pos h1] at j;have y:=hI j;have k6:(q1 == 0)=false:=bF h1;have k8:(q1 != 0)=true:=bne_iff_ne.2 h1;clear j;go_enter func36,ntmps36;go_wp2_with fail;rw[<-HW.o];refine C1.o.mono ?_;rintro e w1 ⟨rfl,l⟩;have K:=btZ Z l;clear l;go_wp2_with fail;go_ret;exact⟨by rw[<-y.o];rfl,K.o⟩
 subst h1;rw[if_neg (by simp)] at j;have C2:Hid (∀W,Below w0.heap.size w0 W->Calls prog 70 #[.agg ⟨[.slice Ac S.cells.length nc,.slice As S.shapes.length ns,.slice At S.texts.length nt,.slice Ah S.threads.length nh,.slice Ae S.ends.length ne,.slice Aa S.said.length na,.int .i64 S.asked,.int .i64 S.steps]⟩] W (aK (.int .i64 (dN aF S dI)) W)):=λW k=>akB _ S W (h8.o.below k) (T0.o.below k);obtain⟨q2,b0⟩:∃q,dN aF S dI=q:=⟨_,rfl⟩;rw[b0] at C2 j;have l0:=hI b0;clear b0;go_enter func36,ntmps36;go_wp2_with fail;rw[<-HW.o];refine C1.o.mono ?_;rintro e w1 ⟨rfl,l⟩;have e2:=hI l;have K1:=btZ Z l;have d0:=(E.o.on l) 0 _ rfl;have d1:=(E.o.on l) 1 _ rfl;have d2:=(E.o.on l) 2 _ rfl;have d3:=(E.o.on l) 3 _ rfl;have d4:=(E.o.on l) 4 _ rfl;have d5:=(E.o.on l) 5 _ rfl;have d6:=(E.o.on l) 6 _ rfl;have d7:=(E.o.on l) 7 _ rfl;clear l;go_wp2_with fail;refine(C2.o w1 e2.o).mono ?_;rintro e w2 ⟨rfl,k2⟩;have a2:=btZ e2 k2;have K2:=btZ K1 k2;clear k2 d0 d1 d2 d3 d4 d5 d6 d7;by_cases I:q2=0;case neg=>rw[if_pos I] at j;have y:=hI j;have k6:(q2 == 0)=false:=bF I;have k8:(q2 != 0)=true:=bne_iff_ne.2 I;clear j;go_wp2_with fail;go_ret;exact⟨by rw[<-y.o];rfl,K2.o⟩
 subst I;rw[if_neg (by simp)] at j;have d3:=(E.o.on a2.o) 3 _ rfl;by_cases h5:5<S.threads.length
 ·rw[if_pos (.inl h5)] at j;have y:=hI j;have l2:(5:Int)<S.threads.length:=by omega
  clear j h5;go_wp2_with fail;go_ret;exact⟨by rw[<-y.o];rfl,K2.o⟩
 have l2:decide ((5:Int)<S.threads.length)=false:=by simp;omega
 have C3:=hI (tV (eM w0 w0.heap.size) (λh=>decide (30<h.frames.length)) Ah nh S.threads 72 afW #[] w2 (S3.o.below a2.o) (λd k3 x cs hx hR=>afZ cs x _ _ d hR));obtain⟨q3,b2⟩:∃q,S.threads.any (λh=>decide (30<h.frames.length))=q:=⟨_,rfl⟩;rw[b2] at C3 j;have l5:=hI b2;clear b2;go_wp2_with fail;refine C3.o.mono ?_;rintro e d ⟨rfl,k3⟩;have f:=btZ a2 k3;have K3:=btZ K2 k3;clear k3 d3;cases q3
 case true=>
  have y:Hid ((2:Int)=r):=by rw[<-j];exact(if_pos (.inr rfl)).symm
  clear j;go_wp2_with fail;go_ret;exact⟨by rw[<-y.o];rfl,K3.o⟩
 have y:Hid ((if pC aF p S then(0:Int) else 3)=r):=by
  show _=_;rw[<-j];refine(if_neg ?_).symm;rintro (h | h);·exact h5 h
  ·cases h
 obtain⟨o9,p0⟩:=kM e1.o;have l9:S.threads.length<=5:=by omega
 have e3:∀h∈S.threads,h.frames.length<=30:=λh hm=>by have:=List.any_eq_false.1 l5.o h hm;simp at this;exact this
 have e4:∀c∈S.cells,mN aF S c=true:=λc hc=>by
  have h:=l0.o;unfold dN at h;split at h;·cases h
  ·split at h;·rename_i a b;first | exact absurd h b | exact absurd h a
   ·split at h;·cases h
    ·rename_i D;simp only[Bool.or_eq_true,not_or,Bool.not_eq_true] at D;have:=List.any_eq_false.1 D.2 c hc;simpa using this
 have m0:=hI e3;have m1:=hI e4;have g0:=(Y.o.on f.o) 0 _ rfl;have g1:=(Y.o.on f.o) 1 _ rfl;have g2:=(Y.o.on f.o) 2 _ rfl;have v2:=@run_makeMap prog;have v3:w.heap.size<d.heap.size:=by have:=f.o.size;omega
 clear j p0 e3 e4 h5;obtain⟨J,L⟩:∃J,J=(d.alloc (.map #[] 0)).alloc (.cells #[.slice A1 p.fns.length n1,.slice A2 p.consts.length n2,.slice A3 p.texts.length n3,.pointer (some ⟨w.heap.size+1,0,none⟩),.slice none 0 0,.slice none 0 0,.map (some d.heap.size)] 159):=⟨_,rfl⟩;have z:Hid (Below d.heap.size d J):=by rw[L];exact bV _ _ _
 have a3:Hid (J.heap[d.heap.size+1]? = some (.cells #[.slice A1 p.fns.length n1,.slice A2 p.consts.length n2,.slice A3 p.texts.length n3,.pointer (some ⟨w.heap.size+1,0,none⟩),.slice none 0 0,.slice none 0 0,.map (some d.heap.size)] 159 (0,0))):=by rw[L];exact iZ _ _ _
 have G4:Hid (oM J d.heap.size []):=by rw[L];exact(World.ownsMap_made _ _ _ _).alloc _
 have m2:=hI L;have K4:=btZ K3 z.o;have CA:=hI (ag6 _ p J (a1.o.below (f.o.trans (z.o.mono f.o.size))) e1.o);have m3:d.heap.size+1<J.heap.size:=(aE a3.o).1;have r7:w.heap.size<J.heap.size:=by omega
 clear L;go_upto_region 10 with fail;rw[<-m2.o];clear g0 g1 g2;have g0:=((Y.o.on f.o).on z.o) 0 _ rfl;have g1:=((Y.o.on f.o).on z.o) 1 _ rfl;have g2:=((Y.o.on f.o).on z.o) 2 _ rfl;go_wp2_with fail;refine CA.o.mono ?_;rintro e w5 ⟨tv,yv,rfl,b4,b5,V,k5⟩;have u:Hid (w5.heap[d.heap.size+1]? = some (.cells #[.slice A1 p.fns.length n1,.slice A2 p.consts.length n2,.slice A3 p.texts.length n3,.pointer (some ⟨w.heap.size+1,0,none⟩),.slice none 0 0,.slice none 0 0,.map (some d.heap.size)] 159 (0,0))):=(k5.block _ m3).trans a3.o;have m4:=hI b4;have m5:=hI b5;have m6:=hI V;have K5:=btZ K4 k5;have G5:=hI (G4.o.below k5);obtain⟨ZT,zt,e7,-⟩:=id b4;obtain⟨YT,yt,e9,-⟩:=id b5;rw[List.length_map] at e7 e9;subst e7;subst e9;have e5:=hI ((f.o.trans (z.o.mono f.o.size)).trans (k5.mono (by have:=z.o.size;have:=f.o.size;omega)));clear b4 b5 V k5 g0 g1 g2;have s4:=crZ u 4 rfl;have s5:=crZ u 5 rfl;have z4:=fzZ u 4;have z5:=fzZ u 5;go_upto_region 11 with fail;generalize A:World.setCell _ _ _=w6;have G:Hid (∀k,k≠d.heap.size+1->w6.heap[k]? = w5.heap[k]?):=λk O=>by rw[<-A,heap_setCell_other _ _ _ _ O,heap_setCell_other _ _ _ _ O]
 have a5:w6.heap.size=w5.heap.size:=by rw[<-A];simp[World.setCell]
 have a6:Hid (w6.heap[d.heap.size+1]? = some (.cells #[.slice A1 p.fns.length n1,.slice A2 p.consts.length n2,.slice A3 p.texts.length n3,.pointer (some ⟨w.heap.size+1,0,none⟩),.slice ZT p.fns.length zt,.slice YT p.fns.length yt,.map (some d.heap.size)] 159 (0,0))):=by rw[<-A,heap_setCell_same _ _ _ _ _ _ (heap_setCell_same _ _ _ _ _ _ u.o)];rfl
 have e6:Hid (Below w.heap.size w w6):=by
  refine⟨?_,?_,?_,by have:=K5.o.size;omega,λk O=>(G.o k (by omega)).trans (K5.o.block k O)⟩;·rw[<-A];exact K5.o.os
  ·rw[<-A];exact K5.o.tape
  ·rw[<-A];exact K5.o.output
 have g4:Hid (∀k,k<w0.heap.size->w6.heap[k]? = w0.heap[k]?):=λk O=>(G.o k (by have:=f.o.size;omega)).trans (e5.o.block k O);have M:Hid (∀q:Addr,q.block<w0.heap.size->w6.cell? q=w0.cell? q):=λq P=>World.cell?_of_block (g4.o q.block P);have N:w0.heap.size<=w6.heap.size:=by have:=e5.o.size;omega
 have KQ:Hid (∀q:Addr,iR w5 q.block->w6.cell? q=w5.cell? q):=λq P=>World.cell?_of_block (G.o q.block (λe=>by obtain⟨cs,t,fr,h1,I⟩:=P;rw[e,u.o] at h1;injection h1 with h1;injection h1 with _ h1 _;exact I h1.symm));have m8:Hid (kY w6 (d.heap.size+1) p S (w.heap.size+1) d.heap.size (.slice ZT p.fns.length zt) (.slice YT p.fns.length yt)):=by
  refine⟨⟨⟨_,_,_,akZ a6.o,a1.o.keep N (λq P=>M.o q P)⟩,(aE a6.o).1,?_⟩,m4.o.toR (λb hb=>?_) KQ.o,m5.o.toR (λb hb=>?_) KQ.o⟩;·obtain⟨cs,h1,I,h3⟩:=d8.o;exact⟨cs,λi v hv=>(M.o _ I).trans (h1 i v hv),Nat.lt_of_lt_of_le I N,h3.keep N (λq P=>M.o q P)⟩
  ·obtain⟨cs,t,fr,h1,-⟩:=hb;rw[a5];exact(aE h1).1
  ·obtain⟨cs,t,fr,h1,-⟩:=hb;rw[a5];exact(aE h1).1
 have G6:Hid (oM w6 d.heap.size []):=by obtain⟨es,c7,hb,F,hs,hD⟩:=G5.o;exact⟨es,c7,(G.o _ (by omega)).trans hb,F,hs,hD⟩
 have CR:=hI (right_m p S (d.heap.size+1) (w.heap.size+1) d.heap.size _ _ w6 m8.o G6.o m6.o o9 m1.o l9 m0.o e0.2 e0.1);obtain⟨q4,f0⟩:∃q,pC aF p S=q:=⟨_,rfl⟩;rw[f0] at CR y;clear A s4 s5 z4 z5 f0;(try dsimp only [Act.put]);go_wp2_with fail;refine CR.o.mono ?_;rintro e w7 ⟨rfl,k7⟩;have K7:Hid (Below w.heap.size w w7):=e6.o.trans ⟨k7.os,k7.tape,k7.output,k7.size,λk O=>k7.block k (by have:=e6.o.size;omega) (by have:=K3.o.size;omega)⟩;clear k7;cases q4;case false=>have a7:Hid ((3:Int)=r):=y.o;go_wp2_with fail;go_ret;exact⟨by rw[<-a7.o];rfl,K7.o⟩
 have a7:Hid ((0:Int)=r):=y.o;go_wp2_with fail;go_ret;exact⟨by rw[<-a7.o];rfl,K7.o⟩
end
section
theorem aeJ {n:Nat} {code:List hP} (d:kN code):∀(f:Nat) (s:cW),WOk n s->WOk n (rE code f s)
 | 0,s,h=>h
 | f+1,s,h=>by
  unfold rE
  split
  ·rename_i c
   refine aeJ d f _ (h.pop.from_ d ?_)
   cases hl:s.todo.getLast? with
   | none=>exact Int.le_refl _
   | some t=>exact(h.todo t (List.mem_of_getLast? hl)).1
  ·exact h
theorem afL {code:List hP} (d:kN code):WOk code.length (dY code):=aeJ d _ _ (s7 _)
structure aa2 (f:bC):Prop where
 regs:f.regs.length<=60
 tries:f.tries.length<=20
structure ad5 (S:aP):Prop where
 cells:S.cells.length<=300
 shapes:S.shapes.length<=100
 texts:S.texts.length<=300
 threads:S.threads.length<=5
 ends:S.ends.length<=100
 said:S.said.length<=200
 vals:∀c∈S.cells,c.vals.length<=600
 cframes:∀c∈S.cells,c.frames.length<=1/\∀f∈c.frames,aa2 f
 tframes:∀h∈S.threads,h.frames.length<=30/\∀f∈h.frames,aa2 f
theorem qS {p:aZ} {S:aP} {f:bC} (h:eC aF p S f=true) (hp:∀g∈p.fns,g.regs<=60) (hj:∀g∈p.fns,kN g.code):aa2 f:=by
 obtain⟨⟨k,hk,hkl⟩,-,hr⟩:=qT h
 have hg:p.fns[k]? = some p.fns[k]:=lG hkl
 have hfa:i8 p f.fn=p.fns[k]:=by unfold i8;rw[hk,Int.toNat_natCast,hg];rfl
 have hm:p.fns[k]∈p.fns:=List.getElem_mem hkl
 refine⟨by rw[hfa] at hr;have:=hp _ hm;omega,?_⟩
 unfold eC at h
 simp only[Bool.and_eq_true] at h
 have ht:=of_decide_eq_true h.1.2
 rw[hfa,List.getD_eq_getElem?_getD] at ht
 cases hq:(dY p.fns[k].code).out[f.at_.toNat]? with
 | none=>rw[hq] at ht;rw[ht];simp
 | some l=>
  rw[hq] at ht
  rw[ht]
  exact(afL (hj _ hm)).few l (lM hq)
theorem qP {R:Val->Bool} {p:aZ} {S:aP} : ∀(s:List bC) (low:Option Int) (gens q:List Int),cX R p S low gens s=some q->∀f∈s,eC R p S f=true
 | [],_,_,_,_,f,hf=>by cases hf
 | g::r,low,gens,q,h,f,hf=>by
  unfold cX at h
  dsimp only at h
  split at h
  ·cases h
  ·rename_i c
   simp only[Bool.or_eq_true,not_or,Bool.not_eq_true,Bool.not_eq_true'] at c
   have u:eC R p S g=true:=by simpa using c.1.1.1
   have l:∀j d,cX R p S j d r=some q->eC R p S f=true:=λj d v=>by
    rcases List.mem_cons.1 hf with rfl | hf
    ·exact u
    ·exact qP r j d q v f hf
   split at h
   ·exact l _ _ h
   ·split at h
    ·cases h
    ·split at h
     ·cases h
     ·exact l _ _ h
theorem kZ {R:Val->Bool} {p:aZ} {S:aP} : ∀(d:List cD) (gens j:List Int),dK R p S gens d=some j->∀h∈d,∀f∈h.frames,eC R p S f=true
 | [],_,_,_,h,hh,_,_=>by cases hh
 | t::r,gens,j,e,h,hh,f,hf=>by
  cases ht:gJ R p S gens t with
  | none=>rw[qO ht] at e;cases e
  | some g=>
   rw[qN ht] at e
   rcases List.mem_cons.1 hh with rfl | hh
   ·unfold gJ at ht
    dsimp only at ht
    split at ht
    ·cases ht
    ·split at ht
     ·cases ht
     ·split at ht
      ·cases ht
      ·split at ht
       ·cases ht
       ·exact qP _ _ _ _ ht f hf
   ·exact kZ r g j e h hh f hf
theorem afQ {p:aZ} {S:aP} {W:List ByteArray} (h:eN aF p S W (bH p)=0) (hj:∀g∈p.fns,kN g.code):ad5 S:=by
 unfold eN at h;split at h;·exact absurd h (by assumption)
 rename_i c0;have hcc:bH p=0:=by
  rcases Int.lt_trichotomy (bH p) 0 with h | h | h;·exact absurd (by omega:bH p≠0) c0
  ·exact h
  ·exact absurd (by omega:bH p≠0) c0
 obtain⟨-,hfs⟩:=kM hcc;have hregs:∀g∈p.fns,g.regs<=60:=λg hg=>(hfs g hg).2.2;split at h;·exact absurd h (by assumption)
 rename_i c1;split at h;·exact absurd h (by decide)
 rename_i c2;split at h;case isFalse=>exact absurd h (by decide)
 rename_i c3;have hcc1:dN aF S W=0:=by
  rcases Int.lt_trichotomy (dN aF S W) 0 with h | h | h;·exact absurd (by omega:dN aF S W≠0) c1
  ·exact h
  ·exact absurd (by omega:dN aF S W≠0) c1
 unfold dN at hcc1;split at hcc1;·cases hcc1
 rename_i c4;split at hcc1;·rename_i a;exact absurd hcc1 a
 rename_i c5;split at hcc1;·cases hcc1
 rename_i c6;obtain⟨l1,l2,l3,l4,l5⟩:=zD (by simpa using c4);have hsh:cG S.shapes=0:=by
  rcases Int.lt_trichotomy (cG S.shapes) 0 with h | h | h;·exact absurd (by omega:cG S.shapes≠0) c5
  ·exact h
  ·exact absurd (by omega:cG S.shapes≠0) c5
 have hcm:∀c∈S.cells,mN aF S c=true:=λc hc=>by simp only[Bool.or_eq_true,not_or,Bool.not_eq_true] at c6;have:=List.any_eq_false.1 c6.2 c hc;simpa using this
 unfold pC at c3;split at c3;·cases c3
 split at c3;·cases c3
 rename_i c7;have hheap:∀c∈S.cells,oP aF p S c=true:=λc hc=>by
  have h7:S.cells.any (λc=>!oP aF p S c)=false:=by simpa using c7
  have:=List.any_eq_false.1 h7 c hc;simpa using this
 cases ht:dK aF p S [] S.threads with
 | none=>rw[ht] at c3;cases c3
 | some gs=>
  refine⟨l2,(oZ hsh).2.1,l1,by omega,l4,l3,l5,λc hc=>?_,λth hth=>⟨?_,λf hf=>qS (kZ _ _ _ ht th hth f hf) hregs hj⟩⟩
  ·have h1:=hcm c hc
   have h2:=hheap c hc
   rw[mM] at h1
   cases hq:dW S c with
   | none=>rw[hq] at h1;cases h1
   | some x=>
    obtain⟨a,b,n⟩:=x
    rw[hq] at h1
    simp only[Bool.and_eq_true] at h1
    have hlen:(c.frames.length:Int)=n:=beq_iff_eq.1 h1.1.1.2
    by_cases k5:c.kind=5
    ·by_cases n0:c.num=0
     ·have hn:n=1:=by
       unfold dW at hq
       simp only[k5,n0,if_pos] at hq
       simp at hq
       exact hq.2.2.symm
      refine⟨by omega,λf hf=>?_⟩
      unfold oP at h2
      rw[if_neg (by omega),if_pos k5,n0] at h2
      cases hfr:c.frames with
      | nil=>rw[hfr] at hf;cases hf
      | cons f0 r=>
       rw[hfr] at h2 hf hlen
       have hr:r=[]:=by
        rw[hn,List.length_cons] at hlen
        exact List.length_eq_zero_iff.1 (by omega)
       subst hr
       obtain rfl:f=f0:=by simpa using hf
       have h3:rD aF p S f=true:=h2
       unfold rD at h3
       simp only[Bool.and_eq_true] at h3
       exact qS h3.1.1.1.1 hregs hj
     ·have hn:n=0:=by
       unfold dW at hq
       simp only[k5,if_neg n0] at hq
       simp at hq
       exact hq.2.2.symm
      have:c.frames=[]:=List.length_eq_zero_iff.1 (by omega)
      rw[this]
      exact⟨by simp,λf hf=>by cases hf⟩
    ·have hn:n=0:=by
      unfold dW at hq
      simp only[if_neg k5] at hq
      repeat (split at hq;· simp at hq;exact hq.2.2.symm)
      cases hq
     have:c.frames=[]:=List.length_eq_zero_iff.1 (by omega)
     rw[this]
     exact⟨by simp,λf hf=>by cases hf⟩
  ·have h8:¬(S.threads.any λh=>decide (30<h.frames.length))=true:=λhh=>c2 (.inr hh)
   have h9:(S.threads.any λh=>decide (30<h.frames.length))=false:=by simpa using h8
   have:=List.any_eq_false.1 h9 th hth
   simp at this
   exact this
end
section
open Go.RowKit
theorem oF:(prog.info? 51).map (λi=>(i.zero.map (·.cells.size),i.size,i.bytes))=some (some 2,2,16):=by kernel_rfl
theorem ag7 (v:Value) (rows:List (List Value)) (w:World) (s:aB w w.heap.size 2 (Raw 2) v rows) (h1:∀r∈rows,∀u∈r,u.oneCell'=true) (G:rows.length*16<=140737488355328) : Calls prog 121 #[v] w λe w'=>∃u,e=.returned u/\w'.ownsRow w.heap.size 51 2 u rows.length (rows.flatMap id)/\Below w.heap.size w w':=by
 have d:∀x∈rows,x.length=2:=λx hx=>by obtain⟨cs,_,h⟩:=s.mem hx;exact h
 obtain⟨A,p,rfl,a4,a5,l⟩:=id s;cases A with
 | none=>
  have e:rows=[]:=by
   rcases Nat.eq_zero_or_pos rows.length with h | h
   ·exact List.length_eq_zero_iff.1 h
   ·obtain⟨b,K,h,_⟩:=l h;cases h
  subst e
  have O:∀W,(binOp .eql 23 (.slice none 0 p) (.slice none 0 0)).run prog W=.ok (.bool true) W:=λW=>Lib.run_eql_slice_nil W _ _ _ _ _ _ _ underlying23
  clear l s d h1
  simp only[List.length_nil] at *
  go_enter func121,ntmps121
  go_wp2_with fail
  go_ret
  exact⟨_,rfl,World.ownsRow_nil _ _ _ _,Below.refl _ _⟩
 | some ad=>
  have O:∀W,(binOp .eql 23 (.slice (some ad) rows.length p) (.slice none 0 0)).run prog W=.ok (.bool false) W:=λW=>Lib.run_eql_slice_nil W _ _ _ _ _ _ _ underlying23
  have g:∀j u,(rows.flatMap id)[j]? = some u->w.cell? (ad.add j)=some u:=by
   rcases Nat.eq_zero_or_pos rows.length with h | h
   ·have e:rows=[]:=List.length_eq_zero_iff.1 h
    subst e;simp
   ·obtain⟨b,K,h,_⟩:=l h
    injection h with h
    subst h
    exact fE (by decide) d (λcs x h=>h.1) s
  obtain⟨i0,hi,L⟩:=Option.map_eq_some_iff.1 oF
  simp only[Prod.mk.injEq] at L
  obtain⟨M,y,D⟩:=L
  obtain⟨z,E,F⟩:=Option.map_eq_some_iff.1 M
  have P:=hI g
  have R:=hI hi
  have S:=hI E
  have H:=hI y
  have I:=hI D
  have J:=hI F
  have hl:rows.length<=maxLen:=by unfold maxLen;omega
  have V:=hI hl
  have HR:=hI d
  have X:=hI (jM (f:=id) rows h1)
  have Y:=hI (jA (f:=id) rows d)
  clear g hi E y D F M hl d h1 s l
  go_enter func121,ntmps121
  go_wp2_with (at_builtin;refine wpList_append_own _ rfl _ _ 23 rfl w.heap.size 51 i0 z 2 16 underlying23 R.o S.o H.o I.o J.o (by decide) (.slice (some ⟨w.heap.size,0,none⟩) 0 0) 0 [] rfl (jL _ _ _) ad rows.length p (rows.flatMap id) rfl Y.o (λj u hj=>kL (P.o j u hj) _) X.o (by rw[Nat.zero_add];exact V.o) (by rw[Nat.zero_add];exact G) (by simp) ?_)
  intro v' w6 q N _
  have Z:=hI N
  have KO:=hI q
  clear N q
  go_wp2_with fail
  go_ret
  refine⟨_,rfl,by simpa using KO.o,Below.grown (aA w _) Z.o (by simp) (by simp[Value.ownBlock])⟩
theorem adH:(prog.info? 145).map (λi=>(i.zero.map (·.cells.size),i.size,i.bytes))=some (some 8,8,96):=by kernel_rfl
theorem ahB (v:Value) (rows:List (List Value)) (w:World) (s:aB w w.heap.size 8 (Raw 8) v rows) (h1:∀r∈rows,∀u∈r,u.oneCell'=true) (G:rows.length*96<=140737488355328) : Calls prog 123 #[v] w λe w'=>∃u,e=.returned u/\w'.ownsRow w.heap.size 145 8 u rows.length (rows.flatMap id)/\Below w.heap.size w w':=by
 have d:∀x∈rows,x.length=8:=λx hx=>by obtain⟨cs,_,h⟩:=s.mem hx;exact h
 obtain⟨A,p,rfl,a4,a5,l⟩:=id s;cases A with
 | none=>
  have e:rows=[]:=by
   rcases Nat.eq_zero_or_pos rows.length with h | h
   ·exact List.length_eq_zero_iff.1 h
   ·obtain⟨b,K,h,_⟩:=l h;cases h
  subst e
  have O:∀W,(binOp .eql 138 (.slice none 0 p) (.slice none 0 0)).run prog W=.ok (.bool true) W:=λW=>Lib.run_eql_slice_nil W _ _ _ _ _ _ _ underlying138
  clear l s d h1
  simp only[List.length_nil] at *
  go_enter func123,ntmps123
  go_wp2_with fail
  go_ret
  exact⟨_,rfl,World.ownsRow_nil _ _ _ _,Below.refl _ _⟩
 | some ad=>
  have O:∀W,(binOp .eql 138 (.slice (some ad) rows.length p) (.slice none 0 0)).run prog W=.ok (.bool false) W:=λW=>Lib.run_eql_slice_nil W _ _ _ _ _ _ _ underlying138
  have g:∀j u,(rows.flatMap id)[j]? = some u->w.cell? (ad.add j)=some u:=by
   rcases Nat.eq_zero_or_pos rows.length with h | h
   ·have e:rows=[]:=List.length_eq_zero_iff.1 h
    subst e;simp
   ·obtain⟨b,K,h,_⟩:=l h
    injection h with h
    subst h
    exact fE (by decide) d (λcs x h=>h.1) s
  obtain⟨i0,hi,L⟩:=Option.map_eq_some_iff.1 adH
  simp only[Prod.mk.injEq] at L
  obtain⟨M,y,D⟩:=L
  obtain⟨z,E,F⟩:=Option.map_eq_some_iff.1 M
  have P:=hI g
  have R:=hI hi
  have S:=hI E
  have H:=hI y
  have I:=hI D
  have J:=hI F
  have hl:rows.length<=maxLen:=by unfold maxLen;omega
  have V:=hI hl
  have HR:=hI d
  have X:=hI (jM (f:=id) rows h1)
  have Y:=hI (jA (f:=id) rows d)
  clear g hi E y D F M hl d h1 s l
  go_enter func123,ntmps123
  go_wp2_with (at_builtin;refine wpList_append_own _ rfl _ _ 138 rfl w.heap.size 145 i0 z 8 96 underlying138 R.o S.o H.o I.o J.o (by decide) (.slice (some ⟨w.heap.size,0,none⟩) 0 0) 0 [] rfl (jL _ _ _) ad rows.length p (rows.flatMap id) rfl Y.o (λj u hj=>kL (P.o j u hj) _) X.o (by rw[Nat.zero_add];exact V.o) (by rw[Nat.zero_add];exact G) (by simp) ?_)
  intro v' w6 q N _
  have Z:=hI N
  have KO:=hI q
  clear N q
  go_wp2_with fail
  go_ret
  refine⟨_,rfl,by simpa using KO.o,Below.grown (aA w _) Z.o (by simp) (by simp[Value.ownBlock])⟩
theorem wN:(prog.info? 166).map (λi=>(i.zero.map (·.cells.size),i.size,i.bytes))=some (some 4,4,64):=by kernel_rfl
theorem ahC (v:Value) (rows:List (List Value)) (w:World) (s:aB w w.heap.size 4 (Raw 4) v rows) (h1:∀r∈rows,∀u∈r,u.oneCell'=true) (G:rows.length*64<=140737488355328) : Calls prog 125 #[v] w λe w'=>∃u,e=.returned u/\w'.ownsRow w.heap.size 166 4 u rows.length (rows.flatMap id)/\Below w.heap.size w w':=by
 have d:∀x∈rows,x.length=4:=λx hx=>by obtain⟨cs,_,h⟩:=s.mem hx;exact h
 obtain⟨A,p,rfl,a4,a5,l⟩:=id s;cases A with
 | none=>
  have e:rows=[]:=by
   rcases Nat.eq_zero_or_pos rows.length with h | h
   ·exact List.length_eq_zero_iff.1 h
   ·obtain⟨b,K,h,_⟩:=l h;cases h
  subst e
  have O:∀W,(binOp .eql 35 (.slice none 0 p) (.slice none 0 0)).run prog W=.ok (.bool true) W:=λW=>Lib.run_eql_slice_nil W _ _ _ _ _ _ _ underlying35
  clear l s d h1
  simp only[List.length_nil] at *
  go_enter func125,ntmps125
  go_wp2_with fail
  go_ret
  exact⟨_,rfl,World.ownsRow_nil _ _ _ _,Below.refl _ _⟩
 | some ad=>
  have O:∀W,(binOp .eql 35 (.slice (some ad) rows.length p) (.slice none 0 0)).run prog W=.ok (.bool false) W:=λW=>Lib.run_eql_slice_nil W _ _ _ _ _ _ _ underlying35
  have g:∀j u,(rows.flatMap id)[j]? = some u->w.cell? (ad.add j)=some u:=by
   rcases Nat.eq_zero_or_pos rows.length with h | h
   ·have e:rows=[]:=List.length_eq_zero_iff.1 h
    subst e;simp
   ·obtain⟨b,K,h,_⟩:=l h
    injection h with h
    subst h
    exact fE (by decide) d (λcs x h=>h.1) s
  obtain⟨i0,hi,L⟩:=Option.map_eq_some_iff.1 wN
  simp only[Prod.mk.injEq] at L
  obtain⟨M,y,D⟩:=L
  obtain⟨z,E,F⟩:=Option.map_eq_some_iff.1 M
  have P:=hI g
  have R:=hI hi
  have S:=hI E
  have H:=hI y
  have I:=hI D
  have J:=hI F
  have hl:rows.length<=maxLen:=by unfold maxLen;omega
  have V:=hI hl
  have HR:=hI d
  have X:=hI (jM (f:=id) rows h1)
  have Y:=hI (jA (f:=id) rows d)
  clear g hi E y D F M hl d h1 s l
  go_enter func125,ntmps125
  go_wp2_with (at_builtin;refine wpList_append_own _ rfl _ _ 35 rfl w.heap.size 166 i0 z 4 64 underlying35 R.o S.o H.o I.o J.o (by decide) (.slice (some ⟨w.heap.size,0,none⟩) 0 0) 0 [] rfl (jL _ _ _) ad rows.length p (rows.flatMap id) rfl Y.o (λj u hj=>kL (P.o j u hj) _) X.o (by rw[Nat.zero_add];exact V.o) (by rw[Nat.zero_add];exact G) (by simp) ?_)
  intro v' w6 q N _
  have Z:=hI N
  have KO:=hI q
  clear N q
  go_wp2_with fail
  go_ret
  refine⟨_,rfl,by simpa using KO.o,Below.grown (aA w _) Z.o (by simp) (by simp[Value.ownBlock])⟩
theorem adE:(prog.info? 140).map (λi=>(i.zero.map (·.cells.size),i.size,i.bytes))=some (some 5,5,56):=by kernel_rfl
theorem ag8 (v:Value) (rows:List (List Value)) (w:World) (s:aB w w.heap.size 5 (Raw 5) v rows) (h1:∀r∈rows,∀u∈r,u.oneCell'=true) (G:rows.length*56<=140737488355328) : Calls prog 126 #[v] w λe w'=>∃u,e=.returned u/\w'.ownsRow w.heap.size 140 5 u rows.length (rows.flatMap id)/\Below w.heap.size w w':=by
 have d:∀x∈rows,x.length=5:=λx hx=>by obtain⟨cs,_,h⟩:=s.mem hx;exact h
 obtain⟨A,p,rfl,a4,a5,l⟩:=id s;cases A with
 | none=>
  have e:rows=[]:=by
   rcases Nat.eq_zero_or_pos rows.length with h | h
   ·exact List.length_eq_zero_iff.1 h
   ·obtain⟨b,K,h,_⟩:=l h;cases h
  subst e
  have O:∀W,(binOp .eql 37 (.slice none 0 p) (.slice none 0 0)).run prog W=.ok (.bool true) W:=λW=>Lib.run_eql_slice_nil W _ _ _ _ _ _ _ underlying37
  clear l s d h1
  simp only[List.length_nil] at *
  go_enter func126,ntmps126
  go_wp2_with fail
  go_ret
  exact⟨_,rfl,World.ownsRow_nil _ _ _ _,Below.refl _ _⟩
 | some ad=>
  have O:∀W,(binOp .eql 37 (.slice (some ad) rows.length p) (.slice none 0 0)).run prog W=.ok (.bool false) W:=λW=>Lib.run_eql_slice_nil W _ _ _ _ _ _ _ underlying37
  have g:∀j u,(rows.flatMap id)[j]? = some u->w.cell? (ad.add j)=some u:=by
   rcases Nat.eq_zero_or_pos rows.length with h | h
   ·have e:rows=[]:=List.length_eq_zero_iff.1 h
    subst e;simp
   ·obtain⟨b,K,h,_⟩:=l h
    injection h with h
    subst h
    exact fE (by decide) d (λcs x h=>h.1) s
  obtain⟨i0,hi,L⟩:=Option.map_eq_some_iff.1 adE
  simp only[Prod.mk.injEq] at L
  obtain⟨M,y,D⟩:=L
  obtain⟨z,E,F⟩:=Option.map_eq_some_iff.1 M
  have P:=hI g
  have R:=hI hi
  have S:=hI E
  have H:=hI y
  have I:=hI D
  have J:=hI F
  have hl:rows.length<=maxLen:=by unfold maxLen;omega
  have V:=hI hl
  have HR:=hI d
  have X:=hI (jM (f:=id) rows h1)
  have Y:=hI (jA (f:=id) rows d)
  clear g hi E y D F M hl d h1 s l
  go_enter func126,ntmps126
  go_wp2_with (at_builtin;refine wpList_append_own _ rfl _ _ 37 rfl w.heap.size 140 i0 z 5 56 underlying37 R.o S.o H.o I.o J.o (by decide) (.slice (some ⟨w.heap.size,0,none⟩) 0 0) 0 [] rfl (jL _ _ _) ad rows.length p (rows.flatMap id) rfl Y.o (λj u hj=>kL (P.o j u hj) _) X.o (by rw[Nat.zero_add];exact V.o) (by rw[Nat.zero_add];exact G) (by simp) ?_)
  intro v' w6 q N _
  have Z:=hI N
  have KO:=hI q
  clear N q
  go_wp2_with fail
  go_ret
  refine⟨_,rfl,by simpa using KO.o,Below.grown (aA w _) Z.o (by simp) (by simp[Value.ownBlock])⟩
theorem adG:(prog.info? 172).map (λi=>(i.zero.map (·.cells.size),i.size,i.bytes))=some (some 2,2,16):=by kernel_rfl
theorem ahA (v:Value) (rows:List (List Value)) (w:World) (s:aB w w.heap.size 2 (Raw 2) v rows) (h1:∀r∈rows,∀u∈r,u.oneCell'=true) (G:rows.length*16<=140737488355328) : Calls prog 127 #[v] w λe w'=>∃u,e=.returned u/\w'.ownsRow w.heap.size 172 2 u rows.length (rows.flatMap id)/\Below w.heap.size w w':=by
 have d:∀x∈rows,x.length=2:=λx hx=>by obtain⟨cs,_,h⟩:=s.mem hx;exact h
 obtain⟨A,p,rfl,a4,a5,l⟩:=id s;cases A with
 | none=>
  have e:rows=[]:=by
   rcases Nat.eq_zero_or_pos rows.length with h | h
   ·exact List.length_eq_zero_iff.1 h
   ·obtain⟨b,K,h,_⟩:=l h;cases h
  subst e
  have O:∀W,(binOp .eql 36 (.slice none 0 p) (.slice none 0 0)).run prog W=.ok (.bool true) W:=λW=>Lib.run_eql_slice_nil W _ _ _ _ _ _ _ underlying36
  clear l s d h1
  simp only[List.length_nil] at *
  go_enter func127,ntmps127
  go_wp2_with fail
  go_ret
  exact⟨_,rfl,World.ownsRow_nil _ _ _ _,Below.refl _ _⟩
 | some ad=>
  have O:∀W,(binOp .eql 36 (.slice (some ad) rows.length p) (.slice none 0 0)).run prog W=.ok (.bool false) W:=λW=>Lib.run_eql_slice_nil W _ _ _ _ _ _ _ underlying36
  have g:∀j u,(rows.flatMap id)[j]? = some u->w.cell? (ad.add j)=some u:=by
   rcases Nat.eq_zero_or_pos rows.length with h | h
   ·have e:rows=[]:=List.length_eq_zero_iff.1 h
    subst e;simp
   ·obtain⟨b,K,h,_⟩:=l h
    injection h with h
    subst h
    exact fE (by decide) d (λcs x h=>h.1) s
  obtain⟨i0,hi,L⟩:=Option.map_eq_some_iff.1 adG
  simp only[Prod.mk.injEq] at L
  obtain⟨M,y,D⟩:=L
  obtain⟨z,E,F⟩:=Option.map_eq_some_iff.1 M
  have P:=hI g
  have R:=hI hi
  have S:=hI E
  have H:=hI y
  have I:=hI D
  have J:=hI F
  have hl:rows.length<=maxLen:=by unfold maxLen;omega
  have V:=hI hl
  have HR:=hI d
  have X:=hI (jM (f:=id) rows h1)
  have Y:=hI (jA (f:=id) rows d)
  clear g hi E y D F M hl d h1 s l
  go_enter func127,ntmps127
  go_wp2_with (at_builtin;refine wpList_append_own _ rfl _ _ 36 rfl w.heap.size 172 i0 z 2 16 underlying36 R.o S.o H.o I.o J.o (by decide) (.slice (some ⟨w.heap.size,0,none⟩) 0 0) 0 [] rfl (jL _ _ _) ad rows.length p (rows.flatMap id) rfl Y.o (λj u hj=>kL (P.o j u hj) _) X.o (by rw[Nat.zero_add];exact V.o) (by rw[Nat.zero_add];exact G) (by simp) ?_)
  intro v' w6 q N _
  have Z:=hI N
  have KO:=hI q
  clear N q
  go_wp2_with fail
  go_ret
  refine⟨_,rfl,by simpa using KO.o,Below.grown (aA w _) Z.o (by simp) (by simp[Value.ownBlock])⟩
theorem abW:(prog.info? 178).map (λi=>(i.zero.map (·.cells.size),i.size,i.bytes))=some (some 3,3,24):=by kernel_rfl
theorem adS (v:Value) (rows:List (List Value)) (w:World) (s:aB w w.heap.size 3 (Raw 3) v rows) (h1:∀r∈rows,∀u∈r,u.oneCell'=true) (G:rows.length*24<=140737488355328) : Calls prog 129 #[v] w λe w'=>∃u,e=.returned u/\w'.ownsRow w.heap.size 178 3 u rows.length (rows.flatMap id)/\Below w.heap.size w w':=by
 have d:∀x∈rows,x.length=3:=λx hx=>by obtain⟨cs,_,h⟩:=s.mem hx;exact h
 obtain⟨A,p,rfl,a4,a5,l⟩:=id s;cases A with
 | none=>
  have e:rows=[]:=by
   rcases Nat.eq_zero_or_pos rows.length with h | h
   ·exact List.length_eq_zero_iff.1 h
   ·obtain⟨b,K,h,_⟩:=l h;cases h
  subst e
  have O:∀W,(binOp .eql 38 (.slice none 0 p) (.slice none 0 0)).run prog W=.ok (.bool true) W:=λW=>Lib.run_eql_slice_nil W _ _ _ _ _ _ _ underlying38
  clear l s d h1
  simp only[List.length_nil] at *
  go_enter func129,ntmps129
  go_wp2_with fail
  go_ret
  exact⟨_,rfl,World.ownsRow_nil _ _ _ _,Below.refl _ _⟩
 | some ad=>
  have O:∀W,(binOp .eql 38 (.slice (some ad) rows.length p) (.slice none 0 0)).run prog W=.ok (.bool false) W:=λW=>Lib.run_eql_slice_nil W _ _ _ _ _ _ _ underlying38
  have g:∀j u,(rows.flatMap id)[j]? = some u->w.cell? (ad.add j)=some u:=by
   rcases Nat.eq_zero_or_pos rows.length with h | h
   ·have e:rows=[]:=List.length_eq_zero_iff.1 h
    subst e;simp
   ·obtain⟨b,K,h,_⟩:=l h
    injection h with h
    subst h
    exact fE (by decide) d (λcs x h=>h.1) s
  obtain⟨i0,hi,L⟩:=Option.map_eq_some_iff.1 abW
  simp only[Prod.mk.injEq] at L
  obtain⟨M,y,D⟩:=L
  obtain⟨z,E,F⟩:=Option.map_eq_some_iff.1 M
  have P:=hI g
  have R:=hI hi
  have S:=hI E
  have H:=hI y
  have I:=hI D
  have J:=hI F
  have hl:rows.length<=maxLen:=by unfold maxLen;omega
  have V:=hI hl
  have HR:=hI d
  have X:=hI (jM (f:=id) rows h1)
  have Y:=hI (jA (f:=id) rows d)
  clear g hi E y D F M hl d h1 s l
  go_enter func129,ntmps129
  go_wp2_with (at_builtin;refine wpList_append_own _ rfl _ _ 38 rfl w.heap.size 178 i0 z 3 24 underlying38 R.o S.o H.o I.o J.o (by decide) (.slice (some ⟨w.heap.size,0,none⟩) 0 0) 0 [] rfl (jL _ _ _) ad rows.length p (rows.flatMap id) rfl Y.o (λj u hj=>kL (P.o j u hj) _) X.o (by rw[Nat.zero_add];exact V.o) (by rw[Nat.zero_add];exact G) (by simp) ?_)
  intro v' w6 q N _
  have Z:=hI N
  have KO:=hI q
  clear N q
  go_wp2_with fail
  go_ret
  refine⟨_,rfl,by simpa using KO.o,Below.grown (aA w _) Z.o (by simp) (by simp[Value.ownBlock])⟩
end
section
open Go.RowKit
section
variable {P:Program} {ops:Array Oper} {md:Region.Mode} {C:World->Prop} {Q:Exit->Act->World->Prop}
def aeQ (o:Oper):Bool:=match o.op with | .move _=>true | _=>false
theorem dU.of_move {o:Oper} {v:Value} {a:Act} (f:aeQ o=true) {w:World} (p:C w) (q:YieldsIn P ops C o v a):dU P ops (λ_=>True) o v a:=by
 obtain⟨s,op,l,pos,g,j⟩:=o;cases op <;> simp only[aeQ] at f <;> (first | (cases f;done) | skip);rcases akX (by rfl) q with ⟨h1,r⟩ | h
 ·refine .inl ⟨h1,λw' _=>?_⟩;have d:=r w p;simp only[execOp,Sem.run_pure] at d ⊢;injection d with d
  rw[d]
 ·exact .inr h
theorem aa4 {F:Nat->Bool} {i:Nat} {q:Oper} {v:Value} (hi:ops[i]? = some q) (R:F i=false) (z:∀(j:Nat) (o:Oper) cs b,ops[j]? = some o->o.op≠.select cs b) (Z:∀c a w,Q (.panic c) (a.put q.dst v) w->Q (.panic c) a w) : ∀(g:Nat) (d:Array Bool) (a:Act) (w:World),(∀j l,ops[j]? = some l->j≠i->d.getD j true=false->(∀e∈l.after,Region.binds md e=true->e.on≠i)->q.apart ops l=true)-> i∈Region.ready md ops d->dU P ops (λ_=>True) q v a-> dH P md ops C F Q g (d.setIfInBounds i true) (a.put q.dst v) w->dH P md ops C F Q (g+1) d a w:=by
 intro g;induction g with
 | zero=>
  intro d a w _ p A H
  refine⟨λh=>(by rw[h] at p;cases p),λj D=>?_⟩
  by_cases f:j=i
  ·subst f;exact A.wpOp hi trivial ⟨λh=>(by rw[R] at h;cases h),H⟩
  ·have:=ready_mono D f
   rw[H.1] at this
   cases this
 | succ g ih=>
  intro d a w r p A H
  refine⟨λh=>(by rw[h] at p;cases p),λj D=>?_⟩
  by_cases f:j=i
  ·subst f;exact A.wpOp hi trivial ⟨λh=>(by rw[R] at h;cases h),H⟩
  ·have h1:=H.2 j (ready_mono D f)
   obtain⟨u,l,x,J⟩:=mem_ready.1 D
   have I:∀e∈l.after,Region.binds md e=true->e.on≠i:=λe V hb M=>by
    have h1:=J e V hb
    have L:=(mem_ready.1 p).1
    rw[M] at h1
    rcases Nat.lt_or_ge i d.size with h' | h'
    ·simp[h'] at L h1;rw[L] at h1;cases h1
    ·simp[Array.getElem?_eq_none h'] at h1
   have S:=sX x (r j l x f u I) (λcs b=>z i q cs b hi) (λcs b=>z j l cs b x) Z A h1
   have s:∀k y,ops[k]? = some y->k≠i->(d.setIfInBounds j true).getD k true=false->
     (∀e∈y.after,Region.binds md e=true->e.on≠i)->q.apart ops y=true:=λk y X N E O=>by
    refine r k y X N ?_ O
    by_cases G:j=k
    ·subst G;exact u
    ·rw[getD_set_ne true G] at E;exact E
   refine wpOp_mono (λY w' K=>⟨K.2.1,ih (d.setIfInBounds j true) Y w' s (ready_mono p (Ne.symm f)) K.1 ?_⟩) S
   rw[Array.setIfInBounds_comm _ _ f]
   exact K.2.2
theorem xV {Inv:Array Bool->Prop} (N:∀d j,Inv d->j∈Region.ready md ops d->Inv (d.setIfInBounds j true)) {F:Nat->Bool} {i:Nat} {q:Oper} {v:Value} (hi:ops[i]? = some q) (D:∀(j:Nat) (o:Oper) cs b,ops[j]? = some o->o.op≠.select cs b) (hQ:∀c a w,Q (.panic c) (a.put q.dst v) w->Q (.panic c) a w) (I:∀d j,Inv d->d.getD i true=false->j∈Region.ready md ops d->F j=true) : ∀(g:Nat) (d:Array Bool) (a:Act) (w:World),Inv d->C w-> (∀j p,ops[j]? = some p->j≠i->d.getD j true=false->(∀e∈p.after,Region.binds md e=true->e.on≠i)->q.apart ops p=true)-> i∈Region.ready md ops d->dU P ops C q v a-> dH P md ops C F Q g (d.setIfInBounds i true) (a.put q.dst v) w->dH P md ops C F Q (g+1) d a w:=by
 intro g;induction g with
 | zero=>
  intro d a w _ z _ l E H
  refine⟨λh=>(by rw[h] at l;cases l),λj s=>?_⟩
  by_cases f:j=i
  ·subst f;exact E.wpOp hi z ⟨λ_=>z,H⟩
  ·have:=ready_mono s f
   rw[H.1] at this
   cases this
 | succ g ih=>
  intro d a w R z r l E H
  refine⟨λh=>(by rw[h] at l;cases l),λj s=>?_⟩
  by_cases f:j=i
  ·subst f;exact E.wpOp hi z ⟨λ_=>z,H⟩
  ·have h1:=H.2 j (ready_mono s f)
   obtain⟨x,p,y,M⟩:=mem_ready.1 s
   have L:∀e∈p.after,Region.binds md e=true->e.on≠i:=λe he hb S=>by
    have h1:=M e he hb
    have O:=(mem_ready.1 l).1
    rw[S] at h1
    rcases Nat.lt_or_ge i d.size with h' | h'
    ·simp[h'] at O h1;rw[O] at h1;cases h1
    ·simp[Array.getElem?_eq_none h'] at h1
   have Y:=sX y (r j p y f x L) (λcs b=>D i q cs b hi) (λcs b=>D j p cs b y) hQ E h1
   have u:∀k A,ops[k]? = some A->k≠i->(d.setIfInBounds j true).getD k true=false->
     (∀e∈A.after,Region.binds md e=true->e.on≠i)->q.apart ops A=true:=λk A hk V J X=>by
    refine r k A hk V ?_ X
    by_cases K:j=k
    ·subst K;exact x
    ·rw[getD_set_ne true K] at J;exact J
   have Z:=I d j R (mem_ready.1 l).1 s
   refine wpOp_mono (λa' w' G=>⟨G.2.1,ih (d.setIfInBounds j true) a' w' (N _ _ R s) (G.2.1 Z) u (ready_mono l (Ne.symm f)) G.1 ?_⟩) Y
   rw[Array.setIfInBounds_comm _ _ f]
   exact G.2.2
theorem rV {Inv:Array Bool->Prop} (g:∀f j,Inv f->j∈Region.ready md ops f->Inv (f.setIfInBounds j true)) {F:Nat->Bool} {ms qs0:List Nat} (r:Region.noSelect ops=true) (E:∀(c:_) (a:Act) (d:Option Tmp) (v:Value) (w:World),Q (.panic c) (a.put d v) w->Q (.panic c) a w)
  (q:∀f i j,i∈qs0->Inv f->f.getD i true=false->j∈Region.ready md ops f->F j=true) {w:World} (G:C w) :
  ∀(qs:List Nat) (f:Array Bool) (a:Act),(∀i∈qs,i∈qs0)->Inv f->vZ md ops ms qs f=true->
   wpQuiet P ops C (λx=>gT P ops C F Q ms x w) (qs.filterMap (ops[·]?)) a->dH P md ops C F Q (qs.length+ms.length) f a w
 | [],f,a,_,_,hB,h=>by
  rw[List.length_nil,Nat.zero_add]
  exact cT ms f a w hB h
 | i::rest,f,a,hsub,hc,hB,h=>by
  simp only[vZ,Bool.and_eq_true] at hB
  obtain⟨⟨⟨H,hf⟩,s⟩,A⟩:=hB
  have u:i∈Region.ready md ops f:=by simpa using H
  cases p:ops[i]? with
  | none=>rw[p] at s;cases s
  | some o=>
   rw[p] at s
   have y:mF o=true:=s
   simp only[List.filterMap_cons,p] at h
   have z:qOp P ops C i (wpQuiet P ops C (λx=>gT P ops C F Q ms x w) (rest.filterMap (ops[·]?))) a:=by unfold qOp;simp only[p];exact h
   obtain⟨v,I,J⟩:=yieldsIn_of_qOp p z
   rw[List.length_cons,show rest.length+1+ms.length=(rest.length+ms.length)+1 by omega]
   exact xV g p (Region.noSelect_spec r) (λc a w=>E c a _ _ w) (λl j D K L=>q l i j (hsub i (by simp)) D K L) _ f a w hc G (Region.free_spec p hf) u (akX y I)
    (rV g r E q G rest _ _ (λk M=>hsub k (by simp[M])) (g _ _ hc u) A J)
def aeM (md:Region.Mode) (ops:Array Oper) (ms qs:List Nat):List Nat->Array Bool->Bool
 | [],listed=>vZ md ops ms qs listed
 | i::rest,listed=>(Region.ready md ops listed).contains i && Region.free md ops listed i && ((ops[i]?).map aeQ).getD false && aeM md ops ms qs rest (listed.setIfInBounds i true)
def commP (md:Region.Mode) (ops:Array Oper) (ps qs ms fl:List Nat):Bool:=
 Region.noSelect ops && abS md ops (λj=>ps.contains j || (qs.contains j || fl.contains j)) ops.size qs && aeM md ops ms qs ps (Array.replicate ops.size false) && ps.all (λi=>!(qs.contains i || fl.contains i)) && decide (ps.length+(qs.length+ms.length)=ops.size)
theorem rW {F:Nat->Bool} {ms qs ps0:List Nat} (q:Region.noSelect ops=true) (D:∀(c:_) (a:Act) (d:Option Tmp) (v:Value) (w:World),Q (.panic c) (a.put d v) w->Q (.panic c) a w)
  (s:∀f i j,i∈qs->jH md ops f->(∀p∈ps0,f.getD p false=true)->f.getD i true=false->j∈Region.ready md ops f->F j=true) (J:∀p∈ps0,F p=false) {w:World} (E:C w) :
  ∀(x:List Nat) (f:Array Bool) (a:Act),(∀p∈ps0,p∈x\/f.getD p false=true)->(∀p∈x,p∈ps0)->jH md ops f->aeM md ops ms qs x f=true->
   wpQuiet P ops C (λz=>gT P ops C F Q ms z w) ((x++qs).filterMap (ops[·]?)) a->dH P md ops C F Q (x.length+(qs.length+ms.length)) f a w
 | [],f,a,hp,_,hc,hB,h=>by
  rw[List.length_nil,Nat.zero_add]
  rw[List.nil_append] at h
  have hl:∀p∈ps0,f.getD p false=true:=λp g=>by
   rcases hp p g with h1 | h1
   ·cases h1
   ·exact h1
  exact rV (Inv:=λl=>jH md ops l/\∀p∈ps0,l.getD p false=true) (λl j hI A=>⟨hI.1.set A,λp g=>getD_set_true (hI.2 p g)⟩) q D (λl i j hi hI N A=>s l i j hi hI.1 hI.2 N A) E qs f a (λ_ h=>h) ⟨hc,hl⟩ hB h
 | i::rest,f,a,hp,hsub,hc,hB,h=>by
  simp only[aeM,Bool.and_eq_true] at hB
  obtain⟨⟨⟨K,hf⟩,y⟩,I⟩:=hB
  have u:i∈Region.ready md ops f:=by simpa using K
  cases r:ops[i]? with
  | none=>rw[r] at y;cases y
  | some o=>
   rw[r] at y
   have G:aeQ o=true:=y
   simp only[List.cons_append,List.filterMap_cons,r] at h
   have H:qOp P ops C i (wpQuiet P ops C (λz=>gT P ops C F Q ms z w) ((rest++qs).filterMap (ops[·]?))) a:=by unfold qOp;simp only[r];exact h
   obtain⟨v,L,M⟩:=yieldsIn_of_qOp r H
   rw[List.length_cons,show rest.length+1+(qs.length+ms.length)=(rest.length+(qs.length+ms.length))+1 by omega]
   refine aa4 r (J i (hsub i (by simp))) (Region.noSelect_spec q) (λc a w=>D c a _ _ w) _ f a w (Region.free_spec r hf) u (dU.of_move G E L)
    (rW q D s J E rest _ _ (λp g=>?_) (λk O=>hsub k (by simp[O])) (hc.set u) I M)
   rcases hp p g with h1 | h1
   ·rcases List.mem_cons.1 h1 with rfl | h1
    ·right
     have:=(mem_ready.1 u).1
     rcases Nat.lt_or_ge p f.size with h' | h'
     ·simp[h']
     ·simp[Array.getElem?_eq_none h'] at this
    ·exact .inl h1
   ·exact .inr (getD_set_true h1)
theorem fP {id:Nat} {a:Act} {w:World} {l:List Oper} (C:World->Prop) (f qs ms fl:List Nat) (lq:List Oper) (K:P.follows .mixedOrders=true) (hB:commP .any l.toArray f qs ms fl=true) (L:(f++qs).filterMap (l.toArray[·]?)=lq) (M:∀(c:_) (a:Act) (d:Option Tmp) (v:Value) (w:World),Q (.panic c) (a.put d v) w->Q (.panic c) a w) (N:C w.drew) (h:wpQuiet P l.toArray C (λG=>gT P l.toArray C (λj=>qs.contains j || fl.contains j) Q ms G w.drew) lq a):(Code.region id l.toArray true).wp P Q a w:=by
 subst L;simp only[commP,Bool.and_eq_true,decide_eq_true_eq] at hB;obtain⟨⟨⟨⟨hsel,hlate⟩,hread⟩,hps⟩,hlen⟩:=hB;have E:∀p∈f,(qs.contains p || fl.contains p)=false:=λp x=>by have:=List.all_eq_true.1 hps p x;simpa using this
 have H:=rW (md:=.any) (ps0:=f) (ms:=ms) (qs:=qs) (F:=λj=>qs.contains j || fl.contains j) (Q:=Q) hsel M (λg i j hi I z J A=>by
  by_cases q:j∈qs;·simp[q]
  ·have h1:=pZ hlate I hi J A q;have y:j∉f:=λD=>by
    have r:=z j D;have s:=(mem_ready.1 A).1;rcases Nat.lt_or_ge j g.size with h' | h';·simp[h'] at r s;rw[r] at s;cases s
    ·simp[Array.getElem?_eq_none h'] at r
   have u:f.contains j=false:=(by simpa using y);rw[u,Bool.false_or] at h1;exact h1) E N f (Array.replicate l.toArray.size false) a (λp x=>.inl x) (λ_ h=>h) (by
  intro j O _ hl;rw[getD_replicate_false] at hl;cases hl) hread h
 rw[hlen] at H;exact wp_region_any K (nP _ _ _ _ H)
theorem j9 {F:Nat->Bool} {f i:Nat} {g:Oper} {d:Array Bool} {a:Act} {w:World} (q:Region.ready md ops d=[i]) (hi:ops[i]? = some g) (h1:∀K:Act->World->Prop,(∀a w,(F i=true->C w)->dH P md ops C F Q f (d.setIfInBounds i true) a w->K a w)->if Region.wanted g (yielded ops a.tmps) then g.wp P a w K Q else K (a.put g.dst undef) w) : dH P md ops C F Q (f+1) d a w:=by
 refine⟨λh=>(by rw[q] at h;cases h),λj p=>?_⟩;rw[q] at p;obtain rfl:j=i:=by simpa using p
 have:=h1 (λr w'=>(F j=true->C w')/\dH P md ops C F Q f (d.setIfInBounds j true) r w') (λ_ _ h1 s=>⟨h1,s⟩);unfold wpOp;simp only[hi];split;·rename_i l;rw[if_pos l] at this;exact .inl this
 ·rename_i l;rw[if_neg l] at this;exact this
end
end
end Go.Proofs.YtijihlcdhppfgaaGreatDoor
