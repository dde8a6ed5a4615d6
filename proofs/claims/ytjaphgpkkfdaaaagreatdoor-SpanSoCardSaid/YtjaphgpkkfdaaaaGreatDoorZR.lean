/- A part of the walk. -/
import Derived.Test.YtjaphgpkkfdaaaaGreatDoorZQ
set_option maxHeartbeats 16000000
set_option maxRecDepth 100000
set_option linter.all false
namespace Go.Proofs.YtjaphgpkkfdaaaaGreatDoor
open Tryz
section
open Go.RowKit Go.Maps Go.WideMaps
theorem aeA {w:World} {g:Nat} {cs:List Value} {t:TypeId} (h:w.heap[g]? = some (.cells ⟨cs⟩ t (0,0))):aA w g cs:=λi v d=>by
 rw[cell_of_row w g i _ _ _ h];simpa using d
theorem acD (X cs:List Value) (p:aW) (S:aR) (w:World) (hp:eL w w.heap.size X p) (h:gK w w.heap.size cs S) (ht:Tab w):Calls prog 24 #[.agg ⟨X⟩,.agg ⟨cs⟩] w (aM (.int .i64 (dG aG p S cC (bH p))) w):=by
 obtain⟨r,j⟩:∃r,dG aG p S cC (bH p)=r:=⟨_,rfl⟩;rw[j];unfold dG at j;obtain⟨m,R⟩:∃m,m=(w.alloc (.cells ⟨X⟩ 26)).alloc (.cells ⟨cs⟩ 40):=⟨_,rfl⟩;have TB:=jZ w X cs 26 40;rw[<-R] at TB;obtain⟨t1,H,t3⟩:=TB;have Y:=hI t1;have E:=hI H;have Z:=hI t3;have hz:w.heap.size+1<m.heap.size:=by rw[R];simp
 have a1:=hI (hp.below Z.o);have d8:Hid (iJ m (w.heap.size+1) S):=⟨cs,H,hz,h.below Z.o⟩;have h8:=hI (h.below Z.o);have T0:=hI (ht.below Z.o);obtain⟨A1,n1,A2,n2,A3,n3,rfl,-⟩:=id hp;obtain⟨Ac,nc,As,ns,At,nt,Ah,nh,Ae,ne,Aa,na,D,-,-,-,-,s3,-⟩:=d8.o.parts;have S3:=hI s3;have l3:=aP s3;have i6:cs=[.slice Ac S.cells.length nc,.slice As S.shapes.length ns,.slice At S.texts.length nt,.slice Ah S.threads.length nh,.slice Ae S.ends.length ne,.slice Aa S.said.length na,.int .i64 S.asked,.int .i64 S.steps]:=by obtain⟨c,s,t,g,e,a,rfl,-⟩:=h;have i0:=(H 0 _ rfl).symm.trans (D 0 _ rfl);have i1:=(H 1 _ rfl).symm.trans (D 1 _ rfl);have i2:=(H 2 _ rfl).symm.trans (D 2 _ rfl);have i3:=(H 3 _ rfl).symm.trans (D 3 _ rfl);have i4:=(H 4 _ rfl).symm.trans (D 4 _ rfl);have i5:=(H 5 _ rfl).symm.trans (D 5 _ rfl);simp only[Option.some.injEq] at i0 i1 i2 i3 i4 i5;rw[i0,i1,i2,i3,i4,i5]
 have e0:wfi S.asked/\wfi S.steps:=by obtain⟨_,_,_,_,_,_,-,-,-,-,-,-,-,a,b⟩:=h;exact⟨a,b⟩
 subst i6;have HW:=hI R;have C1:=hI (qH _ p m a1.o T0.o);obtain⟨q1,a9⟩:∃q,bH p=q:=⟨_,rfl⟩;rw[a9] at C1 j;have e1:=hI a9;clear R hp h ht t1 H t3 D s3 a9;by_cases l:q1=0;case neg=>rw[if_pos l] at j;have z:=hI j;have k6:(q1 == 0)=false:=bF l;have k8:(q1 != 0)=true:=bne_iff_ne.2 l;clear j;go_enter func24,ntmps24;go_wp2_with fail;rw[<-HW.o];refine C1.o.mono ?_;rintro e w1 ⟨rfl,u⟩;have K:=btZ Z u;clear u;go_wp2_with fail;go_ret;exact⟨by rw[<-z.o];rfl,K.o⟩
 subst l;rw[if_neg (by simp)] at j;have C2:Hid (∀W,Below m.heap.size m W->Calls prog 47 #[.agg ⟨[.slice Ac S.cells.length nc,.slice As S.shapes.length ns,.slice At S.texts.length nt,.slice Ah S.threads.length nh,.slice Ae S.ends.length ne,.slice Aa S.said.length na,.int .i64 S.asked,.int .i64 S.steps]⟩] W (aM (.int .i64 (cG aG S cC)) W)):=λW k=>adU _ S W (h8.o.below k) (T0.o.below k);obtain⟨q2,b0⟩:∃q,cG aG S cC=q:=⟨_,rfl⟩;rw[b0] at C2 j;have l0:=hI b0;clear b0;go_enter func24,ntmps24;go_wp2_with fail;rw[<-HW.o];refine C1.o.mono ?_;rintro e w1 ⟨rfl,u⟩;have e2:=hI u;have K1:=btZ Z u;have d0:=(E.o.on u) 0 _ rfl;have d1:=(E.o.on u) 1 _ rfl;have d2:=(E.o.on u) 2 _ rfl;have d3:=(E.o.on u) 3 _ rfl;have d4:=(E.o.on u) 4 _ rfl;have d5:=(E.o.on u) 5 _ rfl;have d6:=(E.o.on u) 6 _ rfl;have d7:=(E.o.on u) 7 _ rfl;clear u;go_wp2_with fail;refine(C2.o w1 e2.o).mono ?_;rintro e w2 ⟨rfl,k2⟩;have a2:=btZ e2 k2;have K2:=btZ K1 k2;clear k2 d0 d1 d2 d3 d4 d5 d6 d7;by_cases I:q2=0;case neg=>rw[if_pos I] at j;have z:=hI j;have k6:(q2 == 0)=false:=bF I;have k8:(q2 != 0)=true:=bne_iff_ne.2 I;clear j;go_wp2_with fail;go_ret;exact⟨by rw[<-z.o];rfl,K2.o⟩
 subst I;rw[if_neg (by simp)] at j;have d3:=(E.o.on a2.o) 3 _ rfl;by_cases h5:5<S.threads.length
 ·rw[if_pos (.inl h5)] at j;have z:=hI j;have l1:(5:Int)<S.threads.length:=by omega
  clear j h5;go_wp2_with fail;go_ret;exact⟨by rw[<-z.o];rfl,K2.o⟩
 have l1:decide ((5:Int)<S.threads.length)=false:=by simp;omega
 have C3:=hI (pO (g9 m m.heap.size) (λh=>decide (30<h.frames.length)) Ah nh S.threads 49 aaJ #[] w2 (S3.o.below a2.o) (λd k3 x cs hx hR=>aaM cs x _ _ d hR));obtain⟨q3,b2⟩:∃q,S.threads.any (λh=>decide (30<h.frames.length))=q:=⟨_,rfl⟩;rw[b2] at C3 j;have l4:=hI b2;clear b2;go_wp2_with fail;refine C3.o.mono ?_;rintro e d ⟨rfl,k3⟩;have f:=btZ a2 k3;have K3:=btZ K2 k3;clear k3 d3;cases q3
 case true=>
  have z:Hid ((2:Int)=r):=by rw[<-j];exact(if_pos (.inr rfl)).symm
  clear j;go_wp2_with fail;go_ret;exact⟨by rw[<-z.o];rfl,K3.o⟩
 have z:Hid ((if mF aG p S then(0:Int) else 3)=r):=by
  show _=_;rw[<-j];refine(if_neg ?_).symm;rintro (h | h);·exact h5 h
  ·cases h
 obtain⟨o8,o9⟩:=iO e1.o;have l5:S.threads.length<=5:=by omega
 have e3:∀h∈S.threads,h.frames.length<=30:=λh hm=>by have:=List.any_eq_false.1 l4.o h hm;simp at this;exact this
 have e4:∀c∈S.cells,kE aG S c=true:=λc hc=>by
  have h:=l0.o;unfold cG at h;split at h;·cases h
  ·split at h;·rename_i a b;first | exact absurd h b | exact absurd h a
   ·split at h;·cases h
    ·rename_i D;simp only[Bool.or_eq_true,not_or,Bool.not_eq_true] at D;have:=List.any_eq_false.1 D.2 c hc;simpa using this
 have l9:=hI e3;have m0:=hI e4;have g0:=(Y.o.on f.o) 0 _ rfl;have g1:=(Y.o.on f.o) 1 _ rfl;have g2:=(Y.o.on f.o) 2 _ rfl;have v0:=@run_makeMap prog;have v1:w.heap.size<d.heap.size:=by have:=f.o.size;omega
 clear j o9 e3 e4 h5;obtain⟨J,L⟩:∃J,J=(d.alloc (.map #[] 0)).alloc (.cells #[.slice A1 p.fns.length n1,.slice A2 p.consts.length n2,.slice A3 p.texts.length n3,.pointer (some ⟨w.heap.size+1,0,none⟩),.slice none 0 0,.slice none 0 0,.map (some d.heap.size)] 118):=⟨_,rfl⟩;have A:Hid (Below d.heap.size d J):=by rw[L];exact bE _ _ _
 have a3:Hid (J.heap[d.heap.size+1]? = some (.cells #[.slice A1 p.fns.length n1,.slice A2 p.consts.length n2,.slice A3 p.texts.length n3,.pointer (some ⟨w.heap.size+1,0,none⟩),.slice none 0 0,.slice none 0 0,.map (some d.heap.size)] 118 (0,0))):=by rw[L];exact cQ _ _ _
 have G4:Hid (lN J d.heap.size []):=by rw[L];exact(World.ownsMap_made _ _ _ _).alloc _
 have m1:=hI L;have K4:=btZ K3 A.o;have CA:=hI (abG _ p J (a1.o.below (f.o.trans (A.o.mono f.o.size))) e1.o);have m2:d.heap.size+1<J.heap.size:=(aE a3.o).1;have r6:w.heap.size<J.heap.size:=by omega
 clear L;go_upto_region 10 with fail;rw[<-m1.o];clear g0 g1 g2;have g0:=((Y.o.on f.o).on A.o) 0 _ rfl;have g1:=((Y.o.on f.o).on A.o) 1 _ rfl;have g2:=((Y.o.on f.o).on A.o) 2 _ rfl;go_wp2_with fail;refine CA.o.mono ?_;rintro e w5 ⟨tv,yv,rfl,b4,b5,V,k5⟩;have y:Hid (w5.heap[d.heap.size+1]? = some (.cells #[.slice A1 p.fns.length n1,.slice A2 p.consts.length n2,.slice A3 p.texts.length n3,.pointer (some ⟨w.heap.size+1,0,none⟩),.slice none 0 0,.slice none 0 0,.map (some d.heap.size)] 118 (0,0))):=(k5.block _ m2).trans a3.o;have m3:=hI b4;have m4:=hI b5;have m5:=hI V;have K5:=btZ K4 k5;have G5:=hI (G4.o.below k5);obtain⟨ZT,zt,e7,-⟩:=id b4;obtain⟨YT,yt,e9,-⟩:=id b5;rw[List.length_map] at e7 e9;subst e7;subst e9;have e5:=hI ((f.o.trans (A.o.mono f.o.size)).trans (k5.mono (by have:=A.o.size;have:=f.o.size;omega)));clear b4 b5 V k5 g0 g1 g2;have s4:=crZ y 4 rfl;have s5:=crZ y 5 rfl;have z4:=fzZ y 4;have z5:=fzZ y 5;go_upto_region 11 with fail;generalize C:World.setCell _ _ _=w6;have G:Hid (∀k,k≠d.heap.size+1->w6.heap[k]? = w5.heap[k]?):=λk O=>by rw[<-C,heap_setCell_other _ _ _ _ O,heap_setCell_other _ _ _ _ O]
 have a5:w6.heap.size=w5.heap.size:=by rw[<-C];simp[World.setCell]
 have a6:Hid (w6.heap[d.heap.size+1]? = some (.cells #[.slice A1 p.fns.length n1,.slice A2 p.consts.length n2,.slice A3 p.texts.length n3,.pointer (some ⟨w.heap.size+1,0,none⟩),.slice ZT p.fns.length zt,.slice YT p.fns.length yt,.map (some d.heap.size)] 118 (0,0))):=by rw[<-C,heap_setCell_same _ _ _ _ _ _ (heap_setCell_same _ _ _ _ _ _ y.o)];rfl
 have e6:Hid (Below w.heap.size w w6):=by
  refine⟨?_,?_,?_,by have:=K5.o.size;omega,λk O=>(G.o k (by omega)).trans (K5.o.block k O)⟩;·rw[<-C];exact K5.o.os
  ·rw[<-C];exact K5.o.tape
  ·rw[<-C];exact K5.o.output
 have g4:Hid (∀k,k<m.heap.size->w6.heap[k]? = m.heap[k]?):=λk O=>(G.o k (by have:=f.o.size;omega)).trans (e5.o.block k O);have M:Hid (∀q:Addr,q.block<m.heap.size->w6.cell? q=m.cell? q):=λq P=>World.cell?_of_block (g4.o q.block P);have N:m.heap.size<=w6.heap.size:=by have:=e5.o.size;omega
 have KQ:Hid (∀q:Addr,fY w5 q.block->w6.cell? q=w5.cell? q):=λq P=>World.cell?_of_block (G.o q.block (λe=>by obtain⟨cs,t,fr,l,I⟩:=P;rw[e,y.o] at l;injection l with l;injection l with _ l _;exact I l.symm));have m7:Hid (iV w6 (d.heap.size+1) p S (w.heap.size+1) d.heap.size (.slice ZT p.fns.length zt) (.slice YT p.fns.length yt)):=by
  refine⟨⟨⟨_,_,_,aeA a6.o,a1.o.keep N (λq P=>M.o q P)⟩,(aE a6.o).1,?_⟩,m3.o.toR (λb hb=>?_) KQ.o,m4.o.toR (λb hb=>?_) KQ.o⟩;·obtain⟨cs,l,I,h3⟩:=d8.o;exact⟨cs,λi v hv=>(M.o _ I).trans (l i v hv),Nat.lt_of_lt_of_le I N,h3.keep N (λq P=>M.o q P)⟩
  ·obtain⟨cs,t,fr,l,-⟩:=hb;rw[a5];exact(aE l).1
  ·obtain⟨cs,t,fr,l,-⟩:=hb;rw[a5];exact(aE l).1
 have G6:Hid (lN w6 d.heap.size []):=by obtain⟨es,c7,hb,F,hs,hD⟩:=G5.o;exact⟨es,c7,(G.o _ (by omega)).trans hb,F,hs,hD⟩
 have CR:=hI (right_m p S (d.heap.size+1) (w.heap.size+1) d.heap.size _ _ w6 m7.o G6.o m5.o o8 m0.o l5 l9.o e0.2 e0.1);obtain⟨q4,f0⟩:∃q,mF aG p S=q:=⟨_,rfl⟩;rw[f0] at CR z;clear C s4 s5 z4 z5 f0;(try dsimp only [Act.put]);go_wp2_with fail;refine CR.o.mono ?_;rintro e w7 ⟨rfl,k7⟩;have K7:Hid (Below w.heap.size w w7):=e6.o.trans ⟨k7.os,k7.tape,k7.output,k7.size,λk O=>k7.block k (by have:=e6.o.size;omega) (by have:=K3.o.size;omega)⟩;clear k7;cases q4;case false=>have a7:Hid ((3:Int)=r):=z.o;go_wp2_with fail;go_ret;exact⟨by rw[<-a7.o];rfl,K7.o⟩
 have a7:Hid ((0:Int)=r):=z.o;go_wp2_with fail;go_ret;exact⟨by rw[<-a7.o];rfl,K7.o⟩
end
section
theorem yX {n:Nat} {code:List fE} (d:iP code):∀(f:Nat) (s:bZ),WOk n s->WOk n (nP code f s)
 | 0,s,h=>h
 | f+1,s,h=>by
  unfold nP
  split
  ·rename_i c
   refine yX d f _ (h.pop.from_ d ?_)
   cases hl:s.todo.getLast? with
   | none=>exact Int.le_refl _
   | some t=>exact(h.todo t (List.mem_of_getLast? hl)).1
  ·exact h
theorem aaA {code:List fE} (d:iP code):WOk code.length (cY code):=yX d _ _ (o6 _)
structure vG (f:a8):Prop where
 regs:f.regs.length<=60
 tries:f.tries.length<=20
structure yO (S:aR):Prop where
 cells:S.cells.length<=300
 shapes:S.shapes.length<=100
 texts:S.texts.length<=300
 threads:S.threads.length<=5
 ends:S.ends.length<=100
 said:S.said.length<=200
 vals:∀c∈S.cells,c.vals.length<=600
 cframes:∀c∈S.cells,c.frames.length<=1/\∀f∈c.frames,vG f
 tframes:∀h∈S.threads,h.frames.length<=30/\∀f∈h.frames,vG f
theorem nG {p:aW} {S:aR} {f:a8} (h:dB aG p S f=true) (hp:∀g∈p.fns,g.regs<=60) (hj:∀g∈p.fns,iP g.code):vG f:=by
 obtain⟨⟨k,hk,hkl⟩,-,hr⟩:=nH h
 have hg:p.fns[k]? = some p.fns[k]:=lG hkl
 have hfa:gD p f.fn=p.fns[k]:=by unfold gD;rw[hk,Int.toNat_natCast,hg];rfl
 have hm:p.fns[k]∈p.fns:=List.getElem_mem hkl
 refine⟨by rw[hfa] at hr;have:=hp _ hm;omega,?_⟩
 unfold dB at h
 simp only[Bool.and_eq_true] at h
 have ht:=of_decide_eq_true h.1.2
 rw[hfa,List.getD_eq_getElem?_getD] at ht
 cases hq:(cY p.fns[k].code).out[f.at_.toNat]? with
 | none=>rw[hq] at ht;rw[ht];simp
 | some l=>
  rw[hq] at ht
  rw[ht]
  exact(aaA (hj _ hm)).few l (lM hq)
theorem nB {R:Val->Bool} {p:aW} {S:aR} : ∀(l:List a8) (low:Option Int) (gens j:List Int),b7 R p S low gens l=some j->∀f∈l,dB R p S f=true
 | [],_,_,_,_,f,hf=>by cases hf
 | g::r,low,gens,j,h,f,hf=>by
  unfold b7 at h
  dsimp only at h
  split at h
  ·cases h
  ·rename_i c
   simp only[Bool.or_eq_true,not_or,Bool.not_eq_true,Bool.not_eq_true'] at c
   have m:dB R p S g=true:=by simpa using c.1.1.1
   have i:∀e d,b7 R p S e d r=some j->dB R p S f=true:=λe d q=>by
    rcases List.mem_cons.1 hf with rfl | hf
    ·exact m
    ·exact nB r e d j q f hf
   split at h
   ·exact i _ _ h
   ·split at h
    ·cases h
    ·split at h
     ·cases h
     ·exact i _ _ h
theorem iW {R:Val->Bool} {p:aW} {S:aR} : ∀(d:List bW) (gens i:List Int),cE R p S gens d=some i->∀h∈d,∀f∈h.frames,dB R p S f=true
 | [],_,_,_,h,hh,_,_=>by cases hh
 | t::r,gens,i,e,h,hh,f,hf=>by
  cases ht:eN R p S gens t with
  | none=>rw[nA ht] at e;cases e
  | some g=>
   rw[m9 ht] at e
   rcases List.mem_cons.1 hh with rfl | hh
   ·unfold eN at ht
    dsimp only at ht
    split at ht
    ·cases ht
    ·split at ht
     ·cases ht
     ·split at ht
      ·cases ht
      ·split at ht
       ·cases ht
       ·exact nB _ _ _ _ ht f hf
   ·exact iW r g i e h hh f hf
theorem aaF {p:aW} {S:aR} {W:List ByteArray} (h:dG aG p S W (bH p)=0) (hj:∀g∈p.fns,iP g.code):yO S:=by
 unfold dG at h;split at h;·exact absurd h (by assumption)
 rename_i c0;have hcc:bH p=0:=by
  rcases Int.lt_trichotomy (bH p) 0 with h | h | h;·exact absurd (by omega:bH p≠0) c0
  ·exact h
  ·exact absurd (by omega:bH p≠0) c0
 obtain⟨-,hfs⟩:=iO hcc;have hregs:∀g∈p.fns,g.regs<=60:=λg hg=>(hfs g hg).2.2;split at h;·exact absurd h (by assumption)
 rename_i c1;split at h;·exact absurd h (by decide)
 rename_i c2;split at h;case isFalse=>exact absurd h (by decide)
 rename_i c3;have hcc1:cG aG S W=0:=by
  rcases Int.lt_trichotomy (cG aG S W) 0 with h | h | h;·exact absurd (by omega:cG aG S W≠0) c1
  ·exact h
  ·exact absurd (by omega:cG aG S W≠0) c1
 unfold cG at hcc1;split at hcc1;·cases hcc1
 rename_i c4;split at hcc1;·rename_i a;exact absurd hcc1 a
 rename_i c5;split at hcc1;·cases hcc1
 rename_i c6;obtain⟨l1,l2,l3,l4,l5⟩:=tN (by simpa using c4);have hsh:bT S.shapes=0:=by
  rcases Int.lt_trichotomy (bT S.shapes) 0 with h | h | h;·exact absurd (by omega:bT S.shapes≠0) c5
  ·exact h
  ·exact absurd (by omega:bT S.shapes≠0) c5
 have hcm:∀c∈S.cells,kE aG S c=true:=λc hc=>by simp only[Bool.or_eq_true,not_or,Bool.not_eq_true] at c6;have:=List.any_eq_false.1 c6.2 c hc;simpa using this
 unfold mF at c3;split at c3;·cases c3
 split at c3;·cases c3
 rename_i c7;have hheap:∀c∈S.cells,lQ aG p S c=true:=λc hc=>by
  have h7:S.cells.any (λc=>!lQ aG p S c)=false:=by simpa using c7
  have:=List.any_eq_false.1 h7 c hc;simpa using this
 cases ht:cE aG p S [] S.threads with
 | none=>rw[ht] at c3;cases c3
 | some gs=>
  refine⟨l2,(mB hsh).2.1,l1,by omega,l4,l3,l5,λc hc=>?_,λth hth=>⟨?_,λf hf=>nG (iW _ _ _ ht th hth f hf) hregs hj⟩⟩
  ·have h1:=hcm c hc
   have h2:=hheap c hc
   rw[kD] at h1
   cases hq:cU S c with
   | none=>rw[hq] at h1;cases h1
   | some x=>
    obtain⟨a,b,n⟩:=x
    rw[hq] at h1
    simp only[Bool.and_eq_true] at h1
    have hlen:(c.frames.length:Int)=n:=beq_iff_eq.1 h1.1.1.2
    by_cases k5:c.kind=5
    ·by_cases n0:c.num=0
     ·have hn:n=1:=by
       unfold cU at hq
       simp only[k5,n0,if_pos] at hq
       simp at hq
       exact hq.2.2.symm
      refine⟨by omega,λf hf=>?_⟩
      unfold lQ at h2
      rw[if_neg (by omega),if_pos k5,n0] at h2
      cases hfr:c.frames with
      | nil=>rw[hfr] at hf;cases hf
      | cons f0 r=>
       rw[hfr] at h2 hf hlen
       have hr:r=[]:=by
        rw[hn,List.length_cons] at hlen
        exact List.length_eq_zero_iff.1 (by omega)
       subst hr
       obtain rfl:f=f0:=by simpa using hf
       have h3:nO aG p S f=true:=h2
       unfold nO at h3
       simp only[Bool.and_eq_true] at h3
       exact nG h3.1.1.1.1 hregs hj
     ·have hn:n=0:=by
       unfold cU at hq
       simp only[k5,if_neg n0] at hq
       simp at hq
       exact hq.2.2.symm
      have:c.frames=[]:=List.length_eq_zero_iff.1 (by omega)
      rw[this]
      exact⟨by simp,λf hf=>by cases hf⟩
    ·have hn:n=0:=by
      unfold cU at hq
      simp only[if_neg k5] at hq
      repeat (split at hq;· simp at hq;exact hq.2.2.symm)
      cases hq
     have:c.frames=[]:=List.length_eq_zero_iff.1 (by omega)
     rw[this]
     exact⟨by simp,λf hf=>by cases hf⟩
  ·have h8:¬(S.threads.any λh=>decide (30<h.frames.length))=true:=λhh=>c2 (.inr hh)
   have h9:(S.threads.any λh=>decide (30<h.frames.length))=false:=by simpa using h8
   have:=List.any_eq_false.1 h9 th hth
   simp at this
   exact this
end
section
open Go.RowKit
theorem lH:(prog.info? 48).map (λi=>(i.zero.map (·.cells.size),i.size,i.bytes))=some (some 2,2,16):=by kernel_rfl
theorem abH (v:Value) (rows:List (List Value)) (w:World) (p:aH w w.heap.size 2 (Raw 2) v rows) (D:∀r∈rows,∀u∈r,u.oneCell'=true) (E:rows.length*16<=140737488355328) : Calls prog 60 #[v] w λe w'=>∃u,e=.returned u/\w'.ownsRow w.heap.size 48 2 u rows.length (rows.flatMap id)/\Below w.heap.size w w':=by
 have d:∀x∈rows,x.length=2:=λx hx=>by obtain⟨cs,_,h⟩:=p.mem hx;exact h
 obtain⟨A,l,rfl,a2,a3,i⟩:=id p;cases A with
 | none=>
  have e:rows=[]:=by
   rcases Nat.eq_zero_or_pos rows.length with h | h
   ·exact List.length_eq_zero_iff.1 h
   ·obtain⟨b,I,h,_⟩:=i h;cases h
  subst e
  have M:∀W,(binOp .eql 23 (.slice none 0 l) (.slice none 0 0)).run prog W=.ok (.bool true) W:=λW=>Lib.run_eql_slice_nil W _ _ _ _ _ _ _ underlying23
  clear i p d D
  simp only[List.length_nil] at *
  go_enter func60,ntmps60
  go_wp2_with fail
  go_ret
  exact⟨_,rfl,World.ownsRow_nil _ _ _ _,Below.refl _ _⟩
 | some ad=>
  have M:∀W,(binOp .eql 23 (.slice (some ad) rows.length l) (.slice none 0 0)).run prog W=.ok (.bool false) W:=λW=>Lib.run_eql_slice_nil W _ _ _ _ _ _ _ underlying23
  have g:∀j u,(rows.flatMap id)[j]? = some u->w.cell? (ad.add j)=some u:=by
   rcases Nat.eq_zero_or_pos rows.length with h | h
   ·have e:rows=[]:=List.length_eq_zero_iff.1 h
    subst e;simp
   ·obtain⟨b,I,h,_⟩:=i h
    injection h with h
    subst h
    exact dQ (by decide) d (λcs x h=>h.1) p
  obtain⟨Z,hi,J⟩:=Option.map_eq_some_iff.1 lH
  simp only[Prod.mk.injEq] at J
  obtain⟨K,q,s⟩:=J
  obtain⟨z,y,C⟩:=Option.map_eq_some_iff.1 K
  have N:=hI g
  have O:=hI hi
  have P:=hI y
  have F:=hI q
  have G:=hI s
  have H:=hI C
  have hl:rows.length<=maxLen:=by unfold maxLen;omega
  have R:=hI hl
  have HR:=hI d
  have S:=hI (gO (f:=id) rows D)
  have V:=hI (gE (f:=id) rows d)
  clear g hi y q s C K hl d D p i
  go_enter func60,ntmps60
  go_wp2_with (at_builtin;refine wpList_append_own _ rfl _ _ 23 rfl w.heap.size 48 Z z 2 16 underlying23 O.o P.o F.o G.o H.o (by decide) (.slice (some ⟨w.heap.size,0,none⟩) 0 0) 0 [] rfl (gN _ _ _) ad rows.length l (rows.flatMap id) rfl V.o (λj u hj=>iM (N.o j u hj) _) S.o (by rw[Nat.zero_add];exact R.o) (by rw[Nat.zero_add];exact E) (by simp) ?_)
  intro v' w6 m L _
  have X:=hI L
  have Y:=hI m
  clear L m
  go_wp2_with fail
  go_ret
  refine⟨_,rfl,by simpa using Y.o,Below.grown (aB w _) X.o (by simp) (by simp[Value.ownBlock])⟩
theorem xU:(prog.info? 61).map (λi=>(i.zero.map (·.cells.size),i.size,i.bytes))=some (some 8,8,96):=by kernel_rfl
theorem abL (v:Value) (rows:List (List Value)) (w:World) (p:aH w w.heap.size 8 (Raw 8) v rows) (D:∀r∈rows,∀u∈r,u.oneCell'=true) (E:rows.length*96<=140737488355328) : Calls prog 62 #[v] w λe w'=>∃u,e=.returned u/\w'.ownsRow w.heap.size 61 8 u rows.length (rows.flatMap id)/\Below w.heap.size w w':=by
 have d:∀x∈rows,x.length=8:=λx hx=>by obtain⟨cs,_,h⟩:=p.mem hx;exact h
 obtain⟨A,l,rfl,a2,a3,i⟩:=id p;cases A with
 | none=>
  have e:rows=[]:=by
   rcases Nat.eq_zero_or_pos rows.length with h | h
   ·exact List.length_eq_zero_iff.1 h
   ·obtain⟨b,I,h,_⟩:=i h;cases h
  subst e
  have M:∀W,(binOp .eql 53 (.slice none 0 l) (.slice none 0 0)).run prog W=.ok (.bool true) W:=λW=>Lib.run_eql_slice_nil W _ _ _ _ _ _ _ underlying53
  clear i p d D
  simp only[List.length_nil] at *
  go_enter func62,ntmps62
  go_wp2_with fail
  go_ret
  exact⟨_,rfl,World.ownsRow_nil _ _ _ _,Below.refl _ _⟩
 | some ad=>
  have M:∀W,(binOp .eql 53 (.slice (some ad) rows.length l) (.slice none 0 0)).run prog W=.ok (.bool false) W:=λW=>Lib.run_eql_slice_nil W _ _ _ _ _ _ _ underlying53
  have g:∀j u,(rows.flatMap id)[j]? = some u->w.cell? (ad.add j)=some u:=by
   rcases Nat.eq_zero_or_pos rows.length with h | h
   ·have e:rows=[]:=List.length_eq_zero_iff.1 h
    subst e;simp
   ·obtain⟨b,I,h,_⟩:=i h
    injection h with h
    subst h
    exact dQ (by decide) d (λcs x h=>h.1) p
  obtain⟨Z,hi,J⟩:=Option.map_eq_some_iff.1 xU
  simp only[Prod.mk.injEq] at J
  obtain⟨K,q,s⟩:=J
  obtain⟨z,y,C⟩:=Option.map_eq_some_iff.1 K
  have N:=hI g
  have O:=hI hi
  have P:=hI y
  have F:=hI q
  have G:=hI s
  have H:=hI C
  have hl:rows.length<=maxLen:=by unfold maxLen;omega
  have R:=hI hl
  have HR:=hI d
  have S:=hI (gO (f:=id) rows D)
  have V:=hI (gE (f:=id) rows d)
  clear g hi y q s C K hl d D p i
  go_enter func62,ntmps62
  go_wp2_with (at_builtin;refine wpList_append_own _ rfl _ _ 53 rfl w.heap.size 61 Z z 8 96 underlying53 O.o P.o F.o G.o H.o (by decide) (.slice (some ⟨w.heap.size,0,none⟩) 0 0) 0 [] rfl (gN _ _ _) ad rows.length l (rows.flatMap id) rfl V.o (λj u hj=>iM (N.o j u hj) _) S.o (by rw[Nat.zero_add];exact R.o) (by rw[Nat.zero_add];exact E) (by simp) ?_)
  intro v' w6 m L _
  have X:=hI L
  have Y:=hI m
  clear L m
  go_wp2_with fail
  go_ret
  refine⟨_,rfl,by simpa using Y.o,Below.grown (aB w _) X.o (by simp) (by simp[Value.ownBlock])⟩
theorem rR:(prog.info? 55).map (λi=>(i.zero.map (·.cells.size),i.size,i.bytes))=some (some 4,4,64):=by kernel_rfl
theorem abM (v:Value) (rows:List (List Value)) (w:World) (p:aH w w.heap.size 4 (Raw 4) v rows) (D:∀r∈rows,∀u∈r,u.oneCell'=true) (E:rows.length*64<=140737488355328) : Calls prog 64 #[v] w λe w'=>∃u,e=.returned u/\w'.ownsRow w.heap.size 55 4 u rows.length (rows.flatMap id)/\Below w.heap.size w w':=by
 have d:∀x∈rows,x.length=4:=λx hx=>by obtain⟨cs,_,h⟩:=p.mem hx;exact h
 obtain⟨A,l,rfl,a2,a3,i⟩:=id p;cases A with
 | none=>
  have e:rows=[]:=by
   rcases Nat.eq_zero_or_pos rows.length with h | h
   ·exact List.length_eq_zero_iff.1 h
   ·obtain⟨b,I,h,_⟩:=i h;cases h
  subst e
  have M:∀W,(binOp .eql 35 (.slice none 0 l) (.slice none 0 0)).run prog W=.ok (.bool true) W:=λW=>Lib.run_eql_slice_nil W _ _ _ _ _ _ _ underlying35
  clear i p d D
  simp only[List.length_nil] at *
  go_enter func64,ntmps64
  go_wp2_with fail
  go_ret
  exact⟨_,rfl,World.ownsRow_nil _ _ _ _,Below.refl _ _⟩
 | some ad=>
  have M:∀W,(binOp .eql 35 (.slice (some ad) rows.length l) (.slice none 0 0)).run prog W=.ok (.bool false) W:=λW=>Lib.run_eql_slice_nil W _ _ _ _ _ _ _ underlying35
  have g:∀j u,(rows.flatMap id)[j]? = some u->w.cell? (ad.add j)=some u:=by
   rcases Nat.eq_zero_or_pos rows.length with h | h
   ·have e:rows=[]:=List.length_eq_zero_iff.1 h
    subst e;simp
   ·obtain⟨b,I,h,_⟩:=i h
    injection h with h
    subst h
    exact dQ (by decide) d (λcs x h=>h.1) p
  obtain⟨Z,hi,J⟩:=Option.map_eq_some_iff.1 rR
  simp only[Prod.mk.injEq] at J
  obtain⟨K,q,s⟩:=J
  obtain⟨z,y,C⟩:=Option.map_eq_some_iff.1 K
  have N:=hI g
  have O:=hI hi
  have P:=hI y
  have F:=hI q
  have G:=hI s
  have H:=hI C
  have hl:rows.length<=maxLen:=by unfold maxLen;omega
  have R:=hI hl
  have HR:=hI d
  have S:=hI (gO (f:=id) rows D)
  have V:=hI (gE (f:=id) rows d)
  clear g hi y q s C K hl d D p i
  go_enter func64,ntmps64
  go_wp2_with (at_builtin;refine wpList_append_own _ rfl _ _ 35 rfl w.heap.size 55 Z z 4 64 underlying35 O.o P.o F.o G.o H.o (by decide) (.slice (some ⟨w.heap.size,0,none⟩) 0 0) 0 [] rfl (gN _ _ _) ad rows.length l (rows.flatMap id) rfl V.o (λj u hj=>iM (N.o j u hj) _) S.o (by rw[Nat.zero_add];exact R.o) (by rw[Nat.zero_add];exact E) (by simp) ?_)
  intro v' w6 m L _
  have X:=hI L
  have Y:=hI m
  clear L m
  go_wp2_with fail
  go_ret
  refine⟨_,rfl,by simpa using Y.o,Below.grown (aB w _) X.o (by simp) (by simp[Value.ownBlock])⟩
theorem xR:(prog.info? 57).map (λi=>(i.zero.map (·.cells.size),i.size,i.bytes))=some (some 5,5,56):=by kernel_rfl
theorem abI (v:Value) (rows:List (List Value)) (w:World) (p:aH w w.heap.size 5 (Raw 5) v rows) (D:∀r∈rows,∀u∈r,u.oneCell'=true) (E:rows.length*56<=140737488355328) : Calls prog 65 #[v] w λe w'=>∃u,e=.returned u/\w'.ownsRow w.heap.size 57 5 u rows.length (rows.flatMap id)/\Below w.heap.size w w':=by
 have d:∀x∈rows,x.length=5:=λx hx=>by obtain⟨cs,_,h⟩:=p.mem hx;exact h
 obtain⟨A,l,rfl,a2,a3,i⟩:=id p;cases A with
 | none=>
  have e:rows=[]:=by
   rcases Nat.eq_zero_or_pos rows.length with h | h
   ·exact List.length_eq_zero_iff.1 h
   ·obtain⟨b,I,h,_⟩:=i h;cases h
  subst e
  have M:∀W,(binOp .eql 37 (.slice none 0 l) (.slice none 0 0)).run prog W=.ok (.bool true) W:=λW=>Lib.run_eql_slice_nil W _ _ _ _ _ _ _ underlying37
  clear i p d D
  simp only[List.length_nil] at *
  go_enter func65,ntmps65
  go_wp2_with fail
  go_ret
  exact⟨_,rfl,World.ownsRow_nil _ _ _ _,Below.refl _ _⟩
 | some ad=>
  have M:∀W,(binOp .eql 37 (.slice (some ad) rows.length l) (.slice none 0 0)).run prog W=.ok (.bool false) W:=λW=>Lib.run_eql_slice_nil W _ _ _ _ _ _ _ underlying37
  have g:∀j u,(rows.flatMap id)[j]? = some u->w.cell? (ad.add j)=some u:=by
   rcases Nat.eq_zero_or_pos rows.length with h | h
   ·have e:rows=[]:=List.length_eq_zero_iff.1 h
    subst e;simp
   ·obtain⟨b,I,h,_⟩:=i h
    injection h with h
    subst h
    exact dQ (by decide) d (λcs x h=>h.1) p
  obtain⟨Z,hi,J⟩:=Option.map_eq_some_iff.1 xR
  simp only[Prod.mk.injEq] at J
  obtain⟨K,q,s⟩:=J
  obtain⟨z,y,C⟩:=Option.map_eq_some_iff.1 K
  have N:=hI g
  have O:=hI hi
  have P:=hI y
  have F:=hI q
  have G:=hI s
  have H:=hI C
  have hl:rows.length<=maxLen:=by unfold maxLen;omega
  have R:=hI hl
  have HR:=hI d
  have S:=hI (gO (f:=id) rows D)
  have V:=hI (gE (f:=id) rows d)
  clear g hi y q s C K hl d D p i
  go_enter func65,ntmps65
  go_wp2_with (at_builtin;refine wpList_append_own _ rfl _ _ 37 rfl w.heap.size 57 Z z 5 56 underlying37 O.o P.o F.o G.o H.o (by decide) (.slice (some ⟨w.heap.size,0,none⟩) 0 0) 0 [] rfl (gN _ _ _) ad rows.length l (rows.flatMap id) rfl V.o (λj u hj=>iM (N.o j u hj) _) S.o (by rw[Nat.zero_add];exact R.o) (by rw[Nat.zero_add];exact E) (by simp) ?_)
  intro v' w6 m L _
  have X:=hI L
  have Y:=hI m
  clear L m
  go_wp2_with fail
  go_ret
  refine⟨_,rfl,by simpa using Y.o,Below.grown (aB w _) X.o (by simp) (by simp[Value.ownBlock])⟩
theorem xT:(prog.info? 51).map (λi=>(i.zero.map (·.cells.size),i.size,i.bytes))=some (some 2,2,16):=by kernel_rfl
theorem abK (v:Value) (rows:List (List Value)) (w:World) (p:aH w w.heap.size 2 (Raw 2) v rows) (D:∀r∈rows,∀u∈r,u.oneCell'=true) (E:rows.length*16<=140737488355328) : Calls prog 66 #[v] w λe w'=>∃u,e=.returned u/\w'.ownsRow w.heap.size 51 2 u rows.length (rows.flatMap id)/\Below w.heap.size w w':=by
 have d:∀x∈rows,x.length=2:=λx hx=>by obtain⟨cs,_,h⟩:=p.mem hx;exact h
 obtain⟨A,l,rfl,a2,a3,i⟩:=id p;cases A with
 | none=>
  have e:rows=[]:=by
   rcases Nat.eq_zero_or_pos rows.length with h | h
   ·exact List.length_eq_zero_iff.1 h
   ·obtain⟨b,I,h,_⟩:=i h;cases h
  subst e
  have M:∀W,(binOp .eql 36 (.slice none 0 l) (.slice none 0 0)).run prog W=.ok (.bool true) W:=λW=>Lib.run_eql_slice_nil W _ _ _ _ _ _ _ underlying36
  clear i p d D
  simp only[List.length_nil] at *
  go_enter func66,ntmps66
  go_wp2_with fail
  go_ret
  exact⟨_,rfl,World.ownsRow_nil _ _ _ _,Below.refl _ _⟩
 | some ad=>
  have M:∀W,(binOp .eql 36 (.slice (some ad) rows.length l) (.slice none 0 0)).run prog W=.ok (.bool false) W:=λW=>Lib.run_eql_slice_nil W _ _ _ _ _ _ _ underlying36
  have g:∀j u,(rows.flatMap id)[j]? = some u->w.cell? (ad.add j)=some u:=by
   rcases Nat.eq_zero_or_pos rows.length with h | h
   ·have e:rows=[]:=List.length_eq_zero_iff.1 h
    subst e;simp
   ·obtain⟨b,I,h,_⟩:=i h
    injection h with h
    subst h
    exact dQ (by decide) d (λcs x h=>h.1) p
  obtain⟨Z,hi,J⟩:=Option.map_eq_some_iff.1 xT
  simp only[Prod.mk.injEq] at J
  obtain⟨K,q,s⟩:=J
  obtain⟨z,y,C⟩:=Option.map_eq_some_iff.1 K
  have N:=hI g
  have O:=hI hi
  have P:=hI y
  have F:=hI q
  have G:=hI s
  have H:=hI C
  have hl:rows.length<=maxLen:=by unfold maxLen;omega
  have R:=hI hl
  have HR:=hI d
  have S:=hI (gO (f:=id) rows D)
  have V:=hI (gE (f:=id) rows d)
  clear g hi y q s C K hl d D p i
  go_enter func66,ntmps66
  go_wp2_with (at_builtin;refine wpList_append_own _ rfl _ _ 36 rfl w.heap.size 51 Z z 2 16 underlying36 O.o P.o F.o G.o H.o (by decide) (.slice (some ⟨w.heap.size,0,none⟩) 0 0) 0 [] rfl (gN _ _ _) ad rows.length l (rows.flatMap id) rfl V.o (λj u hj=>iM (N.o j u hj) _) S.o (by rw[Nat.zero_add];exact R.o) (by rw[Nat.zero_add];exact E) (by simp) ?_)
  intro v' w6 m L _
  have X:=hI L
  have Y:=hI m
  clear L m
  go_wp2_with fail
  go_ret
  refine⟨_,rfl,by simpa using Y.o,Below.grown (aB w _) X.o (by simp) (by simp[Value.ownBlock])⟩
theorem wF:(prog.info? 107).map (λi=>(i.zero.map (·.cells.size),i.size,i.bytes))=some (some 3,3,24):=by kernel_rfl
theorem yD (v:Value) (rows:List (List Value)) (w:World) (p:aH w w.heap.size 3 (Raw 3) v rows) (D:∀r∈rows,∀u∈r,u.oneCell'=true) (E:rows.length*24<=140737488355328) : Calls prog 68 #[v] w λe w'=>∃u,e=.returned u/\w'.ownsRow w.heap.size 107 3 u rows.length (rows.flatMap id)/\Below w.heap.size w w':=by
 have d:∀x∈rows,x.length=3:=λx hx=>by obtain⟨cs,_,h⟩:=p.mem hx;exact h
 obtain⟨A,l,rfl,a2,a3,i⟩:=id p;cases A with
 | none=>
  have e:rows=[]:=by
   rcases Nat.eq_zero_or_pos rows.length with h | h
   ·exact List.length_eq_zero_iff.1 h
   ·obtain⟨b,I,h,_⟩:=i h;cases h
  subst e
  have M:∀W,(binOp .eql 38 (.slice none 0 l) (.slice none 0 0)).run prog W=.ok (.bool true) W:=λW=>Lib.run_eql_slice_nil W _ _ _ _ _ _ _ underlying38
  clear i p d D
  simp only[List.length_nil] at *
  go_enter func68,ntmps68
  go_wp2_with fail
  go_ret
  exact⟨_,rfl,World.ownsRow_nil _ _ _ _,Below.refl _ _⟩
 | some ad=>
  have M:∀W,(binOp .eql 38 (.slice (some ad) rows.length l) (.slice none 0 0)).run prog W=.ok (.bool false) W:=λW=>Lib.run_eql_slice_nil W _ _ _ _ _ _ _ underlying38
  have g:∀j u,(rows.flatMap id)[j]? = some u->w.cell? (ad.add j)=some u:=by
   rcases Nat.eq_zero_or_pos rows.length with h | h
   ·have e:rows=[]:=List.length_eq_zero_iff.1 h
    subst e;simp
   ·obtain⟨b,I,h,_⟩:=i h
    injection h with h
    subst h
    exact dQ (by decide) d (λcs x h=>h.1) p
  obtain⟨Z,hi,J⟩:=Option.map_eq_some_iff.1 wF
  simp only[Prod.mk.injEq] at J
  obtain⟨K,q,s⟩:=J
  obtain⟨z,y,C⟩:=Option.map_eq_some_iff.1 K
  have N:=hI g
  have O:=hI hi
  have P:=hI y
  have F:=hI q
  have G:=hI s
  have H:=hI C
  have hl:rows.length<=maxLen:=by unfold maxLen;omega
  have R:=hI hl
  have HR:=hI d
  have S:=hI (gO (f:=id) rows D)
  have V:=hI (gE (f:=id) rows d)
  clear g hi y q s C K hl d D p i
  go_enter func68,ntmps68
  go_wp2_with (at_builtin;refine wpList_append_own _ rfl _ _ 38 rfl w.heap.size 107 Z z 3 24 underlying38 O.o P.o F.o G.o H.o (by decide) (.slice (some ⟨w.heap.size,0,none⟩) 0 0) 0 [] rfl (gN _ _ _) ad rows.length l (rows.flatMap id) rfl V.o (λj u hj=>iM (N.o j u hj) _) S.o (by rw[Nat.zero_add];exact R.o) (by rw[Nat.zero_add];exact E) (by simp) ?_)
  intro v' w6 m L _
  have X:=hI L
  have Y:=hI m
  clear L m
  go_wp2_with fail
  go_ret
  refine⟨_,rfl,by simpa using Y.o,Below.grown (aB w _) X.o (by simp) (by simp[Value.ownBlock])⟩
end
section
open Go.RowKit
section
variable {P:Program} {ops:Array Oper} {md:Region.Mode} {C:World->Prop} {Q:Exit->Act->World->Prop}
def zA (o:Oper):Bool:=match o.op with | .move _=>true | _=>false
theorem cR.of_move {o:Oper} {v:Value} {a:Act} (e:zA o=true) {w:World} (j:C w) (l:YieldsIn P ops C o v a):cR P ops (λ_=>True) o v a:=by
 obtain⟨q,op,i,r,f,g⟩:=o;cases op <;> simp only[zA] at e <;> (first | (cases e;done) | skip);rcases ad8 (by rfl) l with ⟨m,p⟩ | h
 ·refine .inl ⟨m,λw' _=>?_⟩;have d:=p w j;simp only[execOp,Sem.run_pure] at d ⊢;injection d with d
  rw[d]
 ·exact .inr h
theorem vH {F:Nat->Bool} {i:Nat} {q:Oper} {v:Value} (hi:ops[i]? = some q) (R:F i=false) (z:∀(j:Nat) (o:Oper) cs b,ops[j]? = some o->o.op≠.select cs b) (Y:∀c a w,Q (.panic c) (a.put q.dst v) w->Q (.panic c) a w) : ∀(g:Nat) (d:Array Bool) (a:Act) (w:World),(∀j m,ops[j]? = some m->j≠i->d.getD j true=false->(∀e∈m.after,Region.binds md e=true->e.on≠i)->q.apart ops m=true)-> i∈Region.ready md ops d->cR P ops (λ_=>True) q v a-> cN P md ops C F Q g (d.setIfInBounds i true) (a.put q.dst v) w->cN P md ops C F Q (g+1) d a w:=by
 intro g;induction g with
 | zero=>
  intro d a w _ p A H
  refine⟨λh=>(by rw[h] at p;cases p),λj D=>?_⟩
  by_cases f:j=i
  ·subst f;exact A.wpOp hi trivial ⟨λh=>(by rw[R] at h;cases h),H⟩
  ·have:=ready_mono D f
   rw[H.1] at this
   cases this
 | succ g ih=>
  intro d a w r p A H
  refine⟨λh=>(by rw[h] at p;cases p),λj D=>?_⟩
  by_cases f:j=i
  ·subst f;exact A.wpOp hi trivial ⟨λh=>(by rw[R] at h;cases h),H⟩
  ·have l:=H.2 j (ready_mono D f)
   obtain⟨u,m,x,J⟩:=mem_ready.1 D
   have I:∀e∈m.after,Region.binds md e=true->e.on≠i:=λe V hb M=>by
    have l:=J e V hb
    have L:=(mem_ready.1 p).1
    rw[M] at l
    rcases Nat.lt_or_ge i d.size with h' | h'
    ·simp[h'] at L l;rw[L] at l;cases l
    ·simp[Array.getElem?_eq_none h'] at l
   have S:=oY x (r j m x f u I) (λcs b=>z i q cs b hi) (λcs b=>z j m cs b x) Y A l
   have s:∀k y,ops[k]? = some y->k≠i->(d.setIfInBounds j true).getD k true=false->
     (∀e∈y.after,Region.binds md e=true->e.on≠i)->q.apart ops y=true:=λk y W N E O=>by
    refine r k y W N ?_ O
    by_cases G:j=k
    ·subst G;exact u
    ·rw[getD_set_ne true G] at E;exact E
   refine wpOp_mono (λX w' K=>⟨K.2.1,ih (d.setIfInBounds j true) X w' s (ready_mono p (Ne.symm f)) K.1 ?_⟩) S
   rw[Array.setIfInBounds_comm _ _ f]
   exact K.2.2
theorem sR {Inv:Array Bool->Prop} (N:∀d j,Inv d->j∈Region.ready md ops d->Inv (d.setIfInBounds j true)) {F:Nat->Bool} {i:Nat} {q:Oper} {v:Value} (hi:ops[i]? = some q) (D:∀(j:Nat) (o:Oper) cs b,ops[j]? = some o->o.op≠.select cs b) (hQ:∀c a w,Q (.panic c) (a.put q.dst v) w->Q (.panic c) a w) (I:∀d j,Inv d->d.getD i true=false->j∈Region.ready md ops d->F j=true) : ∀(g:Nat) (d:Array Bool) (a:Act) (w:World),Inv d->C w-> (∀j p,ops[j]? = some p->j≠i->d.getD j true=false->(∀e∈p.after,Region.binds md e=true->e.on≠i)->q.apart ops p=true)-> i∈Region.ready md ops d->cR P ops C q v a-> cN P md ops C F Q g (d.setIfInBounds i true) (a.put q.dst v) w->cN P md ops C F Q (g+1) d a w:=by
 intro g;induction g with
 | zero=>
  intro d a w _ z _ l E H
  refine⟨λh=>(by rw[h] at l;cases l),λj s=>?_⟩
  by_cases f:j=i
  ·subst f;exact E.wpOp hi z ⟨λ_=>z,H⟩
  ·have:=ready_mono s f
   rw[H.1] at this
   cases this
 | succ g ih=>
  intro d a w R z r l E H
  refine⟨λh=>(by rw[h] at l;cases l),λj s=>?_⟩
  by_cases f:j=i
  ·subst f;exact E.wpOp hi z ⟨λ_=>z,H⟩
  ·have m:=H.2 j (ready_mono s f)
   obtain⟨x,p,y,M⟩:=mem_ready.1 s
   have L:∀e∈p.after,Region.binds md e=true->e.on≠i:=λe Z hb S=>by
    have m:=M e Z hb
    have O:=(mem_ready.1 l).1
    rw[S] at m
    rcases Nat.lt_or_ge i d.size with h' | h'
    ·simp[h'] at O m;rw[O] at m;cases m
    ·simp[Array.getElem?_eq_none h'] at m
   have X:=oY y (r j p y f x L) (λcs b=>D i q cs b hi) (λcs b=>D j p cs b y) hQ E m
   have u:∀k A,ops[k]? = some A->k≠i->(d.setIfInBounds j true).getD k true=false->
     (∀e∈A.after,Region.binds md e=true->e.on≠i)->q.apart ops A=true:=λk A hk V J W=>by
    refine r k A hk V ?_ W
    by_cases K:j=k
    ·subst K;exact x
    ·rw[getD_set_ne true K] at J;exact J
   have Y:=I d j R (mem_ready.1 l).1 s
   refine wpOp_mono (λa' w' G=>⟨G.2.1,ih (d.setIfInBounds j true) a' w' (N _ _ R s) (G.2.1 Y) u (ready_mono l (Ne.symm f)) G.1 ?_⟩) X
   rw[Array.setIfInBounds_comm _ _ f]
   exact G.2.2
theorem oF {Inv:Array Bool->Prop} (f:∀e j,Inv e->j∈Region.ready md ops e->Inv (e.setIfInBounds j true)) {F:Nat->Bool} {ms qs0:List Nat} (p:Region.noSelect ops=true) (A:∀(c:_) (a:Act) (d:Option Tmp) (v:Value) (w:World),Q (.panic c) (a.put d v) w->Q (.panic c) a w)
  (m:∀e i j,i∈qs0->Inv e->e.getD i true=false->j∈Region.ready md ops e->F j=true) {w:World} (D:C w) :
  ∀(qs:List Nat) (e:Array Bool) (a:Act),(∀i∈qs,i∈qs0)->Inv e->rG md ops ms qs e=true->
   wpQuiet P ops C (λs=>gA P ops C F Q ms s w) (qs.filterMap (ops[·]?)) a->cN P md ops C F Q (qs.length+ms.length) e a w
 | [],e,a,_,_,hB,h=>by
  rw[List.length_nil,Nat.zero_add]
  exact d9 ms e a w hB h
 | i::rest,e,a,hsub,hc,hB,h=>by
  simp only[rG,Bool.and_eq_true] at hB
  obtain⟨⟨⟨E,hf⟩,q⟩,y⟩:=hB
  have r:i∈Region.ready md ops e:=by simpa using E
  cases g:ops[i]? with
  | none=>rw[g] at q;cases q
  | some o=>
   rw[g] at q
   have u:j6 o=true:=q
   simp only[List.filterMap_cons,g] at h
   have x:qOp P ops C i (wpQuiet P ops C (λs=>gA P ops C F Q ms s w) (rest.filterMap (ops[·]?))) a:=by unfold qOp;simp only[g];exact h
   obtain⟨v,G,H⟩:=yieldsIn_of_qOp g x
   rw[List.length_cons,show rest.length+1+ms.length=(rest.length+ms.length)+1 by omega]
   exact sR f g (Region.noSelect_spec p) (λc a w=>A c a _ _ w) (λl j z I J=>m l i j (hsub i (by simp)) z I J) _ e a w hc D (Region.free_spec g hf) r (ad8 u G)
    (oF f p A m D rest _ _ (λk K=>hsub k (by simp[K])) (f _ _ hc r) y H)
def yZ (md:Region.Mode) (ops:Array Oper) (ms qs:List Nat):List Nat->Array Bool->Bool
 | [],listed=>rG md ops ms qs listed
 | i::rest,listed=>(Region.ready md ops listed).contains i && Region.free md ops listed i && ((ops[i]?).map zA).getD false && yZ md ops ms qs rest (listed.setIfInBounds i true)
def commP (md:Region.Mode) (ops:Array Oper) (ps qs ms fl:List Nat):Bool:=
 Region.noSelect ops && v7 md ops (λj=>ps.contains j || (qs.contains j || fl.contains j)) ops.size qs && yZ md ops ms qs ps (Array.replicate ops.size false) && ps.all (λi=>!(qs.contains i || fl.contains i)) && decide (ps.length+(qs.length+ms.length)=ops.size)
theorem oG {F:Nat->Bool} {ms qs ps0:List Nat} (g:Region.noSelect ops=true) (z:∀(c:_) (a:Act) (d:Option Tmp) (v:Value) (w:World),Q (.panic c) (a.put d v) w->Q (.panic c) a w)
  (q:∀e i j,i∈qs->gL md ops e->(∀p∈ps0,e.getD p false=true)->e.getD i true=false->j∈Region.ready md ops e->F j=true) (H:∀p∈ps0,F p=false) {w:World} (A:C w) :
  ∀(s:List Nat) (e:Array Bool) (a:Act),(∀p∈ps0,p∈s\/e.getD p false=true)->(∀p∈s,p∈ps0)->gL md ops e->yZ md ops ms qs s e=true->
   wpQuiet P ops C (λx=>gA P ops C F Q ms x w) ((s++qs).filterMap (ops[·]?)) a->cN P md ops C F Q (s.length+(qs.length+ms.length)) e a w
 | [],e,a,hp,_,hc,hB,h=>by
  rw[List.length_nil,Nat.zero_add]
  rw[List.nil_append] at h
  have hl:∀p∈ps0,e.getD p false=true:=λp f=>by
   rcases hp p f with h1 | h1
   ·cases h1
   ·exact h1
  exact oF (Inv:=λl=>gL md ops l/\∀p∈ps0,l.getD p false=true) (λl j hI y=>⟨hI.1.set y,λp f=>getD_set_true (hI.2 p f)⟩) g z (λl i j hi hI L y=>q l i j hi hI.1 hI.2 L y) A qs e a (λ_ h=>h) ⟨hc,hl⟩ hB h
 | i::rest,e,a,hp,hsub,hc,hB,h=>by
  simp only[yZ,Bool.and_eq_true] at hB
  obtain⟨⟨⟨I,hf⟩,u⟩,G⟩:=hB
  have r:i∈Region.ready md ops e:=by simpa using I
  cases m:ops[i]? with
  | none=>rw[m] at u;cases u
  | some o=>
   rw[m] at u
   have D:zA o=true:=u
   simp only[List.cons_append,List.filterMap_cons,m] at h
   have E:qOp P ops C i (wpQuiet P ops C (λx=>gA P ops C F Q ms x w) ((rest++qs).filterMap (ops[·]?))) a:=by unfold qOp;simp only[m];exact h
   obtain⟨v,J,K⟩:=yieldsIn_of_qOp m E
   rw[List.length_cons,show rest.length+1+(qs.length+ms.length)=(rest.length+(qs.length+ms.length))+1 by omega]
   refine vH m (H i (hsub i (by simp))) (Region.noSelect_spec g) (λc a w=>z c a _ _ w) _ e a w (Region.free_spec m hf) r (cR.of_move D A J)
    (oG g z q H A rest _ _ (λp f=>?_) (λk M=>hsub k (by simp[M])) (hc.set r) G K)
   rcases hp p f with h1 | h1
   ·rcases List.mem_cons.1 h1 with rfl | h1
    ·right
     have:=(mem_ready.1 r).1
     rcases Nat.lt_or_ge p e.size with h' | h'
     ·simp[h']
     ·simp[Array.getElem?_eq_none h'] at this
    ·exact .inl h1
   ·exact .inr (getD_set_true h1)
theorem gG {id:Nat} {a:Act} {w:World} {l:List Oper} (C:World->Prop) (e qs ms g:List Nat) (E:List Oper) (L:P.follows .mixedOrders=true) (hB:commP .any l.toArray e qs ms g=true) (M:(e++qs).filterMap (l.toArray[·]?)=E) (N:∀(c:_) (a:Act) (d:Option Tmp) (v:Value) (w:World),Q (.panic c) (a.put d v) w->Q (.panic c) a w) (O:C w.drew) (h:wpQuiet P l.toArray C (λI=>gA P l.toArray C (λj=>qs.contains j || g.contains j) Q ms I w.drew) E a):(Code.region id l.toArray true).wp P Q a w:=by
 subst M;simp only[commP,Bool.and_eq_true,decide_eq_true_eq] at hB;obtain⟨⟨⟨⟨hsel,hlate⟩,hread⟩,hps⟩,hlen⟩:=hB;have G:∀p∈e,(qs.contains p || g.contains p)=false:=λp u=>by have:=List.all_eq_true.1 hps p u;simpa using this
 have H:=oG (md:=.any) (ps0:=e) (ms:=ms) (qs:=qs) (F:=λj=>qs.contains j || g.contains j) (Q:=Q) hsel N (λf i j hi J z K A=>by
  by_cases m:j∈qs;·simp[m]
  ·have x:=mQ hlate J hi K A m;have y:j∉e:=λD=>by
    have q:=z j D;have r:=(mem_ready.1 A).1;rcases Nat.lt_or_ge j f.size with h' | h';·simp[h'] at q r;rw[q] at r;cases r
    ·simp[Array.getElem?_eq_none h'] at q
   have s:e.contains j=false:=(by simpa using y);rw[s,Bool.false_or] at x;exact x) G O e (Array.replicate l.toArray.size false) a (λp u=>.inl u) (λ_ h=>h) (by
  intro j R _ hl;rw[getD_replicate_false] at hl;cases hl) hread h
 rw[hlen] at H;exact wp_region_any L (kS _ _ _ _ H)
theorem jJ {F:Nat->Bool} {f i:Nat} {e:Oper} {d:Array Bool} {a:Act} {w:World} (p:Region.ready md ops d=[i]) (hi:ops[i]? = some e) (g:∀K:Act->World->Prop,(∀a w,(F i=true->C w)->cN P md ops C F Q f (d.setIfInBounds i true) a w->K a w)->if Region.wanted e (yielded ops a.tmps) then e.wp P a w K Q else K (a.put e.dst undef) w) : cN P md ops C F Q (f+1) d a w:=by
 refine⟨λh=>(by rw[p] at h;cases h),λj m=>?_⟩;rw[p] at m;obtain rfl:j=i:=by simpa using m
 have:=g (λq w'=>(F j=true->C w')/\cN P md ops C F Q f (d.setIfInBounds j true) q w') (λ_ _ g r=>⟨g,r⟩);unfold wpOp;simp only[hi];split;·rename_i l;rw[if_pos l] at this;exact .inl this
 ·rename_i l;rw[if_neg l] at this;exact this
end
end
end Go.Proofs.YtjaphgpkkfdaaaaGreatDoor
