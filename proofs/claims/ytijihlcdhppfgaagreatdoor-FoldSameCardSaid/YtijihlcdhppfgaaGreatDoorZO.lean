/- A part of the walk. -/
import Derived.Test.YtijihlcdhppfgaaGreatDoorZL
import Derived.Test.YtijihlcdhppfgaaGreatDoorZN
set_option maxHeartbeats 16000000
set_option maxRecDepth 100000
set_option linter.all false
namespace Go.Proofs.YtijihlcdhppfgaaGreatDoor
open Tryz
section
open Go.RowKit
def xM (w:World) (B:Nat) (tv:Value) (p:aZ):Prop:=aB w B 1 (λcs (o:List (List iV))=>∃v,cs=[v]/\aB w B 1 (λcs t=>∃v,cs=[v]/\aB w B 2 kH v t) v o) tv (p.fns.map λf=>(dY f.code).out)
def acI (w:World) (B:Nat) (yv:Value) (p:aZ):Prop:=aB w B 1 (λcs (o:List Bool)=>∃v,cs=[v]/\aB w B 1 xS v o) yv (p.fns.map λf=>(dY f.code).seen)
theorem xM.keep {w w':World} {B B':Nat} {f:Value} {p:aZ} (h:xM w B f p) (hB:B<=B') (d:∀p:Addr,p.block<B->w'.cell? p=w.cell? p):xM w' B' f p:= aB.keep h hB d (λ_ _ ⟨v,e,h⟩=>⟨v,e,h.keep hB d (λ_ _ ⟨v,e,h⟩=>⟨v,e,h.keep hB d (λ_ _ h=>h)⟩)⟩)
theorem acI.keep {w w':World} {B B':Nat} {d:Value} {p:aZ} (h:acI w B d p) (hB:B<=B') (f:∀p:Addr,p.block<B->w'.cell? p=w.cell? p):acI w' B' d p:= aB.keep h hB f (λ_ _ ⟨v,e,h⟩=>⟨v,e,h.keep hB f (λ_ _ h=>h)⟩)
def lC (p:aZ):Prop:=∀f∈p.fns,(dY f.code).out.length=f.code.length/\(dY f.code).seen.length=f.code.length
structure kY (w:World) (lb:Nat) (p:aZ) (S:aP) (sb mb:Nat) (tv yv:Value):Prop where
 look:tZ w lb p S sb mb tv yv
 tries:xM w w.heap.size tv p
 ways:acI w w.heap.size yv p
theorem kY.below {w w':World} {g:Nat} {p:aZ} {S:aP} {j l:Nat} {q r:Value} (h:kY w g p S j l q r) (d:Below w.heap.size w w'):kY w' g p S j l q r:= ⟨h.look.below d,h.tries.keep d.size (λ_ f=>d.cell f),h.ways.keep d.size (λ_ f=>d.cell f)⟩
theorem ajR:∀args W,(callFunc 252 args).run prog W=.ok (.enter 252 args) W:=enters_of func252 (by kernel_rfl) rfl
theorem ajL (v:Val) (p:aZ) (S:aP) (g j F q:Nat) (G H:Value) (w:World) (h:tZ w g p S j F G H) (s:w.cell? ⟨q,0,none⟩=some (.pointer (some ⟨g,0,none⟩))) : Calls prog 252 #[.agg #[.int .i64 v.kind,.int .i64 v.n],.pointer (some ⟨q,0,none⟩)] w (aK (.bool (!eU aF S v)) w):=by
 obtain⟨w0,d⟩:∃w0,w0=w.alloc (.cells #[.int .i64 v.kind,.int .i64 v.n] 51):=⟨_,rfl⟩;have f:Hid (Below w.heap.size w w0):=by rw[d];exact aA w _
 obtain⟨⟨J,I,K,hl,-⟩,r,l⟩:=h;have C:Hid (∀E:Up w0,Calls prog 206 #[.pointer (some ⟨j,0,none⟩),.agg #[.int .i64 v.kind,.int .i64 v.n]] E.to (aK (.bool (eU aF S v)) E.to)):=λE=>ae2 v S j E.to ((l.below f.o).below E.below);have u:∀E:Up w0,E.to.cell? ⟨q,0,none⟩=some (.pointer (some ⟨g,0,none⟩)):=λE=>E.cell (aC f.o s);have x:∀E:Up w0,E.to.cell? ⟨g,3,none⟩=some (.pointer (some ⟨j,0,none⟩)):=λE=>E.cell ((f.o.cell r).trans (hl 3 _ rfl));have y:∀E:Up w0,E.to.cell? ⟨w.heap.size,0,none⟩=some (.int .i64 v.kind):=λE=>E.cell (by rw[d];exact cA _ _ _ _);have z:∀E:Up w0,E.to.cell? ⟨w.heap.size,1,none⟩=some (.int .i64 v.n):=λE=>E.cell (by rw[d];exact cA _ _ _ _);have A:=hI d;clear d hl l s;go_enter func252,ntmps252;go_upto_region 1 with fail;rw[<-A.o];refine aD (by kernel_rfl) (by kernel_rfl) ?_;repeat (go_big_quiet_step ((go_at_call 206;with_reducible exact Calls.up (C.o _))))
 refine wpQuiet_nil ?_;rintro _ ⟨E,rfl⟩;have D:=btZ f E.below;clear u x y z;go_wp2_with fail;go_ret;exact⟨rfl,D.o⟩
theorem ae1 (m8:List Value) (f:bC) (p:aZ) (S:aP) (A sb mb:Nat) (tv yv:Value) (w:World) (hf:dD w w.heap.size m8 f) (h:kY w A p S sb mb tv yv) (d6:lC p) : Calls prog 243 #[.pointer (some ⟨A,0,none⟩),.agg ⟨m8⟩] w (aK (.bool (eC aF p S f)) w):=by
 obtain⟨fn,at_,tos,gen,⟨P,R⟩,regs,tries⟩:=f;obtain⟨r,hr⟩:∃r,eC aF p S ⟨fn,at_,tos,gen,⟨P,R⟩,regs,tries⟩=r:=⟨_,rfl⟩;rw[hr];unfold eC at hr;dsimp only at hr;obtain⟨rv,C8,rfl,V,c9,wf,wa,-⟩:=hf;dsimp only at V c9 wf wa ⊢;obtain⟨RA,rc,rfl,-⟩:=id V;obtain⟨TA,tc,rfl,-⟩:=id c9;have lr:=aM V;have o9:=hI V;have p0:=hI c9;have LT:=hI h;obtain⟨pa,pb,pc,hl,k7⟩:=h.look.here;obtain⟨u4,k8,C9,D0,D1,D2,k9,e9,-⟩:=id k7;simp only[List.cons.injEq,and_true] at k9;obtain⟨rfl,rfl,rfl⟩:=k9;have lf:=aM e9;have p2:=hI e9;have b6:=h.look.size;have p3:=hI d6;obtain⟨YA,yc,l0,-⟩:=id h.ways;rw[List.length_map] at l0;obtain⟨ZA,zc,l2,-⟩:=id h.tries;rw[List.length_map] at l2;subst l0;subst l2;have p4:=hI h.ways;have p5:=hI h.tries;obtain⟨w0,f0⟩:∃w0,w0=(w.alloc (.cells #[.pointer (some ⟨A,0,none⟩)] 153)).alloc (.cells #[.int .i64 fn,.int .i64 at_,.int .i64 tos,.int .i64 gen,.int .i64 P,.int .i64 R,.slice RA regs.length rc,.slice TA tries.length tc] 145):=⟨_,rfl⟩;have TB:=nR w [.pointer (some ⟨A,0,none⟩)] [.int .i64 fn,.int .i64 at_,.int .i64 tos,.int .i64 gen,.int .i64 P,.int .i64 R,.slice RA regs.length rc,.slice TA tries.length tc] 153 145;rw[<-f0] at TB;obtain⟨t1,t2,t3⟩:=TB;have P1:=hI t1;have P2:=hI t2;have k0:=hI t3;have HL:=hI hl;have hz:w.heap.size+1<w0.heap.size:=eL (t2 0 _ rfl);have CW:Hid (∀W,Calls prog 146 #[.int .i64 fn,.int .i64 0,.int .i64 ((p.fns.length:Int) - 1)] W λe w'=>e=.returned (.bool (aL fn 0 ((p.fns.length:Int) - 1)))/\W=w'):=λW=>kC _ _ _ W;obtain⟨q1,f1⟩:∃q,aL fn 0 ((p.fns.length:Int) - 1)=q:=⟨_,rfl⟩;rw[f1] at CW hr;have q5:=hI f1;have HR:=hI hr;have s:=ecZ (t1 0 _ rfl);have u:=ecZ (t2 0 _ rfl);have y:∀E:Up w0,E.to.cell? ⟨A,0,none⟩=some (.slice u4 p.fns.length k8):=λE=>E.cell ((k0.out.cell b6).trans (hl 0 _ rfl));have HW:=hI f0;clear f0 hr f1 t1 t2 t3 hl k7 e9 h V c9 d6;go_enter func243,ntmps243;go_upto_region 1 with fail;rw[<-HW.out];refine aD (by kernel_rfl) (by kernel_rfl) ?_;repeat (go_big_quiet_step ((go_at_call 146;with_reducible exact akW (CW.out _))))
 refine wpQuiet_nil ?_;rintro _ ⟨E,rfl⟩;obtain⟨w1,k1⟩:=E;dsimp only;have D:=hI k1;have K1:=btZ k0 k1;clear s u y k1;cases q1
 case false=>
  have l:Hid (false=r):=by rw[<-HR.out];rfl
  clear wf wa;go_wp2_with fail;go_ret;exact⟨by rw[<-l.out];rfl,K1.out⟩
 obtain⟨u1,u2⟩:=gQ.1 q5.out;obtain⟨k,rfl⟩:=Int.eq_ofNat_of_zero_le u1;have hk:k<p.fns.length:=by omega
 have C5:(k:Int)<p.fns.length:=by omega
 obtain⟨b,f2,F,cs,rfl,u7,hx,-,⟨CA,cn,OA,on_,rfl,-,d0,-⟩,l3⟩:=p2.out.at_ hk;have y7:=aM d0;have q7:Hid (i8 p (k:Int)=F):=by show _=_;unfold i8;rw[Int.toNat_natCast,hx];rfl
 have q8:Hid (F∈p.fns):=lM hx;have HX:=hI hx;have r1:=hI (P1.out.on D.out);have r2:=hI (P2.out.on D.out);have b0:=ecZ (r1.out 0 _ rfl);have b1:=ecZ (r2.out 0 _ rfl);have b2:∀E:Up w1,E.to.cell? ⟨A,0,none⟩=some (.slice (some ⟨b,f2,none⟩) p.fns.length k8):=λE=>E.cell ((K1.out.cell b6).trans (HL.out 0 _ rfl));have RB:Hid (∀E:Up w1,E.to.rangeAt b (f2+k*5) [.int .i64 F.params,.int .i64 F.regs,.bool F.gen,.slice CA F.caught.length cn,.slice OA F.code.length on_]):=λE j v hv=>E.cell ((K1.out.cell u7).trans (l3 j v hv));clear l3 hx d0 u1 u2;go_upto_region 3 with fail;refine cE (λw'=>∃E:Up w1,w'=E.to) 9 [9,10] [9] (by kernel_rfl) (by decide) (by kernel_rfl) (λ_ _ d _ _ h=>by cases d <;> exact h) ⟨⟨_,(Below.refl _ w1).drew⟩,rfl⟩ ?_;simp only[List.take_succ_cons,List.take_zero];generalize n0:(λa'=>gT _ _ _ _ _ _ a' _)=qq;have i5:=hI n0;clear n0
 repeat (first
  | (refine dE 72 _ rfl rfl b (f2+k*5) rfl _ _ RB.out underlying72 rfl adI ?_;go_simp)
  | go_big_quiet_step (fail))
 refine wpQuiet_nil ?_;rw[<-i5.out];clear i5 qq;refine aR rfl (λK hK=>?_);go_simp;refine hK _ _ (λ_=>⟨⟨_,((Below.refl _ w1).alloc (Nat.le_refl _) _).drew⟩,rfl⟩) ?_;clear hK K;refine bG [10] _ _ (by kernel_rfl) (by kernel_rfl) ?_;simp only[List.filterMap_cons,List.filterMap_nil,List.getElem?_toArray,List.getElem?_cons_zero,List.getElem?_cons_succ];have e3:Hid ((w1.alloc (.cells #[.int .i64 0,.int .i64 0,.bool false,.slice none 0 0,.slice none 0 0] 72)).drew.heap[w1.heap.size]? = some (.cells #[.int .i64 0,.int .i64 0,.bool false,.slice none 0 0,.slice none 0 0] 72 (0,0))):=abX _ _;clear b0 b1 b2;go_upto_region 4 with (first | (refine wpList_store_row rfl 72 _ _ rfl w1.heap.size #[.int .i64 F.params,.int .i64 F.regs,.bool F.gen,.slice CA F.caught.length cn,.slice OA F.code.length on_] rfl rfl 72 _ e3.out adI rfl (oCz (by simp[Value.oneCell'])) ?_) | fail);generalize h4:World.setRow _ _ _=w2;have e4:=shZ h4 e3;have e5:Hid (Below w1.heap.size w1 w2):=by rw[<-h4];exact Below.set_row (((Below.refl _ w1).alloc (Nat.le_refl _) _).drew) (by omega) _
 have K2:=btZ K1 e5.out;clear h4 e3;(try dsimp only [Act.put]);have i6:w1.heap.size<w2.heap.size:=(aE e4.out).1;have i9:=hI (P1.out.on (D.out.trans (e5.out.mono D.out.size)));have e6:=hI (P2.out.on (D.out.trans (e5.out.mono D.out.size)));have CL:=hI (aaK ⟨P,R⟩ 4 p S A sb mb _ _ w2 (LT.out.below K2.out).look);have c0:=i9.out 0 _ rfl;have c4:=e6.out 4 _ rfl;have c5:=e6.out 5 _ rfl;go_wp2_with fail;refine CL.out.mono ?_;rintro e w3 ⟨ck,O,vv,fv,h3,rfl,⟨VA,VN,VC,rfl⟩,⟨FA,FN,FC,rfl⟩,m0,m7,k3⟩;have j0:=hI m0;have r4:=hI m7;have K3:=btZ K2 k3;have r5:=hI (i9.out.on k3);have r6:=hI (e6.out.on k3);have h6:Hid (w3.heap[w1.heap.size]? = some (.cells #[.int .i64 F.params,.int .i64 F.regs,.bool F.gen,.slice CA F.caught.length cn,.slice OA F.code.length on_] 72 (0,0))):=(k3.block _ i6).trans e4.out;have r7:w1.heap.size<w3.heap.size:=Nat.lt_of_lt_of_le i6 k3.size;clear c0 c4 c5 m0 m7 k3;go_upto_region 5 with fail;obtain⟨N,d1⟩:∃N,N=w3.alloc (.cells #[.int .i64 ck,.int .i64 O,.slice VA VN VC,.slice FA FN FC] 166):=⟨_,rfl⟩;have c3:Hid (Below w3.heap.size w3 N):=by rw[d1];exact aA _ _
 have G:=btZ K3 c3.out;have j1:=hI (r5.out.on c3.out);have c6:=hI (r6.out.on c3.out);have c7:Hid (N.heap[w1.heap.size]? = some (.cells #[.int .i64 F.params,.int .i64 F.regs,.bool F.gen,.slice CA F.caught.length cn,.slice OA F.code.length on_] 72 (0,0))):=(c3.out.block _ r7).trans h6.out;have n4:Hid (N.cell? ⟨w3.heap.size,1,none⟩=some (.int .i64 O)):=by rw[d1];exact cA _ _ _ _
 have s0:=hI d1;clear d1;rw[<-s0.out];obtain⟨m1,f8⟩:∃m,(match bZ S ⟨P,R⟩ 4 with | none=>false | some c=>c.num == (k:Int))=m:=⟨_,rfl⟩;obtain⟨m2,d2⟩:∃m,decide ((regs.length:Int)=(i8 p (k:Int)).regs)=m:=⟨_,rfl⟩;obtain⟨m3,d3⟩:∃m,aL at_ 0 (((i8 p (k:Int)).code.length:Int) - 1)=m:=⟨_,rfl⟩;obtain⟨m4,d4⟩:∃m,(dY (i8 p (k:Int)).code).seen.getD at_.toNat false=m:=⟨_,rfl⟩;obtain⟨m5,d5⟩:∃m,decide (tries=(dY (i8 p (k:Int)).code).out.getD at_.toNat [])=m:=⟨_,rfl⟩;obtain⟨m6,g0⟩:∃m,regs.all (eU aF S)=m:=⟨_,rfl⟩;have z:Hid ((true && m1 && m2 && m3 && m4 && m5 && m6)=r):=by rw[<-HR.out,<-f8,<-d2,<-d3,<-d4,<-d5,<-g0];rfl
 rw[q7.out] at d2 d3 d4 d5;have j2:=hI f8;have j3:=hI d2;have j4:=hI d3;have s2:=hI d4;have s3:=hI d5;have s4:=hI g0;have s5:Hid (∀W,Calls prog 146 #[.int .i64 at_,.int .i64 0,.int .i64 ((F.code.length:Int) - 1)] W λe w'=>e=.returned (.bool m3)/\W=w'):=λW=>by rw[<-j4.out];exact kC _ _ _ W
 have s:=ecZ (j1.out 0 _ rfl);have u:=ecZ (c6.out 0 _ rfl);have y:=ecZ (c6.out 1 _ rfl);have H:=ecZ (c6.out 6 _ rfl);have I:=ecZ (crZ c7 1 rfl);have J:=ecZ (crZ c7 4 rfl);have L:=ecZ n4.out;have M:∀E:Up N,E.to.cell? ⟨A,5,none⟩=some (.slice YA p.fns.length yc):=λE=>E.cell ((G.out.cell b6).trans (HL.out 5 _ rfl));clear f8 d2 d3 d4 d5 g0;refine aD (by kernel_rfl) (by kernel_rfl) ?_;repeat (go_big_quiet_step (fail))
 obtain⟨v3,a9⟩:∃b:Bool,(!h3)=b:=⟨_,rfl⟩;rw[a9];cases v3
 case true=>
  obtain rfl:h3=false:=by simpa using a9
  have l:Hid (false=r):=by
   have:m1=false:=by
    rw[<-j2.out]
    cases hq:bZ S ⟨P,R⟩ 4 with
    | none=>rfl
    | some c=>have:=j0.out;rw[hq] at this;cases this
   rw[<-z.out,this];simp[Hid]
  repeat (go_big_quiet_step (fail))
  refine wpQuiet_nil ?_
  rintro _ ⟨E,rfl⟩
  have g:=btZ G E.below
  clear s u y H I J L M
  go_wp2_with fail
  go_ret
  exact⟨by rw[<-l.out];rfl,g.out⟩
 obtain rfl:h3=true:=by simpa using a9
 obtain⟨c,hc⟩:∃c,bZ S ⟨P,R⟩ 4=some c:=by
  cases hq:bZ S ⟨P,R⟩ 4 with
  | none=>have:=j0.out;rw[hq] at this;cases this
  | some c=>exact⟨c,rfl⟩
 have k2:Hid ((O == (k:Int))=m1):=by show _=_;rw[<-j2.out,hc,r4.out c hc]
 clear hc;repeat (go_big_quiet_step (fail))
 obtain⟨b2,g1⟩:∃b:Bool,(O != (k:Int))=b:=⟨_,rfl⟩;rw[g1];cases b2
 case true=>
  have l:Hid (false=r):=by
   have:m1=false:=by rw[<-k2.out];simpa using g1
   rw[<-z.out,this];simp[Hid]
  repeat (go_big_quiet_step (fail))
  refine wpQuiet_nil ?_;rintro _ ⟨E,rfl⟩;have g:=btZ G E.below;clear s u y H I J L M;go_wp2_with fail;go_ret;exact⟨by rw[<-l.out];rfl,g.out⟩
 have M1:Hid (m1=true):=by show _=_;rw[<-k2.out];simpa using g1
 repeat (go_big_quiet_step (fail))
 obtain⟨b3,g2⟩:∃b:Bool,((regs.length:Int) != F.regs)=b:=⟨_,rfl⟩;rw[g2];cases b3
 case true=>
  have l:Hid (false=r):=by
   have:m2=false:=by rw[<-j3.out];exact decide_eq_false (by simpa using g2)
   rw[<-z.out,this];simp[Hid]
  repeat (go_big_quiet_step (fail))
  refine wpQuiet_nil ?_;rintro _ ⟨E,rfl⟩;have g:=btZ G E.below;clear s u y H I J L M;go_wp2_with fail;go_ret;exact⟨by rw[<-l.out];rfl,g.out⟩
 have M2:Hid (m2=true):=by show _=_;rw[<-j3.out];exact decide_eq_true (by simpa using g2)
 repeat (go_big_quiet_step ((go_at_call 146;with_reducible exact akW (s5.out _))))
 obtain⟨v4,b4⟩:∃b:Bool,(!m3)=b:=⟨_,rfl⟩;rw[b4];cases v4
 case true=>
  obtain rfl:m3=false:=by simpa using b4
  have l:Hid (false=r):=by rw[<-z.out];simp[Hid]
  repeat (go_big_quiet_step (fail))
  refine wpQuiet_nil ?_;rintro _ ⟨E,rfl⟩;have g:=btZ G E.below;clear s u y H I J L M;go_wp2_with fail;go_ret;exact⟨by rw[<-l.out];rfl,g.out⟩
 obtain rfl:m3=true:=by simpa using b4
 obtain⟨v1,v2⟩:=gQ.1 j4.out;obtain⟨m,rfl⟩:=Int.eq_ofNat_of_zero_le v1;have hm:m<F.code.length:=by omega
 have C6:(m:Int)<F.code.length:=by omega
 obtain⟨LO,LS⟩:=p3.out F q8.out;obtain⟨yb,yo,ys,D3,rfl,w8,X,-,⟨D4,rfl,g3⟩,g4⟩:=p4.out.at_ (i:=k) (by rw[List.length_map];exact hk);obtain rfl:ys=(dY F.code).seen:=by rw[List.getElem?_map,HX.out] at X;injection X with X;exact X.symm
 obtain⟨XA,xc,rfl,-⟩:=id g3;obtain⟨xb,xo,sm,x1,rfl,x2,l4,-,l5,g5⟩:=g3.at_ (i:=m) (by rw[LS];exact hm);have n5:x1=[.bool sm]:=l5;subst n5;have c1:∀E:Up N,E.to.cell? ⟨yb,yo+k,none⟩=some (.slice (some ⟨xb,xo,none⟩) F.code.length xc):=λE=>E.cell ((G.out.cell w8).trans (by have:=g4 0 _ rfl;rw[<-LS];simpa using this));have c2:∀E:Up N,E.to.cell? ⟨xb,xo+m,none⟩=some (.bool sm):=λE=>E.cell ((G.out.cell x2).trans (by have:=g5 0 _ rfl;simpa using this));have e7:Hid (sm=m4):=by show _=_;rw[<-s2.out,Int.toNat_natCast,List.getD_eq_getElem?_getD,l4];rfl
 clear l5 g5 g4 g3 X l4 v1 v2;repeat (go_big_quiet_step (fail))
 obtain⟨x3,b5⟩:∃b:Bool,(!sm)=b:=⟨_,rfl⟩;rw[b5];cases x3
 case true=>
  obtain rfl:sm=false:=by simpa using b5
  have l:Hid (false=r):=by rw[<-z.out,<-e7.out];simp[Hid]
  repeat (go_big_quiet_step (fail))
  refine wpQuiet_nil ?_;rintro _ ⟨E,rfl⟩;have g:=btZ G E.below;clear s u y H I J L M c1 c2;go_wp2_with fail;go_ret;exact⟨by rw[<-l.out];rfl,g.out⟩
 obtain rfl:sm=true:=by simpa using b5
 repeat (go_big_quiet_step (fail))
 refine wpQuiet_nil ?_;rintro _ ⟨E,rfl⟩;obtain⟨w5,k5⟩:=E;dsimp only;have C7:=hI k5;have Z:=btZ G k5;have k4:=hI (j1.out.on k5);have c8:=hI (c6.out.on k5);clear s u y H I J L M c1 c2 k5;obtain⟨zb,zo,zs,D5,rfl,x6,Y,-,⟨D6,rfl,g7⟩,h0⟩:=p5.out.at_ (i:=k) (by rw[List.length_map];exact hk);obtain rfl:zs=(dY F.code).out:=by rw[List.getElem?_map,HX.out] at Y;injection Y with Y;exact Y.symm
 obtain⟨D7,x7,rfl,-⟩:=id g7;obtain⟨ub,uo,om,D8,rfl,y2,l9,-,⟨uv,rfl,h1⟩,h2⟩:=g7.at_ (i:=m) (by rw[LO];exact hm);obtain⟨UA,uc,rfl,-⟩:=id h1;have n6:Hid (decide (tries=om)=m5):=by
  show _=_;have:(dY F.code).out.getD (m:Int).toNat []=om:=by rw[Int.toNat_natCast,List.getD_eq_getElem?_getD,l9];rfl
  rw[<-s3.out,this]
 have CE:Hid (∀E:Up w5,Calls prog 155 #[.slice TA tries.length tc,.slice UA om.length uc] E.to (aK (.bool m5) E.to)):=λE=>by have g:=btZ Z E.below;rw[<-n6.out];exact uR _ _ _ _ E.to (p0.out.below g) (h1.below g)
 have CF:Hid (∀E:Up w5,Calls prog 113 #[.slice RA regs.length rc,.func (.func 252) #[] #[.pointer (some ⟨w.heap.size,0,none⟩)]] E.to (aK (.bool (regs.any λv=>!eU aF S v)) E.to)):=λE=>by have g:=btZ Z E.below;exact fY hU (λv=>!eU aF S v) RA rc regs 252 ajR #[.pointer (some ⟨w.heap.size,0,none⟩)] E.to (o9.out.below g) (λw6 k6 x cs hx hR=>by obtain⟨rfl,-⟩:=hR;exact ajL x p S A sb mb w.heap.size _ _ w6 ((LT.out.below g).below k6).look (aC k6 (E.cell (k4.out 0 _ rfl))))
 have s:=ecZ (k4.out 0 _ rfl);have u:=ecZ (c8.out 0 _ rfl);have y:=ecZ (c8.out 1 _ rfl);have H:=ecZ (c8.out 6 _ rfl);have I:=ecZ (c8.out 7 _ rfl);have J:∀E:Up w5,E.to.cell? ⟨A,4,none⟩=some (.slice (some ⟨zb,zo,none⟩) p.fns.length zc):=λE=>E.cell ((Z.out.cell b6).trans (HL.out 4 _ rfl));have L:∀E:Up w5,E.to.cell? ⟨zb,zo+k,none⟩=some (.slice (some ⟨ub,uo,none⟩) F.code.length x7):=λE=>E.cell ((Z.out.cell x6).trans (by have:=h0 0 _ rfl;rw[<-LO];simpa using this));have M:∀E:Up w5,E.to.cell? ⟨ub,uo+m,none⟩=some (.slice UA om.length uc):=λE=>E.cell ((Z.out.cell y2).trans (by have:=h2 0 _ rfl;simpa using this));have t9:Hid ((!regs.any λv=>!eU aF S v)=m6):=by show _=_;rw[<-s4.out,List.all_eq_not_any_not]
 clear h0 g7 Y l9 h2 h1;go_upto_region 7 with fail;refine aD (by kernel_rfl) (by kernel_rfl) ?_;repeat (go_big_quiet_step ((first | (go_at_call 155;with_reducible exact Calls.up (CE.out _)) | (go_at_call 113;with_reducible exact Calls.up (CF.out _)))))
 cases m5
 case false=>
  have l:Hid (false=r):=by rw[<-z.out];simp[Hid]
  repeat (go_big_quiet_step (fail))
  refine wpQuiet_nil ?_;rintro _ ⟨E,rfl⟩;have g:=btZ Z E.below;clear s u y H I J L M;go_wp2_with fail;go_ret;exact⟨by rw[<-l.out];rfl,g.out⟩
 have l:Hid ((!regs.any λv=>!eU aF S v)=r):=by show _=_;rw[t9.out,<-z.out,M1.out,M2.out,<-e7.out];simp
 repeat (go_big_quiet_step ((first | (go_at_call 155;with_reducible exact Calls.up (CE.out _)) | (go_at_call 113;with_reducible exact Calls.up (CF.out _)))))
 refine wpQuiet_nil ?_;rintro _ ⟨E,rfl⟩;have g:=btZ Z E.below;clear s u y H I J L M;go_wp2_with fail;go_ret;exact⟨by rw[<-l.out];rfl,g.out⟩
end
section
open Go.RowKit
theorem wQ:(prog.info? 145).map (·.size)=some 8:=by kernel_rfl
theorem qT {p:aZ} {S:aP} {f:bC} (h:eC aF p S f=true):(∃k:Nat,f.fn=k/\k<p.fns.length)/\(∃m:Nat,f.at_=m/\m<(i8 p f.fn).code.length)/\(f.regs.length:Int)=(i8 p f.fn).regs:=by unfold eC at h;simp only[Bool.and_eq_true] at h;obtain⟨⟨⟨⟨⟨⟨h1,h2⟩,h3⟩,h4⟩,h5⟩,h6⟩,h7⟩:=h;obtain⟨d,g⟩:=gQ.1 h1;obtain⟨j,l⟩:=gQ.1 h4;exact⟨⟨f.fn.toNat,by omega,by omega⟩,⟨f.at_.toNat,by omega,by omega⟩,of_decide_eq_true h3⟩
theorem saved_c (l:List Value) (f:bC) (p:aZ) (S:aP) (G sb mb:Nat) (tv yv:Value) (w:World) (hf:dD w w.heap.size l f) (h:kY w G p S sb mb tv yv) (y:lC p) : Calls prog 205 #[.pointer (some ⟨G,0,none⟩),.agg ⟨l⟩] w (aK (.bool (rD aF p S f)) w):=by
 obtain⟨w0,v⟩:∃w0,w0=w.alloc (.cells ⟨l⟩ 145):=⟨_,rfl⟩;have u:Hid (Below w.heap.size w w0):=by rw[v];exact aA w _
 have z:Hid (aJ w0 w.heap.size l):=by rw[v];exact akV _ _ _
 have H:Hid (∀E:Up w0,Calls prog 243 #[.pointer (some ⟨G,0,none⟩),.agg ⟨l⟩] E.to (aK (.bool (eC aF p S f)) E.to)):=λE=>by have d:=btZ u E.below;exact ae1 l f p S G sb mb _ _ E.to (hf.keep d.size (λ_ hp=>d.cell hp)) (h.below d) y
 obtain⟨q,hq⟩:∃q,eC aF p S f=q:=⟨_,rfl⟩;rw[hq] at H;obtain⟨r,D⟩:∃r,rD aF p S f=r:=⟨_,rfl⟩;rw[D];unfold rD at D;rw[hq] at D;have HQ:=hI hq;obtain⟨fn,at_,tos,gen,⟨sk,sn⟩,regs,tries⟩:=f;dsimp only at D;obtain⟨rv,i3,rfl,N,O,wf,wa,wt,wg,-⟩:=hf;dsimp only at N O wf wa wt wg v z H ⊢;obtain⟨RA,rc,rfl,-⟩:=id N;obtain⟨TA,tc,rfl,-⟩:=id O;obtain⟨pa,pb,pc,hl,c0⟩:=h.look.here;obtain⟨e1,c1,i4,i5,i6,i9,c2,c3,-⟩:=id c0;simp only[List.cons.injEq,and_true] at c2;obtain⟨rfl,rfl,rfl⟩:=c2;have d1:=hI c3;have a9:=h.look.size;have d2:Hid (∀E:Up w0,E.to.rangeAt w.heap.size 0 [.int .i64 fn,.int .i64 at_,.int .i64 tos,.int .i64 gen,.int .i64 sk,.int .i64 sn,.slice RA regs.length rc,.slice TA tries.length tc]):=λE=>(z.o.on E.below).range;have I:=ecZ (z.o 0 _ rfl);have J:=ecZ (z.o 2 _ rfl);have K:=ecZ (z.o 3 _ rfl);have L:∀E:Up w0,E.to.cell? ⟨G,0,none⟩=some (.slice e1 p.fns.length c1):=λE=>E.cell ((u.o.cell a9).trans (hl 0 _ rfl));have A:=hI D;have HL:=hI hl;have HW:=hI v;clear v D hq hl c0 c3 h N O y;go_enter func205,ntmps205;go_upto_region 1 with fail;rw[<-HW.o];refine aD (by kernel_rfl) (by kernel_rfl) ?_
 repeat (first
  | (refine dE 145 _ rfl rfl (w.heap.size) 0 rfl _ _ d2.o underlying145 rfl wQ ?_;go_simp)
  | go_big_quiet_step ((go_at_call 243;with_reducible exact Calls.up (H.o _))))
 obtain⟨nq,P⟩:∃b:Bool,(!q)=b:=⟨_,rfl⟩;rw[P];cases nq
 case true=>
  obtain rfl:q=false:=by simpa using P
  have g:Hid (false=r):=by rw[<-A.o];rfl
  repeat (go_big_quiet_step (fail))
  refine wpQuiet_nil ?_;(first | rintro _ ⟨E,rfl⟩ | intro E);have d:=btZ u E.below;clear I J K L;go_wp2_with fail;go_ret;exact⟨by rw[<-g.o];rfl,d.o⟩
 obtain rfl:q=true:=by simpa using P
 repeat (go_big_quiet_step (fail))
 obtain⟨b2,R⟩:∃b:Bool,(tos != -1)=b:=⟨_,rfl⟩;rw[R];cases b2
 case true=>
  have g:Hid (false=r):=by rw[<-A.o,show(tos == -1)=false by simpa using R];rfl
  repeat (go_big_quiet_step (fail))
  refine wpQuiet_nil ?_;(first | rintro _ ⟨E,rfl⟩ | intro E);have d:=btZ u E.below;clear I J K L;go_wp2_with fail;go_ret;exact⟨by rw[<-g.o];rfl,d.o⟩
 have T2:Hid ((tos == -1)=true):=by simpa [Hid] using R
 repeat (go_big_quiet_step (fail))
 obtain⟨b3,V⟩:∃b:Bool,(gen != -1)=b:=⟨_,rfl⟩;rw[V];cases b3
 case true=>
  have g:Hid (false=r):=by rw[<-A.o,show(gen == -1)=false by simpa using V,Bool.and_false];rfl
  repeat (go_big_quiet_step (fail))
  refine wpQuiet_nil ?_;(first | rintro _ ⟨E,rfl⟩ | intro E);have d:=btZ u E.below;clear I J K L;go_wp2_with fail;go_ret;exact⟨by rw[<-g.o];rfl,d.o⟩
 have T3:Hid ((gen == -1)=true):=by simpa [Hid] using V
 obtain⟨⟨k,c5,hk⟩,⟨m,c6,hm⟩,-⟩:=qT HQ.o;dsimp only at c5 c6 hm;subst c5;subst c6;have h9:(k:Int)<p.fns.length:=by omega
 obtain⟨b,x,F,cs,rfl,c7,hx,-,⟨CA,cn,OA,on_,rfl,-,s,-⟩,X⟩:=d1.o.at_ hk;have d3:=hI s;have f0:=aM s;have d4:Hid (i8 p (k:Int)=F):=by show _=_;unfold i8;rw[Int.toNat_natCast,hx];rfl
 rw[d4.o] at A hm;have d5:Hid (w.cell? ⟨b,x+k*5+2,none⟩=some (.bool F.gen)):=X 2 _ rfl;have hbo:Hid (w.cell? ⟨b,x+k*5+4,none⟩=some (.slice OA F.code.length on_)):=X 4 _ rfl;have a4:∀E:Up w0,E.to.cell? ⟨b,x+k*5+2,none⟩=some (.bool F.gen):=λE=>E.cell ((u.o.cell c7).trans d5.o);clear X hx s;repeat (go_big_quiet_step (fail))
 obtain⟨ng,Y⟩:∃b:Bool,(!F.gen)=b:=⟨_,rfl⟩;rw[Y];cases ng
 case true=>
  have g:Hid (false=r):=by rw[<-A.o,show F.gen=false by simpa using Y,Bool.and_false];rfl
  repeat (go_big_quiet_step (fail))
  refine wpQuiet_nil ?_;(first | rintro _ ⟨E,rfl⟩ | intro E);have d:=btZ u E.below;clear I J K L a4;go_wp2_with fail;go_ret;exact⟨by rw[<-g.o];rfl,d.o⟩
 have T4:Hid (F.gen=true):=by simpa [Hid] using Y
 repeat (go_big_quiet_step (fail))
 refine wpQuiet_nil ?_;(first | rintro _ ⟨E,rfl⟩ | intro E);obtain⟨w1,k1⟩:=E;dsimp only;have M:=btZ u k1;have b5:=hI (z.o.on k1);have b6:Hid (((m:Int) == 0 || ((F.code[((m:Int) - 1).toNat]?).map (·.op)).getD 0 == 32)=r):=by show _=_;rw[<-A.o,T2.o,T3.o,T4.o];rfl
 have b1:=ecZ (b5.o 1 _ rfl);have b0:=ecZ (b5.o 0 _ rfl);have b2:∀E:Up w1,E.to.cell? ⟨G,0,none⟩=some (.slice (some ⟨b,x,none⟩) p.fns.length c1):=λE=>E.cell ((M.o.cell a9).trans (HL.o 0 _ rfl));have b3:∀E:Up w1,E.to.cell? ⟨b,x+k*5+4,none⟩=some (.slice OA F.code.length on_):=λE=>E.cell ((M.o.cell c7).trans hbo.o);clear I J K L a4 k1;go_upto_region 3 with fail;refine aD (by kernel_rfl) (by kernel_rfl) ?_;rcases Nat.eq_zero_or_pos m with hm0 | hm0
 ·subst hm0;have g:Hid (true=r):=by rw[<-b6.o];rfl
  repeat (go_big_quiet_step (fail))
  refine wpQuiet_nil ?_;(first | rintro _ ⟨E,rfl⟩ | intro E);have d:=btZ M E.below;clear b0 b1 b2 b3;go_wp2_with fail;go_ret;exact⟨by rw[<-g.o];rfl,d.o⟩
 ·obtain⟨j,rfl⟩:∃j,m=j+1:=⟨m - 1,by omega⟩;have d8:j<F.code.length:=by omega
  have i0:(j:Int)<F.code.length:=by omega
  obtain⟨cb,co,ci,j0,rfl,e6,c8,-,⟨rfl,-⟩,Z⟩:=d3.o.at_ d8;have b4:∀E:Up w1,E.to.cell? ⟨cb,co+j*5,none⟩=some (.int .i64 ci.op):=λE=>E.cell ((M.o.cell e6).trans (by have:=Z 0 _ rfl;simpa using this));have e0:(((j+1:Nat):Int) == 0)=false:=bF (by omega);have c9:(((j+1:Nat):Int) - 1)=j:=by omega
  have g:Hid ((ci.op == 32)=r):=by show _=_;rw[<-b6.o,e0,Bool.false_or,c9,Int.toNat_natCast,c8];rfl
  clear Z c8;have i1:((j:Int)+1 == 0)=false:=bF (by omega);have i2:((j:Int)+1 - 1)=j:=by omega
  simp only[Int.natCast_add,Int.cast_ofNat_Int] at b1;repeat (go_big_quiet_step (fail))
  refine wpQuiet_nil ?_;(first | rintro _ ⟨E,rfl⟩ | intro E);have d:=btZ M E.below;clear b0 b1 b2 b3 b4;go_wp2_with fail;go_ret;exact⟨by rw[<-g.o];rfl,d.o⟩
theorem lheap_c (cs:List Value) (c:bJ) (p:aZ) (S:aP) (M sb mb:Nat) (tv yv:Value) (w:World) (hc:hM w w.heap.size cs c) (h:kY w M p S sb mb tv yv) (O:lC p) (a7:mN aF S c=true) : Calls prog 148 #[.pointer (some ⟨M,0,none⟩),.agg ⟨cs⟩] w (aK (.bool (oP aF p S c)) w):=by
 obtain⟨r,D⟩:∃r,oP aF p S c=r:=⟨_,rfl⟩;rw[D];unfold oP at D;have R:=hI a7;obtain⟨N,s,vals,frames⟩:=c;dsimp only at D;obtain⟨vv,fv,rfl,y,hf,-,wn⟩:=hc;dsimp only at y hf wn ⊢;obtain⟨V,cv,rfl,-⟩:=id y;obtain⟨F,cf,rfl,-⟩:=id hf;have lv:=aM y;have HF:=hI hf;have LT:=hI h;obtain⟨pa,pb,pc,hl,Y⟩:=h.look.here;obtain⟨Z,a4,f8,f9,g0,g1,a5,H,-⟩:=id Y;simp only[List.cons.injEq,and_true] at a5;obtain⟨rfl,rfl,rfl⟩:=a5;have f3:=aM H;have c0:=hI H;have c1:=h.look.size;have h0:=hl 0 _ rfl;have H0:=hI h0;have u:=hI D;clear D hl Y H h y hf a7 h0;by_cases k4:N=4
 ·subst k4;have c3:0<=s:=by have:=R.o;rw[mM] at this;have e:dW S ⟨4,s,vals,frames⟩=some (decide (0<=s),!vals.any (λv=>!sI aF S v 3),0):=rfl;rw[e] at this;simp only[Bool.and_eq_true] at this;exact of_decide_eq_true this.1.1.1.1
  obtain⟨k,rfl⟩:=Int.eq_ofNat_of_zero_le c3;obtain⟨w0,d⟩:∃w0,w0=w.alloc (.cells #[.int .i64 4,.int .i64 k,.slice V vals.length cv,.slice F frames.length cf] 166):=⟨_,rfl⟩;have f:Hid (Below w.heap.size w w0):=by rw[d];exact aA w _
  have HB:Hid (aJ w0 w.heap.size [.int .i64 4,.int .i64 k,.slice V vals.length cv,.slice F frames.length cf]):=by rw[d];exact akV _ _ _
  have a0:=ecZ (HB.o 1 _ rfl);have a1:=ecZ (HB.o 2 _ rfl);have a2:∀E:Up w0,E.to.cell? ⟨M,0,none⟩=some (.slice Z p.fns.length a4):=λE=>E.cell ((f.o.cell c1).trans H0.o);have A:=hI d;have X:Hid ((decide ((k:Int)<p.fns.length) && decide (vals.length=(i8 p (k:Int)).caught.length))=r):=u.o;clear d;go_enter func148,ntmps148;go_upto_region 3 with fail;rw[<-A.o];refine aD (by kernel_rfl) (by kernel_rfl) ?_;repeat (go_big_quiet_step (fail))
  obtain⟨b1,I⟩:∃b:Bool,(decide (k<p.fns.length))=b:=⟨_,rfl⟩;rw[I];cases b1
  case false=>
   have g:Hid (false=r):=(by rw[<-X.o,decide_eq_false (by have:=of_decide_eq_false I;omega)];rfl);repeat (go_big_quiet_step (fail))
   refine wpQuiet_nil ?_;(first | rintro _ ⟨E,rfl⟩ | intro E);have KE:=btZ f E.below;clear a0 a1 a2;go_wp2_with fail;go_ret;exact⟨by rw[<-g.o];rfl,KE.o⟩
  have hk:k<p.fns.length:=of_decide_eq_true I;have c9:(k:Int)<p.fns.length:=by omega
  obtain⟨b,l,G,cs,rfl,J,L,-,⟨CA,cn,OA,on_,rfl,a6,-⟩,q⟩:=c0.o.at_ hk;have f7:=aM a6;have d0:Hid (i8 p (k:Int)=G):=by show _=_;unfold i8;rw[Int.toNat_natCast,L];rfl
  have a3:∀E:Up w0,E.to.cell? ⟨b,l+k*5+3,none⟩=some (.slice CA G.caught.length cn):=λE=>E.cell ((f.o.cell J).trans (q 3 _ rfl));have g:Hid (((vals.length:Int) == (G.caught.length:Int))=r):=by show _=_;rw[<-X.o,decide_eq_true c9,Bool.true_and,aaJ,d0.o]
  clear q L a6;repeat (go_big_quiet_step (fail))
  refine wpQuiet_nil ?_;(first | rintro _ ⟨E,rfl⟩ | intro E);have KE:=btZ f E.below;clear a0 a1 a2 a3;go_wp2_with fail;go_ret;exact⟨by rw[<-g.o];rfl,KE.o⟩
 have n4:(N == 4)=false:=bF k4;rw[if_neg k4] at u;by_cases k5:N=5
 ·subst k5;rw[if_pos rfl] at u;by_cases P:s=0
  ·subst P;obtain⟨z,ft,rfl⟩:∃z ft,frames=z::ft:=by
    have:=R.o
    rw[mM] at this
    have e:dW S ⟨5,0,vals,frames⟩=some (aL 0 0 2,(vals.length:Int) == 0,1):=rfl
    rw[e] at this
    simp only[Bool.and_eq_true] at this
    have h1:=this.1.1.2
    cases frames with
    | nil=>cases h1
    | cons a b=>exact⟨a,b,rfl⟩
   obtain⟨b,l,x,cs,rfl,J,L,d2,hR,q⟩:=HF.o.at_ (i:=0) (by simp);obtain rfl:z=x:=by simpa using L
   obtain⟨w0,d⟩:∃w0,w0=w.alloc (.cells #[.int .i64 5,.int .i64 0,.slice V vals.length cv,.slice (some ⟨b,l,none⟩) (z::ft).length cf] 166):=⟨_,rfl⟩;have f:Hid (Below w.heap.size w w0):=(by rw[d];exact aA w _);have C:=hI (saved_c cs z p S M sb mb _ _ w0 (hR.keep f.o.size (λ_ hp=>f.o.cell hp)) (LT.o.below f.o) O);have d1:Hid (w0.rangeAt b l cs):=λj v y=>by have:=(f.o.cell J).trans (q j v y);simpa using this
   have HI:Hid ((prog.info? 145).map (·.size)=some cs.length):=(by rw[d2];exact wQ);have A:=hI d;have g:Hid (rD aF p S z=r):=u.o;clear d q hR L;simp only[List.length_cons] at A ⊢;go_enter func148,ntmps148;go_wp2_with (first | (refine cZ 145 _ rfl rfl b l rfl cs _ (by rw[<-A.o];exact d1.o) underlying145 rfl HI.o ?_) | fail);rw[<-A.o];refine C.o.mono ?_;rintro e w1 ⟨rfl,k1⟩;have K:=btZ f k1;clear k1;go_wp2_with fail;go_ret;exact⟨by rw[<-g.o];rfl,K.o⟩
  ·have g:Hid (true=r):=(by rw[<-u.o,show(s != 0)=true from bne_iff_ne.2 P];rfl);have b0:(s == 0)=false:=bF P;have b1:(s != 0)=true:=bne_iff_ne.2 P;go_enter func148,ntmps148;go_wp2_with fail;go_ret;exact⟨by rw[<-g.o];rfl,aA _ _⟩
 ·have n5:(N == 5)=false:=bF k5;have g:Hid (true=r):=by rw[<-u.o,if_neg k5];rfl
  go_enter func148,ntmps148;go_wp2_with fail;go_ret;exact⟨by rw[<-g.o];rfl,aA _ _⟩
theorem ajQ:∀args W,(callFunc 147 args).run prog W=.ok (.enter 147 args) W:=enters_of func147 (by kernel_rfl) rfl
theorem aiB (cs:List Value) (c:bJ) (p:aZ) (S:aP) (q s u r:Nat) (D E:Value) (w:World) (x:hM w w.heap.size cs c) (h:kY w q p S s u D E) (j:lC p) (y:mN aF S c=true) (l:w.cell? ⟨r,0,none⟩=some (.pointer (some ⟨q,0,none⟩))) : Calls prog 147 #[.agg ⟨cs⟩,.pointer (some ⟨r,0,none⟩)] w (aK (.bool (!oP aF p S c)) w):=by
 obtain⟨w0,d⟩:∃w0,w0=w.alloc (.cells ⟨cs⟩ 166):=⟨_,rfl⟩;have g:Hid (Below w.heap.size w w0):=by rw[d];exact aA w _
 have C:=hI (lheap_c cs c p S q s u _ _ w0 (x.keep g.o.size (λ_ l=>g.o.cell l)) (h.below g.o) j y);obtain⟨v,f,rfl,-⟩:=x;have z:=hI d;have hl:r<w.heap.size:=eL l;clear d h;go_enter func147,ntmps147;go_wp2_with fail;rw[<-z.o];refine C.o.mono ?_;rintro e w1 ⟨rfl,A⟩;have K:=btZ g A;go_wp2_with fail;go_ret;exact⟨rfl,K.o⟩
end
end Go.Proofs.YtijihlcdhppfgaaGreatDoor
