/- A part of the walk. -/
import Derived.Test.YtjaphgpkkfdaaaaGreatDoorZL
import Derived.Test.YtjaphgpkkfdaaaaGreatDoorZN
set_option maxHeartbeats 16000000
set_option maxRecDepth 100000
set_option linter.all false
namespace Go.Proofs.YtjaphgpkkfdaaaaGreatDoor
open Tryz
section
open Go.RowKit
def sK (w:World) (B:Nat) (tv:Value) (p:aW):Prop:=aH w B 1 (λcs (o:List (List gM))=>∃v,cs=[v]/\aH w B 1 (λcs t=>∃v,cs=[v]/\aH w B 2 jW v t) v o) tv (p.fns.map λf=>(cY f.code).out)
def wN (w:World) (B:Nat) (yv:Value) (p:aW):Prop:=aH w B 1 (λcs (o:List Bool)=>∃v,cs=[v]/\aH w B 1 sP v o) yv (p.fns.map λf=>(cY f.code).seen)
theorem sK.keep {w w':World} {B B':Nat} {f:Value} {p:aW} (h:sK w B f p) (hB:B<=B') (d:∀p:Addr,p.block<B->w'.cell? p=w.cell? p):sK w' B' f p:= aH.keep h hB d (λ_ _ ⟨v,e,h⟩=>⟨v,e,h.keep hB d (λ_ _ ⟨v,e,h⟩=>⟨v,e,h.keep hB d (λ_ _ h=>h)⟩)⟩)
theorem wN.keep {w w':World} {B B':Nat} {d:Value} {p:aW} (h:wN w B d p) (hB:B<=B') (f:∀p:Addr,p.block<B->w'.cell? p=w.cell? p):wN w' B' d p:= aH.keep h hB f (λ_ _ ⟨v,e,h⟩=>⟨v,e,h.keep hB f (λ_ _ h=>h)⟩)
def i8 (p:aW):Prop:=∀f∈p.fns,(cY f.code).out.length=f.code.length/\(cY f.code).seen.length=f.code.length
structure iV (w:World) (lb:Nat) (p:aW) (S:aR) (sb mb:Nat) (tv yv:Value):Prop where
 look:pT w lb p S sb mb tv yv
 tries:sK w w.heap.size tv p
 ways:wN w w.heap.size yv p
theorem iV.below {w w':World} {f:Nat} {p:aW} {S:aR} {g i:Nat} {j l:Value} (h:iV w f p S g i j l) (d:Below w.heap.size w w'):iV w' f p S g i j l:= ⟨h.look.below d,h.tries.keep d.size (λ_ e=>d.cell e),h.ways.keep d.size (λ_ e=>d.cell e)⟩
theorem adE:∀d W,(callFunc 182 d).run prog W=.ok (.enter 182 d) W:=enters_of func182 (by kernel_rfl) rfl
theorem ac8 (v:Val) (p:aW) (S:aR) (g i A l:Nat) (D F:Value) (w:World) (h:pT w g p S i A D F) (q:w.cell? ⟨l,0,none⟩=some (.pointer (some ⟨g,0,none⟩))) : Calls prog 182 #[.agg #[.int .i64 v.kind,.int .i64 v.n],.pointer (some ⟨l,0,none⟩)] w (aM (.bool (!dJ aG S v)) w):=by
 obtain⟨d,e⟩:∃d,d=w.alloc (.cells #[.int .i64 v.kind,.int .i64 v.n] 48):=⟨_,rfl⟩;have f:Hid (Below w.heap.size w d):=by rw[e];exact aB w _
 obtain⟨⟨H,G,I,hl,-⟩,m,j⟩:=h;have C:Hid (∀E:Up d,Calls prog 133 #[.pointer (some ⟨i,0,none⟩),.agg #[.int .i64 v.kind,.int .i64 v.n]] E.to (aM (.bool (dJ aG S v)) E.to)):=λE=>zM v S i E.to ((j.below f.o).below E.below);have r:∀E:Up d,E.to.cell? ⟨l,0,none⟩=some (.pointer (some ⟨g,0,none⟩)):=λE=>E.cell (aC f.o q);have s:∀E:Up d,E.to.cell? ⟨g,3,none⟩=some (.pointer (some ⟨i,0,none⟩)):=λE=>E.cell ((f.o.cell m).trans (hl 3 _ rfl));have u:∀E:Up d,E.to.cell? ⟨w.heap.size,0,none⟩=some (.int .i64 v.kind):=λE=>E.cell (by rw[e];exact bL _ _ _ _);have x:∀E:Up d,E.to.cell? ⟨w.heap.size,1,none⟩=some (.int .i64 v.n):=λE=>E.cell (by rw[e];exact bL _ _ _ _);have y:=hI e;clear e hl j q;go_enter func182,ntmps182;go_upto_region 1 with fail;rw[<-y.o];refine aD (by kernel_rfl) (by kernel_rfl) ?_;repeat (go_big_quiet_step ((go_at_call 133;with_reducible exact Calls.up (C.o _))))
 refine wpQuiet_nil ?_;rintro _ ⟨E,rfl⟩;have z:=btZ f E.below;clear r s u x;go_wp2_with fail;go_ret;exact⟨rfl,z.o⟩
theorem zL (m7:List Value) (f:a8) (p:aW) (S:aR) (A sb mb:Nat) (tv yv:Value) (w:World) (hf:eR w w.heap.size m7 f) (h:iV w A p S sb mb tv yv) (d5:i8 p) : Calls prog 164 #[.pointer (some ⟨A,0,none⟩),.agg ⟨m7⟩] w (aM (.bool (dB aG p S f)) w):=by
 obtain⟨fn,at_,tos,gen,⟨O,P⟩,regs,tries⟩:=f;obtain⟨r,hr⟩:∃r,dB aG p S ⟨fn,at_,tos,gen,⟨O,P⟩,regs,tries⟩=r:=⟨_,rfl⟩;rw[hr];unfold dB at hr;dsimp only at hr;obtain⟨rv,C6,rfl,R,c8,wf,wa,-⟩:=hf;dsimp only at R c8 wf wa ⊢;obtain⟨RA,rc,rfl,-⟩:=id R;obtain⟨TA,tc,rfl,-⟩:=id c8;have lr:=aP R;have o8:=hI R;have o9:=hI c8;have LT:=hI h;obtain⟨pa,pb,pc,hl,k7⟩:=h.look.here;obtain⟨t9,k8,C7,C8,C9,D0,k9,e9,-⟩:=id k7;simp only[List.cons.injEq,and_true] at k9;obtain⟨rfl,rfl,rfl⟩:=k9;have lf:=aP e9;have p1:=hI e9;have b5:=h.look.size;have p2:=hI d5;obtain⟨YA,yc,l0,-⟩:=id h.ways;rw[List.length_map] at l0;obtain⟨ZA,zc,l1,-⟩:=id h.tries;rw[List.length_map] at l1;subst l0;subst l1;have p3:=hI h.ways;have p4:=hI h.tries;obtain⟨w0,f0⟩:∃w0,w0=(w.alloc (.cells #[.pointer (some ⟨A,0,none⟩)] 112)).alloc (.cells #[.int .i64 fn,.int .i64 at_,.int .i64 tos,.int .i64 gen,.int .i64 O,.int .i64 P,.slice RA regs.length rc,.slice TA tries.length tc] 61):=⟨_,rfl⟩;have TB:=jZ w [.pointer (some ⟨A,0,none⟩)] [.int .i64 fn,.int .i64 at_,.int .i64 tos,.int .i64 gen,.int .i64 O,.int .i64 P,.slice RA regs.length rc,.slice TA tries.length tc] 112 61;rw[<-f0] at TB;obtain⟨t1,t2,t3⟩:=TB;have P1:=hI t1;have P2:=hI t2;have k0:=hI t3;have HL:=hI hl;have hz:w.heap.size+1<w0.heap.size:=dP (t2 0 _ rfl);have CW:Hid (∀W,Calls prog 95 #[.int .i64 fn,.int .i64 0,.int .i64 ((p.fns.length:Int) - 1)] W λe w'=>e=.returned (.bool (aK fn 0 ((p.fns.length:Int) - 1)))/\W=w'):=λW=>iD _ _ _ W;obtain⟨q1,f1⟩:∃q,aK fn 0 ((p.fns.length:Int) - 1)=q:=⟨_,rfl⟩;rw[f1] at CW hr;have q4:=hI f1;have HR:=hI hr;have s:=ecZ (t1 0 _ rfl);have u:=ecZ (t2 0 _ rfl);have y:∀E:Up w0,E.to.cell? ⟨A,0,none⟩=some (.slice t9 p.fns.length k8):=λE=>E.cell ((k0.out.cell b5).trans (hl 0 _ rfl));have HW:=hI f0;clear f0 hr f1 t1 t2 t3 hl k7 e9 h R c8 d5;go_enter func164,ntmps164;go_upto_region 1 with fail;rw[<-HW.out];refine aD (by kernel_rfl) (by kernel_rfl) ?_;repeat (go_big_quiet_step ((go_at_call 95;with_reducible exact ad6 (CW.out _))))
 refine wpQuiet_nil ?_;rintro _ ⟨E,rfl⟩;obtain⟨w1,k1⟩:=E;dsimp only;have C:=hI k1;have K1:=btZ k0 k1;clear s u y k1;cases q1
 case false=>
  have l:Hid (false=r):=by rw[<-HR.out];rfl
  clear wf wa;go_wp2_with fail;go_ret;exact⟨by rw[<-l.out];rfl,K1.out⟩
 obtain⟨u1,u2⟩:=eS.1 q4.out;obtain⟨k,rfl⟩:=Int.eq_ofNat_of_zero_le u1;have hk:k<p.fns.length:=by omega
 have C3:(k:Int)<p.fns.length:=by omega
 obtain⟨b,f2,F,cs,rfl,u5,hx,-,⟨CA,cn,OA,on_,rfl,-,c9,-⟩,l2⟩:=p1.out.at_ hk;have y5:=aP c9;have q6:Hid (gD p (k:Int)=F):=by show _=_;unfold gD;rw[Int.toNat_natCast,hx];rfl
 have q7:Hid (F∈p.fns):=lM hx;have HX:=hI hx;have r0:=hI (P1.out.on C.out);have r1:=hI (P2.out.on C.out);have b0:=ecZ (r0.out 0 _ rfl);have b1:=ecZ (r1.out 0 _ rfl);have b2:∀E:Up w1,E.to.cell? ⟨A,0,none⟩=some (.slice (some ⟨b,f2,none⟩) p.fns.length k8):=λE=>E.cell ((K1.out.cell b5).trans (HL.out 0 _ rfl));have RB:Hid (∀E:Up w1,E.to.rangeAt b (f2+k*5) [.int .i64 F.params,.int .i64 F.regs,.bool F.gen,.slice CA F.caught.length cn,.slice OA F.code.length on_]):=λE j v hv=>E.cell ((K1.out.cell u5).trans (l2 j v hv));clear l2 hx c9 u1 u2;go_upto_region 3 with fail;refine cV (λw'=>∃E:Up w1,w'=E.to) 9 [9,10] [9] (by kernel_rfl) (by decide) (by kernel_rfl) (λ_ _ d _ _ h=>by cases d <;> exact h) ⟨⟨_,(Below.refl _ w1).drew⟩,rfl⟩ ?_;simp only[List.take_succ_cons,List.take_zero];generalize m8:(λa'=>gA _ _ _ _ _ _ a' _)=qq;have i5:=hI m8;clear m8
 repeat (first
  | (refine aO 99 _ rfl rfl b (f2+k*5) rfl _ _ RB.out underlying99 rfl xV ?_;go_simp)
  | go_big_quiet_step (fail))
 refine wpQuiet_nil ?_;rw[<-i5.out];clear i5 qq;refine bA rfl (λK hK=>?_);go_simp;refine hK _ _ (λ_=>⟨⟨_,((Below.refl _ w1).alloc (Nat.le_refl _) _).drew⟩,rfl⟩) ?_;clear hK K;refine bP [10] _ _ (by kernel_rfl) (by kernel_rfl) ?_;simp only[List.filterMap_cons,List.filterMap_nil,List.getElem?_toArray,List.getElem?_cons_zero,List.getElem?_cons_succ];have e3:Hid ((w1.alloc (.cells #[.int .i64 0,.int .i64 0,.bool false,.slice none 0 0,.slice none 0 0] 99)).drew.heap[w1.heap.size]? = some (.cells #[.int .i64 0,.int .i64 0,.bool false,.slice none 0 0,.slice none 0 0] 99 (0,0))):=wG _ _;clear b0 b1 b2;go_upto_region 4 with (first | (refine wpList_store_row rfl 99 _ _ rfl w1.heap.size #[.int .i64 F.params,.int .i64 F.regs,.bool F.gen,.slice CA F.caught.length cn,.slice OA F.code.length on_] rfl rfl 99 _ e3.out xV rfl (oC (by simp[Value.oneCell'])) ?_) | fail);generalize h4:World.setRow _ _ _=w2;have e4:=shZ h4 e3;have e5:Hid (Below w1.heap.size w1 w2):=by rw[<-h4];exact Below.set_row (((Below.refl _ w1).alloc (Nat.le_refl _) _).drew) (by omega) _
 have K2:=btZ K1 e5.out;clear h4 e3;(try dsimp only [Act.put]);have i6:w1.heap.size<w2.heap.size:=(aE e4.out).1;have i9:=hI (P1.out.on (C.out.trans (e5.out.mono C.out.size)));have e6:=hI (P2.out.on (C.out.trans (e5.out.mono C.out.size)));have CL:=hI (uU ⟨O,P⟩ 4 p S A sb mb _ _ w2 (LT.out.below K2.out).look);have c0:=i9.out 0 _ rfl;have c4:=e6.out 4 _ rfl;have c5:=e6.out 5 _ rfl;go_wp2_with fail;refine CL.out.mono ?_;rintro e w3 ⟨ck,N,vv,fv,h3,rfl,⟨VA,VN,VC,rfl⟩,⟨FA,FN,FC,rfl⟩,l9,m0,k3⟩;have j0:=hI l9;have r3:=hI m0;have K3:=btZ K2 k3;have r4:=hI (i9.out.on k3);have r5:=hI (e6.out.on k3);have h6:Hid (w3.heap[w1.heap.size]? = some (.cells #[.int .i64 F.params,.int .i64 F.regs,.bool F.gen,.slice CA F.caught.length cn,.slice OA F.code.length on_] 99 (0,0))):=(k3.block _ i6).trans e4.out;have r6:w1.heap.size<w3.heap.size:=Nat.lt_of_lt_of_le i6 k3.size;clear c0 c4 c5 l9 m0 k3;go_upto_region 5 with fail;obtain⟨M,d0⟩:∃M,M=w3.alloc (.cells #[.int .i64 ck,.int .i64 N,.slice VA VN VC,.slice FA FN FC] 55):=⟨_,rfl⟩;have b6:Hid (Below w3.heap.size w3 M):=by rw[d0];exact aB _ _
 have D:=btZ K3 b6.out;have j1:=hI (r4.out.on b6.out);have c3:=hI (r5.out.on b6.out);have c6:Hid (M.heap[w1.heap.size]? = some (.cells #[.int .i64 F.params,.int .i64 F.regs,.bool F.gen,.slice CA F.caught.length cn,.slice OA F.code.length on_] 99 (0,0))):=(b6.out.block _ r6).trans h6.out;have n3:Hid (M.cell? ⟨w3.heap.size,1,none⟩=some (.int .i64 N)):=by rw[d0];exact bL _ _ _ _
 have r7:=hI d0;clear d0;rw[<-r7.out];obtain⟨m1,f8⟩:∃m,(match bM S ⟨O,P⟩ 4 with | none=>false | some c=>c.num == (k:Int))=m:=⟨_,rfl⟩;obtain⟨m2,d1⟩:∃m,decide ((regs.length:Int)=(gD p (k:Int)).regs)=m:=⟨_,rfl⟩;obtain⟨m3,d2⟩:∃m,aK at_ 0 (((gD p (k:Int)).code.length:Int) - 1)=m:=⟨_,rfl⟩;obtain⟨m4,d3⟩:∃m,(cY (gD p (k:Int)).code).seen.getD at_.toNat false=m:=⟨_,rfl⟩;obtain⟨m5,d4⟩:∃m,decide (tries=(cY (gD p (k:Int)).code).out.getD at_.toNat [])=m:=⟨_,rfl⟩;obtain⟨m6,g0⟩:∃m,regs.all (dJ aG S)=m:=⟨_,rfl⟩;have z:Hid ((true && m1 && m2 && m3 && m4 && m5 && m6)=r):=by rw[<-HR.out,<-f8,<-d1,<-d2,<-d3,<-d4,<-g0];rfl
 rw[q6.out] at d1 d2 d3 d4;have j2:=hI f8;have j3:=hI d1;have j4:=hI d2;have s0:=hI d3;have s1:=hI d4;have s2:=hI g0;have s3:Hid (∀W,Calls prog 95 #[.int .i64 at_,.int .i64 0,.int .i64 ((F.code.length:Int) - 1)] W λe w'=>e=.returned (.bool m3)/\W=w'):=λW=>by rw[<-j4.out];exact iD _ _ _ W
 have s:=ecZ (j1.out 0 _ rfl);have u:=ecZ (c3.out 0 _ rfl);have y:=ecZ (c3.out 1 _ rfl);have G:=ecZ (c3.out 6 _ rfl);have H:=ecZ (crZ c6 1 rfl);have I:=ecZ (crZ c6 4 rfl);have J:=ecZ n3.out;have L:∀E:Up M,E.to.cell? ⟨A,5,none⟩=some (.slice YA p.fns.length yc):=λE=>E.cell ((D.out.cell b5).trans (HL.out 5 _ rfl));clear f8 d1 d2 d3 d4 g0;refine aD (by kernel_rfl) (by kernel_rfl) ?_;repeat (go_big_quiet_step (fail))
 obtain⟨u8,Z⟩:∃b:Bool,(!h3)=b:=⟨_,rfl⟩;rw[Z];cases u8
 case true=>
  obtain rfl:h3=false:=by simpa using Z
  have l:Hid (false=r):=by
   have:m1=false:=by
    rw[<-j2.out]
    cases hq:bM S ⟨O,P⟩ 4 with
    | none=>rfl
    | some c=>have:=j0.out;rw[hq] at this;cases this
   rw[<-z.out,this];simp[Hid]
  repeat (go_big_quiet_step (fail))
  refine wpQuiet_nil ?_
  rintro _ ⟨E,rfl⟩
  have g:=btZ D E.below
  clear s u y G H I J L
  go_wp2_with fail
  go_ret
  exact⟨by rw[<-l.out];rfl,g.out⟩
 obtain rfl:h3=true:=by simpa using Z
 obtain⟨c,hc⟩:∃c,bM S ⟨O,P⟩ 4=some c:=by
  cases hq:bM S ⟨O,P⟩ 4 with
  | none=>have:=j0.out;rw[hq] at this;cases this
  | some c=>exact⟨c,rfl⟩
 have k2:Hid ((N == (k:Int))=m1):=by show _=_;rw[<-j2.out,hc,r3.out c hc]
 clear hc;repeat (go_big_quiet_step (fail))
 obtain⟨b2,g1⟩:∃b:Bool,(N != (k:Int))=b:=⟨_,rfl⟩;rw[g1];cases b2
 case true=>
  have l:Hid (false=r):=by
   have:m1=false:=by rw[<-k2.out];simpa using g1
   rw[<-z.out,this];simp[Hid]
  repeat (go_big_quiet_step (fail))
  refine wpQuiet_nil ?_;rintro _ ⟨E,rfl⟩;have g:=btZ D E.below;clear s u y G H I J L;go_wp2_with fail;go_ret;exact⟨by rw[<-l.out];rfl,g.out⟩
 have M1:Hid (m1=true):=by show _=_;rw[<-k2.out];simpa using g1
 repeat (go_big_quiet_step (fail))
 obtain⟨b3,g2⟩:∃b:Bool,((regs.length:Int) != F.regs)=b:=⟨_,rfl⟩;rw[g2];cases b3
 case true=>
  have l:Hid (false=r):=by
   have:m2=false:=by rw[<-j3.out];exact decide_eq_false (by simpa using g2)
   rw[<-z.out,this];simp[Hid]
  repeat (go_big_quiet_step (fail))
  refine wpQuiet_nil ?_;rintro _ ⟨E,rfl⟩;have g:=btZ D E.below;clear s u y G H I J L;go_wp2_with fail;go_ret;exact⟨by rw[<-l.out];rfl,g.out⟩
 have M2:Hid (m2=true):=by show _=_;rw[<-j3.out];exact decide_eq_true (by simpa using g2)
 repeat (go_big_quiet_step ((go_at_call 95;with_reducible exact ad6 (s3.out _))))
 obtain⟨v0,a9⟩:∃b:Bool,(!m3)=b:=⟨_,rfl⟩;rw[a9];cases v0
 case true=>
  obtain rfl:m3=false:=by simpa using a9
  have l:Hid (false=r):=by rw[<-z.out];simp[Hid]
  repeat (go_big_quiet_step (fail))
  refine wpQuiet_nil ?_;rintro _ ⟨E,rfl⟩;have g:=btZ D E.below;clear s u y G H I J L;go_wp2_with fail;go_ret;exact⟨by rw[<-l.out];rfl,g.out⟩
 obtain rfl:m3=true:=by simpa using a9
 obtain⟨v1,v2⟩:=eS.1 j4.out;obtain⟨m,rfl⟩:=Int.eq_ofNat_of_zero_le v1;have hm:m<F.code.length:=by omega
 have C4:(m:Int)<F.code.length:=by omega
 obtain⟨LO,LS⟩:=p2.out F q7.out;obtain⟨yb,yo,ys,D1,rfl,v9,V,-,⟨D2,rfl,g3⟩,g4⟩:=p3.out.at_ (i:=k) (by rw[List.length_map];exact hk);obtain rfl:ys=(cY F.code).seen:=by rw[List.getElem?_map,HX.out] at V;injection V with V;exact V.symm
 obtain⟨XA,xc,rfl,-⟩:=id g3;obtain⟨xb,xo,sm,w9,rfl,x0,l3,-,l4,g5⟩:=g3.at_ (i:=m) (by rw[LS];exact hm);have n4:w9=[.bool sm]:=l4;subst n4;have c1:∀E:Up M,E.to.cell? ⟨yb,yo+k,none⟩=some (.slice (some ⟨xb,xo,none⟩) F.code.length xc):=λE=>E.cell ((D.out.cell v9).trans (by have:=g4 0 _ rfl;rw[<-LS];simpa using this));have c2:∀E:Up M,E.to.cell? ⟨xb,xo+m,none⟩=some (.bool sm):=λE=>E.cell ((D.out.cell x0).trans (by have:=g5 0 _ rfl;simpa using this));have e7:Hid (sm=m4):=by show _=_;rw[<-s0.out,Int.toNat_natCast,List.getD_eq_getElem?_getD,l3];rfl
 clear l4 g5 g4 g3 V l3 v1 v2;repeat (go_big_quiet_step (fail))
 obtain⟨x1,b4⟩:∃b:Bool,(!sm)=b:=⟨_,rfl⟩;rw[b4];cases x1
 case true=>
  obtain rfl:sm=false:=by simpa using b4
  have l:Hid (false=r):=by rw[<-z.out,<-e7.out];simp[Hid]
  repeat (go_big_quiet_step (fail))
  refine wpQuiet_nil ?_;rintro _ ⟨E,rfl⟩;have g:=btZ D E.below;clear s u y G H I J L c1 c2;go_wp2_with fail;go_ret;exact⟨by rw[<-l.out];rfl,g.out⟩
 obtain rfl:sm=true:=by simpa using b4
 repeat (go_big_quiet_step (fail))
 refine wpQuiet_nil ?_;rintro _ ⟨E,rfl⟩;obtain⟨w5,k5⟩:=E;dsimp only;have C5:=hI k5;have Y:=btZ D k5;have k4:=hI (j1.out.on k5);have c7:=hI (c3.out.on k5);clear s u y G H I J L c1 c2 k5;obtain⟨zb,zo,zs,D3,rfl,x4,X,-,⟨D4,rfl,g7⟩,h0⟩:=p4.out.at_ (i:=k) (by rw[List.length_map];exact hk);obtain rfl:zs=(cY F.code).out:=by rw[List.getElem?_map,HX.out] at X;injection X with X;exact X.symm
 obtain⟨D5,x5,rfl,-⟩:=id g7;obtain⟨ub,uo,om,D6,rfl,y0,l5,-,⟨uv,rfl,h1⟩,h2⟩:=g7.at_ (i:=m) (by rw[LO];exact hm);obtain⟨UA,uc,rfl,-⟩:=id h1;have n5:Hid (decide (tries=om)=m5):=by
  show _=_;have:(cY F.code).out.getD (m:Int).toNat []=om:=by rw[Int.toNat_natCast,List.getD_eq_getElem?_getD,l5];rfl
  rw[<-s1.out,this]
 have CE:Hid (∀E:Up w5,Calls prog 72 #[.slice TA tries.length tc,.slice UA om.length uc] E.to (aM (.bool m5) E.to)):=λE=>by have g:=btZ Y E.below;rw[<-n5.out];exact qF _ _ _ _ E.to (o9.out.below g) (h1.below g)
 have CF:Hid (∀E:Up w5,Calls prog 86 #[.slice RA regs.length rc,.func (.func 182) #[] #[.pointer (some ⟨w.heap.size,0,none⟩)]] E.to (aM (.bool (regs.any λv=>!dJ aG S v)) E.to)):=λE=>by have g:=btZ Y E.below;exact eE hU (λv=>!dJ aG S v) RA rc regs 182 adE #[.pointer (some ⟨w.heap.size,0,none⟩)] E.to (o8.out.below g) (λw6 k6 x cs hx hR=>by obtain⟨rfl,-⟩:=hR;exact ac8 x p S A sb mb w.heap.size _ _ w6 ((LT.out.below g).below k6).look (aC k6 (E.cell (k4.out 0 _ rfl))))
 have s:=ecZ (k4.out 0 _ rfl);have u:=ecZ (c7.out 0 _ rfl);have y:=ecZ (c7.out 1 _ rfl);have G:=ecZ (c7.out 6 _ rfl);have H:=ecZ (c7.out 7 _ rfl);have I:∀E:Up w5,E.to.cell? ⟨A,4,none⟩=some (.slice (some ⟨zb,zo,none⟩) p.fns.length zc):=λE=>E.cell ((Y.out.cell b5).trans (HL.out 4 _ rfl));have J:∀E:Up w5,E.to.cell? ⟨zb,zo+k,none⟩=some (.slice (some ⟨ub,uo,none⟩) F.code.length x5):=λE=>E.cell ((Y.out.cell x4).trans (by have:=h0 0 _ rfl;rw[<-LO];simpa using this));have L:∀E:Up w5,E.to.cell? ⟨ub,uo+m,none⟩=some (.slice UA om.length uc):=λE=>E.cell ((Y.out.cell y0).trans (by have:=h2 0 _ rfl;simpa using this));have t6:Hid ((!regs.any λv=>!dJ aG S v)=m6):=by show _=_;rw[<-s2.out,List.all_eq_not_any_not]
 clear h0 g7 X l5 h2 h1;go_upto_region 7 with fail;refine aD (by kernel_rfl) (by kernel_rfl) ?_;repeat (go_big_quiet_step ((first | (go_at_call 72;with_reducible exact Calls.up (CE.out _)) | (go_at_call 86;with_reducible exact Calls.up (CF.out _)))))
 cases m5
 case false=>
  have l:Hid (false=r):=by rw[<-z.out];simp[Hid]
  repeat (go_big_quiet_step (fail))
  refine wpQuiet_nil ?_;rintro _ ⟨E,rfl⟩;have g:=btZ Y E.below;clear s u y G H I J L;go_wp2_with fail;go_ret;exact⟨by rw[<-l.out];rfl,g.out⟩
 have l:Hid ((!regs.any λv=>!dJ aG S v)=r):=by show _=_;rw[t6.out,<-z.out,M1.out,M2.out,<-e7.out];simp
 repeat (go_big_quiet_step ((first | (go_at_call 72;with_reducible exact Calls.up (CE.out _)) | (go_at_call 86;with_reducible exact Calls.up (CF.out _)))))
 refine wpQuiet_nil ?_;rintro _ ⟨E,rfl⟩;have g:=btZ Y E.below;clear s u y G H I J L;go_wp2_with fail;go_ret;exact⟨by rw[<-l.out];rfl,g.out⟩
end
section
open Go.RowKit
theorem rS:(prog.info? 61).map (·.size)=some 8:=by kernel_rfl
theorem nH {p:aW} {S:aR} {f:a8} (h:dB aG p S f=true):(∃k:Nat,f.fn=k/\k<p.fns.length)/\(∃m:Nat,f.at_=m/\m<(gD p f.fn).code.length)/\(f.regs.length:Int)=(gD p f.fn).regs:=by unfold dB at h;simp only[Bool.and_eq_true] at h;obtain⟨⟨⟨⟨⟨⟨h1,h2⟩,h3⟩,h4⟩,h5⟩,h6⟩,h7⟩:=h;obtain⟨d,e⟩:=eS.1 h1;obtain⟨g,i⟩:=eS.1 h4;exact⟨⟨f.fn.toNat,by omega,by omega⟩,⟨f.at_.toNat,by omega,by omega⟩,of_decide_eq_true h3⟩
theorem saved_c (i:List Value) (f:a8) (p:aW) (S:aR) (C sb mb:Nat) (tv yv:Value) (w:World) (hf:eR w w.heap.size i f) (h:iV w C p S sb mb tv yv) (x:i8 p) : Calls prog 132 #[.pointer (some ⟨C,0,none⟩),.agg ⟨i⟩] w (aM (.bool (nO aG p S f)) w):=by
 obtain⟨s,u⟩:∃s,s=w.alloc (.cells ⟨i⟩ 61):=⟨_,rfl⟩;have l:Hid (Below w.heap.size w s):=by rw[u];exact aB w _
 have y:Hid (aA s w.heap.size i):=by rw[u];exact ad5 _ _ _
 have D:Hid (∀E:Up s,Calls prog 164 #[.pointer (some ⟨C,0,none⟩),.agg ⟨i⟩] E.to (aM (.bool (dB aG p S f)) E.to)):=λE=>by have d:=btZ l E.below;exact zL i f p S C sb mb _ _ E.to (hf.keep d.size (λ_ hp=>d.cell hp)) (h.below d) x
 obtain⟨q,Z⟩:∃q,dB aG p S f=q:=⟨_,rfl⟩;rw[Z] at D;obtain⟨r,A⟩:∃r,nO aG p S f=r:=⟨_,rfl⟩;rw[A];unfold nO at A;rw[Z] at A;have HQ:=hI Z;obtain⟨fn,at_,tos,gen,⟨sk,sn⟩,regs,tries⟩:=f;dsimp only at A;obtain⟨rv,i0,rfl,L,M,wf,wa,wt,wg,-⟩:=hf;dsimp only at L M wf wa wt wg u y D ⊢;obtain⟨RA,rc,rfl,-⟩:=id L;obtain⟨TA,tc,rfl,-⟩:=id M;obtain⟨pa,pb,pc,hl,a9⟩:=h.look.here;obtain⟨d7,b5,i1,i2,i3,i4,b6,c0,-⟩:=id a9;simp only[List.cons.injEq,and_true] at b6;obtain⟨rfl,rfl,rfl⟩:=b6;have c8:=hI c0;have a5:=h.look.size;have c9:Hid (∀E:Up s,E.to.rangeAt w.heap.size 0 [.int .i64 fn,.int .i64 at_,.int .i64 tos,.int .i64 gen,.int .i64 sk,.int .i64 sn,.slice RA regs.length rc,.slice TA tries.length tc]):=λE=>(y.o.on E.below).range;have G:=ecZ (y.o 0 _ rfl);have H:=ecZ (y.o 2 _ rfl);have I:=ecZ (y.o 3 _ rfl);have J:∀E:Up s,E.to.cell? ⟨C,0,none⟩=some (.slice d7 p.fns.length b5):=λE=>E.cell ((l.o.cell a5).trans (hl 0 _ rfl));have z:=hI A;have HL:=hI hl;have HW:=hI u;clear u A Z hl a9 c0 h L M x;go_enter func132,ntmps132;go_upto_region 1 with fail;rw[<-HW.o];refine aD (by kernel_rfl) (by kernel_rfl) ?_
 repeat (first
  | (refine aO 61 _ rfl rfl (w.heap.size) 0 rfl _ _ c9.o underlying61 rfl rS ?_;go_simp)
  | go_big_quiet_step ((go_at_call 164;with_reducible exact Calls.up (D.o _))))
 obtain⟨nq,N⟩:∃b:Bool,(!q)=b:=⟨_,rfl⟩;rw[N];cases nq
 case true=>
  obtain rfl:q=false:=by simpa using N
  have e:Hid (false=r):=by rw[<-z.o];rfl
  repeat (go_big_quiet_step (fail))
  refine wpQuiet_nil ?_;(first | rintro _ ⟨E,rfl⟩ | intro E);have d:=btZ l E.below;clear G H I J;go_wp2_with fail;go_ret;exact⟨by rw[<-e.o];rfl,d.o⟩
 obtain rfl:q=true:=by simpa using N
 repeat (go_big_quiet_step (fail))
 obtain⟨X,O⟩:∃b:Bool,(tos != -1)=b:=⟨_,rfl⟩;rw[O];cases X
 case true=>
  have e:Hid (false=r):=by rw[<-z.o,show(tos == -1)=false by simpa using O];rfl
  repeat (go_big_quiet_step (fail))
  refine wpQuiet_nil ?_;(first | rintro _ ⟨E,rfl⟩ | intro E);have d:=btZ l E.below;clear G H I J;go_wp2_with fail;go_ret;exact⟨by rw[<-e.o];rfl,d.o⟩
 have T2:Hid ((tos == -1)=true):=by simpa [Hid] using O
 repeat (go_big_quiet_step (fail))
 obtain⟨Y,P⟩:∃b:Bool,(gen != -1)=b:=⟨_,rfl⟩;rw[P];cases Y
 case true=>
  have e:Hid (false=r):=by rw[<-z.o,show(gen == -1)=false by simpa using P,Bool.and_false];rfl
  repeat (go_big_quiet_step (fail))
  refine wpQuiet_nil ?_;(first | rintro _ ⟨E,rfl⟩ | intro E);have d:=btZ l E.below;clear G H I J;go_wp2_with fail;go_ret;exact⟨by rw[<-e.o];rfl,d.o⟩
 have T3:Hid ((gen == -1)=true):=by simpa [Hid] using P
 obtain⟨⟨k,c1,hk⟩,⟨m,c2,hm⟩,-⟩:=nH HQ.o;dsimp only at c1 c2 hm;subst c1;subst c2;have h6:(k:Int)<p.fns.length:=by omega
 obtain⟨b,v,F,cs,rfl,c3,hx,-,⟨CA,cn,OA,on_,rfl,-,j,-⟩,R⟩:=c8.o.at_ hk;have d0:=hI j;have e6:=aP j;have d1:Hid (gD p (k:Int)=F):=by show _=_;unfold gD;rw[Int.toNat_natCast,hx];rfl
 rw[d1.o] at z hm;have d2:Hid (w.cell? ⟨b,v+k*5+2,none⟩=some (.bool F.gen)):=R 2 _ rfl;have hbo:Hid (w.cell? ⟨b,v+k*5+4,none⟩=some (.slice OA F.code.length on_)):=R 4 _ rfl;have a4:∀E:Up s,E.to.cell? ⟨b,v+k*5+2,none⟩=some (.bool F.gen):=λE=>E.cell ((l.o.cell c3).trans d2.o);clear R hx j;repeat (go_big_quiet_step (fail))
 obtain⟨ng,V⟩:∃b:Bool,(!F.gen)=b:=⟨_,rfl⟩;rw[V];cases ng
 case true=>
  have e:Hid (false=r):=by rw[<-z.o,show F.gen=false by simpa using V,Bool.and_false];rfl
  repeat (go_big_quiet_step (fail))
  refine wpQuiet_nil ?_;(first | rintro _ ⟨E,rfl⟩ | intro E);have d:=btZ l E.below;clear G H I J a4;go_wp2_with fail;go_ret;exact⟨by rw[<-e.o];rfl,d.o⟩
 have T4:Hid (F.gen=true):=by simpa [Hid] using V
 repeat (go_big_quiet_step (fail))
 refine wpQuiet_nil ?_;(first | rintro _ ⟨E,rfl⟩ | intro E);obtain⟨w1,k1⟩:=E;dsimp only;have K:=btZ l k1;have a6:=hI (y.o.on k1);have a7:Hid (((m:Int) == 0 || ((F.code[((m:Int) - 1).toNat]?).map (·.op)).getD 0 == 32)=r):=by show _=_;rw[<-z.o,T2.o,T3.o,T4.o];rfl
 have b1:=ecZ (a6.o 1 _ rfl);have b0:=ecZ (a6.o 0 _ rfl);have X:∀E:Up w1,E.to.cell? ⟨C,0,none⟩=some (.slice (some ⟨b,v,none⟩) p.fns.length b5):=λE=>E.cell ((K.o.cell a5).trans (HL.o 0 _ rfl));have Y:∀E:Up w1,E.to.cell? ⟨b,v+k*5+4,none⟩=some (.slice OA F.code.length on_):=λE=>E.cell ((K.o.cell c3).trans hbo.o);clear G H I J a4 k1;go_upto_region 3 with fail;refine aD (by kernel_rfl) (by kernel_rfl) ?_;rcases Nat.eq_zero_or_pos m with hm0 | hm0
 ·subst hm0;have e:Hid (true=r):=by rw[<-a7.o];rfl
  repeat (go_big_quiet_step (fail))
  refine wpQuiet_nil ?_;(first | rintro _ ⟨E,rfl⟩ | intro E);have d:=btZ K E.below;clear b0 b1 X Y;go_wp2_with fail;go_ret;exact⟨by rw[<-e.o];rfl,d.o⟩
 ·obtain⟨g,rfl⟩:∃g,m=g+1:=⟨m - 1,by omega⟩;have d5:g<F.code.length:=by omega
  have h7:(g:Int)<F.code.length:=by omega
  obtain⟨cb,co,ci,i5,rfl,e3,c5,-,⟨rfl,-⟩,W⟩:=d0.o.at_ d5;have b4:∀E:Up w1,E.to.cell? ⟨cb,co+g*5,none⟩=some (.int .i64 ci.op):=λE=>E.cell ((K.o.cell e3).trans (by have:=W 0 _ rfl;simpa using this));have d6:(((g+1:Nat):Int) == 0)=false:=bF (by omega);have c6:(((g+1:Nat):Int) - 1)=g:=by omega
  have e:Hid ((ci.op == 32)=r):=by show _=_;rw[<-a7.o,d6,Bool.false_or,c6,Int.toNat_natCast,c5];rfl
  clear W c5;have h8:((g:Int)+1 == 0)=false:=bF (by omega);have h9:((g:Int)+1 - 1)=g:=by omega
  simp only[Int.natCast_add,Int.cast_ofNat_Int] at b1;repeat (go_big_quiet_step (fail))
  refine wpQuiet_nil ?_;(first | rintro _ ⟨E,rfl⟩ | intro E);have d:=btZ K E.below;clear b0 b1 X Y b4;go_wp2_with fail;go_ret;exact⟨by rw[<-e.o];rfl,d.o⟩
theorem lheap_c (cs:List Value) (c:bC) (p:aW) (S:aR) (M sb mb:Nat) (tv yv:Value) (w:World) (hc:jY w w.heap.size cs c) (h:iV w M p S sb mb tv yv) (O:i8 p) (a6:kE aG S c=true) : Calls prog 97 #[.pointer (some ⟨M,0,none⟩),.agg ⟨cs⟩] w (aM (.bool (lQ aG p S c)) w):=by
 obtain⟨r,D⟩:∃r,lQ aG p S c=r:=⟨_,rfl⟩;rw[D];unfold lQ at D;have R:=hI a6;obtain⟨N,s,vals,frames⟩:=c;dsimp only at D;obtain⟨vv,fv,rfl,y,hf,-,wn⟩:=hc;dsimp only at y hf wn ⊢;obtain⟨V,cv,rfl,-⟩:=id y;obtain⟨F,cf,rfl,-⟩:=id hf;have lv:=aP y;have HF:=hI hf;have LT:=hI h;obtain⟨pa,pb,pc,hl,X⟩:=h.look.here;obtain⟨Y,Z,f8,f9,g0,g1,a4,H,-⟩:=id X;simp only[List.cons.injEq,and_true] at a4;obtain⟨rfl,rfl,rfl⟩:=a4;have f3:=aP H;have b6:=hI H;have c0:=h.look.size;have h0:=hl 0 _ rfl;have H0:=hI h0;have u:=hI D;clear D hl X H h y hf a6 h0;by_cases k4:N=4
 ·subst k4;have c2:0<=s:=by have:=R.o;rw[kD] at this;have e:cU S ⟨4,s,vals,frames⟩=some (decide (0<=s),!vals.any (λv=>!oL aG S v 3),0):=rfl;rw[e] at this;simp only[Bool.and_eq_true] at this;exact of_decide_eq_true this.1.1.1.1
  obtain⟨k,rfl⟩:=Int.eq_ofNat_of_zero_le c2;obtain⟨f,d⟩:∃f,f=w.alloc (.cells #[.int .i64 4,.int .i64 k,.slice V vals.length cv,.slice F frames.length cf] 55):=⟨_,rfl⟩;have g:Hid (Below w.heap.size w f):=by rw[d];exact aB w _
  have HB:Hid (aA f w.heap.size [.int .i64 4,.int .i64 k,.slice V vals.length cv,.slice F frames.length cf]):=by rw[d];exact ad5 _ _ _
  have a0:=ecZ (HB.o 1 _ rfl);have a1:=ecZ (HB.o 2 _ rfl);have a2:∀E:Up f,E.to.cell? ⟨M,0,none⟩=some (.slice Y p.fns.length Z):=λE=>E.cell ((g.o.cell c0).trans H0.o);have A:=hI d;have W:Hid ((decide ((k:Int)<p.fns.length) && decide (vals.length=(gD p (k:Int)).caught.length))=r):=u.o;clear d;go_enter func97,ntmps97;go_upto_region 3 with fail;rw[<-A.o];refine aD (by kernel_rfl) (by kernel_rfl) ?_;repeat (go_big_quiet_step (fail))
  obtain⟨b1,I⟩:∃b:Bool,(decide (k<p.fns.length))=b:=⟨_,rfl⟩;rw[I];cases b1
  case false=>
   have l:Hid (false=r):=(by rw[<-W.o,decide_eq_false (by have:=of_decide_eq_false I;omega)];rfl);repeat (go_big_quiet_step (fail))
   refine wpQuiet_nil ?_;(first | rintro _ ⟨E,rfl⟩ | intro E);have KE:=btZ g E.below;clear a0 a1 a2;go_wp2_with fail;go_ret;exact⟨by rw[<-l.o];rfl,KE.o⟩
  have hk:k<p.fns.length:=of_decide_eq_true I;have c8:(k:Int)<p.fns.length:=by omega
  obtain⟨b,m,G,cs,rfl,J,L,-,⟨CA,cn,OA,on_,rfl,a5,-⟩,q⟩:=b6.o.at_ hk;have f7:=aP a5;have c9:Hid (gD p (k:Int)=G):=by show _=_;unfold gD;rw[Int.toNat_natCast,L];rfl
  have a3:∀E:Up f,E.to.cell? ⟨b,m+k*5+3,none⟩=some (.slice CA G.caught.length cn):=λE=>E.cell ((g.o.cell J).trans (q 3 _ rfl));have l:Hid (((vals.length:Int) == (G.caught.length:Int))=r):=by show _=_;rw[<-W.o,decide_eq_true c8,Bool.true_and,uT,c9.o]
  clear q L a5;repeat (go_big_quiet_step (fail))
  refine wpQuiet_nil ?_;(first | rintro _ ⟨E,rfl⟩ | intro E);have KE:=btZ g E.below;clear a0 a1 a2 a3;go_wp2_with fail;go_ret;exact⟨by rw[<-l.o];rfl,KE.o⟩
 have n4:(N == 4)=false:=bF k4;rw[if_neg k4] at u;by_cases k5:N=5
 ·subst k5;rw[if_pos rfl] at u;by_cases P:s=0
  ·subst P;obtain⟨z,ft,rfl⟩:∃z ft,frames=z::ft:=by
    have:=R.o
    rw[kD] at this
    have e:cU S ⟨5,0,vals,frames⟩=some (aK 0 0 2,(vals.length:Int) == 0,1):=rfl
    rw[e] at this
    simp only[Bool.and_eq_true] at this
    have h1:=this.1.1.2
    cases frames with
    | nil=>cases h1
    | cons a b=>exact⟨a,b,rfl⟩
   obtain⟨b,m,x,cs,rfl,J,L,d1,hR,q⟩:=HF.o.at_ (i:=0) (by simp);obtain rfl:z=x:=by simpa using L
   obtain⟨f,d⟩:∃f,f=w.alloc (.cells #[.int .i64 5,.int .i64 0,.slice V vals.length cv,.slice (some ⟨b,m,none⟩) (z::ft).length cf] 55):=⟨_,rfl⟩;have g:Hid (Below w.heap.size w f):=(by rw[d];exact aB w _);have C:=hI (saved_c cs z p S M sb mb _ _ f (hR.keep g.o.size (λ_ hp=>g.o.cell hp)) (LT.o.below g.o) O);have d0:Hid (f.rangeAt b m cs):=λj v y=>by have:=(g.o.cell J).trans (q j v y);simpa using this
   have HI:Hid ((prog.info? 61).map (·.size)=some cs.length):=(by rw[d1];exact rS);have A:=hI d;have l:Hid (nO aG p S z=r):=u.o;clear d q hR L;simp only[List.length_cons] at A ⊢;go_enter func97,ntmps97;go_wp2_with (first | (refine b8 61 _ rfl rfl b m rfl cs _ (by rw[<-A.o];exact d0.o) underlying61 rfl HI.o ?_) | fail);rw[<-A.o];refine C.o.mono ?_;rintro e w1 ⟨rfl,k1⟩;have K:=btZ g k1;clear k1;go_wp2_with fail;go_ret;exact⟨by rw[<-l.o];rfl,K.o⟩
  ·have l:Hid (true=r):=(by rw[<-u.o,show(s != 0)=true from bne_iff_ne.2 P];rfl);have b0:(s == 0)=false:=bF P;have b1:(s != 0)=true:=bne_iff_ne.2 P;go_enter func97,ntmps97;go_wp2_with fail;go_ret;exact⟨by rw[<-l.o];rfl,aB _ _⟩
 ·have n5:(N == 5)=false:=bF k5;have l:Hid (true=r):=by rw[<-u.o,if_neg k5];rfl
  go_enter func97,ntmps97;go_wp2_with fail;go_ret;exact⟨by rw[<-l.o];rfl,aB _ _⟩
theorem adD:∀d W,(callFunc 96 d).run prog W=.ok (.enter 96 d) W:=enters_of func96 (by kernel_rfl) rfl
theorem acF (cs:List Value) (c:bC) (p:aW) (S:aR) (m r s q:Nat) (A D:Value) (w:World) (u:jY w w.heap.size cs c) (h:iV w m p S r s A D) (j:i8 p) (x:kE aG S c=true) (l:w.cell? ⟨q,0,none⟩=some (.pointer (some ⟨m,0,none⟩))) : Calls prog 96 #[.agg ⟨cs⟩,.pointer (some ⟨q,0,none⟩)] w (aM (.bool (!lQ aG p S c)) w):=by
 obtain⟨i,d⟩:∃i,i=w.alloc (.cells ⟨cs⟩ 55):=⟨_,rfl⟩;have g:Hid (Below w.heap.size w i):=by rw[d];exact aB w _
 have C:=hI (lheap_c cs c p S m r s _ _ i (u.keep g.o.size (λ_ l=>g.o.cell l)) (h.below g.o) j x);obtain⟨v,f,rfl,-⟩:=u;have y:=hI d;have hl:q<w.heap.size:=dP l;clear d h;go_enter func96,ntmps96;go_wp2_with fail;rw[<-y.o];refine C.o.mono ?_;rintro e w1 ⟨rfl,z⟩;have K:=btZ g z;go_wp2_with fail;go_ret;exact⟨rfl,K.o⟩
end
end Go.Proofs.YtjaphgpkkfdaaaaGreatDoor
