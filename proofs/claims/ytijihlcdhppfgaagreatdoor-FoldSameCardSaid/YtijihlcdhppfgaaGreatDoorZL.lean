/- A part of the walk. -/
import Derived.Test.YtijihlcdhppfgaaGreatDoorZK
import Derived.Deep.DeepCutAuto
import Derived.Deep.CutBlock
import Derived.Laws.Rows
set_option maxHeartbeats 16000000
set_option maxRecDepth 100000
set_option linter.all false
namespace Go.Proofs.YtijihlcdhppfgaaGreatDoor
open Tryz
section
open Go.RowKit
def dW (S:aP) (c:bJ):Option (Bool×Bool×Int):=
 if c.kind=0 then some (c.num == 0,(c.vals.length:Int) == 0,0)
 else if c.kind=1 then some (aL c.num 0 ((S.shapes.length:Int) - 1),aL c.num 0 ((S.shapes.length:Int) - 1) && (c.vals.length:Int) == ((iE S.shapes c.num).length:Int),0)
 else if c.kind=2 then some (c.num == 0,true,0)
 else if c.kind=3 then some (c.num == 0,(c.vals.length:Int) == 1,0)
 else if c.kind=4 then some (decide (0<=c.num),!c.vals.any (λv=>!sI aF S v 3),0)
 else if c.kind=5 then some (aL c.num 0 2,(c.vals.length:Int) == 0,if c.num=0 then 1 else 0)
 else if c.kind=6 then some (aL c.num (-1) 4,(c.vals.length:Int) == 0,0)
 else if c.kind=7 then some (c.num == 0,jP [] c.vals,0)
 else none
theorem aaJ (n m:Nat):((n:Int) == (m:Int))=decide (n=m):=by
 by_cases h:n=m;·subst h;simp
 ·rw[decide_eq_false h];exact bF (by omega)
theorem jT {α : Type} (l:List α):((l.length:Int) == 0)=l.isEmpty:=by
 cases l with
 | nil=>rfl
 | cons x t=>exact bF (by simp;omega)
theorem aeO {α : Type} (l:List α):((l.length:Int) == 1)=decide (l.length=1):=aaJ l.length 1
theorem mM (S:aP) (c:bJ):mN aF S c=match dW S c with | none=>false | some (a,b,n)=>a && b && ((c.frames.length:Int) == n) && oK aF S c.vals && c.frames.all (jN aF S):=by
 unfold mN dW;by_cases d:c.kind=0;·rw[if_pos d,if_pos d];simp only[jT]
 rw[if_neg d,if_neg d];by_cases f:c.kind=1;·rw[if_pos f,if_pos f];simp only[jT,aaJ];cases aL c.num 0 ((S.shapes.length:Int) - 1) <;> simp
 rw[if_neg f,if_neg f];by_cases g:c.kind=2;·rw[if_pos g,if_pos g];simp only[jT,Bool.and_true]
 rw[if_neg g,if_neg g];by_cases h:c.kind=3;·rw[if_pos h,if_pos h];simp only[jT,aeO]
 rw[if_neg h,if_neg h];by_cases j:c.kind=4;·rw[if_pos j,if_pos j];simp only[jT];rw[List.all_eq_not_any_not]
 rw[if_neg j,if_neg j];by_cases l:c.kind=5
 ·rw[if_pos l,if_pos l];simp only[jT];by_cases p:c.num=0;·rw[if_pos p,if_pos p];simp only[aeO]
  ·rw[if_neg p,if_neg p];simp only[jT];cases c.frames <;> simp
 rw[if_neg l,if_neg l];by_cases q:c.kind=6;·rw[if_pos q,if_pos q];simp only[jT]
 rw[if_neg q,if_neg q];by_cases r:c.kind=7;·rw[if_pos r,if_pos r];simp only[jT]
 rw[if_neg r,if_neg r];rfl
theorem ccell_c (cs:List Value) (c:bJ) (S:aP) (y:Nat) (w:World) (hc:hM w w.heap.size cs c) (h:kI w y S) (a9:c.vals.length<=600) : Calls prog 138 #[.pointer (some ⟨y,0,none⟩),.agg ⟨cs⟩] w (aK (.bool (mN aF S c)) w):=by
 obtain⟨l,g,vals,frames⟩:=c;obtain⟨r,hr⟩:∃r,mN aF S ⟨l,g,vals,frames⟩=r:=⟨_,rfl⟩;rw[hr];rw[mM] at hr;obtain⟨vv,fv,rfl,hv,hf,wk,wn⟩:=hc;dsimp only at hv hf wk wn a9 hr ⊢;obtain⟨V,N,rfl,-⟩:=id hv;obtain⟨F,cf,rfl,-⟩:=id hf;have lv:=aM hv;have lf:=aM hf;have HV:=hI hv;have HF:=hI hf;have f7:=hI h;obtain⟨A0,n0,A1,n1,A2,n2,A3,n3,A4,n4,A5,n5,hh,hb,s0,s1,-⟩:=h.parts;have ls:=aM s1;have S1:=hI s1;have h1:=hh 1 _ rfl;obtain⟨w0,a3⟩:∃w0,w0=(w.alloc (.cells #[.pointer (some ⟨y,0,none⟩)] 154)).alloc (.cells #[.int .i64 l,.int .i64 g,.slice V vals.length N,.slice F frames.length cf] 166):=⟨_,rfl⟩;have TB:=nR w [.pointer (some ⟨y,0,none⟩)] [.int .i64 l,.int .i64 g,.slice V vals.length N,.slice F frames.length cf] 154 166;rw[<-a3] at TB;obtain⟨t1,t2,t3⟩:=TB;have P1:=hI t1;have P2:=hI t2;have Z:=hI t3;have g1:=ecZ (t2 1 _ rfl);have g2:=ecZ (t2 2 _ rfl);have HW:=hI a3;have G1:=hI h1;have HR:=hI hr;have hz:w.heap.size+1<w0.heap.size:=eL (t2 1 _ rfl);clear a3 hr hh s0 s1 h hv hf t1 t2 t3 h1;go_enter func138,ntmps138;go_upto_region 1 with fail;rw[<-HW.o];refine aD (by kernel_rfl) (by kernel_rfl) ?_;repeat (go_big_quiet_step (fail))
 refine wpQuiet_nil ?_;rintro _ ⟨E,rfl⟩;obtain⟨w1,J⟩:=E;dsimp only;have L:=btZ Z J;have D1:=hI (P1.o.on J);have M:=hI (P2.o.on J);have o0:w.heap.size+1<w1.heap.size:=Nat.lt_of_lt_of_le hz J.size;have c5:=hI (f7.o.below L.o);have V1:=hI (HV.o.below L.o);have F1:=hI (HF.o.below L.o);have g0:=hI (S1.o.below L.o);have g3:Hid (w1.cell? ⟨y,1,none⟩=some (.slice A1 S.shapes.length n1)):=(L.o.cell hb).trans G1.o;have o1:y<w1.heap.size:=Nat.lt_of_lt_of_le hb L.o.size;clear g1 g2 J;have O:=M.o 0 _ rfl;go_upto_block 0 with fail;clear O;go_cut [5,6,7] (λa b d wx=>∃(nb vb:Bool) (P:Int),a=.bool nb/\b=.bool vb/\d=.int .i64 P/\Hid (dW S ⟨l,g,vals,frames⟩=some (nb,vb,P))/\Hid (Below w1.heap.size w1 wx))
 case first=>
  have z:=kG w1;have d1:=M.o 1 _ rfl;have d2:=M.o 2 _ rfl;have d3:=M.o 3 _ rfl;by_cases Z:l=0;·subst Z;go_wp2_with fail;go_meet;case rel=>exact⟨_,_,_,rfl,rfl,rfl,rfl,z⟩
  have m0:(l == 0)=false:=bF Z;by_cases J:l=1
  ·subst J;have CW:Hid (∀W,Calls prog 143 #[.int .i64 g,.int .i64 0,.int .i64 ((S.shapes.length:Int) - 1)] W λe w'=>e=.returned (.bool (aL g 0 ((S.shapes.length:Int) - 1)))/\W=w'):=λW=>qE _ _ _ W;obtain⟨q,p⟩:∃q,aL g 0 ((S.shapes.length:Int) - 1)=q:=⟨_,rfl⟩;rw[p] at CW;have I:=hI p;have f0:=ecZ (D1.o 0 _ rfl);have f1:=ecZ (M.o 1 _ rfl);have f2:=ecZ g3.o;have f3:=ecZ (M.o 2 _ rfl);clear p d1 d2 d3;go_upto_region 6 with fail;refine aD (by kernel_rfl) (by kernel_rfl) ?_;repeat (go_big_quiet_step ((go_at_call 143;with_reducible exact akW (CW.o _))))
   refine wpQuiet_nil ?_;rintro _ ⟨E,rfl⟩;obtain⟨j,u⟩:=E;dsimp only;have s:=hI u;have f0:∀E:Up j,E.to.cell? ⟨w.heap.size,0,none⟩=some (.pointer (some ⟨y,0,none⟩)):=λE=>E.cell (f0 ⟨j,s.o⟩);have f1:∀E:Up j,E.to.cell? ⟨w.heap.size+1,1,none⟩=some (.int .i64 g):=λE=>E.cell (f1 ⟨j,s.o⟩);have f2:∀E:Up j,E.to.cell? ⟨y,1,none⟩=some (.slice A1 S.shapes.length n1):=λE=>E.cell (f2 ⟨j,s.o⟩);have f3:∀E:Up j,E.to.cell? ⟨w.heap.size+1,2,none⟩=some (.slice V vals.length N):=λE=>E.cell (f3 ⟨j,s.o⟩);have g5:=hI (g0.o.below s.o);clear u;cases q
   case false=>
    go_upto_region 7 with fail;refine aD (by kernel_rfl) (by kernel_rfl) ?_;repeat (go_big_quiet_step (fail))
    refine wpQuiet_nil ?_;rintro _ ⟨E,rfl⟩;have KE:=btZ s E.below;clear f0 f1 f2 f3;go_wp2_with fail;go_meet;case rel=>exact⟨_,_,_,rfl,rfl,rfl,by show dW S ⟨1,g,vals,frames⟩=_;have:dW S ⟨1,g,vals,frames⟩=some (aL g 0 ((S.shapes.length:Int) - 1),aL g 0 ((S.shapes.length:Int) - 1) && (vals.length:Int) == ((iE S.shapes g).length:Int),0):=rfl;rw[this,I.o];rfl,KE⟩
   go_upto_region 7 with fail;refine gL (λw'=>∃E:Up j,w'=E.to) [0,1,2,3,4,5,6,7,8,9,10] [11,12,13,14,15] [11,12] (by kernel_rfl) (by kernel_rfl) (λ_ _ d _ _ h=>by cases d <;> exact h) ⟨⟨_,(Below.refl _ j).drew⟩,rfl⟩ ?_;simp only[List.filterMap_cons,List.filterMap_nil,List.getElem?_toArray,List.getElem?_cons_zero,List.getElem?_cons_succ];generalize c9:(λa'=>gT _ _ _ _ _ _ a' _)=qq;have c6:=hI c9;clear c9;show wpQuiet _ _ _ _ [_,_,_,_,_,_,_,_,_,_,_] _;repeat (go_big_quiet_step (fail))
   refine wpQuiet_nil ?_;rw[<-c6.o];clear c6 qq;refine aR rfl (λK hK=>?_);go_simp;refine(afR A1 n1 S.shapes g j.drew (g5.o.below ((Below.refl _ j).drew))).mono ?_;rintro e w5 ⟨v,rfl,sv,Y⟩;obtain⟨N1,cn,rfl,-⟩:=id sv;have ln:=aM sv;have K5:Hid (Below j.heap.size j w5):=(Below.refl _ j).drew.trans Y;have KE:=btZ s K5.o;clear Y sv f0 f1 f2 f3;refine hK _ _ (λ_=>⟨⟨w5,K5.o⟩,rfl⟩) ?_;clear hK K;refine aR rfl (λK hK=>?_);go_simp;refine hK _ _ (λ_=>⟨⟨w5,K5.o⟩,rfl⟩) ?_;clear hK K;refine bG [13,14,15] _ _ (by kernel_rfl) (by kernel_rfl) ?_;simp only[List.filterMap_cons,List.filterMap_nil,List.getElem?_toArray,List.getElem?_cons_zero,List.getElem?_cons_succ];go_wp2_with fail;go_meet;case rel=>exact⟨_,_,_,rfl,rfl,rfl,by show dW S ⟨1,g,vals,frames⟩=_;have:dW S ⟨1,g,vals,frames⟩=some (aL g 0 ((S.shapes.length:Int) - 1),aL g 0 ((S.shapes.length:Int) - 1) && (vals.length:Int) == ((iE S.shapes g).length:Int),0):=rfl;rw[this,I.o];rfl,KE⟩
  have m1:(l == 1)=false:=bF J;by_cases u:l=2;·subst u;go_wp2_with fail;go_meet;case rel=>exact⟨_,_,_,rfl,rfl,rfl,rfl,z⟩
  have m2:(l == 2)=false:=bF u;by_cases G:l=3;·subst G;go_wp2_with fail;go_meet;case rel=>exact⟨_,_,_,rfl,rfl,rfl,rfl,z⟩
  have m3:(l == 3)=false:=bF G;by_cases H:l=4;·subst H;have C:=hI (fY hU (λv=>!sI aF S v 3) V N vals 199 adQ #[.pointer (some ⟨w.heap.size,0,none⟩)] w1 V1.o (λj u x cs hx hR=>by obtain⟨rfl,-⟩:=hR;exact cell1_c x S y w.heap.size j (c5.o.below u) (aC u (D1.o 0 _ rfl))));go_wp2_with fail;refine C.o.mono ?_;rintro e j ⟨rfl,u⟩;have s:=hI u;clear u d1 d2 d3;go_wp2_with fail;go_meet;case rel=>exact⟨_,_,_,rfl,rfl,rfl,rfl,s⟩
  have m4:(l == 4)=false:=bF H;by_cases Y:l=5
  ·subst Y;have C:=hI (qE g 0 2 w1);obtain⟨q,p⟩:∃q,aL g 0 2=q:=⟨_,rfl⟩;rw[p] at C;have I:=hI p;clear p;by_cases n0:g=0;·subst n0;go_wp2_with fail;refine C.o.mono ?_;rintro e j ⟨rfl,rfl⟩;go_wp2_with fail;go_meet;case rel=>exact⟨_,_,_,rfl,rfl,rfl,by rw[<-I.o];rfl,z⟩
   ·have b0:(g == 0)=false:=bF n0;go_wp2_with fail;refine C.o.mono ?_;rintro e j ⟨rfl,rfl⟩;go_wp2_with fail;go_meet;case rel=>exact⟨_,_,_,rfl,rfl,rfl,by rw[<-I.o];show dW S ⟨5,g,vals,frames⟩=_;have:dW S ⟨5,g,vals,frames⟩=some (aL g 0 2,(vals.length:Int) == 0,if g=0 then 1 else 0):=rfl;rw[this,if_neg n0],z⟩
  have m5:(l == 5)=false:=bF Y;by_cases k6:l=6;·subst k6;have C:=hI (qE g (-1) 4 w1);obtain⟨q,p⟩:∃q,aL g (-1) 4=q:=⟨_,rfl⟩;rw[p] at C;have I:=hI p;clear p;go_wp2_with fail;refine C.o.mono ?_;rintro e j ⟨rfl,rfl⟩;go_wp2_with fail;go_meet;case rel=>exact⟨_,_,_,rfl,rfl,rfl,by rw[<-I.o];rfl,z⟩
  have m6:(l == 6)=false:=bF k6;by_cases k7:l=7;·subst k7;have C:=hI (weak_c V N vals (.pointer (some ⟨y,0,none⟩)) w1 V1.o a9);have O:=D1.o 0 _ rfl;obtain⟨q,p⟩:∃q,jP [] vals=q:=⟨_,rfl⟩;rw[p] at C;have I:=hI p;clear p;go_wp2_with fail;refine C.o.mono ?_;rintro e j ⟨rfl,u⟩;have s:=hI u;clear u d1 d2 d3 O;go_wp2_with fail;go_meet;case rel=>exact⟨_,_,_,rfl,rfl,rfl,by rw[<-I.o];rfl,s⟩
  have m7:(l == 7)=false:=bF k7;have A:Hid (false=r):=by rw[<-HR.o];unfold dW;simp only[Z,J,u,G,H,Y,k6,k7,if_false];trivial
  go_wp2_with fail;go_ret;exact⟨by rw[<-A.o];rfl,L.o⟩
 case rest=>
  obtain⟨j,h7⟩:∃j,j=wc:=⟨_,rfl⟩;subst h7;obtain⟨nb,vb,P,rfl,rfl,rfl,HP,R⟩:=hcut;have s:=btZ L R.o;have D:Hid ((nb && vb && ((frames.length:Int) == P) && oK aF S vals && frames.all (jN aF S))=r):=by rw[<-HR.o,HP.o];rfl
  have O:j.cell? ⟨w.heap.size,0,none⟩=some (.pointer (some ⟨y,0,none⟩)):=(D1.o.on R.o) 0 _ rfl;have e2:j.cell? ⟨w.heap.size+1,2,none⟩=some (.slice V vals.length N):=(M.o.on R.o) 2 _ rfl;have e3:j.cell? ⟨w.heap.size+1,3,none⟩=some (.slice F frames.length cf):=(M.o.on R.o) 3 _ rfl;have E3:=hI e3;have E0:=hI O;have c7:=hI (c5.o.below R.o);have CA:=hI (akD V N vals S y j c7.o (V1.o.below R.o));have F2:=hI (F1.o.below R.o);obtain⟨q,p⟩:∃q,oK aF S vals=q:=⟨_,rfl⟩;rw[p] at CA D;clear p;cases nb;case false=>have A:Hid (false=r):=(by rw[<-D.o];rfl);go_wp2_with fail;go_ret;exact⟨by rw[<-A.o];rfl,s.o⟩
  cases vb;case false=>have A:Hid (false=r):=(by rw[<-D.o];rfl);go_wp2_with fail;go_ret;exact⟨by rw[<-A.o];rfl,s.o⟩
  obtain⟨fb,X⟩:∃b,((frames.length:Int) == P)=b:=⟨_,rfl⟩;rw[X] at D;cases fb;case false=>have A:Hid (false=r):=(by rw[<-D.o];rfl);have k8:((frames.length:Int) != P)=true:=(by rw[bne,X];rfl);go_wp2_with fail;go_ret;exact⟨by rw[<-A.o];rfl,s.o⟩
  obtain rfl:P=(frames.length:Int):=(beq_iff_eq.1 X).symm;clear X;go_wp2_with fail;refine CA.o.mono ?_;rintro e w3 ⟨rfl,G⟩;have K3:=btZ s G;cases q;case false=>have A:Hid (false=r):=(by rw[<-D.o];rfl);clear G O e2 e3;go_wp2_with fail;go_ret;exact⟨by rw[<-A.o];rfl,K3.o⟩
  have h0:=aC G E3.o;have c8:=aC G E0.o;have h2:=hI c8;have h3:=hI (c7.o.below G);have F3:=hI (F2.o.below G);have CF:=hI (tX (dD w w.heap.size) (λf=>!jN aF S f) F cf frames 203 adP #[.pointer (some ⟨w.heap.size,0,none⟩)] w3 F3.o (λw4 H x cs hx hR=> cell2_c cs x S y w.heap.size w4 (hR.keep (Nat.le_trans K3.o.size H.size) (λ_ hp=>(K3.o.trans (H.mono K3.o.size)).cell hp)) (h3.o.below H) (aC H h2.o)));have A:Hid ((!frames.any λf=>!jN aF S f)=r):=by rw[<-D.o,Bool.true_and,Bool.true_and,Bool.true_and,Bool.true_and,List.all_eq_not_any_not];rfl
  clear G O e2 e3;go_wp2_with fail;refine CF.o.mono ?_;rintro e w4 ⟨rfl,H⟩;have K4:=btZ K3 H;clear H h0 c8;go_wp2_with fail;go_ret;exact⟨by rw[<-A.o];rfl,K4.o⟩
end
section
open Go.RowKit
theorem zD {S:aP} (h:rI S=false):S.texts.length<=300/\S.cells.length<=300/\S.said.length<=200/\S.ends.length<=100/\∀c∈S.cells,c.vals.length<=600:=by
 unfold rI at h;simp only[Bool.or_eq_false_iff,decide_eq_false_iff_not,List.any_eq_false] at h;obtain⟨⟨⟨⟨⟨h1,h2⟩,h3⟩,h4⟩,h5⟩,h6⟩:=h;refine⟨by omega,by omega,by omega,by omega,λc d=>?_⟩;have:=h6 c d;rcases Nat.lt_or_ge 600 c.vals.length with h | h;·exfalso;apply this;rw[decide_eq_true (show 100<c.vals.length by omega),decide_eq_true h];simp
 ·exact h
theorem ck2_c (cs:List Value) (c:bJ) (S:aP) (j:Nat) (w:World) (p:hM w w.heap.size cs c) (h:kI w j S) (l:c.vals.length<=600) : Calls prog 137 #[.agg ⟨cs⟩,.pointer (some ⟨j,0,none⟩)] w (aK (.bool (!mN aF S c)) w):=by
 obtain⟨w0,d⟩:∃w0,w0=w.alloc (.cells ⟨cs⟩ 166):=⟨_,rfl⟩;have g:Hid (Below w.heap.size w w0):=by rw[d];exact aA w _
 have C:=hI (ccell_c cs c S j w0 (p.keep g.o.size (λ_ s=>g.o.cell s)) (h.below g.o) l);obtain⟨v,f,rfl,-⟩:=p;have q:=hI d;clear d h;go_enter func137,ntmps137;go_wp2_with fail;rw[<-q.o];refine C.o.mono ?_;rintro e w1 ⟨rfl,r⟩;have K:=btZ g r;go_wp2_with fail;go_ret;exact⟨rfl,K.o⟩
theorem akB (cs:List Value) (S:aP) (w:World) (h:eB w w.heap.size cs S) (ht:Tab w):Calls prog 70 #[.agg ⟨cs⟩] w (aK (.int .i64 (dN aF S dI)) w):=by
 obtain⟨r,p⟩:∃r,dN aF S dI=r:=⟨_,rfl⟩;rw[p];unfold dN at p;obtain⟨w0,j⟩:∃w0,w0=w.alloc (.cells ⟨cs⟩ 40):=⟨_,rfl⟩;have J:Hid (Below w.heap.size w w0):=by rw[j];exact aA w _
 have D:Hid (kI w0 w.heap.size S):=⟨cs,by rw[j];exact akV _ _ _,by rw[j];simp,h.below J.o⟩;obtain⟨A0,n0,A1,n1,A2,n2,A3,n3,A4,n4,A5,n5,hh,hb,s0,s1,s2,s3,s4,s5⟩:=D.o.parts;have E:=hI hh;have S0:=hI s0;have S1:=hI s1;have S2:=hI s2;have S4:=hI s4;have S5:=hI s5;have T0:=hI (ht.below J.o);have CL:=hI (ah1 S w.heap.size w0 D.o);have HW:=hI j;obtain⟨q1,F⟩:∃q,rI S=q:=⟨_,rfl⟩;rw[F] at CL p;have c6:=hI F;have c7:Hid (∃c s t g e a,cs=[c,s,t,g,e,a,.int .i64 S.asked,.int .i64 S.steps]):=by obtain⟨c,s,t,g,e,a,rfl,-⟩:=h;exact⟨c,s,t,g,e,a,rfl⟩
 obtain⟨c,s,t,g,e,a,rfl⟩:=c7.o;clear j h hh s0 s1 s2 s3 s4 s5 ht F;cases q1;case true=>have f:Hid ((2:Int)=r):=p;clear p;go_enter func70,ntmps70;go_wp2_with fail;rw[<-HW.o];refine CL.o.mono ?_;rintro e w1 ⟨rfl,u⟩;have K:=btZ J u;clear u;go_wp2_with fail;go_ret;exact⟨by rw[<-f.o];rfl,K.o⟩
 obtain⟨l1,l2,l3,l4,l5⟩:=zD c6.o;have L5:=hI l5;have d:(if cG S.shapes≠0 then cG S.shapes else if !lT dI S.texts || S.shapes.any (λx=>decide ((S.texts.length:Int)<=x.name)) || S.cells.any (λc=>!mN aF S c) then 3 else if S.said.any (λv=>v.kind != 4 || !eU aF S v) then 3 else if S.ends.any (λe=>!adR aF S e) then(3:Int) else 0)=r:=p;clear p l5 l2 l3 l4;obtain⟨O,G⟩:∃q,cG S.shapes=q:=⟨_,rfl⟩;have CS:Hid (∀W,Below w0.heap.size w0 W->Calls prog 132 #[.slice A1 S.shapes.length n1] W (aK (.int .i64 O) W)):=λW k=>by rw[<-G];exact yR A1 n1 S.shapes W (S1.o.below k)
 rw[G] at d;clear G;go_enter func70,ntmps70;go_wp2_with fail;rw[<-HW.o];refine CL.o.mono ?_;rintro e w1 ⟨rfl,u⟩;have K1:=hI u;have c9:=btZ J u;have d1:=(E.o.on u) 1 _ rfl;clear u;go_wp2_with fail;refine(CS.o w1 K1.o).mono ?_;rintro e w2 ⟨rfl,k2⟩;have L:=btZ K1 k2;have V:=btZ c9 k2;clear k2 d1;by_cases A:O=0;case neg=>rw[if_pos A] at d;have f:=hI d;have i3:(O == 0)=false:=bF A;have i4:(O != 0)=true:=bne_iff_ne.2 A;clear d;go_wp2_with fail;go_ret;exact⟨by rw[<-f.o];rfl,V.o⟩
 subst A;rw[if_neg (by simp)] at d;have CT:Hid (Calls prog 133 #[.slice A2 S.texts.length n2] w2 (aK (.bool (lT dI S.texts)) w2)):=texts_c A2 n2 S.texts w2 (T0.o.below L.o) (S2.o.below L.o) l1;obtain⟨q3,a2⟩:∃q,lT dI S.texts=q:=⟨_,rfl⟩;rw[a2] at CT d;clear a2;have d2:=(E.o.on L.o) 2 _ rfl;go_wp2_with fail;refine CT.o.mono ?_;rintro e w3 ⟨rfl,k3⟩;have M:=btZ L k3;have X:=btZ V k3;clear k3 d2;cases q3;case false=>have f:Hid ((3:Int)=r):=d;clear d;go_wp2_with fail;go_ret;exact⟨by rw[<-f.o];rfl,X.o⟩
 rw[Bool.not_true,Bool.false_or] at d;have d1:=(E.o.on M.o) 1 _ rfl;have C1:=hI (tW jG (λx=>decide ((S.texts.length:Int)<=x.name)) A1 n1 S.shapes 135 ajV #[.pointer (some ⟨w.heap.size,0,none⟩)] w3 (S1.o.below M.o) (λw4 H x cs R z=>by obtain⟨rfl,-⟩:=z;exact ck1_c x S w.heap.size w4 ((D.o.below M.o).below H)));obtain⟨q4,a3⟩:∃q,S.shapes.any (λx=>decide ((S.texts.length:Int)<=x.name))=q:=⟨_,rfl⟩;rw[a3] at C1 d;clear a3;go_wp2_with fail;refine C1.o.mono ?_;rintro e w4 ⟨rfl,H⟩;have l:=btZ M H;have Y:=btZ X H;clear H d1;cases q4;case true=>have f:Hid ((3:Int)=r):=d;clear d;go_wp2_with fail;go_ret;exact⟨by rw[<-f.o];rfl,Y.o⟩
 rw[Bool.false_or] at d;have d0:=(E.o.on l.o) 0 _ rfl;have C2:=hI (kF (hM w0 w0.heap.size) (λc=>!mN aF S c) A0 n0 S.cells 137 ajU #[.pointer (some ⟨w.heap.size,0,none⟩)] w4 (S0.o.below l.o) (λw5 y x cs R z=> ck2_c cs x S w.heap.size w5 (z.keep (Nat.le_trans l.o.size y.size) (λ_ hp=>(l.o.trans (y.mono l.o.size)).cell hp)) ((D.o.below l.o).below y) (L5.o x R)));obtain⟨q5,a4⟩:∃q,S.cells.any (λc=>!mN aF S c)=q:=⟨_,rfl⟩;rw[a4] at C2 d;clear a4;go_wp2_with fail;refine C2.o.mono ?_;rintro e w5 ⟨rfl,y⟩;have N:=btZ l y;have Z:=btZ Y y;clear y d0;cases q5;case true=>have f:Hid ((3:Int)=r):=d;clear d;go_wp2_with fail;go_ret;exact⟨by rw[<-f.o];rfl,Z.o⟩
 rw[if_neg (by simp)] at d;have d5:=(E.o.on N.o) 5 _ rfl;have C3:=hI (fY hU (λv=>v.kind != 4 || !eU aF S v) A5 n5 S.said 139 ajT #[.pointer (some ⟨w.heap.size,0,none⟩)] w5 (S5.o.below N.o) (λw6 I x cs R z=>by obtain⟨rfl,-⟩:=z;exact ck3_c x S w.heap.size w6 ((D.o.below N.o).below I)));obtain⟨q6,a5⟩:∃q,S.said.any (λv=>v.kind != 4 || !eU aF S v)=q:=⟨_,rfl⟩;rw[a5] at C3 d;clear a5;go_wp2_with fail;refine C3.o.mono ?_;rintro e w6 ⟨rfl,I⟩;have K6:=btZ N I;have a0:=btZ Z I;clear I d5;cases q6;case true=>have f:Hid ((3:Int)=r):=d;clear d;go_wp2_with fail;go_ret;exact⟨by rw[<-f.o];rfl,a0.o⟩
 rw[if_neg (by simp)] at d;have d4:=(E.o.on K6.o) 4 _ rfl;have C4:=hI (sM yM (λe=>!adR aF S e) A4 n4 S.ends 142 ajS #[.pointer (some ⟨w.heap.size,0,none⟩)] w6 (S4.o.below K6.o) (λw7 P x cs R z=>by obtain⟨rfl,-⟩:=z;exact ck4_c x S w.heap.size w7 ((D.o.below K6.o).below P)));obtain⟨q7,a6⟩:∃q,S.ends.any (λe=>!adR aF S e)=q:=⟨_,rfl⟩;rw[a6] at C4 d;clear a6;go_wp2_with fail;refine C4.o.mono ?_;rintro e w7 ⟨rfl,P⟩;have a1:=btZ a0 P;clear P d4;cases q7;case true=>have f:Hid ((3:Int)=r):=d;clear d;go_wp2_with fail;go_ret;exact⟨by rw[<-f.o];rfl,a1.o⟩
 have f:Hid ((0:Int)=r):=d;clear d;go_wp2_with fail;go_ret;exact⟨by rw[<-f.o];rfl,a1.o⟩
end
section
open Go.RowKit
structure tZ (w:World) (lb:Nat) (p:aZ) (S:aP) (sb mb:Nat) (tv yv:Value):Prop where
 here:∃a b c,aJ w lb [a,b,c,.pointer (some ⟨sb,0,none⟩),tv,yv,.map (some mb)]/\fL w w.heap.size [a,b,c] p
 size:lb<w.heap.size
 st:kI w sb S
theorem fL.below {w w':World} {cs:List Value} {p:aZ} (h:fL w w.heap.size cs p) (d:Below w.heap.size w w'):fL w' w'.heap.size cs p:=h.keep d.size (λ_ f=>d.cell f)
theorem tZ.below {w w':World} {g:Nat} {p:aZ} {S:aP} {j l:Nat} {q r:Value} (h:tZ w g p S j l q r) (d:Below w.heap.size w w'):tZ w' g p S j l q r:=by obtain⟨⟨a,b,c,h1,s⟩,f,u⟩:=h;exact⟨⟨a,b,c,λi v x=>(d.cell f).trans (h1 i v x),s.below d⟩,Nat.lt_of_lt_of_le f d.size,u.below d⟩
theorem lO:(prog.info? 166).map (·.size)=some 4:=by kernel_rfl
def sH (v:Value):Prop:=∃A n c,v=.slice A n c
def zU (S:aP) (v:Val) (kind:Int) (w:World) (e:Ending) (w':World):Prop:=
 ∃(k n:Int) (vv fv:Value) (b:Bool),e=.returned (.tuple #[.agg #[.int .i64 k,.int .i64 n,vv,fv],.bool b])/\sH vv/\sH fv/\b=(bZ S v kind).isSome/\(∀c,bZ S v kind=some c->n=c.num)/\Below w.heap.size w w'
theorem aaK (v:Val) (kind:Int) (p:aZ) (S:aP) (Z Y mb:Nat) (tv yv:Value) (w:World) (h:tZ w Z p S Y mb tv yv) : Calls prog 207 #[.pointer (some ⟨Z,0,none⟩),.agg #[.int .i64 v.kind,.int .i64 v.n],.int .i64 kind] w (zU S v kind w):=by
 obtain⟨k,n⟩:=v;unfold zU;obtain⟨⟨pa,pb,pc,hl,-⟩,c9,a1⟩:=h;obtain⟨A0,n0,A1,n1,A2,n2,A3,n3,A4,n4,A5,n5,hh,hb,s0,-⟩:=a1.parts;have lc:=aM s0;have S0:=hI s0;obtain⟨w0,u⟩:∃w0,w0=(w.alloc (.cells #[.int .i64 k,.int .i64 n] 51)).alloc (.cells #[.int .i64 0,.int .i64 0,.slice none 0 0,.slice none 0 0] 166):=⟨_,rfl⟩;have x:Hid (Below w.heap.size w w0):=by rw[u];exact bV w _ _
 have s:Hid (w0.heap[w.heap.size+1]? = some (.cells #[.int .i64 0,.int .i64 0,.slice none 0 0,.slice none 0 0] 166 (0,0))):=by rw[u];have:=aS (w.alloc (.cells #[.int .i64 k,.int .i64 n] 51)) (.cells #[.int .i64 0,.int .i64 0,.slice none 0 0,.slice none 0 0] 166);rwa [World.size_alloc] at this
 have J:w.heap.size+1<w0.heap.size:=(aE s.o).1;have K:∀E:Up w0,E.to.cell? ⟨w.heap.size,0,none⟩=some (.int .i64 k):=λE=>E.cell (by rw[u];exact jI _ _ _ _ _);have L:∀E:Up w0,E.to.cell? ⟨w.heap.size,1,none⟩=some (.int .i64 n):=λE=>E.cell (by rw[u];exact jI _ _ _ _ _);have M:∀E:Up w0,E.to.cell? ⟨Z,3,none⟩=some (.pointer (some ⟨Y,0,none⟩)):=λE=>E.cell ((x.o.cell c9).trans (hl 3 _ rfl));have N:∀E:Up w0,E.to.cell? ⟨Y,0,none⟩=some (.slice A0 S.cells.length n0):=λE=>E.cell ((x.o.cell hb).trans (hh 0 _ rfl));have F0:=hI K;have F1:=hI L;have F2:=hI M;have F3:=hI N;have HW:=hI u;clear u hl hh s0 a1;go_enter func207,ntmps207;go_wp2_with fail;rw[<-HW.o];refine aD (by kernel_rfl) (by kernel_rfl) ?_;repeat (go_big_quiet_step (fail))
 obtain⟨b1,P⟩:∃b:Bool,(k != 5)=b:=⟨_,rfl⟩;rw[P];cases b1
 case true=>
  have r:Hid (bZ S ⟨k,n⟩ kind=none):=by unfold bZ;exact if_pos (.inl (bne_iff_ne.1 P))
  repeat (go_big_quiet_step (fail))
  refine wpQuiet_nil ?_;rintro _ ⟨E,rfl⟩;obtain⟨w1,g⟩:=E;dsimp only;have l:Hid (w1.heap[w.heap.size+1]? = some (.cells #[.int .i64 0,.int .i64 0,.slice none 0 0,.slice none 0 0] 166 (0,0))):=(g.block _ J).trans s.o;have y:=btZ x g;clear K L M N g;go_wp2_with (first | (refine wpList_store_row rfl 166 _ _ rfl (w.heap.size+1) #[.int .i64 0,.int .i64 0,.slice none 0 0,.slice none 0 0] rfl rfl 166 _ l.o lO rfl (oCz (by simp[Value.oneCell'])) ?_) | fail);generalize f:World.setRow _ _ _=w9;have d:=shZ f l;have z:Hid (Below w.heap.size w w9):=by rw[<-f];exact Below.set_row y.o (by omega) _
  have D:=crZ d 0 rfl;have F:=crZ d 1 rfl;have G:=crZ d 2 rfl;have H:=crZ d 3 rfl;clear f;go_wp2_with fail;refine bodyPost_ret (v:=.tuple #[.agg #[.int .i64 0,.int .i64 0,.slice none 0 0,.slice none 0 0],.bool false]) (by simp[results,results207,go_sem,D,F,G,H]) rfl ⟨0,0,_,_,false,rfl,⟨none,0,0,rfl⟩,⟨none,0,0,rfl⟩,by rw[r.o];rfl,(λc q=>by rw[r.o] at q;cases q),z.o⟩
 repeat (go_big_quiet_step (fail))
 obtain⟨b2,R⟩:∃b:Bool,(decide (n<0))=b:=⟨_,rfl⟩;rw[R];cases b2
 case true=>
  have r:Hid (bZ S ⟨k,n⟩ kind=none):=by unfold bZ;exact if_pos (.inr (.inl (of_decide_eq_true R)))
  repeat (go_big_quiet_step (fail))
  refine wpQuiet_nil ?_;rintro _ ⟨E,rfl⟩;obtain⟨w1,g⟩:=E;dsimp only;have l:Hid (w1.heap[w.heap.size+1]? = some (.cells #[.int .i64 0,.int .i64 0,.slice none 0 0,.slice none 0 0] 166 (0,0))):=(g.block _ J).trans s.o;have y:=btZ x g;clear K L M N g;go_wp2_with (first | (refine wpList_store_row rfl 166 _ _ rfl (w.heap.size+1) #[.int .i64 0,.int .i64 0,.slice none 0 0,.slice none 0 0] rfl rfl 166 _ l.o lO rfl (oCz (by simp[Value.oneCell'])) ?_) | fail);generalize f:World.setRow _ _ _=w9;have d:=shZ f l;have z:Hid (Below w.heap.size w w9):=by rw[<-f];exact Below.set_row y.o (by omega) _
  have D:=crZ d 0 rfl;have F:=crZ d 1 rfl;have G:=crZ d 2 rfl;have H:=crZ d 3 rfl;clear f;go_wp2_with fail;refine bodyPost_ret (v:=.tuple #[.agg #[.int .i64 0,.int .i64 0,.slice none 0 0,.slice none 0 0],.bool false]) (by simp[results,results207,go_sem,D,F,G,H]) rfl ⟨0,0,_,_,false,rfl,⟨none,0,0,rfl⟩,⟨none,0,0,rfl⟩,by rw[r.o];rfl,(λc q=>by rw[r.o] at q;cases q),z.o⟩
 repeat (go_big_quiet_step (fail))
 obtain⟨b3,V⟩:∃b:Bool,(decide ((S.cells.length:Int)<=n))=b:=⟨_,rfl⟩;rw[V];cases b3
 case true=>
  have r:Hid (bZ S ⟨k,n⟩ kind=none):=by unfold bZ;exact if_pos (.inr (.inr (of_decide_eq_true V)))
  repeat (go_big_quiet_step (fail))
  refine wpQuiet_nil ?_;rintro _ ⟨E,rfl⟩;obtain⟨w1,g⟩:=E;dsimp only;have l:Hid (w1.heap[w.heap.size+1]? = some (.cells #[.int .i64 0,.int .i64 0,.slice none 0 0,.slice none 0 0] 166 (0,0))):=(g.block _ J).trans s.o;have y:=btZ x g;clear K L M N g;go_wp2_with (first | (refine wpList_store_row rfl 166 _ _ rfl (w.heap.size+1) #[.int .i64 0,.int .i64 0,.slice none 0 0,.slice none 0 0] rfl rfl 166 _ l.o lO rfl (oCz (by simp[Value.oneCell'])) ?_) | fail);generalize f:World.setRow _ _ _=w9;have d:=shZ f l;have z:Hid (Below w.heap.size w w9):=by rw[<-f];exact Below.set_row y.o (by omega) _
  have D:=crZ d 0 rfl;have F:=crZ d 1 rfl;have G:=crZ d 2 rfl;have H:=crZ d 3 rfl;clear f;go_wp2_with fail;refine bodyPost_ret (v:=.tuple #[.agg #[.int .i64 0,.int .i64 0,.slice none 0 0,.slice none 0 0],.bool false]) (by simp[results,results207,go_sem,D,F,G,H]) rfl ⟨0,0,_,_,false,rfl,⟨none,0,0,rfl⟩,⟨none,0,0,rfl⟩,by rw[r.o];rfl,(λc q=>by rw[r.o] at q;cases q),z.o⟩
 have q1:k=5:=by simpa using P
 have q2:¬n<0:=of_decide_eq_false R;have q3:¬(S.cells.length:Int)<=n:=of_decide_eq_false V;obtain⟨m,rfl⟩:=Int.eq_ofNat_of_zero_le (show 0<=n by omega);have hm:m<S.cells.length:=by omega
 obtain⟨b,I,c,cs,rfl,a2,hx,-,⟨VV,FV,rfl,a3,a4,-⟩,a5⟩:=S0.o.at_ hm;have c1:Hid (sH VV):=by obtain⟨A,cp,h,-⟩:=a3;exact⟨_,_,_,h⟩
 have c2:Hid (sH FV):=by obtain⟨A,cp,h,-⟩:=a4;exact⟨_,_,_,h⟩
 have c3:b<w0.heap.size:=Nat.lt_of_lt_of_le a2 x.o.size;have a0:Hid (w0.rangeAt b (I+m*4) [.int .i64 c.kind,.int .i64 c.num,VV,FV]):=λj v hv=>(x.o.cell a2).trans (a5 j v hv);have f4:∀E:Up w0,E.to.cell? ⟨b,I+m*4,none⟩=some (.int .i64 c.kind):=λE=>E.cell (by have:=a0.o 0 _ rfl;simpa using this);have HL:Hid (bZ S ⟨k,(m:Int)⟩ kind=if c.kind=kind then some c else none):=by
  unfold bZ;refine Eq.trans (if_neg ?_) ?_
  ·rintro (h | h | h);·exact h q1
   ·exact q2 h
   ·exact q3 h
  ·show(match S.cells[((m:Int)).toNat]? with | none=>none | some c=>if c.kind=kind then some c else none)=_;rw[Int.toNat_natCast,hx]
 have h1:(m:Int)<S.cells.length:=by omega
 clear a5 hx a3 a4 q1 q2 q3;repeat (go_big_quiet_step (fail))
 obtain⟨b4,X⟩:∃b:Bool,(c.kind != kind)=b:=⟨_,rfl⟩;rw[X];cases b4
 case true=>
  have r:Hid (bZ S ⟨k,(m:Int)⟩ kind=none):=by rw[HL.o];exact if_neg (bne_iff_ne.1 X)
  clear f4;repeat (go_big_quiet_step (fail))
  refine wpQuiet_nil ?_;rintro _ ⟨E,rfl⟩;obtain⟨w1,g⟩:=E;dsimp only;have l:Hid (w1.heap[w.heap.size+1]? = some (.cells #[.int .i64 0,.int .i64 0,.slice none 0 0,.slice none 0 0] 166 (0,0))):=(g.block _ J).trans s.o;have y:=btZ x g;clear K L M N g;go_wp2_with (first | (refine wpList_store_row rfl 166 _ _ rfl (w.heap.size+1) #[.int .i64 0,.int .i64 0,.slice none 0 0,.slice none 0 0] rfl rfl 166 _ l.o lO rfl (oCz (by simp[Value.oneCell'])) ?_) | fail);generalize f:World.setRow _ _ _=w9;have d:=shZ f l;have z:Hid (Below w.heap.size w w9):=by rw[<-f];exact Below.set_row y.o (by omega) _
  have D:=crZ d 0 rfl;have F:=crZ d 1 rfl;have G:=crZ d 2 rfl;have H:=crZ d 3 rfl;clear f;go_wp2_with fail;refine bodyPost_ret (v:=.tuple #[.agg #[.int .i64 0,.int .i64 0,.slice none 0 0,.slice none 0 0],.bool false]) (by simp[results,results207,go_sem,D,F,G,H]) rfl ⟨0,0,_,_,false,rfl,⟨none,0,0,rfl⟩,⟨none,0,0,rfl⟩,by rw[r.o];rfl,(λc q=>by rw[r.o] at q;cases q),z.o⟩
 have HS:Hid (bZ S ⟨k,(m:Int)⟩ kind=some c):=by rw[HL.o];exact if_pos (by simpa using X)
 repeat (go_big_quiet_step (fail))
 refine wpQuiet_nil ?_;rintro _ ⟨E,rfl⟩;obtain⟨w1,g⟩:=E;dsimp only;have l:Hid (w1.heap[w.heap.size+1]? = some (.cells #[.int .i64 0,.int .i64 0,.slice none 0 0,.slice none 0 0] 166 (0,0))):=(g.block _ J).trans s.o;have y:=btZ x g;have e1:∀E:Up w1,E.to.cell? ⟨w.heap.size,1,none⟩=some (.int .i64 m):=λE=>E.cell (F1.o ⟨w1,g⟩);have e2:∀E:Up w1,E.to.cell? ⟨Z,3,none⟩=some (.pointer (some ⟨Y,0,none⟩)):=λE=>E.cell (F2.o ⟨w1,g⟩);have e3:∀E:Up w1,E.to.cell? ⟨Y,0,none⟩=some (.slice (some ⟨b,I,none⟩) S.cells.length n0):=λE=>E.cell (F3.o ⟨w1,g⟩);have c7:Hid (∀E:Up w1,E.to.rangeAt b (I+m*4) [.int .i64 c.kind,.int .i64 c.num,VV,FV]):=λE j v hv=>E.cell ((g.cell c3).trans (a0.o j v hv));have c8:w.heap.size+1<w1.heap.size:=Nat.lt_of_lt_of_le J g.size;clear K L M N f4 g;go_upto_region 3 with fail;refine aU 11 (by kernel_rfl) (by kernel_rfl) ?_;simp only[List.take_succ_cons,List.take_zero,List.drop_succ_cons,List.drop_zero]
 repeat (first
  | (refine dE 166 _ rfl rfl b (I+m*4) rfl _ _ c7.o underlying166 rfl lO ?_;go_simp)
  | go_big_quiet_step (fail))
 refine wpQuiet_nil ?_;intro E;obtain⟨w2,k2⟩:=E;dsimp only;have O:Hid (w2.heap[w.heap.size+1]? = some (.cells #[.int .i64 0,.int .i64 0,.slice none 0 0,.slice none 0 0] 166 (0,0))):=(k2.block _ c8).trans l.o;have K2:=btZ y k2;clear e1 e2 e3 k2;obtain⟨VA,VN,VC,rfl⟩:=c1.o;obtain⟨FA,FN,FC,rfl⟩:=c2.o;go_wp2_with (first | (refine wpList_store_row rfl 166 _ _ rfl (w.heap.size+1) #[.int .i64 c.kind,.int .i64 c.num,.slice VA VN VC,.slice FA FN FC] rfl rfl 166 _ O.o lO rfl (oCz (by simp[Value.oneCell'])) ?_) | fail);generalize f:World.setRow _ _ _=w9;have d:=shZ f O;have z:Hid (Below w.heap.size w w9):=by rw[<-f];exact Below.set_row K2.o (by omega) _
 have D:=crZ d 0 rfl;have F:=crZ d 1 rfl;have G:=crZ d 2 rfl;have H:=crZ d 3 rfl;clear f;go_wp2_with fail;refine bodyPost_ret (v:=.tuple #[.agg #[.int .i64 c.kind,.int .i64 c.num,.slice VA VN VC,.slice FA FN FC],.bool true]) (by simp[results,results207,go_sem,D,F,G,H]) rfl ⟨_,_,_,_,true,rfl,⟨_,_,_,rfl⟩,⟨_,_,_,rfl⟩,by rw[HS.o];rfl,(λc' q=>by rw[HS.o] at q;injection q with q;rw[q]),z.o⟩
end
end Go.Proofs.YtijihlcdhppfgaaGreatDoor
