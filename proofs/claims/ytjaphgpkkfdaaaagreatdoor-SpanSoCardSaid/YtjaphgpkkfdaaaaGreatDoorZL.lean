/- A part of the walk. -/
import Derived.Test.YtjaphgpkkfdaaaaGreatDoorZK
import Derived.Deep.DeepCutAuto
import Derived.Deep.CutBlock
import Derived.Laws.Rows
set_option maxHeartbeats 16000000
set_option maxRecDepth 100000
set_option linter.all false
namespace Go.Proofs.YtjaphgpkkfdaaaaGreatDoor
open Tryz
section
open Go.RowKit
def cU (S:aR) (c:bC):Option (Bool×Bool×Int):=
 if c.kind=0 then some (c.num == 0,(c.vals.length:Int) == 0,0)
 else if c.kind=1 then some (aK c.num 0 ((S.shapes.length:Int) - 1),aK c.num 0 ((S.shapes.length:Int) - 1) && (c.vals.length:Int) == ((fM S.shapes c.num).length:Int),0)
 else if c.kind=2 then some (c.num == 0,true,0)
 else if c.kind=3 then some (c.num == 0,(c.vals.length:Int) == 1,0)
 else if c.kind=4 then some (decide (0<=c.num),!c.vals.any (λv=>!oL aG S v 3),0)
 else if c.kind=5 then some (aK c.num 0 2,(c.vals.length:Int) == 0,if c.num=0 then 1 else 0)
 else if c.kind=6 then some (aK c.num (-1) 4,(c.vals.length:Int) == 0,0)
 else if c.kind=7 then some (c.num == 0,gS [] c.vals,0)
 else none
theorem uT (n m:Nat):((n:Int) == (m:Int))=decide (n=m):=by
 by_cases h:n=m;·subst h;simp
 ·rw[decide_eq_false h];exact bF (by omega)
theorem gY {α : Type} (l:List α):((l.length:Int) == 0)=l.isEmpty:=by
 cases l with
 | nil=>rfl
 | cons x t=>exact bF (by simp;omega)
theorem y8 {α : Type} (l:List α):((l.length:Int) == 1)=decide (l.length=1):=uT l.length 1
theorem kD (S:aR) (c:bC):kE aG S c=match cU S c with | none=>false | some (a,b,n)=>a && b && ((c.frames.length:Int) == n) && lL aG S c.vals && c.frames.all (gP aG S):=by
 unfold kE cU;by_cases d:c.kind=0;·rw[if_pos d,if_pos d];simp only[gY]
 rw[if_neg d,if_neg d];by_cases e:c.kind=1;·rw[if_pos e,if_pos e];simp only[gY,uT];cases aK c.num 0 ((S.shapes.length:Int) - 1) <;> simp
 rw[if_neg e,if_neg e];by_cases f:c.kind=2;·rw[if_pos f,if_pos f];simp only[gY,Bool.and_true]
 rw[if_neg f,if_neg f];by_cases g:c.kind=3;·rw[if_pos g,if_pos g];simp only[gY,y8]
 rw[if_neg g,if_neg g];by_cases h:c.kind=4;·rw[if_pos h,if_pos h];simp only[gY];rw[List.all_eq_not_any_not]
 rw[if_neg h,if_neg h];by_cases i:c.kind=5
 ·rw[if_pos i,if_pos i];simp only[gY];by_cases j:c.num=0;·rw[if_pos j,if_pos j];simp only[y8]
  ·rw[if_neg j,if_neg j];simp only[gY];cases c.frames <;> simp
 rw[if_neg i,if_neg i];by_cases l:c.kind=6;·rw[if_pos l,if_pos l];simp only[gY]
 rw[if_neg l,if_neg l];by_cases m:c.kind=7;·rw[if_pos m,if_pos m];simp only[gY]
 rw[if_neg m,if_neg m];rfl
theorem ccell_c (cs:List Value) (c:bC) (S:aR) (s:Nat) (w:World) (hc:jY w w.heap.size cs c) (h:iJ w s S) (a7:c.vals.length<=600) : Calls prog 85 #[.pointer (some ⟨s,0,none⟩),.agg ⟨cs⟩] w (aM (.bool (kE aG S c)) w):=by
 obtain⟨j,g,vals,frames⟩:=c;obtain⟨r,Z⟩:∃r,kE aG S ⟨j,g,vals,frames⟩=r:=⟨_,rfl⟩;rw[Z];rw[kD] at Z;obtain⟨vv,fv,rfl,hv,hf,wk,wn⟩:=hc;dsimp only at hv hf wk wn a7 Z ⊢;obtain⟨V,L,rfl,-⟩:=id hv;obtain⟨F,cf,rfl,-⟩:=id hf;have lv:=aP hv;have lf:=aP hf;have HV:=hI hv;have HF:=hI hf;have f7:=hI h;obtain⟨A0,n0,A1,n1,A2,n2,A3,n3,A4,n4,A5,n5,hh,hb,s0,s1,-⟩:=h.parts;have ls:=aP s1;have S1:=hI s1;have h1:=hh 1 _ rfl;obtain⟨w0,a2⟩:∃w0,w0=(w.alloc (.cells #[.pointer (some ⟨s,0,none⟩)] 113)).alloc (.cells #[.int .i64 j,.int .i64 g,.slice V vals.length L,.slice F frames.length cf] 55):=⟨_,rfl⟩;have TB:=jZ w [.pointer (some ⟨s,0,none⟩)] [.int .i64 j,.int .i64 g,.slice V vals.length L,.slice F frames.length cf] 113 55;rw[<-a2] at TB;obtain⟨t1,t2,t3⟩:=TB;have P1:=hI t1;have P2:=hI t2;have X:=hI t3;have g1:=ecZ (t2 1 _ rfl);have g2:=ecZ (t2 2 _ rfl);have HW:=hI a2;have G1:=hI h1;have HR:=hI Z;have hz:w.heap.size+1<w0.heap.size:=dP (t2 1 _ rfl);clear a2 Z hh s0 s1 h hv hf t1 t2 t3 h1;go_enter func85,ntmps85;go_upto_region 1 with fail;rw[<-HW.o];refine aD (by kernel_rfl) (by kernel_rfl) ?_;repeat (go_big_quiet_step (fail))
 refine wpQuiet_nil ?_;rintro _ ⟨E,rfl⟩;obtain⟨w1,H⟩:=E;dsimp only;have I:=btZ X H;have D1:=hI (P1.o.on H);have J:=hI (P2.o.on H);have o0:w.heap.size+1<w1.heap.size:=Nat.lt_of_lt_of_le hz H.size;have c3:=hI (f7.o.below I.o);have V1:=hI (HV.o.below I.o);have F1:=hI (HF.o.below I.o);have g3:=hI (S1.o.below I.o);have g4:Hid (w1.cell? ⟨s,1,none⟩=some (.slice A1 S.shapes.length n1)):=(I.o.cell hb).trans G1.o;have o1:s<w1.heap.size:=Nat.lt_of_lt_of_le hb I.o.size;clear g1 g2 H;have M:=J.o 0 _ rfl;go_upto_block 0 with fail;clear M;go_cut [5,6,7] (λa b d wx=>∃(nb vb:Bool) (N:Int),a=.bool nb/\b=.bool vb/\d=.int .i64 N/\Hid (cU S ⟨j,g,vals,frames⟩=some (nb,vb,N))/\Hid (Below w1.heap.size w1 wx))
 case first=>
  have u:=iI w1;have d1:=J.o 1 _ rfl;have d2:=J.o 2 _ rfl;have d3:=J.o 3 _ rfl;by_cases X:j=0;·subst X;go_wp2_with fail;go_meet;case rel=>exact⟨_,_,_,rfl,rfl,rfl,rfl,u⟩
  have m0:(j == 0)=false:=bF X;by_cases H:j=1
  ·subst H;have CW:Hid (∀W,Calls prog 91 #[.int .i64 g,.int .i64 0,.int .i64 ((S.shapes.length:Int) - 1)] W λe w'=>e=.returned (.bool (aK g 0 ((S.shapes.length:Int) - 1)))/\W=w'):=λW=>mT _ _ _ W;obtain⟨q,l⟩:∃q,aK g 0 ((S.shapes.length:Int) - 1)=q:=⟨_,rfl⟩;rw[l] at CW;have G:=hI l;have f0:=ecZ (D1.o 0 _ rfl);have f1:=ecZ (J.o 1 _ rfl);have f2:=ecZ g4.o;have f3:=ecZ (J.o 2 _ rfl);clear l d1 d2 d3;go_upto_region 6 with fail;refine aD (by kernel_rfl) (by kernel_rfl) ?_;repeat (go_big_quiet_step ((go_at_call 91;with_reducible exact ad6 (CW.o _))))
   refine wpQuiet_nil ?_;rintro _ ⟨E,rfl⟩;obtain⟨i,p⟩:=E;dsimp only;have m:=hI p;have f0:∀E:Up i,E.to.cell? ⟨w.heap.size,0,none⟩=some (.pointer (some ⟨s,0,none⟩)):=λE=>E.cell (f0 ⟨i,m.o⟩);have f1:∀E:Up i,E.to.cell? ⟨w.heap.size+1,1,none⟩=some (.int .i64 g):=λE=>E.cell (f1 ⟨i,m.o⟩);have f2:∀E:Up i,E.to.cell? ⟨s,1,none⟩=some (.slice A1 S.shapes.length n1):=λE=>E.cell (f2 ⟨i,m.o⟩);have f3:∀E:Up i,E.to.cell? ⟨w.heap.size+1,2,none⟩=some (.slice V vals.length L):=λE=>E.cell (f3 ⟨i,m.o⟩);have g6:=hI (g3.o.below m.o);clear p;cases q
   case false=>
    go_upto_region 7 with fail;refine aD (by kernel_rfl) (by kernel_rfl) ?_;repeat (go_big_quiet_step (fail))
    refine wpQuiet_nil ?_;rintro _ ⟨E,rfl⟩;have KE:=btZ m E.below;clear f0 f1 f2 f3;go_wp2_with fail;go_meet;case rel=>exact⟨_,_,_,rfl,rfl,rfl,by show cU S ⟨1,g,vals,frames⟩=_;have:cU S ⟨1,g,vals,frames⟩=some (aK g 0 ((S.shapes.length:Int) - 1),aK g 0 ((S.shapes.length:Int) - 1) && (vals.length:Int) == ((fM S.shapes g).length:Int),0):=rfl;rw[this,G.o];rfl,KE⟩
   go_upto_region 7 with fail;refine fI (λw'=>∃E:Up i,w'=E.to) [0,1,2,3,4,5,6,7,8,9,10] [11,12,13,14,15] [11,12] (by kernel_rfl) (by kernel_rfl) (λ_ _ d _ _ h=>by cases d <;> exact h) ⟨⟨_,(Below.refl _ i).drew⟩,rfl⟩ ?_;simp only[List.filterMap_cons,List.filterMap_nil,List.getElem?_toArray,List.getElem?_cons_zero,List.getElem?_cons_succ];generalize c8:(λa'=>gA _ _ _ _ _ _ a' _)=qq;have c5:=hI c8;clear c8;show wpQuiet _ _ _ _ [_,_,_,_,_,_,_,_,_,_,_] _;repeat (go_big_quiet_step (fail))
   refine wpQuiet_nil ?_;rw[<-c5.o];clear c5 qq;refine bA rfl (λK hK=>?_);go_simp;refine(aaG A1 n1 S.shapes g i.drew (g6.o.below ((Below.refl _ i).drew))).mono ?_;rintro e w5 ⟨v,rfl,sv,R⟩;obtain⟨N1,cn,rfl,-⟩:=id sv;have ln:=aP sv;have K5:Hid (Below i.heap.size i w5):=(Below.refl _ i).drew.trans R;have KE:=btZ m K5.o;clear R sv f0 f1 f2 f3;refine hK _ _ (λ_=>⟨⟨w5,K5.o⟩,rfl⟩) ?_;clear hK K;refine bA rfl (λK hK=>?_);go_simp;refine hK _ _ (λ_=>⟨⟨w5,K5.o⟩,rfl⟩) ?_;clear hK K;refine bP [13,14,15] _ _ (by kernel_rfl) (by kernel_rfl) ?_;simp only[List.filterMap_cons,List.filterMap_nil,List.getElem?_toArray,List.getElem?_cons_zero,List.getElem?_cons_succ];go_wp2_with fail;go_meet;case rel=>exact⟨_,_,_,rfl,rfl,rfl,by show cU S ⟨1,g,vals,frames⟩=_;have:cU S ⟨1,g,vals,frames⟩=some (aK g 0 ((S.shapes.length:Int) - 1),aK g 0 ((S.shapes.length:Int) - 1) && (vals.length:Int) == ((fM S.shapes g).length:Int),0):=rfl;rw[this,G.o];rfl,KE⟩
  have m1:(j == 1)=false:=bF H;by_cases p:j=2;·subst p;go_wp2_with fail;go_meet;case rel=>exact⟨_,_,_,rfl,rfl,rfl,rfl,u⟩
  have m2:(j == 2)=false:=bF p;by_cases A:j=3;·subst A;go_wp2_with fail;go_meet;case rel=>exact⟨_,_,_,rfl,rfl,rfl,rfl,u⟩
  have m3:(j == 3)=false:=bF A;by_cases D:j=4;·subst D;have C:=hI (eE hU (λv=>!oL aG S v 3) V L vals 123 x9 #[.pointer (some ⟨w.heap.size,0,none⟩)] w1 V1.o (λi p x cs hx hR=>by obtain⟨rfl,-⟩:=hR;exact cell1_c x S s w.heap.size i (c3.o.below p) (aC p (D1.o 0 _ rfl))));go_wp2_with fail;refine C.o.mono ?_;rintro e i ⟨rfl,p⟩;have m:=hI p;clear p d1 d2 d3;go_wp2_with fail;go_meet;case rel=>exact⟨_,_,_,rfl,rfl,rfl,rfl,m⟩
  have m4:(j == 4)=false:=bF D;by_cases R:j=5
  ·subst R;have C:=hI (mT g 0 2 w1);obtain⟨q,l⟩:∃q,aK g 0 2=q:=⟨_,rfl⟩;rw[l] at C;have G:=hI l;clear l;by_cases n0:g=0;·subst n0;go_wp2_with fail;refine C.o.mono ?_;rintro e i ⟨rfl,rfl⟩;go_wp2_with fail;go_meet;case rel=>exact⟨_,_,_,rfl,rfl,rfl,by rw[<-G.o];rfl,u⟩
   ·have b0:(g == 0)=false:=bF n0;go_wp2_with fail;refine C.o.mono ?_;rintro e i ⟨rfl,rfl⟩;go_wp2_with fail;go_meet;case rel=>exact⟨_,_,_,rfl,rfl,rfl,by rw[<-G.o];show cU S ⟨5,g,vals,frames⟩=_;have:cU S ⟨5,g,vals,frames⟩=some (aK g 0 2,(vals.length:Int) == 0,if g=0 then 1 else 0):=rfl;rw[this,if_neg n0],u⟩
  have m5:(j == 5)=false:=bF R;by_cases k6:j=6;·subst k6;have C:=hI (mT g (-1) 4 w1);obtain⟨q,l⟩:∃q,aK g (-1) 4=q:=⟨_,rfl⟩;rw[l] at C;have G:=hI l;clear l;go_wp2_with fail;refine C.o.mono ?_;rintro e i ⟨rfl,rfl⟩;go_wp2_with fail;go_meet;case rel=>exact⟨_,_,_,rfl,rfl,rfl,by rw[<-G.o];rfl,u⟩
  have m6:(j == 6)=false:=bF k6;by_cases k7:j=7;·subst k7;have C:=hI (weak_c V L vals (.pointer (some ⟨s,0,none⟩)) w1 V1.o a7);have M:=D1.o 0 _ rfl;obtain⟨q,l⟩:∃q,gS [] vals=q:=⟨_,rfl⟩;rw[l] at C;have G:=hI l;clear l;go_wp2_with fail;refine C.o.mono ?_;rintro e i ⟨rfl,p⟩;have m:=hI p;clear p d1 d2 d3 M;go_wp2_with fail;go_meet;case rel=>exact⟨_,_,_,rfl,rfl,rfl,by rw[<-G.o];rfl,m⟩
  have m7:(j == 7)=false:=bF k7;have y:Hid (false=r):=by rw[<-HR.o];unfold cU;simp only[X,H,p,A,D,R,k6,k7,if_false];trivial
  go_wp2_with fail;go_ret;exact⟨by rw[<-y.o];rfl,I.o⟩
 case rest=>
  obtain⟨i,h8⟩:∃i,i=wc:=⟨_,rfl⟩;subst h8;obtain⟨nb,vb,N,rfl,rfl,rfl,HP,O⟩:=hcut;have m:=btZ I O.o;have z:Hid ((nb && vb && ((frames.length:Int) == N) && lL aG S vals && frames.all (gP aG S))=r):=by rw[<-HR.o,HP.o];rfl
  have M:i.cell? ⟨w.heap.size,0,none⟩=some (.pointer (some ⟨s,0,none⟩)):=(D1.o.on O.o) 0 _ rfl;have e2:i.cell? ⟨w.heap.size+1,2,none⟩=some (.slice V vals.length L):=(J.o.on O.o) 2 _ rfl;have e3:i.cell? ⟨w.heap.size+1,3,none⟩=some (.slice F frames.length cf):=(J.o.on O.o) 3 _ rfl;have E3:=hI e3;have E0:=hI M;have c6:=hI (c3.o.below O.o);have CA:=hI (adW V L vals S s i c6.o (V1.o.below O.o));have F2:=hI (F1.o.below O.o);obtain⟨q,l⟩:∃q,lL aG S vals=q:=⟨_,rfl⟩;rw[l] at CA z;clear l;cases nb;case false=>have y:Hid (false=r):=(by rw[<-z.o];rfl);go_wp2_with fail;go_ret;exact⟨by rw[<-y.o];rfl,m.o⟩
  cases vb;case false=>have y:Hid (false=r):=(by rw[<-z.o];rfl);go_wp2_with fail;go_ret;exact⟨by rw[<-y.o];rfl,m.o⟩
  obtain⟨fb,P⟩:∃b,((frames.length:Int) == N)=b:=⟨_,rfl⟩;rw[P] at z;cases fb;case false=>have y:Hid (false=r):=(by rw[<-z.o];rfl);have k9:((frames.length:Int) != N)=true:=(by rw[bne,P];rfl);go_wp2_with fail;go_ret;exact⟨by rw[<-y.o];rfl,m.o⟩
  obtain rfl:N=(frames.length:Int):=(beq_iff_eq.1 P).symm;clear P;go_wp2_with fail;refine CA.o.mono ?_;rintro e w3 ⟨rfl,A⟩;have Y:=btZ m A;cases q;case false=>have y:Hid (false=r):=(by rw[<-z.o];rfl);clear A M e2 e3;go_wp2_with fail;go_ret;exact⟨by rw[<-y.o];rfl,Y.o⟩
  have h2:=aC A E3.o;have c7:=aC A E0.o;have h3:=hI c7;have h4:=hI (c6.o.below A);have F3:=hI (F2.o.below A);have CF:=hI (pQ (eR w w.heap.size) (λf=>!gP aG S f) F cf frames 127 x8 #[.pointer (some ⟨w.heap.size,0,none⟩)] w3 F3.o (λw4 D x cs hx hR=> cell2_c cs x S s w.heap.size w4 (hR.keep (Nat.le_trans Y.o.size D.size) (λ_ hp=>(Y.o.trans (D.mono Y.o.size)).cell hp)) (h4.o.below D) (aC D h3.o)));have y:Hid ((!frames.any λf=>!gP aG S f)=r):=by rw[<-z.o,Bool.true_and,Bool.true_and,Bool.true_and,Bool.true_and,List.all_eq_not_any_not];rfl
  clear A M e2 e3;go_wp2_with fail;refine CF.o.mono ?_;rintro e w4 ⟨rfl,D⟩;have K4:=btZ Y D;clear D h2 c7;go_wp2_with fail;go_ret;exact⟨by rw[<-y.o];rfl,K4.o⟩
end
section
open Go.RowKit
theorem tN {S:aR} (h:nS S=false):S.texts.length<=300/\S.cells.length<=300/\S.said.length<=200/\S.ends.length<=100/\∀c∈S.cells,c.vals.length<=600:=by
 unfold nS at h;simp only[Bool.or_eq_false_iff,decide_eq_false_iff_not,List.any_eq_false] at h;obtain⟨⟨⟨⟨⟨h1,h2⟩,h3⟩,h4⟩,h5⟩,h6⟩:=h;refine⟨by omega,by omega,by omega,by omega,λc d=>?_⟩;have:=h6 c d;rcases Nat.lt_or_ge 600 c.vals.length with h | h;·exfalso;apply this;rw[decide_eq_true (show 100<c.vals.length by omega),decide_eq_true h];simp
 ·exact h
theorem ck2_c (cs:List Value) (c:bC) (S:aR) (j:Nat) (w:World) (m:jY w w.heap.size cs c) (h:iJ w j S) (l:c.vals.length<=600) : Calls prog 84 #[.agg ⟨cs⟩,.pointer (some ⟨j,0,none⟩)] w (aM (.bool (!kE aG S c)) w):=by
 obtain⟨i,d⟩:∃i,i=w.alloc (.cells ⟨cs⟩ 55):=⟨_,rfl⟩;have g:Hid (Below w.heap.size w i):=by rw[d];exact aB w _
 have C:=hI (ccell_c cs c S j i (m.keep g.o.size (λ_ r=>g.o.cell r)) (h.below g.o) l);obtain⟨v,f,rfl,-⟩:=m;have p:=hI d;clear d h;go_enter func84,ntmps84;go_wp2_with fail;rw[<-p.o];refine C.o.mono ?_;rintro e w1 ⟨rfl,q⟩;have K:=btZ g q;go_wp2_with fail;go_ret;exact⟨rfl,K.o⟩
theorem adU (cs:List Value) (S:aR) (w:World) (h:gK w w.heap.size cs S) (ht:Tab w):Calls prog 47 #[.agg ⟨cs⟩] w (aM (.int .i64 (cG aG S cC)) w):=by
 obtain⟨r,m⟩:∃r,cG aG S cC=r:=⟨_,rfl⟩;rw[m];unfold cG at m;obtain⟨i,j⟩:∃i,i=w.alloc (.cells ⟨cs⟩ 40):=⟨_,rfl⟩;have H:Hid (Below w.heap.size w i):=by rw[j];exact aB w _
 have A:Hid (iJ i w.heap.size S):=⟨cs,by rw[j];exact ad5 _ _ _,by rw[j];simp,h.below H.o⟩;obtain⟨A0,n0,A1,n1,A2,n2,A3,n3,A4,n4,A5,n5,hh,hb,s0,s1,s2,s3,s4,s5⟩:=A.o.parts;have C:=hI hh;have S0:=hI s0;have S1:=hI s1;have S2:=hI s2;have S4:=hI s4;have S5:=hI s5;have T0:=hI (ht.below H.o);have CL:=hI (ab7 S w.heap.size i A.o);have HW:=hI j;obtain⟨q1,D⟩:∃q,nS S=q:=⟨_,rfl⟩;rw[D] at CL m;have c3:=hI D;have c5:Hid (∃c s t g e a,cs=[c,s,t,g,e,a,.int .i64 S.asked,.int .i64 S.steps]):=by obtain⟨c,s,t,g,e,a,rfl,-⟩:=h;exact⟨c,s,t,g,e,a,rfl⟩
 obtain⟨c,s,t,g,e,a,rfl⟩:=c5.o;clear j h hh s0 s1 s2 s3 s4 s5 ht D;cases q1;case true=>have f:Hid ((2:Int)=r):=m;clear m;go_enter func47,ntmps47;go_wp2_with fail;rw[<-HW.o];refine CL.o.mono ?_;rintro e w1 ⟨rfl,p⟩;have K:=btZ H p;clear p;go_wp2_with fail;go_ret;exact⟨by rw[<-f.o];rfl,K.o⟩
 obtain⟨l1,l2,l3,l4,l5⟩:=tN c3.o;have L5:=hI l5;have d:(if bT S.shapes≠0 then bT S.shapes else if !jL cC S.texts || S.shapes.any (λx=>decide ((S.texts.length:Int)<=x.name)) || S.cells.any (λc=>!kE aG S c) then 3 else if S.said.any (λv=>v.kind != 4 || !dJ aG S v) then 3 else if S.ends.any (λe=>!yA aG S e) then(3:Int) else 0)=r:=m;clear m l5 l2 l3 l4;obtain⟨M,E⟩:∃q,bT S.shapes=q:=⟨_,rfl⟩;have CS:Hid (∀W,Below i.heap.size i W->Calls prog 79 #[.slice A1 S.shapes.length n1] W (aM (.int .i64 M) W)):=λW k=>by rw[<-E];exact tG A1 n1 S.shapes W (S1.o.below k)
 rw[E] at d;clear E;go_enter func47,ntmps47;go_wp2_with fail;rw[<-HW.o];refine CL.o.mono ?_;rintro e w1 ⟨rfl,p⟩;have K1:=hI p;have c7:=btZ H p;have d1:=(C.o.on p) 1 _ rfl;clear p;go_wp2_with fail;refine(CS.o w1 K1.o).mono ?_;rintro e w2 ⟨rfl,k2⟩;have I:=btZ K1 k2;have P:=btZ c7 k2;clear k2 d1;by_cases z:M=0;case neg=>rw[if_pos z] at d;have f:=hI d;have i4:(M == 0)=false:=bF z;have i5:(M != 0)=true:=bne_iff_ne.2 z;clear d;go_wp2_with fail;go_ret;exact⟨by rw[<-f.o];rfl,P.o⟩
 subst z;rw[if_neg (by simp)] at d;have CT:Hid (Calls prog 80 #[.slice A2 S.texts.length n2] w2 (aM (.bool (jL cC S.texts)) w2)):=texts_c A2 n2 S.texts w2 (T0.o.below I.o) (S2.o.below I.o) l1;obtain⟨q3,a0⟩:∃q,jL cC S.texts=q:=⟨_,rfl⟩;rw[a0] at CT d;clear a0;have d2:=(C.o.on I.o) 2 _ rfl;go_wp2_with fail;refine CT.o.mono ?_;rintro e w3 ⟨rfl,k3⟩;have J:=btZ I k3;have R:=btZ P k3;clear k3 d2;cases q3;case false=>have f:Hid ((3:Int)=r):=d;clear d;go_wp2_with fail;go_ret;exact⟨by rw[<-f.o];rfl,R.o⟩
 rw[Bool.not_true,Bool.false_or] at d;have d1:=(C.o.on J.o) 1 _ rfl;have C1:=hI (pP jX (λx=>decide ((S.texts.length:Int)<=x.name)) A1 n1 S.shapes 82 adI #[.pointer (some ⟨w.heap.size,0,none⟩)] w3 (S1.o.below J.o) (λw4 F x cs O y=>by obtain⟨rfl,-⟩:=y;exact ck1_c x S w.heap.size w4 ((A.o.below J.o).below F)));obtain⟨q4,a1⟩:∃q,S.shapes.any (λx=>decide ((S.texts.length:Int)<=x.name))=q:=⟨_,rfl⟩;rw[a1] at C1 d;clear a1;go_wp2_with fail;refine C1.o.mono ?_;rintro e w4 ⟨rfl,F⟩;have l:=btZ J F;have V:=btZ R F;clear F d1;cases q4;case true=>have f:Hid ((3:Int)=r):=d;clear d;go_wp2_with fail;go_ret;exact⟨by rw[<-f.o];rfl,V.o⟩
 rw[Bool.false_or] at d;have d0:=(C.o.on l.o) 0 _ rfl;have C2:=hI (iH (jY i i.heap.size) (λc=>!kE aG S c) A0 n0 S.cells 84 adH #[.pointer (some ⟨w.heap.size,0,none⟩)] w4 (S0.o.below l.o) (λw5 u x cs O y=> ck2_c cs x S w.heap.size w5 (y.keep (Nat.le_trans l.o.size u.size) (λ_ hp=>(l.o.trans (u.mono l.o.size)).cell hp)) ((A.o.below l.o).below u) (L5.o x O)));obtain⟨q5,a2⟩:∃q,S.cells.any (λc=>!kE aG S c)=q:=⟨_,rfl⟩;rw[a2] at C2 d;clear a2;go_wp2_with fail;refine C2.o.mono ?_;rintro e w5 ⟨rfl,u⟩;have L:=btZ l u;have X:=btZ V u;clear u d0;cases q5;case true=>have f:Hid ((3:Int)=r):=d;clear d;go_wp2_with fail;go_ret;exact⟨by rw[<-f.o];rfl,X.o⟩
 rw[if_neg (by simp)] at d;have d5:=(C.o.on L.o) 5 _ rfl;have C3:=hI (eE hU (λv=>v.kind != 4 || !dJ aG S v) A5 n5 S.said 87 adG #[.pointer (some ⟨w.heap.size,0,none⟩)] w5 (S5.o.below L.o) (λw6 G x cs O y=>by obtain⟨rfl,-⟩:=y;exact ck3_c x S w.heap.size w6 ((A.o.below L.o).below G)));obtain⟨q6,a3⟩:∃q,S.said.any (λv=>v.kind != 4 || !dJ aG S v)=q:=⟨_,rfl⟩;rw[a3] at C3 d;clear a3;go_wp2_with fail;refine C3.o.mono ?_;rintro e w6 ⟨rfl,G⟩;have K6:=btZ L G;have Y:=btZ X G;clear G d5;cases q6;case true=>have f:Hid ((3:Int)=r):=d;clear d;go_wp2_with fail;go_ret;exact⟨by rw[<-f.o];rfl,Y.o⟩
 rw[if_neg (by simp)] at d;have d4:=(C.o.on K6.o) 4 _ rfl;have C4:=hI (oP abX (λe=>!yA aG S e) A4 n4 S.ends 90 adF #[.pointer (some ⟨w.heap.size,0,none⟩)] w6 (S4.o.below K6.o) (λw7 N x cs O y=>by obtain⟨rfl,-⟩:=y;exact ck4_c x S w.heap.size w7 ((A.o.below K6.o).below N)));obtain⟨q7,a4⟩:∃q,S.ends.any (λe=>!yA aG S e)=q:=⟨_,rfl⟩;rw[a4] at C4 d;clear a4;go_wp2_with fail;refine C4.o.mono ?_;rintro e w7 ⟨rfl,N⟩;have Z:=btZ Y N;clear N d4;cases q7;case true=>have f:Hid ((3:Int)=r):=d;clear d;go_wp2_with fail;go_ret;exact⟨by rw[<-f.o];rfl,Z.o⟩
 have f:Hid ((0:Int)=r):=d;clear d;go_wp2_with fail;go_ret;exact⟨by rw[<-f.o];rfl,Z.o⟩
end
section
open Go.RowKit
structure pT (w:World) (lb:Nat) (p:aW) (S:aR) (sb mb:Nat) (tv yv:Value):Prop where
 here:∃a b c,aA w lb [a,b,c,.pointer (some ⟨sb,0,none⟩),tv,yv,.map (some mb)]/\eL w w.heap.size [a,b,c] p
 size:lb<w.heap.size
 st:iJ w sb S
theorem eL.below {w w':World} {cs:List Value} {p:aW} (h:eL w w.heap.size cs p) (d:Below w.heap.size w w'):eL w' w'.heap.size cs p:=h.keep d.size (λ_ e=>d.cell e)
theorem pT.below {w w':World} {f:Nat} {p:aW} {S:aR} {g j:Nat} {l m:Value} (h:pT w f p S g j l m) (d:Below w.heap.size w w'):pT w' f p S g j l m:=by obtain⟨⟨a,b,c,q,r⟩,e,s⟩:=h;exact⟨⟨a,b,c,λi v u=>(d.cell e).trans (q i v u),r.below d⟩,Nat.lt_of_lt_of_le e d.size,s.below d⟩
theorem jG:(prog.info? 55).map (·.size)=some 4:=by kernel_rfl
def oK (v:Value):Prop:=∃A n c,v=.slice A n c
def uE (S:aR) (v:Val) (kind:Int) (w:World) (e:Ending) (w':World):Prop:=
 ∃(k n:Int) (vv fv:Value) (b:Bool),e=.returned (.tuple #[.agg #[.int .i64 k,.int .i64 n,vv,fv],.bool b])/\oK vv/\oK fv/\b=(bM S v kind).isSome/\(∀c,bM S v kind=some c->n=c.num)/\Below w.heap.size w w'
theorem uU (v:Val) (kind:Int) (p:aW) (S:aR) (W V mb:Nat) (tv yv:Value) (w:World) (h:pT w W p S V mb tv yv) : Calls prog 134 #[.pointer (some ⟨W,0,none⟩),.agg #[.int .i64 v.kind,.int .i64 v.n],.int .i64 kind] w (uE S v kind w):=by
 obtain⟨k,n⟩:=v;unfold uE;obtain⟨⟨pa,pb,pc,hl,-⟩,c6,Y⟩:=h;obtain⟨A0,n0,A1,n1,A2,n2,A3,n3,A4,n4,A5,n5,hh,hb,s0,-⟩:=Y.parts;have lc:=aP s0;have S0:=hI s0;obtain⟨l,s⟩:∃l,l=(w.alloc (.cells #[.int .i64 k,.int .i64 n] 48)).alloc (.cells #[.int .i64 0,.int .i64 0,.slice none 0 0,.slice none 0 0] 55):=⟨_,rfl⟩;have u:Hid (Below w.heap.size w l):=by rw[s];exact bE w _ _
 have r:Hid (l.heap[w.heap.size+1]? = some (.cells #[.int .i64 0,.int .i64 0,.slice none 0 0,.slice none 0 0] 55 (0,0))):=by rw[s];have:=aJ (w.alloc (.cells #[.int .i64 k,.int .i64 n] 48)) (.cells #[.int .i64 0,.int .i64 0,.slice none 0 0,.slice none 0 0] 55);rwa [World.size_alloc] at this
 have H:w.heap.size+1<l.heap.size:=(aE r.o).1;have I:∀E:Up l,E.to.cell? ⟨w.heap.size,0,none⟩=some (.int .i64 k):=λE=>E.cell (by rw[s];exact kK _ _ _ _ _);have J:∀E:Up l,E.to.cell? ⟨w.heap.size,1,none⟩=some (.int .i64 n):=λE=>E.cell (by rw[s];exact kK _ _ _ _ _);have K:∀E:Up l,E.to.cell? ⟨W,3,none⟩=some (.pointer (some ⟨V,0,none⟩)):=λE=>E.cell ((u.o.cell c6).trans (hl 3 _ rfl));have L:∀E:Up l,E.to.cell? ⟨V,0,none⟩=some (.slice A0 S.cells.length n0):=λE=>E.cell ((u.o.cell hb).trans (hh 0 _ rfl));have F0:=hI I;have F1:=hI J;have F2:=hI K;have F3:=hI L;have HW:=hI s;clear s hl hh s0 Y;go_enter func134,ntmps134;go_wp2_with fail;rw[<-HW.o];refine aD (by kernel_rfl) (by kernel_rfl) ?_;repeat (go_big_quiet_step (fail))
 obtain⟨b1,N⟩:∃b:Bool,(k != 5)=b:=⟨_,rfl⟩;rw[N];cases b1
 case true=>
  have q:Hid (bM S ⟨k,n⟩ kind=none):=by unfold bM;exact if_pos (.inl (bne_iff_ne.1 N))
  repeat (go_big_quiet_step (fail))
  refine wpQuiet_nil ?_;rintro _ ⟨E,rfl⟩;obtain⟨w1,f⟩:=E;dsimp only;have g:Hid (w1.heap[w.heap.size+1]? = some (.cells #[.int .i64 0,.int .i64 0,.slice none 0 0,.slice none 0 0] 55 (0,0))):=(f.block _ H).trans r.o;have x:=btZ u f;clear I J K L f;go_wp2_with (first | (refine wpList_store_row rfl 55 _ _ rfl (w.heap.size+1) #[.int .i64 0,.int .i64 0,.slice none 0 0,.slice none 0 0] rfl rfl 55 _ g.o jG rfl (oC (by simp[Value.oneCell'])) ?_) | fail);generalize e:World.setRow _ _ _=w9;have d:=shZ e g;have y:Hid (Below w.heap.size w w9):=by rw[<-e];exact Below.set_row x.o (by omega) _
  have z:=crZ d 0 rfl;have C:=crZ d 1 rfl;have D:=crZ d 2 rfl;have F:=crZ d 3 rfl;clear e;go_wp2_with fail;refine bodyPost_ret (v:=.tuple #[.agg #[.int .i64 0,.int .i64 0,.slice none 0 0,.slice none 0 0],.bool false]) (by simp[results,results134,go_sem,z,C,D,F]) rfl ⟨0,0,_,_,false,rfl,⟨none,0,0,rfl⟩,⟨none,0,0,rfl⟩,by rw[q.o];rfl,(λc i=>by rw[q.o] at i;cases i),y.o⟩
 repeat (go_big_quiet_step (fail))
 obtain⟨b2,O⟩:∃b:Bool,(decide (n<0))=b:=⟨_,rfl⟩;rw[O];cases b2
 case true=>
  have q:Hid (bM S ⟨k,n⟩ kind=none):=by unfold bM;exact if_pos (.inr (.inl (of_decide_eq_true O)))
  repeat (go_big_quiet_step (fail))
  refine wpQuiet_nil ?_;rintro _ ⟨E,rfl⟩;obtain⟨w1,f⟩:=E;dsimp only;have g:Hid (w1.heap[w.heap.size+1]? = some (.cells #[.int .i64 0,.int .i64 0,.slice none 0 0,.slice none 0 0] 55 (0,0))):=(f.block _ H).trans r.o;have x:=btZ u f;clear I J K L f;go_wp2_with (first | (refine wpList_store_row rfl 55 _ _ rfl (w.heap.size+1) #[.int .i64 0,.int .i64 0,.slice none 0 0,.slice none 0 0] rfl rfl 55 _ g.o jG rfl (oC (by simp[Value.oneCell'])) ?_) | fail);generalize e:World.setRow _ _ _=w9;have d:=shZ e g;have y:Hid (Below w.heap.size w w9):=by rw[<-e];exact Below.set_row x.o (by omega) _
  have z:=crZ d 0 rfl;have C:=crZ d 1 rfl;have D:=crZ d 2 rfl;have F:=crZ d 3 rfl;clear e;go_wp2_with fail;refine bodyPost_ret (v:=.tuple #[.agg #[.int .i64 0,.int .i64 0,.slice none 0 0,.slice none 0 0],.bool false]) (by simp[results,results134,go_sem,z,C,D,F]) rfl ⟨0,0,_,_,false,rfl,⟨none,0,0,rfl⟩,⟨none,0,0,rfl⟩,by rw[q.o];rfl,(λc i=>by rw[q.o] at i;cases i),y.o⟩
 repeat (go_big_quiet_step (fail))
 obtain⟨b3,P⟩:∃b:Bool,(decide ((S.cells.length:Int)<=n))=b:=⟨_,rfl⟩;rw[P];cases b3
 case true=>
  have q:Hid (bM S ⟨k,n⟩ kind=none):=by unfold bM;exact if_pos (.inr (.inr (of_decide_eq_true P)))
  repeat (go_big_quiet_step (fail))
  refine wpQuiet_nil ?_;rintro _ ⟨E,rfl⟩;obtain⟨w1,f⟩:=E;dsimp only;have g:Hid (w1.heap[w.heap.size+1]? = some (.cells #[.int .i64 0,.int .i64 0,.slice none 0 0,.slice none 0 0] 55 (0,0))):=(f.block _ H).trans r.o;have x:=btZ u f;clear I J K L f;go_wp2_with (first | (refine wpList_store_row rfl 55 _ _ rfl (w.heap.size+1) #[.int .i64 0,.int .i64 0,.slice none 0 0,.slice none 0 0] rfl rfl 55 _ g.o jG rfl (oC (by simp[Value.oneCell'])) ?_) | fail);generalize e:World.setRow _ _ _=w9;have d:=shZ e g;have y:Hid (Below w.heap.size w w9):=by rw[<-e];exact Below.set_row x.o (by omega) _
  have z:=crZ d 0 rfl;have C:=crZ d 1 rfl;have D:=crZ d 2 rfl;have F:=crZ d 3 rfl;clear e;go_wp2_with fail;refine bodyPost_ret (v:=.tuple #[.agg #[.int .i64 0,.int .i64 0,.slice none 0 0,.slice none 0 0],.bool false]) (by simp[results,results134,go_sem,z,C,D,F]) rfl ⟨0,0,_,_,false,rfl,⟨none,0,0,rfl⟩,⟨none,0,0,rfl⟩,by rw[q.o];rfl,(λc i=>by rw[q.o] at i;cases i),y.o⟩
 have q1:k=5:=by simpa using N
 have q2:¬n<0:=of_decide_eq_false O;have q3:¬(S.cells.length:Int)<=n:=of_decide_eq_false P;obtain⟨m,rfl⟩:=Int.eq_ofNat_of_zero_le (show 0<=n by omega);have hm:m<S.cells.length:=by omega
 obtain⟨b,G,c,cs,rfl,Z,hx,-,⟨VV,FV,rfl,a0,a1,-⟩,a2⟩:=S0.o.at_ hm;have b5:Hid (oK VV):=by obtain⟨A,cp,h,-⟩:=a0;exact⟨_,_,_,h⟩
 have b6:Hid (oK FV):=by obtain⟨A,cp,h,-⟩:=a1;exact⟨_,_,_,h⟩
 have c0:b<l.heap.size:=Nat.lt_of_lt_of_le Z u.o.size;have X:Hid (l.rangeAt b (G+m*4) [.int .i64 c.kind,.int .i64 c.num,VV,FV]):=λj v hv=>(u.o.cell Z).trans (a2 j v hv);have f4:∀E:Up l,E.to.cell? ⟨b,G+m*4,none⟩=some (.int .i64 c.kind):=λE=>E.cell (by have:=X.o 0 _ rfl;simpa using this);have HL:Hid (bM S ⟨k,(m:Int)⟩ kind=if c.kind=kind then some c else none):=by
  unfold bM;refine Eq.trans (if_neg ?_) ?_
  ·rintro (h | h | h);·exact h q1
   ·exact q2 h
   ·exact q3 h
  ·show(match S.cells[((m:Int)).toNat]? with | none=>none | some c=>if c.kind=kind then some c else none)=_;rw[Int.toNat_natCast,hx]
 have g7:(m:Int)<S.cells.length:=by omega
 clear a2 hx a0 a1 q1 q2 q3;repeat (go_big_quiet_step (fail))
 obtain⟨b4,R⟩:∃b:Bool,(c.kind != kind)=b:=⟨_,rfl⟩;rw[R];cases b4
 case true=>
  have q:Hid (bM S ⟨k,(m:Int)⟩ kind=none):=by rw[HL.o];exact if_neg (bne_iff_ne.1 R)
  clear f4;repeat (go_big_quiet_step (fail))
  refine wpQuiet_nil ?_;rintro _ ⟨E,rfl⟩;obtain⟨w1,f⟩:=E;dsimp only;have g:Hid (w1.heap[w.heap.size+1]? = some (.cells #[.int .i64 0,.int .i64 0,.slice none 0 0,.slice none 0 0] 55 (0,0))):=(f.block _ H).trans r.o;have x:=btZ u f;clear I J K L f;go_wp2_with (first | (refine wpList_store_row rfl 55 _ _ rfl (w.heap.size+1) #[.int .i64 0,.int .i64 0,.slice none 0 0,.slice none 0 0] rfl rfl 55 _ g.o jG rfl (oC (by simp[Value.oneCell'])) ?_) | fail);generalize e:World.setRow _ _ _=w9;have d:=shZ e g;have y:Hid (Below w.heap.size w w9):=by rw[<-e];exact Below.set_row x.o (by omega) _
  have z:=crZ d 0 rfl;have C:=crZ d 1 rfl;have D:=crZ d 2 rfl;have F:=crZ d 3 rfl;clear e;go_wp2_with fail;refine bodyPost_ret (v:=.tuple #[.agg #[.int .i64 0,.int .i64 0,.slice none 0 0,.slice none 0 0],.bool false]) (by simp[results,results134,go_sem,z,C,D,F]) rfl ⟨0,0,_,_,false,rfl,⟨none,0,0,rfl⟩,⟨none,0,0,rfl⟩,by rw[q.o];rfl,(λc i=>by rw[q.o] at i;cases i),y.o⟩
 have HS:Hid (bM S ⟨k,(m:Int)⟩ kind=some c):=by rw[HL.o];exact if_pos (by simpa using R)
 repeat (go_big_quiet_step (fail))
 refine wpQuiet_nil ?_;rintro _ ⟨E,rfl⟩;obtain⟨w1,f⟩:=E;dsimp only;have g:Hid (w1.heap[w.heap.size+1]? = some (.cells #[.int .i64 0,.int .i64 0,.slice none 0 0,.slice none 0 0] 55 (0,0))):=(f.block _ H).trans r.o;have x:=btZ u f;have e1:∀E:Up w1,E.to.cell? ⟨w.heap.size,1,none⟩=some (.int .i64 m):=λE=>E.cell (F1.o ⟨w1,f⟩);have e2:∀E:Up w1,E.to.cell? ⟨W,3,none⟩=some (.pointer (some ⟨V,0,none⟩)):=λE=>E.cell (F2.o ⟨w1,f⟩);have e3:∀E:Up w1,E.to.cell? ⟨V,0,none⟩=some (.slice (some ⟨b,G,none⟩) S.cells.length n0):=λE=>E.cell (F3.o ⟨w1,f⟩);have c3:Hid (∀E:Up w1,E.to.rangeAt b (G+m*4) [.int .i64 c.kind,.int .i64 c.num,VV,FV]):=λE j v hv=>E.cell ((f.cell c0).trans (X.o j v hv));have c5:w.heap.size+1<w1.heap.size:=Nat.lt_of_lt_of_le H f.size;clear I J K L f4 f;go_upto_region 3 with fail;refine aL 11 (by kernel_rfl) (by kernel_rfl) ?_;simp only[List.take_succ_cons,List.take_zero,List.drop_succ_cons,List.drop_zero]
 repeat (first
  | (refine aO 55 _ rfl rfl b (G+m*4) rfl _ _ c3.o underlying55 rfl jG ?_;go_simp)
  | go_big_quiet_step (fail))
 refine wpQuiet_nil ?_;intro E;obtain⟨w2,k2⟩:=E;dsimp only;have M:Hid (w2.heap[w.heap.size+1]? = some (.cells #[.int .i64 0,.int .i64 0,.slice none 0 0,.slice none 0 0] 55 (0,0))):=(k2.block _ c5).trans g.o;have K2:=btZ x k2;clear e1 e2 e3 k2;obtain⟨VA,VN,VC,rfl⟩:=b5.o;obtain⟨FA,FN,FC,rfl⟩:=b6.o;go_wp2_with (first | (refine wpList_store_row rfl 55 _ _ rfl (w.heap.size+1) #[.int .i64 c.kind,.int .i64 c.num,.slice VA VN VC,.slice FA FN FC] rfl rfl 55 _ M.o jG rfl (oC (by simp[Value.oneCell'])) ?_) | fail);generalize e:World.setRow _ _ _=w9;have d:=shZ e M;have y:Hid (Below w.heap.size w w9):=by rw[<-e];exact Below.set_row K2.o (by omega) _
 have z:=crZ d 0 rfl;have C:=crZ d 1 rfl;have D:=crZ d 2 rfl;have F:=crZ d 3 rfl;clear e;go_wp2_with fail;refine bodyPost_ret (v:=.tuple #[.agg #[.int .i64 c.kind,.int .i64 c.num,.slice VA VN VC,.slice FA FN FC],.bool true]) (by simp[results,results134,go_sem,z,C,D,F]) rfl ⟨_,_,_,_,true,rfl,⟨_,_,_,rfl⟩,⟨_,_,_,rfl⟩,by rw[HS.o];rfl,(λc' i=>by rw[HS.o] at i;injection i with i;rw[i]),y.o⟩
end
end Go.Proofs.YtjaphgpkkfdaaaaGreatDoor
