/- A part of the walk. -/
import Derived.Test.YtijihlcdhppfgaaGreatDoorZK
import Derived.Deep.DeepCutAuto
set_option maxHeartbeats 16000000
set_option maxRecDepth 100000
set_option linter.all false
namespace Go.Proofs.YtijihlcdhppfgaaGreatDoor
open Tryz
section
open Go.RowKit
theorem ajM (w:World) (A B C D:List Value) (t u v s:TypeId) {W:World} (g:W=(((w.alloc (.cells ⟨A⟩ t)).alloc (.cells ⟨B⟩ u)).alloc (.cells ⟨C⟩ v)).alloc (.cells ⟨D⟩ s)) : aJ W w.heap.size A/\aJ W (w.heap.size+1) B/\aJ W (w.heap.size+1+1) C/\aJ W (w.heap.size+1+1+1) D/\Below w.heap.size w W/\W.heap.size=w.heap.size+4:=by
 obtain⟨h1,d,f⟩:=nR w A B t u;subst g;refine⟨(h1.old _).old _,(d.old _).old _,?_,?_,(f.alloc (by simp;omega) _).alloc (by simp;omega) _,by simp⟩;·refine aJ.old ?_ _;have:=akV ((w.alloc (.cells ⟨A⟩ t)).alloc (.cells ⟨B⟩ u)) C v;simpa only [World.size_alloc] using this
 ·have:=akV (((w.alloc (.cells ⟨A⟩ t)).alloc (.cells ⟨B⟩ u)).alloc (.cells ⟨C⟩ v)) D s;simpa only [World.size_alloc] using this
theorem wR:(prog.info? 32).map (·.size)=some 4:=by kernel_rfl
theorem fO.at9 {w:World} {B:Nat} {cs:List Value} {f:CFn} {t:aH} (h:fO w B cs f t):∃d ne,cs[9]? = some (.slice d t.exits.length ne)/\aB w B 4 (fM w B) (.slice d t.exits.length ne) t.exits:=by obtain⟨g,j,l,p,q,r,d,ne,s1,s,u,v,rfl,-,-,h⟩:=h.cells;exact⟨d,ne,rfl,h⟩
theorem ajN (cs:List Value) (f:CFn) (t:aH) (x:aT) (at_:Int) (w:World) (h:fO w w.heap.size cs f t) (hx:kX x) : Calls prog 31 #[.agg ⟨cs⟩,nH (bP x.op),yA x,.int .i64 at_] w (aK (.bool (eJ aF (gI f) t x at_)) w):=by
 obtain⟨r,hr⟩:∃r,eJ aF (gI f) t x at_=r:=⟨_,rfl⟩;rw[hr];have HR:=hI hr;have HC:=hI h;have HI:=hI h.len;have WX:=hI hx;obtain⟨a0,a3,-⟩:=vG x.op;have HA:=hI (show bU x=[x.a,x.b,x.c].take (bP x.op).asks.toNat from rfl);obtain⟨F,hF⟩:∃F,bP x.op=F:=⟨_,rfl⟩;rw[hF] at a0 a3 HA ⊢;have HF:=hI hF;clear hr hF h;obtain⟨asks,low,high,kf,tells,ex⟩:=F;obtain⟨op,xa,xb,xc,xn,xe,⟨kk,kn⟩⟩:=x;dsimp only at a0 a3 HA;obtain⟨n,rfl⟩:=Int.eq_ofNat_of_zero_le a0;obtain⟨w0,hw0⟩:∃w0,w0=(((w.alloc (.cells ⟨cs⟩ 74)).alloc (.cells #[.int .i64 n,.int .i64 low,.int .i64 high,.bool kf,.bool tells,.int .i64 ex] 76)).alloc (.cells #[.int .i64 op,.int .i64 xa,.int .i64 xb,.int .i64 xc,.int .i64 xn,.int .i64 xe,.int .i64 kk,.int .i64 kn] 53)).alloc (.cells #[.int .i64 xa,.int .i64 xb,.int .i64 xc] 116):=⟨_,rfl⟩;obtain⟨h1,h2,h3,h4,h5,h6⟩:=ajM _ _ _ _ _ _ _ _ _ hw0;have H1:=hI h1;have H2:=hI h2;have H3:=hI h3;have H4:=hI h4;have K0:=hI h5;have HW:=hI hw0;have RU:Hid (∀E:Up w0,E.to.rangeAt w.heap.size 0 cs):=λE=>(H1.o.on E.below).range;have f0:∀E:Up w0,E.to.cell? ⟨w.heap.size+1,0,none⟩=some (.int .i64 n):=λE=>aC E.below (H2.o 0 _ rfl);clear h1 h2 h3 h4 h5 hw0;go_enter func31,ntmps31;unfold nH yA;dsimp only;go_wp2_with fail;rw[<-HW.o];have a3':(n:Int)<=3:=a3;have SV:Hid (∀W,Below w0.heap.size w0 W->aB W W.heap.size 1 gB (.slice (some ⟨w.heap.size+1+1+1,0,none⟩) ([xa,xb,xc].take n).length 3) ([xa,xb,xc].take n)):=λW kW=>by
  have h7:=H4.o.on kW
  refine⟨_,3,rfl,?_,by decide,λ_=>⟨_,0,rfl,?_,λi y hy=>⟨[.int .i64 y],rfl,⟨rfl,?_⟩,λj v hj=>?_⟩⟩⟩
  ·rw[List.length_take];simp;omega
  ·exact eL (h7 0 _ rfl)
  ·have hm:=List.mem_of_mem_take (lM hy)
   simp only[List.mem_cons,List.not_mem_nil,or_false] at hm
   rcases hm with rfl | rfl | rfl
   ·exact WX.o.2.1
   ·exact WX.o.2.2.1
   ·exact WX.o.2.2.2.1
  ·match j,hj with
   | 0,hj=>
    simp only[List.getElem?_cons_zero,Option.some.injEq] at hj
    subst hj
    refine h7 _ _ ?_
    rw[List.getElem?_take] at hy
    split at hy
    ·match i,hy with
     | 0,hy=>injection hy with hy;subst hy;rfl
     | 1,hy=>injection hy with hy;subst hy;rfl
     | 2,hy=>injection hy with hy;subst hy;rfl
    ·cases hy
 have CV:Hid (∀E:Up w0,Calls prog 63 #[.agg ⟨cs⟩,.slice (some ⟨w.heap.size+1+1+1,0,none⟩) n 3,.int .i64 at_] E.to (aK (.bool (fN t.ins ([xa,xb,xc].take n) at_)) E.to)):=λE=>by
  have hl:([xa,xb,xc].take n).length=n:=by rw[List.length_take];simp;omega
  have:=aa6 cs f t _ _ at_ E.to (HC.o.below (K0.o.trans (E.below.mono K0.o.size))) (SV.o _ E.below);rwa [hl] at this
 refine aD (by kernel_rfl) (by kernel_rfl) ?_
 repeat (first
  | (refine dE 74 _ rfl rfl w.heap.size 0 rfl cs _ RU.o underlying74 rfl HI.o ?_;go_simp)
  | go_big_quiet_step ((go_at_call 63;with_reducible exact Calls.up (CV.o _))))
 refine wpQuiet_nil ?_;intro E;obtain⟨w1,k1⟩:=E;have K1:=hI k1;have KK:=btZ K0 k1;obtain⟨q,hq⟩:∃q,fN t.ins ([xa,xb,xc].take n) at_=q:=⟨_,rfl⟩;rw[hq];dsimp only;have HQ:=hI hq;have g0:=aC k1 (H2.o 0 _ rfl);clear k1 hq f0;cases q
 case false=>
  have HN:Hid (false=r):=by rw[<-HR.o];unfold eJ;rw[HA.o,Int.toNat_natCast,HQ.o];rfl
  go_wp2_with fail;go_ret;exact⟨by rw[<-HN.o];rfl,KK.o⟩
 have FM:Hid (r=(fU ⟨op,xa,xb,xc,xn,xe,⟨kk,kn⟩⟩ ⟨n,low,high,kf,tells,ex⟩ &&
   !(decide (xn<low) || decide (high<xn) || (op == 1 && decide (f.regs<=xn))) &&
   !((!kf && (⟨kk,kn⟩:Val) != ⟨0,0⟩) || (kf && !aF ⟨kk,kn⟩) || (op == 2 && kk == 5)) &&
   (if ex == 0 || (ex == 1 && xe == -1) then xe == -1
   else decide (0<=xe) && decide (xe<t.exits.length) && (t.exits[xe.toNat]?).any (bN (gI f) t.ins · at_)))):=by
  rw[<-HR.o]
  unfold eJ
  dsimp only
  rw[HA.o,Int.toNat_natCast,HQ.o,HF.o,Bool.true_and]
  exact rfl
 go_wp2_with fail;have a0:=aC K1.o (H3.o 0 _ rfl);have a4:=aC K1.o (H3.o 4 _ rfl);have v0:=aC K1.o (H4.o 0 _ rfl);have v1:=aC K1.o (H4.o 1 _ rfl);have v2:=aC K1.o (H4.o 2 _ rfl);go_loopw [10] (λk wr=>∃jn:Nat,k=.int .i64 jn/\n<=jn/\jn<=3/\Hid (∀j v,n<=j->j<jn->[xa,xb,xc][j]? = some v->fV ⟨op,xa,xb,xc,xn,xe,⟨kk,kn⟩⟩ j v=true)/\wr=w1) (λk _=>3 - (RowKit.intOf k).toNat);case atStart=>exact⟨n,rfl,Nat.le_refl _,by omega,λj v h1 h2=>by omega,rfl⟩
 case round=>
  obtain⟨jn,rfl,h1,h2,HP,rfl⟩:=hrel
  have hj:jn=0\/jn=1\/jn=2\/jn=3:=by omega
  rcases hj with rfl | rfl | rfl | rfl
  ·have hn:n=0:=by omega
   subst hn
   by_cases c:xa = -1
   case neg=>
    have c':(xa != -1)=true:=by simpa using c
    have HN:Hid (false=r):=by
     rw[FM.o]
     have:fU ⟨op,xa,xb,xc,xn,xe,⟨kk,kn⟩⟩ ⟨((0:Nat):Int),low,high,kf,tells,ex⟩=false:=by simp[fU,fV,c]
     rw[this];rfl
    go_wp2_with fail
    go_ret
    exact⟨by rw[<-HN.o];rfl,KK.o⟩
   subst c
   go_wp2_with fail
   go_roundw
   case rel=>exact⟨1,rfl,by omega,by omega,λj v g1 g2 g3=>by
    obtain rfl:j=0:=by omega
    injection g3 with g3;subst g3;rfl,by first | rfl | trivial⟩
   case measure=>simp[RowKit.intOf]
  ·by_cases c:op=19
   ·have SH:Hid (fV ⟨op,xa,xb,xc,xn,xe,⟨kk,kn⟩⟩ 1 xb=decide (0<=xb)):=by simp[fV,c,Hid]
    rw[c] at a0
    by_cases d:0<=xb
    case neg=>
     have d':xb<0:=by omega
     have HN:Hid (false=r):=by
      rw[FM.o]
      have:fU ⟨op,xa,xb,xc,xn,xe,⟨kk,kn⟩⟩ ⟨(n:Int),low,high,kf,tells,ex⟩=false:=by
       unfold fU
       dsimp only
       rw[SH.o,decide_eq_false d,decide_eq_false (by omega:¬(1:Int)<n),Bool.or_false,Bool.and_false,Bool.false_and]
      rw[this];rfl
     go_wp2_with fail
     go_ret
     exact⟨by rw[<-HN.o];rfl,KK.o⟩
    have d':¬xb<0:=by omega
    go_wp2_with fail
    go_roundw
    case rel=>exact⟨2,rfl,by omega,by omega,λj v g1 g2 g3=>by
     rcases Nat.lt_or_ge j 1 with g4 | g4
     ·exact HP.o j v g1 g4 g3
     ·obtain rfl:j=1:=by omega
      injection g3 with g3;subst g3;exact SH.o.trans (decide_eq_true d),by first | rfl | trivial⟩
    case measure=>simp[RowKit.intOf]
   have c':(op == 19)=false:=bF c
   by_cases c9:op=9/\xn=1
   ·have SH:Hid (fV ⟨op,xa,xb,xc,xn,xe,⟨kk,kn⟩⟩ 1 xb=decide (0<=xb)):=by simp[fV,c9.1,c9.2,Hid]
    rw[c9.1] at a0
    rw[c9.2] at a4
    by_cases d:0<=xb
    case neg=>
     have d':xb<0:=by omega
     have HN:Hid (false=r):=by
      rw[FM.o]
      have:fU ⟨op,xa,xb,xc,xn,xe,⟨kk,kn⟩⟩ ⟨(n:Int),low,high,kf,tells,ex⟩=false:=by
       unfold fU
       dsimp only
       rw[SH.o,decide_eq_false d,decide_eq_false (by omega:¬(1:Int)<n),Bool.or_false,Bool.and_false,Bool.false_and]
      rw[this];rfl
     go_wp2_with fail
     go_ret
     exact⟨by rw[<-HN.o];rfl,KK.o⟩
    have d':¬xb<0:=by omega
    go_wp2_with fail
    go_roundw
    case rel=>exact⟨2,rfl,by omega,by omega,λj v g1 g2 g3=>by
     rcases Nat.lt_or_ge j 1 with g4 | g4
     ·exact HP.o j v g1 g4 g3
     ·obtain rfl:j=1:=by omega
      injection g3 with g3;subst g3;exact SH.o.trans (decide_eq_true d),by first | rfl | trivial⟩
    case measure=>simp[RowKit.intOf]
   by_cases o9:op=9
   ·have n1:¬xn=1:=λh=>c9 ⟨o9,h⟩
    have n1':(xn == 1)=false:=bF n1
    have SH:Hid (fV ⟨op,xa,xb,xc,xn,xe,⟨kk,kn⟩⟩ 1 xb=(xb == -1)):=by simp[fV,o9,n1,Hid]
    rw[o9] at a0
    by_cases d:xb = -1
    case neg=>
     have d':(xb != -1)=true:=by simpa using d
     have HN:Hid (false=r):=by
      rw[FM.o]
      have:fU ⟨op,xa,xb,xc,xn,xe,⟨kk,kn⟩⟩ ⟨(n:Int),low,high,kf,tells,ex⟩=false:=by
       unfold fU
       dsimp only
       rw[SH.o,bF d,decide_eq_false (by omega:¬(1:Int)<n),Bool.or_false,Bool.and_false,Bool.false_and]
      rw[this];rfl
     go_wp2_with fail
     go_ret
     exact⟨by rw[<-HN.o];rfl,KK.o⟩
    subst d
    go_wp2_with fail
    go_roundw
    case rel=>exact⟨2,rfl,by omega,by omega,λj v g1 g2 g3=>by
     rcases Nat.lt_or_ge j 1 with g4 | g4
     ·exact HP.o j v g1 g4 g3
     ·obtain rfl:j=1:=by omega
      injection g3 with g3;subst g3;exact SH.o.trans rfl,by first | rfl | trivial⟩
    case measure=>simp[RowKit.intOf]
   ·have o9':(op == 9)=false:=bF o9
    have SH:Hid (fV ⟨op,xa,xb,xc,xn,xe,⟨kk,kn⟩⟩ 1 xb=(xb == -1)):=by simp[fV,o9,c,Hid]
    by_cases d:xb = -1
    case neg=>
     have d':(xb != -1)=true:=by simpa using d
     have HN:Hid (false=r):=by
      rw[FM.o]
      have:fU ⟨op,xa,xb,xc,xn,xe,⟨kk,kn⟩⟩ ⟨(n:Int),low,high,kf,tells,ex⟩=false:=by
       unfold fU
       dsimp only
       rw[SH.o,bF d,decide_eq_false (by omega:¬(1:Int)<n),Bool.or_false,Bool.and_false,Bool.false_and]
      rw[this];rfl
     go_wp2_with fail
     go_ret
     exact⟨by rw[<-HN.o];rfl,KK.o⟩
    subst d
    go_wp2_with fail
    go_roundw
    case rel=>exact⟨2,rfl,by omega,by omega,λj v g1 g2 g3=>by
     rcases Nat.lt_or_ge j 1 with g4 | g4
     ·exact HP.o j v g1 g4 g3
     ·obtain rfl:j=1:=by omega
      injection g3 with g3;subst g3;exact SH.o.trans rfl,by first | rfl | trivial⟩
    case measure=>simp[RowKit.intOf]
  ·by_cases c:xc = -1
   case neg=>
    have c':(xc != -1)=true:=by simpa using c
    have HN:Hid (false=r):=by
     rw[FM.o]
     have:fU ⟨op,xa,xb,xc,xn,xe,⟨kk,kn⟩⟩ ⟨(n:Int),low,high,kf,tells,ex⟩=false:=by
      unfold fU
      dsimp only
      rw[show fV ⟨op,xa,xb,xc,xn,xe,⟨kk,kn⟩⟩ 2 xc=false from bF c,decide_eq_false (by omega:¬(2:Int)<n),Bool.or_false,Bool.and_false]
     rw[this];rfl
    go_wp2_with fail
    go_ret
    exact⟨by rw[<-HN.o];rfl,KK.o⟩
   subst c
   go_wp2_with fail
   go_roundw
   case rel=>exact⟨3,rfl,by omega,by omega,λj v g1 g2 g3=>by
    rcases Nat.lt_or_ge j 2 with g4 | g4
    ·exact HP.o j v g1 g4 g3
    ·obtain rfl:j=2:=by omega
     injection g3 with g3;subst g3;rfl,by first | rfl | trivial⟩
   case measure=>simp[RowKit.intOf]
  ·clear a0 a4 v0 v1 v2
   have SH:Hid (fU ⟨op,xa,xb,xc,xn,xe,⟨kk,kn⟩⟩ ⟨(n:Int),low,high,kf,tells,ex⟩=true):=by
    unfold fU Hid
    dsimp only
    have q:∀(j:Nat) v,j<3->[xa,xb,xc][j]? = some v->(decide ((j:Int)<n) || fV ⟨op,xa,xb,xc,xn,xe,⟨kk,kn⟩⟩ j v)=true:=λj v hj hv=>by
     by_cases c:(j:Int)<n
     ·rw[decide_eq_true c];rfl
     ·rw[HP.o j v (by omega) hj hv,Bool.or_true]
    have q0:=q 0 xa (by omega) rfl
    have q1:=q 1 xb (by omega) rfl
    have q2:=q 2 xc (by omega) rfl
    rw[show((0:Nat):Int)=0 from rfl] at q0
    rw[show((1:Nat):Int)=1 from rfl] at q1
    rw[show((2:Nat):Int)=2 from rfl] at q2
    rw[q0,q1,q2];rfl
   obtain⟨bad1,hb1⟩:∃b,(decide (xn<low) || decide (high<xn) || (op == 1 && decide (f.regs<=xn)))=b:=⟨_,rfl⟩
   have FM1:Hid (r=(!bad1 && !((!kf && (⟨kk,kn⟩:Val) != ⟨0,0⟩) || (kf && !aF ⟨kk,kn⟩) || (op == 2 && kk == 5)) &&
     (if ex == 0 || (ex == 1 && xe == -1) then xe == -1
     else decide (0<=xe) && decide (xe<t.exits.length) && (t.exits[xe.toNat]?).any (bN (gI f) t.ins · at_)))):=by
    rw[FM.o,SH.o,hb1,Bool.true_and];exact rfl
   have HB1:=hI hb1
   clear hb1 HP
   go_upto_region 10 with fail
   go_cut [66] (λc wx=>c=.bool bad1/\wx=wr)
   case first=>
    have a0:=aC K1.o (H3.o 0 _ rfl)
    have a4:=aC K1.o (H3.o 4 _ rfl)
    have b1:=aC K1.o (H2.o 1 _ rfl)
    have b2:=aC K1.o (H2.o 2 _ rfl)
    have c1:=aC K1.o (H1.o 1 _ HC.o.at1.1)
    by_cases d1:xn<low
    ·have e:=HB1.o
     rw[decide_eq_true d1] at e
     have E:=hI e
     clear e
     go_wp2_with fail
     go_meet
     case rel=>exact⟨by rw[<-E.o];first | done | rfl,rfl⟩
    by_cases d2:high<xn
    ·have e:=HB1.o
     rw[decide_eq_true d2,Bool.or_true] at e
     have E:=hI e
     clear e
     go_wp2_with fail
     go_meet
     case rel=>exact⟨by rw[<-E.o];first | done | rfl,rfl⟩
    by_cases d3:op=1
    ·by_cases d4:f.regs<=xn
     ·have e:=HB1.o
      rw[decide_eq_true d4,d3,show((1:Int) == 1)=true from rfl,Bool.and_true,Bool.or_true] at e
      have E:=hI e
      rw[d3] at a0
      clear e d3
      go_wp2_with fail
      go_meet
      case rel=>exact⟨by rw[<-E.o];first | done | rfl,rfl⟩
     ·have e:=HB1.o
      rw[decide_eq_false d1,decide_eq_false d2,decide_eq_false d4,Bool.and_false] at e
      have E:=hI e
      rw[d3] at a0
      have d4':xn<f.regs:=by omega
      clear e d3
      go_wp2_with fail
      go_meet
      case rel=>exact⟨by rw[<-E.o];first | done | rfl,rfl⟩
    ·have e:=HB1.o
     rw[decide_eq_false d1,decide_eq_false d2,bF d3] at e
     have E:=hI e
     have d3':(op == 1)=false:=bF d3
     clear e
     go_wp2_with fail
     go_meet
     case rel=>exact⟨by rw[<-E.o];first | done | rfl,rfl⟩
   case rest=>
    obtain⟨rfl,hwc⟩:=hcut
    have hwc:=hwc.symm
    subst hwc
    cases bad1
    case true=>
     have HN:Hid (false=r):=by rw[FM1.o];rfl
     go_wp2_with fail
     go_ret
     exact⟨by rw[<-HN.o];rfl,KK.o⟩
    obtain⟨bad2,hb2⟩:∃b,((!kf && (⟨kk,kn⟩:Val) != ⟨0,0⟩) || (kf && !aF ⟨kk,kn⟩) || (op == 2 && kk == 5))=b:=⟨_,rfl⟩
    have FM2:Hid (r=(!bad2 && (if ex == 0 || (ex == 1 && xe == -1) then xe == -1
     else decide (0<=xe) && decide (xe<t.exits.length) && (t.exits[xe.toNat]?).any (bN (gI f) t.ins · at_)))):=by
     rw[FM1.o,hb2];exact rfl
    have HB2:=hI hb2
    clear hb2
    go_upto_region 12 with fail
    go_cut [92] (λc wx=>c=.bool bad2/\Hid (Below wr.heap.size wr wx))
    case first=>
     have a0:=aC K1.o (H3.o 0 _ rfl)
     have a6:=aC K1.o (H3.o 6 _ rfl)
     have a7:=aC K1.o (H3.o 7 _ rfl)
     have b3:=aC K1.o (H2.o 3 _ rfl)
     cases kf
     case false=>
      by_cases z1:kk=0
      ·by_cases z2:kn=0
       ·subst z1
        subst z2
        have o2:¬op=2:=λh=>by
         have:=HF.o
         rw[h] at this
         injection this with _ _ _ this
         cases this
        have o2':(op == 2)=false:=bF o2
        have e:=HB2.o
        rw[o2'] at e
        have E:=hI e
        clear e
        go_wp2_with fail
        go_meet
        case rel=>exact⟨by rw[<-E.o];first | done | rfl,Below.refl _ _⟩
       ·have e:=HB2.o
        have nz:((⟨kk,kn⟩:Val) != ⟨0,0⟩)=true:=by simp[z2]
        rw[nz] at e
        have E:=hI e
        have z2':(kn == 0)=false:=bF z2
        subst z1
        clear e nz
        go_wp2_with fail
        go_meet
        case rel=>exact⟨by rw[<-E.o];first | done | rfl,Below.refl _ _⟩
      ·have e:=HB2.o
       have nz:((⟨kk,kn⟩:Val) != ⟨0,0⟩)=true:=by simp[z1]
       rw[nz] at e
       have E:=hI e
       have z1':(kk == 0)=false:=bF z1
       clear e nz
       go_wp2_with fail
       go_meet
       case rel=>exact⟨by rw[<-E.o];first | done | rfl,Below.refl _ _⟩
     case true=>
      have RC:=hI (u9 ⟨kk,kn⟩ wr)
      obtain⟨rv,hrv⟩:∃b,aF ⟨kk,kn⟩=b:=⟨_,rfl⟩
      have e:=HB2.o
      rw[hrv] at RC e
      have E:=hI e
      clear e hrv
      go_wp2_with fail
      refine RC.o.mono ?_
      rintro e w2 ⟨rfl,k2⟩
      have K2:=hI k2
      have c0:=aC k2 a0
      have c6:=aC k2 a6
      clear k2 a0 a6 a7 b3
      cases rv
      case false=>
       go_wp2_with fail
       go_meet
       case rel=>exact⟨by rw[<-E.o];first | done | rfl,K2.o⟩
      by_cases o2:op=2
      ·subst o2
       by_cases k5:kk=5
       ·subst k5
        go_wp2_with fail
        go_meet
        case rel=>exact⟨by rw[<-E.o];first | done | rfl,K2.o⟩
       ·have e:=E.o
        have k5':(kk == 5)=false:=bF k5
        rw[k5'] at e
        have E:=hI e
        clear e
        go_wp2_with fail
        go_meet
        case rel=>exact⟨by rw[<-E.o];first | done | rfl,K2.o⟩
      ·have o2':(op == 2)=false:=bF o2
       have e:=E.o
       rw[o2'] at e
       have E:=hI e
       clear e
       go_wp2_with fail
       go_meet
       case rel=>exact⟨by rw[<-E.o];first | done | rfl,K2.o⟩
    case rest=>
     rename_i wc
     obtain⟨rfl,kx⟩:=hcut
     have K3:=btZ K1 kx.o
     have KK3:=btZ KK kx.o
     cases bad2
     case true=>
      have HN:Hid (false=r):=by rw[FM2.o];rfl
      go_wp2_with fail
      go_ret
      exact⟨by rw[<-HN.o];first | done | rfl,KK3.o⟩
     obtain⟨bad3,hb3⟩:∃b,(ex == 0 || (ex == 1 && xe == -1))=b:=⟨_,rfl⟩
     have FM3:Hid (r=(if bad3=true then xe == -1 else decide (0<=xe) && decide (xe<t.exits.length) && (t.exits[xe.toNat]?).any (bN (gI f) t.ins · at_))):=by
      rw[FM2.o,hb3];exact rfl
     have HB3:=hI hb3
     clear hb3
     go_upto_region 14 with fail
     go_cut [123] (λc wx=>c=.bool bad3/\wx=wc)
     case first=>
      have b5:=aC K3.o (H2.o 5 _ rfl)
      have a5:=aC K3.o (H3.o 5 _ rfl)
      have e:=HB3.o
      by_cases x0:ex=0
      ·rw[x0,show((0:Int) == 0)=true from rfl,Bool.true_or] at e
       have E:=hI e
       rw[x0] at b5
       clear e x0
       go_wp2_with fail
       go_meet
       case rel=>exact⟨by rw[<-E.o];first | done | rfl,rfl⟩
      have x0':(ex == 0)=false:=bF x0
      rw[x0',Bool.false_or] at e
      by_cases x1:ex=1
      ·rw[x1,show((1:Int) == 1)=true from rfl,Bool.true_and] at e
       rw[x1] at b5
       clear x0 x0' x1
       by_cases x2:xe = -1
       ·rw[x2] at a5 e
        have E:=hI e
        clear e x2
        go_wp2_with fail
        go_meet
        case rel=>exact⟨by rw[<-E.o];first | done | rfl,rfl⟩
       ·have x2':(xe == -1)=false:=bF x2
        rw[x2'] at e
        have E:=hI e
        clear e
        go_wp2_with fail
        go_meet
        case rel=>exact⟨by rw[<-E.o];first | done | rfl,rfl⟩
      ·have x1':(ex == 1)=false:=bF x1
       rw[x1',Bool.false_and] at e
       have E:=hI e
       clear e
       go_wp2_with fail
       go_meet
       case rel=>exact⟨by rw[<-E.o];first | done | rfl,rfl⟩
     case rest=>
      obtain⟨rfl,hwd⟩:=hcut
      have hwd:=hwd.symm
      subst hwd
      have a5:=aC K3.o (H3.o 5 _ rfl)
      cases bad3
      case true=>
       have e:=FM3.o
       rw[if_pos rfl] at e
       by_cases x2:xe = -1
       ·rw[x2] at a5 e
        have E:=hI e
        clear e x2
        go_wp2_with fail
        go_ret
        exact⟨by rw[E.o];first | done | rfl,KK3.o⟩
       ·have x2':(xe == -1)=false:=bF x2
        rw[x2'] at e
        have E:=hI e
        clear e
        go_wp2_with fail
        go_ret
        exact⟨by rw[E.o];first | done | rfl,KK3.o⟩
      have FM4:Hid (r=(decide (0<=xe) && decide (xe<t.exits.length) && (t.exits[xe.toNat]?).any (bN (gI f) t.ins · at_))):=by
       rw[FM3.o,if_neg (by simp)];exact rfl
      clear a5
      obtain⟨Ae,ne,p9,qx⟩:=HC.o.at9
      have lx:=aM qx
      have HX:=hI qx
      clear qx
      have RU3:Hid (∀E:Up wc,E.to.rangeAt w.heap.size 0 cs):=λE=>(H1.o.on (K3.o.trans (E.below.mono K3.o.size))).range
      have f5:∀E:Up wc,E.to.cell? ⟨w.heap.size+1+1,5,none⟩=some (.int .i64 xe):=λE=>vE K3.o E (H3.o 5 _ rfl)
      have f9:∀E:Up wc,E.to.cell? ⟨w.heap.size,9,none⟩=some (.slice Ae t.exits.length ne):=λE=>vE K3.o E (H1.o 9 _ p9)
      go_wp2_with fail
      by_cases y0:0<=xe
      case neg=>
       have y0':decide (0<=xe)=false:=decide_eq_false y0
       have y0n:xe<0:=by omega
       have y0m:decide (xe<0)=true:=decide_eq_true y0n
       have HN:Hid (false=r):=by rw[FM4.o,y0'];rfl
       refine aD (by kernel_rfl) (by kernel_rfl) ?_
       repeat (go_big_quiet_step (fail))
       refine wpQuiet_nil ?_
       intro w3 hE
       obtain⟨E,rfl⟩:=hE
       obtain⟨w3,k3⟩:=E
       have KZ:=btZ KK3 k3
       dsimp only
       clear k3
       go_wp2_with fail
       go_ret
       exact⟨by rw[<-HN.o];first | done | rfl,KZ.o⟩
      by_cases y1:xe<t.exits.length
      case neg=>
       have y0':decide (0<=xe)=true:=decide_eq_true y0
       have y1':decide (xe<(t.exits.length:Int))=false:=decide_eq_false y1
       have HN:Hid (false=r):=by rw[FM4.o,y1',Bool.and_false];rfl
       refine aD (by kernel_rfl) (by kernel_rfl) ?_
       repeat (go_big_quiet_step (fail))
       refine wpQuiet_nil ?_
       intro w3 hE
       obtain⟨E,rfl⟩:=hE
       obtain⟨w3,k3⟩:=E
       have KZ:=btZ KK3 k3
       dsimp only
       clear k3
       go_wp2_with fail
       go_ret
       exact⟨by rw[<-HN.o];first | done | rfl,KZ.o⟩
      obtain⟨k,rfl⟩:=Int.eq_ofNat_of_zero_le y0
      have hk:k<t.exits.length:=by omega
      obtain⟨b,off,y,ys,rfl,hb,hy,hcl,hR,hat⟩:=HX.o.at_ hk
      have HN:Hid (bN (gI f) t.ins y at_=r):=by
       rw[FM4.o,decide_eq_true y0,decide_eq_true y1,Int.toNat_natCast,hy];rfl
      have RX:Hid (∀E:Up wc,E.to.rangeAt b (off+k*4) ys):=λE j v hj=>((KK3.o.trans (E.below.mono KK3.o.size)).cell hb).trans (hat j v hj)
      have LX:Hid ((prog.info? 32).map (·.size)=some ys.length):=by rw[hcl];exact wR
      have CR:Hid (∀E:Up wc,Calls prog 33 #[.agg ⟨cs⟩,.agg ⟨ys⟩,.int .i64 at_] E.to (aK (.bool (bN (gI f) t.ins y at_)) E.to)):=λE=>by
       have kz:=btZ KK3 E.below
       exact u0 cs ys f t y at_ E.to (HC.o.below kz) (hR.keep kz.size (λ_ h=>kz.cell h))
      rw[HN.o] at CR
      have y0':decide (0<=(k:Int))=true:=decide_eq_true y0
      have y1':decide ((k:Int)<(t.exits.length:Int))=true:=decide_eq_true y1
      clear hat hR hy hcl
      refine aD (by kernel_rfl) (by kernel_rfl) ?_
      repeat (first
       | (refine dE 74 _ rfl rfl w.heap.size 0 rfl cs _ RU3.o underlying74 rfl HI.o ?_;go_simp)
       | (refine dE 32 _ rfl rfl b (off+k*4) rfl ys _ RX.o underlying32 rfl LX.o ?_;go_simp)
       | go_big_quiet_step ((go_at_call 33;with_reducible exact Calls.up (CR.o _))))
      refine wpQuiet_nil ?_
      intro E
      obtain⟨w3,k3⟩:=E
      have KZ:=btZ KK3 k3
      dsimp only
      clear k3
      go_wp2_with fail
      go_ret
      exact⟨rfl,KZ.o⟩
end
section
def insAt (ins:List aT) (v:Int):aT:=(ins[v.toNat]?).getD ⟨0,0,0,0,0,0,⟨0,0⟩⟩
end
section
open Go.RowKit
theorem zE:(prog.info? 34).map (·.size)=some 13:=by kernel_rfl
theorem bI.size13 {w:World} {B:Nat} {cs:List Value} {t:aH} (h:bI w B cs t):(prog.info? 34).map (·.size)=some cs.length:=by obtain⟨i,e,d,cb,rfl,-,-,⟨_,_,rfl,-⟩,⟨_,_,rfl,-⟩,-⟩:=h;exact zE
theorem bI.at3 {w:World} {B:Nat} {cs:List Value} {t:aH} (h:bI w B cs t):∃d f,cs[3]? = some (.slice d t.ins.length f)/\aB w B 8 xP (.slice d t.ins.length f) t.ins:=by obtain⟨i,e,g,cb,rfl,hi,-,⟨_,_,rfl,-⟩,⟨_,_,rfl,-⟩,-⟩:=h;obtain⟨d,f,rfl,-⟩:=id hi;exact⟨d,f,rfl,hi⟩
theorem bI.at4 {w:World} {B:Nat} {cs:List Value} {t:aH} (h:bI w B cs t):∃d ne,cs[4]? = some (.slice d t.exits.length ne)/\aB w B 4 (fM w B) (.slice d t.exits.length ne) t.exits:=by obtain⟨i,e,g,cb,rfl,-,f,⟨_,_,rfl,-⟩,⟨_,_,rfl,-⟩,-⟩:=h;obtain⟨d,ne,rfl,-⟩:=id f;exact⟨d,ne,rfl,f⟩
theorem bI.at012 {w:World} {B:Nat} {cs:List Value} {t:aH} (h:bI w B cs t):cs[0]? = some (.int .i64 t.fn)/\cs[1]? = some (.int .i64 t.at_)/\cs[2]? = some (.int .i64 t.loop)/\wfi t.fn/\wfi t.at_/\wfi t.loop:=by obtain⟨i,e,g,cb,rfl,-,-,⟨_,_,rfl,-⟩,⟨_,_,rfl,-⟩,h1,d,f⟩:=h;exact⟨rfl,rfl,rfl,h1,d,f⟩
theorem adD {w W:World} {b o:Nat} {x:aT} (d:jY w b o (bA x)) (hb:b<w.heap.size) (f:Below w.heap.size w W) : W.cell? ⟨b,o,none⟩=some (.int .i64 x.op)/\W.cell? ⟨b,o+1,none⟩=some (.int .i64 x.a)/\W.cell? ⟨b,o+2,none⟩=some (.int .i64 x.b)/\W.cell? ⟨b,o+3,none⟩=some (.int .i64 x.c)/\ W.cell? ⟨b,o+4,none⟩=some (.int .i64 x.n)/\W.cell? ⟨b,o+5,none⟩=some (.int .i64 x.exit)/\W.cell? ⟨b,o+6,none⟩=some (.int .i64 x.k.kind)/\W.cell? ⟨b,o+7,none⟩=some (.int .i64 x.k.n):= ⟨(f.cell hb).trans (d 0 _ rfl),(f.cell hb).trans (d 1 _ rfl),(f.cell hb).trans (d 2 _ rfl),(f.cell hb).trans (d 3 _ rfl),(f.cell hb).trans (d 4 _ rfl),(f.cell hb).trans (d 5 _ rfl),(f.cell hb).trans (d 6 _ rfl),(f.cell hb).trans (d 7 _ rfl)⟩
end
end Go.Proofs.YtijihlcdhppfgaaGreatDoor
