/- A part of the walk. -/
import Derived.Test.YtjaphgpkkfdaaaaGreatDoorZK
import Derived.Deep.DeepCutAuto
set_option maxHeartbeats 16000000
set_option maxRecDepth 100000
set_option linter.all false
namespace Go.Proofs.YtjaphgpkkfdaaaaGreatDoor
open Tryz
section
open Go.RowKit
theorem ac9 (w:World) (A B C D:List Value) (t u v s:TypeId) {W:World} (g:W=(((w.alloc (.cells ⟨A⟩ t)).alloc (.cells ⟨B⟩ u)).alloc (.cells ⟨C⟩ v)).alloc (.cells ⟨D⟩ s)) : aA W w.heap.size A/\aA W (w.heap.size+1) B/\aA W (w.heap.size+1+1) C/\aA W (w.heap.size+1+1+1) D/\Below w.heap.size w W/\W.heap.size=w.heap.size+4:=by
 obtain⟨d,e,f⟩:=jZ w A B t u;subst g;refine⟨(d.old _).old _,(e.old _).old _,?_,?_,(f.alloc (by simp;omega) _).alloc (by simp;omega) _,by simp⟩;·refine aA.old ?_ _;have:=ad5 ((w.alloc (.cells ⟨A⟩ t)).alloc (.cells ⟨B⟩ u)) C v;simpa only [World.size_alloc] using this
 ·have:=ad5 (((w.alloc (.cells ⟨A⟩ t)).alloc (.cells ⟨B⟩ u)).alloc (.cells ⟨C⟩ v)) D s;simpa only [World.size_alloc] using this
theorem rT:(prog.info? 32).map (·.size)=some 4:=by kernel_rfl
theorem dY.at9 {w:World} {B:Nat} {cs:List Value} {f:CFn} {t:aN} (h:dY w B cs f t):∃d ne,cs[9]? = some (.slice d t.exits.length ne)/\aH w B 4 (gF w B) (.slice d t.exits.length ne) t.exits:=by obtain⟨e,g,i,j,l,m,d,ne,p,q,r,s,rfl,-,-,h⟩:=h.cells;exact⟨d,ne,rfl,h⟩
theorem adA (cs:List Value) (f:CFn) (t:aN) (x:bG) (at_:Int) (w:World) (h:dY w w.heap.size cs f t) (hx:uD x) : Calls prog 56 #[.agg ⟨cs⟩,lR (cF x.op),acY x,.int .i64 at_] w (aM (.bool (eY aG (eZ f) t x at_)) w):=by
 obtain⟨r,hr⟩:∃r,eY aG (eZ f) t x at_=r:=⟨_,rfl⟩;rw[hr];have HR:=hI hr;have HC:=hI h;have HI:=hI h.len;have WX:=hI hx;obtain⟨a0,a3,-⟩:=zQ x.op;have HA:=hI (show iU x=[x.a,x.b,x.c].take (cF x.op).asks.toNat from rfl);obtain⟨F,hF⟩:∃F,cF x.op=F:=⟨_,rfl⟩;rw[hF] at a0 a3 HA ⊢;have HF:=hI hF;clear hr hF h;obtain⟨asks,low,high,kf,tells,ex⟩:=F;obtain⟨op,xa,xb,xc,xn,xe,⟨kk,kn⟩⟩:=x;dsimp only at a0 a3 HA;obtain⟨n,rfl⟩:=Int.eq_ofNat_of_zero_le a0;obtain⟨w0,hw0⟩:∃w0,w0=(((w.alloc (.cells ⟨cs⟩ 131)).alloc (.cells #[.int .i64 n,.int .i64 low,.int .i64 high,.bool kf,.bool tells,.int .i64 ex] 133)).alloc (.cells #[.int .i64 op,.int .i64 xa,.int .i64 xb,.int .i64 xc,.int .i64 xn,.int .i64 xe,.int .i64 kk,.int .i64 kn] 92)).alloc (.cells #[.int .i64 xa,.int .i64 xb,.int .i64 xc] 148):=⟨_,rfl⟩;obtain⟨h1,h2,h3,h4,h5,h6⟩:=ac9 _ _ _ _ _ _ _ _ _ hw0;have H1:=hI h1;have H2:=hI h2;have H3:=hI h3;have H4:=hI h4;have K0:=hI h5;have HW:=hI hw0;have RU:Hid (∀E:Up w0,E.to.rangeAt w.heap.size 0 cs):=λE=>(H1.o.on E.below).range;have f0:∀E:Up w0,E.to.cell? ⟨w.heap.size+1,0,none⟩=some (.int .i64 n):=λE=>aC E.below (H2.o 0 _ rfl);clear h1 h2 h3 h4 h5 hw0;go_enter func56,ntmps56;unfold lR acY;dsimp only;go_wp2_with fail;rw[<-HW.o];have a3':(n:Int)<=3:=a3;have SV:Hid (∀W,Below w0.heap.size w0 W->aH W W.heap.size 1 hY (.slice (some ⟨w.heap.size+1+1+1,0,none⟩) ([xa,xb,xc].take n).length 3) ([xa,xb,xc].take n)):=λW kW=>by
  have h7:=H4.o.on kW
  refine⟨_,3,rfl,?_,by decide,λ_=>⟨_,0,rfl,?_,λi y hy=>⟨[.int .i64 y],rfl,⟨rfl,?_⟩,λj v hj=>?_⟩⟩⟩
  ·rw[List.length_take];simp;omega
  ·exact dP (h7 0 _ rfl)
  ·have hm:=List.mem_of_mem_take (lM hy)
   simp only[List.mem_cons,List.not_mem_nil,or_false] at hm
   rcases hm with rfl | rfl | rfl
   ·exact WX.o.2.1
   ·exact WX.o.2.2.1
   ·exact WX.o.2.2.2.1
  ·match j,hj with
   | 0,hj=>
    simp only[List.getElem?_cons_zero,Option.some.injEq] at hj
    subst hj
    refine h7 _ _ ?_
    rw[List.getElem?_take] at hy
    split at hy
    ·match i,hy with
     | 0,hy=>injection hy with hy;subst hy;rfl
     | 1,hy=>injection hy with hy;subst hy;rfl
     | 2,hy=>injection hy with hy;subst hy;rfl
    ·cases hy
 have CV:Hid (∀E:Up w0,Calls prog 103 #[.agg ⟨cs⟩,.slice (some ⟨w.heap.size+1+1+1,0,none⟩) n 3,.int .i64 at_] E.to (aM (.bool (gT t.ins ([xa,xb,xc].take n) at_)) E.to)):=λE=>by
  have hl:([xa,xb,xc].take n).length=n:=by rw[List.length_take];simp;omega
  have:=vJ cs f t _ _ at_ E.to (HC.o.below (K0.o.trans (E.below.mono K0.o.size))) (SV.o _ E.below);rwa [hl] at this
 refine aD (by kernel_rfl) (by kernel_rfl) ?_
 repeat (first
  | (refine aO 131 _ rfl rfl w.heap.size 0 rfl cs _ RU.o underlying131 rfl HI.o ?_;go_simp)
  | go_big_quiet_step ((go_at_call 103;with_reducible exact Calls.up (CV.o _))))
 refine wpQuiet_nil ?_;intro E;obtain⟨w1,k1⟩:=E;have K1:=hI k1;have KK:=btZ K0 k1;obtain⟨q,hq⟩:∃q,gT t.ins ([xa,xb,xc].take n) at_=q:=⟨_,rfl⟩;rw[hq];dsimp only;have HQ:=hI hq;have g0:=aC k1 (H2.o 0 _ rfl);clear k1 hq f0;cases q
 case false=>
  have HN:Hid (false=r):=by rw[<-HR.o];unfold eY;rw[HA.o,Int.toNat_natCast,HQ.o];rfl
  go_wp2_with fail;go_ret;exact⟨by rw[<-HN.o];rfl,KK.o⟩
 have FM:Hid (r=(eO ⟨op,xa,xb,xc,xn,xe,⟨kk,kn⟩⟩ ⟨n,low,high,kf,tells,ex⟩ &&
   !(decide (xn<low) || decide (high<xn) || (op == 1 && decide (f.regs<=xn))) &&
   !((!kf && (⟨kk,kn⟩:Val) != ⟨0,0⟩) || (kf && !aG ⟨kk,kn⟩) || (op == 2 && kk == 5)) &&
   (if ex == 0 || (ex == 1 && xe == -1) then xe == -1
   else decide (0<=xe) && decide (xe<t.exits.length) && (t.exits[xe.toNat]?).any (bR (eZ f) t.ins · at_)))):=by
  rw[<-HR.o]
  unfold eY
  dsimp only
  rw[HA.o,Int.toNat_natCast,HQ.o,HF.o,Bool.true_and]
  exact rfl
 go_wp2_with fail;have a0:=aC K1.o (H3.o 0 _ rfl);have a4:=aC K1.o (H3.o 4 _ rfl);have v0:=aC K1.o (H4.o 0 _ rfl);have v1:=aC K1.o (H4.o 1 _ rfl);have v2:=aC K1.o (H4.o 2 _ rfl);go_loopw [10] (λk wr=>∃jn:Nat,k=.int .i64 jn/\n<=jn/\jn<=3/\Hid (∀j v,n<=j->j<jn->[xa,xb,xc][j]? = some v->eW ⟨op,xa,xb,xc,xn,xe,⟨kk,kn⟩⟩ j v=true)/\wr=w1) (λk _=>3 - (RowKit.intOf k).toNat);case atStart=>exact⟨n,rfl,Nat.le_refl _,by omega,λj v h1 h2=>by omega,rfl⟩
 case round=>
  obtain⟨jn,rfl,h1,h2,HP,rfl⟩:=hrel
  have hj:jn=0\/jn=1\/jn=2\/jn=3:=by omega
  rcases hj with rfl | rfl | rfl | rfl
  ·have hn:n=0:=by omega
   subst hn
   by_cases c:xa = -1
   case neg=>
    have c':(xa != -1)=true:=by simpa using c
    have HN:Hid (false=r):=by
     rw[FM.o]
     have:eO ⟨op,xa,xb,xc,xn,xe,⟨kk,kn⟩⟩ ⟨((0:Nat):Int),low,high,kf,tells,ex⟩=false:=by simp[eO,eW,c]
     rw[this];rfl
    go_wp2_with fail
    go_ret
    exact⟨by rw[<-HN.o];rfl,KK.o⟩
   subst c
   go_wp2_with fail
   go_roundw
   case rel=>exact⟨1,rfl,by omega,by omega,λj v g1 g2 g3=>by
    obtain rfl:j=0:=by omega
    injection g3 with g3;subst g3;rfl,by first | rfl | trivial⟩
   case measure=>simp[RowKit.intOf]
  ·by_cases c:op=19
   ·have SH:Hid (eW ⟨op,xa,xb,xc,xn,xe,⟨kk,kn⟩⟩ 1 xb=decide (0<=xb)):=by simp[eW,c,Hid]
    rw[c] at a0
    by_cases d:0<=xb
    case neg=>
     have d':xb<0:=by omega
     have HN:Hid (false=r):=by
      rw[FM.o]
      have:eO ⟨op,xa,xb,xc,xn,xe,⟨kk,kn⟩⟩ ⟨(n:Int),low,high,kf,tells,ex⟩=false:=by
       unfold eO
       dsimp only
       rw[SH.o,decide_eq_false d,decide_eq_false (by omega:¬(1:Int)<n),Bool.or_false,Bool.and_false,Bool.false_and]
      rw[this];rfl
     go_wp2_with fail
     go_ret
     exact⟨by rw[<-HN.o];rfl,KK.o⟩
    have d':¬xb<0:=by omega
    go_wp2_with fail
    go_roundw
    case rel=>exact⟨2,rfl,by omega,by omega,λj v g1 g2 g3=>by
     rcases Nat.lt_or_ge j 1 with g4 | g4
     ·exact HP.o j v g1 g4 g3
     ·obtain rfl:j=1:=by omega
      injection g3 with g3;subst g3;exact SH.o.trans (decide_eq_true d),by first | rfl | trivial⟩
    case measure=>simp[RowKit.intOf]
   have c':(op == 19)=false:=bF c
   by_cases c9:op=9/\xn=1
   ·have SH:Hid (eW ⟨op,xa,xb,xc,xn,xe,⟨kk,kn⟩⟩ 1 xb=decide (0<=xb)):=by simp[eW,c9.1,c9.2,Hid]
    rw[c9.1] at a0
    rw[c9.2] at a4
    by_cases d:0<=xb
    case neg=>
     have d':xb<0:=by omega
     have HN:Hid (false=r):=by
      rw[FM.o]
      have:eO ⟨op,xa,xb,xc,xn,xe,⟨kk,kn⟩⟩ ⟨(n:Int),low,high,kf,tells,ex⟩=false:=by
       unfold eO
       dsimp only
       rw[SH.o,decide_eq_false d,decide_eq_false (by omega:¬(1:Int)<n),Bool.or_false,Bool.and_false,Bool.false_and]
      rw[this];rfl
     go_wp2_with fail
     go_ret
     exact⟨by rw[<-HN.o];rfl,KK.o⟩
    have d':¬xb<0:=by omega
    go_wp2_with fail
    go_roundw
    case rel=>exact⟨2,rfl,by omega,by omega,λj v g1 g2 g3=>by
     rcases Nat.lt_or_ge j 1 with g4 | g4
     ·exact HP.o j v g1 g4 g3
     ·obtain rfl:j=1:=by omega
      injection g3 with g3;subst g3;exact SH.o.trans (decide_eq_true d),by first | rfl | trivial⟩
    case measure=>simp[RowKit.intOf]
   by_cases o9:op=9
   ·have n1:¬xn=1:=λh=>c9 ⟨o9,h⟩
    have n1':(xn == 1)=false:=bF n1
    have SH:Hid (eW ⟨op,xa,xb,xc,xn,xe,⟨kk,kn⟩⟩ 1 xb=(xb == -1)):=by simp[eW,o9,n1,Hid]
    rw[o9] at a0
    by_cases d:xb = -1
    case neg=>
     have d':(xb != -1)=true:=by simpa using d
     have HN:Hid (false=r):=by
      rw[FM.o]
      have:eO ⟨op,xa,xb,xc,xn,xe,⟨kk,kn⟩⟩ ⟨(n:Int),low,high,kf,tells,ex⟩=false:=by
       unfold eO
       dsimp only
       rw[SH.o,bF d,decide_eq_false (by omega:¬(1:Int)<n),Bool.or_false,Bool.and_false,Bool.false_and]
      rw[this];rfl
     go_wp2_with fail
     go_ret
     exact⟨by rw[<-HN.o];rfl,KK.o⟩
    subst d
    go_wp2_with fail
    go_roundw
    case rel=>exact⟨2,rfl,by omega,by omega,λj v g1 g2 g3=>by
     rcases Nat.lt_or_ge j 1 with g4 | g4
     ·exact HP.o j v g1 g4 g3
     ·obtain rfl:j=1:=by omega
      injection g3 with g3;subst g3;exact SH.o.trans rfl,by first | rfl | trivial⟩
    case measure=>simp[RowKit.intOf]
   ·have o9':(op == 9)=false:=bF o9
    have SH:Hid (eW ⟨op,xa,xb,xc,xn,xe,⟨kk,kn⟩⟩ 1 xb=(xb == -1)):=by simp[eW,o9,c,Hid]
    by_cases d:xb = -1
    case neg=>
     have d':(xb != -1)=true:=by simpa using d
     have HN:Hid (false=r):=by
      rw[FM.o]
      have:eO ⟨op,xa,xb,xc,xn,xe,⟨kk,kn⟩⟩ ⟨(n:Int),low,high,kf,tells,ex⟩=false:=by
       unfold eO
       dsimp only
       rw[SH.o,bF d,decide_eq_false (by omega:¬(1:Int)<n),Bool.or_false,Bool.and_false,Bool.false_and]
      rw[this];rfl
     go_wp2_with fail
     go_ret
     exact⟨by rw[<-HN.o];rfl,KK.o⟩
    subst d
    go_wp2_with fail
    go_roundw
    case rel=>exact⟨2,rfl,by omega,by omega,λj v g1 g2 g3=>by
     rcases Nat.lt_or_ge j 1 with g4 | g4
     ·exact HP.o j v g1 g4 g3
     ·obtain rfl:j=1:=by omega
      injection g3 with g3;subst g3;exact SH.o.trans rfl,by first | rfl | trivial⟩
    case measure=>simp[RowKit.intOf]
  ·by_cases c:xc = -1
   case neg=>
    have c':(xc != -1)=true:=by simpa using c
    have HN:Hid (false=r):=by
     rw[FM.o]
     have:eO ⟨op,xa,xb,xc,xn,xe,⟨kk,kn⟩⟩ ⟨(n:Int),low,high,kf,tells,ex⟩=false:=by
      unfold eO
      dsimp only
      rw[show eW ⟨op,xa,xb,xc,xn,xe,⟨kk,kn⟩⟩ 2 xc=false from bF c,decide_eq_false (by omega:¬(2:Int)<n),Bool.or_false,Bool.and_false]
     rw[this];rfl
    go_wp2_with fail
    go_ret
    exact⟨by rw[<-HN.o];rfl,KK.o⟩
   subst c
   go_wp2_with fail
   go_roundw
   case rel=>exact⟨3,rfl,by omega,by omega,λj v g1 g2 g3=>by
    rcases Nat.lt_or_ge j 2 with g4 | g4
    ·exact HP.o j v g1 g4 g3
    ·obtain rfl:j=2:=by omega
     injection g3 with g3;subst g3;rfl,by first | rfl | trivial⟩
   case measure=>simp[RowKit.intOf]
  ·clear a0 a4 v0 v1 v2
   have SH:Hid (eO ⟨op,xa,xb,xc,xn,xe,⟨kk,kn⟩⟩ ⟨(n:Int),low,high,kf,tells,ex⟩=true):=by
    unfold eO Hid
    dsimp only
    have q:∀(j:Nat) v,j<3->[xa,xb,xc][j]? = some v->(decide ((j:Int)<n) || eW ⟨op,xa,xb,xc,xn,xe,⟨kk,kn⟩⟩ j v)=true:=λj v hj hv=>by
     by_cases c:(j:Int)<n
     ·rw[decide_eq_true c];rfl
     ·rw[HP.o j v (by omega) hj hv,Bool.or_true]
    have q0:=q 0 xa (by omega) rfl
    have q1:=q 1 xb (by omega) rfl
    have q2:=q 2 xc (by omega) rfl
    rw[show((0:Nat):Int)=0 from rfl] at q0
    rw[show((1:Nat):Int)=1 from rfl] at q1
    rw[show((2:Nat):Int)=2 from rfl] at q2
    rw[q0,q1,q2];rfl
   obtain⟨bad1,hb1⟩:∃b,(decide (xn<low) || decide (high<xn) || (op == 1 && decide (f.regs<=xn)))=b:=⟨_,rfl⟩
   have FM1:Hid (r=(!bad1 && !((!kf && (⟨kk,kn⟩:Val) != ⟨0,0⟩) || (kf && !aG ⟨kk,kn⟩) || (op == 2 && kk == 5)) &&
     (if ex == 0 || (ex == 1 && xe == -1) then xe == -1
     else decide (0<=xe) && decide (xe<t.exits.length) && (t.exits[xe.toNat]?).any (bR (eZ f) t.ins · at_)))):=by
    rw[FM.o,SH.o,hb1,Bool.true_and];exact rfl
   have HB1:=hI hb1
   clear hb1 HP
   go_upto_region 10 with fail
   go_cut [66] (λc wx=>c=.bool bad1/\wx=wr)
   case first=>
    have a0:=aC K1.o (H3.o 0 _ rfl)
    have a4:=aC K1.o (H3.o 4 _ rfl)
    have b1:=aC K1.o (H2.o 1 _ rfl)
    have b2:=aC K1.o (H2.o 2 _ rfl)
    have c1:=aC K1.o (H1.o 1 _ HC.o.at1.1)
    by_cases d1:xn<low
    ·have e:=HB1.o
     rw[decide_eq_true d1] at e
     have E:=hI e
     clear e
     go_wp2_with fail
     go_meet
     case rel=>exact⟨by rw[<-E.o];first | done | rfl,rfl⟩
    by_cases d2:high<xn
    ·have e:=HB1.o
     rw[decide_eq_true d2,Bool.or_true] at e
     have E:=hI e
     clear e
     go_wp2_with fail
     go_meet
     case rel=>exact⟨by rw[<-E.o];first | done | rfl,rfl⟩
    by_cases d3:op=1
    ·by_cases d4:f.regs<=xn
     ·have e:=HB1.o
      rw[decide_eq_true d4,d3,show((1:Int) == 1)=true from rfl,Bool.and_true,Bool.or_true] at e
      have E:=hI e
      rw[d3] at a0
      clear e d3
      go_wp2_with fail
      go_meet
      case rel=>exact⟨by rw[<-E.o];first | done | rfl,rfl⟩
     ·have e:=HB1.o
      rw[decide_eq_false d1,decide_eq_false d2,decide_eq_false d4,Bool.and_false] at e
      have E:=hI e
      rw[d3] at a0
      have d4':xn<f.regs:=by omega
      clear e d3
      go_wp2_with fail
      go_meet
      case rel=>exact⟨by rw[<-E.o];first | done | rfl,rfl⟩
    ·have e:=HB1.o
     rw[decide_eq_false d1,decide_eq_false d2,bF d3] at e
     have E:=hI e
     have d3':(op == 1)=false:=bF d3
     clear e
     go_wp2_with fail
     go_meet
     case rel=>exact⟨by rw[<-E.o];first | done | rfl,rfl⟩
   case rest=>
    obtain⟨rfl,hwc⟩:=hcut
    have hwc:=hwc.symm
    subst hwc
    cases bad1
    case true=>
     have HN:Hid (false=r):=by rw[FM1.o];rfl
     go_wp2_with fail
     go_ret
     exact⟨by rw[<-HN.o];rfl,KK.o⟩
    obtain⟨bad2,hb2⟩:∃b,((!kf && (⟨kk,kn⟩:Val) != ⟨0,0⟩) || (kf && !aG ⟨kk,kn⟩) || (op == 2 && kk == 5))=b:=⟨_,rfl⟩
    have FM2:Hid (r=(!bad2 && (if ex == 0 || (ex == 1 && xe == -1) then xe == -1
     else decide (0<=xe) && decide (xe<t.exits.length) && (t.exits[xe.toNat]?).any (bR (eZ f) t.ins · at_)))):=by
     rw[FM1.o,hb2];exact rfl
    have HB2:=hI hb2
    clear hb2
    go_upto_region 12 with fail
    go_cut [92] (λc wx=>c=.bool bad2/\Hid (Below wr.heap.size wr wx))
    case first=>
     have a0:=aC K1.o (H3.o 0 _ rfl)
     have a6:=aC K1.o (H3.o 6 _ rfl)
     have a7:=aC K1.o (H3.o 7 _ rfl)
     have b3:=aC K1.o (H2.o 3 _ rfl)
     cases kf
     case false=>
      by_cases z1:kk=0
      ·by_cases z2:kn=0
       ·subst z1
        subst z2
        have o2:¬op=2:=λh=>by
         have:=HF.o
         rw[h] at this
         injection this with _ _ _ this
         cases this
        have o2':(op == 2)=false:=bF o2
        have e:=HB2.o
        rw[o2'] at e
        have E:=hI e
        clear e
        go_wp2_with fail
        go_meet
        case rel=>exact⟨by rw[<-E.o];first | done | rfl,Below.refl _ _⟩
       ·have e:=HB2.o
        have nz:((⟨kk,kn⟩:Val) != ⟨0,0⟩)=true:=by simp[z2]
        rw[nz] at e
        have E:=hI e
        have z2':(kn == 0)=false:=bF z2
        subst z1
        clear e nz
        go_wp2_with fail
        go_meet
        case rel=>exact⟨by rw[<-E.o];first | done | rfl,Below.refl _ _⟩
      ·have e:=HB2.o
       have nz:((⟨kk,kn⟩:Val) != ⟨0,0⟩)=true:=by simp[z1]
       rw[nz] at e
       have E:=hI e
       have z1':(kk == 0)=false:=bF z1
       clear e nz
       go_wp2_with fail
       go_meet
       case rel=>exact⟨by rw[<-E.o];first | done | rfl,Below.refl _ _⟩
     case true=>
      have RC:=hI (qO ⟨kk,kn⟩ wr)
      obtain⟨rv,hrv⟩:∃b,aG ⟨kk,kn⟩=b:=⟨_,rfl⟩
      have e:=HB2.o
      rw[hrv] at RC e
      have E:=hI e
      clear e hrv
      go_wp2_with fail
      refine RC.o.mono ?_
      rintro e w2 ⟨rfl,k2⟩
      have K2:=hI k2
      have c0:=aC k2 a0
      have c6:=aC k2 a6
      clear k2 a0 a6 a7 b3
      cases rv
      case false=>
       go_wp2_with fail
       go_meet
       case rel=>exact⟨by rw[<-E.o];first | done | rfl,K2.o⟩
      by_cases o2:op=2
      ·subst o2
       by_cases k5:kk=5
       ·subst k5
        go_wp2_with fail
        go_meet
        case rel=>exact⟨by rw[<-E.o];first | done | rfl,K2.o⟩
       ·have e:=E.o
        have k5':(kk == 5)=false:=bF k5
        rw[k5'] at e
        have E:=hI e
        clear e
        go_wp2_with fail
        go_meet
        case rel=>exact⟨by rw[<-E.o];first | done | rfl,K2.o⟩
      ·have o2':(op == 2)=false:=bF o2
       have e:=E.o
       rw[o2'] at e
       have E:=hI e
       clear e
       go_wp2_with fail
       go_meet
       case rel=>exact⟨by rw[<-E.o];first | done | rfl,K2.o⟩
    case rest=>
     rename_i wc
     obtain⟨rfl,kx⟩:=hcut
     have K3:=btZ K1 kx.o
     have KK3:=btZ KK kx.o
     cases bad2
     case true=>
      have HN:Hid (false=r):=by rw[FM2.o];rfl
      go_wp2_with fail
      go_ret
      exact⟨by rw[<-HN.o];first | done | rfl,KK3.o⟩
     obtain⟨bad3,hb3⟩:∃b,(ex == 0 || (ex == 1 && xe == -1))=b:=⟨_,rfl⟩
     have FM3:Hid (r=(if bad3=true then xe == -1 else decide (0<=xe) && decide (xe<t.exits.length) && (t.exits[xe.toNat]?).any (bR (eZ f) t.ins · at_))):=by
      rw[FM2.o,hb3];exact rfl
     have HB3:=hI hb3
     clear hb3
     go_upto_region 14 with fail
     go_cut [123] (λc wx=>c=.bool bad3/\wx=wc)
     case first=>
      have b5:=aC K3.o (H2.o 5 _ rfl)
      have a5:=aC K3.o (H3.o 5 _ rfl)
      have e:=HB3.o
      by_cases x0:ex=0
      ·rw[x0,show((0:Int) == 0)=true from rfl,Bool.true_or] at e
       have E:=hI e
       rw[x0] at b5
       clear e x0
       go_wp2_with fail
       go_meet
       case rel=>exact⟨by rw[<-E.o];first | done | rfl,rfl⟩
      have x0':(ex == 0)=false:=bF x0
      rw[x0',Bool.false_or] at e
      by_cases x1:ex=1
      ·rw[x1,show((1:Int) == 1)=true from rfl,Bool.true_and] at e
       rw[x1] at b5
       clear x0 x0' x1
       by_cases x2:xe = -1
       ·rw[x2] at a5 e
        have E:=hI e
        clear e x2
        go_wp2_with fail
        go_meet
        case rel=>exact⟨by rw[<-E.o];first | done | rfl,rfl⟩
       ·have x2':(xe == -1)=false:=bF x2
        rw[x2'] at e
        have E:=hI e
        clear e
        go_wp2_with fail
        go_meet
        case rel=>exact⟨by rw[<-E.o];first | done | rfl,rfl⟩
      ·have x1':(ex == 1)=false:=bF x1
       rw[x1',Bool.false_and] at e
       have E:=hI e
       clear e
       go_wp2_with fail
       go_meet
       case rel=>exact⟨by rw[<-E.o];first | done | rfl,rfl⟩
     case rest=>
      obtain⟨rfl,hwd⟩:=hcut
      have hwd:=hwd.symm
      subst hwd
      have a5:=aC K3.o (H3.o 5 _ rfl)
      cases bad3
      case true=>
       have e:=FM3.o
       rw[if_pos rfl] at e
       by_cases x2:xe = -1
       ·rw[x2] at a5 e
        have E:=hI e
        clear e x2
        go_wp2_with fail
        go_ret
        exact⟨by rw[E.o];first | done | rfl,KK3.o⟩
       ·have x2':(xe == -1)=false:=bF x2
        rw[x2'] at e
        have E:=hI e
        clear e
        go_wp2_with fail
        go_ret
        exact⟨by rw[E.o];first | done | rfl,KK3.o⟩
      have FM4:Hid (r=(decide (0<=xe) && decide (xe<t.exits.length) && (t.exits[xe.toNat]?).any (bR (eZ f) t.ins · at_))):=by
       rw[FM3.o,if_neg (by simp)];exact rfl
      clear a5
      obtain⟨Ae,ne,p9,qx⟩:=HC.o.at9
      have lx:=aP qx
      have HX:=hI qx
      clear qx
      have RU3:Hid (∀E:Up wc,E.to.rangeAt w.heap.size 0 cs):=λE=>(H1.o.on (K3.o.trans (E.below.mono K3.o.size))).range
      have f5:∀E:Up wc,E.to.cell? ⟨w.heap.size+1+1,5,none⟩=some (.int .i64 xe):=λE=>zP K3.o E (H3.o 5 _ rfl)
      have f9:∀E:Up wc,E.to.cell? ⟨w.heap.size,9,none⟩=some (.slice Ae t.exits.length ne):=λE=>zP K3.o E (H1.o 9 _ p9)
      go_wp2_with fail
      by_cases y0:0<=xe
      case neg=>
       have y0':decide (0<=xe)=false:=decide_eq_false y0
       have y0n:xe<0:=by omega
       have y0m:decide (xe<0)=true:=decide_eq_true y0n
       have HN:Hid (false=r):=by rw[FM4.o,y0'];rfl
       refine aD (by kernel_rfl) (by kernel_rfl) ?_
       repeat (go_big_quiet_step (fail))
       refine wpQuiet_nil ?_
       intro w3 hE
       obtain⟨E,rfl⟩:=hE
       obtain⟨w3,k3⟩:=E
       have KZ:=btZ KK3 k3
       dsimp only
       clear k3
       go_wp2_with fail
       go_ret
       exact⟨by rw[<-HN.o];first | done | rfl,KZ.o⟩
      by_cases y1:xe<t.exits.length
      case neg=>
       have y0':decide (0<=xe)=true:=decide_eq_true y0
       have y1':decide (xe<(t.exits.length:Int))=false:=decide_eq_false y1
       have HN:Hid (false=r):=by rw[FM4.o,y1',Bool.and_false];rfl
       refine aD (by kernel_rfl) (by kernel_rfl) ?_
       repeat (go_big_quiet_step (fail))
       refine wpQuiet_nil ?_
       intro w3 hE
       obtain⟨E,rfl⟩:=hE
       obtain⟨w3,k3⟩:=E
       have KZ:=btZ KK3 k3
       dsimp only
       clear k3
       go_wp2_with fail
       go_ret
       exact⟨by rw[<-HN.o];first | done | rfl,KZ.o⟩
      obtain⟨k,rfl⟩:=Int.eq_ofNat_of_zero_le y0
      have hk:k<t.exits.length:=by omega
      obtain⟨b,off,y,ys,rfl,hb,hy,hcl,hR,hat⟩:=HX.o.at_ hk
      have HN:Hid (bR (eZ f) t.ins y at_=r):=by
       rw[FM4.o,decide_eq_true y0,decide_eq_true y1,Int.toNat_natCast,hy];rfl
      have RX:Hid (∀E:Up wc,E.to.rangeAt b (off+k*4) ys):=λE j v hj=>((KK3.o.trans (E.below.mono KK3.o.size)).cell hb).trans (hat j v hj)
      have LX:Hid ((prog.info? 32).map (·.size)=some ys.length):=by rw[hcl];exact rT
      have CR:Hid (∀E:Up wc,Calls prog 58 #[.agg ⟨cs⟩,.agg ⟨ys⟩,.int .i64 at_] E.to (aM (.bool (bR (eZ f) t.ins y at_)) E.to)):=λE=>by
       have kz:=btZ KK3 E.below
       exact qN cs ys f t y at_ E.to (HC.o.below kz) (hR.keep kz.size (λ_ h=>kz.cell h))
      rw[HN.o] at CR
      have y0':decide (0<=(k:Int))=true:=decide_eq_true y0
      have y1':decide ((k:Int)<(t.exits.length:Int))=true:=decide_eq_true y1
      clear hat hR hy hcl
      refine aD (by kernel_rfl) (by kernel_rfl) ?_
      repeat (first
       | (refine aO 131 _ rfl rfl w.heap.size 0 rfl cs _ RU3.o underlying131 rfl HI.o ?_;go_simp)
       | (refine aO 32 _ rfl rfl b (off+k*4) rfl ys _ RX.o underlying32 rfl LX.o ?_;go_simp)
       | go_big_quiet_step ((go_at_call 58;with_reducible exact Calls.up (CR.o _))))
      refine wpQuiet_nil ?_
      intro E
      obtain⟨w3,k3⟩:=E
      have KZ:=btZ KK3 k3
      dsimp only
      clear k3
      go_wp2_with fail
      go_ret
      exact⟨rfl,KZ.o⟩
end
section
def mG (K:Int->Int) (x:bG):Int:=
 if x.op=2 then x.k.kind
 else if x.op=15 then 2
 else if x.op=16 then 5
 else if x.op=18 then 5
 else if x.op=7\/x.op=8 then
  if(8<=x.n/\x.n<=10/\x.op=7)\/(x.n=11/\x.op=8) then 1
  else if K x.a=2\/K x.a=3 then K x.a else -1
 else -1
def iZ (v:Int):List bG->Int
 | []=>-1
 | x::l=>if x.a≠v then iZ v l else if x.op=4 then x.n else if x.op=6 then x.k.kind else if x.op=9 then 5 else iZ v l
def insAt (ins:List bG) (v:Int):bG:=(ins[v.toNat]?).getD ⟨0,0,0,0,0,0,⟨0,0⟩⟩
def j8 (ins:List bG):Nat->Int->Int->Int
 | 0,_,_=>-1
 | n+1,v,at_=>
  if v<0\/at_<=v\/(ins.length:Int)<at_\/iC (nQ ins v)=false then -1
  else
   let k:=mG (j8 ins n · v) (insAt ins v)
   if 0<=k then k else iZ v ((ins.take at_.toNat).drop (v.toNat+1))
def hZ (ins:List bG) (v at_:Int):Int:=j8 ins (v.toNat+1) v at_
theorem rI {K L:Int->Int} {x:bG} (h:K x.a=L x.a):mG K x=mG L x:=by unfold mG;rw[h]
theorem mR {ins:List bG} {n:Nat} {v at_:Int} (h:v<0):j8 ins n v at_ = -1:=by
 cases n with
 | zero=>rfl
 | succ n=>unfold j8;rw[if_pos (.inl h)]
theorem lC {ins:List bG} {n:Nat} {v at_:Int} (h:at_<=v):j8 ins n v at_ = -1:=by
 cases n with
 | zero=>rfl
 | succ n=>unfold j8;rw[if_pos (.inr (.inl h))]
theorem rL {ins:List bG} : ∀(n m:Nat) (v at_:Int),v<n->v<m->j8 ins n v at_=j8 ins m v at_
 | 0,m,v,at_,h1,_=>by rw[mR (by omega),mR (by omega)]
 | n+1,0,v,at_,_,h2=>by rw[mR (by omega),mR (by omega)]
 | n+1,m+1,v,at_,h1,h2=>by
  unfold j8
  have e:mG (j8 ins n · v) (insAt ins v)=mG (j8 ins m · v) (insAt ins v):=by
   refine rI ?_
   rcases Int.lt_or_le (insAt ins v).a v with h | h
   ·exact rL n m _ _ (by omega) (by omega)
   ·rw[lC h,lC h]
  rw[e]
theorem acR {ins:List bG} {n:Nat} {v at_:Int} (h:v<n):j8 ins n v at_=hZ ins v at_:=rL _ _ _ _ h (by omega)
theorem rK (ins:List bG) (v at_:Int):hZ ins v at_ = if v<0\/at_<=v\/(ins.length:Int)<at_\/iC (nQ ins v)=false then -1 else if 0<=mG (hZ ins · v) (insAt ins v) then mG (hZ ins · v) (insAt ins v) else iZ v ((ins.take at_.toNat).drop (v.toNat+1)):=by
 conv=>lhs;unfold hZ j8
 by_cases d:v<0;·rw[if_pos (.inl d),if_pos (.inl d)]
 have e:mG (j8 ins v.toNat · v) (insAt ins v)=mG (hZ ins · v) (insAt ins v):=by
  refine rI ?_;rcases Int.lt_or_le (insAt ins v).a v with h | h;·exact acR (by omega)
  ·rw[lC h];unfold hZ;rw[lC h]
 dsimp only;rw[e]
end
section
open Go.RowKit
theorem tP:(prog.info? 34).map (·.size)=some 13:=by kernel_rfl
theorem cT.size13 {w:World} {B:Nat} {cs:List Value} {t:aN} (h:cT w B cs t):(prog.info? 34).map (·.size)=some cs.length:=by obtain⟨i,e,d,cb,rfl,-,-,⟨_,_,rfl,-⟩,⟨_,_,rfl,-⟩,-⟩:=h;exact tP
theorem cT.at3 {w:World} {B:Nat} {cs:List Value} {t:aN} (h:cT w B cs t):∃d f,cs[3]? = some (.slice d t.ins.length f)/\aH w B 8 wR (.slice d t.ins.length f) t.ins:=by obtain⟨i,e,g,cb,rfl,hi,-,⟨_,_,rfl,-⟩,⟨_,_,rfl,-⟩,-⟩:=h;obtain⟨d,f,rfl,-⟩:=id hi;exact⟨d,f,rfl,hi⟩
theorem cT.at4 {w:World} {B:Nat} {cs:List Value} {t:aN} (h:cT w B cs t):∃d ne,cs[4]? = some (.slice d t.exits.length ne)/\aH w B 4 (gF w B) (.slice d t.exits.length ne) t.exits:=by obtain⟨i,e,g,cb,rfl,-,f,⟨_,_,rfl,-⟩,⟨_,_,rfl,-⟩,-⟩:=h;obtain⟨d,ne,rfl,-⟩:=id f;exact⟨d,ne,rfl,f⟩
theorem cT.at012 {w:World} {B:Nat} {cs:List Value} {t:aN} (h:cT w B cs t):cs[0]? = some (.int .i64 t.fn)/\cs[1]? = some (.int .i64 t.at_)/\cs[2]? = some (.int .i64 t.loop)/\wfi t.fn/\wfi t.at_/\wfi t.loop:=by obtain⟨i,e,j,cb,rfl,-,-,⟨_,_,rfl,-⟩,⟨_,_,rfl,-⟩,d,f,g⟩:=h;exact⟨rfl,rfl,rfl,d,f,g⟩
theorem insAt_some {ins:List bG} {k:Nat} {x:bG} (h:ins[k]? = some x):insAt ins k=x/\nQ ins k=x.op:=by unfold insAt nQ;rw[Int.toNat_natCast,h];exact⟨rfl,rfl⟩
theorem acX {w W:World} {b o:Nat} {x:bG} (d:hJ w b o (jS x)) (hb:b<w.heap.size) (e:Below w.heap.size w W) : W.cell? ⟨b,o,none⟩=some (.int .i64 x.op)/\W.cell? ⟨b,o+1,none⟩=some (.int .i64 x.a)/\W.cell? ⟨b,o+2,none⟩=some (.int .i64 x.b)/\W.cell? ⟨b,o+3,none⟩=some (.int .i64 x.c)/\ W.cell? ⟨b,o+4,none⟩=some (.int .i64 x.n)/\W.cell? ⟨b,o+5,none⟩=some (.int .i64 x.exit)/\W.cell? ⟨b,o+6,none⟩=some (.int .i64 x.k.kind)/\W.cell? ⟨b,o+7,none⟩=some (.int .i64 x.k.n):= ⟨(e.cell hb).trans (d 0 _ rfl),(e.cell hb).trans (d 1 _ rfl),(e.cell hb).trans (d 2 _ rfl),(e.cell hb).trans (d 3 _ rfl),(e.cell hb).trans (d 4 _ rfl),(e.cell hb).trans (d 5 _ rfl),(e.cell hb).trans (d 6 _ rfl),(e.cell hb).trans (d 7 _ rfl)⟩
theorem own_c (p:List Value) (t:aN) (k:Nat) (x:bG) (w:World) (h:cT w w.heap.size p t) (Z:t.ins[k]? = some x) (hk:∀w1,Below w.heap.size w w1->Calls prog 25 #[.agg ⟨p⟩,.int .i64 x.a,.int .i64 k] w1 (aM (.int .i64 (hZ t.ins x.a k)) w1)) : Calls prog 52 #[.agg ⟨p⟩,.int .i64 k] w (aM (.int .i64 (mG (hZ t.ins · k) x)) w):=by
 obtain⟨r,d⟩:∃r,mG (hZ t.ins · k) x=r:=⟨_,rfl⟩;rw[d];unfold mG at d;dsimp only at d;have H:=hI h.size13;obtain⟨Ai,ni,p3,q⟩:=h.at3;have ll:=aP q;have a2:k<t.ins.length:=(lE Z).1;obtain⟨b,c8,y,rfl,hb,P,wy,O⟩:=rN q a2;rw[Z] at P;obtain rfl:x=y:=by injection P
 have c3:(k:Int)<t.ins.length:=by omega
 obtain⟨op,L,R,S,g,V,⟨W,X⟩⟩:=x;have v:Hid (Below w.heap.size w ((w.alloc (.cells ⟨p⟩ 34)).alloc (.cells #[.int .i64 op,.int .i64 L,.int .i64 R,.int .i64 S,.int .i64 g,.int .i64 V,.int .i64 W,.int .i64 X] 92))):=bE w _ _;have I:Hid (aA ((w.alloc (.cells ⟨p⟩ 34)).alloc (.cells #[.int .i64 op,.int .i64 L,.int .i64 R,.int .i64 S,.int .i64 g,.int .i64 V,.int .i64 W,.int .i64 X] 92)) w.heap.size p):=(jZ w p _ _ _).1;obtain⟨g0,g1,g2,g3,g4,g5,g6,g7⟩:=acX O hb (aB w (.cells ⟨p⟩ 34));dsimp only at g0 g1 g2 g3 g4 g5 g6 g7 d;obtain⟨z,Y⟩:∃z,hZ t.ins L k=z:=⟨_,rfl⟩;simp only[Y] at d;have J:Hid (Calls prog 25 #[.agg ⟨p⟩,.int .i64 L,.int .i64 k] ((w.alloc (.cells ⟨p⟩ 34)).alloc (.cells #[.int .i64 op,.int .i64 L,.int .i64 R,.int .i64 S,.int .i64 g,.int .i64 V,.int .i64 W,.int .i64 X] 92)) (λe w1=>e=.returned (.int .i64 z)/\Below w.heap.size w w1)):=(hk _ v.o).mono λe w1 ⟨h1,h2⟩=>⟨by rw[h1,<-Y],v.o.trans (h2.mono v.o.size)⟩;clear h q O Z P hk Y;by_cases N:op=2;·rw[if_pos N] at d;subst N;have f:=hI d;clear d;go_enter func52,ntmps52;go_wp2_with fail;go_ret;exact⟨by rw[<-f.o];rfl,v.o⟩
 rw[if_neg N] at d;by_cases E:op=15;·rw[if_pos E] at d;subst E;have f:=hI d;clear d;go_enter func52,ntmps52;go_wp2_with fail;go_ret;exact⟨by rw[<-f.o];rfl,v.o⟩
 rw[if_neg E] at d;by_cases F:op=16;·rw[if_pos F] at d;subst F;have f:=hI d;clear d;go_enter func52,ntmps52;go_wp2_with fail;go_ret;exact⟨by rw[<-f.o];rfl,v.o⟩
 rw[if_neg F] at d;by_cases G:op=18;·rw[if_pos G] at d;subst G;have f:=hI d;clear d;go_enter func52,ntmps52;go_wp2_with fail;go_ret;exact⟨by rw[<-f.o];rfl,v.o⟩
 rw[if_neg G] at d;by_cases o7:op=7
 ·rw[if_pos (by omega)] at d;have K:((8<=g/\g<=10)\/¬(8<=g/\g<=10)):=Classical.em _;rcases K with hc | hc;·rw[if_pos (by omega)] at d;subst o7;obtain⟨c1,c2⟩:=hc;have f:=hI d;clear d;go_enter func52,ntmps52;go_wp2_with fail;go_ret;exact⟨by rw[<-f.o];rfl,v.o⟩
  ·rw[if_neg (by omega)] at d;subst o7;have hs:(¬ 8<=g/\g<=10/\¬g=11)\/(8<=g/\¬g<=10/\g=11)\/(8<=g/\¬g<=10/\¬g=11):=(by omega);have s:g=11\/(g == 11)=false:=by
    by_cases h:g=11;·exact .inl h
    ·exact .inr (bF h)
   clear hc;rcases hs with hs | hs
   ·obtain⟨b1,M,u⟩:=hs;clear s;have D:(g == 11)=false:=bF u;go_enter func52,ntmps52;go_wp2_with (refine wpList_load_mid rfl 34 _ rfl w.heap.size 0 rfl p _ I.o.range underlying34 rfl H.o ?_);refine J.o.mono ?_;rintro e w1 ⟨rfl,j⟩;have i:=hI j;clear j;by_cases l:z=2;·subst l;have f:=hI d;clear d;go_wp2_with fail;go_ret;exact⟨by rw[<-f.o];rfl,i.o⟩
    by_cases m:z=3;·subst m;have f:=hI d;clear d;go_wp2_with fail;go_ret;exact⟨by rw[<-f.o];rfl,i.o⟩
    rw[if_neg (by omega)] at d;have A:(z == 2)=false:=bF l;have C:(z == 3)=false:=bF m;have f:=hI d;clear d;go_wp2_with fail;go_ret;exact⟨by rw[<-f.o];rfl,i.o⟩
   rcases hs with hs | hs
   ·obtain⟨b1,M,u⟩:=hs;clear s;subst u;go_enter func52,ntmps52;go_wp2_with (refine wpList_load_mid rfl 34 _ rfl w.heap.size 0 rfl p _ I.o.range underlying34 rfl H.o ?_);refine J.o.mono ?_;rintro e w1 ⟨rfl,j⟩;have i:=hI j;clear j;by_cases l:z=2;·subst l;have f:=hI d;clear d;go_wp2_with fail;go_ret;exact⟨by rw[<-f.o];rfl,i.o⟩
    by_cases m:z=3;·subst m;have f:=hI d;clear d;go_wp2_with fail;go_ret;exact⟨by rw[<-f.o];rfl,i.o⟩
    rw[if_neg (by omega)] at d;have A:(z == 2)=false:=bF l;have C:(z == 3)=false:=bF m;have f:=hI d;clear d;go_wp2_with fail;go_ret;exact⟨by rw[<-f.o];rfl,i.o⟩
   obtain⟨b1,M,u⟩:=hs;clear s;have D:(g == 11)=false:=bF u;go_enter func52,ntmps52;go_wp2_with (refine wpList_load_mid rfl 34 _ rfl w.heap.size 0 rfl p _ I.o.range underlying34 rfl H.o ?_);refine J.o.mono ?_;rintro e w1 ⟨rfl,j⟩;have i:=hI j;clear j;by_cases l:z=2;·subst l;have f:=hI d;clear d;go_wp2_with fail;go_ret;exact⟨by rw[<-f.o];rfl,i.o⟩
   by_cases m:z=3;·subst m;have f:=hI d;clear d;go_wp2_with fail;go_ret;exact⟨by rw[<-f.o];rfl,i.o⟩
   rw[if_neg (by omega)] at d;have A:(z == 2)=false:=bF l;have C:(z == 3)=false:=bF m;have f:=hI d;clear d;go_wp2_with fail;go_ret;exact⟨by rw[<-f.o];rfl,i.o⟩
 by_cases o8:op=8
 ·rw[if_pos (by omega)] at d;have K:((g=11)\/¬(g=11)):=Classical.em _;rcases K with hc | hc;·rw[if_pos (by omega)] at d;subst o8;subst hc;have f:=hI d;clear d;go_enter func52,ntmps52;go_wp2_with fail;go_ret;exact⟨by rw[<-f.o];rfl,v.o⟩
  ·rw[if_neg (by omega)] at d;subst o8;have hs:(¬ 8<=g/\g<=10/\¬g=11)\/(8<=g/\g<=10/\¬g=11)\/(8<=g/\¬g<=10/\¬g=11):=(by omega);have s:g=11\/(g == 11)=false:=by
    by_cases h:g=11;·exact .inl h
    ·exact .inr (bF h)
   clear hc;rcases hs with hs | hs
   ·obtain⟨b1,M,u⟩:=hs;clear s;have D:(g == 11)=false:=bF u;go_enter func52,ntmps52;go_wp2_with (refine wpList_load_mid rfl 34 _ rfl w.heap.size 0 rfl p _ I.o.range underlying34 rfl H.o ?_);refine J.o.mono ?_;rintro e w1 ⟨rfl,j⟩;have i:=hI j;clear j;by_cases l:z=2;·subst l;have f:=hI d;clear d;go_wp2_with fail;go_ret;exact⟨by rw[<-f.o];rfl,i.o⟩
    by_cases m:z=3;·subst m;have f:=hI d;clear d;go_wp2_with fail;go_ret;exact⟨by rw[<-f.o];rfl,i.o⟩
    rw[if_neg (by omega)] at d;have A:(z == 2)=false:=bF l;have C:(z == 3)=false:=bF m;have f:=hI d;clear d;go_wp2_with fail;go_ret;exact⟨by rw[<-f.o];rfl,i.o⟩
   rcases hs with hs | hs
   ·obtain⟨b1,M,u⟩:=hs;clear s;have D:(g == 11)=false:=bF u;go_enter func52,ntmps52;go_wp2_with (refine wpList_load_mid rfl 34 _ rfl w.heap.size 0 rfl p _ I.o.range underlying34 rfl H.o ?_);refine J.o.mono ?_;rintro e w1 ⟨rfl,j⟩;have i:=hI j;clear j;by_cases l:z=2;·subst l;have f:=hI d;clear d;go_wp2_with fail;go_ret;exact⟨by rw[<-f.o];rfl,i.o⟩
    by_cases m:z=3;·subst m;have f:=hI d;clear d;go_wp2_with fail;go_ret;exact⟨by rw[<-f.o];rfl,i.o⟩
    rw[if_neg (by omega)] at d;have A:(z == 2)=false:=bF l;have C:(z == 3)=false:=bF m;have f:=hI d;clear d;go_wp2_with fail;go_ret;exact⟨by rw[<-f.o];rfl,i.o⟩
   obtain⟨b1,M,u⟩:=hs;clear s;have D:(g == 11)=false:=bF u;go_enter func52,ntmps52;go_wp2_with (refine wpList_load_mid rfl 34 _ rfl w.heap.size 0 rfl p _ I.o.range underlying34 rfl H.o ?_);refine J.o.mono ?_;rintro e w1 ⟨rfl,j⟩;have i:=hI j;clear j;by_cases l:z=2;·subst l;have f:=hI d;clear d;go_wp2_with fail;go_ret;exact⟨by rw[<-f.o];rfl,i.o⟩
   by_cases m:z=3;·subst m;have f:=hI d;clear d;go_wp2_with fail;go_ret;exact⟨by rw[<-f.o];rfl,i.o⟩
   rw[if_neg (by omega)] at d;have A:(z == 2)=false:=bF l;have C:(z == 3)=false:=bF m;have f:=hI d;clear d;go_wp2_with fail;go_ret;exact⟨by rw[<-f.o];rfl,i.o⟩
 rw[if_neg (by omega)] at d;have m2:(op == 2)=false:=bF N;have c5:(op == 15)=false:=bF E;have c6:(op == 16)=false:=bF F;have c7:(op == 18)=false:=bF G;have m7:(op == 7)=false:=bF o7;have m8:(op == 8)=false:=bF o8;have f:=hI d;clear d;go_enter func52,ntmps52;go_wp2_with fail;go_ret;exact⟨by rw[<-f.o];rfl,v.o⟩
end
end Go.Proofs.YtjaphgpkkfdaaaaGreatDoor
