/- Part of the walk of the given code: contracts of the functions that irun.Run reaches, and plain laws on what it reckons. -/
import Derived.Test.YtjaphgpkkfdaaaaGreatDoorZK
import Derived.Test.YtjaphgpkkfdaaaaGreatDoorZA
import Derived.Deep.DeepCutAuto
import Derived.Test.YtjaphgpkkfdaaaaGreatDoorZG
set_option maxHeartbeats 16000000
set_option maxRecDepth 100000
set_option linter.all false
namespace Go.Proofs.YtjaphgpkkfdaaaaGreatDoor
section
open Go.RowKit
theorem ac9 (w:World) (A B C D:List Value) (t u v s:TypeId) {W:World} (hW:W=(((w.alloc (.cells ⟨A⟩ t)).alloc (.cells ⟨B⟩ u)).alloc (.cells ⟨C⟩ v)).alloc (.cells ⟨D⟩ s)) :
  aA W w.heap.size A∧aA W (w.heap.size+1) B∧aA W (w.heap.size+1+1) C∧aA W (w.heap.size+1+1+1) D∧Below w.heap.size w W∧W.heap.size=w.heap.size+4:=by
 obtain⟨h1,h2,h3⟩:=jZ w A B t u
 subst hW
 refine⟨(h1.old _).old _,(h2.old _).old _,?_,?_,(h3.alloc (by simp;omega) _).alloc (by simp;omega) _,by simp⟩
 ·refine aA.old ?_ _
  have:=ad5 ((w.alloc (.cells ⟨A⟩ t)).alloc (.cells ⟨B⟩ u)) C v
  simpa only [World.size_alloc] using this
 ·have:=ad5 (((w.alloc (.cells ⟨A⟩ t)).alloc (.cells ⟨B⟩ u)).alloc (.cells ⟨C⟩ v)) D s
  simpa only [World.size_alloc] using this
theorem rT:(Tryz.prog.info? 32).map (·.size)=some 4:=by kernel_rfl
theorem dY.at9 {w:World} {B:Nat} {cs:List Value} {f:CFn} {t:aN} (h:dY w B cs f t):∃Ae ne,cs[9]? = some (.slice Ae t.exits.length ne)∧aH w B 4 (gF w B) (.slice Ae t.exits.length ne) t.exits:=by
 obtain⟨A4,n4,A5,n5,Ai,ni,Ae,ne,s1,m1,s2,m2,rfl,-,-,h⟩:=h.cells
 exact⟨Ae,ne,rfl,h⟩
theorem adA (cs:List Value) (f:CFn) (t:aN) (x:bG) (at_:Int) (w:World) (h:dY w w.heap.size cs f t) (hx:uD x) :
  Calls Tryz.prog 56 #[.agg ⟨cs⟩,lR (cF x.op),acY x,.int .i64 at_] w (aM (.bool (eY aG (eZ f) t x at_)) w):=by
 obtain⟨r,hr⟩:∃r,eY aG (eZ f) t x at_=r:=⟨_,rfl⟩
 rw[hr]
 have HR:=hI hr
 have HC:=hI h
 have HI:=hI h.len
 have WX:=hI hx
 obtain⟨a0,a3,-⟩:=zQ x.op
 have HA:=hI (show iU x=[x.a,x.b,x.c].take (cF x.op).asks.toNat from rfl)
 obtain⟨F,hF⟩:∃F,cF x.op=F:=⟨_,rfl⟩
 rw[hF] at a0 a3 HA ⊢
 have HF:=hI hF
 clear hr hF h
 obtain⟨asks,low,high,kf,tells,ex⟩:=F
 obtain⟨op,xa,xb,xc,xn,xe,⟨kk,kn⟩⟩:=x
 dsimp only at a0 a3 HA
 obtain⟨n,rfl⟩:=Int.eq_ofNat_of_zero_le a0
 obtain⟨w0,hw0⟩:∃w0,w0=(((w.alloc (.cells ⟨cs⟩ 131)).alloc (.cells #[.int .i64 n,.int .i64 low,.int .i64 high,.bool kf,.bool tells,.int .i64 ex] 133)).alloc (.cells #[.int .i64 op,.int .i64 xa,.int .i64 xb,.int .i64 xc,.int .i64 xn,.int .i64 xe,.int .i64 kk,.int .i64 kn] 92)).alloc (.cells #[.int .i64 xa,.int .i64 xb,.int .i64 xc] 148):=⟨_,rfl⟩
 obtain⟨h1,h2,h3,h4,h5,h6⟩:=ac9 _ _ _ _ _ _ _ _ _ hw0
 have H1:=hI h1
 have H2:=hI h2
 have H3:=hI h3
 have H4:=hI h4
 have K0:=hI h5
 have HW:=hI hw0
 have RU:Hid (∀E:Up w0,E.to.rangeAt w.heap.size 0 cs):=fun E=>(H1.out.on E.below).range
 have f0:∀E:Up w0,E.to.cell? ⟨w.heap.size+1,0,none⟩=some (.int .i64 n):=fun E=>aC E.below (H2.out 0 _ rfl)
 clear h1 h2 h3 h4 h5 hw0
 go_enter Tryz.func56,Tryz.ntmps56
 unfold lR acY
 dsimp only
 go_wp2_with fail
 rw[←HW.out]
 have a3':(n:Int)≤3:=a3
 have SV:Hid (∀W,Below w0.heap.size w0 W→aH W W.heap.size 1 hY (.slice (some ⟨w.heap.size+1+1+1,0,none⟩) ([xa,xb,xc].take n).length 3) ([xa,xb,xc].take n)):=fun W kW=>by
  have h7:=H4.out.on kW
  refine⟨_,3,rfl,?_,by decide,fun _=>⟨_,0,rfl,?_,fun i y hy=>⟨[.int .i64 y],rfl,⟨rfl,?_⟩,fun j v hj=>?_⟩⟩⟩
  ·rw[List.length_take];simp;omega
  ·exact dP (h7 0 _ rfl)
  ·have hm:=List.mem_of_mem_take (List.mem_of_getElem? hy)
   simp only[List.mem_cons,List.not_mem_nil,or_false] at hm
   rcases hm with rfl | rfl | rfl
   ·exact WX.out.2.1
   ·exact WX.out.2.2.1
   ·exact WX.out.2.2.2.1
  ·match j,hj with
   | 0,hj=>
    simp only[List.getElem?_cons_zero,Option.some.injEq] at hj
    subst hj
    refine h7 _ _ ?_
    rw[List.getElem?_take] at hy
    split at hy
    ·match i,hy with
     | 0,hy=>injection hy with hy;subst hy;rfl
     | 1,hy=>injection hy with hy;subst hy;rfl
     | 2,hy=>injection hy with hy;subst hy;rfl
    ·cases hy
 have CV:Hid (∀E:Up w0,Calls Tryz.prog 103 #[.agg ⟨cs⟩,.slice (some ⟨w.heap.size+1+1+1,0,none⟩) n 3,.int .i64 at_] E.to (aM (.bool (gT t.ins ([xa,xb,xc].take n) at_)) E.to)):=fun E=>by
  have hl:([xa,xb,xc].take n).length=n:=by rw[List.length_take];simp;omega
  have:=vJ cs f t _ _ at_ E.to (HC.out.below (K0.out.trans (E.below.mono K0.out.size))) (SV.out _ E.below)
  rwa [hl] at this
 refine aD (by kernel_rfl) (by kernel_rfl) ?_
 repeat (first
  | (refine aO 131 _ rfl rfl w.heap.size 0 rfl cs _ RU.out Tryz.underlying131 rfl HI.out ?_;go_simp)
  | go_big_quiet_step ((go_at_call 103;with_reducible exact Calls.up (CV.out _))))
 refine wpQuiet_nil ?_
 intro E
 obtain⟨w1,k1⟩:=E
 have K1:=hI k1
 have KK:=btZ K0 k1
 obtain⟨q,hq⟩:∃q,gT t.ins ([xa,xb,xc].take n) at_=q:=⟨_,rfl⟩
 rw[hq]
 dsimp only
 have HQ:=hI hq
 have g0:=aC k1 (H2.out 0 _ rfl)
 clear k1 hq f0
 cases q
 case false=>
  have HN:Hid (false=r):=by rw[←HR.out];unfold eY;rw[HA.out,Int.toNat_natCast,HQ.out];rfl
  go_wp2_with fail
  go_ret
  exact⟨by rw[←HN.out];rfl,KK.out⟩
 have FM:Hid (r=(eO ⟨op,xa,xb,xc,xn,xe,⟨kk,kn⟩⟩ ⟨n,low,high,kf,tells,ex⟩ &&
   !(decide (xn<low) || decide (high<xn) || (op == 1 && decide (f.regs≤xn))) &&
   !((!kf && (⟨kk,kn⟩:Val) != ⟨0,0⟩) || (kf && !aG ⟨kk,kn⟩) || (op == 2 && kk == 5)) &&
   (if ex == 0 || (ex == 1 && xe == -1) then xe == -1
   else decide (0≤xe) && decide (xe<t.exits.length) && (t.exits[xe.toNat]?).any (bR (eZ f) t.ins · at_)))):=by
  rw[←HR.out]
  unfold eY
  dsimp only
  rw[HA.out,Int.toNat_natCast,HQ.out,HF.out,Bool.true_and]
  exact rfl
 go_wp2_with fail
 have a0:=aC K1.out (H3.out 0 _ rfl)
 have a4:=aC K1.out (H3.out 4 _ rfl)
 have v0:=aC K1.out (H4.out 0 _ rfl)
 have v1:=aC K1.out (H4.out 1 _ rfl)
 have v2:=aC K1.out (H4.out 2 _ rfl)
 go_loopw [10] (fun k wr=>∃jn:Nat,k=.int .i64 jn∧n≤jn∧jn≤3∧Hid (∀j v,n≤j→j<jn→[xa,xb,xc][j]? = some v→eW ⟨op,xa,xb,xc,xn,xe,⟨kk,kn⟩⟩ j v=true)∧wr=w1) (fun k _=>3 - (RowKit.intOf k).toNat)
 case atStart=>exact⟨n,rfl,Nat.le_refl _,by omega,fun j v h1 h2=>by omega,rfl⟩
 case round=>
  obtain⟨jn,rfl,h1,h2,HP,rfl⟩:=hrel
  have hj:jn=0∨jn=1∨jn=2∨jn=3:=by omega
  rcases hj with rfl | rfl | rfl | rfl
  ·have hn:n=0:=by omega
   subst hn
   by_cases c:xa = -1
   case neg=>
    have c':(xa != -1)=true:=by simpa using c
    have HN:Hid (false=r):=by
     rw[FM.out]
     have:eO ⟨op,xa,xb,xc,xn,xe,⟨kk,kn⟩⟩ ⟨((0:Nat):Int),low,high,kf,tells,ex⟩=false:=by simp[eO,eW,c]
     rw[this];rfl
    go_wp2_with fail
    go_ret
    exact⟨by rw[←HN.out];rfl,KK.out⟩
   subst c
   go_wp2_with fail
   go_roundw
   case rel=>exact⟨1,rfl,by omega,by omega,fun j v g1 g2 g3=>by
    obtain rfl:j=0:=by omega
    injection g3 with g3;subst g3;rfl,by first | rfl | trivial⟩
   case measure=>simp[RowKit.intOf]
  ·by_cases c:op=19
   ·have SH:Hid (eW ⟨op,xa,xb,xc,xn,xe,⟨kk,kn⟩⟩ 1 xb=decide (0≤xb)):=by simp[eW,c,Hid]
    rw[c] at a0
    by_cases d:0≤xb
    case neg=>
     have d':xb<0:=by omega
     have HN:Hid (false=r):=by
      rw[FM.out]
      have:eO ⟨op,xa,xb,xc,xn,xe,⟨kk,kn⟩⟩ ⟨(n:Int),low,high,kf,tells,ex⟩=false:=by
       unfold eO
       dsimp only
       rw[SH.out,decide_eq_false d,decide_eq_false (by omega:¬(1:Int)<n),Bool.or_false,Bool.and_false,Bool.false_and]
      rw[this];rfl
     go_wp2_with fail
     go_ret
     exact⟨by rw[←HN.out];rfl,KK.out⟩
    have d':¬xb<0:=by omega
    go_wp2_with fail
    go_roundw
    case rel=>exact⟨2,rfl,by omega,by omega,fun j v g1 g2 g3=>by
     rcases Nat.lt_or_ge j 1 with g4 | g4
     ·exact HP.out j v g1 g4 g3
     ·obtain rfl:j=1:=by omega
      injection g3 with g3;subst g3;exact SH.out.trans (decide_eq_true d),by first | rfl | trivial⟩
    case measure=>simp[RowKit.intOf]
   have c':(op == 19)=false:=beq_eq_false_iff_ne.2 c
   by_cases c9:op=9∧xn=1
   ·have SH:Hid (eW ⟨op,xa,xb,xc,xn,xe,⟨kk,kn⟩⟩ 1 xb=decide (0≤xb)):=by simp[eW,c9.1,c9.2,Hid]
    rw[c9.1] at a0
    rw[c9.2] at a4
    by_cases d:0≤xb
    case neg=>
     have d':xb<0:=by omega
     have HN:Hid (false=r):=by
      rw[FM.out]
      have:eO ⟨op,xa,xb,xc,xn,xe,⟨kk,kn⟩⟩ ⟨(n:Int),low,high,kf,tells,ex⟩=false:=by
       unfold eO
       dsimp only
       rw[SH.out,decide_eq_false d,decide_eq_false (by omega:¬(1:Int)<n),Bool.or_false,Bool.and_false,Bool.false_and]
      rw[this];rfl
     go_wp2_with fail
     go_ret
     exact⟨by rw[←HN.out];rfl,KK.out⟩
    have d':¬xb<0:=by omega
    go_wp2_with fail
    go_roundw
    case rel=>exact⟨2,rfl,by omega,by omega,fun j v g1 g2 g3=>by
     rcases Nat.lt_or_ge j 1 with g4 | g4
     ·exact HP.out j v g1 g4 g3
     ·obtain rfl:j=1:=by omega
      injection g3 with g3;subst g3;exact SH.out.trans (decide_eq_true d),by first | rfl | trivial⟩
    case measure=>simp[RowKit.intOf]
   by_cases o9:op=9
   ·have n1:¬xn=1:=fun h=>c9 ⟨o9,h⟩
    have n1':(xn == 1)=false:=beq_eq_false_iff_ne.2 n1
    have SH:Hid (eW ⟨op,xa,xb,xc,xn,xe,⟨kk,kn⟩⟩ 1 xb=(xb == -1)):=by simp[eW,o9,n1,Hid]
    rw[o9] at a0
    by_cases d:xb = -1
    case neg=>
     have d':(xb != -1)=true:=by simpa using d
     have HN:Hid (false=r):=by
      rw[FM.out]
      have:eO ⟨op,xa,xb,xc,xn,xe,⟨kk,kn⟩⟩ ⟨(n:Int),low,high,kf,tells,ex⟩=false:=by
       unfold eO
       dsimp only
       rw[SH.out,beq_eq_false_iff_ne.2 d,decide_eq_false (by omega:¬(1:Int)<n),Bool.or_false,Bool.and_false,Bool.false_and]
      rw[this];rfl
     go_wp2_with fail
     go_ret
     exact⟨by rw[←HN.out];rfl,KK.out⟩
    subst d
    go_wp2_with fail
    go_roundw
    case rel=>exact⟨2,rfl,by omega,by omega,fun j v g1 g2 g3=>by
     rcases Nat.lt_or_ge j 1 with g4 | g4
     ·exact HP.out j v g1 g4 g3
     ·obtain rfl:j=1:=by omega
      injection g3 with g3;subst g3;exact SH.out.trans rfl,by first | rfl | trivial⟩
    case measure=>simp[RowKit.intOf]
   ·have o9':(op == 9)=false:=beq_eq_false_iff_ne.2 o9
    have SH:Hid (eW ⟨op,xa,xb,xc,xn,xe,⟨kk,kn⟩⟩ 1 xb=(xb == -1)):=by simp[eW,o9,c,Hid]
    by_cases d:xb = -1
    case neg=>
     have d':(xb != -1)=true:=by simpa using d
     have HN:Hid (false=r):=by
      rw[FM.out]
      have:eO ⟨op,xa,xb,xc,xn,xe,⟨kk,kn⟩⟩ ⟨(n:Int),low,high,kf,tells,ex⟩=false:=by
       unfold eO
       dsimp only
       rw[SH.out,beq_eq_false_iff_ne.2 d,decide_eq_false (by omega:¬(1:Int)<n),Bool.or_false,Bool.and_false,Bool.false_and]
      rw[this];rfl
     go_wp2_with fail
     go_ret
     exact⟨by rw[←HN.out];rfl,KK.out⟩
    subst d
    go_wp2_with fail
    go_roundw
    case rel=>exact⟨2,rfl,by omega,by omega,fun j v g1 g2 g3=>by
     rcases Nat.lt_or_ge j 1 with g4 | g4
     ·exact HP.out j v g1 g4 g3
     ·obtain rfl:j=1:=by omega
      injection g3 with g3;subst g3;exact SH.out.trans rfl,by first | rfl | trivial⟩
    case measure=>simp[RowKit.intOf]
  ·by_cases c:xc = -1
   case neg=>
    have c':(xc != -1)=true:=by simpa using c
    have HN:Hid (false=r):=by
     rw[FM.out]
     have:eO ⟨op,xa,xb,xc,xn,xe,⟨kk,kn⟩⟩ ⟨(n:Int),low,high,kf,tells,ex⟩=false:=by
      unfold eO
      dsimp only
      rw[show eW ⟨op,xa,xb,xc,xn,xe,⟨kk,kn⟩⟩ 2 xc=false from beq_eq_false_iff_ne.2 c,decide_eq_false (by omega:¬(2:Int)<n),Bool.or_false,Bool.and_false]
     rw[this];rfl
    go_wp2_with fail
    go_ret
    exact⟨by rw[←HN.out];rfl,KK.out⟩
   subst c
   go_wp2_with fail
   go_roundw
   case rel=>exact⟨3,rfl,by omega,by omega,fun j v g1 g2 g3=>by
    rcases Nat.lt_or_ge j 2 with g4 | g4
    ·exact HP.out j v g1 g4 g3
    ·obtain rfl:j=2:=by omega
     injection g3 with g3;subst g3;rfl,by first | rfl | trivial⟩
   case measure=>simp[RowKit.intOf]
  ·clear a0 a4 v0 v1 v2
   have SH:Hid (eO ⟨op,xa,xb,xc,xn,xe,⟨kk,kn⟩⟩ ⟨(n:Int),low,high,kf,tells,ex⟩=true):=by
    unfold eO Hid
    dsimp only
    have q:∀(j:Nat) v,j<3→[xa,xb,xc][j]? = some v→(decide ((j:Int)<n) || eW ⟨op,xa,xb,xc,xn,xe,⟨kk,kn⟩⟩ j v)=true:=fun j v hj hv=>by
     by_cases c:(j:Int)<n
     ·rw[decide_eq_true c];rfl
     ·rw[HP.out j v (by omega) hj hv,Bool.or_true]
    have q0:=q 0 xa (by omega) rfl
    have q1:=q 1 xb (by omega) rfl
    have q2:=q 2 xc (by omega) rfl
    rw[show((0:Nat):Int)=0 from rfl] at q0
    rw[show((1:Nat):Int)=1 from rfl] at q1
    rw[show((2:Nat):Int)=2 from rfl] at q2
    rw[q0,q1,q2];rfl
   obtain⟨bad1,hb1⟩:∃b,(decide (xn<low) || decide (high<xn) || (op == 1 && decide (f.regs≤xn)))=b:=⟨_,rfl⟩
   have FM1:Hid (r=(!bad1 && !((!kf && (⟨kk,kn⟩:Val) != ⟨0,0⟩) || (kf && !aG ⟨kk,kn⟩) || (op == 2 && kk == 5)) &&
     (if ex == 0 || (ex == 1 && xe == -1) then xe == -1
     else decide (0≤xe) && decide (xe<t.exits.length) && (t.exits[xe.toNat]?).any (bR (eZ f) t.ins · at_)))):=by
    rw[FM.out,SH.out,hb1,Bool.true_and];exact rfl
   have HB1:=hI hb1
   clear hb1 HP
   go_upto_region 10 with fail
   go_cut [66] (fun c wx=>c=.bool bad1∧wx=wr)
   case first=>
    have a0:=aC K1.out (H3.out 0 _ rfl)
    have a4:=aC K1.out (H3.out 4 _ rfl)
    have b1:=aC K1.out (H2.out 1 _ rfl)
    have b2:=aC K1.out (H2.out 2 _ rfl)
    have c1:=aC K1.out (H1.out 1 _ HC.out.at1.1)
    by_cases d1:xn<low
    ·have e:=HB1.out
     rw[decide_eq_true d1] at e
     have E:=hI e
     clear e
     go_wp2_with fail
     go_meet
     case rel=>exact⟨by rw[←E.out];first | done | rfl,rfl⟩
    by_cases d2:high<xn
    ·have e:=HB1.out
     rw[decide_eq_true d2,Bool.or_true] at e
     have E:=hI e
     clear e
     go_wp2_with fail
     go_meet
     case rel=>exact⟨by rw[←E.out];first | done | rfl,rfl⟩
    by_cases d3:op=1
    ·by_cases d4:f.regs≤xn
     ·have e:=HB1.out
      rw[decide_eq_true d4,d3,show((1:Int) == 1)=true from rfl,Bool.and_true,Bool.or_true] at e
      have E:=hI e
      rw[d3] at a0
      clear e d3
      go_wp2_with fail
      go_meet
      case rel=>exact⟨by rw[←E.out];first | done | rfl,rfl⟩
     ·have e:=HB1.out
      rw[decide_eq_false d1,decide_eq_false d2,decide_eq_false d4,Bool.and_false] at e
      have E:=hI e
      rw[d3] at a0
      have d4':xn<f.regs:=by omega
      clear e d3
      go_wp2_with fail
      go_meet
      case rel=>exact⟨by rw[←E.out];first | done | rfl,rfl⟩
    ·have e:=HB1.out
     rw[decide_eq_false d1,decide_eq_false d2,beq_eq_false_iff_ne.2 d3] at e
     have E:=hI e
     have d3':(op == 1)=false:=beq_eq_false_iff_ne.2 d3
     clear e
     go_wp2_with fail
     go_meet
     case rel=>exact⟨by rw[←E.out];first | done | rfl,rfl⟩
   case rest=>
    obtain⟨rfl,hwc⟩:=hcut
    have hwc:=hwc.symm
    subst hwc
    cases bad1
    case true=>
     have HN:Hid (false=r):=by rw[FM1.out];rfl
     go_wp2_with fail
     go_ret
     exact⟨by rw[←HN.out];rfl,KK.out⟩
    obtain⟨bad2,hb2⟩:∃b,((!kf && (⟨kk,kn⟩:Val) != ⟨0,0⟩) || (kf && !aG ⟨kk,kn⟩) || (op == 2 && kk == 5))=b:=⟨_,rfl⟩
    have FM2:Hid (r=(!bad2 && (if ex == 0 || (ex == 1 && xe == -1) then xe == -1
     else decide (0≤xe) && decide (xe<t.exits.length) && (t.exits[xe.toNat]?).any (bR (eZ f) t.ins · at_)))):=by
     rw[FM1.out,hb2];exact rfl
    have HB2:=hI hb2
    clear hb2
    go_upto_region 12 with fail
    go_cut [92] (fun c wx=>c=.bool bad2∧Hid (Below wr.heap.size wr wx))
    case first=>
     have a0:=aC K1.out (H3.out 0 _ rfl)
     have a6:=aC K1.out (H3.out 6 _ rfl)
     have a7:=aC K1.out (H3.out 7 _ rfl)
     have b3:=aC K1.out (H2.out 3 _ rfl)
     cases kf
     case false=>
      by_cases z1:kk=0
      ·by_cases z2:kn=0
       ·subst z1
        subst z2
        have o2:¬op=2:=fun h=>by
         have:=HF.out
         rw[h] at this
         injection this with _ _ _ this
         cases this
        have o2':(op == 2)=false:=beq_eq_false_iff_ne.2 o2
        have e:=HB2.out
        rw[o2'] at e
        have E:=hI e
        clear e
        go_wp2_with fail
        go_meet
        case rel=>exact⟨by rw[←E.out];first | done | rfl,Below.refl _ _⟩
       ·have e:=HB2.out
        have nz:((⟨kk,kn⟩:Val) != ⟨0,0⟩)=true:=by simp[z2]
        rw[nz] at e
        have E:=hI e
        have z2':(kn == 0)=false:=beq_eq_false_iff_ne.2 z2
        subst z1
        clear e nz
        go_wp2_with fail
        go_meet
        case rel=>exact⟨by rw[←E.out];first | done | rfl,Below.refl _ _⟩
      ·have e:=HB2.out
       have nz:((⟨kk,kn⟩:Val) != ⟨0,0⟩)=true:=by simp[z1]
       rw[nz] at e
       have E:=hI e
       have z1':(kk == 0)=false:=beq_eq_false_iff_ne.2 z1
       clear e nz
       go_wp2_with fail
       go_meet
       case rel=>exact⟨by rw[←E.out];first | done | rfl,Below.refl _ _⟩
     case true=>
      have RC:=hI (qO ⟨kk,kn⟩ wr)
      obtain⟨rv,hrv⟩:∃b,aG ⟨kk,kn⟩=b:=⟨_,rfl⟩
      have e:=HB2.out
      rw[hrv] at RC e
      have E:=hI e
      clear e hrv
      go_wp2_with fail
      refine RC.out.mono ?_
      rintro e w2 ⟨rfl,k2⟩
      have K2:=hI k2
      have c0:=aC k2 a0
      have c6:=aC k2 a6
      clear k2 a0 a6 a7 b3
      cases rv
      case false=>
       go_wp2_with fail
       go_meet
       case rel=>exact⟨by rw[←E.out];first | done | rfl,K2.out⟩
      by_cases o2:op=2
      ·subst o2
       by_cases k5:kk=5
       ·subst k5
        go_wp2_with fail
        go_meet
        case rel=>exact⟨by rw[←E.out];first | done | rfl,K2.out⟩
       ·have e:=E.out
        have k5':(kk == 5)=false:=beq_eq_false_iff_ne.2 k5
        rw[k5'] at e
        have E:=hI e
        clear e
        go_wp2_with fail
        go_meet
        case rel=>exact⟨by rw[←E.out];first | done | rfl,K2.out⟩
      ·have o2':(op == 2)=false:=beq_eq_false_iff_ne.2 o2
       have e:=E.out
       rw[o2'] at e
       have E:=hI e
       clear e
       go_wp2_with fail
       go_meet
       case rel=>exact⟨by rw[←E.out];first | done | rfl,K2.out⟩
    case rest=>
     rename_i wc
     obtain⟨rfl,kx⟩:=hcut
     have K3:=btZ K1 kx.out
     have KK3:=btZ KK kx.out
     cases bad2
     case true=>
      have HN:Hid (false=r):=by rw[FM2.out];rfl
      go_wp2_with fail
      go_ret
      exact⟨by rw[←HN.out];first | done | rfl,KK3.out⟩
     obtain⟨bad3,hb3⟩:∃b,(ex == 0 || (ex == 1 && xe == -1))=b:=⟨_,rfl⟩
     have FM3:Hid (r=(if bad3=true then xe == -1 else decide (0≤xe) && decide (xe<t.exits.length) && (t.exits[xe.toNat]?).any (bR (eZ f) t.ins · at_))):=by
      rw[FM2.out,hb3];exact rfl
     have HB3:=hI hb3
     clear hb3
     go_upto_region 14 with fail
     go_cut [123] (fun c wx=>c=.bool bad3∧wx=wc)
     case first=>
      have b5:=aC K3.out (H2.out 5 _ rfl)
      have a5:=aC K3.out (H3.out 5 _ rfl)
      have e:=HB3.out
      by_cases x0:ex=0
      ·rw[x0,show((0:Int) == 0)=true from rfl,Bool.true_or] at e
       have E:=hI e
       rw[x0] at b5
       clear e x0
       go_wp2_with fail
       go_meet
       case rel=>exact⟨by rw[←E.out];first | done | rfl,rfl⟩
      have x0':(ex == 0)=false:=beq_eq_false_iff_ne.2 x0
      rw[x0',Bool.false_or] at e
      by_cases x1:ex=1
      ·rw[x1,show((1:Int) == 1)=true from rfl,Bool.true_and] at e
       rw[x1] at b5
       clear x0 x0' x1
       by_cases x2:xe = -1
       ·rw[x2] at a5 e
        have E:=hI e
        clear e x2
        go_wp2_with fail
        go_meet
        case rel=>exact⟨by rw[←E.out];first | done | rfl,rfl⟩
       ·have x2':(xe == -1)=false:=beq_eq_false_iff_ne.2 x2
        rw[x2'] at e
        have E:=hI e
        clear e
        go_wp2_with fail
        go_meet
        case rel=>exact⟨by rw[←E.out];first | done | rfl,rfl⟩
      ·have x1':(ex == 1)=false:=beq_eq_false_iff_ne.2 x1
       rw[x1',Bool.false_and] at e
       have E:=hI e
       clear e
       go_wp2_with fail
       go_meet
       case rel=>exact⟨by rw[←E.out];first | done | rfl,rfl⟩
     case rest=>
      obtain⟨rfl,hwd⟩:=hcut
      have hwd:=hwd.symm
      subst hwd
      have a5:=aC K3.out (H3.out 5 _ rfl)
      cases bad3
      case true=>
       have e:=FM3.out
       rw[if_pos rfl] at e
       by_cases x2:xe = -1
       ·rw[x2] at a5 e
        have E:=hI e
        clear e x2
        go_wp2_with fail
        go_ret
        exact⟨by rw[E.out];first | done | rfl,KK3.out⟩
       ·have x2':(xe == -1)=false:=beq_eq_false_iff_ne.2 x2
        rw[x2'] at e
        have E:=hI e
        clear e
        go_wp2_with fail
        go_ret
        exact⟨by rw[E.out];first | done | rfl,KK3.out⟩
      have FM4:Hid (r=(decide (0≤xe) && decide (xe<t.exits.length) && (t.exits[xe.toNat]?).any (bR (eZ f) t.ins · at_))):=by
       rw[FM3.out,if_neg (by simp)];exact rfl
      clear a5
      obtain⟨Ae,ne,p9,qx⟩:=HC.out.at9
      have lx:=aP qx
      have HX:=hI qx
      clear qx
      have RU3:Hid (∀E:Up wc,E.to.rangeAt w.heap.size 0 cs):=fun E=>(H1.out.on (K3.out.trans (E.below.mono K3.out.size))).range
      have f5:∀E:Up wc,E.to.cell? ⟨w.heap.size+1+1,5,none⟩=some (.int .i64 xe):=fun E=>zP K3.out E (H3.out 5 _ rfl)
      have f9:∀E:Up wc,E.to.cell? ⟨w.heap.size,9,none⟩=some (.slice Ae t.exits.length ne):=fun E=>zP K3.out E (H1.out 9 _ p9)
      go_wp2_with fail
      by_cases y0:0≤xe
      case neg=>
       have y0':decide (0≤xe)=false:=decide_eq_false y0
       have y0n:xe<0:=by omega
       have y0m:decide (xe<0)=true:=decide_eq_true y0n
       have HN:Hid (false=r):=by rw[FM4.out,y0'];rfl
       refine aD (by kernel_rfl) (by kernel_rfl) ?_
       repeat (go_big_quiet_step (fail))
       refine wpQuiet_nil ?_
       intro w3 hE
       obtain⟨E,rfl⟩:=hE
       obtain⟨w3,k3⟩:=E
       have KZ:=btZ KK3 k3
       dsimp only
       clear k3
       go_wp2_with fail
       go_ret
       exact⟨by rw[←HN.out];first | done | rfl,KZ.out⟩
      by_cases y1:xe<t.exits.length
      case neg=>
       have y0':decide (0≤xe)=true:=decide_eq_true y0
       have y1':decide (xe<(t.exits.length:Int))=false:=decide_eq_false y1
       have HN:Hid (false=r):=by rw[FM4.out,y1',Bool.and_false];rfl
       refine aD (by kernel_rfl) (by kernel_rfl) ?_
       repeat (go_big_quiet_step (fail))
       refine wpQuiet_nil ?_
       intro w3 hE
       obtain⟨E,rfl⟩:=hE
       obtain⟨w3,k3⟩:=E
       have KZ:=btZ KK3 k3
       dsimp only
       clear k3
       go_wp2_with fail
       go_ret
       exact⟨by rw[←HN.out];first | done | rfl,KZ.out⟩
      obtain⟨k,rfl⟩:=Int.eq_ofNat_of_zero_le y0
      have hk:k<t.exits.length:=by omega
      obtain⟨b,off,y,ys,rfl,hb,hy,hcl,hR,hat⟩:=HX.out.at_ hk
      have HN:Hid (bR (eZ f) t.ins y at_=r):=by
       rw[FM4.out,decide_eq_true y0,decide_eq_true y1,Int.toNat_natCast,hy];rfl
      have RX:Hid (∀E:Up wc,E.to.rangeAt b (off+k*4) ys):=fun E j v hj=>((KK3.out.trans (E.below.mono KK3.out.size)).cell hb).trans (hat j v hj)
      have LX:Hid ((Tryz.prog.info? 32).map (·.size)=some ys.length):=by rw[hcl];exact rT
      have CR:Hid (∀E:Up wc,Calls Tryz.prog 58 #[.agg ⟨cs⟩,.agg ⟨ys⟩,.int .i64 at_] E.to (aM (.bool (bR (eZ f) t.ins y at_)) E.to)):=fun E=>by
       have kz:=btZ KK3 E.below
       exact qN cs ys f t y at_ E.to (HC.out.below kz) (hR.keep kz.size (fun _ h=>kz.cell h))
      rw[HN.out] at CR
      have y0':decide (0≤(k:Int))=true:=decide_eq_true y0
      have y1':decide ((k:Int)<(t.exits.length:Int))=true:=decide_eq_true y1
      clear hat hR hy hcl
      refine aD (by kernel_rfl) (by kernel_rfl) ?_
      repeat (first
       | (refine aO 131 _ rfl rfl w.heap.size 0 rfl cs _ RU3.out Tryz.underlying131 rfl HI.out ?_;go_simp)
       | (refine aO 32 _ rfl rfl b (off+k*4) rfl ys _ RX.out Tryz.underlying32 rfl LX.out ?_;go_simp)
       | go_big_quiet_step ((go_at_call 58;with_reducible exact Calls.up (CR.out _))))
      refine wpQuiet_nil ?_
      intro E
      obtain⟨w3,k3⟩:=E
      have KZ:=btZ KK3 k3
      dsimp only
      clear k3
      go_wp2_with fail
      go_ret
      exact⟨rfl,KZ.out⟩
end
section
def mG (K:Int→Int) (x:bG):Int:=
 if x.op=2 then x.k.kind
 else if x.op=15 then 2
 else if x.op=16 then 5
 else if x.op=18 then 5
 else if x.op=7∨x.op=8 then
  if(8≤x.n∧x.n≤10∧x.op=7)∨(x.n=11∧x.op=8) then 1
  else if K x.a=2∨K x.a=3 then K x.a else -1
 else -1
def iZ (v:Int):List bG→Int
 | []=>-1
 | x::l=>if x.a≠v then iZ v l else if x.op=4 then x.n else if x.op=6 then x.k.kind else if x.op=9 then 5 else iZ v l
def insAt (ins:List bG) (v:Int):bG:=(ins[v.toNat]?).getD ⟨0,0,0,0,0,0,⟨0,0⟩⟩
def j8 (ins:List bG):Nat→Int→Int→Int
 | 0,_,_=>-1
 | n+1,v,at_=>
  if v<0∨at_≤v∨(ins.length:Int)<at_∨iC (nQ ins v)=false then -1
  else
   let k:=mG (j8 ins n · v) (insAt ins v)
   if 0≤k then k else iZ v ((ins.take at_.toNat).drop (v.toNat+1))
def hZ (ins:List bG) (v at_:Int):Int:=j8 ins (v.toNat+1) v at_
theorem rI {K L:Int→Int} {x:bG} (h:K x.a=L x.a):mG K x=mG L x:=by unfold mG;rw[h]
theorem mR {ins:List bG} {n:Nat} {v at_:Int} (h:v<0):j8 ins n v at_ = -1:=by
 cases n with
 | zero=>rfl
 | succ n=>unfold j8;rw[if_pos (.inl h)]
theorem lC {ins:List bG} {n:Nat} {v at_:Int} (h:at_≤v):j8 ins n v at_ = -1:=by
 cases n with
 | zero=>rfl
 | succ n=>unfold j8;rw[if_pos (.inr (.inl h))]
theorem rL {ins:List bG} : ∀(n m:Nat) (v at_:Int),v<n→v<m→j8 ins n v at_=j8 ins m v at_
 | 0,m,v,at_,h1,_=>by rw[mR (by omega),mR (by omega)]
 | n+1,0,v,at_,_,h2=>by rw[mR (by omega),mR (by omega)]
 | n+1,m+1,v,at_,h1,h2=>by
  unfold j8
  have e:mG (j8 ins n · v) (insAt ins v)=mG (j8 ins m · v) (insAt ins v):=by
   refine rI ?_
   rcases Int.lt_or_le (insAt ins v).a v with h | h
   ·exact rL n m _ _ (by omega) (by omega)
   ·rw[lC h,lC h]
  rw[e]
theorem acR {ins:List bG} {n:Nat} {v at_:Int} (h:v<n):j8 ins n v at_=hZ ins v at_:=rL _ _ _ _ h (by omega)
theorem rK (ins:List bG) (v at_:Int):hZ ins v at_ =
  if v<0∨at_≤v∨(ins.length:Int)<at_∨iC (nQ ins v)=false then -1
  else if 0≤mG (hZ ins · v) (insAt ins v) then mG (hZ ins · v) (insAt ins v) else iZ v ((ins.take at_.toNat).drop (v.toNat+1)):=by
 conv=>lhs;unfold hZ j8
 by_cases h0:v<0
 ·rw[if_pos (.inl h0),if_pos (.inl h0)]
 have e:mG (j8 ins v.toNat · v) (insAt ins v)=mG (hZ ins · v) (insAt ins v):=by
  refine rI ?_
  rcases Int.lt_or_le (insAt ins v).a v with h | h
  ·exact acR (by omega)
  ·rw[lC h];unfold hZ;rw[lC h]
 dsimp only
 rw[e]
theorem nV (v:Int):∀l m,iZ v l≠-1→iZ v (l++m)=iZ v l
 | [],_,h=>absurd rfl h
 | x::l,m,h=>by
  simp only[iZ,List.cons_append] at h ⊢
  split
  ·rename_i c;rw[if_pos c] at h;exact nV v l m h
  ·rename_i c;rw[if_neg c] at h
   split
   ·rfl
   ·rename_i c1;rw[if_neg c1] at h
    split
    ·rfl
    ·rename_i c2;rw[if_neg c2] at h
     split
     ·rfl
     ·rename_i c3;rw[if_neg c3] at h;exact nV v l m h
theorem tT (v lo hi:Int) (hlo:lo≤-1) (h5:5≤hi):∀l:List bG,(∀x∈l,(x.op=4→lo≤x.n∧x.n≤hi)∧(x.op=6→lo≤x.k.kind∧x.k.kind≤hi))→lo≤iZ v l∧iZ v l≤hi
 | [],_=>by simp[iZ];omega
 | x::l,h=>by
  have ih:=tT v lo hi hlo h5 l (fun y hy=>h y (by simp[hy]))
  obtain⟨h1,h2⟩:=h x (by simp)
  simp only[iZ]
  split
  ·exact ih
  split
  ·rename_i c;exact h1 c
  split
  ·rename_i c;exact h2 c
  split
  ·omega
  ·exact ih
theorem ownM_bd {K:Int→Int} {x:bG} {hi:Int} (h5:5≤hi) (h:x.op=2→-1≤x.k.kind∧x.k.kind≤hi) : -1≤mG K x∧mG K x≤hi:=by
 unfold mG
 split
 ·rename_i c;exact h c
 split
 ·omega
 split
 ·omega
 split
 ·omega
 split
 ·split
  ·omega
  ·split <;> omega
 ·omega
def uF (ins:List bG):Prop:=∀x∈ins,(x.op=4→0≤x.n∧x.n≤6)∧(x.op=6→0≤x.k.kind∧x.k.kind≤6)∧(x.op=2→0≤x.k.kind∧x.k.kind≤6)
theorem aa5 {ins:List bG} {v:Int} (h0:0≤v) (h:v<ins.length):insAt ins v∈ins:=by
 unfold insAt
 have:v.toNat<ins.length:=by omega
 rw[lG this]
 exact List.getElem_mem this
theorem kindM_bd {ins:List bG} (hf:uF ins) (v at_:Int) : -1≤hZ ins v at_∧hZ ins v at_≤6:=by
 rw[rK]
 split
 ·omega
 rename_i h
 have hm:=hf _ (aa5 (ins:=ins) (v:=v) (by omega) (by omega))
 have ho:=ownM_bd (K:=(hZ ins · v)) (x:=insAt ins v) (hi:=6) (by omega) (fun c=>by have:=hm.2.2 c;omega)
 have hg:=tT v (-1) 6 (by omega) (by omega) ((ins.take at_.toNat).drop (v.toNat+1)) (fun x hx=>by
  have hx':x∈ins:=List.mem_of_mem_take (List.mem_of_mem_drop hx)
  have:=hf x hx'
  exact⟨fun c=>by have:=this.1 c;omega,fun c=>by have:=this.2.1 c;omega⟩)
 split <;> omega
theorem kindM_later {ins:List bG} {v a b:Int} (hab:a≤b) (hb:b≤ins.length) (h:hZ ins v a≠-1):hZ ins v b=hZ ins v a:=by
 rw[rK] at h ⊢
 rw[rK ins v a]
 by_cases c:v<0∨a≤v∨(ins.length:Int)<a∨iC (nQ ins v)=false
 ·rw[if_pos c] at h;exact absurd rfl h
 rw[if_neg c] at h ⊢
 have c2:¬(v<0∨b≤v∨(ins.length:Int)<b∨iC (nQ ins v)=false):=by
  rintro (h1 | h1 | h1 | h1)
  ·exact c (.inl h1)
  ·exact c (.inr (.inl (by omega)))
  ·omega
  ·exact c (.inr (.inr (.inr h1)))
 rw[if_neg c2]
 by_cases d:0≤mG (hZ ins · v) (insAt ins v)
 ·rw[if_pos d,if_pos d]
 rw[if_neg d] at h ⊢
 rw[if_neg d]
 have e:ins.take b.toNat=ins.take a.toNat++(ins.take b.toNat).drop a.toNat:=by
  conv=>lhs;rw[←List.take_append_drop a.toNat (ins.take b.toNat)]
  rw[List.take_take,Nat.min_eq_left (by omega)]
 have ha:¬(v<0):=fun h=>c (.inl h)
 have ha2:¬(a≤v):=fun h=>c (.inr (.inl h))
 have ha3:¬((ins.length:Int)<a):=fun h=>c (.inr (.inr (.inl h)))
 rw[e,List.drop_append_of_le_length (by rw[List.length_take];omega)]
 exact nV v _ _ h
theorem rightV_kind (aG:Val→Bool) (hr:∀k,aG k=true→0≤k.kind∧k.kind≤6) {ce:Int} {fns:List FnM} {t:aN} (h:fA aG ce fns t=0):uF t.ins:=by
 intro x hx
 obtain⟨_,fn,h1⟩:=nX h
 obtain⟨i,hi⟩:=List.getElem?_of_mem hx
 obtain⟨_,h2⟩:=fQ t.ins 0 h1 i x hi
 simp only[eY,Bool.and_eq_true] at h2
 obtain⟨⟨⟨⟨_,_⟩,h3⟩,h4⟩,_⟩:=h2
 have h3':=h3
 simp only[Bool.not_eq_true',Bool.or_eq_false_iff,decide_eq_false_iff_not] at h3'
 have h4':=h4
 simp only[Bool.not_eq_true',Bool.or_eq_false_iff,Bool.and_eq_false_iff] at h4'
 refine⟨fun c=>?_,fun c=>hr _ ?_,fun c=>hr _ ?_⟩
 ·have hf:cF x.op=⟨1,0,6,false,false,2⟩:=by rw[c];rfl
  rw[hf] at h3'
  dsimp only at h3'
  omega
 ·have hf:cF x.op=⟨1,0,0,true,false,2⟩:=by rw[c];rfl
  rw[hf] at h4'
  simpa using h4'.1.2
 ·have hf:cF x.op=⟨0,0,0,true,true,0⟩:=by rw[c];rfl
  rw[hf] at h4'
  simpa using h4'.1.2
end
section
open Go.RowKit
theorem tP:(Tryz.prog.info? 34).map (·.size)=some 13:=by kernel_rfl
theorem cT.size13 {w:World} {B:Nat} {cs:List Value} {t:aN} (h:cT w B cs t):(Tryz.prog.info? 34).map (·.size)=some cs.length:=by
 obtain⟨i,e,ct,cb,rfl,-,-,⟨_,_,rfl,-⟩,⟨_,_,rfl,-⟩,-⟩:=h
 exact tP
theorem cT.at3 {w:World} {B:Nat} {cs:List Value} {t:aN} (h:cT w B cs t):∃Ai ni,cs[3]? = some (.slice Ai t.ins.length ni)∧aH w B 8 wR (.slice Ai t.ins.length ni) t.ins:=by
 obtain⟨i,e,ct,cb,rfl,hi,-,⟨_,_,rfl,-⟩,⟨_,_,rfl,-⟩,-⟩:=h
 obtain⟨Ai,ni,rfl,-⟩:=id hi
 exact⟨Ai,ni,rfl,hi⟩
theorem cT.at4 {w:World} {B:Nat} {cs:List Value} {t:aN} (h:cT w B cs t):∃Ae ne,cs[4]? = some (.slice Ae t.exits.length ne)∧aH w B 4 (gF w B) (.slice Ae t.exits.length ne) t.exits:=by
 obtain⟨i,e,ct,cb,rfl,-,he,⟨_,_,rfl,-⟩,⟨_,_,rfl,-⟩,-⟩:=h
 obtain⟨Ae,ne,rfl,-⟩:=id he
 exact⟨Ae,ne,rfl,he⟩
theorem cT.at012 {w:World} {B:Nat} {cs:List Value} {t:aN} (h:cT w B cs t):cs[0]? = some (.int .i64 t.fn)∧cs[1]? = some (.int .i64 t.at_)∧cs[2]? = some (.int .i64 t.loop)∧wfi t.fn∧wfi t.at_∧wfi t.loop:=by
 obtain⟨i,e,ct,cb,rfl,-,-,⟨_,_,rfl,-⟩,⟨_,_,rfl,-⟩,h1,h2,h3⟩:=h
 exact⟨rfl,rfl,rfl,h1,h2,h3⟩
theorem insAt_some {ins:List bG} {k:Nat} {x:bG} (h:ins[k]? = some x):insAt ins k=x∧nQ ins k=x.op:=by
 unfold insAt nQ
 rw[Int.toNat_natCast,h]
 exact⟨rfl,rfl⟩
theorem acX {w W:World} {b o:Nat} {x:bG} (hat:hJ w b o (jS x)) (hb:b<w.heap.size) (hk:Below w.heap.size w W) :
  W.cell? ⟨b,o,none⟩=some (.int .i64 x.op)∧W.cell? ⟨b,o+1,none⟩=some (.int .i64 x.a)∧W.cell? ⟨b,o+2,none⟩=some (.int .i64 x.b)∧W.cell? ⟨b,o+3,none⟩=some (.int .i64 x.c)∧
   W.cell? ⟨b,o+4,none⟩=some (.int .i64 x.n)∧W.cell? ⟨b,o+5,none⟩=some (.int .i64 x.exit)∧W.cell? ⟨b,o+6,none⟩=some (.int .i64 x.k.kind)∧W.cell? ⟨b,o+7,none⟩=some (.int .i64 x.k.n):=
 ⟨(hk.cell hb).trans (hat 0 _ rfl),(hk.cell hb).trans (hat 1 _ rfl),(hk.cell hb).trans (hat 2 _ rfl),(hk.cell hb).trans (hat 3 _ rfl),(hk.cell hb).trans (hat 4 _ rfl),(hk.cell hb).trans (hat 5 _ rfl),(hk.cell hb).trans (hat 6 _ rfl),(hk.cell hb).trans (hat 7 _ rfl)⟩
theorem own_c (ca:List Value) (t:aN) (k:Nat) (x:bG) (w:World) (h:cT w w.heap.size ca t) (hx:t.ins[k]? = some x)
  (hk:∀w1,Below w.heap.size w w1→Calls Tryz.prog 25 #[.agg ⟨ca⟩,.int .i64 x.a,.int .i64 k] w1 (aM (.int .i64 (hZ t.ins x.a k)) w1)) :
  Calls Tryz.prog 52 #[.agg ⟨ca⟩,.int .i64 k] w (aM (.int .i64 (mG (hZ t.ins · k) x)) w):=by
 obtain⟨r,hr⟩:∃r,mG (hZ t.ins · k) x=r:=⟨_,rfl⟩
 rw[hr]
 unfold mG at hr
 dsimp only at hr
 have HI:=hI h.size13
 obtain⟨Ai,ni,p3,q⟩:=h.at3
 have ll:=aP q
 have hlt:k<t.ins.length:=(lE hx).1
 obtain⟨b,off,y,rfl,hb,hy,wy,hat⟩:=rN q hlt
 rw[hx] at hy
 obtain rfl:x=y:=by injection hy
 have hk1:(k:Int)<t.ins.length:=by omega
 obtain⟨op,xa,xb,xc,xn,xe,⟨kk,kn⟩⟩:=x
 have K2:Hid (Below w.heap.size w ((w.alloc (.cells ⟨ca⟩ 34)).alloc (.cells #[.int .i64 op,.int .i64 xa,.int .i64 xb,.int .i64 xc,.int .i64 xn,.int .i64 xe,.int .i64 kk,.int .i64 kn] 92))):=bE w _ _
 have H0:Hid (aA ((w.alloc (.cells ⟨ca⟩ 34)).alloc (.cells #[.int .i64 op,.int .i64 xa,.int .i64 xb,.int .i64 xc,.int .i64 xn,.int .i64 xe,.int .i64 kk,.int .i64 kn] 92)) w.heap.size ca):=(jZ w ca _ _ _).1
 obtain⟨g0,g1,g2,g3,g4,g5,g6,g7⟩:=acX hat hb (aB w (.cells ⟨ca⟩ 34))
 dsimp only at g0 g1 g2 g3 g4 g5 g6 g7 hr
 obtain⟨z,hz⟩:∃z,hZ t.ins xa k=z:=⟨_,rfl⟩
 simp only[hz] at hr
 have HK:Hid (Calls Tryz.prog 25 #[.agg ⟨ca⟩,.int .i64 xa,.int .i64 k] ((w.alloc (.cells ⟨ca⟩ 34)).alloc (.cells #[.int .i64 op,.int .i64 xa,.int .i64 xb,.int .i64 xc,.int .i64 xn,.int .i64 xe,.int .i64 kk,.int .i64 kn] 92)) (fun e w1=>e=.returned (.int .i64 z)∧Below w.heap.size w w1)):=(hk _ K2.out).mono fun e w1 ⟨h1,h2⟩=>⟨by rw[h1,←hz],K2.out.trans (h2.mono K2.out.size)⟩
 clear h q hat hx hy hk hz
 by_cases o2:op=2
 ·rw[if_pos o2] at hr
  subst o2
  have HR:=hI hr
  clear hr
  go_enter Tryz.func52,Tryz.ntmps52
  go_wp2_with fail
  go_ret
  exact⟨by rw[←HR.out];rfl,K2.out⟩
 rw[if_neg o2] at hr
 by_cases o15:op=15
 ·rw[if_pos o15] at hr
  subst o15
  have HR:=hI hr
  clear hr
  go_enter Tryz.func52,Tryz.ntmps52
  go_wp2_with fail
  go_ret
  exact⟨by rw[←HR.out];rfl,K2.out⟩
 rw[if_neg o15] at hr
 by_cases o16:op=16
 ·rw[if_pos o16] at hr
  subst o16
  have HR:=hI hr
  clear hr
  go_enter Tryz.func52,Tryz.ntmps52
  go_wp2_with fail
  go_ret
  exact⟨by rw[←HR.out];rfl,K2.out⟩
 rw[if_neg o16] at hr
 by_cases o18:op=18
 ·rw[if_pos o18] at hr
  subst o18
  have HR:=hI hr
  clear hr
  go_enter Tryz.func52,Tryz.ntmps52
  go_wp2_with fail
  go_ret
  exact⟨by rw[←HR.out];rfl,K2.out⟩
 rw[if_neg o18] at hr
 by_cases o7:op=7
 ·rw[if_pos (by omega)] at hr
  have hcl:((8≤xn∧xn≤10)∨¬(8≤xn∧xn≤10)):=Classical.em _
  rcases hcl with hc | hc
  ·rw[if_pos (by omega)] at hr
   subst o7
   obtain⟨c1,c2⟩:=hc
   have HR:=hI hr
   clear hr
   go_enter Tryz.func52,Tryz.ntmps52
   go_wp2_with fail
   go_ret
   exact⟨by rw[←HR.out];rfl,K2.out⟩
  ·rw[if_neg (by omega)] at hr
   subst o7
   have hs:(¬ 8≤xn∧xn≤10∧¬xn=11)∨(8≤xn∧¬xn≤10∧xn=11)∨(8≤xn∧¬xn≤10∧¬xn=11):=by omega
   have n11:xn=11∨(xn == 11)=false:=by
    by_cases h:xn=11
    ·exact .inl h
    ·exact .inr (beq_eq_false_iff_ne.2 h)
   clear hc
   rcases hs with hs | hs
   ·obtain⟨b1,b2,b3⟩:=hs
    clear n11
    have b3':(xn == 11)=false:=beq_eq_false_iff_ne.2 b3
    go_enter Tryz.func52,Tryz.ntmps52
    go_wp2_with (refine wpList_load_mid rfl 34 _ rfl w.heap.size 0 rfl ca _ H0.out.range Tryz.underlying34 rfl HI.out ?_)
    refine HK.out.mono ?_
    rintro e w1 ⟨rfl,k1⟩
    have K1:=hI k1
    clear k1
    by_cases z2:z=2
    ·subst z2
     have HR:=hI hr
     clear hr
     go_wp2_with fail
     go_ret
     exact⟨by rw[←HR.out];rfl,K1.out⟩
    by_cases z3:z=3
    ·subst z3
     have HR:=hI hr
     clear hr
     go_wp2_with fail
     go_ret
     exact⟨by rw[←HR.out];rfl,K1.out⟩
    rw[if_neg (by omega)] at hr
    have z2':(z == 2)=false:=beq_eq_false_iff_ne.2 z2
    have z3':(z == 3)=false:=beq_eq_false_iff_ne.2 z3
    have HR:=hI hr
    clear hr
    go_wp2_with fail
    go_ret
    exact⟨by rw[←HR.out];rfl,K1.out⟩
   rcases hs with hs | hs
   ·obtain⟨b1,b2,b3⟩:=hs
    clear n11
    subst b3
    go_enter Tryz.func52,Tryz.ntmps52
    go_wp2_with (refine wpList_load_mid rfl 34 _ rfl w.heap.size 0 rfl ca _ H0.out.range Tryz.underlying34 rfl HI.out ?_)
    refine HK.out.mono ?_
    rintro e w1 ⟨rfl,k1⟩
    have K1:=hI k1
    clear k1
    by_cases z2:z=2
    ·subst z2
     have HR:=hI hr
     clear hr
     go_wp2_with fail
     go_ret
     exact⟨by rw[←HR.out];rfl,K1.out⟩
    by_cases z3:z=3
    ·subst z3
     have HR:=hI hr
     clear hr
     go_wp2_with fail
     go_ret
     exact⟨by rw[←HR.out];rfl,K1.out⟩
    rw[if_neg (by omega)] at hr
    have z2':(z == 2)=false:=beq_eq_false_iff_ne.2 z2
    have z3':(z == 3)=false:=beq_eq_false_iff_ne.2 z3
    have HR:=hI hr
    clear hr
    go_wp2_with fail
    go_ret
    exact⟨by rw[←HR.out];rfl,K1.out⟩
   obtain⟨b1,b2,b3⟩:=hs
   clear n11
   have b3':(xn == 11)=false:=beq_eq_false_iff_ne.2 b3
   go_enter Tryz.func52,Tryz.ntmps52
   go_wp2_with (refine wpList_load_mid rfl 34 _ rfl w.heap.size 0 rfl ca _ H0.out.range Tryz.underlying34 rfl HI.out ?_)
   refine HK.out.mono ?_
   rintro e w1 ⟨rfl,k1⟩
   have K1:=hI k1
   clear k1
   by_cases z2:z=2
   ·subst z2
    have HR:=hI hr
    clear hr
    go_wp2_with fail
    go_ret
    exact⟨by rw[←HR.out];rfl,K1.out⟩
   by_cases z3:z=3
   ·subst z3
    have HR:=hI hr
    clear hr
    go_wp2_with fail
    go_ret
    exact⟨by rw[←HR.out];rfl,K1.out⟩
   rw[if_neg (by omega)] at hr
   have z2':(z == 2)=false:=beq_eq_false_iff_ne.2 z2
   have z3':(z == 3)=false:=beq_eq_false_iff_ne.2 z3
   have HR:=hI hr
   clear hr
   go_wp2_with fail
   go_ret
   exact⟨by rw[←HR.out];rfl,K1.out⟩
 by_cases o8:op=8
 ·rw[if_pos (by omega)] at hr
  have hcl:((xn=11)∨¬(xn=11)):=Classical.em _
  rcases hcl with hc | hc
  ·rw[if_pos (by omega)] at hr
   subst o8
   subst hc
   have HR:=hI hr
   clear hr
   go_enter Tryz.func52,Tryz.ntmps52
   go_wp2_with fail
   go_ret
   exact⟨by rw[←HR.out];rfl,K2.out⟩
  ·rw[if_neg (by omega)] at hr
   subst o8
   have hs:(¬ 8≤xn∧xn≤10∧¬xn=11)∨(8≤xn∧xn≤10∧¬xn=11)∨(8≤xn∧¬xn≤10∧¬xn=11):=by omega
   have n11:xn=11∨(xn == 11)=false:=by
    by_cases h:xn=11
    ·exact .inl h
    ·exact .inr (beq_eq_false_iff_ne.2 h)
   clear hc
   rcases hs with hs | hs
   ·obtain⟨b1,b2,b3⟩:=hs
    clear n11
    have b3':(xn == 11)=false:=beq_eq_false_iff_ne.2 b3
    go_enter Tryz.func52,Tryz.ntmps52
    go_wp2_with (refine wpList_load_mid rfl 34 _ rfl w.heap.size 0 rfl ca _ H0.out.range Tryz.underlying34 rfl HI.out ?_)
    refine HK.out.mono ?_
    rintro e w1 ⟨rfl,k1⟩
    have K1:=hI k1
    clear k1
    by_cases z2:z=2
    ·subst z2
     have HR:=hI hr
     clear hr
     go_wp2_with fail
     go_ret
     exact⟨by rw[←HR.out];rfl,K1.out⟩
    by_cases z3:z=3
    ·subst z3
     have HR:=hI hr
     clear hr
     go_wp2_with fail
     go_ret
     exact⟨by rw[←HR.out];rfl,K1.out⟩
    rw[if_neg (by omega)] at hr
    have z2':(z == 2)=false:=beq_eq_false_iff_ne.2 z2
    have z3':(z == 3)=false:=beq_eq_false_iff_ne.2 z3
    have HR:=hI hr
    clear hr
    go_wp2_with fail
    go_ret
    exact⟨by rw[←HR.out];rfl,K1.out⟩
   rcases hs with hs | hs
   ·obtain⟨b1,b2,b3⟩:=hs
    clear n11
    have b3':(xn == 11)=false:=beq_eq_false_iff_ne.2 b3
    go_enter Tryz.func52,Tryz.ntmps52
    go_wp2_with (refine wpList_load_mid rfl 34 _ rfl w.heap.size 0 rfl ca _ H0.out.range Tryz.underlying34 rfl HI.out ?_)
    refine HK.out.mono ?_
    rintro e w1 ⟨rfl,k1⟩
    have K1:=hI k1
    clear k1
    by_cases z2:z=2
    ·subst z2
     have HR:=hI hr
     clear hr
     go_wp2_with fail
     go_ret
     exact⟨by rw[←HR.out];rfl,K1.out⟩
    by_cases z3:z=3
    ·subst z3
     have HR:=hI hr
     clear hr
     go_wp2_with fail
     go_ret
     exact⟨by rw[←HR.out];rfl,K1.out⟩
    rw[if_neg (by omega)] at hr
    have z2':(z == 2)=false:=beq_eq_false_iff_ne.2 z2
    have z3':(z == 3)=false:=beq_eq_false_iff_ne.2 z3
    have HR:=hI hr
    clear hr
    go_wp2_with fail
    go_ret
    exact⟨by rw[←HR.out];rfl,K1.out⟩
   obtain⟨b1,b2,b3⟩:=hs
   clear n11
   have b3':(xn == 11)=false:=beq_eq_false_iff_ne.2 b3
   go_enter Tryz.func52,Tryz.ntmps52
   go_wp2_with (refine wpList_load_mid rfl 34 _ rfl w.heap.size 0 rfl ca _ H0.out.range Tryz.underlying34 rfl HI.out ?_)
   refine HK.out.mono ?_
   rintro e w1 ⟨rfl,k1⟩
   have K1:=hI k1
   clear k1
   by_cases z2:z=2
   ·subst z2
    have HR:=hI hr
    clear hr
    go_wp2_with fail
    go_ret
    exact⟨by rw[←HR.out];rfl,K1.out⟩
   by_cases z3:z=3
   ·subst z3
    have HR:=hI hr
    clear hr
    go_wp2_with fail
    go_ret
    exact⟨by rw[←HR.out];rfl,K1.out⟩
   rw[if_neg (by omega)] at hr
   have z2':(z == 2)=false:=beq_eq_false_iff_ne.2 z2
   have z3':(z == 3)=false:=beq_eq_false_iff_ne.2 z3
   have HR:=hI hr
   clear hr
   go_wp2_with fail
   go_ret
   exact⟨by rw[←HR.out];rfl,K1.out⟩
 rw[if_neg (by omega)] at hr
 have m2:(op == 2)=false:=beq_eq_false_iff_ne.2 o2
 have m15:(op == 15)=false:=beq_eq_false_iff_ne.2 o15
 have m16:(op == 16)=false:=beq_eq_false_iff_ne.2 o16
 have m18:(op == 18)=false:=beq_eq_false_iff_ne.2 o18
 have m7:(op == 7)=false:=beq_eq_false_iff_ne.2 o7
 have m8:(op == 8)=false:=beq_eq_false_iff_ne.2 o8
 have HR:=hI hr
 clear hr
 go_enter Tryz.func52,Tryz.ntmps52
 go_wp2_with fail
 go_ret
 exact⟨by rw[←HR.out];rfl,K2.out⟩
end
end Go.Proofs.YtjaphgpkkfdaaaaGreatDoor
