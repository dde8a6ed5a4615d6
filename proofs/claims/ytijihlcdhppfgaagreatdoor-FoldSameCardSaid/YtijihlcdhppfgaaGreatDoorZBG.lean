/- A part of the walk. -/
import Derived.Test.YtijihlcdhppfgaaGreatDoorZS
set_option maxHeartbeats 16000000
set_option maxRecDepth 100000
set_option linter.all false
namespace Go.Proofs.YtijihlcdhppfgaaGreatDoor
open Tryz
section
open Go.RowKit
theorem bI.cells4 {w:World} {B:Nat} {cs:List Value} {z:aH} (h:bI w B cs z):∃g d E f F G H I J K L M,cs=[.int .i64 z.fn,.int .i64 z.at_,.int .i64 z.loop,.slice g z.ins.length d,.slice E z.exits.length f,.int .i64 z.turn.at_,.int .i64 z.turn.steps,.slice F z.turn.sets.length G,.slice H z.turn.makes.length I,.int .i64 z.back.at_,.int .i64 z.back.steps,.slice J z.back.sets.length K,.slice L z.back.makes.length M]/\aB w B 8 xP (.slice g z.ins.length d) z.ins:=by obtain⟨i,e,N,cb,rfl,hi,⟨j,l,rfl,-⟩,⟨s1,d,rfl,⟨p,q,rfl,-⟩,⟨r,s,rfl,-⟩,-⟩,⟨O,f,rfl,⟨u,v,rfl,-⟩,⟨x,y,rfl,-⟩,-⟩,-⟩:=h;obtain⟨A,D,rfl,-⟩:=id hi;exact⟨A,D,j,l,p,q,r,s,u,v,x,y,rfl,hi⟩
theorem ahZ (tcs cs:List Value) (t:aH) (S:aP) (th:Int) (w:World) (ht:bI w w.heap.size tcs t) (h:eB w w.heap.size cs S) (hth:wfi th) (h5:S.threads.length<=5) : Calls prog 67 #[.agg ⟨tcs⟩,.agg ⟨cs⟩,.int .i64 th] w (aK (.bool (iL t S th)) w):=by
 obtain⟨B1,m1,B2,m2,B3,m3,B4,m4,B5,m5,B6,m6,rfl,lz⟩:=ht.cells4;obtain⟨c,s,x,tv,en,sa,rfl,hc,b3,b4,L,b5,b6,wa,ws⟩:=h;have HT:=hI L;obtain⟨CA,cc,rfl,-⟩:=id hc;obtain⟨SA,sc,rfl,-⟩:=id b3;obtain⟨XA,xc,rfl,-⟩:=id b4;obtain⟨TA,tc,rfl,-⟩:=id L;obtain⟨EA,ec,rfl,-⟩:=id b5;obtain⟨AA,ac,rfl,-⟩:=id b6;obtain⟨r,hr⟩:∃r,iL t S th=r:=⟨_,rfl⟩;rw[hr];have HR:=hI hr;clear hc b3 b4 L b5 b6 lz ht hr;obtain⟨w1,A⟩:∃w1,w1=(w.alloc (.cells #[.int .i64 t.fn,.int .i64 t.at_,.int .i64 t.loop,.slice B1 t.ins.length m1,.slice B2 t.exits.length m2,.int .i64 t.turn.at_,.int .i64 t.turn.steps,.slice B3 t.turn.sets.length m3,.slice B4 t.turn.makes.length m4,.int .i64 t.back.at_,.int .i64 t.back.steps,.slice B5 t.back.sets.length m5,.slice B6 t.back.makes.length m6] 34)).alloc (.cells #[.slice CA S.cells.length cc,.slice SA S.shapes.length sc,.slice XA S.texts.length xc,.slice TA S.threads.length tc,.slice EA S.ends.length ec,.slice AA S.said.length ac,.int .i64 S.asked,.int .i64 S.steps] 40):=⟨_,rfl⟩;have z:Hid (Below w.heap.size w w1):=by rw[A];exact bV w _ _
 have p:Hid (aJ w1 w.heap.size [.int .i64 t.fn,.int .i64 t.at_,.int .i64 t.loop,.slice B1 t.ins.length m1,.slice B2 t.exits.length m2,.int .i64 t.turn.at_,.int .i64 t.turn.steps,.slice B3 t.turn.sets.length m3,.slice B4 t.turn.makes.length m4,.int .i64 t.back.at_,.int .i64 t.back.steps,.slice B5 t.back.sets.length m5,.slice B6 t.back.makes.length m6]):=by rw[A];exact λi v hv=>by rw[jI];simpa using hv
 have N:Hid (aJ w1 (w.heap.size+1) [.slice CA S.cells.length cc,.slice SA S.shapes.length sc,.slice XA S.texts.length xc,.slice TA S.threads.length tc,.slice EA S.ends.length ec,.slice AA S.said.length ac,.int .i64 S.asked,.int .i64 S.steps]):=by rw[A];exact λi v hv=>by rw[lN];simpa using hv
 have d3:=hI A;have s3:=N.o 3 _ rfl;clear A;go_enter func67,ntmps67;go_upto_region 1 with fail;rw[<-d3.o];by_cases h0:th<0
 ·have u:Hid (false=r):=by show _=_;rw[<-HR.o];unfold iL;rw[if_pos h0]
  go_wp2_with fail;go_ret;exact⟨by rw[<-u.o];rfl,z.o⟩
 ·obtain⟨k,rfl⟩:∃k:Nat,th=(k:Int):=⟨th.toNat,by omega⟩;by_cases hk:k<S.threads.length
  ·obtain⟨d,R⟩:∃d,S.threads[k]? = some d:=⟨_,lG hk⟩;obtain⟨tb,to_,h',k1,h8,D,V,-,⟨fv,rfl,a7,-⟩,y⟩:=HT.o.at_ (i:=k) hk;rw[R] at V;injection V with V;subst V
   subst h8;obtain⟨FA,Z,rfl,-⟩:=id a7;have HF:=hI a7;have HH:=hI R;have d5:(k:Int)<S.threads.length:=(by omega);have g0:w1.cell? ⟨tb,to_+k*5,none⟩=some (.slice FA d.frames.length Z):=(z.o.cell D).trans (y 0 _ rfl);have g1:w1.cell? ⟨tb,to_+k*5+1,none⟩=some (.int .i64 d.state):=(z.o.cell D).trans (y 1 _ rfl);have g2:w1.cell? ⟨tb,to_+k*5+2,none⟩=some (.int .i64 d.on_):=(z.o.cell D).trans (y 2 _ rfl);have g3:w1.cell? ⟨tb,to_+k*5+3,none⟩=some (.int .i64 d.val.kind):=(z.o.cell D).trans (y 3 _ rfl);have g4:w1.cell? ⟨tb,to_+k*5+4,none⟩=some (.int .i64 d.val.n):=(z.o.cell D).trans (y 4 _ rfl);obtain⟨g,X⟩:∃g,g=w1.alloc (.cells #[.slice FA d.frames.length Z,.int .i64 d.state,.int .i64 d.on_,.int .i64 d.val.kind,.int .i64 d.val.n] 140):=⟨_,rfl⟩;have l:Hid (Below w1.heap.size w1 g):=(by rw[X];exact aA _ _);have q:Hid (aJ g w1.heap.size [.slice FA d.frames.length Z,.int .i64 d.state,.int .i64 d.on_,.int .i64 d.val.kind,.int .i64 d.val.n]):=(by rw[X];exact akV _ _ _);have Y:=btZ z l.o;have d6:=hI X;have a6:Hid ((match d.frames.getLast? with | none=>false | some f=>d.state == 0 && f.fn == t.fn && f.at_ == t.at_)=r):=by
    show _=_
    rw[<-HR.o];unfold iL;rw[if_neg h0,Int.toNat_natCast,R];rfl
   clear a7 y X R;go_upto_region 5 with fail;rw[<-d6.o];clear g0 g1 g2 g3 g4 s3;by_cases hs:d.state=0
   ·have O:=hI hs;clear hs;cases hl:d.frames.length with
    | zero=>
     have u:Hid (false=r):=by show _=_;rw[<-a6.o,List.length_eq_zero_iff.1 hl];rfl
     have HL:=hI hl
     clear hl
     have G:∀E:Up g,E.to.cell? ⟨w1.heap.size,1,none⟩=some (.int .i64 0):=λE=>E.cell (by rw[<-O.o];exact q.o 1 _ rfl)
     have H:∀E:Up g,E.to.cell? ⟨w1.heap.size,0,none⟩=some (.slice FA 0 Z):=λE=>E.cell (by have h:=q.o 0 _ rfl;rw[HL.o] at h;exact h)
     have I:∀E:Up g,E.to.cell? ⟨w.heap.size,0,none⟩=some (.int .i64 t.fn):=λE=>E.cell (aC l.o (p.o 0 _ rfl))
     have J:∀E:Up g,E.to.cell? ⟨w.heap.size,1,none⟩=some (.int .i64 t.at_):=λE=>E.cell (aC l.o (p.o 1 _ rfl))
     refine aD (by kernel_rfl) (by kernel_rfl) ?_
     repeat (go_big_quiet_step (fail))
     refine wpQuiet_nil ?_
     rintro _ ⟨E,rfl⟩
     have K:=btZ Y E.below
     clear G H I J
     go_wp2_with fail
     go_ret
     exact⟨by rw[<-u.o];rfl,K.o⟩
    | succ j=>
     obtain⟨fb,fo,f,k2,h9,c2,c3,-,⟨rg,tr,rfl,-⟩,M⟩:=HF.o.at_ (i:=j) (by omega)
     subst h9
     have j2:j+1<=9223372036854775807:=by
      obtain⟨_,k3,-,k4,i0,-⟩:=HF.o
      unfold maxLen at i0
      omega
     have j3:wrap64 (j:Int)=(j:Int):=by unfold wrap64;omega
     have j4:(j:Int)<(j:Int)+1:=by omega
     have P:d.frames.getLast? = some f:=by rw[List.getLast?_eq_getElem?,hl];exact c3
     have N:Hid ((d.state == 0 && f.fn == t.fn && f.at_ == t.at_)=r):=by show _=_;rw[<-a6.o,P]
     have c0:g.cell? ⟨fb,fo+j*8,none⟩=some (.int .i64 f.fn):=(Y.o.cell c2).trans (M 0 _ rfl)
     have c1:g.cell? ⟨fb,fo+j*8+1,none⟩=some (.int .i64 f.at_):=(Y.o.cell c2).trans (M 1 _ rfl)
     have HL:=hI hl
     clear P M c3 hl
     by_cases F:f.fn=t.fn
     ·rw[F] at c0
      have d8:=hI F
      clear F
      have u:Hid ((f.at_ == t.at_)=r):=by show _=_;rw[<-N.o,O.o,d8.o];simp
      have G:∀E:Up g,E.to.cell? ⟨w1.heap.size,1,none⟩=some (.int .i64 0):=λE=>E.cell (by rw[<-O.o];exact q.o 1 _ rfl)
      have H:∀E:Up g,E.to.cell? ⟨w1.heap.size,0,none⟩=some (.slice (some ⟨fb,fo,none⟩) (j+1) Z):=λE=>E.cell (by have h:=q.o 0 _ rfl;rw[HL.o] at h;exact h)
      have I:∀E:Up g,E.to.cell? ⟨w.heap.size,0,none⟩=some (.int .i64 t.fn):=λE=>E.cell (aC l.o (p.o 0 _ rfl))
      have J:∀E:Up g,E.to.cell? ⟨w.heap.size,1,none⟩=some (.int .i64 t.at_):=λE=>E.cell (aC l.o (p.o 1 _ rfl))
      have a4:=ecZ c0
      have a5:=ecZ c1
      refine aD (by kernel_rfl) (by kernel_rfl) ?_
      repeat (go_big_quiet_step (fail))
      refine wpQuiet_nil ?_
      rintro _ ⟨E,rfl⟩
      have K:=btZ Y E.below
      clear G H I J a4 a5
      go_wp2_with fail
      go_ret
      exact⟨by rw[<-u.o];rfl,K.o⟩
     ·have u:Hid (false=r):=by show _=_;rw[<-N.o,show(f.fn == t.fn)=false by simpa using F];simp
      have j0:(f.fn == t.fn)=false:=by simpa using F
      have G:∀E:Up g,E.to.cell? ⟨w1.heap.size,1,none⟩=some (.int .i64 0):=λE=>E.cell (by rw[<-O.o];exact q.o 1 _ rfl)
      have H:∀E:Up g,E.to.cell? ⟨w1.heap.size,0,none⟩=some (.slice (some ⟨fb,fo,none⟩) (j+1) Z):=λE=>E.cell (by have h:=q.o 0 _ rfl;rw[HL.o] at h;exact h)
      have I:∀E:Up g,E.to.cell? ⟨w.heap.size,0,none⟩=some (.int .i64 t.fn):=λE=>E.cell (aC l.o (p.o 0 _ rfl))
      have J:∀E:Up g,E.to.cell? ⟨w.heap.size,1,none⟩=some (.int .i64 t.at_):=λE=>E.cell (aC l.o (p.o 1 _ rfl))
      have a4:=ecZ c0
      have a5:=ecZ c1
      refine aD (by kernel_rfl) (by kernel_rfl) ?_
      repeat (go_big_quiet_step (fail))
      refine wpQuiet_nil ?_
      rintro _ ⟨E,rfl⟩
      have K:=btZ Y E.below
      clear G H I J a4 a5
      go_wp2_with fail
      go_ret
      exact⟨by rw[<-u.o];rfl,K.o⟩
   ·have u:Hid (false=r):=(by show _=_;rw[<-a6.o,show(d.state == 0)=false by simpa using hs];cases d.frames.getLast? <;> simp);have k0:(d.state == 0)=false:=(by simpa using hs);have G:=ecZ (q.o 1 _ rfl);have H:=ecZ (q.o 0 _ rfl);have I:∀E:Up g,E.to.cell? ⟨w.heap.size,0,none⟩=some (.int .i64 t.fn):=λE=>E.cell (aC l.o (p.o 0 _ rfl));have J:∀E:Up g,E.to.cell? ⟨w.heap.size,1,none⟩=some (.int .i64 t.at_):=λE=>E.cell (aC l.o (p.o 1 _ rfl));refine aD (by kernel_rfl) (by kernel_rfl) ?_;repeat (go_big_quiet_step (fail))
    refine wpQuiet_nil ?_;rintro _ ⟨E,rfl⟩;have K:=btZ Y E.below;clear G H I J;go_wp2_with fail;go_ret;exact⟨by rw[<-u.o];rfl,K.o⟩
  ·have u:Hid (false=r):=(by show _=_;rw[<-HR.o];unfold iL;rw[if_neg h0,Int.toNat_natCast,List.getElem?_eq_none (Nat.le_of_not_lt hk)]);have d5:¬(k:Int)<S.threads.length:=(by omega);go_wp2_with fail;go_ret;exact⟨by rw[<-u.o];rfl,z.o⟩
end
end Go.Proofs.YtijihlcdhppfgaaGreatDoor
