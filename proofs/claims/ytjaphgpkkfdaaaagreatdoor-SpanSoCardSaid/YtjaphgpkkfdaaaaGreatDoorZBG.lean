/- A part of the walk. -/
import Derived.Test.YtjaphgpkkfdaaaaGreatDoorZS
set_option maxHeartbeats 16000000
set_option maxRecDepth 100000
set_option linter.all false
namespace Go.Proofs.YtjaphgpkkfdaaaaGreatDoor
open Tryz
section
open Go.RowKit
theorem cT.cells4 {w:World} {B:Nat} {cs:List Value} {z:aN} (h:cT w B cs z):∃g d C f D E F G H I J K,cs=[.int .i64 z.fn,.int .i64 z.at_,.int .i64 z.loop,.slice g z.ins.length d,.slice C z.exits.length f,.int .i64 z.turn.at_,.int .i64 z.turn.steps,.slice D z.turn.sets.length E,.slice F z.turn.makes.length G,.int .i64 z.back.at_,.int .i64 z.back.steps,.slice H z.back.sets.length I,.slice J z.back.makes.length K]/\aH w B 8 wR (.slice g z.ins.length d) z.ins:=by obtain⟨i,e,L,cb,rfl,hi,⟨j,l,rfl,-⟩,⟨M,d,rfl,⟨m,p,rfl,-⟩,⟨q,r,rfl,-⟩,-⟩,⟨N,f,rfl,⟨s,u,rfl,-⟩,⟨v,x,rfl,-⟩,-⟩,-⟩:=h;obtain⟨y,A,rfl,-⟩:=id hi;exact⟨y,A,j,l,m,p,q,r,s,u,v,x,rfl,hi⟩
theorem ab5 (tcs cs:List Value) (t:aN) (S:aR) (K:Int) (w:World) (ht:cT w w.heap.size tcs t) (h:gK w w.heap.size cs S) (hth:wfi K) (h5:S.threads.length<=5) : Calls prog 28 #[.agg ⟨tcs⟩,.agg ⟨cs⟩,.int .i64 K] w (aM (.bool (gV t S K)) w):=by
 obtain⟨B1,m1,B2,m2,B3,m3,B4,m4,B5,m5,B6,m6,rfl,lz⟩:=ht.cells4;obtain⟨c,s,x,tv,en,sa,rfl,hc,a9,b0,I,b2,b3,wa,ws⟩:=h;have HT:=hI I;obtain⟨CA,cc,rfl,-⟩:=id hc;obtain⟨SA,sc,rfl,-⟩:=id a9;obtain⟨XA,xc,rfl,-⟩:=id b0;obtain⟨TA,tc,rfl,-⟩:=id I;obtain⟨EA,ec,rfl,-⟩:=id b2;obtain⟨AA,ac,rfl,-⟩:=id b3;obtain⟨r,hr⟩:∃r,gV t S K=r:=⟨_,rfl⟩;rw[hr];have HR:=hI hr;clear hc a9 b0 I b2 b3 lz ht hr;obtain⟨w1,y⟩:∃w1,w1=(w.alloc (.cells #[.int .i64 t.fn,.int .i64 t.at_,.int .i64 t.loop,.slice B1 t.ins.length m1,.slice B2 t.exits.length m2,.int .i64 t.turn.at_,.int .i64 t.turn.steps,.slice B3 t.turn.sets.length m3,.slice B4 t.turn.makes.length m4,.int .i64 t.back.at_,.int .i64 t.back.steps,.slice B5 t.back.sets.length m5,.slice B6 t.back.makes.length m6] 34)).alloc (.cells #[.slice CA S.cells.length cc,.slice SA S.shapes.length sc,.slice XA S.texts.length xc,.slice TA S.threads.length tc,.slice EA S.ends.length ec,.slice AA S.said.length ac,.int .i64 S.asked,.int .i64 S.steps] 40):=⟨_,rfl⟩;have u:Hid (Below w.heap.size w w1):=by rw[y];exact bE w _ _
 have l:Hid (aA w1 w.heap.size [.int .i64 t.fn,.int .i64 t.at_,.int .i64 t.loop,.slice B1 t.ins.length m1,.slice B2 t.exits.length m2,.int .i64 t.turn.at_,.int .i64 t.turn.steps,.slice B3 t.turn.sets.length m3,.slice B4 t.turn.makes.length m4,.int .i64 t.back.at_,.int .i64 t.back.steps,.slice B5 t.back.sets.length m5,.slice B6 t.back.makes.length m6]):=by rw[y];exact λi v hv=>by rw[kK];simpa using hv
 have L:Hid (aA w1 (w.heap.size+1) [.slice CA S.cells.length cc,.slice SA S.shapes.length sc,.slice XA S.texts.length xc,.slice TA S.threads.length tc,.slice EA S.ends.length ec,.slice AA S.said.length ac,.int .i64 S.asked,.int .i64 S.steps]):=by rw[y];exact λi v hv=>by rw[mM];simpa using hv
 have d0:=hI y;have s3:=L.o 3 _ rfl;clear y;go_enter func28,ntmps28;go_upto_region 1 with fail;rw[<-d0.o];by_cases h0:K<0
 ·have p:Hid (false=r):=by show _=_;rw[<-HR.o];unfold gV;rw[if_pos h0]
  go_wp2_with fail;go_ret;exact⟨by rw[<-p.o];rfl,u.o⟩
 ·obtain⟨k,rfl⟩:∃k:Nat,K=(k:Int):=⟨K.toNat,by omega⟩;by_cases hk:k<S.threads.length
  ·obtain⟨d,O⟩:∃d,S.threads[k]? = some d:=⟨_,lG hk⟩;obtain⟨tb,to_,h',j3,h4,z,P,-,⟨fv,rfl,Y,-⟩,q⟩:=HT.o.at_ (i:=k) hk;rw[O] at P;injection P with P;subst P
   subst h4;obtain⟨FA,W,rfl,-⟩:=id Y;have HF:=hI Y;have HH:=hI O;have d2:(k:Int)<S.threads.length:=(by omega);have g0:w1.cell? ⟨tb,to_+k*5,none⟩=some (.slice FA d.frames.length W):=(u.o.cell z).trans (q 0 _ rfl);have g1:w1.cell? ⟨tb,to_+k*5+1,none⟩=some (.int .i64 d.state):=(u.o.cell z).trans (q 1 _ rfl);have g2:w1.cell? ⟨tb,to_+k*5+2,none⟩=some (.int .i64 d.on_):=(u.o.cell z).trans (q 2 _ rfl);have g3:w1.cell? ⟨tb,to_+k*5+3,none⟩=some (.int .i64 d.val.kind):=(u.o.cell z).trans (q 3 _ rfl);have g4:w1.cell? ⟨tb,to_+k*5+4,none⟩=some (.int .i64 d.val.n):=(u.o.cell z).trans (q 4 _ rfl);obtain⟨e,R⟩:∃e,e=w1.alloc (.cells #[.slice FA d.frames.length W,.int .i64 d.state,.int .i64 d.on_,.int .i64 d.val.kind,.int .i64 d.val.n] 57):=⟨_,rfl⟩;have g:Hid (Below w1.heap.size w1 e):=(by rw[R];exact aB _ _);have m:Hid (aA e w1.heap.size [.slice FA d.frames.length W,.int .i64 d.state,.int .i64 d.on_,.int .i64 d.val.kind,.int .i64 d.val.n]):=(by rw[R];exact ad5 _ _ _);have V:=btZ u g.o;have d3:=hI R;have X:Hid ((match d.frames.getLast? with | none=>false | some f=>d.state == 0 && f.fn == t.fn && f.at_ == t.at_)=r):=by
    show _=_
    rw[<-HR.o];unfold gV;rw[if_neg h0,Int.toNat_natCast,O];rfl
   clear Y q R O;go_upto_region 5 with fail;rw[<-d3.o];clear g0 g1 g2 g3 g4 s3;by_cases hs:d.state=0
   ·have M:=hI hs;clear hs;cases hl:d.frames.length with
    | zero=>
     have p:Hid (false=r):=by show _=_;rw[<-X.o,List.length_eq_zero_iff.1 hl];rfl
     have Z:=hI hl
     clear hl
     have C:∀E:Up e,E.to.cell? ⟨w1.heap.size,1,none⟩=some (.int .i64 0):=λE=>E.cell (by rw[<-M.o];exact m.o 1 _ rfl)
     have D:∀E:Up e,E.to.cell? ⟨w1.heap.size,0,none⟩=some (.slice FA 0 W):=λE=>E.cell (by have h:=m.o 0 _ rfl;rw[Z.o] at h;exact h)
     have F:∀E:Up e,E.to.cell? ⟨w.heap.size,0,none⟩=some (.int .i64 t.fn):=λE=>E.cell (aC g.o (l.o 0 _ rfl))
     have G:∀E:Up e,E.to.cell? ⟨w.heap.size,1,none⟩=some (.int .i64 t.at_):=λE=>E.cell (aC g.o (l.o 1 _ rfl))
     refine aD (by kernel_rfl) (by kernel_rfl) ?_
     repeat (go_big_quiet_step (fail))
     refine wpQuiet_nil ?_
     rintro _ ⟨E,rfl⟩
     have H:=btZ V E.below
     clear C D F G
     go_wp2_with fail
     go_ret
     exact⟨by rw[<-p.o];rfl,H.o⟩
    | succ j=>
     obtain⟨fb,fo,f,j4,h6,b4,b5,-,⟨rg,tr,rfl,-⟩,J⟩:=HF.o.at_ (i:=j) (by omega)
     subst h6
     have i9:j+1<=9223372036854775807:=by
      obtain⟨_,k0,-,k1,h7,-⟩:=HF.o
      unfold maxLen at h7
      omega
     have j0:wrap64 (j:Int)=(j:Int):=by unfold wrap64;omega
     have j1:(j:Int)<(j:Int)+1:=by omega
     have N:d.frames.getLast? = some f:=by rw[List.getLast?_eq_getElem?,hl];exact b5
     have L:Hid ((d.state == 0 && f.fn == t.fn && f.at_ == t.at_)=r):=by show _=_;rw[<-X.o,N]
     have c0:e.cell? ⟨fb,fo+j*8,none⟩=some (.int .i64 f.fn):=(V.o.cell b4).trans (J 0 _ rfl)
     have c1:e.cell? ⟨fb,fo+j*8+1,none⟩=some (.int .i64 f.at_):=(V.o.cell b4).trans (J 1 _ rfl)
     have Z:=hI hl
     clear N J b5 hl
     by_cases A:f.fn=t.fn
     ·rw[A] at c0
      have d5:=hI A
      clear A
      have p:Hid ((f.at_ == t.at_)=r):=by show _=_;rw[<-L.o,M.o,d5.o];simp
      have C:∀E:Up e,E.to.cell? ⟨w1.heap.size,1,none⟩=some (.int .i64 0):=λE=>E.cell (by rw[<-M.o];exact m.o 1 _ rfl)
      have D:∀E:Up e,E.to.cell? ⟨w1.heap.size,0,none⟩=some (.slice (some ⟨fb,fo,none⟩) (j+1) W):=λE=>E.cell (by have h:=m.o 0 _ rfl;rw[Z.o] at h;exact h)
      have F:∀E:Up e,E.to.cell? ⟨w.heap.size,0,none⟩=some (.int .i64 t.fn):=λE=>E.cell (aC g.o (l.o 0 _ rfl))
      have G:∀E:Up e,E.to.cell? ⟨w.heap.size,1,none⟩=some (.int .i64 t.at_):=λE=>E.cell (aC g.o (l.o 1 _ rfl))
      have a4:=ecZ c0
      have a5:=ecZ c1
      refine aD (by kernel_rfl) (by kernel_rfl) ?_
      repeat (go_big_quiet_step (fail))
      refine wpQuiet_nil ?_
      rintro _ ⟨E,rfl⟩
      have H:=btZ V E.below
      clear C D F G a4 a5
      go_wp2_with fail
      go_ret
      exact⟨by rw[<-p.o];rfl,H.o⟩
     ·have p:Hid (false=r):=by show _=_;rw[<-L.o,show(f.fn == t.fn)=false by simpa using A];simp
      have i5:(f.fn == t.fn)=false:=by simpa using A
      have C:∀E:Up e,E.to.cell? ⟨w1.heap.size,1,none⟩=some (.int .i64 0):=λE=>E.cell (by rw[<-M.o];exact m.o 1 _ rfl)
      have D:∀E:Up e,E.to.cell? ⟨w1.heap.size,0,none⟩=some (.slice (some ⟨fb,fo,none⟩) (j+1) W):=λE=>E.cell (by have h:=m.o 0 _ rfl;rw[Z.o] at h;exact h)
      have F:∀E:Up e,E.to.cell? ⟨w.heap.size,0,none⟩=some (.int .i64 t.fn):=λE=>E.cell (aC g.o (l.o 0 _ rfl))
      have G:∀E:Up e,E.to.cell? ⟨w.heap.size,1,none⟩=some (.int .i64 t.at_):=λE=>E.cell (aC g.o (l.o 1 _ rfl))
      have a4:=ecZ c0
      have a5:=ecZ c1
      refine aD (by kernel_rfl) (by kernel_rfl) ?_
      repeat (go_big_quiet_step (fail))
      refine wpQuiet_nil ?_
      rintro _ ⟨E,rfl⟩
      have H:=btZ V E.below
      clear C D F G a4 a5
      go_wp2_with fail
      go_ret
      exact⟨by rw[<-p.o];rfl,H.o⟩
   ·have p:Hid (false=r):=(by show _=_;rw[<-X.o,show(d.state == 0)=false by simpa using hs];cases d.frames.getLast? <;> simp);have j2:(d.state == 0)=false:=(by simpa using hs);have C:=ecZ (m.o 1 _ rfl);have D:=ecZ (m.o 0 _ rfl);have F:∀E:Up e,E.to.cell? ⟨w.heap.size,0,none⟩=some (.int .i64 t.fn):=λE=>E.cell (aC g.o (l.o 0 _ rfl));have G:∀E:Up e,E.to.cell? ⟨w.heap.size,1,none⟩=some (.int .i64 t.at_):=λE=>E.cell (aC g.o (l.o 1 _ rfl));refine aD (by kernel_rfl) (by kernel_rfl) ?_;repeat (go_big_quiet_step (fail))
    refine wpQuiet_nil ?_;rintro _ ⟨E,rfl⟩;have H:=btZ V E.below;clear C D F G;go_wp2_with fail;go_ret;exact⟨by rw[<-p.o];rfl,H.o⟩
  ·have p:Hid (false=r):=(by show _=_;rw[<-HR.o];unfold gV;rw[if_neg h0,Int.toNat_natCast,List.getElem?_eq_none (Nat.le_of_not_lt hk)]);have d2:¬(k:Int)<S.threads.length:=(by omega);go_wp2_with fail;go_ret;exact⟨by rw[<-p.o];rfl,u.o⟩
end
end Go.Proofs.YtjaphgpkkfdaaaaGreatDoor
