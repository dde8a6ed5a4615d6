/- A part of the walk. -/
import Derived.Test.YtjaphgpkkfdaaaaGreatDoorZV
import Derived.Test.YtjaphgpkkfdaaaaGreatDoorZX
set_option maxHeartbeats 16000000
set_option maxRecDepth 100000
set_option linter.all false
namespace Go.Proofs.YtjaphgpkkfdaaaaGreatDoor
open Tryz
section
open Go.RowKit
def cJ:hV:=⟨o4,mU,lF⟩
section
variable {Γ : kI} {w w':World} {W:aI} {cv vv:Value} {vs fs:List Value}
theorem qP (K:hP Γ) (L:bO Γ w W cv vv vs fs) (hn:W.vals.length<=300) (hl:W.cells.length<=300) (x:bG) (ha:0<=x.a/\x.a<W.vals.length) (f9:x.op=4\/x.op=5\/x.op=6\/x.op=9) : Calls prog 143 #[.pointer (some ⟨Γ.wb,0,none⟩),.agg #[.int .i64 x.op,.int .i64 x.a,.int .i64 x.b,.int .i64 x.c,.int .i64 x.n,.int .i64 x.exit,.int .i64 x.k.kind,.int .i64 x.k.n]] w λe w'=>e=.returned (.bool (iY cJ W x))/\Below w.heap.size w w':=by
 obtain⟨g,f2,b5,-,i1⟩:=L.vals.form (by omega);obtain⟨s,b6⟩:∃s:Nat,x.a=(s:Int):=⟨x.a.toNat,by omega⟩;have d8:s<W.vals.length:=by omega
 have h7:(s:Int)<W.vals.length:=by omega
 obtain⟨y,hy⟩:∃y,W.vals[s]? = some y:=⟨_,lG d8⟩;have S:=hI b6;have HY:=hI hy;obtain⟨w1,C⟩:∃w1,w1=w.alloc (.cells #[.int .i64 x.op,.int .i64 x.a,.int .i64 x.b,.int .i64 x.c,.int .i64 x.n,.int .i64 x.exit,.int .i64 x.k.kind,.int .i64 x.k.n] 92):=⟨_,rfl⟩;have K1:Hid (Below w.heap.size w w1):=by rw[C];exact aB _ _
 have i:Hid (aA w1 w.heap.size [.int .i64 x.op,.int .i64 x.a,.int .i64 x.b,.int .i64 x.c,.int .i64 x.n,.int .i64 x.exit,.int .i64 x.k.kind,.int .i64 x.k.n]):=by rw[C];exact ad5 _ _ _
 have a7:w1.heap.size=w.heap.size+1:=by rw[C];exact Array.size_push _
 have e1:=hI a7;have HK:=hI K;have L1:=hI (L.below K K1.o);have HV:=hI b5;have e3:=hI C;obtain⟨r,hr⟩:∃r,iY cJ W x=r:=⟨_,rfl⟩;rw[hr];have HG:Hid ((if x.op=4 then y.kind == x.n else if x.op=5 then lF y == (x.n == 1) else if x.op=6 then decide (y=x.k) else match eF W x.a with | none=>false | some (_,c)=>c.kind == x.n && (x.n != 1 || c.num == x.b))=r):=by
  show _=_
  rw[<-hr];unfold iY;rw[S.o,fR hy];rfl
 clear b6 hy a7 C hr b5 ha L K;have OW:=hI (L1.o.vals);rw[HV.o] at OW;have b0:∀E:Up w1,E.to.cell? ⟨Γ.wb,17,none⟩=some (.slice (some ⟨g,0,none⟩) W.vals.length f2):=λE=>E.cell (by have h:=L1.o.own HK.o 4;rw[HV.o] at h;exact h);have b1:∀E:Up w1,E.to.cell? ⟨w.heap.size,1,none⟩=some (.int .i64 s):=λE=>E.cell (by rw[<-S.o];exact i.o 1 _ rfl);have b2:∀E:Up w1,E.to.cell? ⟨g,s*2,none⟩=some (.int .i64 y.kind):=λE=>E.cell (by rw[OW.o.cellAt (s*2) (by omega)];exact bS HY.o (k:=0) (by decide));have b3:∀E:Up w1,E.to.cell? ⟨g,s*2+1,none⟩=some (.int .i64 y.n):=λE=>E.cell (by rw[OW.o.cellAt (s*2+1) (by omega)];exact bS HY.o (k:=1) (by decide));go_enter func143,ntmps143;go_upto_region 1 with fail;rw[<-e3.o];refine cV (λw'=>∃E:Up w1,w'=E.to) 8 [8,9] [8] (by kernel_rfl) (by decide) (by kernel_rfl) (λ_ _ d _ _ h=>by cases d <;> exact h) ⟨⟨_,(Below.refl _ w1).drew⟩,rfl⟩ ?_;simp only[List.take_succ_cons,List.take_zero];generalize c7:(λa'=>gA _ _ _ _ _ _ a' _)=qq;have a9:=hI c7;clear c7;repeat (go_big_quiet_step (fail))
 refine wpQuiet_nil ?_;rw[<-a9.o];clear a9 qq b0 b1 b2 b3;refine bA rfl (λK hK=>?_);go_simp;refine hK _ _ (λ_=>⟨⟨_,(Below.refl _ w1).drew.alloc (Nat.le_refl _) _⟩,rfl⟩) ?_;clear hK K;refine bP [9] _ _ (by kernel_rfl) (by kernel_rfl) ?_;simp only[List.filterMap_cons,List.filterMap_nil,List.getElem?_toArray,List.getElem?_cons_zero,List.getElem?_cons_succ];refine wpList_store_row rfl 48 _ _ rfl w1.heap.size #[.int .i64 y.kind,.int .i64 y.n] rfl rfl 48 _ (aJ w1.drew _) aF rfl (oC (by simp[Value.oneCell'])) ?_;generalize Z:World.setRow _ _ _=w3;have q:Hid (Below w1.heap.size w1 w3):=by rw[<-Z];exact(Below.refl _ w1).drew.trans (jF w1.drew _ _)
 have A3:Hid (w3.heap[w1.heap.size]? = some (.cells #[.int .i64 y.kind,.int .i64 y.n] 48 (0,0))):=by rw[<-Z];exact setRow_heap _ _ _ _ _ _ (aJ w1.drew _)
 have M:=btZ K1 q.o;have L3:=hI (L1.o.below HK.o q.o);obtain⟨ob,J⟩:∃o,o=w1.heap.size:=⟨_,rfl⟩;have h8:Hid (ob=w.heap.size+1):=by rw[J];exact e1.o
 rw[<-J] at A3;rw[<-J];clear J Z;(try dsimp only [Act.put]);have o0:=crZ A3 0 rfl;have o1:=crZ A3 1 rfl;have N:=aC q.o (i.o 0 _ rfl);have x4:=aC q.o (i.o 4 _ rfl);rcases f9 with h | h | h | h
 ·have j:Hid ((y.kind == x.n)=r):=by show _=_;rw[<-HG.o,if_pos h]
  rw[h] at N;clear h;go_wp2_with fail;go_ret;exact⟨by rw[<-j.o];rfl,M.o⟩
 ·have j:Hid ((lF y == (x.n == 1))=r):=by show _=_;rw[<-HG.o,if_neg (by omega),if_pos h]
  rw[h] at N;clear h;go_upto_region 6 with fail;have F:=ecZ o0;have G:=ecZ o1;have H:=ecZ x4;have TC:=hI (λW'=>tru_c y W');clear N x4 o0 o1;refine aD (by kernel_rfl) (by kernel_rfl) ?_;repeat (go_big_quiet_step ((go_at_call 168;with_reducible exact Calls.up (TC.o _))))
  refine wpQuiet_nil ?_;rintro _ ⟨E,rfl⟩;have A:=btZ M E.below;clear F G H;go_wp2_with fail;go_ret;exact⟨by rw[<-j.o];rfl,A.o⟩
 ·rw[h] at N;have x6:=aC q.o (i.o 6 _ rfl);have x7:=aC q.o (i.o 7 _ rfl);have b4:Hid ((decide (y=x.k))=r):=by show _=_;rw[<-HG.o,if_neg (by omega),if_neg (by omega),if_pos h]
  obtain⟨O,c5⟩:∃O,x.k=O:=⟨_,rfl⟩;rw[c5] at x6 x7;have V:Hid (decide (y=O)=r):=by show _=_;rw[<-c5];exact b4.o
  clear h b4;by_cases m:y.kind=O.kind
  ·rw[<-m] at x6;by_cases z:y.n=O.n;·rw[<-z] at x7;have j:Hid (true=r):=(by show _=_;rw[<-V.o,eq_comm,decide_eq_true_iff];cases y;cases O;dsimp only at m z;rw[m,z]);clear m z;go_wp2_with fail;go_ret;exact⟨by rw[<-j.o];rfl,M.o⟩
   ·have j:Hid (false=r):=(by show _=_;rw[<-V.o,eq_comm,decide_eq_false_iff_not];intro e;rw[e] at z;exact z rfl);clear m;go_wp2_with fail;go_ret;exact⟨by rw[<-j.o];rfl,M.o⟩
  ·have j:Hid (false=r):=(by show _=_;rw[<-V.o,eq_comm,decide_eq_false_iff_not];intro e;rw[e] at m;exact m rfl);go_wp2_with fail;go_ret;exact⟨by rw[<-j.o];rfl,M.o⟩
 ·have HS:Hid ((match eF W x.a with | none=>false | some (_,c)=>c.kind == x.n && (x.n != 1 || c.num == x.b))=r):=by show _=_;rw[<-HG.o,if_neg (by omega),if_neg (by omega),if_neg (by omega)]
  rw[h] at N;clear h;have CC:=hI (nY HK.o L3.o HY.o hl);rw[<-S.o] at CC;have x1:=aC q.o (i.o 1 _ rfl);go_wp2_with fail;refine CC.o.mono ?_;rintro e R ⟨rfl,Y⟩;have h9:=hI Y;have K4:=btZ M Y;have u:=btZ q Y;have L4:=hI (L3.o.below HK.o Y);clear Y x1 N x4 o0 o1;cases l:eF W x.a with
  | none=>
   rw[eV l]
   have j:Hid (false=r):=by show _=_;rw[<-HS.o,l]
   clear l
   go_upto_region 10 with fail
   refine aD (by kernel_rfl) (by kernel_rfl) ?_
   repeat (go_big_quiet_step (fail))
   refine wpQuiet_nil ?_
   rintro _ ⟨E,rfl⟩
   have A:=btZ K4 E.below
   go_wp2_with fail
   go_ret
   exact⟨by rw[<-j.o];rfl,A.o⟩
  | some p=>
   obtain⟨n,c⟩:=p
   obtain⟨gc,cc,v,f,vA,vc,f3,hc,hv,hf,f7,c6,D,P,c2,c3,i2⟩:=L4.o.atCell l
   rw[c6]
   have HT:Hid ((c.kind == x.n && (x.n != 1 || c.num == x.b))=r):=by show _=_;rw[<-HS.o,l]
   clear l c2 c3 hc hv hf c6 f3 f7
   by_cases m:c.kind=x.n
   ·by_cases I:x.n=1
    ·have f0:=hI I
     rw[m,I] at D
     have j:Hid ((c.num == x.b)=r):=by show _=_;rw[<-HT.o,m,I];simp
     clear m I
     have F:∀E:Up R,E.to.cell? ⟨w.heap.size,4,none⟩=some (.int .i64 1):=λE=>E.cell (by rw[<-f0.o];exact aC u.o (i.o 4 _ rfl))
     have G:=ecZ D
     have H:=ecZ P
     have X:∀E:Up R,E.to.cell? ⟨w.heap.size,2,none⟩=some (.int .i64 x.b):=λE=>E.cell (aC u.o (i.o 2 _ rfl))
     clear D P
     go_upto_region 10 with fail
     refine aD (by kernel_rfl) (by kernel_rfl) ?_
     repeat (go_big_quiet_step (fail))
     refine wpQuiet_nil ?_
     rintro _ ⟨E,rfl⟩
     have A:=btZ K4 E.below
     clear F G H X
     go_wp2_with fail
     go_ret
     exact⟨by rw[<-j.o];rfl,A.o⟩
    ·rw[m] at D
     have j:Hid (true=r):=by show _=_;rw[<-HT.o,m];simp[I]
     have i0:(x.n != 1)=true:=by simpa using I
     clear m I
     have F:∀E:Up R,E.to.cell? ⟨w.heap.size,4,none⟩=some (.int .i64 x.n):=λE=>E.cell (by exact aC u.o (i.o 4 _ rfl))
     have G:=ecZ D
     have H:=ecZ P
     have X:∀E:Up R,E.to.cell? ⟨w.heap.size,2,none⟩=some (.int .i64 x.b):=λE=>E.cell (aC u.o (i.o 2 _ rfl))
     clear D P
     go_upto_region 10 with fail
     refine aD (by kernel_rfl) (by kernel_rfl) ?_
     repeat (go_big_quiet_step (fail))
     refine wpQuiet_nil ?_
     rintro _ ⟨E,rfl⟩
     have A:=btZ K4 E.below
     clear F G H X
     go_wp2_with fail
     go_ret
     exact⟨by rw[<-j.o];rfl,A.o⟩
   ·have f1:(c.kind == x.n)=false:=by simpa using m
    have j:Hid (false=r):=by show _=_;rw[<-HT.o,f1];rfl
    clear m
    have F:∀E:Up R,E.to.cell? ⟨w.heap.size,4,none⟩=some (.int .i64 x.n):=λE=>E.cell (by exact aC u.o (i.o 4 _ rfl))
    have G:=ecZ D
    have H:=ecZ P
    have X:∀E:Up R,E.to.cell? ⟨w.heap.size,2,none⟩=some (.int .i64 x.b):=λE=>E.cell (aC u.o (i.o 2 _ rfl))
    clear D P
    go_upto_region 10 with fail
    refine aD (by kernel_rfl) (by kernel_rfl) ?_
    repeat (go_big_quiet_step (fail))
    refine wpQuiet_nil ?_
    rintro _ ⟨E,rfl⟩
    have A:=btZ K4 E.below
    clear F G H X
    go_wp2_with fail
    go_ret
    exact⟨by rw[<-j.o];rfl,A.o⟩
end
end
end Go.Proofs.YtjaphgpkkfdaaaaGreatDoor
