/- A part of the walk. -/
import Derived.Test.YtijihlcdhppfgaaGreatDoorZW
set_option maxHeartbeats 16000000
set_option maxRecDepth 100000
set_option linter.all false
namespace Go.Proofs.YtijihlcdhppfgaaGreatDoor
open Tryz
section
open Go.RowKit
def cU:iH:=⟨qY,jV,oD⟩
section
variable {Γ : mW} {w w':World} {W:aG} {cv vv:Value} {vs fs:List Value}
theorem vC (K:jZ Γ) (L:cC Γ w W cv vv vs fs) (hn:W.vals.length<=300) (hl:W.cells.length<=300) (x:aT) (ha:0<=x.a/\x.a<W.vals.length) (g1:x.op=4\/x.op=5\/x.op=6\/x.op=9) : Calls prog 232 #[.pointer (some ⟨Γ.wb,0,none⟩),.agg #[.int .i64 x.op,.int .i64 x.a,.int .i64 x.b,.int .i64 x.c,.int .i64 x.n,.int .i64 x.exit,.int .i64 x.k.kind,.int .i64 x.k.n]] w λe w'=>e=.returned (.bool (jF cU W x))/\Below w.heap.size w w':=by
 obtain⟨g,f7,c5,-,i3⟩:=L.vals.form (by omega);obtain⟨z,c6⟩:∃z:Nat,x.a=(z:Int):=⟨x.a.toNat,by omega⟩;have e1:z<W.vals.length:=by omega
 have h9:(z:Int)<W.vals.length:=by omega
 obtain⟨y,hy⟩:∃y,W.vals[z]? = some y:=⟨_,lG e1⟩;have X:=hI c6;have HY:=hI hy;obtain⟨w1,G⟩:∃w1,w1=w.alloc (.cells #[.int .i64 x.op,.int .i64 x.a,.int .i64 x.b,.int .i64 x.c,.int .i64 x.n,.int .i64 x.exit,.int .i64 x.k.kind,.int .i64 x.k.n] 53):=⟨_,rfl⟩;have K1:Hid (Below w.heap.size w w1):=by rw[G];exact aA _ _
 have j:Hid (aJ w1 w.heap.size [.int .i64 x.op,.int .i64 x.a,.int .i64 x.b,.int .i64 x.c,.int .i64 x.n,.int .i64 x.exit,.int .i64 x.k.kind,.int .i64 x.k.n]):=by rw[G];exact akV _ _ _
 have b4:w1.heap.size=w.heap.size+1:=by rw[G];exact Array.size_push _
 have e3:=hI b4;have HK:=hI K;have L1:=hI (L.below K K1.o);have HV:=hI c5;have e5:=hI G;obtain⟨r,hr⟩:∃r,jF cU W x=r:=⟨_,rfl⟩;rw[hr];have HG:Hid ((if x.op=4 then y.kind == x.n else if x.op=5 then oD y == (x.n == 1) else if x.op=6 then decide (y=x.k) else match dG W x.a with | none=>false | some (_,c)=>c.kind == x.n && (x.n != 1 || c.num == x.b))=r):=by
  show _=_
  rw[<-hr];unfold jF;rw[X.o,iJ hy];rfl
 clear c6 hy b4 G hr c5 ha L K;have OW:=hI (L1.o.vals);rw[HV.o] at OW;have b0:∀E:Up w1,E.to.cell? ⟨Γ.wb,17,none⟩=some (.slice (some ⟨g,0,none⟩) W.vals.length f7):=λE=>E.cell (by have h:=L1.o.own HK.o 4;rw[HV.o] at h;exact h);have b1:∀E:Up w1,E.to.cell? ⟨w.heap.size,1,none⟩=some (.int .i64 z):=λE=>E.cell (by rw[<-X.o];exact j.o 1 _ rfl);have b2:∀E:Up w1,E.to.cell? ⟨g,z*2,none⟩=some (.int .i64 y.kind):=λE=>E.cell (by rw[OW.o.cellAt (z*2) (by omega)];exact cF HY.o (k:=0) (by decide));have b3:∀E:Up w1,E.to.cell? ⟨g,z*2+1,none⟩=some (.int .i64 y.n):=λE=>E.cell (by rw[OW.o.cellAt (z*2+1) (by omega)];exact cF HY.o (k:=1) (by decide));go_enter func232,ntmps232;go_upto_region 1 with fail;rw[<-e5.o];refine cE (λw'=>∃E:Up w1,w'=E.to) 8 [8,9] [8] (by kernel_rfl) (by decide) (by kernel_rfl) (λ_ _ d _ _ h=>by cases d <;> exact h) ⟨⟨_,(Below.refl _ w1).drew⟩,rfl⟩ ?_;simp only[List.take_succ_cons,List.take_zero];generalize c9:(λa'=>gT _ _ _ _ _ _ a' _)=qq;have b5:=hI c9;clear c9;repeat (go_big_quiet_step (fail))
 refine wpQuiet_nil ?_;rw[<-b5.o];clear b5 qq b0 b1 b2 b3;refine aR rfl (λK hK=>?_);go_simp;refine hK _ _ (λ_=>⟨⟨_,(Below.refl _ w1).drew.alloc (Nat.le_refl _) _⟩,rfl⟩) ?_;clear hK K;refine bG [9] _ _ (by kernel_rfl) (by kernel_rfl) ?_;simp only[List.filterMap_cons,List.filterMap_nil,List.getElem?_toArray,List.getElem?_cons_zero,List.getElem?_cons_succ];refine wpList_store_row rfl 51 _ _ rfl w1.heap.size #[.int .i64 y.kind,.int .i64 y.n] rfl rfl 51 _ (aS w1.drew _) fB rfl (oCz (by simp[Value.oneCell'])) ?_;generalize a5:World.setRow _ _ _=w3;have u:Hid (Below w1.heap.size w1 w3):=by rw[<-a5];exact(Below.refl _ w1).drew.trans (lL w1.drew _ _)
 have A3:Hid (w3.heap[w1.heap.size]? = some (.cells #[.int .i64 y.kind,.int .i64 y.n] 51 (0,0))):=by rw[<-a5];exact setRow_heap _ _ _ _ _ _ (aS w1.drew _)
 have O:=btZ K1 u.o;have L3:=hI (L1.o.below HK.o u.o);obtain⟨ob,N⟩:∃o,o=w1.heap.size:=⟨_,rfl⟩;have i0:Hid (ob=w.heap.size+1):=by rw[N];exact e3.o
 rw[<-N] at A3;rw[<-N];clear N a5;(try dsimp only [Act.put]);have o0:=crZ A3 0 rfl;have o1:=crZ A3 1 rfl;have P:=aC u.o (j.o 0 _ rfl);have x4:=aC u.o (j.o 4 _ rfl);rcases g1 with h | h | h | h
 ·have l:Hid ((y.kind == x.n)=r):=by show _=_;rw[<-HG.o,if_pos h]
  rw[h] at P;clear h;go_wp2_with fail;go_ret;exact⟨by rw[<-l.o];rfl,O.o⟩
 ·have l:Hid ((oD y == (x.n == 1))=r):=by show _=_;rw[<-HG.o,if_neg (by omega),if_pos h]
  rw[h] at P;clear h;go_upto_region 6 with fail;have I:=ecZ o0;have J:=ecZ o1;have M:=ecZ x4;have TC:=hI (λW'=>tru_c y W');clear P x4 o0 o1;refine aD (by kernel_rfl) (by kernel_rfl) ?_;repeat (go_big_quiet_step ((go_at_call 174;with_reducible exact Calls.up (TC.o _))))
  refine wpQuiet_nil ?_;rintro _ ⟨E,rfl⟩;have F:=btZ O E.below;clear I J M;go_wp2_with fail;go_ret;exact⟨by rw[<-l.o];rfl,F.o⟩
 ·rw[h] at P;have x6:=aC u.o (j.o 6 _ rfl);have x7:=aC u.o (j.o 7 _ rfl);have b6:Hid ((decide (y=x.k))=r):=by show _=_;rw[<-HG.o,if_neg (by omega),if_neg (by omega),if_pos h]
  obtain⟨R,c7⟩:∃R,x.k=R:=⟨_,rfl⟩;rw[c7] at x6 x7;have Y:Hid (decide (y=R)=r):=by show _=_;rw[<-c7];exact b6.o
  clear h b6;by_cases s:y.kind=R.kind
  ·rw[<-s] at x6;by_cases D:y.n=R.n;·rw[<-D] at x7;have l:Hid (true=r):=(by show _=_;rw[<-Y.o,eq_comm,decide_eq_true_iff];cases y;cases R;dsimp only at s D;rw[s,D]);clear s D;go_wp2_with fail;go_ret;exact⟨by rw[<-l.o];rfl,O.o⟩
   ·have l:Hid (false=r):=(by show _=_;rw[<-Y.o,eq_comm,decide_eq_false_iff_not];intro e;rw[e] at D;exact D rfl);clear s;go_wp2_with fail;go_ret;exact⟨by rw[<-l.o];rfl,O.o⟩
  ·have l:Hid (false=r):=(by show _=_;rw[<-Y.o,eq_comm,decide_eq_false_iff_not];intro e;rw[e] at s;exact s rfl);go_wp2_with fail;go_ret;exact⟨by rw[<-l.o];rfl,O.o⟩
 ·have HS:Hid ((match dG W x.a with | none=>false | some (_,c)=>c.kind == x.n && (x.n != 1 || c.num == x.b))=r):=by show _=_;rw[<-HG.o,if_neg (by omega),if_neg (by omega),if_neg (by omega)]
  rw[h] at P;clear h;have CC:=hI (rN HK.o L3.o HY.o hl);rw[<-X.o] at CC;have x1:=aC u.o (j.o 1 _ rfl);go_wp2_with fail;refine CC.o.mono ?_;rintro e V ⟨rfl,k4⟩;have i1:=hI k4;have K4:=btZ O k4;have A:=btZ u k4;have L4:=hI (L3.o.below HK.o k4);clear k4 x1 P x4 o0 o1;cases q:dG W x.a with
  | none=>
   rw[gS q]
   have l:Hid (false=r):=by show _=_;rw[<-HS.o,q]
   clear q
   go_upto_region 10 with fail
   refine aD (by kernel_rfl) (by kernel_rfl) ?_
   repeat (go_big_quiet_step (fail))
   refine wpQuiet_nil ?_
   rintro _ ⟨E,rfl⟩
   have F:=btZ K4 E.below
   go_wp2_with fail
   go_ret
   exact⟨by rw[<-l.o];rfl,F.o⟩
  | some p=>
   obtain⟨n,c⟩:=p
   obtain⟨gc,cc,v,f,vA,vc,f8,hc,hv,hf,f9,c8,H,S,c2,c3,i4⟩:=L4.o.atCell q
   rw[c8]
   have HT:Hid ((c.kind == x.n && (x.n != 1 || c.num == x.b))=r):=by show _=_;rw[<-HS.o,q]
   clear q c2 c3 hc hv hf c8 f8 f9
   by_cases s:c.kind=x.n
   ·by_cases h1:x.n=1
    ·have f2:=hI h1
     rw[s,h1] at H
     have l:Hid ((c.num == x.b)=r):=by show _=_;rw[<-HT.o,s,h1];simp
     clear s h1
     have I:∀E:Up V,E.to.cell? ⟨w.heap.size,4,none⟩=some (.int .i64 1):=λE=>E.cell (by rw[<-f2.o];exact aC A.o (j.o 4 _ rfl))
     have J:=ecZ H
     have M:=ecZ S
     have Z:∀E:Up V,E.to.cell? ⟨w.heap.size,2,none⟩=some (.int .i64 x.b):=λE=>E.cell (aC A.o (j.o 2 _ rfl))
     clear H S
     go_upto_region 10 with fail
     refine aD (by kernel_rfl) (by kernel_rfl) ?_
     repeat (go_big_quiet_step (fail))
     refine wpQuiet_nil ?_
     rintro _ ⟨E,rfl⟩
     have F:=btZ K4 E.below
     clear I J M Z
     go_wp2_with fail
     go_ret
     exact⟨by rw[<-l.o];rfl,F.o⟩
    ·rw[s] at H
     have l:Hid (true=r):=by show _=_;rw[<-HT.o,s];simp[h1]
     have i2:(x.n != 1)=true:=by simpa using h1
     clear s h1
     have I:∀E:Up V,E.to.cell? ⟨w.heap.size,4,none⟩=some (.int .i64 x.n):=λE=>E.cell (by exact aC A.o (j.o 4 _ rfl))
     have J:=ecZ H
     have M:=ecZ S
     have Z:∀E:Up V,E.to.cell? ⟨w.heap.size,2,none⟩=some (.int .i64 x.b):=λE=>E.cell (aC A.o (j.o 2 _ rfl))
     clear H S
     go_upto_region 10 with fail
     refine aD (by kernel_rfl) (by kernel_rfl) ?_
     repeat (go_big_quiet_step (fail))
     refine wpQuiet_nil ?_
     rintro _ ⟨E,rfl⟩
     have F:=btZ K4 E.below
     clear I J M Z
     go_wp2_with fail
     go_ret
     exact⟨by rw[<-l.o];rfl,F.o⟩
   ·have f3:(c.kind == x.n)=false:=by simpa using s
    have l:Hid (false=r):=by show _=_;rw[<-HT.o,f3];rfl
    clear s
    have I:∀E:Up V,E.to.cell? ⟨w.heap.size,4,none⟩=some (.int .i64 x.n):=λE=>E.cell (by exact aC A.o (j.o 4 _ rfl))
    have J:=ecZ H
    have M:=ecZ S
    have Z:∀E:Up V,E.to.cell? ⟨w.heap.size,2,none⟩=some (.int .i64 x.b):=λE=>E.cell (aC A.o (j.o 2 _ rfl))
    clear H S
    go_upto_region 10 with fail
    refine aD (by kernel_rfl) (by kernel_rfl) ?_
    repeat (go_big_quiet_step (fail))
    refine wpQuiet_nil ?_
    rintro _ ⟨E,rfl⟩
    have F:=btZ K4 E.below
    clear I J M Z
    go_wp2_with fail
    go_ret
    exact⟨by rw[<-l.o];rfl,F.o⟩
end
end
section
end
end Go.Proofs.YtijihlcdhppfgaaGreatDoor
