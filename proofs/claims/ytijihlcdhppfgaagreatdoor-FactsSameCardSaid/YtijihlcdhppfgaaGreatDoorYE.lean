/- Part of the walk of the given code: contracts, and plain laws. -/
import Derived.Test.YtijihlcdhppfgaaGreatDoorYD
import Derived.Test.YtijihlcdhppfgaaGreatDoorYR
set_option maxHeartbeats 16000000
set_option maxRecDepth 100000
set_option linter.all false
namespace Go.Proofs.YtijihlcdhppfgaaGreatDoor
open Tryz
section
open Go.RowKit
set_option maxHeartbeats 800000
set_option maxRecDepth 100000
theorem bI.rows {L:List Value} {t:aH} {k:Nat} {w:World} (h:bI w w.heap.size L t) (Y:k<t.ins.length) : ∃b d f g l p r s u x z A D,L=[.int .i64 t.fn,.int .i64 t.at_,.int .i64 t.loop,.slice (some ⟨b,d,none⟩) t.ins.length f,.slice g t.exits.length l,.int .i64 t.turn.at_,.int .i64 t.turn.steps,.slice p t.turn.sets.length r,.slice s t.turn.makes.length u,.int .i64 t.back.at_,.int .i64 t.back.steps,.slice x t.back.sets.length z,.slice A t.back.makes.length D]/\ t.ins.length<=2 ^ 63 - 1/\Hid (∀w1,Below w.heap.size w w1->∀(i:Nat) (y:aT),t.ins[i]? = some y->w1.rangeAt b (d+i*8) (bA y))/\Hid (∀(i:Nat) (y:aT),t.ins[i]? = some y->kX y):=by
 obtain⟨V,f,g,l,p,r,s,u,x,z,A,D,rfl,H⟩:=h.cells;obtain⟨M,N,E,q⟩:=h.at3;injection (show _=some (Value.slice M t.ins.length N) from E) with E
 injection E with R _ S
 subst R;subst S;unfold maxLen at H;obtain⟨X,c',F,-,-,O⟩:=q;obtain⟨b,d,rfl,hb,I⟩:=O (by omega);injection F with F _ _
 subst F;refine⟨b,d,f,g,l,p,r,s,u,x,z,A,D,rfl,H,λw1 K i y G j v P=>?_,λi y G=>?_⟩;·obtain⟨cs,-,⟨rfl,-⟩,J⟩:=I i y G;exact(K.cell hb).trans (J j v P)
 ·obtain⟨cs,-,⟨rfl,h⟩,J⟩:=I i y G;exact h
theorem al9 (x:aT):(bA x).all (·.oneCell')=true:=rfl
theorem truth_c (u:List Value) (t:aH) (k:Nat) (x:aT) (w:World) (h:bI w w.heap.size u t) (g:t.ins[k]? = some x) : Calls prog 98 #[.agg ⟨u⟩,.int .i64 k] w (aK (.bool (al0 t.ins k x)) w):=by
 have H:=hI h;have hl:k<t.ins.length:=(lE g).1;obtain⟨b,q,A,D,E,F,G,I,J,L,M,N,O,rfl,P,R,y⟩:=h.rows hl;have j:=hI g;have l:Hid (∀w1,Below w.heap.size w w1->Calls prog 97 _ w1 (aK (.int .i64 (kindM t.ins x.a k)) w1)):=λw1 K=>an7 _ t (x.a.toNat+1) x.a k w1 (by omega) (H.o.below K) (by omega) (by omega);have p:Hid (∀w1,Below w.heap.size w w1->Calls prog 99 _ w1 (aK (.bool (alI t.ins k x)) w1)):=λw1 K=>arI _ t k x w1 (H.o.below K) j.o;have z:(k:Int)<t.ins.length:=by omega
 unfold al0;obtain⟨r,d⟩:∃r,kindM t.ins x.a k=r:=⟨_,rfl⟩;obtain⟨s,f⟩:∃s,alI t.ins k x=s:=⟨_,rfl⟩;rw[d] at l ⊢;rw[f] at p ⊢;have h1:=al9 x;have v:Hid (∀w1,Below w.heap.size w w1->w1.rangeAt b (q+k*8) (bA x)):=λw1 K=>R.o w1 K k x j.o;clear h g hl d f R y H;go_enter func98,ntmps98;go_upto_region 1 with fail;generalize h:World.alloc _ _=w1;have X:=Bx.of1 h;clear h;go_upto_region 2 with (first | (refine X.l1 ?_) | (refine Bx.ldr (v.o _ X.k) ?_ pI) | (refine X.sta (h1:=h1) (λ_ X _=>?_)) | fail);unfold bA at X;go_wp2_with (first | (go_at_call 97;refine X.call (l.o _ X.k) λ_ X=>?_) | (go_at_call 99;refine X.call (p.o _ X.k) λ_ X=>?_) | (refine X.ld ?_) | (refine X.l1 ?_) | fail);all_goals (go_ret;refine⟨?_,X.k⟩)
 all_goals (simp_all;try (intros;exfalso;omega))
theorem al5 (ins:List aT) (x:aT) (d k:Nat) {y:aT} (f:ins[k]? = some y):ak9 ins x d (k+1)=if k<d then false else if y.op=9/\y.a=x.a/\y.n=1 then y.b == x.b else if y.op=16/\(k:Int)=x.a/\y.n=1 then x.b == 0 else if y.op=12 then y.a == x.a && y.n == x.b else ak9 ins x d k:=by
 conv=>lhs;unfold ak9
 rw[(insAt_some f).1]
theorem an4 (E:List Value) (t:aH) (k:Nat) (x:aT) (w:World) (h:bI w w.heap.size E t) (z:t.ins[k]? = some x) (F:0<=t.loop) (l1:t.loop<=t.ins.length) : Calls prog 100 #[.agg ⟨E⟩,.int .i64 k] w (aK (.bool (ak9 t.ins x (alT t k) k)) w):=by
 have H:=hI h;have hl:k<t.ins.length:=(lE z).1;obtain⟨b,l,P,S,V,Y,Z,A4,n4,A5,n5,A6,n6,rfl,hm,R,L⟩:=h.rows hl;have G:=hI z;have q:Hid (∀w1,Below w.heap.size w w1->Calls prog 165 _ w1 (aK (.int .i64 (alT t k)) w1)):=λw1 K=>fromG_c _ t k w1 (H.o.below K) hl F l1;have N:(k:Int)<t.ins.length:=by omega
 obtain⟨f,p⟩:∃f,alT t k=f:=⟨_,rfl⟩;rw[p] at q ⊢;have h1:=al9 x;have A:Hid (∀w1,Below w.heap.size w w1->w1.rangeAt b (l+k*8) (bA x)):=λw1 K=>R.o w1 K k x G.o;obtain⟨r,s⟩:∃r,ak9 t.ins x f k=r:=⟨_,rfl⟩;rw[s];have I:=hI s;clear h z hl p L H F l1 s;go_enter func100,ntmps100;go_upto_region 1 with fail;generalize h:World.alloc _ _=w1;have X:=Bx.of1 h;clear h;go_upto_region 2 with (first | (refine X.l1 ?_) | (refine Bx.ldr (A.o _ X.k) ?_ pI) | (refine X.sta (h1:=h1) (λ_ X _=>?_)) | fail);clear h1 A;go_wp2_with fail;go_loopw [6] (λv wr=>∃j:Nat,v=.int .i64 (j - 1:Int)/\j<=k/\Hid (ak9 t.ins x f j=r)/\Bx w wr _) (λv _=>(RowKit.intOf v+1).toNat);case atStart=>exact⟨k,rfl,by omega,I.o,X⟩
 case round=>
  obtain⟨j,rfl,hj,u,X⟩:=hrel
  have O:(k:Int)<=9223372036854775807:=by omega
  by_cases c:f<j
  ·obtain⟨m,rfl⟩:∃m,j=m+1:=⟨j - 1,by omega⟩
   obtain⟨y,g⟩:∃y,t.ins[m]? = some y:=⟨_,lG (by omega)⟩
   have d:=u.o
   rw[al5 _ _ _ _ g,if_neg (by omega)] at d
   have D:Hid (∀w1,Below w.heap.size w w1->w1.rangeAt b (l+m*8) (bA y)):=λw1 K=>R.o w1 K m y g
   have h1:=al9 y
   have d:=hI d
   clear u g
   have J:(f:Int)<=m:=by omega
   have M:(m:Int)<t.ins.length:=by omega
   rw[show(((m+1:Nat):Int) - 1)=(m:Int) by omega]
   go_upto_region 6 with (first | (go_at_call 165;refine X.call (q.o _ X.k) λ_ X=>?_) | (refine X.ld ?_) | (refine X.l1 ?_) | (refine Bx.ldr (D.o _ X.k) ?_ pI) | (refine X.sta (h1:=h1) (λ_ X _=>?_)) | fail)
   clear h1 D
   unfold bA at X
   go_wp2_with (first | (refine X.l1 ?_) | (refine X.l1g ?_) | fail)
   all_goals first
   | exact⟨⟨m,by first | rfl | (congr 1;omega),by omega,by(have d:=d.o;show _=_;simp_all),X.tl1⟩,by(simp only[RowKit.intOf];omega)⟩
   | (go_ret;have d:=d.o;refine⟨?_,X.k⟩;simp_all;try (subst d;simp_all))
  ·have e:r=false:=by
    rw[<-u.o]
    cases j with
    | zero=>rfl
    | succ m=>
     obtain⟨y,g⟩:∃y,t.ins[m]? = some y:=⟨_,lG (by omega)⟩
     rw[al5 _ _ _ _ g,if_pos (by omega)]
   subst e
   have J:(j:Int) - 1<f:=by omega
   go_wp2_with (first | (go_at_call 165;refine X.call (q.o _ X.k) λ_ X=>?_) | (refine X.ld ?_) | fail)
   go_ret
   exact⟨rfl,X.k⟩
end
section
open Go.RowKit
set_option maxHeartbeats 2400000
set_option maxRecDepth 100000
theorem said_c (ca:List Value) (t:aH) (k:Nat) (x:aT) (w:World) (h:bI w w.heap.size ca t) (M:t.ins[k]? = some x) (l0:0<=t.loop) (l1:t.loop<=t.ins.length) (N:x.op=9->0<=x.a/\x.a<k) : Calls prog 49 #[.agg ⟨ca⟩,.int .i64 k] w (aK (.bool (alF t k x)) w):=by
 have H:=hI h;have hl:k<t.ins.length:=(lE M).1;obtain⟨b,r,n1,A2,n2,A3,n3,A4,n4,A5,n5,A6,n6,rfl,hm,R,WI⟩:=h.rows hl;have f:=hI M;have O:Hid (∀w1,Below w.heap.size w w1->Calls prog 97 _ w1 (aK (.int .i64 (kindM t.ins x.a k)) w1)):=λw1 K=>an7 _ t (x.a.toNat+1) x.a k w1 (by omega) (H.o.below K) (by omega) (by omega);have g:Hid (∀w1,Below w.heap.size w w1->Calls prog 99 _ w1 (aK (.bool (alI t.ins k x)) w1)):=λw1 K=>arI _ t k x w1 (H.o.below K) f.o;have P:Hid (∀w1,Below w.heap.size w w1->Calls prog 98 _ w1 (aK (.bool (al0 t.ins k x)) w1)):=λw1 K=>truth_c _ t k x w1 (H.o.below K) f.o;have S:Hid (∀w1,Below w.heap.size w w1->Calls prog 100 _ w1 (aK (.bool (ak9 t.ins x (alT t k) k)) w1)):=λw1 K=>an4 _ t k x w1 (H.o.below K) f.o l0 l1;have hk:(k:Int)<t.ins.length:=by omega
 obtain⟨kd,s⟩:∃kd,kindM t.ins x.a k=kd:=⟨_,rfl⟩;obtain⟨F,u⟩:∃F,alI t.ins k x=F:=⟨_,rfl⟩;obtain⟨tg,v⟩:∃tg,al0 t.ins k x=tg:=⟨_,rfl⟩;obtain⟨sh,A⟩:∃sh,ak9 t.ins x (alT t k) k=sh:=⟨_,rfl⟩;unfold alF;rw[s] at O ⊢;rw[u] at g ⊢;rw[v] at P ⊢;rw[A] at S ⊢;have h1:=al9 x;have V:Hid (∀w1,Below w.heap.size w w1->w1.rangeAt b (r+k*8) (bA x)):=λw1 K=>R.o w1 K k x f.o;obtain⟨y,G⟩:∃y,insAt t.ins x.a=y:=⟨_,rfl⟩;rw[G];have Y:Hid (∀p:Nat,x.a=p->x.op=9->(p:Int)<t.ins.length/\∀w1,Below w.heap.size w w1->w1.rangeAt b (r+p*8) (bA y)):=λp e c=>by
  obtain⟨I,a1⟩:=N c;obtain⟨z,hz⟩:∃z,t.ins[p]? = some z:=⟨_,lG (by omega)⟩;have:z=y:=by rw[<-G,e,(insAt_some hz).1]
  subst this;exact⟨by omega,λw1 K=>R.o w1 K p z hz⟩
 have Z:=hI N;clear h M hl s u v A R WI H l0 l1 N G;go_enter func49,ntmps49;go_upto_region 1 with fail;generalize h:World.alloc _ _=w1;have X:=Bx.of1 h;clear h;go_upto_region 2 with (first | (refine X.L1 ?_) | (refine Bx.Ldr (V.o _ X.k) ?_ pI) | (refine X.Sta (h1:=h1) (λw2 X _=>?_)) | fail);clear h1 V;unfold bA at X;by_cases c4:x.op=4
 ·rw[if_pos c4];go_upto_region 4 with (first | (refine X.L1 ?_) | fail);have q1:∀E:Bx.W w _,E.tq.cell? ⟨w1.heap.size,1,none⟩=some (.int .i64 x.a):=X.qc;have q4:∀E:Bx.W w _,E.tq.cell? ⟨w1.heap.size,4,none⟩=some (.int .i64 x.n):=X.qc;refine X.qq λ_=>?_;repeat (first | (refine Bx.lq ?_;go_simp) | go_big_quiet_step (first | rfl | (go_at_call 97;exact Bx.cq (O.o _ (Bx.k (Bx.W.bx _))))))
  refine wpQuiet_nil ?_;rintro ⟨_,X⟩;go_wp2_with fail;go_ret;exact⟨rfl,X.k⟩
 ·by_cases l:x.op=9/\x.n≠1
  ·obtain⟨d,D⟩:=l;obtain⟨I,a1⟩:=Z.o d;obtain⟨p,J⟩:=Int.eq_ofNat_of_zero_le I;obtain⟨pl,j⟩:=Y.o p J d;have j:=hI j;rw[J] at X;rw[if_neg (by omega),if_neg (by omega),if_neg (by omega),if_pos d,if_neg D];rw[d] at X;clear Z Y I a1 J;have h1:=al9 y;go_upto_region 14 with (first | (refine X.L1 ?_) | (refine Bx.Ldr (j.o _ X.k) ?_ pI) | (refine X.Sta (h1:=h1) (λ_ X _=>?_)) | fail);clear h1 j;unfold bA at X;cases F
   ·go_wp2_with (first | (refine X.Ld ?_) | fail);go_at_call 99;refine X.call (g.o _ X.k) λL X=>?_;have f0:L.cell? ⟨w2.heap.size,0,none⟩=some (.int .i64 y.op):=X.cl;have f4:L.cell? ⟨w2.heap.size,4,none⟩=some (.int .i64 y.n):=X.cl;have f5:L.cell? ⟨w1.heap.size,4,none⟩=some (.int .i64 x.n):=X.cl;go_wp2_with fail;all_goals (go_ret;refine⟨?_,X.k⟩)
    all_goals simp_all
   ·go_wp2_with (first | (refine X.Ld ?_) | fail);go_at_call 99;refine X.call (g.o _ X.k) λ_ X=>?_;go_wp2_with fail;go_ret;exact⟨rfl,X.k⟩
  ·by_cases d:x.op=9;·have D:x.n=1:=Decidable.byContradiction λq=>l ⟨d,q⟩;rw[if_neg (by omega),if_neg (by omega),if_neg (by omega),if_pos d,if_pos D];clear l;go_wp2_with (first | (go_at_call 100;refine X.call (S.o _ X.k) λ_ X=>?_) | (refine X.L1 ?_) | (refine X.Ld ?_) | fail);all_goals (go_ret;exact⟨rfl,X.k⟩)
   ·clear l;go_wp2_with (first | (go_at_call 98;refine X.call (P.o _ X.k) λ_ X=>?_) | (go_at_call 99;refine X.call (g.o _ X.k) λ_ X=>?_) | (refine X.L1 ?_) | (refine X.Ld ?_) | fail);all_goals (go_ret;refine⟨?_,X.k⟩)
    all_goals simp_all
end
end Go.Proofs.YtijihlcdhppfgaaGreatDoor
