/- A part of the walk. -/
import Derived.Test.YtijihlcdhppfgaaGreatDoorZBA
import Derived.Test.YtijihlcdhppfgaaGreatDoorZM
set_option maxHeartbeats 16000000
set_option maxRecDepth 100000
set_option linter.all false
namespace Go.Proofs.YtijihlcdhppfgaaGreatDoor
open Tryz
section
open Go.RowKit
structure aV (bc:Nat) (w w':World):Prop where
 os:w'.os=w.os
 tape:w'.tape=w.tape
 output:w'.output=w.output
 size:w.heap.size<=w'.heap.size
 block:∀k,k<w.heap.size->k≠bc->w'.heap[k]? = w.heap[k]?
section
variable {bc:Nat} {w w1 w2:World}
theorem aV.refl (bc:Nat) (w:World):aV bc w w:=⟨rfl,rfl,rfl,Nat.le_refl _,λ_ _ _=>rfl⟩
theorem aV.trans (h:aV bc w w1) (k:aV bc w1 w2):aV bc w w2:= ⟨k.os.trans h.os,k.tape.trans h.tape,k.output.trans h.output,Nat.le_trans h.size k.size,λi hi d=>(k.block i (Nat.lt_of_lt_of_le hi h.size) d).trans (h.block i hi d)⟩
theorem aV.of_below (k:Below w.heap.size w w1):aV bc w w1:=⟨k.os,k.tape,k.output,k.size,λi hi _=>k.block i hi⟩
theorem aV.below_ (h:aV bc w w1) (k:Below w1.heap.size w1 w2):aV bc w w2:=h.trans (.of_below k)
theorem aV.alloc (h:aV bc w w1) (o:Obj):aV bc w (w1.alloc o):=h.below_ (aA w1 o)
theorem aV.drew (h:aV bc w w1):aV bc w w1.drew:=⟨h.os,h.tape,h.output,h.size,h.block⟩
theorem aV.set_ (h:aV bc w w1) (i:Nat) (u:Value):aV bc w (w1.setCell ⟨bc,i,none⟩ u):= h.trans ⟨rfl,rfl,rfl,by simp[World.setCell],λk f d=>Below.heap_setCell _ _ _ _ (by show k≠bc;exact d)⟩
theorem aV.under (h:aV bc w w1) {B:Nat} (hB:B<=bc) (f:B<=w.heap.size):Below B w w1:=⟨h.os,h.tape,h.output,h.size,λk d=>h.block k (by omega) (by omega)⟩
theorem aV.row (h:aV bc w w1) {k:Nat} {o:Obj} (d:w.heap[k]? = some o) (f:k≠bc):w1.heap[k]? = some o:=(h.block k (aE d).1 f).trans d
theorem aV.ty {α : Type} (h:aV bc w w1) {B size:Nat} {ty:TypeId} {R:List Value->α->Prop} {v:Value} {xs:List α} (f:aW w B ty size R v xs) (hB:bc<B):aW w1 B ty size R v xs:= f.keep (λk cs g j d=>h.block k (aE d).1 (by omega)) (λ_ _ h=>h)
theorem aV.own (h:aV bc w w1) {B:Nat} {e:TypeId} {size n:Nat} {v:Value} {xs:List Value} (d:w.ownsRow B e size v n xs) (hB:bc<B):w1.ownsRow B e size v n xs:=by refine d.kept (row:=some bc) ⟨h.os,h.tape,h.output,h.size,λk f g=>h.block k f (λe=>g (by rw[e]))⟩ (.inr (λj=>?_));have:=(hY d _ j).1;omega
theorem aV.then (h:aV bc w w1) (k:Below w.heap.size w1 w2):aV bc w w2:= ⟨k.os.trans h.os,k.tape.trans h.tape,k.output.trans h.output,Nat.le_trans h.size k.size,λi hi d=>(k.block i hi).trans (h.block i hi d)⟩
theorem aV.cell (h:aV bc w w1) {a:Addr} {v:Value} (d:w.cell? a=some v) (f:a.block≠bc):w1.cell? a=some v:=by have hb:=h.block a.block (eL d) f;unfold World.cell? at d ⊢;rw[hb];exact d
end
structure cK (w:World) (bc:Nat) (tv:Value) (at_:List Int) (fine:Bool):Prop where
 here:w.heap[bc]? = some (.cells #[tv,.bool fine] 119 (0,0))
 own:w.ownsRow (bc+1) 3 1 tv at_.length (at_.map (.int .i64))
 bd:∀a∈at_,-1<=a/\a<=300
 few:at_.length<=300
theorem cK.fined {w w':World} {bc:Nat} {d:Value} {at_:List Int} {fine:Bool} (h:cK w bc d at_ fine) (k:aV bc w w') (f:w'.heap[bc]? = w.heap[bc]?):cK w' bc d at_ fine:= ⟨f.trans h.here,k.own h.own (by omega),h.bd,h.few⟩
theorem cK.at_end {w w':World} {bc:Nat} {d:Value} {at_:List Int} {fine f:Bool} (h:cK w bc d at_ fine) (k:aV bc w w') (g:w'.heap[bc]? = some (.cells #[d,.bool f] 119 (0,0))):cK w' bc d at_ f:= ⟨g,k.own h.own (by omega),h.bd,h.few⟩
theorem cK.below {w w':World} {bc:Nat} {d:Value} {at_:List Int} {fine:Bool} (h:cK w bc d at_ fine) (k:Below w.heap.size w w'):cK w' bc d at_ fine:= h.fined (.of_below k) (k.block bc (aE h.here).1)
theorem cK.bad {w:World} {bc:Nat} {d:Value} {at_:List Int} {fine:Bool} (h:cK w bc d at_ fine):cK (w.setCell ⟨bc,1,none⟩ (.bool false)) bc d at_ false:=by refine⟨?_,((aV.refl bc w).set_ 1 _).own h.own (by omega),h.bd,h.few⟩;rw[heap_setCell_same w bc 1 _ _ _ h.here];rfl
theorem cK.slice {w:World} {bc:Nat} {d:Value} {at_:List Int} {fine:Bool} (h:cK w bc d at_ fine):aB w w.heap.size 1 gB d at_:= qQ h.own (λx f=>by have:=h.bd x f;unfold wfi;omega)
def qH (bc:Nat) (tv:Value) (at_:List Int) (fine:Bool) (v:Int) (w:World) (e:Ending) (w':World):Prop:=
 e=.returned (.int .i64 (bO at_ v))/\cK w' bc tv at_ (fine && eE at_ v)/\aV bc w w'
theorem aaG {at_:List Int} {v:Int} (h:v<0\/(at_.length:Int)<=v\/∃a,at_[v.toNat]? = some a/\a<0):bO at_ v = -1/\eE at_ v=false:=by
 have e:bO at_ v = -1:=by
  unfold bO;rcases h with h | h | ⟨a,h1,d⟩;·rw[if_pos h]
  ·split;·rfl
   ·rw[List.getElem?_eq_none (by omega)]
  ·split;·rfl
   ·rw[h1];dsimp only;rw[if_pos d]
 exact⟨e,by unfold eE;rw[e];rfl⟩
theorem aiG {at_:List Int} {v:Int} {a:Int} (f:0<=v) (h1:at_[v.toNat]? = some a) (d:0<=a):bO at_ v=a/\eE at_ v=true:=by
 have e:bO at_ v=a:=by unfold bO;rw[if_neg (by omega),h1];dsimp only;rw[if_neg (by omega)]
 exact⟨e,by unfold eE;rw[e];simpa using d⟩
theorem y8 (bc:Nat) (tv:Value) (at_:List Int) (fine:Bool) (v:Int) (w:World) (h:cK w bc tv at_ fine) : Calls prog 108 #[.pointer (some ⟨bc,0,none⟩),.int .i64 v] w (qH bc tv at_ fine v w):=by
 have HH:=hI h;have hs:=h.slice;obtain⟨A,cap,rfl,l1,l2,-⟩:=id hs;unfold maxLen at l2;have c0:=crZ h.here 0 rfl;have c1:=crZ h.here 1 rfl;have f1:w.frozen? ⟨bc,1,none⟩=false:=frozen_of_row w bc 1 _ _ h.here;have KB:Hid (cK (w.setCell ⟨bc,1,none⟩ (.bool false)) bc (.slice A at_.length cap) at_ (fine && false)):=by rw[Bool.and_false];exact h.bad
 clear h;by_cases b1:v<0;·have HR:=hI (aaG (at_:=at_) (.inl b1));clear hs;go_enter func108,ntmps108;go_wp2_with fail;go_ret;unfold qH;rw[HR.o.1,HR.o.2];exact⟨rfl,KB.o,(aV.refl _ _).set_ 1 _⟩
 by_cases b2:(at_.length:Int)<=v;·have HR:=hI (aaG (at_:=at_) (.inr (.inl b2)));clear hs;go_enter func108,ntmps108;go_wp2_with fail;go_ret;unfold qH;rw[HR.o.1,HR.o.2];exact⟨rfl,KB.o,(aV.refl _ _).set_ 1 _⟩
 obtain⟨k,rfl⟩:=Int.eq_ofNat_of_zero_le (Int.not_lt.1 b1);obtain⟨b,off,a,cs,rfl,hb,ha,-,⟨rfl,wa⟩,hat⟩:=hs.at_ (i:=k) (by omega);have g0:w.cell? ⟨b,off+k,none⟩=some (.int .i64 a):=by simpa using hat 0 _ rfl
 have hk:(k:Int)<at_.length:=by omega
 by_cases b3:a<0;·have HR:=hI (aaG (at_:=at_) (v:=(k:Int)) (.inr (.inr ⟨a,by simpa using ha,b3⟩)));clear hs hat ha;go_enter func108,ntmps108;go_wp2_with fail;go_ret;unfold qH;rw[HR.o.1,HR.o.2];exact⟨rfl,KB.o,(aV.refl _ _).set_ 1 _⟩
 ·have HR:=hI (aiG (at_:=at_) (v:=(k:Int)) (by omega) (by simpa using ha) (by omega:0<=a));clear hs hat ha;go_enter func108,ntmps108;go_wp2_with fail;go_ret;unfold qH;rw[HR.o.1,HR.o.2,Bool.and_true];exact⟨rfl,HH.o,aV.refl _ _⟩
end
section
open Go.RowKit
def InsPost (bc:Nat) (tv:Value) (at_:List Int) (fine:Bool) (x:aT) (w:World) (e:Ending) (w':World):Prop:=
 e=.returned (yA (oE at_ x))/\cK w' bc tv at_ (fine && mJ at_ x)/\aV bc w w'
def qK (at_:List Int) (j i:Nat) (v:Int):Int:=if i<j then bO at_ v else v
theorem aiC (at_:List Int) (op d f g h j:Int) (k:Val) (n:Nat) (l:(bP op).asks=n) : oE at_ ⟨op,d,f,g,h,j,k⟩=⟨op,qK at_ n 0 d,qK at_ n 1 f,qK at_ n 2 g,h,j,k⟩:=by
 unfold oE iA qK;dsimp only;rw[l];simp only[aT.mk.injEq,true_and,and_true];refine⟨?_,?_,?_⟩;·split <;> split <;> first | rfl | omega
 ·split <;> split <;> first | rfl | omega
 ·split <;> split <;> first | rfl | omega
theorem qB {W:World} {g:Nat} {op a b c n e k m:Int} {t:TypeId} (h:W.heap[g]? = some (.cells #[.int .i64 op,.int .i64 a,.int .i64 b,.int .i64 c,.int .i64 n,.int .i64 e,.int .i64 k,.int .i64 m] t (0,0))) : W.cell? ⟨g,0,none⟩=some (.int .i64 op)/\W.cell? ⟨g,1,none⟩=some (.int .i64 a)/\W.cell? ⟨g,2,none⟩=some (.int .i64 b)/\W.cell? ⟨g,3,none⟩=some (.int .i64 c)/\W.cell? ⟨g,4,none⟩=some (.int .i64 n)/\ W.cell? ⟨g,5,none⟩=some (.int .i64 e)/\W.cell? ⟨g,6,none⟩=some (.int .i64 k)/\W.cell? ⟨g,7,none⟩=some (.int .i64 m):= ⟨cell_of_row W g 0 _ _ _ h,cell_of_row W g 1 _ _ _ h,cell_of_row W g 2 _ _ _ h,cell_of_row W g 3 _ _ _ h,cell_of_row W g 4 _ _ _ h,cell_of_row W g 5 _ _ _ h,cell_of_row W g 6 _ _ _ h,cell_of_row W g 7 _ _ _ h⟩
theorem pI:(prog.info? 53).map (·.size)=some 8:=by kernel_rfl
theorem ins_c (bc:Nat) (tv:Value) (at_:List Int) (fine:Bool) (x:aT) (w:World) (h:cK w bc tv at_ fine) (hx:kX x) : Calls prog 54 #[.pointer (some ⟨bc,0,none⟩),yA x] w (InsPost bc tv at_ fine x w):=by
 have HH:=hI h;have R:bc<w.heap.size:=(aE h.here).1;obtain⟨a0,a3,aN⟩:=vG x.op;obtain⟨n,hn⟩:=Int.eq_ofNat_of_zero_le a0;have h1:n<=3:=by omega
 obtain⟨op,g,l,p,u,y,⟨z,A⟩⟩:=x;dsimp only at hn a0 a3 aN;have HP:=hI (aiC at_ op g l p u y ⟨z,A⟩ n hn);have HF:Hid (mJ at_ ⟨op,g,l,p,u,y,⟨z,A⟩⟩=([g,l,p].take n).all (eE at_)):=by unfold mJ bU Hid;dsimp only;rw[hn,Int.toNat_natCast]
 obtain⟨w0,S⟩:∃w0,w0=(w.alloc (.cells #[.int .i64 op,.int .i64 g,.int .i64 l,.int .i64 p,.int .i64 u,.int .i64 y,.int .i64 z,.int .i64 A] 53)).alloc (.cells #[.int .i64 0,.int .i64 0,.int .i64 0,.int .i64 0,.int .i64 0,.int .i64 0,.int .i64 0,.int .i64 0] 53):=⟨_,rfl⟩;have K0:Hid (Below w.heap.size w w0):=by rw[S];exact bV _ _ _
 have B0:Hid (w0.heap[w.heap.size]? = some (.cells #[.int .i64 op,.int .i64 g,.int .i64 l,.int .i64 p,.int .i64 u,.int .i64 y,.int .i64 z,.int .i64 A] 53 (0,0))):=by rw[S];exact a8 (aS w _) _
 have B1:Hid (w0.heap[w.heap.size+1]? = some (.cells #[.int .i64 0,.int .i64 0,.int .i64 0,.int .i64 0,.int .i64 0,.int .i64 0,.int .i64 0,.int .i64 0] 53 (0,0))):=by rw[S];exact iZ _ _ _
 have e0:w.heap.size+1<w0.heap.size:=(aE B1.o).1;have HW:=hI S;have J:=hI (aiH op w0);obtain⟨is,b6⟩:∃is,mD op=is:=⟨_,rfl⟩;obtain⟨F,hF⟩:∃F,bP op=F:=⟨_,rfl⟩;unfold akS at J;rw[b6,hF] at J;have HN:Hid (F.asks=n):=by rw[<-hF];exact hn
 have e1:Hid (is=false->n=0):=λe=>by have:=aN (b6.trans e);omega
 obtain⟨asks,low,high,kf,tells,ex⟩:=F;obtain rfl:asks=(n:Int):=HN.o;clear h S hn a0 a3 aN b6 hF hx;unfold yA;dsimp only;go_enter func54,ntmps54;go_wp2_with fail;rw[<-HW.o];refine J.o.mono ?_;unfold nH;rintro e w1 ⟨rfl,k1⟩;have K1:=btZ K0 k1;have C0:=rkZ B0 k1;have C1:=rkZ B1 k1;have h2:w.heap.size+1<w1.heap.size:=Nat.lt_of_lt_of_le e0 k1.size;clear k1;obtain⟨E,V⟩:∃E,E=(w1.alloc (.cells #[.int .i64 n,.int .i64 low,.int .i64 high,.bool kf,.bool tells,.int .i64 ex] 76)).alloc (.cells #[.pointer (some ⟨w.heap.size,1,none⟩),.pointer (some ⟨w.heap.size,2,none⟩),.pointer (some ⟨w.heap.size,3,none⟩)] 200):=⟨_,rfl⟩;have K2:Hid (Below w1.heap.size w1 E):=by rw[V];exact bV _ _ _
 have D0:=rkZ C0 K2.o;have D1:=rkZ C1 K2.o;have D2:Hid (E.heap[w1.heap.size+1]? = some (.cells #[.pointer (some ⟨w.heap.size,1,none⟩),.pointer (some ⟨w.heap.size,2,none⟩),.pointer (some ⟨w.heap.size,3,none⟩)] 200 (0,0))):=by rw[V];exact iZ _ _ _
 have KK:Hid (aV bc w E):=aV.of_below (K1.o.trans (K2.o.mono K1.o.size));have c6:=hI (HH.o.below (K1.o.trans (K2.o.mono K1.o.size)));have h4:w1.heap.size+1<E.heap.size:=(aE D2.o).1;have F0:Hid (E.cell? ⟨w1.heap.size,0,none⟩=some (.int .i64 n)):=by rw[V];exact jI _ _ _ _ _
 have e6:=hI V;clear V;have g2:(n:Int)<=3:=by omega
 go_upto_region 3 with fail;rw[<-e6.o];cases is
 case false=>
  obtain rfl:=e1.o rfl;obtain⟨L,G,H,I,M,N,O,P⟩:=qB D0.o;have K:=nU (n:=8) D1.o (by decide);have d:=World.rangeAt_setCells_same E (w.heap.size+1) 0 ([.int .i64 op,.int .i64 g,.int .i64 l,.int .i64 p,.int .i64 u,.int .i64 y,.int .i64 z,.int .i64 A]:List Value) K;have r:=akY (B:=w.heap.size) (b:=w.heap.size+1) (by omega) ([.int .i64 op,.int .i64 g,.int .i64 l,.int .i64 p,.int .i64 u,.int .i64 y,.int .i64 z,.int .i64 A]:List Value) 0 E (Below.refl _ _);have r:=hI r;have d:=hI d;have K:=hI K;go_wp2_with (refine wpList_store_mid rfl 53 _ _ rfl (w.heap.size+1) 0 _ rfl rfl K.o pI (oCz (by simp[Value.oneCell'])) ?_);generalize D:World.setCells _ _ _ _=w9;have d:=hI (show w9.rangeAt (w.heap.size+1) 0 _ by rw[<-D];exact d.o);have r:=hI (show Below w.heap.size E w9 by rw[<-D];exact r.o);clear D L G H I M N O P;go_wp2_with fail;have q0:=d.o 0 _ rfl;have q1:=d.o 1 _ rfl;have q2:=d.o 2 _ rfl;have q3:=d.o 3 _ rfl;have q4:=d.o 4 _ rfl;have q5:=d.o 5 _ rfl;have q6:=d.o 6 _ rfl;have q7:=d.o 7 _ rfl;have KE:=hI ((KK.o).then r.o);have CE:=hI ((r.o.block bc R).trans c6.o.here);refine bodyPost_ret (v:=.agg #[.int .i64 op,.int .i64 g,.int .i64 l,.int .i64 p,.int .i64 u,.int .i64 y,.int .i64 z,.int .i64 A]) (by simp[results,results54,go_sem,q0,q1,q2,q3,q4,q5,q6,q7]) rfl ⟨?_,?_,KE.o⟩;·rw[HP.o];rfl
  ·rw[HF.o,List.take_zero,List.all_nil,Bool.and_true];exact HH.o.at_end KE.o CE.o
 have f0:=F0.o;go_wp2_with fail;clear f0;have h5:bc≠w1.heap.size+1:=by have:=K1.o.size;omega
 go_loopw [25] (λi wr=>∃j:Nat,i=.int .i64 j/\j<=n/\Hid (wr.heap[w.heap.size]? = some (.cells #[.int .i64 op,.int .i64 (qK at_ j 0 g),.int .i64 (qK at_ j 1 l),.int .i64 (qK at_ j 2 p),.int .i64 u,.int .i64 y,.int .i64 z,.int .i64 A] 53 (0,0)))/\Hid (wr.heap[w.heap.size+1]? = some (.cells #[.int .i64 0,.int .i64 0,.int .i64 0,.int .i64 0,.int .i64 0,.int .i64 0,.int .i64 0,.int .i64 0] 53 (0,0)))/\Hid (wr.heap[w1.heap.size+1]? = some (.cells #[.pointer (some ⟨w.heap.size,1,none⟩),.pointer (some ⟨w.heap.size,2,none⟩),.pointer (some ⟨w.heap.size,3,none⟩)] 200 (0,0)))/\Hid (wr.heap[bc]? = some (.cells #[tv,.bool (fine && ([g,l,p].take j).all (eE at_))] 119 (0,0)))/\Hid (aV bc w wr)) (λi _=>n - (RowKit.intOf i).toNat);case atStart=>exact⟨0,rfl,by omega,D0.o,D1.o,D2.o,by rw[List.take_zero,List.all_nil,Bool.and_true];exact c6.o.here,KK.o⟩
 case round=>
  obtain⟨j,rfl,hj,Y,R2,Z,R4,RF⟩:=hrel;have h6:w1.heap.size+1<wr.heap.size:=(aE Z.o).1;have g4:w.heap.size<w1.heap.size:=by omega
  by_cases h7:j<n
  ·have e7:(j:Int)<n:=(by omega);have h3:j=0\/j=1\/j=2:=(by omega);rcases h3 with rfl | rfl | rfl
   ·have p0:=crZ Z 0 rfl;obtain⟨L,G,H,I,M,N,O,P⟩:=qB Y.o;have p1:wr.cell? ⟨w.heap.size,1,none⟩=some (.int .i64 g):=G;have J:=hI (y8 bc tv at_ _ g wr (HH.o.at_end RF.o R4.o));clear L G H I M N O P;go_wp2_with fail;refine J.o.mono ?_;rintro e q ⟨rfl,X,f⟩;have C5:=hI X;have K5:=hI f;have s:=hI (f.row Y.o (Nat.ne_of_gt R));have E2:=hI (f.row R2.o (by omega));have E3:=hI (f.row Z.o (by omega));have fz:=fzZ s 1;have cz:=crZ s 1 rfl;clear X f p0 p1;go_wp2_with fail;go_roundw
    case rel=>
     refine⟨1,rfl,by omega,?_,?_,?_,?_,?_⟩;·show _=_;rw[heap_setCell_same q w.heap.size 1 _ _ _ s.o];rfl
     ·show _=_;rw[heap_setCell_other q _ _ _ (by show _≠w.heap.size;omega)];exact E2.o
     ·show _=_;rw[heap_setCell_other q _ _ _ (by show _≠w.heap.size;omega)];exact E3.o
     ·show _=_;rw[heap_setCell_other q _ _ _ (by show _≠w.heap.size;omega),C5.o.here];simp[Bool.and_assoc]
     ·exact(RF.o.trans K5.o).then (by refine Below.setCell (Below.refl _ _) ?_ _;exact Nat.le_refl _)
    case measure=>simp[RowKit.intOf];omega
   ·have p0:=crZ Z 1 rfl;obtain⟨L,G,H,I,M,N,O,P⟩:=qB Y.o;have p1:wr.cell? ⟨w.heap.size,2,none⟩=some (.int .i64 l):=H;have J:=hI (y8 bc tv at_ _ l wr (HH.o.at_end RF.o R4.o));clear L G H I M N O P;go_wp2_with fail;refine J.o.mono ?_;rintro e q ⟨rfl,X,f⟩;have C5:=hI X;have K5:=hI f;have s:=hI (f.row Y.o (Nat.ne_of_gt R));have E2:=hI (f.row R2.o (by omega));have E3:=hI (f.row Z.o (by omega));have fz:=fzZ s 2;have cz:=crZ s 2 rfl;clear X f p0 p1;go_wp2_with fail;go_roundw
    case rel=>
     refine⟨2,rfl,by omega,?_,?_,?_,?_,?_⟩;·show _=_;rw[heap_setCell_same q w.heap.size 2 _ _ _ s.o];rfl
     ·show _=_;rw[heap_setCell_other q _ _ _ (by show _≠w.heap.size;omega)];exact E2.o
     ·show _=_;rw[heap_setCell_other q _ _ _ (by show _≠w.heap.size;omega)];exact E3.o
     ·show _=_;rw[heap_setCell_other q _ _ _ (by show _≠w.heap.size;omega),C5.o.here];simp[Bool.and_assoc]
     ·exact(RF.o.trans K5.o).then (by refine Below.setCell (Below.refl _ _) ?_ _;exact Nat.le_refl _)
    case measure=>simp[RowKit.intOf];omega
   ·have p0:=crZ Z 2 rfl;obtain⟨L,G,H,I,M,N,O,P⟩:=qB Y.o;have p1:wr.cell? ⟨w.heap.size,3,none⟩=some (.int .i64 p):=I;have J:=hI (y8 bc tv at_ _ p wr (HH.o.at_end RF.o R4.o));clear L G H I M N O P;go_wp2_with fail;refine J.o.mono ?_;rintro e q ⟨rfl,X,f⟩;have C5:=hI X;have K5:=hI f;have s:=hI (f.row Y.o (Nat.ne_of_gt R));have E2:=hI (f.row R2.o (by omega));have E3:=hI (f.row Z.o (by omega));have fz:=fzZ s 3;have cz:=crZ s 3 rfl;clear X f p0 p1;go_wp2_with fail;go_roundw
    case rel=>
     refine⟨3,rfl,by omega,?_,?_,?_,?_,?_⟩;·show _=_;rw[heap_setCell_same q w.heap.size 3 _ _ _ s.o];rfl
     ·show _=_;rw[heap_setCell_other q _ _ _ (by show _≠w.heap.size;omega)];exact E2.o
     ·show _=_;rw[heap_setCell_other q _ _ _ (by show _≠w.heap.size;omega)];exact E3.o
     ·show _=_;rw[heap_setCell_other q _ _ _ (by show _≠w.heap.size;omega),C5.o.here];simp[Bool.and_assoc]
     ·exact(RF.o.trans K5.o).then (by refine Below.setCell (Below.refl _ _) ?_ _;exact Nat.le_refl _)
    case measure=>simp[RowKit.intOf];omega
  ·obtain rfl:j=n:=by omega
   have e7:¬(j:Int)<j:=(by omega);obtain⟨L,G,H,I,M,N,O,P⟩:=qB Y.o;have K:=nU (n:=8) R2.o (by decide);have d:=World.rangeAt_setCells_same wr (w.heap.size+1) 0 ([.int .i64 op,.int .i64 (qK at_ j 0 g),.int .i64 (qK at_ j 1 l),.int .i64 (qK at_ j 2 p),.int .i64 u,.int .i64 y,.int .i64 z,.int .i64 A]:List Value) K;have r:=akY (B:=w.heap.size) (b:=w.heap.size+1) (by omega) ([.int .i64 op,.int .i64 (qK at_ j 0 g),.int .i64 (qK at_ j 1 l),.int .i64 (qK at_ j 2 p),.int .i64 u,.int .i64 y,.int .i64 z,.int .i64 A]:List Value) 0 wr (Below.refl _ _);have r:=hI r;have d:=hI d;have K:=hI K;go_wp2_with (refine wpList_store_mid rfl 53 _ _ rfl (w.heap.size+1) 0 _ rfl rfl K.o pI (oCz (by simp[Value.oneCell'])) ?_);generalize D:World.setCells _ _ _ _=w9;have d:=hI (show w9.rangeAt (w.heap.size+1) 0 _ by rw[<-D];exact d.o);have r:=hI (show Below w.heap.size wr w9 by rw[<-D];exact r.o);clear D L G H I M N O P;go_wp2_with fail;have q0:=d.o 0 _ rfl;have q1:=d.o 1 _ rfl;have q2:=d.o 2 _ rfl;have q3:=d.o 3 _ rfl;have q4:=d.o 4 _ rfl;have q5:=d.o 5 _ rfl;have q6:=d.o 6 _ rfl;have q7:=d.o 7 _ rfl;have KE:=hI ((RF.o).then r.o);have CE:=hI ((r.o.block bc R).trans R4.o);refine bodyPost_ret (v:=.agg #[.int .i64 op,.int .i64 (qK at_ j 0 g),.int .i64 (qK at_ j 1 l),.int .i64 (qK at_ j 2 p),.int .i64 u,.int .i64 y,.int .i64 z,.int .i64 A]) (by simp[results,results54,go_sem,q0,q1,q2,q3,q4,q5,q6,q7]) rfl ⟨?_,?_,KE.o⟩;·rw[HP.o];rfl
   ·rw[HF.o];exact HH.o.at_end KE.o CE.o
end
section
open Go.RowKit
structure jW (bc:Nat) (w:World) where
 wd:World
 fined:aV bc w wd
instance jW.some_ (bc:Nat) (w:World):Nonempty (jW bc w):=⟨⟨w,aV.refl _ _⟩⟩
theorem jW.cell {bc:Nat} {w:World} (E:jW bc w) {a:Addr} {v:Value} (h:w.cell? a=some v) (d:a.block≠bc):E.wd.cell? a=some v:=E.fined.cell h d
def fZ (w:World) (B:Nat) (cs:List Value) (m:dX):Prop:=∃v,cs=[.int .i64 m.cell,.int .i64 m.kind,.int .i64 m.num,v]/\aW w B 3 1 gB v m.vals/\wfi m.cell/\wfi m.kind/\wfi m.num
def cR (w:World) (B:Nat) (cs:List Value) (x:bX):Prop:=∃s m,cs=[.int .i64 x.at_,.int .i64 x.steps,s,m]/\aW w B 124 2 uW s x.sets/\aW w B 127 4 (fZ w B) m x.makes/\wfi x.at_/\wfi x.steps
theorem fZ.make {w:World} {B:Nat} {cs:List Value} {m:dX} (h:fZ w B cs m):qW w w.heap.size cs m:=by obtain⟨v,h1,d,f⟩:=h;exact⟨v,h1,d.slice,f⟩
theorem cR.exit {w:World} {B:Nat} {cs:List Value} {x:bX} (h:cR w B cs x):fM w w.heap.size cs x:=by obtain⟨s,m,h1,d,f,g⟩:=h;exact⟨s,m,h1,d.slice,f.slice.keep (Nat.le_refl _) (λ_ _=>rfl) (λ_ _ h=>h.make),g⟩
def sB (s:oL):List Value:=[.int .i64 s.reg,.int .i64 s.val]
theorem infoSet:(prog.info? 124).map (λi=>(i.zero,i.size,i.bytes))=some (some (.agg #[.int .i64 0,.int .i64 0]),2,16):=by kernel_rfl
theorem ajD:(prog.info? 127).map (λi=>(i.zero,i.size,i.bytes))=some (some (.agg #[.int .i64 0,.int .i64 0,.int .i64 0,.slice none 0 0]),4,48):=by kernel_rfl
theorem aaF {at_:List Int} (h:∀a∈at_,-1<=a/\a<=300) (v:Int) : -1<=bO at_ v/\bO at_ v<=300:=by
 unfold bO;split;·omega
 ·split;·omega
  ·rename_i a d;have:=h a (lM d);split <;> omega
theorem cK.far {w:World} {bc:Nat} {j:Value} {at_:List Int} {fine:Bool} (h:cK w bc j at_ fine) {a:Addr} {k:IntKind} {n:Int} (d:w.cell? a=some (.int k n)):a.block≠bc:=by
 intro e
 obtain⟨b,o,s⟩:=a
 obtain rfl:b=bc:=e
 have f:=zS d
 simp only at f
 subst f
 rw[cell_of_row w b o _ _ _ h.here] at d
 match o,d with
 | 0,d=>
  simp at d
  rcases h.own.2 with ⟨e,_⟩ | ⟨g,l,p,e,_⟩ <;> rw[e] at d <;> cases d
 | 1,d=>simp at d
 | n+2,d=>simp at d
theorem cL {w w':World} {B:Nat} {e t:TypeId} {size n:Nat} {v:Value} {xs:List Value} (f:w.ownsRow B e size v n xs) (j:w.grownBy w' v.ownBlock) {k:Nat} {cs:Array Value} {h:Nat×Nat}
  (g:w.heap[k]? = some (.cells cs t h)) (ht:t≠e):w'.heap[k]? = some (.cells cs t h):=
 (j.block k (aE g).1 (λe=>by
  obtain⟨_,l,p,d⟩:=hY f k e.symm
  rw[g] at d;injection d with d;injection d with _ d _;exact ht d)).trans g
theorem kE {w w':World} {B B':Nat} {e:TypeId} {size n:Nat} {v:Value} {xs:List Value} (f:w.ownsRow B e size v n xs) (d:w.grownBy w' v.ownBlock) (h:B'<=B) (j:B'<=w.heap.size):Below B' w w':= ⟨d.os,d.tape,d.output,d.size,λk g=>d.block k (by omega) (λe=>by have:=(hY f k e.symm).1;omega)⟩
theorem eI {w:World} {B:Nat} {e:TypeId} {size n:Nat} {v:Value} {xs:List Value} (d:w.ownsRow B e size v n xs):∃A n c,v=.slice A n c:=by rcases d.2 with ⟨e,_⟩ | ⟨g,f,_,e,_⟩ <;> exact⟨_,_,_,e⟩
theorem aW.grow {α : Type} {w w':World} {B C:Nat} {ty e:TypeId} {size n g:Nat} {R:List Value->α->Prop} {v u:Value} {xs:List α} {cs:List Value} (h:aW w B ty size R v xs) (d:w.ownsRow C e g u n cs) (j:w.grownBy w' u.ownBlock) (ht:ty≠e):aW w' B ty size R v xs:= h.keep (λk c l _ f=>(cL d j f ht).trans f.symm) (λ_ _ h=>h)
theorem aW.set_ {α : Type} {w:World} {B:Nat} {ty t:TypeId} {size:Nat} {R:List Value->α->Prop} {v:Value} {xs:List α} (h:aW w B ty size R v xs) {g:Nat} {cs:Array Value} {f:Nat×Nat} (j:w.heap[g]? = some (.cells cs t f)) (ht:t≠ty) (i:Nat) (u:Value):aW (w.setCell ⟨g,i,none⟩ u) B ty size R v xs:= h.keep (λk c f _ d=>heap_setCell_other w _ _ _ (by show k≠g;rintro rfl;rw[j] at d;injection d with d;injection d with _ d _;exact ht d)) (λ_ _ h=>h)
theorem afV {at_:List Int} (h:∀a∈at_,-1<=a/\a<=300) {s:oL} (d:wfi s.reg):uW (sB (setC at_ s)) (setC at_ s):=by have:=aaF h s.val;exact⟨rfl,d,by unfold wfi setC;dsimp only;omega⟩
structure eY (a b:Nat) (w w':World):Prop where
 os:w'.os=w.os
 tape:w'.tape=w.tape
 output:w'.output=w.output
 size:w.heap.size<=w'.heap.size
 block:∀k,k<w.heap.size->k≠a->k≠b->w'.heap[k]? = w.heap[k]?
theorem eY.refl (a b:Nat) (w:World):eY a b w w:=⟨rfl,rfl,rfl,Nat.le_refl _,λ_ _ _ _=>rfl⟩
theorem eY.trans {a b:Nat} {w w1 g:World} (h:eY a b w w1) (k:eY a b w1 g):eY a b w g:= ⟨k.os.trans h.os,k.tape.trans h.tape,k.output.trans h.output,Nat.le_trans h.size k.size,λi hi d f=>(k.block i (Nat.lt_of_lt_of_le hi h.size) d f).trans (h.block i hi d f)⟩
theorem eY.of_fined {a b:Nat} {w w1:World} (h:aV a w w1):eY a b w w1:=⟨h.os,h.tape,h.output,h.size,λi hi d _=>h.block i hi d⟩
theorem eY.then {a b:Nat} {w w1 d:World} (h:eY a b w w1) (k:Below w.heap.size w1 d):eY a b w d:= ⟨k.os.trans h.os,k.tape.trans h.tape,k.output.trans h.output,Nat.le_trans h.size k.size,λi hi f g=>(k.block i hi).trans (h.block i hi f g)⟩
theorem eY.set_ {a b:Nat} {w w1:World} (h:eY a b w w1) (i:Nat) (u:Value):eY a b w (w1.setCell ⟨b,i,none⟩ u):= ⟨h.os,h.tape,h.output,by simp[World.setCell];exact h.size,λk f g d=>(heap_setCell_other w1 _ k _ (by show k≠b;exact d)).trans (h.block k f g d)⟩
theorem eY.row {a b:Nat} {w w1:World} (h:eY a b w w1) {k:Nat} {o:Obj} (d:w.heap[k]? = some o) (f:k≠a) (g:k≠b):w1.heap[k]? = some o:=(h.block k (aE d).1 f g).trans d
theorem eY.cell {a b:Nat} {w w1:World} (h:eY a b w w1) {p:Addr} {v:Value} (d:w.cell? p=some v) (f:p.block≠a) (g:p.block≠b):w1.cell? p=some v:=by have hb:=h.block p.block (eL d) f g;unfold World.cell? at d ⊢;rw[hb];exact d
theorem eY.fined {a b:Nat} {w0 w w1:World} (h:eY a b w w1) (k:aV a w0 w) (hb:w0.heap.size<=b):aV a w0 w1:= ⟨h.os.trans k.os,h.tape.trans k.tape,h.output.trans k.output,Nat.le_trans k.size h.size,λi hi d=>(h.block i (Nat.lt_of_lt_of_le hi k.size) d (by omega)).trans (k.block i hi d)⟩
theorem ab0 {α β : Type} (f : α->β):∀xs:List α,xs.flatMap (λx=>[f x])=xs.map f
 | []=>rfl
 | x::xs=>by rw[List.flatMap_cons,ab0 f xs];rfl
theorem fZ.fin {bc:Nat} {w w1:World} {B:Nat} {cs:List Value} {m:dX} (h:fZ w B cs m) (k:aV bc w w1) (hB:bc<B):fZ w1 B cs m:=by obtain⟨v,h1,d,f⟩:=h;exact⟨v,h1,k.ty d hB,f⟩
theorem fZ.grow {w w1:World} {B C:Nat} {e:TypeId} {j n:Nat} {u:Value} {cells:List Value} {cs:List Value} {m:dX} (h:fZ w B cs m) (d:w.ownsRow C e j u n cells) (l:w.grownBy w1 u.ownBlock) (ht:3≠e):fZ w1 B cs m:=by obtain⟨v,h1,f,g⟩:=h;exact⟨v,h1,f.grow d l ht,g⟩
theorem fZ.set_ {w:World} {B:Nat} {cs:List Value} {m:dX} (h:fZ w B cs m) {g:Nat} {c:Array Value} {t:TypeId} {j:Nat×Nat} (l:w.heap[g]? = some (.cells c t j)) (ht:t≠3) (i:Nat) (u:Value):fZ (w.setCell ⟨g,i,none⟩ u) B cs m:=by obtain⟨v,h1,d,f⟩:=h;exact⟨v,h1,d.set_ l ht i u,f⟩
theorem fZ.below {w w1:World} {B:Nat} {cs:List Value} {m:dX} (h:fZ w B cs m) (k:Below w.heap.size w w1):fZ w1 B cs m:=by obtain⟨v,h1,d,f⟩:=h;exact⟨v,h1,d.below k,f⟩
theorem aW.set_row {α : Type} {w:World} {B:Nat} {ty t:TypeId} {size:Nat} {R:List Value->α->Prop} {v:Value} {xs:List α} (h:aW w B ty size R v xs) {g:Nat} {cs:Array Value} {f:Nat×Nat} (j:w.heap[g]? = some (.cells cs t f)) (ht:t≠ty) (new:Array Value):aW (w.setRow g new) B ty size R v xs:= h.keep (λk c f _ d=>setRow_other w g k new (by rintro rfl;rw[j] at d;injection d with d;injection d with _ d _;exact ht d)) (λ_ _ h=>h)
theorem fZ.set_row {w:World} {B:Nat} {cs:List Value} {m:dX} (h:fZ w B cs m) {g:Nat} {c:Array Value} {t:TypeId} {j:Nat×Nat} (l:w.heap[g]? = some (.cells c t j)) (ht:t≠3) (new:Array Value):fZ (w.setRow g new) B cs m:=by obtain⟨v,h1,d,f⟩:=h;exact⟨v,h1,d.set_row l ht new,f⟩
theorem fZ.more {w:World} {B B':Nat} {cs:List Value} {m:dX} (h:fZ w B cs m) (hB:B'<=B):fZ w B' cs m:=by obtain⟨v,h1,d,f⟩:=h;exact⟨v,h1,d.more hB,f⟩
theorem ak2 {B g:Nat} {w w':World} (h:Below B w w') (d:B<=g) (i:Nat) (u:Value):Below B w (w'.setCell ⟨g,i,none⟩ u):=by refine Below.setCell h ?_ _;exact d
end
end Go.Proofs.YtijihlcdhppfgaaGreatDoor
