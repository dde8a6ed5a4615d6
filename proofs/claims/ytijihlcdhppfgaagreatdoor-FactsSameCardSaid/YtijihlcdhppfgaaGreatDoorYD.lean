/- Part of the walk of the given code: contracts, and plain laws. -/
import Derived.Test.YtijihlcdhppfgaaGreatDoorZG
import Derived.Test.YtijihlcdhppfgaaGreatDoorYR
import Derived.Test.YtijihlcdhppfgaaGreatDoorZCI
import Derived.Test.YtijihlcdhppfgaaGreatDoorYC
import Derived.Test.YtijihlcdhppfgaaGreatDoorYA
set_option maxHeartbeats 16000000
set_option maxRecDepth 100000
set_option linter.all false
namespace Go.Proofs.YtijihlcdhppfgaaGreatDoor
open Tryz
section
open Go.RowKit
theorem amT {α : Type} (R:List Value->α->Prop) (p : α->Bool) (A:Option Addr) (q:Nat) (xs:List α) (r:FuncId) (b0:∀args W,(callFunc r args).run prog W=.ok (.enter r args) W) (D:Array Value) (w:World) (H:aB w w.heap.size 8 R (.slice A xs.length q) xs) (Z:∀(w1:World),Below w.heap.size w w1->∀(x : α) (cs:List Value),x∈xs->R cs x->Calls prog r (#[.agg ⟨cs⟩]++D) w1 (aK (.bool (p x)) w1)) : Calls prog 211 #[.slice A xs.length q,.func (.func r) #[] D] w (aK (.int .i64 (l7 p xs)) w):=by
 have HS:=hI H;have HP:=hI Z;have hl:xs.length<=q/\q<=maxLen:=by obtain⟨A',c',e,e1,e2,-⟩:=H;injection e with _ _ e3;subst e3;exact⟨e1,e2⟩
 obtain⟨a9,V⟩:=hl;unfold maxLen at V;clear H Z;go_enter func211,ntmps211;go_wp2_with fail;go_loopw [8] (λk wr=>∃d:Nat,k=.int .i64 d/\d<=xs.length/\Hid (∀i x,i<d->xs[i]? = some x->p x=false)/\Hid (Below w.heap.size w wr)) (λk _=>xs.length - (RowKit.intOf k).toNat);case atStart=>exact⟨0,rfl,by omega,λi x hi _=>by omega,Below.refl _ _⟩
 case round=>
  obtain⟨d,rfl,hk,G,f⟩:=hrel
  by_cases a0:d<xs.length
  ·obtain⟨b,j,x,cs,rfl,hb,u,X,Y,g⟩:=HS.o.at_ a0
   match cs,X with
   | [c0,c1,c2,c3,c4,c5,c6,c7],_=>
    have a7:(d:Int)<xs.length:=by omega
    have I:wr.cell? ⟨b,j+d*8,none⟩=some c0:=(f.o.cell hb).trans (g 0 _ rfl)
    have J:wr.cell? ⟨b,j+d*8+1,none⟩=some c1:=(f.o.cell hb).trans (g 1 _ rfl)
    have K:wr.cell? ⟨b,j+d*8+2,none⟩=some c2:=(f.o.cell hb).trans (g 2 _ rfl)
    have L:wr.cell? ⟨b,j+d*8+3,none⟩=some c3:=(f.o.cell hb).trans (g 3 _ rfl)
    have M:wr.cell? ⟨b,j+d*8+4,none⟩=some c4:=(f.o.cell hb).trans (g 4 _ rfl)
    have N:wr.cell? ⟨b,j+d*8+5,none⟩=some c5:=(f.o.cell hb).trans (g 5 _ rfl)
    have O:wr.cell? ⟨b,j+d*8+6,none⟩=some c6:=(f.o.cell hb).trans (g 6 _ rfl)
    have P:wr.cell? ⟨b,j+d*8+7,none⟩=some c7:=(f.o.cell hb).trans (g 7 _ rfl)
    have E:=hI (HP.o wr f.o x _ (List.mem_of_getElem? u) Y)
    have S:=hI u
    clear u g Y
    cases l:p x
    ·have s:=hI l
     rw[l] at E
     clear l
     go_wp2_with fail
     refine E.o.mono ?_
     rintro e w2 ⟨rfl,v⟩
     have F:=hI (Below.trans f.o (v.mono f.o.size))
     clear v I J K L M N O P
     go_wp2_with fail
     go_roundw
     case rel=>exact⟨d+1,by go_num,by omega,λi y hi z=>by
      rcases Nat.lt_or_ge i d with h | h
      ·exact G.o i y h z
      ·have:i=d:=by omega
       subst this
       rw[S.o] at z
       injection z with z
       subst z
       exact s.o,F⟩
     case measure=>simp[RowKit.intOf];omega
    ·have s:=hI (iM G.o S.o l)
     rw[l] at E
     clear l
     go_wp2_with fail
     refine E.o.mono ?_
     rintro e w2 ⟨rfl,v⟩
     have F:=hI (Below.trans f.o (v.mono f.o.size))
     clear v I J K L M N O P
     go_wp2_with fail
     go_ret
     exact⟨by rw[s.o];rfl,F.o⟩
  ·have s:=hI (gV (p:=p) (xs:=xs) (λi x hi=>G.o i x (by have:=(lE hi).1;omega) hi))
   go_wp2_with fail
   go_ret
   exact⟨by rw[s.o];rfl,f.o⟩
theorem alJ {α : Type} (R:List Value->α->Prop) (p : α->Bool) (A:Option Addr) (g:Nat) (xs:List α) (d:FuncId) (h:∀args W,(callFunc d args).run prog W=.ok (.enter d args) W) (f:Array Value) (w:World) (l:aB w w.heap.size 8 R (.slice A xs.length g) xs) (q:∀(w1:World),Below w.heap.size w w1->∀(x : α) (cs:List Value),x∈xs->R cs x->Calls prog d (#[.agg ⟨cs⟩]++f) w1 (aK (.bool (p x)) w1)) : Calls prog 157 #[.slice A xs.length g,.func (.func d) #[] f] w (aK (.bool (xs.any p)) w):=by have r:=hI (amT R p A g xs d h f w l q);have s:=hI (iN p xs);clear l q h;go_enter func157,ntmps157;go_wp2_with fail;refine r.o.mono ?_;rintro e w1 ⟨rfl,j⟩;have u:=hI j;clear j;go_wp2_with fail;go_ret;exact⟨by rw[s.o];rfl,u.o⟩
end
section
open Go.RowKit
namespace Bx
open Tryz
variable {P:Program} {ops:Array Oper} {rest:List Oper} {a:Act} {w0 w:World} {Q:Exit->Act->World->Prop} {l l':List (Nat×List Value×TypeId)} {g:Nat} {cs:List Value} {t:TypeId} {dst:Option Nat} {tt:TypeId} {ps:String} {af:Array Edge}
theorem Ld {ty:TypeId} {x:Operand} {d:TypeDesc} (X:Bx w0 w l) (h:wpList P ops Q rest (a.put dst (.agg cs.toArray)) w) (f:a.eval x=.pointer (some ⟨g,0,none⟩):=by rfl) (j:In3 g cs t l:=by repeat (first | exact .hd _ | apply In3.tl)) (p:P.underlying ty=some d:=by rfl) (q:d.isRow=true:=by rfl) (hi:(P.info? ty).map (·.size)=some cs.length:=by kernel_rfl):wpList P ops Q (⟨dst,.load ty x,tt,ps,af,none⟩::rest) a w:= ldr (X.rg j) h hi rfl rfl f p q
theorem Ldr {ty:TypeId} {x:Operand} {d:TypeDesc} {b p:Nat} {vs:List Value} {gd} (g:w.rangeAt b p vs) (h:wpList P ops Q rest (a.put dst (.agg vs.toArray)) w) (hi:(P.info? ty).map (·.size)=some vs.length:=by kernel_rfl) (f:Region.wanted ⟨dst,.load ty x,tt,ps,af,gd⟩ (yielded ops a.tmps)=true:=by first | rfl | simp[Region.wanted,yielded, *]) (j:a.eval x=.pointer (some ⟨b,p,none⟩):=by rfl) (l:P.underlying ty=some d:=by rfl) (q:d.isRow=true:=by rfl):wpList P ops Q (⟨dst,.load ty x,tt,ps,af,gd⟩::rest) a w:= ldr g h hi rfl f j l q
theorem L1 {ty:TypeId} {x:Operand} {d:TypeDesc} {v:Value} {j:Nat} (X:Bx w0 w l) (h:wpList P ops Q rest (a.put dst v) w) (f:a.eval x=.pointer (some ⟨g,j,none⟩):=by rfl) (p:P.underlying ty=some d:=by rfl) (q:d.isRow=false:=by rfl) (r:In3 g cs t l:=by repeat (first | exact .hd _ | apply In3.tl)) (hj:cs[j]? = some v:=by rfl):wpList P ops Q (⟨dst,.load ty x,tt,ps,af,none⟩::rest) a w:= l1 X h rfl rfl f p q r hj
theorem L1g {ty:TypeId} {x:Operand} {d:TypeDesc} {v:Value} {j:Nat} {gd} (X:Bx w0 w l) (h:wpList P ops Q rest (a.put dst v) w) (f:Region.wanted ⟨dst,.load ty x,tt,ps,af,some gd⟩ (yielded ops a.tmps)=true:=by first | rfl | simp[Region.wanted,yielded, *]) (p:a.eval x=.pointer (some ⟨g,j,none⟩):=by rfl) (q:P.underlying ty=some d:=by rfl) (r:d.isRow=false:=by rfl) (s:In3 g cs t l:=by repeat (first | exact .hd _ | apply In3.tl)) (hj:cs[j]? = some v:=by rfl):wpList P ops Q (⟨dst,.load ty x,tt,ps,af,some gd⟩::rest) a w:= l1g X h rfl f p q r s hj
theorem Sta {ty:TypeId} {x y:Operand} {d:List Value} (X:Bx w0 w l) (h:∀w',Bx w0 w' ((w.heap.size,d,t)::l)->Below w.heap.size w w'->wpList P ops Q rest (a.put dst undef) w') (f:a.eval x=.pointer (some ⟨w.heap.size,0,none⟩):=by rfl) (g:a.eval y=.agg ⟨d⟩:=by rfl) (hi:(P.info? ty).map (·.size)=some d.length:=by kernel_rfl) (hl:cs.length=d.length:=by rfl) (h1:d.all (·.oneCell')=true:=by simp[Value.oneCell']):wpList P ops Q (⟨dst,.store ty x y,tt,ps,af,none⟩::rest) a (w.alloc (.cells ⟨cs⟩ t)):= sta X h rfl rfl f g hi hl h1
theorem St {ty:TypeId} {x y:Operand} {d:List Value} (X:Bx w0 w l) (h:∀w',Bx w0 w' l'->wpList P ops Q rest (a.put dst undef) w') (f:a.eval x=.pointer (some ⟨g,0,none⟩):=by rfl) (j:a.eval y=.agg ⟨d⟩:=by rfl) (p:St3 g cs d t l l':=by repeat (first | exact .hd _ | apply St3.tl)) (hi:(P.info? ty).map (·.size)=some d.length:=by kernel_rfl) (hl:cs.length=d.length:=by rfl) (h1:d.all (·.oneCell')=true:=by simp[Value.oneCell']):wpList P ops Q (⟨dst,.store ty x y,tt,ps,af,none⟩::rest) a w:= st X h rfl rfl f j p hi hl h1
theorem StR {ty:TypeId} {x y:Operand} {d:List Value} (X:Bx w0 w l) (h:Bx w0 (w.setRow g ⟨d⟩) l'->wpList P ops Q rest (a.put dst undef) (w.setRow g ⟨d⟩)) (p:a.eval x=.pointer (some ⟨g,0,none⟩):=by rfl) (r:a.eval y=.agg ⟨d⟩:=by rfl) (f:St3 g cs d t l l':=by repeat (first | exact .hd _ | apply St3.tl)) (hi:(P.info? ty).map (·.size)=some d.length:=by kernel_rfl) (hl:cs.length=d.length:=by rfl) (h1:d.all (·.oneCell')=true:=by simp[Value.oneCell']):wpList P ops Q (⟨dst,.store ty x y,tt,ps,af,none⟩::rest) a w:= wpList_store_row rfl ty x y rfl g ⟨d⟩ p r t ⟨cs⟩ (X.at_ _ _ _ f.i).2 hi hl (by simpa using h1) (h (X.set f ⟨rfl,rfl,rfl,by simp[World.setRow]⟩ (setRow_heap _ _ _ _ _ _ (X.at_ _ _ _ f.i).2) (λq j=>setRow_other _ _ _ _ j)))
theorem S1 {ty:TypeId} {x y:Operand} {d:List Value} {v:Value} {j:Nat} (X:Bx w0 w l) (h:∀w',Bx w0 w' l'->wpList P ops Q rest (a.put dst undef) w') (f:a.eval x=.pointer (some ⟨g,j,none⟩):=by rfl) (p:a.eval y=v:=by rfl) (q:v.oneCell'=true:=by rfl) (hi:(P.info? ty).map (·.size)=some 1:=by kernel_rfl) (r:In3 g cs t l:=by repeat (first | exact .hd _ | apply In3.tl)) (s:St1 v j cs d:=by repeat (first | exact .hd _ _ | apply St1.tl)) (u:St3 g cs d t l l':=by repeat (first | exact .hd _ | apply St3.tl)):wpList P ops Q (⟨dst,.store ty x y,tt,ps,af,none⟩::rest) a w:= s1 X h rfl rfl f p q hi r s u
theorem anF {v:Value} : ∀(cs:List Value) (j:Nat),j<cs.length->St1 v j cs (cs.set j v)
 | [],j,h=>absurd h (Nat.not_lt_zero _)
 | u::l,0,_=>.hd u l
 | u::l,j+1,h=>.tl u (anF l j (by simpa using h))
theorem S1s {ty:TypeId} {x y:Operand} {v:Value} {j:Nat} (X:Bx w0 w ((g,cs,t)::l)) (hj:j<cs.length) (h:∀w',Bx w0 w' ((g,cs.set j v,t)::l)->wpList P ops Q rest (a.put dst undef) w') (d:a.eval x=.pointer (some ⟨g,j,none⟩):=by rfl) (f:a.eval y=v:=by rfl) (p:v.oneCell'=true:=by rfl) (hi:(P.info? ty).map (·.size)=some 1:=by kernel_rfl):wpList P ops Q (⟨dst,.store ty x y,tt,ps,af,none⟩::rest) a w:= s1 X h rfl rfl d f p hi (.hd _) (anF cs j hj) (.hd _)
end Bx
end
section
open Go.RowKit
set_option maxHeartbeats 800000
set_option maxRecDepth 100000
theorem arJ (x y:aT) (g:Nat) (w:World) (d:w.heap[g]? = some (.cells ⟨bA x⟩ 53 (0,0))) : Calls prog 164 #[.agg ⟨bA y⟩,.pointer (some ⟨g,0,none⟩)] w (aK (.bool (eqG x y)) w):=by
 have f:=(aE d).1;have H:∀(w1:World),Below w.heap.size w w1->w1.rangeAt g 0 (bA x):=λw1 k=>(ak3 ((k.block _ f).trans d)).range;have H:=hI H;clear d;unfold bA at *;go_enter func164,ntmps164;go_upto_region 1 with fail;generalize h:World.alloc _ _=w1;have X:=Bx.of1 h;clear h;have R:=hI (H.o _ X.k);have p:=R.o 0 _ rfl;have q:=R.o 1 _ rfl;have r:=R.o 2 _ rfl;have c4:=R.o 4 _ rfl;have l:Hid (w1.rangeAt g 6 [.int .i64 x.k.kind,.int .i64 x.k.n]):=λj v hj=>by
  match j,hj with
  | 0,hj=>exact R.o 6 v hj
  | 1,hj=>exact R.o 7 v hj
  | j+2,hj=>cases hj
 go_wp2_with (first | (refine X.l1 ?_) | (refine X.l1g ?_) | (refine Bx.lm [.int .i64 y.k.kind,.int .i64 y.k.n] X ?_) | (refine Bx.ldr l.o ?_) | fail);all_goals (go_ret;refine⟨?_,X.k⟩;simp_all [eqG])
theorem am1:∀args W,(callFunc 164 args).run prog W=.ok (.enter 164 args) W:=enters_of func164 (by kernel_rfl) rfl
theorem arI (ca:List Value) (t:aH) (k:Nat) (x:aT) (w:World) (h:bI w w.heap.size ca t) (u:t.ins[k]? = some x) : Calls prog 99 #[.agg ⟨ca⟩,.int .i64 k] w (aK (.bool (alI t.ins k x)) w):=by
 have H:=hI h;obtain⟨P,s,S,V,Y,Z,A4,n4,A5,n5,A6,n6,rfl,A⟩:=h.cells;obtain⟨D,E,p,q⟩:=h.at3;injection (show _=some (Value.slice D t.ins.length E) from p) with p
 injection p with J _ L
 subst J;subst L;have Q:=hI q;have hl:k<t.ins.length:=(lE u).1;unfold maxLen at A;obtain⟨b,d,y,rfl,hb,f,wy,r⟩:=tN q hl;obtain rfl:y=x:=by rw[u] at f;injection f with f;exact f.symm
 have R:Hid (∀w1,Below w.heap.size w w1->w1.rangeAt b (d+k*8) (bA y)):=λw1 K j v hj=>(K.cell hb).trans (r j v hj);have N:=hI wy;have M:(k:Int)<=s:=by have:=q.len;omega
 clear h p q u f r;have h1:(bA y).all (·.oneCell')=true:=rfl;go_enter func99,ntmps99;go_upto_region 1 with fail;generalize h:World.alloc _ _=w1;have X:=Bx.of1 h;clear h;have O:(k:Int)<t.ins.length:=by omega
 go_upto_region 2 with (first | (refine X.l1 ?_) | (refine Bx.ldr (R.o _ X.k) ?_ pI) | (refine X.sta (h1:=h1) (λ_ X _=>?_)) | fail);have e:(t.ins.take k).length=k:=by simp;omega
 have C:Hid (∀g l,Bx w g ((w1.heap.size,bA y,53)::l)->Calls prog 157 #[.slice (some ⟨b,d,none⟩) k s,.func (.func 164) #[] #[.pointer (some ⟨w1.heap.size,0,none⟩)]] g (aK (.bool (alI t.ins k y)) g)):=λg l X=>by have:=alJ xP (eqG y) (some ⟨b,d,none⟩) s (t.ins.take k) 164 (am1) #[.pointer (some ⟨w1.heap.size,0,none⟩)] g (by rw[e];exact(Q.o.below X.k).take (by omega)) (λF G z cs _ I=>by obtain⟨rfl,-⟩:=I;exact arJ y z w1.heap.size F (((X.on G).at_ _ _ _ (.hd _)).2));rw[e] at this;exact this
 clear e;go_wp2_with (first | (go_at_call 157;refine X.call (C.o _ _ X) λ_ X=>?_) | (refine X.l1 ?_) | fail);go_ret;exact⟨rfl,X.k⟩
theorem from1_c (y:aT) (w:World):Calls prog 215 #[.agg ⟨bA y⟩] w (aK (.bool (y.op == 12)) w):=by unfold bA;go_enter func215,ntmps215;go_upto_region 1 with fail;generalize h:World.alloc _ _=w1;have X:=Bx.of1 h;clear h;go_wp2_with (first | (refine X.l1 ?_) | fail);all_goals (go_ret;refine⟨?_,X.k⟩;simp_all)
theorem am2:∀args W,(callFunc 215 args).run prog W=.ok (.enter 215 args) W:=enters_of func215 (by kernel_rfl) rfl
theorem aB.drop {α : Type} {w:World} {B size:Nat} {R:List Value->α->Prop} {b f n j d:Nat} {xs:List α} (h:aB w B size R (.slice (some ⟨b,f,none⟩) n j) xs) (G:d<=n) : aB w B size R (.slice (some ⟨b,f+d*size,none⟩) (n - d) (j - d)) (xs.drop d):=by
 obtain⟨H,l,h1,I,J,p⟩:=h;injection h1 with A D E
 subst D;subst E;subst A;refine⟨some ⟨b,f+d*size,none⟩,j - d,by simp,by simp;omega,by omega,λz=>?_⟩;rw[List.length_drop] at z;obtain⟨b',q,g,r,s⟩:=p (by omega);injection g with g
 injection g with g F
 subst g;subst F;refine⟨b,f+d*size,rfl,r,λi x hi=>?_⟩;rw[List.getElem?_drop] at hi;obtain⟨cs,u,v,y⟩:=s _ _ hi;refine⟨cs,u,v,?_⟩;rw[show f+d*size+i*size=f+(d+i)*size by rw[Nat.add_mul];omega];exact y
theorem fromG_c (ca:List Value) (t:aH) (k:Nat) (w:World) (h:bI w w.heap.size ca t) (L:k<t.ins.length) (D:0<=t.loop) (l1:t.loop<=t.ins.length) : Calls prog 165 #[.agg ⟨ca⟩,.int .i64 k] w (aK (.int .i64 (alT t k)) w):=by
 obtain⟨P,l,R,S,V,Y,Z,n4,A5,n5,A6,n6,rfl,F⟩:=h.cells;obtain⟨H,I,s,q⟩:=h.at3;injection (show _=some (Value.slice H t.ins.length I) from s) with s
 injection s with M _ N
 subst M;subst N;have Q:=hI q;unfold maxLen at F;obtain⟨b,f,y,rfl,hb,-,-,-⟩:=tN q L;obtain⟨d,p⟩:=Int.eq_ofNat_of_zero_le D;have O:(d:Int)<=l:=by have:=q.len;omega
 obtain⟨r,v⟩:∃r,alT t k=r:=⟨_,rfl⟩;rw[v];have A:=hI v;rw[p] at l1 ⊢;clear h s q hb v D;go_enter func165,ntmps165;go_upto_region 1 with fail;generalize h:World.alloc _ _=w1;have X:=Bx.of1 h;clear h;have C:Hid (∀g o j,Below w.heap.size w g->o=f+d*8/\j=l - d\/j=0/\l<=d->Calls prog 157 #[.slice (some ⟨b,o,none⟩) (t.ins.length - d) j,.func (.func 215) #[] #[]] g (aK (.bool (amA t)) g)):=λg o j k c=>by
  have e:(t.ins.drop d).length=t.ins.length - d:=by simp
  have E:aB g g.heap.size 8 xP (.slice (some ⟨b,o,none⟩) (t.ins.length - d) j) (t.ins.drop d):=by
   rcases c with ⟨rfl,rfl⟩ | ⟨rfl,c⟩;·exact(Q.o.below k).drop (by omega)
   ·have:=Q.o.len;exact⟨_,_,by rw[e],by omega,by omega,λhp=>by omega⟩
  have:=alJ xP (λy=>y.op == 12) (some ⟨b,o,none⟩) j (t.ins.drop d) 215 am2 #[] g (by rw[e];exact E) (λJ k3 z cs _ K=>by obtain⟨rfl,-⟩:=K;exact from1_c z J);rw[e] at this;unfold amA;rw[p];exact this
 have G:Hid (r=if(d:Int)<=k/\amA t=true then d else 0):=by rw[<-A.o];unfold alT;rw[p];rfl
 clear A;obtain⟨x,u⟩:∃x,amA t=x:=⟨_,rfl⟩;rw[u] at C G;clear u;by_cases c:(d:Int)<=k
 ·cases x
  ·go_wp2_with (first | (refine X.l1 ?_) | (refine X.l1g ?_) | fail);·go_at_call 157;refine X.call (C.o w1 f 0 X.k (by omega)) λ_ X=>?_;go_wp2_with fail;go_ret;exact⟨by rw[G.o];simp[c],X.k⟩
   ·go_at_call 157;refine X.call (C.o w1 (f+d*8) (l - d) X.k (by omega)) λ_ X=>?_;go_wp2_with fail;go_ret;exact⟨by rw[G.o];simp[c],X.k⟩
  ·go_wp2_with (first | (refine X.l1 ?_) | (refine X.l1g ?_) | fail);·go_at_call 157;refine X.call (C.o w1 f 0 X.k (by omega)) λ_ X=>?_;go_wp2_with (first | (refine X.l1 ?_) | fail);go_ret;exact⟨by rw[G.o];simp[c],X.k⟩
   ·go_at_call 157;refine X.call (C.o w1 (f+d*8) (l - d) X.k (by omega)) λ_ X=>?_;go_wp2_with (first | (refine X.l1 ?_) | fail);go_ret;exact⟨by rw[G.o];simp[c],X.k⟩
 ·go_wp2_with (first | (refine X.l1 ?_) | (refine X.l1g ?_) | fail);go_ret;exact⟨by rw[G.o,if_neg (by omega)];rfl,X.k⟩
end
end Go.Proofs.YtijihlcdhppfgaaGreatDoor
