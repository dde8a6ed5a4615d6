/- A part of the walk. -/
import Derived.Test.YtijihlcdhppfgaaGreatDoorZP
set_option maxHeartbeats 16000000
set_option maxRecDepth 100000
set_option linter.all false
namespace Go.Proofs.YtijihlcdhppfgaaGreatDoor
open Tryz
section
open Go.RowKit
theorem ajB:(prog.info? 213).map (λi=>(i.zero,i.size,i.bytes))=some (some (.slice none 0 0),1,24):=by kernel_rfl
theorem ajH:(prog.info? 88).map (λi=>(i.zero,i.size,i.bytes))=some (some (.slice none 0 0),1,24):=by kernel_rfl
def rP (w:World) (C:Nat) (v:Value) (f:CFn):Prop:=∃bo ovs,v=.slice (some ⟨bo,0,none⟩) f.code.length f.code.length/\f.code.length<=600/\w.heap[bo]? = some (.cells ⟨ovs⟩ 143 (0,0))/\ovs.length=f.code.length/\(dY f.code).out.length=f.code.length/\
 ∀(i:Nat) v l,ovs[i]? = some v->(dY f.code).out[i]? = some l->aW w C 223 2 kH v l
def xJ (w:World) (v:Value) (f:CFn):Prop:=∃bs,v=.slice (some ⟨bs,0,none⟩) f.code.length f.code.length/\f.code.length<=600/\w.heap[bs]? = some (.cells ⟨(dY f.code).seen.map .bool⟩ 4 (0,0))/\(dY f.code).seen.length=f.code.length
theorem rP.keep {w w':World} {C:Nat} {v:Value} {f:CFn} (h:rP w C v f) (p:∀(k:Nat) (cs:Array Value) (t:TypeId) (j:Nat×Nat),t=143\/t=223->w.heap[k]? = some (.cells cs t j)->w'.heap[k]? = w.heap[k]?):rP w' C v f:=by obtain⟨q,d,h1,r,g,s,u,x⟩:=h;exact⟨q,d,h1,r,(p _ _ _ _ (.inl rfl) g).trans g,s,u,λi v l y hl=>(x i v l y hl).keep (λk cs j _ z=>p _ _ _ _ (.inr rfl) z) (λ_ _ h=>h)⟩
theorem xJ.keep {w w':World} {v:Value} {f:CFn} (h:xJ w v f) (q:∀(k:Nat) (cs:Array Value) (t:TypeId) (p:Nat×Nat),t=4->w.heap[k]? = some (.cells cs t p)->w'.heap[k]? = w.heap[k]?):xJ w' v f:=by obtain⟨g,h1,j,d,l⟩:=h;exact⟨g,h1,j,(q _ _ _ _ rfl d).trans d,l⟩
theorem aeK {w w':World} {B:Nat} {e t:TypeId} {size n:Nat} {v:Value} {xs:List Value} (f:w.ownsRow B e size v n xs) (h:w.grownBy w' v.ownBlock) {k:Nat} {cs:Array Value} {j:Nat×Nat}
  (g:w.heap[k]? = some (.cells cs t j)) (ht:t≠e):w'.heap[k]? = w.heap[k]?:=
 h.block k (aE g).1 (λe=>by
  obtain⟨_,l,p,d⟩:=hY f k e.symm
  rw[g] at d;injection d with d;injection d with _ d _;exact ht d)
theorem tD {w w':World} {B C:Nat} {e g:TypeId} {size p n m:Nat} {v u:Value} {xs cs:List Value} (h:w.ownsRow B e size v n xs) (f:w.ownsRow C g p u m cs) (j:w.grownBy w' u.ownBlock) (ht:e≠g):w'.ownsRow B e size v n xs:=by
 cases hb:v.ownBlock with
 | none=>exact h.kept j (.inl hb)
 | some k=>
  refine h.kept j (.inr (λl=>?_))
  obtain⟨_,q,r,h1⟩:=hY h _ hb
  obtain⟨_,s,x,d⟩:=hY f _ (l.symm.trans hb)
  rw[h1] at d;injection d with d;injection d with _ d _;exact ht d
theorem eA {w w':World} {B n size:Nat} {e:TypeId} {v:Value} {xs:List Value} (h:w.ownsRow B e size v n xs) (p:Below w.heap.size w w'):w'.ownsRow B e size v n xs:=by
 obtain⟨hl,l⟩:=h;refine⟨hl,?_⟩;rcases l with ⟨rfl,q⟩ | ⟨g,d,f,rfl,hb,j,h1⟩;·exact .inl ⟨rfl,q⟩
 ·exact .inr ⟨g,d,f,rfl,hb,(p.block g (aE j).1).trans j,h1⟩
def iR (w:World) (b:Nat):Prop:=∃cs t fr,w.heap[b]? = some (.cells cs t fr)/\t≠159
def aa0 (w:World) (Q:Nat->Prop) (tv:Value) (p:aZ):Prop:=bW w Q 1 (λcs (o:List (List iV))=>∃v,cs=[v]/\bW w Q 1 (λcs t=>∃v,cs=[v]/\bW w Q 2 kH v t) v o) tv (p.fns.map λf=>(dY f.code).out)
def afC (w:World) (Q:Nat->Prop) (yv:Value) (p:aZ):Prop:=bW w Q 1 (λcs (o:List Bool)=>∃v,cs=[v]/\bW w Q 1 xS v o) yv (p.fns.map λf=>(dY f.code).seen)
theorem aa0.toR {w w':World} {Q:Nat->Prop} {B:Nat} {g:Value} {p:aZ} (h:aa0 w Q g p) (d:∀b,Q b->b<B) (f:∀p:Addr,Q p.block->w'.cell? p=w.cell? p):xM w' B g p:= (bW.keep (Q':=Q) h (λ_ h=>h) f (λ_ _ h=>h)).toR d (λ_ _ ⟨v,e,h⟩=>⟨v,e,(h.keep (Q':=Q) (λ_ h=>h) f (λ_ _ h=>h)).toR d (λ_ _ ⟨v,e,h⟩=>⟨v,e,(h.keep (Q':=Q) (λ_ h=>h) f (λ_ _ h=>h)).toR d (λ_ _ h=>h)⟩)⟩)
theorem afC.toR {w w':World} {Q:Nat->Prop} {B:Nat} {d:Value} {p:aZ} (h:afC w Q d p) (f:∀b,Q b->b<B) (g:∀p:Addr,Q p.block->w'.cell? p=w.cell? p):acI w' B d p:= (bW.keep (Q':=Q) h (λ_ h=>h) g (λ_ _ h=>h)).toR f (λ_ _ ⟨v,e,h⟩=>⟨v,e,(h.keep (Q':=Q) (λ_ h=>h) g (λ_ _ h=>h)).toR f (λ_ _ h=>h)⟩)
theorem rP.reads {w:World} {C:Nat} {v:Value} {f:CFn} (h:rP w C v f):bW w (iR w) 1 (λcs t=>∃v,cs=[v]/\bW w (iR w) 2 kH v t) v (dY f.code).out:=by
 obtain⟨bo,ovs,rfl,h2,h3,h4,h5,h6⟩:=h
 refine⟨_,f.code.length,by rw[h5],by omega,by unfold maxLen;omega,λhp=>⟨bo,0,rfl,⟨_,_,_,h3,by decide⟩,λi x hx=>?_⟩⟩
 have hi:=(lE hx).1
 have hv:ovs[i]? = some (ovs[i]'(by omega)):=lG (by omega)
 refine⟨[ovs[i]'(by omega)],rfl,⟨_,rfl,(h6 i _ x hv hx).toQ (λb cs fr _ hb=>⟨_,_,_,hb,by decide⟩)⟩,λj u hj=>?_⟩
 match j,hj with
 | 0,hj=>
  simp only[List.getElem?_cons_zero,Option.some.injEq] at hj
  subst hj
  rw[cell_of_row w bo _ _ _ _ h3,show 0+i*1+0=i by omega]
  simp
theorem xJ.reads {w:World} {v:Value} {f:CFn} (h:xJ w v f):bW w (iR w) 1 xS v (dY f.code).seen:=by
 obtain⟨g,rfl,r,l,p⟩:=h
 refine⟨_,f.code.length,by rw[p],by omega,by unfold maxLen;omega,λs=>⟨g,0,rfl,⟨_,_,_,l,by decide⟩,λi x q=>⟨[.bool x],rfl,rfl,λj u d=>?_⟩⟩⟩
 match j,d with
 | 0,d=>
  simp only[List.getElem?_cons_zero,Option.some.injEq] at d
  subst d
  rw[cell_of_row w g _ _ _ _ l,show 0+i*1+0=i by omega]
  simp[q]
theorem abV {w:World} {B:Nat} {v:Value} {p:aZ} {f:CFn} (h:eH p f=true) (u:aB w B 5 j8 v f.code):kN f.code:=λi hi=>by
 obtain⟨j,d⟩:=List.getElem?_of_mem hi
 unfold eH at h
 simp only[Bool.and_eq_true] at h
 have l:=(uX f.code 0).1 h.1.2 j i d
 obtain⟨q,r⟩:=uK l
 obtain⟨cs,s⟩:=u.mem hi
 obtain⟨-,-,g,wb,-⟩:=s
 exact⟨λh=>⟨(q h).1,g.2⟩,λh=>⟨(r h).1,wb.2⟩,g⟩
theorem kM {p:aZ} (h:bH p=0):0<p.fns.length/\∀f∈p.fns,eH p f=true/\f.code.length<=600/\f.regs<=60:=by
 unfold bH at h;split at h;·cases h
 ·rename_i h1;split at h;·cases h
  ·rename_i d;split at h;·cases h
   ·rename_i l;refine⟨?_,λf hf=>⟨?_,(wJ (by simpa using h1)).2 f hf⟩⟩
    ·cases j:p.fns with
     | nil=>unfold zH at d;rw[j] at d;simp at d
     | cons a b=>simp
    ·have g:p.fns.any (λf=>!eH p f)=false:=(by simpa using l);have:=List.any_eq_false.1 g f hf;simpa using this
def AllPost (p:aZ) (w:World) (e:Ending) (w':World):Prop:=∃tv yv,e=.returned (.tuple #[tv,yv])/\aa0 w' (iR w') tv p/\afC w' (iR w') yv p/\lC p/\Below w.heap.size w w'
theorem ag6 (f0:List Value) (p:aZ) (w:World) (Z:fL w w.heap.size f0 p) (hc:bH p=0):Calls prog 73 #[.agg ⟨f0⟩] w (AllPost p w):=by
 obtain⟨-,d7⟩:=kM hc;have i3:=hI d7;obtain⟨A1,n1,A2,n2,A3,n3,rfl,q1,-⟩:=Z;have lf:=aM q1;have HF:=hI q1;have n9:p.fns.length<=60:=by
  have:oB p=false:=by
   unfold bH at hc;split at hc;·cases hc
   ·rename_i h;simpa using h
  unfold oB at this;simp only[Bool.or_eq_false_iff,decide_eq_false_iff_not] at this;omega
 obtain⟨w0,a3⟩:∃w0,w0=w.alloc (.cells #[.slice A1 p.fns.length n1,.slice A2 p.consts.length n2,.slice A3 p.texts.length n3] 26):=⟨_,rfl⟩;have k0:Hid (Below w.heap.size w w0):=by rw[a3];exact aA w _
 have c0:w0.cell? ⟨w.heap.size,0,none⟩=some (.slice A1 p.fns.length n1):=by rw[a3];exact cA _ _ _ _
 have HW:=hI a3;obtain⟨i0,l4,l5,l9,m0⟩:=info_parts ajB;obtain⟨j0,m1,m2,m3,m4⟩:=info_parts ajH;clear a3 q1 hc d7;go_enter func73,ntmps73;go_upto_region 3 with fail;rw[<-HW.out];go_wp2_with fail;go_loopw [4,5,14] (λa b k wr=>∃(d:Nat) (F G:List Value),k=.int .i64 d/\d<=p.fns.length/\Hid (F.length=d/\G.length=d)/\Hid (wr.ownsRow w0.heap.size 213 1 a d F)/\Hid (wr.ownsRow w0.heap.size 88 1 b d G)/\ Hid (∀(i:Nat) v f,F[i]? = some v->p.fns[i]? = some f->rP wr w0.heap.size v f)/\Hid (∀(i:Nat) v f,G[i]? = some v->p.fns[i]? = some f->xJ wr v f)/\Hid (Below w0.heap.size w0 wr)) (λ_ _ k _=>p.fns.length - (RowKit.intOf k).toNat);case atStart=>exact⟨0,[],[],rfl,by omega,⟨rfl,rfl⟩,World.ownsRow_nil _ _ _ _,World.ownsRow_nil _ _ _ _,λi v f h=>by simp at h,λi v f h=>by simp at h,Below.refl _ _⟩
 case round=>
  obtain⟨d,F,G,rfl,H,y,OA,OB,HT,HY,KW⟩:=hrel;obtain⟨AA,ca,rfl⟩:=cJ OA.out;obtain⟨AB,cb,rfl⟩:=cJ OB.out;have c9:=KW.out.size;have J:=btZ k0 KW.out;clear c0;by_cases n7:d<p.fns.length
  ·obtain⟨b,D,f,m5,rfl,hb,L,-,hR,I⟩:=HF.out.at_ n7;have i4:Hid (FnR wr wr.heap.size m5 f):=hR.keep J.out.size (λ_ Z=>J.out.cell Z);obtain⟨d8,e9,-⟩:=i3.out f (lM L);obtain⟨CA,cn,OC,oc,rfl,-,a4,-⟩:=hR;have i5:(d:Int)<p.fns.length:=(by omega);have HJ:=hI (abV d8 a4);have g0:wr.cell? ⟨b,D+d*5,none⟩=some (.int .i64 f.params):=(J.out.cell hb).trans (I 0 _ rfl);have g1:wr.cell? ⟨b,D+d*5+1,none⟩=some (.int .i64 f.regs):=(J.out.cell hb).trans (I 1 _ rfl);have g2:wr.cell? ⟨b,D+d*5+2,none⟩=some (.bool f.gen):=(J.out.cell hb).trans (I 2 _ rfl);have g3:wr.cell? ⟨b,D+d*5+3,none⟩=some (.slice CA f.caught.length cn):=(J.out.cell hb).trans (I 3 _ rfl);have g4:wr.cell? ⟨b,D+d*5+4,none⟩=some (.slice OC f.code.length oc):=(J.out.cell hb).trans (I 4 _ rfl);have r4:b<wr.heap.size:=Nat.lt_of_lt_of_le hb J.out.size;have HX:=hI L;obtain⟨w1,a5⟩:∃w1,w1=wr.alloc (.cells #[.int .i64 f.params,.int .i64 f.regs,.bool f.gen,.slice CA f.caught.length cn,.slice OC f.code.length oc] 72):=⟨_,rfl⟩;have K1:Hid (Below wr.heap.size wr w1):=(by rw[a5];exact aA _ _);have O:Hid (aJ w1 wr.heap.size [.int .i64 f.params,.int .i64 f.regs,.bool f.gen,.slice CA f.caught.length cn,.slice OC f.code.length oc]):=(by rw[a5];exact akV _ _ _);have i9:=hI a5;have CT:=hI (aeE _ f w1 (i4.out.keep K1.out.size (λ_ Z=>K1.out.cell Z)) e9 HJ.out);have b2:=hI e9;clear I L a4 d8 a5;go_upto_region 6 with fail;rw[<-i9.out];have e0:=O.out 0 _ rfl;have X:=O.out 1 _ rfl;have e2:=O.out 2 _ rfl;have e3:=O.out 3 _ rfl;have e4:=O.out 4 _ rfl;clear g0 g1 g2 g3 g4;go_wp2_with fail;refine CT.out.mono ?_;rintro e z ⟨Y,S,n4,rfl,h1,h2,h3,h4,h5,k2⟩;have K2:=btZ K1 k2;have j1:Hid (rP z w0.heap.size (.slice (some ⟨S,0,none⟩) f.code.length f.code.length) f):=⟨S,n4,rfl,b2.out,h2,h3,h5.out,λi v l q hl=>by obtain⟨A,m7,X,e2,e3,e4⟩:=h4 i v l q hl;exact⟨A,m7,X,e2,e3,λZ=>by obtain⟨b,D,cs,j,e5,e6,e7⟩:=e4 Z;exact⟨b,D,cs,j,e5,by have:=K1.out.size;omega,e7⟩⟩⟩;have j2:Hid (xJ z (.slice (some ⟨Y,0,none⟩) f.code.length f.code.length) f):=⟨Y,rfl,b2.out,h1,h5.seen⟩;have j3:w0.heap.size<=z.heap.size:=Nat.le_trans c9 K2.out.size;have a0:=hI (eA OA.out K2.out);have j4:=hI (eA OB.out K2.out);have r5:=b2.out;clear e0 X e2 e3 e4 h1 h2 h3 h4 h5 k2;go_wp2_with (at_builtin;refine wpList_append_own _ rfl _ _ 156 rfl w0.heap.size 213 i0 (.slice none 0 0) 1 24 underlying156 l4 l5 l9 m0 rfl (by decide) (.slice AA d ca) d F rfl (a0.out.alloc _) ⟨z.heap.size,0,none⟩ 1 1 [.slice (some ⟨S,0,none⟩) f.code.length f.code.length] rfl rfl ?c1 ?c2 ?c3 ?c4 ?c5 ?_);case c1=>exact World.news_of_block (cs:=#[.slice (some ⟨S,0,none⟩) f.code.length f.code.length]) (aS _ _)
   case c2=>intro u hu;simp at hu;subst hu;rfl
   case c3=>unfold maxLen;omega
   case c4=>omega
   case c5=>simp;omega
   intro v3 M N V _;have O3:=hI N;have k1:=hI (pV (B':=w0.heap.size) (a0.out.alloc (.cells #[.slice (some ⟨S,0,none⟩) f.code.length f.code.length] 213)) V (Nat.le_refl _) (by simp;omega));have k3:Hid (∀(k:Nat) (cs:Array Value) (t:TypeId) (j:Nat×Nat),t≠213->z.heap[k]? = some (.cells cs t j)->M.heap[k]? = z.heap[k]?):=λk cs t j ht H=>by have K:(z.alloc (.cells #[.slice (some ⟨S,0,none⟩) f.code.length f.code.length] 213)).heap[k]? = some (.cells cs t j):=a8 H _;rw[aeK (a0.out.alloc _) V K ht,K,H]
   have a1:Hid (M.ownsRow w0.heap.size 88 1 (.slice AB d cb) d G):=tD (j4.out.alloc _) (a0.out.alloc _) V (by decide);have d0:Hid (Below w0.heap.size w0 M):=((KW.out.trans (K2.out.mono c9)).alloc j3 _).trans k1.out;have k4:w0.heap.size<=M.heap.size:=d0.out.size;have p5:z.heap.size<=M.heap.size:=(by have:=V.size;simp at this;omega);obtain⟨m8,n0,rfl⟩:=cJ N;clear N V;go_wp2_with (at_builtin;refine wpList_append_own _ rfl _ _ 157 rfl w0.heap.size 88 j0 (.slice none 0 0) 1 24 underlying157 m1 m2 m3 m4 rfl (by decide) (.slice AB d cb) d G rfl (a1.out.alloc _) ⟨M.heap.size,0,none⟩ 1 1 [.slice (some ⟨Y,0,none⟩) f.code.length f.code.length] rfl rfl ?d1 ?d2 ?d3 ?d4 ?d5 ?_);case d1=>exact World.news_of_block (cs:=#[.slice (some ⟨Y,0,none⟩) f.code.length f.code.length]) (aS _ _)
   case d2=>intro u hu;simp at hu;subst hu;rfl
   case d3=>unfold maxLen;omega
   case d4=>omega
   case d5=>simp;omega
   intro v4 w4 a6 a7 _;have O4:=hI a6;have k5:=hI (pV (B':=w0.heap.size) (a1.out.alloc (.cells #[.slice (some ⟨Y,0,none⟩) f.code.length f.code.length] 88)) a7 (Nat.le_refl _) (by simp;omega));have k6:Hid (∀(k:Nat) (cs:Array Value) (t:TypeId) (j:Nat×Nat),t≠88->M.heap[k]? = some (.cells cs t j)->w4.heap[k]? = M.heap[k]?):=λk cs t j ht H=>by have K:(M.alloc (.cells #[.slice (some ⟨Y,0,none⟩) f.code.length f.code.length] 88)).heap[k]? = some (.cells cs t j):=a8 H _;rw[aeK (a1.out.alloc _) a7 K ht,K,H]
   have k7:Hid (w4.ownsRow w0.heap.size 213 1 (.slice m8 (d+1) n0) (d+1) (F++[.slice (some ⟨S,0,none⟩) f.code.length f.code.length])):=tD (O3.out.alloc _) (a1.out.alloc _) a7 (by decide);have k8:Hid (Below w0.heap.size w0 w4):=(d0.out.alloc k4 _).trans k5.out;have a2:Hid (∀(k:Nat) (cs:Array Value) (t:TypeId) (j:Nat×Nat),t≠213->t≠88->z.heap[k]? = some (.cells cs t j)->w4.heap[k]? = z.heap[k]?):=λk cs t j h1 h2 H=>by have h3:=(k3.out k cs t j h1 H).trans H;rw[k6.out k cs t j h2 h3,h3,H]
   clear a6 a7;go_wp2_with fail;go_roundw
   case rel=>
    refine⟨d+1,F++[.slice (some ⟨S,0,none⟩) f.code.length f.code.length],G++[.slice (some ⟨Y,0,none⟩) f.code.length f.code.length],by go_num,by omega,?_,k7,O4,?_,?_,k8⟩;·exact⟨by rw[List.length_append,y.out.1];rfl,by rw[List.length_append,y.out.2];rfl⟩
    ·intro i v g q s;rcases Nat.lt_or_ge i d with h | h;·rw[List.getElem?_append_left (by rw[y.out.1];exact h)] at q;have K:=HT.out i v g q s;refine K.keep (λk cs t j ht E=>?_);have P:z.heap[k]? = some (.cells cs t j):=(K2.out.block k (aE E).1).trans E;rw[a2.out k cs t j (by rcases ht with h | h <;> rw[h] <;> decide) (by rcases ht with h | h <;> rw[h] <;> decide) P,P,E]
     ·have hi:i=d:=(by have:=(lE q).1;rw[List.length_append,y.out.1] at this;simp at this;omega);subst hi;rw[List.getElem?_append_right (by rw[y.out.1];exact Nat.le_refl _),y.out.1] at q;simp at q;subst q;rw[HX.out] at s;injection s with s;subst s
      exact j1.out.keep (λk cs t j ht E=>a2.out k cs t j (by rcases ht with h | h <;> rw[h] <;> decide) (by rcases ht with h | h <;> rw[h] <;> decide) E)
    ·intro i v g q s;rcases Nat.lt_or_ge i d with h | h;·rw[List.getElem?_append_left (by rw[y.out.2];exact h)] at q;have K:=HY.out i v g q s;refine K.keep (λk cs t j ht E=>?_);have P:z.heap[k]? = some (.cells cs t j):=(K2.out.block k (aE E).1).trans E;rw[a2.out k cs t j (by rw[ht];decide) (by rw[ht];decide) P,P,E]
     ·have hi:i=d:=(by have:=(lE q).1;rw[List.length_append,y.out.2] at this;simp at this;omega);subst hi;rw[List.getElem?_append_right (by rw[y.out.2];exact Nat.le_refl _),y.out.2] at q;simp at q;subst q;rw[HX.out] at s;injection s with s;subst s
      exact j2.out.keep (λk cs t j ht E=>a2.out k cs t j (by rw[ht];decide) (by rw[ht];decide) E)
   case measure=>simp[RowKit.intOf];omega
  ·have k9:d=p.fns.length:=(by omega);have i5:¬(d:Int)<p.fns.length:=(by omega);subst k9;have RT:Hid (aa0 wr (iR wr) (.slice AA p.fns.length ca) p):=by
    have:=iD (Q:=iR wr) (xs:=p.fns.map λf=>(dY f.code).out) (R:=λcs (o:List (List iV))=>∃v,cs=[v]/\bW wr (iR wr) 1 (λcs t=>∃v,cs=[v]/\bW wr (iR wr) 2 kH v t) v o) (rows:=F.map λv=>[v]) (A:=AA) (c:=ca) (base:=w0.heap.size) (e:=213) (w:=wr) (size:=1) (by
     have h:=OA.out;have X:∀l:List Value,(l.map λv=>[v]).flatMap id=l:=λl=>by induction l with | nil=>rfl | cons x t ih=>rw[List.map_cons,List.flatMap_cons,ih];rfl
     rw[List.length_map,X];exact h) (by rw[List.length_map,List.length_map,y.out.1]) (by simp) (λg cs _ _ s=>⟨_,_,_,s,by decide⟩) (λi r x hr L=>by
     rw[List.getElem?_map] at hr L;obtain⟨v,q,rfl⟩:=Option.map_eq_some_iff.1 hr;obtain⟨f,hf,rfl⟩:=Option.map_eq_some_iff.1 L;exact⟨v,rfl,(HT.out i v f q hf).reads⟩)
    rw[List.length_map] at this;exact this
   have RY:Hid (afC wr (iR wr) (.slice AB p.fns.length cb) p):=by
    have:=iD (Q:=iR wr) (xs:=p.fns.map λf=>(dY f.code).seen) (R:=λcs (o:List Bool)=>∃v,cs=[v]/\bW wr (iR wr) 1 xS v o) (rows:=G.map λv=>[v]) (A:=AB) (c:=cb) (base:=w0.heap.size) (e:=88) (w:=wr) (size:=1) (by
     have h:=OB.out;have X:∀l:List Value,(l.map λv=>[v]).flatMap id=l:=λl=>by induction l with | nil=>rfl | cons x t ih=>rw[List.map_cons,List.flatMap_cons,ih];rfl
     rw[List.length_map,X];exact h) (by rw[List.length_map,List.length_map,y.out.2]) (by simp) (λg cs _ _ s=>⟨_,_,_,s,by decide⟩) (λi r x hr L=>by
     rw[List.getElem?_map] at hr L;obtain⟨v,q,rfl⟩:=Option.map_eq_some_iff.1 hr;obtain⟨f,hf,rfl⟩:=Option.map_eq_some_iff.1 L;exact⟨v,rfl,(HY.out i v f q hf).reads⟩)
    rw[List.length_map] at this;exact this
   have LO:Hid (lC p):=λf hf=>by obtain⟨i,hi⟩:=List.getElem?_of_mem hf;have d6:=(lE hi).1;have h1:F[i]? = some (F[i]'(by rw[y.out.1];exact d6)):=lG _;have h2:G[i]? = some (G[i]'(by rw[y.out.2];exact d6)):=lG _;obtain⟨_,_,-,-,-,-,l1,-⟩:=HT.out i _ f h1 hi;obtain⟨_,-,-,-,l2⟩:=HY.out i _ f h2 hi;exact⟨l1,l2⟩
   go_wp2_with fail;go_ret2;exact⟨_,_,rfl,RT.out,RY.out,LO.out,J.out⟩
end
section
open Go.RowKit Go.Maps Go.WideMaps
theorem qZ {R:Val->Bool} {p:aZ} {S:aP} : ∀(g:List bC) (low:Option Int) (gens d:List Int),cX R p S low gens g=some d->d.length<=gens.length+g.length
 | [],_,gens,d,h=>by unfold cX at h;injection h with h;subst h;simp
 | f::r,low,gens,d,h=>by
  unfold cX at h
  dsimp only at h
  split at h
  ·cases h
  ·split at h
   ·have:=qZ r _ gens d h
    rw[List.length_cons];omega
   ·split at h
    ·cases h
    ·split at h
     ·cases h
     ·have:=qZ r _ _ d h
      rw[List.length_append] at this
      simp only[List.length_cons,List.length_nil] at this ⊢
      omega
theorem aa9 {R:Val->Bool} {p:aZ} {S:aP} {gens d:List Int} {h:cD} (e:gJ R p S gens h=some d):d.length<=gens.length+h.frames.length:=by
 unfold gJ at e;dsimp only at e;split at e;·cases e
 ·split at e;·cases e
  ·split at e;·cases e
   ·split at e;·cases e
    ·exact qZ _ _ _ _ e
def vH (res:Option (List Int)) (mb:Nat) (w:World) (e:Ending) (w':World):Prop:=e=.returned (.bool (!res.isSome))/\(∀gs,res=some gs->oM w' mb gs)/\gW mb w w'
theorem aiA (tcs:List Value) (h:cD) (gens:List Int) (p:aZ) (S:aP) (s y j u:Nat) (H I:Value) (w:World) (ht:eM w w.heap.size tcs h) (hl:kY w s p S y j H I) (z:oM w j gens) (l:lC p) (A:0<p.fns.length) (g:gens.length+h.frames.length<=1000000) (r:w.cell? ⟨u,0,none⟩=some (.pointer (some ⟨s,0,none⟩))) : Calls prog 149 #[.agg ⟨tcs⟩,.pointer (some ⟨u,0,none⟩)] w (vH (gJ aF p S gens h) j w):=by
 unfold vH;obtain⟨w0,f⟩:∃w0,w0=w.alloc (.cells ⟨tcs⟩ 140):=⟨_,rfl⟩;have d:Hid (Below w.heap.size w w0):=by rw[f];exact aA w _
 have C:=hI (ahW tcs h gens p S s y j _ _ w0 (ht.keep d.o.size (λ_ r=>d.o.cell r)) (hl.below d.o) (z.below d.o) l A g);obtain⟨K,rfl,q,-⟩:=ht;obtain⟨L,M,rfl,-⟩:=id q;have D:=hI f;have J:u<w.heap.size:=eL r;clear f hl z q;go_enter func149,ntmps149;go_wp2_with fail;rw[<-D.o];refine C.o.mono ?_;rintro e w1 ⟨v,h1,x⟩;obtain⟨b,hb⟩:∃b,(gJ aF p S gens h).isSome=b:=⟨_,rfl⟩;rw[hb] at v;subst v;have E:=hI hb;have F:=hI h1;have G:=hI ((gW.of d.o).trans x);clear h1 x hb;go_wp2_with fail;go_ret;exact⟨by rw[E.o];rfl,F.o,G.o⟩
def afG (res:Option (List Int)) (mb:Nat) (w:World) (e:Ending) (w':World):Prop:=∃k:Int,e=.returned (.int .i64 k)/\(0<=k↔res=none)/\(∀gs,res=some gs->oM w' mb gs)/\gW mb w w'
theorem qO {R:Val->Bool} {p:aZ} {S:aP} {gens:List Int} {h:cD} {r:List cD} (e:gJ R p S gens h=none):dK R p S gens (h::r)=none:=by unfold dK;rw[e]
theorem qN {R:Val->Bool} {p:aZ} {S:aP} {gens d:List Int} {h:cD} {r:List cD} (e:gJ R p S gens h=some d):dK R p S gens (h::r)=dK R p S d r:=by
 conv=>lhs;unfold dK
 rw[e]
theorem adJ (A:Option Addr) (V:Nat) (d:List cD) (gens:List Int) (p:aZ) (S:aP) (lb sb E M:Nat) (tv yv:Value) (w:World) (hs:aB w w.heap.size 5 (eM w w.heap.size) (.slice A d.length V) d) (hl:kY w lb p S sb E tv yv) (l:oM w E gens) (D:lC p) (c6:0<p.fns.length) (X:∀h∈d,h.frames.length<=30) (d7:d.length<=5) (d8:gens.length<=1000) (J:w.cell? ⟨M,0,none⟩=some (.pointer (some ⟨lb,0,none⟩))) : Calls prog 145 #[.slice A d.length V,.func (.func 149) #[] #[.pointer (some ⟨M,0,none⟩)]] w (afG (dK aF p S gens d) E w):=by
 obtain⟨s,y⟩:∃r,dK aF p S gens d=r:=⟨_,rfl⟩;rw[y];unfold afG;have Y:=hI y;have HS:=hI hs;have LT:=hI hl;have HG:=hI l;have a3:=hI D;have N:=hI X;have HP:=hI J;have a4:M<w.heap.size:=eL J;have ll:=aM hs;clear hs hl l D y X J;go_enter func145,ntmps145;go_wp2_with fail;go_loopw [8] (λk wr=>∃(f:Nat) (u:List Int),k=.int .i64 f/\f<=d.length/\Hid (dK aF p S u (d.drop f)=s)/\Hid (oM wr E u)/\Hid (u.length<=gens.length+30*f)/\Hid (gW E w wr)) (λk _=>d.length - (RowKit.intOf k).toNat);case atStart=>exact⟨0,gens,rfl,by omega,by rw[List.drop_zero];exact Y.o,HG.o,by show _<=_;omega,gW.of (Below.refl _ _)⟩
 case round=>
  obtain⟨f,u,rfl,hk,HT,P,R,j⟩:=hrel
  by_cases c7:f<d.length
  ·obtain⟨b,v,x,cs,rfl,hb,K,b5,hR,q⟩:=HS.o.at_ c7
   match cs,b5 with
   | [c0,c1,c2,c3,c4],_=>
    have a5:(f:Int)<d.length:=by omega
    have g0:wr.cell? ⟨b,v+f*5,none⟩=some c0:=(j.o.cell _ hb).trans (q 0 _ rfl)
    have g1:wr.cell? ⟨b,v+f*5+1,none⟩=some c1:=(j.o.cell _ hb).trans (q 1 _ rfl)
    have g2:wr.cell? ⟨b,v+f*5+2,none⟩=some c2:=(j.o.cell _ hb).trans (q 2 _ rfl)
    have g3:wr.cell? ⟨b,v+f*5+3,none⟩=some c3:=(j.o.cell _ hb).trans (q 3 _ rfl)
    have g4:wr.cell? ⟨b,v+f*5+4,none⟩=some c4:=(j.o.cell _ hb).trans (q 4 _ rfl)
    have C:=hI (aiA [c0,c1,c2,c3,c4] x u p S lb sb E M _ _ wr (hR.keep j.o.size (λp J=>j.o.cell p J)) (LT.o.turn j.o) P.o a3.o c6 (by have:=R.o;have:=N.o x (lM K);omega) ((j.o.cell _ a4).trans HP.o))
    have z:d.drop f=x::d.drop (f+1):=by
     obtain⟨h1,L⟩:=lE K
     rw[List.drop_eq_getElem_cons h1,L]
    have O:Hid (dK aF p S u (x::d.drop (f+1))=s):=by have:=HT.o;rwa [z] at this
    have b3:=hI (N.o x (lM K))
    obtain⟨rt,H⟩:∃r,gJ aF p S u x=r:=⟨_,rfl⟩
    rw[H] at C
    have F:=hI H
    clear K q hR z H HT
    cases rt with
    | none=>
     have G:Hid (s=none):=by rw[<-O.o];exact qO F.o
     go_wp2_with fail
     refine C.o.mono ?_
     rintro e w2 ⟨rfl,-,I⟩
     have Z:=hI (j.o.trans I)
     clear I g0 g1 g2 g3 g4
     go_wp2_with fail
     go_ret
     exact⟨_,rfl,⟨λ_=>G.o,λ_=>by omega⟩,(λg l=>by rw[G.o] at l;cases l),Z.o⟩
    | some g2'=>
     have b4:Hid (dK aF p S g2' (d.drop (f+1))=s):=by rw[<-O.o];exact(qN F.o).symm
     go_wp2_with fail
     refine C.o.mono ?_
     rintro e w2 ⟨rfl,L,I⟩
     have Z:=hI (j.o.trans I)
     have H2:=hI (L g2' rfl)
     clear I L g0 g1 g2 g3 g4
     go_wp2_with fail
     go_roundw
     case rel=>exact⟨f+1,g2',by go_num,by omega,b4,H2,by show _<=_;have:=R.o;have:=aa9 F.o;have:=b3.o;omega,Z⟩
     case measure=>simp[RowKit.intOf];omega
  ·have a5:¬(f:Int)<d.length:=by omega
   have G:Hid (s=some u):=by
    have:=HT.o
    rw[List.drop_of_length_le (by omega)] at this
    exact this.symm
   go_wp2_with fail
   go_ret
   exact⟨_,rfl,⟨λh=>by omega,λh=>by rw[G.o] at h;cases h⟩,(λg l=>by rw[G.o] at l;injection l with l;exact l ▸ P.o),j.o⟩
theorem yJ (A:Option Addr) (j:Nat) (d:List cD) (gens:List Int) (p:aZ) (S:aP) (r z l s:Nat) (D E:Value) (w:World) (F:aB w w.heap.size 5 (eM w w.heap.size) (.slice A d.length j) d) (hl:kY w r p S z l D E) (G:oM w l gens) (f:lC p) (H:0<p.fns.length) (q:∀h∈d,h.frames.length<=30) (u:d.length<=5) (I:gens.length<=1000) (J:w.cell? ⟨s,0,none⟩=some (.pointer (some ⟨r,0,none⟩))) : Calls prog 71 #[.slice A d.length j,.func (.func 149) #[] #[.pointer (some ⟨s,0,none⟩)]] w (vH (dK aF p S gens d) l w):=by
 have L:=hI (adJ A j d gens p S r z l s D E w F hl G f H q u I J);unfold vH;clear F hl G f q J;go_enter func71,ntmps71;go_wp2_with fail;refine L.o.mono ?_;rintro e w1 ⟨k,rfl,h1,x,y⟩;have v:=hI h1;have M:=hI x;have N:=hI y;clear h1 x y;go_wp2_with fail;go_ret;refine⟨?_,M.o,N.o⟩;cases K:dK aF p S gens d with
 | none=>rw[show decide (0<=k)=true from decide_eq_true (v.o.2 K)];rfl
 | some g=>rw[show decide (0<=k)=false from decide_eq_false (λh=>by have:=v.o.1 h;rw[K] at this;cases this)];rfl
theorem right_m (p:aZ) (S:aP) (f l mb:Nat) (tv yv:Value) (w:World) (hl:kY w f p S l mb tv yv) (hg:oM w mb []) (b4:lC p) (r7:0<p.fns.length) (O:∀c∈S.cells,mN aF S c=true) (o8:S.threads.length<=5) (k9:∀h∈S.threads,h.frames.length<=30) (y1:wfi S.steps) (y2:wfi S.asked) :
  Calls prog 74 #[.pointer (some ⟨f,0,none⟩)] w (λe w'=>e=.returned (.bool (pC aF p S))/\gW mb w w'):=by
 obtain⟨r,hr⟩:∃r,pC aF p S=r:=⟨_,rfl⟩
 rw[hr]
 unfold pC at hr
 have LT:=hI hl
 have HG:=hI hg
 have i0:=hI b4
 have HC:=hI O
 have o9:=hI k9
 obtain⟨⟨pa,pb,pc,j2,j3⟩,s,j4⟩:=hl.look
 obtain⟨x5,x6,x7,y0,e6,e7,k0,-,-,e9⟩:=id j3
 simp only[List.cons.injEq,and_true] at k0
 obtain⟨rfl,rfl,rfl⟩:=k0
 have p0:=hI e9
 have P:=hI j2
 have x0:=aM e9
 obtain⟨A0,n0,A1,n1,A2,n2,A3,n3,A4,n4,A5,n5,hh,hb,s0,s1,s2,s3,-⟩:=j4.parts
 have HH:=hI hh
 have S0:=hI s0
 have S2:=hI s2
 have S3:=hI s3
 have l0:=aM s0
 have l2:=aM s2
 have l3:=aM s3
 have s5:S.texts.length<=n2:=(s2.len).2.1
 have i1:=hh 6 _ rfl
 have i2:=hh 7 _ rfl
 obtain⟨w1,z⟩:∃w1,w1=w.alloc (.cells #[.pointer (some ⟨f,0,none⟩)] 153):=⟨_,rfl⟩
 have q:Hid (Below w.heap.size w w1):=by rw[z];exact aA _ _
 have HB:Hid (w1.cell? ⟨w.heap.size,0,none⟩=some (.pointer (some ⟨f,0,none⟩))):=by rw[z];exact cA _ _ _ _
 have p1:w.heap.size<w1.heap.size:=by rw[z];simp
 have p2:=hI z
 have H6:=hI i1
 have H7:=hI i2
 have HR:=hI hr
 clear hr hl hg b4 O k9 j2 j3 e9 j4 hh s0 s1 s2 s3 i1 i2 z
 have e0:=HB.o
 have e1:w1.cell? ⟨f,2,none⟩=some (.slice e6 p.texts.length e7):=(q.o.cell s).trans (P.o 2 _ rfl)
 go_enter func74,ntmps74
 go_upto_region 1 with fail
 rw[<-p2.o]
 go_upto_region 2 with fail
 have a0:=ecZ HB.o
 have a1:∀E:Up w1,E.to.cell? ⟨f,3,none⟩=some (.pointer (some ⟨l,0,none⟩)):=λE=>E.cell ((q.o.cell s).trans (P.o 3 _ rfl))
 have a2:∀E:Up w1,E.to.cell? ⟨l,2,none⟩=some (.slice A2 S.texts.length n2):=λE=>E.cell ((q.o.cell hb).trans (HH.o 2 _ rfl))
 have a3:∀E:Up w1,E.to.cell? ⟨f,2,none⟩=some (.slice e6 p.texts.length e7):=λE=>E.cell ((q.o.cell s).trans (P.o 2 _ rfl))
 have a4:∀E:Up w1,E.to.cell? ⟨l,7,none⟩=some (.int .i64 S.steps):=λE=>E.cell ((q.o.cell hb).trans H7.o)
 have a5:∀E:Up w1,E.to.cell? ⟨l,6,none⟩=some (.int .i64 S.asked):=λE=>E.cell ((q.o.cell hb).trans H6.o)
 have a6:∀E:Up w1,E.to.cell? ⟨l,3,none⟩=some (.slice A3 S.threads.length n3):=λE=>E.cell ((q.o.cell hb).trans (HH.o 3 _ rfl))
 clear e0 e1
 have g:Hid ((if(decide (S.texts.length<p.texts.length) || decide (S.texts.take p.texts.length≠p.texts) || !aL S.steps 0 1000000000 || !aL S.asked 0 1000000000 || S.threads.isEmpty)=true then false
  else if S.cells.any (λc=>!oP aF p S c) then false
  else match dK aF p S [] S.threads with
   | none=>false
   | some gens=>lI gens 0 S.cells)=r):=HR.o
 refine aD (by kernel_rfl) (by kernel_rfl) ?_
 repeat (go_big_quiet_step (fail))
 obtain⟨b1,b0⟩:∃b:Bool,(decide (S.texts.length<p.texts.length))=b:=⟨_,rfl⟩
 rw[b0]
 cases b1
 case true=>
  have j:Hid (false=r):=by rw[<-g.o,b0];rfl
  repeat (go_big_quiet_step (fail))
  refine wpQuiet_nil ?_
  (first | rintro _ ⟨E,rfl⟩ | intro E)
  have A:=btZ q E.below
  clear a0 a1 a2 a3 a4 a5 a6
  go_wp2_with fail
  go_ret
  exact⟨by rw[<-j.o];rfl,gW.of A.o⟩
 have p3:p.texts.length<=S.texts.length:=by have:=of_decide_eq_false b0;omega
 have u1:p.texts.length<=n2:=by omega
 have u2:(p.texts.length:Int)<=n2:=by omega
 have CE:Hid (∀E:Up w1,Calls prog 81 #[.slice A2 p.texts.length n2,.slice e6 p.texts.length e7] E.to (aK (.bool (decide (S.texts.take p.texts.length=p.texts))) E.to)):=λE=>by
  have A:=btZ q E.below
  exact uS _ _ _ _ E.to ((S2.o.take p3).below A) (p0.o.below A)
 have G:Hid (∀W,Calls prog 146 #[.int .i64 S.steps,.int .i64 0,.int .i64 1000000000] W λe w'=>e=.returned (.bool (aL S.steps 0 1000000000))/\W=w'):=λW=>kC _ _ _ W
 have H:Hid (∀W,Calls prog 146 #[.int .i64 S.asked,.int .i64 0,.int .i64 1000000000] W λe w'=>e=.returned (.bool (aL S.asked 0 1000000000))/\W=w'):=λW=>kC _ _ _ W
 obtain⟨m1,f8⟩:∃m,decide (S.texts.take p.texts.length=p.texts)=m:=⟨_,rfl⟩
 obtain⟨m2,k1⟩:∃m,aL S.steps 0 1000000000=m:=⟨_,rfl⟩
 obtain⟨m3,k6⟩:∃m,aL S.asked 0 1000000000=m:=⟨_,rfl⟩
 rw[f8] at CE
 rw[k1] at G g
 rw[k6] at H g
 rw[b0,show decide (S.texts.take p.texts.length≠p.texts) = !m1 by rw[<-f8];simp] at g
 clear f8 k1 k6
 repeat (go_big_quiet_step ((first | (go_at_call 81;with_reducible exact Calls.up (CE.o _)) | (go_at_call 146;with_reducible exact akW (G.o _)) | (go_at_call 146;with_reducible exact akW (H.o _)))))
 obtain⟨q7,V⟩:∃b:Bool,(!m1)=b:=⟨_,rfl⟩
 rw[V]
 cases q7
 case true=>
  obtain rfl:m1=false:=by simpa using V
  have j:Hid (false=r):=by rw[<-g.o];rfl
  repeat (go_big_quiet_step (fail))
  refine wpQuiet_nil ?_
  (first | rintro _ ⟨E,rfl⟩ | intro E)
  have A:=btZ q E.below
  clear a0 a1 a2 a3 a4 a5 a6
  go_wp2_with fail
  go_ret
  exact⟨by rw[<-j.o];rfl,gW.of A.o⟩
 obtain rfl:m1=true:=by simpa using V
 repeat (go_big_quiet_step ((first | (go_at_call 81;with_reducible exact Calls.up (CE.o _)) | (go_at_call 146;with_reducible exact akW (G.o _)) | (go_at_call 146;with_reducible exact akW (H.o _)))))
 obtain⟨q8,X⟩:∃b:Bool,(!m2)=b:=⟨_,rfl⟩
 rw[X]
 cases q8
 case true=>
  obtain rfl:m2=false:=by simpa using X
  have j:Hid (false=r):=by rw[<-g.o];rfl
  repeat (go_big_quiet_step (fail))
  refine wpQuiet_nil ?_
  (first | rintro _ ⟨E,rfl⟩ | intro E)
  have A:=btZ q E.below
  clear a0 a1 a2 a3 a4 a5 a6
  go_wp2_with fail
  go_ret
  exact⟨by rw[<-j.o];rfl,gW.of A.o⟩
 obtain rfl:m2=true:=by simpa using X
 repeat (go_big_quiet_step ((first | (go_at_call 81;with_reducible exact Calls.up (CE.o _)) | (go_at_call 146;with_reducible exact akW (G.o _)) | (go_at_call 146;with_reducible exact akW (H.o _)))))
 obtain⟨r0,Y⟩:∃b:Bool,(!m3)=b:=⟨_,rfl⟩
 rw[Y]
 cases r0
 case true=>
  obtain rfl:m3=false:=by simpa using Y
  have j:Hid (false=r):=by rw[<-g.o];rfl
  repeat (go_big_quiet_step (fail))
  refine wpQuiet_nil ?_
  (first | rintro _ ⟨E,rfl⟩ | intro E)
  have A:=btZ q E.below
  clear a0 a1 a2 a3 a4 a5 a6
  go_wp2_with fail
  go_ret
  exact⟨by rw[<-j.o];rfl,gW.of A.o⟩
 obtain rfl:m3=true:=by simpa using Y
 repeat (go_big_quiet_step ((first | (go_at_call 81;with_reducible exact Calls.up (CE.o _)) | (go_at_call 146;with_reducible exact akW (G.o _)) | (go_at_call 146;with_reducible exact akW (H.o _)))))
 refine wpQuiet_nil ?_
 (first | rintro _ ⟨E,rfl⟩ | intro E)
 obtain⟨w2,k2⟩:=E
 dsimp only
 have a7:=hI k2
 have R:=btZ q k2
 clear a0 a1 a2 a3 a4 a5 a6 k2
 rw[show S.threads.isEmpty=((S.threads.length:Int) == 0) from(jT _).symm] at g
 obtain⟨m4,k7⟩:∃m,((S.threads.length:Int) == 0)=m:=⟨_,rfl⟩
 rw[k7] at g ⊢
 cases m4
 case true=>
  have j:Hid (false=r):=by rw[<-g.o];rfl
  go_wp2_with fail
  go_ret
  exact⟨by rw[<-j.o];rfl,gW.of R.o⟩
 clear k7
 have e2:Hid ((if S.cells.any (λc=>!oP aF p S c) then false
  else match dK aF p S [] S.threads with
   | none=>false
   | some gens=>lI gens 0 S.cells)=r):=g.o
 have x1:=hI (LT.o.below R.o)
 have c0:w2.cell? ⟨w.heap.size,0,none⟩=some (.pointer (some ⟨f,0,none⟩)):=aC a7.o HB.o
 have D:w2.cell? ⟨f,3,none⟩=some (.pointer (some ⟨l,0,none⟩)):=(R.o.cell s).trans (P.o 3 _ rfl)
 have c2:w2.cell? ⟨l,0,none⟩=some (.slice A0 S.cells.length n0):=(R.o.cell hb).trans (HH.o 0 _ rfl)
 have C1:=hI (kF (hM w w.heap.size) (λc=>!oP aF p S c) A0 n0 S.cells 147 ajQ #[.pointer (some ⟨w.heap.size,0,none⟩)] w2 (S0.o.below R.o) (λN k5 x cs hx hR=>by
  have kk:=btZ R k5
  exact aiB cs x p S f l mb w.heap.size _ _ N (hR.keep kk.size (λ_ F=>kk.cell F)) (LT.o.below kk) i0.o (HC.o x hx) (aC (a7.o.trans (k5.mono a7.o.size)) HB.o)))
 obtain⟨m5,k8⟩:∃m,S.cells.any (λc=>!oP aF p S c)=m:=⟨_,rfl⟩
 rw[k8] at C1 e2
 clear k8
 go_wp2_with fail
 refine C1.o.mono ?_
 rintro e w3 ⟨rfl,k3⟩
 have i3:=btZ a7 k3
 have v:=btZ R k3
 clear k3 c0 D c2
 cases m5
 case true=>
  have j:Hid (false=r):=by rw[<-e2.o];rfl
  go_wp2_with fail
  go_ret
  exact⟨by rw[<-j.o];rfl,gW.of v.o⟩
 have e3:Hid ((match dK aF p S [] S.threads with
   | none=>false
   | some gens=>lI gens 0 S.cells)=r):=e2.o
 have c0:w3.cell? ⟨w.heap.size,0,none⟩=some (.pointer (some ⟨f,0,none⟩)):=aC i3.o HB.o
 have D:w3.cell? ⟨f,3,none⟩=some (.pointer (some ⟨l,0,none⟩)):=(v.o.cell s).trans (P.o 3 _ rfl)
 have c2:w3.cell? ⟨l,3,none⟩=some (.slice A3 S.threads.length n3):=(v.o.cell hb).trans (HH.o 3 _ rfl)
 have CT:=hI (yJ A3 n3 S.threads [] p S f l mb w.heap.size _ _ w3 ((S3.o.keep v.o.size (λ_ F=>v.o.cell F) (λ_ _ h=>h.keep v.o.size (λ_ F=>v.o.cell F)))) (LT.o.below v.o) (HG.o.below v.o) i0.o r7 o9.o o8 (by simp) c0)
 obtain⟨r1,f9⟩:∃m,dK aF p S [] S.threads=m:=⟨_,rfl⟩
 rw[f9] at CT e3
 clear f9
 cases r1 with
 | none=>
  have j:Hid (false=r):=e3.o
  go_wp2_with fail
  refine CT.o.mono ?_
  rintro e u ⟨rfl,-,Z⟩
  have y:=hI ((gW.of v.o).trans Z)
  clear Z c0 D c2
  go_wp2_with fail
  go_ret
  exact⟨by rw[<-j.o];rfl,y.o⟩
 | some gens=>
  have p5:Hid (lI gens 0 S.cells=r):=e3.o
  go_wp2_with fail
  refine CT.o.mono ?_
  rintro e u ⟨rfl,h4,Z⟩
  have G4:=hI (h4 gens rfl)
  have y:=hI ((gW.of v.o).trans Z)
  have i4:w.heap.size<w3.heap.size:=Nat.lt_of_lt_of_le p1 i3.o.size
  have B4:Hid (u.cell? ⟨w.heap.size,0,none⟩=some (.pointer (some ⟨f,0,none⟩))):=(Z.cell _ i4).trans c0
  have p9:w.heap.size<u.heap.size:=Nat.lt_of_lt_of_le i4 Z.size
  clear h4 Z c0 D c2
  have d0:=B4.o
  have d1:u.cell? ⟨f,3,none⟩=some (.pointer (some ⟨l,0,none⟩)):=(y.o.cell _ s).trans (P.o 3 _ rfl)
  have d2:u.cell? ⟨l,0,none⟩=some (.slice A0 S.cells.length n0):=(y.o.cell _ hb).trans (HH.o 0 _ rfl)
  have q2:Hid (aB u u.heap.size 4 (hM u u.heap.size) (.slice A0 S.cells.length n0) S.cells):=S0.o.keep y.o.size (λp F=>y.o.cell p F) (λ_ _ h=>h.keep y.o.size (λp F=>y.o.cell p F))
  have u7:f<u.heap.size:=Nat.lt_of_lt_of_le s y.o.size
  go_wp2_with fail
  clear d0 d1 d2
  go_loopw [101] (λk wr=>∃d:Nat,k=.int .i64 d/\d<=S.cells.length/\Hid (lI gens d (S.cells.drop d)=r)/\Hid (Below u.heap.size u wr)) (λk _=>S.cells.length - (RowKit.intOf k).toNat)
  case atStart=>exact⟨0,rfl,by omega,by rw[List.drop_zero];exact p5.o,Below.refl _ _⟩
  case round=>
   obtain⟨d,rfl,hk,HF,K⟩:=hrel
   have i5:=K.o.size
   by_cases s4:d<S.cells.length
   ·obtain⟨b,b2,c,cs,rfl,L,hx,-,⟨VV,FV,rfl,r2,r3,-⟩,M⟩:=q2.o.at_ s4
    obtain⟨VA,vc,rfl,-⟩:=r2
    obtain⟨FA,fc,rfl,-⟩:=r3
    have q3:(d:Int)<S.cells.length:=by omega
    have g0:wr.cell? ⟨b,b2+d*4,none⟩=some (.int .i64 c.kind):=(K.o.cell L).trans (M 0 _ rfl)
    have g1:wr.cell? ⟨b,b2+d*4+1,none⟩=some (.int .i64 c.num):=(K.o.cell L).trans (M 1 _ rfl)
    have g2:wr.cell? ⟨b,b2+d*4+2,none⟩=some (.slice VA c.vals.length vc):=(K.o.cell L).trans (M 2 _ rfl)
    have g3:wr.cell? ⟨b,b2+d*4+3,none⟩=some (.slice FA c.frames.length fc):=(K.o.cell L).trans (M 3 _ rfl)
    have x2:b<wr.heap.size:=Nat.lt_of_lt_of_le L i5
    have a9:S.cells.drop d=c::S.cells.drop (d+1):=by
     obtain⟨h1,h2⟩:=lE hx
     rw[List.drop_eq_getElem_cons h1,h2]
    have i6:Hid ((!(c.kind == 5 && c.num == 1 && !decide ((d:Int)∈gens)) && lI gens (d+1) (S.cells.drop (d+1)))=r):=by have:=HF.o;rw[a9] at this;exact this
    obtain⟨N,b3⟩:∃N,N=wr.alloc (.cells #[.int .i64 c.kind,.int .i64 c.num,.slice VA c.vals.length vc,.slice FA c.frames.length fc] 166):=⟨_,rfl⟩
    have K5:Hid (Below wr.heap.size wr N):=by rw[b3];exact aA _ _
    have I:=hI (K.o.trans (K5.o.mono i5))
    have i9:Hid (aJ N wr.heap.size [.int .i64 c.kind,.int .i64 c.num,.slice VA c.vals.length vc,.slice FA c.frames.length fc]):=by rw[b3];exact akV _ _ _
    have q5:=hI b3
    have j0:wfi (d:Int):=by unfold wfi;omega
    have e4:=tC (pF (pF G4.o K.o) K5.o) j0
    have j1:=hI (y.o.then I.o)
    clear M hx a9 HF b3 j0
    go_upto_region 9 with fail
    rw[<-q5.o]
    have f0:=i9.o 0 _ rfl
    have f1:=i9.o 1 _ rfl
    have f2:N.cell? ⟨w.heap.size,0,none⟩=some (.pointer (some ⟨f,0,none⟩)):=(I.o.cell p9).trans B4.o
    have f3:N.cell? ⟨f,6,none⟩=some (.map (some mb)):=(j1.o.cell _ s).trans (P.o 6 _ rfl)
    clear g0 g1 g2 g3
    have e5:Hid ((c.kind == 5 && c.num == 1 && !decide ((d:Int)∈gens))=false->lI gens (d+1) (S.cells.drop (d+1))=r):=λh=>by rw[<-i6.o,h];rfl
    by_cases c5:c.kind=5
    case neg=>
     have J:=hI (e5.o (by rw[show(c.kind == 5)=false from bF c5];rfl))
     have x3:(c.kind == 5)=false:=bF c5
     go_wp2_with fail
     go_roundw
     case rel=>exact⟨d+1,by go_num,by omega,J.o,I.o⟩
     case measure=>simp[RowKit.intOf];omega
    rw[c5] at f0
    by_cases D:c.num=1
    case neg=>
     have J:=hI (e5.o (by rw[show(c.num == 1)=false from bF D];simp))
     have x4:(c.num == 1)=false:=bF D
     go_wp2_with fail
     go_roundw
     case rel=>exact⟨d+1,by go_num,by omega,J.o,I.o⟩
     case measure=>simp[RowKit.intOf];omega
    rw[D] at f1
    by_cases hm:(d:Int)∈gens
    ·rw[if_pos hm] at e4
     have J:=hI (e5.o (by rw[decide_eq_true hm];simp))
     clear hm
     go_wp2_with fail
     go_roundw
     case rel=>exact⟨d+1,by go_num,by omega,J.o,I.o⟩
     case measure=>simp[RowKit.intOf];omega
    ·rw[if_neg hm] at e4
     have j:Hid (false=r):=by rw[<-i6.o,c5,D,decide_eq_false hm];rfl
     clear hm
     go_wp2_with fail
     go_ret
     exact⟨by rw[<-j.o];rfl,j1.o⟩
   ·have q3:¬(d:Int)<S.cells.length:=by omega
    have j:Hid (true=r):=by rw[<-HF.o,List.drop_of_length_le (by omega)];rfl
    have KT:=hI (y.o.then K.o)
    go_wp2_with fail
    go_ret
    exact⟨by rw[<-j.o];rfl,KT.o⟩
end
end Go.Proofs.YtijihlcdhppfgaaGreatDoor
