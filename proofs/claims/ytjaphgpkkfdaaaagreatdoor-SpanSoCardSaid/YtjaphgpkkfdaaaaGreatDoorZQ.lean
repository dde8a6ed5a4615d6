/- A part of the walk. -/
import Derived.Test.YtjaphgpkkfdaaaaGreatDoorZP
set_option maxHeartbeats 16000000
set_option maxRecDepth 100000
set_option linter.all false
namespace Go.Proofs.YtjaphgpkkfdaaaaGreatDoor
open Tryz
section
open Go.RowKit
theorem ac0:(prog.info? 170).map (λi=>(i.zero,i.size,i.bytes))=some (some (.slice none 0 0),1,24):=by kernel_rfl
theorem ac4:(prog.info? 171).map (λi=>(i.zero,i.size,i.bytes))=some (some (.slice none 0 0),1,24):=by kernel_rfl
def oA (w:World) (C:Nat) (v:Value) (f:CFn):Prop:=∃bo ovs,v=.slice (some ⟨bo,0,none⟩) f.code.length f.code.length/\f.code.length<=600/\w.heap[bo]? = some (.cells ⟨ovs⟩ 59 (0,0))/\ovs.length=f.code.length/\(cY f.code).out.length=f.code.length/\
 ∀(i:Nat) v l,ovs[i]? = some v->(cY f.code).out[i]? = some l->bI w C 96 2 jW v l
def sH (w:World) (v:Value) (f:CFn):Prop:=∃bs,v=.slice (some ⟨bs,0,none⟩) f.code.length f.code.length/\f.code.length<=600/\w.heap[bs]? = some (.cells ⟨(cY f.code).seen.map .bool⟩ 4 (0,0))/\(cY f.code).seen.length=f.code.length
theorem oA.keep {w w':World} {C:Nat} {v:Value} {f:CFn} (h:oA w C v f) (j:∀(k:Nat) (cs:Array Value) (t:TypeId) (g:Nat×Nat),t=59\/t=96->w.heap[k]? = some (.cells cs t g)->w'.heap[k]? = w.heap[k]?):oA w' C v f:=by obtain⟨m,d,p,q,e,r,s,u⟩:=h;exact⟨m,d,p,q,(j _ _ _ _ (.inl rfl) e).trans e,r,s,λi v l x hl=>(u i v l x hl).keep (λk cs g _ y=>j _ _ _ _ (.inr rfl) y) (λ_ _ h=>h)⟩
theorem sH.keep {w w':World} {v:Value} {f:CFn} (h:sH w v f) (m:∀(k:Nat) (cs:Array Value) (t:TypeId) (l:Nat×Nat),t=4->w.heap[k]? = some (.cells cs t l)->w'.heap[k]? = w.heap[k]?):sH w' v f:=by obtain⟨e,g,i,d,j⟩:=h;exact⟨e,g,i,(m _ _ _ _ rfl d).trans d,j⟩
theorem yY {w w':World} {B:Nat} {e t:TypeId} {size n:Nat} {v:Value} {xs:List Value} (f:w.ownsRow B e size v n xs) (h:w.grownBy w' v.ownBlock) {k:Nat} {cs:Array Value} {i:Nat×Nat}
  (g:w.heap[k]? = some (.cells cs t i)) (ht:t≠e):w'.heap[k]? = w.heap[k]?:=
 h.block k (aE g).1 (λe=>by
  obtain⟨_,j,l,d⟩:=jD f k e.symm
  rw[g] at d;injection d with d;injection d with _ d _;exact ht d)
theorem pC {w w':World} {B C:Nat} {e g:TypeId} {size p n m:Nat} {v u:Value} {xs cs:List Value} (h:w.ownsRow B e size v n xs) (f:w.ownsRow C g p u m cs) (i:w.grownBy w' u.ownBlock) (ht:e≠g):w'.ownsRow B e size v n xs:=by
 cases hb:v.ownBlock with
 | none=>exact h.kept i (.inl hb)
 | some k=>
  refine h.kept i (.inr (λl=>?_))
  obtain⟨_,q,r,j⟩:=jD h _ hb
  obtain⟨_,s,x,d⟩:=jD f _ (l.symm.trans hb)
  rw[j] at d;injection d with d;injection d with _ d _;exact ht d
theorem cZ {w w':World} {B n size:Nat} {e:TypeId} {v:Value} {xs:List Value} (h:w.ownsRow B e size v n xs) (l:Below w.heap.size w w'):w'.ownsRow B e size v n xs:=by
 obtain⟨hl,j⟩:=h;refine⟨hl,?_⟩;rcases j with ⟨rfl,m⟩ | ⟨g,d,f,rfl,hb,i,p⟩;·exact .inl ⟨rfl,m⟩
 ·exact .inr ⟨g,d,f,rfl,hb,(l.block g (aE i).1).trans i,p⟩
def fY (w:World) (b:Nat):Prop:=∃cs t fr,w.heap[b]? = some (.cells cs t fr)/\t≠118
def vE (w:World) (Q:Nat->Prop) (tv:Value) (p:aW):Prop:=bK w Q 1 (λcs (o:List (List gM))=>∃v,cs=[v]/\bK w Q 1 (λcs t=>∃v,cs=[v]/\bK w Q 2 jW v t) v o) tv (p.fns.map λf=>(cY f.code).out)
def zT (w:World) (Q:Nat->Prop) (yv:Value) (p:aW):Prop:=bK w Q 1 (λcs (o:List Bool)=>∃v,cs=[v]/\bK w Q 1 sP v o) yv (p.fns.map λf=>(cY f.code).seen)
theorem vE.toR {w w':World} {Q:Nat->Prop} {B:Nat} {g:Value} {p:aW} (h:vE w Q g p) (d:∀b,Q b->b<B) (f:∀p:Addr,Q p.block->w'.cell? p=w.cell? p):sK w' B g p:= (bK.keep (Q':=Q) h (λ_ h=>h) f (λ_ _ h=>h)).toR d (λ_ _ ⟨v,e,h⟩=>⟨v,e,(h.keep (Q':=Q) (λ_ h=>h) f (λ_ _ h=>h)).toR d (λ_ _ ⟨v,e,h⟩=>⟨v,e,(h.keep (Q':=Q) (λ_ h=>h) f (λ_ _ h=>h)).toR d (λ_ _ h=>h)⟩)⟩)
theorem zT.toR {w w':World} {Q:Nat->Prop} {B:Nat} {d:Value} {p:aW} (h:zT w Q d p) (f:∀b,Q b->b<B) (g:∀p:Addr,Q p.block->w'.cell? p=w.cell? p):wN w' B d p:= (bK.keep (Q':=Q) h (λ_ h=>h) g (λ_ _ h=>h)).toR f (λ_ _ ⟨v,e,h⟩=>⟨v,e,(h.keep (Q':=Q) (λ_ h=>h) g (λ_ _ h=>h)).toR f (λ_ _ h=>h)⟩)
theorem oA.reads {w:World} {C:Nat} {v:Value} {f:CFn} (h:oA w C v f):bK w (fY w) 1 (λcs t=>∃v,cs=[v]/\bK w (fY w) 2 jW v t) v (cY f.code).out:=by
 obtain⟨bo,ovs,rfl,h2,h3,h4,h5,h6⟩:=h
 refine⟨_,f.code.length,by rw[h5],by omega,by unfold maxLen;omega,λhp=>⟨bo,0,rfl,⟨_,_,_,h3,by decide⟩,λi x hx=>?_⟩⟩
 have hi:=(lE hx).1
 have hv:ovs[i]? = some (ovs[i]'(by omega)):=lG (by omega)
 refine⟨[ovs[i]'(by omega)],rfl,⟨_,rfl,(h6 i _ x hv hx).toQ (λb cs fr _ hb=>⟨_,_,_,hb,by decide⟩)⟩,λj u hj=>?_⟩
 match j,hj with
 | 0,hj=>
  simp only[List.getElem?_cons_zero,Option.some.injEq] at hj
  subst hj
  rw[cell_of_row w bo _ _ _ _ h3,show 0+i*1+0=i by omega]
  simp
theorem sH.reads {w:World} {v:Value} {f:CFn} (h:sH w v f):bK w (fY w) 1 sP v (cY f.code).seen:=by
 obtain⟨e,rfl,p,g,l⟩:=h
 refine⟨_,f.code.length,by rw[l],by omega,by unfold maxLen;omega,λq=>⟨e,0,rfl,⟨_,_,_,g,by decide⟩,λi x m=>⟨[.bool x],rfl,rfl,λj u d=>?_⟩⟩⟩
 match j,d with
 | 0,d=>
  simp only[List.getElem?_cons_zero,Option.some.injEq] at d
  subst d
  rw[cell_of_row w e _ _ _ _ g,show 0+i*1+0=i by omega]
  simp[m]
theorem wE {w:World} {B:Nat} {v:Value} {p:aW} {f:CFn} (h:dF p f=true) (r:aH w B 5 iA v f.code):iP f.code:=λi hi=>by
 obtain⟨j,d⟩:=List.getElem?_of_mem hi
 unfold dF at h
 simp only[Bool.and_eq_true] at h
 have g:=(qK f.code 0).1 h.1.2 j i d
 obtain⟨l,m⟩:=qA g
 obtain⟨cs,q⟩:=r.mem hi
 obtain⟨-,-,e,wb,-⟩:=q
 exact⟨λh=>⟨(l h).1,e.2⟩,λh=>⟨(m h).1,wb.2⟩,e⟩
theorem iO {p:aW} (h:bH p=0):0<p.fns.length/\∀f∈p.fns,dF p f=true/\f.code.length<=600/\f.regs<=60:=by
 unfold bH at h;split at h;·cases h
 ·rename_i i;split at h;·cases h
  ·rename_i d;split at h;·cases h
   ·rename_i j;refine⟨?_,λf hf=>⟨?_,(v8 (by simpa using i)).2 f hf⟩⟩
    ·cases g:p.fns with
     | nil=>unfold tS at d;rw[g] at d;simp at d
     | cons a b=>simp
    ·have e:p.fns.any (λf=>!dF p f)=false:=(by simpa using j);have:=List.any_eq_false.1 e f hf;simpa using this
def AllPost (p:aW) (w:World) (e:Ending) (w':World):Prop:=∃tv yv,e=.returned (.tuple #[tv,yv])/\vE w' (fY w') tv p/\zT w' (fY w') yv p/\i8 p/\Below w.heap.size w w'
theorem abG (e9:List Value) (p:aW) (w:World) (X:eL w w.heap.size e9 p) (hc:bH p=0):Calls prog 50 #[.agg ⟨e9⟩] w (AllPost p w):=by
 obtain⟨-,d6⟩:=iO hc;have i2:=hI d6;obtain⟨A1,n1,A2,n2,A3,n3,rfl,q1,-⟩:=X;have lf:=aP q1;have HF:=hI q1;have n8:p.fns.length<=60:=by
  have:lB p=false:=by
   unfold bH at hc;split at hc;·cases hc
   ·rename_i h;simpa using h
  unfold lB at this;simp only[Bool.or_eq_false_iff,decide_eq_false_iff_not] at this;omega
 obtain⟨j,a1⟩:∃j,j=w.alloc (.cells #[.slice A1 p.fns.length n1,.slice A2 p.consts.length n2,.slice A3 p.texts.length n3] 26):=⟨_,rfl⟩;have k0:Hid (Below w.heap.size w j):=by rw[a1];exact aB w _
 have c0:j.cell? ⟨w.heap.size,0,none⟩=some (.slice A1 p.fns.length n1):=by rw[a1];exact bL _ _ _ _
 have HW:=hI a1;obtain⟨i0,l3,l4,l5,l9⟩:=info_parts ac0;obtain⟨j0,m0,m1,m2,m3⟩:=info_parts ac4;clear a1 q1 hc d6;go_enter func50,ntmps50;go_upto_region 3 with fail;rw[<-HW.out];go_wp2_with fail;go_loopw [4,5,14] (λa b k wr=>∃(d:Nat) (E F:List Value),k=.int .i64 d/\d<=p.fns.length/\Hid (E.length=d/\F.length=d)/\Hid (wr.ownsRow j.heap.size 170 1 a d E)/\Hid (wr.ownsRow j.heap.size 171 1 b d F)/\ Hid (∀(i:Nat) v f,E[i]? = some v->p.fns[i]? = some f->oA wr j.heap.size v f)/\Hid (∀(i:Nat) v f,F[i]? = some v->p.fns[i]? = some f->sH wr v f)/\Hid (Below j.heap.size j wr)) (λ_ _ k _=>p.fns.length - (RowKit.intOf k).toNat);case atStart=>exact⟨0,[],[],rfl,by omega,⟨rfl,rfl⟩,World.ownsRow_nil _ _ _ _,World.ownsRow_nil _ _ _ _,λi v f h=>by simp at h,λi v f h=>by simp at h,Below.refl _ _⟩
 case round=>
  obtain⟨d,E,F,rfl,G,y,OA,OB,HT,HY,KW⟩:=hrel;obtain⟨AA,ca,rfl⟩:=bV OA.out;obtain⟨AB,cb,rfl⟩:=bV OB.out;have c8:=KW.out.size;have I:=btZ k0 KW.out;clear c0;by_cases n6:d<p.fns.length
  ·obtain⟨b,C,f,m4,rfl,hb,K,-,hR,H⟩:=HF.out.at_ n6;have i3:Hid (FnR wr wr.heap.size m4 f):=hR.keep I.out.size (λ_ X=>I.out.cell X);obtain⟨d7,d8,-⟩:=i2.out f (lM K);obtain⟨CA,cn,OC,oc,rfl,-,a2,-⟩:=hR;have i4:(d:Int)<p.fns.length:=(by omega);have HJ:=hI (wE d7 a2);have g0:wr.cell? ⟨b,C+d*5,none⟩=some (.int .i64 f.params):=(I.out.cell hb).trans (H 0 _ rfl);have g1:wr.cell? ⟨b,C+d*5+1,none⟩=some (.int .i64 f.regs):=(I.out.cell hb).trans (H 1 _ rfl);have g2:wr.cell? ⟨b,C+d*5+2,none⟩=some (.bool f.gen):=(I.out.cell hb).trans (H 2 _ rfl);have g3:wr.cell? ⟨b,C+d*5+3,none⟩=some (.slice CA f.caught.length cn):=(I.out.cell hb).trans (H 3 _ rfl);have g4:wr.cell? ⟨b,C+d*5+4,none⟩=some (.slice OC f.code.length oc):=(I.out.cell hb).trans (H 4 _ rfl);have r4:b<wr.heap.size:=Nat.lt_of_lt_of_le hb I.out.size;have HX:=hI K;obtain⟨w1,a3⟩:∃w1,w1=wr.alloc (.cells #[.int .i64 f.params,.int .i64 f.regs,.bool f.gen,.slice CA f.caught.length cn,.slice OC f.code.length oc] 99):=⟨_,rfl⟩;have K1:Hid (Below wr.heap.size wr w1):=(by rw[a3];exact aB _ _);have N:Hid (aA w1 wr.heap.size [.int .i64 f.params,.int .i64 f.regs,.bool f.gen,.slice CA f.caught.length cn,.slice OC f.code.length oc]):=(by rw[a3];exact ad5 _ _ _);have i6:=hI a3;have CT:=hI (yU _ f w1 (i3.out.keep K1.out.size (λ_ X=>K1.out.cell X)) d8 HJ.out);have b0:=hI d8;clear H K a2 d7 a3;go_upto_region 6 with fail;rw[<-i6.out];have e0:=N.out 0 _ rfl;have V:=N.out 1 _ rfl;have e2:=N.out 2 _ rfl;have e3:=N.out 3 _ rfl;have e4:=N.out 4 _ rfl;clear g0 g1 g2 g3 g4;go_wp2_with fail;refine CT.out.mono ?_;rintro e z ⟨W,P,n0,rfl,h1,h2,h3,h4,h5,k2⟩;have K2:=btZ K1 k2;have i9:Hid (oA z j.heap.size (.slice (some ⟨P,0,none⟩) f.code.length f.code.length) f):=⟨P,n0,rfl,b0.out,h2,h3,h5.out,λi v l q hl=>by obtain⟨A,m6,V,e2,e3,e4⟩:=h4 i v l q hl;exact⟨A,m6,V,e2,e3,λX=>by obtain⟨b,C,cs,m,e5,e6,e7⟩:=e4 X;exact⟨b,C,cs,m,e5,by have:=K1.out.size;omega,e7⟩⟩⟩;have j1:Hid (sH z (.slice (some ⟨W,0,none⟩) f.code.length f.code.length) f):=⟨W,rfl,b0.out,h1,h5.seen⟩;have j2:j.heap.size<=z.heap.size:=Nat.le_trans c8 K2.out.size;have Y:=hI (cZ OA.out K2.out);have j3:=hI (cZ OB.out K2.out);have r5:=b0.out;clear e0 V e2 e3 e4 h1 h2 h3 h4 h5 k2;go_wp2_with (at_builtin;refine wpList_append_own _ rfl _ _ 115 rfl j.heap.size 170 i0 (.slice none 0 0) 1 24 underlying115 l3 l4 l5 l9 rfl (by decide) (.slice AA d ca) d E rfl (Y.out.alloc _) ⟨z.heap.size,0,none⟩ 1 1 [.slice (some ⟨P,0,none⟩) f.code.length f.code.length] rfl rfl ?c1 ?c2 ?c3 ?c4 ?c5 ?_);case c1=>exact World.news_of_block (cs:=#[.slice (some ⟨P,0,none⟩) f.code.length f.code.length]) (aJ _ _)
   case c2=>intro u hu;simp at hu;subst hu;rfl
   case c3=>unfold maxLen;omega
   case c4=>omega
   case c5=>simp;omega
   intro v3 L M S _;have O3:=hI M;have j4:=hI (mO (B':=j.heap.size) (Y.out.alloc (.cells #[.slice (some ⟨P,0,none⟩) f.code.length f.code.length] 170)) S (Nat.le_refl _) (by simp;omega));have k1:Hid (∀(k:Nat) (cs:Array Value) (t:TypeId) (m:Nat×Nat),t≠170->z.heap[k]? = some (.cells cs t m)->L.heap[k]? = z.heap[k]?):=λk cs t m ht G=>by have J:(z.alloc (.cells #[.slice (some ⟨P,0,none⟩) f.code.length f.code.length] 170)).heap[k]? = some (.cells cs t m):=aY G _;rw[yY (Y.out.alloc _) S J ht,J,G]
   have Z:Hid (L.ownsRow j.heap.size 171 1 (.slice AB d cb) d F):=pC (j3.out.alloc _) (Y.out.alloc _) S (by decide);have c9:Hid (Below j.heap.size j L):=((KW.out.trans (K2.out.mono c8)).alloc j2 _).trans j4.out;have k3:j.heap.size<=L.heap.size:=c9.out.size;have p4:z.heap.size<=L.heap.size:=(by have:=S.size;simp at this;omega);obtain⟨m7,m8,rfl⟩:=bV M;clear M S;go_wp2_with (at_builtin;refine wpList_append_own _ rfl _ _ 116 rfl j.heap.size 171 j0 (.slice none 0 0) 1 24 underlying116 m0 m1 m2 m3 rfl (by decide) (.slice AB d cb) d F rfl (Z.out.alloc _) ⟨L.heap.size,0,none⟩ 1 1 [.slice (some ⟨W,0,none⟩) f.code.length f.code.length] rfl rfl ?d1 ?d2 ?d3 ?d4 ?d5 ?_);case d1=>exact World.news_of_block (cs:=#[.slice (some ⟨W,0,none⟩) f.code.length f.code.length]) (aJ _ _)
   case d2=>intro u hu;simp at hu;subst hu;rfl
   case d3=>unfold maxLen;omega
   case d4=>omega
   case d5=>simp;omega
   intro v4 w4 a4 a5 _;have O4:=hI a4;have k4:=hI (mO (B':=j.heap.size) (Z.out.alloc (.cells #[.slice (some ⟨W,0,none⟩) f.code.length f.code.length] 171)) a5 (Nat.le_refl _) (by simp;omega));have k5:Hid (∀(k:Nat) (cs:Array Value) (t:TypeId) (m:Nat×Nat),t≠171->L.heap[k]? = some (.cells cs t m)->w4.heap[k]? = L.heap[k]?):=λk cs t m ht G=>by have J:(L.alloc (.cells #[.slice (some ⟨W,0,none⟩) f.code.length f.code.length] 171)).heap[k]? = some (.cells cs t m):=aY G _;rw[yY (Z.out.alloc _) a5 J ht,J,G]
   have k6:Hid (w4.ownsRow j.heap.size 170 1 (.slice m7 (d+1) m8) (d+1) (E++[.slice (some ⟨P,0,none⟩) f.code.length f.code.length])):=pC (O3.out.alloc _) (Z.out.alloc _) a5 (by decide);have k7:Hid (Below j.heap.size j w4):=(c9.out.alloc k3 _).trans k4.out;have a0:Hid (∀(k:Nat) (cs:Array Value) (t:TypeId) (m:Nat×Nat),t≠170->t≠171->z.heap[k]? = some (.cells cs t m)->w4.heap[k]? = z.heap[k]?):=λk cs t m h1 h2 G=>by have h3:=(k1.out k cs t m h1 G).trans G;rw[k5.out k cs t m h2 h3,h3,G]
   clear a4 a5;go_wp2_with fail;go_roundw
   case rel=>
    refine⟨d+1,E++[.slice (some ⟨P,0,none⟩) f.code.length f.code.length],F++[.slice (some ⟨W,0,none⟩) f.code.length f.code.length],by go_num,by omega,?_,k6,O4,?_,?_,k7⟩;·exact⟨by rw[List.length_append,y.out.1];rfl,by rw[List.length_append,y.out.2];rfl⟩
    ·intro i v g q s;rcases Nat.lt_or_ge i d with h | h;·rw[List.getElem?_append_left (by rw[y.out.1];exact h)] at q;have J:=HT.out i v g q s;refine J.keep (λk cs t m ht D=>?_);have O:z.heap[k]? = some (.cells cs t m):=(K2.out.block k (aE D).1).trans D;rw[a0.out k cs t m (by rcases ht with h | h <;> rw[h] <;> decide) (by rcases ht with h | h <;> rw[h] <;> decide) O,O,D]
     ·have hi:i=d:=(by have:=(lE q).1;rw[List.length_append,y.out.1] at this;simp at this;omega);subst hi;rw[List.getElem?_append_right (by rw[y.out.1];exact Nat.le_refl _),y.out.1] at q;simp at q;subst q;rw[HX.out] at s;injection s with s;subst s
      exact i9.out.keep (λk cs t m ht D=>a0.out k cs t m (by rcases ht with h | h <;> rw[h] <;> decide) (by rcases ht with h | h <;> rw[h] <;> decide) D)
    ·intro i v g q s;rcases Nat.lt_or_ge i d with h | h;·rw[List.getElem?_append_left (by rw[y.out.2];exact h)] at q;have J:=HY.out i v g q s;refine J.keep (λk cs t m ht D=>?_);have O:z.heap[k]? = some (.cells cs t m):=(K2.out.block k (aE D).1).trans D;rw[a0.out k cs t m (by rw[ht];decide) (by rw[ht];decide) O,O,D]
     ·have hi:i=d:=(by have:=(lE q).1;rw[List.length_append,y.out.2] at this;simp at this;omega);subst hi;rw[List.getElem?_append_right (by rw[y.out.2];exact Nat.le_refl _),y.out.2] at q;simp at q;subst q;rw[HX.out] at s;injection s with s;subst s
      exact j1.out.keep (λk cs t m ht D=>a0.out k cs t m (by rw[ht];decide) (by rw[ht];decide) D)
   case measure=>simp[RowKit.intOf];omega
  ·have k8:d=p.fns.length:=(by omega);have i4:¬(d:Int)<p.fns.length:=(by omega);subst k8;have RT:Hid (vE wr (fY wr) (.slice AA p.fns.length ca) p):=by
    have:=fL (Q:=fY wr) (xs:=p.fns.map λf=>(cY f.code).out) (R:=λcs (o:List (List gM))=>∃v,cs=[v]/\bK wr (fY wr) 1 (λcs t=>∃v,cs=[v]/\bK wr (fY wr) 2 jW v t) v o) (rows:=E.map λv=>[v]) (A:=AA) (c:=ca) (base:=j.heap.size) (e:=170) (w:=wr) (size:=1) (by
     have h:=OA.out;have V:∀l:List Value,(l.map λv=>[v]).flatMap id=l:=λl=>by induction l with | nil=>rfl | cons x t ih=>rw[List.map_cons,List.flatMap_cons,ih];rfl
     rw[List.length_map,V];exact h) (by rw[List.length_map,List.length_map,y.out.1]) (by simp) (λg cs _ _ s=>⟨_,_,_,s,by decide⟩) (λi r x hr K=>by
     rw[List.getElem?_map] at hr K;obtain⟨v,q,rfl⟩:=Option.map_eq_some_iff.1 hr;obtain⟨f,hf,rfl⟩:=Option.map_eq_some_iff.1 K;exact⟨v,rfl,(HT.out i v f q hf).reads⟩)
    rw[List.length_map] at this;exact this
   have RY:Hid (zT wr (fY wr) (.slice AB p.fns.length cb) p):=by
    have:=fL (Q:=fY wr) (xs:=p.fns.map λf=>(cY f.code).seen) (R:=λcs (o:List Bool)=>∃v,cs=[v]/\bK wr (fY wr) 1 sP v o) (rows:=F.map λv=>[v]) (A:=AB) (c:=cb) (base:=j.heap.size) (e:=171) (w:=wr) (size:=1) (by
     have h:=OB.out;have V:∀l:List Value,(l.map λv=>[v]).flatMap id=l:=λl=>by induction l with | nil=>rfl | cons x t ih=>rw[List.map_cons,List.flatMap_cons,ih];rfl
     rw[List.length_map,V];exact h) (by rw[List.length_map,List.length_map,y.out.2]) (by simp) (λg cs _ _ s=>⟨_,_,_,s,by decide⟩) (λi r x hr K=>by
     rw[List.getElem?_map] at hr K;obtain⟨v,q,rfl⟩:=Option.map_eq_some_iff.1 hr;obtain⟨f,hf,rfl⟩:=Option.map_eq_some_iff.1 K;exact⟨v,rfl,(HY.out i v f q hf).reads⟩)
    rw[List.length_map] at this;exact this
   have LO:Hid (i8 p):=λf hf=>by obtain⟨i,hi⟩:=List.getElem?_of_mem hf;have d0:=(lE hi).1;have h1:E[i]? = some (E[i]'(by rw[y.out.1];exact d0)):=lG _;have h2:F[i]? = some (F[i]'(by rw[y.out.2];exact d0)):=lG _;obtain⟨_,_,-,-,-,-,l1,-⟩:=HT.out i _ f h1 hi;obtain⟨_,-,-,-,l2⟩:=HY.out i _ f h2 hi;exact⟨l1,l2⟩
   go_wp2_with fail;go_ret2;exact⟨_,_,rfl,RT.out,RY.out,LO.out,I.out⟩
end
section
open Go.RowKit Go.Maps Go.WideMaps
theorem nK {R:Val->Bool} {p:aW} {S:aR} : ∀(e:List a8) (low:Option Int) (gens d:List Int),b7 R p S low gens e=some d->d.length<=gens.length+e.length
 | [],_,gens,d,h=>by unfold b7 at h;injection h with h;subst h;simp
 | f::r,low,gens,d,h=>by
  unfold b7 at h
  dsimp only at h
  split at h
  ·cases h
  ·split at h
   ·have:=nK r _ gens d h
    rw[List.length_cons];omega
   ·split at h
    ·cases h
    ·split at h
     ·cases h
     ·have:=nK r _ _ d h
      rw[List.length_append] at this
      simp only[List.length_cons,List.length_nil] at this ⊢
      omega
theorem vM {R:Val->Bool} {p:aW} {S:aR} {gens d:List Int} {h:bW} (e:eN R p S gens h=some d):d.length<=gens.length+h.frames.length:=by
 unfold eN at e;dsimp only at e;split at e;·cases e
 ·split at e;·cases e
  ·split at e;·cases e
   ·split at e;·cases e
    ·exact nK _ _ _ _ e
def qS (res:Option (List Int)) (mb:Nat) (w:World) (e:Ending) (w':World):Prop:=e=.returned (.bool (!res.isSome))/\(∀gs,res=some gs->lN w' mb gs)/\fB mb w w'
theorem acE (tcs:List Value) (h:bW) (gens:List Int) (p:aW) (S:aR) (r y j s:Nat) (H I:Value) (w:World) (ht:g9 w w.heap.size tcs h) (hl:iV w r p S y j H I) (z:lN w j gens) (l:i8 p) (A:0<p.fns.length) (g:gens.length+h.frames.length<=1000000) (q:w.cell? ⟨s,0,none⟩=some (.pointer (some ⟨r,0,none⟩))) : Calls prog 98 #[.agg ⟨tcs⟩,.pointer (some ⟨s,0,none⟩)] w (qS (eN aG p S gens h) j w):=by
 unfold qS;obtain⟨i,f⟩:∃i,i=w.alloc (.cells ⟨tcs⟩ 57):=⟨_,rfl⟩;have d:Hid (Below w.heap.size w i):=by rw[f];exact aB w _
 have C:=hI (ab3 tcs h gens p S r y j _ _ i (ht.keep d.o.size (λ_ q=>d.o.cell q)) (hl.below d.o) (z.below d.o) l A g);obtain⟨K,rfl,m,-⟩:=ht;obtain⟨L,M,rfl,-⟩:=id m;have D:=hI f;have J:s<w.heap.size:=dP q;clear f hl z m;go_enter func98,ntmps98;go_wp2_with fail;rw[<-D.o];refine C.o.mono ?_;rintro e w1 ⟨u,v,x⟩;obtain⟨b,hb⟩:∃b,(eN aG p S gens h).isSome=b:=⟨_,rfl⟩;rw[hb] at u;subst u;have E:=hI hb;have F:=hI v;have G:=hI ((fB.of d.o).trans x);clear v x hb;go_wp2_with fail;go_ret;exact⟨by rw[E.o];rfl,F.o,G.o⟩
def zW (res:Option (List Int)) (mb:Nat) (w:World) (e:Ending) (w':World):Prop:=∃k:Int,e=.returned (.int .i64 k)/\(0<=k↔res=none)/\(∀gs,res=some gs->lN w' mb gs)/\fB mb w w'
theorem nA {R:Val->Bool} {p:aW} {S:aR} {gens:List Int} {h:bW} {r:List bW} (e:eN R p S gens h=none):cE R p S gens (h::r)=none:=by unfold cE;rw[e]
theorem m9 {R:Val->Bool} {p:aW} {S:aR} {gens d:List Int} {h:bW} {r:List bW} (e:eN R p S gens h=some d):cE R p S gens (h::r)=cE R p S d r:=by
 conv=>lhs;unfold cE
 rw[e]
theorem xW (A:Option Addr) (P:Nat) (d:List bW) (gens:List Int) (p:aW) (S:aR) (Y sb z K:Nat) (tv yv:Value) (w:World) (Z:aH w w.heap.size 5 (g9 w w.heap.size) (.slice A d.length P) d) (hl:iV w Y p S sb z tv yv) (j:lN w z gens) (y:i8 p) (b5:0<p.fns.length) (R:∀h∈d,h.frames.length<=30) (d5:d.length<=5) (d6:gens.length<=1000) (H:w.cell? ⟨K,0,none⟩=some (.pointer (some ⟨Y,0,none⟩))) : Calls prog 93 #[.slice A d.length P,.func (.func 98) #[] #[.pointer (some ⟨K,0,none⟩)]] w (zW (cE aG p S gens d) z w):=by
 obtain⟨m,u⟩:∃r,cE aG p S gens d=r:=⟨_,rfl⟩;rw[u];unfold zW;have V:=hI u;have HS:=hI Z;have LT:=hI hl;have HG:=hI j;have a0:=hI y;have L:=hI R;have HP:=hI H;have a1:K<w.heap.size:=dP H;have ll:=aP Z;clear Z hl j y u R H;go_enter func93,ntmps93;go_wp2_with fail;go_loopw [8] (λk wr=>∃(f:Nat) (q:List Int),k=.int .i64 f/\f<=d.length/\Hid (cE aG p S q (d.drop f)=m)/\Hid (lN wr z q)/\Hid (q.length<=gens.length+30*f)/\Hid (fB z w wr)) (λk _=>d.length - (RowKit.intOf k).toNat);case atStart=>exact⟨0,gens,rfl,by omega,by rw[List.drop_zero];exact V.o,HG.o,by show _<=_;omega,fB.of (Below.refl _ _)⟩
 case round=>
  obtain⟨f,q,rfl,hk,X,N,O,i⟩:=hrel
  by_cases b6:f<d.length
  ·obtain⟨b,s,x,cs,rfl,hb,I,b2,hR,l⟩:=HS.o.at_ b6
   match cs,b2 with
   | [c0,c1,c2,c3,c4],_=>
    have a2:(f:Int)<d.length:=by omega
    have g0:wr.cell? ⟨b,s+f*5,none⟩=some c0:=(i.o.cell _ hb).trans (l 0 _ rfl)
    have g1:wr.cell? ⟨b,s+f*5+1,none⟩=some c1:=(i.o.cell _ hb).trans (l 1 _ rfl)
    have g2:wr.cell? ⟨b,s+f*5+2,none⟩=some c2:=(i.o.cell _ hb).trans (l 2 _ rfl)
    have g3:wr.cell? ⟨b,s+f*5+3,none⟩=some c3:=(i.o.cell _ hb).trans (l 3 _ rfl)
    have g4:wr.cell? ⟨b,s+f*5+4,none⟩=some c4:=(i.o.cell _ hb).trans (l 4 _ rfl)
    have C:=hI (acE [c0,c1,c2,c3,c4] x q p S Y sb z K _ _ wr (hR.keep i.o.size (λp H=>i.o.cell p H)) (LT.o.turn i.o) N.o a0.o b5 (by have:=O.o;have:=L.o x (lM I);omega) ((i.o.cell _ a1).trans HP.o))
    have v:d.drop f=x::d.drop (f+1):=by
     obtain⟨h1,J⟩:=lE I
     rw[List.drop_eq_getElem_cons h1,J]
    have M:Hid (cE aG p S q (x::d.drop (f+1))=m):=by have:=X.o;rwa [v] at this
    have a9:=hI (L.o x (lM I))
    obtain⟨rt,F⟩:∃r,eN aG p S q x=r:=⟨_,rfl⟩
    rw[F] at C
    have D:=hI F
    clear I l hR v F X
    cases rt with
    | none=>
     have E:Hid (m=none):=by rw[<-M.o];exact nA D.o
     go_wp2_with fail
     refine C.o.mono ?_
     rintro e w2 ⟨rfl,-,G⟩
     have W:=hI (i.o.trans G)
     clear G g0 g1 g2 g3 g4
     go_wp2_with fail
     go_ret
     exact⟨_,rfl,⟨λ_=>E.o,λ_=>by omega⟩,(λg j=>by rw[E.o] at j;cases j),W.o⟩
    | some g2'=>
     have b0:Hid (cE aG p S g2' (d.drop (f+1))=m):=by rw[<-M.o];exact(m9 D.o).symm
     go_wp2_with fail
     refine C.o.mono ?_
     rintro e w2 ⟨rfl,J,G⟩
     have W:=hI (i.o.trans G)
     have H2:=hI (J g2' rfl)
     clear G J g0 g1 g2 g3 g4
     go_wp2_with fail
     go_roundw
     case rel=>exact⟨f+1,g2',by go_num,by omega,b0,H2,by show _<=_;have:=O.o;have:=vM D.o;have:=a9.o;omega,W⟩
     case measure=>simp[RowKit.intOf];omega
  ·have a2:¬(f:Int)<d.length:=by omega
   have E:Hid (m=some q):=by
    have:=X.o
    rw[List.drop_of_length_le (by omega)] at this
    exact this.symm
   go_wp2_with fail
   go_ret
   exact⟨_,rfl,⟨λh=>by omega,λh=>by rw[E.o] at h;cases h⟩,(λg j=>by rw[E.o] at j;injection j with j;exact j ▸ N.o),i.o⟩
theorem s8 (A:Option Addr) (i:Nat) (d:List bW) (gens:List Int) (p:aW) (S:aR) (m y j q:Nat) (z C:Value) (w:World) (D:aH w w.heap.size 5 (g9 w w.heap.size) (.slice A d.length i) d) (hl:iV w m p S y j z C) (E:lN w j gens) (f:i8 p) (F:0<p.fns.length) (l:∀h∈d,h.frames.length<=30) (r:d.length<=5) (G:gens.length<=1000) (H:w.cell? ⟨q,0,none⟩=some (.pointer (some ⟨m,0,none⟩))) : Calls prog 48 #[.slice A d.length i,.func (.func 98) #[] #[.pointer (some ⟨q,0,none⟩)]] w (qS (cE aG p S gens d) j w):=by
 have J:=hI (xW A i d gens p S m y j q z C w D hl E f F l r G H);unfold qS;clear D hl E f l H;go_enter func48,ntmps48;go_wp2_with fail;refine J.o.mono ?_;rintro e w1 ⟨k,rfl,u,v,x⟩;have s:=hI u;have K:=hI v;have L:=hI x;clear u v x;go_wp2_with fail;go_ret;refine⟨?_,K.o,L.o⟩;cases I:cE aG p S gens d with
 | none=>rw[show decide (0<=k)=true from decide_eq_true (s.o.2 I)];rfl
 | some g=>rw[show decide (0<=k)=false from decide_eq_false (λh=>by have:=s.o.1 h;rw[I] at this;cases this)];rfl
theorem right_m (p:aW) (S:aR) (f j mb:Nat) (tv yv:Value) (w:World) (hl:iV w f p S j mb tv yv) (hg:lN w mb []) (b2:i8 p) (r5:0<p.fns.length) (M:∀c∈S.cells,kE aG S c=true) (o2:S.threads.length<=5) (k7:∀h∈S.threads,h.frames.length<=30) (y1:wfi S.steps) (y2:wfi S.asked) :
  Calls prog 51 #[.pointer (some ⟨f,0,none⟩)] w (λe w'=>e=.returned (.bool (mF aG p S))/\fB mb w w'):=by
 obtain⟨r,hr⟩:∃r,mF aG p S=r:=⟨_,rfl⟩
 rw[hr]
 unfold mF at hr
 have LT:=hI hl
 have HG:=hI hg
 have h8:=hI b2
 have HC:=hI M
 have o3:=hI k7
 obtain⟨⟨pa,pb,pc,j0,j1⟩,q,j2⟩:=hl.look
 obtain⟨x5,x6,x7,y0,e4,e5,j3,-,-,e6⟩:=id j1
 simp only[List.cons.injEq,and_true] at j3
 obtain⟨rfl,rfl,rfl⟩:=j3
 have o7:=hI e6
 have N:=hI j0
 have x0:=aP e6
 obtain⟨A0,n0,A1,n1,A2,n2,A3,n3,A4,n4,A5,n5,hh,hb,s0,s1,s2,s3,-⟩:=j2.parts
 have HH:=hI hh
 have S0:=hI s0
 have S2:=hI s2
 have S3:=hI s3
 have l0:=aP s0
 have l2:=aP s2
 have l3:=aP s3
 have r7:S.texts.length<=n2:=(s2.len).2.1
 have h9:=hh 6 _ rfl
 have i0:=hh 7 _ rfl
 obtain⟨w1,y⟩:∃w1,w1=w.alloc (.cells #[.pointer (some ⟨f,0,none⟩)] 112):=⟨_,rfl⟩
 have l:Hid (Below w.heap.size w w1):=by rw[y];exact aB _ _
 have HB:Hid (w1.cell? ⟨w.heap.size,0,none⟩=some (.pointer (some ⟨f,0,none⟩))):=by rw[y];exact bL _ _ _ _
 have o9:w.heap.size<w1.heap.size:=by rw[y];simp
 have p0:=hI y
 have H6:=hI h9
 have H7:=hI i0
 have HR:=hI hr
 clear hr hl hg b2 M k7 j0 j1 e6 j2 hh s0 s1 s2 s3 h9 i0 y
 have e0:=HB.o
 have e1:w1.cell? ⟨f,2,none⟩=some (.slice e4 p.texts.length e5):=(l.o.cell q).trans (N.o 2 _ rfl)
 go_enter func51,ntmps51
 go_upto_region 1 with fail
 rw[<-p0.o]
 go_upto_region 2 with fail
 have a0:=ecZ HB.o
 have a1:∀E:Up w1,E.to.cell? ⟨f,3,none⟩=some (.pointer (some ⟨j,0,none⟩)):=λE=>E.cell ((l.o.cell q).trans (N.o 3 _ rfl))
 have a2:∀E:Up w1,E.to.cell? ⟨j,2,none⟩=some (.slice A2 S.texts.length n2):=λE=>E.cell ((l.o.cell hb).trans (HH.o 2 _ rfl))
 have a3:∀E:Up w1,E.to.cell? ⟨f,2,none⟩=some (.slice e4 p.texts.length e5):=λE=>E.cell ((l.o.cell q).trans (N.o 2 _ rfl))
 have a4:∀E:Up w1,E.to.cell? ⟨j,7,none⟩=some (.int .i64 S.steps):=λE=>E.cell ((l.o.cell hb).trans H7.o)
 have a5:∀E:Up w1,E.to.cell? ⟨j,6,none⟩=some (.int .i64 S.asked):=λE=>E.cell ((l.o.cell hb).trans H6.o)
 have a6:∀E:Up w1,E.to.cell? ⟨j,3,none⟩=some (.slice A3 S.threads.length n3):=λE=>E.cell ((l.o.cell hb).trans (HH.o 3 _ rfl))
 clear e0 e1
 have g:Hid ((if(decide (S.texts.length<p.texts.length) || decide (S.texts.take p.texts.length≠p.texts) || !aK S.steps 0 1000000000 || !aK S.asked 0 1000000000 || S.threads.isEmpty)=true then false
  else if S.cells.any (λc=>!lQ aG p S c) then false
  else match cE aG p S [] S.threads with
   | none=>false
   | some gens=>jC gens 0 S.cells)=r):=HR.o
 refine aD (by kernel_rfl) (by kernel_rfl) ?_
 repeat (go_big_quiet_step (fail))
 obtain⟨b1,a7⟩:∃b:Bool,(decide (S.texts.length<p.texts.length))=b:=⟨_,rfl⟩
 rw[a7]
 cases b1
 case true=>
  have i:Hid (false=r):=by rw[<-g.o,a7];rfl
  repeat (go_big_quiet_step (fail))
  refine wpQuiet_nil ?_
  (first | rintro _ ⟨E,rfl⟩ | intro E)
  have z:=btZ l E.below
  clear a0 a1 a2 a3 a4 a5 a6
  go_wp2_with fail
  go_ret
  exact⟨by rw[<-i.o];rfl,fB.of z.o⟩
 have p1:p.texts.length<=S.texts.length:=by have:=of_decide_eq_false a7;omega
 have t7:p.texts.length<=n2:=by omega
 have t9:(p.texts.length:Int)<=n2:=by omega
 have CE:Hid (∀E:Up w1,Calls prog 42 #[.slice A2 p.texts.length n2,.slice e4 p.texts.length e5] E.to (aM (.bool (decide (S.texts.take p.texts.length=p.texts))) E.to)):=λE=>by
  have z:=btZ l E.below
  exact qG _ _ _ _ E.to ((S2.o.take p1).below z) (o7.o.below z)
 have D:Hid (∀W,Calls prog 95 #[.int .i64 S.steps,.int .i64 0,.int .i64 1000000000] W λe w'=>e=.returned (.bool (aK S.steps 0 1000000000))/\W=w'):=λW=>iD _ _ _ W
 have F:Hid (∀W,Calls prog 95 #[.int .i64 S.asked,.int .i64 0,.int .i64 1000000000] W λe w'=>e=.returned (.bool (aK S.asked 0 1000000000))/\W=w'):=λW=>iD _ _ _ W
 obtain⟨m1,e9⟩:∃m,decide (S.texts.take p.texts.length=p.texts)=m:=⟨_,rfl⟩
 obtain⟨m2,j4⟩:∃m,aK S.steps 0 1000000000=m:=⟨_,rfl⟩
 obtain⟨m3,k0⟩:∃m,aK S.asked 0 1000000000=m:=⟨_,rfl⟩
 rw[e9] at CE
 rw[j4] at D g
 rw[k0] at F g
 rw[a7,show decide (S.texts.take p.texts.length≠p.texts) = !m1 by rw[<-e9];simp] at g
 clear e9 j4 k0
 repeat (go_big_quiet_step ((first | (go_at_call 42;with_reducible exact Calls.up (CE.o _)) | (go_at_call 95;with_reducible exact ad6 (D.o _)) | (go_at_call 95;with_reducible exact ad6 (F.o _)))))
 obtain⟨q5,P⟩:∃b:Bool,(!m1)=b:=⟨_,rfl⟩
 rw[P]
 cases q5
 case true=>
  obtain rfl:m1=false:=by simpa using P
  have i:Hid (false=r):=by rw[<-g.o];rfl
  repeat (go_big_quiet_step (fail))
  refine wpQuiet_nil ?_
  (first | rintro _ ⟨E,rfl⟩ | intro E)
  have z:=btZ l E.below
  clear a0 a1 a2 a3 a4 a5 a6
  go_wp2_with fail
  go_ret
  exact⟨by rw[<-i.o];rfl,fB.of z.o⟩
 obtain rfl:m1=true:=by simpa using P
 repeat (go_big_quiet_step ((first | (go_at_call 42;with_reducible exact Calls.up (CE.o _)) | (go_at_call 95;with_reducible exact ad6 (D.o _)) | (go_at_call 95;with_reducible exact ad6 (F.o _)))))
 obtain⟨q6,R⟩:∃b:Bool,(!m2)=b:=⟨_,rfl⟩
 rw[R]
 cases q6
 case true=>
  obtain rfl:m2=false:=by simpa using R
  have i:Hid (false=r):=by rw[<-g.o];rfl
  repeat (go_big_quiet_step (fail))
  refine wpQuiet_nil ?_
  (first | rintro _ ⟨E,rfl⟩ | intro E)
  have z:=btZ l E.below
  clear a0 a1 a2 a3 a4 a5 a6
  go_wp2_with fail
  go_ret
  exact⟨by rw[<-i.o];rfl,fB.of z.o⟩
 obtain rfl:m2=true:=by simpa using R
 repeat (go_big_quiet_step ((first | (go_at_call 42;with_reducible exact Calls.up (CE.o _)) | (go_at_call 95;with_reducible exact ad6 (D.o _)) | (go_at_call 95;with_reducible exact ad6 (F.o _)))))
 obtain⟨q7,V⟩:∃b:Bool,(!m3)=b:=⟨_,rfl⟩
 rw[V]
 cases q7
 case true=>
  obtain rfl:m3=false:=by simpa using V
  have i:Hid (false=r):=by rw[<-g.o];rfl
  repeat (go_big_quiet_step (fail))
  refine wpQuiet_nil ?_
  (first | rintro _ ⟨E,rfl⟩ | intro E)
  have z:=btZ l E.below
  clear a0 a1 a2 a3 a4 a5 a6
  go_wp2_with fail
  go_ret
  exact⟨by rw[<-i.o];rfl,fB.of z.o⟩
 obtain rfl:m3=true:=by simpa using V
 repeat (go_big_quiet_step ((first | (go_at_call 42;with_reducible exact Calls.up (CE.o _)) | (go_at_call 95;with_reducible exact ad6 (D.o _)) | (go_at_call 95;with_reducible exact ad6 (F.o _)))))
 refine wpQuiet_nil ?_
 (first | rintro _ ⟨E,rfl⟩ | intro E)
 obtain⟨w2,k2⟩:=E
 dsimp only
 have Y:=hI k2
 have O:=btZ l k2
 clear a0 a1 a2 a3 a4 a5 a6 k2
 rw[show S.threads.isEmpty=((S.threads.length:Int) == 0) from(gY _).symm] at g
 obtain⟨m4,k1⟩:∃m,((S.threads.length:Int) == 0)=m:=⟨_,rfl⟩
 rw[k1] at g ⊢
 cases m4
 case true=>
  have i:Hid (false=r):=by rw[<-g.o];rfl
  go_wp2_with fail
  go_ret
  exact⟨by rw[<-i.o];rfl,fB.of O.o⟩
 clear k1
 have d7:Hid ((if S.cells.any (λc=>!lQ aG p S c) then false
  else match cE aG p S [] S.threads with
   | none=>false
   | some gens=>jC gens 0 S.cells)=r):=g.o
 have x1:=hI (LT.o.below O.o)
 have c0:w2.cell? ⟨w.heap.size,0,none⟩=some (.pointer (some ⟨f,0,none⟩)):=aC Y.o HB.o
 have A:w2.cell? ⟨f,3,none⟩=some (.pointer (some ⟨j,0,none⟩)):=(O.o.cell q).trans (N.o 3 _ rfl)
 have c2:w2.cell? ⟨j,0,none⟩=some (.slice A0 S.cells.length n0):=(O.o.cell hb).trans (HH.o 0 _ rfl)
 have C1:=hI (iH (jY w w.heap.size) (λc=>!lQ aG p S c) A0 n0 S.cells 96 adD #[.pointer (some ⟨w.heap.size,0,none⟩)] w2 (S0.o.below O.o) (λL k5 x cs hx hR=>by
  have kk:=btZ O k5
  exact acF cs x p S f j mb w.heap.size _ _ L (hR.keep kk.size (λ_ C=>kk.cell C)) (LT.o.below kk) h8.o (HC.o x hx) (aC (Y.o.trans (k5.mono Y.o.size)) HB.o)))
 obtain⟨m5,k6⟩:∃m,S.cells.any (λc=>!lQ aG p S c)=m:=⟨_,rfl⟩
 rw[k6] at C1 d7
 clear k6
 go_wp2_with fail
 refine C1.o.mono ?_
 rintro e w3 ⟨rfl,k3⟩
 have i1:=btZ Y k3
 have u:=btZ O k3
 clear k3 c0 A c2
 cases m5
 case true=>
  have i:Hid (false=r):=by rw[<-d7.o];rfl
  go_wp2_with fail
  go_ret
  exact⟨by rw[<-i.o];rfl,fB.of u.o⟩
 have d8:Hid ((match cE aG p S [] S.threads with
   | none=>false
   | some gens=>jC gens 0 S.cells)=r):=d7.o
 have c0:w3.cell? ⟨w.heap.size,0,none⟩=some (.pointer (some ⟨f,0,none⟩)):=aC i1.o HB.o
 have A:w3.cell? ⟨f,3,none⟩=some (.pointer (some ⟨j,0,none⟩)):=(u.o.cell q).trans (N.o 3 _ rfl)
 have c2:w3.cell? ⟨j,3,none⟩=some (.slice A3 S.threads.length n3):=(u.o.cell hb).trans (HH.o 3 _ rfl)
 have CT:=hI (s8 A3 n3 S.threads [] p S f j mb w.heap.size _ _ w3 ((S3.o.keep u.o.size (λ_ C=>u.o.cell C) (λ_ _ h=>h.keep u.o.size (λ_ C=>u.o.cell C)))) (LT.o.below u.o) (HG.o.below u.o) h8.o r5 o3.o o2 (by simp) c0)
 obtain⟨q8,f7⟩:∃m,cE aG p S [] S.threads=m:=⟨_,rfl⟩
 rw[f7] at CT d8
 clear f7
 cases q8 with
 | none=>
  have i:Hid (false=r):=d8.o
  go_wp2_with fail
  refine CT.o.mono ?_
  rintro e s ⟨rfl,-,X⟩
  have v:=hI ((fB.of u.o).trans X)
  clear X c0 A c2
  go_wp2_with fail
  go_ret
  exact⟨by rw[<-i.o];rfl,v.o⟩
 | some gens=>
  have p3:Hid (jC gens 0 S.cells=r):=d8.o
  go_wp2_with fail
  refine CT.o.mono ?_
  rintro e s ⟨rfl,h4,X⟩
  have G4:=hI (h4 gens rfl)
  have v:=hI ((fB.of u.o).trans X)
  have i2:w.heap.size<w3.heap.size:=Nat.lt_of_lt_of_le o9 i1.o.size
  have B4:Hid (s.cell? ⟨w.heap.size,0,none⟩=some (.pointer (some ⟨f,0,none⟩))):=(X.cell _ i2).trans c0
  have p5:w.heap.size<s.heap.size:=Nat.lt_of_lt_of_le i2 X.size
  clear h4 X c0 A c2
  have d0:=B4.o
  have d1:s.cell? ⟨f,3,none⟩=some (.pointer (some ⟨j,0,none⟩)):=(v.o.cell _ q).trans (N.o 3 _ rfl)
  have d2:s.cell? ⟨j,0,none⟩=some (.slice A0 S.cells.length n0):=(v.o.cell _ hb).trans (HH.o 0 _ rfl)
  have p8:Hid (aH s s.heap.size 4 (jY s s.heap.size) (.slice A0 S.cells.length n0) S.cells):=S0.o.keep v.o.size (λp C=>v.o.cell p C) (λ_ _ h=>h.keep v.o.size (λp C=>v.o.cell p C))
  have u5:f<s.heap.size:=Nat.lt_of_lt_of_le q v.o.size
  go_wp2_with fail
  clear d0 d1 d2
  go_loopw [101] (λk wr=>∃d:Nat,k=.int .i64 d/\d<=S.cells.length/\Hid (jC gens d (S.cells.drop d)=r)/\Hid (Below s.heap.size s wr)) (λk _=>S.cells.length - (RowKit.intOf k).toNat)
  case atStart=>exact⟨0,rfl,by omega,by rw[List.drop_zero];exact p3.o,Below.refl _ _⟩
  case round=>
   obtain⟨d,rfl,hk,HF,I⟩:=hrel
   have i3:=I.o.size
   by_cases r6:d<S.cells.length
   ·obtain⟨b,a9,c,cs,rfl,J,hx,-,⟨VV,FV,rfl,r0,r1,-⟩,K⟩:=p8.o.at_ r6
    obtain⟨VA,vc,rfl,-⟩:=r0
    obtain⟨FA,fc,rfl,-⟩:=r1
    have p9:(d:Int)<S.cells.length:=by omega
    have g0:wr.cell? ⟨b,a9+d*4,none⟩=some (.int .i64 c.kind):=(I.o.cell J).trans (K 0 _ rfl)
    have g1:wr.cell? ⟨b,a9+d*4+1,none⟩=some (.int .i64 c.num):=(I.o.cell J).trans (K 1 _ rfl)
    have g2:wr.cell? ⟨b,a9+d*4+2,none⟩=some (.slice VA c.vals.length vc):=(I.o.cell J).trans (K 2 _ rfl)
    have g3:wr.cell? ⟨b,a9+d*4+3,none⟩=some (.slice FA c.frames.length fc):=(I.o.cell J).trans (K 3 _ rfl)
    have x2:b<wr.heap.size:=Nat.lt_of_lt_of_le J i3
    have Z:S.cells.drop d=c::S.cells.drop (d+1):=by
     obtain⟨h1,h2⟩:=lE hx
     rw[List.drop_eq_getElem_cons h1,h2]
    have i4:Hid ((!(c.kind == 5 && c.num == 1 && !decide ((d:Int)∈gens)) && jC gens (d+1) (S.cells.drop (d+1)))=r):=by have:=HF.o;rw[Z] at this;exact this
    obtain⟨L,b0⟩:∃L,L=wr.alloc (.cells #[.int .i64 c.kind,.int .i64 c.num,.slice VA c.vals.length vc,.slice FA c.frames.length fc] 55):=⟨_,rfl⟩
    have K5:Hid (Below wr.heap.size wr L):=by rw[b0];exact aB _ _
    have G:=hI (I.o.trans (K5.o.mono i3))
    have i5:Hid (aA L wr.heap.size [.int .i64 c.kind,.int .i64 c.num,.slice VA c.vals.length vc,.slice FA c.frames.length fc]):=by rw[b0];exact ad5 _ _ _
    have q3:=hI b0
    have i6:wfi (d:Int):=by unfold wfi;omega
    have e2:=pA (mJ (mJ G4.o I.o) K5.o) i6
    have i9:=hI (v.o.then G.o)
    clear K hx Z HF b0 i6
    go_upto_region 9 with fail
    rw[<-q3.o]
    have f0:=i5.o 0 _ rfl
    have f1:=i5.o 1 _ rfl
    have f2:L.cell? ⟨w.heap.size,0,none⟩=some (.pointer (some ⟨f,0,none⟩)):=(G.o.cell p5).trans B4.o
    have f3:L.cell? ⟨f,6,none⟩=some (.map (some mb)):=(i9.o.cell _ q).trans (N.o 6 _ rfl)
    clear g0 g1 g2 g3
    have e3:Hid ((c.kind == 5 && c.num == 1 && !decide ((d:Int)∈gens))=false->jC gens (d+1) (S.cells.drop (d+1))=r):=λh=>by rw[<-i4.o,h];rfl
    by_cases c5:c.kind=5
    case neg=>
     have H:=hI (e3.o (by rw[show(c.kind == 5)=false from bF c5];rfl))
     have x3:(c.kind == 5)=false:=bF c5
     go_wp2_with fail
     go_roundw
     case rel=>exact⟨d+1,by go_num,by omega,H.o,G.o⟩
     case measure=>simp[RowKit.intOf];omega
    rw[c5] at f0
    by_cases A:c.num=1
    case neg=>
     have H:=hI (e3.o (by rw[show(c.num == 1)=false from bF A];simp))
     have x4:(c.num == 1)=false:=bF A
     go_wp2_with fail
     go_roundw
     case rel=>exact⟨d+1,by go_num,by omega,H.o,G.o⟩
     case measure=>simp[RowKit.intOf];omega
    rw[A] at f1
    by_cases hm:(d:Int)∈gens
    ·rw[if_pos hm] at e2
     have H:=hI (e3.o (by rw[decide_eq_true hm];simp))
     clear hm
     go_wp2_with fail
     go_roundw
     case rel=>exact⟨d+1,by go_num,by omega,H.o,G.o⟩
     case measure=>simp[RowKit.intOf];omega
    ·rw[if_neg hm] at e2
     have i:Hid (false=r):=by rw[<-i4.o,c5,A,decide_eq_false hm];rfl
     clear hm
     go_wp2_with fail
     go_ret
     exact⟨by rw[<-i.o];rfl,i9.o⟩
   ·have p9:¬(d:Int)<S.cells.length:=by omega
    have i:Hid (true=r):=by rw[<-HF.o,List.drop_of_length_le (by omega)];rfl
    have KT:=hI (v.o.then I.o)
    go_wp2_with fail
    go_ret
    exact⟨by rw[<-i.o];rfl,KT.o⟩
end
end Go.Proofs.YtjaphgpkkfdaaaaGreatDoor
