/- A part of the walk. -/
import Derived.Test.YtjaphgpkkfdaaaaGreatDoorZD
import Derived.BigRegion
import Derived.Deep.AppendLies
import Derived.Deep.RegionHeld3
import Derived.Deep.RegionLaw
set_option maxHeartbeats 16000000
set_option maxRecDepth 100000
set_option linter.all false
namespace Go.Proofs.YtjaphgpkkfdaaaaGreatDoor
open Tryz
section
open Go.RowKit
def vD (t:TypeId):Bool:=t == 206 || t == 4 || t == 59 || t == 3
structure aU (B:Nat) (w w':World):Prop where
 os:w'.os=w.os
 tape:w'.tape=w.tape
 output:w'.output=w.output
 size:w.heap.size<=w'.heap.size
 block:∀k,k<w.heap.size->(k<B\/∃cs t fr,w.heap[k]? = some (.cells cs t fr)/\vD t=false)->w'.heap[k]? = w.heap[k]?
section
variable {B:Nat} {w w1 w2:World}
theorem aU.refl (B:Nat) (w:World):aU B w w:=⟨rfl,rfl,rfl,Nat.le_refl _,λ_ _ _=>rfl⟩
theorem aU.trans (h:aU B w w1) (k:aU B w1 w2):aU B w w2:=
 ⟨k.os.trans h.os,k.tape.trans h.tape,k.output.trans h.output,Nat.le_trans h.size k.size,λi hi d=>(k.block i (Nat.lt_of_lt_of_le hi h.size) (by
  rcases d with d | ⟨cs,t,e,d,f⟩
  ·exact .inl d
  ·exact .inr ⟨cs,t,e,(h.block i hi (.inr ⟨cs,t,e,d,f⟩)).trans d,f⟩)).trans (h.block i hi d)⟩
theorem aU.below_ (h:aU B w w1) (k:Below w1.heap.size w1 w2):aU B w w2:=h.trans ⟨k.os,k.tape,k.output,k.size,λi hi _=>k.block i hi⟩
theorem ad7 (k:Below w.heap.size w w1):aU B w w1:=(aU.refl B w).below_ k
theorem aU.alloc (h:aU B w w1) (o:Obj):aU B w (w1.alloc o):=h.below_ (aB w1 o)
theorem aU.drew (h:aU B w w1):aU B w w1.drew:=⟨h.os,h.tape,h.output,h.size,h.block⟩
theorem aU.set_ (h:aU B w w1) {g:Nat} {cs:Array Value} {t:TypeId} {f:Nat×Nat} (hB:B<=g) (j:w1.heap[g]? = some (.cells cs t f)) (ht:vD t=true) (i:Nat) (u:Value):aU B w (w1.setCell ⟨g,i,none⟩ u):=
 h.trans ⟨rfl,rfl,rfl,by simp[World.setCell],λk p d=>Below.heap_setCell _ _ _ _ (by
  show k≠g
  rintro rfl
  rcases d with d | ⟨l,q,m,d,e⟩
  ·omega
  ·rw[j] at d;injection d with d;injection d with _ d _;rw[<-d,ht] at e;cases e)⟩
theorem aU.grown (h:aU B w w1) {row:Option Nat} (f:w1.grownBy w2 row) {t:TypeId} (ht:vD t=true) (m:∀k,row=some k->B<=k/\∃cs g,w1.heap[k]? = some (.cells cs t g)):aU B w w2:=
 h.trans ⟨f.os,f.tape,f.output,f.size,λk l d=>f.block k l (λe=>by
  obtain⟨r,cs,g,j⟩:=m k e.symm
  rcases d with d | ⟨p,s,q,d,i⟩
  ·omega
  ·rw[j] at d;injection d with d;injection d with _ d _;rw[<-d,ht] at i;cases i)⟩
theorem aU.under (h:aU B w w1) (hB:B<=w.heap.size):Below B w w1:=⟨h.os,h.tape,h.output,h.size,λk d=>h.block k (by omega) (.inl d)⟩
theorem aU.tries {α : Type} (h:aU B w w1) {C size:Nat} {R:List Value->α->Prop} {v:Value} {xs:List α} (f:bI w C 96 size R v xs):bI w1 C 96 size R v xs:= f.keep (λk cs e _ d=>h.block k (aE d).1 (.inr ⟨cs,_,e,d,by decide⟩)) (λ_ _ h=>h)
theorem aU.row (h:aU B w w1) {g:Nat} {cs:Array Value} {t:TypeId} {d:Nat×Nat} (e:w.heap[g]? = some (.cells cs t d)) (ht:vD t=false):w1.heap[g]? = some (.cells cs t d):= (h.block g (aE e).1 (.inr ⟨cs,t,d,e,ht⟩)).trans e
end
theorem jD {w:World} {B:Nat} {e:TypeId} {size:Nat} {v:Value} {n:Nat} {xs:List Value} (f:w.ownsRow B e size v n xs):∀k,v.ownBlock=some k->B<=k/\∃cs h,w.heap[k]? = some (.cells cs e h):=by
 intro k d;rcases f.2 with ⟨rfl,_⟩ | ⟨g,l,m,rfl,i,j,_⟩;·simp[Value.ownBlock] at d
 ·simp only[Value.ownBlock,Option.some.injEq] at d;subst d;exact⟨i,_,_,j⟩
theorem gI {w:World} {B:Nat} {e t:TypeId} {size:Nat} {v:Value} {n:Nat} {xs:List Value} (h:w.ownsRow B e size v n xs) {g:Nat} {cs:Array Value} {l:Nat×Nat} (m:w.heap[g]? = some (.cells cs t l)) (ht:t≠e) (i:Nat) (u:Value) : (w.setCell ⟨g,i,none⟩ u).ownsRow B e size v n xs:=by refine h.kept (row:=some g) ⟨rfl,rfl,rfl,by simp[World.setCell],λk _ f=>Below.heap_setCell _ _ _ _ (λe=>f (by rw[e]))⟩ (.inr (λj=>?_));obtain⟨_,p,q,d⟩:=jD h g j;rw[m] at d;injection d with d;injection d with _ d _;exact ht d
structure bN (w:World) (B b:Nat) (v0 v1 v2 v3:Value) (A5:Option Addr) (n n5:Nat) (s:bZ) (bs bo:Nat) (tv:Value) (ovs:List Value):Prop where
 hb:B<=b
 here:w.heap[b]? = some (.cells #[v0,v1,v2,v3,.slice A5 n n5,.slice (some ⟨bs,0,none⟩) n n,.slice (some ⟨bo,0,none⟩) n n,tv,.bool s.bad] 206 (0,0))
 hbs:B<=bs
 seen:w.heap[bs]? = some (.cells ⟨s.seen.map .bool⟩ 4 (0,0))
 hbo:B<=bo
 outs:w.heap[bo]? = some (.cells ⟨ovs⟩ 59 (0,0))
 olen:ovs.length=n
 out:∀(i:Nat) v l,ovs[i]? = some v->s.out[i]? = some l->bI w B 96 2 jW v l
 todo:w.ownsRow B 3 1 tv s.todo.length (s.todo.map (.int .i64))
theorem bN.set_bad {w:World} {B b:Nat} {p q r u:Value} {x:Option Addr} {n y:Nat} {s:bZ} {d e:Nat} {z:Value} {f:List Value} (h:bN w B b p q r u x n y s d e z f) : bN (w.setCell ⟨b,8,none⟩ (.bool true)) B b p q r u x n y { s with bad:=true } d e z f/\aU B w (w.setCell ⟨b,8,none⟩ (.bool true)):=by
 have g:aU B w (w.setCell ⟨b,8,none⟩ (.bool true)):=(aU.refl B w).set_ h.hb h.here (by decide) _ _;have j:d≠b:=by rintro rfl;have:=h.here;rw[h.seen] at this;injection this with this;injection this with _ this _;exact absurd this (by decide)
 have m:e≠b:=by rintro rfl;have:=h.here;rw[h.outs] at this;injection this with this;injection this with _ this _;exact absurd this (by decide)
 refine⟨⟨h.hb,?_,h.hbs,?_,h.hbo,?_,h.olen,λi v l A hl=>g.tries (h.out i v l A hl),gI h.todo h.here (by decide) _ _⟩,g⟩;·rw[heap_setCell_same w b 8 _ _ _ h.here];rfl
 ·rw[heap_setCell_other w _ d _ j];exact h.seen
 ·rw[heap_setCell_other w _ e _ m];exact h.outs
def eI (B b:Nat) (v0 v1 v2 v3:Value) (A5:Option Addr) (n n5:Nat) (s':bZ) (bs bo:Nat) (w:World) (e:Ending) (w':World):Prop:=e=.returned (.tuple #[])/\(∃tv ovs,bN w' B b v0 v1 v2 v3 A5 n n5 s' bs bo tv ovs)/\aU B w w'
theorem adQ (B b:Nat) (g i j m:Value) (e:Option Addr) (n f:Nat) (s:bZ) (p q:Nat) (x:Value) (r:List Value) (at_:Int) (A:Option Addr) (u:Nat) (l:List gM) (w:World) (h:bN w B b g i j m e n f s p q x r) (D:n<=600) (E:0<=at_) (v:(n:Int)<=at_\/20<l.length) : Calls prog 130 #[.pointer (some ⟨b,0,none⟩),.int .i64 at_,.slice A l.length u] w (eI B b g i j m e n f { s with bad:=true } p q w):=by
 have c4:=crZ h.here 4 rfl;have y:=crZ h.here 8 rfl;have z:w.frozen? ⟨b,8,none⟩=false:=frozen_of_row w b 8 _ _ h.here;have d:=hI h;clear h;by_cases F:(n:Int)<=at_;·clear v;go_enter func130,ntmps130;go_wp2_with fail;go_end0;exact⟨rfl,⟨_,_,d.o.set_bad.1⟩,d.o.set_bad.2⟩
 ·have C:(20:Int)<l.length:=by omega
  clear v;go_enter func130,ntmps130;go_wp2_with fail;go_end0;exact⟨rfl,⟨_,_,d.o.set_bad.1⟩,d.o.set_bad.2⟩
theorem bN.below {w w':World} {B b:Nat} {m p q r:Value} {u:Option Addr} {n x:Nat} {s:bZ} {f j:Nat} {y:Value} {d:List Value} (h:bN w B b m p q r u n x s f j y d) (hb:Below w.heap.size w w') : bN w' B b m p q r u n x s f j y d:= ⟨h.hb,(hb.block b (aE h.here).1).trans h.here,h.hbs,(hb.block f (aE h.seen).1).trans h.seen,h.hbo,(hb.block j (aE h.outs).1).trans h.outs,h.olen,λi v l z hl=>(h.out i v l z hl).below hb,h.todo.kept (row:=none) ⟨hb.os,hb.tape,hb.output,hb.size,λk A _=>hb.block k A⟩ (by rcases h.todo.2 with ⟨e,_⟩ | ⟨g,_,_,e,_⟩ <;> rw[e] <;> simp[Value.ownBlock])⟩
theorem abF (B b:Nat) (I J K L:Value) (E:Option Addr) (n F:Nat) (s:bZ) (q r:Nat) (Y:Value) (v:List Value) (k:Nat) (A:Option Addr) (x:Nat) (l m:List gM) (w:World) (h:bN w B b I J K L E n F s q r Y v) (hn:n<=600) (Z:k<n) (hl:l.length<=20) (ht:bI w B 96 2 jW (.slice A l.length x) l) (M:s.seen[k]? = some true) (N:s.out[k]? = some m) : Calls prog 130 #[.pointer (some ⟨b,0,none⟩),.int .i64 k,.slice A l.length x] w (eI B b I J K L E n F (if m=l then s else { s with bad:=true }) q r w):=by
 obtain⟨H,j⟩:∃H,(if m=l then s else { s with bad:=true })=H:=⟨_,rfl⟩;rw[j];have u:=hI j;clear j;obtain⟨z,p⟩:∃z,v[k]? = some z:=⟨_,lG (by rw[h.olen];exact Z)⟩;have y:=h.out k z m p N;obtain⟨X,C,rfl,-⟩:=id y;have O:=hI (qF _ _ m l w y.slice ht.slice);have P:=crZ h.here 5 rfl;have R:=crZ h.here 6 rfl;have c4:=crZ h.here 4 rfl;have S:w.cell? ⟨q,k,none⟩=some (.bool true):=by rw[cell_of_row w q k _ _ _ h.seen];simp[M]
 have V:w.cell? ⟨r,k,none⟩=some (.slice X m.length C):=by rw[cell_of_row w r k _ _ _ h.outs];simpa using p
 have a0:(k:Int)<n:=by omega
 have a1:(l.length:Int)<=20:=by omega
 have W:=hI h;clear h M N y p ht;go_enter func130,ntmps130;go_wp2_with fail;refine O.out.mono ?_;rintro e w1 ⟨rfl,D⟩;have G:=hI D;have f:=hI (W.out.below D);have d8:=crZ f.out.here 8 rfl;have f8:w1.frozen? ⟨b,8,none⟩=false:=frozen_of_row w1 b 8 _ _ f.out.here;clear D P R c4 S V;by_cases d:m=l
 ·have g:=u.out;rw[if_pos d] at g;subst g;have i:decide (m=l)=true:=by simpa using d
  rw[i];clear d i;go_wp2_with fail;go_end0;exact⟨rfl,⟨_,_,f.out⟩,ad7 G.out⟩
 ·have g:=u.out;rw[if_neg d] at g;subst g;have i:decide (m=l)=false:=by simpa using d
  rw[i];clear d i;go_wp2_with fail;go_end0;exact⟨rfl,⟨_,_,f.out.set_bad.1⟩,(ad7 G.out).trans f.out.set_bad.2⟩
theorem undrew {a b:World} {row:Option Nat} (h:a.drew.grownBy b row):a.grownBy b row:=⟨h.os,h.tape,h.output,h.size,h.block⟩
theorem s9 (w:World) (g:Nat) (v:Value) {t:TypeId} (h:g=w.heap.size):∀j u,[v][j]? = some u->(w.alloc (.cells #[v] t)).drew.cell? ((⟨g,0,none⟩:Addr).add j)=some u:=by
 intro j u d
 subst h
 match j,d with
 | 0,d=>
  simp at d;subst d
  exact bL w #[v] t 0
theorem acB {α : Type} (f : α->Value) (l:List α) (k:Nat) (x : α):(⟨l.map f⟩:Array Value).setIfInBounds k (f x)=⟨(l.set k x).map f⟩:=by apply Array.toList_inj.1;simp[List.map_set]
theorem bN.mark {w:World} {B b:Nat} {A C D E:Value} {F:Option Addr} {n G:Nat} {s:bZ} {d e:Nat} {H:Value} {f:List Value} (h:bN w B b A C D E F n G s d e H f) (k:Nat) (v:Value) (l:List gM) (K:bI w B 96 2 jW v l) : bN ((w.setCell ⟨d,k,none⟩ (.bool true)).setCell ⟨e,k,none⟩ v) B b A C D E F n G { s with seen:=s.seen.set k true,out:=s.out.set k l } d e H (f.set k v)/\aU B w ((w.setCell ⟨d,k,none⟩ (.bool true)).setCell ⟨e,k,none⟩ v):=by
 have y:d≠b:=by rintro rfl;have:=h.here;rw[h.seen] at this;injection this with this;injection this with _ this _;exact absurd this (by decide)
 have z:e≠b:=by rintro rfl;have:=h.here;rw[h.outs] at this;injection this with this;injection this with _ this _;exact absurd this (by decide)
 have p:d≠e:=by rintro rfl;have:=h.outs;rw[h.seen] at this;injection this with this;injection this with _ this _;exact absurd this (by decide)
 have r:(w.setCell ⟨d,k,none⟩ (.bool true)).heap[e]? = some (.cells ⟨f⟩ 59 (0,0)):=by rw[heap_setCell_other w _ e _ (Ne.symm p)];exact h.outs
 have x:aU B w ((w.setCell ⟨d,k,none⟩ (.bool true)).setCell ⟨e,k,none⟩ v):=((aU.refl B w).set_ h.hbs h.seen (by decide) _ _).set_ h.hbo r (by decide) _ _;refine⟨⟨h.hb,?_,h.hbs,?_,h.hbo,?_,by simp[h.olen],λi u m g j=>?_,gI (gI h.todo h.seen (by decide) _ _) r (by decide) _ _⟩,x⟩;·rw[heap_setCell_other _ _ b _ (Ne.symm z),heap_setCell_other _ _ b _ (Ne.symm y)];exact h.here
 ·rw[heap_setCell_other _ _ d _ p,heap_setCell_same w d k _ _ _ h.seen,acB]
 ·rw[heap_setCell_same _ e k _ _ _ r];congr 2;apply Array.toList_inj.1;simp
 ·by_cases q:k=i;·subst q;have I:k<f.length:=(by have:=(lE g).1;simpa using this);have J:k<s.out.length:=(by have:=(lE j).1;simpa using this);simp only[List.getElem?_set_self I,List.getElem?_set_self J,Option.some.injEq] at g j;subst g;subst j;exact x.tries K
  ·simp only[List.getElem?_set_ne q] at g j;exact x.tries (h.out i u m g j)
theorem bN.push {w w':World} {B b:Nat} {C D E F:Value} {G:Option Addr} {n H:Nat} {s:bZ} {j l:Nat} {I v':Value} {p:List Value} (h:bN w B b C D E F G n H s j l I p) (k:Int) (v:w'.ownsRow B 3 1 v' (s.todo.length+1) (s.todo.map (.int .i64)++[.int .i64 k])) (J:w.grownBy w' I.ownBlock) : bN (w'.setCell ⟨b,7,none⟩ v') B b C D E F G n H { s with todo:=s.todo++[k] } j l v' p/\aU B w (w'.setCell ⟨b,7,none⟩ v'):=by
 have far:∀(g:Nat) (cs:Array Value) (t:TypeId) (r:Nat×Nat),w.heap[g]? = some (.cells cs t r)->t≠3->w'.heap[g]? = some (.cells cs t r):=λg cs t r f ht=>(J.block g (aE f).1 (λe=>by obtain⟨_,M,N,d⟩:=jD h.todo g e.symm;rw[f] at d;injection d with d;injection d with _ d _;exact ht d)).trans f;have q:=far _ _ _ _ h.here (by decide);have x:j≠b:=by rintro rfl;have:=h.here;rw[h.seen] at this;injection this with this;injection this with _ this _;exact absurd this (by decide)
 have y:l≠b:=by rintro rfl;have:=h.here;rw[h.outs] at this;injection this with this;injection this with _ this _;exact absurd this (by decide)
 have z:aU B w w':=(aU.refl B w).grown J (t:=3) (by decide) (jD h.todo);have A:aU B w (w'.setCell ⟨b,7,none⟩ v'):=z.set_ h.hb q (by decide) _ _;refine⟨⟨h.hb,?_,h.hbs,?_,h.hbo,?_,h.olen,λi u m K L=>A.tries (h.out i u m K L),?_⟩,A⟩;·rw[heap_setCell_same w' b 7 _ _ _ q];rfl
 ·rw[heap_setCell_other w' _ j _ x];exact far _ _ _ _ h.seen (by decide)
 ·rw[heap_setCell_other w' _ l _ y];exact far _ _ _ _ h.outs (by decide)
 ·have:=gI v q (by decide) 7 v';simpa using this
theorem adP (B b:Nat) (F G H I:Value) (z:Option Addr) (n C:Nat) (s:bZ) (f j:Nat) (q:Value) (J:List Value) (k:Nat) (A:Option Addr) (p:Nat) (l:List gM) (w:World) (h:bN w B b F G H I z n C s f j q J) (hn:n<=600) (hk:k<n) (hl:l.length<=20) (ht:bI w B 96 2 jW (.slice A l.length p) l) (X:s.seen[k]? = some false) (hm:s.todo.length<=600) (hB:B<=w.heap.size) : Calls prog 130 #[.pointer (some ⟨b,0,none⟩),.int .i64 k,.slice A l.length p] w (eI B b F G H I z n C { s with seen:=s.seen.set k true,out:=s.out.set k l,todo:=s.todo++[(k:Int)] } f j w):=by
 obtain⟨L,x⟩:∃L,J[k]? = some L:=⟨_,lG (by rw[h.olen];exact hk)⟩;have c1:=crZ h.here 5 rfl;have c2:=crZ h.here 6 rfl;have c4:=crZ h.here 4 rfl;have c7:=crZ h.here 7 rfl;have c5:w.cell? ⟨f,k,none⟩=some (.bool false):=by rw[cell_of_row w f k _ _ _ h.seen];simp[X]
 have c6:w.cell? ⟨j,k,none⟩=some L:=by rw[cell_of_row w j k _ _ _ h.outs];simpa using x
 have f5:w.frozen? ⟨f,k,none⟩=false:=frozen_of_row w f k _ _ h.seen;have f6:w.frozen? ⟨j,k,none⟩=false:=frozen_of_row w j k _ _ h.outs;have a3:f≠b:=by rintro rfl;have:=h.here;rw[h.seen] at this;injection this with this;injection this with _ this _;exact absurd this (by decide)
 have a4:j≠b:=by rintro rfl;have:=h.here;rw[h.outs] at this;injection this with this;injection this with _ this _;exact absurd this (by decide)
 have a5:f≠j:=by rintro rfl;have:=h.outs;rw[h.seen] at this;injection this with this;injection this with _ this _;exact absurd this (by decide)
 obtain⟨i0,hi,O,P,R⟩:=info_parts uW;have a6:(k:Int)<n:=by omega
 have a7:(l.length:Int)<=20:=by omega
 have HH:=hI h;have HT:=hI ht;have a9:=hI x;have D:=hI (h.mark k (.slice A l.length p) l ht);have M:Hid (∀d,(((w.setCell ⟨f,k,none⟩ (.bool true)).setCell ⟨j,k,none⟩ (.slice A l.length p)).alloc (.cells #[.int .i64 k] 3)).grownBy d q.ownBlock->d.heap[b]? = some (.cells #[F,G,H,I,.slice z n C,.slice (some ⟨f,0,none⟩) n n,.slice (some ⟨j,0,none⟩) n n,q,.bool s.bad] 206 (0,0))):=λd m=>by have E:=D.out.1.below (aB _ (.cells #[.int .i64 k] 3));refine(m.block b (aE E.here).1 (λe=>?_)).trans E.here;obtain⟨_,b0,b2,r⟩:=jD E.todo b e.symm;rw[E.here] at r;injection r with r;injection r with _ r _;exact absurd r (by decide)
 have Y:Hid (∀d,(((w.setCell ⟨f,k,none⟩ (.bool true)).setCell ⟨j,k,none⟩ (.slice A l.length p)).alloc (.cells #[.int .i64 k] 3)).grownBy d q.ownBlock->∀i v,(#[F,G,H,I,.slice z n C,.slice (some ⟨f,0,none⟩) n n,.slice (some ⟨j,0,none⟩) n n,q,.bool s.bad]:Array Value)[i]? = some v->d.cell? ⟨b,i,none⟩=some v):=λd m i v hv=>(cell_of_row d b i _ _ _ (M.out d m)).trans hv;have Z:Hid (∀d,(((w.setCell ⟨f,k,none⟩ (.bool true)).setCell ⟨j,k,none⟩ (.slice A l.length p)).alloc (.cells #[.int .i64 k] 3)).grownBy d q.ownBlock->d.frozen? ⟨b,7,none⟩=false):=λd m=>frozen_of_row d b 7 _ _ (M.out d m);clear h X x ht;go_enter func130,ntmps130;go_wp2_with fail;go_region;go_wp2_with (at_builtin;go_loud (refine wpList_append_own _ rfl _ _ 89 rfl B 3 i0 (.int .i64 0) 1 8 underlying89 hi O P R rfl (by decide) q s.todo.length (s.todo.map (.int .i64)) rfl ?own ⟨w.heap.size,0,none⟩ 1 1 [.int .i64 k] rfl rfl ?c1 ?c2 ?c3 ?c4 ?c5 ?_));case own=>exact(D.out.1.below (aB _ _)).todo
 case c1=>exact s9 _ _ _ (by simp[World.setCell])
 case c2=>intro u W;simp at W;subst W;rfl
 case c3=>unfold maxLen;omega
 case c4=>omega
 case c5=>simp[World.setCell];omega
 intro v' d y m _;have m:=undrew m;have N:=hI m;have K:=hI ((D.out.1.below (aB _ (.cells #[.int .i64 k] 3))).push (w':=d) (v':=v') k y m);clear y m;have e7:d.cell? ⟨b,7,none⟩=some q:=Y.out d N.out 7 _ rfl;have fz:d.frozen? ⟨b,7,none⟩=false:=Z.out d N.out;obtain⟨S,V,c',rfl⟩:∃S V c',v'=.slice S V c':=by rcases K.out.1.todo.2 with ⟨e,_⟩ | ⟨g,cp,_,e,_⟩ <;> exact⟨_,_,_,e⟩
 go_wp2_with fail;go_end0;exact⟨rfl,⟨_,_,K.out.1⟩,(D.out.2.alloc _).trans K.out.2⟩
theorem kH (B b:Nat) (j p q r:Value) (u:Option Addr) (n x:Nat) (s:bZ) (y z:Nat) (D:Value) (e:List Value) (at_:Int) (v:Value) (l:List gM) (w:World) (h:bN w B b j p q r u n x s y z D e) (d:WOk n s) (E:n<=600) (H:0<=at_) (ht:bI w B 96 2 jW v l) (hB:B<=w.heap.size) : Calls prog 130 #[.pointer (some ⟨b,0,none⟩),.int .i64 at_,v] w (eI B b j p q r u n x (dW s at_ l) y z w):=by
 obtain⟨A,i,rfl,-⟩:=id ht;unfold dW;by_cases C:(s.seen.length:Int)<=at_\/20<l.length;·rw[if_pos C];rw[d.seen] at C;exact adQ B b j p q r u n x s y z D e at_ A i l w h E H C
 ·rw[if_neg C];rw[d.seen] at C;obtain⟨k,rfl⟩:∃k:Nat,at_=k:=⟨at_.toNat,by omega⟩;have g:k<n:=by omega
  have hl:l.length<=20:=by omega
  rw[Int.toNat_natCast];by_cases f:s.seen[k]? = some false;·rw[if_pos f];exact adP B b j p q r u n x s y z D e k A i l w h E g hl ht f (by have:=d.small;unfold eM at this;omega) hB
  ·rw[if_neg f];have F:s.seen[k]? = some true:=by
    have:s.seen[k]? = some (s.seen[k]'(by rw[d.seen];exact g)):=lG _;rw[this] at f ⊢;cases I:s.seen[k]'(by rw[d.seen];exact g);·rw[I] at f;exact absurd rfl f
    ·rfl
   obtain⟨m,G⟩:∃m,s.out[k]? = some m:=⟨_,lG (by rw[d.out];exact g)⟩;have:=abF B b j p q r u n x s y z D e k A i l m w h E g hl ht F G;rw[G];simpa only [Option.some.injEq] using this
end
section
open Go.RowKit
def cO (x:gM):List Value:=[.int .i64 x.reg,.int .i64 x.at_]
theorem yT {w:World} {B:Nat} {v:Value} {l:List gM} (h:aH w B 2 jW v l):aH w B 2 (Raw 2) v (l.map cO):=by obtain⟨A,d,j,m,p,q⟩:=h;refine⟨A,d,by rw[j,List.length_map],by rw[List.length_map];exact m,p,λC=>?_⟩;obtain⟨b,e,r,s,u⟩:=q (by simpa using C);refine⟨b,e,r,s,λi c g=>?_⟩;rw[List.getElem?_map,Option.map_eq_some_iff] at g;obtain⟨x,y,rfl⟩:=g;obtain⟨cs,f,⟨rfl,_⟩,z⟩:=u i x y;exact⟨_,f,⟨rfl,f⟩,z⟩
theorem from_28 (B b:Nat) (K L M N:Value) (F:Option Addr) (n u:Nat) (s:bZ) (O p:Nat) (W:Value) (x:List Value) (k:Nat) (code:List fE) (i:fE) (m:List gM) (w:World) (h:bN w B b K L M N F n u s O p W x) (y:WOk n s) (hn:n<=600) (X:k<n) (b0:n=code.length) (g:aH w B 5 iA (.slice F n u) code) (z:code[k]? = some i) (v:s.out[k]? = some m) (hB:B<=w.heap.size) (A:i.op=28) : Calls prog 131 #[.pointer (some ⟨b,0,none⟩),.int .i64 k] w (eI B b K L M N F n u (s) O p w):=by
 obtain⟨I,q⟩:∃I,I=s:=⟨_,rfl⟩;rw[<-q];have G:=hI q;clear q;have H:k<code.length:=by omega
 obtain⟨e,l,j,a1,rfl,a2,f,-,S,d⟩:=g.at_ (i:=k) H;rw[z] at f;injection f with f
 subst f;obtain⟨rfl,a3,a4,a5,a6,a7⟩:=S;obtain⟨D,r⟩:∃D,x[k]? = some D:=⟨_,lG (by rw[h.olen];exact X)⟩;have C:=h.out k D m r v;obtain⟨V,E,rfl,a9,J,-⟩:=id C;have c4:=crZ h.here 4 rfl;have c6:=crZ h.here 6 rfl;have c8:=crZ h.here 8 rfl;have f8:w.frozen? ⟨b,8,none⟩=false:=frozen_of_row w b 8 _ _ h.here;have c7:w.cell? ⟨p,k,none⟩=some (.slice V m.length E):=by rw[cell_of_row w p k _ _ _ h.outs];simpa using r
 have P:w.cell? ⟨e,l+k*5,none⟩=some (.int .i64 i.op):=d 0 _ rfl;have g1:w.cell? ⟨e,l+k*5+1,none⟩=some (.int .i64 i.a):=d 1 _ rfl;have g2:w.cell? ⟨e,l+k*5+2,none⟩=some (.int .i64 i.b):=d 2 _ rfl;have g3:w.cell? ⟨e,l+k*5+3,none⟩=some (.int .i64 i.c):=d 3 _ rfl;have g4:w.cell? ⟨e,l+k*5+4,none⟩=some (.int .i64 i.line):=d 4 _ rfl;have l1:e<w.heap.size:=by omega
 have l2:b<w.heap.size:=(aE h.here).1;have l3:p<w.heap.size:=(aE h.outs).1;have Y:(k:Int)<n:=by omega
 have Z:(k:Int)<=600:=by omega
 have a0:m.length<=20:=y.few m (lM v);have R:=hI h;have HM:=hI C;have HF:=hI (y.wf m (lM v));unfold maxLen at J;clear h r v C d g z;rw[A] at P;clear A;go_enter func131,ntmps131;go_wp2_with fail;go_region;go_wp2_with fail;refine bodyPost_ret (results_none rfl _ _ _) rfl ⟨rfl,⟨_,_,by rw[G.out];exact R.out.below (by repeat (first | exact Below.refl _ _ | refine Below.drew ?_ | refine Below.alloc ?_ (by simp) _))⟩,ad7 (by repeat (first | exact Below.refl _ _ | refine Below.drew ?_ | refine Below.alloc ?_ (by simp) _))⟩
theorem from_29 (B b:Nat) (K L M N:Value) (F:Option Addr) (n u:Nat) (s:bZ) (O p:Nat) (W:Value) (x:List Value) (k:Nat) (code:List fE) (i:fE) (m:List gM) (w:World) (h:bN w B b K L M N F n u s O p W x) (y:WOk n s) (hn:n<=600) (X:k<n) (b0:n=code.length) (g:aH w B 5 iA (.slice F n u) code) (z:code[k]? = some i) (v:s.out[k]? = some m) (hB:B<=w.heap.size) (A:i.op=29) : Calls prog 131 #[.pointer (some ⟨b,0,none⟩),.int .i64 k] w (eI B b K L M N F n u (s) O p w):=by
 obtain⟨I,q⟩:∃I,I=s:=⟨_,rfl⟩;rw[<-q];have G:=hI q;clear q;have H:k<code.length:=by omega
 obtain⟨e,l,j,a1,rfl,a2,f,-,S,d⟩:=g.at_ (i:=k) H;rw[z] at f;injection f with f
 subst f;obtain⟨rfl,a3,a4,a5,a6,a7⟩:=S;obtain⟨D,r⟩:∃D,x[k]? = some D:=⟨_,lG (by rw[h.olen];exact X)⟩;have C:=h.out k D m r v;obtain⟨V,E,rfl,a9,J,-⟩:=id C;have c4:=crZ h.here 4 rfl;have c6:=crZ h.here 6 rfl;have c8:=crZ h.here 8 rfl;have f8:w.frozen? ⟨b,8,none⟩=false:=frozen_of_row w b 8 _ _ h.here;have c7:w.cell? ⟨p,k,none⟩=some (.slice V m.length E):=by rw[cell_of_row w p k _ _ _ h.outs];simpa using r
 have P:w.cell? ⟨e,l+k*5,none⟩=some (.int .i64 i.op):=d 0 _ rfl;have g1:w.cell? ⟨e,l+k*5+1,none⟩=some (.int .i64 i.a):=d 1 _ rfl;have g2:w.cell? ⟨e,l+k*5+2,none⟩=some (.int .i64 i.b):=d 2 _ rfl;have g3:w.cell? ⟨e,l+k*5+3,none⟩=some (.int .i64 i.c):=d 3 _ rfl;have g4:w.cell? ⟨e,l+k*5+4,none⟩=some (.int .i64 i.line):=d 4 _ rfl;have l1:e<w.heap.size:=by omega
 have l2:b<w.heap.size:=(aE h.here).1;have l3:p<w.heap.size:=(aE h.outs).1;have Y:(k:Int)<n:=by omega
 have Z:(k:Int)<=600:=by omega
 have a0:m.length<=20:=y.few m (lM v);have R:=hI h;have HM:=hI C;have HF:=hI (y.wf m (lM v));unfold maxLen at J;clear h r v C d g z;rw[A] at P;clear A;go_enter func131,ntmps131;go_wp2_with fail;go_region;go_wp2_with fail;refine bodyPost_ret (results_none rfl _ _ _) rfl ⟨rfl,⟨_,_,by rw[G.out];exact R.out.below (by repeat (first | exact Below.refl _ _ | refine Below.drew ?_ | refine Below.alloc ?_ (by simp) _))⟩,ad7 (by repeat (first | exact Below.refl _ _ | refine Below.drew ?_ | refine Below.alloc ?_ (by simp) _))⟩
theorem from_13 (B b:Nat) (G H I J:Value) (K:Option Addr) (n v:Nat) (s:bZ) (L g:Nat) (tv:Value) (z:List Value) (k:Nat) (code:List fE) (i:fE) (m:List gM) (w:World) (h:bN w B b G H I J K n v s L g tv z) (x:WOk n s) (hn:n<=600) (hk:k<n) (c9:n=code.length) (p:aH w B 5 iA (.slice K n v) code) (A:code[k]? = some i) (y:s.out[k]? = some m) (hB:B<=w.heap.size) (C:i.op=13) (V:0<=i.a) : Calls prog 131 #[.pointer (some ⟨b,0,none⟩),.int .i64 k] w (eI B b G H I J K n v (dW s i.a m) L g w):=by
 obtain⟨O,r⟩:∃O,O=dW s i.a m:=⟨_,rfl⟩;rw[<-r];have M:=hI r;clear r;have N:k<code.length:=by omega
 obtain⟨f,q,j,b3,rfl,b4,l,-,hR,d⟩:=p.at_ (i:=k) N;rw[A] at l;injection l with l
 subst l;obtain⟨rfl,b5,b6,c0,c1,c2⟩:=hR;obtain⟨E,u⟩:∃E,z[k]? = some E:=⟨_,lG (by rw[h.olen];exact hk)⟩;have D:=h.out k E m u y;obtain⟨A',F,rfl,c3,P,-⟩:=id D;have c4:=crZ h.here 4 rfl;have c6:=crZ h.here 6 rfl;have c8:=crZ h.here 8 rfl;have f8:w.frozen? ⟨b,8,none⟩=false:=frozen_of_row w b 8 _ _ h.here;have c7:w.cell? ⟨g,k,none⟩=some (.slice A' m.length F):=by rw[cell_of_row w g k _ _ _ h.outs];simpa using u
 have W:w.cell? ⟨f,q+k*5,none⟩=some (.int .i64 i.op):=d 0 _ rfl;have g1:w.cell? ⟨f,q+k*5+1,none⟩=some (.int .i64 i.a):=d 1 _ rfl;have g2:w.cell? ⟨f,q+k*5+2,none⟩=some (.int .i64 i.b):=d 2 _ rfl;have g3:w.cell? ⟨f,q+k*5+3,none⟩=some (.int .i64 i.c):=d 3 _ rfl;have g4:w.cell? ⟨f,q+k*5+4,none⟩=some (.int .i64 i.line):=d 4 _ rfl;have l1:f<w.heap.size:=by omega
 have l2:b<w.heap.size:=(aE h.here).1;have l3:g<w.heap.size:=(aE h.outs).1;have a9:(k:Int)<n:=by omega
 have b0:(k:Int)<=600:=by omega
 have b2:m.length<=20:=x.few m (lM y);have X:=hI h;have Y:=hI D;have HF:=hI (x.wf m (lM y));unfold maxLen at P;clear h u y D d p A;rw[C] at W;clear C;go_enter func131,ntmps131;go_wp2_with fail;go_region;go_wp2_with fail;refine(kH B b G H I J _ n v s L g _ _ i.a _ m _ (X.out.below (by repeat (first | exact Below.refl _ _ | refine Below.drew ?_ | refine Below.alloc ?_ (by simp) _))) x hn V (Y.out.below (by repeat (first | exact Below.refl _ _ | refine Below.drew ?_ | refine Below.alloc ?_ (by simp) _))) (by simp;omega)).mono ?_;rintro e w5 ⟨rfl,⟨c5,a4,R⟩,S⟩;have Z:=hI R;have K2:Hid (aU B w w5):=by refine aU.trans (ad7 ?_) S;exact(by repeat (first | exact Below.refl _ _ | refine Below.drew ?_ | refine Below.alloc ?_ (by simp) _))
 clear R S;go_wp2_with fail;refine bodyPost_ret (results_none rfl _ _ _) rfl ⟨rfl,⟨_,_,by rw[M.out];exact Z.out⟩,K2.out⟩
theorem from_14 (B b:Nat) (G H I J:Value) (K:Option Addr) (n v:Nat) (s:bZ) (L g:Nat) (tv:Value) (z:List Value) (k:Nat) (code:List fE) (i:fE) (m:List gM) (w:World) (h:bN w B b G H I J K n v s L g tv z) (x:WOk n s) (hn:n<=600) (hk:k<n) (c9:n=code.length) (p:aH w B 5 iA (.slice K n v) code) (A:code[k]? = some i) (y:s.out[k]? = some m) (hB:B<=w.heap.size) (C:i.op=14) (V:0<=i.a) : Calls prog 131 #[.pointer (some ⟨b,0,none⟩),.int .i64 k] w (eI B b G H I J K n v (dW s i.a m) L g w):=by
 obtain⟨O,r⟩:∃O,O=dW s i.a m:=⟨_,rfl⟩;rw[<-r];have M:=hI r;clear r;have N:k<code.length:=by omega
 obtain⟨f,q,j,b3,rfl,b4,l,-,hR,d⟩:=p.at_ (i:=k) N;rw[A] at l;injection l with l
 subst l;obtain⟨rfl,b5,b6,c0,c1,c2⟩:=hR;obtain⟨E,u⟩:∃E,z[k]? = some E:=⟨_,lG (by rw[h.olen];exact hk)⟩;have D:=h.out k E m u y;obtain⟨A',F,rfl,c3,P,-⟩:=id D;have c4:=crZ h.here 4 rfl;have c6:=crZ h.here 6 rfl;have c8:=crZ h.here 8 rfl;have f8:w.frozen? ⟨b,8,none⟩=false:=frozen_of_row w b 8 _ _ h.here;have c7:w.cell? ⟨g,k,none⟩=some (.slice A' m.length F):=by rw[cell_of_row w g k _ _ _ h.outs];simpa using u
 have W:w.cell? ⟨f,q+k*5,none⟩=some (.int .i64 i.op):=d 0 _ rfl;have g1:w.cell? ⟨f,q+k*5+1,none⟩=some (.int .i64 i.a):=d 1 _ rfl;have g2:w.cell? ⟨f,q+k*5+2,none⟩=some (.int .i64 i.b):=d 2 _ rfl;have g3:w.cell? ⟨f,q+k*5+3,none⟩=some (.int .i64 i.c):=d 3 _ rfl;have g4:w.cell? ⟨f,q+k*5+4,none⟩=some (.int .i64 i.line):=d 4 _ rfl;have l1:f<w.heap.size:=by omega
 have l2:b<w.heap.size:=(aE h.here).1;have l3:g<w.heap.size:=(aE h.outs).1;have a9:(k:Int)<n:=by omega
 have b0:(k:Int)<=600:=by omega
 have b2:m.length<=20:=x.few m (lM y);have X:=hI h;have Y:=hI D;have HF:=hI (x.wf m (lM y));unfold maxLen at P;clear h u y D d p A;rw[C] at W;clear C;go_enter func131,ntmps131;go_wp2_with fail;go_region;go_wp2_with fail;refine(kH B b G H I J _ n v s L g _ _ i.a _ m _ (X.out.below (by repeat (first | exact Below.refl _ _ | refine Below.drew ?_ | refine Below.alloc ?_ (by simp) _))) x hn V (Y.out.below (by repeat (first | exact Below.refl _ _ | refine Below.drew ?_ | refine Below.alloc ?_ (by simp) _))) (by simp;omega)).mono ?_;rintro e w5 ⟨rfl,⟨c5,a4,R⟩,S⟩;have Z:=hI R;have K2:Hid (aU B w w5):=by refine aU.trans (ad7 ?_) S;exact(by repeat (first | exact Below.refl _ _ | refine Below.drew ?_ | refine Below.alloc ?_ (by simp) _))
 clear R S;go_wp2_with fail;refine bodyPost_ret (results_none rfl _ _ _) rfl ⟨rfl,⟨_,_,by rw[M.out];exact Z.out⟩,K2.out⟩
theorem aa7 (B b:Nat) (F G H I:Value) (J:Option Addr) (n v:Nat) (s:bZ) (K g:Nat) (tv:Value) (z:List Value) (k:Nat) (code:List fE) (i:fE) (m:List gM) (w:World) (h:bN w B b F G H I J n v s K g tv z) (x:WOk n s) (hn:n<=600) (hk:k<n) (d4:n=code.length) (p:aH w B 5 iA (.slice J n v) code) (A:code[k]? = some i) (y:s.out[k]? = some m) (hB:B<=w.heap.size) (S:¬(i.op=28\/i.op=29\/i.op=13\/i.op=14\/i.op=15\/i.op=30\/i.op=31)) : Calls prog 131 #[.pointer (some ⟨b,0,none⟩),.int .i64 k] w (eI B b F G H I J n v (dW s ((k:Int)+1) m) K g w):=by
 obtain⟨N,r⟩:∃N,N=dW s ((k:Int)+1) m:=⟨_,rfl⟩;rw[<-r];have L:=hI r;clear r;have M:k<code.length:=by omega
 obtain⟨f,q,j,c1,rfl,c2,l,-,Z,d⟩:=p.at_ (i:=k) M;rw[A] at l;injection l with l
 subst l;obtain⟨rfl,c3,c5,c9,d0,d1⟩:=Z;obtain⟨D,u⟩:∃D,z[k]? = some D:=⟨_,lG (by rw[h.olen];exact hk)⟩;have C:=h.out k D m u y;obtain⟨A',E,rfl,d2,O,-⟩:=id C;have c4:=crZ h.here 4 rfl;have c6:=crZ h.here 6 rfl;have c8:=crZ h.here 8 rfl;have f8:w.frozen? ⟨b,8,none⟩=false:=frozen_of_row w b 8 _ _ h.here;have c7:w.cell? ⟨g,k,none⟩=some (.slice A' m.length E):=by rw[cell_of_row w g k _ _ _ h.outs];simpa using u
 have g0:w.cell? ⟨f,q+k*5,none⟩=some (.int .i64 i.op):=d 0 _ rfl;have g1:w.cell? ⟨f,q+k*5+1,none⟩=some (.int .i64 i.a):=d 1 _ rfl;have g2:w.cell? ⟨f,q+k*5+2,none⟩=some (.int .i64 i.b):=d 2 _ rfl;have g3:w.cell? ⟨f,q+k*5+3,none⟩=some (.int .i64 i.c):=d 3 _ rfl;have g4:w.cell? ⟨f,q+k*5+4,none⟩=some (.int .i64 i.line):=d 4 _ rfl;have l1:f<w.heap.size:=by omega
 have l2:b<w.heap.size:=(aE h.here).1;have l3:g<w.heap.size:=(aE h.outs).1;have a6:(k:Int)<n:=by omega
 have a7:(k:Int)<=600:=by omega
 have a9:m.length<=20:=x.few m (lM y);have V:=hI h;have W:=hI C;have HF:=hI (x.wf m (lM y));unfold maxLen at O;clear h u y C d p A;have b0:(i.op == 28)=false:=by simp;omega
 have b2:(i.op == 29)=false:=by simp;omega
 have b3:(i.op == 13)=false:=by simp;omega
 have b4:(i.op == 14)=false:=by simp;omega
 have b5:(i.op == 15)=false:=by simp;omega
 have b6:(i.op == 30)=false:=by simp;omega
 have c0:(i.op == 31)=false:=by simp;omega
 clear S;go_enter func131,ntmps131;go_wp2_with fail;go_region;go_wp2_with fail;refine(kH B b F G H I _ n v s K g _ _ ((k:Int)+1) _ m _ (V.out.below (by repeat (first | exact Below.refl _ _ | refine Below.drew ?_ | refine Below.alloc ?_ (by simp) _))) x hn (by omega) (W.out.below (by repeat (first | exact Below.refl _ _ | refine Below.drew ?_ | refine Below.alloc ?_ (by simp) _))) (by simp;omega)).mono ?_;rintro e w5 ⟨rfl,⟨d3,a2,P⟩,R⟩;have X:=hI P;have Y:Hid (aU B w w5):=by refine aU.trans (ad7 ?_) R;exact(by repeat (first | exact Below.refl _ _ | refine Below.drew ?_ | refine Below.alloc ?_ (by simp) _))
 clear P R;go_wp2_with fail;go_end0;exact⟨rfl,⟨_,_,by rw[L.out];exact X.out⟩,Y.out⟩
theorem from_15 (B b:Nat) (A C D E:Value) (O:Option Addr) (n v:Nat) (s:bZ) (F f:Nat) (tv:Value) (H:List Value) (k:Nat) (code:List fE) (i:fE) (m:List gM) (w:World) (h:bN w B b A C D E O n v s F f tv H) (p:WOk n s) (hn:n<=600) (hk:k<n) (d7:n=code.length) (q:aH w B 5 iA (.slice O n v) code) (I:code[k]? = some i) (G:s.out[k]? = some m) (hB:B<=w.heap.size) (J:i.op=15) (K:0<=i.b) : Calls prog 131 #[.pointer (some ⟨b,0,none⟩),.int .i64 k] w (eI B b A C D E O n v (dW (dW s i.b m) ((k:Int)+1) m) F f w):=by
 obtain⟨Y,x⟩:∃Y,Y=dW (dW s i.b m) ((k:Int)+1) m:=⟨_,rfl⟩;rw[<-x];have P:=hI x;clear x;have R:k<code.length:=by omega
 obtain⟨g,r,j,c3,rfl,c5,l,-,hR,d⟩:=q.at_ (i:=k) R;rw[I] at l;injection l with l
 subst l;obtain⟨rfl,c9,d0,d1,d2,d3⟩:=hR;obtain⟨M,y⟩:∃M,H[k]? = some M:=⟨_,lG (by rw[h.olen];exact hk)⟩;have L:=h.out k M m y G;obtain⟨A',N,rfl,d4,Z,-⟩:=id L;have c4:=crZ h.here 4 rfl;have c6:=crZ h.here 6 rfl;have c8:=crZ h.here 8 rfl;have f8:w.frozen? ⟨b,8,none⟩=false:=frozen_of_row w b 8 _ _ h.here;have c7:w.cell? ⟨f,k,none⟩=some (.slice A' m.length N):=by rw[cell_of_row w f k _ _ _ h.outs];simpa using y
 have g0:w.cell? ⟨g,r+k*5,none⟩=some (.int .i64 i.op):=d 0 _ rfl;have g1:w.cell? ⟨g,r+k*5+1,none⟩=some (.int .i64 i.a):=d 1 _ rfl;have g2:w.cell? ⟨g,r+k*5+2,none⟩=some (.int .i64 i.b):=d 2 _ rfl;have g3:w.cell? ⟨g,r+k*5+3,none⟩=some (.int .i64 i.c):=d 3 _ rfl;have g4:w.cell? ⟨g,r+k*5+4,none⟩=some (.int .i64 i.line):=d 4 _ rfl;have l1:g<w.heap.size:=by omega
 have l2:b<w.heap.size:=(aE h.here).1;have l3:f<w.heap.size:=(aE h.outs).1;have c0:(k:Int)<n:=by omega
 have c1:(k:Int)<=600:=by omega
 have c2:m.length<=20:=p.few m (lM G);have HH:=hI h;have S:=hI L;have HF:=hI (p.wf m (lM G));unfold maxLen at Z;clear h y G L d q I;have V:=hI (p.come K HF.out);rw[J] at g0;clear J;go_enter func131,ntmps131;go_wp2_with fail;go_region;go_wp2_with fail;refine(kH B b A C D E _ n v s F f _ _ i.b _ m _ (HH.out.below (by repeat (first | exact Below.refl _ _ | refine Below.drew ?_ | refine Below.alloc ?_ (by simp) _))) p hn K (S.out.below (by repeat (first | exact Below.refl _ _ | refine Below.drew ?_ | refine Below.alloc ?_ (by simp) _))) (by simp;omega)).mono ?_;rintro e w5 ⟨rfl,⟨d5,b3,z⟩,u⟩;have K1:=hI z;have W:Hid (aU B w w5):=by refine aU.trans (ad7 ?_) u;exact(by repeat (first | exact Below.refl _ _ | refine Below.drew ?_ | refine Below.alloc ?_ (by simp) _))
 have M2:=hI (u.tries (S.out.below (by repeat (first | exact Below.refl _ _ | refine Below.drew ?_ | refine Below.alloc ?_ (by simp) _))));have X:B<=w5.heap.size:=Nat.le_trans hB W.out.size;clear z u;go_wp2_with fail;refine(kH B b A C D E _ n v _ F f _ _ ((k:Int)+1) _ m _ (K1.out) V.out hn (by omega) (M2.out) X).mono ?_;rintro e w6 ⟨rfl,⟨d6,b4,z⟩,u⟩;have K3:=hI z;have K4:=hI (W.out.trans u);clear z u;go_wp2_with fail;go_end0;exact⟨rfl,⟨_,_,by rw[P.out];exact K3.out⟩,K4.out⟩
theorem ac6 (B b:Nat) (M N O P:Value) (G:Option Addr) (n u:Nat) (s:bZ) (R p:Nat) (X:Value) (x:List Value) (k:Nat) (code:List fE) (i:fE) (m:List gM) (w:World) (h:bN w B b M N O P G n u s R p X x) (y:WOk n s) (hn:n<=600) (Y:k<n) (b3:n=code.length) (g:aH w B 5 iA (.slice G n u) code) (z:code[k]? = some i) (v:s.out[k]? = some m) (hB:B<=w.heap.size) (A:i.op=31) (C:m=[]) : Calls prog 131 #[.pointer (some ⟨b,0,none⟩),.int .i64 k] w (eI B b M N O P G n u ({ s with bad:=true }) R p w):=by
 obtain⟨K,q⟩:∃K,K=({ s with bad:=true } : bZ):=⟨_,rfl⟩;rw[<-q];have H:=hI q;clear q;have I:k<code.length:=by omega
 obtain⟨e,l,j,a3,rfl,a4,f,-,V,d⟩:=g.at_ (i:=k) I;rw[z] at f;injection f with f
 subst f;obtain⟨rfl,a5,a6,a7,a9,b0⟩:=V;obtain⟨E,r⟩:∃E,x[k]? = some E:=⟨_,lG (by rw[h.olen];exact Y)⟩;have D:=h.out k E m r v;obtain⟨W,F,rfl,b2,L,-⟩:=id D;have c4:=crZ h.here 4 rfl;have c6:=crZ h.here 6 rfl;have c8:=crZ h.here 8 rfl;have f8:w.frozen? ⟨b,8,none⟩=false:=frozen_of_row w b 8 _ _ h.here;have c7:w.cell? ⟨p,k,none⟩=some (.slice W m.length F):=by rw[cell_of_row w p k _ _ _ h.outs];simpa using r
 have S:w.cell? ⟨e,l+k*5,none⟩=some (.int .i64 i.op):=d 0 _ rfl;have g1:w.cell? ⟨e,l+k*5+1,none⟩=some (.int .i64 i.a):=d 1 _ rfl;have g2:w.cell? ⟨e,l+k*5+2,none⟩=some (.int .i64 i.b):=d 2 _ rfl;have g3:w.cell? ⟨e,l+k*5+3,none⟩=some (.int .i64 i.c):=d 3 _ rfl;have g4:w.cell? ⟨e,l+k*5+4,none⟩=some (.int .i64 i.line):=d 4 _ rfl;have l1:e<w.heap.size:=by omega
 have l2:b<w.heap.size:=(aE h.here).1;have l3:p<w.heap.size:=(aE h.outs).1;have Z:(k:Int)<n:=by omega
 have a0:(k:Int)<=600:=by omega
 have a1:m.length<=20:=y.few m (lM v);have J:=hI h;have HM:=hI D;have HF:=hI (y.wf m (lM v));unfold maxLen at L;clear h r v D d g z;rw[A] at S;have a2:((m.length:Int) == 0)=true:=by rw[C];rfl
 clear A C;go_enter func131,ntmps131;go_wp2_with fail;go_region;go_wp2_with fail;refine bodyPost_ret (results_none rfl _ _ _) rfl ⟨rfl,⟨_,_,by rw[H.out];exact J.out.set_bad.1.below (by repeat (first | exact Below.refl _ _ | refine Below.drew ?_ | refine Below.alloc ?_ (by simp[World.setCell]) _))⟩,J.out.set_bad.2.below_ (by repeat (first | exact Below.refl _ _ | refine Below.drew ?_ | refine Below.alloc ?_ (by simp[World.setCell]) _))⟩
theorem from_31 (B b:Nat) (H I J K:Value) (L:Option Addr) (n x:Nat) (s:bZ) (M l:Nat) (tv:Value) (A:List Value) (k:Nat) (code:List fE) (i:fE) (m:List gM) (w:World) (h:bN w B b H I J K L n x s M l tv A) (y:WOk n s) (hn:n<=600) (hk:k<n) (d6:n=code.length) (q:aH w B 5 iA (.slice L n x) code) (C:code[k]? = some i) (z:s.out[k]? = some m) (hB:B<=w.heap.size) (D:i.op=31) (E:m≠[]) : Calls prog 131 #[.pointer (some ⟨b,0,none⟩),.int .i64 k] w (eI B b H I J K L n x (dW s ((k:Int)+1) m.dropLast) M l w):=by
 obtain⟨R,u⟩:∃R,R=dW s ((k:Int)+1) m.dropLast:=⟨_,rfl⟩;rw[<-u];have N:=hI u;clear u;have O:k<code.length:=by omega
 obtain⟨f,r,j,c3,rfl,c5,p,-,hR,d⟩:=q.at_ (i:=k) O;rw[C] at p;injection p with p
 subst p;obtain⟨rfl,c9,d0,d1,d2,d3⟩:=hR;obtain⟨G,v⟩:∃G,A[k]? = some G:=⟨_,lG (by rw[h.olen];exact hk)⟩;have F:=h.out k G m v z;obtain⟨S,g,rfl,d4,V,-⟩:=id F;have c4:=crZ h.here 4 rfl;have c6:=crZ h.here 6 rfl;have c8:=crZ h.here 8 rfl;have f8:w.frozen? ⟨b,8,none⟩=false:=frozen_of_row w b 8 _ _ h.here;have c7:w.cell? ⟨l,k,none⟩=some (.slice S m.length g):=by rw[cell_of_row w l k _ _ _ h.outs];simpa using v
 have Z:w.cell? ⟨f,r+k*5,none⟩=some (.int .i64 i.op):=d 0 _ rfl;have g1:w.cell? ⟨f,r+k*5+1,none⟩=some (.int .i64 i.a):=d 1 _ rfl;have g2:w.cell? ⟨f,r+k*5+2,none⟩=some (.int .i64 i.b):=d 2 _ rfl;have g3:w.cell? ⟨f,r+k*5+3,none⟩=some (.int .i64 i.c):=d 3 _ rfl;have g4:w.cell? ⟨f,r+k*5+4,none⟩=some (.int .i64 i.line):=d 4 _ rfl;have l1:f<w.heap.size:=by omega
 have l2:b<w.heap.size:=(aE h.here).1;have l3:l<w.heap.size:=(aE h.outs).1;have b3:(k:Int)<n:=by omega
 have b4:(k:Int)<=600:=by omega
 have b5:m.length<=20:=y.few m (lM z);have HH:=hI h;have HM:=hI F;have HF:=hI (y.wf m (lM z));unfold maxLen at V;clear h v z F d q C;rw[D] at Z;have b6:0<m.length:=List.length_pos_iff.2 E;have c0:((m.length:Int) == 0)=false:=by simp;omega
 have c1:(1:Int)<=m.length:=by omega
 have c2:(m.length:Int) - 1<=g:=by omega
 have P:Hid (∀W,Below w.heap.size w W->bI W B 96 2 jW (.slice S (m.length - 1) g) m.dropLast):=λW hW=>by rw[List.dropLast_eq_take];exact(HM.out.below hW).take (by omega)
 clear D E;go_enter func131,ntmps131;go_wp2_with fail;go_region;go_wp2_with fail;refine(kH B b H I J K _ n x s M l _ _ ((k:Int)+1) _ m.dropLast _ (HH.out.below (by repeat (first | exact Below.refl _ _ | refine Below.drew ?_ | refine Below.alloc ?_ (by simp) _))) y hn (by omega) (P.out _ (by repeat (first | exact Below.refl _ _ | refine Below.drew ?_ | refine Below.alloc ?_ (by simp) _))) (by simp;omega)).mono ?_;rintro e w5 ⟨rfl,⟨d5,a6,X⟩,Y⟩;have K1:=hI X;have K2:Hid (aU B w w5):=by refine aU.trans (ad7 ?_) Y;exact(by repeat (first | exact Below.refl _ _ | refine Below.drew ?_ | refine Below.alloc ?_ (by simp) _))
 clear X Y;go_wp2_with fail;go_end0;exact⟨rfl,⟨_,_,by rw[N.out];exact K1.out⟩,K2.out⟩
end
section
open Go.RowKit
theorem acG {w:World} {B B':Nat} {e:TypeId} {size:Nat} {v:Value} {n:Nat} {xs:List Value} (h:w.ownsRow B e size v n xs) (hB:B'<=B):w.ownsRow B' e size v n xs:= ⟨h.1,h.2.imp id (λ⟨g,d,f,i,j,l⟩=>⟨g,d,f,i,Nat.le_trans hB j,l⟩)⟩
theorem news2 (w:World) (a b:Value) (t:TypeId):∀j u,[a,b][j]? = some u->(w.alloc (.cells #[a,b] t)).cell? ((⟨w.heap.size,0,none⟩:Addr).add j)=some u:=by
 intro j u d;match j,d with
 | 0,d=>simp at d;subst d;exact bL w #[a,b] t 0
 | 1,d=>simp at d;subst d;exact bL w #[a,b] t 1
theorem from_30 (B b:Nat) (Z v1 v2 v3:Value) (A5:Option Addr) (n J:Nat) (s:bZ) (bs A:Nat) (tv:Value) (b2:List Value) (k:Nat) (code:List fE) (i:fE) (m:List gM) (w:World) (h:bN w B b Z v1 v2 v3 A5 n J s bs A tv b2) (G:WOk n s) (hn:n<=600) (hk:k<n) (n6:n=code.length) (H:aH w B 5 iA (.slice A5 n J) code) (b3:code[k]? = some i) (ho:s.out[k]? = some m) (hB:B<=w.heap.size) (b4:i.op=30) (b5:0<=i.b) : Calls prog 131 #[.pointer (some ⟨b,0,none⟩),.int .i64 k] w (eI B b Z v1 v2 v3 A5 n J (dW (dW s i.b m) ((k:Int)+1) (m++[⟨i.a,i.b⟩])) bs A w):=by
 obtain⟨s',L⟩:∃s',s'=dW (dW s i.b m) ((k:Int)+1) (m++[⟨i.a,i.b⟩]):=⟨_,rfl⟩;rw[<-L];have c5:=hI L;clear L;have c9:k<code.length:=by omega
 obtain⟨C,I,j,m6,rfl,m7,E,-,hR,l⟩:=H.at_ (i:=k) c9;rw[b3] at E;injection E with E
 subst E;obtain⟨rfl,m8,f2,f3,n0,n1⟩:=hR;obtain⟨ov,M⟩:∃ov,b2[k]? = some ov:=⟨_,lG (by rw[h.olen];exact hk)⟩;have hm:=h.out k ov m M ho;obtain⟨A',N,rfl,n2,f9,-⟩:=id hm;have c4:=crZ h.here 4 rfl;have c6:=crZ h.here 6 rfl;have c8:=crZ h.here 8 rfl;have f8:w.frozen? ⟨b,8,none⟩=false:=frozen_of_row w b 8 _ _ h.here;have c7:w.cell? ⟨A,k,none⟩=some (.slice A' m.length N):=by rw[cell_of_row w A k _ _ _ h.outs];simpa using M
 have g0:w.cell? ⟨C,I+k*5,none⟩=some (.int .i64 i.op):=l 0 _ rfl;have g1:w.cell? ⟨C,I+k*5+1,none⟩=some (.int .i64 i.a):=l 1 _ rfl;have g2:w.cell? ⟨C,I+k*5+2,none⟩=some (.int .i64 i.b):=l 2 _ rfl;have g3:w.cell? ⟨C,I+k*5+3,none⟩=some (.int .i64 i.c):=l 3 _ rfl;have g4:w.cell? ⟨C,I+k*5+4,none⟩=some (.int .i64 i.line):=l 4 _ rfl;have l1:C<w.heap.size:=by omega
 have l2:b<w.heap.size:=(aE h.here).1;have l3:A<w.heap.size:=(aE h.outs).1;have m2:(k:Int)<n:=by omega
 have m3:(k:Int)<=600:=by omega
 have m4:m.length<=20:=G.few m (lM ho);have HH:=hI h;have HM:=hI hm;have HF:=hI (G.wf m (lM ho));unfold maxLen at f9;clear h M ho hm l H b3;have d5:=hI (G.come b5 HF.out);rw[b4] at g0;clear b4;go_enter func131,ntmps131;go_wp2_with fail;go_region;go_wp2_with fail;refine(kH B b Z v1 v2 v3 _ n J s bs A _ _ i.b _ m _ (HH.out.below (by repeat (first | exact Below.refl _ _ | refine Below.drew ?_ | refine Below.alloc ?_ (by simp) _))) G hn b5 (HM.out.below (by repeat (first | exact Below.refl _ _ | refine Below.drew ?_ | refine Below.alloc ?_ (by simp) _))) (by simp;omega)).mono ?_;rintro e d ⟨rfl,⟨n3,k9,O⟩,D⟩;have K1:=hI O;have K2:Hid (aU B w d):=by refine aU.trans (ad7 ?_) D;exact(by repeat (first | exact Below.refl _ _ | refine Below.drew ?_ | refine Below.alloc ?_ (by simp) _))
 have M2:=hI (D.tries (HM.out.below (by repeat (first | exact Below.refl _ _ | refine Below.drew ?_ | refine Below.alloc ?_ (by simp) _))));have V:Hid (d.heap[w.heap.size]? = some (.cells #[.int .i64 30,.int .i64 i.a,.int .i64 i.b,.int .i64 i.c,.int .i64 i.line] 193 (0,0))):=D.row (heap_alloc_new w _) (by decide);have a5:B<=d.heap.size:=Nat.le_trans hB K2.out.size;have X:Hid (∀W,Below d.heap.size d W->∀j v,(#[.int .i64 30,.int .i64 i.a,.int .i64 i.b,.int .i64 i.c,.int .i64 i.line]:Array Value)[j]? = some v->W.cell? ⟨w.heap.size,j,none⟩=some v):=λW k j v hv=>aC k ((cell_of_row d _ j _ _ _ V.out).trans hv);have CS:Hid (∀W,Below d.heap.size d W->aH W W.heap.size 2 (Raw 2) (.slice A' m.length N) (m.map cO)):=λW k=>yT (M2.out.below k).slice;have C1:Hid (∀r∈m.map cO,∀u∈r,u.oneCell'=true):=by intro r hr u y;obtain⟨x,_,rfl⟩:=List.mem_map.1 hr;simp[cO] at y;rcases y with rfl | rfl <;> rfl
 have C2:Hid ((m.map cO).length*16<=140737488355328):=by show _<=_;rw[List.length_map];omega
 obtain⟨i0,hi,hq⟩:=Option.map_eq_some_iff.1 rQ;simp only[Prod.mk.injEq] at hq;obtain⟨hz,a6,a7⟩:=hq;obtain⟨z,a9,b0⟩:=Option.map_eq_some_iff.1 hz;have HI:=hI hi;have HZ:=hI a9;have d7:=hI a6;have d8:=hI a7;have e0:=hI b0;have d1:=crZ V 1 rfl;have d2:=crZ V 2 rfl;have m5:w.heap.size<d.heap.size:=(aE V.out).1;clear O D c4 c6 c7 c8 f8 g0 g1 g2 g3 g4 hi hz a9 a6 a7 b0;go_wp2_with fail;go_region_held3 (λw'=>w'.cell? ⟨w.heap.size,1,none⟩=some (.int .i64 i.a)/\w'.cell? ⟨w.heap.size,2,none⟩=some (.int .i64 i.b)) (first | go_keep) ((first
  | (go_simp;go_at_call 63;refine(uA _ (m.map cO) _ (CS.out _ (by repeat (first | exact Below.refl _ _ | refine Below.drew ?_ | refine Below.alloc ?_ (by simp) _))) C1.out C2.out).mono ?_;rintro e w6 ⟨u,rfl,y,hb⟩;have Y:Below d.heap.size d w6:=(by refine Below.trans ?_ (hb.mono (by simp));exact(by repeat (first | exact Below.refl _ _ | refine Below.drew ?_ | refine Below.alloc ?_ (by simp) _)));have q1:=X.out w6 Y 1 _ rfl;have q2:=X.out w6 Y 2 _ rfl;have p:=hI Y;have e3:=hI hb;have K:=hI (acG y (show d.heap.size<=_ from by simp));clear y Y hb)
  | (go_loud (refine step_append_lies _ (by rfl) _ _ 59 (by rfl) d.heap.size 96 i0 z 2 16 underlying59 HI.out HZ.out d7.out d8.out e0.out (by decide) u (m.map cO).length ((m.map cO).flatMap id) (by rfl) (by first | exact K.out | exact K.out.alloc _) ⟨_,0,none⟩ 1 1 [.int .i64 i.a,.int .i64 i.b] (by rfl) (by rfl) (by first | exact news2 _ _ _ _ | exact(λj u hj=>aC e3.out (news2 _ _ _ _ j u hj))) (by intro u y;simp at y;rcases y with rfl | rfl <;> rfl) (by decide) (by rw[List.length_map];unfold maxLen;omega) (by rw[List.length_map];omega) (by have:=p.out.size;first | exact this | (simp;omega)) _ rfl ?_);intro g cp P S F l g7;have q:Hid (Below d.heap.size d P):=(by refine Below.grown ?_ F ?_ (λk hk=>(jD K.out k hk).1);(first | exact p.out | exact p.out.alloc p.out.size _);(have:=p.out.size;first | exact this | (simp;omega)));have e4:=hI S;have q7:=X.out P q.out 1 _ rfl;have q8:=X.out P q.out 2 _ rfl;clear S F l g7)))
 all_goals
  have e5:Hid (bI P B 96 2 jW (.slice (some ⟨g,0,none⟩) (m.length+1) cp) (m++[⟨i.a,i.b⟩])):=by
   have e1:(m++[(⟨i.a,i.b⟩:gM)]).length=m.length+1:=(by simp);have e2:(m++[(⟨i.a,i.b⟩:gM)]).flatMap cO=(m.map cO).flatMap id++[.int .i64 i.a,.int .i64 i.b]:=(by rw[List.flatMap_append,List.flatMap_id,List.flatMap_def];rfl);have h7:=e4.out;rw[List.length_map,<-e2,<-e1] at h7;have h8:=(qZ (R:=jW) (f:=cO) (by decide) (λx _=>rfl) (λx hx=>⟨rfl,by
    rcases List.mem_append.1 hx with hx | hx;·exact HF.out x hx
    ·simp at hx;subst hx;exact⟨f2,f3⟩⟩) h7).more a5
   rw[e1] at h8;exact h8
  have f0:B<=P.heap.size:=Nat.le_trans a5 q.out.size;have W7:=hI (K1.out.below q.out);clear q7 q8 d1 d2;go_wp2_with fail;refine(kH B b Z v1 v2 v3 _ n J _ bs A _ _ ((k:Int)+1) _ (m++[⟨i.a,i.b⟩]) _ W7.out d5.out hn (by omega) e5.out f0).mono ?_;rintro e w8 ⟨rfl,⟨n4,l0,O⟩,D⟩;have K8:=hI O;have K9:=hI ((K2.out.below_ q.out).trans D);clear O D;go_wp2_with fail;go_end0;exact⟨rfl,⟨_,_,by rw[c5.out];exact K8.out⟩,K9.out⟩
theorem ac5 (B b:Nat) (p q r u:Value) (j:Option Addr) (n l:Nat) (s:bZ) (v x:Nat) (z:Value) (e:List Value) (k:Nat) (code:List fE) (w:World) (h:bN w B b p q r u j n l s v x z e) (f:WOk n s) (C:n<=600) (A:k<n) (g:n=code.length) (d:aH w B 5 iA (.slice j n l) code) (N:iP code) (hB:B<=w.heap.size) : Calls prog 131 #[.pointer (some ⟨b,0,none⟩),.int .i64 k] w (eI B b p q r u j n l (oM code s k) v x w):=by
 obtain⟨i,hi⟩:∃i,code[k]? = some i:=⟨_,lG (by omega)⟩;obtain⟨m,y⟩:∃m,s.out[k]? = some m:=⟨_,lG (by rw[f.out];exact A)⟩;obtain⟨L,M,O⟩:=N i (lM hi);unfold oM;rw[Int.toNat_natCast,hi,y];dsimp only;by_cases J:i.op=28;·rw[if_pos (.inl J)];exact from_28 B b p q r u j n l s v x z e k code i m w h f C A g d hi y hB J
 by_cases K:i.op=29;·rw[if_pos (.inr K)];exact from_29 B b p q r u j n l s v x z e k code i m w h f C A g d hi y hB K
 rw[if_neg (by omega)];by_cases G:i.op=13;·rw[if_pos (.inl G)];exact from_13 B b p q r u j n l s v x z e k code i m w h f C A g d hi y hB G (L (.inl G)).1
 by_cases H:i.op=14;·rw[if_pos (.inr H)];exact from_14 B b p q r u j n l s v x z e k code i m w h f C A g d hi y hB H (L (.inr H)).1
 rw[if_neg (by omega)];by_cases D:i.op=15;·rw[if_pos D];exact from_15 B b p q r u j n l s v x z e k code i m w h f C A g d hi y hB D (M (.inl D)).1
 rw[if_neg D];by_cases E:i.op=30;·rw[if_pos E];exact from_30 B b p q r u j n l s v x z e k code i m w h f C A g d hi y hB E (M (.inr E)).1
 rw[if_neg E];by_cases F:i.op=31
 ·rw[if_pos F];by_cases I:m=[];·rw[if_pos I];exact ac6 B b p q r u j n l s v x z e k code i m w h f C A g d hi y hB F I
  ·rw[if_neg I];exact from_31 B b p q r u j n l s v x z e k code i m w h f C A g d hi y hB F I
 rw[if_neg F];exact aa7 B b p q r u j n l s v x z e k code i m w h f C A g d hi y hB (by omega)
end
end Go.Proofs.YtjaphgpkkfdaaaaGreatDoor
