/- A part of the walk. -/
import Derived.Test.YtijihlcdhppfgaaGreatDoorZD
import Derived.BigRegion
import Derived.Deep.AppendLies
import Derived.Deep.RegionHeld3
import Derived.Deep.RegionLaw
set_option maxHeartbeats 16000000
set_option maxRecDepth 100000
set_option linter.all false
namespace Go.Proofs.YtijihlcdhppfgaaGreatDoor
open Tryz
section
open Go.RowKit
def aaZ (t:TypeId):Bool:=t == 273 || t == 4 || t == 143 || t == 3
structure aX (B:Nat) (w w':World):Prop where
 os:w'.os=w.os
 tape:w'.tape=w.tape
 output:w'.output=w.output
 size:w.heap.size<=w'.heap.size
 block:∀k,k<w.heap.size->(k<B\/∃cs t fr,w.heap[k]? = some (.cells cs t fr)/\aaZ t=false)->w'.heap[k]? = w.heap[k]?
section
variable {B:Nat} {w w1 w2:World}
theorem aX.refl (B:Nat) (w:World):aX B w w:=⟨rfl,rfl,rfl,Nat.le_refl _,λ_ _ _=>rfl⟩
theorem aX.trans (h:aX B w w1) (k:aX B w1 w2):aX B w w2:=
 ⟨k.os.trans h.os,k.tape.trans h.tape,k.output.trans h.output,Nat.le_trans h.size k.size,λi hi d=>(k.block i (Nat.lt_of_lt_of_le hi h.size) (by
  rcases d with d | ⟨cs,t,f,d,g⟩
  ·exact .inl d
  ·exact .inr ⟨cs,t,f,(h.block i hi (.inr ⟨cs,t,f,d,g⟩)).trans d,g⟩)).trans (h.block i hi d)⟩
theorem aX.below_ (h:aX B w w1) (k:Below w1.heap.size w1 w2):aX B w w2:=h.trans ⟨k.os,k.tape,k.output,k.size,λi hi _=>k.block i hi⟩
theorem aX.of_below (k:Below w.heap.size w w1):aX B w w1:=(aX.refl B w).below_ k
theorem aX.alloc (h:aX B w w1) (o:Obj):aX B w (w1.alloc o):=h.below_ (aA w1 o)
theorem aX.drew (h:aX B w w1):aX B w w1.drew:=⟨h.os,h.tape,h.output,h.size,h.block⟩
theorem aX.set_ (h:aX B w w1) {g:Nat} {cs:Array Value} {t:TypeId} {j:Nat×Nat} (hB:B<=g) (l:w1.heap[g]? = some (.cells cs t j)) (ht:aaZ t=true) (i:Nat) (u:Value):aX B w (w1.setCell ⟨g,i,none⟩ u):=
 h.trans ⟨rfl,rfl,rfl,by simp[World.setCell],λk r d=>Below.heap_setCell _ _ _ _ (by
  show k≠g
  rintro rfl
  rcases d with d | ⟨p,s,q,d,f⟩
  ·omega
  ·rw[l] at d;injection d with d;injection d with _ d _;rw[<-d,ht] at f;cases f)⟩
theorem aX.grown (h:aX B w w1) {row:Option Nat} (f:w1.grownBy w2 row) {t:TypeId} (ht:aaZ t=true) (q:∀k,row=some k->B<=k/\∃cs g,w1.heap[k]? = some (.cells cs t g)):aX B w w2:=
 h.trans ⟨f.os,f.tape,f.output,f.size,λk p d=>f.block k p (λe=>by
  obtain⟨h1,cs,g,l⟩:=q k e.symm
  rcases d with d | ⟨r,u,s,d,j⟩
  ·omega
  ·rw[l] at d;injection d with d;injection d with _ d _;rw[<-d,ht] at j;cases j)⟩
theorem aX.under (h:aX B w w1) (hB:B<=w.heap.size):Below B w w1:=⟨h.os,h.tape,h.output,h.size,λk d=>h.block k (by omega) (.inl d)⟩
theorem aX.tries {α : Type} (h:aX B w w1) {C size:Nat} {R:List Value->α->Prop} {v:Value} {xs:List α} (g:aW w C 223 size R v xs):aW w1 C 223 size R v xs:= g.keep (λk cs f _ d=>h.block k (aE d).1 (.inr ⟨cs,_,f,d,by decide⟩)) (λ_ _ h=>h)
theorem aX.row (h:aX B w w1) {g:Nat} {cs:Array Value} {t:TypeId} {d:Nat×Nat} (f:w.heap[g]? = some (.cells cs t d)) (ht:aaZ t=false):w1.heap[g]? = some (.cells cs t d):= (h.block g (aE f).1 (.inr ⟨cs,t,d,f,ht⟩)).trans f
end
theorem hY {w:World} {B:Nat} {e:TypeId} {size:Nat} {v:Value} {n:Nat} {xs:List Value} (f:w.ownsRow B e size v n xs):∀k,v.ownBlock=some k->B<=k/\∃cs h,w.heap[k]? = some (.cells cs e h):=by
 intro k d;rcases f.2 with ⟨rfl,_⟩ | ⟨g,p,q,rfl,j,l,_⟩;·simp[Value.ownBlock] at d
 ·simp only[Value.ownBlock,Option.some.injEq] at d;subst d;exact⟨j,_,_,l⟩
theorem cY {w:World} {B:Nat} {e t:TypeId} {size:Nat} {v:Value} {n:Nat} {xs:List Value} (h:w.ownsRow B e size v n xs) {g:Nat} {cs:Array Value} {l:Nat×Nat} (p:w.heap[g]? = some (.cells cs t l)) (ht:t≠e) (i:Nat) (u:Value) : (w.setCell ⟨g,i,none⟩ u).ownsRow B e size v n xs:=by refine h.kept (row:=some g) ⟨rfl,rfl,rfl,by simp[World.setCell],λk _ f=>Below.heap_setCell _ _ _ _ (λe=>f (by rw[e]))⟩ (.inr (λj=>?_));obtain⟨_,q,r,d⟩:=hY h g j;rw[p] at d;injection d with d;injection d with _ d _;exact ht d
structure b9 (w:World) (B b:Nat) (v0 v1 v2 v3:Value) (A5:Option Addr) (n n5:Nat) (s:cW) (bs bo:Nat) (tv:Value) (ovs:List Value):Prop where
 hb:B<=b
 here:w.heap[b]? = some (.cells #[v0,v1,v2,v3,.slice A5 n n5,.slice (some ⟨bs,0,none⟩) n n,.slice (some ⟨bo,0,none⟩) n n,tv,.bool s.bad] 273 (0,0))
 hbs:B<=bs
 seen:w.heap[bs]? = some (.cells ⟨s.seen.map .bool⟩ 4 (0,0))
 hbo:B<=bo
 outs:w.heap[bo]? = some (.cells ⟨ovs⟩ 143 (0,0))
 olen:ovs.length=n
 out:∀(i:Nat) v l,ovs[i]? = some v->s.out[i]? = some l->aW w B 223 2 kH v l
 todo:w.ownsRow B 3 1 tv s.todo.length (s.todo.map (.int .i64))
theorem b9.set_bad {w:World} {B b:Nat} {r u x y:Value} {z:Option Addr} {n A:Nat} {s:cW} {d f:Nat} {D:Value} {g:List Value} (h:b9 w B b r u x y z n A s d f D g) : b9 (w.setCell ⟨b,8,none⟩ (.bool true)) B b r u x y z n A { s with bad:=true } d f D g/\aX B w (w.setCell ⟨b,8,none⟩ (.bool true)):=by
 have j:aX B w (w.setCell ⟨b,8,none⟩ (.bool true)):=(aX.refl B w).set_ h.hb h.here (by decide) _ _;have p:d≠b:=by rintro rfl;have:=h.here;rw[h.seen] at this;injection this with this;injection this with _ this _;exact absurd this (by decide)
 have q:f≠b:=by rintro rfl;have:=h.here;rw[h.outs] at this;injection this with this;injection this with _ this _;exact absurd this (by decide)
 refine⟨⟨h.hb,?_,h.hbs,?_,h.hbo,?_,h.olen,λi v l E hl=>j.tries (h.out i v l E hl),cY h.todo h.here (by decide) _ _⟩,j⟩;·rw[heap_setCell_same w b 8 _ _ _ h.here];rfl
 ·rw[heap_setCell_other w _ d _ p];exact h.seen
 ·rw[heap_setCell_other w _ f _ q];exact h.outs
def gD (B b:Nat) (v0 v1 v2 v3:Value) (A5:Option Addr) (n n5:Nat) (s':cW) (bs bo:Nat) (w:World) (e:Ending) (w':World):Prop:=e=.returned (.tuple #[])/\(∃tv ovs,b9 w' B b v0 v1 v2 v3 A5 n n5 s' bs bo tv ovs)/\aX B w w'
theorem aj7 (B b:Nat) (j p q r:Value) (f:Option Addr) (n g:Nat) (s:cW) (u v:Nat) (D:Value) (x:List Value) (at_:Int) (A:Option Addr) (y:Nat) (l:List iV) (w:World) (h:b9 w B b j p q r f n g s u v D x) (H:n<=600) (I:0<=at_) (z:(n:Int)<=at_\/20<l.length) : Calls prog 188 #[.pointer (some ⟨b,0,none⟩),.int .i64 at_,.slice A l.length y] w (gD B b j p q r f n g { s with bad:=true } u v w):=by
 have c4:=crZ h.here 4 rfl;have E:=crZ h.here 8 rfl;have F:w.frozen? ⟨b,8,none⟩=false:=frozen_of_row w b 8 _ _ h.here;have d:=hI h;clear h;by_cases h1:(n:Int)<=at_;·clear z;go_enter func188,ntmps188;go_wp2_with fail;go_end0;exact⟨rfl,⟨_,_,d.o.set_bad.1⟩,d.o.set_bad.2⟩
 ·have G:(20:Int)<l.length:=by omega
  clear z;go_enter func188,ntmps188;go_wp2_with fail;go_end0;exact⟨rfl,⟨_,_,d.o.set_bad.1⟩,d.o.set_bad.2⟩
theorem b9.below {w w':World} {B b:Nat} {p q r u:Value} {x:Option Addr} {n y:Nat} {s:cW} {f j:Nat} {z:Value} {d:List Value} (h:b9 w B b p q r u x n y s f j z d) (hb:Below w.heap.size w w') : b9 w' B b p q r u x n y s f j z d:= ⟨h.hb,(hb.block b (aE h.here).1).trans h.here,h.hbs,(hb.block f (aE h.seen).1).trans h.seen,h.hbo,(hb.block j (aE h.outs).1).trans h.outs,h.olen,λi v l A hl=>(h.out i v l A hl).below hb,h.todo.kept (row:=none) ⟨hb.os,hb.tape,hb.output,hb.size,λk D _=>hb.block k D⟩ (by rcases h.todo.2 with ⟨e,_⟩ | ⟨g,_,_,e,_⟩ <;> rw[e] <;> simp[Value.ownBlock])⟩
theorem ag5 (B b:Nat) (K L M N:Value) (G:Option Addr) (n H:Nat) (s:cW) (r u:Nat) (tv:Value) (x:List Value) (k:Nat) (A:Option Addr) (y:Nat) (l m:List iV) (w:World) (h:b9 w B b K L M N G n H s r u tv x) (hn:n<=600) (hk:k<n) (hl:l.length<=20) (ht:aW w B 223 2 kH (.slice A l.length y) l) (O:s.seen[k]? = some true) (P:s.out[k]? = some m) : Calls prog 188 #[.pointer (some ⟨b,0,none⟩),.int .i64 k,.slice A l.length y] w (gD B b K L M N G n H (if m=l then s else { s with bad:=true }) r u w):=by
 obtain⟨J,p⟩:∃J,(if m=l then s else { s with bad:=true })=J:=⟨_,rfl⟩;rw[p];have v:=hI p;clear p;obtain⟨D,q⟩:∃D,x[k]? = some D:=⟨_,lG (by rw[h.olen];exact hk)⟩;have z:=h.out k D m q P;obtain⟨A',E,rfl,-⟩:=id z;have R:=hI (uR _ _ m l w z.slice ht.slice);have S:=crZ h.here 5 rfl;have V:=crZ h.here 6 rfl;have c4:=crZ h.here 4 rfl;have X:w.cell? ⟨r,k,none⟩=some (.bool true):=by rw[cell_of_row w r k _ _ _ h.seen];simp[O]
 have Y:w.cell? ⟨u,k,none⟩=some (.slice A' m.length E):=by rw[cell_of_row w u k _ _ _ h.outs];simpa using q
 have a3:(k:Int)<n:=by omega
 have a4:(l.length:Int)<=20:=by omega
 have Z:=hI h;clear h O P z q ht;go_enter func188,ntmps188;go_wp2_with fail;refine R.out.mono ?_;rintro e w1 ⟨rfl,F⟩;have I:=hI F;have f:=hI (Z.out.below F);have d8:=crZ f.out.here 8 rfl;have f8:w1.frozen? ⟨b,8,none⟩=false:=frozen_of_row w1 b 8 _ _ f.out.here;clear F S V c4 X Y;by_cases d:m=l
 ·have g:=v.out;rw[if_pos d] at g;subst g;have j:decide (m=l)=true:=by simpa using d
  rw[j];clear d j;go_wp2_with fail;go_end0;exact⟨rfl,⟨_,_,f.out⟩,aX.of_below I.out⟩
 ·have g:=v.out;rw[if_neg d] at g;subst g;have j:decide (m=l)=false:=by simpa using d
  rw[j];clear d j;go_wp2_with fail;go_end0;exact⟨rfl,⟨_,_,f.out.set_bad.1⟩,(aX.of_below I.out).trans f.out.set_bad.2⟩
theorem undrew {a b:World} {row:Option Nat} (h:a.drew.grownBy b row):a.grownBy b row:=⟨h.os,h.tape,h.output,h.size,h.block⟩
theorem yK (w:World) (g:Nat) (v:Value) {t:TypeId} (h:g=w.heap.size):∀j u,[v][j]? = some u->(w.alloc (.cells #[v] t)).drew.cell? ((⟨g,0,none⟩:Addr).add j)=some u:=by
 intro j u d
 subst h
 match j,d with
 | 0,d=>
  simp at d;subst d
  exact cA w #[v] t 0
theorem ah7 {α : Type} (f : α->Value) (l:List α) (k:Nat) (x : α):(⟨l.map f⟩:Array Value).setIfInBounds k (f x)=⟨(l.set k x).map f⟩:=by apply Array.toList_inj.1;simp[List.map_set]
theorem b9.mark {w:World} {B b:Nat} {D E F G:Value} {H:Option Addr} {n I:Nat} {s:cW} {d f:Nat} {J:Value} {g:List Value} (h:b9 w B b D E F G H n I s d f J g) (k:Nat) (v:Value) (l:List iV) (L:aW w B 223 2 kH v l) : b9 ((w.setCell ⟨d,k,none⟩ (.bool true)).setCell ⟨f,k,none⟩ v) B b D E F G H n I { s with seen:=s.seen.set k true,out:=s.out.set k l } d f J (g.set k v)/\aX B w ((w.setCell ⟨d,k,none⟩ (.bool true)).setCell ⟨f,k,none⟩ v):=by
 have z:d≠b:=by rintro rfl;have:=h.here;rw[h.seen] at this;injection this with this;injection this with _ this _;exact absurd this (by decide)
 have A:f≠b:=by rintro rfl;have:=h.here;rw[h.outs] at this;injection this with this;injection this with _ this _;exact absurd this (by decide)
 have q:d≠f:=by rintro rfl;have:=h.outs;rw[h.seen] at this;injection this with this;injection this with _ this _;exact absurd this (by decide)
 have x:(w.setCell ⟨d,k,none⟩ (.bool true)).heap[f]? = some (.cells ⟨g⟩ 143 (0,0)):=by rw[heap_setCell_other w _ f _ (Ne.symm q)];exact h.outs
 have y:aX B w ((w.setCell ⟨d,k,none⟩ (.bool true)).setCell ⟨f,k,none⟩ v):=((aX.refl B w).set_ h.hbs h.seen (by decide) _ _).set_ h.hbo x (by decide) _ _;refine⟨⟨h.hb,?_,h.hbs,?_,h.hbo,?_,by simp[h.olen],λi u m j p=>?_,cY (cY h.todo h.seen (by decide) _ _) x (by decide) _ _⟩,y⟩;·rw[heap_setCell_other _ _ b _ (Ne.symm A),heap_setCell_other _ _ b _ (Ne.symm z)];exact h.here
 ·rw[heap_setCell_other _ _ d _ q,heap_setCell_same w d k _ _ _ h.seen,ah7]
 ·rw[heap_setCell_same _ f k _ _ _ x];congr 2;apply Array.toList_inj.1;simp
 ·by_cases r:k=i;·subst r;have h1:k<g.length:=(by have:=(lE j).1;simpa using this);have K:k<s.out.length:=(by have:=(lE p).1;simpa using this);simp only[List.getElem?_set_self h1,List.getElem?_set_self K,Option.some.injEq] at j p;subst j;subst p;exact y.tries L
  ·simp only[List.getElem?_set_ne r] at j p;exact y.tries (h.out i u m j p)
theorem b9.push {w w':World} {B b:Nat} {D E F G:Value} {H:Option Addr} {n I:Nat} {s:cW} {j l:Nat} {J v':Value} {p:List Value} (h:b9 w B b D E F G H n I s j l J p) (k:Int) (v:w'.ownsRow B 3 1 v' (s.todo.length+1) (s.todo.map (.int .i64)++[.int .i64 k])) (K:w.grownBy w' J.ownBlock) : b9 (w'.setCell ⟨b,7,none⟩ v') B b D E F G H n I { s with todo:=s.todo++[k] } j l v' p/\aX B w (w'.setCell ⟨b,7,none⟩ v'):=by
 have far:∀(g:Nat) (cs:Array Value) (t:TypeId) (r:Nat×Nat),w.heap[g]? = some (.cells cs t r)->t≠3->w'.heap[g]? = some (.cells cs t r):=λg cs t r f ht=>(K.block g (aE f).1 (λe=>by obtain⟨_,N,O,d⟩:=hY h.todo g e.symm;rw[f] at d;injection d with d;injection d with _ d _;exact ht d)).trans f;have q:=far _ _ _ _ h.here (by decide);have x:j≠b:=by rintro rfl;have:=h.here;rw[h.seen] at this;injection this with this;injection this with _ this _;exact absurd this (by decide)
 have y:l≠b:=by rintro rfl;have:=h.here;rw[h.outs] at this;injection this with this;injection this with _ this _;exact absurd this (by decide)
 have z:aX B w w':=(aX.refl B w).grown K (t:=3) (by decide) (hY h.todo);have A:aX B w (w'.setCell ⟨b,7,none⟩ v'):=z.set_ h.hb q (by decide) _ _;refine⟨⟨h.hb,?_,h.hbs,?_,h.hbo,?_,h.olen,λi u m L M=>A.tries (h.out i u m L M),?_⟩,A⟩;·rw[heap_setCell_same w' b 7 _ _ _ q];rfl
 ·rw[heap_setCell_other w' _ j _ x];exact far _ _ _ _ h.seen (by decide)
 ·rw[heap_setCell_other w' _ l _ y];exact far _ _ _ _ h.outs (by decide)
 ·have:=cY v q (by decide) 7 v';simpa using this
theorem aj6 (B b:Nat) (H I J K:Value) (D:Option Addr) (n E:Nat) (s:cW) (f j:Nat) (r:Value) (L:List Value) (k:Nat) (A:Option Addr) (q:Nat) (l:List iV) (w:World) (h:b9 w B b H I J K D n E s f j r L) (hn:n<=600) (hk:k<n) (hl:l.length<=20) (ht:aW w B 223 2 kH (.slice A l.length q) l) (hs:s.seen[k]? = some false) (hm:s.todo.length<=600) (hB:B<=w.heap.size) : Calls prog 188 #[.pointer (some ⟨b,0,none⟩),.int .i64 k,.slice A l.length q] w (gD B b H I J K D n E { s with seen:=s.seen.set k true,out:=s.out.set k l,todo:=s.todo++[(k:Int)] } f j w):=by
 obtain⟨N,y⟩:∃N,L[k]? = some N:=⟨_,lG (by rw[h.olen];exact hk)⟩;have c1:=crZ h.here 5 rfl;have c2:=crZ h.here 6 rfl;have c4:=crZ h.here 4 rfl;have c7:=crZ h.here 7 rfl;have c5:w.cell? ⟨f,k,none⟩=some (.bool false):=by rw[cell_of_row w f k _ _ _ h.seen];simp[hs]
 have c6:w.cell? ⟨j,k,none⟩=some N:=by rw[cell_of_row w j k _ _ _ h.outs];simpa using y
 have f5:w.frozen? ⟨f,k,none⟩=false:=frozen_of_row w f k _ _ h.seen;have f6:w.frozen? ⟨j,k,none⟩=false:=frozen_of_row w j k _ _ h.outs;have a6:f≠b:=by rintro rfl;have:=h.here;rw[h.seen] at this;injection this with this;injection this with _ this _;exact absurd this (by decide)
 have a7:j≠b:=by rintro rfl;have:=h.here;rw[h.outs] at this;injection this with this;injection this with _ this _;exact absurd this (by decide)
 have a9:f≠j:=by rintro rfl;have:=h.outs;rw[h.seen] at this;injection this with this;injection this with _ this _;exact absurd this (by decide)
 obtain⟨i0,hi,R,S,V⟩:=info_parts qC;have b0:(k:Int)<n:=by omega
 have b2:(l.length:Int)<=20:=by omega
 have HH:=hI h;have HT:=hI ht;have b3:=hI y;have F:=hI (h.mark k (.slice A l.length q) l ht);have O:Hid (∀d,(((w.setCell ⟨f,k,none⟩ (.bool true)).setCell ⟨j,k,none⟩ (.slice A l.length q)).alloc (.cells #[.int .i64 k] 3)).grownBy d r.ownBlock->d.heap[b]? = some (.cells #[H,I,J,K,.slice D n E,.slice (some ⟨f,0,none⟩) n n,.slice (some ⟨j,0,none⟩) n n,r,.bool s.bad] 273 (0,0))):=λd p=>by have G:=F.out.1.below (aA _ (.cells #[.int .i64 k] 3));refine(p.block b (aE G.here).1 (λe=>?_)).trans G.here;obtain⟨_,b4,b5,x⟩:=hY G.todo b e.symm;rw[G.here] at x;injection x with x;injection x with _ x _;exact absurd x (by decide)
 have KE:Hid (∀d,(((w.setCell ⟨f,k,none⟩ (.bool true)).setCell ⟨j,k,none⟩ (.slice A l.length q)).alloc (.cells #[.int .i64 k] 3)).grownBy d r.ownBlock->∀i v,(#[H,I,J,K,.slice D n E,.slice (some ⟨f,0,none⟩) n n,.slice (some ⟨j,0,none⟩) n n,r,.bool s.bad]:Array Value)[i]? = some v->d.cell? ⟨b,i,none⟩=some v):=λd p i v hv=>(cell_of_row d b i _ _ _ (O.out d p)).trans hv;have KF:Hid (∀d,(((w.setCell ⟨f,k,none⟩ (.bool true)).setCell ⟨j,k,none⟩ (.slice A l.length q)).alloc (.cells #[.int .i64 k] 3)).grownBy d r.ownBlock->d.frozen? ⟨b,7,none⟩=false):=λd p=>frozen_of_row d b 7 _ _ (O.out d p);clear h hs y ht;go_enter func188,ntmps188;go_wp2_with fail;go_region;go_wp2_with (at_builtin;go_loud (refine wpList_append_own _ rfl _ _ 55 rfl B 3 i0 (.int .i64 0) 1 8 underlying55 hi R S V rfl (by decide) r s.todo.length (s.todo.map (.int .i64)) rfl ?own ⟨w.heap.size,0,none⟩ 1 1 [.int .i64 k] rfl rfl ?c1 ?c2 ?c3 ?c4 ?c5 ?_));case own=>exact(F.out.1.below (aA _ _)).todo
 case c1=>exact yK _ _ _ (by simp[World.setCell])
 case c2=>intro u Z;simp at Z;subst Z;rfl
 case c3=>unfold maxLen;omega
 case c4=>omega
 case c5=>simp[World.setCell];omega
 intro v' d z p _;have p:=undrew p;have P:=hI p;have M:=hI ((F.out.1.below (aA _ (.cells #[.int .i64 k] 3))).push (w':=d) (v':=v') k z p);clear z p;have e7:d.cell? ⟨b,7,none⟩=some r:=KE.out d P.out 7 _ rfl;have fz:d.frozen? ⟨b,7,none⟩=false:=KF.out d P.out;obtain⟨X,Y,c',rfl⟩:∃X Y c',v'=.slice X Y c':=by rcases M.out.1.todo.2 with ⟨e,_⟩ | ⟨g,cp,_,e,_⟩ <;> exact⟨_,_,_,e⟩
 go_wp2_with fail;go_end0;exact⟨rfl,⟨_,_,M.out.1⟩,(F.out.2.alloc _).trans M.out.2⟩
theorem mV (B b:Nat) (q r u x:Value) (y:Option Addr) (n z:Nat) (s:cW) (D E:Nat) (G:Value) (f:List Value) (at_:Int) (v:Value) (l:List iV) (w:World) (h:b9 w B b q r u x y n z s D E G f) (d:WOk n s) (H:n<=600) (K:0<=at_) (ht:aW w B 223 2 kH v l) (hB:B<=w.heap.size) : Calls prog 188 #[.pointer (some ⟨b,0,none⟩),.int .i64 at_,v] w (gD B b q r u x y n z (fK s at_ l) D E w):=by
 obtain⟨A,p,rfl,-⟩:=id ht;unfold fK;by_cases F:(s.seen.length:Int)<=at_\/20<l.length;·rw[if_pos F];rw[d.seen] at F;exact aj7 B b q r u x y n z s D E G f at_ A p l w h H K F
 ·rw[if_neg F];rw[d.seen] at F;obtain⟨k,rfl⟩:∃k:Nat,at_=k:=⟨at_.toNat,by omega⟩;have j:k<n:=by omega
  have hl:l.length<=20:=by omega
  rw[Int.toNat_natCast];by_cases g:s.seen[k]? = some false;·rw[if_pos g];exact aj6 B b q r u x y n z s D E G f k A p l w h H j hl ht g (by have:=d.small;unfold gH at this;omega) hB
  ·rw[if_neg g];have I:s.seen[k]? = some true:=by
    have:s.seen[k]? = some (s.seen[k]'(by rw[d.seen];exact j)):=lG _;rw[this] at g ⊢;cases L:s.seen[k]'(by rw[d.seen];exact j);·rw[L] at g;exact absurd rfl g
    ·rfl
   obtain⟨m,J⟩:∃m,s.out[k]? = some m:=⟨_,lG (by rw[d.out];exact j)⟩;have:=ag5 B b q r u x y n z s D E G f k A p l m w h H j hl ht I J;rw[J];simpa only [Option.some.injEq] using this
end
section
open Go.RowKit
def dT (x:iV):List Value:=[.int .i64 x.reg,.int .i64 x.at_]
theorem aeD {w:World} {B:Nat} {v:Value} {l:List iV} (h:aB w B 2 kH v l):aB w B 2 (Raw 2) v (l.map dT):=by obtain⟨A,d,h1,p,q,r⟩:=h;refine⟨A,d,by rw[h1,List.length_map],by rw[List.length_map];exact p,q,λE=>?_⟩;obtain⟨b,f,s,u,y⟩:=r (by simpa using E);refine⟨b,f,s,u,λi c j=>?_⟩;rw[List.getElem?_map,Option.map_eq_some_iff] at j;obtain⟨x,z,rfl⟩:=j;obtain⟨cs,g,⟨rfl,_⟩,D⟩:=y i x z;exact⟨_,g,⟨rfl,g⟩,D⟩
theorem from_28 (B b:Nat) (L M N O:Value) (G:Option Addr) (n u:Nat) (s:cW) (P p:Nat) (Y:Value) (x:List Value) (k:Nat) (code:List hP) (i:hP) (m:List iV) (w:World) (h:b9 w B b L M N O G n u s P p Y x) (y:WOk n s) (hn:n<=600) (Z:k<n) (b3:n=code.length) (g:aB w B 5 j8 (.slice G n u) code) (z:code[k]? = some i) (v:s.out[k]? = some m) (hB:B<=w.heap.size) (A:i.op=28) : Calls prog 189 #[.pointer (some ⟨b,0,none⟩),.int .i64 k] w (gD B b L M N O G n u (s) P p w):=by
 obtain⟨J,q⟩:∃J,J=s:=⟨_,rfl⟩;rw[<-q];have H:=hI q;clear q;have I:k<code.length:=by omega
 obtain⟨bc,l,j,a3,rfl,a4,f,-,V,d⟩:=g.at_ (i:=k) I;rw[z] at f;injection f with f
 subst f;obtain⟨rfl,a5,a6,a7,a9,b0⟩:=V;obtain⟨E,r⟩:∃E,x[k]? = some E:=⟨_,lG (by rw[h.olen];exact Z)⟩;have D:=h.out k E m r v;obtain⟨X,F,rfl,b2,K,-⟩:=id D;have c4:=crZ h.here 4 rfl;have c6:=crZ h.here 6 rfl;have c8:=crZ h.here 8 rfl;have f8:w.frozen? ⟨b,8,none⟩=false:=frozen_of_row w b 8 _ _ h.here;have c7:w.cell? ⟨p,k,none⟩=some (.slice X m.length F):=by rw[cell_of_row w p k _ _ _ h.outs];simpa using r
 have R:w.cell? ⟨bc,l+k*5,none⟩=some (.int .i64 i.op):=d 0 _ rfl;have g1:w.cell? ⟨bc,l+k*5+1,none⟩=some (.int .i64 i.a):=d 1 _ rfl;have g2:w.cell? ⟨bc,l+k*5+2,none⟩=some (.int .i64 i.b):=d 2 _ rfl;have g3:w.cell? ⟨bc,l+k*5+3,none⟩=some (.int .i64 i.c):=d 3 _ rfl;have g4:w.cell? ⟨bc,l+k*5+4,none⟩=some (.int .i64 i.line):=d 4 _ rfl;have l1:bc<w.heap.size:=by omega
 have l2:b<w.heap.size:=(aE h.here).1;have l3:p<w.heap.size:=(aE h.outs).1;have a0:(k:Int)<n:=by omega
 have a1:(k:Int)<=600:=by omega
 have a2:m.length<=20:=y.few m (lM v);have S:=hI h;have HM:=hI D;have HF:=hI (y.wf m (lM v));unfold maxLen at K;clear h r v D d g z;rw[A] at R;clear A;go_enter func189,ntmps189;go_wp2_with fail;go_region;go_wp2_with fail;refine bodyPost_ret (results_none rfl _ _ _) rfl ⟨rfl,⟨_,_,by rw[H.out];exact S.out.below (by repeat (first | exact Below.refl _ _ | refine Below.drew ?_ | refine Below.alloc ?_ (by simp) _))⟩,aX.of_below (by repeat (first | exact Below.refl _ _ | refine Below.drew ?_ | refine Below.alloc ?_ (by simp) _))⟩
theorem from_29 (B b:Nat) (L M N O:Value) (G:Option Addr) (n u:Nat) (s:cW) (P p:Nat) (Y:Value) (x:List Value) (k:Nat) (code:List hP) (i:hP) (m:List iV) (w:World) (h:b9 w B b L M N O G n u s P p Y x) (y:WOk n s) (hn:n<=600) (Z:k<n) (b3:n=code.length) (g:aB w B 5 j8 (.slice G n u) code) (z:code[k]? = some i) (v:s.out[k]? = some m) (hB:B<=w.heap.size) (A:i.op=29) : Calls prog 189 #[.pointer (some ⟨b,0,none⟩),.int .i64 k] w (gD B b L M N O G n u (s) P p w):=by
 obtain⟨J,q⟩:∃J,J=s:=⟨_,rfl⟩;rw[<-q];have H:=hI q;clear q;have I:k<code.length:=by omega
 obtain⟨bc,l,j,a3,rfl,a4,f,-,V,d⟩:=g.at_ (i:=k) I;rw[z] at f;injection f with f
 subst f;obtain⟨rfl,a5,a6,a7,a9,b0⟩:=V;obtain⟨E,r⟩:∃E,x[k]? = some E:=⟨_,lG (by rw[h.olen];exact Z)⟩;have D:=h.out k E m r v;obtain⟨X,F,rfl,b2,K,-⟩:=id D;have c4:=crZ h.here 4 rfl;have c6:=crZ h.here 6 rfl;have c8:=crZ h.here 8 rfl;have f8:w.frozen? ⟨b,8,none⟩=false:=frozen_of_row w b 8 _ _ h.here;have c7:w.cell? ⟨p,k,none⟩=some (.slice X m.length F):=by rw[cell_of_row w p k _ _ _ h.outs];simpa using r
 have R:w.cell? ⟨bc,l+k*5,none⟩=some (.int .i64 i.op):=d 0 _ rfl;have g1:w.cell? ⟨bc,l+k*5+1,none⟩=some (.int .i64 i.a):=d 1 _ rfl;have g2:w.cell? ⟨bc,l+k*5+2,none⟩=some (.int .i64 i.b):=d 2 _ rfl;have g3:w.cell? ⟨bc,l+k*5+3,none⟩=some (.int .i64 i.c):=d 3 _ rfl;have g4:w.cell? ⟨bc,l+k*5+4,none⟩=some (.int .i64 i.line):=d 4 _ rfl;have l1:bc<w.heap.size:=by omega
 have l2:b<w.heap.size:=(aE h.here).1;have l3:p<w.heap.size:=(aE h.outs).1;have a0:(k:Int)<n:=by omega
 have a1:(k:Int)<=600:=by omega
 have a2:m.length<=20:=y.few m (lM v);have S:=hI h;have HM:=hI D;have HF:=hI (y.wf m (lM v));unfold maxLen at K;clear h r v D d g z;rw[A] at R;clear A;go_enter func189,ntmps189;go_wp2_with fail;go_region;go_wp2_with fail;refine bodyPost_ret (results_none rfl _ _ _) rfl ⟨rfl,⟨_,_,by rw[H.out];exact S.out.below (by repeat (first | exact Below.refl _ _ | refine Below.drew ?_ | refine Below.alloc ?_ (by simp) _))⟩,aX.of_below (by repeat (first | exact Below.refl _ _ | refine Below.drew ?_ | refine Below.alloc ?_ (by simp) _))⟩
theorem from_13 (B b:Nat) (G H I J:Value) (K:Option Addr) (n u:Nat) (s:cW) (L f:Nat) (tv:Value) (y:List Value) (k:Nat) (code:List hP) (i:hP) (m:List iV) (w:World) (h:b9 w B b G H I J K n u s L f tv y) (v:WOk n s) (hn:n<=600) (hk:k<n) (d0:n=code.length) (l:aB w B 5 j8 (.slice K n u) code) (z:code[k]? = some i) (x:s.out[k]? = some m) (hB:B<=w.heap.size) (A:i.op=13) (V:0<=i.a) : Calls prog 189 #[.pointer (some ⟨b,0,none⟩),.int .i64 k] w (gD B b G H I J K n u (fK s i.a m) L f w):=by
 obtain⟨O,q⟩:∃O,O=fK s i.a m:=⟨_,rfl⟩;rw[<-q];have M:=hI q;clear q;have N:k<code.length:=by omega
 obtain⟨bc,p,j,b4,rfl,b5,g,-,hR,d⟩:=l.at_ (i:=k) N;rw[z] at g;injection g with g
 subst g;obtain⟨rfl,b6,c0,c1,c2,c3⟩:=hR;obtain⟨E,r⟩:∃E,y[k]? = some E:=⟨_,lG (by rw[h.olen];exact hk)⟩;have D:=h.out k E m r x;obtain⟨A',F,rfl,c5,P,-⟩:=id D;have c4:=crZ h.here 4 rfl;have c6:=crZ h.here 6 rfl;have c8:=crZ h.here 8 rfl;have f8:w.frozen? ⟨b,8,none⟩=false:=frozen_of_row w b 8 _ _ h.here;have c7:w.cell? ⟨f,k,none⟩=some (.slice A' m.length F):=by rw[cell_of_row w f k _ _ _ h.outs];simpa using r
 have X:w.cell? ⟨bc,p+k*5,none⟩=some (.int .i64 i.op):=d 0 _ rfl;have g1:w.cell? ⟨bc,p+k*5+1,none⟩=some (.int .i64 i.a):=d 1 _ rfl;have g2:w.cell? ⟨bc,p+k*5+2,none⟩=some (.int .i64 i.b):=d 2 _ rfl;have g3:w.cell? ⟨bc,p+k*5+3,none⟩=some (.int .i64 i.c):=d 3 _ rfl;have g4:w.cell? ⟨bc,p+k*5+4,none⟩=some (.int .i64 i.line):=d 4 _ rfl;have l1:bc<w.heap.size:=by omega
 have l2:b<w.heap.size:=(aE h.here).1;have l3:f<w.heap.size:=(aE h.outs).1;have b0:(k:Int)<n:=by omega
 have b2:(k:Int)<=600:=by omega
 have b3:m.length<=20:=v.few m (lM x);have Y:=hI h;have Z:=hI D;have HF:=hI (v.wf m (lM x));unfold maxLen at P;clear h r x D d l z;rw[A] at X;clear A;go_enter func189,ntmps189;go_wp2_with fail;go_region;go_wp2_with fail;refine(mV B b G H I J _ n u s L f _ _ i.a _ m _ (Y.out.below (by repeat (first | exact Below.refl _ _ | refine Below.drew ?_ | refine Below.alloc ?_ (by simp) _))) v hn V (Z.out.below (by repeat (first | exact Below.refl _ _ | refine Below.drew ?_ | refine Below.alloc ?_ (by simp) _))) (by simp;omega)).mono ?_;rintro e w5 ⟨rfl,⟨c9,a5,R⟩,S⟩;have K1:=hI R;have K2:Hid (aX B w w5):=by refine aX.trans (aX.of_below ?_) S;exact(by repeat (first | exact Below.refl _ _ | refine Below.drew ?_ | refine Below.alloc ?_ (by simp) _))
 clear R S;go_wp2_with fail;refine bodyPost_ret (results_none rfl _ _ _) rfl ⟨rfl,⟨_,_,by rw[M.out];exact K1.out⟩,K2.out⟩
theorem from_14 (B b:Nat) (G H I J:Value) (K:Option Addr) (n u:Nat) (s:cW) (L f:Nat) (tv:Value) (y:List Value) (k:Nat) (code:List hP) (i:hP) (m:List iV) (w:World) (h:b9 w B b G H I J K n u s L f tv y) (v:WOk n s) (hn:n<=600) (hk:k<n) (d0:n=code.length) (l:aB w B 5 j8 (.slice K n u) code) (z:code[k]? = some i) (x:s.out[k]? = some m) (hB:B<=w.heap.size) (A:i.op=14) (V:0<=i.a) : Calls prog 189 #[.pointer (some ⟨b,0,none⟩),.int .i64 k] w (gD B b G H I J K n u (fK s i.a m) L f w):=by
 obtain⟨O,q⟩:∃O,O=fK s i.a m:=⟨_,rfl⟩;rw[<-q];have M:=hI q;clear q;have N:k<code.length:=by omega
 obtain⟨bc,p,j,b4,rfl,b5,g,-,hR,d⟩:=l.at_ (i:=k) N;rw[z] at g;injection g with g
 subst g;obtain⟨rfl,b6,c0,c1,c2,c3⟩:=hR;obtain⟨E,r⟩:∃E,y[k]? = some E:=⟨_,lG (by rw[h.olen];exact hk)⟩;have D:=h.out k E m r x;obtain⟨A',F,rfl,c5,P,-⟩:=id D;have c4:=crZ h.here 4 rfl;have c6:=crZ h.here 6 rfl;have c8:=crZ h.here 8 rfl;have f8:w.frozen? ⟨b,8,none⟩=false:=frozen_of_row w b 8 _ _ h.here;have c7:w.cell? ⟨f,k,none⟩=some (.slice A' m.length F):=by rw[cell_of_row w f k _ _ _ h.outs];simpa using r
 have X:w.cell? ⟨bc,p+k*5,none⟩=some (.int .i64 i.op):=d 0 _ rfl;have g1:w.cell? ⟨bc,p+k*5+1,none⟩=some (.int .i64 i.a):=d 1 _ rfl;have g2:w.cell? ⟨bc,p+k*5+2,none⟩=some (.int .i64 i.b):=d 2 _ rfl;have g3:w.cell? ⟨bc,p+k*5+3,none⟩=some (.int .i64 i.c):=d 3 _ rfl;have g4:w.cell? ⟨bc,p+k*5+4,none⟩=some (.int .i64 i.line):=d 4 _ rfl;have l1:bc<w.heap.size:=by omega
 have l2:b<w.heap.size:=(aE h.here).1;have l3:f<w.heap.size:=(aE h.outs).1;have b0:(k:Int)<n:=by omega
 have b2:(k:Int)<=600:=by omega
 have b3:m.length<=20:=v.few m (lM x);have Y:=hI h;have Z:=hI D;have HF:=hI (v.wf m (lM x));unfold maxLen at P;clear h r x D d l z;rw[A] at X;clear A;go_enter func189,ntmps189;go_wp2_with fail;go_region;go_wp2_with fail;refine(mV B b G H I J _ n u s L f _ _ i.a _ m _ (Y.out.below (by repeat (first | exact Below.refl _ _ | refine Below.drew ?_ | refine Below.alloc ?_ (by simp) _))) v hn V (Z.out.below (by repeat (first | exact Below.refl _ _ | refine Below.drew ?_ | refine Below.alloc ?_ (by simp) _))) (by simp;omega)).mono ?_;rintro e w5 ⟨rfl,⟨c9,a5,R⟩,S⟩;have K1:=hI R;have K2:Hid (aX B w w5):=by refine aX.trans (aX.of_below ?_) S;exact(by repeat (first | exact Below.refl _ _ | refine Below.drew ?_ | refine Below.alloc ?_ (by simp) _))
 clear R S;go_wp2_with fail;refine bodyPost_ret (results_none rfl _ _ _) rfl ⟨rfl,⟨_,_,by rw[M.out];exact K1.out⟩,K2.out⟩
theorem agO (B b:Nat) (F G H I:Value) (J:Option Addr) (n u:Nat) (s:cW) (K f:Nat) (tv:Value) (y:List Value) (k:Nat) (code:List hP) (i:hP) (m:List iV) (w:World) (h:b9 w B b F G H I J n u s K f tv y) (v:WOk n s) (hn:n<=600) (hk:k<n) (d5:n=code.length) (l:aB w B 5 j8 (.slice J n u) code) (z:code[k]? = some i) (x:s.out[k]? = some m) (hB:B<=w.heap.size) (S:¬(i.op=28\/i.op=29\/i.op=13\/i.op=14\/i.op=15\/i.op=30\/i.op=31)) : Calls prog 189 #[.pointer (some ⟨b,0,none⟩),.int .i64 k] w (gD B b F G H I J n u (fK s ((k:Int)+1) m) K f w):=by
 obtain⟨N,q⟩:∃N,N=fK s ((k:Int)+1) m:=⟨_,rfl⟩;rw[<-q];have L:=hI q;clear q;have M:k<code.length:=by omega
 obtain⟨bc,p,j,c2,rfl,c3,g,-,hR,d⟩:=l.at_ (i:=k) M;rw[z] at g;injection g with g
 subst g;obtain⟨rfl,c5,c9,d0,d1,d2⟩:=hR;obtain⟨D,r⟩:∃D,y[k]? = some D:=⟨_,lG (by rw[h.olen];exact hk)⟩;have A:=h.out k D m r x;obtain⟨A',E,rfl,d3,O,-⟩:=id A;have c4:=crZ h.here 4 rfl;have c6:=crZ h.here 6 rfl;have c8:=crZ h.here 8 rfl;have f8:w.frozen? ⟨b,8,none⟩=false:=frozen_of_row w b 8 _ _ h.here;have c7:w.cell? ⟨f,k,none⟩=some (.slice A' m.length E):=by rw[cell_of_row w f k _ _ _ h.outs];simpa using r
 have g0:w.cell? ⟨bc,p+k*5,none⟩=some (.int .i64 i.op):=d 0 _ rfl;have g1:w.cell? ⟨bc,p+k*5+1,none⟩=some (.int .i64 i.a):=d 1 _ rfl;have g2:w.cell? ⟨bc,p+k*5+2,none⟩=some (.int .i64 i.b):=d 2 _ rfl;have g3:w.cell? ⟨bc,p+k*5+3,none⟩=some (.int .i64 i.c):=d 3 _ rfl;have g4:w.cell? ⟨bc,p+k*5+4,none⟩=some (.int .i64 i.line):=d 4 _ rfl;have l1:bc<w.heap.size:=by omega
 have l2:b<w.heap.size:=(aE h.here).1;have l3:f<w.heap.size:=(aE h.outs).1;have a7:(k:Int)<n:=by omega
 have a9:(k:Int)<=600:=by omega
 have b0:m.length<=20:=v.few m (lM x);have V:=hI h;have X:=hI A;have HF:=hI (v.wf m (lM x));unfold maxLen at O;clear h r x A d l z;have b2:(i.op == 28)=false:=by simp;omega
 have b3:(i.op == 29)=false:=by simp;omega
 have b4:(i.op == 13)=false:=by simp;omega
 have b5:(i.op == 14)=false:=by simp;omega
 have b6:(i.op == 15)=false:=by simp;omega
 have c0:(i.op == 30)=false:=by simp;omega
 have c1:(i.op == 31)=false:=by simp;omega
 clear S;go_enter func189,ntmps189;go_wp2_with fail;go_region;go_wp2_with fail;refine(mV B b F G H I _ n u s K f _ _ ((k:Int)+1) _ m _ (V.out.below (by repeat (first | exact Below.refl _ _ | refine Below.drew ?_ | refine Below.alloc ?_ (by simp) _))) v hn (by omega) (X.out.below (by repeat (first | exact Below.refl _ _ | refine Below.drew ?_ | refine Below.alloc ?_ (by simp) _))) (by simp;omega)).mono ?_;rintro e w5 ⟨rfl,⟨d4,a3,P⟩,R⟩;have Y:=hI P;have Z:Hid (aX B w w5):=by refine aX.trans (aX.of_below ?_) R;exact(by repeat (first | exact Below.refl _ _ | refine Below.drew ?_ | refine Below.alloc ?_ (by simp) _))
 clear P R;go_wp2_with fail;go_end0;exact⟨rfl,⟨_,_,by rw[L.out];exact Y.out⟩,Z.out⟩
theorem from_15 (B b:Nat) (z A D E:Value) (O:Option Addr) (n u:Nat) (s:cW) (F f:Nat) (tv:Value) (H:List Value) (k:Nat) (code:List hP) (i:hP) (m:List iV) (w:World) (h:b9 w B b z A D E O n u s F f tv H) (l:WOk n s) (hn:n<=600) (hk:k<n) (d8:n=code.length) (p:aB w B 5 j8 (.slice O n u) code) (I:code[k]? = some i) (G:s.out[k]? = some m) (hB:B<=w.heap.size) (J:i.op=15) (K:0<=i.b) : Calls prog 189 #[.pointer (some ⟨b,0,none⟩),.int .i64 k] w (gD B b z A D E O n u (fK (fK s i.b m) ((k:Int)+1) m) F f w):=by
 obtain⟨Z,v⟩:∃Z,Z=fK (fK s i.b m) ((k:Int)+1) m:=⟨_,rfl⟩;rw[<-v];have P:=hI v;clear v;have R:k<code.length:=by omega
 obtain⟨bc,q,j,c5,rfl,c9,g,-,hR,d⟩:=p.at_ (i:=k) R;rw[I] at g;injection g with g
 subst g;obtain⟨rfl,d0,d1,d2,d3,d4⟩:=hR;obtain⟨M,x⟩:∃M,H[k]? = some M:=⟨_,lG (by rw[h.olen];exact hk)⟩;have L:=h.out k M m x G;obtain⟨A',N,rfl,d5,a0,-⟩:=id L;have c4:=crZ h.here 4 rfl;have c6:=crZ h.here 6 rfl;have c8:=crZ h.here 8 rfl;have f8:w.frozen? ⟨b,8,none⟩=false:=frozen_of_row w b 8 _ _ h.here;have c7:w.cell? ⟨f,k,none⟩=some (.slice A' m.length N):=by rw[cell_of_row w f k _ _ _ h.outs];simpa using x
 have g0:w.cell? ⟨bc,q+k*5,none⟩=some (.int .i64 i.op):=d 0 _ rfl;have g1:w.cell? ⟨bc,q+k*5+1,none⟩=some (.int .i64 i.a):=d 1 _ rfl;have g2:w.cell? ⟨bc,q+k*5+2,none⟩=some (.int .i64 i.b):=d 2 _ rfl;have g3:w.cell? ⟨bc,q+k*5+3,none⟩=some (.int .i64 i.c):=d 3 _ rfl;have g4:w.cell? ⟨bc,q+k*5+4,none⟩=some (.int .i64 i.line):=d 4 _ rfl;have l1:bc<w.heap.size:=by omega
 have l2:b<w.heap.size:=(aE h.here).1;have l3:f<w.heap.size:=(aE h.outs).1;have c1:(k:Int)<n:=by omega
 have c2:(k:Int)<=600:=by omega
 have c3:m.length<=20:=l.few m (lM G);have HH:=hI h;have S:=hI L;have HF:=hI (l.wf m (lM G));unfold maxLen at a0;clear h x G L d p I;have V:=hI (l.come K HF.out);rw[J] at g0;clear J;go_enter func189,ntmps189;go_wp2_with fail;go_region;go_wp2_with fail;refine(mV B b z A D E _ n u s F f _ _ i.b _ m _ (HH.out.below (by repeat (first | exact Below.refl _ _ | refine Below.drew ?_ | refine Below.alloc ?_ (by simp) _))) l hn K (S.out.below (by repeat (first | exact Below.refl _ _ | refine Below.drew ?_ | refine Below.alloc ?_ (by simp) _))) (by simp;omega)).mono ?_;rintro e w5 ⟨rfl,⟨d6,b4,y⟩,r⟩;have K1:=hI y;have X:Hid (aX B w w5):=by refine aX.trans (aX.of_below ?_) r;exact(by repeat (first | exact Below.refl _ _ | refine Below.drew ?_ | refine Below.alloc ?_ (by simp) _))
 have M2:=hI (r.tries (S.out.below (by repeat (first | exact Below.refl _ _ | refine Below.drew ?_ | refine Below.alloc ?_ (by simp) _))));have Y:B<=w5.heap.size:=Nat.le_trans hB X.out.size;clear y r;go_wp2_with fail;refine(mV B b z A D E _ n u _ F f _ _ ((k:Int)+1) _ m _ (K1.out) V.out hn (by omega) (M2.out) Y).mono ?_;rintro e w6 ⟨rfl,⟨d7,b5,y⟩,r⟩;have K3:=hI y;have K4:=hI (X.out.trans r);clear y r;go_wp2_with fail;go_end0;exact⟨rfl,⟨_,_,by rw[P.out];exact K3.out⟩,K4.out⟩
theorem ajJ (B b:Nat) (N O P R:Value) (H:Option Addr) (n u:Nat) (s:cW) (S p:Nat) (Z:Value) (x:List Value) (k:Nat) (code:List hP) (i:hP) (m:List iV) (w:World) (h:b9 w B b N O P R H n u s S p Z x) (y:WOk n s) (hn:n<=600) (hk:k<n) (b5:n=code.length) (g:aB w B 5 j8 (.slice H n u) code) (z:code[k]? = some i) (v:s.out[k]? = some m) (hB:B<=w.heap.size) (A:i.op=31) (D:m=[]) : Calls prog 189 #[.pointer (some ⟨b,0,none⟩),.int .i64 k] w (gD B b N O P R H n u ({ s with bad:=true }) S p w):=by
 obtain⟨L,q⟩:∃L,L=({ s with bad:=true } : cW):=⟨_,rfl⟩;rw[<-q];have I:=hI q;clear q;have J:k<code.length:=by omega
 obtain⟨bc,l,j,a5,rfl,a6,f,-,X,d⟩:=g.at_ (i:=k) J;rw[z] at f;injection f with f
 subst f;obtain⟨rfl,a7,a9,b0,b2,b3⟩:=X;obtain⟨F,r⟩:∃F,x[k]? = some F:=⟨_,lG (by rw[h.olen];exact hk)⟩;have E:=h.out k F m r v;obtain⟨Y,G,rfl,b4,M,-⟩:=id E;have c4:=crZ h.here 4 rfl;have c6:=crZ h.here 6 rfl;have c8:=crZ h.here 8 rfl;have f8:w.frozen? ⟨b,8,none⟩=false:=frozen_of_row w b 8 _ _ h.here;have c7:w.cell? ⟨p,k,none⟩=some (.slice Y m.length G):=by rw[cell_of_row w p k _ _ _ h.outs];simpa using r
 have V:w.cell? ⟨bc,l+k*5,none⟩=some (.int .i64 i.op):=d 0 _ rfl;have g1:w.cell? ⟨bc,l+k*5+1,none⟩=some (.int .i64 i.a):=d 1 _ rfl;have g2:w.cell? ⟨bc,l+k*5+2,none⟩=some (.int .i64 i.b):=d 2 _ rfl;have g3:w.cell? ⟨bc,l+k*5+3,none⟩=some (.int .i64 i.c):=d 3 _ rfl;have g4:w.cell? ⟨bc,l+k*5+4,none⟩=some (.int .i64 i.line):=d 4 _ rfl;have l1:bc<w.heap.size:=by omega
 have l2:b<w.heap.size:=(aE h.here).1;have l3:p<w.heap.size:=(aE h.outs).1;have a1:(k:Int)<n:=by omega
 have a2:(k:Int)<=600:=by omega
 have a3:m.length<=20:=y.few m (lM v);have K:=hI h;have HM:=hI E;have HF:=hI (y.wf m (lM v));unfold maxLen at M;clear h r v E d g z;rw[A] at V;have a4:((m.length:Int) == 0)=true:=by rw[D];rfl
 clear A D;go_enter func189,ntmps189;go_wp2_with fail;go_region;go_wp2_with fail;refine bodyPost_ret (results_none rfl _ _ _) rfl ⟨rfl,⟨_,_,by rw[I.out];exact K.out.set_bad.1.below (by repeat (first | exact Below.refl _ _ | refine Below.drew ?_ | refine Below.alloc ?_ (by simp[World.setCell]) _))⟩,K.out.set_bad.2.below_ (by repeat (first | exact Below.refl _ _ | refine Below.drew ?_ | refine Below.alloc ?_ (by simp[World.setCell]) _))⟩
theorem from_31 (B b:Nat) (H I J K:Value) (L:Option Addr) (n v:Nat) (s:cW) (M g:Nat) (tv:Value) (z:List Value) (k:Nat) (code:List hP) (i:hP) (m:List iV) (w:World) (h:b9 w B b H I J K L n v s M g tv z) (x:WOk n s) (hn:n<=600) (hk:k<n) (d6:n=code.length) (p:aB w B 5 j8 (.slice L n v) code) (A:code[k]? = some i) (y:s.out[k]? = some m) (hB:B<=w.heap.size) (D:i.op=31) (E:m≠[]) : Calls prog 189 #[.pointer (some ⟨b,0,none⟩),.int .i64 k] w (gD B b H I J K L n v (fK s ((k:Int)+1) m.dropLast) M g w):=by
 obtain⟨R,r⟩:∃R,R=fK s ((k:Int)+1) m.dropLast:=⟨_,rfl⟩;rw[<-r];have N:=hI r;clear r;have O:k<code.length:=by omega
 obtain⟨bc,q,j,c3,rfl,c5,l,-,hR,d⟩:=p.at_ (i:=k) O;rw[A] at l;injection l with l
 subst l;obtain⟨rfl,c9,d0,d1,d2,d3⟩:=hR;obtain⟨G,u⟩:∃G,z[k]? = some G:=⟨_,lG (by rw[h.olen];exact hk)⟩;have F:=h.out k G m u y;obtain⟨S,f,rfl,d4,V,-⟩:=id F;have c4:=crZ h.here 4 rfl;have c6:=crZ h.here 6 rfl;have c8:=crZ h.here 8 rfl;have f8:w.frozen? ⟨b,8,none⟩=false:=frozen_of_row w b 8 _ _ h.here;have c7:w.cell? ⟨g,k,none⟩=some (.slice S m.length f):=by rw[cell_of_row w g k _ _ _ h.outs];simpa using u
 have Z:w.cell? ⟨bc,q+k*5,none⟩=some (.int .i64 i.op):=d 0 _ rfl;have g1:w.cell? ⟨bc,q+k*5+1,none⟩=some (.int .i64 i.a):=d 1 _ rfl;have g2:w.cell? ⟨bc,q+k*5+2,none⟩=some (.int .i64 i.b):=d 2 _ rfl;have g3:w.cell? ⟨bc,q+k*5+3,none⟩=some (.int .i64 i.c):=d 3 _ rfl;have g4:w.cell? ⟨bc,q+k*5+4,none⟩=some (.int .i64 i.line):=d 4 _ rfl;have l1:bc<w.heap.size:=by omega
 have l2:b<w.heap.size:=(aE h.here).1;have l3:g<w.heap.size:=(aE h.outs).1;have b3:(k:Int)<n:=by omega
 have b4:(k:Int)<=600:=by omega
 have b5:m.length<=20:=x.few m (lM y);have HH:=hI h;have HM:=hI F;have HF:=hI (x.wf m (lM y));unfold maxLen at V;clear h u y F d p A;rw[D] at Z;have b6:0<m.length:=List.length_pos_iff.2 E;have c0:((m.length:Int) == 0)=false:=by simp;omega
 have c1:(1:Int)<=m.length:=by omega
 have c2:(m.length:Int) - 1<=f:=by omega
 have P:Hid (∀W,Below w.heap.size w W->aW W B 223 2 kH (.slice S (m.length - 1) f) m.dropLast):=λW hW=>by rw[List.dropLast_eq_take];exact(HM.out.below hW).take (by omega)
 clear D E;go_enter func189,ntmps189;go_wp2_with fail;go_region;go_wp2_with fail;refine(mV B b H I J K _ n v s M g _ _ ((k:Int)+1) _ m.dropLast _ (HH.out.below (by repeat (first | exact Below.refl _ _ | refine Below.drew ?_ | refine Below.alloc ?_ (by simp) _))) x hn (by omega) (P.out _ (by repeat (first | exact Below.refl _ _ | refine Below.drew ?_ | refine Below.alloc ?_ (by simp) _))) (by simp;omega)).mono ?_;rintro e w5 ⟨rfl,⟨d5,a6,X⟩,Y⟩;have K1:=hI X;have K2:Hid (aX B w w5):=by refine aX.trans (aX.of_below ?_) Y;exact(by repeat (first | exact Below.refl _ _ | refine Below.drew ?_ | refine Below.alloc ?_ (by simp) _))
 clear X Y;go_wp2_with fail;go_end0;exact⟨rfl,⟨_,_,by rw[N.out];exact K1.out⟩,K2.out⟩
end
section
open Go.RowKit
theorem aiD {w:World} {B B':Nat} {e:TypeId} {size:Nat} {v:Value} {n:Nat} {xs:List Value} (h:w.ownsRow B e size v n xs) (hB:B'<=B):w.ownsRow B' e size v n xs:= ⟨h.1,h.2.imp id (λ⟨g,d,f,h1,j,l⟩=>⟨g,d,f,h1,Nat.le_trans hB j,l⟩)⟩
theorem news2 (w:World) (a b:Value) (t:TypeId):∀j u,[a,b][j]? = some u->(w.alloc (.cells #[a,b] t)).cell? ((⟨w.heap.size,0,none⟩:Addr).add j)=some u:=by
 intro j u d;match j,d with
 | 0,d=>simp at d;subst d;exact cA w #[a,b] t 0
 | 1,d=>simp at d;subst d;exact cA w #[a,b] t 1
theorem from_30 (B b:Nat) (Z v1 v2 v3:Value) (A5:Option Addr) (n J:Nat) (s:cW) (bs A:Nat) (tv:Value) (b2:List Value) (k:Nat) (code:List hP) (i:hP) (m:List iV) (w:World) (h:b9 w B b Z v1 v2 v3 A5 n J s bs A tv b2) (G:WOk n s) (hn:n<=600) (hk:k<n) (n6:n=code.length) (H:aB w B 5 j8 (.slice A5 n J) code) (b3:code[k]? = some i) (ho:s.out[k]? = some m) (hB:B<=w.heap.size) (b4:i.op=30) (b5:0<=i.b) : Calls prog 189 #[.pointer (some ⟨b,0,none⟩),.int .i64 k] w (gD B b Z v1 v2 v3 A5 n J (fK (fK s i.b m) ((k:Int)+1) (m++[⟨i.a,i.b⟩])) bs A w):=by
 obtain⟨s',L⟩:∃s',s'=fK (fK s i.b m) ((k:Int)+1) (m++[⟨i.a,i.b⟩]):=⟨_,rfl⟩;rw[<-L];have c5:=hI L;clear L;have c9:k<code.length:=by omega
 obtain⟨bc,I,j,m6,rfl,m7,E,-,hR,l⟩:=H.at_ (i:=k) c9;rw[b3] at E;injection E with E
 subst E;obtain⟨rfl,m8,f2,f3,n0,n1⟩:=hR;obtain⟨ov,M⟩:∃ov,b2[k]? = some ov:=⟨_,lG (by rw[h.olen];exact hk)⟩;have hm:=h.out k ov m M ho;obtain⟨A',N,rfl,n2,f9,-⟩:=id hm;have c4:=crZ h.here 4 rfl;have c6:=crZ h.here 6 rfl;have c8:=crZ h.here 8 rfl;have f8:w.frozen? ⟨b,8,none⟩=false:=frozen_of_row w b 8 _ _ h.here;have c7:w.cell? ⟨A,k,none⟩=some (.slice A' m.length N):=by rw[cell_of_row w A k _ _ _ h.outs];simpa using M
 have g0:w.cell? ⟨bc,I+k*5,none⟩=some (.int .i64 i.op):=l 0 _ rfl;have g1:w.cell? ⟨bc,I+k*5+1,none⟩=some (.int .i64 i.a):=l 1 _ rfl;have g2:w.cell? ⟨bc,I+k*5+2,none⟩=some (.int .i64 i.b):=l 2 _ rfl;have g3:w.cell? ⟨bc,I+k*5+3,none⟩=some (.int .i64 i.c):=l 3 _ rfl;have g4:w.cell? ⟨bc,I+k*5+4,none⟩=some (.int .i64 i.line):=l 4 _ rfl;have l1:bc<w.heap.size:=by omega
 have l2:b<w.heap.size:=(aE h.here).1;have l3:A<w.heap.size:=(aE h.outs).1;have m2:(k:Int)<n:=by omega
 have m3:(k:Int)<=600:=by omega
 have m4:m.length<=20:=G.few m (lM ho);have HH:=hI h;have HM:=hI hm;have HF:=hI (G.wf m (lM ho));unfold maxLen at f9;clear h M ho hm l H b3;have d5:=hI (G.come b5 HF.out);rw[b4] at g0;clear b4;go_enter func189,ntmps189;go_wp2_with fail;go_region;go_wp2_with fail;refine(mV B b Z v1 v2 v3 _ n J s bs A _ _ i.b _ m _ (HH.out.below (by repeat (first | exact Below.refl _ _ | refine Below.drew ?_ | refine Below.alloc ?_ (by simp) _))) G hn b5 (HM.out.below (by repeat (first | exact Below.refl _ _ | refine Below.drew ?_ | refine Below.alloc ?_ (by simp) _))) (by simp;omega)).mono ?_;rintro e d ⟨rfl,⟨n3,k9,O⟩,D⟩;have K1:=hI O;have K2:Hid (aX B w d):=by refine aX.trans (aX.of_below ?_) D;exact(by repeat (first | exact Below.refl _ _ | refine Below.drew ?_ | refine Below.alloc ?_ (by simp) _))
 have M2:=hI (D.tries (HM.out.below (by repeat (first | exact Below.refl _ _ | refine Below.drew ?_ | refine Below.alloc ?_ (by simp) _))));have V:Hid (d.heap[w.heap.size]? = some (.cells #[.int .i64 30,.int .i64 i.a,.int .i64 i.b,.int .i64 i.c,.int .i64 i.line] 211 (0,0))):=D.row (heap_alloc_new w _) (by decide);have a5:B<=d.heap.size:=Nat.le_trans hB K2.out.size;have X:Hid (∀W,Below d.heap.size d W->∀j v,(#[.int .i64 30,.int .i64 i.a,.int .i64 i.b,.int .i64 i.c,.int .i64 i.line]:Array Value)[j]? = some v->W.cell? ⟨w.heap.size,j,none⟩=some v):=λW k j v hv=>aC k ((cell_of_row d _ j _ _ _ V.out).trans hv);have CS:Hid (∀W,Below d.heap.size d W->aB W W.heap.size 2 (Raw 2) (.slice A' m.length N) (m.map dT)):=λW k=>aeD (M2.out.below k).slice;have C1:Hid (∀r∈m.map dT,∀u∈r,u.oneCell'=true):=by intro r hr u y;obtain⟨x,_,rfl⟩:=List.mem_map.1 hr;simp[dT] at y;rcases y with rfl | rfl <;> rfl
 have C2:Hid ((m.map dT).length*16<=140737488355328):=by show _<=_;rw[List.length_map];omega
 obtain⟨i0,hi,hq⟩:=Option.map_eq_some_iff.1 wM;simp only[Prod.mk.injEq] at hq;obtain⟨hz,a6,a7⟩:=hq;obtain⟨z,a9,b0⟩:=Option.map_eq_some_iff.1 hz;have HI:=hI hi;have HZ:=hI a9;have d7:=hI a6;have d8:=hI a7;have e0:=hI b0;have d1:=crZ V 1 rfl;have d2:=crZ V 2 rfl;have m5:w.heap.size<d.heap.size:=(aE V.out).1;clear O D c4 c6 c7 c8 f8 g0 g1 g2 g3 g4 hi hz a9 a6 a7 b0;go_wp2_with fail;go_region_held3 (λw'=>w'.cell? ⟨w.heap.size,1,none⟩=some (.int .i64 i.a)/\w'.cell? ⟨w.heap.size,2,none⟩=some (.int .i64 i.b)) (first | go_keep) ((first
  | (go_simp;go_at_call 124;refine(zQ _ (m.map dT) _ (CS.out _ (by repeat (first | exact Below.refl _ _ | refine Below.drew ?_ | refine Below.alloc ?_ (by simp) _))) C1.out C2.out).mono ?_;rintro e w6 ⟨u,rfl,y,hb⟩;have Y:Below d.heap.size d w6:=(by refine Below.trans ?_ (hb.mono (by simp));exact(by repeat (first | exact Below.refl _ _ | refine Below.drew ?_ | refine Below.alloc ?_ (by simp) _)));have q1:=X.out w6 Y 1 _ rfl;have q2:=X.out w6 Y 2 _ rfl;have p:=hI Y;have e3:=hI hb;have K:=hI (aiD y (show d.heap.size<=_ from by simp));clear y Y hb)
  | (go_loud (refine step_append_lies _ (by rfl) _ _ 143 (by rfl) d.heap.size 223 i0 z 2 16 underlying143 HI.out HZ.out d7.out d8.out e0.out (by decide) u (m.map dT).length ((m.map dT).flatMap id) (by rfl) (by first | exact K.out | exact K.out.alloc _) ⟨_,0,none⟩ 1 1 [.int .i64 i.a,.int .i64 i.b] (by rfl) (by rfl) (by first | exact news2 _ _ _ _ | exact(λj u hj=>aC e3.out (news2 _ _ _ _ j u hj))) (by intro u y;simp at y;rcases y with rfl | rfl <;> rfl) (by decide) (by rw[List.length_map];unfold maxLen;omega) (by rw[List.length_map];omega) (by have:=p.out.size;first | exact this | (simp;omega)) _ rfl ?_);intro g cp P S F l g7;have q:Hid (Below d.heap.size d P):=(by refine Below.grown ?_ F ?_ (λk hk=>(hY K.out k hk).1);(first | exact p.out | exact p.out.alloc p.out.size _);(have:=p.out.size;first | exact this | (simp;omega)));have e4:=hI S;have q7:=X.out P q.out 1 _ rfl;have q8:=X.out P q.out 2 _ rfl;clear S F l g7)))
 all_goals
  have e5:Hid (aW P B 223 2 kH (.slice (some ⟨g,0,none⟩) (m.length+1) cp) (m++[⟨i.a,i.b⟩])):=by
   have e1:(m++[(⟨i.a,i.b⟩:iV)]).length=m.length+1:=(by simp);have e2:(m++[(⟨i.a,i.b⟩:iV)]).flatMap dT=(m.map dT).flatMap id++[.int .i64 i.a,.int .i64 i.b]:=(by rw[List.flatMap_append,List.flatMap_id,List.flatMap_def];rfl);have h7:=e4.out;rw[List.length_map,<-e2,<-e1] at h7;have h8:=(gM (R:=kH) (f:=dT) (by decide) (λx _=>rfl) (λx hx=>⟨rfl,by
    rcases List.mem_append.1 hx with hx | hx;·exact HF.out x hx
    ·simp at hx;subst hx;exact⟨f2,f3⟩⟩) h7).more a5
   rw[e1] at h8;exact h8
  have f0:B<=P.heap.size:=Nat.le_trans a5 q.out.size;have W7:=hI (K1.out.below q.out);clear q7 q8 d1 d2;go_wp2_with fail;refine(mV B b Z v1 v2 v3 _ n J _ bs A _ _ ((k:Int)+1) _ (m++[⟨i.a,i.b⟩]) _ W7.out d5.out hn (by omega) e5.out f0).mono ?_;rintro e w8 ⟨rfl,⟨n4,l0,O⟩,D⟩;have K8:=hI O;have K9:=hI ((K2.out.below_ q.out).trans D);clear O D;go_wp2_with fail;go_end0;exact⟨rfl,⟨_,_,by rw[c5.out];exact K8.out⟩,K9.out⟩
theorem ajI (B b:Nat) (q r u v:Value) (l:Option Addr) (n p:Nat) (s:cW) (x y:Nat) (A:Value) (f:List Value) (k:Nat) (code:List hP) (w:World) (h:b9 w B b q r u v l n p s x y A f) (g:WOk n s) (E:n<=600) (D:k<n) (j:n=code.length) (d:aB w B 5 j8 (.slice l n p) code) (P:kN code) (hB:B<=w.heap.size) : Calls prog 189 #[.pointer (some ⟨b,0,none⟩),.int .i64 k] w (gD B b q r u v l n p (sK code s k) x y w):=by
 obtain⟨i,hi⟩:∃i,code[k]? = some i:=⟨_,lG (by omega)⟩;obtain⟨m,z⟩:∃m,s.out[k]? = some m:=⟨_,lG (by rw[g.out];exact D)⟩;obtain⟨N,O,R⟩:=P i (lM hi);unfold sK;rw[Int.toNat_natCast,hi,z];dsimp only;by_cases L:i.op=28;·rw[if_pos (.inl L)];exact from_28 B b q r u v l n p s x y A f k code i m w h g E D j d hi z hB L
 by_cases M:i.op=29;·rw[if_pos (.inr M)];exact from_29 B b q r u v l n p s x y A f k code i m w h g E D j d hi z hB M
 rw[if_neg (by omega)];by_cases I:i.op=13;·rw[if_pos (.inl I)];exact from_13 B b q r u v l n p s x y A f k code i m w h g E D j d hi z hB I (N (.inl I)).1
 by_cases J:i.op=14;·rw[if_pos (.inr J)];exact from_14 B b q r u v l n p s x y A f k code i m w h g E D j d hi z hB J (N (.inr J)).1
 rw[if_neg (by omega)];by_cases F:i.op=15;·rw[if_pos F];exact from_15 B b q r u v l n p s x y A f k code i m w h g E D j d hi z hB F (O (.inl F)).1
 rw[if_neg F];by_cases G:i.op=30;·rw[if_pos G];exact from_30 B b q r u v l n p s x y A f k code i m w h g E D j d hi z hB G (O (.inr G)).1
 rw[if_neg G];by_cases H:i.op=31
 ·rw[if_pos H];by_cases K:m=[];·rw[if_pos K];exact ajJ B b q r u v l n p s x y A f k code i m w h g E D j d hi z hB H K
  ·rw[if_neg K];exact from_31 B b q r u v l n p s x y A f k code i m w h g E D j d hi z hB H K
 rw[if_neg H];exact agO B b q r u v l n p s x y A f k code i m w h g E D j d hi z hB (by omega)
end
end Go.Proofs.YtijihlcdhppfgaaGreatDoor
