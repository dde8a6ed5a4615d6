/- A part of the walk. -/
import Derived.Test.YtjaphgpkkfdaaaaGreatDoorYQM
set_option maxHeartbeats 16000000
set_option maxRecDepth 100000
set_option linter.all false
namespace Go.Proofs.YtjaphgpkkfdaaaaGreatDoor
open Tryz
section
open Go.RowKit
theorem agU {ins:List bG} {v at_:Int} (h:v<0\/at_<=v\/(ins.length:Int)<at_):hZ ins v at_ = -1:=by
 rw[rK,if_pos];rcases h with h | h | h;·exact .inl h
 ·exact .inr (.inl h)
 ·exact .inr (.inr (.inl h))
theorem agT (d:List Value) (t:aN) (v at_:Int) (w:World) (h:cT w w.heap.size d t) (l : -9223372036854775808<=at_) (m:at_<=9223372036854775807) (hb:v<0\/at_<=v\/(t.ins.length:Int)<at_) : Calls prog 25 #[.agg ⟨d⟩,.int .i64 v,.int .i64 at_] w (aM (.int .i64 (-1)) w):=by
 obtain⟨g,i,j,q⟩:=h.at3;have e:=aP q;clear h q;by_cases p:v<0;·clear hb;go_enter func25,ntmps25;go_wp2_with fail;go_ret;exact⟨rfl,aB w _⟩
 by_cases r:at_<=v;·clear hb;go_enter func25,ntmps25;go_wp2_with fail;go_ret;exact⟨rfl,aB w _⟩
 have f:(t.ins.length:Int)<at_:=by omega
 clear hb;go_enter func25,ntmps25;go_wp2_with fail;go_ret;exact⟨rfl,aB w _⟩
theorem kind_c (f:List Value) (t:aN):∀(n:Nat) (v at_:Int) (w:World),v<n->cT w w.heap.size f t->-9223372036854775808<=at_->at_<=9223372036854775807->
  Calls prog 25 #[.agg ⟨f⟩,.int .i64 v,.int .i64 at_] w (aM (.int .i64 (hZ t.ins v at_)) w):=by
 intro n
 induction n with
 | zero=>
  intro v at_ w hv h X Y
  rw[agU (.inl (by omega))]
  exact agT f t v at_ w h X Y (.inl (by omega))
 | succ n ih=>
  intro v at_ w hv h X Y
  by_cases g:v<0\/at_<=v\/(t.ins.length:Int)<at_
  ·rw[agU g]
   exact agT f t v at_ w h X Y g
  obtain⟨r,D⟩:∃r,hZ t.ins v at_=r:=⟨_,rfl⟩
  rw[D]
  rw[rK] at D
  have HI:=hI h.size13
  obtain⟨Ai,ni,p3,q⟩:=h.at3
  have ll:=aP q
  have HQ:=hI q
  obtain⟨k,rfl⟩:=Int.eq_ofNat_of_zero_le (show 0<=v by omega)
  obtain⟨m,rfl⟩:=Int.eq_ofNat_of_zero_le (show 0<=at_ by omega)
  have f0:k<m:=by omega
  have hm:m<=t.ins.length:=by omega
  obtain⟨b,L,x,rfl,hb,R,wx,s⟩:=rN q (i:=k) (by omega)
  obtain⟨e1,e2⟩:=insAt_some R
  rw[e1,e2] at D
  have Z:Hid (Below w.heap.size w (w.alloc (.cells ⟨f⟩ 34))):=aB w _
  have H0:Hid (aA (w.alloc (.cells ⟨f⟩ 34)) w.heap.size f):=ad5 w f _
  have g0:=(acX s hb Z.o).1
  have hz:w.heap.size<(w.alloc (.cells ⟨f⟩ 34)).heap.size:=by simp
  have HH:=hI h
  have HO:Hid (∀W,Below w.heap.size w W->Calls prog 52 #[.agg ⟨f⟩,.int .i64 k] W (aM (.int .i64 (mG (hZ t.ins · k) x)) W)):=λW G=>by
   refine own_c f t k x W (h.below G) R (λw1 z=>?_)
   rcases Int.lt_or_le x.a k with c | c
   ·exact ih x.a k w1 (by omega) (h.below (G.trans (z.mono G.size))) (by omega) (by omega)
   ·rw[agU (.inr (.inl c))]
    exact agT f t x.a k w1 (h.below (G.trans (z.mono G.size))) (by omega) (by omega) (.inr (.inl c))
  have d:(if iC x.op=false then(-1:Int) else if 0<=mG (hZ t.ins · k) x then mG (hZ t.ins · k) x else iZ k ((t.ins.take m).drop (k+1)))=r:=by
   rw[<-D]
   by_cases c:iC x.op=false
   ·rw[if_pos c]
    exact(if_pos (.inr (.inr (.inr c)))).symm
   ·rw[if_neg c]
    refine Eq.trans ?_ (if_neg ?_).symm
    ·rfl
    ·rintro (c1 | c1 | c1 | c1)
     ·omega
     ·omega
     ·omega
     ·exact c c1
  obtain⟨S,u⟩:∃S,mG (hZ t.ins · k) x=S:=⟨_,rfl⟩
  simp only[u] at d HO
  obtain⟨tl,M⟩:∃tl,iC x.op=tl:=⟨_,rfl⟩
  have TC:=hI (uK x.op (w.alloc (.cells ⟨f⟩ 34)))
  simp only[M] at d TC
  have d1:(k:Int)<m:=by omega
  have f1:(m:Int)<=t.ins.length:=by omega
  clear D u M h q s R e1 e2 ih hv g
  go_enter func25,ntmps25
  go_wp2_with fail
  refine TC.o.mono ?_
  rintro e w1 ⟨rfl,z⟩
  have N:=btZ Z z
  have H1:=hI (H0.o.on z)
  have a6:w.heap.size<w1.heap.size:=Nat.lt_of_lt_of_le hz z.size
  clear z
  cases tl
  ·rw[if_pos rfl] at d
   have C:=hI d
   clear d
   go_wp2_with fail
   go_ret
   exact⟨by rw[<-C.o];rfl,N.o⟩
  rw[if_neg (by simp)] at d
  go_wp2_with (refine wpList_load_mid rfl 34 _ rfl w.heap.size 0 rfl f _ H1.o.range underlying34 rfl HI.o ?_)
  refine(HO.o w1 N.o).mono ?_
  rintro e A ⟨rfl,H⟩
  have l:=btZ N H
  have H2:=hI (H1.o.on H)
  have f2:w.heap.size<A.heap.size:=Nat.lt_of_lt_of_le a6 H.size
  clear H
  by_cases u:0<=S
  ·rw[if_pos u] at d
   have C:=hI d
   clear d
   go_wp2_with fail
   go_ret
   exact⟨by rw[<-C.o];rfl,l.o⟩
  rw[if_neg u] at d
  have C:=hI d
  clear d
  go_wp2_with fail
  go_loopw [8] (λi wr=>∃j:Nat,i=.int .i64 j/\k+1<=j/\j<=m/\Hid (iZ k ((t.ins.take m).drop j)=r)/\Hid (Below A.heap.size A wr)) (λi _=>m - (RowKit.intOf i).toNat)
  case atStart=>exact⟨k+1,by go_num,by omega,by omega,C.o,Below.refl _ _⟩
  case round=>
   obtain⟨j,rfl,j1,j2,KP,F⟩:=hrel
   have d3:wr.cell? ⟨w.heap.size,3,none⟩=some (.slice (some ⟨b,L,none⟩) t.ins.length ni):=aC F.o (H2.o 3 _ p3)
   have kk:=btZ l F.o
   by_cases c3:j<m
   ·obtain⟨b',V,y,hbo,f9,hy,wy,s⟩:=rN HQ.o (i:=j) (by omega)
    have O:b=b'/\L=V:=by injection hbo with hbo;injection hbo with h1 h2;exact⟨h1,h2⟩
    obtain⟨rfl,rfl⟩:=O
    obtain⟨g0,g1,g2,g3,g4,g5,g6,g7⟩:=acX s hb kk.o
    have P:(j:Int)<t.ins.length:=by omega
    have a9:(j:Int)<m:=by omega
    have hd:(t.ins.take m).drop j=y::(t.ins.take m).drop (j+1):=uZ (by rw[List.getElem?_take,if_pos c3];exact hy)
    have e:=KP.o
    rw[hd] at e
    have f3:A.heap.size<=wr.heap.size:=F.o.size
    have p:Hid (Below A.heap.size A (wr.alloc (.cells ⟨jS y⟩ 92))):=F.o.alloc F.o.size _
    obtain⟨op,ya,yb,yc,yn,ye,⟨yk,h0⟩⟩:=y
    dsimp only [iZ] at e g0 g1 g2 g3 g4 g5 g6 g7
    clear s hy hd hbo
    by_cases c1:ya=k
    case neg=>
     have f7:(ya != (k:Int))=true:=by simpa using c1
     rw[if_pos c1] at e
     have E:=hI e
     clear e
     go_wp2_with fail
     go_roundw
     case rel=>exact⟨j+1,by go_num,by omega,by omega,E.o,p.o⟩
     case measure=>simp[RowKit.intOf];omega
    rw[if_neg (by omega)] at e
    subst c1
    by_cases c4:op=4
    ·rw[if_pos c4] at e
     have E:=hI e
     subst c4
     clear e
     go_wp2_with fail
     go_ret
     exact⟨by rw[<-E.o];rfl,l.o.trans (p.o.mono l.o.size)⟩
    rw[if_neg c4] at e
    have K:(op == 4)=false:=bF c4
    by_cases I:op=6
    ·rw[if_pos I] at e
     have E:=hI e
     subst I
     clear e K
     go_wp2_with fail
     go_ret
     exact⟨by rw[<-E.o];rfl,l.o.trans (p.o.mono l.o.size)⟩
    rw[if_neg I] at e
    have b2:(op == 6)=false:=bF I
    by_cases J:op=9
    ·rw[if_pos J] at e
     have E:=hI e
     subst J
     clear e K b2
     go_wp2_with fail
     go_ret
     exact⟨by rw[<-E.o];rfl,l.o.trans (p.o.mono l.o.size)⟩
    rw[if_neg J] at e
    have f8:(op == 9)=false:=bF J
    have E:=hI e
    clear e
    go_wp2_with fail
    go_roundw
    case rel=>exact⟨j+1,by go_num,by omega,by omega,E.o,p.o⟩
    case measure=>simp[RowKit.intOf];omega
   ·have P:(t.ins.take m).drop j=[]:=List.drop_eq_nil_of_le (by rw[List.length_take];omega)
    have e:=KP.o
    rw[P] at e
    have E:=hI e
    have a9:¬(j:Int)<m:=by omega
    clear e P
    go_wp2_with fail
    go_ret
    exact⟨by rw[<-E.o];rfl,kk.o⟩
end
section
open Go.RowKit Go.Maps Go.WideMaps Go.Lib Go.ChangeShapes Go.WideShapes Go.ChangeAt
open Go.RowKit
structure ai1 (bc:Nat) (w w':World):Prop where
 os:w'.os=w.os
 tape:w'.tape=w.tape
 output:w'.output=w.output
 size:w.heap.size<=w'.heap.size
 block:∀k,k<w.heap.size->k≠bc->w'.heap[k]? = w.heap[k]?
section
variable {bc:Nat} {w w1 w2:World}
theorem ai1.refl (d:Nat) (w:World):ai1 d w w:=⟨rfl,rfl,rfl,Nat.le_refl _,λ_ _ _=>rfl⟩
theorem ai1.trans (h:ai1 bc w w1) (k:ai1 bc w1 w2):ai1 bc w w2:= ⟨k.os.trans h.os,k.tape.trans h.tape,k.output.trans h.output,Nat.le_trans h.size k.size,λi hi d=>(k.block i (Nat.lt_of_lt_of_le hi h.size) d).trans (h.block i hi d)⟩
theorem ai1.of_below (k:Below w.heap.size w w1):ai1 bc w w1:=⟨k.os,k.tape,k.output,k.size,λi hi _=>k.block i hi⟩
theorem ai1.below_ (h:ai1 bc w w1) (k:Below w1.heap.size w1 w2):ai1 bc w w2:=h.trans (.of_below k)
theorem ai1.alloc (h:ai1 bc w w1) (o:Obj):ai1 bc w (w1.alloc o):=h.below_ (aB w1 o)
theorem ai1.drew (h:ai1 bc w w1):ai1 bc w w1.drew:=⟨h.os,h.tape,h.output,h.size,h.block⟩
theorem ai1.set_ (h:ai1 bc w w1) (i:Nat) (u:Value):ai1 bc w (w1.setCell ⟨bc,i,none⟩ u):= h.trans ⟨rfl,rfl,rfl,by simp[World.setCell],λk e d=>Below.heap_setCell _ _ _ _ (by show k≠bc;exact d)⟩
theorem ai1.under (h:ai1 bc w w1) {B:Nat} (hB:B<=bc) (e:B<=w.heap.size):Below B w w1:=⟨h.os,h.tape,h.output,h.size,λk d=>h.block k (by omega) (by omega)⟩
theorem ai1.row (h:ai1 bc w w1) {k:Nat} {o:Obj} (d:w.heap[k]? = some o) (e:k≠bc):w1.heap[k]? = some o:=(h.block k (aE d).1 e).trans d
theorem ai1.ty {α : Type} (h:ai1 bc w w1) {B size:Nat} {d:TypeId} {R:List Value->α->Prop} {v:Value} {xs:List α} (f:bI w B d size R v xs) (hB:bc<B):bI w1 B d size R v xs:= f.keep (λk cs g i e=>h.block k (aE e).1 (by omega)) (λ_ _ h=>h)
theorem ai1.own (h:ai1 bc w w1) {B:Nat} {e:TypeId} {size n:Nat} {v:Value} {xs:List Value} (d:w.ownsRow B e size v n xs) (hB:bc<B):w1.ownsRow B e size v n xs:=by refine d.kept (row:=some bc) ⟨h.os,h.tape,h.output,h.size,λk f g=>h.block k f (λe=>g (by rw[e]))⟩ (.inr (λi=>?_));have:=(jD d _ i).1;omega
theorem ai1.then (h:ai1 bc w w1) (k:Below w.heap.size w1 w2):ai1 bc w w2:= ⟨k.os.trans h.os,k.tape.trans h.tape,k.output.trans h.output,Nat.le_trans h.size k.size,λi hi d=>(k.block i hi).trans (h.block i hi d)⟩
theorem ai1.cell (h:ai1 bc w w1) {a:Addr} {v:Value} (d:w.cell? a=some v) (e:a.block≠bc):w1.cell? a=some v:=by have hb:=h.block a.block (dP d) e;unfold World.cell? at d ⊢;rw[hb];exact d
end
open Go.RowKit
theorem akJ:(prog.info? 92).map (·.size)=some 8:=by kernel_rfl
open Go.RowKit
structure Fin_ (bc:Nat) (w:World) where
 wd:World
 fined:ai1 bc w wd
instance Fin_.some_ (bc:Nat) (w:World):Nonempty (Fin_ bc w):=⟨⟨w,ai1.refl _ _⟩⟩
theorem Fin_.cell {d:Nat} {w:World} (E:Fin_ d w) {a:Addr} {v:Value} (h:w.cell? a=some v) (e:a.block≠d):E.wd.cell? a=some v:=E.fined.cell h e
theorem bI.set_ {α : Type} {w:World} {B:Nat} {e t:TypeId} {size:Nat} {R:List Value->α->Prop} {v:Value} {xs:List α} (h:bI w B e size R v xs) {g:Nat} {cs:Array Value} {f:Nat×Nat} (j:w.heap[g]? = some (.cells cs t f)) (ht:t≠e) (i:Nat) (u:Value):bI (w.setCell ⟨g,i,none⟩ u) B e size R v xs:= h.keep (λk c f _ d=>heap_setCell_other w _ _ _ (by show k≠g;rintro rfl;rw[j] at d;injection d with d;injection d with _ d _;exact ht d)) (λ_ _ h=>h)
structure ai9 (a b:Nat) (w w':World):Prop where
 os:w'.os=w.os
 tape:w'.tape=w.tape
 output:w'.output=w.output
 size:w.heap.size<=w'.heap.size
 block:∀k,k<w.heap.size->k≠a->k≠b->w'.heap[k]? = w.heap[k]?
theorem ai9.refl (a b:Nat) (w:World):ai9 a b w w:=⟨rfl,rfl,rfl,Nat.le_refl _,λ_ _ _ _=>rfl⟩
theorem ai9.trans {a b:Nat} {w w1 f:World} (h:ai9 a b w w1) (k:ai9 a b w1 f):ai9 a b w f:= ⟨k.os.trans h.os,k.tape.trans h.tape,k.output.trans h.output,Nat.le_trans h.size k.size,λi hi d e=>(k.block i (Nat.lt_of_lt_of_le hi h.size) d e).trans (h.block i hi d e)⟩
theorem ai9.then {a b:Nat} {w w1 d:World} (h:ai9 a b w w1) (k:Below w.heap.size w1 d):ai9 a b w d:= ⟨k.os.trans h.os,k.tape.trans h.tape,k.output.trans h.output,Nat.le_trans h.size k.size,λi hi e f=>(k.block i hi).trans (h.block i hi e f)⟩
theorem ai9.set_ {a b:Nat} {w w1:World} (h:ai9 a b w w1) (i:Nat) (u:Value):ai9 a b w (w1.setCell ⟨b,i,none⟩ u):= ⟨h.os,h.tape,h.output,by simp[World.setCell];exact h.size,λk e f d=>(heap_setCell_other w1 _ k _ (by show k≠b;exact d)).trans (h.block k e f d)⟩
theorem ai9.row {a b:Nat} {w w1:World} (h:ai9 a b w w1) {k:Nat} {o:Obj} (d:w.heap[k]? = some o) (e:k≠a) (f:k≠b):w1.heap[k]? = some o:=(h.block k (aE d).1 e f).trans d
theorem ai9.cell {a b:Nat} {w w1:World} (h:ai9 a b w w1) {p:Addr} {v:Value} (d:w.cell? p=some v) (e:p.block≠a) (f:p.block≠b):w1.cell? p=some v:=by have hb:=h.block p.block (dP d) e f;unfold World.cell? at d ⊢;rw[hb];exact d
theorem ai9.fined {a b:Nat} {d w w1:World} (h:ai9 a b w w1) (k:ai1 a d w) (hb:d.heap.size<=b):ai1 a d w1:= ⟨h.os.trans k.os,h.tape.trans k.tape,h.output.trans k.output,Nat.le_trans k.size h.size,λi hi e=>(h.block i (Nat.lt_of_lt_of_le hi k.size) e (by omega)).trans (k.block i hi e)⟩
theorem amG {B g:Nat} {w w':World} (h:Below B w w') (d:B<=g) (i:Nat) (u:Value):Below B w (w'.setCell ⟨g,i,none⟩ u):=by refine Below.setCell h ?_ _;exact d
open Go.RowKit
open Go.RowKit
theorem amH {w:World} {g:Nat} {cs:List Value} {t:TypeId} (h:w.heap[g]? = some (.cells ⟨cs⟩ t (0,0))):aA w g cs:=λi v d=>by
 rw[cell_of_row w g i _ _ _ h];simpa using d
section
variable {W w6:World} {bc:Nat} {tv v':Value} {at_:List Int} {fine:Bool} {a:Int}
end
section
variable {w w1:World} {B:Nat} {cs:List Value} {x:cW}
end
theorem amA (x:bG):∀u∈jS x,u.oneCell'=true:=by intro u d;simp[jS] at d;rcases d with rfl | rfl | rfl | rfl | rfl | rfl | rfl | rfl <;> rfl
def akY (cs:Array Value):Nat->List Value->Array Value
 | _,[]=>cs
 | o,v::r=>akY (cs.setIfInBounds o v) (o+1) r
theorem aj4 {g:Nat} {t:TypeId} : ∀(vs:List Value) (o:Nat) (w:World) (cs:Array Value),w.heap[g]? = some (.cells cs t (0,0))->(w.setCells g o vs).heap[g]? = some (.cells (akY cs o vs) t (0,0))
 | [],_,_,_,h=>h
 | v::r,o,w,cs,h=>by
  rw[World.setCells,akY]
  refine aj4 r (o+1) _ _ ?_
  rw[heap_setCell_same w g o _ _ _ h]
open Go.RowKit
theorem akQ {α : Type} {l:List α} {k:Nat} {x : α} (h:l[k]? = some x):l.take (k+1)=l.take k++[x]:=by obtain⟨d,e⟩:=lE h;rw[List.take_succ_eq_append_getElem d,e]
open Go.RowKit Go.Maps
theorem keyLaid:laidOutB prog=true:=by kernel_rfl
theorem int_wf {n:Int} (h:wfi n):(Lit.int .i64 n).wf=true:=by unfold wfi at h;simp[Lit.wf,IntKind.min,IntKind.max,IntKind.signed,IntKind.bits];omega
theorem al7 (d:Nat) {n:Int} (h:wfi n):prog.keyLits (d+1) 3 [.int .i64 n]=some [.int .i64 n]:=by unfold Program.keyLits;simp[underlying3,int_wf h]
theorem cK1:prog.cellsOf 3=1:=by kernel_rfl
open Go.RowKit Go.Maps
section
variable {H:Type} {P:Program} {k:TypeId} {R:Value->Option (DataW H×List MemPlace)} {b n:Nat} {D:DataW H} {w w':World}
theorem map_set (h:w.ownsMap P k R b n D) {g:Nat} (f:b≠g) (i:Nat) (u:Value):(w.setCell ⟨g,i,none⟩ u).ownsMap P k R b n D:= h.kept (row:=some g) ⟨rfl,rfl,rfl,by simp[World.setCell],λj _ d=>Below.heap_setCell _ _ _ _ (λe=>d (by rw[e]))⟩ (by simp;exact f)
theorem alT (h:w.ownsMap P k R b n D) (d:Below w.heap.size w w'):w'.ownsMap P k R b n D:= h.kept (row:=none) ⟨d.os,d.tape,d.output,d.size,λj e _=>d.block j e⟩ (by simp)
end
theorem ai9.below {a b B:Nat} {w w1:World} (h:ai9 a b w w1) (d:B<=a) (hb:B<=b) (hB:B<=w.heap.size):Below B w w1:= ⟨h.os,h.tape,h.output,h.size,λi hi=>h.block i (by omega) (by omega) (by omega)⟩
theorem akM {w:World} {g:Nat} {xs:List Int} (h:w.heap[g]? = some (.cells ⟨xs.map (.int .i64)⟩ 3 (0,0))) (e:∀x∈xs,wfi x) (hl:xs.length<=maxLen):aH w w.heap.size 1 hY (.slice (some ⟨g,0,none⟩) xs.length xs.length) xs:=by
 refine⟨some ⟨g,0,none⟩,xs.length,rfl,Nat.le_refl _,hl,λ_=>⟨g,0,rfl,(aE h).1,λi x hi=>⟨[.int .i64 x],rfl,⟨rfl,e x (lM hi)⟩,λj u d=>?_⟩⟩⟩;match j,d with
 | 0,d=>
  have:u=.int .i64 x:=by simpa using d.symm
  subst this
  rw[show 0+i*1+0=i by omega,cell_of_row w g i _ _ _ h]
  simp[hi]
end
section
open Go.RowKit Go.Maps
def ai7 (a b:Int):Value:=.agg #[.int .i64 a,.int .i64 b]
theorem akT {a b c d:Int} (h:ai7 a b=ai7 c d):a=c/\b=d:=by unfold ai7 at h;simp only[Value.agg.injEq,Array.mk.injEq,List.cons.injEq,Value.int.injEq,true_and,and_true] at h;exact h
theorem pairRow:(174:TypeId)<prog.types.size:=of_decide_eq_true (by kernel_rfl)
theorem al5:(match prog.underlying 174 with | some (.array _ _) | some (.struct _)=>true | _=>false)=true:=by kernel_rfl
theorem ajT:Keyed prog 174:=Keyed.of_law (deep_law_laid keyLaid (m:=3) (by omega) pairRow (by kernel_rfl) al5)
theorem akN {P:Program} {d n:Nat} {t e:TypeId} {cs:List Value} (h:P.underlying t=some (.array n e)) (f:cs.length=P.cellsOf t) : P.keyLits (d+1) t cs=((List.range n).mapM λi=>P.keyLits d e ((cs.drop (i*P.cellsOf e)).take (P.cellsOf e))).map List.flatten:=by
 conv=>lhs;unfold Program.keyLits
 split;all_goals (first | (rename_i e;rw[h] at e;cases e;done) | (rename_i e _;rw[h] at e;cases e;done) | skip)
 ·rename_i m p l e;rw[h] at e;injection e with e
  injection e with g j
  subst g;subst j;rw[if_pos f]
 ·simp_all
theorem cP2:prog.cellsOf 174=2:=by kernel_rfl
theorem alB {a b:Int} (j:wfi a) (hb:wfi b):∃l,keyOf prog 174 (ai7 a b)=some l:=by
 have e:prog.keyType 174=true:=by kernel_rfl
 have f:(ai7 a b).formed prog 174=true:=by unfold ai7;simp[Value.formed,underlying174,cP2]
 obtain⟨d,h⟩:∃d,prog.types.size+1=d+1+1:=⟨prog.types.size - 1,by have:2<=prog.types.size:=of_decide_eq_true (by kernel_rfl);omega⟩;have g:∃L,prog.keyLits (d+1+1) 174 (ai7 a b).cells.toList=some L:=by unfold ai7;rw[akN underlying174 (by rw[cP2];rfl)];simp[cK1,Value.cells,List.range_succ,al7 d j,al7 d hb]
 obtain⟨L,i⟩:=g;refine⟨.string (keyBytes L),?_⟩;unfold keyOf;rw[underlying174];simp only[];rw[e,f,h,i];rfl
noncomputable def aj9 (a b:Int):Lit:=(keyOf prog 174 (ai7 a b)).getD (.int .i64 0)
theorem ajG {a b:Int} (d:wfi a) (hb:wfi b):keyOf prog 174 (ai7 a b)=some (aj9 a b):=by obtain⟨l,hl⟩:=alB d hb;unfold aj9;rw[hl];rfl
theorem al6 {a b c d:Int} (e:wfi a) (hb:wfi b) (f:wfi c) (g:wfi d) (h:aj9 a b=aj9 c d):a=c/\b=d:= akT (ajT.inj (ajG e hb) (by rw[h];exact ajG f g))
def ajX:Value->Option (DataW Unit×List MemPlace)
 | .agg ⟨[.int .i64 a,.int .i64 b]⟩=>some (.agg [.lit (.int .i64 a),.lit (.int .i64 b)],[])
 | _=>none
theorem akK (a b:Int):ajX (ai7 a b)=some (.agg [.lit (.int .i64 a),.lit (.int .i64 b)],[]):=rfl
theorem akC {v:Value} {a b:Int} {d:List MemPlace} (h:ajX v=some (.agg [.lit (.int .i64 a),.lit (.int .i64 b)],d)):v=ai7 a b:=by
 unfold ajX at h;split at h
 ·injection h with h
  injection h with h _
  simp only[DataW.agg.injEq,List.cons.injEq,DataW.lit.injEq,Lit.int.injEq,true_and,and_true] at h;obtain⟨rfl,rfl⟩:=h;rfl
 ·cases h
noncomputable def ajY (ins:List bG):List (Nat×Nat)->DataW Unit
 | []=>.map []
 | k::l=>(ajY ins l).put (aj9 k.1 k.2) (.agg [.lit (.int .i64 (ai0 ins k.1 k.2).1),.lit (.int .i64 (ai0 ins k.1 k.2).2)])
theorem akA (ins:List bG):∀l:List (Nat×Nat),IsMap (ajY ins l)
 | []=>isMap_empty
 | k::l=>(akA ins l).put _ _
theorem ajE {n:Nat} (h:n<=300):wfi (n:Int):=by unfold wfi;omega
theorem akI (ins:List bG) {k:Nat×Nat} (s:k.1<k.2/\k.2<=300):∀l:List (Nat×Nat),(∀q∈l,q.1<q.2/\q.2<=300)->
  (k∉l->Maps.has (ajY ins l) (aj9 k.1 k.2)=false/\∀z,(ajY ins l).atKey (aj9 k.1 k.2) z=z)/\
   (k∈l->Maps.has (ajY ins l) (aj9 k.1 k.2)=true/\∀z,(ajY ins l).atKey (aj9 k.1 k.2) z=.agg [.lit (.int .i64 (ai0 ins k.1 k.2).1),.lit (.int .i64 (ai0 ins k.1 k.2).2)])
 | [],_=>⟨λ_=>⟨rfl,λ_=>rfl⟩,λh=>(by cases h)⟩
 | q::l,hl=>by
  have g:=akI ins s l (λp m=>hl p (by simp[m]))
  have u:=hl q (by simp)
  have w1:wfi (k.1:Int):=ajE (by omega)
  have f:wfi (k.2:Int):=ajE (by omega)
  have i:wfi (q.1:Int):=ajE (by omega)
  have j:wfi (q.2:Int):=ajE (by omega)
  unfold ajY
  by_cases c:q=k
  ·subst c
   exact⟨λh=>(h (by simp)).elim,λ_=>⟨has_put_same (akA ins l) (ajT.key (ajG w1 f)) _,λz=>atKey_put_same (akA ins l) (ajT.key (ajG w1 f)) _ _⟩⟩
  ·have d:aj9 k.1 k.2≠aj9 q.1 q.2:=λe=>c (by
    have:=al6 w1 f i j e
    ext <;> omega)
   refine⟨λh=>?_,λh=>?_⟩
   ·obtain⟨a,b⟩:=g.1 (λr=>h (by simp[r]))
    exact⟨by rw[has_put_other d];exact a,λz=>by rw[atKey_put_other d];exact b z⟩
   ·obtain⟨a,b⟩:=g.2 (by rcases List.mem_cons.1 h with h | h;exact(c h.symm).elim;exact h)
    exact⟨by rw[has_put_other d];exact a,λz=>by rw[atKey_put_other d];exact b z⟩
theorem akH:∀(N:Nat) (l:List Nat),l.Nodup->(∀x∈l,x<N)->l.length<=N
 | 0,[],_,_=>Nat.le_refl _
 | 0,x::l,_,h=>by have:=h x (by simp);omega
 | N+1,l,hn,h=>by
  by_cases c:N∈l
  ·have f:=akH N (l.erase N) (hn.erase N) (λx d=>by
    have g:=(List.Nodup.mem_erase_iff hn).1 d
    have:=h x g.2
    omega)
   rw[List.length_erase_of_mem c] at f
   omega
  ·have:=akH N l hn (λx d=>by
    have f:=h x d
    have g:x≠N:=λe=>c (e ▸ d)
    omega)
   omega
structure ai5 (W:World) (mb:Nat) (ins:List bG) (L:List (Nat×Nat)):Prop where
 own:W.ownsMap prog 174 ajX mb L.length (ajY ins L)
 nodup:L.Nodup
 small:∀k∈L,k.1<k.2/\k.2<=300
theorem ai5.len {W:World} {l:Nat} {ins:List bG} {L:List (Nat×Nat)} (h:ai5 W l ins L):L.length<=100000:=by have d:=akH (301*301) (L.map (λk=>k.1*301+k.2)) (by unfold List.Nodup;rw[List.pairwise_map];refine List.Pairwise.imp_of_mem ?_ h.nodup;intro a b i hb f e;have d:=h.small a i;have m:=h.small b hb;exact f (by ext <;> omega)) (λx j=>by obtain⟨k,g,rfl⟩:=List.mem_map.1 j;have:=h.small k g;omega);rw[List.length_map] at d;omega
theorem ak8 (w:World):(zeroValue 128).run prog w=.ok (ai7 0 0) w:=by kernel_rfl
theorem ai5.look {W:World} {j:Nat} {ins:List bG} {L:List (Nat×Nat)} (h:ai5 W j ins L) {v a:Nat} (m:v<a) (l:a<=300) : (Instr.lookup 124 (.map (some j)) (ai7 v a) true).run prog W=.ok (.tuple #[if(v,a)∈L then ai7 (ai0 ins v a).1 (ai0 ins v a).2 else ai7 0 0,.bool (decide ((v,a)∈L))]) W:=by
 obtain⟨x,p,d,e⟩:=h.own.look_ok ajT underlying124 (ak8 W) (akK 0 0) (ajG (ajE (n:=v) (by omega)) (ajE (n:=a) l));have i:=akI ins (k:=(v,a)) ⟨m,l⟩ L h.small;by_cases c:(v,a)∈L;·obtain⟨f,g⟩:=i.2 c;rw[g] at e;rw[d,f,akC e,if_pos c,decide_eq_true c]
 ·obtain⟨f,g⟩:=i.1 c;rw[g] at e;rw[d,f,akC e,if_neg c,decide_eq_false c]
theorem ai5.put {W e:World} {d:Nat} {ins:List bG} {L:List (Nat×Nat)} (h:ai5 W d ins L) {v a:Nat} (f:v<a) (g:a<=300) (i:(v,a)∉L)
  (j:e.ownsMap prog 174 ajX d (L.length+1) ((ajY ins L).put (aj9 v a) (.agg [.lit (.int .i64 (ai0 ins v a).1),.lit (.int .i64 (ai0 ins v a).2)]))):ai5 e d ins ((v,a)::L):=
 ⟨j,List.nodup_cons.2 ⟨i,h.nodup⟩,λk hk=>by
  rcases List.mem_cons.1 hk with rfl | hk
  ·exact⟨f,g⟩
  ·exact h.small k hk⟩
end
section
open Go.RowKit Go.Maps
theorem ai5.below {W d:World} {e:Nat} {ins:List bG} {L:List (Nat×Nat)} (h:ai5 W e ins L) (k:Below W.heap.size W d):ai5 d e ins L:=⟨alT h.own k,h.nodup,h.small⟩
theorem ai5.set_ {W:World} {d:Nat} {ins:List bG} {L:List (Nat×Nat)} (h:ai5 W d ins L) {g:Nat} (e:d≠g) (i:Nat) (u:Value):ai5 (W.setCell ⟨g,i,none⟩ u) d ins L:=⟨map_set h.own e i u,h.nodup,h.small⟩
structure ajC (W:World) (B fb mb:Nat) (ca:List Value) (t:aN):Prop where
 row:W.heap[fb]? = some (.cells ⟨ca++[.map (some mb)]⟩ 126 (0,0))
 tr:cT W B ca t
 hB:B<=fb
 hM:B<=mb
 ne:fb≠mb
section
variable {W W':World} {B fb mb:Nat} {ca:List Value} {t:aN}
theorem ajC.lt (h:ajC W B fb mb ca t):fb<W.heap.size:=(aE h.row).1
theorem ajC.fined (h:ajC W B fb mb ca t) (k:ai1 mb W W'):ajC W' B fb mb ca t:= ⟨k.row h.row h.ne,h.tr.keep (Nat.le_refl _) (λp d=>(k.under (B:=B) h.hM (Nat.le_trans h.hB (Nat.le_of_lt h.lt))).cell d),h.hB,h.hM,h.ne⟩
theorem ajC.below (h:ajC W B fb mb ca t) (k:Below W.heap.size W W'):ajC W' B fb mb ca t:=h.fined (.of_below k)
theorem ajC.trace (h:ajC W B fb mb ca t):cT W W.heap.size ca t:=h.tr.keep (Nat.le_trans h.hB (Nat.le_of_lt h.lt)) (λ_ _=>rfl)
theorem ajC.head (h:ajC W B fb mb ca t):aA W fb ca:=λi v d=>amH h.row i v (by rw[List.getElem?_append_left (lE d).1];exact d)
theorem ajC.kept (h:ajC W B fb mb ca t):W.cell? ⟨fb,13,none⟩=some (.map (some mb)):=by refine amH h.row 13 _ ?_;obtain⟨i,e,d,cb,rfl,-,-,⟨_,_,rfl,-⟩,⟨_,_,rfl,-⟩,-⟩:=h.tr;rfl
end
theorem alF {W:World} {B fb m:Nat} {d:List Value} {t:aN} (h:ajC W B fb m d t) (v a:Int) (p : -9223372036854775808<=a) (q:a<=9223372036854775807) : Calls prog 139 #[.pointer (some ⟨fb,0,none⟩),.int .i64 v,.int .i64 a] W (aM (.bool (hZ t.ins v a == 2)) W):=by have g:=hI h.head.range;have i:=hI h.tr.size13;have j:=hI (kind_c d t (v.toNat+1) v a W (by omega) h.trace p q);have r:=h.lt;clear h;go_enter func139,ntmps139;go_wp2_with (first | (refine wpList_load_mid rfl 34 _ rfl fb 0 rfl d _ g.o underlying34 rfl i.o ?_) | fail);refine j.o.mono ?_;rintro e w1 ⟨rfl,f⟩;have l:=hI f;clear f;go_wp2_with fail;go_ret;exact⟨rfl,l.o⟩
theorem al9 {W:World} {B fb Y:Nat} {Z:List Value} {t:aN} (h:ajC W B fb Y Z t) {i:Nat} {x:bG} (u:t.ins[i]? = some x) (hl:t.ins.length<=300) : Calls prog 101 #[.pointer (some ⟨fb,0,none⟩),.int .i64 (i:Int)] W (aM (.bool (ajU t.ins i)) W):=by
 have v:i<t.ins.length:=(lE u).1;have a0:(i:Int)<t.ins.length:=by omega
 have a1:(t.ins.length:Int)<=300:=by omega
 have l:Hid (ajU t.ins i=(hZ t.ins x.a i == 2 && hZ t.ins x.b i == 2)):=by unfold ajU Hid;rw[(insAt_some u).1]
 obtain⟨Ai,ni,D,E⟩:=h.tr.at3;obtain⟨b,f,y,rfl,hb,p,wx,d⟩:=rN E v;obtain rfl:y=x:=by rw[u] at p;injection p with p;exact p.symm
 have H:=h.head 3 _ D;have a2:=h.lt;have a3:b<W.heap.size:=by have:=h.hB;omega
 have I:W.cell? ⟨b,f+i*8,none⟩=some (.int .i64 y.op):=d 0 _ rfl;have J:W.cell? ⟨b,f+i*8+1,none⟩=some (.int .i64 y.a):=d 1 _ rfl;have K:W.cell? ⟨b,f+i*8+2,none⟩=some (.int .i64 y.b):=d 2 _ rfl;have L:W.cell? ⟨b,f+i*8+3,none⟩=some (.int .i64 y.c):=d 3 _ rfl;have M:W.cell? ⟨b,f+i*8+4,none⟩=some (.int .i64 y.n):=d 4 _ rfl;have N:W.cell? ⟨b,f+i*8+5,none⟩=some (.int .i64 y.exit):=d 5 _ rfl;have O:W.cell? ⟨b,f+i*8+6,none⟩=some (.int .i64 y.k.kind):=d 6 _ rfl;have P:W.cell? ⟨b,f+i*8+7,none⟩=some (.int .i64 y.k.n):=d 7 _ rfl;obtain⟨w1,g⟩:∃w1,w1=W.alloc (.cells #[.int .i64 y.op,.int .i64 y.a,.int .i64 y.b,.int .i64 y.c,.int .i64 y.n,.int .i64 y.exit,.int .i64 y.k.kind,.int .i64 y.k.n] 92):=⟨_,rfl⟩;have j:Hid (Below W.heap.size W w1):=by rw[g];exact aB _ _
 have q:Hid (w1.heap[W.heap.size]? = some (.cells ⟨jS y⟩ 92 (0,0))):=by rw[g];exact aJ _ _
 have w:=hI (h.below j.o);have z:=hI g;clear g h d p wx D E;go_enter func101,ntmps101;go_upto_region 2 with fail;rw[<-z.o];clear I J K L M N O P H;have R:=amH q.o 1 (.int .i64 y.a) rfl;have A:W.heap.size<w1.heap.size:=(aE q.o).1;have C:=hI (alF w.o y.a i (by omega) (by omega));obtain⟨r,F⟩:∃r,(hZ t.ins y.a i == 2)=r:=⟨_,rfl⟩;rw[F] at C l;go_wp2_with fail;refine C.o.mono ?_;rintro e X ⟨rfl,s⟩;have m:=hI s;have a4:W.heap.size<X.heap.size:=Nat.lt_of_lt_of_le A s.size;clear s R;cases r;case false=>go_wp2_with fail;go_ret;exact⟨by rw[l.o];rfl,j.o.trans (m.o.mono j.o.size)⟩
 case true=>have c2:=aC m.o (amH q.o 2 (.int .i64 y.b) rfl);have S:=hI (alF (w.o.below m.o) y.b i (by omega) (by omega));go_wp2_with fail;refine S.o.mono ?_;rintro e w3 ⟨rfl,G⟩;have V:=hI G;clear G;go_wp2_with fail;go_ret;exact⟨by rw[l.o];rfl,(j.o.trans (m.o.mono j.o.size)).trans (V.o.mono (by have:=j.o.size;have:=m.o.size;omega))⟩
theorem akR (n:Int) (W:World):Calls prog 138 #[.int .i64 n] W (λe d=>e=.returned (.int .i64 (ajP n))/\d=W):=by go_enter func138,ntmps138;go_wp2_with fail;go_ret;exact⟨rfl,rfl⟩
theorem ajN (W:World):Calls prog 136 #[] W (aM (ai7 (-2147483648) 2147483647) W):=by
 obtain⟨w1,d⟩:∃w1,w1=W.alloc (.cells #[.int .i64 (-2147483648),.int .i64 2147483647] 128):=⟨_,rfl⟩;have e:Hid (Below W.heap.size W w1):=by rw[d];exact aB _ _
 have f:w1.cell? ⟨W.heap.size,0,none⟩=some (.int .i64 (-2147483648)):=by rw[d];exact cell_of_row _ W.heap.size 0 _ _ _ (aJ W _)
 have g:w1.cell? ⟨W.heap.size,1,none⟩=some (.int .i64 2147483647):=by rw[d];exact cell_of_row _ W.heap.size 1 _ _ _ (aJ W _)
 have h:=hI d;clear d;go_enter func136,ntmps136;go_wp2_with fail;rw[<-h.o];exact bodyPost_ret (v:=ai7 (-2147483648) 2147483647) (by simp[results,results136,go_sem,ai7,f,g]) rfl ⟨rfl,e.o⟩
end
section
open Go.RowKit Go.Maps
theorem minL_c (v:Value) (e:Int) (l:List Int) (w:World) (s:aH w w.heap.size 1 hY v (e::l)):Calls prog 165 #[v] w (aM (.int .i64 (l.foldl min e)) w):=by
 have p:=hI s;obtain⟨A,M,rfl,D,E,-⟩:=id s;unfold maxLen at E;obtain⟨n,z⟩:∃n,(e::l).length=n:=⟨_,rfl⟩;have J:n=l.length+1:=by rw[<-z];rfl
 rw[z] at p D ⊢;have K:¬(n:Int)<1:=by omega
 obtain⟨b,f,y,F,rfl,hb,g,-,⟨rfl,wy⟩,d⟩:=p.o.at_ (i:=0) (by simp);have u:e=y:=by simpa using g
 subst u;have P:w.cell? ⟨b,f,none⟩=some (.int .i64 e):=by simpa using d 0 _ rfl
 have L:(0:Int)<n:=by omega
 clear d g wy s;go_enter func165,ntmps165;go_wp2_with fail;go_loopw [3,4] (λm i wr=>∃j:Nat,i=.int .i64 ((j+1:Nat):Int)/\j<=l.length/\m=.int .i64 ((l.take j).foldl min e)/\wr=w) (λ_ i _=>n - (RowKit.intOf i).toNat);case atStart=>exact⟨0,rfl,by omega,by simp,rfl⟩
 case round=>
  obtain⟨j,rfl,S,rfl,rfl⟩:=hrel;by_cases O:j<l.length
  ·obtain⟨G,r,y,F,hbo,N,g,-,⟨rfl,wy⟩,d⟩:=p.o.at_ (i:=j+1) (by simp;omega);obtain⟨rfl,rfl⟩:b=G/\f=r:=by injection hbo with hbo;injection hbo with H I;exact⟨H,I⟩
   have x:((j+1:Nat):Int)<n:=(by omega);have q:(j:Int)+1<n:=(by omega);have R:wr.cell? ⟨b,f+(j+1),none⟩=some (.int .i64 y):=(by simpa using d 0 _ rfl);have h:l[j]? = some y:=(by simpa using g);have C:Hid ((l.take (j+1)).foldl min e=min ((l.take j).foldl min e) y):=(by rw[show Hid _=_ from rfl,akQ h,List.foldl_append];rfl);clear d g h wy hbo;go_wp2_with fail;go_roundw;case rel=>exact⟨j+1,by go_num,by omega,by rw[C.o],(by first | trivial | rfl)⟩
   case measure=>simp[RowKit.intOf];omega
  ·obtain rfl:j=l.length:=by omega
   have x:¬((l.length+1:Nat):Int)<n:=(by omega);have q:¬(l.length:Int)+1<n:=(by omega);go_wp2_with fail;go_ret;exact⟨rfl,Below.refl _ _⟩
theorem maxL_c (v:Value) (e:Int) (l:List Int) (w:World) (s:aH w w.heap.size 1 hY v (e::l)):Calls prog 166 #[v] w (aM (.int .i64 (l.foldl max e)) w):=by
 have p:=hI s;obtain⟨A,M,rfl,D,E,-⟩:=id s;unfold maxLen at E;obtain⟨n,z⟩:∃n,(e::l).length=n:=⟨_,rfl⟩;have J:n=l.length+1:=by rw[<-z];rfl
 rw[z] at p D ⊢;have K:¬(n:Int)<1:=by omega
 obtain⟨b,f,y,F,rfl,hb,g,-,⟨rfl,wy⟩,d⟩:=p.o.at_ (i:=0) (by simp);have u:e=y:=by simpa using g
 subst u;have P:w.cell? ⟨b,f,none⟩=some (.int .i64 e):=by simpa using d 0 _ rfl
 have L:(0:Int)<n:=by omega
 clear d g wy s;go_enter func166,ntmps166;go_wp2_with fail;go_loopw [3,4] (λm i wr=>∃j:Nat,i=.int .i64 ((j+1:Nat):Int)/\j<=l.length/\m=.int .i64 ((l.take j).foldl max e)/\wr=w) (λ_ i _=>n - (RowKit.intOf i).toNat);case atStart=>exact⟨0,rfl,by omega,by simp,rfl⟩
 case round=>
  obtain⟨j,rfl,S,rfl,rfl⟩:=hrel;by_cases O:j<l.length
  ·obtain⟨G,r,y,F,hbo,N,g,-,⟨rfl,wy⟩,d⟩:=p.o.at_ (i:=j+1) (by simp;omega);obtain⟨rfl,rfl⟩:b=G/\f=r:=by injection hbo with hbo;injection hbo with H I;exact⟨H,I⟩
   have x:((j+1:Nat):Int)<n:=(by omega);have q:(j:Int)+1<n:=(by omega);have R:wr.cell? ⟨b,f+(j+1),none⟩=some (.int .i64 y):=(by simpa using d 0 _ rfl);have h:l[j]? = some y:=(by simpa using g);have C:Hid ((l.take (j+1)).foldl max e=max ((l.take j).foldl max e) y):=(by rw[show Hid _=_ from rfl,akQ h,List.foldl_append];rfl);clear d g h wy hbo;go_wp2_with fail;go_roundw;case rel=>exact⟨j+1,by go_num,by omega,by rw[C.o],(by first | trivial | rfl)⟩
   case measure=>simp[RowKit.intOf];omega
  ·obtain rfl:j=l.length:=by omega
   have x:¬((l.length+1:Nat):Int)<n:=(by omega);have q:¬(l.length:Int)+1<n:=(by omega);go_wp2_with fail;go_ret;exact⟨rfl,Below.refl _ _⟩
end
section
open Go.RowKit Go.Maps
structure akO (g:Nat) (cs:List Value) where
 wd:World
 here:aA wd g cs
def akL (mb:Nat) (ins:List bG) (s:Int×Int) (a:Nat) (L:List (Nat×Nat)) (W:World) (e:Ending) (W':World):Prop:=
 e=.returned (.agg #[.int .i64 s.1,.int .i64 s.2])/\ai1 mb W W'/\∃L',ai5 W' mb ins L'/\∀k∈L',k∈L\/k.2<=a
def akD (B fb mb:Nat) (ca:List Value) (t:aN) (a:Nat):Prop:=∀(v:Nat) (W:World) (L:List (Nat×Nat)),v<a->a<=t.ins.length->ajC W B fb mb ca t->ai5 W mb t.ins L->
 Calls prog 54 #[.pointer (some ⟨fb,0,none⟩),.int .i64 (v:Int),.int .i64 (a:Int)] W (akL mb t.ins (ai0 t.ins v a) a L W)
theorem infoBo2:(prog.info? 128).map (·.size)=some 2:=by kernel_rfl
theorem amD {e sh h d:Int} (j:okS (e,sh)) {v a:Int} : okS (if v=a then(if e<=min sh (h - d) then(e,min sh (h - d)) else(e,sh)) else(e,sh)):=by
 obtain⟨f,i,g⟩:=j;split
 ·split;·exact⟨f,by assumption,by dsimp only at g ⊢;omega⟩
  ·exact⟨f,i,g⟩
 ·exact⟨f,i,g⟩
theorem alR (S:Int->Int×Int) (f sh v p q d:Int) {g h:Int} {e:Int×Int} (i:(S q).2=g) (j:(S p).1=h) (l:(if v=p then(if f<=min sh (g - d) then(f,min sh (g - d)) else(f,sh)) else(f,sh))=e) : ajA S (f,sh) v p q d=if v=q then(if max e.1 (h+d)<=e.2 then(max e.1 (h+d),e.2) else e) else e:=by subst i;subst j;subst l;rfl
theorem aj6 {B fb s:Nat} {ca:List Value} {t:aN} {a:Nat} (ih:akD B fb s ca t a) (hc:ajD t.ins) {W:World} {L:List (Nat×Nat)} (hf:ajC W B fb s ca t) (hm:ai5 W s t.ins L) (d0:a<=t.ins.length) (hl:t.ins.length<=300) (l sh:Int) (hs:okS (l,sh)) (v:Int) (p q:Nat) (hp:p<a) (hq:q<a) (d:Int) (j4:0<=d) (k0:d<=1) : Calls prog 102 #[.pointer (some ⟨fb,0,none⟩),.agg #[.int .i64 l,.int .i64 sh],.int .i64 v,.int .i64 (p:Int),.int .i64 (q:Int),.int .i64 d,.int .i64 (a:Int)] W (akL s t.ins (ajA (ai0 t.ins · a) (l,sh) v p q d) a L W):=by
 have IH:=hI ih;obtain⟨ql,M,Y⟩:∃ql M,ai0 t.ins q a=(ql,M):=⟨_,_,rfl⟩;obtain⟨G,ph,Z⟩:∃G ph,ai0 t.ins p a=(G,ph):=⟨_,_,rfl⟩;obtain⟨q1,q2,q3⟩:okS (ql,M):=by rw[<-Y];exact ajK hc _ _
 obtain⟨p1,p2,p3⟩:okS (G,ph):=by rw[<-Z];exact ajK hc _ _
 obtain⟨I,a0⟩:∃I,(if v=(p:Int) then(if l<=min sh (M - d) then(l,min sh (M - d)) else(l,sh)) else(l,sh))=I:=⟨_,rfl⟩;have hN:Hid (ajA (ai0 t.ins · a) (l,sh) v p q d=(if v=(q:Int) then(if max I.1 (G+d)<=I.2 then(max I.1 (G+d),I.2) else I) else I)):=alR (ai0 t.ins · a) l sh v p q d (by rw[Y]) (by rw[Z]) a0;have e6:okS I:=by rw[<-a0];exact amD hs
 obtain⟨w,C⟩:=I;dsimp only at hN;obtain⟨o1,o2,o3⟩:=e6;obtain⟨u1,u2,u3⟩:=hs;dsimp only at q1 q2 q3 p1 p2 p3 o1 o2 o3 u1 u2 u3;obtain⟨w1,P⟩:∃w1,w1=(W.alloc (.cells #[.int .i64 l,.int .i64 sh] 128)).alloc (.cells #[.int .i64 0,.int .i64 0] 128):=⟨_,rfl⟩;have K1:Hid (Below W.heap.size W w1):=by rw[P];exact bE W _ _
 have S1:Hid (w1.heap[W.heap.size]? = some (.cells ⟨[.int .i64 l,.int .i64 sh]⟩ 128 (0,0))):=by rw[P];exact aY (aJ W _) _
 have Z1:Hid (w1.heap[W.heap.size+1]? = some (.cells ⟨[.int .i64 0,.int .i64 0]⟩ 128 (0,0))):=by rw[P];exact cQ _ _ _
 have j1:s<W.heap.size:=by obtain⟨es,g7,hb,_⟩:=hm.own;exact(aE hb).1
 have F1:=hI (hf.below K1.o);have M1:=hI (hm.below K1.o);have j2:W.heap.size+1<w1.heap.size:=(aE Z1.o).1;have HW:=hI P;have c7:=hI Y;have c8:=hI Z;have a9:=hI a0;have HF:=hI hf;clear P ih hf hm Y Z a0;go_enter func102,ntmps102;go_upto_region 1 with fail;rw[<-HW.o];go_upto_if 19 with fail;go_cut [15] (λ_ wx=>∃L1,Hid (ai5 wx s t.ins L1)/\Hid (∀k∈L1,k∈L\/k.2<=a)/\Hid (wx.heap[W.heap.size]? = some (.cells ⟨[.int .i64 w,.int .i64 C]⟩ 128 (0,0)))/\Hid (wx.heap[W.heap.size+1]? = some (.cells ⟨[.int .i64 0,.int .i64 0]⟩ 128 (0,0)))/\Hid (ai1 s W wx))
 case first=>
  by_cases c:v=(p:Int)
  ·have b1:(v == (p:Int))=true:=beq_iff_eq.2 c;have f:=a9.o;rw[if_pos c] at f;have J:=hI f;clear f c;go_upto_region 2 with fail;have e0:∀E:akO W.heap.size [.int .i64 l,.int .i64 sh],E.wd.cell? ⟨W.heap.size,1,none⟩=some (.int .i64 sh):=λE=>E.here 1 _ rfl;haveI:Nonempty (akO W.heap.size [.int .i64 l,.int .i64 sh]):=⟨⟨w1,amH S1.o⟩⟩;have V:=IH.o q w1.drew L hq d0 (F1.o.below (Below.refl _ w1).drew) (M1.o.below (Below.refl _ w1).drew);rw[c7.o] at V;have N:=hI V;clear V;have hw:IntKind.i64.wrap (M - d)=M - d:=IntWalk.i64_in _ (by omega);refine gG (λw'=>∃E:akO W.heap.size [.int .i64 l,.int .i64 sh],w'=E.wd) [2,3,4,7] [0,1] [5,6,8,9,10] [5,6,8] _ (by kernel_rfl) (by kernel_rfl) (by simp only[List.cons_append,List.nil_append,List.filterMap_cons,List.filterMap_nil,List.getElem?_toArray,List.getElem?_cons_zero,List.getElem?_cons_succ];rfl) (λ_ _ d _ _ h=>by cases d <;> exact h) ⟨⟨w1.drew,amH S1.o⟩,rfl⟩ ?_;show wpQuiet _ _ _ _ [_,_,_,_,_,_] _;generalize S:(λa'=>gA _ _ _ _ _ _ a' _)=qq;have O:=hI S;clear S;repeat (go_big_quiet_step (fail))
   refine wpQuiet_nil ?_;rw[<-O.o];clear O qq e0;refine bA rfl (λK r=>?_);go_simp;refine N.o.mono ?_;rintro e j ⟨rfl,k2,x,m2,R⟩;have u:Hid (j.heap[W.heap.size]? = some (.cells ⟨[.int .i64 l,.int .i64 sh]⟩ 128 (0,0))):=k2.row S1.o (by omega);have X:Hid (j.heap[W.heap.size+1]? = some (.cells ⟨[.int .i64 0,.int .i64 0]⟩ 128 (0,0))):=k2.row Z1.o (by omega);have K2:Hid (ai1 s W j):=(ai1.of_below K1.o).drew.trans k2;have M2:=hI m2;have F:=hI R;refine r _ _ (λ_=>⟨⟨j,amH u.o⟩,rfl⟩) ?_;clear r K k2 m2 R N;refine bA rfl (λK r=>?_);go_simp;refine r _ _ (λ_=>⟨⟨j,amH u.o⟩,rfl⟩) ?_;clear r K;refine bA rfl (λK r=>?_);go_simp;refine r _ _ (λ_=>⟨⟨j,amH u.o⟩,rfl⟩) ?_;clear r K;refine bP [9,10] _ _ (by kernel_rfl) (by kernel_rfl) ?_;simp only[List.filterMap_cons,List.filterMap_nil,List.getElem?_toArray,List.getElem?_cons_zero,List.getElem?_cons_succ];have f0:=amH u.o 0 (.int .i64 l) rfl;by_cases c2:l<=min sh (M - d)
   ·have m:=J.o;rw[if_pos c2] at m;injection m with f z
    have f1:=amH u.o 1 (.int .i64 sh) rfl;have fz:=fzZ u 1;obtain⟨g,A⟩:∃g,g=j.setCell ⟨W.heap.size,1,none⟩ (.int .i64 (min sh (M - d))):=⟨_,rfl⟩;have y:Hid (g.heap[W.heap.size]? = some (.cells ⟨[.int .i64 w,.int .i64 C]⟩ 128 (0,0))):=(by rw[A,heap_setCell_same j _ 1 _ _ _ u.o,<-f,<-z];rfl);have H:Hid (g.heap[W.heap.size+1]? = some (.cells ⟨[.int .i64 0,.int .i64 0]⟩ 128 (0,0))):=(by rw[A,heap_setCell_other j _ _ _ (by show W.heap.size+1≠W.heap.size;omega)];exact X.o);have M3:Hid (ai5 g s t.ins x):=(by rw[A];exact M2.o.set_ (by omega) _ _);have K3:Hid (ai1 s W g):=(by rw[A];exact K2.o.then (amG (Below.refl _ _) (Nat.le_refl _) _ _));have f7:=hI A;clear A J f z;go_wp2_with fail;rw[<-f7.o];go_meet;case rel=>exact⟨x,M3,F,y,H,K3⟩
   ·have m:=J.o;rw[if_neg c2] at m;injection m with f z
    subst f;subst z;clear J;go_wp2_with fail;go_meet;case rel=>exact⟨x,M2,F,u,X,K2⟩
  ·have b1:(v == (p:Int))=false:=bF c;have f:=a9.o;rw[if_neg c] at f;injection f with f z
   subst f;subst z;go_wp2_with fail;go_meet;case rel=>exact⟨L,M1,λk hk=>.inl hk,S1,Z1,.of_below K1.o⟩
 case rest=>
  obtain⟨j,g0⟩:∃j,j=wc:=⟨_,rfl⟩;subst g0;obtain⟨L1,M2,c9,u,X,K2⟩:=hcut;have F2:=hI (HF.o.fined K2.o);clear a9 c7 F1 M1 S1 Z1 HW;have j3:W.heap.size+1<j.heap.size:=(aE X.o).1;obtain⟨s2,b4⟩:∃s2,(if v=(q:Int) then(if max w (G+d)<=C then(max w (G+d),C) else(w,C)) else(w,C))=s2:=⟨_,rfl⟩;have f9:Hid (ajA (ai0 t.ins · a) (l,sh) v p q d=s2):=by rw[show Hid _=_ from rfl,hN.o];exact b4
  obtain⟨r1,r2⟩:=s2;have b0:=hI b4;clear b4 hN;go_upto_if 38 with fail;go_cut [16] (λ_ wx=>∃x,Hid (ai5 wx s t.ins x)/\Hid (∀k∈x,k∈L\/k.2<=a)/\Hid (wx.heap[W.heap.size]? = some (.cells ⟨[.int .i64 r1,.int .i64 r2]⟩ 128 (0,0)))/\Hid (wx.heap[W.heap.size+1]? = some (.cells ⟨[.int .i64 0,.int .i64 0]⟩ 128 (0,0)))/\Hid (ai1 s W wx))
  case first=>
   by_cases c:v=(q:Int)
   ·have b1:(v == (q:Int))=true:=beq_iff_eq.2 c;have f:=b0.o;rw[if_pos c] at f;have J:=hI f;clear f c;go_upto_region 6 with fail;have e0:∀E:akO W.heap.size [.int .i64 w,.int .i64 C],E.wd.cell? ⟨W.heap.size,0,none⟩=some (.int .i64 w):=λE=>E.here 0 _ rfl;haveI:Nonempty (akO W.heap.size [.int .i64 w,.int .i64 C]):=⟨⟨j,amH u.o⟩⟩;have V:=IH.o p j.drew L1 hp d0 (F2.o.below (Below.refl _ j).drew) (M2.o.below (Below.refl _ j).drew);rw[c8.o] at V;have N:=hI V;clear V;have hw:IntKind.i64.wrap (G+d)=G+d:=IntWalk.i64_in _ (by omega);refine gG (λw'=>∃E:akO W.heap.size [.int .i64 w,.int .i64 C],w'=E.wd) [2,3,4,7] [0,1] [5,6,8,9,10] [5,6,8] _ (by kernel_rfl) (by kernel_rfl) (by simp only[List.cons_append,List.nil_append,List.filterMap_cons,List.filterMap_nil,List.getElem?_toArray,List.getElem?_cons_zero,List.getElem?_cons_succ];rfl) (λ_ _ d _ _ h=>by cases d <;> exact h) ⟨⟨j.drew,amH u.o⟩,rfl⟩ ?_;show wpQuiet _ _ _ _ [_,_,_,_,_,_] _;generalize S:(λa'=>gA _ _ _ _ _ _ a' _)=qq;have O:=hI S;clear S;repeat (go_big_quiet_step (fail))
    refine wpQuiet_nil ?_;rw[<-O.o];clear O qq e0;refine bA rfl (λK r=>?_);go_simp;refine N.o.mono ?_;rintro e g ⟨rfl,k3,x,m3,R⟩;have y:Hid (g.heap[W.heap.size]? = some (.cells ⟨[.int .i64 w,.int .i64 C]⟩ 128 (0,0))):=k3.row u.o (by omega);have H:Hid (g.heap[W.heap.size+1]? = some (.cells ⟨[.int .i64 0,.int .i64 0]⟩ 128 (0,0))):=k3.row X.o (by omega);have K3:Hid (ai1 s W g):=K2.o.drew.trans k3;have M3:=hI m3;have F:Hid (∀k∈x,k∈L\/k.2<=a):=λk hk=>by
     rcases R k hk with h | h;·exact c9.o k h
     ·exact .inr h
    refine r _ _ (λ_=>⟨⟨g,amH y.o⟩,rfl⟩) ?_;clear r K k3 m3 R N;refine bA rfl (λK r=>?_);go_simp;refine r _ _ (λ_=>⟨⟨g,amH y.o⟩,rfl⟩) ?_;clear r K;refine bA rfl (λK r=>?_);go_simp;refine r _ _ (λ_=>⟨⟨g,amH y.o⟩,rfl⟩) ?_;clear r K;refine bP [9,10] _ _ (by kernel_rfl) (by kernel_rfl) ?_;simp only[List.filterMap_cons,List.filterMap_nil,List.getElem?_toArray,List.getElem?_cons_zero,List.getElem?_cons_succ];have f1:=amH y.o 1 (.int .i64 C) rfl;by_cases c2:max w (G+d)<=C
    ·have m:=J.o;rw[if_pos c2] at m;injection m with f z
     have f0:=amH y.o 0 (.int .i64 w) rfl;have fz:=fzZ y 0;obtain⟨D,i⟩:∃D,D=g.setCell ⟨W.heap.size,0,none⟩ (.int .i64 (max w (G+d))):=⟨_,rfl⟩;have S4:Hid (D.heap[W.heap.size]? = some (.cells ⟨[.int .i64 r1,.int .i64 r2]⟩ 128 (0,0))):=(by rw[i,heap_setCell_same g _ 0 _ _ _ y.o,<-f,<-z];rfl);have Z4:Hid (D.heap[W.heap.size+1]? = some (.cells ⟨[.int .i64 0,.int .i64 0]⟩ 128 (0,0))):=(by rw[i,heap_setCell_other g _ _ _ (by show W.heap.size+1≠W.heap.size;omega)];exact H.o);have M4:Hid (ai5 D s t.ins x):=(by rw[i];exact M3.o.set_ (by omega) _ _);have K4:Hid (ai1 s W D):=(by rw[i];exact K3.o.then (amG (Below.refl _ _) (Nat.le_refl _) _ _));have b2:=hI i;clear i J f z;go_wp2_with fail;rw[<-b2.o];go_meet;case rel=>exact⟨x,M4,F,S4,Z4,K4⟩
    ·have m:=J.o;rw[if_neg c2] at m;injection m with f z
     subst f;subst z;clear J;go_wp2_with fail;go_meet;case rel=>exact⟨x,M3,F,y,H,K3⟩
   ·have b1:(v == (q:Int))=false:=bF c;have f:=b0.o;rw[if_neg c] at f;injection f with f z
    subst f;subst z;go_wp2_with fail;go_meet;case rel=>exact⟨L1,M2,c9,u,X,K2⟩
  case rest=>obtain⟨g,A⟩:∃g,g=wc:=⟨_,rfl⟩;subst A;obtain⟨x,M3,F,y,H,K3⟩:=hcut;clear u X M2 F2 b0 c8;have f0:=amH y.o 0 (.int .i64 r1) rfl;have f1:=amH y.o 1 (.int .i64 r2) rfl;have z0:=amH H.o 0 (.int .i64 0) rfl;have z1:=amH H.o 1 (.int .i64 0) rfl;have y0:=fzZ H 0;have y1:=fzZ H 1;obtain⟨D,i⟩:∃D,D=(g.setCell ⟨W.heap.size+1,0,none⟩ (.int .i64 r1)).setCell ⟨W.heap.size+1,1,none⟩ (.int .i64 r2):=⟨_,rfl⟩;have Z4:Hid (D.heap[W.heap.size+1]? = some (.cells ⟨[.int .i64 r1,.int .i64 r2]⟩ 128 (0,0))):=(by rw[i,heap_setCell_same _ _ 1 _ _ _ (heap_setCell_same g _ 0 _ _ _ H.o)];rfl);have M4:Hid (ai5 D s t.ins x):=(by rw[i];exact(M3.o.set_ (by omega) _ _).set_ (by omega) _ _);have K4:Hid (ai1 s W D):=(by rw[i];exact K3.o.then (amG (amG (Below.refl _ _) (by omega) _ _) (by omega) _ _));have b2:=hI i;clear i;go_wp2_with fail;rw[<-b2.o];have n0:=crZ Z4 0 rfl;have n1:=crZ Z4 1 rfl;rw[f9.o];exact bodyPost_ret (v:=.agg #[.int .i64 r1,.int .i64 r2]) (by simp[results,results102,go_sem,n0,n1]) rfl ⟨rfl,K4.o,x,M4.o,F.o⟩
end
end Go.Proofs.YtjaphgpkkfdaaaaGreatDoor
