/- A part of the walk. -/
import Derived.Test.YtjaphgpkkfdaaaaGreatDoorZS
set_option maxHeartbeats 16000000
set_option maxRecDepth 100000
set_option linter.all false
namespace Go.Proofs.YtjaphgpkkfdaaaaGreatDoor
open Tryz
section
open Go.RowKit
def WfV (v:Val):Prop:=wfi v.kind/\wfi v.n
def WfC (c:bC):Prop:=wfi c.kind/\wfi c.num/\∀v∈c.vals,WfV v
def cK:List bC->List Value->List Value->List (List Value)
 | c::l,v::vs,f::fs=>bD c v f::cK l vs fs
 | _,_,_=>[]
theorem eP:∀(l:List bC) (vs d:List Value) (i:Nat) (c:bC) (v f:Value),l[i]? = some c->vs[i]? = some v->d[i]? = some f->(cK l vs d)[i]? = some (bD c v f)
 | [],_,_,_,_,_,_,h,_,_=>by simp at h
 | _::_,[],_,_,_,_,_,_,h,_=>by simp at h
 | _::_,_::_,[],_,_,_,_,_,_,h=>by simp at h
 | f::l,r::rs,t::ts,0,f',r',t',h1,h2,h3=>by
  simp only[List.getElem?_cons_zero,Option.some.injEq] at h1 h2 h3
  subst h1;subst h2;subst h3;rfl
 | f::l,r::rs,t::ts,i+1,f',r',t',h1,h2,h3=>by
  simp only[List.getElem?_cons_succ] at h1 h2 h3
  exact eP l rs ts i f' r' t' h1 h2 h3
theorem g8:∀(l:List bC) (vs d:List Value),∀x∈cK l vs d,x.length=4
 | [],_,_,x,h=>by unfold cK at h;cases h
 | f::l,[],_,x,h=>by unfold cK at h;cases h
 | f::l,_::_,[],x,h=>by unfold cK at h;cases h
 | f::l,r::rs,t::ts,x,h=>by
  unfold cK at h
  rcases List.mem_cons.1 h with rfl | h
  ·rfl
  ·exact g8 l rs ts x h
theorem kP:∀(l:List bC) (vs d:List Value) (i:Nat) (c:bC) (v f:Value),vs.length=l.length->d.length=l.length->(cK l vs d).set i (bD c v f)=cK (l.set i c) (vs.set i v) (d.set i f)
 | [],_,_,_,_,_,_,_,_=>by unfold cK;rfl
 | _::_,[],_,_,_,_,_,h,_=>by simp at h
 | _::_,_::_,[],_,_,_,_,_,h=>by simp at h
 | x::l,y::vs,z::d,0,c,v,f,_,_=>rfl
 | x::l,y::vs,z::d,i+1,c,v,f,h1,h2=>by
  show bD x y z::(cK l vs d).set i _=bD x y z::cK (l.set i c) (vs.set i v) (d.set i f)
  rw[kP l vs d i c v f (by simpa using h1) (by simpa using h2)]
theorem sF:∀(l:List bC) (vs d:List Value) (c:bC) (v f:Value),vs.length=l.length->d.length=l.length->cK (l++[c]) (vs++[v]) (d++[f])=cK l vs d++[bD c v f]
 | [],[],[],_,_,_,_,_=>rfl
 | [],_::_,_,_,_,_,h,_=>by simp at h
 | [],[],_::_,_,_,_,_,h=>by simp at h
 | _::_,[],_,_,_,_,h,_=>by simp at h
 | _::_,_::_,[],_,_,_,_,h=>by simp at h
 | x::l,y::vs,z::d,c,v,f,h1,h2=>by
  show bD x y z::cK (l++[c]) (vs++[v]) (d++[f])=bD x y z::(cK l vs d++[bD c v f])
  rw[sF l vs d c v f (by simpa using h1) (by simpa using h2)]
def sO (w:World) (Q:Nat->Prop) (cs:List Value) (x:a8):Prop:=
 ∃r t,cs=[.int .i64 x.fn,.int .i64 x.at_,.int .i64 x.tos,.int .i64 x.gen,.int .i64 x.self.kind,.int .i64 x.self.n,r,t]/\bK w Q 2 hU r x.regs/\bK w Q 2 jW t x.tries/\
  wfi x.fn/\wfi x.at_/\wfi x.tos/\wfi x.gen/\wfi x.self.kind/\wfi x.self.n
structure kI where
 w1:World
 Q:Nat->Prop
 Qf:Nat->Prop
 B:Nat
 B0:Nat
 wb:Nat
 fb:Nat
 fo:Nat
 rv:Value
 t:aN
 tcs:List Value
 shv:Value
 shapes:List aT
 self:Val
structure hP (Γ : kI):Prop where
 q1:∀b,Γ.Q b->b < Γ.w1.heap.size
 q0:∀b,b < Γ.B0->Γ.Q b
 b1 : Γ.B<=Γ.w1.heap.size
 qw:¬ Γ.Q Γ.wb
 qf:¬ Γ.Q Γ.fb
 tl : Γ.tcs.length=13
 tr:cT Γ.w1 Γ.B0 Γ.tcs Γ.t
 sh:bK Γ.w1 Γ.Q 2 jX Γ.shv Γ.shapes
 f4 : Γ.w1.cell? ⟨Γ.fb,Γ.fo+4,none⟩=some (.int .i64 Γ.self.kind)
 f5 : Γ.w1.cell? ⟨Γ.fb,Γ.fo+5,none⟩=some (.int .i64 Γ.self.n)
 f6 : Γ.w1.cell? ⟨Γ.fb,Γ.fo+6,none⟩=some Γ.rv
 wfs:WfV Γ.self
structure bO (Γ : kI) (w:World) (W:aI) (cv vv:Value) (vs fs:List Value):Prop where
 row:w.heap[Γ.wb]? = some (.cells ⟨Γ.tcs++[cv,Γ.shv,.pointer (some ⟨Γ.fb,Γ.fo,none⟩),.int .i64 W.steps,vv]⟩ 85 (0,0))
 frow:∃cs,w.heap[Γ.fb]? = some (.cells cs 61 (0,0))
 fat:w.cell? ⟨Γ.fb,Γ.fo+1,none⟩=some (.int .i64 W.at_)
 frest:∀k,k≠Γ.fo+1->w.cell? ⟨Γ.fb,k,none⟩ = Γ.w1.cell? ⟨Γ.fb,k,none⟩
 lv:vs.length=W.cells.length
 lf:fs.length=W.cells.length
 crow:w.ownsRow Γ.B 55 4 cv W.cells.length ((cK W.cells vs fs).flatMap id)
 vals:w.ownsRow Γ.B 48 2 vv W.vals.length (W.vals.flatMap aZ)
 regs:w.ownsRow Γ.B 48 2 Γ.rv W.regs.length (W.regs.flatMap aZ)
 cvals:∀(i:Nat) v c,vs[i]? = some v->W.cells[i]? = some c->w.ownsRow Γ.B 48 2 v c.vals.length (c.vals.flatMap aZ)
 ap1:∀g,vv.ownBlock=some g->Γ.rv.ownBlock≠some g
 ap2:∀(i:Nat) v g,vs[i]? = some v->v.ownBlock=some g->vv.ownBlock≠some g/\Γ.rv.ownBlock≠some g
 ap3:∀(i j:Nat) a b g,i≠j->vs[i]? = some a->vs[j]? = some b->a.ownBlock=some g->b.ownBlock≠some g
 nqc:∀g,cv.ownBlock=some g->¬ Γ.Q g
 nqv:∀g,vv.ownBlock=some g->¬ Γ.Q g
 nqr:∀g,Γ.rv.ownBlock=some g->¬ Γ.Q g
 nqs:∀(i:Nat) v g,vs[i]? = some v->v.ownBlock=some g->¬ Γ.Q g
 fixed:∀b,Γ.Q b->w.heap[b]? = Γ.w1.heap[b]?
 cfr:∀(i:Nat) f c,fs[i]? = some f->W.cells[i]? = some c->bK Γ.w1 Γ.Qf 8 (sO Γ.w1 Γ.Qf) f c.frames
 size : Γ.w1.heap.size<=w.heap.size
 wfc:∀c∈W.cells,WfC c
 wfv:∀v∈W.vals,WfV v
 wfr:∀v∈W.regs,WfV v
 wfa:wfi W.at_
 wfs:wfi W.steps
structure cA (T:Nat->Prop) (w w':World):Prop where
 os:w'.os=w.os
 tape:w'.tape=w.tape
 output:w'.output=w.output
 size:w.heap.size<=w'.heap.size
 block:∀k,k<w.heap.size->¬T k->w'.heap[k]? = w.heap[k]?
theorem cA.refl {T:Nat->Prop} {w:World} : cA T w w:=⟨rfl,rfl,rfl,Nat.le_refl _,λ_ _ _=>rfl⟩
theorem cA.of {T:Nat->Prop} {w w':World} (h:Below w.heap.size w w'):cA T w w':=⟨h.os,h.tape,h.output,h.size,λk d _=>h.block k d⟩
theorem cA.trans {T:Nat->Prop} {a b c:World} (h:cA T a b) (g:cA T b c):cA T a c:= ⟨g.os.trans h.os,g.tape.trans h.tape,g.output.trans h.output,Nat.le_trans h.size g.size,λk d ht=>(g.block k (Nat.lt_of_lt_of_le d h.size) ht).trans (h.block k d ht)⟩
theorem cA.mono {T e:Nat->Prop} {a b:World} (h:cA T a b) (g:∀k,k<a.heap.size->T k->e k):cA e a b:=⟨h.os,h.tape,h.output,h.size,λk d ht=>h.block k d (λf=>ht (g k d f))⟩
theorem cA.set {T:Nat->Prop} {w w':World} (h:cA T w w') {g:Nat} (e:T g) (j:Nat) (u:Value):cA T w (w'.setCell ⟨g,j,none⟩ u):= ⟨h.os,h.tape,h.output,by simpa [World.setCell] using h.size,λk d ht=>(heap_setCell_other _ _ _ _ (by rintro rfl;exact ht e)).trans (h.block k d ht)⟩
theorem cA.grown {T:Nat->Prop} {a b c:World} (h:cA T a b) {o:Option Nat} (d:b.grownBy c o) (i:∀g,o=some g->T g):cA T a c:= ⟨d.os.trans h.os,d.tape.trans h.tape,d.output.trans h.output,Nat.le_trans h.size d.size,λk f ht=>(d.block k (Nat.lt_of_lt_of_le f h.size) (λe=>ht (i k e.symm))).trans (h.block k f ht)⟩
theorem aX {w:World} {B n size:Nat} {e:TypeId} {v:Value} {xs:List Value} (h:w.ownsRow B e size v n xs) {g:Nat} (d:v.ownBlock=some g):∃cs,w.heap[g]? = some (.cells cs e (0,0)):=by
 rcases h.2 with ⟨rfl,-⟩ | ⟨l,j,f,rfl,hb,i,-⟩;·cases d
 ·injection d with d;subst d;exact⟨f,i⟩
theorem fG {w w':World} {B n size:Nat} {e:TypeId} {v:Value} {xs:List Value} (h:w.ownsRow B e size v n xs) (j:∀g,v.ownBlock=some g->w'.heap[g]? = w.heap[g]?):w'.ownsRow B e size v n xs:=by
 obtain⟨hl,i⟩:=h;refine⟨hl,?_⟩;rcases i with ⟨rfl,l⟩ | ⟨g,d,f,rfl,hb,m,p⟩;·exact .inl ⟨rfl,l⟩
 ·exact .inr ⟨g,d,f,rfl,hb,(j g rfl).trans m,p⟩
theorem aV {w:World} {g:Nat} {x:Obj} (h:w.heap[g]? = some x):g<w.heap.size:=(aE h).1
section
variable {Γ : kI} {w w':World} {W:aI} {cv vv:Value} {vs fs:List Value}
theorem bJ {g k:Nat} {cs f:Array Value} {e i:TypeId} (h:w.heap[g]? = some (.cells cs e (0,0))) (d:w.heap[k]? = some (.cells f i (0,0))) (j:e≠i):g≠k:=by rintro rfl;rw[h] at d;injection d with d;injection d with _ d;exact j d
theorem bO.putVal0 (L:bO Γ w W cv vv vs fs) {T:Nat->Prop} (o:cA T w w') (j:∀g,g<w.heap.size->T g->∃cs,w.heap[g]? = some (.cells cs 48 (0,0))) (l:∀g,T g->¬ Γ.Q g) (K:hP Γ) : w'.heap[Γ.wb]? = w.heap[Γ.wb]?/\w'.heap[Γ.fb]? = w.heap[Γ.fb]?/\(∀g,cv.ownBlock=some g->w'.heap[g]? = w.heap[g]?)/\(∀b,Γ.Q b->w'.heap[b]? = w.heap[b]?):=by have far:∀(g:Nat) (cs:Array Value) (e:TypeId),w.heap[g]? = some (.cells cs e (0,0))->e≠48->w'.heap[g]? = w.heap[g]?:=λg cs e h d=> o.block g (aV h) (λht=>by obtain⟨m,f⟩:=j g (aV h) ht;exact bJ h f d rfl);obtain⟨p,hf⟩:=L.frow;refine⟨far _ _ _ L.row (by decide),far _ _ _ hf (by decide),λg i=>?_,λb hb=>o.block b (Nat.lt_of_lt_of_le (K.q1 b hb) L.size) (λht=>l b ht hb)⟩;obtain⟨cs,h⟩:=aX L.crow i;exact far _ _ _ h (by decide)
theorem bO.below (L:bO Γ w W cv vv vs fs) (K:hP Γ) (h:Below w.heap.size w w'):bO Γ w' W cv vv vs fs:=by
 obtain⟨e,hf⟩:=L.frow
 have d:=h.block _ (aV hf)
 exact { L with
  row:=(h.block _ (aV L.row)).trans L.row
  frow:=⟨e,d.trans hf⟩
  fat:=(World.cell?_of_block d).trans L.fat
  frest:=λk f=>(World.cell?_of_block d).trans (L.frest k f)
  crow:=cZ L.crow h
  vals:=cZ L.vals h
  regs:=cZ L.regs h
  cvals:=λi v c g j=>cZ (L.cvals i v c g j) h
  fixed:=λb hb=>(h.block b (Nat.lt_of_lt_of_le (K.q1 b hb) L.size)).trans (L.fixed b hb)
  size:=Nat.le_trans L.size h.size }
theorem bO.putVals (L:bO Γ w W cv vv vs fs) (K:hP Γ) {l:List Val} (o:cA (λk=>vv.ownBlock=some k) w w') (h:w'.ownsRow Γ.B 48 2 vv l.length (l.flatMap aZ)) (wf:∀v∈l,WfV v):bO Γ w' { W with vals:=l } cv vv vs fs:=by
 obtain⟨m,e,p,q⟩:=L.putVal0 o (λg _ d=>aX L.vals d) L.nqv K
 obtain⟨r,hf⟩:=L.frow
 exact { L with
  row:=m.trans L.row
  frow:=⟨r,e.trans hf⟩
  fat:=(World.cell?_of_block e).trans L.fat
  frest:=λk s=>(World.cell?_of_block e).trans (L.frest k s)
  crow:=fG L.crow p
  vals:=h
  regs:=fG L.regs (λg d=>o.block g (L.regs.lt g d).2 (λh=>L.ap1 g h d))
  cvals:=λi v c f j=>fG (L.cvals i v c f j) (λg d=>o.block g ((L.cvals i v c f j).lt g d).2 (λh=>(L.ap2 i v g f d).1 h))
  fixed:=λb hb=>(q b hb).trans (L.fixed b hb)
  size:=Nat.le_trans L.size o.size
  wfv:=wf }
theorem bO.putRegs (L:bO Γ w W cv vv vs fs) (K:hP Γ) {l:List Val} (o:cA (λk=>Γ.rv.ownBlock=some k) w w') (h:w'.ownsRow Γ.B 48 2 Γ.rv l.length (l.flatMap aZ)) (wf:∀v∈l,WfV v):bO Γ w' { W with regs:=l } cv vv vs fs:=by
 obtain⟨m,e,p,q⟩:=L.putVal0 o (λg _ d=>aX L.regs d) L.nqr K
 obtain⟨r,hf⟩:=L.frow
 exact { L with
  row:=m.trans L.row
  frow:=⟨r,e.trans hf⟩
  fat:=(World.cell?_of_block e).trans L.fat
  frest:=λk s=>(World.cell?_of_block e).trans (L.frest k s)
  crow:=fG L.crow p
  vals:=fG L.vals (λg d=>o.block g (L.vals.lt g d).2 (λh=>L.ap1 g d h))
  regs:=h
  cvals:=λi v c f j=>fG (L.cvals i v c f j) (λg d=>o.block g ((L.cvals i v c f j).lt g d).2 (λh=>(L.ap2 i v g f d).2 h))
  fixed:=λb hb=>(q b hb).trans (L.fixed b hb)
  size:=Nat.le_trans L.size o.size
  wfr:=wf }
theorem bY {α : Type} {l:List α} {n i:Nat} {x y : α} (h:(l.set n x)[i]? = some y):(i=n/\y=x)\/(i≠n/\l[i]? = some y):=by
 by_cases hi:i=n
 ·subst hi;have hl:=(lE h).1;rw[List.length_set] at hl;rw[List.getElem?_set_self hl] at h;injection h with h
  exact .inl ⟨rfl,h.symm⟩
 ·rw[List.getElem?_set_ne (λe=>hi e.symm)] at h;exact .inr ⟨hi,h⟩
theorem bO.putCell (L:bO Γ w W cv vv vs fs) (K:hP Γ) {n:Nat} {c':bC} {v v' f':Value} (q:vs[n]? = some v) (o:cA (λk=>v.ownBlock=some k\/cv.ownBlock=some k) w w') (X:w'.ownsRow Γ.B 55 4 cv W.cells.length ((cK (W.cells.set n c') (vs.set n v') (fs.set n f')).flatMap id)) (Y:w'.ownsRow Γ.B 48 2 v' c'.vals.length (c'.vals.flatMap aZ)) (hb:∀g,v'.ownBlock=some g->v.ownBlock=some g\/w.heap.size<=g) (hf:bK Γ.w1 Γ.Qf 8 (sO Γ.w1 Γ.Qf) f' c'.frames) (wf:WfC c') : bO Γ w' (setCW W n c') cv vv (vs.set n v') (fs.set n f'):=by
 obtain⟨Z,H⟩:=L.frow;have C:n<W.cells.length:=by rw[<-L.lv];exact(lE q).1
 have N:W.cells[n]? = some W.cells[n]:=lG C;have far:∀(g:Nat) (cs:Array Value) (e:TypeId),w.heap[g]? = some (.cells cs e (0,0))->e≠48->e≠55->w'.heap[g]? = w.heap[g]?:=λg cs e h h1 D=>
  o.block g (aV h) (λht=>by
   rcases ht with ht | ht
   ·obtain⟨I,E⟩:=aX (L.cvals n v _ q N) ht
    exact bJ h E h1 rfl
   ·obtain⟨I,E⟩:=aX L.crow ht
    exact bJ h E D rfl)
 have s:∀(u:Value) (xs:List Value) (m:Nat),w.ownsRow Γ.B 48 2 u m xs->(∀g,u.ownBlock=some g->v.ownBlock≠some g)->w'.ownsRow Γ.B 48 2 u m xs:=λu xs m h S=>
  fG h (λg l=>o.block g (h.lt g l).2 (λht=>by
   rcases ht with ht | ht
   ·exact S g l ht
   ·obtain⟨I,E⟩:=aX L.crow ht
    obtain⟨cs,R⟩:=aX h l
    exact bJ R E (by decide) rfl))
 have D:=far _ _ _ H (by decide) (by decide);have x:(W.cells.set n c').length=W.cells.length:=List.length_set;exact {
  row:=(far _ _ _ L.row (by decide) (by decide)).trans L.row
  frow:=⟨Z,D.trans H⟩
  fat:=(World.cell?_of_block D).trans L.fat
  frest:=λk hk=>(World.cell?_of_block D).trans (L.frest k hk)
  lv:=by show(vs.set n v').length=(W.cells.set n c').length;rw[List.length_set,x];exact L.lv
  lf:=by show(fs.set n f').length=(W.cells.set n c').length;rw[List.length_set,x];exact L.lf
  crow:=by show w'.ownsRow Γ.B _ 4 cv (W.cells.set n c').length _;rw[x];exact X
  vals:=s _ _ _ L.vals (λg l h=>(L.ap2 n v g q h).1 l)
  regs:=s _ _ _ L.regs (λg l h=>(L.ap2 n v g q h).2 l)
  cvals:=λi u c F G=>by
   have d:(W.cells.set n c')[i]? = some c:=G
   rcases bY F with ⟨rfl,rfl⟩ | ⟨hi,r⟩
   ·rw[List.getElem?_set_self C] at d
    injection d with d;subst d;exact Y
   ·rw[List.getElem?_set_ne (λe=>hi e.symm)] at d
    exact s _ _ _ (L.cvals i u c r d) (λg l=>L.ap3 i n u v g hi r q l)
  ap1:=L.ap1
  ap2:=λi u g F l=>by
   rcases bY F with ⟨rfl,rfl⟩ | ⟨hi,r⟩
   ·rcases hb g l with h | h
    ·exact L.ap2 i v g q h
    ·exact⟨λe=>by have:=(L.vals.lt g e).2;omega,λe=>by have:=(L.regs.lt g e).2;omega⟩
   ·exact L.ap2 i u g r l
  ap3:=λi j a b g y ha J l=>by
   rcases bY ha with ⟨rfl,rfl⟩ | ⟨hi,z⟩
   ·rcases bY J with ⟨rfl,rfl⟩ | ⟨hj,p⟩
    ·exact absurd rfl y
    ·rcases hb g l with h | h
     ·exact L.ap3 i j v b g y q p h
     ·intro e
      have O:j<W.cells.length:=by rw[<-L.lv];exact(lE p).1
      have:=((L.cvals j b _ p (lG O)).lt g e).2
      omega
   ·rcases bY J with ⟨rfl,rfl⟩ | ⟨hj,p⟩
    ·intro e
     rcases hb g e with h | h
     ·exact L.ap3 i j a v g y z q l h
     ·have P:i<W.cells.length:=by rw[<-L.lv];exact(lE z).1
      have:=((L.cvals i a _ z (lG P)).lt g l).2
      omega
    ·exact L.ap3 i j a b g y z p l
  nqc:=L.nqc
  nqv:=L.nqv
  nqr:=L.nqr
  nqs:=λi u g F l=>by
   rcases bY F with ⟨rfl,rfl⟩ | ⟨hi,r⟩
   ·rcases hb g l with h | h
    ·exact L.nqs i v g q h
    ·intro A;have:=K.q1 g A;have:=L.size;omega
   ·exact L.nqs i u g r l
  fixed:=λb A=>(o.block b (Nat.lt_of_lt_of_le (K.q1 b A) L.size) (λht=>by
   rcases ht with ht | ht
   ·exact L.nqs n v b q ht A
   ·exact L.nqc b ht A)).trans (L.fixed b A)
  cfr:=λi f c V G=>by
   have d:(W.cells.set n c')[i]? = some c:=G
   rcases bY V with ⟨rfl,rfl⟩ | ⟨hi,M⟩
   ·rw[List.getElem?_set_self C] at d
    injection d with d;subst d;exact hf
   ·rw[List.getElem?_set_ne (λe=>hi e.symm)] at d
    exact L.cfr i f c M d
  size:=Nat.le_trans L.size o.size
  wfc:=λc G=>by
   rcases List.mem_or_eq_of_mem_set (show c∈W.cells.set n c' from G) with h | h
   ·exact L.wfc c h
   ·rw[h];exact wf
  wfv:=L.wfv
  wfr:=L.wfr
  wfa:=L.wfa
  wfs:=L.wfs }
theorem bO.snoc (L:bO Γ w W cv vv vs fs) (K:hP Γ) {kind num:Int} {q:Value} (G:wfi kind/\wfi num) (o:cA (λk=>cv.ownBlock=some k\/k = Γ.wb) w w') (M:w'.heap[Γ.wb]? = some (.cells ⟨Γ.tcs++[q,Γ.shv,.pointer (some ⟨Γ.fb,Γ.fo,none⟩),.int .i64 W.steps,vv]⟩ 85 (0,0))) (O:w'.ownsRow Γ.B 55 4 q (W.cells.length+1) ((cK W.cells vs fs).flatMap id++bD ⟨kind,num,[],[]⟩ (.slice none 0 0) (.slice none 0 0))) (hb:∀g,q.ownBlock=some g->cv.ownBlock=some g\/w.heap.size<=g) : bO Γ w' { W with cells:=W.cells++[⟨kind,num,[],[]⟩] } q vv (vs++[.slice none 0 0]) (fs++[.slice none 0 0]):=by
 obtain⟨P,H⟩:=L.frow;have far:∀(g:Nat) (cs:Array Value) (e:TypeId),w.heap[g]? = some (.cells cs e (0,0))->e≠85->e≠55->w'.heap[g]? = w.heap[g]?:=λg cs e h R C=>
  o.block g (aV h) (λht=>by
   rcases ht with ht | ht
   ·obtain⟨V,I⟩:=aX L.crow ht
    exact bJ h I C rfl
   ·exact bJ h L.row R ht)
 have r:∀(u:Value) (xs:List Value) (m:Nat),w.ownsRow Γ.B 48 2 u m xs->w'.ownsRow Γ.B 48 2 u m xs:=λu xs m h=> fG h (λg d=>by obtain⟨cs,I⟩:=aX h d;exact far _ _ _ I (by decide) (by decide));have C:=far _ _ _ H (by decide) (by decide);have old:∀ {α : Type} {l:List α} {i:Nat} {x y : α},(l++[x])[i]? = some y->l[i]? = some y\/(i=l.length/\y=x):=λ{α l i x y} h=>by
  rcases Nat.lt_trichotomy i l.length with hi | hi | hi;·rw[List.getElem?_append_left hi] at h;exact .inl h
  ·subst hi;simp at h;exact .inr ⟨rfl,h.symm⟩
  ·rw[List.getElem?_eq_none (by simp;omega)] at h;cases h
 exact {
  row:=M
  frow:=⟨P,C.trans H⟩
  fat:=(World.cell?_of_block C).trans L.fat
  frest:=λk G=>(World.cell?_of_block C).trans (L.frest k G)
  lv:=by simp[L.lv]
  lf:=by simp[L.lf]
  crow:=by
   show w'.ownsRow Γ.B _ 4 q (W.cells++[_]).length ((cK (W.cells++[_]) _ _).flatMap id)
   rw[sF _ _ _ _ _ _ L.lv L.lf,List.length_append,List.flatMap_append]
   simpa using O
  vals:=r _ _ _ L.vals
  regs:=r _ _ _ L.regs
  cvals:=λi u c p s=>by
   rcases old p with p | ⟨hi,rfl⟩
   ·have D:i<W.cells.length:=by rw[<-L.lv];exact(lE p).1
    have E:W.cells[i]? = some c:=by
     have:(W.cells++[(⟨kind,num,[],[]⟩:bC)])[i]? = some c:=s
     rwa [List.getElem?_append_left D] at this
    exact r _ _ _ (L.cvals i u c p E)
   ·have:(W.cells++[(⟨kind,num,[],[]⟩:bC)])[i]? = some c:=s
    rw[hi,L.lv] at this
    simp at this
    subst this
    exact⟨rfl,.inl ⟨rfl,rfl⟩⟩
  ap1:=L.ap1
  ap2:=λi u g p d=>by
   rcases old p with p | ⟨hi,rfl⟩
   ·exact L.ap2 i u g p d
   ·cases d
  ap3:=λi j a b g N J F d=>by
   rcases old J with J | ⟨hi,rfl⟩
   ·rcases old F with F | ⟨X,rfl⟩
    ·exact L.ap3 i j a b g N J F d
    ·intro e;cases e
   ·cases d
  nqc:=λg d z=>by
   rcases hb g d with h | h
   ·exact L.nqc g h z
   ·have:=K.q1 g z;have:=L.size;omega
  nqv:=L.nqv
  nqr:=L.nqr
  nqs:=λi u g p d=>by
   rcases old p with p | ⟨hi,rfl⟩
   ·exact L.nqs i u g p d
   ·cases d
  fixed:=λb z=>(o.block b (Nat.lt_of_lt_of_le (K.q1 b z) L.size) (λht=>by
   rcases ht with ht | ht
   ·exact L.nqc b ht z
   ·subst ht;exact K.qw z)).trans (L.fixed b z)
  cfr:=λi f c A s=>by
   rcases old A with A | ⟨hi,rfl⟩
   ·have D:i<W.cells.length:=by rw[<-L.lf];exact(lE A).1
    have E:W.cells[i]? = some c:=by
     have:(W.cells++[(⟨kind,num,[],[]⟩:bC)])[i]? = some c:=s
     rwa [List.getElem?_append_left D] at this
    exact L.cfr i f c A E
   ·have:(W.cells++[(⟨kind,num,[],[]⟩:bC)])[i]? = some c:=s
    rw[hi,L.lf] at this
    simp at this
    subst this
    exact bK.nil _ _ _ _
  size:=Nat.le_trans L.size o.size
  wfc:=λc s=>by
   rcases List.mem_append.1 (show c∈W.cells++[_] from s) with h | h
   ·exact L.wfc c h
   ·rw[List.mem_singleton] at h;subst h;exact⟨G.1,G.2,λv S=>by cases S⟩
  wfv:=L.wfv
  wfr:=L.wfr
  wfa:=L.wfa
  wfs:=L.wfs }
theorem bO.own (L:bO Γ w W cv vv vs fs) (K:hP Γ) (k:Nat):w.cell? ⟨Γ.wb,13+k,none⟩=[cv,Γ.shv,.pointer (some ⟨Γ.fb,Γ.fo,none⟩),.int .i64 W.steps,vv][k]?:=by rw[cell_of_row w _ (13+k) _ _ _ L.row];refine(List.getElem?_toArray ..).trans ?_;rw[List.getElem?_append_right (by rw[K.tl];omega),K.tl,Nat.add_sub_cancel_left]
theorem bO.tr (L:bO Γ w W cv vv vs fs) (K:hP Γ) {k:Nat} (d:k<13):w.cell? ⟨Γ.wb,k,none⟩ = Γ.tcs[k]?:=by rw[cell_of_row w _ k _ _ _ L.row];refine(List.getElem?_toArray ..).trans ?_;rw[List.getElem?_append_left (by rw[K.tl];exact d)]
theorem bO.held (L:bO Γ w W cv vv vs fs) (p:Addr) (h : Γ.Q p.block):w.cell? p = Γ.w1.cell? p:=World.cell?_of_block (L.fixed p.block h)
theorem bS {l:List Val} {i:Nat} {v:Val} (h:l[i]? = some v) {k:Nat} (e:k<2):(l.flatMap aZ)[i*2+k]? = (aZ v)[k]?:=by rw[<-dI];exact b9 _ i k _ (λr d=>by obtain⟨x,-,rfl⟩:=List.mem_map.1 d;rfl) (by rw[List.getElem?_map,h];rfl) e
theorem uP {w:World} {B g n e:Nat} {l:List Val} {i:Nat} {v u:Val} (h:w.ownsRow B 48 2 (.slice (some ⟨g,0,none⟩) n e) n (l.flatMap aZ)) (hi:l[i]? = some u) : ((w.setCell ⟨g,i*2,none⟩ (.int .i64 v.kind)).setCell ⟨g,i*2+1,none⟩ (.int .i64 v.n)).ownsRow B 48 2 (.slice (some ⟨g,0,none⟩) n e) n ((l.set i v).flatMap aZ):=by
 have f:=((h.stored (i*2) (.int .i64 v.kind)).1.stored (i*2+1) (.int .i64 v.n)).1;have d:∀r∈l.map aZ,r.length=2:=λr d=>by obtain⟨x,-,rfl⟩:=List.mem_map.1 d;rfl
 have j:(l.map aZ)[i]? = some (aZ u):=by rw[List.getElem?_map,hi];rfl
 rw[<-dI aZ l,show i*2=i*2+0 from rfl,dT _ i 0 _ _ d j (by decide),dT _ i 1 _ _ (eU d rfl) (dO j _) (by decide),List.set_set] at f;rw[<-dI,List.map_set];exact f
end
end
section
open Go.RowKit
def hM (rows:List (List Value)):List Value:=rows.map λr=>r.getD 2 (.slice none 0 0)
def wH (rows:List (List Value)):List Value:=rows.map λr=>r.getD 3 (.slice none 0 0)
theorem wJ:∀(l:List bC) (rows:List (List Value)),rows.length=l.length->(∀(i:Nat) c,l[i]? = some c->∃v f,rows[i]? = some (bD c v f))->cK l (hM rows) (wH rows)=rows
 | [],[],_,_=>rfl
 | [],_::_,h,_=>by simp at h
 | _::_,[],h,_=>by simp at h
 | c::l,r::rows,h,hp=>by
  obtain⟨v,f,e⟩:=hp 0 c rfl
  obtain rfl:r=bD c v f:=by simpa using e
  show bD c v f::cK l (hM rows) (wH rows)=_
  rw[wJ l rows (by simpa using h) (λi c hi=>hp (i+1) c hi)]
theorem pY {w:World} {B:Nat} {v:Value} {l:List Val} (h:w.ownsRow B 48 2 v l.length (l.flatMap aZ)) (wf:∀x∈l,WfV x):aH w w.heap.size 2 hU v l:=by
 obtain⟨A,c,rfl⟩:=bV h;refine j5 (rows:=l.map aZ) (by rw[dI];exact h) (by simp) (λr d=>by obtain⟨x,-,rfl⟩:=List.mem_map.1 d;rfl) (λi r x d e=>?_);rw[List.getElem?_map,e] at d;obtain rfl:aZ x=r:=by simpa using d
 exact⟨rfl,wf x (lM e)⟩
theorem pZ {w:World} {Q:Nat->Prop} {B:Nat} {v:Value} {l:List Val} (h:w.ownsRow B 48 2 v l.length (l.flatMap aZ)) (wf:∀x∈l,wfi x.kind/\wfi x.n) (j:∀g,v.ownBlock=some g->Q g):bK w Q 2 hU v l:=by
 obtain⟨A,c,rfl⟩:=bV h;refine fL (rows:=l.map aZ) (by rw[dI];exact h) (by simp) (λr d=>by obtain⟨x,-,rfl⟩:=List.mem_map.1 d;rfl) (λg _ f _ _=>j g f) (λi r x d e=>?_);rw[List.getElem?_map,e] at d;obtain rfl:aZ x=r:=by simpa using d
 exact⟨rfl,wf x (lM e)⟩
theorem kU {w:World} {Q:Nat->Prop} {B:Nat} {v:Value} {l:List gM} (h:w.ownsRow B 96 2 v l.length (l.flatMap cO)) (wf:∀x∈l,wfi x.reg/\wfi x.at_) (j:∀g,v.ownBlock=some g->Q g):bK w Q 2 jW v l:=by
 obtain⟨A,c,rfl⟩:=bV h;refine fL (rows:=l.map cO) (by rw[dI];exact h) (by simp) (λr d=>by obtain⟨x,-,rfl⟩:=List.mem_map.1 d;rfl) (λg _ f _ _=>j g f) (λi r x d e=>?_);rw[List.getElem?_map,e] at d;obtain rfl:cO x=r:=by simpa using d
 exact⟨rfl,wf x (lM e)⟩
theorem nF {q w:World} {Q:Nat->Prop} {u:Nat} {s:Value} {l:List a8} {rs d:List Value} (F:fD q u s l rs d) (k:Below q.heap.size q w) (v:∀g,s.ownBlock=some g->Q g) (y:∀r∈rs,∀g,r.ownBlock=some g->Q g) (z:∀r∈d,∀g,r.ownBlock=some g->Q g) : bK w Q 8 (sO w Q) s l:=by
 have row:=cZ F.row k;obtain⟨A,c,rfl⟩:=bV row;refine fL row (nW l rs d F.lr F.lt) (gC _ _ _) (λg _ h _ _=>v g h) (λi r x m j=>?_);have p:=(lE j).1;have e:rs[i]? = some (rs[i]'(by rw[F.lr];exact p)):=lG _;have f:d[i]? = some (d[i]'(by rw[F.lt];exact p)):=lG _;rw[dV l rs d i x _ _ j e f] at m;injection m with m
 have wf:=F.wf x (lM j);exact⟨_,_,m.symm,pZ (cZ (F.regs i _ x e j) k) wf.2.2.2.2.2.2.1 (λg h=>y _ (lM e) g h),kU (cZ (F.tries i _ x f j) k) wf.2.2.2.2.2.2.2 (λg h=>z _ (lM f) g h),wf.1,wf.2.1,wf.2.2.1,wf.2.2.2.1,wf.2.2.2.2.1,wf.2.2.2.2.2.1⟩
theorem ac7 {w1 w:World} {Q:Nat->Prop} {cs:List Value} {x:a8} (h:sO w1 Q cs x) (f:∀b,Q b->w.heap[b]? = w1.heap[b]?) (d:∀b,Q b->b<w.heap.size):eR w w.heap.size cs x:=by obtain⟨r,t,e,g,i,j⟩:=h;exact⟨r,t,e,(g.far (λ_ h=>h) f).toR d (λ_ _ h=>h),(i.far (λ_ h=>h) f).toR d (λ_ _ h=>h),j⟩
theorem wI {w1 w:World} {Q:Nat->Prop} {e:Value} {l:List a8} (h:bK w1 Q 8 (sO w1 Q) e l) (f:∀b,Q b->w.heap[b]? = w1.heap[b]?) (d:∀b,Q b->b<w.heap.size):aH w w.heap.size 8 (eR w w.heap.size) e l:= (h.far (λ_ h=>h) f).toR d (λ_ _ h=>ac7 h f d)
def QOf (w1:World) (B0 B wb fb:Nat) (rv vv cv:Value) (vs:List Value) (b:Nat):Prop:=
 (b<w1.heap.size/\(b<B0\/B<=b))/\b≠wb/\b≠fb/\rv.ownBlock≠some b/\vv.ownBlock≠some b/\cv.ownBlock≠some b/\∀(i:Nat) v,vs[i]? = some v->v.ownBlock≠some b
def aeF (w1:World) (B0 B wb fb:Nat) (rv vv cv:Value) (vs:List Value) (b:Nat):Prop:=QOf w1 B0 B wb fb rv vv cv vs b/\B<=b
structure cH (wO w1:World) (B0 B:Nat) (cs:List Value) (S:aR) (co lo:Nat->Nat) (cv thv:Value) (rows trows:List (List Value)) (shv txv env sav:Value) (th:Nat) (h:bW) (f:a8) (j fb fcap wb:Nat) (tf rv vv:Value) (rs ts tcs:List Value) (t:aN):Prop where
 own:sL wO B cs S co lo cv thv rows trows shv txv env sav
 hB:B0<=B
 hO:B<=wO.heap.size
 below:Below wO.heap.size wO w1
 hth:S.threads[th]? = some h
 hl:h.frames.length=j+1
 hf:h.frames[j]? = some f
 ht:trows[th]? = some (gH h tf)
 fin:eH wO (lo th) (lo (th+1)) tf h.frames rs ts
 htf:tf=.slice (some ⟨fb,0,none⟩) (j+1) fcap
 hrv:rs[j]? = some rv
 vrow:w1.ownsRow wO.heap.size 48 2 vv t.ins.length ((List.replicate t.ins.length (⟨0,0⟩:Val)).flatMap aZ)
 wrow:w1.heap[wb]? = some (.cells ⟨tcs++[cv,shv,.pointer (some ⟨fb,j*8,none⟩),.int .i64 0,vv]⟩ 85 (0,0))
 wnew:wO.heap.size<=wb
 tl:tcs.length=13
 tr:cT w1 B0 tcs t
def sD (w1:World) (B0 B:Nat) (cv:Value) (rows:List (List Value)) (shv:Value) (S:aR) (f:a8) (j fb wb:Nat) (rv vv:Value) (tcs:List Value) (t:aN):kI:=
 ⟨w1,QOf w1 B0 B wb fb rv vv cv (hM rows),aeF w1 B0 B wb fb rv vv cv (hM rows),B0,B0,wb,fb,j*8,rv,t,tcs,shv,S.shapes,f.self⟩
section
variable {wO w1:World} {B0 B:Nat} {cs:List Value} {S:aR} {co lo:Nat->Nat} {cv thv:Value} {rows trows:List (List Value)} {shv txv env sav:Value} {th:Nat} {h:bW} {f:a8} {j fb fcap wb:Nat} {tf rv vv:Value} {rs ts tcs:List Value} {t:aN}
theorem dK {g:Nat->Nat} (h:∀i,g i<=g (i+1)) {i k:Nat} (d:i<=k):g i<=g k:=by
 induction d with
 | refl=>exact Nat.le_refl _
 | step _ ih=>exact Nat.le_trans ih (h _)
theorem cH.thl (st:cH wO w1 B0 B cs S co lo cv thv rows trows shv txv env sav th h f j fb fcap wb tf rv vv rs ts tcs t):th<S.threads.length:=(lE st.hth).1
theorem cH.cB (st:cH wO w1 B0 B cs S co lo cv thv rows trows shv txv env sav th h f j fb fcap wb tf rv vv rs ts tcs t) {g:Nat} (d:cv.ownBlock=some g):B<=g/\g<co 0:=⟨(st.own.crow.lt g d).1,st.own.cblk g d⟩
theorem cH.colo (st:cH wO w1 B0 B cs S co lo cv thv rows trows shv txv env sav th h f j fb fcap wb tf rv vv rs ts tcs t) {i k:Nat} (hi:i<=S.cells.length):co i<=lo k:=Nat.le_trans (dK st.own.cmono hi) (Nat.le_trans st.own.tco (dK st.own.tmono (Nat.zero_le k)))
theorem cH.cell (st:cH wO w1 B0 B cs S co lo cv thv rows trows shv txv env sav th h f j fb fcap wb tf rv vv rs ts tcs t) {i:Nat} {c:bC} (l:S.cells[i]? = some c) : ∃v g,(hM rows)[i]? = some v/\(wH rows)[i]? = some g/\rows[i]? = some (bD c v g)/\kG wO (co i) (co (i+1)) c v g:=by obtain⟨v,g,d,e⟩:=st.own.cpart i c l;exact⟨v,g,by unfold hM;rw[List.getElem?_map,d];rfl,by unfold wH;rw[List.getElem?_map,d];rfl,d,e⟩
theorem cH.vs (st:cH wO w1 B0 B cs S co lo cv thv rows trows shv txv env sav th h f j fb fcap wb tf rv vv rs ts tcs t) {i:Nat} {v:Value} (r:(hM rows)[i]? = some v) : ∃c m,S.cells[i]? = some c/\wO.ownsRow (co i) 48 2 v c.vals.length (c.vals.flatMap aZ)/\i<S.cells.length/\co i<=m/\m<=co (i+1)/\∀g,v.ownBlock=some g->co i<=g/\g<m:=by
 have e:i<S.cells.length:=by have:=(lE r).1;unfold hM at this;rw[List.length_map,st.own.clen] at this;exact this
 have l:S.cells[i]? = some S.cells[i]:=lG e;obtain⟨v',x,d,-,-,m,_,_,s,u,p,w,-⟩:=st.cell l;rw[r] at d;injection d with d;subst d
 exact⟨_,m,l,p,e,s,u,λg q=>⟨(p.lt g q).1,w g q⟩⟩
theorem cH.fbI (st:cH wO w1 B0 B cs S co lo cv thv rows trows shv txv env sav th h f j fb fcap wb tf rv vv rs ts tcs t):lo th<=fb/\fb<lo (th+1):=by
 have e:tf.ownBlock=some fb:=by rw[st.htf];rfl
 exact⟨(st.fin.at_.row.lt fb e).1,st.fin.fb fb e⟩
theorem cH.rvI (st:cH wO w1 B0 B cs S co lo cv thv rows trows shv txv env sav th h f j fb fcap wb tf rv vv rs ts tcs t) {g:Nat} (d:rv.ownBlock=some g):lo th<=g/\g<lo (th+1):= ⟨((st.fin.at_.regs j rv f st.hrv st.hf).lt g d).1,st.fin.rb rv (lM st.hrv) g d⟩
theorem cH.loO (st:cH wO w1 B0 B cs S co lo cv thv rows trows shv txv env sav th h f j fb fcap wb tf rv vv rs ts tcs t) (i:Nat):lo i<=wO.heap.size:=st.own.lend i
theorem cH.q_of (st:cH wO w1 B0 B cs S co lo cv thv rows trows shv txv env sav th h f j fb fcap wb tf rv vv rs ts tcs t) {b:Nat} (d:b<B0\/B<=b) (hb:b<wO.heap.size) (p:b<lo th\/lo (th+1)<=b) (g:cv.ownBlock≠some b) (l:∀(i:Nat) v,(hM rows)[i]? = some v->v.ownBlock≠some b):QOf w1 B0 B wb fb rv vv cv (hM rows) b:=by
 have hf:=st.fbI;have m:=st.wnew;refine⟨⟨Nat.lt_of_lt_of_le hb st.below.size,d⟩,by omega,by omega,λe=>?_,λe=>?_,g,l⟩;·have:=st.rvI e;omega
 ·have:=(st.vrow.lt b e).1;omega
theorem cH.q_old (st:cH wO w1 B0 B cs S co lo cv thv rows trows shv txv env sav th h f j fb fcap wb tf rv vv rs ts tcs t) {b:Nat} (hb:b<B0):QOf w1 B0 B wb fb rv vv cv (hM rows) b:=by have l:=st.hB;have p:=st.own.cb;have q:co 0<=lo th:=st.colo (Nat.zero_le _);refine st.q_of (.inl hb) (by have:=st.hO;omega) (.inl (by omega)) (λe=>by have:=st.cB e;omega) (λi v g e=>?_);obtain⟨c,m,-,-,hi,-,-,d⟩:=st.vs g;have:=d b e;have:=dK st.own.cmono (Nat.zero_le i);omega
theorem cH.q_late (st:cH wO w1 B0 B cs S co lo cv thv rows trows shv txv env sav th h f j fb fcap wb tf rv vv rs ts tcs t) {b:Nat} (hb:b<wO.heap.size) (r:co S.cells.length<=b) (p:b<lo th\/lo (th+1)<=b):aeF w1 B0 B wb fb rv vv cv (hM rows) b:=by
 have d:B<=b:=by have:=st.own.cb;have:=dK st.own.cmono (Nat.zero_le S.cells.length);omega
 refine⟨st.q_of (.inr d) hb p (λe=>?_) (λi v l e=>?_),d⟩;·have:=(st.cB e).2;have:=dK st.own.cmono (Nat.zero_le S.cells.length);omega
 ·obtain⟨c,m,-,-,hi,-,q,g⟩:=st.vs l;have:=g b e;have:=dK st.own.cmono (show i+1<=S.cells.length from hi);omega
theorem cH.q_end (st:cH wO w1 B0 B cs S co lo cv thv rows trows shv txv env sav th h f j fb fcap wb tf rv vv rs ts tcs t) {b:Nat} (hb:lo S.threads.length<=b/\b<wO.heap.size):aeF w1 B0 B wb fb rv vv cv (hM rows) b:=by have d:=dK st.own.tmono (show th+1<=S.threads.length from st.thl);exact st.q_late hb.2 (by have:=st.colo (k:=S.threads.length) (Nat.le_refl _);omega) (.inr (by omega))
theorem cH.fix (st:cH wO w1 B0 B cs S co lo cv thv rows trows shv txv env sav th h f j fb fcap wb tf rv vv rs ts tcs t):hP (sD w1 B0 B cv rows shv S f j fb wb rv vv tcs t):=by
 have d:∀k,k<8->w1.cell? ⟨fb,j*8+k,none⟩=(bX f rv ((ts[j]?).getD (.slice none 0 0)))[k]?:=λk l=>by
  have row:=cZ st.fin.at_.row st.below;rw[st.htf,st.hl] at row;have i:j<h.frames.length:=by rw[st.hl];omega
  have e:ts[j]? = some (ts[j]'(by rw[st.fin.at_.lt];exact i)):=lG _;rw[row.cellAt (j*8+k) (by omega),b9 _ j k _ (gC _ _ _) (dV _ _ _ j f rv _ st.hf st.hrv e) l,e];rfl
 have wf:=st.fin.at_.wf f (lM st.hf);exact {
  q1:=λb hb=>hb.1.1
  q0:=λb hb=>st.q_old hb
  b1:=by have:=st.hB;have:=st.hO;have:=st.below.size;show B0<=w1.heap.size;omega
  qw:=λg=>g.2.1 rfl
  qf:=λg=>g.2.2.1 rfl
  tl:=st.tl
  tr:=st.tr
  sh:=st.own.shapes.far (λb hb=>(st.q_end hb).1) (λb hb=>st.below.block b hb.2)
  f4:=d 4 (by decide)
  f5:=d 5 (by decide)
  f6:=d 6 (by decide)
  wfs:=⟨wf.2.2.2.2.1,wf.2.2.2.2.2.1⟩ }
theorem cH.lay (st:cH wO w1 B0 B cs S co lo cv thv rows trows shv txv env sav th h f j fb fcap wb tf rv vv rs ts tcs t):bO (sD w1 B0 B cv rows shv S f j fb wb rv vv tcs t) w1 (cL t S f) cv vv (hM rows) (wH rows):=by
 have hB:=st.hB;have hO:=st.hO;have a5:=st.own.cb;have M:B0<=lo th:=by have:=st.colo (i:=0) (k:=th) (Nat.zero_le _);omega
 have row:=cZ st.fin.at_.row st.below;have N:tf.ownBlock=some fb:=by rw[st.htf];rfl
 obtain⟨cf,X⟩:=aX row N;have wf:=st.fin.at_.wf f (lM st.hf);have O:cK S.cells (hM rows) (wH rows)=rows:=wJ S.cells rows st.own.clen (λi c s=>by obtain⟨v,g,A,-⟩:=st.own.cpart i c s;exact⟨v,g,A⟩);have a6:=st.wnew;have C:∀i,lo i<=wO.heap.size:=st.loO;have I:∀ {i:Nat} {v:Value} {g:Nat},(hM rows)[i]? = some v->v.ownBlock=some g->g<lo th/\B0<=g/\g<wO.heap.size:=λ{i v g} l d=>by obtain⟨c,m,-,ho,hi,-,Y,E⟩:=st.vs l;have p:=E g d;have h7:=st.colo (i:=i+1) (k:=th) hi;have h8:=dK st.own.cmono (Nat.zero_le i);have h9:=C th;omega
 exact {
  row:=st.wrow
  frow:=⟨cf,X⟩
  fat:=by
   have r:=row
   rw[st.htf,st.hl] at r
   have P:j<h.frames.length:=by rw[st.hl];omega
   have R:ts[j]? = some (ts[j]'(by rw[st.fin.at_.lt];exact P)):=lG _
   show w1.cell? ⟨fb,j*8+1,none⟩=_
   rw[r.cellAt (j*8+1) (by omega),b9 _ j 1 _ (gC _ _ _) (dV _ _ _ j f rv _ st.hf st.hrv R) (by decide)]
   rfl
  frest:=λ_ _=>rfl
  lv:=by unfold hM;rw[List.length_map];exact st.own.clen
  lf:=by unfold wH;rw[List.length_map];exact st.own.clen
  crow:=by
   show w1.ownsRow B0 _ 4 cv S.cells.length ((cK S.cells (hM rows) (wH rows)).flatMap id)
   rw[O]
   exact dU (cZ st.own.crow st.below) hB
  vals:=by
   have:=st.vrow
   show w1.ownsRow B0 _ 2 vv (List.replicate t.ins.length (⟨0,0⟩:Val)).length _
   rw[List.length_replicate]
   exact dU this (by omega)
  regs:=dU (cZ (st.fin.at_.regs j rv f st.hrv st.hf) st.below) M
  cvals:=λi v c l s=>by
   obtain⟨c',m,y,A,-,V,-⟩:=st.vs l
   have x:S.cells[i]? = some c:=s
   rw[y] at x;injection x with x;subst x
   exact dU (cZ A st.below) (by have:=dK st.own.cmono (Nat.zero_le i);show B0<=co i;omega)
  ap1:=λg d e=>by
   have A:=(st.vrow.lt g d).1
   have V:=(st.rvI e).2
   have:=C (th+1)
   omega
  ap2:=λi v g l d=>⟨λe=>by have A:=(st.vrow.lt g e).1;have:=(I l d).2.2;omega,λe=>by have A:=(st.rvI e).1;have:=(I l d).1;omega⟩
  ap3:=λi k a b g Z ha hb d e=>by
   obtain⟨_,m1,-,-,-,-,Y,E⟩:=st.vs ha
   obtain⟨_,m2,-,-,-,-,g4,L⟩:=st.vs hb
   have p1:=E g d
   have p2:=L g e
   rcases Nat.lt_or_gt_of_ne Z with hlt | hlt
   ·have:=dK st.own.cmono (show i+1<=k from hlt);omega
   ·have:=dK st.own.cmono (show k+1<=i from hlt);omega
  nqc:=λg d w=>w.2.2.2.2.2.1 d
  nqv:=λg d w=>w.2.2.2.2.1 d
  nqr:=λg d w=>w.2.2.2.1 d
  nqs:=λi v g l d w=>w.2.2.2.2.2.2 i v l d
  fixed:=λ_ _=>rfl
  cfr:=λi g c d s=>by
   have y:S.cells[i]? = some c:=s
   obtain⟨v,g',l,z,-,m,a9,b0,V,h3,Y,E,p⟩:=st.cell y
   rw[d] at z;injection z with z;subst z
   have W:=(lE y).1
   have a7:=st.colo (i:=i+1) (k:=th) W
   have q:∀b,m<=b->b<co (i+1)->aeF w1 B0 B wb fb rv vv cv (hM rows) b:=λb b2 b3=>by
    have J:B<=b:=by have:=dK st.own.cmono (Nat.zero_le i);omega
    refine⟨st.q_of (.inr J) (by have:=C th;omega) (.inl (by omega)) (λe=>?_) (λk u G e=>?_),J⟩
    ·have:=(st.cB e).2
     have:=dK st.own.cmono (Nat.zero_le i)
     omega
    ·by_cases K:k=i
     ·subst K
      rw[l] at G;injection G with G;subst G
      have:=E b e;omega
     ·obtain⟨_,m2,-,-,-,-,g4,L⟩:=st.vs G
      have p2:=L b e
      rcases Nat.lt_or_gt_of_ne K with hlt | hlt
      ·have:=dK st.own.cmono (show k+1<=i from hlt);omega
      ·have:=dK st.own.cmono (show i+1<=k from hlt);omega
   refine nF p.at_ st.below (λb hb=>q b (p.at_.row.lt b hb).1 (p.fb b hb)) (λr H b hb=>?_) (λr H b hb=>?_)
   ·obtain⟨k,F⟩:=List.getElem?_of_mem H
    have D:=(lE F).1
    have:=(p.at_.regs k r _ F (lG (by rw[<-p.at_.lr];exact D))).lt b hb
    exact q b this.1 (p.rb r H b hb)
   ·obtain⟨k,F⟩:=List.getElem?_of_mem H
    have D:=(lE F).1
    have:=(p.at_.tries k r _ F (lG (by rw[<-p.at_.lt];exact D))).lt b hb
    exact q b this.1 (p.tb r H b hb)
  size:=Nat.le_refl _
  wfc:=λc s=>st.own.wfc c s
  wfv:=λv l=>by
   obtain⟨-,rfl⟩:=List.mem_replicate.1 (show v∈List.replicate t.ins.length (⟨0,0⟩:Val) from l)
   exact⟨⟨by simp,by simp⟩,⟨by simp,by simp⟩⟩
  wfr:=λv l=>wf.2.2.2.2.2.2.1 v l
  wfa:=wf.2.1
  wfs:=⟨by simp[cL],by simp[cL]⟩ }
end
end
section
open Go.RowKit
theorem uB:∀(l:List bC) (vs d:List Value),vs.length=l.length->d.length=l.length->(cK l vs d).length=l.length
 | [],_,_,_,_=>by unfold cK;rfl
 | _::_,[],_,h,_=>by simp at h
 | _::_,_::_,[],_,h=>by simp at h
 | c::l,v::vs,f::d,h1,h2=>by
  show(cK l vs d).length+1=l.length+1
  rw[uB l vs d (by simpa using h1) (by simpa using h2)]
theorem lS:∀ {l:List Value},(l.filterMap Value.ownBlock).Nodup->∀ {i j:Nat} {a b:Value} {g:Nat},i≠j->l[i]? = some a->l[j]? = some b->a.ownBlock=some g->b.ownBlock≠some g
 | [],_,_,_,_,_,_,_,ha,_,_=>by simp at ha
 | x::l,h,0,0,_,_,_,hij,_,_,_=>absurd rfl hij
 | x::l,h,0,j+1,a,b,g,_,ha,hb,h1=>λe=>by
  obtain rfl:x=a:=by simpa using ha
  have d:l[j]? = some b:=by simpa using hb
  rw[List.filterMap_cons,h1] at h
  exact(List.nodup_cons.1 h).1 (List.mem_filterMap.2 ⟨b,lM d,e⟩)
 | x::l,h,i+1,0,a,b,g,_,ha,hb,h1=>λe=>by
  obtain rfl:x=b:=by simpa using hb
  have f:l[i]? = some a:=by simpa using ha
  rw[List.filterMap_cons,e] at h
  exact(List.nodup_cons.1 h).1 (List.mem_filterMap.2 ⟨a,lM f,h1⟩)
 | x::l,h,i+1,j+1,a,b,g,hij,ha,hb,h1=>by
  have m:(l.filterMap Value.ownBlock).Nodup:=by
   rw[List.filterMap_cons] at h
   split at h
   ·exact h
   ·exact(List.nodup_cons.1 h).2
  exact lS m (i:=i) (j:=j) (λe=>hij (by rw[e])) (by simpa using ha) (by simpa using hb) h1
section
variable {wO w1 w':World} {B0 B:Nat} {cs:List Value} {S:aR} {co lo:Nat->Nat} {cv thv:Value} {rows trows:List (List Value)} {shv txv env sav:Value} {th:Nat} {h:bW} {f:a8} {j fb fcap wb:Nat} {tf rv vv:Value} {rs ts tcs:List Value} {t:aN}
theorem cH.q_own (st:cH wO w1 B0 B cs S co lo cv thv rows trows shv txv env sav th h f j fb fcap wb tf rv vv rs ts tcs t) {b:Nat} (hb:lo th<=b/\b<lo (th+1)) (p:b≠fb) (q:rv.ownBlock≠some b):aeF w1 B0 B wb fb rv vv cv (hM rows) b:=by
 have hl:=st.loO (th+1);have r:=st.wnew;have s:=st.below.size;have d:B<=b:=by have:=st.own.cb;have:=st.colo (i:=0) (k:=th) (Nat.zero_le _);omega
 refine⟨⟨⟨by omega,.inr d⟩,by omega,p,q,λe=>?_,λe=>?_,λi v l e=>?_⟩,d⟩;·have:=(st.vrow.lt b e).1;omega
 ·have:=(st.cB e).2;have:=st.colo (i:=0) (k:=th) (Nat.zero_le _);omega
 ·obtain⟨c,m,-,-,hi,-,u,g⟩:=st.vs l;have:=g b e;have:=st.colo (i:=i+1) (k:=th) hi;omega
theorem cH.q_regs (st:cH wO w1 B0 B cs S co lo cv thv rows trows shv txv env sav th h f j fb fcap wb tf rv vv rs ts tcs t) {i:Nat} {r:Value} (l:i≠j) (d:rs[i]? = some r) {b:Nat} (hb:r.ownBlock=some b):aeF w1 B0 B wb fb rv vv cv (hM rows) b:=by
 have e:i<h.frames.length:=by rw[<-st.fin.at_.lr];exact(lE d).1
 have own:=st.fin.at_.regs i r _ d (lG e);refine st.q_own ⟨(own.lt b hb).1,st.fin.rb r (lM d) b hb⟩ ?_ (lS st.fin.at_.nodup l d st.hrv hb);obtain⟨q,m⟩:=aX own hb;obtain⟨s,p⟩:=aX st.fin.at_.row (g:=fb) (by rw[st.htf];rfl);exact bJ m p (by decide)
theorem cH.q_tries (st:cH wO w1 B0 B cs S co lo cv thv rows trows shv txv env sav th h f j fb fcap wb tf rv vv rs ts tcs t) {i:Nat} {r:Value} (d:ts[i]? = some r) {b:Nat} (hb:r.ownBlock=some b):aeF w1 B0 B wb fb rv vv cv (hM rows) b:=by
 have l:i<h.frames.length:=by rw[<-st.fin.at_.lt];exact(lE d).1
 have own:=st.fin.at_.tries i r _ d (lG l);obtain⟨s,m⟩:=aX own hb;obtain⟨u,p⟩:=aX st.fin.at_.row (g:=fb) (by rw[st.htf];rfl);refine st.q_own ⟨(own.lt b hb).1,st.fin.tb r (lM d) b hb⟩ (bJ m p (by decide)) (λe=>?_);obtain⟨v,q⟩:=aX (st.fin.at_.regs j rv f st.hrv st.hf) e;exact bJ m q (by decide) rfl
theorem cH.last (st:cH wO w1 B0 B cs S co lo cv thv rows trows shv txv env sav th h f j fb fcap wb tf rv vv rs ts tcs t):∃d,h.frames=d++[f]/\d.length=j/\h.frames.getLast? = some f:=by
 have e:h.frames.getLast? = some f:=by rw[List.getLast?_eq_getElem?,st.hl];exact st.hf
 obtain⟨d,g⟩:=List.getLast?_eq_some_iff.1 e;refine⟨d,g,?_,e⟩;have:=st.hl;rw[g] at this;simpa using this
theorem cH.frames (st:cH wO w1 B0 B cs S co lo cv thv rows trows shv txv env sav th h f j fb fcap wb tf rv vv rs ts tcs t) {W:aI} {a0 a1:Value} {a2 a3:List Value} (L:bO (sD w1 B0 B cv rows shv S f j fb wb rv vv tcs t) w' W a0 a1 a2 a3) {l:World} (J:∀b,B0<=b->b<w'.heap.size->l.heap[b]? = w'.heap[b]?) (hz:w'.heap.size<=l.heap.size) : aH l l.heap.size 8 (eR l l.heap.size) tf (h.frames.dropLast++[{ f with at_:=W.at_,regs:=W.regs }]):=by
 have C:∀b,aeF w1 B0 B wb fb rv vv cv (hM rows) b->b<w'.heap.size:=λb hb=>Nat.lt_of_lt_of_le hb.1.1.1 L.size;have D:∀b,aeF w1 B0 B wb fb rv vv cv (hM rows) b->b<l.heap.size:=λb hb=>Nat.lt_of_lt_of_le (C b hb) hz;have P:∀b,aeF w1 B0 B wb fb rv vv cv (hM rows) b->l.heap[b]? = w1.heap[b]?:=λb hb=>(J b (Nat.le_trans st.hB hb.2) (C b hb)).trans (L.fixed b hb.1);have mv:∀ {n size:Nat} {e:TypeId} {v:Value} {xs:List Value},w'.ownsRow B0 e size v n xs->l.ownsRow B0 e size v n xs:=λh=>fG h (λg w=>J g (h.lt g w).1 (h.lt g w).2);obtain⟨l0,M,N,-⟩:=st.last;have F:=st.fin.at_;have row:=cZ F.row st.below;have z:(l0++[({ f with at_:=W.at_,regs:=W.regs } : a8)]).length=j+1:=by simp[N]
 rw[M,List.dropLast_concat];obtain⟨cf,Y⟩:=L.frow;have E:fb<w'.heap.size:=aV Y;have V:fb<l.heap.size:=Nat.lt_of_lt_of_le E hz;have R:B0<=fb:=by have h3:=st.fbI;have:=st.hB;have:=st.own.cb;have:=st.colo (i:=0) (k:=th) (Nat.zero_le _);omega
 have G:∀k,l.cell? ⟨fb,k,none⟩=w'.cell? ⟨fb,k,none⟩:=λk=>World.cell?_of_block (J fb R E);have H:j+1<=fcap/\fcap<=maxLen:=by
  rcases F.row.2 with ⟨e,h0⟩ | ⟨g,b2,b3,e,hb,w,I,J,-⟩;·have:=st.hl;omega
  ·rw[st.htf] at e;injection e with e1 e2 e3
   rw[st.hl] at I;exact⟨by omega,by omega⟩
 rw[st.htf,st.hl] at row;have base:∀(i k:Nat) (x:a8) (r q:Value),h.frames[i]? = some x->rs[i]? = some r->ts[i]? = some q->k<8->w1.cell? ⟨fb,i*8+k,none⟩=(bX x r q)[k]?:=λi k x r q Z hr hq s=>by
  have b0:i<j+1:=by rw[<-st.hl];exact(lE Z).1
  rw[row.cellAt (i*8+k) (by omega)];exact b9 _ i k _ (gC _ _ _) (dV _ _ _ i x r q Z hr hq) s
 refine⟨some ⟨fb,0,none⟩,fcap,by rw[z];exact st.htf,by rw[z];exact H.1,H.2,λ_=>⟨fb,0,rfl,V,λi x hi=>?_⟩⟩;have X:i<j+1:=by rw[<-z];exact(lE hi).1
 have d:i<h.frames.length:=by rw[st.hl];exact X
 have m:rs[i]? = some (rs[i]'(by rw[F.lr];exact d)):=lG _;have p:ts[i]? = some (ts[i]'(by rw[F.lt];exact d)):=lG _;by_cases e:i=j
 ·subst e;obtain rfl:({ f with at_:=W.at_,regs:=W.regs } : a8)=x:=by rw[List.getElem?_append_right (by omega),N,Nat.sub_self] at hi;simpa using hi
  have K:=m;rw[st.hrv] at K;have hrv:rv=rs[i]'(by rw[F.lr];exact d):=by injection K
  rw[<-hrv] at m;have wf:=F.wf f (lM st.hf);refine⟨bX { f with at_:=W.at_,regs:=W.regs } rv (ts[i]'(by rw[F.lt];exact d)),rfl,⟨_,_,rfl,pY (mv L.regs) L.wfr,((kU (cZ (F.tries i _ f p st.hf) st.below) wf.2.2.2.2.2.2.2 (λg w=>st.q_tries p w)).far (λ_ h=>h) P).toR D (λ_ _ h=>h),wf.1,L.wfa,wf.2.2.1,wf.2.2.2.1,wf.2.2.2.2.1,wf.2.2.2.2.2.1⟩,λk u y=>?_⟩;have s:k<8:=(lE y).1;rw[Nat.zero_add];by_cases O:k=1
  ·subst O;have:u=.int .i64 W.at_:=by have:(bX { f with at_:=W.at_,regs:=W.regs } rv (ts[i]'(by rw[F.lt];exact d)))[1]? = some (.int .i64 W.at_):=rfl;rw[this] at y;injection y with y;exact y.symm
   rw[this];exact(G _).trans L.fat
  ·have I:=L.frest (i*8+k) (show i*8+k≠i*8+1 by omega);refine(G _).trans (Eq.trans I ((base i k f rv _ st.hf m p s).trans ?_));rw[<-y];match k,s,O with
   | 0,_,_=>rfl
   | 2,_,_=>rfl
   | 3,_,_=>rfl
   | 4,_,_=>rfl
   | 5,_,_=>rfl
   | 6,_,_=>rfl
   | 7,_,_=>rfl
 ·have A:h.frames[i]? = some x:=by rw[List.getElem?_append_left (by omega)] at hi;rw[M,List.getElem?_append_left (by omega)];exact hi
  have wf:=F.wf x (lM A);refine⟨bX x (rs[i]'(by rw[F.lr];exact d)) (ts[i]'(by rw[F.lt];exact d)),rfl,⟨_,_,rfl,((pZ (cZ (F.regs i _ x m A) st.below) wf.2.2.2.2.2.2.1 (λg w=>st.q_regs e m w)).far (λ_ h=>h) P).toR D (λ_ _ h=>h),((kU (cZ (F.tries i _ x p A) st.below) wf.2.2.2.2.2.2.2 (λg w=>st.q_tries p w)).far (λ_ h=>h) P).toR D (λ_ _ h=>h),wf.1,wf.2.1,wf.2.2.1,wf.2.2.2.1,wf.2.2.2.2.1,wf.2.2.2.2.2.1⟩,λk u y=>?_⟩;have s:k<8:=(lE y).1;rw[Nat.zero_add];have I:=L.frest (i*8+k) (show i*8+k≠j*8+1 by omega);exact(G _).trans (Eq.trans I ((base i k x _ _ A m p s).trans y))
theorem cH.o (st:cH wO w1 B0 B cs S co lo cv thv rows trows shv txv env sav th h f j fb fcap wb tf rv vv rs ts tcs t) {W:aI} {C O:Value} {D E:List Value} (L:bO (sD w1 B0 B cv rows shv S f j fb wb rv vv tcs t) w' W C O D E) (V:wfi (S.steps+W.steps)) {m:World} (w:∀b,B0<=b->b<w'.heap.size->m.heap[b]? = w'.heap[b]?) (P:w'.heap.size<=m.heap.size) : gK m m.heap.size [C,shv,txv,thv,env,sav,.int .i64 S.asked,.int .i64 (S.steps+W.steps)] (gX S th W):=by
 have u:∀b,aeF w1 B0 B wb fb rv vv cv (hM rows) b->b<w'.heap.size:=λb hb=>Nat.lt_of_lt_of_le hb.1.1.1 L.size;have hlt:∀b,aeF w1 B0 B wb fb rv vv cv (hM rows) b->b<m.heap.size:=λb hb=>Nat.lt_of_lt_of_le (u b hb) P;have l:∀b,aeF w1 B0 B wb fb rv vv cv (hM rows) b->m.heap[b]? = w1.heap[b]?:=λb hb=>(w b (Nat.le_trans st.hB hb.2) (u b hb)).trans (L.fixed b hb.1);have M:∀ {n size:Nat} {e:TypeId} {v:Value} {xs:List Value},w'.ownsRow B0 e size v n xs->m.ownsRow B0 e size v n xs:=λh=>fG h (λg p=>w g (h.lt g p).1 (h.lt g p).2);have s:∀b,lo S.threads.length<=b/\b<wO.heap.size->m.heap[b]? = wO.heap[b]?:=λb hb=>(l b (st.q_end hb)).trans (st.below.block b hb.2);obtain⟨l0,Y,Z,H⟩:=st.last;have e:gX S th W = { S with cells:=W.cells,steps:=S.steps+W.steps,threads:=S.threads.set th { h with frames:=h.frames.dropLast++[{ f with at_:=W.at_,regs:=W.regs }] } }:=by unfold gX;rw[st.hth];dsimp only;rw[H]
 rw[e];refine⟨C,shv,txv,thv,env,sav,rfl,?_,(st.own.shapes.far (λb hb=>st.q_end hb) s).toR hlt (λ_ _ h=>h),(st.own.texts.far (λb hb=>st.q_end hb) s).toR hlt (λ_ _ h=>h),?_,(st.own.ends.far (λb hb=>st.q_end hb) s).toR hlt (λ_ _ h=>h),(st.own.said.far (λb hb=>st.q_end hb) s).toR hlt (λ_ _ h=>h),st.own.wfs.1,V⟩
 ·have crow:=M L.crow;obtain⟨A,c,rfl⟩:=bV crow;refine j5 crow (uB _ _ _ L.lv L.lf) (g8 _ _ _) (λi r x d q=>?_);have I:=(lE q).1;have N:D[i]? = some (D[i]'(by rw[L.lv];exact I)):=lG _;have hf:E[i]? = some (E[i]'(by rw[L.lf];exact I)):=lG _;rw[eP _ _ _ i x _ _ q N hf] at d;injection d with d
  have wf:=L.wfc x (lM q);exact⟨_,_,d.symm,pY (M (L.cvals i _ x N q)) wf.2.2,wI (L.cfr i _ x hf q) l hlt,wf.1,wf.2.1⟩
 ·have R:=dK st.own.tmono (Nat.zero_le th);have trow:m.ownsRow (co S.cells.length) 57 5 thv S.threads.length (trows.flatMap id):=fG st.own.trow (λg p=>by have G:=st.own.trow.lt g p;have w:=st.own.tblk g p;exact(l g (st.q_late G.2 G.1 (.inl (by omega)))).trans (st.below.block g G.2));obtain⟨A,c,rfl⟩:=bV trow;have y:(S.threads.set th ({ h with frames:=h.frames.dropLast++[{ f with at_:=W.at_,regs:=W.regs }] } : bW)).length=S.threads.length:=List.length_set;rw[<-y] at trow ⊢;refine j5 trow (by rw[y];exact st.own.tlen) st.own.t5 (λi r x d q=>?_);rcases bY q with ⟨rfl,rfl⟩ | ⟨hi,J⟩
  ·rw[st.ht] at d;injection d with d
   have wf:=st.own.wft h (lM st.hth);exact⟨tf,d.symm,st.frames L w P,wf.1,wf.2.1,wf.2.2.1,wf.2.2.2⟩
  ·obtain⟨g,p,a0,a1,F⟩:=st.own.tpart i x J;rw[p] at d;injection d with d
   have wf:=st.own.wft x (lM J);have X:=st.loO (i+1);have K:∀b,lo i<=b->b<lo (i+1)->aeF w1 B0 B wb fb rv vv cv (hM rows) b:=λb G w=>by
    refine st.q_late (by omega) (by have:=st.colo (k:=i) (Nat.le_refl S.cells.length);omega) ?_;rcases Nat.lt_or_gt_of_ne hi with hlt | hlt;·have:=dK st.own.tmono (show i+1<=th from hlt);left;omega
    ·have:=dK st.own.tmono (show th+1<=i from hlt);right;omega
   refine⟨g,d.symm,wI (nF F.at_ st.below (λb hb=>K b (F.at_.row.lt b hb).1 (F.fb b hb)) (λr d b hb=>?_) (λr d b hb=>?_)) l hlt,wf.1,wf.2.1,wf.2.2.1,wf.2.2.2⟩;·obtain⟨k,l⟩:=List.getElem?_of_mem d;have z:=(lE l).1;have:=(F.at_.regs k r _ l (lG (by rw[<-F.at_.lr];exact z))).lt b hb;exact K b this.1 (F.rb r d b hb)
   ·obtain⟨k,l⟩:=List.getElem?_of_mem d;have z:=(lE l).1;have:=(F.at_.tries k r _ l (lG (by rw[<-F.at_.lt];exact z))).lt b hb;exact K b this.1 (F.tb r d b hb)
end
end
end Go.Proofs.YtjaphgpkkfdaaaaGreatDoor
