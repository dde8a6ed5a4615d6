/- A part of the walk. -/
import Derived.Test.YtijihlcdhppfgaaGreatDoorZS
set_option maxHeartbeats 16000000
set_option maxRecDepth 100000
set_option linter.all false
namespace Go.Proofs.YtijihlcdhppfgaaGreatDoor
open Tryz
section
open Go.RowKit
def WfV (v:Val):Prop:=wfi v.kind/\wfi v.n
def WfC (c:bJ):Prop:=wfi c.kind/\wfi c.num/\∀v∈c.vals,WfV v
def dR:List bJ->List Value->List Value->List (List Value)
 | c::l,v::vs,f::fs=>bM c v f::dR l vs fs
 | _,_,_=>[]
theorem gP:∀(l:List bJ) (vs d:List Value) (i:Nat) (c:bJ) (v f:Value),l[i]? = some c->vs[i]? = some v->d[i]? = some f->(dR l vs d)[i]? = some (bM c v f)
 | [],_,_,_,_,_,_,h,_,_=>by simp at h
 | _::_,[],_,_,_,_,_,_,h,_=>by simp at h
 | _::_,_::_,[],_,_,_,_,_,_,h=>by simp at h
 | f::l,r::rs,t::ts,0,f',r',t',h1,h2,h3=>by
  simp only[List.getElem?_cons_zero,Option.some.injEq] at h1 h2 h3
  subst h1;subst h2;subst h3;rfl
 | f::l,r::rs,t::ts,i+1,f',r',t',h1,h2,h3=>by
  simp only[List.getElem?_cons_succ] at h1 h2 h3
  exact gP l rs ts i f' r' t' h1 h2 h3
theorem jU:∀(l:List bJ) (vs d:List Value),∀x∈dR l vs d,x.length=4
 | [],_,_,x,h=>by unfold dR at h;cases h
 | f::l,[],_,x,h=>by unfold dR at h;cases h
 | f::l,_::_,[],x,h=>by unfold dR at h;cases h
 | f::l,r::rs,t::ts,x,h=>by
  unfold dR at h
  rcases List.mem_cons.1 h with rfl | h
  ·rfl
  ·exact jU l rs ts x h
theorem nK:∀(l:List bJ) (vs d:List Value) (i:Nat) (c:bJ) (v f:Value),vs.length=l.length->d.length=l.length->(dR l vs d).set i (bM c v f)=dR (l.set i c) (vs.set i v) (d.set i f)
 | [],_,_,_,_,_,_,_,_=>by unfold dR;rfl
 | _::_,[],_,_,_,_,_,h,_=>by simp at h
 | _::_,_::_,[],_,_,_,_,_,h=>by simp at h
 | x::l,y::vs,z::d,0,c,v,f,_,_=>rfl
 | x::l,y::vs,z::d,i+1,c,v,f,h1,h2=>by
  show bM x y z::(dR l vs d).set i _=bM x y z::dR (l.set i c) (vs.set i v) (d.set i f)
  rw[nK l vs d i c v f (by simpa using h1) (by simpa using h2)]
theorem xI:∀(l:List bJ) (vs d:List Value) (c:bJ) (v f:Value),vs.length=l.length->d.length=l.length->dR (l++[c]) (vs++[v]) (d++[f])=dR l vs d++[bM c v f]
 | [],[],[],_,_,_,_,_=>rfl
 | [],_::_,_,_,_,_,h,_=>by simp at h
 | [],[],_::_,_,_,_,_,h=>by simp at h
 | _::_,[],_,_,_,_,h,_=>by simp at h
 | _::_,_::_,[],_,_,_,_,h=>by simp at h
 | x::l,y::vs,z::d,c,v,f,h1,h2=>by
  show bM x y z::dR (l++[c]) (vs++[v]) (d++[f])=bM x y z::(dR l vs d++[bM c v f])
  rw[xI l vs d c v f (by simpa using h1) (by simpa using h2)]
def xR (w:World) (Q:Nat->Prop) (cs:List Value) (x:bC):Prop:=
 ∃r t,cs=[.int .i64 x.fn,.int .i64 x.at_,.int .i64 x.tos,.int .i64 x.gen,.int .i64 x.self.kind,.int .i64 x.self.n,r,t]/\bW w Q 2 hU r x.regs/\bW w Q 2 kH t x.tries/\
  wfi x.fn/\wfi x.at_/\wfi x.tos/\wfi x.gen/\wfi x.self.kind/\wfi x.self.n
structure mW where
 w1:World
 Q:Nat->Prop
 Qf:Nat->Prop
 B:Nat
 B0:Nat
 wb:Nat
 fb:Nat
 fo:Nat
 rv:Value
 t:aH
 tcs:List Value
 shv:Value
 shapes:List aO
 self:Val
structure jZ (Γ : mW):Prop where
 q1:∀b,Γ.Q b->b < Γ.w1.heap.size
 q0:∀b,b < Γ.B0->Γ.Q b
 b1 : Γ.B<=Γ.w1.heap.size
 qw:¬ Γ.Q Γ.wb
 qf:¬ Γ.Q Γ.fb
 tl : Γ.tcs.length=13
 tr:bI Γ.w1 Γ.B0 Γ.tcs Γ.t
 sh:bW Γ.w1 Γ.Q 2 jG Γ.shv Γ.shapes
 f4 : Γ.w1.cell? ⟨Γ.fb,Γ.fo+4,none⟩=some (.int .i64 Γ.self.kind)
 f5 : Γ.w1.cell? ⟨Γ.fb,Γ.fo+5,none⟩=some (.int .i64 Γ.self.n)
 f6 : Γ.w1.cell? ⟨Γ.fb,Γ.fo+6,none⟩=some Γ.rv
 wfs:WfV Γ.self
structure cC (Γ : mW) (w:World) (W:aG) (cv vv:Value) (vs fs:List Value):Prop where
 row:w.heap[Γ.wb]? = some (.cells ⟨Γ.tcs++[cv,Γ.shv,.pointer (some ⟨Γ.fb,Γ.fo,none⟩),.int .i64 W.steps,vv]⟩ 147 (0,0))
 frow:∃cs,w.heap[Γ.fb]? = some (.cells cs 145 (0,0))
 fat:w.cell? ⟨Γ.fb,Γ.fo+1,none⟩=some (.int .i64 W.at_)
 frest:∀k,k≠Γ.fo+1->w.cell? ⟨Γ.fb,k,none⟩ = Γ.w1.cell? ⟨Γ.fb,k,none⟩
 lv:vs.length=W.cells.length
 lf:fs.length=W.cells.length
 crow:w.ownsRow Γ.B 166 4 cv W.cells.length ((dR W.cells vs fs).flatMap id)
 vals:w.ownsRow Γ.B 51 2 vv W.vals.length (W.vals.flatMap bE)
 regs:w.ownsRow Γ.B 51 2 Γ.rv W.regs.length (W.regs.flatMap bE)
 cvals:∀(i:Nat) v c,vs[i]? = some v->W.cells[i]? = some c->w.ownsRow Γ.B 51 2 v c.vals.length (c.vals.flatMap bE)
 ap1:∀g,vv.ownBlock=some g->Γ.rv.ownBlock≠some g
 ap2:∀(i:Nat) v g,vs[i]? = some v->v.ownBlock=some g->vv.ownBlock≠some g/\Γ.rv.ownBlock≠some g
 ap3:∀(i j:Nat) a b g,i≠j->vs[i]? = some a->vs[j]? = some b->a.ownBlock=some g->b.ownBlock≠some g
 nqc:∀g,cv.ownBlock=some g->¬ Γ.Q g
 nqv:∀g,vv.ownBlock=some g->¬ Γ.Q g
 nqr:∀g,Γ.rv.ownBlock=some g->¬ Γ.Q g
 nqs:∀(i:Nat) v g,vs[i]? = some v->v.ownBlock=some g->¬ Γ.Q g
 fixed:∀b,Γ.Q b->w.heap[b]? = Γ.w1.heap[b]?
 cfr:∀(i:Nat) f c,fs[i]? = some f->W.cells[i]? = some c->bW Γ.w1 Γ.Qf 8 (xR Γ.w1 Γ.Qf) f c.frames
 size : Γ.w1.heap.size<=w.heap.size
 wfc:∀c∈W.cells,WfC c
 wfv:∀v∈W.vals,WfV v
 wfr:∀v∈W.regs,WfV v
 wfa:wfi W.at_
 wfs:wfi W.steps
structure dC (T:Nat->Prop) (w w':World):Prop where
 os:w'.os=w.os
 tape:w'.tape=w.tape
 output:w'.output=w.output
 size:w.heap.size<=w'.heap.size
 block:∀k,k<w.heap.size->¬T k->w'.heap[k]? = w.heap[k]?
theorem dC.refl {T:Nat->Prop} {w:World} : dC T w w:=⟨rfl,rfl,rfl,Nat.le_refl _,λ_ _ _=>rfl⟩
theorem dC.of {T:Nat->Prop} {w w':World} (h:Below w.heap.size w w'):dC T w w':=⟨h.os,h.tape,h.output,h.size,λk d _=>h.block k d⟩
theorem dC.trans {T:Nat->Prop} {a b c:World} (h:dC T a b) (g:dC T b c):dC T a c:= ⟨g.os.trans h.os,g.tape.trans h.tape,g.output.trans h.output,Nat.le_trans h.size g.size,λk d ht=>(g.block k (Nat.lt_of_lt_of_le d h.size) ht).trans (h.block k d ht)⟩
theorem dC.mono {T f:Nat->Prop} {a b:World} (h:dC T a b) (j:∀k,k<a.heap.size->T k->f k):dC f a b:=⟨h.os,h.tape,h.output,h.size,λk d ht=>h.block k d (λg=>ht (j k d g))⟩
theorem dC.set {T:Nat->Prop} {w w':World} (h:dC T w w') {g:Nat} (f:T g) (j:Nat) (u:Value):dC T w (w'.setCell ⟨g,j,none⟩ u):= ⟨h.os,h.tape,h.output,by simpa [World.setCell] using h.size,λk d ht=>(heap_setCell_other _ _ _ _ (by rintro rfl;exact ht f)).trans (h.block k d ht)⟩
theorem dC.grown {T:Nat->Prop} {a b c:World} (h:dC T a b) {o:Option Nat} (d:b.grownBy c o) (j:∀g,o=some g->T g):dC T a c:= ⟨d.os.trans h.os,d.tape.trans h.tape,d.output.trans h.output,Nat.le_trans h.size d.size,λk f ht=>(d.block k (Nat.lt_of_lt_of_le f h.size) (λe=>ht (j k e.symm))).trans (h.block k f ht)⟩
theorem bB {w:World} {B n size:Nat} {e:TypeId} {v:Value} {xs:List Value} (h:w.ownsRow B e size v n xs) {g:Nat} (d:v.ownBlock=some g):∃cs,w.heap[g]? = some (.cells cs e (0,0)):=by
 rcases h.2 with ⟨rfl,-⟩ | ⟨p,l,f,rfl,hb,j,-⟩;·cases d
 ·injection d with d;subst d;exact⟨f,j⟩
theorem gN {w w':World} {B n size:Nat} {e:TypeId} {v:Value} {xs:List Value} (h:w.ownsRow B e size v n xs) (l:∀g,v.ownBlock=some g->w'.heap[g]? = w.heap[g]?):w'.ownsRow B e size v n xs:=by
 obtain⟨hl,j⟩:=h;refine⟨hl,?_⟩;rcases j with ⟨rfl,p⟩ | ⟨g,d,f,rfl,hb,h1,q⟩;·exact .inl ⟨rfl,p⟩
 ·exact .inr ⟨g,d,f,rfl,hb,(l g rfl).trans h1,q⟩
theorem aY {w:World} {g:Nat} {x:Obj} (h:w.heap[g]? = some x):g<w.heap.size:=(aE h).1
section
variable {Γ : mW} {w w':World} {W:aG} {cv vv:Value} {vs fs:List Value}
theorem bS {g k:Nat} {cs f:Array Value} {e j:TypeId} (h:w.heap[g]? = some (.cells cs e (0,0))) (d:w.heap[k]? = some (.cells f j (0,0))) (l:e≠j):g≠k:=by rintro rfl;rw[h] at d;injection d with d;injection d with _ d;exact l d
theorem cC.putVal0 (L:cC Γ w W cv vv vs fs) {T:Nat->Prop} (o:dC T w w') (l:∀g,g<w.heap.size->T g->∃cs,w.heap[g]? = some (.cells cs 51 (0,0))) (p:∀g,T g->¬ Γ.Q g) (K:jZ Γ) : w'.heap[Γ.wb]? = w.heap[Γ.wb]?/\w'.heap[Γ.fb]? = w.heap[Γ.fb]?/\(∀g,cv.ownBlock=some g->w'.heap[g]? = w.heap[g]?)/\(∀b,Γ.Q b->w'.heap[b]? = w.heap[b]?):=by have far:∀(g:Nat) (cs:Array Value) (e:TypeId),w.heap[g]? = some (.cells cs e (0,0))->e≠51->w'.heap[g]? = w.heap[g]?:=λg cs e h d=> o.block g (aY h) (λht=>by obtain⟨q,f⟩:=l g (aY h) ht;exact bS h f d rfl);obtain⟨r,hf⟩:=L.frow;refine⟨far _ _ _ L.row (by decide),far _ _ _ hf (by decide),λg j=>?_,λb hb=>o.block b (Nat.lt_of_lt_of_le (K.q1 b hb) L.size) (λht=>p b ht hb)⟩;obtain⟨cs,h⟩:=bB L.crow j;exact far _ _ _ h (by decide)
theorem cC.below (L:cC Γ w W cv vv vs fs) (K:jZ Γ) (h:Below w.heap.size w w'):cC Γ w' W cv vv vs fs:=by
 obtain⟨f,hf⟩:=L.frow
 have d:=h.block _ (aY hf)
 exact { L with
  row:=(h.block _ (aY L.row)).trans L.row
  frow:=⟨f,d.trans hf⟩
  fat:=(World.cell?_of_block d).trans L.fat
  frest:=λk g=>(World.cell?_of_block d).trans (L.frest k g)
  crow:=eA L.crow h
  vals:=eA L.vals h
  regs:=eA L.regs h
  cvals:=λi v c j l=>eA (L.cvals i v c j l) h
  fixed:=λb hb=>(h.block b (Nat.lt_of_lt_of_le (K.q1 b hb) L.size)).trans (L.fixed b hb)
  size:=Nat.le_trans L.size h.size }
theorem cC.putVals (L:cC Γ w W cv vv vs fs) (K:jZ Γ) {l:List Val} (o:dC (λk=>vv.ownBlock=some k) w w') (h:w'.ownsRow Γ.B 51 2 vv l.length (l.flatMap bE)) (wf:∀v∈l,WfV v):cC Γ w' { W with vals:=l } cv vv vs fs:=by
 obtain⟨h1,f,q,r⟩:=L.putVal0 o (λg _ d=>bB L.vals d) L.nqv K
 obtain⟨s,hf⟩:=L.frow
 exact { L with
  row:=h1.trans L.row
  frow:=⟨s,f.trans hf⟩
  fat:=(World.cell?_of_block f).trans L.fat
  frest:=λk u=>(World.cell?_of_block f).trans (L.frest k u)
  crow:=gN L.crow q
  vals:=h
  regs:=gN L.regs (λg d=>o.block g (L.regs.lt g d).2 (λh=>L.ap1 g h d))
  cvals:=λi v c j p=>gN (L.cvals i v c j p) (λg d=>o.block g ((L.cvals i v c j p).lt g d).2 (λh=>(L.ap2 i v g j d).1 h))
  fixed:=λb hb=>(r b hb).trans (L.fixed b hb)
  size:=Nat.le_trans L.size o.size
  wfv:=wf }
theorem cC.putRegs (L:cC Γ w W cv vv vs fs) (K:jZ Γ) {l:List Val} (o:dC (λk=>Γ.rv.ownBlock=some k) w w') (h:w'.ownsRow Γ.B 51 2 Γ.rv l.length (l.flatMap bE)) (wf:∀v∈l,WfV v):cC Γ w' { W with regs:=l } cv vv vs fs:=by
 obtain⟨h1,f,q,r⟩:=L.putVal0 o (λg _ d=>bB L.regs d) L.nqr K
 obtain⟨s,hf⟩:=L.frow
 exact { L with
  row:=h1.trans L.row
  frow:=⟨s,f.trans hf⟩
  fat:=(World.cell?_of_block f).trans L.fat
  frest:=λk u=>(World.cell?_of_block f).trans (L.frest k u)
  crow:=gN L.crow q
  vals:=gN L.vals (λg d=>o.block g (L.vals.lt g d).2 (λh=>L.ap1 g d h))
  regs:=h
  cvals:=λi v c j p=>gN (L.cvals i v c j p) (λg d=>o.block g ((L.cvals i v c j p).lt g d).2 (λh=>(L.ap2 i v g j d).2 h))
  fixed:=λb hb=>(r b hb).trans (L.fixed b hb)
  size:=Nat.le_trans L.size o.size
  wfr:=wf }
theorem cP {α : Type} {l:List α} {n i:Nat} {x y : α} (h:(l.set n x)[i]? = some y):(i=n/\y=x)\/(i≠n/\l[i]? = some y):=by
 by_cases hi:i=n
 ·subst hi;have hl:=(lE h).1;rw[List.length_set] at hl;rw[List.getElem?_set_self hl] at h;injection h with h
  exact .inl ⟨rfl,h.symm⟩
 ·rw[List.getElem?_set_ne (λe=>hi e.symm)] at h;exact .inr ⟨hi,h⟩
theorem cC.putCell (L:cC Γ w W cv vv vs fs) (K:jZ Γ) {n:Nat} {c':bJ} {v v' f':Value} (q:vs[n]? = some v) (o:dC (λk=>v.ownBlock=some k\/cv.ownBlock=some k) w w') (Y:w'.ownsRow Γ.B 166 4 cv W.cells.length ((dR (W.cells.set n c') (vs.set n v') (fs.set n f')).flatMap id)) (Z:w'.ownsRow Γ.B 51 2 v' c'.vals.length (c'.vals.flatMap bE)) (hb:∀g,v'.ownBlock=some g->v.ownBlock=some g\/w.heap.size<=g) (hf:bW Γ.w1 Γ.Qf 8 (xR Γ.w1 Γ.Qf) f' c'.frames) (wf:WfC c') : cC Γ w' (setCW W n c') cv vv (vs.set n v') (fs.set n f'):=by
 obtain⟨cf,I⟩:=L.frow;have D:n<W.cells.length:=by rw[<-L.lv];exact(lE q).1
 have O:W.cells[n]? = some W.cells[n]:=lG D;have far:∀(g:Nat) (cs:Array Value) (e:TypeId),w.heap[g]? = some (.cells cs e (0,0))->e≠51->e≠166->w'.heap[g]? = w.heap[g]?:=λg cs e h h1 E=>
  o.block g (aY h) (λht=>by
   rcases ht with ht | ht
   ·obtain⟨J,F⟩:=bB (L.cvals n v _ q O) ht
    exact bS h F h1 rfl
   ·obtain⟨J,F⟩:=bB L.crow ht
    exact bS h F E rfl)
 have s:∀(u:Value) (xs:List Value) (m:Nat),w.ownsRow Γ.B 51 2 u m xs->(∀g,u.ownBlock=some g->v.ownBlock≠some g)->w'.ownsRow Γ.B 51 2 u m xs:=λu xs m h V=>
  gN h (λg l=>o.block g (h.lt g l).2 (λht=>by
   rcases ht with ht | ht
   ·exact V g l ht
   ·obtain⟨J,F⟩:=bB L.crow ht
    obtain⟨cs,S⟩:=bB h l
    exact bS S F (by decide) rfl))
 have E:=far _ _ _ I (by decide) (by decide);have x:(W.cells.set n c').length=W.cells.length:=List.length_set;exact {
  row:=(far _ _ _ L.row (by decide) (by decide)).trans L.row
  frow:=⟨cf,E.trans I⟩
  fat:=(World.cell?_of_block E).trans L.fat
  frest:=λk hk=>(World.cell?_of_block E).trans (L.frest k hk)
  lv:=by show(vs.set n v').length=(W.cells.set n c').length;rw[List.length_set,x];exact L.lv
  lf:=by show(fs.set n f').length=(W.cells.set n c').length;rw[List.length_set,x];exact L.lf
  crow:=by show w'.ownsRow Γ.B _ 4 cv (W.cells.set n c').length _;rw[x];exact Y
  vals:=s _ _ _ L.vals (λg l h=>(L.ap2 n v g q h).1 l)
  regs:=s _ _ _ L.regs (λg l h=>(L.ap2 n v g q h).2 l)
  cvals:=λi u c G H=>by
   have d:(W.cells.set n c')[i]? = some c:=H
   rcases cP G with ⟨rfl,rfl⟩ | ⟨hi,r⟩
   ·rw[List.getElem?_set_self D] at d
    injection d with d;subst d;exact Z
   ·rw[List.getElem?_set_ne (λe=>hi e.symm)] at d
    exact s _ _ _ (L.cvals i u c r d) (λg l=>L.ap3 i n u v g hi r q l)
  ap1:=L.ap1
  ap2:=λi u g G l=>by
   rcases cP G with ⟨rfl,rfl⟩ | ⟨hi,r⟩
   ·rcases hb g l with h | h
    ·exact L.ap2 i v g q h
    ·exact⟨λe=>by have:=(L.vals.lt g e).2;omega,λe=>by have:=(L.regs.lt g e).2;omega⟩
   ·exact L.ap2 i u g r l
  ap3:=λi j a b g y ha M l=>by
   rcases cP ha with ⟨rfl,rfl⟩ | ⟨hi,z⟩
   ·rcases cP M with ⟨rfl,rfl⟩ | ⟨hj,p⟩
    ·exact absurd rfl y
    ·rcases hb g l with h | h
     ·exact L.ap3 i j v b g y q p h
     ·intro e
      have P:j<W.cells.length:=by rw[<-L.lv];exact(lE p).1
      have:=((L.cvals j b _ p (lG P)).lt g e).2
      omega
   ·rcases cP M with ⟨rfl,rfl⟩ | ⟨hj,p⟩
    ·intro e
     rcases hb g e with h | h
     ·exact L.ap3 i j a v g y z q l h
     ·have R:i<W.cells.length:=by rw[<-L.lv];exact(lE z).1
      have:=((L.cvals i a _ z (lG R)).lt g l).2
      omega
    ·exact L.ap3 i j a b g y z p l
  nqc:=L.nqc
  nqv:=L.nqv
  nqr:=L.nqr
  nqs:=λi u g G l=>by
   rcases cP G with ⟨rfl,rfl⟩ | ⟨hi,r⟩
   ·rcases hb g l with h | h
    ·exact L.nqs i v g q h
    ·intro A;have:=K.q1 g A;have:=L.size;omega
   ·exact L.nqs i u g r l
  fixed:=λb A=>(o.block b (Nat.lt_of_lt_of_le (K.q1 b A) L.size) (λht=>by
   rcases ht with ht | ht
   ·exact L.nqs n v b q ht A
   ·exact L.nqc b ht A)).trans (L.fixed b A)
  cfr:=λi f c X H=>by
   have d:(W.cells.set n c')[i]? = some c:=H
   rcases cP X with ⟨rfl,rfl⟩ | ⟨hi,N⟩
   ·rw[List.getElem?_set_self D] at d
    injection d with d;subst d;exact hf
   ·rw[List.getElem?_set_ne (λe=>hi e.symm)] at d
    exact L.cfr i f c N d
  size:=Nat.le_trans L.size o.size
  wfc:=λc H=>by
   rcases List.mem_or_eq_of_mem_set (show c∈W.cells.set n c' from H) with h | h
   ·exact L.wfc c h
   ·rw[h];exact wf
  wfv:=L.wfv
  wfr:=L.wfr
  wfa:=L.wfa
  wfs:=L.wfs }
theorem cC.snoc (L:cC Γ w W cv vv vs fs) (K:jZ Γ) {kind num:Int} {q:Value} (H:wfi kind/\wfi num) (o:dC (λk=>cv.ownBlock=some k\/k = Γ.wb) w w') (N:w'.heap[Γ.wb]? = some (.cells ⟨Γ.tcs++[q,Γ.shv,.pointer (some ⟨Γ.fb,Γ.fo,none⟩),.int .i64 W.steps,vv]⟩ 147 (0,0))) (P:w'.ownsRow Γ.B 166 4 q (W.cells.length+1) ((dR W.cells vs fs).flatMap id++bM ⟨kind,num,[],[]⟩ (.slice none 0 0) (.slice none 0 0))) (hb:∀g,q.ownBlock=some g->cv.ownBlock=some g\/w.heap.size<=g) : cC Γ w' { W with cells:=W.cells++[⟨kind,num,[],[]⟩] } q vv (vs++[.slice none 0 0]) (fs++[.slice none 0 0]):=by
 obtain⟨R,I⟩:=L.frow;have far:∀(g:Nat) (cs:Array Value) (e:TypeId),w.heap[g]? = some (.cells cs e (0,0))->e≠147->e≠166->w'.heap[g]? = w.heap[g]?:=λg cs e h h1 D=>
  o.block g (aY h) (λht=>by
   rcases ht with ht | ht
   ·obtain⟨V,J⟩:=bB L.crow ht
    exact bS h J D rfl
   ·exact bS h L.row h1 ht)
 have r:∀(u:Value) (xs:List Value) (m:Nat),w.ownsRow Γ.B 51 2 u m xs->w'.ownsRow Γ.B 51 2 u m xs:=λu xs m h=> gN h (λg d=>by obtain⟨cs,J⟩:=bB h d;exact far _ _ _ J (by decide) (by decide));have D:=far _ _ _ I (by decide) (by decide);have old:∀ {α : Type} {l:List α} {i:Nat} {x y : α},(l++[x])[i]? = some y->l[i]? = some y\/(i=l.length/\y=x):=λ{α l i x y} h=>by
  rcases Nat.lt_trichotomy i l.length with hi | hi | hi;·rw[List.getElem?_append_left hi] at h;exact .inl h
  ·subst hi;simp at h;exact .inr ⟨rfl,h.symm⟩
  ·rw[List.getElem?_eq_none (by simp;omega)] at h;cases h
 exact {
  row:=N
  frow:=⟨R,D.trans I⟩
  fat:=(World.cell?_of_block D).trans L.fat
  frest:=λk H=>(World.cell?_of_block D).trans (L.frest k H)
  lv:=by simp[L.lv]
  lf:=by simp[L.lf]
  crow:=by
   show w'.ownsRow Γ.B _ 4 q (W.cells++[_]).length ((dR (W.cells++[_]) _ _).flatMap id)
   rw[xI _ _ _ _ _ _ L.lv L.lf,List.length_append,List.flatMap_append]
   simpa using P
  vals:=r _ _ _ L.vals
  regs:=r _ _ _ L.regs
  cvals:=λi u c p s=>by
   rcases old p with p | ⟨hi,rfl⟩
   ·have E:i<W.cells.length:=by rw[<-L.lv];exact(lE p).1
    have F:W.cells[i]? = some c:=by
     have:(W.cells++[(⟨kind,num,[],[]⟩:bJ)])[i]? = some c:=s
     rwa [List.getElem?_append_left E] at this
    exact r _ _ _ (L.cvals i u c p F)
   ·have:(W.cells++[(⟨kind,num,[],[]⟩:bJ)])[i]? = some c:=s
    rw[hi,L.lv] at this
    simp at this
    subst this
    exact⟨rfl,.inl ⟨rfl,rfl⟩⟩
  ap1:=L.ap1
  ap2:=λi u g p d=>by
   rcases old p with p | ⟨hi,rfl⟩
   ·exact L.ap2 i u g p d
   ·cases d
  ap3:=λi j a b g O M G d=>by
   rcases old M with M | ⟨hi,rfl⟩
   ·rcases old G with G | ⟨X,rfl⟩
    ·exact L.ap3 i j a b g O M G d
    ·intro e;cases e
   ·cases d
  nqc:=λg d z=>by
   rcases hb g d with h | h
   ·exact L.nqc g h z
   ·have:=K.q1 g z;have:=L.size;omega
  nqv:=L.nqv
  nqr:=L.nqr
  nqs:=λi u g p d=>by
   rcases old p with p | ⟨hi,rfl⟩
   ·exact L.nqs i u g p d
   ·cases d
  fixed:=λb z=>(o.block b (Nat.lt_of_lt_of_le (K.q1 b z) L.size) (λht=>by
   rcases ht with ht | ht
   ·exact L.nqc b ht z
   ·subst ht;exact K.qw z)).trans (L.fixed b z)
  cfr:=λi f c A s=>by
   rcases old A with A | ⟨hi,rfl⟩
   ·have E:i<W.cells.length:=by rw[<-L.lf];exact(lE A).1
    have F:W.cells[i]? = some c:=by
     have:(W.cells++[(⟨kind,num,[],[]⟩:bJ)])[i]? = some c:=s
     rwa [List.getElem?_append_left E] at this
    exact L.cfr i f c A F
   ·have:(W.cells++[(⟨kind,num,[],[]⟩:bJ)])[i]? = some c:=s
    rw[hi,L.lf] at this
    simp at this
    subst this
    exact bW.nil _ _ _ _
  size:=Nat.le_trans L.size o.size
  wfc:=λc s=>by
   rcases List.mem_append.1 (show c∈W.cells++[_] from s) with h | h
   ·exact L.wfc c h
   ·rw[List.mem_singleton] at h;subst h;exact⟨H.1,H.2,λv S=>by cases S⟩
  wfv:=L.wfv
  wfr:=L.wfr
  wfa:=L.wfa
  wfs:=L.wfs }
theorem cC.own (L:cC Γ w W cv vv vs fs) (K:jZ Γ) (k:Nat):w.cell? ⟨Γ.wb,13+k,none⟩=[cv,Γ.shv,.pointer (some ⟨Γ.fb,Γ.fo,none⟩),.int .i64 W.steps,vv][k]?:=by rw[cell_of_row w _ (13+k) _ _ _ L.row];refine(List.getElem?_toArray ..).trans ?_;rw[List.getElem?_append_right (by rw[K.tl];omega),K.tl,Nat.add_sub_cancel_left]
theorem cC.tr (L:cC Γ w W cv vv vs fs) (K:jZ Γ) {k:Nat} (d:k<13):w.cell? ⟨Γ.wb,k,none⟩ = Γ.tcs[k]?:=by rw[cell_of_row w _ k _ _ _ L.row];refine(List.getElem?_toArray ..).trans ?_;rw[List.getElem?_append_left (by rw[K.tl];exact d)]
theorem cC.held (L:cC Γ w W cv vv vs fs) (p:Addr) (h : Γ.Q p.block):w.cell? p = Γ.w1.cell? p:=World.cell?_of_block (L.fixed p.block h)
theorem cF {l:List Val} {i:Nat} {v:Val} (h:l[i]? = some v) {k:Nat} (f:k<2):(l.flatMap bE)[i*2+k]? = (bE v)[k]?:=by rw[<-eS];exact dB _ i k _ (λr d=>by obtain⟨x,-,rfl⟩:=List.mem_map.1 d;rfl) (by rw[List.getElem?_map,h];rfl) f
theorem aaB {w:World} {B g n f:Nat} {l:List Val} {i:Nat} {v u:Val} (h:w.ownsRow B 51 2 (.slice (some ⟨g,0,none⟩) n f) n (l.flatMap bE)) (hi:l[i]? = some u) : ((w.setCell ⟨g,i*2,none⟩ (.int .i64 v.kind)).setCell ⟨g,i*2+1,none⟩ (.int .i64 v.n)).ownsRow B 51 2 (.slice (some ⟨g,0,none⟩) n f) n ((l.set i v).flatMap bE):=by
 have h1:=((h.stored (i*2) (.int .i64 v.kind)).1.stored (i*2+1) (.int .i64 v.n)).1;have d:∀r∈l.map bE,r.length=2:=λr d=>by obtain⟨x,-,rfl⟩:=List.mem_map.1 d;rfl
 have j:(l.map bE)[i]? = some (bE u):=by rw[List.getElem?_map,hi];rfl
 rw[<-eS bE l,show i*2=i*2+0 from rfl,fG _ i 0 _ _ d j (by decide),fG _ i 1 _ _ (gR d rfl) (fC j _) (by decide),List.set_set] at h1;rw[<-eS,List.map_set];exact h1
end
end
section
open Go.RowKit
def jD (rows:List (List Value)):List Value:=rows.map λr=>r.getD 2 (.slice none 0 0)
def abY (rows:List (List Value)):List Value:=rows.map λr=>r.getD 3 (.slice none 0 0)
theorem ab7:∀(l:List bJ) (rows:List (List Value)),rows.length=l.length->(∀(i:Nat) c,l[i]? = some c->∃v f,rows[i]? = some (bM c v f))->dR l (jD rows) (abY rows)=rows
 | [],[],_,_=>rfl
 | [],_::_,h,_=>by simp at h
 | _::_,[],h,_=>by simp at h
 | c::l,r::rows,h,hp=>by
  obtain⟨v,f,e⟩:=hp 0 c rfl
  obtain rfl:r=bM c v f:=by simpa using e
  show bM c v f::dR l (jD rows) (abY rows)=_
  rw[ab7 l rows (by simpa using h) (λi c hi=>hp (i+1) c hi)]
theorem uE {w:World} {B:Nat} {v:Value} {l:List Val} (h:w.ownsRow B 51 2 v l.length (l.flatMap bE)) (wf:∀x∈l,WfV x):aB w w.heap.size 2 hU v l:=by
 obtain⟨A,c,rfl⟩:=cJ h;refine mE (rows:=l.map bE) (by rw[eS];exact h) (by simp) (λr d=>by obtain⟨x,-,rfl⟩:=List.mem_map.1 d;rfl) (λi r x d f=>?_);rw[List.getElem?_map,f] at d;obtain rfl:bE x=r:=by simpa using d
 exact⟨rfl,wf x (lM f)⟩
theorem uF {w:World} {Q:Nat->Prop} {B:Nat} {v:Value} {l:List Val} (h:w.ownsRow B 51 2 v l.length (l.flatMap bE)) (wf:∀x∈l,wfi x.kind/\wfi x.n) (p:∀g,v.ownBlock=some g->Q g):bW w Q 2 hU v l:=by
 obtain⟨A,c,rfl⟩:=cJ h;refine iD (rows:=l.map bE) (by rw[eS];exact h) (by simp) (λr d=>by obtain⟨x,-,rfl⟩:=List.mem_map.1 d;rfl) (λg _ j _ _=>p g j) (λi r x d f=>?_);rw[List.getElem?_map,f] at d;obtain rfl:bE x=r:=by simpa using d
 exact⟨rfl,wf x (lM f)⟩
theorem nS {w:World} {Q:Nat->Prop} {B:Nat} {v:Value} {l:List iV} (h:w.ownsRow B 223 2 v l.length (l.flatMap dT)) (wf:∀x∈l,wfi x.reg/\wfi x.at_) (p:∀g,v.ownBlock=some g->Q g):bW w Q 2 kH v l:=by
 obtain⟨A,c,rfl⟩:=cJ h;refine iD (rows:=l.map dT) (by rw[eS];exact h) (by simp) (λr d=>by obtain⟨x,-,rfl⟩:=List.mem_map.1 d;rfl) (λg _ j _ _=>p g j) (λi r x d f=>?_);rw[List.getElem?_map,f] at d;obtain rfl:dT x=r:=by simpa using d
 exact⟨rfl,wf x (lM f)⟩
theorem qR {u w:World} {Q:Nat->Prop} {y:Nat} {v:Value} {l:List bC} {rs d:List Value} (F:hJ u y v l rs d) (k:Below u.heap.size u w) (h1:∀g,v.ownBlock=some g->Q g) (z:∀r∈rs,∀g,r.ownBlock=some g->Q g) (D:∀r∈d,∀g,r.ownBlock=some g->Q g) : bW w Q 8 (xR w Q) v l:=by
 have row:=eA F.row k;obtain⟨A,c,rfl⟩:=cJ row;refine iD row (rL l rs d F.lr F.lt) (i7 _ _ _) (λg _ j _ _=>h1 g j) (λi r x q p=>?_);have s:=(lE p).1;have f:rs[i]? = some (rs[i]'(by rw[F.lr];exact s)):=lG _;have h:d[i]? = some (d[i]'(by rw[F.lt];exact s)):=lG _;rw[fJ l rs d i x _ _ p f h] at q;injection q with q
 have wf:=F.wf x (lM p);exact⟨_,_,q.symm,uF (eA (F.regs i _ x f p) k) wf.2.2.2.2.2.2.1 (λg j=>z _ (lM f) g j),nS (eA (F.tries i _ x h p) k) wf.2.2.2.2.2.2.2 (λg j=>D _ (lM h) g j),wf.1,wf.2.1,wf.2.2.1,wf.2.2.2.1,wf.2.2.2.2.1,wf.2.2.2.2.2.1⟩
theorem ajK {w1 w:World} {Q:Nat->Prop} {cs:List Value} {x:bC} (h:xR w1 Q cs x) (f:∀b,Q b->w.heap[b]? = w1.heap[b]?) (d:∀b,Q b->b<w.heap.size):dD w w.heap.size cs x:=by obtain⟨r,t,e,h1,g,j⟩:=h;exact⟨r,t,e,(h1.far (λ_ h=>h) f).toR d (λ_ _ h=>h),(g.far (λ_ h=>h) f).toR d (λ_ _ h=>h),j⟩
theorem abZ {w1 w:World} {Q:Nat->Prop} {f:Value} {l:List bC} (h:bW w1 Q 8 (xR w1 Q) f l) (g:∀b,Q b->w.heap[b]? = w1.heap[b]?) (d:∀b,Q b->b<w.heap.size):aB w w.heap.size 8 (dD w w.heap.size) f l:= (h.far (λ_ h=>h) g).toR d (λ_ _ h=>ajK h g d)
def QOf (w1:World) (B0 B wb fb:Nat) (rv vv cv:Value) (vs:List Value) (b:Nat):Prop:=
 (b<w1.heap.size/\(b<B0\/B<=b))/\b≠wb/\b≠fb/\rv.ownBlock≠some b/\vv.ownBlock≠some b/\cv.ownBlock≠some b/\∀(i:Nat) v,vs[i]? = some v->v.ownBlock≠some b
def sR (w1:World) (B0 B wb fb:Nat) (rv vv cv:Value) (vs:List Value) (b:Nat):Prop:=QOf w1 B0 B wb fb rv vv cv vs b/\B<=b
structure dO (wO w1:World) (B0 B:Nat) (cs:List Value) (S:aP) (co lo:Nat->Nat) (cv thv:Value) (rows trows:List (List Value)) (shv txv env sav:Value) (th:Nat) (h:cD) (f:bC) (j fb fcap wb:Nat) (tf rv vv:Value) (rs ts tcs:List Value) (t:aH):Prop where
 own:xO wO B cs S co lo cv thv rows trows shv txv env sav
 hB:B0<=B
 hO:B<=wO.heap.size
 below:Below wO.heap.size wO w1
 hth:S.threads[th]? = some h
 hl:h.frames.length=j+1
 hf:h.frames[j]? = some f
 ht:trows[th]? = some (jC h tf)
 fin:gC wO (lo th) (lo (th+1)) tf h.frames rs ts
 htf:tf=.slice (some ⟨fb,0,none⟩) (j+1) fcap
 hrv:rs[j]? = some rv
 vrow:w1.ownsRow wO.heap.size 51 2 vv t.ins.length ((List.replicate t.ins.length (⟨0,0⟩:Val)).flatMap bE)
 wrow:w1.heap[wb]? = some (.cells ⟨tcs++[cv,shv,.pointer (some ⟨fb,j*8,none⟩),.int .i64 0,vv]⟩ 147 (0,0))
 wnew:wO.heap.size<=wb
 tl:tcs.length=13
 tr:bI w1 B0 tcs t
def xD (w1:World) (B0 B:Nat) (cv:Value) (rows:List (List Value)) (shv:Value) (S:aP) (f:bC) (j fb wb:Nat) (rv vv:Value) (tcs:List Value) (t:aH):mW:=
 ⟨w1,QOf w1 B0 B wb fb rv vv cv (jD rows),sR w1 B0 B wb fb rv vv cv (jD rows),B0,B0,wb,fb,j*8,rv,t,tcs,shv,S.shapes,f.self⟩
section
variable {wO w1:World} {B0 B:Nat} {cs:List Value} {S:aP} {co lo:Nat->Nat} {cv thv:Value} {rows trows:List (List Value)} {shv txv env sav:Value} {th:Nat} {h:cD} {f:bC} {j fb fcap wb:Nat} {tf rv vv:Value} {rs ts tcs:List Value} {t:aH}
theorem eX {g:Nat->Nat} (h:∀i,g i<=g (i+1)) {i k:Nat} (d:i<=k):g i<=g k:=by
 induction d with
 | refl=>exact Nat.le_refl _
 | step _ ih=>exact Nat.le_trans ih (h _)
theorem dO.thl (st:dO wO w1 B0 B cs S co lo cv thv rows trows shv txv env sav th h f j fb fcap wb tf rv vv rs ts tcs t):th<S.threads.length:=(lE st.hth).1
theorem dO.cB (st:dO wO w1 B0 B cs S co lo cv thv rows trows shv txv env sav th h f j fb fcap wb tf rv vv rs ts tcs t) {g:Nat} (d:cv.ownBlock=some g):B<=g/\g<co 0:=⟨(st.own.crow.lt g d).1,st.own.cblk g d⟩
theorem dO.colo (st:dO wO w1 B0 B cs S co lo cv thv rows trows shv txv env sav th h f j fb fcap wb tf rv vv rs ts tcs t) {i k:Nat} (hi:i<=S.cells.length):co i<=lo k:=Nat.le_trans (eX st.own.cmono hi) (Nat.le_trans st.own.tco (eX st.own.tmono (Nat.zero_le k)))
theorem dO.cell (st:dO wO w1 B0 B cs S co lo cv thv rows trows shv txv env sav th h f j fb fcap wb tf rv vv rs ts tcs t) {i:Nat} {c:bJ} (l:S.cells[i]? = some c) : ∃v g,(jD rows)[i]? = some v/\(abY rows)[i]? = some g/\rows[i]? = some (bM c v g)/\mQ wO (co i) (co (i+1)) c v g:=by obtain⟨v,g,h1,d⟩:=st.own.cpart i c l;exact⟨v,g,by unfold jD;rw[List.getElem?_map,h1];rfl,by unfold abY;rw[List.getElem?_map,h1];rfl,h1,d⟩
theorem dO.vs (st:dO wO w1 B0 B cs S co lo cv thv rows trows shv txv env sav th h f j fb fcap wb tf rv vv rs ts tcs t) {i:Nat} {v:Value} (r:(jD rows)[i]? = some v) : ∃c m,S.cells[i]? = some c/\wO.ownsRow (co i) 51 2 v c.vals.length (c.vals.flatMap bE)/\i<S.cells.length/\co i<=m/\m<=co (i+1)/\∀g,v.ownBlock=some g->co i<=g/\g<m:=by
 have d:i<S.cells.length:=by have:=(lE r).1;unfold jD at this;rw[List.length_map,st.own.clen] at this;exact this
 have l:S.cells[i]? = some S.cells[i]:=lG d;obtain⟨v',x,h1,-,-,m,_,_,s,u,p,w,-⟩:=st.cell l;rw[r] at h1;injection h1 with h1;subst h1
 exact⟨_,m,l,p,d,s,u,λg q=>⟨(p.lt g q).1,w g q⟩⟩
theorem dO.fbI (st:dO wO w1 B0 B cs S co lo cv thv rows trows shv txv env sav th h f j fb fcap wb tf rv vv rs ts tcs t):lo th<=fb/\fb<lo (th+1):=by
 have e:tf.ownBlock=some fb:=by rw[st.htf];rfl
 exact⟨(st.fin.at_.row.lt fb e).1,st.fin.fb fb e⟩
theorem dO.rvI (st:dO wO w1 B0 B cs S co lo cv thv rows trows shv txv env sav th h f j fb fcap wb tf rv vv rs ts tcs t) {g:Nat} (d:rv.ownBlock=some g):lo th<=g/\g<lo (th+1):= ⟨((st.fin.at_.regs j rv f st.hrv st.hf).lt g d).1,st.fin.rb rv (lM st.hrv) g d⟩
theorem dO.loO (st:dO wO w1 B0 B cs S co lo cv thv rows trows shv txv env sav th h f j fb fcap wb tf rv vv rs ts tcs t) (i:Nat):lo i<=wO.heap.size:=st.own.lend i
theorem dO.q_of (st:dO wO w1 B0 B cs S co lo cv thv rows trows shv txv env sav th h f j fb fcap wb tf rv vv rs ts tcs t) {b:Nat} (d:b<B0\/B<=b) (hb:b<wO.heap.size) (h1:b<lo th\/lo (th+1)<=b) (g:cv.ownBlock≠some b) (l:∀(i:Nat) v,(jD rows)[i]? = some v->v.ownBlock≠some b):QOf w1 B0 B wb fb rv vv cv (jD rows) b:=by
 have hf:=st.fbI;have p:=st.wnew;refine⟨⟨Nat.lt_of_lt_of_le hb st.below.size,d⟩,by omega,by omega,λe=>?_,λe=>?_,g,l⟩;·have:=st.rvI e;omega
 ·have:=(st.vrow.lt b e).1;omega
theorem dO.q_old (st:dO wO w1 B0 B cs S co lo cv thv rows trows shv txv env sav th h f j fb fcap wb tf rv vv rs ts tcs t) {b:Nat} (hb:b<B0):QOf w1 B0 B wb fb rv vv cv (jD rows) b:=by have h1:=st.hB;have l:=st.own.cb;have p:co 0<=lo th:=st.colo (Nat.zero_le _);refine st.q_of (.inl hb) (by have:=st.hO;omega) (.inl (by omega)) (λe=>by have:=st.cB e;omega) (λi v g e=>?_);obtain⟨c,m,-,-,hi,-,-,d⟩:=st.vs g;have:=d b e;have:=eX st.own.cmono (Nat.zero_le i);omega
theorem dO.q_late (st:dO wO w1 B0 B cs S co lo cv thv rows trows shv txv env sav th h f j fb fcap wb tf rv vv rs ts tcs t) {b:Nat} (hb:b<wO.heap.size) (q:co S.cells.length<=b) (h1:b<lo th\/lo (th+1)<=b):sR w1 B0 B wb fb rv vv cv (jD rows) b:=by
 have d:B<=b:=by have:=st.own.cb;have:=eX st.own.cmono (Nat.zero_le S.cells.length);omega
 refine⟨st.q_of (.inr d) hb h1 (λe=>?_) (λi v l e=>?_),d⟩;·have:=(st.cB e).2;have:=eX st.own.cmono (Nat.zero_le S.cells.length);omega
 ·obtain⟨c,m,-,-,hi,-,p,g⟩:=st.vs l;have:=g b e;have:=eX st.own.cmono (show i+1<=S.cells.length from hi);omega
theorem dO.q_end (st:dO wO w1 B0 B cs S co lo cv thv rows trows shv txv env sav th h f j fb fcap wb tf rv vv rs ts tcs t) {b:Nat} (hb:lo S.threads.length<=b/\b<wO.heap.size):sR w1 B0 B wb fb rv vv cv (jD rows) b:=by have h1:=eX st.own.tmono (show th+1<=S.threads.length from st.thl);exact st.q_late hb.2 (by have:=st.colo (k:=S.threads.length) (Nat.le_refl _);omega) (.inr (by omega))
theorem dO.fix (st:dO wO w1 B0 B cs S co lo cv thv rows trows shv txv env sav th h f j fb fcap wb tf rv vv rs ts tcs t):jZ (xD w1 B0 B cv rows shv S f j fb wb rv vv tcs t):=by
 have d:∀k,k<8->w1.cell? ⟨fb,j*8+k,none⟩=(cN f rv ((ts[j]?).getD (.slice none 0 0)))[k]?:=λk q=>by
  have row:=eA st.fin.at_.row st.below;rw[st.htf,st.hl] at row;have p:j<h.frames.length:=by rw[st.hl];omega
  have g:ts[j]? = some (ts[j]'(by rw[st.fin.at_.lt];exact p)):=lG _;rw[row.cellAt (j*8+k) (by omega),dB _ j k _ (i7 _ _ _) (fJ _ _ _ j f rv _ st.hf st.hrv g) q,g];rfl
 have wf:=st.fin.at_.wf f (lM st.hf);exact {
  q1:=λb hb=>hb.1.1
  q0:=λb hb=>st.q_old hb
  b1:=by have:=st.hB;have:=st.hO;have:=st.below.size;show B0<=w1.heap.size;omega
  qw:=λl=>l.2.1 rfl
  qf:=λl=>l.2.2.1 rfl
  tl:=st.tl
  tr:=st.tr
  sh:=st.own.shapes.far (λb hb=>(st.q_end hb).1) (λb hb=>st.below.block b hb.2)
  f4:=d 4 (by decide)
  f5:=d 5 (by decide)
  f6:=d 6 (by decide)
  wfs:=⟨wf.2.2.2.2.1,wf.2.2.2.2.2.1⟩ }
theorem dO.lay (st:dO wO w1 B0 B cs S co lo cv thv rows trows shv txv env sav th h f j fb fcap wb tf rv vv rs ts tcs t):cC (xD w1 B0 B cv rows shv S f j fb wb rv vv tcs t) w1 (gG t S f) cv vv (jD rows) (abY rows):=by
 have hB:=st.hB;have hO:=st.hO;have a6:=st.own.cb;have M:B0<=lo th:=by have:=st.colo (i:=0) (k:=th) (Nat.zero_le _);omega
 have row:=eA st.fin.at_.row st.below;have N:tf.ownBlock=some fb:=by rw[st.htf];rfl
 obtain⟨cf,Y⟩:=bB row N;have wf:=st.fin.at_.wf f (lM st.hf);have O:dR S.cells (jD rows) (abY rows)=rows:=ab7 S.cells rows st.own.clen (λi c s=>by obtain⟨v,g,h1,-⟩:=st.own.cpart i c s;exact⟨v,g,h1⟩);have a7:=st.wnew;have A:∀i,lo i<=wO.heap.size:=st.loO;have I:∀ {i:Nat} {v:Value} {g:Nat},(jD rows)[i]? = some v->v.ownBlock=some g->g<lo th/\B0<=g/\g<wO.heap.size:=λ{i v g} l d=>by obtain⟨c,m,-,ho,hi,-,Z,E⟩:=st.vs l;have p:=E g d;have h7:=st.colo (i:=i+1) (k:=th) hi;have h8:=eX st.own.cmono (Nat.zero_le i);have h9:=A th;omega
 exact {
  row:=st.wrow
  frow:=⟨cf,Y⟩
  fat:=by
   have r:=row
   rw[st.htf,st.hl] at r
   have P:j<h.frames.length:=by rw[st.hl];omega
   have R:ts[j]? = some (ts[j]'(by rw[st.fin.at_.lt];exact P)):=lG _
   show w1.cell? ⟨fb,j*8+1,none⟩=_
   rw[r.cellAt (j*8+1) (by omega),dB _ j 1 _ (i7 _ _ _) (fJ _ _ _ j f rv _ st.hf st.hrv R) (by decide)]
   rfl
  frest:=λ_ _=>rfl
  lv:=by unfold jD;rw[List.length_map];exact st.own.clen
  lf:=by unfold abY;rw[List.length_map];exact st.own.clen
  crow:=by
   show w1.ownsRow B0 _ 4 cv S.cells.length ((dR S.cells (jD rows) (abY rows)).flatMap id)
   rw[O]
   exact fH (eA st.own.crow st.below) hB
  vals:=by
   have:=st.vrow
   show w1.ownsRow B0 _ 2 vv (List.replicate t.ins.length (⟨0,0⟩:Val)).length _
   rw[List.length_replicate]
   exact fH this (by omega)
  regs:=fH (eA (st.fin.at_.regs j rv f st.hrv st.hf) st.below) M
  cvals:=λi v c l s=>by
   obtain⟨c',m,y,h1,-,V,-⟩:=st.vs l
   have x:S.cells[i]? = some c:=s
   rw[y] at x;injection x with x;subst x
   exact fH (eA h1 st.below) (by have:=eX st.own.cmono (Nat.zero_le i);show B0<=co i;omega)
  ap1:=λg d e=>by
   have h1:=(st.vrow.lt g d).1
   have V:=(st.rvI e).2
   have:=A (th+1)
   omega
  ap2:=λi v g l d=>⟨λe=>by have h1:=(st.vrow.lt g e).1;have:=(I l d).2.2;omega,λe=>by have h1:=(st.rvI e).1;have:=(I l d).1;omega⟩
  ap3:=λi k a b g a0 ha hb d e=>by
   obtain⟨_,m1,-,-,-,-,Z,E⟩:=st.vs ha
   obtain⟨_,m2,-,-,-,-,g4,L⟩:=st.vs hb
   have p1:=E g d
   have p2:=L g e
   rcases Nat.lt_or_gt_of_ne a0 with hlt | hlt
   ·have:=eX st.own.cmono (show i+1<=k from hlt);omega
   ·have:=eX st.own.cmono (show k+1<=i from hlt);omega
  nqc:=λg d w=>w.2.2.2.2.2.1 d
  nqv:=λg d w=>w.2.2.2.2.1 d
  nqr:=λg d w=>w.2.2.2.1 d
  nqs:=λi v g l d w=>w.2.2.2.2.2.2 i v l d
  fixed:=λ_ _=>rfl
  cfr:=λi g c d s=>by
   have y:S.cells[i]? = some c:=s
   obtain⟨v,g',l,z,-,m,b0,b2,V,h3,Z,E,p⟩:=st.cell y
   rw[d] at z;injection z with z;subst z
   have X:=(lE y).1
   have a9:=st.colo (i:=i+1) (k:=th) X
   have q:∀b,m<=b->b<co (i+1)->sR w1 B0 B wb fb rv vv cv (jD rows) b:=λb b3 b4=>by
    have J:B<=b:=by have:=eX st.own.cmono (Nat.zero_le i);omega
    refine⟨st.q_of (.inr J) (by have:=A th;omega) (.inl (by omega)) (λe=>?_) (λk u G e=>?_),J⟩
    ·have:=(st.cB e).2
     have:=eX st.own.cmono (Nat.zero_le i)
     omega
    ·by_cases K:k=i
     ·subst K
      rw[l] at G;injection G with G;subst G
      have:=E b e;omega
     ·obtain⟨_,m2,-,-,-,-,g4,L⟩:=st.vs G
      have p2:=L b e
      rcases Nat.lt_or_gt_of_ne K with hlt | hlt
      ·have:=eX st.own.cmono (show k+1<=i from hlt);omega
      ·have:=eX st.own.cmono (show i+1<=k from hlt);omega
   refine qR p.at_ st.below (λb hb=>q b (p.at_.row.lt b hb).1 (p.fb b hb)) (λr H b hb=>?_) (λr H b hb=>?_)
   ·obtain⟨k,F⟩:=List.getElem?_of_mem H
    have D:=(lE F).1
    have:=(p.at_.regs k r _ F (lG (by rw[<-p.at_.lr];exact D))).lt b hb
    exact q b this.1 (p.rb r H b hb)
   ·obtain⟨k,F⟩:=List.getElem?_of_mem H
    have D:=(lE F).1
    have:=(p.at_.tries k r _ F (lG (by rw[<-p.at_.lt];exact D))).lt b hb
    exact q b this.1 (p.tb r H b hb)
  size:=Nat.le_refl _
  wfc:=λc s=>st.own.wfc c s
  wfv:=λv l=>by
   obtain⟨-,rfl⟩:=List.mem_replicate.1 (show v∈List.replicate t.ins.length (⟨0,0⟩:Val) from l)
   exact⟨⟨by simp,by simp⟩,⟨by simp,by simp⟩⟩
  wfr:=λv l=>wf.2.2.2.2.2.2.1 v l
  wfa:=wf.2.1
  wfs:=⟨by simp[gG],by simp[gG]⟩ }
end
end
section
open Go.RowKit
theorem zT:∀(l:List bJ) (vs d:List Value),vs.length=l.length->d.length=l.length->(dR l vs d).length=l.length
 | [],_,_,_,_=>by unfold dR;rfl
 | _::_,[],_,h,_=>by simp at h
 | _::_,_::_,[],_,h=>by simp at h
 | c::l,v::vs,f::d,h1,h2=>by
  show(dR l vs d).length+1=l.length+1
  rw[zT l vs d (by simpa using h1) (by simpa using h2)]
theorem oQ:∀ {l:List Value},(l.filterMap Value.ownBlock).Nodup->∀ {i j:Nat} {a b:Value} {g:Nat},i≠j->l[i]? = some a->l[j]? = some b->a.ownBlock=some g->b.ownBlock≠some g
 | [],_,_,_,_,_,_,_,ha,_,_=>by simp at ha
 | x::l,h,0,0,_,_,_,hij,_,_,_=>absurd rfl hij
 | x::l,h,0,j+1,a,b,g,_,ha,hb,h1=>λe=>by
  obtain rfl:x=a:=by simpa using ha
  have d:l[j]? = some b:=by simpa using hb
  rw[List.filterMap_cons,h1] at h
  exact(List.nodup_cons.1 h).1 (List.mem_filterMap.2 ⟨b,lM d,e⟩)
 | x::l,h,i+1,0,a,b,g,_,ha,hb,h1=>λe=>by
  obtain rfl:x=b:=by simpa using hb
  have f:l[i]? = some a:=by simpa using ha
  rw[List.filterMap_cons,e] at h
  exact(List.nodup_cons.1 h).1 (List.mem_filterMap.2 ⟨a,lM f,h1⟩)
 | x::l,h,i+1,j+1,a,b,g,hij,ha,hb,h1=>by
  have p:(l.filterMap Value.ownBlock).Nodup:=by
   rw[List.filterMap_cons] at h
   split at h
   ·exact h
   ·exact(List.nodup_cons.1 h).2
  exact oQ p (i:=i) (j:=j) (λe=>hij (by rw[e])) (by simpa using ha) (by simpa using hb) h1
section
variable {wO w1 w':World} {B0 B:Nat} {cs:List Value} {S:aP} {co lo:Nat->Nat} {cv thv:Value} {rows trows:List (List Value)} {shv txv env sav:Value} {th:Nat} {h:cD} {f:bC} {j fb fcap wb:Nat} {tf rv vv:Value} {rs ts tcs:List Value} {t:aH}
theorem dO.q_own (st:dO wO w1 B0 B cs S co lo cv thv rows trows shv txv env sav th h f j fb fcap wb tf rv vv rs ts tcs t) {b:Nat} (hb:lo th<=b/\b<lo (th+1)) (h1:b≠fb) (p:rv.ownBlock≠some b):sR w1 B0 B wb fb rv vv cv (jD rows) b:=by
 have hl:=st.loO (th+1);have q:=st.wnew;have r:=st.below.size;have d:B<=b:=by have:=st.own.cb;have:=st.colo (i:=0) (k:=th) (Nat.zero_le _);omega
 refine⟨⟨⟨by omega,.inr d⟩,by omega,h1,p,λe=>?_,λe=>?_,λi v l e=>?_⟩,d⟩;·have:=(st.vrow.lt b e).1;omega
 ·have:=(st.cB e).2;have:=st.colo (i:=0) (k:=th) (Nat.zero_le _);omega
 ·obtain⟨c,m,-,-,hi,-,s,g⟩:=st.vs l;have:=g b e;have:=st.colo (i:=i+1) (k:=th) hi;omega
theorem dO.q_regs (st:dO wO w1 B0 B cs S co lo cv thv rows trows shv txv env sav th h f j fb fcap wb tf rv vv rs ts tcs t) {i:Nat} {r:Value} (p:i≠j) (d:rs[i]? = some r) {b:Nat} (hb:r.ownBlock=some b):sR w1 B0 B wb fb rv vv cv (jD rows) b:=by
 have l:i<h.frames.length:=by rw[<-st.fin.at_.lr];exact(lE d).1
 have own:=st.fin.at_.regs i r _ d (lG l);refine st.q_own ⟨(own.lt b hb).1,st.fin.rb r (lM d) b hb⟩ ?_ (oQ st.fin.at_.nodup p d st.hrv hb);obtain⟨s,h1⟩:=bB own hb;obtain⟨u,q⟩:=bB st.fin.at_.row (g:=fb) (by rw[st.htf];rfl);exact bS h1 q (by decide)
theorem dO.q_tries (st:dO wO w1 B0 B cs S co lo cv thv rows trows shv txv env sav th h f j fb fcap wb tf rv vv rs ts tcs t) {i:Nat} {r:Value} (d:ts[i]? = some r) {b:Nat} (hb:r.ownBlock=some b):sR w1 B0 B wb fb rv vv cv (jD rows) b:=by
 have l:i<h.frames.length:=by rw[<-st.fin.at_.lt];exact(lE d).1
 have own:=st.fin.at_.tries i r _ d (lG l);obtain⟨s,h1⟩:=bB own hb;obtain⟨u,p⟩:=bB st.fin.at_.row (g:=fb) (by rw[st.htf];rfl);refine st.q_own ⟨(own.lt b hb).1,st.fin.tb r (lM d) b hb⟩ (bS h1 p (by decide)) (λe=>?_);obtain⟨v,q⟩:=bB (st.fin.at_.regs j rv f st.hrv st.hf) e;exact bS h1 q (by decide) rfl
theorem dO.last (st:dO wO w1 B0 B cs S co lo cv thv rows trows shv txv env sav th h f j fb fcap wb tf rv vv rs ts tcs t):∃d,h.frames=d++[f]/\d.length=j/\h.frames.getLast? = some f:=by
 have e:h.frames.getLast? = some f:=by rw[List.getLast?_eq_getElem?,st.hl];exact st.hf
 obtain⟨d,g⟩:=List.getLast?_eq_some_iff.1 e;refine⟨d,g,?_,e⟩;have:=st.hl;rw[g] at this;simpa using this
theorem dO.frames (st:dO wO w1 B0 B cs S co lo cv thv rows trows shv txv env sav th h f j fb fcap wb tf rv vv rs ts tcs t) {W:aG} {a1 a2:Value} {a3 a4:List Value} (L:cC (xD w1 B0 B cv rows shv S f j fb wb rv vv tcs t) w' W a1 a2 a3 a4) {l:World} (K:∀b,B0<=b->b<w'.heap.size->l.heap[b]? = w'.heap[b]?) (hz:w'.heap.size<=l.heap.size) : aB l l.heap.size 8 (dD l l.heap.size) tf (h.frames.dropLast++[{ f with at_:=W.at_,regs:=W.regs }]):=by
 have E:∀b,sR w1 B0 B wb fb rv vv cv (jD rows) b->b<w'.heap.size:=λb hb=>Nat.lt_of_lt_of_le hb.1.1.1 L.size;have G:∀b,sR w1 B0 B wb fb rv vv cv (jD rows) b->b<l.heap.size:=λb hb=>Nat.lt_of_lt_of_le (E b hb) hz;have R:∀b,sR w1 B0 B wb fb rv vv cv (jD rows) b->l.heap[b]? = w1.heap[b]?:=λb hb=>(K b (Nat.le_trans st.hB hb.2) (E b hb)).trans (L.fixed b hb.1);have mv:∀ {n size:Nat} {e:TypeId} {v:Value} {xs:List Value},w'.ownsRow B0 e size v n xs->l.ownsRow B0 e size v n xs:=λh=>gN h (λg y=>K g (h.lt g y).1 (h.lt g y).2);obtain⟨l0,N,O,-⟩:=st.last;have F:=st.fin.at_;have row:=eA F.row st.below;have A:(l0++[({ f with at_:=W.at_,regs:=W.regs } : bC)]).length=j+1:=by simp[O]
 rw[N,List.dropLast_concat];obtain⟨cf,Z⟩:=L.frow;have H:fb<w'.heap.size:=aY Z;have X:fb<l.heap.size:=Nat.lt_of_lt_of_le H hz;have V:B0<=fb:=by have h3:=st.fbI;have:=st.hB;have:=st.own.cb;have:=st.colo (i:=0) (k:=th) (Nat.zero_le _);omega
 have I:∀k,l.cell? ⟨fb,k,none⟩=w'.cell? ⟨fb,k,none⟩:=λk=>World.cell?_of_block (K fb V H);have J:j+1<=fcap/\fcap<=maxLen:=by
  rcases F.row.2 with ⟨e,h0⟩ | ⟨g,b3,b4,e,hb,y,h1,K,-⟩;·have:=st.hl;omega
  ·rw[st.htf] at e;injection e with e1 e2 e3
   rw[st.hl] at h1;exact⟨by omega,by omega⟩
 rw[st.htf,st.hl] at row;have base:∀(i k:Nat) (x:bC) (r q:Value),h.frames[i]? = some x->rs[i]? = some r->ts[i]? = some q->k<8->w1.cell? ⟨fb,i*8+k,none⟩=(cN x r q)[k]?:=λi k x r q hx hr hq w=>by
  have b2:i<j+1:=by rw[<-st.hl];exact(lE hx).1
  rw[row.cellAt (i*8+k) (by omega)];exact dB _ i k _ (i7 _ _ _) (fJ _ _ _ i x r q hx hr hq) w
 refine⟨some ⟨fb,0,none⟩,fcap,by rw[A];exact st.htf,by rw[A];exact J.1,J.2,λ_=>⟨fb,0,rfl,X,λi x hi=>?_⟩⟩;have Y:i<j+1:=by rw[<-A];exact(lE hi).1
 have d:i<h.frames.length:=by rw[st.hl];exact Y
 have p:rs[i]? = some (rs[i]'(by rw[F.lr];exact d)):=lG _;have s:ts[i]? = some (ts[i]'(by rw[F.lt];exact d)):=lG _;by_cases e:i=j
 ·subst e;obtain rfl:({ f with at_:=W.at_,regs:=W.regs } : bC)=x:=by rw[List.getElem?_append_right (by omega),O,Nat.sub_self] at hi;simpa using hi
  have M:=p;rw[st.hrv] at M;have hrv:rv=rs[i]'(by rw[F.lr];exact d):=by injection M
  rw[<-hrv] at p;have wf:=F.wf f (lM st.hf);refine⟨cN { f with at_:=W.at_,regs:=W.regs } rv (ts[i]'(by rw[F.lt];exact d)),rfl,⟨_,_,rfl,uE (mv L.regs) L.wfr,((nS (eA (F.tries i _ f s st.hf) st.below) wf.2.2.2.2.2.2.2 (λg y=>st.q_tries s y)).far (λ_ h=>h) R).toR G (λ_ _ h=>h),wf.1,L.wfa,wf.2.2.1,wf.2.2.2.1,wf.2.2.2.2.1,wf.2.2.2.2.2.1⟩,λk u z=>?_⟩;have w:k<8:=(lE z).1;rw[Nat.zero_add];by_cases P:k=1
  ·subst P;have:u=.int .i64 W.at_:=by have:(cN { f with at_:=W.at_,regs:=W.regs } rv (ts[i]'(by rw[F.lt];exact d)))[1]? = some (.int .i64 W.at_):=rfl;rw[this] at z;injection z with z;exact z.symm
   rw[this];exact(I _).trans L.fat
  ·have h1:=L.frest (i*8+k) (show i*8+k≠i*8+1 by omega);refine(I _).trans (Eq.trans h1 ((base i k f rv _ st.hf p s w).trans ?_));rw[<-z];match k,w,P with
   | 0,_,_=>rfl
   | 2,_,_=>rfl
   | 3,_,_=>rfl
   | 4,_,_=>rfl
   | 5,_,_=>rfl
   | 6,_,_=>rfl
   | 7,_,_=>rfl
 ·have D:h.frames[i]? = some x:=by rw[List.getElem?_append_left (by omega)] at hi;rw[N,List.getElem?_append_left (by omega)];exact hi
  have wf:=F.wf x (lM D);refine⟨cN x (rs[i]'(by rw[F.lr];exact d)) (ts[i]'(by rw[F.lt];exact d)),rfl,⟨_,_,rfl,((uF (eA (F.regs i _ x p D) st.below) wf.2.2.2.2.2.2.1 (λg y=>st.q_regs e p y)).far (λ_ h=>h) R).toR G (λ_ _ h=>h),((nS (eA (F.tries i _ x s D) st.below) wf.2.2.2.2.2.2.2 (λg y=>st.q_tries s y)).far (λ_ h=>h) R).toR G (λ_ _ h=>h),wf.1,wf.2.1,wf.2.2.1,wf.2.2.2.1,wf.2.2.2.2.1,wf.2.2.2.2.2.1⟩,λk u z=>?_⟩;have w:k<8:=(lE z).1;rw[Nat.zero_add];have h1:=L.frest (i*8+k) (show i*8+k≠j*8+1 by omega);exact(I _).trans (Eq.trans h1 ((base i k x _ _ D p s w).trans z))
theorem dO.o (st:dO wO w1 B0 B cs S co lo cv thv rows trows shv txv env sav th h f j fb fcap wb tf rv vv rs ts tcs t) {W:aG} {E P:Value} {G H:List Value} (L:cC (xD w1 B0 B cv rows shv S f j fb wb rv vv tcs t) w' W E P G H) (X:wfi (S.steps+W.steps)) {p:World} (y:∀b,B0<=b->b<w'.heap.size->p.heap[b]? = w'.heap[b]?) (R:w'.heap.size<=p.heap.size) : eB p p.heap.size [E,shv,txv,thv,env,sav,.int .i64 S.asked,.int .i64 (S.steps+W.steps)] (jS S th W):=by
 have w:∀b,sR w1 B0 B wb fb rv vv cv (jD rows) b->b<w'.heap.size:=λb hb=>Nat.lt_of_lt_of_le hb.1.1.1 L.size;have hlt:∀b,sR w1 B0 B wb fb rv vv cv (jD rows) b->b<p.heap.size:=λb hb=>Nat.lt_of_lt_of_le (w b hb) R;have l:∀b,sR w1 B0 B wb fb rv vv cv (jD rows) b->p.heap[b]? = w1.heap[b]?:=λb hb=>(y b (Nat.le_trans st.hB hb.2) (w b hb)).trans (L.fixed b hb.1);have N:∀ {n size:Nat} {e:TypeId} {v:Value} {xs:List Value},w'.ownsRow B0 e size v n xs->p.ownsRow B0 e size v n xs:=λh=>gN h (λg q=>y g (h.lt g q).1 (h.lt g q).2);have u:∀b,lo S.threads.length<=b/\b<wO.heap.size->p.heap[b]? = wO.heap[b]?:=λb hb=>(l b (st.q_end hb)).trans (st.below.block b hb.2);obtain⟨l0,Z,a0,I⟩:=st.last;have e:jS S th W = { S with cells:=W.cells,steps:=S.steps+W.steps,threads:=S.threads.set th { h with frames:=h.frames.dropLast++[{ f with at_:=W.at_,regs:=W.regs }] } }:=by unfold jS;rw[st.hth];dsimp only;rw[I]
 rw[e];refine⟨E,shv,txv,thv,env,sav,rfl,?_,(st.own.shapes.far (λb hb=>st.q_end hb) u).toR hlt (λ_ _ h=>h),(st.own.texts.far (λb hb=>st.q_end hb) u).toR hlt (λ_ _ h=>h),?_,(st.own.ends.far (λb hb=>st.q_end hb) u).toR hlt (λ_ _ h=>h),(st.own.said.far (λb hb=>st.q_end hb) u).toR hlt (λ_ _ h=>h),st.own.wfs.1,X⟩
 ·have crow:=N L.crow;obtain⟨A,c,rfl⟩:=cJ crow;refine mE crow (zT _ _ _ L.lv L.lf) (jU _ _ _) (λi r x d s=>?_);have J:=(lE s).1;have O:G[i]? = some (G[i]'(by rw[L.lv];exact J)):=lG _;have hf:H[i]? = some (H[i]'(by rw[L.lf];exact J)):=lG _;rw[gP _ _ _ i x _ _ s O hf] at d;injection d with d
  have wf:=L.wfc x (lM s);exact⟨_,_,d.symm,uE (N (L.cvals i _ x O s)) wf.2.2,abZ (L.cfr i _ x hf s) l hlt,wf.1,wf.2.1⟩
 ·have V:=eX st.own.tmono (Nat.zero_le th);have trow:p.ownsRow (co S.cells.length) 140 5 thv S.threads.length (trows.flatMap id):=gN st.own.trow (λg q=>by have h1:=st.own.trow.lt g q;have y:=st.own.tblk g q;exact(l g (st.q_late h1.2 h1.1 (.inl (by omega)))).trans (st.below.block g h1.2));obtain⟨A,c,rfl⟩:=cJ trow;have z:(S.threads.set th ({ h with frames:=h.frames.dropLast++[{ f with at_:=W.at_,regs:=W.regs }] } : cD)).length=S.threads.length:=List.length_set;rw[<-z] at trow ⊢;refine mE trow (by rw[z];exact st.own.tlen) st.own.t5 (λi r x d s=>?_);rcases cP s with ⟨rfl,rfl⟩ | ⟨hi,K⟩
  ·rw[st.ht] at d;injection d with d
   have wf:=st.own.wft h (lM st.hth);exact⟨tf,d.symm,st.frames L y R,wf.1,wf.2.1,wf.2.2.1,wf.2.2.2⟩
  ·obtain⟨g,q,a1,a2,F⟩:=st.own.tpart i x K;rw[q] at d;injection d with d
   have wf:=st.own.wft x (lM K);have Y:=st.loO (i+1);have M:∀b,lo i<=b->b<lo (i+1)->sR w1 B0 B wb fb rv vv cv (jD rows) b:=λb h1 y=>by
    refine st.q_late (by omega) (by have:=st.colo (k:=i) (Nat.le_refl S.cells.length);omega) ?_;rcases Nat.lt_or_gt_of_ne hi with hlt | hlt;·have:=eX st.own.tmono (show i+1<=th from hlt);left;omega
    ·have:=eX st.own.tmono (show th+1<=i from hlt);right;omega
   refine⟨g,d.symm,abZ (qR F.at_ st.below (λb hb=>M b (F.at_.row.lt b hb).1 (F.fb b hb)) (λr d b hb=>?_) (λr d b hb=>?_)) l hlt,wf.1,wf.2.1,wf.2.2.1,wf.2.2.2⟩;·obtain⟨k,l⟩:=List.getElem?_of_mem d;have D:=(lE l).1;have:=(F.at_.regs k r _ l (lG (by rw[<-F.at_.lr];exact D))).lt b hb;exact M b this.1 (F.rb r d b hb)
   ·obtain⟨k,l⟩:=List.getElem?_of_mem d;have D:=(lE l).1;have:=(F.at_.tries k r _ l (lG (by rw[<-F.at_.lt];exact D))).lt b hb;exact M b this.1 (F.tb r d b hb)
end
end
end Go.Proofs.YtijihlcdhppfgaaGreatDoor
