/- Part of the walk of the given code: contracts of the functions that irun.Run reaches, and plain laws on what it reckons. -/
import Derived.Test.YtjaphgpkkfdaaaaGreatDoorZS
import Derived.Test.YtjaphgpkkfdaaaaGreatDoorZG
set_option maxHeartbeats 16000000
set_option maxRecDepth 100000
set_option linter.all false
namespace Go.Proofs.YtjaphgpkkfdaaaaGreatDoor
section
open Go.RowKit
def WfV (v:Val):Prop:=wfi v.kind∧wfi v.n
def WfC (c:bC):Prop:=wfi c.kind∧wfi c.num∧∀v∈c.vals,WfV v
def cK:List bC→List Value→List Value→List (List Value)
 | c::l,v::vs,f::fs=>bD c v f::cK l vs fs
 | _,_,_=>[]
theorem eP:∀(l:List bC) (vs fs:List Value) (i:Nat) (c:bC) (v f:Value),l[i]? = some c→vs[i]? = some v→fs[i]? = some f→(cK l vs fs)[i]? = some (bD c v f)
 | [],_,_,_,_,_,_,h,_,_=>by simp at h
 | _::_,[],_,_,_,_,_,_,h,_=>by simp at h
 | _::_,_::_,[],_,_,_,_,_,_,h=>by simp at h
 | f::l,r::rs,t::ts,0,f',r',t',h1,h2,h3=>by
  simp only[List.getElem?_cons_zero,Option.some.injEq] at h1 h2 h3
  subst h1;subst h2;subst h3;rfl
 | f::l,r::rs,t::ts,i+1,f',r',t',h1,h2,h3=>by
  simp only[List.getElem?_cons_succ] at h1 h2 h3
  exact eP l rs ts i f' r' t' h1 h2 h3
theorem g8:∀(l:List bC) (vs fs:List Value),∀x∈cK l vs fs,x.length=4
 | [],_,_,x,h=>by unfold cK at h;cases h
 | f::l,[],_,x,h=>by unfold cK at h;cases h
 | f::l,_::_,[],x,h=>by unfold cK at h;cases h
 | f::l,r::rs,t::ts,x,h=>by
  unfold cK at h
  rcases List.mem_cons.1 h with rfl | h
  ·rfl
  ·exact g8 l rs ts x h
theorem kP:∀(l:List bC) (vs fs:List Value) (i:Nat) (c:bC) (v f:Value),vs.length=l.length→fs.length=l.length→(cK l vs fs).set i (bD c v f)=cK (l.set i c) (vs.set i v) (fs.set i f)
 | [],_,_,_,_,_,_,_,_=>by unfold cK;rfl
 | _::_,[],_,_,_,_,_,h,_=>by simp at h
 | _::_,_::_,[],_,_,_,_,_,h=>by simp at h
 | x::l,y::vs,z::fs,0,c,v,f,_,_=>rfl
 | x::l,y::vs,z::fs,i+1,c,v,f,h1,h2=>by
  show bD x y z::(cK l vs fs).set i _=bD x y z::cK (l.set i c) (vs.set i v) (fs.set i f)
  rw[kP l vs fs i c v f (by simpa using h1) (by simpa using h2)]
theorem sF:∀(l:List bC) (vs fs:List Value) (c:bC) (v f:Value),vs.length=l.length→fs.length=l.length→cK (l++[c]) (vs++[v]) (fs++[f])=cK l vs fs++[bD c v f]
 | [],[],[],_,_,_,_,_=>rfl
 | [],_::_,_,_,_,_,h,_=>by simp at h
 | [],[],_::_,_,_,_,_,h=>by simp at h
 | _::_,[],_,_,_,_,h,_=>by simp at h
 | _::_,_::_,[],_,_,_,_,h=>by simp at h
 | x::l,y::vs,z::fs,c,v,f,h1,h2=>by
  show bD x y z::cK (l++[c]) (vs++[v]) (fs++[f])=bD x y z::(cK l vs fs++[bD c v f])
  rw[sF l vs fs c v f (by simpa using h1) (by simpa using h2)]
def sO (w:World) (Q:Nat→Prop) (cs:List Value) (x:a8):Prop:=
 ∃r t,cs=[.int .i64 x.fn,.int .i64 x.at_,.int .i64 x.tos,.int .i64 x.gen,.int .i64 x.self.kind,.int .i64 x.self.n,r,t]∧bK w Q 2 hU r x.regs∧bK w Q 2 jW t x.tries∧
  wfi x.fn∧wfi x.at_∧wfi x.tos∧wfi x.gen∧wfi x.self.kind∧wfi x.self.n
structure kI where
 w1:World
 Q:Nat→Prop
 Qf:Nat→Prop
 B:Nat
 B0:Nat
 wb:Nat
 fb:Nat
 fo:Nat
 rv:Value
 t:aN
 tcs:List Value
 shv:Value
 shapes:List aT
 self:Val
structure hP (Γ : kI):Prop where
 q1:∀b,Γ.Q b→b < Γ.w1.heap.size
 q0:∀b,b < Γ.B0→Γ.Q b
 b1 : Γ.B≤Γ.w1.heap.size
 qw:¬ Γ.Q Γ.wb
 qf:¬ Γ.Q Γ.fb
 tl : Γ.tcs.length=13
 tr:cT Γ.w1 Γ.B0 Γ.tcs Γ.t
 sh:bK Γ.w1 Γ.Q 2 jX Γ.shv Γ.shapes
 f4 : Γ.w1.cell? ⟨Γ.fb,Γ.fo+4,none⟩=some (.int .i64 Γ.self.kind)
 f5 : Γ.w1.cell? ⟨Γ.fb,Γ.fo+5,none⟩=some (.int .i64 Γ.self.n)
 f6 : Γ.w1.cell? ⟨Γ.fb,Γ.fo+6,none⟩=some Γ.rv
 wfs:WfV Γ.self
structure bO (Γ : kI) (w:World) (W:aI) (cv vv:Value) (vs fs:List Value):Prop where
 row:w.heap[Γ.wb]? = some (.cells ⟨Γ.tcs++[cv,Γ.shv,.pointer (some ⟨Γ.fb,Γ.fo,none⟩),.int .i64 W.steps,vv]⟩ 85 (0,0))
 frow:∃cs,w.heap[Γ.fb]? = some (.cells cs 61 (0,0))
 fat:w.cell? ⟨Γ.fb,Γ.fo+1,none⟩=some (.int .i64 W.at_)
 frest:∀k,k≠Γ.fo+1→w.cell? ⟨Γ.fb,k,none⟩ = Γ.w1.cell? ⟨Γ.fb,k,none⟩
 lv:vs.length=W.cells.length
 lf:fs.length=W.cells.length
 crow:w.ownsRow Γ.B 55 4 cv W.cells.length ((cK W.cells vs fs).flatMap id)
 vals:w.ownsRow Γ.B 48 2 vv W.vals.length (W.vals.flatMap aZ)
 regs:w.ownsRow Γ.B 48 2 Γ.rv W.regs.length (W.regs.flatMap aZ)
 cvals:∀(i:Nat) v c,vs[i]? = some v→W.cells[i]? = some c→w.ownsRow Γ.B 48 2 v c.vals.length (c.vals.flatMap aZ)
 ap1:∀g,vv.ownBlock=some g→Γ.rv.ownBlock≠some g
 ap2:∀(i:Nat) v g,vs[i]? = some v→v.ownBlock=some g→vv.ownBlock≠some g∧Γ.rv.ownBlock≠some g
 ap3:∀(i j:Nat) a b g,i≠j→vs[i]? = some a→vs[j]? = some b→a.ownBlock=some g→b.ownBlock≠some g
 nqc:∀g,cv.ownBlock=some g→¬ Γ.Q g
 nqv:∀g,vv.ownBlock=some g→¬ Γ.Q g
 nqr:∀g,Γ.rv.ownBlock=some g→¬ Γ.Q g
 nqs:∀(i:Nat) v g,vs[i]? = some v→v.ownBlock=some g→¬ Γ.Q g
 fixed:∀b,Γ.Q b→w.heap[b]? = Γ.w1.heap[b]?
 cfr:∀(i:Nat) f c,fs[i]? = some f→W.cells[i]? = some c→bK Γ.w1 Γ.Qf 8 (sO Γ.w1 Γ.Qf) f c.frames
 size : Γ.w1.heap.size≤w.heap.size
 wfc:∀c∈W.cells,WfC c
 wfv:∀v∈W.vals,WfV v
 wfr:∀v∈W.regs,WfV v
 wfa:wfi W.at_
 wfs:wfi W.steps
structure cA (T:Nat→Prop) (w w':World):Prop where
 os:w'.os=w.os
 tape:w'.tape=w.tape
 output:w'.output=w.output
 size:w.heap.size≤w'.heap.size
 block:∀k,k<w.heap.size→¬T k→w'.heap[k]? = w.heap[k]?
theorem cA.refl {T:Nat→Prop} {w:World} : cA T w w:=⟨rfl,rfl,rfl,Nat.le_refl _,fun _ _ _=>rfl⟩
theorem cA.of {T:Nat→Prop} {w w':World} (h:Below w.heap.size w w'):cA T w w':=⟨h.os,h.tape,h.output,h.size,fun k hk _=>h.block k hk⟩
theorem cA.trans {T:Nat→Prop} {a b c:World} (h:cA T a b) (g:cA T b c):cA T a c:=
 ⟨g.os.trans h.os,g.tape.trans h.tape,g.output.trans h.output,Nat.le_trans h.size g.size,fun k hk ht=>(g.block k (Nat.lt_of_lt_of_le hk h.size) ht).trans (h.block k hk ht)⟩
theorem cA.mono {T T':Nat→Prop} {a b:World} (h:cA T a b) (hT:∀k,k<a.heap.size→T k→T' k):cA T' a b:=⟨h.os,h.tape,h.output,h.size,fun k hk ht=>h.block k hk (fun h'=>ht (hT k hk h'))⟩
theorem cA.set {T:Nat→Prop} {w w':World} (h:cA T w w') {g:Nat} (hg:T g) (j:Nat) (u:Value):cA T w (w'.setCell ⟨g,j,none⟩ u):=
 ⟨h.os,h.tape,h.output,by simpa [World.setCell] using h.size,fun k hk ht=>(heap_setCell_other _ _ _ _ (by rintro rfl;exact ht hg)).trans (h.block k hk ht)⟩
theorem cA.grown {T:Nat→Prop} {a b c:World} (h:cA T a b) {o:Option Nat} (hg:b.grownBy c o) (ho:∀g,o=some g→T g):cA T a c:=
 ⟨hg.os.trans h.os,hg.tape.trans h.tape,hg.output.trans h.output,Nat.le_trans h.size hg.size,fun k hk ht=>(hg.block k (Nat.lt_of_lt_of_le hk h.size) (fun e=>ht (ho k e.symm))).trans (h.block k hk ht)⟩
theorem aX {w:World} {B n size:Nat} {e:TypeId} {v:Value} {xs:List Value} (h:w.ownsRow B e size v n xs) {g:Nat} (hg:v.ownBlock=some g):∃cs,w.heap[g]? = some (.cells cs e (0,0)):=by
 rcases h.2 with ⟨rfl,-⟩ | ⟨g',cap,cur,rfl,hb,hh,-⟩
 ·cases hg
 ·injection hg with hg;subst hg;exact⟨cur,hh⟩
theorem fG {w w':World} {B n size:Nat} {e:TypeId} {v:Value} {xs:List Value} (h:w.ownsRow B e size v n xs) (hk:∀g,v.ownBlock=some g→w'.heap[g]? = w.heap[g]?):w'.ownsRow B e size v n xs:=by
 obtain⟨hl,h2⟩:=h
 refine⟨hl,?_⟩
 rcases h2 with ⟨rfl,h0⟩ | ⟨g,cap,cur,rfl,hb,h1,h3⟩
 ·exact .inl ⟨rfl,h0⟩
 ·exact .inr ⟨g,cap,cur,rfl,hb,(hk g rfl).trans h1,h3⟩
theorem aV {w:World} {g:Nat} {x:Obj} (h:w.heap[g]? = some x):g<w.heap.size:=(aE h).1
section
variable {Γ : kI} {w w':World} {W:aI} {cv vv:Value} {vs fs:List Value}
theorem bJ {g k:Nat} {cs cs':Array Value} {e e':TypeId} (h:w.heap[g]? = some (.cells cs e (0,0))) (h':w.heap[k]? = some (.cells cs' e' (0,0))) (hne:e≠e'):g≠k:=by
 rintro rfl
 rw[h] at h';injection h' with h';injection h' with _ h';exact hne h'
theorem bO.putVal0 (L:bO Γ w W cv vv vs fs) {T:Nat→Prop} (o:cA T w w') (hT:∀g,g<w.heap.size→T g→∃cs,w.heap[g]? = some (.cells cs 48 (0,0))) (hQ:∀g,T g→¬ Γ.Q g) (K:hP Γ) :
  w'.heap[Γ.wb]? = w.heap[Γ.wb]?∧w'.heap[Γ.fb]? = w.heap[Γ.fb]?∧(∀g,cv.ownBlock=some g→w'.heap[g]? = w.heap[g]?)∧(∀b,Γ.Q b→w'.heap[b]? = w.heap[b]?):=by
 have far:∀(g:Nat) (cs:Array Value) (e:TypeId),w.heap[g]? = some (.cells cs e (0,0))→e≠48→w'.heap[g]? = w.heap[g]?:=fun g cs e h hne=>
  o.block g (aV h) (fun ht=>by obtain⟨cs',h'⟩:=hT g (aV h) ht;exact bJ h h' hne rfl)
 obtain⟨cf,hf⟩:=L.frow
 refine⟨far _ _ _ L.row (by decide),far _ _ _ hf (by decide),fun g hg=>?_,fun b hb=>o.block b (Nat.lt_of_lt_of_le (K.q1 b hb) L.size) (fun ht=>hQ b ht hb)⟩
 obtain⟨cs,h⟩:=aX L.crow hg
 exact far _ _ _ h (by decide)
theorem bO.below (L:bO Γ w W cv vv vs fs) (K:hP Γ) (h:Below w.heap.size w w'):bO Γ w' W cv vv vs fs:=by
 obtain⟨cf,hf⟩:=L.frow
 have hfb:=h.block _ (aV hf)
 exact { L with
  row:=(h.block _ (aV L.row)).trans L.row
  frow:=⟨cf,hfb.trans hf⟩
  fat:=(World.cell?_of_block hfb).trans L.fat
  frest:=fun k hk=>(World.cell?_of_block hfb).trans (L.frest k hk)
  crow:=cZ L.crow h
  vals:=cZ L.vals h
  regs:=cZ L.regs h
  cvals:=fun i v c hv hc=>cZ (L.cvals i v c hv hc) h
  fixed:=fun b hb=>(h.block b (Nat.lt_of_lt_of_le (K.q1 b hb) L.size)).trans (L.fixed b hb)
  size:=Nat.le_trans L.size h.size }
theorem bO.putVals (L:bO Γ w W cv vv vs fs) (K:hP Γ) {l:List Val} (o:cA (fun k=>vv.ownBlock=some k) w w') (h:w'.ownsRow Γ.B 48 2 vv l.length (l.flatMap aZ)) (wf:∀v∈l,WfV v):bO Γ w' { W with vals:=l } cv vv vs fs:=by
 obtain⟨h1,h2,h3,h4⟩:=L.putVal0 o (fun g _ hg=>aX L.vals hg) L.nqv K
 obtain⟨cf,hf⟩:=L.frow
 exact { L with
  row:=h1.trans L.row
  frow:=⟨cf,h2.trans hf⟩
  fat:=(World.cell?_of_block h2).trans L.fat
  frest:=fun k hk=>(World.cell?_of_block h2).trans (L.frest k hk)
  crow:=fG L.crow h3
  vals:=h
  regs:=fG L.regs (fun g hg=>o.block g (L.regs.lt g hg).2 (fun h=>L.ap1 g h hg))
  cvals:=fun i v c hv hc=>fG (L.cvals i v c hv hc) (fun g hg=>o.block g ((L.cvals i v c hv hc).lt g hg).2 (fun h=>(L.ap2 i v g hv hg).1 h))
  fixed:=fun b hb=>(h4 b hb).trans (L.fixed b hb)
  size:=Nat.le_trans L.size o.size
  wfv:=wf }
theorem bO.putRegs (L:bO Γ w W cv vv vs fs) (K:hP Γ) {l:List Val} (o:cA (fun k=>Γ.rv.ownBlock=some k) w w') (h:w'.ownsRow Γ.B 48 2 Γ.rv l.length (l.flatMap aZ)) (wf:∀v∈l,WfV v):bO Γ w' { W with regs:=l } cv vv vs fs:=by
 obtain⟨h1,h2,h3,h4⟩:=L.putVal0 o (fun g _ hg=>aX L.regs hg) L.nqr K
 obtain⟨cf,hf⟩:=L.frow
 exact { L with
  row:=h1.trans L.row
  frow:=⟨cf,h2.trans hf⟩
  fat:=(World.cell?_of_block h2).trans L.fat
  frest:=fun k hk=>(World.cell?_of_block h2).trans (L.frest k hk)
  crow:=fG L.crow h3
  vals:=fG L.vals (fun g hg=>o.block g (L.vals.lt g hg).2 (fun h=>L.ap1 g hg h))
  regs:=h
  cvals:=fun i v c hv hc=>fG (L.cvals i v c hv hc) (fun g hg=>o.block g ((L.cvals i v c hv hc).lt g hg).2 (fun h=>(L.ap2 i v g hv hg).2 h))
  fixed:=fun b hb=>(h4 b hb).trans (L.fixed b hb)
  size:=Nat.le_trans L.size o.size
  wfr:=wf }
theorem bY {α : Type} {l:List α} {n i:Nat} {x y : α} (h:(l.set n x)[i]? = some y):(i=n∧y=x)∨(i≠n∧l[i]? = some y):=by
 by_cases hi:i=n
 ·subst hi
  have hl:=(lE h).1
  rw[List.length_set] at hl
  rw[List.getElem?_set_self hl] at h
  injection h with h
  exact .inl ⟨rfl,h.symm⟩
 ·rw[List.getElem?_set_ne (fun e=>hi e.symm)] at h
  exact .inr ⟨hi,h⟩
theorem bO.putCell (L:bO Γ w W cv vv vs fs) (K:hP Γ) {n:Nat} {c':bC} {v v' f':Value} (hv:vs[n]? = some v)
  (o:cA (fun k=>v.ownBlock=some k∨cv.ownBlock=some k) w w') (hcr:w'.ownsRow Γ.B 55 4 cv W.cells.length ((cK (W.cells.set n c') (vs.set n v') (fs.set n f')).flatMap id))
  (hv':w'.ownsRow Γ.B 48 2 v' c'.vals.length (c'.vals.flatMap aZ)) (hb:∀g,v'.ownBlock=some g→v.ownBlock=some g∨w.heap.size≤g) (hf:bK Γ.w1 Γ.Qf 8 (sO Γ.w1 Γ.Qf) f' c'.frames) (wf:WfC c') :
  bO Γ w' (setCW W n c') cv vv (vs.set n v') (fs.set n f'):=by
 obtain⟨cf,hfr⟩:=L.frow
 have hnl:n<W.cells.length:=by rw[←L.lv];exact(lE hv).1
 have hcn:W.cells[n]? = some W.cells[n]:=lG hnl
 have far:∀(g:Nat) (cs:Array Value) (e:TypeId),w.heap[g]? = some (.cells cs e (0,0))→e≠48→e≠55→w'.heap[g]? = w.heap[g]?:=fun g cs e h h1 h2=>
  o.block g (aV h) (fun ht=>by
   rcases ht with ht | ht
   ·obtain⟨cs',h'⟩:=aX (L.cvals n v _ hv hcn) ht
    exact bJ h h' h1 rfl
   ·obtain⟨cs',h'⟩:=aX L.crow ht
    exact bJ h h' h2 rfl)
 have vfar:∀(u:Value) (xs:List Value) (m:Nat),w.ownsRow Γ.B 48 2 u m xs→(∀g,u.ownBlock=some g→v.ownBlock≠some g)→w'.ownsRow Γ.B 48 2 u m xs:=fun u xs m h hne=>
  fG h (fun g hg=>o.block g (h.lt g hg).2 (fun ht=>by
   rcases ht with ht | ht
   ·exact hne g hg ht
   ·obtain⟨cs',h'⟩:=aX L.crow ht
    obtain⟨cs,h''⟩:=aX h hg
    exact bJ h'' h' (by decide) rfl))
 have h2:=far _ _ _ hfr (by decide) (by decide)
 have hlen:(W.cells.set n c').length=W.cells.length:=List.length_set
 exact {
  row:=(far _ _ _ L.row (by decide) (by decide)).trans L.row
  frow:=⟨cf,h2.trans hfr⟩
  fat:=(World.cell?_of_block h2).trans L.fat
  frest:=fun k hk=>(World.cell?_of_block h2).trans (L.frest k hk)
  lv:=by show(vs.set n v').length=(W.cells.set n c').length;rw[List.length_set,hlen];exact L.lv
  lf:=by show(fs.set n f').length=(W.cells.set n c').length;rw[List.length_set,hlen];exact L.lf
  crow:=by show w'.ownsRow Γ.B _ 4 cv (W.cells.set n c').length _;rw[hlen];exact hcr
  vals:=vfar _ _ _ L.vals (fun g hg h=>(L.ap2 n v g hv h).1 hg)
  regs:=vfar _ _ _ L.regs (fun g hg h=>(L.ap2 n v g hv h).2 hg)
  cvals:=fun i u c hu hc=>by
   have hc':(W.cells.set n c')[i]? = some c:=hc
   rcases bY hu with ⟨rfl,rfl⟩ | ⟨hi,hu'⟩
   ·rw[List.getElem?_set_self hnl] at hc'
    injection hc' with hc';subst hc';exact hv'
   ·rw[List.getElem?_set_ne (fun e=>hi e.symm)] at hc'
    exact vfar _ _ _ (L.cvals i u c hu' hc') (fun g hg=>L.ap3 i n u v g hi hu' hv hg)
  ap1:=L.ap1
  ap2:=fun i u g hu hg=>by
   rcases bY hu with ⟨rfl,rfl⟩ | ⟨hi,hu'⟩
   ·rcases hb g hg with h | h
    ·exact L.ap2 i v g hv h
    ·exact⟨fun e=>by have:=(L.vals.lt g e).2;omega,fun e=>by have:=(L.regs.lt g e).2;omega⟩
   ·exact L.ap2 i u g hu' hg
  ap3:=fun i j a b g hij ha hb' hg=>by
   rcases bY ha with ⟨rfl,rfl⟩ | ⟨hi,ha'⟩
   ·rcases bY hb' with ⟨rfl,rfl⟩ | ⟨hj,hb''⟩
    ·exact absurd rfl hij
    ·rcases hb g hg with h | h
     ·exact L.ap3 i j v b g hij hv hb'' h
     ·intro e
      have hjl:j<W.cells.length:=by rw[←L.lv];exact(lE hb'').1
      have:=((L.cvals j b _ hb'' (lG hjl)).lt g e).2
      omega
   ·rcases bY hb' with ⟨rfl,rfl⟩ | ⟨hj,hb''⟩
    ·intro e
     rcases hb g e with h | h
     ·exact L.ap3 i j a v g hij ha' hv hg h
     ·have hil:i<W.cells.length:=by rw[←L.lv];exact(lE ha').1
      have:=((L.cvals i a _ ha' (lG hil)).lt g hg).2
      omega
    ·exact L.ap3 i j a b g hij ha' hb'' hg
  nqc:=L.nqc
  nqv:=L.nqv
  nqr:=L.nqr
  nqs:=fun i u g hu hg=>by
   rcases bY hu with ⟨rfl,rfl⟩ | ⟨hi,hu'⟩
   ·rcases hb g hg with h | h
    ·exact L.nqs i v g hv h
    ·intro hq;have:=K.q1 g hq;have:=L.size;omega
   ·exact L.nqs i u g hu' hg
  fixed:=fun b hq=>(o.block b (Nat.lt_of_lt_of_le (K.q1 b hq) L.size) (fun ht=>by
   rcases ht with ht | ht
   ·exact L.nqs n v b hv ht hq
   ·exact L.nqc b ht hq)).trans (L.fixed b hq)
  cfr:=fun i f c hf' hc=>by
   have hc':(W.cells.set n c')[i]? = some c:=hc
   rcases bY hf' with ⟨rfl,rfl⟩ | ⟨hi,hf''⟩
   ·rw[List.getElem?_set_self hnl] at hc'
    injection hc' with hc';subst hc';exact hf
   ·rw[List.getElem?_set_ne (fun e=>hi e.symm)] at hc'
    exact L.cfr i f c hf'' hc'
  size:=Nat.le_trans L.size o.size
  wfc:=fun c hc=>by
   rcases List.mem_or_eq_of_mem_set (show c∈W.cells.set n c' from hc) with h | h
   ·exact L.wfc c h
   ·rw[h];exact wf
  wfv:=L.wfv
  wfr:=L.wfr
  wfa:=L.wfa
  wfs:=L.wfs }
theorem bO.snoc (L:bO Γ w W cv vv vs fs) (K:hP Γ) {kind num:Int} {cv':Value} (hk:wfi kind∧wfi num)
  (o:cA (fun k=>cv.ownBlock=some k∨k = Γ.wb) w w') (hrow:w'.heap[Γ.wb]? = some (.cells ⟨Γ.tcs++[cv',Γ.shv,.pointer (some ⟨Γ.fb,Γ.fo,none⟩),.int .i64 W.steps,vv]⟩ 85 (0,0)))
  (hcr:w'.ownsRow Γ.B 55 4 cv' (W.cells.length+1) ((cK W.cells vs fs).flatMap id++bD ⟨kind,num,[],[]⟩ (.slice none 0 0) (.slice none 0 0))) (hb:∀g,cv'.ownBlock=some g→cv.ownBlock=some g∨w.heap.size≤g) :
  bO Γ w' { W with cells:=W.cells++[⟨kind,num,[],[]⟩] } cv' vv (vs++[.slice none 0 0]) (fs++[.slice none 0 0]):=by
 obtain⟨cf,hfr⟩:=L.frow
 have far:∀(g:Nat) (cs:Array Value) (e:TypeId),w.heap[g]? = some (.cells cs e (0,0))→e≠85→e≠55→w'.heap[g]? = w.heap[g]?:=fun g cs e h h1 h2=>
  o.block g (aV h) (fun ht=>by
   rcases ht with ht | ht
   ·obtain⟨cs',h'⟩:=aX L.crow ht
    exact bJ h h' h2 rfl
   ·exact bJ h L.row h1 ht)
 have vfar:∀(u:Value) (xs:List Value) (m:Nat),w.ownsRow Γ.B 48 2 u m xs→w'.ownsRow Γ.B 48 2 u m xs:=fun u xs m h=>
  fG h (fun g hg=>by obtain⟨cs,h'⟩:=aX h hg;exact far _ _ _ h' (by decide) (by decide))
 have h2:=far _ _ _ hfr (by decide) (by decide)
 have old:∀ {α : Type} {l:List α} {i:Nat} {x y : α},(l++[x])[i]? = some y→l[i]? = some y∨(i=l.length∧y=x):=fun {α l i x y} h=>by
  rcases Nat.lt_trichotomy i l.length with hi | hi | hi
  ·rw[List.getElem?_append_left hi] at h;exact .inl h
  ·subst hi;simp at h;exact .inr ⟨rfl,h.symm⟩
  ·rw[List.getElem?_eq_none (by simp;omega)] at h;cases h
 exact {
  row:=hrow
  frow:=⟨cf,h2.trans hfr⟩
  fat:=(World.cell?_of_block h2).trans L.fat
  frest:=fun k hk=>(World.cell?_of_block h2).trans (L.frest k hk)
  lv:=by simp[L.lv]
  lf:=by simp[L.lf]
  crow:=by
   show w'.ownsRow Γ.B _ 4 cv' (W.cells++[_]).length ((cK (W.cells++[_]) _ _).flatMap id)
   rw[sF _ _ _ _ _ _ L.lv L.lf,List.length_append,List.flatMap_append]
   simpa using hcr
  vals:=vfar _ _ _ L.vals
  regs:=vfar _ _ _ L.regs
  cvals:=fun i u c hu hc=>by
   rcases old hu with hu | ⟨hi,rfl⟩
   ·have hil:i<W.cells.length:=by rw[←L.lv];exact(lE hu).1
    have hc':W.cells[i]? = some c:=by
     have:(W.cells++[(⟨kind,num,[],[]⟩:bC)])[i]? = some c:=hc
     rwa [List.getElem?_append_left hil] at this
    exact vfar _ _ _ (L.cvals i u c hu hc')
   ·have:(W.cells++[(⟨kind,num,[],[]⟩:bC)])[i]? = some c:=hc
    rw[hi,L.lv] at this
    simp at this
    subst this
    exact⟨rfl,.inl ⟨rfl,rfl⟩⟩
  ap1:=L.ap1
  ap2:=fun i u g hu hg=>by
   rcases old hu with hu | ⟨hi,rfl⟩
   ·exact L.ap2 i u g hu hg
   ·cases hg
  ap3:=fun i j a b g hij ha hb' hg=>by
   rcases old ha with ha | ⟨hi,rfl⟩
   ·rcases old hb' with hb' | ⟨hj,rfl⟩
    ·exact L.ap3 i j a b g hij ha hb' hg
    ·intro e;cases e
   ·cases hg
  nqc:=fun g hg hq=>by
   rcases hb g hg with h | h
   ·exact L.nqc g h hq
   ·have:=K.q1 g hq;have:=L.size;omega
  nqv:=L.nqv
  nqr:=L.nqr
  nqs:=fun i u g hu hg=>by
   rcases old hu with hu | ⟨hi,rfl⟩
   ·exact L.nqs i u g hu hg
   ·cases hg
  fixed:=fun b hq=>(o.block b (Nat.lt_of_lt_of_le (K.q1 b hq) L.size) (fun ht=>by
   rcases ht with ht | ht
   ·exact L.nqc b ht hq
   ·subst ht;exact K.qw hq)).trans (L.fixed b hq)
  cfr:=fun i f c hf' hc=>by
   rcases old hf' with hf' | ⟨hi,rfl⟩
   ·have hil:i<W.cells.length:=by rw[←L.lf];exact(lE hf').1
    have hc':W.cells[i]? = some c:=by
     have:(W.cells++[(⟨kind,num,[],[]⟩:bC)])[i]? = some c:=hc
     rwa [List.getElem?_append_left hil] at this
    exact L.cfr i f c hf' hc'
   ·have:(W.cells++[(⟨kind,num,[],[]⟩:bC)])[i]? = some c:=hc
    rw[hi,L.lf] at this
    simp at this
    subst this
    exact bK.nil _ _ _ _
  size:=Nat.le_trans L.size o.size
  wfc:=fun c hc=>by
   rcases List.mem_append.1 (show c∈W.cells++[_] from hc) with h | h
   ·exact L.wfc c h
   ·rw[List.mem_singleton] at h;subst h;exact⟨hk.1,hk.2,fun v hv=>by cases hv⟩
  wfv:=L.wfv
  wfr:=L.wfr
  wfa:=L.wfa
  wfs:=L.wfs }
theorem bO.own (L:bO Γ w W cv vv vs fs) (K:hP Γ) (k:Nat):w.cell? ⟨Γ.wb,13+k,none⟩=[cv,Γ.shv,.pointer (some ⟨Γ.fb,Γ.fo,none⟩),.int .i64 W.steps,vv][k]?:=by
 rw[cell_of_row w _ (13+k) _ _ _ L.row]
 refine(List.getElem?_toArray ..).trans ?_
 rw[List.getElem?_append_right (by rw[K.tl];omega),K.tl,Nat.add_sub_cancel_left]
theorem bO.tr (L:bO Γ w W cv vv vs fs) (K:hP Γ) {k:Nat} (hk:k<13):w.cell? ⟨Γ.wb,k,none⟩ = Γ.tcs[k]?:=by
 rw[cell_of_row w _ k _ _ _ L.row]
 refine(List.getElem?_toArray ..).trans ?_
 rw[List.getElem?_append_left (by rw[K.tl];exact hk)]
theorem bO.held (L:bO Γ w W cv vv vs fs) (p:Addr) (h : Γ.Q p.block):w.cell? p = Γ.w1.cell? p:=World.cell?_of_block (L.fixed p.block h)
theorem bS {l:List Val} {i:Nat} {v:Val} (h:l[i]? = some v) {k:Nat} (hk:k<2):(l.flatMap aZ)[i*2+k]? = (aZ v)[k]?:=by
 rw[←dI]
 exact b9 _ i k _ (fun r hr=>by obtain⟨x,-,rfl⟩:=List.mem_map.1 hr;rfl) (by rw[List.getElem?_map,h];rfl) hk
theorem uP {w:World} {B g n cap:Nat} {l:List Val} {i:Nat} {v u:Val} (h:w.ownsRow B 48 2 (.slice (some ⟨g,0,none⟩) n cap) n (l.flatMap aZ)) (hi:l[i]? = some u) :
  ((w.setCell ⟨g,i*2,none⟩ (.int .i64 v.kind)).setCell ⟨g,i*2+1,none⟩ (.int .i64 v.n)).ownsRow B 48 2 (.slice (some ⟨g,0,none⟩) n cap) n ((l.set i v).flatMap aZ):=by
 have h1:=((h.stored (i*2) (.int .i64 v.kind)).1.stored (i*2+1) (.int .i64 v.n)).1
 have hr:∀r∈l.map aZ,r.length=2:=fun r hr=>by obtain⟨x,-,rfl⟩:=List.mem_map.1 hr;rfl
 have hg:(l.map aZ)[i]? = some (aZ u):=by rw[List.getElem?_map,hi];rfl
 rw[←dI aZ l,show i*2=i*2+0 from rfl,dT _ i 0 _ _ hr hg (by decide),dT _ i 1 _ _ (eU hr rfl) (dO hg _) (by decide),List.set_set] at h1
 rw[←dI,List.map_set]
 exact h1
end
end
section
open Go.RowKit
def hM (rows:List (List Value)):List Value:=rows.map fun r=>r.getD 2 (.slice none 0 0)
def wH (rows:List (List Value)):List Value:=rows.map fun r=>r.getD 3 (.slice none 0 0)
theorem wJ:∀(l:List bC) (rows:List (List Value)),rows.length=l.length→(∀(i:Nat) c,l[i]? = some c→∃v f,rows[i]? = some (bD c v f))→cK l (hM rows) (wH rows)=rows
 | [],[],_,_=>rfl
 | [],_::_,h,_=>by simp at h
 | _::_,[],h,_=>by simp at h
 | c::l,r::rows,h,hp=>by
  obtain⟨v,f,e⟩:=hp 0 c rfl
  obtain rfl:r=bD c v f:=by simpa using e
  show bD c v f::cK l (hM rows) (wH rows)=_
  rw[wJ l rows (by simpa using h) (fun i c hi=>hp (i+1) c hi)]
theorem pY {w:World} {B:Nat} {v:Value} {l:List Val} (h:w.ownsRow B 48 2 v l.length (l.flatMap aZ)) (wf:∀x∈l,WfV x):aH w w.heap.size 2 hU v l:=by
 obtain⟨A,c,rfl⟩:=bV h
 refine j5 (rows:=l.map aZ) (by rw[dI];exact h) (by simp) (fun r hr=>by obtain⟨x,-,rfl⟩:=List.mem_map.1 hr;rfl) (fun i r x hr hx=>?_)
 rw[List.getElem?_map,hx] at hr
 obtain rfl:aZ x=r:=by simpa using hr
 exact⟨rfl,wf x (List.mem_of_getElem? hx)⟩
theorem pZ {w:World} {Q:Nat→Prop} {B:Nat} {v:Value} {l:List Val} (h:w.ownsRow B 48 2 v l.length (l.flatMap aZ)) (wf:∀x∈l,wfi x.kind∧wfi x.n) (hQ:∀g,v.ownBlock=some g→Q g):bK w Q 2 hU v l:=by
 obtain⟨A,c,rfl⟩:=bV h
 refine fL (rows:=l.map aZ) (by rw[dI];exact h) (by simp) (fun r hr=>by obtain⟨x,-,rfl⟩:=List.mem_map.1 hr;rfl) (fun g _ hg _ _=>hQ g hg) (fun i r x hr hx=>?_)
 rw[List.getElem?_map,hx] at hr
 obtain rfl:aZ x=r:=by simpa using hr
 exact⟨rfl,wf x (List.mem_of_getElem? hx)⟩
theorem kU {w:World} {Q:Nat→Prop} {B:Nat} {v:Value} {l:List gM} (h:w.ownsRow B 96 2 v l.length (l.flatMap cO)) (wf:∀x∈l,wfi x.reg∧wfi x.at_) (hQ:∀g,v.ownBlock=some g→Q g):bK w Q 2 jW v l:=by
 obtain⟨A,c,rfl⟩:=bV h
 refine fL (rows:=l.map cO) (by rw[dI];exact h) (by simp) (fun r hr=>by obtain⟨x,-,rfl⟩:=List.mem_map.1 hr;rfl) (fun g _ hg _ _=>hQ g hg) (fun i r x hr hx=>?_)
 rw[List.getElem?_map,hx] at hr
 obtain rfl:cO x=r:=by simpa using hr
 exact⟨rfl,wf x (List.mem_of_getElem? hx)⟩
theorem nF {wO w:World} {Q:Nat→Prop} {lo:Nat} {tf:Value} {l:List a8} {rs ts:List Value} (F:fD wO lo tf l rs ts) (k:Below wO.heap.size wO w) (h1:∀g,tf.ownBlock=some g→Q g) (h2:∀r∈rs,∀g,r.ownBlock=some g→Q g) (h3:∀r∈ts,∀g,r.ownBlock=some g→Q g) :
  bK w Q 8 (sO w Q) tf l:=by
 have row:=cZ F.row k
 obtain⟨A,c,rfl⟩:=bV row
 refine fL row (nW l rs ts F.lr F.lt) (gC _ _ _) (fun g _ hg _ _=>h1 g hg) (fun i r x hr hx=>?_)
 have hil:=(lE hx).1
 have hrs:rs[i]? = some (rs[i]'(by rw[F.lr];exact hil)):=lG _
 have hts:ts[i]? = some (ts[i]'(by rw[F.lt];exact hil)):=lG _
 rw[dV l rs ts i x _ _ hx hrs hts] at hr
 injection hr with hr
 have wf:=F.wf x (List.mem_of_getElem? hx)
 exact⟨_,_,hr.symm,pZ (cZ (F.regs i _ x hrs hx) k) wf.2.2.2.2.2.2.1 (fun g hg=>h2 _ (List.mem_of_getElem? hrs) g hg),kU (cZ (F.tries i _ x hts hx) k) wf.2.2.2.2.2.2.2 (fun g hg=>h3 _ (List.mem_of_getElem? hts) g hg),wf.1,wf.2.1,wf.2.2.1,wf.2.2.2.1,wf.2.2.2.2.1,wf.2.2.2.2.2.1⟩
theorem ac7 {w1 w:World} {Q:Nat→Prop} {cs:List Value} {x:a8} (h:sO w1 Q cs x) (hk:∀b,Q b→w.heap[b]? = w1.heap[b]?) (hlt:∀b,Q b→b<w.heap.size):eR w w.heap.size cs x:=by
 obtain⟨r,t,e,h1,h2,h3⟩:=h
 exact⟨r,t,e,(h1.far (fun _ h=>h) hk).toR hlt (fun _ _ h=>h),(h2.far (fun _ h=>h) hk).toR hlt (fun _ _ h=>h),h3⟩
theorem wI {w1 w:World} {Q:Nat→Prop} {tf:Value} {l:List a8} (h:bK w1 Q 8 (sO w1 Q) tf l) (hk:∀b,Q b→w.heap[b]? = w1.heap[b]?) (hlt:∀b,Q b→b<w.heap.size):aH w w.heap.size 8 (eR w w.heap.size) tf l:=
 (h.far (fun _ h=>h) hk).toR hlt (fun _ _ h=>ac7 h hk hlt)
def QOf (w1:World) (B0 B wb fb:Nat) (rv vv cv:Value) (vs:List Value) (b:Nat):Prop:=
 (b<w1.heap.size∧(b<B0∨B≤b))∧b≠wb∧b≠fb∧rv.ownBlock≠some b∧vv.ownBlock≠some b∧cv.ownBlock≠some b∧∀(i:Nat) v,vs[i]? = some v→v.ownBlock≠some b
def aeF (w1:World) (B0 B wb fb:Nat) (rv vv cv:Value) (vs:List Value) (b:Nat):Prop:=QOf w1 B0 B wb fb rv vv cv vs b∧B≤b
structure cH (wO w1:World) (B0 B:Nat) (cs:List Value) (S:aR) (co lo:Nat→Nat) (cv thv:Value) (rows trows:List (List Value)) (shv txv env sav:Value) (th:Nat) (h:bW) (f:a8) (j fb fcap wb:Nat) (tf rv vv:Value) (rs ts tcs:List Value) (t:aN):Prop where
 own:sL wO B cs S co lo cv thv rows trows shv txv env sav
 hB:B0≤B
 hO:B≤wO.heap.size
 below:Below wO.heap.size wO w1
 hth:S.threads[th]? = some h
 hl:h.frames.length=j+1
 hf:h.frames[j]? = some f
 ht:trows[th]? = some (gH h tf)
 fin:eH wO (lo th) (lo (th+1)) tf h.frames rs ts
 htf:tf=.slice (some ⟨fb,0,none⟩) (j+1) fcap
 hrv:rs[j]? = some rv
 vrow:w1.ownsRow wO.heap.size 48 2 vv t.ins.length ((List.replicate t.ins.length (⟨0,0⟩:Val)).flatMap aZ)
 wrow:w1.heap[wb]? = some (.cells ⟨tcs++[cv,shv,.pointer (some ⟨fb,j*8,none⟩),.int .i64 0,vv]⟩ 85 (0,0))
 wnew:wO.heap.size≤wb
 tl:tcs.length=13
 tr:cT w1 B0 tcs t
def sD (w1:World) (B0 B:Nat) (cv:Value) (rows:List (List Value)) (shv:Value) (S:aR) (f:a8) (j fb wb:Nat) (rv vv:Value) (tcs:List Value) (t:aN):kI:=
 ⟨w1,QOf w1 B0 B wb fb rv vv cv (hM rows),aeF w1 B0 B wb fb rv vv cv (hM rows),B0,B0,wb,fb,j*8,rv,t,tcs,shv,S.shapes,f.self⟩
section
variable {wO w1:World} {B0 B:Nat} {cs:List Value} {S:aR} {co lo:Nat→Nat} {cv thv:Value} {rows trows:List (List Value)} {shv txv env sav:Value} {th:Nat} {h:bW} {f:a8} {j fb fcap wb:Nat} {tf rv vv:Value} {rs ts tcs:List Value} {t:aN}
theorem dK {g:Nat→Nat} (h:∀i,g i≤g (i+1)) {i k:Nat} (hik:i≤k):g i≤g k:=by
 induction hik with
 | refl=>exact Nat.le_refl _
 | step _ ih=>exact Nat.le_trans ih (h _)
theorem cH.thl (st:cH wO w1 B0 B cs S co lo cv thv rows trows shv txv env sav th h f j fb fcap wb tf rv vv rs ts tcs t):th<S.threads.length:=(lE st.hth).1
theorem cH.cB (st:cH wO w1 B0 B cs S co lo cv thv rows trows shv txv env sav th h f j fb fcap wb tf rv vv rs ts tcs t) {g:Nat} (hg:cv.ownBlock=some g):B≤g∧g<co 0:=⟨(st.own.crow.lt g hg).1,st.own.cblk g hg⟩
theorem cH.colo (st:cH wO w1 B0 B cs S co lo cv thv rows trows shv txv env sav th h f j fb fcap wb tf rv vv rs ts tcs t) {i k:Nat} (hi:i≤S.cells.length):co i≤lo k:=Nat.le_trans (dK st.own.cmono hi) (Nat.le_trans st.own.tco (dK st.own.tmono (Nat.zero_le k)))
theorem cH.cell (st:cH wO w1 B0 B cs S co lo cv thv rows trows shv txv env sav th h f j fb fcap wb tf rv vv rs ts tcs t) {i:Nat} {c:bC} (hc:S.cells[i]? = some c) :
  ∃v g,(hM rows)[i]? = some v∧(wH rows)[i]? = some g∧rows[i]? = some (bD c v g)∧kG wO (co i) (co (i+1)) c v g:=by
 obtain⟨v,g,h1,h2⟩:=st.own.cpart i c hc
 exact⟨v,g,by unfold hM;rw[List.getElem?_map,h1];rfl,by unfold wH;rw[List.getElem?_map,h1];rfl,h1,h2⟩
theorem cH.vs (st:cH wO w1 B0 B cs S co lo cv thv rows trows shv txv env sav th h f j fb fcap wb tf rv vv rs ts tcs t) {i:Nat} {v:Value} (hv:(hM rows)[i]? = some v) :
  ∃c m,S.cells[i]? = some c∧wO.ownsRow (co i) 48 2 v c.vals.length (c.vals.flatMap aZ)∧i<S.cells.length∧co i≤m∧m≤co (i+1)∧∀g,v.ownBlock=some g→co i≤g∧g<m:=by
 have hil:i<S.cells.length:=by
  have:=(lE hv).1
  unfold hM at this
  rw[List.length_map,st.own.clen] at this
  exact this
 have hc:S.cells[i]? = some S.cells[i]:=lG hil
 obtain⟨v',g',h1,-,-,m,_,_,h2,h3,h4,h5,-⟩:=st.cell hc
 rw[hv] at h1;injection h1 with h1;subst h1
 exact⟨_,m,hc,h4,hil,h2,h3,fun g hg=>⟨(h4.lt g hg).1,h5 g hg⟩⟩
theorem cH.fbI (st:cH wO w1 B0 B cs S co lo cv thv rows trows shv txv env sav th h f j fb fcap wb tf rv vv rs ts tcs t):lo th≤fb∧fb<lo (th+1):=by
 have e:tf.ownBlock=some fb:=by rw[st.htf];rfl
 exact⟨(st.fin.at_.row.lt fb e).1,st.fin.fb fb e⟩
theorem cH.rvI (st:cH wO w1 B0 B cs S co lo cv thv rows trows shv txv env sav th h f j fb fcap wb tf rv vv rs ts tcs t) {g:Nat} (hg:rv.ownBlock=some g):lo th≤g∧g<lo (th+1):=
 ⟨((st.fin.at_.regs j rv f st.hrv st.hf).lt g hg).1,st.fin.rb rv (List.mem_of_getElem? st.hrv) g hg⟩
theorem cH.loO (st:cH wO w1 B0 B cs S co lo cv thv rows trows shv txv env sav th h f j fb fcap wb tf rv vv rs ts tcs t) (i:Nat):lo i≤wO.heap.size:=st.own.lend i
theorem cH.q_of (st:cH wO w1 B0 B cs S co lo cv thv rows trows shv txv env sav th h f j fb fcap wb tf rv vv rs ts tcs t) {b:Nat} (h0:b<B0∨B≤b) (hb:b<wO.heap.size) (h1:b<lo th∨lo (th+1)≤b) (h2:cv.ownBlock≠some b) (h3:∀(i:Nat) v,(hM rows)[i]? = some v→v.ownBlock≠some b):QOf w1 B0 B wb fb rv vv cv (hM rows) b:=by
 have hf:=st.fbI
 have hw:=st.wnew
 refine⟨⟨Nat.lt_of_lt_of_le hb st.below.size,h0⟩,by omega,by omega,fun e=>?_,fun e=>?_,h2,h3⟩
 ·have:=st.rvI e;omega
 ·have:=(st.vrow.lt b e).1;omega
theorem cH.q_old (st:cH wO w1 B0 B cs S co lo cv thv rows trows shv txv env sav th h f j fb fcap wb tf rv vv rs ts tcs t) {b:Nat} (hb:b<B0):QOf w1 B0 B wb fb rv vv cv (hM rows) b:=by
 have h1:=st.hB
 have h2:=st.own.cb
 have h3:co 0≤lo th:=st.colo (Nat.zero_le _)
 refine st.q_of (.inl hb) (by have:=st.hO;omega) (.inl (by omega)) (fun e=>by have:=st.cB e;omega) (fun i v hv e=>?_)
 obtain⟨c,m,-,-,hi,-,-,h5⟩:=st.vs hv
 have:=h5 b e
 have:=dK st.own.cmono (Nat.zero_le i)
 omega
theorem cH.q_late (st:cH wO w1 B0 B cs S co lo cv thv rows trows shv txv env sav th h f j fb fcap wb tf rv vv rs ts tcs t) {b:Nat} (hb:b<wO.heap.size) (h0:co S.cells.length≤b) (h1:b<lo th∨lo (th+1)≤b):aeF w1 B0 B wb fb rv vv cv (hM rows) b:=by
 have hBB:B≤b:=by have:=st.own.cb;have:=dK st.own.cmono (Nat.zero_le S.cells.length);omega
 refine⟨st.q_of (.inr hBB) hb h1 (fun e=>?_) (fun i v hv e=>?_),hBB⟩
 ·have:=(st.cB e).2
  have:=dK st.own.cmono (Nat.zero_le S.cells.length)
  omega
 ·obtain⟨c,m,-,-,hi,-,h4,h5⟩:=st.vs hv
  have:=h5 b e
  have:=dK st.own.cmono (show i+1≤S.cells.length from hi)
  omega
theorem cH.q_end (st:cH wO w1 B0 B cs S co lo cv thv rows trows shv txv env sav th h f j fb fcap wb tf rv vv rs ts tcs t) {b:Nat} (hb:lo S.threads.length≤b∧b<wO.heap.size):aeF w1 B0 B wb fb rv vv cv (hM rows) b:=by
 have h1:=dK st.own.tmono (show th+1≤S.threads.length from st.thl)
 exact st.q_late hb.2 (by have:=st.colo (k:=S.threads.length) (Nat.le_refl _);omega) (.inr (by omega))
theorem cH.fix (st:cH wO w1 B0 B cs S co lo cv thv rows trows shv txv env sav th h f j fb fcap wb tf rv vv rs ts tcs t):hP (sD w1 B0 B cv rows shv S f j fb wb rv vv tcs t):=by
 have hcell:∀k,k<8→w1.cell? ⟨fb,j*8+k,none⟩=(bX f rv ((ts[j]?).getD (.slice none 0 0)))[k]?:=fun k hk=>by
  have row:=cZ st.fin.at_.row st.below
  rw[st.htf,st.hl] at row
  have hjl:j<h.frames.length:=by rw[st.hl];omega
  have hts:ts[j]? = some (ts[j]'(by rw[st.fin.at_.lt];exact hjl)):=lG _
  rw[row.cellAt (j*8+k) (by omega),b9 _ j k _ (gC _ _ _) (dV _ _ _ j f rv _ st.hf st.hrv hts) hk,hts]
  rfl
 have wf:=st.fin.at_.wf f (List.mem_of_getElem? st.hf)
 exact {
  q1:=fun b hb=>hb.1.1
  q0:=fun b hb=>st.q_old hb
  b1:=by have:=st.hB;have:=st.hO;have:=st.below.size;show B0≤w1.heap.size;omega
  qw:=fun hq=>hq.2.1 rfl
  qf:=fun hq=>hq.2.2.1 rfl
  tl:=st.tl
  tr:=st.tr
  sh:=st.own.shapes.far (fun b hb=>(st.q_end hb).1) (fun b hb=>st.below.block b hb.2)
  f4:=hcell 4 (by decide)
  f5:=hcell 5 (by decide)
  f6:=hcell 6 (by decide)
  wfs:=⟨wf.2.2.2.2.1,wf.2.2.2.2.2.1⟩ }
theorem cH.lay (st:cH wO w1 B0 B cs S co lo cv thv rows trows shv txv env sav th h f j fb fcap wb tf rv vv rs ts tcs t):bO (sD w1 B0 B cv rows shv S f j fb wb rv vv tcs t) w1 (cL t S f) cv vv (hM rows) (wH rows):=by
 have hB:=st.hB
 have hO:=st.hO
 have hcb:=st.own.cb
 have lth:B0≤lo th:=by have:=st.colo (i:=0) (k:=th) (Nat.zero_le _);omega
 have row:=cZ st.fin.at_.row st.below
 have hfb:tf.ownBlock=some fb:=by rw[st.htf];rfl
 obtain⟨cf,hcf⟩:=aX row hfb
 have wf:=st.fin.at_.wf f (List.mem_of_getElem? st.hf)
 have hcr:cK S.cells (hM rows) (wH rows)=rows:=wJ S.cells rows st.own.clen (fun i c hc=>by obtain⟨v,g,h1,-⟩:=st.own.cpart i c hc;exact⟨v,g,h1⟩)
 have hwO:=st.wnew
 have hlo:∀i,lo i≤wO.heap.size:=st.loO
 have vlt:∀ {i:Nat} {v:Value} {g:Nat},(hM rows)[i]? = some v→v.ownBlock=some g→g<lo th∧B0≤g∧g<wO.heap.size:=fun {i v g} hv hg=>by
  obtain⟨c,m,-,ho,hi,-,h4,h5⟩:=st.vs hv
  have h6:=h5 g hg
  have h7:=st.colo (i:=i+1) (k:=th) hi
  have h8:=dK st.own.cmono (Nat.zero_le i)
  have h9:=hlo th
  omega
 exact {
  row:=st.wrow
  frow:=⟨cf,hcf⟩
  fat:=by
   have r:=row
   rw[st.htf,st.hl] at r
   have hjl:j<h.frames.length:=by rw[st.hl];omega
   have hts:ts[j]? = some (ts[j]'(by rw[st.fin.at_.lt];exact hjl)):=lG _
   show w1.cell? ⟨fb,j*8+1,none⟩=_
   rw[r.cellAt (j*8+1) (by omega),b9 _ j 1 _ (gC _ _ _) (dV _ _ _ j f rv _ st.hf st.hrv hts) (by decide)]
   rfl
  frest:=fun _ _=>rfl
  lv:=by unfold hM;rw[List.length_map];exact st.own.clen
  lf:=by unfold wH;rw[List.length_map];exact st.own.clen
  crow:=by
   show w1.ownsRow B0 _ 4 cv S.cells.length ((cK S.cells (hM rows) (wH rows)).flatMap id)
   rw[hcr]
   exact dU (cZ st.own.crow st.below) hB
  vals:=by
   have:=st.vrow
   show w1.ownsRow B0 _ 2 vv (List.replicate t.ins.length (⟨0,0⟩:Val)).length _
   rw[List.length_replicate]
   exact dU this (by omega)
  regs:=dU (cZ (st.fin.at_.regs j rv f st.hrv st.hf) st.below) lth
  cvals:=fun i v c hv hc=>by
   obtain⟨c',m,hc',h1,-,h2,-⟩:=st.vs hv
   have hc2:S.cells[i]? = some c:=hc
   rw[hc'] at hc2;injection hc2 with hc2;subst hc2
   exact dU (cZ h1 st.below) (by have:=dK st.own.cmono (Nat.zero_le i);show B0≤co i;omega)
  ap1:=fun g hg e=>by
   have h1:=(st.vrow.lt g hg).1
   have h2:=(st.rvI e).2
   have:=hlo (th+1)
   omega
  ap2:=fun i v g hv hg=>⟨fun e=>by have h1:=(st.vrow.lt g e).1;have:=(vlt hv hg).2.2;omega,fun e=>by have h1:=(st.rvI e).1;have:=(vlt hv hg).1;omega⟩
  ap3:=fun i k a b g hik ha hb hg e=>by
   obtain⟨_,m1,-,-,-,-,h4,h5⟩:=st.vs ha
   obtain⟨_,m2,-,-,-,-,g4,g5⟩:=st.vs hb
   have p1:=h5 g hg
   have p2:=g5 g e
   rcases Nat.lt_or_gt_of_ne hik with hlt | hlt
   ·have:=dK st.own.cmono (show i+1≤k from hlt);omega
   ·have:=dK st.own.cmono (show k+1≤i from hlt);omega
  nqc:=fun g hg hq=>hq.2.2.2.2.2.1 hg
  nqv:=fun g hg hq=>hq.2.2.2.2.1 hg
  nqr:=fun g hg hq=>hq.2.2.2.1 hg
  nqs:=fun i v g hv hg hq=>hq.2.2.2.2.2.2 i v hv hg
  fixed:=fun _ _=>rfl
  cfr:=fun i g c hg hc=>by
   have hc':S.cells[i]? = some c:=hc
   obtain⟨v,g',hv,hg',-,m,rs2,ts2,h2,h3,h4,h5,h6⟩:=st.cell hc'
   rw[hg] at hg';injection hg' with hg';subst hg'
   have hil:=(lE hc').1
   have hci:=st.colo (i:=i+1) (k:=th) hil
   have q:∀b,m≤b→b<co (i+1)→aeF w1 B0 B wb fb rv vv cv (hM rows) b:=fun b hb1 hb2=>by
    have hBB:B≤b:=by have:=dK st.own.cmono (Nat.zero_le i);omega
    refine⟨st.q_of (.inr hBB) (by have:=hlo th;omega) (.inl (by omega)) (fun e=>?_) (fun k u hu e=>?_),hBB⟩
    ·have:=(st.cB e).2
     have:=dK st.own.cmono (Nat.zero_le i)
     omega
    ·by_cases hki:k=i
     ·subst hki
      rw[hv] at hu;injection hu with hu;subst hu
      have:=h5 b e;omega
     ·obtain⟨_,m2,-,-,-,-,g4,g5⟩:=st.vs hu
      have p2:=g5 b e
      rcases Nat.lt_or_gt_of_ne hki with hlt | hlt
      ·have:=dK st.own.cmono (show k+1≤i from hlt);omega
      ·have:=dK st.own.cmono (show i+1≤k from hlt);omega
   refine nF h6.at_ st.below (fun b hb=>q b (h6.at_.row.lt b hb).1 (h6.fb b hb)) (fun r hr b hb=>?_) (fun r hr b hb=>?_)
   ·obtain⟨k,hk⟩:=List.getElem?_of_mem hr
    have hkl:=(lE hk).1
    have:=(h6.at_.regs k r _ hk (lG (by rw[←h6.at_.lr];exact hkl))).lt b hb
    exact q b this.1 (h6.rb r hr b hb)
   ·obtain⟨k,hk⟩:=List.getElem?_of_mem hr
    have hkl:=(lE hk).1
    have:=(h6.at_.tries k r _ hk (lG (by rw[←h6.at_.lt];exact hkl))).lt b hb
    exact q b this.1 (h6.tb r hr b hb)
  size:=Nat.le_refl _
  wfc:=fun c hc=>st.own.wfc c hc
  wfv:=fun v hv=>by
   obtain⟨-,rfl⟩:=List.mem_replicate.1 (show v∈List.replicate t.ins.length (⟨0,0⟩:Val) from hv)
   exact⟨⟨by simp,by simp⟩,⟨by simp,by simp⟩⟩
  wfr:=fun v hv=>wf.2.2.2.2.2.2.1 v hv
  wfa:=wf.2.1
  wfs:=⟨by simp[cL],by simp[cL]⟩ }
end
end
section
open Go.RowKit
theorem uB:∀(l:List bC) (vs fs:List Value),vs.length=l.length→fs.length=l.length→(cK l vs fs).length=l.length
 | [],_,_,_,_=>by unfold cK;rfl
 | _::_,[],_,h,_=>by simp at h
 | _::_,_::_,[],_,h=>by simp at h
 | c::l,v::vs,f::fs,h1,h2=>by
  show(cK l vs fs).length+1=l.length+1
  rw[uB l vs fs (by simpa using h1) (by simpa using h2)]
theorem lS:∀ {l:List Value},(l.filterMap Value.ownBlock).Nodup→∀ {i j:Nat} {a b:Value} {g:Nat},i≠j→l[i]? = some a→l[j]? = some b→a.ownBlock=some g→b.ownBlock≠some g
 | [],_,_,_,_,_,_,_,ha,_,_=>by simp at ha
 | x::l,h,0,0,_,_,_,hij,_,_,_=>absurd rfl hij
 | x::l,h,0,j+1,a,b,g,_,ha,hb,h1=>fun e=>by
  obtain rfl:x=a:=by simpa using ha
  have hb':l[j]? = some b:=by simpa using hb
  rw[List.filterMap_cons,h1] at h
  exact(List.nodup_cons.1 h).1 (List.mem_filterMap.2 ⟨b,List.mem_of_getElem? hb',e⟩)
 | x::l,h,i+1,0,a,b,g,_,ha,hb,h1=>fun e=>by
  obtain rfl:x=b:=by simpa using hb
  have ha':l[i]? = some a:=by simpa using ha
  rw[List.filterMap_cons,e] at h
  exact(List.nodup_cons.1 h).1 (List.mem_filterMap.2 ⟨a,List.mem_of_getElem? ha',h1⟩)
 | x::l,h,i+1,j+1,a,b,g,hij,ha,hb,h1=>by
  have h':(l.filterMap Value.ownBlock).Nodup:=by
   rw[List.filterMap_cons] at h
   split at h
   ·exact h
   ·exact(List.nodup_cons.1 h).2
  exact lS h' (i:=i) (j:=j) (fun e=>hij (by rw[e])) (by simpa using ha) (by simpa using hb) h1
section
variable {wO w1 w':World} {B0 B:Nat} {cs:List Value} {S:aR} {co lo:Nat→Nat} {cv thv:Value} {rows trows:List (List Value)} {shv txv env sav:Value} {th:Nat} {h:bW} {f:a8} {j fb fcap wb:Nat} {tf rv vv:Value} {rs ts tcs:List Value} {t:aN}
theorem cH.q_own (st:cH wO w1 B0 B cs S co lo cv thv rows trows shv txv env sav th h f j fb fcap wb tf rv vv rs ts tcs t) {b:Nat} (hb:lo th≤b∧b<lo (th+1)) (h1:b≠fb) (h2:rv.ownBlock≠some b):aeF w1 B0 B wb fb rv vv cv (hM rows) b:=by
 have hl:=st.loO (th+1)
 have hw:=st.wnew
 have hs:=st.below.size
 have hBB:B≤b:=by have:=st.own.cb;have:=st.colo (i:=0) (k:=th) (Nat.zero_le _);omega
 refine⟨⟨⟨by omega,.inr hBB⟩,by omega,h1,h2,fun e=>?_,fun e=>?_,fun i v hv e=>?_⟩,hBB⟩
 ·have:=(st.vrow.lt b e).1;omega
 ·have:=(st.cB e).2
  have:=st.colo (i:=0) (k:=th) (Nat.zero_le _)
  omega
 ·obtain⟨c,m,-,-,hi,-,h4,h5⟩:=st.vs hv
  have:=h5 b e
  have:=st.colo (i:=i+1) (k:=th) hi
  omega
theorem cH.q_regs (st:cH wO w1 B0 B cs S co lo cv thv rows trows shv txv env sav th h f j fb fcap wb tf rv vv rs ts tcs t) {i:Nat} {r:Value} (hij:i≠j) (hr:rs[i]? = some r) {b:Nat} (hb:r.ownBlock=some b):aeF w1 B0 B wb fb rv vv cv (hM rows) b:=by
 have hil:i<h.frames.length:=by rw[←st.fin.at_.lr];exact(lE hr).1
 have own:=st.fin.at_.regs i r _ hr (lG hil)
 refine st.q_own ⟨(own.lt b hb).1,st.fin.rb r (List.mem_of_getElem? hr) b hb⟩ ?_ (lS st.fin.at_.nodup hij hr st.hrv hb)
 obtain⟨cs1,h1⟩:=aX own hb
 obtain⟨cs2,h2⟩:=aX st.fin.at_.row (g:=fb) (by rw[st.htf];rfl)
 exact bJ h1 h2 (by decide)
theorem cH.q_tries (st:cH wO w1 B0 B cs S co lo cv thv rows trows shv txv env sav th h f j fb fcap wb tf rv vv rs ts tcs t) {i:Nat} {r:Value} (hr:ts[i]? = some r) {b:Nat} (hb:r.ownBlock=some b):aeF w1 B0 B wb fb rv vv cv (hM rows) b:=by
 have hil:i<h.frames.length:=by rw[←st.fin.at_.lt];exact(lE hr).1
 have own:=st.fin.at_.tries i r _ hr (lG hil)
 obtain⟨cs1,h1⟩:=aX own hb
 obtain⟨cs2,h2⟩:=aX st.fin.at_.row (g:=fb) (by rw[st.htf];rfl)
 refine st.q_own ⟨(own.lt b hb).1,st.fin.tb r (List.mem_of_getElem? hr) b hb⟩ (bJ h1 h2 (by decide)) (fun e=>?_)
 obtain⟨cs3,h3⟩:=aX (st.fin.at_.regs j rv f st.hrv st.hf) e
 exact bJ h1 h3 (by decide) rfl
theorem cH.last (st:cH wO w1 B0 B cs S co lo cv thv rows trows shv txv env sav th h f j fb fcap wb tf rv vv rs ts tcs t):∃l0,h.frames=l0++[f]∧l0.length=j∧h.frames.getLast? = some f:=by
 have e:h.frames.getLast? = some f:=by rw[List.getLast?_eq_getElem?,st.hl];exact st.hf
 obtain⟨l0,hl0⟩:=List.getLast?_eq_some_iff.1 e
 refine⟨l0,hl0,?_,e⟩
 have:=st.hl
 rw[hl0] at this
 simpa using this
theorem cH.frames (st:cH wO w1 B0 B cs S co lo cv thv rows trows shv txv env sav th h f j fb fcap wb tf rv vv rs ts tcs t) {W:aI} {cv' vv':Value} {vs' fs':List Value} (L:bO (sD w1 B0 B cv rows shv S f j fb wb rv vv tcs t) w' W cv' vv' vs' fs') {w2:World} (h2:∀b,B0≤b→b<w'.heap.size→w2.heap[b]? = w'.heap[b]?) (hz:w'.heap.size≤w2.heap.size) :
  aH w2 w2.heap.size 8 (eR w2 w2.heap.size) tf (h.frames.dropLast++[{ f with at_:=W.at_,regs:=W.regs }]):=by
 have hlt':∀b,aeF w1 B0 B wb fb rv vv cv (hM rows) b→b<w'.heap.size:=fun b hb=>Nat.lt_of_lt_of_le hb.1.1.1 L.size
 have hlt:∀b,aeF w1 B0 B wb fb rv vv cv (hM rows) b→b<w2.heap.size:=fun b hb=>Nat.lt_of_lt_of_le (hlt' b hb) hz
 have hk:∀b,aeF w1 B0 B wb fb rv vv cv (hM rows) b→w2.heap[b]? = w1.heap[b]?:=fun b hb=>(h2 b (Nat.le_trans st.hB hb.2) (hlt' b hb)).trans (L.fixed b hb.1)
 have mv:∀ {n size:Nat} {e:TypeId} {v:Value} {xs:List Value},w'.ownsRow B0 e size v n xs→w2.ownsRow B0 e size v n xs:=fun h=>fG h (fun g hg=>h2 g (h.lt g hg).1 (h.lt g hg).2)
 obtain⟨l0,hl0,hl1,-⟩:=st.last
 have F:=st.fin.at_
 have row:=cZ F.row st.below
 have hlen:(l0++[({ f with at_:=W.at_,regs:=W.regs } : a8)]).length=j+1:=by simp[hl1]
 rw[hl0,List.dropLast_concat]
 obtain⟨cf,hcf⟩:=L.frow
 have hfb':fb<w'.heap.size:=aV hcf
 have hfb:fb<w2.heap.size:=Nat.lt_of_lt_of_le hfb' hz
 have hfb0:B0≤fb:=by have h3:=st.fbI;have:=st.hB;have:=st.own.cb;have:=st.colo (i:=0) (k:=th) (Nat.zero_le _);omega
 have hfc:∀k,w2.cell? ⟨fb,k,none⟩=w'.cell? ⟨fb,k,none⟩:=fun k=>World.cell?_of_block (h2 fb hfb0 hfb')
 have cap2:j+1≤fcap∧fcap≤maxLen:=by
  rcases F.row.2 with ⟨e,h0⟩ | ⟨g,cap,cur,e,hb,hg,h1,h2,-⟩
  ·have:=st.hl;omega
  ·rw[st.htf] at e
   injection e with e1 e2 e3
   rw[st.hl] at h1
   exact⟨by omega,by omega⟩
 rw[st.htf,st.hl] at row
 have base:∀(i k:Nat) (x:a8) (r q:Value),h.frames[i]? = some x→rs[i]? = some r→ts[i]? = some q→k<8→w1.cell? ⟨fb,i*8+k,none⟩=(bX x r q)[k]?:=fun i k x r q hx hr hq hk8=>by
  have hil:i<j+1:=by rw[←st.hl];exact(lE hx).1
  rw[row.cellAt (i*8+k) (by omega)]
  exact b9 _ i k _ (gC _ _ _) (dV _ _ _ i x r q hx hr hq) hk8
 refine⟨some ⟨fb,0,none⟩,fcap,by rw[hlen];exact st.htf,by rw[hlen];exact cap2.1,cap2.2,fun _=>⟨fb,0,rfl,hfb,fun i x hi=>?_⟩⟩
 have hij:i<j+1:=by rw[←hlen];exact(lE hi).1
 have hjl:i<h.frames.length:=by rw[st.hl];exact hij
 have hrs:rs[i]? = some (rs[i]'(by rw[F.lr];exact hjl)):=lG _
 have hts:ts[i]? = some (ts[i]'(by rw[F.lt];exact hjl)):=lG _
 by_cases e:i=j
 ·subst e
  obtain rfl:({ f with at_:=W.at_,regs:=W.regs } : a8)=x:=by
   rw[List.getElem?_append_right (by omega),hl1,Nat.sub_self] at hi
   simpa using hi
  have hr2:=hrs
  rw[st.hrv] at hr2
  have hrv:rv=rs[i]'(by rw[F.lr];exact hjl):=by injection hr2
  rw[←hrv] at hrs
  have wf:=F.wf f (List.mem_of_getElem? st.hf)
  refine⟨bX { f with at_:=W.at_,regs:=W.regs } rv (ts[i]'(by rw[F.lt];exact hjl)),rfl,⟨_,_,rfl,pY (mv L.regs) L.wfr,((kU (cZ (F.tries i _ f hts st.hf) st.below) wf.2.2.2.2.2.2.2 (fun g hg=>st.q_tries hts hg)).far (fun _ h=>h) hk).toR hlt (fun _ _ h=>h),wf.1,L.wfa,wf.2.2.1,wf.2.2.2.1,wf.2.2.2.2.1,wf.2.2.2.2.2.1⟩,fun k u hu=>?_⟩
  have hk8:k<8:=(lE hu).1
  rw[Nat.zero_add]
  by_cases hk1:k=1
  ·subst hk1
   have:u=.int .i64 W.at_:=by
    have:(bX { f with at_:=W.at_,regs:=W.regs } rv (ts[i]'(by rw[F.lt];exact hjl)))[1]? = some (.int .i64 W.at_):=rfl
    rw[this] at hu;injection hu with hu;exact hu.symm
   rw[this]
   exact(hfc _).trans L.fat
  ·have h1:=L.frest (i*8+k) (show i*8+k≠i*8+1 by omega)
   refine(hfc _).trans (Eq.trans h1 ((base i k f rv _ st.hf hrs hts hk8).trans ?_))
   rw[←hu]
   match k,hk8,hk1 with
   | 0,_,_=>rfl
   | 2,_,_=>rfl
   | 3,_,_=>rfl
   | 4,_,_=>rfl
   | 5,_,_=>rfl
   | 6,_,_=>rfl
   | 7,_,_=>rfl
 ·have hxl:h.frames[i]? = some x:=by
   rw[List.getElem?_append_left (by omega)] at hi
   rw[hl0,List.getElem?_append_left (by omega)]
   exact hi
  have wf:=F.wf x (List.mem_of_getElem? hxl)
  refine⟨bX x (rs[i]'(by rw[F.lr];exact hjl)) (ts[i]'(by rw[F.lt];exact hjl)),rfl,⟨_,_,rfl,((pZ (cZ (F.regs i _ x hrs hxl) st.below) wf.2.2.2.2.2.2.1 (fun g hg=>st.q_regs e hrs hg)).far (fun _ h=>h) hk).toR hlt (fun _ _ h=>h),((kU (cZ (F.tries i _ x hts hxl) st.below) wf.2.2.2.2.2.2.2 (fun g hg=>st.q_tries hts hg)).far (fun _ h=>h) hk).toR hlt (fun _ _ h=>h),wf.1,wf.2.1,wf.2.2.1,wf.2.2.2.1,wf.2.2.2.2.1,wf.2.2.2.2.2.1⟩,fun k u hu=>?_⟩
  have hk8:k<8:=(lE hu).1
  rw[Nat.zero_add]
  have h1:=L.frest (i*8+k) (show i*8+k≠j*8+1 by omega)
  exact(hfc _).trans (Eq.trans h1 ((base i k x _ _ hxl hrs hts hk8).trans hu))
theorem cH.out (st:cH wO w1 B0 B cs S co lo cv thv rows trows shv txv env sav th h f j fb fcap wb tf rv vv rs ts tcs t) {W:aI} {cv' vv':Value} {vs' fs':List Value} (L:bO (sD w1 B0 B cv rows shv S f j fb wb rv vv tcs t) w' W cv' vv' vs' fs') (hs:wfi (S.steps+W.steps)) {w2:World} (h2:∀b,B0≤b→b<w'.heap.size→w2.heap[b]? = w'.heap[b]?) (hz:w'.heap.size≤w2.heap.size) :
  gK w2 w2.heap.size [cv',shv,txv,thv,env,sav,.int .i64 S.asked,.int .i64 (S.steps+W.steps)] (gX S th W):=by
 have hlt':∀b,aeF w1 B0 B wb fb rv vv cv (hM rows) b→b<w'.heap.size:=fun b hb=>Nat.lt_of_lt_of_le hb.1.1.1 L.size
 have hlt:∀b,aeF w1 B0 B wb fb rv vv cv (hM rows) b→b<w2.heap.size:=fun b hb=>Nat.lt_of_lt_of_le (hlt' b hb) hz
 have hk:∀b,aeF w1 B0 B wb fb rv vv cv (hM rows) b→w2.heap[b]? = w1.heap[b]?:=fun b hb=>(h2 b (Nat.le_trans st.hB hb.2) (hlt' b hb)).trans (L.fixed b hb.1)
 have mv:∀ {n size:Nat} {e:TypeId} {v:Value} {xs:List Value},w'.ownsRow B0 e size v n xs→w2.ownsRow B0 e size v n xs:=fun h=>fG h (fun g hg=>h2 g (h.lt g hg).1 (h.lt g hg).2)
 have hkO:∀b,lo S.threads.length≤b∧b<wO.heap.size→w2.heap[b]? = wO.heap[b]?:=fun b hb=>(hk b (st.q_end hb)).trans (st.below.block b hb.2)
 obtain⟨l0,hl0,hl1,hlast⟩:=st.last
 have e:gX S th W = { S with cells:=W.cells,steps:=S.steps+W.steps,threads:=S.threads.set th { h with frames:=h.frames.dropLast++[{ f with at_:=W.at_,regs:=W.regs }] } }:=by
  unfold gX
  rw[st.hth]
  dsimp only
  rw[hlast]
 rw[e]
 refine⟨cv',shv,txv,thv,env,sav,rfl,?_,(st.own.shapes.far (fun b hb=>st.q_end hb) hkO).toR hlt (fun _ _ h=>h),(st.own.texts.far (fun b hb=>st.q_end hb) hkO).toR hlt (fun _ _ h=>h),?_,(st.own.ends.far (fun b hb=>st.q_end hb) hkO).toR hlt (fun _ _ h=>h),(st.own.said.far (fun b hb=>st.q_end hb) hkO).toR hlt (fun _ _ h=>h),st.own.wfs.1,hs⟩
 ·have crow:=mv L.crow
  obtain⟨A,c,rfl⟩:=bV crow
  refine j5 crow (uB _ _ _ L.lv L.lf) (g8 _ _ _) (fun i r x hr hx=>?_)
  have hil:=(lE hx).1
  have hv:vs'[i]? = some (vs'[i]'(by rw[L.lv];exact hil)):=lG _
  have hf:fs'[i]? = some (fs'[i]'(by rw[L.lf];exact hil)):=lG _
  rw[eP _ _ _ i x _ _ hx hv hf] at hr
  injection hr with hr
  have wf:=L.wfc x (List.mem_of_getElem? hx)
  exact⟨_,_,hr.symm,pY (mv (L.cvals i _ x hv hx)) wf.2.2,wI (L.cfr i _ x hf hx) hk hlt,wf.1,wf.2.1⟩
 ·have hlo0:=dK st.own.tmono (Nat.zero_le th)
  have trow:w2.ownsRow (co S.cells.length) 57 5 thv S.threads.length (trows.flatMap id):=fG st.own.trow (fun g hg=>by
   have h1:=st.own.trow.lt g hg
   have h2:=st.own.tblk g hg
   exact(hk g (st.q_late h1.2 h1.1 (.inl (by omega)))).trans (st.below.block g h1.2))
  obtain⟨A,c,rfl⟩:=bV trow
  have hlen:(S.threads.set th ({ h with frames:=h.frames.dropLast++[{ f with at_:=W.at_,regs:=W.regs }] } : bW)).length=S.threads.length:=List.length_set
  rw[←hlen] at trow ⊢
  refine j5 trow (by rw[hlen];exact st.own.tlen) st.own.t5 (fun i r x hr hx=>?_)
  rcases bY hx with ⟨rfl,rfl⟩ | ⟨hi,hx'⟩
  ·rw[st.ht] at hr
   injection hr with hr
   have wf:=st.own.wft h (List.mem_of_getElem? st.hth)
   exact⟨tf,hr.symm,st.frames L h2 hz,wf.1,wf.2.1,wf.2.2.1,wf.2.2.2⟩
  ·obtain⟨g,hg,rs2,ts2,F⟩:=st.own.tpart i x hx'
   rw[hg] at hr
   injection hr with hr
   have wf:=st.own.wft x (List.mem_of_getElem? hx')
   have hio:=st.loO (i+1)
   have hq:∀b,lo i≤b→b<lo (i+1)→aeF w1 B0 B wb fb rv vv cv (hM rows) b:=fun b h1 h2=>by
    refine st.q_late (by omega) (by have:=st.colo (k:=i) (Nat.le_refl S.cells.length);omega) ?_
    rcases Nat.lt_or_gt_of_ne hi with hlt | hlt
    ·have:=dK st.own.tmono (show i+1≤th from hlt);left;omega
    ·have:=dK st.own.tmono (show th+1≤i from hlt);right;omega
   refine⟨g,hr.symm,wI (nF F.at_ st.below (fun b hb=>hq b (F.at_.row.lt b hb).1 (F.fb b hb)) (fun r hr b hb=>?_) (fun r hr b hb=>?_)) hk hlt,wf.1,wf.2.1,wf.2.2.1,wf.2.2.2⟩
   ·obtain⟨k,hk⟩:=List.getElem?_of_mem hr
    have hkl:=(lE hk).1
    have:=(F.at_.regs k r _ hk (lG (by rw[←F.at_.lr];exact hkl))).lt b hb
    exact hq b this.1 (F.rb r hr b hb)
   ·obtain⟨k,hk⟩:=List.getElem?_of_mem hr
    have hkl:=(lE hk).1
    have:=(F.at_.tries k r _ hk (lG (by rw[←F.at_.lt];exact hkl))).lt b hb
    exact hq b this.1 (F.tb r hr b hb)
end
end
end Go.Proofs.YtjaphgpkkfdaaaaGreatDoor
