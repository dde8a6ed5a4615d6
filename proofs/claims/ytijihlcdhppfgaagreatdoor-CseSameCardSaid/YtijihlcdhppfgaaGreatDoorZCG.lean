/- A part of the walk. -/
import Derived.Test.YtijihlcdhppfgaaGreatDoorZCF
import Derived.Test.YtijihlcdhppfgaaGreatDoorZCD
set_option maxHeartbeats 16000000
set_option maxRecDepth 100000
set_option linter.all false
namespace Go.Proofs.YtijihlcdhppfgaaGreatDoor
open Tryz
section
open Go.RowKit
def sV (t:aH) (tl:List Int) (w:World) (e:Ending) (w':World):Prop:=
 ∃cs,e=.returned (.tuple #[.agg ⟨cs⟩,.int .i64 (g9 t tl).2])/\bI w' w'.heap.size cs (g9 t tl).1/\Below w.heap.size w w'/\∀g new,g<w.heap.size->bI (w'.setRow g new) (w'.setRow g new).heap.size cs (g9 t tl).1
def jX (t:aH) (tl:List Int) (w:World) (e:Ending) (w':World):Prop:=
 ∃cs,e=.returned (.tuple #[.agg ⟨cs⟩,.int .i64 (g9 t tl).2])/\bI w' w'.heap.size cs (g9 t tl).1/\Below w.heap.size w w'/\∀w2:World,(∀k,w.heap.size<=k->k<w'.heap.size->w2.heap[k]? = w'.heap[k]?)->bI w2 w2.heap.size cs (g9 t tl).1
theorem jX.one {t:aH} {tl:List Int} {w:World} {e:Ending} {w':World} (h:jX t tl w e w'):sV t tl w e w':=by obtain⟨cs,a,b,c,d⟩:=h;exact⟨cs,a,b,c,λg new f=>d _ (λk j _=>setRow_other _ _ _ _ (by omega))⟩
def bY:List Value:=[.int .i64 0,.int .i64 0,.int .i64 0,.slice none 0 0,.slice none 0 0,.int .i64 0,.int .i64 0,.slice none 0 0,.slice none 0 0,.int .i64 0,.int .i64 0,.slice none 0 0,.slice none 0 0]
theorem fR (w:World) (B:Nat):bI w B bY mT:=by
 have z:wfi 0:=by unfold wfi;omega
 have d:fM w B [.int .i64 0,.int .i64 0,.slice none 0 0,.slice none 0 0] ajP:=⟨_,_,rfl,aB.nil _ _ _ _,aB.nil _ _ _ _,z,z⟩;exact⟨_,_,_,_,rfl,aB.nil _ _ _ _,aB.nil _ _ _ _,d,d,z,z,z⟩
theorem iG:(prog.info? 34).map (·.size)=some 13:=by kernel_rfl
theorem ajY (h:List Value) (t:aH) (v:Value) (tl:List Int) (w:World) (ht:bI w w.heap.size h t) (l:aB w w.heap.size 1 gB v tl) (d:tl.length≠t.ins.length) : Calls prog 24 #[.agg ⟨h⟩,v] w (jX t tl w):=by
 obtain⟨s,u,x,f⟩:=ht.at3;have q:=aM f;obtain⟨V,cV,rfl,p,g,-⟩:=l;unfold maxLen at g;have r:((tl.length:Int) != (t.ins.length:Int))=true:=by rw[bne_iff_ne];omega
 have j:Hid (g9 t tl=(mT,3)):=by unfold g9 Hid;rw[if_pos d]
 clear ht f d;go_enter func24,ntmps24;go_wp2_with fail;unfold jX;rw[j.o];refine bodyPost_ret (v:=.tuple #[.agg ⟨bY⟩,.int .i64 3]) (by simp[results,results24,go_sem,bY]) rfl ⟨_,rfl,fR _ _,?_,λ_ _=>fR _ _⟩;repeat (first | exact Below.refl _ _ | refine Below.drew ?_ | refine Below.setCell ?_ (by simp) _ | refine Below.alloc ?_ (by simp) _)
theorem cut_len (d:List Value) (t:aH) (v:Value) (tl:List Int) (w:World) (ht:bI w w.heap.size d t) (g:aB w w.heap.size 1 gB v tl) (f:tl.length≠t.ins.length) : Calls prog 24 #[.agg ⟨d⟩,v] w (sV t tl w):= (ajY d t v tl w ht g f).mono λ_ _ h=>h.one
end
section
def acK (x:bX):Prop:=x.sets.length<=1000/\x.makes.length<=1000/\∀m∈x.makes,m.vals.length<=1000
theorem yV {regs:Int} {ins:List aT} {at_:Int} : ∀(last:Int) (l:List oL),j5 regs ins at_ last l=true->l=[]\/last+l.length<regs
 | _,[],_=>.inl rfl
 | last,s::l,h=>by
  simp only[j5,Bool.and_eq_true,decide_eq_true_eq] at h
  right
  rcases yV s.reg l h.2 with e | e
  ·subst e;simp only[List.length_cons,List.length_nil];omega
  ·simp only[List.length_cons];omega
theorem wI {ins:List aT} {at_:Int} : ∀(last:Int) (l:List dX),fI ins at_ last l=true->l=[]\/last+l.length<ins.length
 | _,[],_=>.inl rfl
 | last,m::l,h=>by
  have d:=nB last (m::l) h m (by simp)
  simp only[fI,Bool.and_eq_true,decide_eq_true_eq] at h
  right
  rcases wI m.cell l h.2 with e | e
  ·subst e;simp only[List.length_cons,List.length_nil];omega
  ·simp only[List.length_cons];omega
theorem uM {ins:List aT} {at_:Int} : ∀(last:Int) (l:List dX),fI ins at_ last l=true->∀m∈l,m.vals.length<=100
 | _,[],_,_,hm=>by simp at hm
 | last,x::l,h,m,hm=>by
  simp only[fI,Bool.and_eq_true,decide_eq_true_eq] at h
  rcases List.mem_cons.1 hm with rfl | hm
  ·have d:=h.1.2
   simp only[mG,Bool.and_eq_true,decide_eq_true_eq] at d
   exact d.1.2
  ·exact uM _ l h.2 m hm
theorem nY {fn:FnM} {ins:List aT} {x:bX} {at_:Int} (f:fn.regs<=60) (hi:ins.length<=300) (h:bN fn ins x at_=true):acK x:=by
 simp only[bN,Bool.and_eq_true] at h;refine⟨?_,?_,λm d=>?_⟩
 ·rcases yV _ _ h.1.2 with e | e;·rw[e];simp
  ·omega
 ·rcases wI _ _ h.2 with e | e;·rw[e];simp
  ·omega
 ·have:=uM _ _ h.2 m d;omega
theorem acH {x:bX} (h:kV x=true):acK x:=by simp only[kV,Bool.and_eq_true,List.isEmpty_iff] at h;refine⟨by rw[h.1.2];simp,by rw[h.2];simp,λm d=>by rw[h.2] at d;simp at d⟩
theorem xF {p:aZ} (h:bH p=0):∀f∈p.fns,f.regs<=60:=by
 unfold bH at h;split at h;·cases h
 ·rename_i h1;exact λf hf=>((wJ (by simpa using h1)).2 f hf).2
structure aa1 (t:aH):Prop where
 ins:t.ins.length<=300
 exitsLen:t.exits.length<=200
 exits:∀x∈t.exits,acK x
 turn:acK t.turn
 back:acK t.back
theorem acC {p:aZ} {t:aH} {rv:Val->Bool} (h:cQ rv (bH p) (p.fns.map gI) t=0):aa1 t:=by
 have q:bH p=0:=by
  unfold cQ at h;split at h;·rename_i h1;exact(h1 h).elim
  ·rename_i h1;exact Classical.not_not.1 h1
 obtain⟨h1,r,fn,hf,_,hl,_,g,j,hb,s⟩:=fD h;have d:fn.regs<=60:=by have:=hf.2;rw[List.getElem?_map] at this;obtain⟨f,u,rfl⟩:=Option.map_eq_some_iff.1 this;exact xF q f (lM u)
 refine⟨h1,r,λx l=>nY d h1 (List.all_eq_true.1 s x l),?_,nY d h1 hb.2⟩;rcases Int.lt_or_le 0 t.loop with c | c;·exact nY d h1 (j c).2
 ·exact acH (g (by omega))
end
section
open Go.RowKit
theorem aeN {w:World} {B:Nat} {e:TypeId} {size n:Nat} {v:Value} {xs:List Value} (d:w.ownsRow B e size v n xs):∃A c,v=.slice A n c:=by
 rcases d.2 with ⟨e,f⟩ | ⟨g,h,_,e,_⟩;·subst f;exact⟨_,_,e⟩
 ·exact⟨_,_,e⟩
theorem wE {w w':World} {B C:Nat} {e g:TypeId} {size p n m:Nat} {v u:Value} {xs cs:List Value} (h:w.ownsRow B e size v n xs) (f:w.ownsRow C g p u m cs) (j:w.grownBy w' u.ownBlock) (ht:e≠g):w'.ownsRow B e size v n xs:=by
 cases hb:v.ownBlock with
 | none=>exact h.kept j (.inl hb)
 | some k=>
  refine h.kept j (.inr (λl=>?_))
  obtain⟨_,q,r,h1⟩:=hY h _ hb
  obtain⟨_,s,x,d⟩:=hY f _ (l.symm.trans hb)
  rw[h1] at d;injection d with d;injection d with _ d _;exact ht d
theorem agN (w:World) (o p q r:Obj):((((w.alloc o).alloc p).alloc q).alloc r).heap[w.heap.size+1+1+1]? = some r:=by show((((w.heap.push o).push p).push q).push r)[w.heap.size+1+1+1]? = _;rw[Array.getElem?_push,if_pos (by simp)]
theorem ak3 {w:World} {g:Nat} {cs:List Value} {t:TypeId} (h:w.heap[g]? = some (.cells ⟨cs⟩ t (0,0))):aJ w g cs:=λi v d=>by
 rw[cell_of_row w g i _ _ _ h];simpa using d
section
variable {W w6:World} {bc:Nat} {tv v':Value} {at_:List Int} {fine:Bool} {a:Int}
theorem xC (C:cK W bc tv at_ fine) (d:w6.ownsRow (bc+1) 3 1 v' (at_.length+1) (at_.map (.int .i64)++[.int .i64 a])) (h:W.grownBy w6 tv.ownBlock) (j : -1<=a/\a<=300) (hf:at_.length+1<=300) : cK (w6.setCell ⟨bc,0,none⟩ v') bc v' (at_++[a]) fine:=by
 have f:=cL C.own h C.here (by decide);refine⟨?_,?_,?_,?_⟩;·rw[heap_setCell_same w6 bc 0 _ _ _ f];rfl
 ·have g:=cY d f (by decide) 0 v';rw[List.map_append,List.length_append];exact g
 ·intro b hb;rcases List.mem_append.1 hb with hb | hb;·exact C.bd b hb
  ·simp at hb;subst hb;exact j
 ·rw[List.length_append];exact hf
theorem iX (C:cK W bc tv at_ fine) (d:W.grownBy w6 tv.ownBlock) {k:Nat} {cs:Array Value} {t:TypeId} (h:W.heap[k]? = some (.cells cs t (0,0))) (ht:t≠3) (f:k≠bc):(w6.setCell ⟨bc,0,none⟩ v').heap[k]? = some (.cells cs t (0,0)):=by rw[heap_setCell_other w6 _ _ _ (by show k≠bc;exact f)];exact cL C.own d h ht
theorem wD (C:cK W bc tv at_ fine) (d:W.grownBy w6 tv.ownBlock) {B:Nat} {e:TypeId} {size n:Nat} {u:Value} {xs:List Value} (h:W.ownsRow B e size u n xs) (h1:e≠3) (f:119≠e):(w6.setCell ⟨bc,0,none⟩ v').ownsRow B e size u n xs:= cY (wE h C.own d h1) (cL C.own d C.here (by decide)) f _ _
theorem rG (C:cK W bc tv at_ fine) (d:W.grownBy w6 tv.ownBlock) {B:Nat} (hB:B<=bc) (f:B<=W.heap.size):Below B W (w6.setCell ⟨bc,0,none⟩ v'):= ak2 (kE (B':=B) C.own d (by omega) f) hB _ _
end
theorem insC_wf {at_:List Int} (h:∀a∈at_,-1<=a/\a<=300) {x:aT} (l:kX x):kX (oE at_ x):=by
 obtain⟨d,f,hb,g,j⟩:=l;have b:∀v,wfi (bO at_ v):=λv=>by have:=aaF h v;unfold wfi;omega
 refine⟨d,?_,?_,?_,j⟩
 ·unfold oE iA;dsimp only;split;·exact b _
  ·exact f
 ·unfold oE iA;dsimp only;split;·exact b _
  ·exact hb
 ·unfold oE iA;dsimp only;split;·exact b _
  ·exact g
theorem cK.grow_ {W f:World} {bc:Nat} {g:Value} {at_:List Int} {fine:Bool} (C:cK W bc g at_ fine) {B:Nat} {e:TypeId} {size n:Nat} {u:Value} {xs:List Value} (d:W.ownsRow B e size u n xs) (h:W.grownBy f u.ownBlock) (h1:119≠e) (j:3≠e):cK f bc g at_ fine:= ⟨cL d h C.here h1,wE C.own d h j,C.bd,C.few⟩
theorem cK.set_far {W:World} {bc:Nat} {d:Value} {at_:List Int} {fine:Bool} (C:cK W bc d at_ fine) {g:Nat} {cs:Array Value} {t:TypeId} {f:Nat×Nat} (h:W.heap[g]? = some (.cells cs t f)) (h1:bc≠g) (j:t≠3) (i:Nat) (u:Value):cK (W.setCell ⟨g,i,none⟩ u) bc d at_ fine:= ⟨by rw[heap_setCell_other W _ _ _ (by show bc≠g;exact h1)];exact C.here,cY C.own h j _ _,C.bd,C.few⟩
section
variable {w w1:World} {B:Nat} {cs:List Value} {x:bX}
theorem cR.grow {C:Nat} {e:TypeId} {l n:Nat} {u:Value} {cells:List Value} (h:cR w B cs x) (d:w.ownsRow C e l u n cells) (f:w.grownBy w1 u.ownBlock) (h1:124≠e) (p:127≠e) (q:3≠e):cR w1 B cs x:=by obtain⟨s,m,rfl,g,j,wx⟩:=h;exact⟨s,m,rfl,g.grow d f h1,(j.grow d f p).keep (λ_ _ _ _ _=>rfl) (λ_ _ h=>h.grow d f q),wx⟩
theorem cR.set_ {g:Nat} {c:Array Value} {t:TypeId} {l:Nat×Nat} (h:cR w B cs x) (d:w.heap[g]? = some (.cells c t l)) (h1:t≠124) (p:t≠127) (q:t≠3) (i:Nat) (u:Value):cR (w.setCell ⟨g,i,none⟩ u) B cs x:=by obtain⟨s,m,rfl,f,j,wx⟩:=h;exact⟨s,m,rfl,f.set_ d h1 i u,(j.set_ d p i u).keep (λ_ _ _ _ _=>rfl) (λ_ _ h=>h.set_ d q i u),wx⟩
theorem cR.below (h:cR w B cs x) (k:Below w.heap.size w w1):cR w1 B cs x:=by obtain⟨s,m,rfl,d,f,wx⟩:=h;exact⟨s,m,rfl,d.below k,(f.below k).keep (λ_ _ _ _ _=>rfl) (λ_ _ h=>h.below k),wx⟩
theorem cR.fin {bc:Nat} (h:cR w B cs x) (k:aV bc w w1) (hB:bc<B):cR w1 B cs x:=by obtain⟨s,m,rfl,d,f,wx⟩:=h;exact⟨s,m,rfl,k.ty d hB,(k.ty f hB).keep (λ_ _ _ _ _=>rfl) (λ_ _ h=>h.fin k hB),wx⟩
theorem cR.more {B':Nat} (h:cR w B cs x) (hB:B'<=B):cR w B' cs x:=by obtain⟨s,m,rfl,d,f,wx⟩:=h;exact⟨s,m,rfl,d.more hB,(f.more hB).keep (λ_ _ _ _ _=>rfl) (λ_ _ h=>h.more hB),wx⟩
theorem cR.set_row {g:Nat} {c:Array Value} {t:TypeId} {l:Nat×Nat} (h:cR w B cs x) (d:w.heap[g]? = some (.cells c t l)) (h1:t≠124) (p:t≠127) (q:t≠3) (new:Array Value):cR (w.setRow g new) B cs x:=by obtain⟨s,m,rfl,f,j,wx⟩:=h;exact⟨s,m,rfl,f.set_row d h1 new,(j.set_row d p new).keep (λ_ _ _ _ _=>rfl) (λ_ _ h=>h.set_row d q new),wx⟩
theorem cR.len (h:cR w B cs x):cs.length=4:=by obtain⟨s,m,rfl,_⟩:=h;rfl
theorem cR.ones (h:cR w B cs x):∀u∈cs,u.oneCell'=true:=by obtain⟨s,m,rfl,⟨_,_,rfl,_⟩,⟨_,_,rfl,_⟩,_⟩:=h;intro u d;simp at d;rcases d with rfl | rfl | rfl | rfl <;> rfl
end
theorem iI {P:Program} {ops:Array Oper} {rest:List Oper} {o:Oper} {a:Act} {w:World} {Q:Act->Prop} {bc:Nat} (ty:TypeId) (x:Operand) (l:o.op=.load ty x)
  (g:Region.wanted o (yielded ops a.tmps)=true)
  (b f:Nat) (p:a.eval x=.pointer (some ⟨b,f,none⟩)) (cs:List Value) (d:TypeDesc) (q:∀E:jW bc w,E.wd.rangeAt b f cs)
  (r:P.underlying ty=some d) (s:d.isRow=true) (hi:(P.info? ty).map (·.size)=some cs.length)
  (h:wpQuiet P ops (λw'=>∃E:jW bc w,w'=E.wd) Q rest (a.put o.dst (.agg cs.toArray))):wpQuiet P ops (λw'=>∃E:jW bc w,w'=E.wd) Q (o::rest) a:=
 wpQuiet_step λK j=>by
  rw[if_pos g]
  refine⟨.agg cs.toArray,λw' ⟨E,e⟩=>?_,j _ h⟩
  subst e
  unfold Oper.quietAt execOp
  simp only[l,p,Instr.loadAt,Instr.sureAddr,Sem.run_bind,Sem.run_pure,Result.andThen_ok,run_loadVar_mid E.wd b f ty cs d (q E) r s hi]
  exact⟨rfl,rfl⟩
theorem infoEx:(prog.info? 32).map (λi=>(i.zero,i.size,i.bytes))=some (some (.agg #[.int .i64 0,.int .i64 0,.slice none 0 0,.slice none 0 0]),4,64):=by kernel_rfl
theorem ajE:(prog.info? 53).map (λi=>(i.zero,i.size,i.bytes))=some (some (.agg #[.int .i64 0,.int .i64 0,.int .i64 0,.int .i64 0,.int .i64 0,.int .i64 0,.int .i64 0,.int .i64 0]),8,64):=by kernel_rfl
theorem ai9 (x:aT):∀u∈bA x,u.oneCell'=true:=by intro u d;simp[bA] at d;rcases d with rfl | rfl | rfl | rfl | rfl | rfl | rfl | rfl <;> rfl
def tB (cs:Array Value):Nat->List Value->Array Value
 | _,[]=>cs
 | o,v::r=>tB (cs.setIfInBounds o v) (o+1) r
theorem o5:∀(vs:List Value) (cs:Array Value) (o:Nat),(tB cs o vs).size=cs.size
 | [],_,_=>rfl
 | v::r,cs,o=>by rw[tB,o5 r];simp
theorem jR {g:Nat} {t:TypeId} : ∀(vs:List Value) (o:Nat) (w:World) (cs:Array Value),w.heap[g]? = some (.cells cs t (0,0))->(w.setCells g o vs).heap[g]? = some (.cells (tB cs o vs) t (0,0))
 | [],_,_,_,h=>h
 | v::r,o,w,cs,h=>by
  rw[World.setCells,tB]
  refine jR r (o+1) _ _ ?_
  rw[heap_setCell_same w g o _ _ _ h]
theorem nW {g:Nat} {t:TypeId} (Φ : World->Prop) (d : ∀(w:World) (cs:Array Value) (i:Nat) (u:Value),w.heap[g]? = some (.cells cs t (0,0))->Φ w->Φ (w.setCell ⟨g,i,none⟩ u)) :
  ∀(vs:List Value) (o:Nat) (w:World) (cs:Array Value),w.heap[g]? = some (.cells cs t (0,0))->Φ w->Φ (w.setCells g o vs)
 | [],_,_,_,_,h=>h
 | v::r,o,w,cs,hg,h=>by
  rw[World.setCells]
  exact nW Φ d r (o+1) _ _ (heap_setCell_same w g o _ _ _ hg) (d w cs o v hg h)
theorem bI.at59 {w:World} {B:Nat} {cs:List Value} {t:aH} (h:bI w B cs t):∃d cb,(∀i v,d[i]? = some v->cs[5+i]? = some v)/\(∀i v,cb[i]? = some v->cs[9+i]? = some v)/\fM w B d t.turn/\fM w B cb t.back:=by
 obtain⟨i,e,d,cb,rfl,-,-,ht,hb,-⟩:=h;have l1:d.length=4:=by obtain⟨_,_,rfl,-⟩:=ht;rfl
 refine⟨d,cb,λi v f=>?_,λi v f=>?_,ht,hb⟩;·have hi:=(lE f).1;rw[List.append_assoc,List.getElem?_append_right (by simp),show 5+i - ([.int .i64 t.fn,.int .i64 t.at_,.int .i64 t.loop,_,_]:List Value).length=i by simp,List.getElem?_append_left (by omega)];exact f
 ·rw[List.getElem?_append_right (by simp;omega)];simp only[List.length_append,List.length_cons,List.length_nil,l1];rw[show 9+i - (0+1+1+1+1+1+4)=i by omega];exact f
theorem rY {w:World} {g:Nat} {cs:Array Value} {t:TypeId} {o n:Nat} (h:w.heap[g]? = some (.cells cs t (0,0))) (f:o+n<=cs.size):w.there g o n:=λj d=>by
 refine⟨?_,frozen_of_row w g (o+j) _ _ h⟩
 rw[cell_of_row w g (o+j) _ _ _ h,Array.getElem?_eq_getElem (by omega)]
 rfl
structure sU (w:World) (tv:Value) (S:mX) (t:aH) (lp:Int) (A1:Option Addr) (c1:Nat) (A5:Option Addr) (n5:Nat) (l1 l2:List Value) (z1 z2:bX) (W:World):Prop where
 row:W.heap[w.heap.size+1+1+1]? = some (.cells ⟨[.int .i64 t.fn,.int .i64 t.at_,.int .i64 lp,.slice A1 S.ins.length c1,.slice A5 t.exits.length n5]++l1++l2⟩ 34 (0,0))
 cut:cK W (w.heap.size+1+1) tv S.at_ (S.fine && t.exits.all (dF S.at_) && dF S.at_ t.turn && dF S.at_ t.back)
 zero:W.heap[w.heap.size+1]? = some (.cells ⟨bY⟩ 34 (0,0))
 ins:W.ownsRow (w.heap.size+1+1+1) 53 8 (.slice A1 S.ins.length c1) S.ins.length (S.ins.flatMap bA)
 exits:aW W (w.heap.size+1+1+1) 32 4 (cR W (w.heap.size+1+1+1)) (.slice A5 t.exits.length n5) (t.exits.map (dM S.at_))
 turn:cR W (w.heap.size+1+1+1) l1 z1
 back:cR W (w.heap.size+1+1+1) l2 z2
 below:Below w.heap.size w W
theorem sU.make {w W:World} {D:Value} {S:mX} {t:aH} {H:Int} {j:Option Addr} {l:Nat} {p:Option Addr} {q:Nat} {l1 f:List Value} {E F:bX} (row:W.heap[w.heap.size+1+1+1]? = some (.cells #[.int .i64 t.fn,.int .i64 t.at_,.int .i64 H,.slice j S.ins.length l,.slice p t.exits.length q,.int .i64 0,.int .i64 0,.slice none 0 0,.slice none 0 0,.int .i64 0,.int .i64 0,.slice none 0 0,.slice none 0 0] 34 (0,0))) (cut:cK W (w.heap.size+1+1) D S.at_ (S.fine && t.exits.all (dF S.at_) && dF S.at_ t.turn && dF S.at_ t.back)) (zero:W.heap[w.heap.size+1]? = some (.cells ⟨bY⟩ 34 (0,0))) (ins:W.ownsRow (w.heap.size+1+1+1) 53 8 (.slice j S.ins.length l) S.ins.length (S.ins.flatMap bA)) (exits:aW W (w.heap.size+1+1+1) 32 4 (cR W (w.heap.size+1+1+1)) (.slice p t.exits.length q) (t.exits.map (dM S.at_))) (turn:cR W (w.heap.size+1+1+1) l1 E) (back:cR W (w.heap.size+1+1+1) f F) (below:Below w.heap.size w W) : sU w D S t H j l p q l1 f E F ((W.setCells (w.heap.size+1+1+1) 5 l1).setCells (w.heap.size+1+1+1) 9 f):=by
 have G:=jR l1 5 W _ row;have I:=jR f 9 _ _ G;let Φ : World->Prop:=λW=>cK W (w.heap.size+1+1) D S.at_ (S.fine && t.exits.all (dF S.at_) && dF S.at_ t.turn && dF S.at_ t.back)/\W.heap[w.heap.size+1]? = some (.cells ⟨bY⟩ 34 (0,0))/\ W.ownsRow (w.heap.size+1+1+1) 53 8 (.slice j S.ins.length l) S.ins.length (S.ins.flatMap bA)/\aW W (w.heap.size+1+1+1) 32 4 (cR W (w.heap.size+1+1+1)) (.slice p t.exits.length q) (t.exits.map (dM S.at_))/\ cR W (w.heap.size+1+1+1) l1 E/\cR W (w.heap.size+1+1+1) f F/\Below w.heap.size w W;have r : ∀(W:World) (cs:Array Value) (i:Nat) (u:Value),W.heap[w.heap.size+1+1+1]? = some (.cells cs 34 (0,0))->Φ W->Φ (W.setCell ⟨w.heap.size+1+1+1,i,none⟩ u):=λW cs i u g ⟨h1,s,v,x,y,z,A⟩=> ⟨h1.set_far g (by omega) (by decide) _ _,by rw[heap_setCell_other W _ _ _ (by show _≠w.heap.size+1+1+1;omega)];exact s,cY v g (by decide) _ _,(x.set_ g (by decide) i u).keep (λ_ _ _ _ _=>rfl) (λ_ _ h=>h.set_ g (by decide) (by decide) (by decide) i u),y.set_ g (by decide) (by decide) (by decide) _ _,z.set_ g (by decide) (by decide) (by decide) _ _,ak2 A (by omega) _ _⟩;have hb : Φ W:=⟨cut,zero,ins,exits,turn,back,below⟩;have J : Φ ((W.setCells (w.heap.size+1+1+1) 5 l1).setCells (w.heap.size+1+1+1) 9 f):=by clear_value Φ;have h1:=nW Φ r l1 5 W _ row hb;exact nW Φ r f 9 _ _ G h1
 obtain⟨h1,s,v,x,y,z,A⟩:=J;refine⟨?_,h1,s,v,x,y,z,A⟩;rw[I];obtain⟨a,b,rfl,-⟩:=turn;obtain⟨c,d,rfl,-⟩:=back;simp[tB]
theorem fZ.above {w w1:World} {B:Nat} {cs:List Value} {m:dX} (h:fZ w B cs m) (j:∀k,B<=k->k<w.heap.size->w1.heap[k]? = w.heap[k]?):fZ w1 B cs m:=by obtain⟨v,h1,d,f⟩:=h;exact⟨v,h1,d.keep (λk _ _ hb g=>j k hb (aE g).1) (λ_ _ h=>h),f⟩
theorem cR.above {w w1:World} {B:Nat} {cs:List Value} {x:bX} (h:cR w B cs x) (f:∀k,B<=k->k<w.heap.size->w1.heap[k]? = w.heap[k]?):cR w1 B cs x:=by obtain⟨s,m,rfl,g,j,wx⟩:=h;exact⟨s,m,rfl,g.keep (λk _ _ hb d=>f k hb (aE d).1) (λ_ _ h=>h),j.keep (λk _ _ hb d=>f k hb (aE d).1) (λ_ _ h=>h.above f),wx⟩
theorem sU.trace {w W:World} {I:Value} {S:mX} {t:aH} {j:Int} {p:Option Addr} {q:Nat} {s:Option Addr} {u:Nat} {l1 r:List Value} {v y:bX} (h:sU w I S t j p q s u l1 r v y W) (J:∀x∈S.ins,kX x) (h1:dM S.at_ t.turn=v) (K:dM S.at_ t.back=y) (hl:(bK t S).loop=j) (wf:wfi t.fn/\wfi t.at_/\wfi j) {d:World} (g:∀k,w.heap.size+1+1+1<=k->k<W.heap.size->d.heap[k]? = W.heap[k]?) : bI d d.heap.size ([.int .i64 t.fn,.int .i64 t.at_,.int .i64 j,.slice p S.ins.length q,.slice s t.exits.length u]++l1++r) (bK t S):=by
 have z:aW W (w.heap.size+1+1+1) 53 8 xP (.slice p S.ins.length q) S.ins:=gM (f:=bA) (by decide) (λ_ _=>rfl) (λx H=>⟨rfl,J x H⟩) h.ins;have A:=(z.keep (w':=d) (λk _ _ hb l=>g k hb (aE l).1) (λ_ _ h=>h)).slice;have D:=(h.exits.keep (w':=d) (R':=cR d (w.heap.size+1+1+1)) (λk _ _ hb l=>g k hb (aE l).1) (λ_ _ h=>h.above g)).slice;have E:=D.keep (Nat.le_refl _) (λ_ _=>rfl) (λ_ _ h=>cR.exit h);have F:=(h.turn.above g).exit;have G:=(h.back.above g).exit;refine⟨_,_,l1,r,by rw[hl];rfl,A,E,?_,?_,wf.1,wf.2.1,by rw[hl];exact wf.2.2⟩;·show fM _ _ _ (dM S.at_ t.turn);rw[h1];exact F
 ·show fM _ _ _ (dM S.at_ t.back);rw[K];exact G
end
section
open Go.RowKit Go.Maps
def kT (k:Key):Value:=.agg #[.int .i64 k.op,.int .i64 k.n,.int .i64 k.a,.int .i64 k.b,.bool k.ahead,.int .i64 k.k.kind,.int .i64 k.k.n]
def key0:Key:=⟨0,0,0,0,false,⟨0,0⟩⟩
def qV (k:Key):Prop:=wfi k.op/\wfi k.n/\wfi k.a/\wfi k.b/\wfi k.k.kind/\wfi k.k.n
theorem keyM_wf {x:aT} {w:Bool} {k:Key} (y:kX x) (h:eV x w=some k):qV k:=by
 obtain⟨A,l,hb,D,d,E,v,p⟩:=y;have z:wfi 0:=by unfold wfi;omega
 have q:wfi 1:=by unfold wfi;omega
 have r:wfi 2:=by unfold wfi;omega
 have s:wfi 3:=by unfold wfi;omega
 have j:wfi 7:=by unfold wfi;omega
 have u:wfi 8:=by unfold wfi;omega
 have f:wfi (min x.a x.b):=by unfold wfi at *;omega
 have g:wfi (max x.a x.b):=by unfold wfi at *;omega
 unfold eV at h;repeat (split at h;· injection h with h;subst h;first | exact⟨r,z,z,z,v,p⟩ | exact⟨s,z,z,z,z,z⟩ | exact⟨q,d,z,z,z,z⟩ | exact⟨u,d,l,z,z,z⟩ | (split <;> first | exact⟨j,d,f,g,z,z⟩ | exact⟨j,d,l,hb,z,z⟩))
 cases h
theorem ai0 {k q:Key} (h:kT k=kT q):k=q:=by obtain⟨a,b,c,d,e,⟨f,g⟩⟩:=k;obtain⟨j,b',c',l,p,⟨f',r⟩⟩:=q;unfold kT at h;simp only[Value.agg.injEq,Array.mk.injEq,List.cons.injEq,Value.int.injEq,Value.bool.injEq,true_and,and_true] at h;obtain⟨rfl,rfl,rfl,rfl,rfl,rfl,rfl⟩:=h;rfl
theorem keyLaid:laidOutB prog=true:=by kernel_rfl
theorem keyRow:(60:TypeId)<prog.types.size:=of_decide_eq_true (by kernel_rfl)
theorem keyWide:(match prog.underlying 60 with | some (.array _ _) | some (.struct _)=>true | _=>false)=true:=by kernel_rfl
theorem qA:Keyed prog 60:=Keyed.of_law (deep_law_laid keyLaid (m:=3) (by omega) keyRow (by kernel_rfl) keyWide)
theorem ai8 {n:Int} (h:wfi n):(Lit.int .i64 n).wf=true:=by unfold wfi at h;simp[Lit.wf,IntKind.min,IntKind.max,IntKind.signed,IntKind.bits];omega
theorem tM (d:Nat) {n:Int} (h:wfi n):prog.keyLits (d+1) 3 [.int .i64 n]=some [.int .i64 n]:=by unfold Program.keyLits;simp[underlying3,ai8 h]
theorem kl_bool (d:Nat) (b:Bool):prog.keyLits (d+1) 4 [.bool b]=some [.bool b]:=by unfold Program.keyLits;simp[underlying4]
theorem pH {P : Program} {d : Nat} {t : TypeId} {g : Array Field} {cs : List Value} (h : P.underlying t = some (.struct g)) (j : cs.length = P.cellsOf t) (l : g.all (·.name != "_") = true) : P.keyLits (d+1) t cs=(g.toList.mapM fun f=>P.keyLits d f.type ((cs.drop f.offset).take (P.cellsOf f.type))).map List.flatten:=by
 conv=>lhs;unfold Program.keyLits
 split;all_goals (first | (rename_i e;rw[h] at e;cases e;done) | (rename_i e _;rw[h] at e;cases e;done) | skip)
 ·rename_i p q e;rw[h] at e;injection e with e
  injection e with e
  subst e;rw[if_pos ⟨j,l⟩]
 ·simp_all
theorem cK1:prog.cellsOf 3=1:=by kernel_rfl
theorem cK2:prog.cellsOf 4=1:=by kernel_rfl
theorem cK3:prog.cellsOf 51=2:=by kernel_rfl
theorem cK4:prog.cellsOf 60=7:=by kernel_rfl
theorem kl_val (d:Nat) {a b:Int} (f:wfi a) (hb:wfi b):prog.keyLits (d+1+1) 51 [.int .i64 a,.int .i64 b]=some [.int .i64 a,.int .i64 b]:=by rw[pH underlying51 (by rw[cK3];rfl) (by simp)];simp[cK1,tM d f,tM d hb]
theorem agJ {k:Key} (h:qV k):∃l,keyOf prog 60 (kT k)=some l:=by
 obtain⟨p,h1,q,r,s,u⟩:=h;have f:prog.keyType 60=true:=by kernel_rfl
 have g:(kT k).formed prog 60=true:=by unfold kT;simp[Value.formed,underlying60,cK4]
 obtain⟨d,v⟩:∃d,prog.types.size+1=d+1+1+1:=⟨prog.types.size - 2,by have:2<=prog.types.size:=of_decide_eq_true (by kernel_rfl);omega⟩;have j:∃L,prog.keyLits (d+1+1+1) 60 (kT k).cells.toList=some L:=by unfold kT;rw[pH underlying60 (by rw[cK4];rfl) (by simp)];simp[cK1,cK2,cK3,Value.cells,tM (d+1) p,tM (d+1) h1,tM (d+1) q,tM (d+1) r,kl_bool (d+1) k.ahead,kl_val d s u]
 obtain⟨L,w⟩:=j;refine⟨.string (keyBytes L),?_⟩;unfold keyOf;rw[underlying60];simp only[];rw[f,g,v,w];rfl
noncomputable def x8 (k:Key):Lit:=(keyOf prog 60 (kT k)).getD (.int .i64 0)
theorem nC {k:Key} (h:qV k):keyOf prog 60 (kT k)=some (x8 k):=by obtain⟨l,hl⟩:=agJ h;unfold x8;rw[hl];rfl
theorem aiU {k q:Key} (d:qV k) (f:qV q) (h:x8 k=x8 q):k=q:= ai0 (qA.inj (nC d) (by rw[h];exact nC f))
noncomputable def nX:List (Key×Int)->DataW Unit
 | []=>.map []
 | (k,i)::l=>(nX l).put (x8 k) (.lit (.int .i64 i))
theorem rC:∀l:List (Key×Int),IsMap (nX l)
 | []=>isMap_empty
 | (k,i)::l=>(rC l).put _ _
theorem uI {k:Key} (r:qV k):∀l:List (Key×Int),(∀p∈l,qV p.1)->
  (gZ k l=none->Maps.has (nX l) (x8 k)=false)/\∀i,gZ k l=some i->Maps.has (nX l) (x8 k)=true/\∀z,(nX l).atKey (x8 k) z=.lit (.int .i64 i)
 | [],_=>⟨λ_=>rfl,λi h=>by cases h⟩
 | (q,i)::l,hl=>by
  have g:=uI r l (λp s=>hl p (by simp[s]))
  have f:qV q:=hl (q,i) (by simp)
  unfold gZ nX
  by_cases c:q=k
  ·subst c
   rw[if_pos rfl]
   refine⟨λh=>(by cases h),λj h=>?_⟩
   injection h with h
   subst h
   exact⟨has_put_same (rC l) (qA.key (nC f)) _,λz=>atKey_put_same (rC l) (qA.key (nC f)) _ _⟩
  ·rw[if_neg c]
   have d:x8 k≠x8 q:=λe=>c (aiU r f e).symm
   refine⟨λh=>by rw[has_put_other d];exact g.1 h,λj h=>?_⟩
   obtain⟨a,b⟩:=g.2 j h
   exact⟨by rw[has_put_other d];exact a,λz=>by rw[atKey_put_other d];exact b z⟩
theorem wP:(prog.info? 60).map (·.size)=some 7:=by kernel_rfl
theorem cseOf_c (x:aT) (F:Bool) (w:World) (hx:kX x):Calls prog 23 #[yA x,.bool F] w (λe w'=>e=.returned (.tuple #[kT ((eV x F).getD key0),.bool (eV x F).isSome])/\Below w.heap.size w w'):=by
 obtain⟨op,j,l,N,f,O,⟨H,I⟩⟩:=x;obtain⟨r,g⟩:∃r,eV ⟨op,j,l,N,f,O,⟨H,I⟩⟩ F=r:=⟨_,rfl⟩;rw[g];unfold eV at g;dsimp only at g;unfold yA;dsimp only;clear hx;by_cases P:op=2;·subst P;rw[if_pos rfl] at g;subst g;go_enter func23,ntmps23;go_wp2_with fail;refine bodyPost_ret (v:=.tuple #[kT ⟨2,0,0,0,false,⟨H,I⟩⟩,.bool true]) (by simp[results,results23,go_sem,kT]) rfl ⟨rfl,?_⟩;repeat (first | exact Below.refl _ _ | refine Below.drew ?_ | refine Below.setCell ?_ (by simp <;> omega) _ | refine Below.alloc ?_ (by simp <;> omega) _)
 rw[if_neg P] at g;by_cases R:op=3;·subst R;rw[if_pos rfl] at g;subst g;go_enter func23,ntmps23;go_wp2_with fail;refine bodyPost_ret (v:=.tuple #[kT ⟨3,0,0,0,false,⟨0,0⟩⟩,.bool true]) (by simp[results,results23,go_sem,kT]) rfl ⟨rfl,?_⟩;repeat (first | exact Below.refl _ _ | refine Below.drew ?_ | refine Below.setCell ?_ (by simp <;> omega) _ | refine Below.alloc ?_ (by simp <;> omega) _)
 rw[if_neg R] at g;by_cases S:op=1;·subst S;rw[if_pos rfl] at g;subst g;go_enter func23,ntmps23;go_wp2_with fail;refine bodyPost_ret (v:=.tuple #[kT ⟨1,f,0,0,F,⟨0,0⟩⟩,.bool true]) (by simp[results,results23,go_sem,kT]) rfl ⟨rfl,?_⟩;repeat (first | exact Below.refl _ _ | refine Below.drew ?_ | refine Below.setCell ?_ (by simp <;> omega) _ | refine Below.alloc ?_ (by simp <;> omega) _)
 rw[if_neg S] at g;by_cases V:op=8;·subst V;rw[if_pos rfl] at g;subst g;go_enter func23,ntmps23;go_wp2_with fail;refine bodyPost_ret (v:=.tuple #[kT ⟨8,f,j,0,false,⟨0,0⟩⟩,.bool true]) (by simp[results,results23,go_sem,kT]) rfl ⟨rfl,?_⟩;repeat (first | exact Below.refl _ _ | refine Below.drew ?_ | refine Below.setCell ?_ (by simp <;> omega) _ | refine Below.alloc ?_ (by simp <;> omega) _)
 rw[if_neg V] at g;by_cases X:op=7;case neg=>rw[if_neg X] at g;have b2:(op == 2)=false:=bF P;have b3:(op == 3)=false:=bF R;have b1:(op == 1)=false:=bF S;have b8:(op == 8)=false:=bF V;have b7:(op == 7)=false:=bF X;subst g;go_enter func23,ntmps23;go_wp2_with fail;refine bodyPost_ret (v:=.tuple #[kT key0,.bool false]) (by simp[results,results23,go_sem,kT,key0]) rfl ⟨rfl,?_⟩;repeat (first | exact Below.refl _ _ | refine Below.drew ?_ | refine Below.setCell ?_ (by simp <;> omega) _ | refine Below.alloc ?_ (by simp <;> omega) _)
 subst X;rw[if_pos rfl] at g;by_cases d:f=3\/f=5\/f=8;case neg=>rw[if_neg d] at g;have b3:(f == 3)=false:=bF (by omega);have b5:(f == 5)=false:=bF (by omega);have b8:(f == 8)=false:=bF (by omega);subst g;go_enter func23,ntmps23;go_wp2_with fail;refine bodyPost_ret (v:=.tuple #[kT ⟨7,f,j,l,false,⟨0,0⟩⟩,.bool true]) (by simp[results,results23,go_sem,kT]) rfl ⟨rfl,?_⟩;repeat (first | exact Below.refl _ _ | refine Below.drew ?_ | refine Below.setCell ?_ (by simp <;> omega) _ | refine Below.alloc ?_ (by simp <;> omega) _)
 rw[if_pos d] at g;obtain⟨w1,q⟩:∃w1,w1=((w.alloc (.cells #[.int .i64 7,.int .i64 j,.int .i64 l,.int .i64 N,.int .i64 f,.int .i64 O,.int .i64 H,.int .i64 I] 53)).alloc (.cells #[.int .i64 0,.int .i64 0,.int .i64 0,.int .i64 0,.bool false,.int .i64 0,.int .i64 0] 60)).alloc (.cells #[.int .i64 7,.int .i64 f,.int .i64 j,.int .i64 l,.bool false,.int .i64 0,.int .i64 0] 60):=⟨_,rfl⟩;have K1:Hid (Below w.heap.size w w1):=by rw[q];exact(bV w _ _).alloc (by simp;omega) _
 have D0:Hid (w1.heap[w.heap.size]? = some (.cells #[.int .i64 7,.int .i64 j,.int .i64 l,.int .i64 N,.int .i64 f,.int .i64 O,.int .i64 H,.int .i64 I] 53 (0,0))):=by rw[q];exact a8 (a8 (aS w _) _) _
 have D1:Hid (w1.heap[w.heap.size+1]? = some (.cells #[.int .i64 0,.int .i64 0,.int .i64 0,.int .i64 0,.bool false,.int .i64 0,.int .i64 0] 60 (0,0))):=by rw[q];exact a8 (iZ _ _ _) _
 have A:Hid (w1.heap[w.heap.size+1+1]? = some (.cells #[.int .i64 7,.int .i64 f,.int .i64 j,.int .i64 l,.bool false,.int .i64 0,.int .i64 0] 60 (0,0))):=by rw[q];exact oG _ _ _ _
 have g0:w.heap.size+1+1<w1.heap.size:=(aE A.o).1;have HW:=hI q;have HR:=hI g;clear q g;obtain⟨x0,x1,x2,x3,x4,x5,x6,x7⟩:=qB D0.o;have e1:∀E:jW (w.heap.size+1+1) w1,E.wd.cell? ⟨w.heap.size,1,none⟩=some (.int .i64 j):=λE=>E.cell x1 (by show w.heap.size≠w.heap.size+1+1;omega);have e2:∀E:jW (w.heap.size+1+1) w1,E.wd.cell? ⟨w.heap.size,2,none⟩=some (.int .i64 l):=λE=>E.cell x2 (by show w.heap.size≠w.heap.size+1+1;omega);have f2:=fzZ A 2;clear x0 x1 x2 x3 x5 x6 x7;go_enter func23,ntmps23;go_upto_region 12 with fail;rw[<-HW.o];have dn:((f == 3) || (f == 5) || (f == 8))=true:=by rcases d with h | h | h <;> subst h <;> rfl
 go_cut [61] (λc wx=>c=.bool true/\wx=w1)
 case first=>
  rcases d with h | h | h;·subst h;go_wp2_with fail;go_meet;·exact⟨rfl,rfl⟩
  ·subst h;go_wp2_with fail;go_meet;·exact⟨rfl,rfl⟩
  ·subst h;go_wp2_with fail;go_meet;·exact⟨rfl,rfl⟩
 case rest=>
  obtain⟨p,a2⟩:∃p,p=wc:=⟨_,rfl⟩
  subst a2
  obtain⟨rfl,rfl⟩:=hcut
  go_upto_region 13 with fail
  refine gL (λw'=>∃E:jW (w.heap.size+1+1) p,w'=E.wd) [0,1,2,3,4,5,6,7,8,9,10] [11,12,13] [11] (by kernel_rfl) (by kernel_rfl) (λ_ _ d _ _ h=>by cases d <;> exact h) ⟨⟨_,(aV.refl _ p).drew⟩,rfl⟩ ?_
  simp only[List.filterMap_cons,List.filterMap_nil,List.getElem?_toArray,List.getElem?_cons_zero,List.getElem?_cons_succ]
  generalize L:(λa'=>gT _ _ _ _ _ _ a' _)=qq
  have J:=hI L
  clear L
  show wpQuiet _ _ _ _ [_,_,_,_,_,_,_,_,_,_,_] _
  repeat (go_big_quiet_step (fail))
  refine wpQuiet_nil ?_
  rw[<-J.o]
  clear J qq e1 e2
  have g2:p.drew.cell? ⟨w.heap.size+1+1,2,none⟩=some (.int .i64 j):=cell_of_row p.drew (w.heap.size+1+1) 2 _ _ _ A.o
  have h2:p.drew.frozen? ⟨w.heap.size+1+1,2,none⟩=false:=frozen_of_row p.drew (w.heap.size+1+1) 2 _ _ A.o
  refine aR rfl (λK hK=>?_)
  go_simp
  refine hK _ _ (λ_=>⟨⟨_,(aV.refl _ p).drew.set_ 2 _⟩,rfl⟩) ?_
  clear hK K g2 h2 f2
  obtain⟨s,u⟩:∃s,s=(p.setCell ⟨w.heap.size+1+1,2,none⟩ (.int .i64 (min j l))).drew:=⟨_,rfl⟩
  have F0:Hid (s.heap[w.heap.size+1]? = some (.cells #[.int .i64 0,.int .i64 0,.int .i64 0,.int .i64 0,.bool false,.int .i64 0,.int .i64 0] 60 (0,0))):=by rw[u];show(p.setCell _ _).heap[_]? = _;rw[heap_setCell_other p _ _ _ (by show _≠w.heap.size+1+1;omega)];exact D1.o
  have M:Hid (s.heap[w.heap.size+1+1]? = some (.cells #[.int .i64 7,.int .i64 f,.int .i64 (min j l),.int .i64 l,.bool false,.int .i64 0,.int .i64 0] 60 (0,0))):=by
   rw[u];show(p.setCell _ _).heap[_]? = _;rw[heap_setCell_same p (w.heap.size+1+1) 2 _ _ _ A.o];rfl
  have K2:Hid (Below w.heap.size w s):=by rw[u];exact(ak2 K1.o (by omega) _ _).drew
  have Y:=hI u
  clear u
  rw[<-Y.o]
  have g3:=crZ M 3 rfl
  have h3:=fzZ M 3
  refine bG [12,13] _ _ (by kernel_rfl) (by kernel_rfl) ?_
  simp only[List.filterMap_cons,List.filterMap_nil,List.getElem?_toArray,List.getElem?_cons_zero,List.getElem?_cons_succ]
  go_upto_region 14 with fail
  obtain⟨D,y⟩:∃D,D=s.setCell ⟨w.heap.size+1+1,3,none⟩ (.int .i64 (max j l)):=⟨_,rfl⟩
  have Z:Hid (D.heap[w.heap.size+1]? = some (.cells #[.int .i64 0,.int .i64 0,.int .i64 0,.int .i64 0,.bool false,.int .i64 0,.int .i64 0] 60 (0,0))):=by rw[y,heap_setCell_other s _ _ _ (by show _≠w.heap.size+1+1;omega)];exact F0.o
  have G2:Hid (D.heap[w.heap.size+1+1]? = some (.cells #[.int .i64 7,.int .i64 f,.int .i64 (min j l),.int .i64 (max j l),.bool false,.int .i64 0,.int .i64 0] 60 (0,0))):=by
   rw[y,heap_setCell_same s (w.heap.size+1+1) 3 _ _ _ M.o];rfl
  have K3:Hid (Below w.heap.size w D):=by rw[y];exact ak2 K2.o (by omega) _ _
  rw[<-y]
  clear y g3 h3
  have RG:=rrZ G2
  have LX:Hid ((prog.info? 60).map (·.size)=some ([.int .i64 7,.int .i64 f,.int .i64 (min j l),.int .i64 (max j l),.bool false,.int .i64 0,.int .i64 0]:List Value).length):=wP
  go_wp2_with (first
   | (refine wpList_load_mid rfl 60 _ rfl (w.heap.size+1+1) 0 rfl [.int .i64 7,.int .i64 f,.int .i64 (min j l),.int .i64 (max j l),.bool false,.int .i64 0,.int .i64 0] _ RG.o underlying60 rfl LX.o ?_)
   | (refine wpList_store_row rfl 60 _ _ rfl (w.heap.size+1) #[.int .i64 7,.int .i64 f,.int .i64 (min j l),.int .i64 (max j l),.bool false,.int .i64 0,.int .i64 0] rfl rfl 60 _ Z.o wP rfl (oCz (by simp[Value.oneCell'])) ?_)
   | fail)
  generalize G:World.setRow _ _ _=w9
  have z:=shZ G Z
  have K9:Hid (Below w.heap.size w w9):=by rw[<-G];exact Below.set_row K3.o (by omega) _
  clear G
  go_wp2_with fail
  have r0:=crZ z 0 rfl
  have r1:=crZ z 1 rfl
  have r2:=crZ z 2 rfl
  have r3:=crZ z 3 rfl
  have r4:=crZ z 4 rfl
  have r5:=crZ z 5 rfl
  have r6:=crZ z 6 rfl
  rw[<-HR.o]
  refine bodyPost_ret (v:=.tuple #[kT ⟨7,f,min j l,max j l,false,⟨0,0⟩⟩,.bool true]) (by simp[results,results23,go_sem,kT,r0,r1,r2,r3,r4,r5,r6]) rfl ⟨rfl,K9.o⟩
end
end Go.Proofs.YtijihlcdhppfgaaGreatDoor
