/- A part of the walk. -/
import Derived.Test.YtijihlcdhppfgaaGreatDoorZCF
import Derived.Test.YtijihlcdhppfgaaGreatDoorZCC
import Derived.Test.YtijihlcdhppfgaaGreatDoorZR
set_option maxHeartbeats 16000000
set_option maxRecDepth 100000
set_option linter.all false
namespace Go.Proofs.YtijihlcdhppfgaaGreatDoor
open Tryz
section
open Go.RowKit
def sV (t:aH) (tl:List Int) (w:World) (e:Ending) (w':World):Prop:=
 ∃cs,e=.returned (.tuple #[.agg ⟨cs⟩,.int .i64 (g9 t tl).2])/\bI w' w'.heap.size cs (g9 t tl).1/\Below w.heap.size w w'/\∀g new,g<w.heap.size->bI (w'.setRow g new) (w'.setRow g new).heap.size cs (g9 t tl).1
def jX (t:aH) (tl:List Int) (w:World) (e:Ending) (w':World):Prop:=
 ∃cs,e=.returned (.tuple #[.agg ⟨cs⟩,.int .i64 (g9 t tl).2])/\bI w' w'.heap.size cs (g9 t tl).1/\Below w.heap.size w w'/\∀w2:World,(∀k,w.heap.size<=k->k<w'.heap.size->w2.heap[k]? = w'.heap[k]?)->bI w2 w2.heap.size cs (g9 t tl).1
theorem jX.one {t:aH} {tl:List Int} {w:World} {e:Ending} {w':World} (h:jX t tl w e w'):sV t tl w e w':=by obtain⟨cs,a,b,c,d⟩:=h;exact⟨cs,a,b,c,λg new f=>d _ (λk j _=>setRow_other _ _ _ _ (by omega))⟩
def bY:List Value:=[.int .i64 0,.int .i64 0,.int .i64 0,.slice none 0 0,.slice none 0 0,.int .i64 0,.int .i64 0,.slice none 0 0,.slice none 0 0,.int .i64 0,.int .i64 0,.slice none 0 0,.slice none 0 0]
theorem fR (w:World) (B:Nat):bI w B bY mT:=by
 have z:wfi 0:=by unfold wfi;omega
 have d:fM w B [.int .i64 0,.int .i64 0,.slice none 0 0,.slice none 0 0] ajP:=⟨_,_,rfl,aB.nil _ _ _ _,aB.nil _ _ _ _,z,z⟩;exact⟨_,_,_,_,rfl,aB.nil _ _ _ _,aB.nil _ _ _ _,d,d,z,z,z⟩
theorem iG:(prog.info? 34).map (·.size)=some 13:=by kernel_rfl
theorem ajY (h:List Value) (t:aH) (v:Value) (tl:List Int) (w:World) (ht:bI w w.heap.size h t) (l:aB w w.heap.size 1 gB v tl) (d:tl.length≠t.ins.length) : Calls prog 24 #[.agg ⟨h⟩,v] w (jX t tl w):=by
 obtain⟨s,u,x,f⟩:=ht.at3;have q:=aM f;obtain⟨V,cV,rfl,p,g,-⟩:=l;unfold maxLen at g;have r:((tl.length:Int) != (t.ins.length:Int))=true:=by rw[bne_iff_ne];omega
 have j:Hid (g9 t tl=(mT,3)):=by unfold g9 Hid;rw[if_pos d]
 clear ht f d;go_enter func24,ntmps24;go_wp2_with fail;unfold jX;rw[j.o];refine bodyPost_ret (v:=.tuple #[.agg ⟨bY⟩,.int .i64 3]) (by simp[results,results24,go_sem,bY]) rfl ⟨_,rfl,fR _ _,?_,λ_ _=>fR _ _⟩;repeat (first | exact Below.refl _ _ | refine Below.drew ?_ | refine Below.setCell ?_ (by simp) _ | refine Below.alloc ?_ (by simp) _)
theorem cut_len (d:List Value) (t:aH) (v:Value) (tl:List Int) (w:World) (ht:bI w w.heap.size d t) (g:aB w w.heap.size 1 gB v tl) (f:tl.length≠t.ins.length) : Calls prog 24 #[.agg ⟨d⟩,v] w (sV t tl w):= (ajY d t v tl w ht g f).mono λ_ _ h=>h.one
end
section
def acK (x:bX):Prop:=x.sets.length<=1000/\x.makes.length<=1000/\∀m∈x.makes,m.vals.length<=1000
theorem yV {regs:Int} {ins:List aT} {at_:Int} : ∀(last:Int) (l:List oL),j5 regs ins at_ last l=true->l=[]\/last+l.length<regs
 | _,[],_=>.inl rfl
 | last,s::l,h=>by
  simp only[j5,Bool.and_eq_true,decide_eq_true_eq] at h
  right
  rcases yV s.reg l h.2 with e | e
  ·subst e;simp only[List.length_cons,List.length_nil];omega
  ·simp only[List.length_cons];omega
theorem wI {ins:List aT} {at_:Int} : ∀(last:Int) (l:List dX),fI ins at_ last l=true->l=[]\/last+l.length<ins.length
 | _,[],_=>.inl rfl
 | last,m::l,h=>by
  have d:=nB last (m::l) h m (by simp)
  simp only[fI,Bool.and_eq_true,decide_eq_true_eq] at h
  right
  rcases wI m.cell l h.2 with e | e
  ·subst e;simp only[List.length_cons,List.length_nil];omega
  ·simp only[List.length_cons];omega
theorem uM {ins:List aT} {at_:Int} : ∀(last:Int) (l:List dX),fI ins at_ last l=true->∀m∈l,m.vals.length<=100
 | _,[],_,_,hm=>by simp at hm
 | last,x::l,h,m,hm=>by
  simp only[fI,Bool.and_eq_true,decide_eq_true_eq] at h
  rcases List.mem_cons.1 hm with rfl | hm
  ·have d:=h.1.2
   simp only[mG,Bool.and_eq_true,decide_eq_true_eq] at d
   exact d.1.2
  ·exact uM _ l h.2 m hm
theorem nY {fn:FnM} {ins:List aT} {x:bX} {at_:Int} (f:fn.regs<=60) (hi:ins.length<=300) (h:bN fn ins x at_=true):acK x:=by
 simp only[bN,Bool.and_eq_true] at h;refine⟨?_,?_,λm d=>?_⟩
 ·rcases yV _ _ h.1.2 with e | e;·rw[e];simp
  ·omega
 ·rcases wI _ _ h.2 with e | e;·rw[e];simp
  ·omega
 ·have:=uM _ _ h.2 m d;omega
theorem acH {x:bX} (h:kV x=true):acK x:=by simp only[kV,Bool.and_eq_true,List.isEmpty_iff] at h;refine⟨by rw[h.1.2];simp,by rw[h.2];simp,λm d=>by rw[h.2] at d;simp at d⟩
theorem xF {p:aZ} (h:bH p=0):∀f∈p.fns,f.regs<=60:=by
 unfold bH at h;split at h;·cases h
 ·rename_i h1;exact λf hf=>((wJ (by simpa using h1)).2 f hf).2
structure aa1 (t:aH):Prop where
 ins:t.ins.length<=300
 exitsLen:t.exits.length<=200
 exits:∀x∈t.exits,acK x
 turn:acK t.turn
 back:acK t.back
theorem acC {p:aZ} {t:aH} {rv:Val->Bool} (h:cQ rv (bH p) (p.fns.map gI) t=0):aa1 t:=by
 have q:bH p=0:=by
  unfold cQ at h;split at h;·rename_i h1;exact(h1 h).elim
  ·rename_i h1;exact Classical.not_not.1 h1
 obtain⟨h1,r,fn,hf,_,hl,_,g,j,hb,s⟩:=fD h;have d:fn.regs<=60:=by have:=hf.2;rw[List.getElem?_map] at this;obtain⟨f,u,rfl⟩:=Option.map_eq_some_iff.1 this;exact xF q f (lM u)
 refine⟨h1,r,λx l=>nY d h1 (List.all_eq_true.1 s x l),?_,nY d h1 hb.2⟩;rcases Int.lt_or_le 0 t.loop with c | c;·exact nY d h1 (j c).2
 ·exact acH (g (by omega))
end
section
open Go.RowKit
theorem aeN {w:World} {B:Nat} {e:TypeId} {size n:Nat} {v:Value} {xs:List Value} (d:w.ownsRow B e size v n xs):∃A c,v=.slice A n c:=by
 rcases d.2 with ⟨e,f⟩ | ⟨g,h,_,e,_⟩;·subst f;exact⟨_,_,e⟩
 ·exact⟨_,_,e⟩
theorem wE {w w':World} {B C:Nat} {e g:TypeId} {size p n m:Nat} {v u:Value} {xs cs:List Value} (h:w.ownsRow B e size v n xs) (f:w.ownsRow C g p u m cs) (j:w.grownBy w' u.ownBlock) (ht:e≠g):w'.ownsRow B e size v n xs:=by
 cases hb:v.ownBlock with
 | none=>exact h.kept j (.inl hb)
 | some k=>
  refine h.kept j (.inr (λl=>?_))
  obtain⟨_,q,r,h1⟩:=hY h _ hb
  obtain⟨_,s,x,d⟩:=hY f _ (l.symm.trans hb)
  rw[h1] at d;injection d with d;injection d with _ d _;exact ht d
theorem agN (w:World) (o p q r:Obj):((((w.alloc o).alloc p).alloc q).alloc r).heap[w.heap.size+1+1+1]? = some r:=by show((((w.heap.push o).push p).push q).push r)[w.heap.size+1+1+1]? = _;rw[Array.getElem?_push,if_pos (by simp)]
theorem ak3 {w:World} {g:Nat} {cs:List Value} {t:TypeId} (h:w.heap[g]? = some (.cells ⟨cs⟩ t (0,0))):aJ w g cs:=λi v d=>by
 rw[cell_of_row w g i _ _ _ h];simpa using d
section
variable {W w6:World} {bc:Nat} {tv v':Value} {at_:List Int} {fine:Bool} {a:Int}
theorem xC (C:cK W bc tv at_ fine) (d:w6.ownsRow (bc+1) 3 1 v' (at_.length+1) (at_.map (.int .i64)++[.int .i64 a])) (h:W.grownBy w6 tv.ownBlock) (j : -1<=a/\a<=300) (hf:at_.length+1<=300) : cK (w6.setCell ⟨bc,0,none⟩ v') bc v' (at_++[a]) fine:=by
 have f:=cL C.own h C.here (by decide);refine⟨?_,?_,?_,?_⟩;·rw[heap_setCell_same w6 bc 0 _ _ _ f];rfl
 ·have g:=cY d f (by decide) 0 v';rw[List.map_append,List.length_append];exact g
 ·intro b hb;rcases List.mem_append.1 hb with hb | hb;·exact C.bd b hb
  ·simp at hb;subst hb;exact j
 ·rw[List.length_append];exact hf
theorem iX (C:cK W bc tv at_ fine) (d:W.grownBy w6 tv.ownBlock) {k:Nat} {cs:Array Value} {t:TypeId} (h:W.heap[k]? = some (.cells cs t (0,0))) (ht:t≠3) (f:k≠bc):(w6.setCell ⟨bc,0,none⟩ v').heap[k]? = some (.cells cs t (0,0)):=by rw[heap_setCell_other w6 _ _ _ (by show k≠bc;exact f)];exact cL C.own d h ht
theorem wD (C:cK W bc tv at_ fine) (d:W.grownBy w6 tv.ownBlock) {B:Nat} {e:TypeId} {size n:Nat} {u:Value} {xs:List Value} (h:W.ownsRow B e size u n xs) (h1:e≠3) (f:119≠e):(w6.setCell ⟨bc,0,none⟩ v').ownsRow B e size u n xs:= cY (wE h C.own d h1) (cL C.own d C.here (by decide)) f _ _
theorem rG (C:cK W bc tv at_ fine) (d:W.grownBy w6 tv.ownBlock) {B:Nat} (hB:B<=bc) (f:B<=W.heap.size):Below B W (w6.setCell ⟨bc,0,none⟩ v'):= ak2 (kE (B':=B) C.own d (by omega) f) hB _ _
end
theorem insC_wf {at_:List Int} (h:∀a∈at_,-1<=a/\a<=300) {x:aT} (l:kX x):kX (oE at_ x):=by
 obtain⟨d,f,hb,g,j⟩:=l;have b:∀v,wfi (bO at_ v):=λv=>by have:=aaF h v;unfold wfi;omega
 refine⟨d,?_,?_,?_,j⟩
 ·unfold oE iA;dsimp only;split;·exact b _
  ·exact f
 ·unfold oE iA;dsimp only;split;·exact b _
  ·exact hb
 ·unfold oE iA;dsimp only;split;·exact b _
  ·exact g
theorem cK.grow_ {W f:World} {bc:Nat} {g:Value} {at_:List Int} {fine:Bool} (C:cK W bc g at_ fine) {B:Nat} {e:TypeId} {size n:Nat} {u:Value} {xs:List Value} (d:W.ownsRow B e size u n xs) (h:W.grownBy f u.ownBlock) (h1:119≠e) (j:3≠e):cK f bc g at_ fine:= ⟨cL d h C.here h1,wE C.own d h j,C.bd,C.few⟩
theorem cK.set_far {W:World} {bc:Nat} {d:Value} {at_:List Int} {fine:Bool} (C:cK W bc d at_ fine) {g:Nat} {cs:Array Value} {t:TypeId} {f:Nat×Nat} (h:W.heap[g]? = some (.cells cs t f)) (h1:bc≠g) (j:t≠3) (i:Nat) (u:Value):cK (W.setCell ⟨g,i,none⟩ u) bc d at_ fine:= ⟨by rw[heap_setCell_other W _ _ _ (by show bc≠g;exact h1)];exact C.here,cY C.own h j _ _,C.bd,C.few⟩
section
variable {w w1:World} {B:Nat} {cs:List Value} {x:bX}
theorem cR.grow {C:Nat} {e:TypeId} {l n:Nat} {u:Value} {cells:List Value} (h:cR w B cs x) (d:w.ownsRow C e l u n cells) (f:w.grownBy w1 u.ownBlock) (h1:124≠e) (p:127≠e) (q:3≠e):cR w1 B cs x:=by obtain⟨s,m,rfl,g,j,wx⟩:=h;exact⟨s,m,rfl,g.grow d f h1,(j.grow d f p).keep (λ_ _ _ _ _=>rfl) (λ_ _ h=>h.grow d f q),wx⟩
theorem cR.set_ {g:Nat} {c:Array Value} {t:TypeId} {l:Nat×Nat} (h:cR w B cs x) (d:w.heap[g]? = some (.cells c t l)) (h1:t≠124) (p:t≠127) (q:t≠3) (i:Nat) (u:Value):cR (w.setCell ⟨g,i,none⟩ u) B cs x:=by obtain⟨s,m,rfl,f,j,wx⟩:=h;exact⟨s,m,rfl,f.set_ d h1 i u,(j.set_ d p i u).keep (λ_ _ _ _ _=>rfl) (λ_ _ h=>h.set_ d q i u),wx⟩
theorem cR.below (h:cR w B cs x) (k:Below w.heap.size w w1):cR w1 B cs x:=by obtain⟨s,m,rfl,d,f,wx⟩:=h;exact⟨s,m,rfl,d.below k,(f.below k).keep (λ_ _ _ _ _=>rfl) (λ_ _ h=>h.below k),wx⟩
theorem cR.fin {bc:Nat} (h:cR w B cs x) (k:aV bc w w1) (hB:bc<B):cR w1 B cs x:=by obtain⟨s,m,rfl,d,f,wx⟩:=h;exact⟨s,m,rfl,k.ty d hB,(k.ty f hB).keep (λ_ _ _ _ _=>rfl) (λ_ _ h=>h.fin k hB),wx⟩
theorem cR.more {B':Nat} (h:cR w B cs x) (hB:B'<=B):cR w B' cs x:=by obtain⟨s,m,rfl,d,f,wx⟩:=h;exact⟨s,m,rfl,d.more hB,(f.more hB).keep (λ_ _ _ _ _=>rfl) (λ_ _ h=>h.more hB),wx⟩
theorem cR.set_row {g:Nat} {c:Array Value} {t:TypeId} {l:Nat×Nat} (h:cR w B cs x) (d:w.heap[g]? = some (.cells c t l)) (h1:t≠124) (p:t≠127) (q:t≠3) (new:Array Value):cR (w.setRow g new) B cs x:=by obtain⟨s,m,rfl,f,j,wx⟩:=h;exact⟨s,m,rfl,f.set_row d h1 new,(j.set_row d p new).keep (λ_ _ _ _ _=>rfl) (λ_ _ h=>h.set_row d q new),wx⟩
theorem cR.len (h:cR w B cs x):cs.length=4:=by obtain⟨s,m,rfl,_⟩:=h;rfl
end
theorem iI {P:Program} {ops:Array Oper} {rest:List Oper} {o:Oper} {a:Act} {w:World} {Q:Act->Prop} {bc:Nat} (ty:TypeId) (x:Operand) (l:o.op=.load ty x)
  (g:Region.wanted o (yielded ops a.tmps)=true)
  (b f:Nat) (p:a.eval x=.pointer (some ⟨b,f,none⟩)) (cs:List Value) (d:TypeDesc) (q:∀E:jW bc w,E.wd.rangeAt b f cs)
  (r:P.underlying ty=some d) (s:d.isRow=true) (hi:(P.info? ty).map (·.size)=some cs.length)
  (h:wpQuiet P ops (λw'=>∃E:jW bc w,w'=E.wd) Q rest (a.put o.dst (.agg cs.toArray))):wpQuiet P ops (λw'=>∃E:jW bc w,w'=E.wd) Q (o::rest) a:=
 wpQuiet_step λK j=>by
  rw[if_pos g]
  refine⟨.agg cs.toArray,λw' ⟨E,e⟩=>?_,j _ h⟩
  subst e
  unfold Oper.quietAt execOp
  simp only[l,p,Instr.loadAt,Instr.sureAddr,Sem.run_bind,Sem.run_pure,Result.andThen_ok,run_loadVar_mid E.wd b f ty cs d (q E) r s hi]
  exact⟨rfl,rfl⟩
theorem infoEx:(prog.info? 32).map (λi=>(i.zero,i.size,i.bytes))=some (some (.agg #[.int .i64 0,.int .i64 0,.slice none 0 0,.slice none 0 0]),4,64):=by kernel_rfl
theorem ajE:(prog.info? 53).map (λi=>(i.zero,i.size,i.bytes))=some (some (.agg #[.int .i64 0,.int .i64 0,.int .i64 0,.int .i64 0,.int .i64 0,.int .i64 0,.int .i64 0,.int .i64 0]),8,64):=by kernel_rfl
theorem ai9 (x:aT):∀u∈bA x,u.oneCell'=true:=by intro u d;simp[bA] at d;rcases d with rfl | rfl | rfl | rfl | rfl | rfl | rfl | rfl <;> rfl
def tB (cs:Array Value):Nat->List Value->Array Value
 | _,[]=>cs
 | o,v::r=>tB (cs.setIfInBounds o v) (o+1) r
theorem o5:∀(vs:List Value) (cs:Array Value) (o:Nat),(tB cs o vs).size=cs.size
 | [],_,_=>rfl
 | v::r,cs,o=>by rw[tB,o5 r];simp
theorem jR {g:Nat} {t:TypeId} : ∀(vs:List Value) (o:Nat) (w:World) (cs:Array Value),w.heap[g]? = some (.cells cs t (0,0))->(w.setCells g o vs).heap[g]? = some (.cells (tB cs o vs) t (0,0))
 | [],_,_,_,h=>h
 | v::r,o,w,cs,h=>by
  rw[World.setCells,tB]
  refine jR r (o+1) _ _ ?_
  rw[heap_setCell_same w g o _ _ _ h]
theorem nW {g:Nat} {t:TypeId} (Φ : World->Prop) (d : ∀(w:World) (cs:Array Value) (i:Nat) (u:Value),w.heap[g]? = some (.cells cs t (0,0))->Φ w->Φ (w.setCell ⟨g,i,none⟩ u)) :
  ∀(vs:List Value) (o:Nat) (w:World) (cs:Array Value),w.heap[g]? = some (.cells cs t (0,0))->Φ w->Φ (w.setCells g o vs)
 | [],_,_,_,_,h=>h
 | v::r,o,w,cs,hg,h=>by
  rw[World.setCells]
  exact nW Φ d r (o+1) _ _ (heap_setCell_same w g o _ _ _ hg) (d w cs o v hg h)
theorem bI.at59 {w:World} {B:Nat} {cs:List Value} {t:aH} (h:bI w B cs t):∃d cb,(∀i v,d[i]? = some v->cs[5+i]? = some v)/\(∀i v,cb[i]? = some v->cs[9+i]? = some v)/\fM w B d t.turn/\fM w B cb t.back:=by
 obtain⟨i,e,d,cb,rfl,-,-,ht,hb,-⟩:=h;have l1:d.length=4:=by obtain⟨_,_,rfl,-⟩:=ht;rfl
 refine⟨d,cb,λi v f=>?_,λi v f=>?_,ht,hb⟩;·have hi:=(lE f).1;rw[List.append_assoc,List.getElem?_append_right (by simp),show 5+i - ([.int .i64 t.fn,.int .i64 t.at_,.int .i64 t.loop,_,_]:List Value).length=i by simp,List.getElem?_append_left (by omega)];exact f
 ·rw[List.getElem?_append_right (by simp;omega)];simp only[List.length_append,List.length_cons,List.length_nil,l1];rw[show 9+i - (0+1+1+1+1+1+4)=i by omega];exact f
theorem rY {w:World} {g:Nat} {cs:Array Value} {t:TypeId} {o n:Nat} (h:w.heap[g]? = some (.cells cs t (0,0))) (f:o+n<=cs.size):w.there g o n:=λj d=>by
 refine⟨?_,frozen_of_row w g (o+j) _ _ h⟩
 rw[cell_of_row w g (o+j) _ _ _ h,Array.getElem?_eq_getElem (by omega)]
 rfl
structure sU (w:World) (tv:Value) (S:mX) (t:aH) (lp:Int) (A1:Option Addr) (c1:Nat) (A5:Option Addr) (n5:Nat) (l1 l2:List Value) (z1 z2:bX) (W:World):Prop where
 row:W.heap[w.heap.size+1+1+1]? = some (.cells ⟨[.int .i64 t.fn,.int .i64 t.at_,.int .i64 lp,.slice A1 S.ins.length c1,.slice A5 t.exits.length n5]++l1++l2⟩ 34 (0,0))
 cut:cK W (w.heap.size+1+1) tv S.at_ (S.fine && t.exits.all (dF S.at_) && dF S.at_ t.turn && dF S.at_ t.back)
 zero:W.heap[w.heap.size+1]? = some (.cells ⟨bY⟩ 34 (0,0))
 ins:W.ownsRow (w.heap.size+1+1+1) 53 8 (.slice A1 S.ins.length c1) S.ins.length (S.ins.flatMap bA)
 exits:aW W (w.heap.size+1+1+1) 32 4 (cR W (w.heap.size+1+1+1)) (.slice A5 t.exits.length n5) (t.exits.map (dM S.at_))
 turn:cR W (w.heap.size+1+1+1) l1 z1
 back:cR W (w.heap.size+1+1+1) l2 z2
 below:Below w.heap.size w W
theorem sU.make {w W:World} {D:Value} {S:mX} {t:aH} {H:Int} {j:Option Addr} {l:Nat} {p:Option Addr} {q:Nat} {l1 f:List Value} {E F:bX} (row:W.heap[w.heap.size+1+1+1]? = some (.cells #[.int .i64 t.fn,.int .i64 t.at_,.int .i64 H,.slice j S.ins.length l,.slice p t.exits.length q,.int .i64 0,.int .i64 0,.slice none 0 0,.slice none 0 0,.int .i64 0,.int .i64 0,.slice none 0 0,.slice none 0 0] 34 (0,0))) (cut:cK W (w.heap.size+1+1) D S.at_ (S.fine && t.exits.all (dF S.at_) && dF S.at_ t.turn && dF S.at_ t.back)) (zero:W.heap[w.heap.size+1]? = some (.cells ⟨bY⟩ 34 (0,0))) (ins:W.ownsRow (w.heap.size+1+1+1) 53 8 (.slice j S.ins.length l) S.ins.length (S.ins.flatMap bA)) (exits:aW W (w.heap.size+1+1+1) 32 4 (cR W (w.heap.size+1+1+1)) (.slice p t.exits.length q) (t.exits.map (dM S.at_))) (turn:cR W (w.heap.size+1+1+1) l1 E) (back:cR W (w.heap.size+1+1+1) f F) (below:Below w.heap.size w W) : sU w D S t H j l p q l1 f E F ((W.setCells (w.heap.size+1+1+1) 5 l1).setCells (w.heap.size+1+1+1) 9 f):=by
 have G:=jR l1 5 W _ row;have I:=jR f 9 _ _ G;let Φ : World->Prop:=λW=>cK W (w.heap.size+1+1) D S.at_ (S.fine && t.exits.all (dF S.at_) && dF S.at_ t.turn && dF S.at_ t.back)/\W.heap[w.heap.size+1]? = some (.cells ⟨bY⟩ 34 (0,0))/\ W.ownsRow (w.heap.size+1+1+1) 53 8 (.slice j S.ins.length l) S.ins.length (S.ins.flatMap bA)/\aW W (w.heap.size+1+1+1) 32 4 (cR W (w.heap.size+1+1+1)) (.slice p t.exits.length q) (t.exits.map (dM S.at_))/\ cR W (w.heap.size+1+1+1) l1 E/\cR W (w.heap.size+1+1+1) f F/\Below w.heap.size w W;have r : ∀(W:World) (cs:Array Value) (i:Nat) (u:Value),W.heap[w.heap.size+1+1+1]? = some (.cells cs 34 (0,0))->Φ W->Φ (W.setCell ⟨w.heap.size+1+1+1,i,none⟩ u):=λW cs i u g ⟨h1,s,v,x,y,z,A⟩=> ⟨h1.set_far g (by omega) (by decide) _ _,by rw[heap_setCell_other W _ _ _ (by show _≠w.heap.size+1+1+1;omega)];exact s,cY v g (by decide) _ _,(x.set_ g (by decide) i u).keep (λ_ _ _ _ _=>rfl) (λ_ _ h=>h.set_ g (by decide) (by decide) (by decide) i u),y.set_ g (by decide) (by decide) (by decide) _ _,z.set_ g (by decide) (by decide) (by decide) _ _,ak2 A (by omega) _ _⟩;have hb : Φ W:=⟨cut,zero,ins,exits,turn,back,below⟩;have J : Φ ((W.setCells (w.heap.size+1+1+1) 5 l1).setCells (w.heap.size+1+1+1) 9 f):=by clear_value Φ;have h1:=nW Φ r l1 5 W _ row hb;exact nW Φ r f 9 _ _ G h1
 obtain⟨h1,s,v,x,y,z,A⟩:=J;refine⟨?_,h1,s,v,x,y,z,A⟩;rw[I];obtain⟨a,b,rfl,-⟩:=turn;obtain⟨c,d,rfl,-⟩:=back;simp[tB]
theorem fZ.above {w w1:World} {B:Nat} {cs:List Value} {m:dX} (h:fZ w B cs m) (j:∀k,B<=k->k<w.heap.size->w1.heap[k]? = w.heap[k]?):fZ w1 B cs m:=by obtain⟨v,h1,d,f⟩:=h;exact⟨v,h1,d.keep (λk _ _ hb g=>j k hb (aE g).1) (λ_ _ h=>h),f⟩
theorem cR.above {w w1:World} {B:Nat} {cs:List Value} {x:bX} (h:cR w B cs x) (f:∀k,B<=k->k<w.heap.size->w1.heap[k]? = w.heap[k]?):cR w1 B cs x:=by obtain⟨s,m,rfl,g,j,wx⟩:=h;exact⟨s,m,rfl,g.keep (λk _ _ hb d=>f k hb (aE d).1) (λ_ _ h=>h),j.keep (λk _ _ hb d=>f k hb (aE d).1) (λ_ _ h=>h.above f),wx⟩
theorem sU.trace {w W:World} {I:Value} {S:mX} {t:aH} {j:Int} {p:Option Addr} {q:Nat} {s:Option Addr} {u:Nat} {l1 r:List Value} {v y:bX} (h:sU w I S t j p q s u l1 r v y W) (J:∀x∈S.ins,kX x) (h1:dM S.at_ t.turn=v) (K:dM S.at_ t.back=y) (hl:(bK t S).loop=j) (wf:wfi t.fn/\wfi t.at_/\wfi j) {d:World} (g:∀k,w.heap.size+1+1+1<=k->k<W.heap.size->d.heap[k]? = W.heap[k]?) : bI d d.heap.size ([.int .i64 t.fn,.int .i64 t.at_,.int .i64 j,.slice p S.ins.length q,.slice s t.exits.length u]++l1++r) (bK t S):=by
 have z:aW W (w.heap.size+1+1+1) 53 8 xP (.slice p S.ins.length q) S.ins:=gM (f:=bA) (by decide) (λ_ _=>rfl) (λx H=>⟨rfl,J x H⟩) h.ins;have A:=(z.keep (w':=d) (λk _ _ hb l=>g k hb (aE l).1) (λ_ _ h=>h)).slice;have D:=(h.exits.keep (w':=d) (R':=cR d (w.heap.size+1+1+1)) (λk _ _ hb l=>g k hb (aE l).1) (λ_ _ h=>h.above g)).slice;have E:=D.keep (Nat.le_refl _) (λ_ _=>rfl) (λ_ _ h=>cR.exit h);have F:=(h.turn.above g).exit;have G:=(h.back.above g).exit;refine⟨_,_,l1,r,by rw[hl];rfl,A,E,?_,?_,wf.1,wf.2.1,by rw[hl];exact wf.2.2⟩;·show fM _ _ _ (dM S.at_ t.turn);rw[h1];exact F
 ·show fM _ _ _ (dM S.at_ t.back);rw[K];exact G
end
section
open Go.RowKit Go.Maps
end
end Go.Proofs.YtijihlcdhppfgaaGreatDoor
