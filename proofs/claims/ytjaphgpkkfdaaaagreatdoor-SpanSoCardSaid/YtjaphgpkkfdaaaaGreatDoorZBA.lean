/- A part of the walk. -/
import Derived.Test.YtjaphgpkkfdaaaaGreatDoorZG
set_option maxHeartbeats 16000000
set_option maxRecDepth 100000
set_option linter.all false
namespace Go.Proofs.YtjaphgpkkfdaaaaGreatDoor
open Tryz
section
def jA (t:aN):Prop:=∀(i:Nat) x,t.ins[i]? = some x->x.op=1\/x.op=2\/x.op=3\/x.op=10\/x.op=11\/x.op=15\/(((x.op=7\/x.op=8\/x.op=17)/\x.exit<0))\/(0<=x.exit/\x.exit<t.exits.length)
theorem qI {aG:Val->Bool} {ce:Int} {fns:List FnM} {t:aN} (h:fA aG ce fns t=0):jA t:=λi x hx=>by
 obtain⟨_,fn,h1⟩:=nX h
 obtain⟨h0,h2⟩:=fQ t.ins 0 h1 i x hx
 simp only[eY,Bool.and_eq_true] at h2
 have h3:=h2.2
 rcases nU h0 with c | c | c | c | c | c | c | c | c | c | c | c | c | c | c | c | c | c | c <;> rw[c] at h3
 all_goals first
  | (left;exact c)
  | (right;left;exact c)
  | (right;right;left;exact c)
  | (right;right;right;left;exact c)
  | (right;right;right;right;left;exact c)
  | (right;right;right;right;right;left;exact c)
  | skip
 all_goals right;right;right;right;right;right
 all_goals
  simp only[cF,beq_iff_eq,Bool.or_eq_true,Bool.and_eq_true,Int.reduceEq,↓reduceIte,decide_eq_true_eq,false_or,or_false,true_and,false_and,reduceCtorEq] at h3
  first
   | (right;exact⟨h3.1.1,h3.1.2⟩)
   | (by_cases e:x.exit = -1;(left;exact⟨by omega,by omega⟩);(rw[if_neg e] at h3;simp only[Bool.and_eq_true,decide_eq_true_eq] at h3;right;exact⟨h3.1.1,h3.1.2⟩))
theorem bU {α : Type} {c:Prop} [Decidable c] {a b : α} (P : α->Prop) (d:c->P a) (hb:¬c->P b):P (if c then a else b):=by
 by_cases h:c;·rw[if_pos h];exact d h
 ·rw[if_neg h];exact hb h
structure i7 (w w':aI):Prop where
 regs:w'.regs=w.regs
 at_:w'.at_=w.at_
 steps:w'.steps=w.steps
theorem i7.refl (w:aI):i7 w w:=⟨rfl,rfl,rfl⟩
theorem nL (w:aI) (i:Nat) (v:Val):i7 w (fS w i v):=⟨rfl,rfl,rfl⟩
theorem oJ (w:aI) (n:Nat) (c:bC):i7 w (setCW w n c):=⟨rfl,rfl,rfl⟩
theorem ab1 (w:aI) (i:Nat) (x:Int) (r:Val×Int):i7 w (iQ w i x r).1:=nL _ _ _
theorem zJ (w:aI) (i:Nat) (k:Int):i7 w (dX w i k).1:=by unfold dX;split <;> exact⟨rfl,rfl,rfl⟩
theorem slot_f (w:aI) (i:Nat) (x:bG):i7 w (gW w i x).1:=by
 unfold gW;split;·exact .refl w
 ·split;·exact .refl w
  ·split;·exact nL _ _ _
   ·split;·exact oJ _ _ _
    ·exact nL _ _ _
theorem grow_f (sh:List aT) (w:aI) (x:bG):i7 w (jT sh w x).1:=by
 unfold jT;split;·exact .refl w
 ·split;·exact .refl w
  ·split;·exact .refl w
   ·split;·exact .refl w
    ·exact oJ _ _ _
theorem push_f (w:aI) (x:bG):i7 w (iT w x).1:=by
 unfold iT;split;·exact .refl w
 ·split;·exact .refl w
  ·split;·exact oJ _ _ _
   ·split <;> exact .refl w
theorem item_f (w:aI) (i:Nat) (x:bG):i7 w (lP w i x).1:=by
 unfold lP;split;·exact .refl w
 ·split;·exact .refl w
  ·split;·exact .refl w
   ·split;·exact nL _ _ _
    ·exact oJ _ _ _
theorem abE (E:hV) (self:Val) (shapes:List aT) (w:aI) (i:Nat) (x:bG):i7 w (doI E self shapes w i x).1:=by unfold doI;refine bU (λr:aI×Int=>i7 w r.1) (λ_=>nL _ _ _) λ_=>?_;refine bU (λr:aI×Int=>i7 w r.1) (λ_=>nL _ _ _) λ_=>?_;refine bU (λr:aI×Int=>i7 w r.1) (λ_=>nL _ _ _) λ_=>?_;refine bU (λr:aI×Int=>i7 w r.1) (λ_=>.refl w) λ_=>?_;refine bU (λr:aI×Int=>i7 w r.1) (λ_=>ab1 _ _ _ _) λ_=>?_;refine bU (λr:aI×Int=>i7 w r.1) (λ_=>ab1 _ _ _ _) λ_=>?_;refine bU (λr:aI×Int=>i7 w r.1) (λ_=>slot_f _ _ _) λ_=>?_;refine bU (λr:aI×Int=>i7 w r.1) (λ_=>grow_f _ _ _) λ_=>?_;refine bU (λr:aI×Int=>i7 w r.1) (λ_=>item_f _ _ _) λ_=>?_;refine bU (λr:aI×Int=>i7 w r.1) (λ_=>zJ _ _ _) λ_=>?_;refine bU (λr:aI×Int=>i7 w r.1) (λ_=>push_f _ _) λ_=>?_;exact bU (λr:aI×Int=>i7 w r.1) (λ_=>.refl w) λ_=>zJ _ _ _
theorem sA (E:hV) (t:aN) (self:Val) (shapes:List aT) (w:aI) (i:Nat):i7 w (doW E t self shapes w i).1:=abE E self shapes w i _
theorem xN (w:aI) (m:fZ):(fP w m).1.regs=w.regs/\(fP w m).1.at_=w.at_/\(fP w m).1.steps=w.steps:=by
 have h:i7 w (fP w m).1:=by
  unfold fP;split;·exact .refl w
  ·split;·exact .refl w
   ·exact oJ _ _ _
 exact⟨h.regs,h.at_,h.steps⟩
theorem mK:∀(l:List fZ) (w:aI),(eK w l).1.regs=w.regs/\(eK w l).1.at_=w.at_/\(eK w l).1.steps=w.steps
 | [],w=>⟨rfl,rfl,rfl⟩
 | m::l,w=>by
  have d:=xN w m
  unfold eK
  split
  ·exact d
  ·have e:=mK l (fP w m).1
   exact⟨e.1.trans d.1,e.2.1.trans d.2.1,e.2.2.trans d.2.2⟩
theorem kV:∀(l:List pS) (w:aI),(fN w l).at_=w.at_/\(fN w l).steps=w.steps/\(fN w l).cells=w.cells/\(fN w l).vals=w.vals/\(fN w l).regs.length=w.regs.length/\∀r:Nat,(∀s∈l,s.reg.toNat≠r)->(fN w l).regs[r]? = w.regs[r]?
 | [],w=>⟨rfl,rfl,rfl,rfl,rfl,λ_ _=>rfl⟩
 | s::l,w=>by
  have h:=kV l { w with regs:=w.regs.set s.reg.toNat (cX w s.val) }
  refine⟨h.1,h.2.1,h.2.2.1,h.2.2.2.1,?_,λr d=>?_⟩
  ·exact h.2.2.2.2.1.trans (by simp)
  ·refine(h.2.2.2.2.2 r (λq e=>d q (by simp[e]))).trans ?_
   exact List.getElem?_set_ne (d s (by simp))
theorem tY (w:aI) (x:cW) (h:(iG w x).2≠2):(iG w x).2=0/\(iG w x).1.at_=x.at_/\(iG w x).1.steps=w.steps+x.steps/\(iG w x).1.regs.length=w.regs.length/\∀r:Nat,(∀s∈x.sets,s.reg.toNat≠r)->(iG w x).1.regs[r]? = w.regs[r]?:=by
 have g:∀(l:List fZ) (w:aI),(eK w l).2=0\/(eK w l).2=2:=by
  intro l
  induction l with
  | nil=>intro w;exact .inl rfl
  | cons m l ih=>
   intro w
   unfold eK
   split
   ·rename_i d
    unfold fP at d ⊢
    repeat' split
    all_goals first | exact .inr rfl | exact .inl rfl
   ·exact ih _
 unfold iG at h ⊢;split at h
 ·rename_i d;rcases g x.makes w with c | c;·exact absurd c d
  ·exact absurd c h
 ·rename_i d;rw[if_neg d];have e:=mK x.makes w;have f:=kV x.sets (eK w x.makes).1;refine⟨rfl,rfl,?_,?_,λr i=>?_⟩;·show(fN _ _).steps+x.steps=_;rw[f.2.1,e.2.2]
  ·show(fN _ _).regs.length=_;rw[f.2.2.2.2.1,e.1]
  ·show(fN _ _).regs[r]? = _;rw[f.2.2.2.2.2 r i,e.1]
theorem u0 (E:hV) {t:aN} (j:jA t) (self:Val) (shapes:List aT) (w:aI) {i:Nat} (hi:i<t.ins.length) (h:(doW E t self shapes w i).2=1):0<=(jE t i).exit/\(jE t i).exit<t.exits.length:=by
 have e:t.ins[i]? = some (jE t i):=by unfold jE;rw[show(i:Int).toNat=i from rfl,lG hi];rfl
 have:=j i _ e;unfold doW at h;generalize jE t i=x at this h ⊢;have f:∀(r:Val×Int),(iQ w i x.exit r).2=1->¬x.exit<0:=λr d=>by
  unfold iQ at d;dsimp only at d;split at d;·cases d
  ·split at d;·cases d
   ·assumption
 have g:(gW w i x).2≠1:=by
  unfold gW;split;·intro h;cases h
  ·split;·intro h;cases h
   ·split;·intro h;cases h
    ·split <;> (intro h;cases h)
 have push:(iT w x).2=1->¬x.exit<0:=by
  unfold iT;split;·intro h;cases h
  ·split;·intro h;cases h
   ·split;·intro h;cases h
    ·split;·intro h;cases h
     ·intro _;assumption
 revert h;unfold doI;refine bU (λr:aI×Int=>r.2=1->_) (λ_ h=>by cases h) λq=>?_;refine bU (λr:aI×Int=>r.2=1->_) (λ_ h=>by cases h) λs=>?_;refine bU (λr:aI×Int=>r.2=1->_) (λ_ h=>by cases h) λu=>?_;refine bU (λr:aI×Int=>r.2=1->_) (λc _=>by omega) λc4=>?_;refine bU (λr:aI×Int=>r.2=1->_) (λc h=>by have:=f _ h;omega) λv=>?_;refine bU (λr:aI×Int=>r.2=1->_) (λc h=>by have:=f _ h;omega) λy=>?_;refine bU (λr:aI×Int=>r.2=1->_) (λc h=>absurd h g) λz=>?_;refine bU (λr:aI×Int=>r.2=1->_) (λc h=>by omega) λA=>?_;refine bU (λr:aI×Int=>r.2=1->_) (λc h=>by omega) λC=>?_;refine bU (λr:aI×Int=>r.2=1->_) (λc h=>by omega) λl=>?_;refine bU (λr:aI×Int=>r.2=1->_) (λc h=>by have:=push h;omega) λm=>?_;exact bU (λr:aI×Int=>r.2=1->_) (λc h=>by omega) λp h=>by omega
theorem iB (E:hV) {t:aN} (l:jA t) (self:Val) (shapes:List aT) (fin:cW):∀(k i:Nat) (w:aI),i+k<=t.ins.length->(dM E t self shapes fin k i w).2.2≠2->
  ∃x,(((dM E t self shapes fin k i w).2.1 = -1/\x=fin)\/(0<=(dM E t self shapes fin k i w).2.1/\(dM E t self shapes fin k i w).2.1<t.exits.length/\t.exits[(dM E t self shapes fin k i w).2.1.toNat]? = some x))/\(dM E t self shapes fin k i w).2.2=0/\
   (dM E t self shapes fin k i w).1.at_=x.at_/\(dM E t self shapes fin k i w).1.steps=w.steps+x.steps/\(dM E t self shapes fin k i w).1.regs.length=w.regs.length/\∀r:Nat,(∀s∈x.sets,s.reg.toNat≠r)->(dM E t self shapes fin k i w).1.regs[r]? = w.regs[r]?
 | 0,i,w,_,h=>by
  unfold dM at h ⊢
  exact⟨fin,.inl ⟨rfl,rfl⟩,tY w fin h⟩
 | k+1,i,w,hk,h=>by
  have hf:=sA E t self shapes w i
  unfold dM at h ⊢
  split at h
  ·exact absurd rfl h
  rename_i z
  rw[if_neg z]
  split at h
  ·rename_i g
   rw[if_pos g]
   have hl:=u0 E l self shapes w (by omega) g
   split at h
   ·exact absurd rfl h
   ·rename_i x m
    rw[m]
    dsimp only at h ⊢
    obtain⟨p,q,u,v,y⟩:=tY _ x h
    exact⟨x,.inr ⟨hl.1,hl.2,rfl⟩,p,q,by rw[u,hf.steps],by rw[v,hf.regs],λr j=>by rw[y r j,hf.regs]⟩
  ·rename_i g
   rw[if_neg g]
   obtain⟨x,a,b,c,d,e,f⟩:=iB E l self shapes fin k (i+1) _ (by omega) h
   exact⟨x,a,b,c,by rw[d,hf.steps],by rw[e,hf.regs],λr j=>by rw[f r j,hf.regs]⟩
end
section
def wT (t:aN):Prop:=t.back.at_=t.at_/\(0<t.loop->t.turn.at_=t.at_)/\0<=t.loop/\t.loop<=t.ins.length
theorem adR {aG:Val->Bool} {d:Int} {fns:List FnM} {t:aN} (h:fA aG d fns t=0):wT t:=by
 unfold fA at h;split at h;·omega
 split at h;·cases h
 split at h;·cases h
 split at h;·cases h
 rename_i j;simp only at h;split at h;·rename_i f;exact(f h).elim
 split at h;·cases h
 rename_i g;split at h;·cases h
 rename_i i;refine⟨?_,λc=>?_,by omega,by omega⟩
 ·by_cases e:t.back.at_=t.at_;·exact e
  ·exact(i (.inl e)).elim
 ·by_cases e:t.turn.at_=t.at_;·exact e
  ·exact(g (.inr ⟨c,.inl e⟩)).elim
def jV (t:aN) (done:Nat):cW:=if done=0/\0<t.loop then t.turn else t.back
def dA (t:aN):Nat->Nat->Int
 | _,0=>0
 | done,k+1=>(jV t done).steps+dA t (done+1) k
theorem kY (E:hV) {t:aN} (e:jA t) (f:wT t) (self:Val) (shapes:List aT) (d:Nat) (w:aI) (h:(dN E t self shapes d w).2.2≠2) : ∃x,(((dN E t self shapes d w).2.1 = -1/\x=jV t d)\/(0<=(dN E t self shapes d w).2.1/\(dN E t self shapes d w).2.1<t.exits.length/\t.exits[(dN E t self shapes d w).2.1.toNat]? = some x))/\(dN E t self shapes d w).2.2=0/\ (dN E t self shapes d w).1.at_=x.at_/\(dN E t self shapes d w).1.steps=w.steps+x.steps/\(dN E t self shapes d w).1.regs.length=w.regs.length/\∀r:Nat,(∀s∈x.sets,s.reg.toNat≠r)->(dN E t self shapes d w).1.regs[r]? = w.regs[r]?:=by
 obtain⟨-,-,g,i⟩:=f;unfold dN at h ⊢;unfold jV;split;·rename_i c;rw[if_pos c] at h;exact iB E e self shapes t.turn _ _ w (by omega) h
 ·rename_i c;rw[if_neg c] at h;exact iB E e self shapes t.back _ _ w (by omega) h
theorem fin_at {t:aN} (e:wT t) (d:Nat):(jV t d).at_=t.at_:=by
 unfold jV;split;·rename_i c;exact e.2.1 c.2
 ·exact e.1
theorem pB (E:hV) {t:aN} (u:jA t) (q:wT t) (self:Val) (shapes:List aT):∀(k i:Nat) (w:aI),(bQ E t self shapes k i w).2.2.2≠2->
  (bQ E t self shapes k i w).2.2.2=0/\(bQ E t self shapes k i w).1.regs.length=w.regs.length/\∃m:Nat,(bQ E t self shapes k i w).2.2.1=((i+m:Nat):Int)/\
   (((bQ E t self shapes k i w).2.1 = -1/\m=k/\(bQ E t self shapes k i w).1.steps=w.steps+dA t i m/\(bQ E t self shapes k i w).1.at_=if k=0 then w.at_ else t.at_)\/
   (∃x,m<k/\0<=(bQ E t self shapes k i w).2.1/\(bQ E t self shapes k i w).2.1<t.exits.length/\t.exits[(bQ E t self shapes k i w).2.1.toNat]? = some x/\
     (bQ E t self shapes k i w).1.steps=w.steps+dA t i m+x.steps/\(bQ E t self shapes k i w).1.at_=x.at_))
 | 0,i,w,_=>⟨rfl,rfl,0,rfl,.inl ⟨rfl,rfl,by simp[bQ,dA],rfl⟩⟩
 | k+1,i,w,h=>by
  unfold bQ at h ⊢
  by_cases c:(dN E t self shapes i w).2.2=2\/0<=(dN E t self shapes i w).2.1
  ·simp only[if_pos c] at h ⊢
   obtain⟨x,j,v,r,p,s,-⟩:=kY E u q self shapes i w h
   refine⟨v,s,0,rfl,.inr ⟨x,by omega,?_⟩⟩
   rcases j with ⟨j,-⟩ | ⟨j,F,G⟩
   ·rcases c with c | c
    ·exact absurd c h
    ·omega
   ·exact⟨j,F,G,by rw[p];simp[dA],r⟩
  ·simp only[if_neg c] at h ⊢
   obtain⟨x,j,v,r,p,s,-⟩:=kY E u q self shapes i w (λe=>c (.inl e))
   have l:x=jV t i:=by
    rcases j with ⟨_,e⟩ | ⟨e,_⟩
    ·exact e
    ·exact absurd (.inr e) c
   obtain⟨z,A,m,C,D⟩:=pB E u q self shapes k (i+1) _ h
   refine⟨z,by rw[A,s],m+1,by rw[C];omega,?_⟩
   rcases D with ⟨a,b,d,e⟩ | ⟨y,a,b,d,e,f,g⟩
   ·refine .inl ⟨a,by omega,?_,?_⟩
    ·rw[d,p,l];simp only[dA];omega
    ·rw[e,show(if k+1=0 then w.at_ else t.at_)=t.at_ from if_neg (by omega)]
     split
     ·rw[r,l,fin_at q]
     ·rfl
   ·refine .inr ⟨y,by omega,b,d,e,?_,g⟩
    rw[f,p,l];simp only[dA];omega
theorem uN {E:hV} {l m:Int} {t:aN} {S out:aR} {g turns exit n:Int} (h:mY E l m t S g turns=(out,exit,n,0)) : l=0/\m=0/\0<=g/\0<=turns/\turns<=1000/\∃e f,S.threads[g.toNat]? = some e/\e.frames.getLast? = some f/\e.state=0/\f.fn=t.fn/\f.at_=t.at_/\ (bQ E t f.self S.shapes turns.toNat 0 (cL t S f)).2.2.2≠2/\S.steps+(bQ E t f.self S.shapes turns.toNat 0 (cL t S f)).1.steps<=1000000000/\ out=gX S g.toNat (bQ E t f.self S.shapes turns.toNat 0 (cL t S f)).1/\exit=(bQ E t f.self S.shapes turns.toNat 0 (cL t S f)).2.1/\n=(bQ E t f.self S.shapes turns.toNat 0 (cL t S f)).2.2.1:=by
 unfold mY at h;split at h;·injection h with _ h;injection h with _ h;injection h with _ h;omega
 split at h;·injection h with _ h;injection h with _ h;injection h with _ h;omega
 split at h;·injection h with _ h;injection h with _ h;injection h with _ h;omega
 rename_i u v _ e j;have p:0<=g/\S.threads[g.toNat]? = some e:=by
  split at j;·cases j
  ·exact⟨by omega,j⟩
 split at h;·injection h with _ h;injection h with _ h;injection h with _ h;omega
 rename_i w;split at h;·injection h with _ h;injection h with _ h;injection h with _ h;omega
 rename_i x;split at h;·injection h with _ h;injection h with _ h;injection h with _ h;omega
 rename_i f hf;dsimp only at h;have i:e.state=0/\f.fn=t.fn/\f.at_=t.at_:=by
  have d:gV t S g=true:=by simpa using w
  unfold gV at d;rw[if_neg (by omega),p.2] at d;dsimp only at d;rw[hf] at d;simp only[Bool.and_eq_true,beq_iff_eq] at d;exact⟨d.1.1,d.1.2,d.2⟩
 split at h;·injection h with _ h;injection h with _ h;injection h with _ h;omega
 rename_i d;split at h;·injection h with _ h;injection h with _ h;injection h with _ h;omega
 rename_i y;injection h with q h
 injection h with r h
 injection h with s _
 exact⟨Classical.not_not.1 u,Classical.not_not.1 v,p.1,by omega,by omega,e,f,p.2,hf,i.1,i.2.1,i.2.2,d,by omega,q.symm,r.symm,s.symm⟩
theorem lK {S:aR} {e:Nat} {d:bW} {f:a8} (g:S.threads[e]? = some d) (h:d.frames.getLast? = some f) (w:aI) : gX S e w = { S with cells:=w.cells,steps:=S.steps+w.steps,threads:=S.threads.set e { d with frames:=d.frames.dropLast++[{ f with at_:=w.at_,regs:=w.regs }] } }:=by unfold gX;rw[g];dsimp only;rw[h]
theorem uC {S:aR} {e:Nat} {g:bW} {f:a8} (h:S.threads[e]? = some g) (i:g.frames.getLast? = some f) (w:aI) : ∃d,(gX S e w).threads[e]? = some d/\d.frames.length=g.frames.length/\d.frames.getLast? = some { f with at_:=w.at_,regs:=w.regs }:=by
 rw[lK h i];have hi:=(lE h).1;obtain⟨l,hl⟩:=List.getLast?_eq_some_iff.1 i;refine⟨_,List.getElem?_set_self hi,?_,?_⟩;·rw[hl];simp
 ·simp
def exitAt (t:aN) (exit:Int):cW:=if 0<=exit then(t.exits[exit.toNat]?).getD t.back else jV t 0
theorem irun_regs {E:hV} {J K:Int} {t:aN} {S out:aR} {u exit n:Int} (L:jA t) (M:wT t) (h:mY E J K t S u 1=(out,exit,n,0)) : 0<=u/\exit<t.exits.length/\∃j f e f',S.threads[u.toNat]? = some j/\j.frames.getLast? = some f/\out.threads[u.toNat]? = some e/\e.frames.getLast? = some f'/\f'.regs.length=f.regs.length/\ ∀r:Nat,(∀s∈(exitAt t exit).sets,s.reg.toNat≠r)->f'.regs[r]? = f.regs[r]?:=by
 obtain⟨-,-,D,ht,-,j,f,y,z,-,-,O,m,-,i,g,p⟩:=uN h;have w:bQ E t f.self S.shapes (1:Int).toNat 0 (cL t S f)=bQ E t f.self S.shapes (0+1) 0 (cL t S f):=rfl;rw[w] at m i g p;obtain⟨e,b1,-,l⟩:=uC y z (bQ E t f.self S.shapes (0+1) 0 (cL t S f)).1;unfold bQ at m i g p b1 l;have v:(dN E t f.self S.shapes 0 (cL t S f)).2.2≠2:=by intro I;simp only[if_pos (Or.inl I:(dN E t f.self S.shapes 0 (cL t S f)).2.2=2\/0<=(dN E t f.self S.shapes 0 (cL t S f)).2.1)] at m;exact m I
 obtain⟨x,F,P,R,V,G,H⟩:=kY E L M f.self S.shapes 0 (cL t S f) v;by_cases c:(dN E t f.self S.shapes 0 (cL t S f)).2.2=2\/0<=(dN E t f.self S.shapes 0 (cL t S f)).2.1
 ·simp only[if_pos c] at i g p b1 l;rcases F with ⟨q,_⟩ | ⟨q1,A,N⟩
  ·rcases c with c | c;·exact absurd c v
   ·omega
  refine⟨D,by rw[g];exact A,j,f,e,_,y,z,by rw[i];exact b1,l,G,λr d=>?_⟩;refine H r ?_;rw[g] at d;unfold exitAt at d;rw[if_pos q1,N] at d;exact d
 ·simp only[if_neg c] at i g p b1 l;rcases F with ⟨q1,A⟩ | ⟨q,_⟩;·have C:exit = -1:=g;refine⟨D,by omega,j,f,e,_,y,z,by rw[i];exact b1,l,G,λr d=>?_⟩;refine H r ?_;rw[C] at d;unfold exitAt at d;rw[if_neg (by omega)] at d;rw[A];exact d
  ·exact absurd (.inr q) c
end
section
def hG (cs cs':List bC):Prop:=∀(i:Nat) c,cs[i]? = some c->∃c',cs'[i]? = some c'/\c'.kind=c.kind/\c.vals.length<=c'.vals.length
theorem hG.refl (cs:List bC):hG cs cs:=λ_ c h=>⟨c,h,rfl,Nat.le_refl _⟩
theorem hG.len {cs d:List bC} (h:hG cs d):cs.length<=d.length:=by
 rcases Nat.lt_or_ge d.length cs.length with c | c;·obtain⟨c',e,_⟩:=h d.length _ (lG c);have:=(lE e).1;omega
 ·exact c
theorem hG.set {cs f:List bC} (h:hG cs f) {n:Nat} {c d:bC} (g:f[n]? = some c) (r:n<cs.length->d.kind=c.kind/\c.vals.length<=d.vals.length):hG cs (f.set n d):=λi a hi=>by
 obtain⟨c',j,m,p⟩:=h i a hi
 by_cases e:n=i
 ·subst e
  rw[j] at g;injection g with g;subst g
  have l:=(lE hi).1
  obtain⟨q,s⟩:=r l
  exact⟨d,List.getElem?_set_self (lE j).1,by rw[q,m],by omega⟩
 ·exact⟨c',by rw[List.getElem?_set_ne e];exact j,m,p⟩
theorem hG.snoc {cs e:List bC} (h:hG cs e) (d:bC):hG cs (e++[d]):=λi a hi=>by
 obtain⟨c',f,g,j⟩:=h i a hi
 exact⟨c',by rw[List.getElem?_append_left (lE f).1];exact f,g,j⟩
structure lW (cs:List bC) (t:aN) (k:Nat) (w:aI):Prop where
 keep:hG cs w.cells
 len:w.vals.length=t.ins.length
 free:∀v:Nat,v<k->(jE t v).op=18->(cX w v).kind=5/\(cs.length:Int)<=(cX w v).n
theorem sE {w:aI} {v:Int} {n:Nat} {c:bC} (h:eF w v=some (n,c)):w.cells[n]? = some c/\(cX w v).kind=5/\(cX w v).n=n:=by
 unfold eF at h;split at h
 ·rename_i g;obtain⟨c',e,d⟩:=Option.map_eq_some_iff.1 h;injection d with d f
  subst d f;exact⟨e,g.1,by omega⟩
 ·cases h
structure fH (cs:List bC) (i:Nat) (w w':aI):Prop where
 keep:hG cs w.cells->hG cs w'.cells
 len:w'.vals.length=w.vals.length
 vals:∀v:Nat,v≠i->w'.vals[v]? = w.vals[v]?
theorem fH.refl (cs:List bC) (i:Nat) (w:aI):fH cs i w w:=⟨id,rfl,λ_ _=>rfl⟩
theorem mC (cs:List bC) (w:aI) (i:Nat) (v:Val):fH cs i w (fS w i v):=⟨id,by simp[fS],λu d=>by show(w.vals.set i v)[u]? = _;rw[List.getElem?_set_ne (Ne.symm d)]⟩
theorem qM (cs:List bC) (i:Nat) {w:aI} {v:Int} {n:Nat} {c d:bC} (h:eF w v=some (n,c)) (e:d.kind=c.kind/\c.vals.length<=d.vals.length):fH cs i w (setCW w n d):= ⟨λk=>k.set (sE h).1 (λ_=>e),rfl,λ_ _=>rfl⟩
theorem zH (cs:List bC) (w:aI) (i:Nat) (k:Int):fH cs i w (dX w i k).1:=by
 unfold dX;split;·exact .refl cs i w
 ·exact⟨λh=>h.snoc _,by simp,λu d=>by show(w.vals.set i _)[u]? = _;rw[List.getElem?_set_ne (Ne.symm d)]⟩
theorem slot_s (cs:List bC) (w:aI) (i:Nat) (x:bG):fH cs i w (gW w i x).1:=by
 unfold gW;split;·exact .refl cs i w
 ·rename_i n c d;split;·exact .refl cs i w
  ·split;·exact mC _ _ _ _
   ·split;·exact qM cs i d ⟨rfl,by simp⟩
    ·exact mC _ _ _ _
theorem grow_s (cs:List bC) (sh:List aT) (w:aI) (i:Nat) (x:bG):fH cs i w (jT sh w x).1:=by
 unfold jT;split;·exact .refl cs i w
 ·rename_i n c d;split;·exact .refl cs i w
  ·split;·exact .refl cs i w
   ·split;·exact .refl cs i w
    ·exact qM cs i d ⟨rfl,by simp⟩
theorem push_s (cs:List bC) (w:aI) (i:Nat) (x:bG):fH cs i w (iT w x).1:=by
 unfold iT;split;·exact .refl cs i w
 ·rename_i n c d;split;·exact .refl cs i w
  ·split;·exact qM cs i d ⟨rfl,by simp⟩
   ·split <;> exact .refl cs i w
theorem item_s (cs:List bC) (w:aI) (i:Nat) (x:bG):fH cs i w (lP w i x).1:=by
 unfold lP;split;·exact .refl cs i w
 ·rename_i n c d;split;·exact .refl cs i w
  ·split;·exact .refl cs i w
   ·split;·exact mC _ _ _ _
    ·exact qM cs i d ⟨rfl,by simp⟩
theorem sB (cs:List bC) (E:hV) (self:Val) (shapes:List aT) (w:aI) (i:Nat) (x:bG):fH cs i w (doI E self shapes w i x).1:=by unfold doI;refine bU (λr:aI×Int=>fH cs i w r.1) (λ_=>mC _ _ _ _) λ_=>?_;refine bU (λr:aI×Int=>fH cs i w r.1) (λ_=>mC _ _ _ _) λ_=>?_;refine bU (λr:aI×Int=>fH cs i w r.1) (λ_=>mC _ _ _ _) λ_=>?_;refine bU (λr:aI×Int=>fH cs i w r.1) (λ_=>.refl cs i w) λ_=>?_;refine bU (λr:aI×Int=>fH cs i w r.1) (λ_=>mC _ _ _ _) λ_=>?_;refine bU (λr:aI×Int=>fH cs i w r.1) (λ_=>mC _ _ _ _) λ_=>?_;refine bU (λr:aI×Int=>fH cs i w r.1) (λ_=>slot_s _ _ _ _) λ_=>?_;refine bU (λr:aI×Int=>fH cs i w r.1) (λ_=>grow_s _ _ _ _ _) λ_=>?_;refine bU (λr:aI×Int=>fH cs i w r.1) (λ_=>item_s _ _ _ _) λ_=>?_;refine bU (λr:aI×Int=>fH cs i w r.1) (λ_=>zH _ _ _ _) λ_=>?_;refine bU (λr:aI×Int=>fH cs i w r.1) (λ_=>push_s _ _ _ _) λ_=>?_;exact bU (λr:aI×Int=>fH cs i w r.1) (λ_=>.refl cs i w) λ_=>zH _ _ _ _
theorem uH {w w':aI} {v:Nat} (h:w'.vals[v]? = w.vals[v]?):cX w' (v:Int)=cX w v:=by unfold cX;rw[show(v:Int).toNat=v from rfl,h]
def mV (t:aN) (x:cW) (k:Nat):Prop:=∀m∈x.makes,0<=m.cell/\m.cell<k/\(jE t m.cell).op=18
structure vF (t:aN):Prop where
 exits:∀(i:Nat) x e,t.ins[i]? = some x->0<=x.exit->t.exits[x.exit.toNat]? = some e->mV t e i
 turn:0<t.loop->mV t t.turn t.loop.toNat
 back:mV t t.back t.ins.length
theorem lW.less {cs:List bC} {t:aN} {k d:Nat} {w:aI} (h:lW cs t k w) (e:d<=k):lW cs t d w:=⟨h.keep,h.len,λv a b=>h.free v (by omega) b⟩
theorem adJ (E:hV) (self:Val) (shapes:List aT) (w:aI) (i:Nat) (x:bG):(doI E self shapes w i x).2=0\/(doI E self shapes w i x).2=1\/(doI E self shapes w i x).2=2:=by
 have d:∀(r:Val×Int),(iQ w i x.exit r).2=0\/(iQ w i x.exit r).2=1\/(iQ w i x.exit r).2=2:=λr=>by
  unfold iQ;dsimp only;split;·exact .inl rfl
  ·split;·exact .inr (.inr rfl)
   ·exact .inr (.inl rfl)
 have e:∀b,isW b 1=0\/isW b 1=1\/isW b 1=2:=λb=>by cases b <;> simp[isW]
 have fresh:∀k,(dX w i k).2=0\/(dX w i k).2=1\/(dX w i k).2=2:=λk=>by
  unfold dX;split;·exact .inr (.inl rfl)
  ·exact .inl rfl
 unfold doI;refine bU (λr:aI×Int=>r.2=0\/r.2=1\/r.2=2) (λ_=>.inl rfl) λ_=>?_;refine bU (λr:aI×Int=>r.2=0\/r.2=1\/r.2=2) (λ_=>.inl rfl) λ_=>?_;refine bU (λr:aI×Int=>r.2=0\/r.2=1\/r.2=2) (λ_=>.inl rfl) λ_=>?_;refine bU (λr:aI×Int=>r.2=0\/r.2=1\/r.2=2) (λ_=>e _) λ_=>?_;refine bU (λr:aI×Int=>r.2=0\/r.2=1\/r.2=2) (λ_=>d _) λ_=>?_;refine bU (λr:aI×Int=>r.2=0\/r.2=1\/r.2=2) (λ_=>d _) λ_=>?_;refine bU (λr:aI×Int=>r.2=0\/r.2=1\/r.2=2) (λ_=>?_) λ_=>?_
 ·unfold gW;split;·exact .inr (.inr rfl)
  ·split;·exact .inr (.inr rfl)
   ·split;·exact .inl rfl
    ·split <;> exact .inl rfl
 refine bU (λr:aI×Int=>r.2=0\/r.2=1\/r.2=2) (λ_=>?_) λ_=>?_
 ·unfold jT;split;·exact .inr (.inr rfl)
  ·split;·exact .inr (.inr rfl)
   ·split;·exact .inr (.inl rfl)
    ·split;·exact .inr (.inl rfl)
     ·exact .inl rfl
 refine bU (λr:aI×Int=>r.2=0\/r.2=1\/r.2=2) (λ_=>?_) λ_=>?_
 ·unfold lP;split;·exact .inr (.inr rfl)
  ·split;·exact .inr (.inr rfl)
   ·split;·exact .inr (.inl rfl)
    ·split <;> exact .inl rfl
 refine bU (λr:aI×Int=>r.2=0\/r.2=1\/r.2=2) (λ_=>fresh _) λ_=>?_;refine bU (λr:aI×Int=>r.2=0\/r.2=1\/r.2=2) (λ_=>?_) λ_=>?_
 ·unfold iT;split;·exact .inr (.inr rfl)
  ·split;·exact .inr (.inr rfl)
   ·split;·exact .inl rfl
    ·split;·exact .inr (.inr rfl)
     ·exact .inr (.inl rfl)
 exact bU (λr:aI×Int=>r.2=0\/r.2=1\/r.2=2) (λ_=>e _) λ_=>fresh _
end
section
def xI (at_:List Int) (v:Int):Int:=if v<0 then -1 else match at_[v.toNat]? with | none=>-1 | some a=>if a<0 then -1 else a
def setC (at_:List Int) (s:pS):pS:=⟨s.reg,xI at_ s.val⟩
structure wS where
 at_:List Int
 fine:Bool
 loop:Int
 ins:List bG
def pM (n:Nat) (x:cW):Prop:=(∀s∈x.sets,0<=s.val/\s.val<n)/\∀m∈x.makes,(0<=m.cell/\m.cell<n)/\∀v∈m.vals,0<=v/\v<n
structure Cuts (t:aN):Prop where
 ins:∀(k:Nat) (x:bG),t.ins[k]? = some x->∀v∈iU x,0<=v/\v<(k:Int)
 exits:∀x∈t.exits,pM t.ins.length x
 turn:pM t.ins.length t.turn
 back:pM t.ins.length t.back
 loop0:0<=t.loop
 loop1:t.loop<=t.ins.length
theorem wV {ins:List bG} {l:List Int} {at_:Int} (h:gT ins l at_=true):∀v∈l,0<=v/\v<at_/\v<ins.length:=λv d=>by
 unfold gT at h
 have:=List.all_eq_true.1 h v d
 simp only[fF,Bool.and_eq_true,decide_eq_true_eq] at this
 exact⟨this.1.1.1,this.1.1.2,this.1.2⟩
theorem q9 {regs:Int} {ins:List bG} {at_:Int} : ∀(last:Int) (l:List pS),nC regs ins at_ last l=true->∀s∈l,0<=s.val/\s.val<at_/\s.val<ins.length
 | _,[],_,_,hs=>by simp at hs
 | last,x::l,h,s,hs=>by
  simp only[nC,fF,Bool.and_eq_true,decide_eq_true_eq] at h
  rcases List.mem_cons.1 hs with rfl | hs
  ·exact⟨h.1.2.1.1.1,h.1.2.1.1.2,h.1.2.1.2⟩
  ·exact q9 _ l h.2 s hs
theorem mP {ins:List bG} {at_:Int} : ∀(last:Int) (l:List fZ),iE ins at_ last l=true->∀m∈l,(0<=m.cell/\m.cell<at_/\m.cell<ins.length)/\∀v∈m.vals,0<=v/\v<at_/\v<ins.length
 | _,[],_,_,hs=>by simp at hs
 | last,x::l,h,m,hm=>by
  simp only[iE,Bool.and_eq_true,decide_eq_true_eq] at h
  rcases List.mem_cons.1 hm with rfl | hm
  ·have e:=h.1.2
   simp only[nD,Bool.and_eq_true] at e
   have d:=e.1.1.1.1
   simp only[fF,Bool.and_eq_true,decide_eq_true_eq] at d
   exact⟨⟨d.1.1.1,d.1.1.2,d.1.2⟩,wV e.2⟩
  ·exact mP _ l h.2 m hm
theorem gZ {aG:Val->Bool} {j:Int} {fns:List FnM} {t:aN} (h:fA aG j fns t=0) : t.ins.length<=300/\t.exits.length<=200/\∃fn,(0<=t.fn/\fns[t.fn.toNat]? = some fn)/\(0<=t.at_/\t.at_<fn.len)/\(0<=t.loop/\t.loop<=t.ins.length)/\rO aG fn t 0 t.ins=0/\ (t.loop=0->lT t.turn=true)/\(0<t.loop->t.turn.at_=t.at_/\bR fn t.ins t.turn t.loop=true)/\(t.back.at_=t.at_/\bR fn t.ins t.back t.ins.length=true)/\t.exits.all (bR fn t.ins · t.ins.length)=true:=by
 unfold fA at h;split at h;·omega
 split at h;·cases h
 split at h;·cases h
 rename_i q _ fn d;have i:0<=t.fn/\fns[t.fn.toNat]? = some fn:=by
  split at d;·cases d
  ·exact⟨by omega,d⟩
 split at h;·cases h
 simp only at h;split at h;·rename_i l;exact(l h).elim
 rename_i m;split at h;·cases h
 rename_i f;split at h;·cases h
 rename_i g;split at h;case isFalse=>cases h
 rename_i p;refine⟨by omega,by omega,fn,i,by omega,by omega,by simpa using m,λc=>?_,λc=>?_,?_,p⟩
 ·cases hb:lT t.turn;·exact(f (.inl ⟨c,hb⟩)).elim
  ·rfl
 ·refine⟨?_,?_⟩
  ·by_cases e:t.turn.at_=t.at_;·exact e
   ·exact(f (.inr ⟨c,.inl e⟩)).elim
  ·cases hb:bR fn t.ins t.turn t.loop;·exact(f (.inr ⟨c,.inr hb⟩)).elim
   ·rfl
 ·refine⟨?_,?_⟩
  ·by_cases e:t.back.at_=t.at_;·exact e
   ·exact(g (.inl e)).elim
  ·cases hb:bR fn t.ins t.back t.ins.length;·exact(g (.inr hb)).elim
   ·rfl
end
end Go.Proofs.YtjaphgpkkfdaaaaGreatDoor
