/- A part of the walk. -/
import Derived.Test.YtijihlcdhppfgaaGreatDoorZG
set_option maxHeartbeats 16000000
set_option maxRecDepth 100000
set_option linter.all false
namespace Go.Proofs.YtijihlcdhppfgaaGreatDoor
open Tryz
section
def mB (t:aH):Prop:=∀(i:Nat) x,t.ins[i]? = some x->x.op=1\/x.op=2\/x.op=3\/x.op=10\/x.op=11\/x.op=15\/(((x.op=7\/x.op=8\/x.op=17)/\x.exit<0))\/(0<=x.exit/\x.exit<t.exits.length)
theorem pM {aF:Val->Bool} {ce:Int} {fns:List FnM} {t:aH} (h:cQ aF ce fns t=0):mB t:=λi x hx=>by
 obtain⟨_,fn,h1⟩:=xH h
 obtain⟨h0,h2⟩:=fW t.ins 0 h1 i x hx
 simp only[eJ,Bool.and_eq_true] at h2
 have h3:=h2.2
 rcases rK h0 with c | c | c | c | c | c | c | c | c | c | c | c | c | c | c | c | c | c | c <;> rw[c] at h3
 all_goals first
  | (left;exact c)
  | (right;left;exact c)
  | (right;right;left;exact c)
  | (right;right;right;left;exact c)
  | (right;right;right;right;left;exact c)
  | (right;right;right;right;right;left;exact c)
  | skip
 all_goals right;right;right;right;right;right
 all_goals
  simp only[bP,beq_iff_eq,Bool.or_eq_true,Bool.and_eq_true,Int.reduceEq,↓reduceIte,decide_eq_true_eq,false_or,or_false,true_and,false_and,reduceCtorEq] at h3
  first
   | (right;exact⟨h3.1.1,h3.1.2⟩)
   | (by_cases e:x.exit = -1;(left;exact⟨by omega,by omega⟩);(rw[if_neg e] at h3;simp only[Bool.and_eq_true,decide_eq_true_eq] at h3;right;exact⟨h3.1.1,h3.1.2⟩))
theorem cI {α : Type} {c:Prop} [Decidable c] {a b : α} (P : α->Prop) (d:c->P a) (hb:¬c->P b):P (if c then a else b):=by
 by_cases h:c;·rw[if_pos h];exact d h
 ·rw[if_neg h];exact hb h
structure lB (w w':aG):Prop where
 regs:w'.regs=w.regs
 at_:w'.at_=w.at_
 steps:w'.steps=w.steps
theorem lB.refl (w:aG):lB w w:=⟨rfl,rfl,rfl⟩
theorem q9 (w:aG) (i:Nat) (v:Val):lB w (setV w i v):=⟨rfl,rfl,rfl⟩
theorem sD (w:aG) (n:Nat) (c:bJ):lB w (setCW w n c):=⟨rfl,rfl,rfl⟩
theorem ahS (w:aG) (i:Nat) (x:Int) (r:Val×Int):lB w (gX w i x r).1:=q9 _ _ _
theorem aeZ (w:aG) (i:Nat) (k:Int):lB w (eP w i k).1:=by unfold eP;split <;> exact⟨rfl,rfl,rfl⟩
theorem slot_f (w:aG) (i:Nat) (x:aT):lB w (jK w i x).1:=by
 unfold jK;split;·exact .refl w
 ·split;·exact .refl w
  ·split;·exact q9 _ _ _
   ·split;·exact sD _ _ _
    ·exact q9 _ _ _
theorem grow_f (sh:List aO) (w:aG) (x:aT):lB w (lH sh w x).1:=by
 unfold lH;split;·exact .refl w
 ·split;·exact .refl w
  ·split;·exact .refl w
   ·split;·exact .refl w
    ·exact sD _ _ _
theorem push_f (w:aG) (x:aT):lB w (j6 w x).1:=by
 unfold j6;split;·exact .refl w
 ·split;·exact .refl w
  ·split;·exact sD _ _ _
   ·split <;> exact .refl w
theorem item_f (w:aG) (i:Nat) (x:aT):lB w (nE w i x).1:=by
 unfold nE;split;·exact .refl w
 ·split;·exact .refl w
  ·split;·exact .refl w
   ·split;·exact q9 _ _ _
    ·exact sD _ _ _
theorem ag0 (E:iH) (self:Val) (shapes:List aO) (w:aG) (i:Nat) (x:aT):lB w (doI E self shapes w i x).1:=by unfold doI;refine cI (λr:aG×Int=>lB w r.1) (λ_=>q9 _ _ _) λ_=>?_;refine cI (λr:aG×Int=>lB w r.1) (λ_=>q9 _ _ _) λ_=>?_;refine cI (λr:aG×Int=>lB w r.1) (λ_=>q9 _ _ _) λ_=>?_;refine cI (λr:aG×Int=>lB w r.1) (λ_=>.refl w) λ_=>?_;refine cI (λr:aG×Int=>lB w r.1) (λ_=>ahS _ _ _ _) λ_=>?_;refine cI (λr:aG×Int=>lB w r.1) (λ_=>ahS _ _ _ _) λ_=>?_;refine cI (λr:aG×Int=>lB w r.1) (λ_=>slot_f _ _ _) λ_=>?_;refine cI (λr:aG×Int=>lB w r.1) (λ_=>grow_f _ _ _) λ_=>?_;refine cI (λr:aG×Int=>lB w r.1) (λ_=>item_f _ _ _) λ_=>?_;refine cI (λr:aG×Int=>lB w r.1) (λ_=>aeZ _ _ _) λ_=>?_;refine cI (λr:aG×Int=>lB w r.1) (λ_=>push_f _ _) λ_=>?_;exact cI (λr:aG×Int=>lB w r.1) (λ_=>.refl w) λ_=>aeZ _ _ _
theorem pK (E:iH) (t:aH) (self:Val) (shapes:List aO) (w:aG) (i:Nat):lB w (doW E t self shapes w i).1:=ag0 E self shapes w i _
theorem adA (w:aG) (m:dX):(gF w m).1.regs=w.regs/\(gF w m).1.at_=w.at_/\(gF w m).1.steps=w.steps:=by
 have h:lB w (gF w m).1:=by
  unfold gF;split;·exact .refl w
  ·split;·exact .refl w
   ·exact sD _ _ _
 exact⟨h.regs,h.at_,h.steps⟩
theorem pG:∀(l:List dX) (w:aG),(eO w l).1.regs=w.regs/\(eO w l).1.at_=w.at_/\(eO w l).1.steps=w.steps
 | [],w=>⟨rfl,rfl,rfl⟩
 | m::l,w=>by
  have h1:=adA w m
  unfold eO
  split
  ·exact h1
  ·have d:=pG l (gF w m).1
   exact⟨d.1.trans h1.1,d.2.1.trans h1.2.1,d.2.2.trans h1.2.2⟩
theorem nV:∀(l:List oL) (w:aG),(gY w l).at_=w.at_/\(gY w l).steps=w.steps/\(gY w l).cells=w.cells/\(gY w l).vals=w.vals/\(gY w l).regs.length=w.regs.length/\∀r:Nat,(∀s∈l,s.reg.toNat≠r)->(gY w l).regs[r]? = w.regs[r]?
 | [],w=>⟨rfl,rfl,rfl,rfl,rfl,λ_ _=>rfl⟩
 | s::l,w=>by
  have h:=nV l { w with regs:=w.regs.set s.reg.toNat (bL w s.val) }
  refine⟨h.1,h.2.1,h.2.2.1,h.2.2.2.1,?_,λr d=>?_⟩
  ·exact h.2.2.2.2.1.trans (by simp)
  ·refine(h.2.2.2.2.2 r (λq f=>d q (by simp[f]))).trans ?_
   exact List.getElem?_set_ne (d s (by simp))
theorem zL (w:aG) (x:bX) (h:(g8 w x).2≠2):(g8 w x).2=0/\(g8 w x).1.at_=x.at_/\(g8 w x).1.steps=w.steps+x.steps/\(g8 w x).1.regs.length=w.regs.length/\∀r:Nat,(∀s∈x.sets,s.reg.toNat≠r)->(g8 w x).1.regs[r]? = w.regs[r]?:=by
 have g:∀(l:List dX) (w:aG),(eO w l).2=0\/(eO w l).2=2:=by
  intro l
  induction l with
  | nil=>intro w;exact .inl rfl
  | cons m l ih=>
   intro w
   unfold eO
   split
   ·rename_i d
    unfold gF at d ⊢
    repeat' split
    all_goals first | exact .inr rfl | exact .inl rfl
   ·exact ih _
 unfold g8 at h ⊢;split at h
 ·rename_i d;rcases g x.makes w with c | c;·exact absurd c d
  ·exact absurd c h
 ·rename_i d;rw[if_neg d];have h1:=pG x.makes w;have f:=nV x.sets (eO w x.makes).1;refine⟨rfl,rfl,?_,?_,λr j=>?_⟩;·show(gY _ _).steps+x.steps=_;rw[f.2.1,h1.2.2]
  ·show(gY _ _).regs.length=_;rw[f.2.2.2.2.1,h1.1]
  ·show(gY _ _).regs[r]? = _;rw[f.2.2.2.2.2 r j,h1.1]
theorem aaR (E:iH) {t:aH} (j:mB t) (self:Val) (shapes:List aO) (w:aG) {i:Nat} (hi:i<t.ins.length) (h:(doW E t self shapes w i).2=1):0<=(bT t i).exit/\(bT t i).exit<t.exits.length:=by
 have e:t.ins[i]? = some (bT t i):=by unfold bT;rw[show(i:Int).toNat=i from rfl,lG hi];rfl
 have:=j i _ e;unfold doW at h;generalize bT t i=x at this h ⊢;have f:∀(r:Val×Int),(gX w i x.exit r).2=1->¬x.exit<0:=λr d=>by
  unfold gX at d;dsimp only at d;split at d;·cases d
  ·split at d;·cases d
   ·assumption
 have g:(jK w i x).2≠1:=by
  unfold jK;split;·intro h;cases h
  ·split;·intro h;cases h
   ·split;·intro h;cases h
    ·split <;> (intro h;cases h)
 have push:(j6 w x).2=1->¬x.exit<0:=by
  unfold j6;split;·intro h;cases h
  ·split;·intro h;cases h
   ·split;·intro h;cases h
    ·split;·intro h;cases h
     ·intro _;assumption
 revert h;unfold doI;refine cI (λr:aG×Int=>r.2=1->_) (λ_ h=>by cases h) λs=>?_;refine cI (λr:aG×Int=>r.2=1->_) (λ_ h=>by cases h) λu=>?_;refine cI (λr:aG×Int=>r.2=1->_) (λ_ h=>by cases h) λv=>?_;refine cI (λr:aG×Int=>r.2=1->_) (λc _=>by omega) λc4=>?_;refine cI (λr:aG×Int=>r.2=1->_) (λc h=>by have:=f _ h;omega) λy=>?_;refine cI (λr:aG×Int=>r.2=1->_) (λc h=>by have:=f _ h;omega) λz=>?_;refine cI (λr:aG×Int=>r.2=1->_) (λc h=>absurd h g) λA=>?_;refine cI (λr:aG×Int=>r.2=1->_) (λc h=>by omega) λD=>?_;refine cI (λr:aG×Int=>r.2=1->_) (λc h=>by omega) λF=>?_;refine cI (λr:aG×Int=>r.2=1->_) (λc h=>by omega) λl=>?_;refine cI (λr:aG×Int=>r.2=1->_) (λc h=>by have:=push h;omega) λp=>?_;exact cI (λr:aG×Int=>r.2=1->_) (λc h=>by omega) λq h=>by omega
theorem kB (E:iH) {t:aH} (j:mB t) (self:Val) (shapes:List aO) (fin:bX):∀(k i:Nat) (w:aG),i+k<=t.ins.length->(dA E t self shapes fin k i w).2.2≠2->
  ∃x,(((dA E t self shapes fin k i w).2.1 = -1/\x=fin)\/(0<=(dA E t self shapes fin k i w).2.1/\(dA E t self shapes fin k i w).2.1<t.exits.length/\t.exits[(dA E t self shapes fin k i w).2.1.toNat]? = some x))/\(dA E t self shapes fin k i w).2.2=0/\
   (dA E t self shapes fin k i w).1.at_=x.at_/\(dA E t self shapes fin k i w).1.steps=w.steps+x.steps/\(dA E t self shapes fin k i w).1.regs.length=w.regs.length/\∀r:Nat,(∀s∈x.sets,s.reg.toNat≠r)->(dA E t self shapes fin k i w).1.regs[r]? = w.regs[r]?
 | 0,i,w,_,h=>by
  unfold dA at h ⊢
  exact⟨fin,.inl ⟨rfl,rfl⟩,zL w fin h⟩
 | k+1,i,w,hk,h=>by
  have hf:=pK E t self shapes w i
  unfold dA at h ⊢
  split at h
  ·exact absurd rfl h
  rename_i z
  rw[if_neg z]
  split at h
  ·rename_i h1
   rw[if_pos h1]
   have hl:=aaR E j self shapes w (by omega) h1
   split at h
   ·exact absurd rfl h
   ·rename_i x l
    rw[l]
    dsimp only at h ⊢
    obtain⟨p,q,u,v,y⟩:=zL _ x h
    exact⟨x,.inr ⟨hl.1,hl.2,rfl⟩,p,q,by rw[u,hf.steps],by rw[v,hf.regs],λr g=>by rw[y r g,hf.regs]⟩
  ·rename_i h1
   rw[if_neg h1]
   obtain⟨x,a,b,c,d,e,f⟩:=kB E j self shapes fin k (i+1) _ (by omega) h
   exact⟨x,a,b,c,by rw[d,hf.steps],by rw[e,hf.regs],λr g=>by rw[f r g,hf.regs]⟩
end
section
def ad7 (t:aH):Prop:=t.back.at_=t.at_/\(0<t.loop->t.turn.at_=t.at_)/\0<=t.loop/\t.loop<=t.ins.length
theorem xG {aF:Val->Bool} {d:Int} {fns:List FnM} {t:aH} (h:cQ aF d fns t=0):ad7 t:=by
 unfold cQ at h;split at h;·omega
 split at h;·cases h
 split at h;·cases h
 split at h;·cases h
 rename_i h1;simp only at h;split at h;·rename_i f;exact(f h).elim
 split at h;·cases h
 rename_i g;split at h;·cases h
 rename_i j;refine⟨?_,λc=>?_,by omega,by omega⟩
 ·by_cases e:t.back.at_=t.at_;·exact e
  ·exact(j (.inl e)).elim
 ·by_cases e:t.turn.at_=t.at_;·exact e
  ·exact(g (.inr ⟨c,.inl e⟩)).elim
def pJ (t:aH) (done:Nat):bX:=if done=0/\0<t.loop then t.turn else t.back
def iK (t:aH):Nat->Nat->Int
 | _,0=>0
 | done,k+1=>(pJ t done).steps+iK t (done+1) k
theorem wG (E:iH) {t:aH} (f:mB t) (g:ad7 t) (self:Val) (shapes:List aO) (d:Nat) (w:aG) (h:(eW E t self shapes d w).2.2≠2) : ∃x,(((eW E t self shapes d w).2.1 = -1/\x=pJ t d)\/(0<=(eW E t self shapes d w).2.1/\(eW E t self shapes d w).2.1<t.exits.length/\t.exits[(eW E t self shapes d w).2.1.toNat]? = some x))/\(eW E t self shapes d w).2.2=0/\ (eW E t self shapes d w).1.at_=x.at_/\(eW E t self shapes d w).1.steps=w.steps+x.steps/\(eW E t self shapes d w).1.regs.length=w.regs.length/\∀r:Nat,(∀s∈x.sets,s.reg.toNat≠r)->(eW E t self shapes d w).1.regs[r]? = w.regs[r]?:=by
 obtain⟨-,-,h1,j⟩:=g;unfold eW at h ⊢;unfold pJ;split;·rename_i c;rw[if_pos c] at h;exact kB E f self shapes t.turn _ _ w (by omega) h
 ·rename_i c;rw[if_neg c] at h;exact kB E f self shapes t.back _ _ w (by omega) h
theorem fin_at {t:aH} (f:ad7 t) (d:Nat):(pJ t d).at_=t.at_:=by
 unfold pJ;split;·rename_i c;exact f.2.1 c.2
 ·exact f.1
theorem yZ (E:iH) {t:aH} (u:mB t) (q:ad7 t) (self:Val) (shapes:List aO):∀(k j:Nat) (w:aG),(cH E t self shapes k j w).2.2.2≠2->
  (cH E t self shapes k j w).2.2.2=0/\(cH E t self shapes k j w).1.regs.length=w.regs.length/\∃m:Nat,(cH E t self shapes k j w).2.2.1=((j+m:Nat):Int)/\
   (((cH E t self shapes k j w).2.1 = -1/\m=k/\(cH E t self shapes k j w).1.steps=w.steps+iK t j m/\(cH E t self shapes k j w).1.at_=if k=0 then w.at_ else t.at_)\/
   (∃x,m<k/\0<=(cH E t self shapes k j w).2.1/\(cH E t self shapes k j w).2.1<t.exits.length/\t.exits[(cH E t self shapes k j w).2.1.toNat]? = some x/\
     (cH E t self shapes k j w).1.steps=w.steps+iK t j m+x.steps/\(cH E t self shapes k j w).1.at_=x.at_))
 | 0,j,w,_=>⟨rfl,rfl,0,rfl,.inl ⟨rfl,rfl,by simp[cH,iK],rfl⟩⟩
 | k+1,j,w,h=>by
  unfold cH at h ⊢
  by_cases c:(eW E t self shapes j w).2.2=2\/0<=(eW E t self shapes j w).2.1
  ·simp only[if_pos c] at h ⊢
   obtain⟨x,h1,v,r,p,s,-⟩:=wG E u q self shapes j w h
   refine⟨v,s,0,rfl,.inr ⟨x,by omega,?_⟩⟩
   rcases h1 with ⟨h1,-⟩ | ⟨h1,G,H⟩
   ·rcases c with c | c
    ·exact absurd c h
    ·omega
   ·exact⟨h1,G,H,by rw[p];simp[iK],r⟩
  ·simp only[if_neg c] at h ⊢
   obtain⟨x,h1,v,r,p,s,-⟩:=wG E u q self shapes j w (λe=>c (.inl e))
   have l:x=pJ t j:=by
    rcases h1 with ⟨_,e⟩ | ⟨e,_⟩
    ·exact e
    ·exact absurd (.inr e) c
   obtain⟨z,A,m,D,F⟩:=yZ E u q self shapes k (j+1) _ h
   refine⟨z,by rw[A,s],m+1,by rw[D];omega,?_⟩
   rcases F with ⟨a,b,d,e⟩ | ⟨y,a,b,d,e,f,g⟩
   ·refine .inl ⟨a,by omega,?_,?_⟩
    ·rw[d,p,l];simp only[iK];omega
    ·rw[e,show(if k+1=0 then w.at_ else t.at_)=t.at_ from if_neg (by omega)]
     split
     ·rw[r,l,fin_at q]
     ·rfl
   ·refine .inr ⟨y,by omega,b,d,e,?_,g⟩
    rw[f,p,l];simp only[iK];omega
theorem run_ok {E:iH} {p stc:Int} {t:aH} {S out:aP} {th turns exit n:Int} (h:mC E p stc t S th turns=(out,exit,n,0)) : p=0/\stc=0/\0<=th/\0<=turns/\turns<=1000/\∃g f,S.threads[th.toNat]? = some g/\g.frames.getLast? = some f/\g.state=0/\f.fn=t.fn/\f.at_=t.at_/\ (cH E t f.self S.shapes turns.toNat 0 (gG t S f)).2.2.2≠2/\S.steps+(cH E t f.self S.shapes turns.toNat 0 (gG t S f)).1.steps<=1000000000/\ out=jS S th.toNat (cH E t f.self S.shapes turns.toNat 0 (gG t S f)).1/\exit=(cH E t f.self S.shapes turns.toNat 0 (gG t S f)).2.1/\n=(cH E t f.self S.shapes turns.toNat 0 (gG t S f)).2.2.1:=by
 unfold mC at h;split at h;·injection h with _ h;injection h with _ h;injection h with _ h;omega
 split at h;·injection h with _ h;injection h with _ h;injection h with _ h;omega
 split at h;·injection h with _ h;injection h with _ h;injection h with _ h;omega
 rename_i h1 v _ g l;have q:0<=th/\S.threads[th.toNat]? = some g:=by
  split at l;·cases l
  ·exact⟨by omega,l⟩
 split at h;·injection h with _ h;injection h with _ h;injection h with _ h;omega
 rename_i w;split at h;·injection h with _ h;injection h with _ h;injection h with _ h;omega
 rename_i x;split at h;·injection h with _ h;injection h with _ h;injection h with _ h;omega
 rename_i f hf;dsimp only at h;have j:g.state=0/\f.fn=t.fn/\f.at_=t.at_:=by
  have d:iL t S th=true:=by simpa using w
  unfold iL at d;rw[if_neg (by omega),q.2] at d;dsimp only at d;rw[hf] at d;simp only[Bool.and_eq_true,beq_iff_eq] at d;exact⟨d.1.1,d.1.2,d.2⟩
 split at h;·injection h with _ h;injection h with _ h;injection h with _ h;omega
 rename_i d;split at h;·injection h with _ h;injection h with _ h;injection h with _ h;omega
 rename_i y;injection h with r h
 injection h with s h
 injection h with u _
 exact⟨Classical.not_not.1 h1,Classical.not_not.1 v,q.1,by omega,by omega,g,f,q.2,hf,j.1,j.2.1,j.2.2,d,by omega,r.symm,s.symm,u.symm⟩
def exitAt (t:aH) (exit:Int):bX:=if 0<=exit then(t.exits[exit.toNat]?).getD t.back else pJ t 0
end
section
def nO (cs cs':List bJ):Prop:=∀(i:Nat) c,cs[i]? = some c->∃c',cs'[i]? = some c'/\c'.kind=c.kind/\c.vals.length<=c'.vals.length
theorem nO.refl (cs:List bJ):nO cs cs:=λ_ c h=>⟨c,h,rfl,Nat.le_refl _⟩
theorem nO.len {cs d:List bJ} (h:nO cs d):cs.length<=d.length:=by
 rcases Nat.lt_or_ge d.length cs.length with c | c;·obtain⟨c',e,_⟩:=h d.length _ (lG c);have:=(lE e).1;omega
 ·exact c
theorem nO.set {cs f:List bJ} (h:nO cs f) {n:Nat} {c d:bJ} (g:f[n]? = some c) (s:n<cs.length->d.kind=c.kind/\c.vals.length<=d.vals.length):nO cs (f.set n d):=λi a hi=>by
 obtain⟨c',j,p,q⟩:=h i a hi
 by_cases e:n=i
 ·subst e
  rw[j] at g;injection g with g;subst g
  have l:=(lE hi).1
  obtain⟨r,u⟩:=s l
  exact⟨d,List.getElem?_set_self (lE j).1,by rw[r,p],by omega⟩
 ·exact⟨c',by rw[List.getElem?_set_ne e];exact j,p,q⟩
theorem nO.snoc {cs f:List bJ} (h:nO cs f) (d:bJ):nO cs (f++[d]):=λi a hi=>by
 obtain⟨c',g,j,l⟩:=h i a hi
 exact⟨c',by rw[List.getElem?_append_left (lE g).1];exact g,j,l⟩
structure InvW (cs:List bJ) (t:aH) (k:Nat) (w:aG):Prop where
 keep:nO cs w.cells
 len:w.vals.length=t.ins.length
 free:∀v:Nat,v<k->(bT t v).op=18->(bL w v).kind=5/\(cs.length:Int)<=(bL w v).n
theorem ad4 {w:aG} {v:Int} {n:Nat} {c:bJ} (h:dG w v=some (n,c)):w.cells[n]? = some c/\(bL w v).kind=5/\(bL w v).n=n:=by
 unfold dG at h;split at h
 ·rename_i h1;obtain⟨c',f,d⟩:=Option.map_eq_some_iff.1 h;injection d with d g
  subst d g;exact⟨f,h1.1,by omega⟩
 ·cases h
structure iS (cs:List bJ) (i:Nat) (w w':aG):Prop where
 keep:nO cs w.cells->nO cs w'.cells
 len:w'.vals.length=w.vals.length
 vals:∀v:Nat,v≠i->w'.vals[v]? = w.vals[v]?
theorem iS.refl (cs:List bJ) (i:Nat) (w:aG):iS cs i w w:=⟨id,rfl,λ_ _=>rfl⟩
theorem o4 (cs:List bJ) (w:aG) (i:Nat) (v:Val):iS cs i w (setV w i v):=⟨id,by simp[setV],λu d=>by show(w.vals.set i v)[u]? = _;rw[List.getElem?_set_ne (Ne.symm d)]⟩
theorem uZ (cs:List bJ) (i:Nat) {w:aG} {v:Int} {n:Nat} {c d:bJ} (h:dG w v=some (n,c)) (f:d.kind=c.kind/\c.vals.length<=d.vals.length):iS cs i w (setCW w n d):= ⟨λk=>k.set (ad4 h).1 (λ_=>f),rfl,λ_ _=>rfl⟩
theorem aeX (cs:List bJ) (w:aG) (i:Nat) (k:Int):iS cs i w (eP w i k).1:=by
 unfold eP;split;·exact .refl cs i w
 ·exact⟨λh=>h.snoc _,by simp,λu d=>by show(w.vals.set i _)[u]? = _;rw[List.getElem?_set_ne (Ne.symm d)]⟩
theorem slot_s (cs:List bJ) (w:aG) (i:Nat) (x:aT):iS cs i w (jK w i x).1:=by
 unfold jK;split;·exact .refl cs i w
 ·rename_i n c d;split;·exact .refl cs i w
  ·split;·exact o4 _ _ _ _
   ·split;·exact uZ cs i d ⟨rfl,by simp⟩
    ·exact o4 _ _ _ _
theorem grow_s (cs:List bJ) (sh:List aO) (w:aG) (i:Nat) (x:aT):iS cs i w (lH sh w x).1:=by
 unfold lH;split;·exact .refl cs i w
 ·rename_i n c d;split;·exact .refl cs i w
  ·split;·exact .refl cs i w
   ·split;·exact .refl cs i w
    ·exact uZ cs i d ⟨rfl,by simp⟩
theorem push_s (cs:List bJ) (w:aG) (i:Nat) (x:aT):iS cs i w (j6 w x).1:=by
 unfold j6;split;·exact .refl cs i w
 ·rename_i n c d;split;·exact .refl cs i w
  ·split;·exact uZ cs i d ⟨rfl,by simp⟩
   ·split <;> exact .refl cs i w
theorem item_s (cs:List bJ) (w:aG) (i:Nat) (x:aT):iS cs i w (nE w i x).1:=by
 unfold nE;split;·exact .refl cs i w
 ·rename_i n c d;split;·exact .refl cs i w
  ·split;·exact .refl cs i w
   ·split;·exact o4 _ _ _ _
    ·exact uZ cs i d ⟨rfl,by simp⟩
theorem xB (cs:List bJ) (E:iH) (self:Val) (shapes:List aO) (w:aG) (i:Nat) (x:aT):iS cs i w (doI E self shapes w i x).1:=by unfold doI;refine cI (λr:aG×Int=>iS cs i w r.1) (λ_=>o4 _ _ _ _) λ_=>?_;refine cI (λr:aG×Int=>iS cs i w r.1) (λ_=>o4 _ _ _ _) λ_=>?_;refine cI (λr:aG×Int=>iS cs i w r.1) (λ_=>o4 _ _ _ _) λ_=>?_;refine cI (λr:aG×Int=>iS cs i w r.1) (λ_=>.refl cs i w) λ_=>?_;refine cI (λr:aG×Int=>iS cs i w r.1) (λ_=>o4 _ _ _ _) λ_=>?_;refine cI (λr:aG×Int=>iS cs i w r.1) (λ_=>o4 _ _ _ _) λ_=>?_;refine cI (λr:aG×Int=>iS cs i w r.1) (λ_=>slot_s _ _ _ _) λ_=>?_;refine cI (λr:aG×Int=>iS cs i w r.1) (λ_=>grow_s _ _ _ _ _) λ_=>?_;refine cI (λr:aG×Int=>iS cs i w r.1) (λ_=>item_s _ _ _ _) λ_=>?_;refine cI (λr:aG×Int=>iS cs i w r.1) (λ_=>aeX _ _ _ _) λ_=>?_;refine cI (λr:aG×Int=>iS cs i w r.1) (λ_=>push_s _ _ _ _) λ_=>?_;exact cI (λr:aG×Int=>iS cs i w r.1) (λ_=>.refl cs i w) λ_=>aeX _ _ _ _
theorem ad9 {w w':aG} {v:Nat} (h:w'.vals[v]? = w.vals[v]?):bL w' (v:Int)=bL w v:=by unfold bL;rw[show(v:Int).toNat=v from rfl,h]
def vI (t:aH) (x:bX) (k:Nat):Prop:=∀m∈x.makes,0<=m.cell/\m.cell<k/\(bT t m.cell).op=18
structure TraceMk (t:aH):Prop where
 exits:∀(i:Nat) x e,t.ins[i]? = some x->0<=x.exit->t.exits[x.exit.toNat]? = some e->vI t e i
 turn:0<t.loop->vI t t.turn t.loop.toNat
 back:vI t t.back t.ins.length
theorem InvW.less {cs:List bJ} {t:aH} {k d:Nat} {w:aG} (h:InvW cs t k w) (f:d<=k):InvW cs t d w:=⟨h.keep,h.len,λv a b=>h.free v (by omega) b⟩
theorem ajW (E:iH) (self:Val) (shapes:List aO) (w:aG) (i:Nat) (x:aT):(doI E self shapes w i x).2=0\/(doI E self shapes w i x).2=1\/(doI E self shapes w i x).2=2:=by
 have d:∀(r:Val×Int),(gX w i x.exit r).2=0\/(gX w i x.exit r).2=1\/(gX w i x.exit r).2=2:=λr=>by
  unfold gX;dsimp only;split;·exact .inl rfl
  ·split;·exact .inr (.inr rfl)
   ·exact .inr (.inl rfl)
 have f:∀b,isW b 1=0\/isW b 1=1\/isW b 1=2:=λb=>by cases b <;> simp[isW]
 have fresh:∀k,(eP w i k).2=0\/(eP w i k).2=1\/(eP w i k).2=2:=λk=>by
  unfold eP;split;·exact .inr (.inl rfl)
  ·exact .inl rfl
 unfold doI;refine cI (λr:aG×Int=>r.2=0\/r.2=1\/r.2=2) (λ_=>.inl rfl) λ_=>?_;refine cI (λr:aG×Int=>r.2=0\/r.2=1\/r.2=2) (λ_=>.inl rfl) λ_=>?_;refine cI (λr:aG×Int=>r.2=0\/r.2=1\/r.2=2) (λ_=>.inl rfl) λ_=>?_;refine cI (λr:aG×Int=>r.2=0\/r.2=1\/r.2=2) (λ_=>f _) λ_=>?_;refine cI (λr:aG×Int=>r.2=0\/r.2=1\/r.2=2) (λ_=>d _) λ_=>?_;refine cI (λr:aG×Int=>r.2=0\/r.2=1\/r.2=2) (λ_=>d _) λ_=>?_;refine cI (λr:aG×Int=>r.2=0\/r.2=1\/r.2=2) (λ_=>?_) λ_=>?_
 ·unfold jK;split;·exact .inr (.inr rfl)
  ·split;·exact .inr (.inr rfl)
   ·split;·exact .inl rfl
    ·split <;> exact .inl rfl
 refine cI (λr:aG×Int=>r.2=0\/r.2=1\/r.2=2) (λ_=>?_) λ_=>?_
 ·unfold lH;split;·exact .inr (.inr rfl)
  ·split;·exact .inr (.inr rfl)
   ·split;·exact .inr (.inl rfl)
    ·split;·exact .inr (.inl rfl)
     ·exact .inl rfl
 refine cI (λr:aG×Int=>r.2=0\/r.2=1\/r.2=2) (λ_=>?_) λ_=>?_
 ·unfold nE;split;·exact .inr (.inr rfl)
  ·split;·exact .inr (.inr rfl)
   ·split;·exact .inr (.inl rfl)
    ·split <;> exact .inl rfl
 refine cI (λr:aG×Int=>r.2=0\/r.2=1\/r.2=2) (λ_=>fresh _) λ_=>?_;refine cI (λr:aG×Int=>r.2=0\/r.2=1\/r.2=2) (λ_=>?_) λ_=>?_
 ·unfold j6;split;·exact .inr (.inr rfl)
  ·split;·exact .inr (.inr rfl)
   ·split;·exact .inl rfl
    ·split;·exact .inr (.inr rfl)
     ·exact .inr (.inl rfl)
 exact cI (λr:aG×Int=>r.2=0\/r.2=1\/r.2=2) (λ_=>f _) λ_=>fresh _
end
section
def bO (at_:List Int) (v:Int):Int:=if v<0 then -1 else match at_[v.toNat]? with | none=>-1 | some a=>if a<0 then -1 else a
def eE (at_:List Int) (v:Int):Bool:=decide (0<=bO at_ v)
def setC (at_:List Int) (s:oL):oL:=⟨s.reg,bO at_ s.val⟩
def kS (at_:List Int) (m:dX):dX:=⟨bO at_ m.cell,m.kind,m.num,m.vals.map (bO at_)⟩
def dM (at_:List Int) (x:bX):bX:=⟨x.at_,x.steps,x.sets.map (setC at_),x.makes.map (kS at_)⟩
def j7 (at_:List Int) (s:oL):Bool:=eE at_ s.val
def kU (at_:List Int) (m:dX):Bool:=eE at_ m.cell && m.vals.all (eE at_)
def dF (at_:List Int) (x:bX):Bool:=x.sets.all (j7 at_) && x.makes.all (kU at_)
def iA (F:Int->Int) (x:aT):aT:=
 { x with a:=if 0<(bP x.op).asks then F x.a else x.a,b:=if 1<(bP x.op).asks then F x.b else x.b,c:=if 2<(bP x.op).asks then F x.c else x.c }
def oE (at_:List Int) (x:aT):aT:=iA (bO at_) x
def mJ (at_:List Int) (x:aT):Bool:=(bU x).all (eE at_)
structure mX where
 at_:List Int
 fine:Bool
 loop:Int
 ins:List aT
def gK (loop0:Int) (s:mX) (x:aT) (n:Int):Option mX:=
 let lp:=if(s.at_.length:Int)=loop0 then(s.ins.length:Int) else s.loop
 if n=s.at_.length then some ⟨s.at_++[(s.ins.length:Int)],s.fine && mJ (s.at_++[(s.ins.length:Int)]) x,lp,s.ins++[oE (s.at_++[(s.ins.length:Int)]) x]⟩
 else if n = -1 then some ⟨s.at_++[-1],s.fine,lp,s.ins⟩
 else if 0<=n/\n<s.at_.length then some ⟨s.at_++[s.at_.getD n.toNat 0],s.fine,lp,s.ins⟩
 else none
def iU (loop0:Int):List aT->List Int->mX->Option mX
 | x::l,n::m,s=>match gK loop0 s x n with | none=>none | some s'=>iU loop0 l m s'
 | _,_,s=>some s
def ajP:bX:=⟨0,0,[],[]⟩
def mT:aH:=⟨0,0,0,[],[],ajP,ajP⟩
def bK (t:aH) (s:mX):aH:=
 ⟨t.fn,t.at_,if t.loop<=0 then 0 else if(t.ins.length:Int)<=t.loop then(s.ins.length:Int) else s.loop,s.ins,t.exits.map (dM s.at_),dM s.at_ t.turn,dM s.at_ t.back⟩
def g9 (t:aH) (tq:List Int):aH×Int:=
 if tq.length≠t.ins.length then(mT,3)
 else match iU t.loop t.ins tq ⟨[],true,0,[]⟩ with
  | none=>(mT,3)
  | some s=>if s.fine && t.exits.all (dF s.at_) && dF s.at_ t.turn && dF s.at_ t.back then(bK t s,0) else(mT,3)
def upto (n:Nat):List Int:=(List.range n).map (λi:Nat=>(i:Int))
theorem vN (n:Nat):(upto n).length=n:=by simp[upto]
theorem afK (n:Nat):upto (n+1)=upto n++[(n:Int)]:=by simp[upto,List.range_succ]
theorem aeA {n i:Nat} (h:i<n):(upto n)[i]? = some (i:Int):=by unfold upto;rw[List.getElem?_map,List.getElem?_range h];rfl
theorem pD {n:Nat} {v:Int} (d:0<=v) (h:v<n):bO (upto n) v=v:=by unfold bO;rw[if_neg (by omega),aeA (by omega)];dsimp only;rw[if_neg (by omega)];omega
theorem qD {n:Nat} {v:Int} (d:0<=v) (h:v<n):eE (upto n) v=true:=by unfold eE;rw[pD d h];simpa using d
theorem aeL {F:Int->Int} {x:aT} (h:∀v∈bU x,F v=v):iA F x=x:=by
 unfold iA;have d:∀(k:Nat) (v:Int),[x.a,x.b,x.c][k]? = some v->(k:Int)<(bP x.op).asks->v∈bU x:=λk v f g=>by unfold bU;refine lM (i:=k) ?_;rw[List.getElem?_take,if_pos (by omega)];exact f
 obtain⟨op,a,b,c,n,e,k⟩:=x;dsimp only at d ⊢;simp only[aT.mk.injEq,true_and,and_true];refine⟨?_,?_,?_⟩
 ·split;·rename_i h1;exact h _ (d 0 _ rfl h1)
  ·rfl
 ·split;·rename_i h1;exact h _ (d 1 _ rfl h1)
  ·rfl
 ·split;·rename_i h1;exact h _ (d 2 _ rfl h1)
  ·rfl
def tQ (n:Nat) (x:bX):Prop:=(∀s∈x.sets,0<=s.val/\s.val<n)/\∀m∈x.makes,(0<=m.cell/\m.cell<n)/\∀v∈m.vals,0<=v/\v<n
theorem nA {α : Type} {f : α->α} : ∀(l:List α),(∀x∈l,f x=x)->l.map f=l
 | [],_=>rfl
 | x::l,h=>by rw[List.map_cons,h x (by simp),nA l (λy d=>h y (by simp[d]))]
theorem lQ {n:Nat} {x:bX} (h:tQ n x):dM (upto n) x=x/\dF (upto n) x=true:=by
 obtain⟨h1,p⟩:=h;obtain⟨a,s,sets,makes⟩:=x;constructor
 ·unfold dM;simp only[bX.mk.injEq,true_and];refine⟨nA _ λs g=>?_,nA _ λm l=>?_⟩;·unfold setC;rw[pD (h1 s g).1 (h1 s g).2]
  ·obtain⟨d,f⟩:=p m l;unfold kS;rw[pD d.1 d.2,nA _ λv j=>pD (f v j).1 (f v j).2]
 ·unfold dF;rw[Bool.and_eq_true,List.all_eq_true,List.all_eq_true];refine⟨λs g=>qD (h1 s g).1 (h1 s g).2,λm l=>?_⟩;obtain⟨d,f⟩:=p m l;unfold kU;rw[Bool.and_eq_true,List.all_eq_true];exact⟨qD d.1 d.2,λv j=>qD (f v j).1 (f v j).2⟩
theorem zM (loop0:Int):∀(l d:List aT) (j:Int),(∀(k:Nat) (x:aT),l[k]? = some x->∀v∈bU x,0<=v/\v<((d.length+k:Nat):Int))->
  ∃g,iU loop0 l ((List.range' d.length l.length).map (λi:Nat=>(i:Int))) ⟨upto d.length,true,j,d⟩=some ⟨upto (d.length+l.length),true,g,d++l⟩/\
   g=if(d.length:Int)<=loop0/\loop0<d.length+l.length then loop0 else j
 | [],d,j,_=>⟨j,by simp[iU],by rw[if_neg (by simp only[List.length_nil];omega)]⟩
 | x::l,d,j,h=>by
  have p:=h 0 x rfl
  have hi:oE (upto (d.length+1)) x=x:=aeL λv f=>pD (p v f).1 (by have:=(p v f).2;omega)
  have hf:mJ (upto (d.length+1)) x=true:=by
   unfold mJ
   rw[List.all_eq_true]
   exact λv f=>qD (p v f).1 (by have:=(p v f).2;omega)
  obtain⟨g,r,s⟩:=zM loop0 l (d++[x]) (if(d.length:Int)=loop0 then(d.length:Int) else j) (λk y u v f=>by
   have:=h (k+1) y (by simpa using u) v f
   simp only[List.length_append,List.length_cons,List.length_nil]
   omega)
  refine⟨g,?_,?_⟩
  ·rw[List.length_cons,List.range'_succ,List.map_cons]
   unfold iU gK
   dsimp only
   rw[vN,if_pos rfl,<-afK,hf,hi,Bool.and_true]
   simp only[List.length_append,List.length_cons,List.length_nil] at r
   dsimp only
   rw[r]
   simp only[List.append_assoc,List.singleton_append,Option.some.injEq,mX.mk.injEq,and_true,true_and]
   congr 1
   omega
  ·rw[s]
   simp only[List.length_append,List.length_cons,List.length_nil]
   by_cases c:(d.length:Int)=loop0
   ·rw[if_pos c]
    by_cases q:((d.length+(0+1):Nat):Int)<=loop0/\loop0<((d.length+(0+1):Nat):Int)+l.length
    ·omega
    ·rw[if_neg q,if_pos (by omega),c]
   ·rw[if_neg c]
    by_cases q:((d.length+(0+1):Nat):Int)<=loop0/\loop0<((d.length+(0+1):Nat):Int)+l.length
    ·rw[if_pos q,if_pos (by omega)]
    ·rw[if_neg q,if_neg (by omega)]
theorem abJ (n:Nat):(List.range' 0 n).map (λi:Nat=>(i:Int))=upto n:=by unfold upto;rw[List.range_eq_range']
structure Cuts (t:aH):Prop where
 ins:∀(k:Nat) (x:aT),t.ins[k]? = some x->∀v∈bU x,0<=v/\v<(k:Int)
 exits:∀x∈t.exits,tQ t.ins.length x
 turn:tQ t.ins.length t.turn
 back:tQ t.ins.length t.back
 loop0:0<=t.loop
 loop1:t.loop<=t.ins.length
theorem ag1 {t:aH} (h:Cuts t):g9 t (upto t.ins.length)=(t,0):=by
 unfold g9;rw[if_neg (by rw[vN];simp)];obtain⟨f,g,j⟩:=zM t.loop t.ins [] 0 (λk x d v p=>by simpa using h.ins k x d v p);rw[List.length_nil,abJ] at g;rw[show(⟨[],true,0,[]⟩:mX)=⟨upto 0,true,0,[]⟩ from rfl,g];simp only[Nat.zero_add,List.nil_append];have d:t.exits.all (dF (upto t.ins.length))=true:=by rw[List.all_eq_true];exact λx d=>(lQ (h.exits x d)).2
 rw[d,(lQ h.turn).2,(lQ h.back).2,if_pos (by rfl)];have l:t.exits.map (dM (upto t.ins.length))=t.exits:=nA _ λx d=>(lQ (h.exits x d)).1;have q:=h.loop0;have h1:=h.loop1;have hl:(if t.loop<=0 then 0 else if(t.ins.length:Int)<=t.loop then(t.ins.length:Int) else f)=t.loop:=by
  simp only[List.length_nil] at j;split;·omega
  ·split;·omega
   ·rw[j,if_pos (by omega)]
 unfold bK;dsimp only;rw[l,(lQ h.turn).1,(lQ h.back).1,hl]
theorem vM {ins:List aT} {l:List Int} {at_:Int} (h:fN ins l at_=true):∀v∈l,0<=v/\v<at_/\v<ins.length:=λv d=>by
 unfold fN at h
 have:=List.all_eq_true.1 h v d
 simp only[eZ,Bool.and_eq_true,decide_eq_true_eq] at this
 exact⟨this.1.1.1,this.1.1.2,this.1.2⟩
theorem vS {regs:Int} {ins:List aT} {at_:Int} : ∀(last:Int) (l:List oL),j5 regs ins at_ last l=true->∀s∈l,0<=s.val/\s.val<at_/\s.val<ins.length
 | _,[],_,_,hs=>by simp at hs
 | last,x::l,h,s,hs=>by
  simp only[j5,eZ,Bool.and_eq_true,decide_eq_true_eq] at h
  rcases List.mem_cons.1 hs with rfl | hs
  ·exact⟨h.1.2.1.1.1,h.1.2.1.1.2,h.1.2.1.2⟩
  ·exact vS _ l h.2 s hs
theorem nB {ins:List aT} {at_:Int} : ∀(last:Int) (l:List dX),fI ins at_ last l=true->∀m∈l,(0<=m.cell/\m.cell<at_/\m.cell<ins.length)/\∀v∈m.vals,0<=v/\v<at_/\v<ins.length
 | _,[],_,_,hs=>by simp at hs
 | last,x::l,h,m,hm=>by
  simp only[fI,Bool.and_eq_true,decide_eq_true_eq] at h
  rcases List.mem_cons.1 hm with rfl | hm
  ·have f:=h.1.2
   simp only[mG,Bool.and_eq_true] at f
   have d:=f.1.1.1.1
   simp only[eZ,Bool.and_eq_true,decide_eq_true_eq] at d
   exact⟨⟨d.1.1.1,d.1.1.2,d.1.2⟩,vM f.2⟩
  ·exact nB _ l h.2 m hm
theorem tF {fn:FnM} {ins:List aT} {x:bX} {at_:Int} (h:bN fn ins x at_=true):tQ ins.length x:=by
 simp only[bN,Bool.and_eq_true] at h;refine⟨λs f=>?_,λm g=>?_⟩;·have:=vS _ _ h.1.2 s f;exact⟨this.1,this.2.2⟩
 ·have:=nB _ _ h.2 m g;exact⟨⟨this.1.1,this.1.2.2⟩,λv d=>⟨(this.2 v d).1,(this.2 v d).2.2⟩⟩
theorem akO {n:Nat} {x:bX} (h:kV x=true):tQ n x:=by
 simp only[kV,Bool.and_eq_true,List.isEmpty_iff] at h;refine⟨λs d=>?_,λm f=>?_⟩;·rw[h.1.2] at d;simp at d
 ·rw[h.2] at f;simp at f
theorem fD {aF:Val->Bool} {l:Int} {fns:List FnM} {t:aH} (h:cQ aF l fns t=0) : t.ins.length<=300/\t.exits.length<=200/\∃fn,(0<=t.fn/\fns[t.fn.toNat]? = some fn)/\(0<=t.at_/\t.at_<fn.len)/\(0<=t.loop/\t.loop<=t.ins.length)/\sJ aF fn t 0 t.ins=0/\ (t.loop=0->kV t.turn=true)/\(0<t.loop->t.turn.at_=t.at_/\bN fn t.ins t.turn t.loop=true)/\(t.back.at_=t.at_/\bN fn t.ins t.back t.ins.length=true)/\t.exits.all (bN fn t.ins · t.ins.length)=true:=by
 unfold cQ at h;split at h;·omega
 split at h;·cases h
 split at h;·cases h
 rename_i r _ fn d;have j:0<=t.fn/\fns[t.fn.toNat]? = some fn:=by
  split at d;·cases d
  ·exact⟨by omega,d⟩
 split at h;·cases h
 simp only at h;split at h;·rename_i h1;exact(h1 h).elim
 rename_i p;split at h;·cases h
 rename_i f;split at h;·cases h
 rename_i g;split at h;case isFalse=>cases h
 rename_i q;refine⟨by omega,by omega,fn,j,by omega,by omega,by simpa using p,λc=>?_,λc=>?_,?_,q⟩
 ·cases hb:kV t.turn;·exact(f (.inl ⟨c,hb⟩)).elim
  ·rfl
 ·refine⟨?_,?_⟩
  ·by_cases e:t.turn.at_=t.at_;·exact e
   ·exact(f (.inr ⟨c,.inl e⟩)).elim
  ·cases hb:bN fn t.ins t.turn t.loop;·exact(f (.inr ⟨c,.inr hb⟩)).elim
   ·rfl
 ·refine⟨?_,?_⟩
  ·by_cases e:t.back.at_=t.at_;·exact e
   ·exact(g (.inl e)).elim
  ·cases hb:bN fn t.ins t.back t.ins.length;·exact(g (.inr hb)).elim
   ·rfl
theorem mL {aF:Val->Bool} {p:Int} {fns:List FnM} {t:aH} (h:cQ aF p fns t=0):Cuts t:=by
 obtain⟨_,_,fn,_,_,hl,hi,f,g,hb,d⟩:=fD h;refine⟨λk x d v l=>?_,λx j=>tF (List.all_eq_true.1 d x j),?_,tF hb.2,hl.1,hl.2⟩;·have:=lK h d v l;exact⟨this.1,this.2.1⟩
 ·rcases Int.lt_or_le 0 t.loop with c | c;·exact tF (g c).2
  ·exact akO (f (by omega))
end
end Go.Proofs.YtijihlcdhppfgaaGreatDoor
