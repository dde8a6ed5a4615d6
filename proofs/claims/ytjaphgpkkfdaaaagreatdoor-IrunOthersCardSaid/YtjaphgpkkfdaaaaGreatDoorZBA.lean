/- Part of the walk of the given code: contracts of the functions that irun.Run reaches, and plain laws on what it reckons. -/
import Derived.Test.YtjaphgpkkfdaaaaGreatDoorZG
set_option maxHeartbeats 16000000
set_option maxRecDepth 100000
set_option linter.all false
namespace Go.Proofs.YtjaphgpkkfdaaaaGreatDoor
section
def jA (t:aN):Prop:=∀(i:Nat) x,t.ins[i]? = some x→x.op=1∨x.op=2∨x.op=3∨x.op=10∨x.op=11∨x.op=15∨(((x.op=7∨x.op=8∨x.op=17)∧x.exit<0))∨(0≤x.exit∧x.exit<t.exits.length)
theorem qI {aG:Val→Bool} {ce:Int} {fns:List FnM} {t:aN} (h:fA aG ce fns t=0):jA t:=fun i x hx=>by
 obtain⟨_,fn,h1⟩:=nX h
 obtain⟨h0,h2⟩:=fQ t.ins 0 h1 i x hx
 simp only[eY,Bool.and_eq_true] at h2
 have h3:=h2.2
 rcases nU h0 with c | c | c | c | c | c | c | c | c | c | c | c | c | c | c | c | c | c | c <;> rw[c] at h3
 all_goals first
  | (left;exact c)
  | (right;left;exact c)
  | (right;right;left;exact c)
  | (right;right;right;left;exact c)
  | (right;right;right;right;left;exact c)
  | (right;right;right;right;right;left;exact c)
  | skip
 all_goals right;right;right;right;right;right
 all_goals
  simp only[cF,beq_iff_eq,Bool.or_eq_true,Bool.and_eq_true,Int.reduceEq,↓reduceIte,decide_eq_true_eq,false_or,or_false,true_and,false_and,reduceCtorEq] at h3
  first
   | (right;exact⟨h3.1.1,h3.1.2⟩)
   | (by_cases e:x.exit = -1;(left;exact⟨by omega,by omega⟩);(rw[if_neg e] at h3;simp only[Bool.and_eq_true,decide_eq_true_eq] at h3;right;exact⟨h3.1.1,h3.1.2⟩))
theorem bU {α : Type} {c:Prop} [Decidable c] {a b : α} (P : α→Prop) (ha:c→P a) (hb:¬c→P b):P (if c then a else b):=by
 by_cases h:c
 ·rw[if_pos h];exact ha h
 ·rw[if_neg h];exact hb h
structure i7 (w w':aI):Prop where
 regs:w'.regs=w.regs
 at_:w'.at_=w.at_
 steps:w'.steps=w.steps
theorem i7.refl (w:aI):i7 w w:=⟨rfl,rfl,rfl⟩
theorem nL (w:aI) (i:Nat) (v:Val):i7 w (fS w i v):=⟨rfl,rfl,rfl⟩
theorem oJ (w:aI) (n:Nat) (c:bC):i7 w (setCW w n c):=⟨rfl,rfl,rfl⟩
theorem ab1 (w:aI) (i:Nat) (x:Int) (r:Val×Int):i7 w (iQ w i x r).1:=nL _ _ _
theorem zJ (w:aI) (i:Nat) (k:Int):i7 w (dX w i k).1:=by unfold dX;split <;> exact⟨rfl,rfl,rfl⟩
theorem slot_f (w:aI) (i:Nat) (x:bG):i7 w (gW w i x).1:=by
 unfold gW
 split
 ·exact .refl w
 ·split
  ·exact .refl w
  ·split
   ·exact nL _ _ _
   ·split
    ·exact oJ _ _ _
    ·exact nL _ _ _
theorem grow_f (sh:List aT) (w:aI) (x:bG):i7 w (jT sh w x).1:=by
 unfold jT
 split
 ·exact .refl w
 ·split
  ·exact .refl w
  ·split
   ·exact .refl w
   ·split
    ·exact .refl w
    ·exact oJ _ _ _
theorem push_f (w:aI) (x:bG):i7 w (iT w x).1:=by
 unfold iT
 split
 ·exact .refl w
 ·split
  ·exact .refl w
  ·split
   ·exact oJ _ _ _
   ·split <;> exact .refl w
theorem item_f (w:aI) (i:Nat) (x:bG):i7 w (lP w i x).1:=by
 unfold lP
 split
 ·exact .refl w
 ·split
  ·exact .refl w
  ·split
   ·exact .refl w
   ·split
    ·exact nL _ _ _
    ·exact oJ _ _ _
theorem abE (E:hV) (self:Val) (shapes:List aT) (w:aI) (i:Nat) (x:bG):i7 w (doI E self shapes w i x).1:=by
 unfold doI
 refine bU (fun r:aI×Int=>i7 w r.1) (fun _=>nL _ _ _) fun _=>?_
 refine bU (fun r:aI×Int=>i7 w r.1) (fun _=>nL _ _ _) fun _=>?_
 refine bU (fun r:aI×Int=>i7 w r.1) (fun _=>nL _ _ _) fun _=>?_
 refine bU (fun r:aI×Int=>i7 w r.1) (fun _=>.refl w) fun _=>?_
 refine bU (fun r:aI×Int=>i7 w r.1) (fun _=>ab1 _ _ _ _) fun _=>?_
 refine bU (fun r:aI×Int=>i7 w r.1) (fun _=>ab1 _ _ _ _) fun _=>?_
 refine bU (fun r:aI×Int=>i7 w r.1) (fun _=>slot_f _ _ _) fun _=>?_
 refine bU (fun r:aI×Int=>i7 w r.1) (fun _=>grow_f _ _ _) fun _=>?_
 refine bU (fun r:aI×Int=>i7 w r.1) (fun _=>item_f _ _ _) fun _=>?_
 refine bU (fun r:aI×Int=>i7 w r.1) (fun _=>zJ _ _ _) fun _=>?_
 refine bU (fun r:aI×Int=>i7 w r.1) (fun _=>push_f _ _) fun _=>?_
 exact bU (fun r:aI×Int=>i7 w r.1) (fun _=>.refl w) fun _=>zJ _ _ _
theorem sA (E:hV) (t:aN) (self:Val) (shapes:List aT) (w:aI) (i:Nat):i7 w (doW E t self shapes w i).1:=abE E self shapes w i _
theorem xN (w:aI) (m:fZ):(fP w m).1.regs=w.regs∧(fP w m).1.at_=w.at_∧(fP w m).1.steps=w.steps:=by
 have h:i7 w (fP w m).1:=by
  unfold fP
  split
  ·exact .refl w
  ·split
   ·exact .refl w
   ·exact oJ _ _ _
 exact⟨h.regs,h.at_,h.steps⟩
theorem mK:∀(l:List fZ) (w:aI),(eK w l).1.regs=w.regs∧(eK w l).1.at_=w.at_∧(eK w l).1.steps=w.steps
 | [],w=>⟨rfl,rfl,rfl⟩
 | m::l,w=>by
  have h1:=xN w m
  unfold eK
  split
  ·exact h1
  ·have h2:=mK l (fP w m).1
   exact⟨h2.1.trans h1.1,h2.2.1.trans h1.2.1,h2.2.2.trans h1.2.2⟩
theorem kV:∀(l:List pS) (w:aI),(fN w l).at_=w.at_∧(fN w l).steps=w.steps∧(fN w l).cells=w.cells∧(fN w l).vals=w.vals∧(fN w l).regs.length=w.regs.length∧∀r:Nat,(∀s∈l,s.reg.toNat≠r)→(fN w l).regs[r]? = w.regs[r]?
 | [],w=>⟨rfl,rfl,rfl,rfl,rfl,fun _ _=>rfl⟩
 | s::l,w=>by
  have h:=kV l { w with regs:=w.regs.set s.reg.toNat (cX w s.val) }
  refine⟨h.1,h.2.1,h.2.2.1,h.2.2.2.1,?_,fun r hr=>?_⟩
  ·exact h.2.2.2.2.1.trans (by simp)
  ·refine(h.2.2.2.2.2 r (fun q hq=>hr q (by simp[hq]))).trans ?_
   exact List.getElem?_set_ne (hr s (by simp))
theorem tY (w:aI) (x:cW) (h:(iG w x).2≠2):(iG w x).2=0∧(iG w x).1.at_=x.at_∧(iG w x).1.steps=w.steps+x.steps∧(iG w x).1.regs.length=w.regs.length∧∀r:Nat,(∀s∈x.sets,s.reg.toNat≠r)→(iG w x).1.regs[r]? = w.regs[r]?:=by
 have hm:∀(l:List fZ) (w:aI),(eK w l).2=0∨(eK w l).2=2:=by
  intro l
  induction l with
  | nil=>intro w;exact .inl rfl
  | cons m l ih=>
   intro w
   unfold eK
   split
   ·rename_i hne
    unfold fP at hne ⊢
    repeat' split
    all_goals first | exact .inr rfl | exact .inl rfl
   ·exact ih _
 unfold iG at h ⊢
 split at h
 ·rename_i hne
  rcases hm x.makes w with c | c
  ·exact absurd c hne
  ·exact absurd c h
 ·rename_i hne
  rw[if_neg hne]
  have h1:=mK x.makes w
  have h2:=kV x.sets (eK w x.makes).1
  refine⟨rfl,rfl,?_,?_,fun r hr=>?_⟩
  ·show(fN _ _).steps+x.steps=_
   rw[h2.2.1,h1.2.2]
  ·show(fN _ _).regs.length=_
   rw[h2.2.2.2.2.1,h1.1]
  ·show(fN _ _).regs[r]? = _
   rw[h2.2.2.2.2.2 r hr,h1.1]
theorem u0 (E:hV) {t:aN} (hx:jA t) (self:Val) (shapes:List aT) (w:aI) {i:Nat} (hi:i<t.ins.length) (h:(doW E t self shapes w i).2=1):0≤(jE t i).exit∧(jE t i).exit<t.exits.length:=by
 have e:t.ins[i]? = some (jE t i):=by
  unfold jE
  rw[show(i:Int).toNat=i from rfl,lG hi];rfl
 have:=hx i _ e
 unfold doW at h
 generalize jE t i=x at this h ⊢
 have told:∀(r:Val×Int),(iQ w i x.exit r).2=1→¬x.exit<0:=fun r hr=>by
  unfold iQ at hr
  dsimp only at hr
  split at hr
  ·cases hr
  ·split at hr
   ·cases hr
   ·assumption
 have slot:(gW w i x).2≠1:=by
  unfold gW
  split
  ·intro h;cases h
  ·split
   ·intro h;cases h
   ·split
    ·intro h;cases h
    ·split <;> (intro h;cases h)
 have push:(iT w x).2=1→¬x.exit<0:=by
  unfold iT
  split
  ·intro h;cases h
  ·split
   ·intro h;cases h
   ·split
    ·intro h;cases h
    ·split
     ·intro h;cases h
     ·intro _;assumption
 revert h
 unfold doI
 refine bU (fun r:aI×Int=>r.2=1→_) (fun _ h=>by cases h) fun c1=>?_
 refine bU (fun r:aI×Int=>r.2=1→_) (fun _ h=>by cases h) fun c2=>?_
 refine bU (fun r:aI×Int=>r.2=1→_) (fun _ h=>by cases h) fun c3=>?_
 refine bU (fun r:aI×Int=>r.2=1→_) (fun c _=>by omega) fun c4=>?_
 refine bU (fun r:aI×Int=>r.2=1→_) (fun c h=>by have:=told _ h;omega) fun c5=>?_
 refine bU (fun r:aI×Int=>r.2=1→_) (fun c h=>by have:=told _ h;omega) fun c6=>?_
 refine bU (fun r:aI×Int=>r.2=1→_) (fun c h=>absurd h slot) fun c7=>?_
 refine bU (fun r:aI×Int=>r.2=1→_) (fun c h=>by omega) fun c8=>?_
 refine bU (fun r:aI×Int=>r.2=1→_) (fun c h=>by omega) fun c9=>?_
 refine bU (fun r:aI×Int=>r.2=1→_) (fun c h=>by omega) fun c10=>?_
 refine bU (fun r:aI×Int=>r.2=1→_) (fun c h=>by have:=push h;omega) fun c11=>?_
 exact bU (fun r:aI×Int=>r.2=1→_) (fun c h=>by omega) fun c12 h=>by omega
theorem iB (E:hV) {t:aN} (hx:jA t) (self:Val) (shapes:List aT) (fin:cW):∀(k i:Nat) (w:aI),i+k≤t.ins.length→(dM E t self shapes fin k i w).2.2≠2→
  ∃x,(((dM E t self shapes fin k i w).2.1 = -1∧x=fin)∨(0≤(dM E t self shapes fin k i w).2.1∧(dM E t self shapes fin k i w).2.1<t.exits.length∧t.exits[(dM E t self shapes fin k i w).2.1.toNat]? = some x))∧(dM E t self shapes fin k i w).2.2=0∧
   (dM E t self shapes fin k i w).1.at_=x.at_∧(dM E t self shapes fin k i w).1.steps=w.steps+x.steps∧(dM E t self shapes fin k i w).1.regs.length=w.regs.length∧∀r:Nat,(∀s∈x.sets,s.reg.toNat≠r)→(dM E t self shapes fin k i w).1.regs[r]? = w.regs[r]?
 | 0,i,w,_,h=>by
  unfold dM at h ⊢
  exact⟨fin,.inl ⟨rfl,rfl⟩,tY w fin h⟩
 | k+1,i,w,hk,h=>by
  have hf:=sA E t self shapes w i
  unfold dM at h ⊢
  split at h
  ·exact absurd rfl h
  rename_i h2
  rw[if_neg h2]
  split at h
  ·rename_i h1
   rw[if_pos h1]
   have hl:=u0 E hx self shapes w (by omega) h1
   split at h
   ·exact absurd rfl h
   ·rename_i x hxx
    rw[hxx]
    dsimp only at h ⊢
    obtain⟨e1,e2,e3,e4,e5⟩:=tY _ x h
    exact⟨x,.inr ⟨hl.1,hl.2,rfl⟩,e1,e2,by rw[e3,hf.steps],by rw[e4,hf.regs],fun r hr=>by rw[e5 r hr,hf.regs]⟩
  ·rename_i h1
   rw[if_neg h1]
   obtain⟨x,a,b,c,d,e,f⟩:=iB E hx self shapes fin k (i+1) _ (by omega) h
   exact⟨x,a,b,c,by rw[d,hf.steps],by rw[e,hf.regs],fun r hr=>by rw[f r hr,hf.regs]⟩
end
section
def wT (t:aN):Prop:=t.back.at_=t.at_∧(0<t.loop→t.turn.at_=t.at_)∧0≤t.loop∧t.loop≤t.ins.length
theorem adR {aG:Val→Bool} {ce:Int} {fns:List FnM} {t:aN} (h:fA aG ce fns t=0):wT t:=by
 unfold fA at h
 split at h
 ·omega
 split at h
 ·cases h
 split at h
 ·cases h
 split at h
 ·cases h
 rename_i h1
 simp only at h
 split at h
 ·rename_i h2;exact(h2 h).elim
 split at h
 ·cases h
 rename_i h3
 split at h
 ·cases h
 rename_i h4
 refine⟨?_,fun c=>?_,by omega,by omega⟩
 ·by_cases e:t.back.at_=t.at_
  ·exact e
  ·exact(h4 (.inl e)).elim
 ·by_cases e:t.turn.at_=t.at_
  ·exact e
  ·exact(h3 (.inr ⟨c,.inl e⟩)).elim
def jV (t:aN) (done:Nat):cW:=if done=0∧0<t.loop then t.turn else t.back
def dA (t:aN):Nat→Nat→Int
 | _,0=>0
 | done,k+1=>(jV t done).steps+dA t (done+1) k
theorem uL (t:aN):∀(k done:Nat),dA t done (k+1)=dA t done k+(jV t (done+k)).steps
 | 0,done=>by simp[dA]
 | k+1,done=>by
  have h:=uL t k (done+1)
  show(jV t done).steps+dA t (done+1) (k+1)=(jV t done).steps+dA t (done+1) k+(jV t (done+(k+1))).steps
  rw[h,show done+1+k=done+(k+1) by omega];omega
theorem kY (E:hV) {t:aN} (hx:jA t) (ha:wT t) (self:Val) (shapes:List aT) (done:Nat) (w:aI) (h:(dN E t self shapes done w).2.2≠2) :
  ∃x,(((dN E t self shapes done w).2.1 = -1∧x=jV t done)∨(0≤(dN E t self shapes done w).2.1∧(dN E t self shapes done w).2.1<t.exits.length∧t.exits[(dN E t self shapes done w).2.1.toNat]? = some x))∧(dN E t self shapes done w).2.2=0∧
   (dN E t self shapes done w).1.at_=x.at_∧(dN E t self shapes done w).1.steps=w.steps+x.steps∧(dN E t self shapes done w).1.regs.length=w.regs.length∧∀r:Nat,(∀s∈x.sets,s.reg.toNat≠r)→(dN E t self shapes done w).1.regs[r]? = w.regs[r]?:=by
 obtain⟨-,-,h1,h2⟩:=ha
 unfold dN at h ⊢
 unfold jV
 split
 ·rename_i c
  rw[if_pos c] at h
  exact iB E hx self shapes t.turn _ _ w (by omega) h
 ·rename_i c
  rw[if_neg c] at h
  exact iB E hx self shapes t.back _ _ w (by omega) h
theorem fin_at {t:aN} (ha:wT t) (done:Nat):(jV t done).at_=t.at_:=by
 unfold jV
 split
 ·rename_i c;exact ha.2.1 c.2
 ·exact ha.1
theorem pB (E:hV) {t:aN} (hx:jA t) (ha:wT t) (self:Val) (shapes:List aT):∀(k done:Nat) (w:aI),(bQ E t self shapes k done w).2.2.2≠2→
  (bQ E t self shapes k done w).2.2.2=0∧(bQ E t self shapes k done w).1.regs.length=w.regs.length∧∃m:Nat,(bQ E t self shapes k done w).2.2.1=((done+m:Nat):Int)∧
   (((bQ E t self shapes k done w).2.1 = -1∧m=k∧(bQ E t self shapes k done w).1.steps=w.steps+dA t done m∧(bQ E t self shapes k done w).1.at_=if k=0 then w.at_ else t.at_)∨
   (∃x,m<k∧0≤(bQ E t self shapes k done w).2.1∧(bQ E t self shapes k done w).2.1<t.exits.length∧t.exits[(bQ E t self shapes k done w).2.1.toNat]? = some x∧
     (bQ E t self shapes k done w).1.steps=w.steps+dA t done m+x.steps∧(bQ E t self shapes k done w).1.at_=x.at_))
 | 0,done,w,_=>⟨rfl,rfl,0,rfl,.inl ⟨rfl,rfl,by simp[bQ,dA],rfl⟩⟩
 | k+1,done,w,h=>by
  unfold bQ at h ⊢
  by_cases c:(dN E t self shapes done w).2.2=2∨0≤(dN E t self shapes done w).2.1
  ·simp only[if_pos c] at h ⊢
   obtain⟨x,h1,h2,h3,h4,h5,-⟩:=kY E hx ha self shapes done w h
   refine⟨h2,h5,0,rfl,.inr ⟨x,by omega,?_⟩⟩
   rcases h1 with ⟨h1,-⟩ | ⟨h1,h6,h7⟩
   ·rcases c with c | c
    ·exact absurd c h
    ·omega
   ·exact⟨h1,h6,h7,by rw[h4];simp[dA],h3⟩
  ·simp only[if_neg c] at h ⊢
   obtain⟨x,h1,h2,h3,h4,h5,-⟩:=kY E hx ha self shapes done w (fun e=>c (.inl e))
   have hxf:x=jV t done:=by
    rcases h1 with ⟨_,e⟩ | ⟨e,_⟩
    ·exact e
    ·exact absurd (.inr e) c
   obtain⟨g1,g2,m,g3,g4⟩:=pB E hx ha self shapes k (done+1) _ h
   refine⟨g1,by rw[g2,h5],m+1,by rw[g3];omega,?_⟩
   rcases g4 with ⟨a,b,d,e⟩ | ⟨y,a,b,d,e,f,g⟩
   ·refine .inl ⟨a,by omega,?_,?_⟩
    ·rw[d,h4,hxf];simp only[dA];omega
    ·rw[e,show(if k+1=0 then w.at_ else t.at_)=t.at_ from if_neg (by omega)]
     split
     ·rw[h3,hxf,fin_at ha]
     ·rfl
   ·refine .inr ⟨y,by omega,b,d,e,?_,g⟩
    rw[f,h4,hxf];simp only[dA];omega
theorem uN {E:hV} {irc stc:Int} {t:aN} {S out:aR} {th turns exit n:Int} (h:mY E irc stc t S th turns=(out,exit,n,0)) :
  irc=0∧stc=0∧0≤th∧0≤turns∧turns≤1000∧∃hd f,S.threads[th.toNat]? = some hd∧hd.frames.getLast? = some f∧hd.state=0∧f.fn=t.fn∧f.at_=t.at_∧
   (bQ E t f.self S.shapes turns.toNat 0 (cL t S f)).2.2.2≠2∧S.steps+(bQ E t f.self S.shapes turns.toNat 0 (cL t S f)).1.steps≤1000000000∧
   out=gX S th.toNat (bQ E t f.self S.shapes turns.toNat 0 (cL t S f)).1∧exit=(bQ E t f.self S.shapes turns.toNat 0 (cL t S f)).2.1∧n=(bQ E t f.self S.shapes turns.toNat 0 (cL t S f)).2.2.1:=by
 unfold mY at h
 split at h
 ·injection h with _ h;injection h with _ h;injection h with _ h;omega
 split at h
 ·injection h with _ h;injection h with _ h;injection h with _ h;omega
 split at h
 ·injection h with _ h;injection h with _ h;injection h with _ h;omega
 rename_i h1 h2 _ hd hhd
 have h0:0≤th∧S.threads[th.toNat]? = some hd:=by
  split at hhd
  ·cases hhd
  ·exact⟨by omega,hhd⟩
 split at h
 ·injection h with _ h;injection h with _ h;injection h with _ h;omega
 rename_i h3
 split at h
 ·injection h with _ h;injection h with _ h;injection h with _ h;omega
 rename_i h4
 split at h
 ·injection h with _ h;injection h with _ h;injection h with _ h;omega
 rename_i f hf
 dsimp only at h
 have hst:hd.state=0∧f.fn=t.fn∧f.at_=t.at_:=by
  have h5:gV t S th=true:=by simpa using h3
  unfold gV at h5
  rw[if_neg (by omega),h0.2] at h5
  dsimp only at h5
  rw[hf] at h5
  simp only[Bool.and_eq_true,beq_iff_eq] at h5
  exact⟨h5.1.1,h5.1.2,h5.2⟩
 split at h
 ·injection h with _ h;injection h with _ h;injection h with _ h;omega
 rename_i h5
 split at h
 ·injection h with _ h;injection h with _ h;injection h with _ h;omega
 rename_i h6
 injection h with e1 h
 injection h with e2 h
 injection h with e3 _
 exact⟨Classical.not_not.1 h1,Classical.not_not.1 h2,h0.1,by omega,by omega,hd,f,h0.2,hf,hst.1,hst.2.1,hst.2.2,h5,by omega,e1.symm,e2.symm,e3.symm⟩
theorem lK {S:aR} {th:Nat} {hd:bW} {f:a8} (h1:S.threads[th]? = some hd) (h2:hd.frames.getLast? = some f) (w:aI) :
  gX S th w = { S with cells:=w.cells,steps:=S.steps+w.steps,threads:=S.threads.set th { hd with frames:=hd.frames.dropLast++[{ f with at_:=w.at_,regs:=w.regs }] } }:=by
 unfold gX
 rw[h1]
 dsimp only
 rw[h2]
theorem irun_none {E:hV} {irc stc:Int} {t:aN} {S out:aR} {th exit n:Int} (h:mY E irc stc t S th 0=(out,exit,n,0)):exit = -1∧n=0∧out=S:=by
 obtain⟨-,-,h0,-,-,hd,f,h1,h2,-,-,-,-,-,e1,e2,e3⟩:=uN h
 have er:bQ E t f.self S.shapes (0:Int).toNat 0 (cL t S f)=(cL t S f,-1,0,0):=rfl
 rw[er] at e1 e2 e3
 refine⟨e2,e3,?_⟩
 rw[e1,lK h1 h2]
 have hfr:hd.frames.dropLast++[{ f with at_:=(cL t S f).at_,regs:=(cL t S f).regs }]=hd.frames:=by
  show hd.frames.dropLast++[f]=hd.frames
  obtain⟨l,hl⟩:∃l,hd.frames=l++[f]:=by
   have:=List.getLast?_eq_some_iff.1 h2
   exact this
  rw[hl];simp
 rw[hfr]
 have hth:S.threads.set th.toNat { hd with frames:=hd.frames } = S.threads:=by
  obtain⟨hi,e⟩:=lE h1
  show S.threads.set th.toNat hd=S.threads
  rw[←e];exact List.set_getElem_self hi
 rw[hth]
 show({ S with cells:=S.cells,steps:=S.steps+0,threads:=S.threads } : aR)=S
 rw[Int.add_zero]
theorem uC {S:aR} {th:Nat} {hd:bW} {f:a8} (h1:S.threads[th]? = some hd) (h2:hd.frames.getLast? = some f) (w:aI) :
  ∃hd',(gX S th w).threads[th]? = some hd'∧hd'.frames.length=hd.frames.length∧hd'.frames.getLast? = some { f with at_:=w.at_,regs:=w.regs }:=by
 rw[lK h1 h2]
 have hi:=(lE h1).1
 obtain⟨l,hl⟩:=List.getLast?_eq_some_iff.1 h2
 refine⟨_,List.getElem?_set_self hi,?_,?_⟩
 ·rw[hl];simp
 ·simp
theorem xP {E:hV} {irc stc:Int} {t:aN} {S out:aR} {th turns exit n:Int} (hx:jA t) (ha:wT t) (h:mY E irc stc t S th turns=(out,exit,n,0)) :
  0≤th∧∃(m:Nat) (hd':bW) (f':a8),n=m∧out.threads[th.toNat]? = some hd'∧hd'.frames.getLast? = some f'∧
   ((exit = -1∧(m:Int)=turns∧out.steps=S.steps+dA t 0 m∧f'.at_=t.at_)∨
   (∃x,(m:Int)<turns∧0≤exit∧exit<t.exits.length∧t.exits[exit.toNat]? = some x∧out.steps=S.steps+dA t 0 m+x.steps∧f'.at_=x.at_)):=by
 obtain⟨-,-,h0,ht,-,hd,f,h1,h2,-,-,hat,hw,-,e1,e2,e3⟩:=uN h
 obtain⟨-,-,m,g3,g4⟩:=pB E hx ha f.self S.shapes turns.toNat 0 (cL t S f) hw
 obtain⟨hd',b1,-,b2⟩:=uC h1 h2 (bQ E t f.self S.shapes turns.toNat 0 (cL t S f)).1
 have hs:out.steps=S.steps+(bQ E t f.self S.shapes turns.toNat 0 (cL t S f)).1.steps:=by rw[e1,lK h1 h2]
 refine⟨h0,m,hd',_,by rw[e3,g3];simp,by rw[e1];exact b1,b2,?_⟩
 rw[hs,e2]
 rcases g4 with ⟨a,b,d,e⟩ | ⟨x,a,b,d,e,g,k⟩
 ·refine .inl ⟨a,by omega,?_,?_⟩
  ·rw[d];show S.steps+(0+dA t 0 m)=_;omega
  ·show(bQ E t f.self S.shapes turns.toNat 0 (cL t S f)).1.at_=t.at_
   rw[e]
   split
   ·exact hat
   ·rfl
 ·refine .inr ⟨x,by omega,b,d,e,?_,k⟩
  rw[g];show S.steps+(0+dA t 0 m+x.steps)=_;omega
def exitAt (t:aN) (exit:Int):cW:=if 0≤exit then(t.exits[exit.toNat]?).getD t.back else jV t 0
theorem irun_regs {E:hV} {irc stc:Int} {t:aN} {S out:aR} {th exit n:Int} (hx:jA t) (ha:wT t) (h:mY E irc stc t S th 1=(out,exit,n,0)) :
  0≤th∧exit<t.exits.length∧∃hd f hd' f',S.threads[th.toNat]? = some hd∧hd.frames.getLast? = some f∧out.threads[th.toNat]? = some hd'∧hd'.frames.getLast? = some f'∧f'.regs.length=f.regs.length∧
   ∀r:Nat,(∀s∈(exitAt t exit).sets,s.reg.toNat≠r)→f'.regs[r]? = f.regs[r]?:=by
 obtain⟨-,-,h0,ht,-,hd,f,h1,h2,-,-,hat,hw,-,e1,e2,e3⟩:=uN h
 have hrun:bQ E t f.self S.shapes (1:Int).toNat 0 (cL t S f)=bQ E t f.self S.shapes (0+1) 0 (cL t S f):=rfl
 rw[hrun] at hw e1 e2 e3
 obtain⟨hd',b1,-,b2⟩:=uC h1 h2 (bQ E t f.self S.shapes (0+1) 0 (cL t S f)).1
 unfold bQ at hw e1 e2 e3 b1 b2
 have hw':(dN E t f.self S.shapes 0 (cL t S f)).2.2≠2:=by
  intro hc
  simp only[if_pos (Or.inl hc:(dN E t f.self S.shapes 0 (cL t S f)).2.2=2∨0≤(dN E t f.self S.shapes 0 (cL t S f)).2.1)] at hw
  exact hw hc
 obtain⟨x,g1,g2,g3,g4,g5,g6⟩:=kY E hx ha f.self S.shapes 0 (cL t S f) hw'
 by_cases c:(dN E t f.self S.shapes 0 (cL t S f)).2.2=2∨0≤(dN E t f.self S.shapes 0 (cL t S f)).2.1
 ·simp only[if_pos c] at e1 e2 e3 b1 b2
  rcases g1 with ⟨q,_⟩ | ⟨q1,q2,q3⟩
  ·rcases c with c | c
   ·exact absurd c hw'
   ·omega
  refine⟨h0,by rw[e2];exact q2,hd,f,hd',_,h1,h2,by rw[e1];exact b1,b2,g5,fun r hr=>?_⟩
  refine g6 r ?_
  rw[e2] at hr
  unfold exitAt at hr
  rw[if_pos q1,q3] at hr
  exact hr
 ·simp only[if_neg c] at e1 e2 e3 b1 b2
  rcases g1 with ⟨q1,q2⟩ | ⟨q,_⟩
  ·have e2':exit = -1:=e2
   refine⟨h0,by omega,hd,f,hd',_,h1,h2,by rw[e1];exact b1,b2,g5,fun r hr=>?_⟩
   refine g6 r ?_
   rw[e2'] at hr
   unfold exitAt at hr
   rw[if_neg (by omega)] at hr
   rw[q2];exact hr
  ·exact absurd (.inr q) c
end
section
def hG (cs cs':List bC):Prop:=∀(i:Nat) c,cs[i]? = some c→∃c',cs'[i]? = some c'∧c'.kind=c.kind∧c.vals.length≤c'.vals.length
theorem hG.refl (cs:List bC):hG cs cs:=fun _ c h=>⟨c,h,rfl,Nat.le_refl _⟩
theorem hG.len {cs cs':List bC} (h:hG cs cs'):cs.length≤cs'.length:=by
 rcases Nat.lt_or_ge cs'.length cs.length with c | c
 ·obtain⟨c',e,_⟩:=h cs'.length _ (lG c)
  have:=(lE e).1
  omega
 ·exact c
theorem hG.set {cs cs':List bC} (h:hG cs cs') {n:Nat} {c d:bC} (hc:cs'[n]? = some c) (hd:n<cs.length→d.kind=c.kind∧c.vals.length≤d.vals.length):hG cs (cs'.set n d):=fun i a hi=>by
 obtain⟨c',e1,e2,e3⟩:=h i a hi
 by_cases e:n=i
 ·subst e
  rw[e1] at hc;injection hc with hc;subst hc
  have hil:=(lE hi).1
  obtain⟨g1,g2⟩:=hd hil
  exact⟨d,List.getElem?_set_self (lE e1).1,by rw[g1,e2],by omega⟩
 ·exact⟨c',by rw[List.getElem?_set_ne e];exact e1,e2,e3⟩
theorem hG.snoc {cs cs':List bC} (h:hG cs cs') (d:bC):hG cs (cs'++[d]):=fun i a hi=>by
 obtain⟨c',e1,e2,e3⟩:=h i a hi
 exact⟨c',by rw[List.getElem?_append_left (lE e1).1];exact e1,e2,e3⟩
structure lW (cs:List bC) (t:aN) (k:Nat) (w:aI):Prop where
 keep:hG cs w.cells
 len:w.vals.length=t.ins.length
 free:∀v:Nat,v<k→(jE t v).op=18→(cX w v).kind=5∧(cs.length:Int)≤(cX w v).n
theorem sE {w:aI} {v:Int} {n:Nat} {c:bC} (h:eF w v=some (n,c)):w.cells[n]? = some c∧(cX w v).kind=5∧(cX w v).n=n:=by
 unfold eF at h
 split at h
 ·rename_i h1
  obtain⟨c',e1,e2⟩:=Option.map_eq_some_iff.1 h
  injection e2 with e2 e3
  subst e2 e3
  exact⟨e1,h1.1,by omega⟩
 ·cases h
structure fH (cs:List bC) (i:Nat) (w w':aI):Prop where
 keep:hG cs w.cells→hG cs w'.cells
 len:w'.vals.length=w.vals.length
 vals:∀v:Nat,v≠i→w'.vals[v]? = w.vals[v]?
theorem fH.refl (cs:List bC) (i:Nat) (w:aI):fH cs i w w:=⟨id,rfl,fun _ _=>rfl⟩
theorem mC (cs:List bC) (w:aI) (i:Nat) (v:Val):fH cs i w (fS w i v):=⟨id,by simp[fS],fun u hu=>by show(w.vals.set i v)[u]? = _;rw[List.getElem?_set_ne (Ne.symm hu)]⟩
theorem qM (cs:List bC) (i:Nat) {w:aI} {v:Int} {n:Nat} {c d:bC} (h:eF w v=some (n,c)) (hd:d.kind=c.kind∧c.vals.length≤d.vals.length):fH cs i w (setCW w n d):=
 ⟨fun k=>k.set (sE h).1 (fun _=>hd),rfl,fun _ _=>rfl⟩
theorem zH (cs:List bC) (w:aI) (i:Nat) (k:Int):fH cs i w (dX w i k).1:=by
 unfold dX
 split
 ·exact .refl cs i w
 ·exact⟨fun h=>h.snoc _,by simp,fun u hu=>by show(w.vals.set i _)[u]? = _;rw[List.getElem?_set_ne (Ne.symm hu)]⟩
theorem slot_s (cs:List bC) (w:aI) (i:Nat) (x:bG):fH cs i w (gW w i x).1:=by
 unfold gW
 split
 ·exact .refl cs i w
 ·rename_i n c hc
  split
  ·exact .refl cs i w
  ·split
   ·exact mC _ _ _ _
   ·split
    ·exact qM cs i hc ⟨rfl,by simp⟩
    ·exact mC _ _ _ _
theorem grow_s (cs:List bC) (sh:List aT) (w:aI) (i:Nat) (x:bG):fH cs i w (jT sh w x).1:=by
 unfold jT
 split
 ·exact .refl cs i w
 ·rename_i n c hc
  split
  ·exact .refl cs i w
  ·split
   ·exact .refl cs i w
   ·split
    ·exact .refl cs i w
    ·exact qM cs i hc ⟨rfl,by simp⟩
theorem push_s (cs:List bC) (w:aI) (i:Nat) (x:bG):fH cs i w (iT w x).1:=by
 unfold iT
 split
 ·exact .refl cs i w
 ·rename_i n c hc
  split
  ·exact .refl cs i w
  ·split
   ·exact qM cs i hc ⟨rfl,by simp⟩
   ·split <;> exact .refl cs i w
theorem item_s (cs:List bC) (w:aI) (i:Nat) (x:bG):fH cs i w (lP w i x).1:=by
 unfold lP
 split
 ·exact .refl cs i w
 ·rename_i n c hc
  split
  ·exact .refl cs i w
  ·split
   ·exact .refl cs i w
   ·split
    ·exact mC _ _ _ _
    ·exact qM cs i hc ⟨rfl,by simp⟩
theorem sB (cs:List bC) (E:hV) (self:Val) (shapes:List aT) (w:aI) (i:Nat) (x:bG):fH cs i w (doI E self shapes w i x).1:=by
 unfold doI
 refine bU (fun r:aI×Int=>fH cs i w r.1) (fun _=>mC _ _ _ _) fun _=>?_
 refine bU (fun r:aI×Int=>fH cs i w r.1) (fun _=>mC _ _ _ _) fun _=>?_
 refine bU (fun r:aI×Int=>fH cs i w r.1) (fun _=>mC _ _ _ _) fun _=>?_
 refine bU (fun r:aI×Int=>fH cs i w r.1) (fun _=>.refl cs i w) fun _=>?_
 refine bU (fun r:aI×Int=>fH cs i w r.1) (fun _=>mC _ _ _ _) fun _=>?_
 refine bU (fun r:aI×Int=>fH cs i w r.1) (fun _=>mC _ _ _ _) fun _=>?_
 refine bU (fun r:aI×Int=>fH cs i w r.1) (fun _=>slot_s _ _ _ _) fun _=>?_
 refine bU (fun r:aI×Int=>fH cs i w r.1) (fun _=>grow_s _ _ _ _ _) fun _=>?_
 refine bU (fun r:aI×Int=>fH cs i w r.1) (fun _=>item_s _ _ _ _) fun _=>?_
 refine bU (fun r:aI×Int=>fH cs i w r.1) (fun _=>zH _ _ _ _) fun _=>?_
 refine bU (fun r:aI×Int=>fH cs i w r.1) (fun _=>push_s _ _ _ _) fun _=>?_
 exact bU (fun r:aI×Int=>fH cs i w r.1) (fun _=>.refl cs i w) fun _=>zH _ _ _ _
theorem uH {w w':aI} {v:Nat} (h:w'.vals[v]? = w.vals[v]?):cX w' (v:Int)=cX w v:=by
 unfold cX;rw[show(v:Int).toNat=v from rfl,h]
theorem acU {cs:List bC} {t:aN} {i:Nat} {w:aI} (h:lW cs t i w) (E:hV) (self:Val) (shapes:List aT) (hi:i<t.ins.length) (h0:(doW E t self shapes w i).2=0):lW cs t (i+1) (doW E t self shapes w i).1:=by
 have hs:=sB cs E self shapes w i (jE t i)
 change fH cs i w (doW E t self shapes w i).1 at hs
 refine⟨hs.keep h.keep,hs.len.trans h.len,fun v hv ho=>?_⟩
 by_cases e:v=i
 ·subst e
  have hd:doW E t self shapes w v=dX w v 0:=by
   unfold doW doI
   generalize jE t v=x at ho
   rw[if_neg (by omega),if_neg (by omega),if_neg (by omega),if_neg (by omega),if_neg (by omega),if_neg (by omega),if_neg (by omega),if_neg (by omega),if_neg (by omega),if_neg (by omega),if_neg (by omega),if_neg (by omega)]
  rw[hd] at h0 ⊢
  unfold dX at h0 ⊢
  split at h0
  ·cases h0
  ·rename_i hc
   rw[if_neg hc]
   have hv':v<w.vals.length:=by rw[h.len];exact hi
   have e:cX { w with vals:=w.vals.set v ⟨5,w.cells.length⟩,cells:=w.cells++[⟨0,0,[],[]⟩] } (v:Int)=⟨5,w.cells.length⟩:=by
    unfold cX
    rw[show(v:Int).toNat=v from rfl,List.getElem?_set_self hv'];rfl
   rw[e]
   exact⟨rfl,by have:=h.keep.len;dsimp only;omega⟩
 ·rw[uH (hs.vals v e)]
  exact h.free v (by omega) ho
def mV (t:aN) (x:cW) (k:Nat):Prop:=∀m∈x.makes,0≤m.cell∧m.cell<k∧(jE t m.cell).op=18
theorem tO {cs:List bC} {t:aN} {k:Nat} : ∀(l:List fZ) (w:aI),lW cs t k w→(∀m∈l,0≤m.cell∧m.cell<k∧(jE t m.cell).op=18)→lW cs t k (eK w l).1
 | [],w,h,_=>h
 | m::l,w,h,hm=>by
  have h1:lW cs t k (fP w m).1:=by
   unfold fP
   split
   ·exact h
   ·rename_i n c hc
    split
    ·exact h
    ·obtain⟨g1,g2,g3⟩:=sE hc
     obtain⟨m1,m2,m3⟩:=hm m (by simp)
     obtain⟨kv,hkv⟩:=Int.eq_ofNat_of_zero_le m1
     have hf:=h.free kv (by omega) (by rw[←hkv];exact m3)
     rw[←hkv] at hf
     refine⟨h.keep.set g1 (fun hn=>?_),h.len,fun v hv ho=>h.free v hv ho⟩
     omega
  unfold eK
  split
  ·exact h1
  ·exact tO l _ h1 (fun q hq=>hm q (by simp[hq]))
theorem acV {cs:List bC} {t:aN} {k:Nat} (l:List pS) {w:aI} (h:lW cs t k w):lW cs t k (fN w l):=by
 obtain⟨-,-,hc,hv,-⟩:=kV l w
 refine⟨by rw[hc];exact h.keep,by rw[hv];exact h.len,fun v h1 h2=>?_⟩
 rw[uH (w:=w) (w':=fN w l) (v:=v) (by rw[hv])]
 exact h.free v h1 h2
theorem zD {cs:List bC} {t:aN} {k:Nat} {w:aI} (h:lW cs t k w) {x:cW} (hm:mV t x k):lW cs t k (iG w x).1:=by
 have h1:=tO x.makes w h hm
 unfold iG
 split
 ·exact h1
 ·have h2:=acV x.sets h1
  exact⟨h2.keep,h2.len,fun v a b=>h2.free v a b⟩
structure vF (t:aN):Prop where
 exits:∀(i:Nat) x e,t.ins[i]? = some x→0≤x.exit→t.exits[x.exit.toNat]? = some e→mV t e i
 turn:0<t.loop→mV t t.turn t.loop.toNat
 back:mV t t.back t.ins.length
theorem lW.less {cs:List bC} {t:aN} {k k':Nat} {w:aI} (h:lW cs t k w) (hk:k'≤k):lW cs t k' w:=⟨h.keep,h.len,fun v a b=>h.free v (by omega) b⟩
theorem adJ (E:hV) (self:Val) (shapes:List aT) (w:aI) (i:Nat) (x:bG):(doI E self shapes w i x).2=0∨(doI E self shapes w i x).2=1∨(doI E self shapes w i x).2=2:=by
 have told:∀(r:Val×Int),(iQ w i x.exit r).2=0∨(iQ w i x.exit r).2=1∨(iQ w i x.exit r).2=2:=fun r=>by
  unfold iQ;dsimp only
  split
  ·exact .inl rfl
  ·split
   ·exact .inr (.inr rfl)
   ·exact .inr (.inl rfl)
 have isw:∀b,isW b 1=0∨isW b 1=1∨isW b 1=2:=fun b=>by cases b <;> simp[isW]
 have fresh:∀k,(dX w i k).2=0∨(dX w i k).2=1∨(dX w i k).2=2:=fun k=>by
  unfold dX;split
  ·exact .inr (.inl rfl)
  ·exact .inl rfl
 unfold doI
 refine bU (fun r:aI×Int=>r.2=0∨r.2=1∨r.2=2) (fun _=>.inl rfl) fun _=>?_
 refine bU (fun r:aI×Int=>r.2=0∨r.2=1∨r.2=2) (fun _=>.inl rfl) fun _=>?_
 refine bU (fun r:aI×Int=>r.2=0∨r.2=1∨r.2=2) (fun _=>.inl rfl) fun _=>?_
 refine bU (fun r:aI×Int=>r.2=0∨r.2=1∨r.2=2) (fun _=>isw _) fun _=>?_
 refine bU (fun r:aI×Int=>r.2=0∨r.2=1∨r.2=2) (fun _=>told _) fun _=>?_
 refine bU (fun r:aI×Int=>r.2=0∨r.2=1∨r.2=2) (fun _=>told _) fun _=>?_
 refine bU (fun r:aI×Int=>r.2=0∨r.2=1∨r.2=2) (fun _=>?_) fun _=>?_
 ·unfold gW
  split
  ·exact .inr (.inr rfl)
  ·split
   ·exact .inr (.inr rfl)
   ·split
    ·exact .inl rfl
    ·split <;> exact .inl rfl
 refine bU (fun r:aI×Int=>r.2=0∨r.2=1∨r.2=2) (fun _=>?_) fun _=>?_
 ·unfold jT
  split
  ·exact .inr (.inr rfl)
  ·split
   ·exact .inr (.inr rfl)
   ·split
    ·exact .inr (.inl rfl)
    ·split
     ·exact .inr (.inl rfl)
     ·exact .inl rfl
 refine bU (fun r:aI×Int=>r.2=0∨r.2=1∨r.2=2) (fun _=>?_) fun _=>?_
 ·unfold lP
  split
  ·exact .inr (.inr rfl)
  ·split
   ·exact .inr (.inr rfl)
   ·split
    ·exact .inr (.inl rfl)
    ·split <;> exact .inl rfl
 refine bU (fun r:aI×Int=>r.2=0∨r.2=1∨r.2=2) (fun _=>fresh _) fun _=>?_
 refine bU (fun r:aI×Int=>r.2=0∨r.2=1∨r.2=2) (fun _=>?_) fun _=>?_
 ·unfold iT
  split
  ·exact .inr (.inr rfl)
  ·split
   ·exact .inr (.inr rfl)
   ·split
    ·exact .inl rfl
    ·split
     ·exact .inr (.inr rfl)
     ·exact .inr (.inl rfl)
 exact bU (fun r:aI×Int=>r.2=0∨r.2=1∨r.2=2) (fun _=>isw _) fun _=>fresh _
theorem rM (E:hV) {cs:List bC} {t:aN} (hx:jA t) (mk:vF t) (self:Val) (shapes:List aT) (fin:cW):∀(k i:Nat) (w:aI),i+k≤t.ins.length→mV t fin (i+k)→lW cs t i w→
  hG cs (dM E t self shapes fin k i w).1.cells∧((dM E t self shapes fin k i w).2.2≠2→(dM E t self shapes fin k i w).2.1 = -1→lW cs t (i+k) (dM E t self shapes fin k i w).1)
 | 0,i,w,_,hm,h=>by
  unfold dM
  have:=zD h (x:=fin) (by rwa [Nat.add_zero] at hm)
  exact⟨this.keep,fun _ _=>by rw[Nat.add_zero];exact this⟩
 | k+1,i,w,hk,hm,h=>by
  have hs:=sB cs E self shapes w i (jE t i)
  change fH cs i w (doW E t self shapes w i).1 at hs
  unfold dM
  split
  ·exact⟨hs.keep h.keep,fun _ e=>by cases e⟩
  rename_i h2
  split
  ·rename_i h1
   have hl:=u0 E hx self shapes w (show i<t.ins.length by omega) h1
   split
   ·refine⟨hs.keep h.keep,fun q _=>absurd rfl q⟩
   ·rename_i x hxx
    have hi:t.ins[i]? = some (jE t i):=by
     unfold jE
     rw[show(i:Int).toNat=i from rfl,lG (show i<t.ins.length by omega)];rfl
    have hmk:=mk.exits i _ x hi hl.1 hxx
    have hi':lW cs t i (doW E t self shapes w i).1:=⟨hs.keep h.keep,hs.len.trans h.len,fun v hv ho=>by
     rw[uH (hs.vals v (by omega))];exact h.free v hv ho⟩
    refine⟨(zD hi' hmk).keep,fun _ e=>?_⟩
    dsimp only at e
    omega
  ·rename_i h1
   have h3:(doW E t self shapes w i).2=0:=by
    have:∀(x:bG),(doI E self shapes w i x).2=0∨(doI E self shapes w i x).2=1∨(doI E self shapes w i x).2=2:=fun x=>adJ E self shapes w i x
    rcases this (jE t i) with c | c | c
    ·exact c
    ·exact absurd c h1
    ·exact absurd c h2
   have:=rM E hx mk self shapes fin k (i+1) _ (by omega) (by rw[show i+1+k=i+(k+1) by omega];exact hm) (acU h E self shapes (by omega) h3)
   rw[show i+1+k=i+(k+1) by omega] at this
   exact this
theorem zC (E:hV) {cs:List bC} {t:aN} (hx:jA t) (ha:wT t) (mk:vF t) (self:Val) (shapes:List aT):∀(k done:Nat) (w:aI),lW cs t (if done=0 then 0 else t.loop.toNat) w→hG cs (bQ E t self shapes k done w).1.cells
 | 0,_,w,h=>h.keep
 | k+1,done,w,h=>by
  have l0:=ha.2.2.1
  have l1:=ha.2.2.2
  have once:hG cs (dN E t self shapes done w).1.cells∧((dN E t self shapes done w).2.2≠2→(dN E t self shapes done w).2.1 = -1→lW cs t t.loop.toNat (dN E t self shapes done w).1):=by
   unfold dN
   split
   ·rename_i c
    rw[if_pos c.1] at h
    have:=rM E hx mk self shapes t.turn t.loop.toNat 0 w (by omega) (by rw[Nat.zero_add];exact mk.turn c.2) h
    rw[Nat.zero_add] at this
    exact this
   ·rename_i c
    have h':lW cs t t.loop.toNat w:=by
     by_cases e:done=0
     ·rw[if_pos e] at h
      rw[show t.loop.toNat=0 by omega];exact h
     ·rw[if_neg e] at h;exact h
    have:=rM E hx mk self shapes t.back (t.ins.length - t.loop.toNat) t.loop.toNat w (by omega) (by rw[show t.loop.toNat+(t.ins.length - t.loop.toNat)=t.ins.length by omega];exact mk.back) h'
    exact⟨this.1,fun a b=>(this.2 a b).less (by omega)⟩
  unfold bQ
  by_cases c:(dN E t self shapes done w).2.2=2∨0≤(dN E t self shapes done w).2.1
  ·simp only[if_pos c];exact once.1
  ·simp only[if_neg c]
   obtain⟨x,h1,-⟩:=kY E hx ha self shapes done w (fun e=>c (.inl e))
   have e1:(dN E t self shapes done w).2.1 = -1:=by
    rcases h1 with ⟨e,_⟩ | ⟨e,_⟩
    ·exact e
    ·exact absurd (.inr e) c
   exact zC E hx ha mk self shapes k (done+1) _ (by rw[if_neg (by omega)];exact once.2 (fun e=>c (.inl e)) e1)
end
section
def xI (at_:List Int) (v:Int):Int:=if v<0 then -1 else match at_[v.toNat]? with | none=>-1 | some a=>if a<0 then -1 else a
def tV (at_:List Int) (v:Int):Bool:=decide (0≤xI at_ v)
def setC (at_:List Int) (s:pS):pS:=⟨s.reg,xI at_ s.val⟩
def makeC (at_:List Int) (m:fZ):fZ:=⟨xI at_ m.cell,m.kind,m.num,m.vals.map (xI at_)⟩
def tW (at_:List Int) (x:cW):cW:=⟨x.at_,x.steps,x.sets.map (setC at_),x.makes.map (makeC at_)⟩
def fineS (at_:List Int) (s:pS):Bool:=tV at_ s.val
def fineK (at_:List Int) (m:fZ):Bool:=tV at_ m.cell && m.vals.all (tV at_)
def tU (at_:List Int) (x:cW):Bool:=x.sets.all (fineS at_) && x.makes.all (fineK at_)
def putM (F:Int→Int) (x:bG):bG:=
 { x with a:=if 0<(cF x.op).asks then F x.a else x.a,b:=if 1<(cF x.op).asks then F x.b else x.b,c:=if 2<(cF x.op).asks then F x.c else x.c }
def insC (at_:List Int) (x:bG):bG:=putM (xI at_) x
def adC (at_:List Int) (x:bG):Bool:=(iU x).all (tV at_)
structure wS where
 at_:List Int
 fine:Bool
 loop:Int
 ins:List bG
def u9 (loop0:Int) (s:wS) (x:bG) (n:Int):Option wS:=
 let lp:=if(s.at_.length:Int)=loop0 then(s.ins.length:Int) else s.loop
 if n=s.at_.length then some ⟨s.at_++[(s.ins.length:Int)],s.fine && adC (s.at_++[(s.ins.length:Int)]) x,lp,s.ins++[insC (s.at_++[(s.ins.length:Int)]) x]⟩
 else if n = -1 then some ⟨s.at_++[-1],s.fine,lp,s.ins⟩
 else if 0≤n∧n<s.at_.length then some ⟨s.at_++[s.at_.getD n.toNat 0],s.fine,lp,s.ins⟩
 else none
def lJ (loop0:Int):List bG→List Int→wS→Option wS
 | x::l,n::m,s=>match u9 loop0 s x n with | none=>none | some s'=>lJ loop0 l m s'
 | _,_,s=>some s
def exit0:cW:=⟨0,0,[],[]⟩
def wX:aN:=⟨0,0,0,[],[],exit0,exit0⟩
def yC (t:aN) (s:wS):aN:=
 ⟨t.fn,t.at_,if t.loop≤0 then 0 else if(t.ins.length:Int)≤t.loop then(s.ins.length:Int) else s.loop,s.ins,t.exits.map (tW s.at_),tW s.at_ t.turn,tW s.at_ t.back⟩
def yB (t:aN) (tq:List Int):aN×Int:=
 if tq.length≠t.ins.length then(wX,3)
 else match lJ t.loop t.ins tq ⟨[],true,0,[]⟩ with
  | none=>(wX,3)
  | some s=>if s.fine && t.exits.all (tU s.at_) && tU s.at_ t.turn && tU s.at_ t.back then(yC t s,0) else(wX,3)
theorem sC (loop0:Int):∀(l:List bG) (m:List Int) (s s':wS),lJ loop0 l m s=some s'→s'.ins.length≤s.ins.length+l.length
 | [],m,s,s',h=>by
  cases m <;> (simp only[lJ,Option.some.injEq] at h;subst h;simp)
 | x::l,[],s,s',h=>by simp only[lJ,Option.some.injEq] at h;subst h;omega
 | x::l,n::m,s,s',h=>by
  simp only[lJ] at h
  split at h
  ·cases h
  rename_i s1 e
  have h1:=sC loop0 l m s1 s' h
  have h2:s1.ins.length≤s.ins.length+1:=by
   unfold u9 at e
   dsimp only at e
   split at e
   ·injection e with e;subst e;simp
   split at e
   ·injection e with e;subst e;simp
   split at e
   ·injection e with e;subst e;simp
   ·cases e
  simp only[List.length_cons];omega
theorem cutM_len (t:aN) (tq:List Int):((yB t tq).2=0∧(yB t tq).1.ins.length≤t.ins.length)∨((yB t tq).2=3∧(yB t tq).1.ins=[]):=by
 unfold yB
 split
 ·exact .inr ⟨rfl,rfl⟩
 split
 ·exact .inr ⟨rfl,rfl⟩
 rename_i s e
 have h:=sC _ _ _ _ _ e
 split
 ·left;refine⟨rfl,?_⟩
  simpa [yC] using h
 ·exact .inr ⟨rfl,rfl⟩
def upto (n:Nat):List Int:=(List.range n).map (fun i:Nat=>(i:Int))
theorem vK (n:Nat):(upto n).length=n:=by simp[upto]
theorem z8 (n:Nat):upto (n+1)=upto n++[(n:Int)]:=by simp[upto,List.range_succ]
theorem upto_at {n i:Nat} (h:i<n):(upto n)[i]? = some (i:Int):=by
 unfold upto
 rw[List.getElem?_map,List.getElem?_range h];rfl
theorem mH {n:Nat} {v:Int} (h0:0≤v) (h:v<n):xI (upto n) v=v:=by
 unfold xI
 rw[if_neg (by omega),upto_at (by omega)]
 dsimp only
 rw[if_neg (by omega)];omega
theorem mS {n:Nat} {v:Int} (h0:0≤v) (h:v<n):tV (upto n) v=true:=by
 unfold tV
 rw[mH h0 h];simpa using h0
theorem putM_id {F:Int→Int} {x:bG} (h:∀v∈iU x,F v=v):putM F x=x:=by
 unfold putM
 have hm:∀(k:Nat) (v:Int),[x.a,x.b,x.c][k]? = some v→(k:Int)<(cF x.op).asks→v∈iU x:=fun k v hv hk=>by
  unfold iU
  refine List.mem_of_getElem? (i:=k) ?_
  rw[List.getElem?_take,if_pos (by omega)]
  exact hv
 obtain⟨op,a,b,c,n,e,k⟩:=x
 dsimp only at hm ⊢
 simp only[bG.mk.injEq,true_and,and_true]
 refine⟨?_,?_,?_⟩
 ·split
  ·rename_i h1;exact h _ (hm 0 _ rfl h1)
  ·rfl
 ·split
  ·rename_i h1;exact h _ (hm 1 _ rfl h1)
  ·rfl
 ·split
  ·rename_i h1;exact h _ (hm 2 _ rfl h1)
  ·rfl
def pM (n:Nat) (x:cW):Prop:=(∀s∈x.sets,0≤s.val∧s.val<n)∧∀m∈x.makes,(0≤m.cell∧m.cell<n)∧∀v∈m.vals,0≤v∧v<n
theorem kN {α : Type} {f : α→α} : ∀(l:List α),(∀x∈l,f x=x)→l.map f=l
 | [],_=>rfl
 | x::l,h=>by rw[List.map_cons,h x (by simp),kN l (fun y hy=>h y (by simp[hy]))]
theorem jI {n:Nat} {x:cW} (h:pM n x):tW (upto n) x=x∧tU (upto n) x=true:=by
 obtain⟨h1,h2⟩:=h
 obtain⟨a,s,sets,makes⟩:=x
 constructor
 ·unfold tW
  simp only[cW.mk.injEq,true_and]
  refine⟨kN _ fun s hs=>?_,kN _ fun m hm=>?_⟩
  ·unfold setC
   rw[mH (h1 s hs).1 (h1 s hs).2]
  ·obtain⟨h3,h4⟩:=h2 m hm
   unfold makeC
   rw[mH h3.1 h3.2,kN _ fun v hv=>mH (h4 v hv).1 (h4 v hv).2]
 ·unfold tU
  rw[Bool.and_eq_true,List.all_eq_true,List.all_eq_true]
  refine⟨fun s hs=>mS (h1 s hs).1 (h1 s hs).2,fun m hm=>?_⟩
  obtain⟨h3,h4⟩:=h2 m hm
  unfold fineK
  rw[Bool.and_eq_true,List.all_eq_true]
  exact⟨mS h3.1 h3.2,fun v hv=>mS (h4 v hv).1 (h4 v hv).2⟩
theorem tZ (loop0:Int):∀(l pre:List bG) (lp:Int),(∀(k:Nat) (x:bG),l[k]? = some x→∀v∈iU x,0≤v∧v<((pre.length+k:Nat):Int))→
  ∃lp',lJ loop0 l ((List.range' pre.length l.length).map (fun i:Nat=>(i:Int))) ⟨upto pre.length,true,lp,pre⟩=some ⟨upto (pre.length+l.length),true,lp',pre++l⟩∧
   lp'=if(pre.length:Int)≤loop0∧loop0<pre.length+l.length then loop0 else lp
 | [],pre,lp,_=>⟨lp,by simp[lJ],by rw[if_neg (by simp only[List.length_nil];omega)]⟩
 | x::l,pre,lp,h=>by
  have hx:=h 0 x rfl
  have hi:insC (upto (pre.length+1)) x=x:=putM_id fun v hv=>mH (hx v hv).1 (by have:=(hx v hv).2;omega)
  have hf:adC (upto (pre.length+1)) x=true:=by
   unfold adC
   rw[List.all_eq_true]
   exact fun v hv=>mS (hx v hv).1 (by have:=(hx v hv).2;omega)
  obtain⟨lp',e1,e2⟩:=tZ loop0 l (pre++[x]) (if(pre.length:Int)=loop0 then(pre.length:Int) else lp) (fun k y hy v hv=>by
   have:=h (k+1) y (by simpa using hy) v hv
   simp only[List.length_append,List.length_cons,List.length_nil]
   omega)
  refine⟨lp',?_,?_⟩
  ·rw[List.length_cons,List.range'_succ,List.map_cons]
   unfold lJ u9
   dsimp only
   rw[vK,if_pos rfl,←z8,hf,hi,Bool.and_true]
   simp only[List.length_append,List.length_cons,List.length_nil] at e1
   dsimp only
   rw[e1]
   simp only[List.append_assoc,List.singleton_append,Option.some.injEq,wS.mk.injEq,and_true,true_and]
   congr 1
   omega
  ·rw[e2]
   simp only[List.length_append,List.length_cons,List.length_nil]
   by_cases c:(pre.length:Int)=loop0
   ·rw[if_pos c]
    by_cases c2:((pre.length+(0+1):Nat):Int)≤loop0∧loop0<((pre.length+(0+1):Nat):Int)+l.length
    ·omega
    ·rw[if_neg c2,if_pos (by omega),c]
   ·rw[if_neg c]
    by_cases c2:((pre.length+(0+1):Nat):Int)≤loop0∧loop0<((pre.length+(0+1):Nat):Int)+l.length
    ·rw[if_pos c2,if_pos (by omega)]
    ·rw[if_neg c2,if_neg (by omega)]
theorem vU (n:Nat):(List.range' 0 n).map (fun i:Nat=>(i:Int))=upto n:=by
 unfold upto;rw[List.range_eq_range']
structure Cuts (t:aN):Prop where
 ins:∀(k:Nat) (x:bG),t.ins[k]? = some x→∀v∈iU x,0≤v∧v<(k:Int)
 exits:∀x∈t.exits,pM t.ins.length x
 turn:pM t.ins.length t.turn
 back:pM t.ins.length t.back
 loop0:0≤t.loop
 loop1:t.loop≤t.ins.length
theorem cutM_upto {t:aN} (h:Cuts t):yB t (upto t.ins.length)=(t,0):=by
 unfold yB
 rw[if_neg (by rw[vK];simp)]
 obtain⟨lp',e1,e2⟩:=tZ t.loop t.ins [] 0 (fun k x hx v hv=>by simpa using h.ins k x hx v hv)
 rw[List.length_nil,vU] at e1
 rw[show(⟨[],true,0,[]⟩:wS)=⟨upto 0,true,0,[]⟩ from rfl,e1]
 simp only[Nat.zero_add,List.nil_append]
 have hx:t.exits.all (tU (upto t.ins.length))=true:=by
  rw[List.all_eq_true];exact fun x hx=>(jI (h.exits x hx)).2
 rw[hx,(jI h.turn).2,(jI h.back).2,if_pos (by rfl)]
 have hm:t.exits.map (tW (upto t.ins.length))=t.exits:=kN _ fun x hx=>(jI (h.exits x hx)).1
 have h0:=h.loop0
 have h1:=h.loop1
 have hl:(if t.loop≤0 then 0 else if(t.ins.length:Int)≤t.loop then(t.ins.length:Int) else lp')=t.loop:=by
  simp only[List.length_nil] at e2
  split
  ·omega
  ·split
   ·omega
   ·rw[e2,if_pos (by omega)]
 unfold yC
 dsimp only
 rw[hm,(jI h.turn).1,(jI h.back).1,hl]
theorem wV {ins:List bG} {l:List Int} {at_:Int} (h:gT ins l at_=true):∀v∈l,0≤v∧v<at_∧v<ins.length:=fun v hv=>by
 unfold gT at h
 have:=List.all_eq_true.1 h v hv
 simp only[fF,Bool.and_eq_true,decide_eq_true_eq] at this
 exact⟨this.1.1.1,this.1.1.2,this.1.2⟩
theorem q9 {regs:Int} {ins:List bG} {at_:Int} : ∀(last:Int) (l:List pS),nC regs ins at_ last l=true→∀s∈l,0≤s.val∧s.val<at_∧s.val<ins.length
 | _,[],_,_,hs=>by simp at hs
 | last,x::l,h,s,hs=>by
  simp only[nC,fF,Bool.and_eq_true,decide_eq_true_eq] at h
  rcases List.mem_cons.1 hs with rfl | hs
  ·exact⟨h.1.2.1.1.1,h.1.2.1.1.2,h.1.2.1.2⟩
  ·exact q9 _ l h.2 s hs
theorem mP {ins:List bG} {at_:Int} : ∀(last:Int) (l:List fZ),iE ins at_ last l=true→∀m∈l,(0≤m.cell∧m.cell<at_∧m.cell<ins.length)∧∀v∈m.vals,0≤v∧v<at_∧v<ins.length
 | _,[],_,_,hs=>by simp at hs
 | last,x::l,h,m,hm=>by
  simp only[iE,Bool.and_eq_true,decide_eq_true_eq] at h
  rcases List.mem_cons.1 hm with rfl | hm
  ·have h2:=h.1.2
   simp only[nD,Bool.and_eq_true] at h2
   have h3:=h2.1.1.1.1
   simp only[fF,Bool.and_eq_true,decide_eq_true_eq] at h3
   exact⟨⟨h3.1.1.1,h3.1.1.2,h3.1.2⟩,wV h2.2⟩
  ·exact mP _ l h.2 m hm
theorem pE {fn:FnM} {ins:List bG} {x:cW} {at_:Int} (h:bR fn ins x at_=true):pM ins.length x:=by
 simp only[bR,Bool.and_eq_true] at h
 refine⟨fun s hs=>?_,fun m hm=>?_⟩
 ·have:=q9 _ _ h.1.2 s hs;exact⟨this.1,this.2.2⟩
 ·have:=mP _ _ h.2 m hm
  exact⟨⟨this.1.1,this.1.2.2⟩,fun v hv=>⟨(this.2 v hv).1,(this.2 v hv).2.2⟩⟩
theorem ad3 {n:Nat} {x:cW} (h:lT x=true):pM n x:=by
 simp only[lT,Bool.and_eq_true,List.isEmpty_iff] at h
 refine⟨fun s hs=>?_,fun m hm=>?_⟩
 ·rw[h.1.2] at hs;simp at hs
 ·rw[h.2] at hm;simp at hm
theorem gZ {aG:Val→Bool} {ce:Int} {fns:List FnM} {t:aN} (h:fA aG ce fns t=0) :
  t.ins.length≤300∧t.exits.length≤200∧∃fn,(0≤t.fn∧fns[t.fn.toNat]? = some fn)∧(0≤t.at_∧t.at_<fn.len)∧(0≤t.loop∧t.loop≤t.ins.length)∧rO aG fn t 0 t.ins=0∧
   (t.loop=0→lT t.turn=true)∧(0<t.loop→t.turn.at_=t.at_∧bR fn t.ins t.turn t.loop=true)∧(t.back.at_=t.at_∧bR fn t.ins t.back t.ins.length=true)∧t.exits.all (bR fn t.ins · t.ins.length)=true:=by
 unfold fA at h
 split at h
 ·omega
 split at h
 ·cases h
 split at h
 ·cases h
 rename_i h2 _ fn h3
 have h4:0≤t.fn∧fns[t.fn.toNat]? = some fn:=by
  split at h3
  ·cases h3
  ·exact⟨by omega,h3⟩
 split at h
 ·cases h
 simp only at h
 split at h
 ·rename_i h1;exact(h1 h).elim
 rename_i h5
 split at h
 ·cases h
 rename_i h6
 split at h
 ·cases h
 rename_i h7
 split at h
 case isFalse=>cases h
 rename_i h8
 refine⟨by omega,by omega,fn,h4,by omega,by omega,by simpa using h5,fun c=>?_,fun c=>?_,?_,h8⟩
 ·cases hb:lT t.turn
  ·exact(h6 (.inl ⟨c,hb⟩)).elim
  ·rfl
 ·refine⟨?_,?_⟩
  ·by_cases e:t.turn.at_=t.at_
   ·exact e
   ·exact(h6 (.inr ⟨c,.inl e⟩)).elim
  ·cases hb:bR fn t.ins t.turn t.loop
   ·exact(h6 (.inr ⟨c,.inr hb⟩)).elim
   ·rfl
 ·refine⟨?_,?_⟩
  ·by_cases e:t.back.at_=t.at_
   ·exact e
   ·exact(h7 (.inl e)).elim
  ·cases hb:bR fn t.ins t.back t.ins.length
   ·exact(h7 (.inr hb)).elim
   ·rfl
theorem checkM_cuts {aG:Val→Bool} {ce:Int} {fns:List FnM} {t:aN} (h:fA aG ce fns t=0):Cuts t:=by
 obtain⟨_,_,fn,_,_,hl,hi,ht0,ht1,hb,hx⟩:=gZ h
 refine⟨fun k x hx v hv=>?_,fun x hx'=>pE (List.all_eq_true.1 hx x hx'),?_,pE hb.2,hl.1,hl.2⟩
 ·have:=oS h hx v hv
  exact⟨this.1,this.2.1⟩
 ·rcases Int.lt_or_le 0 t.loop with c | c
  ·exact pE (ht1 c).2
  ·exact ad3 (ht0 (by omega))
end
end Go.Proofs.YtjaphgpkkfdaaaaGreatDoor
