/- A part of the walk. -/
import Derived.Test.YtijihlcdhppfgaaGreatDoorWA
import Derived.Test.YtijihlcdhppfgaaGreatDoorZCC
import Derived.Test.YtijihlcdhppfgaaGreatDoorZU
set_option maxHeartbeats 16000000
set_option maxRecDepth 100000
set_option linter.all false
namespace Go.Proofs.YtijihlcdhppfgaaGreatDoor
open Go.Proofs.Tryz
section
set_option maxHeartbeats 1000000
def auD (F:Int->Int) (x:bX):bX:=⟨x.at_,x.steps,x.sets.map (λs=>⟨s.reg,F s.val⟩),x.makes.map (λm=>⟨F m.cell,m.kind,m.num,m.vals.map F⟩)⟩
theorem auL {F G:Int->Int} {x:bX} (hs:∀s∈x.sets,F s.val=G s.val) (hm:∀m∈x.makes,F m.cell=G m.cell/\∀v∈m.vals,F v=G v):auD F x=auD G x:=by
 unfold auD;congr 1;·exact List.map_congr_left λs h=>by rw[hs s h]
 ·exact List.map_congr_left λm h=>by rw[(hm m h).1,List.map_congr_left (hm m h).2]
theorem auQ (x:bX):auD id x=x:=by obtain⟨a,s,l,m⟩:=x;unfold auD;simp
def as3 (d n:Nat):List Int:=(List.range n).map (λi=>((d+i:Nat):Int))
theorem as6 {d n:Nat} {v:Int} (f:0<=v) (h:v<n):bO (as3 d n) v=v+d:=by unfold bO as3;rw[if_neg (by omega),List.getElem?_map,List.getElem?_range (by omega)];dsimp only [Option.map_some];rw[if_neg (by omega)];omega
theorem atH {d n:Nat} {v:Int} (f:0<=v) (h:v<n):eE (as3 d n) v=true:=by unfold eE;rw[as6 f h];exact decide_eq_true (by omega)
theorem atD {t:aH} {x:bX} {k n:Nat} (h:sS t x k) (hk:k<=n) (d:Nat):dM (as3 d n) x=auD (· + (d:Int)) x:= auL (F:=bO (as3 d n)) (λs hs=>by have:=h.sets s hs;exact as6 this.1 (by omega)) (λm hm=>by have:=h.makes m hm;exact⟨as6 this.1.1 (by omega),λv hv=>by have:=this.2 v hv;exact as6 this.1 (by omega)⟩)
theorem atT (x:bX):auD (· + ((0:Nat):Int)) x=x:=by
 have:(λv:Int=>v+((0:Nat):Int))=id:=by funext v;simp
 rw[this,auQ]
theorem atN {t:aH} {x:bX} {k n:Nat} (h:sS t x k) (hk:k<=n) (d:Nat):kJ t (as3 d n) k x:= ⟨λs hs=>⟨h.sets s hs,by have:=h.sets s hs;exact atH this.1 (by omega)⟩,λm hm=>⟨⟨(h.makes m hm).1,by have:=(h.makes m hm).1;exact atH this.1 (by omega)⟩,λv hv=>⟨(h.makes m hm).2 v hv,by have:=(h.makes m hm).2 v hv;exact atH this.1 (by omega)⟩⟩⟩
theorem au7 (E:iH) (self:Val) (shapes:List aO) (w:aG) (i:Nat) (x:aT) {e:Int} (h:e<0↔x.exit<0):doI E self shapes w i { x with exit:=e } = doI E self shapes w i x:=by have d:(e<0)=(x.exit<0):=propext h;unfold doI gX j6 jK lH nE jF;simp only[d]
structure Off (t T:aH) (d:Nat):Prop where
 ins:∀i:Nat,i<t.ins.length->∃e:Int,bT T ((d+i:Nat):Int) = { iA (bO (as3 d t.ins.length)) (bT t i) with exit:=e }/\(e<0↔(bT t i).exit<0)/\
  ∀x,0<=(bT t i).exit->t.exits[(bT t i).exit.toNat]? = some x->T.exits[e.toNat]? = some (dM (as3 d t.ins.length) x)
theorem atO (E:iH) (self:Val) (shapes:List aO) {t T:aH} {d m:Nat} (h:Off t T d) (hm:d+t.ins.length<=m) (hx:mB t) (s:qF t) (fin:bX) :
  ∀(k i:Nat) (w w':aG),i+k<=t.ins.length->sS t fin (i+k)->iP t (as3 d t.ins.length) m i w w'->(dA E t self shapes fin k i w).2.2≠2->
  (dA E T self shapes (dM (as3 d t.ins.length) fin) k (d+i) w').2.2=(dA E t self shapes fin k i w).2.2/\
   ((dA E T self shapes (dM (as3 d t.ins.length) fin) k (d+i) w').2.1<0↔(dA E t self shapes fin k i w).2.1<0)/\
   iP t (as3 d t.ins.length) m 0 (dA E t self shapes fin k i w).1 (dA E T self shapes (dM (as3 d t.ins.length) fin) k (d+i) w').1
 | 0,i,w,w',hn,hfin,sim,h2=>by
  rw[Nat.add_zero] at hfin
  have h1:=aeH sim (atN hfin (by omega) d)
  unfold dA
  exact⟨h1.1,Iff.rfl,h1.2.less (by omega)⟩
 | k+1,i,w,w',hn,hfin,sim,h2=>by
  have hi:i<t.ins.length:=by omega
  have g:=vB hi
  have r:(doW E t self shapes w i).2≠2:=λc=>by
   unfold dA at h2
   rw[if_pos c] at h2;exact h2 rfl
  obtain⟨e,q1,x,D⟩:=h.ins i hi
  have ask:∀v∈bU (bT t i),lD t (as3 d t.ins.length) i v:=λv hv=>by
   have a:=s.ask i _ g v hv
   exact⟨a,atH a.1 (by have:=a.2.1;omega)⟩
  have y:bO (as3 d t.ins.length) i=((d+i:Nat):Int):=by rw[as6 (by omega) (by omega)];omega
  have hb:∀v:Nat,v<i->eE (as3 d t.ins.length) v=true->bO (as3 d t.ins.length) v<((d+i:Nat):Int):=λv hv _=>by rw[as6 (by omega) (by omega)];omega
  have j:=sim_do sim E self shapes hi rfl (s.ops i _ g) (p:=d+i) (by omega) y hb rfl ask
  have eD:doW E T self shapes w' (d+i)=doI E self shapes w' (d+i) (iA (bO (as3 d t.ins.length)) (bT t i)):=by
   unfold doW
   rw[q1]
   exact au7 E self shapes w' (d+i) (iA (bO (as3 d t.ins.length)) (bT t i)) x
  rw[<-eD] at j
  change acL t _ m i (doW E t self shapes w i) _ at j
  unfold dA at h2 ⊢
  rw[if_neg r] at h2
  rw[if_neg r,j.how,if_neg r]
  by_cases f:(doW E t self shapes w i).2=1
  ·rw[if_pos f] at h2
   rw[if_pos f,if_pos f]
   have hl:=aaR E hx self shapes w hi f
   have q:=lG (l:=t.exits) (i:=(bT t i).exit.toNat) (by omega)
   rw[q] at h2 ⊢
   rw[show(bT T ((d+i:Nat):Int)).exit=e by rw[q1],D _ hl.1 q]
   dsimp only
   have z:=s.exits i _ _ g hl.1 q
   have u:=aeH j.keep (atN z (by omega) d)
   exact⟨u.1,by rw[x],u.2.less (by omega)⟩
  ·rw[if_neg f] at h2
   rw[if_neg f,if_neg f]
   have A:(doW E t self shapes w i).2=0:=by
    rcases ajW E self shapes w i (bT t i) with c | c | c
    ·exact c
    ·exact absurd c f
    ·exact absurd c r
   exact atO E self shapes h hm hx s fin k (i+1) _ _ (by omega) (by rw[show i+1+k=i+(k+1) by omega];exact hfin) (j.next A) h2
section
variable {t:aH}
theorem as2 (t:aH):(arY t).ins.length=t.ins.length+t.ins.length:=by simp[arY]
theorem as9 {i:Nat} (hi:i<t.ins.length):(arY t).ins[i]? = t.ins[i]?:=List.getElem?_append_left hi
theorem as8 (i:Nat):(arY t).ins[t.ins.length+i]? = (t.ins[i]?).map (ar3 t.ins.length t.exits.length):=by show(t.ins++t.ins.map _)[_]? = _;rw[List.getElem?_append_right (by omega),Nat.add_sub_cancel_left,List.getElem?_map]
theorem at5 {i:Nat} {x:bX} (hx:t.exits[i]? = some x):(arY t).exits[i]? = some x:=by show(t.exits++_)[i]? = _;rw[List.getElem?_append_left (lE hx).1,hx]
theorem at2 {i:Nat} {x:bX} (hx:t.exits[i]? = some x):(arY t).exits[t.exits.length+i]? = some (ar2 x t.ins.length):=by show(t.exits++t.exits.map (ar2 · t.ins.length))[_]? = _;rw[List.getElem?_append_right (by omega),Nat.add_sub_cancel_left,List.getElem?_map,hx];rfl
theorem auZ (hx:mB t) (g:qF t):Off t (arY t) 0 where
 ins i hi:=by
  have d:=vB hi
  refine⟨(bT t i).exit,?_,Iff.rfl,λx j f=>?_⟩
  ·rw[Nat.zero_add,aaN (t:=arY t) (x:=bT t i) (by rw[as9 hi];exact d)]
   rw[aeL λv hv=>by have a:=g.ask i _ d v hv;rw[as6 a.1 (by have:=a.2.1;omega)];simp]
  ·have h:=g.exits i _ _ d j f
   rw[atD h (by omega),atT]
   exact at5 f
theorem auK (hx:mB t) (h:qF t):Off t (arY t) t.ins.length where
 ins i hi:=by
  have d:=vB hi
  refine⟨if 0<=(bT t i).exit then(bT t i).exit+t.exits.length else(bT t i).exit,?_,?_,λx f g=>?_⟩
  ·rw[aaN (t:=arY t) (x:=ar3 t.ins.length t.exits.length (bT t i)) (by rw[as8,d];rfl)]
   unfold ar3
   rw[tH (F:=(· + (t.ins.length:Int))) (G:=bO (as3 t.ins.length t.ins.length)) λv hv=>by have a:=h.ask i _ d v hv;exact(as6 a.1 (by have:=a.2.1;omega)).symm]
  ·split <;> omega
  ·have j:=h.exits i _ _ d f g
   rw[if_pos f,atD j (by omega)]
   have:=at2 g
   rw[show((bT t i).exit+(t.exits.length:Int)).toNat=t.exits.length+(bT t i).exit.toNat by omega]
   exact this
theorem auP (E:iH) (self:Val) (shapes:List aO) (hn:0<t.ins.length) (hl:t.loop=0) (hx:mB t) (j:qF t):∀(k d:Nat) (w w':aG),iP t [] (t.ins.length+t.ins.length) 0 w w'->
  (cH E t self shapes k d w).2.2.2≠2->
  ((cH E (arY t) self shapes k d w').2.1<0↔(cH E t self shapes k d w).2.1<0)/\(cH E (arY t) self shapes k d w').2.2=(cH E t self shapes k d w).2.2/\
   iP t [] (t.ins.length+t.ins.length) 0 (cH E t self shapes k d w).1 (cH E (arY t) self shapes k d w').1
 | 0,d,w,w',sim,_=>⟨Iff.rfl,rfl,sim⟩
 | k+1,d,w,w',sim,h2=>by
  have l:(eW E t self shapes d w).2.2≠2:=λc=>by
   unfold cH at h2
   simp only[if_pos (Or.inl c:_\/0<=(eW E t self shapes d w).2.1)] at h2
   exact h2 c
  have r:∀ {A B:List Int} {u x:aG},iP t A (t.ins.length+t.ins.length) 0 u x->iP t B (t.ins.length+t.ins.length) 0 u x:=λs=>⟨s.cells,s.regs,s.at_,s.steps,s.len,s.len',λv hv=>by omega⟩
  have y:eW E t self shapes d w=dA E t self shapes t.back t.ins.length 0 w:=by
   unfold eW
   rw[if_neg (by omega),hl];rfl
  have eT:(eW E (arY t) self shapes d w').2.2=(eW E t self shapes d w).2.2/\((eW E (arY t) self shapes d w').2.1<0↔(eW E t self shapes d w).2.1<0)/\iP t [] (t.ins.length+t.ins.length) 0 (eW E t self shapes d w).1 (eW E (arY t) self shapes d w').1:=by
   rw[y] at l ⊢
   have tb:=j.back
   have p:(arY t).loop=(t.ins.length:Int):=rfl
   unfold eW
   by_cases c:d=0
   ·rw[if_pos ⟨c,by rw[p];omega⟩]
    obtain⟨f,h,g⟩:=atO E self shapes (auZ hx j) (m:=t.ins.length+t.ins.length) (by omega) hx j t.back t.ins.length 0 w w' (by omega) (by rw[Nat.zero_add];exact tb) (r sim) l
    rw[atD tb (Nat.le_refl _),atT] at f h g
    exact⟨f,h,r g⟩
   ·rw[if_neg (λq=>c q.1)]
    obtain⟨f,h,g⟩:=atO E self shapes (auK hx j) (m:=t.ins.length+t.ins.length) (by omega) hx j t.back t.ins.length 0 w w' (by omega) (by rw[Nat.zero_add];exact tb) (r sim) l
    rw[atD tb (Nat.le_refl _)] at f h g
    have z:(arY t).ins.length - (arY t).loop.toNat=t.ins.length:=by rw[as2,p];omega
    rw[z,p,show((t.ins.length:Nat):Int).toNat=t.ins.length from rfl]
    exact⟨f,h,r g⟩
  obtain⟨f,h,g⟩:=eT
  unfold cH at h2 ⊢
  dsimp only at h2 ⊢
  by_cases c:(eW E t self shapes d w).2.2=2\/0<=(eW E t self shapes d w).2.1
  ·rw[if_pos c,if_pos (show(eW E (arY t) self shapes d w').2.2=2\/0<=(eW E (arY t) self shapes d w').2.1 by rw[f];rcases c with c | c;exact .inl c;exact .inr (by omega))]
   exact⟨h,by rw[f],g⟩
  ·rw[if_neg c] at h2
   rw[if_neg c,if_neg (show ¬((eW E (arY t) self shapes d w').2.2=2\/0<=(eW E (arY t) self shapes d w').2.1) by rw[f];intro q;apply c;rcases q with q | q;exact .inl q;exact .inr (by omega))]
   exact auP E self shapes hn hl hx j k (d+1) _ _ g h2
theorem auU {E:iH} {x stc:Int} {S0 out:aP} {th turns exit n:Int} (h:mC E x stc t S0 th turns=(out,exit,n,0)) (hn:0<t.ins.length) (hl:t.loop=0) (hx:mB t) (F:qF t) : ∃d,mC E 0 stc (arY t) S0 th turns=(out,d,n,0)/\(d<0↔exit<0):=by
 obtain⟨-,H,I,J,K,L,f,p,q,r8,r9,r,j,G,s,u,w⟩:=run_ok h;have l:iP t [] (t.ins.length+t.ins.length) 0 (gG t S0 f) (gG (arY t) S0 f):=⟨rfl,rfl,rfl,rfl,by simp[gG],by unfold gG;rw[as2];simp,λv hv=>by omega⟩;obtain⟨A,D,g⟩:=auP E f.self S0.shapes hn hl hx F turns.toNat 0 _ _ l j;have y:iL (arY t) S0 th=true:=by unfold iL;rw[if_neg (by omega),p];dsimp only;rw[q];dsimp only;rw[r8,r9,r,show(arY t).fn=t.fn from rfl,show(arY t).at_=t.at_ from rfl];simp
 refine⟨(cH E (arY t) f.self S0.shapes turns.toNat 0 (gG (arY t) S0 f)).2.1,?_,by rw[u];exact A⟩;unfold mC;rw[if_neg (by decide),if_neg (by omega),if_neg (by omega),p];dsimp only;rw[y,if_neg (by decide),if_neg (by omega),q];dsimp only;rw[D,if_neg j,g.steps,if_neg (by omega),s,w];have z:jS S0 th.toNat (cH E (arY t) f.self S0.shapes turns.toNat 0 (gG (arY t) S0 f)).1=jS S0 th.toNat (cH E t f.self S0.shapes turns.toNat 0 (gG t S0 f)).1:=by unfold jS;rw[g.cells,g.regs,g.at_,g.steps]
 rw[z]
theorem atI {ins ins2:List aT} {F:Int->Int} {a b:Int} (hv:∀v:Int,0<=v->v<a->v<ins.length->0<=F v/\F v<b/\F v<ins2.length/\l6 ins2 (F v)=l6 ins v) {v:Int} (h:eZ ins v a=true):eZ ins2 (F v) b=true/\l6 ins2 (F v)=l6 ins v:=by simp only[eZ,Bool.and_eq_true,decide_eq_true_eq] at h ⊢;obtain⟨h1,f,g,d⟩:=hv v h.1.1.1 h.1.1.2 h.1.2;exact⟨⟨⟨⟨h1,f⟩,g⟩,by rw[d];exact h.2⟩,d⟩
theorem at7 {fn:FnM} {ins ins2:List aT} {F:Int->Int} {a b:Int} (hv:∀v:Int,0<=v->v<a->v<ins.length->0<=F v/\F v<b/\F v<ins2.length/\l6 ins2 (F v)=l6 ins v) (up:∀u v:Int,u<v->F u<F v) {x:bX} (h:bN fn ins x a=true):bN fn ins2 (auD F x) b=true:=by
 have sets:∀(l:List oL) (last:Int),j5 fn.regs ins a last l=true->j5 fn.regs ins2 b last (l.map (λs=>⟨s.reg,F s.val⟩))=true:=λl=>by
  induction l with
  | nil=>intro _ _;rfl
  | cons s l ih=>
   intro last h
   simp only[j5,Bool.and_eq_true,List.map_cons] at h ⊢
   exact⟨⟨h.1.1,(atI hv h.1.2).1⟩,ih _ h.2⟩
 have vals:∀(l:List Int),fN ins l a=true->fN ins2 (l.map F) b=true:=λl h=>by unfold fN at h ⊢;rw[List.all_eq_true] at h ⊢;intro u hu;obtain⟨v,g,rfl⟩:=List.mem_map.1 hu;exact(atI hv (h v g)).1
 have makes:∀(l:List dX) (last d:Int),(∀m∈l,last<m.cell->d<F m.cell)->fI ins a last l=true->fI ins2 b d (l.map (λm=>⟨F m.cell,m.kind,m.num,m.vals.map F⟩))=true:=λl=>by
  induction l with
  | nil=>intro _ _ _ _;rfl
  | cons m l ih=>
   intro last d hl h
   simp only[fI,mG,Bool.and_eq_true,decide_eq_true_eq,List.map_cons,List.length_map] at h ⊢
   obtain⟨⟨h1,⟨⟨⟨h2,h3⟩,h4⟩,h5⟩,h6⟩,h7⟩:=h
   obtain⟨p,q⟩:=atI hv h2
   exact⟨⟨hl m (by simp) h1,⟨⟨⟨p,by rw[q];exact h3⟩,h4⟩,h5⟩,vals _ h6⟩,ih _ _ (λk _ j=>up _ _ j) h7⟩
 simp only[bN,Bool.and_eq_true] at h ⊢;refine⟨⟨h.1.1,sets _ _ h.1.2⟩,makes _ (-1) (-1) (λm hm r=>?_) h.2⟩;obtain⟨f,w⟩:=nB _ _ h.2 m hm;have:=hv m.cell f.1 f.2.1 f.2.2;omega
theorem atU {R:Val->Bool} {fn:FnM} {t u:aH} {x:aT} {F:Int->Int} {e a b:Int} (h:eJ R fn t x a=true) (hv:fN t.ins (bU x) a=true->fN u.ins ((bU x).map F) b=true) (h1:x.exit<0->e=x.exit) (hx:∀y:bX,0<=x.exit->t.exits[x.exit.toNat]? = some y->bN fn t.ins y a=true->0<=e/\∃d,u.exits[e.toNat]? = some d/\bN fn u.ins d b=true):eJ R fn u { iA F x with exit:=e } b=true:=by
 unfold eJ at h ⊢;simp only[Bool.and_eq_true] at h ⊢;obtain⟨⟨⟨⟨h1',h2⟩,h3⟩,h4⟩,h5⟩:=h;refine⟨⟨⟨⟨?_,?_⟩,h3⟩,h4⟩,?_⟩;·have:bU { iA F x with exit:=e } = bU (iA F x):=rfl;rw[this,akP];exact hv h1'
 ·simp only[fU,Bool.and_eq_true,Bool.or_eq_true,decide_eq_true_eq] at h2 ⊢;refine⟨⟨?_,?_⟩,?_⟩
  ·by_cases c:0<(bP x.op).asks;·exact .inl c
   ·right;show fV x 0 (iA F x).a=true;rw[show(iA F x).a=x.a from if_neg c];exact h2.1.1.resolve_left c
  ·by_cases c:1<(bP x.op).asks;·exact .inl c
   ·right;show fV x 1 (iA F x).b=true;rw[show(iA F x).b=x.b from if_neg c];exact h2.1.2.resolve_left c
  ·by_cases c:2<(bP x.op).asks;·exact .inl c
   ·right;show fV x 2 (iA F x).c=true;rw[show(iA F x).c=x.c from if_neg c];exact h2.2.resolve_left c
 ·show(if((bP x.op).exit == 0 || (bP x.op).exit == 1 && e == -1)=true then e == -1 else decide (0<=e) && decide (e<u.exits.length) && (u.exits[e.toNat]?).any (bN fn u.ins · b))=true;split at h5;·rename_i c;have p:=beq_iff_eq.1 h5;have:=h1 (by omega);rw[this,if_pos c];exact h5
  ·rename_i c;simp only[Bool.and_eq_true,decide_eq_true_eq] at h5;have hy:=lG (l:=t.exits) (i:=x.exit.toNat) (by omega);rw[hy] at h5;obtain⟨g,d,f,j⟩:=hx _ h5.1.1 hy (by simpa using h5.2);have r:=(lE f).1;rw[if_neg];·rw[f];simp only[Bool.and_eq_true,decide_eq_true_eq];exact⟨⟨g,by omega⟩,by simpa using j⟩
   ·intro q;apply c;rw[show(e == -1)=false from bF (by omega)] at q;rw[Bool.and_false,Bool.or_false] at q;rw[q];rfl
theorem auF {R:Val->Bool} {E:Int} {fns:List FnM} (h:cQ R E fns t=0) (K:E=0) (hn:0<t.ins.length) (L:t.ins.length<=150) (M:t.exits.length<=100):cQ R E fns (arY t)=0:=by
 obtain⟨O,P,fn,J,S,V,p6,p7,X,j,q⟩:=fD h;have N:=adZ h;have G:∀v:Int,0<=v->v<t.ins.length->l6 (arY t).ins v=l6 t.ins v:=λv d h1=>by unfold l6;rw[as9 (by omega)]
 have H:∀v:Int,0<=v->v<t.ins.length->l6 (arY t).ins (v+t.ins.length)=l6 t.ins v:=λv d h1=>by unfold l6;rw[show(v+(t.ins.length:Int)).toNat=t.ins.length+v.toNat by omega,as8];cases t.ins[v.toNat]? <;> rfl
 have tl:=as2 t;have I:(arY t).exits.length=t.exits.length+t.exits.length:=by simp[arY]
 have l:∀(a b:Int),a<=b->∀v:Int,0<=v->v<a->v<t.ins.length->0<=id v/\id v<b/\id v<(arY t).ins.length/\l6 (arY t).ins (id v)=l6 t.ins v:=λa b r v d h1 A=>by
  refine⟨d,?_,?_,G v d A⟩;·show v<b;omega
  ·show v<_;rw[tl];omega
 have p:∀(a:Int),∀v:Int,0<=v->v<a->v<t.ins.length->0<=v+(t.ins.length:Int)/\v+(t.ins.length:Int)<a+t.ins.length/\v+(t.ins.length:Int)<(arY t).ins.length/\l6 (arY t).ins (v+t.ins.length)=l6 t.ins v:=λa v d h1 A=> ⟨by omega,by omega,by rw[tl];omega,H v d A⟩;have s:∀(a b:Int) (x:bX),a<=b->bN fn t.ins x a=true->bN fn (arY t).ins x b=true:=λa b x r hx=>by have:=at7 (ins2:=(arY t).ins) (F:=id) (b:=b) (l a b r) (λu v h=>h) hx;rwa [auQ] at this
 have w:∀(a:Int) (x:bX),bN fn t.ins x a=true->bN fn (arY t).ins (ar2 x t.ins.length) (a+t.ins.length)=true:=λa x hx=> at7 (ins2:=(arY t).ins) (F:=(· + (t.ins.length:Int))) (b:=a+t.ins.length) (p a) (λu v h=>by show u+_<v+_;omega) hx;have z:sJ R fn (arY t) 0 (arY t).ins=0:=by
  refine aeU _ _ λk y hy=>?_;rw[Nat.zero_add];have hk:=(lE hy).1;rw[tl] at hk;rcases Nat.lt_or_ge k t.ins.length with c | c;·rw[as9 c] at hy;obtain⟨q1,f⟩:=fW t.ins 0 p6 k y hy;rw[Nat.zero_add] at f;refine⟨q1,?_⟩;have:=atU (F:=id) (e:=y.exit) (u:=arY t) (b:=(k:Int)) f (λhv=>by unfold fN at hv ⊢;rw[List.map_id,List.all_eq_true] at *;exact λv g=>(atI (F:=id) (l k k (Int.le_refl _)) (hv v g)).1) (λ_=>rfl) (λx d hx D=>⟨d,x,at5 hx,s _ _ x (Int.le_refl _) D⟩);rw[aeL (F:=id) (x:=y) (λ_ _=>rfl)] at this;exact this
  ·obtain⟨i,rfl⟩:∃i,k=t.ins.length+i:=⟨k - t.ins.length,by omega⟩;rw[as8] at hy;obtain⟨x,hx,rfl⟩:=Option.map_eq_some_iff.1 hy;obtain⟨q1,f⟩:=fW t.ins 0 p6 i x hx;rw[Nat.zero_add] at f;refine⟨q1,?_⟩;have hb:((t.ins.length+i:Nat):Int)=(i:Int)+t.ins.length:=(by omega);rw[hb];refine atU (F:=(· + (t.ins.length:Int))) f (λhv=>?_) (λc=>by rw[if_neg (by omega)]) (λy d hy D=>?_);·unfold fN at hv ⊢;rw[List.all_eq_true] at hv ⊢;intro u hu;obtain⟨v,g,rfl⟩:=List.mem_map.1 hu;exact(atI (F:=(· + (t.ins.length:Int))) (p i) (hv v g)).1
   ·rw[if_pos d,show(x.exit+(t.exits.length:Int)).toNat=t.exits.length+x.exit.toNat by omega];exact⟨by omega,_,at2 hy,w _ y D⟩
 unfold cQ;rw[if_neg (by omega),if_neg (by rw[tl,I];omega),show(arY t).fn=t.fn from rfl,if_neg (by omega),J.2];dsimp only;rw[show(arY t).at_=t.at_ from rfl,show(arY t).loop=(t.ins.length:Int) from rfl,if_neg (by rw[tl];omega),z,if_neg (by decide)];rw[if_neg,if_neg,if_pos]
 ·rw[List.all_eq_true];intro y hy;have hy':y∈t.exits++t.exits.map (ar2 · t.ins.length):=hy;rw[tl];rcases List.mem_append.1 hy' with hy' | hy';·exact s _ _ y (by omega) (List.all_eq_true.1 q y hy')
  ·obtain⟨x,hx,rfl⟩:=List.mem_map.1 hy';have:=w _ x (List.all_eq_true.1 q x hx);rwa [show((t.ins.length+t.ins.length:Nat):Int)=(t.ins.length:Int)+t.ins.length by omega]
 ·rintro (c | c);·exact c j.1
  ·have c':bN fn (arY t).ins (ar2 t.back t.ins.length) ((arY t).ins.length:Int)=false:=c;rw[tl,show((t.ins.length+t.ins.length:Nat):Int)=(t.ins.length:Int)+t.ins.length by omega,w _ _ j.2] at c';cases c'
 ·rintro (⟨c1,c2⟩ | ⟨c1,c2 | c2⟩);·omega
  ·exact c2 j.1
  ·have c':bN fn (arY t).ins t.back (t.ins.length:Int)=false:=c2;rw[s _ _ _ (Int.le_refl _) j.2] at c';cases c'
end
end
section
end
section
theorem amY (b:Nat):(ofM b).kind=3:=by unfold ofM;split <;> rfl
theorem alC (b:Bool):(mS b).kind=1:=by cases b <;> rfl
theorem alQ (o:BinOp) (x y:Nat):(ofB o x y).kind=3:=by
 unfold ofB;split;·exact amY _
 ·rfl
end
section
structure anO (E:iH):Prop where
 un:∀n a,(E.U n a).1.kind≠5
 bin:∀n a b,(E.B n a b).1.kind≠5
end
section
theorem amL {R:Val->Bool} {p:aZ} {S:aP} : ∀(l:List bC) (low:Option Int) (gens g:List Int),cX R p S low gens l=some g->∀f∈l,eC R p S f=true
 | [],_,_,_,_,f,hf=>by simp at hf
 | y::r,low,gens,g,h,f,hf=>by
  unfold cX at h
  dsimp only at h
  split at h
  ·cases h
  rename_i c
  have d:eC R p S y=true:=by
   cases e:eC R p S y with
   | true=>rfl
   | false=>rw[e] at c;exact absurd (by simp) c
  rcases List.mem_cons.1 hf with rfl | hf
  ·exact d
  split at h
  ·exact amL r _ _ _ h f hf
  ·split at h
   ·cases h
   ·split at h
    ·cases h
    ·exact amL r _ _ _ h f hf
theorem anP {R:Val->Bool} {p:aZ} {S:aP} {gens g:List Int} {x:cD} (h:gJ R p S gens x=some g):∀f∈x.frames,eC R p S f=true:=by
 unfold gJ at h;dsimp only at h;split at h;·cases h
 split at h;·cases h
 split at h;·cases h
 split at h;·cases h
 exact amL _ _ _ _ h
theorem al2 {R:Val->Bool} {p:aZ} {S:aP} : ∀(l:List cD) (gens g:List Int),dK R p S gens l=some g->∀x∈l,∀f∈x.frames,eC R p S f=true
 | [],_,_,_,x,hx=>by simp at hx
 | y::r,gens,g,h,x,hx=>by
  unfold dK at h
  split at h
  ·cases h
  rename_i d e
  rcases List.mem_cons.1 hx with rfl | hx
  ·exact anP e
  ·exact al2 r _ _ h x hx
theorem alO (b:Bool):(mS b).kind≠5:=by rw[alC];decide
theorem of_no (b:Nat):(ofM b).kind≠5:=by rw[amY];decide
theorem amZ (o:BinOp) (x y:Nat):(ofB o x y).kind≠5:=by rw[alQ];decide
theorem alH (n:Int):(mR n).1.kind≠5:=by unfold mR;exact cI (λr:Val×Int=>r.1.kind≠5) (λ_=>show(2:Int)≠5 by decide) λ_=>show(0:Int)≠5 by decide
theorem amO (op:Int) (a b:Bool):(kR op a b).1.kind≠5:=by unfold kR;refine cI (λr:Val×Int=>r.1.kind≠5) (λ_=>alO _) λ_=>?_;exact cI (λr:Val×Int=>r.1.kind≠5) (λ_=>alO _) λ_=>show(0:Int)≠5 by decide
theorem no_ref:anO ⟨qY,jV,oD⟩:=by
 refine⟨λn a=>?_,λn a b=>?_⟩;·show(qY n a).1.kind≠5;unfold qY;refine cI (λr:Val×Int=>r.1.kind≠5) (λ_=>alO _) λ_=>?_;refine cI (λr:Val×Int=>r.1.kind≠5) (λ_=>alH _) λ_=>?_;exact cI (λr:Val×Int=>r.1.kind≠5) (λ_=>of_no _) λ_=>show(0:Int)≠5 by decide
 ·show(jV n a b).1.kind≠5;unfold jV;refine cI (λr:Val×Int=>r.1.kind≠5) (λ_=>?_) λ_=>?_;·unfold oH;refine cI (λr:Val×Int=>r.1.kind≠5) (λ_=>amZ _ _ _) λ_=>?_;refine cI (λr:Val×Int=>r.1.kind≠5) (λ_=>amZ _ _ _) λ_=>?_;refine cI (λr:Val×Int=>r.1.kind≠5) (λ_=>amZ _ _ _) λ_=>?_;refine cI (λr:Val×Int=>r.1.kind≠5) (λ_=>amZ _ _ _) λ_=>?_;exact cI (λr:Val×Int=>r.1.kind≠5) (λ_=>alO _) λ_=>amO _ _ _
  refine cI (λr:Val×Int=>r.1.kind≠5) (λ_=>alO _) λ_=>?_;refine cI (λr:Val×Int=>r.1.kind≠5) (λ_=>?_) λ_=>show(0:Int)≠5 by decide
  unfold pR;refine cI (λr:Val×Int=>r.1.kind≠5) (λ_=>alH _) λ_=>?_;refine cI (λr:Val×Int=>r.1.kind≠5) (λ_=>alH _) λ_=>?_;refine cI (λr:Val×Int=>r.1.kind≠5) (λ_=>alH _) λ_=>?_;refine cI (λr:Val×Int=>r.1.kind≠5) (λ_=>?_) λ_=>amO _ _ _;refine cI (λr:Val×Int=>r.1.kind≠5) (λ_=>show(0:Int)≠5 by decide) λ_=>?_;exact cI (λr:Val×Int=>r.1.kind≠5) (λ_=>alH _) λ_=>alH _
end
section
open Go.RowKit
section
variable {Q:Val->Prop} {w:aG}
end
def KQ (Q:Val->Prop) (t:aH):Prop:=∀i:Nat,(bT t i).op=2->Q (bT t i).k
end
end Go.Proofs.YtijihlcdhppfgaaGreatDoor
