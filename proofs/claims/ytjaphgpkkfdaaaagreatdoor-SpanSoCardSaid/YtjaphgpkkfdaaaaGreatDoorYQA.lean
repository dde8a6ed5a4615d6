/- A part of the walk. -/
import Derived.Test.YtjaphgpkkfdaaaaGreatDoorZBB
import Derived.Test.YtjaphgpkkfdaaaaGreatDoorZU
set_option maxHeartbeats 16000000
set_option maxRecDepth 100000
set_option linter.all false
namespace Go.Proofs.YtjaphgpkkfdaaaaGreatDoor
open Tryz
section
theorem af4 {x:bG} {k:Nat} {v:Int} (d : [x.a,x.b,x.c][k]? = some v) (e:(k:Int)<(cF x.op).asks):v∈iU x:=by unfold iU;refine lM (i:=k) ?_;rw[List.getElem?_take,if_pos (by omega)];exact d
structure afL (t:aN) (d:Int) (k:Nat) (w w':aI):Prop where
 cells:w'.cells=w.cells
 regs:w'.regs=w.regs
 at_:w'.at_=w.at_
 steps:w'.steps=w.steps+d
 len:w'.vals.length=w.vals.length
 full:w.vals.length=t.ins.length
 vals:∀v:Nat,v<k->iC (jE t v).op=true->w'.vals[v]? = w.vals[v]?
def afV (t:aN):Prop:=∀(k:Nat) (x:bG),t.ins[k]? = some x->∀v∈iU x,0<=v/\v<k/\iC (jE t v).op=true
theorem af1 {aG:Val->Bool} {i:Int} {fns:List FnM} {t:aN} (h:fA aG i fns t=0):afV t:=λk x f v g=>by
 have:=oS h f v g
 refine⟨this.1,this.2.1,?_⟩
 have d:=this.2.2.2
 unfold nQ at d
 unfold jE
 cases e:t.ins[v.toNat]? with
 | none=>rw[e] at d;exact absurd d (by decide)
 | some y=>rw[e] at d;exact d
theorem afL.val {t:aN} {d:Int} {k:Nat} {w w':aI} (h:afL t d k w w') {v:Int} (e:0<=v) (g:v<k) (f:iC (jE t v).op=true):cX w' v=cX w v:=by obtain⟨n,rfl⟩:=Int.eq_ofNat_of_zero_le e;exact uH (h.vals n (by omega) f)
theorem afL.cell {t:aN} {d:Int} {k:Nat} {w w':aI} (h:afL t d k w w') {v:Int} (e:0<=v) (f:v<k) (g:iC (jE t v).op=true):eF w' v=eF w v:=by unfold eF;rw[h.val e f g,h.cells]
structure afO (t:aN) (d:Int) (i:Nat) (r r':aI×Int):Prop where
 how:r'.2=r.2
 keep:afL t d i r.1 r'.1
 next:r.2=0->afL t d (i+1) r.1 r'.1
section
variable {t:aN} {d:Int} {i:Nat} {w w':aI}
theorem afL.no (h:afL t d i w w') {how:Int} (f:how≠0):afO t d i (w,how) (w',how):=⟨rfl,h,λe=>absurd e f⟩
theorem afL.setV (h:afL t d i w w') (hi:i<t.ins.length) (v:Val):afL t d (i+1) (fS w i v) (fS w' i v):=
 ⟨h.cells,h.regs,h.at_,h.steps,by simp[fS,h.len],by simp[fS,h.full],λu f ht=>by
  show(w'.vals.set i v)[u]? = (w.vals.set i v)[u]?
  by_cases e:u=i
  ·subst e
   rw[List.getElem?_set_self (by rw[h.len,h.full];exact hi),List.getElem?_set_self (by rw[h.full];exact hi)]
  ·rw[List.getElem?_set_ne (Ne.symm e),List.getElem?_set_ne (Ne.symm e)]
   exact h.vals u (by omega) ht⟩
theorem afL.less {k e:Nat} (h:afL t d k w w') (g:e<=k):afL t d e w w':=⟨h.cells,h.regs,h.at_,h.steps,h.len,h.full,λv f ht=>h.vals v (by omega) ht⟩
theorem afL.setC (h:afL t d i w w') (n:Nat) (c:bC):afL t d i (setCW w n c) (setCW w' n c):= ⟨by show w'.cells.set n c=w.cells.set n c;rw[h.cells],h.regs,h.at_,h.steps,h.len,h.full,h.vals⟩
theorem afL.fresh (h:afL t d i w w') (hi:i<t.ins.length) (k:Int):afO t d i (dX w i k) (dX w' i k):=by
 unfold dX;rw[h.cells];split;·exact h.no (by decide)
 ·have e:=h.setV hi ⟨5,w.cells.length⟩;have f:afL t d (i+1) { w with vals:=w.vals.set i ⟨5,w.cells.length⟩,cells:=w.cells++[⟨k,0,[],[]⟩] } { w' with vals:=w'.vals.set i ⟨5,w.cells.length⟩,cells:=w.cells++[⟨k,0,[],[]⟩] }:= ⟨rfl,e.regs,e.at_,e.steps,e.len,e.full,e.vals⟩;exact⟨rfl,f.less (by omega),λ_=>f⟩
end
structure afN (t:aN) (x:cW) (k:Nat):Prop where
 sets:∀s∈x.sets,0<=s.val/\s.val<k/\iC (jE t s.val).op=true
 makes:∀m∈x.makes,(0<=m.cell/\m.cell<k/\iC (jE t m.cell).op=true)/\∀v∈m.vals,0<=v/\v<k/\iC (jE t v).op=true
section
variable {t:aN} {d:Int} {k:Nat}
structure afM (t:aN):Prop where
 ask:afV t
 ops:∀(i:Nat) x,t.ins[i]? = some x->lU x.op=true
 exits:∀(i:Nat) x e,t.ins[i]? = some x->0<=x.exit->t.exits[x.exit.toNat]? = some e->afN t e i
 back:afN t t.back t.ins.length
end
end
section
end
section
structure agP (E:hV) (t:aN) (w:aI) (v:Nat):Prop where
 const:(jE t v).op=2->cX w v=(jE t v).k
 count:(jE t v).op=15->(cX w v).kind=2
 new:(jE t v).op=16\/(jE t v).op=18->(cX w v).kind=5
 bin:(jE t v).op=7->cX w v=(E.B (jE t v).n (cX w (jE t v).a) (cX w (jE t v).b)).1/\(E.B (jE t v).n (cX w (jE t v).a) (cX w (jE t v).b)).2<0
 un:(jE t v).op=8->cX w v=(E.U (jE t v).n (cX w (jE t v).a)).1/\(E.U (jE t v).n (cX w (jE t v).a)).2<0
 is_:(jE t v).op=4->(cX w (jE t v).a).kind=(jE t v).n
 same:(jE t v).op=6->cX w (jE t v).a=(jE t v).k
 cell:(jE t v).op=9->(cX w (jE t v).a).kind=5
theorem agQ {w:aI} {i:Nat} (hi:i<w.vals.length) (v:Val):cX (fS w i v) (i:Int)=v:=by unfold cX fS;rw[show(i:Int).toNat=i from rfl,List.getElem?_set_self hi];rfl
theorem ahI {w:aI} {v:Int} {d:Nat×bC} (h:eF w v=some d):(cX w v).kind=5:=by
 unfold eF at h;split at h;·rename_i c;exact c.1
 ·cases h
theorem ahM {E:hV} {t:aN} {w w':aI} {v:Nat} (h:agP E t w v) (j:∀o∈iU (jE t v),0<=o/\o<v) (i:∀u:Nat,u<=v->w'.vals[u]? = w.vals[u]?):agP E t w' v:=by
 have d:cX w' (v:Int)=cX w v:=uH (i v (Nat.le_refl _));have e:0<(cF (jE t v).op).asks->cX w' (jE t v).a=cX w (jE t v).a:=λc=>by obtain⟨f,m⟩:=j _ (af4 (k:=0) rfl c);obtain⟨n,g⟩:=Int.eq_ofNat_of_zero_le f;rw[g];exact uH (i n (by omega))
 have l:1<(cF (jE t v).op).asks->cX w' (jE t v).b=cX w (jE t v).b:=λc=>by obtain⟨f,m⟩:=j _ (af4 (k:=1) rfl c);obtain⟨n,g⟩:=Int.eq_ofNat_of_zero_le f;rw[g];exact uH (i n (by omega))
 refine⟨λc=>?_,λc=>?_,λc=>?_,λc=>?_,λc=>?_,λc=>?_,λc=>?_,λc=>?_⟩;·rw[d];exact h.const c
 ·rw[d];exact h.count c
 ·rw[d];exact h.new c
 ·rw[d,e (by rw[c];decide),l (by rw[c];decide)];exact h.bin c
 ·rw[d,e (by rw[c];decide)];exact h.un c
 ·rw[e (by rw[c];decide)];exact h.is_ c
 ·rw[e (by rw[c];decide)];exact h.same c
 ·rw[e (by rw[c];decide)];exact h.cell c
theorem ahN {E:hV} {t:aN} {w:aI} {i:Nat} (hl:w.vals.length=t.ins.length) (hi:i<t.ins.length) (self:Val) (shapes:List aT) (r:∀o∈iU (jE t i),0<=o/\o<i)
  (d:(doW E t self shapes w i).2=0):agP E t (doW E t self shapes w i).1 i:=by
 have j:=sB w.cells E self shapes w i (jE t i)
 change fH w.cells i w (doW E t self shapes w i).1 at j
 have g:i<w.vals.length:=by omega
 have h:0<(cF (jE t i).op).asks->cX (doW E t self shapes w i).1 (jE t i).a=cX w (jE t i).a:=λc=>by
  obtain⟨l,u⟩:=r _ (af4 (k:=0) rfl c)
  obtain⟨n,m⟩:=Int.eq_ofNat_of_zero_le l
  rw[m];exact uH (j.vals n (by omega))
 have s:1<(cF (jE t i).op).asks->cX (doW E t self shapes w i).1 (jE t i).b=cX w (jE t i).b:=λc=>by
  obtain⟨l,u⟩:=r _ (af4 (k:=1) rfl c)
  obtain⟨n,m⟩:=Int.eq_ofNat_of_zero_le l
  rw[m];exact uH (j.vals n (by omega))
 refine⟨λc=>?_,λc=>?_,λc=>?_,λc=>?_,λc=>?_,λc=>?_,λc=>?_,λc=>?_⟩
 ·have e:doW E t self shapes w i=(fS w i (jE t i).k,0):=by
   unfold doW doI
   rw[if_neg (by omega),if_pos c]
  rw[e];exact agQ g _
 ·have e:doW E t self shapes w i=gW w i (jE t i):=by
   unfold doW doI
   rw[if_neg (by omega),if_neg (by omega),if_neg (by omega),if_neg (by omega),if_neg (by omega),if_neg (by omega),if_pos (by omega)]
  rw[e] at d ⊢
  unfold gW at d ⊢
  cases f:eF w (jE t i).a with
  | none=>rw[f] at d;cases d
  | some nc=>
   obtain⟨n,v⟩:=nc
   dsimp only
   rw[if_neg (by omega),if_neg (by omega),if_neg (by omega)]
   show(cX (fS w i _) (i:Int)).kind=2
   rw[agQ g]
 ·have hf:∀k,(dX w i k).2=0->(cX (dX w i k).1 (i:Int)).kind=5:=λk p=>by
   unfold dX at p ⊢
   split at p
   ·cases p
   ·rename_i f
    rw[if_neg f]
    have:cX { w with vals:=w.vals.set i ⟨5,w.cells.length⟩,cells:=w.cells++[⟨k,0,[],[]⟩] } (i:Int)=⟨5,w.cells.length⟩:=by
     unfold cX
     rw[show(i:Int).toNat=i from rfl,List.getElem?_set_self g];rfl
    rw[this]
  rcases c with c | c
  ·have e:doW E t self shapes w i=dX w i (jE t i).n:=by
    unfold doW doI
    rw[if_neg (by omega),if_neg (by omega),if_neg (by omega),if_neg (by omega),if_neg (by omega),if_neg (by omega),if_neg (by omega),if_neg (by omega),if_neg (by omega),if_pos c]
   rw[e] at d ⊢;exact hf _ d
  ·have e:doW E t self shapes w i=dX w i 0:=by
    unfold doW doI
    rw[if_neg (by omega),if_neg (by omega),if_neg (by omega),if_neg (by omega),if_neg (by omega),if_neg (by omega),if_neg (by omega),if_neg (by omega),if_neg (by omega),if_neg (by omega),if_neg (by omega),if_neg (by omega)]
   rw[e] at d ⊢;exact hf _ d
 ·rw[h (by rw[c];decide),s (by rw[c];decide)]
  have e:doW E t self shapes w i=iQ w i (jE t i).exit (E.B (jE t i).n (cX w (jE t i).a) (cX w (jE t i).b)):=by
   unfold doW doI
   rw[if_neg (by omega),if_neg (by omega),if_neg (by omega),if_neg (by omega),if_pos c]
  rw[e] at d ⊢
  refine⟨agQ g _,?_⟩
  unfold iQ at d
  dsimp only at d
  split at d
  ·assumption
  ·split at d <;> cases d
 ·rw[h (by rw[c];decide)]
  have e:doW E t self shapes w i=iQ w i (jE t i).exit (E.U (jE t i).n (cX w (jE t i).a)):=by
   unfold doW doI
   rw[if_neg (by omega),if_neg (by omega),if_neg (by omega),if_neg (by omega),if_neg (by omega),if_pos c]
  rw[e] at d ⊢
  refine⟨agQ g _,?_⟩
  unfold iQ at d
  dsimp only at d
  split at d
  ·assumption
  ·split at d <;> cases d
 ·rw[h (by rw[c];decide)]
  have e:doW E t self shapes w i=(w,isW (iY E w (jE t i)) 1):=by
   unfold doW doI
   rw[if_neg (by omega),if_neg (by omega),if_neg (by omega),if_pos (by omega)]
  rw[e] at d
  unfold iY at d
  rw[if_pos c] at d
  unfold isW at d
  dsimp only at d
  split at d
  ·rename_i q;simpa using q
  ·cases d
 ·rw[h (by rw[c];decide)]
  have e:doW E t self shapes w i=(w,isW (iY E w (jE t i)) 1):=by
   unfold doW doI
   rw[if_neg (by omega),if_neg (by omega),if_neg (by omega),if_pos (by omega)]
  rw[e] at d
  unfold iY at d
  rw[if_neg (by omega),if_neg (by omega),if_pos c] at d
  unfold isW at d
  dsimp only at d
  split at d
  ·rename_i q;simpa using q
  ·cases d
 ·rw[h (by rw[c];decide)]
  have e:doW E t self shapes w i=(w,isW (iY E w (jE t i)) 1):=by
   unfold doW doI
   rw[if_neg (by omega),if_neg (by omega),if_neg (by omega),if_pos (by omega)]
  rw[e] at d
  unfold iY at d
  rw[if_neg (by omega),if_neg (by omega),if_neg (by omega)] at d
  cases f:eF w (jE t i).a with
  | none=>rw[f] at d;cases d
  | some nc=>exact ahI f
structure ahP (E:hV):Prop where
 not_:∀a,(E.U 11 a).1.kind=1
 neg:∀n a,n≠11->(E.U n a).2<0->(E.U n a).1.kind=a.kind
 cmp:∀n a b,8<=n->n<=10->(E.B n a b).2<0->(E.B n a b).1.kind=1
 arith:∀n a b,n<8->(E.B n a b).2<0->(E.B n a b).1.kind=a.kind
theorem agZ (v:Int):∀(l:List bG),iZ v l≠-1->∃(i:Nat) (x:bG),l[i]? = some x/\x.a=v/\((x.op=4/\iZ v l=x.n)\/(x.op=6/\iZ v l=x.k.kind)\/(x.op=9/\iZ v l=5))
 | [],h=>absurd rfl h
 | x::l,h=>by
  have next:iZ v (x::l)=iZ v l->∃(i:Nat) (y:bG),(x::l)[i]? = some y/\y.a=v/\((y.op=4/\iZ v (x::l)=y.n)\/(y.op=6/\iZ v (x::l)=y.k.kind)\/(y.op=9/\iZ v (x::l)=5)):=λe=>by
   rw[e] at h ⊢
   obtain⟨i,y,a,b,c⟩:=agZ v l h
   exact⟨i+1,y,by simpa using a,b,c⟩
  by_cases d:x.a=v
  ·by_cases c4:x.op=4
   ·exact⟨0,x,rfl,d,.inl ⟨c4,by unfold iZ;rw[if_neg (by omega),if_pos c4]⟩⟩
   ·by_cases f:x.op=6
    ·exact⟨0,x,rfl,d,.inr (.inl ⟨f,by unfold iZ;rw[if_neg (by omega),if_neg c4,if_pos f]⟩)⟩
    ·by_cases g:x.op=9
     ·exact⟨0,x,rfl,d,.inr (.inr ⟨g,by unfold iZ;rw[if_neg (by omega),if_neg c4,if_neg f,if_pos g]⟩)⟩
     ·exact next (by conv=>lhs;unfold iZ;rw[if_neg (show ¬x.a≠v by omega),if_neg c4,if_neg f,if_neg g])
  ·exact next (by conv=>lhs;unfold iZ;rw[if_pos d])
def ahQ (t:aN):Prop:=∀(i:Nat) x,t.ins[i]? = some x->(x.op=7->3<=x.n/\x.n<=10)/\(x.op=8->11<=x.n/\x.n<=12)
theorem ahH {aG:Val->Bool} {m:Int} {fns:List FnM} {t:aN} (h:fA aG m fns t=0):ahQ t:=λi x l=>by
 obtain⟨_,fn,j⟩:=nX h
 obtain⟨_,e⟩:=fQ t.ins 0 j i x l
 simp only[eY,Bool.and_eq_true,Bool.not_eq_true',Bool.or_eq_false_iff,decide_eq_false_iff_not] at e
 have d:=e.1.1.2.1
 constructor
 ·intro c;rw[c] at d;have f:(cF 7).low=3:=by decide
  have g:(cF 7).high=10:=by decide
  exact⟨by omega,by omega⟩
 ·intro c;rw[c] at d;have f:(cF 8).low=11:=by decide
  have g:(cF 8).high=12:=by decide
  exact⟨by omega,by omega⟩
theorem ahA {E:hV} (p:ahP E) {t:aN} (ask:afV t) (num:ahQ t) {w:aI} (j:∀v<t.ins.length,agP E t w v):∀(n:Nat) (v at_:Int),v<n->hZ t.ins v at_≠-1->(cX w v).kind=hZ t.ins v at_
 | 0,v,at_,hn,h=>by
  rw[rK,if_pos (.inl (by omega))] at h
  exact absurd rfl h
 | n+1,v,at_,hn,h=>by
  rw[rK] at h ⊢
  by_cases c:v<0\/at_<=v\/(t.ins.length:Int)<at_\/iC (nQ t.ins v)=false
  ·rw[if_pos c] at h;exact absurd rfl h
  rw[if_neg c] at h ⊢
  have M:0<=v:=by omega
  have R:v<t.ins.length:=by omega
  obtain⟨d,rfl⟩:=Int.eq_ofNat_of_zero_le M
  have I:d<t.ins.length:=by omega
  have F:=j d I
  have y:t.ins[d]? = some (jE t d):=by
   unfold jE
   rw[show(d:Int).toNat=d from rfl,lG I];rfl
  have hi:insAt t.ins (d:Int)=jE t d:=rfl
  rw[hi] at h ⊢
  by_cases g:0<=mG (hZ t.ins · d) (jE t d)
  ·rw[if_pos g] at h ⊢
   unfold mG at g h ⊢
   by_cases C:(jE t d).op=2
   ·rw[if_pos C,F.const C]
   rw[if_neg C] at g h ⊢
   by_cases q:(jE t d).op=15
   ·rw[if_pos q,F.count q]
   rw[if_neg q] at g h ⊢
   by_cases r:(jE t d).op=16
   ·rw[if_pos r,F.new (.inl r)]
   rw[if_neg r] at g h ⊢
   by_cases s:(jE t d).op=18
   ·rw[if_pos s,F.new (.inr s)]
   rw[if_neg s] at g h ⊢
   by_cases l:(jE t d).op=7\/(jE t d).op=8
   case neg=>rw[if_neg l] at h;exact absurd rfl h
   rw[if_pos l] at g h ⊢
   by_cases D:(8<=(jE t d).n/\(jE t d).n<=10/\(jE t d).op=7)\/((jE t d).n=11/\(jE t d).op=8)
   ·rw[if_pos D]
    rcases D with ⟨G,H,L⟩ | ⟨G,H⟩
    ·rw[(F.bin L).1];exact p.cmp _ _ _ G H (F.bin L).2
    ·rw[(F.un H).1,G];exact p.not_ _
   rw[if_neg D] at g h ⊢
   by_cases u:hZ t.ins (jE t d).a d=2\/hZ t.ins (jE t d).a d=3
   case neg=>rw[if_neg u] at h;exact absurd rfl h
   rw[if_pos u]
   have N:=ask d _ y (jE t d).a (af4 (k:=0) rfl (by rcases l with o | o <;> rw[o] <;> decide))
   have J:=ahA p ask num j n (jE t d).a d (by omega) (by omega)
   rcases l with o | o
   ·have O:=(num d _ y).1 o
    rw[(F.bin o).1,p.arith _ _ _ (by omega) (F.bin o).2];exact J
   ·have O:=(num d _ y).2 o
    rw[(F.un o).1,p.neg _ _ (by omega) (F.un o).2];exact J
  ·rw[if_neg g] at h ⊢
   obtain⟨i,x,m,A,P⟩:=agZ (d:Int) _ h
   rw[List.getElem?_drop,List.getElem?_take] at m
   split at m
   case isFalse=>cases m
   have K:=(lE m).1
   have f:jE t (((d:Int).toNat+1+i:Nat):Int)=x:=by
    unfold jE
    rw[Int.toNat_natCast,m];rfl
   have z:=j _ K
   rcases P with ⟨o,e⟩ | ⟨o,e⟩ | ⟨o,e⟩
   ·have:=z.is_ (by rw[f];exact o)
    rw[f,A] at this
    rw[this,e]
   ·have:=z.same (by rw[f];exact o)
    rw[f,A] at this
    rw[this,e]
   ·have:=z.cell (by rw[f];exact o)
    rw[f,A] at this
    rw[this,e]
def agX (t:aN) (vals:List Int):aN:={ t with back:=⟨t.at_,1,(List.range vals.length).map (λi:Nat=>⟨(i:Int),vals.getD i 0⟩),[]⟩ }
theorem ahJ {t:aN} {v:Int} (w:aI):(iG w (agX t [v]).back).1.regs=w.regs.set 0 (cX w v):=rfl
end
section
theorem agH {n:Int} (h:(dS n).2<0):(dS n).1.kind=2:=by
 unfold dS at h ⊢;split;·rfl
 ·rename_i c;rw[if_neg c] at h;exact absurd h (by decide)
theorem ag9 (b:Nat):(ofM b).kind=3:=by unfold ofM;split <;> rfl
theorem agJ (b:Bool):(cP b).kind=1:=by cases b <;> rfl
theorem agN {v:Val} (h:(dD v).kind≠0):dD v=v:=by
 unfold dD at h ⊢;split;·rfl
 ·rename_i c;rw[if_neg c] at h;exact absurd rfl h
theorem agI {op:Int} {a b:Bool} (h:(eA op a b).2<0):(eA op a b).1.kind=1/\(op=9\/op=10):=by
 unfold eA at h ⊢;split;·rename_i c;exact⟨agJ _,.inl c⟩
 ·rename_i d;rw[if_neg d] at h;split;·rename_i c;exact⟨agJ _,.inr c⟩
  ·rename_i c;rw[if_neg c] at h;exact absurd h (by decide)
theorem agR (o:BinOp) (x y:Nat):(ofB o x y).kind=3:=by
 unfold ofB;split;·exact ag9 _
 ·rfl
theorem ops_ok:ahP ⟨o4,mU,lF⟩:=by
 refine⟨λa=>?_,λn a m h=>?_,λn a b p s h=>?_,λn a b p h=>?_⟩;·show(o4 11 a).1.kind=1;unfold o4;rw[if_pos rfl];exact agJ _
 ·change (o4 n a).2<0 at h;show(o4 n a).1.kind=a.kind;unfold o4 at h ⊢;rw[if_neg m] at h ⊢;split;·rename_i c;rw[if_pos c] at h;rw[agH h,<-c.2,agN (by omega)]
  ·rename_i c;rw[if_neg c] at h;split;·rename_i f;show(ofM _).kind=_;rw[ag9,<-f.2,agN (by omega)]
   ·rename_i f;rw[if_neg f] at h;exact absurd h (by decide)
 ·change (mU n a b).2<0 at h;show(mU n a b).1.kind=1;unfold mU at h ⊢;split
  ·rename_i c;rw[if_pos c] at h;unfold lI at h ⊢;rw[if_neg (by omega),if_neg (by omega),if_neg (by omega),if_neg (by omega)] at h ⊢;split;·exact agJ _
   ·rename_i g;rw[if_neg g] at h;exact(agI h).1
  ·rename_i c;rw[if_neg c] at h;split;·exact agJ _
   ·rename_i g;rw[if_neg g] at h;split;·rename_i d;rw[if_pos d] at h;unfold gR at h ⊢;rw[if_neg (by omega),if_neg (by omega),if_neg (by omega),if_neg (by omega)] at h ⊢;exact(agI h).1
    ·rename_i d;rw[if_neg d] at h;exact absurd h (by decide)
 ·change (mU n a b).2<0 at h;show(mU n a b).1.kind=a.kind;unfold mU at h ⊢;split
  ·rename_i c;rw[if_pos c] at h;have e:a.kind=3:=(by rw[<-c.1,agN (by omega)]);rw[e];unfold lI at h ⊢;split;·exact agR _ _ _
   split;·exact agR _ _ _
   split;·exact agR _ _ _
   split;·exact agR _ _ _
   rename_i q1 i j r;rw[if_neg q1,if_neg i,if_neg j,if_neg r,if_neg (by omega)] at h;have:=(agI h).2;omega
  ·rename_i c;rw[if_neg c,if_neg (by omega)] at h;rw[if_neg (show ¬n=8 by omega)];split
   ·rename_i d;rw[if_pos d] at h;have e:a.kind=2:=(by rw[<-d.1,agN (by omega)]);rw[e];unfold gR at h ⊢;split;·rename_i q;rw[if_pos q] at h;exact agH h
    rename_i q1;rw[if_neg q1] at h;split;·rename_i q;rw[if_pos q] at h;exact agH h
    rename_i i;rw[if_neg i] at h;split;·rename_i q;rw[if_pos q] at h;exact agH h
    rename_i j;rw[if_neg j] at h;split
    ·rename_i q;rw[if_pos q] at h;split;·rename_i q0;rw[if_pos q0] at h;exact absurd h (by decide)
     ·rename_i q0;rw[if_neg q0] at h;split;·rename_i l;rw[if_pos l] at h;exact agH h
      ·rename_i l;rw[if_neg l] at h;exact agH h
    ·rename_i q;rw[if_neg q] at h;have:=(agI h).2;omega
   ·rename_i d;rw[if_neg d] at h;exact absurd h (by decide)
end
section
def Lt (n:Nat) (v:Val):Prop:=v.kind=5->v.n<(n:Int)
theorem Lt.mono {n m:Nat} {v:Val} (h:Lt n v) (d:n<=m):Lt m v:=λc=>by have:=h c;omega
theorem aiD (n:Nat):Lt n ⟨0,0⟩:=λc=>absurd (show(0:Int)=5 from c) (by decide)
theorem ahY {n:Nat} {l:List Val} (h:∀v∈l,Lt n v) (i:Nat):Lt n ((l[i]?).getD ⟨0,0⟩):=by
 cases e:l[i]? with
 | none=>exact aiD n
 | some v=>exact h v (lM e)
structure ahR (w:aI):Prop where
 cells:∀c∈w.cells,∀v∈c.vals,Lt w.cells.length v
 vals:∀v∈w.vals,Lt w.cells.length v
 regs:∀v∈w.regs,Lt w.cells.length v
theorem ahR.val {w:aI} (h:ahR w) (v:Int):Lt w.cells.length (cX w v):=ahY h.vals _
structure aiG (E:hV):Prop where
 un:∀n a,(E.U n a).1.kind≠5
 bin:∀n a b,(E.B n a b).1.kind≠5
structure aiT (n0:Nat) (t:aN) (w:aI) (v:Nat):Prop where
 new:(jE t v).op=16\/(jE t v).op=18->(n0:Int)<=(cX w v).n/\(cX w v).kind=5/\∀u:Nat,u<v->cX w u≠cX w v
 old:((jE t v).op=1\/(jE t v).op=2)\/(jE t v).op=3->Lt n0 (cX w v)
structure InvR (n0:Nat) (t:aN) (i:Nat) (w:aI):Prop where
 sane:ahR w
 len:w.vals.length=t.ins.length
 big:n0<=w.cells.length
 regs:∀v∈w.regs,Lt n0 v
 all:∀v<i,aiT n0 t w v
theorem ah6 (E:hV) {t:aN} (g:jA t) (self:Val) (shapes:List aT) (fin:cW) {P:Nat->aI->Prop} (d:∀(i:Nat) (w:aI),i<t.ins.length->P i w->(doW E t self shapes w i).2=0->P (i+1) (doW E t self shapes w i).1) :
  ∀(n i:Nat) (w:aI),i+n=t.ins.length->P i w->(dM E t self shapes fin n i w).2.2≠2->(dM E t self shapes fin n i w).2.1 = -1->∃w',(dM E t self shapes fin n i w).1=(iG w' fin).1/\w'.regs=w.regs/\P t.ins.length w'
 | 0,i,w,hn,hf,_,_=>⟨w,rfl,rfl,by rw[<-hn];exact hf⟩
 | n+1,i,w,hn,hf,h2,h1=>by
  have f:=sA E t self shapes w i
  unfold dM at h1 h2 ⊢
  split at h2
  ·exact absurd rfl h2
  rename_i h
  rw[if_neg h] at h1 ⊢
  split at h2
  ·rename_i e
   rw[if_pos e] at h1
   have q:=u0 E g self shapes w (show i<t.ins.length by omega) e
   exfalso
   split at h1
   ·dsimp only at h1;omega
   ·dsimp only at h1;omega
  ·rename_i e
   rw[if_neg e] at h1 ⊢
   have j:(doW E t self shapes w i).2=0:=by
    rcases adJ E self shapes w i (jE t i) with c | c | c
    ·exact c
    ·exact absurd c e
    ·exact absurd c h
   obtain⟨w',l,m,p⟩:=ah6 E g self shapes fin d n (i+1) _ (by omega) (d i w (by omega) hf j) h2 h1
   exact⟨w',l,m.trans f.regs,p⟩
theorem aiQ {E:hV} {F G:Int} {t:aN} {S out:aR} {m exit n:Int} (H:jA t) (hl:t.loop=0) (h:mY E F G t S m 1=(out,exit,n,0)) (M:exit<0) {P:a8->Nat->aI->Prop} (r:∀d f,S.threads[m.toNat]? = some d->d.frames.getLast? = some f->P f 0 (cL t S f)) (A:∀(f:a8) (i:Nat) (w:aI),i<t.ins.length->P f i w->(doW E t f.self S.shapes w i).2=0->P f (i+1) (doW E t f.self S.shapes w i).1) : 0<=m/\∃d f w' j f',S.threads[m.toNat]? = some d/\d.frames.getLast? = some f/\w'.regs=f.regs/\P f t.ins.length w'/\ out.threads[m.toNat]? = some j/\j.frames.getLast? = some f'/\f'.regs=(iG w' t.back).1.regs:=by
 obtain⟨-,-,J,-,-,d,f,u,v,-,-,-,p,-,l,y,D⟩:=uN h;have s:bQ E t f.self S.shapes (1:Int).toNat 0 (cL t S f)=bQ E t f.self S.shapes (0+1) 0 (cL t S f):=rfl;rw[s] at p l y D;obtain⟨j,b1,-,q⟩:=uC u v (bQ E t f.self S.shapes (0+1) 0 (cL t S f)).1;unfold bQ at p l y D b1 q;by_cases c:(dN E t f.self S.shapes 0 (cL t S f)).2.2=2\/0<=(dN E t f.self S.shapes 0 (cL t S f)).2.1
 ·simp only[if_pos c] at p y;rcases c with c | c;·exact absurd c p
  ·omega
 ·simp only[if_neg c] at l b1 q;have I:dN E t f.self S.shapes 0 (cL t S f)=dM E t f.self S.shapes t.back (t.ins.length - t.loop.toNat) t.loop.toNat (cL t S f):=by unfold dN;rw[if_neg (by omega)]
  rw[I,hl] at c l b1 q;have C:(dM E t f.self S.shapes t.back (t.ins.length - (0:Int).toNat) (0:Int).toNat (cL t S f)).2.1 = -1:=by
   obtain⟨x,z,-⟩:=iB E H f.self S.shapes t.back (t.ins.length - (0:Int).toNat) (0:Int).toNat (cL t S f) (by simp) (λe=>c (.inl e));rcases z with ⟨g,_⟩ | ⟨g,_⟩;·exact g
   ·exact absurd (.inr g) c
  obtain⟨w',z,K,L⟩:=ah6 E H f.self S.shapes t.back (P:=P f) (A f) (t.ins.length - (0:Int).toNat) (0:Int).toNat (cL t S f) (by simp) (r d f u v) (λe=>c (.inl e)) C;refine⟨J,d,f,w',j,_,u,v,K,L,by rw[l];exact b1,q,?_⟩;show(dM E t f.self S.shapes t.back (t.ins.length - (0:Int).toNat) (0:Int).toNat (cL t S f)).1.regs=_;rw[z]
structure FitS (S:aR):Prop where
 cells:∀c∈S.cells,∀v∈c.vals,Lt S.cells.length v
 frames:∀h∈S.threads,∀f∈h.frames,Lt S.cells.length f.self/\∀v∈f.regs,Lt S.cells.length v
end
section
theorem ah2 {R:Val->Bool} {p:aW} {S:aR} : ∀(l:List a8) (low:Option Int) (gens g:List Int),b7 R p S low gens l=some g->∀f∈l,dB R p S f=true
 | [],_,_,_,_,f,hf=>by simp at hf
 | y::r,low,gens,g,h,f,hf=>by
  unfold b7 at h
  dsimp only at h
  split at h
  ·cases h
  rename_i c
  have d:dB R p S y=true:=by
   cases e:dB R p S y with
   | true=>rfl
   | false=>rw[e] at c;exact absurd (by simp) c
  rcases List.mem_cons.1 hf with rfl | hf
  ·exact d
  split at h
  ·exact ah2 r _ _ _ h f hf
  ·split at h
   ·cases h
   ·split at h
    ·cases h
    ·exact ah2 r _ _ _ h f hf
theorem aiH {R:Val->Bool} {p:aW} {S:aR} {gens g:List Int} {x:bW} (h:eN R p S gens x=some g):∀f∈x.frames,dB R p S f=true:=by
 unfold eN at h;dsimp only at h;split at h;·cases h
 split at h;·cases h
 split at h;·cases h
 split at h;·cases h
 exact ah2 _ _ _ _ h
theorem ah1 {R:Val->Bool} {p:aW} {S:aR} : ∀(l:List bW) (gens g:List Int),cE R p S gens l=some g->∀x∈l,∀f∈x.frames,dB R p S f=true
 | [],_,_,_,x,hx=>by simp at hx
 | y::r,gens,g,h,x,hx=>by
  unfold cE at h
  split at h
  ·cases h
  rename_i d e
  rcases List.mem_cons.1 hx with rfl | hx
  ·exact aiH e
  ·exact ah1 r _ _ h x hx
end
end Go.Proofs.YtjaphgpkkfdaaaaGreatDoor
