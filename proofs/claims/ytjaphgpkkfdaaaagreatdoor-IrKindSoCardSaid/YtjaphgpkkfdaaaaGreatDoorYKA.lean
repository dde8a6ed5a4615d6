/- Part of the walk of the given code: what a turn tells, and plain laws on it. -/
import Derived.Test.YtjaphgpkkfdaaaaGreatDoorZBB
import Derived.Test.YtjaphgpkkfdaaaaGreatDoorZM
import Derived.Test.YtjaphgpkkfdaaaaGreatDoorZU
set_option maxHeartbeats 16000000
set_option maxRecDepth 100000
set_option linter.all false
namespace Go.Proofs.YtjaphgpkkfdaaaaGreatDoor
section
theorem af4 {x:bG} {k:Nat} {v:Int} (hv : [x.a,x.b,x.c][k]? = some v) (hk:(k:Int)<(cF x.op).asks):v∈iU x:=by
 unfold iU
 refine List.mem_of_getElem? (i:=k) ?_
 rw[List.getElem?_take,if_pos (by omega)]
 exact hv
structure afL (t:aN) (d:Int) (k:Nat) (w w':aI):Prop where
 cells:w'.cells=w.cells
 regs:w'.regs=w.regs
 at_:w'.at_=w.at_
 steps:w'.steps=w.steps+d
 len:w'.vals.length=w.vals.length
 full:w.vals.length=t.ins.length
 vals:∀v:Nat,v<k→iC (jE t v).op=true→w'.vals[v]? = w.vals[v]?
def afV (t:aN):Prop:=∀(k:Nat) (x:bG),t.ins[k]? = some x→∀v∈iU x,0≤v∧v<k∧iC (jE t v).op=true
theorem af1 {aG:Val→Bool} {ce:Int} {fns:List FnM} {t:aN} (h:fA aG ce fns t=0):afV t:=fun k x hx v hv=>by
 have:=oS h hx v hv
 refine⟨this.1,this.2.1,?_⟩
 have h2:=this.2.2.2
 unfold nQ at h2
 unfold jE
 cases e:t.ins[v.toNat]? with
 | none=>rw[e] at h2;exact absurd h2 (by decide)
 | some y=>rw[e] at h2;exact h2
theorem afL.val {t:aN} {d:Int} {k:Nat} {w w':aI} (h:afL t d k w w') {v:Int} (h0:0≤v) (h1:v<k) (h2:iC (jE t v).op=true):cX w' v=cX w v:=by
 obtain⟨n,rfl⟩:=Int.eq_ofNat_of_zero_le h0
 exact uH (h.vals n (by omega) h2)
theorem afL.cell {t:aN} {d:Int} {k:Nat} {w w':aI} (h:afL t d k w w') {v:Int} (h0:0≤v) (h1:v<k) (h2:iC (jE t v).op=true):eF w' v=eF w v:=by
 unfold eF
 rw[h.val h0 h1 h2,h.cells]
structure afO (t:aN) (d:Int) (i:Nat) (r r':aI×Int):Prop where
 how:r'.2=r.2
 keep:afL t d i r.1 r'.1
 next:r.2=0→afL t d (i+1) r.1 r'.1
section
variable {t:aN} {d:Int} {i:Nat} {w w':aI}
theorem afL.stay (h:afL t d i w w') (hq:iC (jE t i).op=false) (how:Int):afO t d i (w,how) (w',how):=
 ⟨rfl,h,fun _=>⟨h.cells,h.regs,h.at_,h.steps,h.len,h.full,fun v hv ht=>by
  by_cases e:v=i
  ·subst e;rw[hq] at ht;cases ht
  ·exact h.vals v (by omega) ht⟩⟩
theorem afL.no (h:afL t d i w w') {how:Int} (hh:how≠0):afO t d i (w,how) (w',how):=⟨rfl,h,fun e=>absurd e hh⟩
theorem afL.setV (h:afL t d i w w') (hi:i<t.ins.length) (v:Val):afL t d (i+1) (fS w i v) (fS w' i v):=
 ⟨h.cells,h.regs,h.at_,h.steps,by simp[fS,h.len],by simp[fS,h.full],fun u hu ht=>by
  show(w'.vals.set i v)[u]? = (w.vals.set i v)[u]?
  by_cases e:u=i
  ·subst e
   rw[List.getElem?_set_self (by rw[h.len,h.full];exact hi),List.getElem?_set_self (by rw[h.full];exact hi)]
  ·rw[List.getElem?_set_ne (Ne.symm e),List.getElem?_set_ne (Ne.symm e)]
   exact h.vals u (by omega) ht⟩
theorem afL.less {k k':Nat} (h:afL t d k w w') (hk:k'≤k):afL t d k' w w':=⟨h.cells,h.regs,h.at_,h.steps,h.len,h.full,fun v hv ht=>h.vals v (by omega) ht⟩
theorem afL.tell (h:afL t d i w w') (hi:i<t.ins.length) (v:Val) (how:Int):afO t d i (fS w i v,how) (fS w' i v,how):=⟨rfl,(h.setV hi v).less (by omega),fun _=>h.setV hi v⟩
theorem afL.setC (h:afL t d i w w') (n:Nat) (c:bC):afL t d i (setCW w n c) (setCW w' n c):=
 ⟨by show w'.cells.set n c=w.cells.set n c;rw[h.cells],h.regs,h.at_,h.steps,h.len,h.full,h.vals⟩
theorem afL.fresh (h:afL t d i w w') (hi:i<t.ins.length) (k:Int):afO t d i (dX w i k) (dX w' i k):=by
 unfold dX
 rw[h.cells]
 split
 ·exact h.no (by decide)
 ·have h1:=h.setV hi ⟨5,w.cells.length⟩
  have h2:afL t d (i+1) { w with vals:=w.vals.set i ⟨5,w.cells.length⟩,cells:=w.cells++[⟨k,0,[],[]⟩] } { w' with vals:=w'.vals.set i ⟨5,w.cells.length⟩,cells:=w.cells++[⟨k,0,[],[]⟩] }:=
   ⟨rfl,h1.regs,h1.at_,h1.steps,h1.len,h1.full,h1.vals⟩
  exact⟨rfl,h2.less (by omega),fun _=>h2⟩
end
structure afN (t:aN) (x:cW) (k:Nat):Prop where
 sets:∀s∈x.sets,0≤s.val∧s.val<k∧iC (jE t s.val).op=true
 makes:∀m∈x.makes,(0≤m.cell∧m.cell<k∧iC (jE t m.cell).op=true)∧∀v∈m.vals,0≤v∧v<k∧iC (jE t v).op=true
section
variable {t:aN} {d:Int} {k:Nat}
structure afM (t:aN):Prop where
 ask:afV t
 ops:∀(i:Nat) x,t.ins[i]? = some x→lU x.op=true
 exits:∀(i:Nat) x e,t.ins[i]? = some x→0≤x.exit→t.exits[x.exit.toNat]? = some e→afN t e i
 back:afN t t.back t.ins.length
end
end
section
end
section
structure agP (E:hV) (t:aN) (w:aI) (v:Nat):Prop where
 const:(jE t v).op=2→cX w v=(jE t v).k
 count:(jE t v).op=15→(cX w v).kind=2
 new:(jE t v).op=16∨(jE t v).op=18→(cX w v).kind=5
 bin:(jE t v).op=7→cX w v=(E.B (jE t v).n (cX w (jE t v).a) (cX w (jE t v).b)).1∧(E.B (jE t v).n (cX w (jE t v).a) (cX w (jE t v).b)).2<0
 un:(jE t v).op=8→cX w v=(E.U (jE t v).n (cX w (jE t v).a)).1∧(E.U (jE t v).n (cX w (jE t v).a)).2<0
 is_:(jE t v).op=4→(cX w (jE t v).a).kind=(jE t v).n
 same:(jE t v).op=6→cX w (jE t v).a=(jE t v).k
 cell:(jE t v).op=9→(cX w (jE t v).a).kind=5
theorem agQ {w:aI} {i:Nat} (hi:i<w.vals.length) (v:Val):cX (fS w i v) (i:Int)=v:=by
 unfold cX fS
 rw[show(i:Int).toNat=i from rfl,List.getElem?_set_self hi];rfl
theorem ahI {w:aI} {v:Int} {nc:Nat×bC} (h:eF w v=some nc):(cX w v).kind=5:=by
 unfold eF at h
 split at h
 ·rename_i c;exact c.1
 ·cases h
theorem ahM {E:hV} {t:aN} {w w':aI} {v:Nat} (h:agP E t w v) (hx:∀o∈iU (jE t v),0≤o∧o<v) (hv:∀u:Nat,u≤v→w'.vals[u]? = w.vals[u]?):agP E t w' v:=by
 have e0:cX w' (v:Int)=cX w v:=uH (hv v (Nat.le_refl _))
 have ea:0<(cF (jE t v).op).asks→cX w' (jE t v).a=cX w (jE t v).a:=fun c=>by
  obtain⟨a1,a2⟩:=hx _ (af4 (k:=0) rfl c)
  obtain⟨n,hn⟩:=Int.eq_ofNat_of_zero_le a1
  rw[hn];exact uH (hv n (by omega))
 have eb:1<(cF (jE t v).op).asks→cX w' (jE t v).b=cX w (jE t v).b:=fun c=>by
  obtain⟨a1,a2⟩:=hx _ (af4 (k:=1) rfl c)
  obtain⟨n,hn⟩:=Int.eq_ofNat_of_zero_le a1
  rw[hn];exact uH (hv n (by omega))
 refine⟨fun c=>?_,fun c=>?_,fun c=>?_,fun c=>?_,fun c=>?_,fun c=>?_,fun c=>?_,fun c=>?_⟩
 ·rw[e0];exact h.const c
 ·rw[e0];exact h.count c
 ·rw[e0];exact h.new c
 ·rw[e0,ea (by rw[c];decide),eb (by rw[c];decide)];exact h.bin c
 ·rw[e0,ea (by rw[c];decide)];exact h.un c
 ·rw[ea (by rw[c];decide)];exact h.is_ c
 ·rw[ea (by rw[c];decide)];exact h.same c
 ·rw[ea (by rw[c];decide)];exact h.cell c
theorem ahN {E:hV} {t:aN} {w:aI} {i:Nat} (hl:w.vals.length=t.ins.length) (hi:i<t.ins.length) (self:Val) (shapes:List aT) (hx:∀o∈iU (jE t i),0≤o∧o<i)
  (h0:(doW E t self shapes w i).2=0):agP E t (doW E t self shapes w i).1 i:=by
 have hs:=sB w.cells E self shapes w i (jE t i)
 change fH w.cells i w (doW E t self shapes w i).1 at hs
 have hw:i<w.vals.length:=by omega
 have ea:0<(cF (jE t i).op).asks→cX (doW E t self shapes w i).1 (jE t i).a=cX w (jE t i).a:=fun c=>by
  obtain⟨a1,a2⟩:=hx _ (af4 (k:=0) rfl c)
  obtain⟨n,hn⟩:=Int.eq_ofNat_of_zero_le a1
  rw[hn];exact uH (hs.vals n (by omega))
 have eb:1<(cF (jE t i).op).asks→cX (doW E t self shapes w i).1 (jE t i).b=cX w (jE t i).b:=fun c=>by
  obtain⟨a1,a2⟩:=hx _ (af4 (k:=1) rfl c)
  obtain⟨n,hn⟩:=Int.eq_ofNat_of_zero_le a1
  rw[hn];exact uH (hs.vals n (by omega))
 refine⟨fun c=>?_,fun c=>?_,fun c=>?_,fun c=>?_,fun c=>?_,fun c=>?_,fun c=>?_,fun c=>?_⟩
 ·have e:doW E t self shapes w i=(fS w i (jE t i).k,0):=by
   unfold doW doI
   rw[if_neg (by omega),if_pos c]
  rw[e];exact agQ hw _
 ·have e:doW E t self shapes w i=gW w i (jE t i):=by
   unfold doW doI
   rw[if_neg (by omega),if_neg (by omega),if_neg (by omega),if_neg (by omega),if_neg (by omega),if_neg (by omega),if_pos (by omega)]
  rw[e] at h0 ⊢
  unfold gW at h0 ⊢
  cases hc:eF w (jE t i).a with
  | none=>rw[hc] at h0;cases h0
  | some nc=>
   obtain⟨n,cl⟩:=nc
   dsimp only
   rw[if_neg (by omega),if_neg (by omega),if_neg (by omega)]
   show(cX (fS w i _) (i:Int)).kind=2
   rw[agQ hw]
 ·have hf:∀k,(dX w i k).2=0→(cX (dX w i k).1 (i:Int)).kind=5:=fun k hk=>by
   unfold dX at hk ⊢
   split at hk
   ·cases hk
   ·rename_i hc
    rw[if_neg hc]
    have:cX { w with vals:=w.vals.set i ⟨5,w.cells.length⟩,cells:=w.cells++[⟨k,0,[],[]⟩] } (i:Int)=⟨5,w.cells.length⟩:=by
     unfold cX
     rw[show(i:Int).toNat=i from rfl,List.getElem?_set_self hw];rfl
    rw[this]
  rcases c with c | c
  ·have e:doW E t self shapes w i=dX w i (jE t i).n:=by
    unfold doW doI
    rw[if_neg (by omega),if_neg (by omega),if_neg (by omega),if_neg (by omega),if_neg (by omega),if_neg (by omega),if_neg (by omega),if_neg (by omega),if_neg (by omega),if_pos c]
   rw[e] at h0 ⊢;exact hf _ h0
  ·have e:doW E t self shapes w i=dX w i 0:=by
    unfold doW doI
    rw[if_neg (by omega),if_neg (by omega),if_neg (by omega),if_neg (by omega),if_neg (by omega),if_neg (by omega),if_neg (by omega),if_neg (by omega),if_neg (by omega),if_neg (by omega),if_neg (by omega),if_neg (by omega)]
   rw[e] at h0 ⊢;exact hf _ h0
 ·rw[ea (by rw[c];decide),eb (by rw[c];decide)]
  have e:doW E t self shapes w i=iQ w i (jE t i).exit (E.B (jE t i).n (cX w (jE t i).a) (cX w (jE t i).b)):=by
   unfold doW doI
   rw[if_neg (by omega),if_neg (by omega),if_neg (by omega),if_neg (by omega),if_pos c]
  rw[e] at h0 ⊢
  refine⟨agQ hw _,?_⟩
  unfold iQ at h0
  dsimp only at h0
  split at h0
  ·assumption
  ·split at h0 <;> cases h0
 ·rw[ea (by rw[c];decide)]
  have e:doW E t self shapes w i=iQ w i (jE t i).exit (E.U (jE t i).n (cX w (jE t i).a)):=by
   unfold doW doI
   rw[if_neg (by omega),if_neg (by omega),if_neg (by omega),if_neg (by omega),if_neg (by omega),if_pos c]
  rw[e] at h0 ⊢
  refine⟨agQ hw _,?_⟩
  unfold iQ at h0
  dsimp only at h0
  split at h0
  ·assumption
  ·split at h0 <;> cases h0
 ·rw[ea (by rw[c];decide)]
  have e:doW E t self shapes w i=(w,isW (iY E w (jE t i)) 1):=by
   unfold doW doI
   rw[if_neg (by omega),if_neg (by omega),if_neg (by omega),if_pos (by omega)]
  rw[e] at h0
  unfold iY at h0
  rw[if_pos c] at h0
  unfold isW at h0
  dsimp only at h0
  split at h0
  ·rename_i q;simpa using q
  ·cases h0
 ·rw[ea (by rw[c];decide)]
  have e:doW E t self shapes w i=(w,isW (iY E w (jE t i)) 1):=by
   unfold doW doI
   rw[if_neg (by omega),if_neg (by omega),if_neg (by omega),if_pos (by omega)]
  rw[e] at h0
  unfold iY at h0
  rw[if_neg (by omega),if_neg (by omega),if_pos c] at h0
  unfold isW at h0
  dsimp only at h0
  split at h0
  ·rename_i q;simpa using q
  ·cases h0
 ·rw[ea (by rw[c];decide)]
  have e:doW E t self shapes w i=(w,isW (iY E w (jE t i)) 1):=by
   unfold doW doI
   rw[if_neg (by omega),if_neg (by omega),if_neg (by omega),if_pos (by omega)]
  rw[e] at h0
  unfold iY at h0
  rw[if_neg (by omega),if_neg (by omega),if_neg (by omega)] at h0
  cases hc:eF w (jE t i).a with
  | none=>rw[hc] at h0;cases h0
  | some nc=>exact ahI hc
theorem agW (E:hV) {t:aN} (hx:jA t) (ask:afV t) (self:Val) (shapes:List aT) (fin:cW):∀(n i:Nat) (w:aI),i+n=t.ins.length→w.vals.length=t.ins.length→(∀v<i,agP E t w v)→
  (dM E t self shapes fin n i w).2.2≠2→(dM E t self shapes fin n i w).2.1 = -1→∃w',(dM E t self shapes fin n i w).1=(iG w' fin).1∧w'.vals.length=t.ins.length∧w'.regs=w.regs∧∀v<t.ins.length,agP E t w' v
 | 0,i,w,hn,hl,hf,_,_=>⟨w,rfl,hl,rfl,fun v hv=>hf v (by omega)⟩
 | n+1,i,w,hn,hl,hf,h2,h1=>by
  have hxx:∀v:Nat,v<t.ins.length→∀o∈iU (jE t v),0≤o∧o<v:=fun v hv o ho=>by
   have hi:t.ins[v]? = some (jE t v):=by
    unfold jE
    rw[show(v:Int).toNat=v from rfl,lG hv];rfl
   have:=ask v _ hi o ho
   exact⟨this.1,this.2.1⟩
  have hs:=sB w.cells E self shapes w i (jE t i)
  change fH w.cells i w (doW E t self shapes w i).1 at hs
  have hfr:=sA E t self shapes w i
  unfold dM at h1 h2 ⊢
  split at h2
  ·exact absurd rfl h2
  rename_i c2
  rw[if_neg c2] at h1 ⊢
  split at h2
  ·rename_i c1
   rw[if_pos c1] at h1
   have hl':=u0 E hx self shapes w (show i<t.ins.length by omega) c1
   exfalso
   split at h1
   ·dsimp only at h1;omega
   ·dsimp only at h1;omega
  ·rename_i c1
   rw[if_neg c1] at h1 ⊢
   have h0:(doW E t self shapes w i).2=0:=by
    rcases adJ E self shapes w i (jE t i) with c | c | c
    ·exact c
    ·exact absurd c c1
    ·exact absurd c c2
   obtain⟨w',g1,g2,g3,g4⟩:=agW E hx ask self shapes fin n (i+1) _ (by omega) (hs.len.trans hl) (fun v hv=>by
    by_cases e:v=i
    ·subst e;exact ahN hl (by omega) self shapes (hxx v (by omega)) h0
    ·exact ahM (hf v (by omega)) (hxx v (by omega)) (fun u hu=>hs.vals u (by omega))) h2 h1
   exact⟨w',g1,g2,g3.trans hfr.regs,g4⟩
structure ahP (E:hV):Prop where
 not_:∀a,(E.U 11 a).1.kind=1
 neg:∀n a,n≠11→(E.U n a).2<0→(E.U n a).1.kind=a.kind
 cmp:∀n a b,8≤n→n≤10→(E.B n a b).2<0→(E.B n a b).1.kind=1
 arith:∀n a b,n<8→(E.B n a b).2<0→(E.B n a b).1.kind=a.kind
theorem agZ (v:Int):∀(l:List bG),iZ v l≠-1→∃(i:Nat) (x:bG),l[i]? = some x∧x.a=v∧((x.op=4∧iZ v l=x.n)∨(x.op=6∧iZ v l=x.k.kind)∨(x.op=9∧iZ v l=5))
 | [],h=>absurd rfl h
 | x::l,h=>by
  have next:iZ v (x::l)=iZ v l→∃(i:Nat) (y:bG),(x::l)[i]? = some y∧y.a=v∧((y.op=4∧iZ v (x::l)=y.n)∨(y.op=6∧iZ v (x::l)=y.k.kind)∨(y.op=9∧iZ v (x::l)=5)):=fun e=>by
   rw[e] at h ⊢
   obtain⟨i,y,a,b,c⟩:=agZ v l h
   exact⟨i+1,y,by simpa using a,b,c⟩
  by_cases ca:x.a=v
  ·by_cases c4:x.op=4
   ·exact⟨0,x,rfl,ca,.inl ⟨c4,by unfold iZ;rw[if_neg (by omega),if_pos c4]⟩⟩
   ·by_cases c6:x.op=6
    ·exact⟨0,x,rfl,ca,.inr (.inl ⟨c6,by unfold iZ;rw[if_neg (by omega),if_neg c4,if_pos c6]⟩)⟩
    ·by_cases c9:x.op=9
     ·exact⟨0,x,rfl,ca,.inr (.inr ⟨c9,by unfold iZ;rw[if_neg (by omega),if_neg c4,if_neg c6,if_pos c9]⟩)⟩
     ·exact next (by conv=>lhs;unfold iZ;rw[if_neg (show ¬x.a≠v by omega),if_neg c4,if_neg c6,if_neg c9])
  ·exact next (by conv=>lhs;unfold iZ;rw[if_pos ca])
def ahQ (t:aN):Prop:=∀(i:Nat) x,t.ins[i]? = some x→(x.op=7→3≤x.n∧x.n≤10)∧(x.op=8→11≤x.n∧x.n≤12)
theorem ahH {aG:Val→Bool} {ce:Int} {fns:List FnM} {t:aN} (h:fA aG ce fns t=0):ahQ t:=fun i x hx=>by
 obtain⟨_,fn,h1⟩:=nX h
 obtain⟨_,h2⟩:=fQ t.ins 0 h1 i x hx
 simp only[eY,Bool.and_eq_true,Bool.not_eq_true',Bool.or_eq_false_iff,decide_eq_false_iff_not] at h2
 have h3:=h2.1.1.2.1
 constructor
 ·intro c;rw[c] at h3;have e1:(cF 7).low=3:=by decide
  have e2:(cF 7).high=10:=by decide
  exact⟨by omega,by omega⟩
 ·intro c;rw[c] at h3;have e1:(cF 8).low=11:=by decide
  have e2:(cF 8).high=12:=by decide
  exact⟨by omega,by omega⟩
theorem ahA {E:hV} (ok:ahP E) {t:aN} (ask:afV t) (num:ahQ t) {w:aI} (hall:∀v<t.ins.length,agP E t w v):∀(n:Nat) (v at_:Int),v<n→hZ t.ins v at_≠-1→(cX w v).kind=hZ t.ins v at_
 | 0,v,at_,hn,h=>by
  rw[rK,if_pos (.inl (by omega))] at h
  exact absurd rfl h
 | n+1,v,at_,hn,h=>by
  rw[rK] at h ⊢
  by_cases c:v<0∨at_≤v∨(t.ins.length:Int)<at_∨iC (nQ t.ins v)=false
  ·rw[if_pos c] at h;exact absurd rfl h
  rw[if_neg c] at h ⊢
  have c1:0≤v:=by omega
  have c2:v<t.ins.length:=by omega
  obtain⟨kv,rfl⟩:=Int.eq_ofNat_of_zero_le c1
  have hk:kv<t.ins.length:=by omega
  have F:=hall kv hk
  have hx:t.ins[kv]? = some (jE t kv):=by
   unfold jE
   rw[show(kv:Int).toNat=kv from rfl,lG hk];rfl
  have hi:insAt t.ins (kv:Int)=jE t kv:=rfl
  rw[hi] at h ⊢
  by_cases c3:0≤mG (hZ t.ins · kv) (jE t kv)
  ·rw[if_pos c3] at h ⊢
   unfold mG at c3 h ⊢
   by_cases o2:(jE t kv).op=2
   ·rw[if_pos o2,F.const o2]
   rw[if_neg o2] at c3 h ⊢
   by_cases o15:(jE t kv).op=15
   ·rw[if_pos o15,F.count o15]
   rw[if_neg o15] at c3 h ⊢
   by_cases o16:(jE t kv).op=16
   ·rw[if_pos o16,F.new (.inl o16)]
   rw[if_neg o16] at c3 h ⊢
   by_cases o18:(jE t kv).op=18
   ·rw[if_pos o18,F.new (.inr o18)]
   rw[if_neg o18] at c3 h ⊢
   by_cases o78:(jE t kv).op=7∨(jE t kv).op=8
   case neg=>rw[if_neg o78] at h;exact absurd rfl h
   rw[if_pos o78] at c3 h ⊢
   by_cases oc:(8≤(jE t kv).n∧(jE t kv).n≤10∧(jE t kv).op=7)∨((jE t kv).n=11∧(jE t kv).op=8)
   ·rw[if_pos oc]
    rcases oc with ⟨g1,g2,g3⟩ | ⟨g1,g2⟩
    ·rw[(F.bin g3).1];exact ok.cmp _ _ _ g1 g2 (F.bin g3).2
    ·rw[(F.un g2).1,g1];exact ok.not_ _
   rw[if_neg oc] at c3 h ⊢
   by_cases ok2:hZ t.ins (jE t kv).a kv=2∨hZ t.ins (jE t kv).a kv=3
   case neg=>rw[if_neg ok2] at h;exact absurd rfl h
   rw[if_pos ok2]
   have hask:=ask kv _ hx (jE t kv).a (af4 (k:=0) rfl (by rcases o78 with o | o <;> rw[o] <;> decide))
   have ih:=ahA ok ask num hall n (jE t kv).a kv (by omega) (by omega)
   rcases o78 with o | o
   ·have hr:=(num kv _ hx).1 o
    rw[(F.bin o).1,ok.arith _ _ _ (by omega) (F.bin o).2];exact ih
   ·have hr:=(num kv _ hx).2 o
    rw[(F.un o).1,ok.neg _ _ (by omega) (F.un o).2];exact ih
  ·rw[if_neg c3] at h ⊢
   obtain⟨i,x,e1,e2,e3⟩:=agZ (kv:Int) _ h
   rw[List.getElem?_drop,List.getElem?_take] at e1
   split at e1
   case isFalse=>cases e1
   have hil:=(lE e1).1
   have hxi:jE t (((kv:Int).toNat+1+i:Nat):Int)=x:=by
    unfold jE
    rw[Int.toNat_natCast,e1];rfl
   have Fi:=hall _ hil
   rcases e3 with ⟨o,e⟩ | ⟨o,e⟩ | ⟨o,e⟩
   ·have:=Fi.is_ (by rw[hxi];exact o)
    rw[hxi,e2] at this
    rw[this,e]
   ·have:=Fi.same (by rw[hxi];exact o)
    rw[hxi,e2] at this
    rw[this,e]
   ·have:=Fi.cell (by rw[hxi];exact o)
    rw[hxi,e2] at this
    rw[this,e]
theorem ahK {E:hV} {irc stc:Int} {t:aN} {S out:aR} {th exit n:Int} (hx:jA t) (ask:afV t) (hl:t.loop=0) (h:mY E irc stc t S th 1=(out,exit,n,0)) (hneg:exit<0) :
  0≤th∧∃hd f w' hd' f',S.threads[th.toNat]? = some hd∧hd.frames.getLast? = some f∧w'.vals.length=t.ins.length∧w'.regs=f.regs∧(∀v<t.ins.length,agP E t w' v)∧
   out.threads[th.toNat]? = some hd'∧hd'.frames.getLast? = some f'∧f'.regs=(iG w' t.back).1.regs:=by
 obtain⟨-,-,h0,-,-,hd,f,h1,h2,-,-,-,hw,-,e1,e2,e3⟩:=uN h
 have hrun:bQ E t f.self S.shapes (1:Int).toNat 0 (cL t S f)=bQ E t f.self S.shapes (0+1) 0 (cL t S f):=rfl
 rw[hrun] at hw e1 e2 e3
 obtain⟨hd',b1,-,b2⟩:=uC h1 h2 (bQ E t f.self S.shapes (0+1) 0 (cL t S f)).1
 unfold bQ at hw e1 e2 e3 b1 b2
 by_cases c:(dN E t f.self S.shapes 0 (cL t S f)).2.2=2∨0≤(dN E t f.self S.shapes 0 (cL t S f)).2.1
 ·simp only[if_pos c] at hw e2
  rcases c with c | c
  ·exact absurd c hw
  ·omega
 ·simp only[if_neg c] at e1 b1 b2
  have ho:dN E t f.self S.shapes 0 (cL t S f)=dM E t f.self S.shapes t.back (t.ins.length - t.loop.toNat) t.loop.toNat (cL t S f):=by
   unfold dN;rw[if_neg (by omega)]
  rw[ho,hl] at c e1 b1 b2
  have hex:jA t:=hx
  have hm1:(dM E t f.self S.shapes t.back (t.ins.length - (0:Int).toNat) (0:Int).toNat (cL t S f)).2.1 = -1:=by
   obtain⟨x,g1,-⟩:=iB E hx f.self S.shapes t.back (t.ins.length - (0:Int).toNat) (0:Int).toNat (cL t S f) (by simp) (fun e=>c (.inl e))
   rcases g1 with ⟨g,_⟩ | ⟨g,_⟩
   ·exact g
   ·exact absurd (.inr g) c
  obtain⟨w',g1,g2,g3,g4⟩:=agW E hx ask f.self S.shapes t.back (t.ins.length - (0:Int).toNat) (0:Int).toNat (cL t S f) (by simp) (by simp[cL]) (fun v hv=>by simp at hv) (fun e=>c (.inl e)) hm1
  refine⟨h0,hd,f,w',hd',_,h1,h2,g2,g3,g4,by rw[e1];exact b1,b2,?_⟩
  show(bQ E t f.self S.shapes 0 (0+1) (dM E t f.self S.shapes t.back (t.ins.length - (0:Int).toNat) (0:Int).toNat (cL t S f)).1).1.regs=_
  show(dM E t f.self S.shapes t.back (t.ins.length - (0:Int).toNat) (0:Int).toNat (cL t S f)).1.regs=_
  rw[g1]
def agX (t:aN) (vals:List Int):aN:={ t with back:=⟨t.at_,1,(List.range vals.length).map (fun i:Nat=>⟨(i:Int),vals.getD i 0⟩),[]⟩ }
theorem ahJ {t:aN} {v:Int} (w:aI):(iG w (agX t [v]).back).1.regs=w.regs.set 0 (cX w v):=rfl
theorem ahG {E:hV} (ok:ahP E) {irc stc:Int} {t:aN} {S out:aR} {th exit n v:Int} (hx:jA t) (ask:afV t) (num:ahQ t) (hl:t.loop=0) (h:mY E irc stc (agX t [v]) S th 1=(out,exit,n,0)) (hneg:exit<0) (hk:hZ t.ins v t.ins.length≠-1) :
  ∃hd' f',0≤th∧out.threads[th.toNat]? = some hd'∧hd'.frames.getLast? = some f'∧∀x,f'.regs[0]? = some x→x.kind=hZ t.ins v t.ins.length:=by
 obtain⟨h0,hd,f,w',hd',f',h1,h2,g2,g3,g4,b1,b2,b3⟩:=ahK (t:=agX t [v]) hx ask hl h hneg
 refine⟨hd',f',h0,b1,b2,fun x hxx=>?_⟩
 rw[b3,ahJ] at hxx
 have hreg:0<w'.regs.length:=by
  have:=(lE hxx).1
  simpa using this
 rw[List.getElem?_set_self hreg] at hxx
 injection hxx with hxx
 rw[←hxx]
 exact ahA ok (t:=t) ask num (w:=w') (fun u hu=>by
  have F:=g4 u hu
  exact⟨F.const,F.count,F.new,F.bin,F.un,F.is_,F.same,F.cell⟩) (v.toNat+1) v t.ins.length (by omega) hk
end
section
theorem agH {n:Int} (h:(dS n).2<0):(dS n).1.kind=2:=by
 unfold dS at h ⊢
 split
 ·rfl
 ·rename_i c;rw[if_neg c] at h;exact absurd h (by decide)
theorem ag9 (b:Nat):(ofM b).kind=3:=by unfold ofM;split <;> rfl
theorem agJ (b:Bool):(cP b).kind=1:=by cases b <;> rfl
theorem agN {v:Val} (h:(dD v).kind≠0):dD v=v:=by
 unfold dD at h ⊢
 split
 ·rfl
 ·rename_i c;rw[if_neg c] at h;exact absurd rfl h
theorem agI {op:Int} {a b:Bool} (h:(eA op a b).2<0):(eA op a b).1.kind=1∧(op=9∨op=10):=by
 unfold eA at h ⊢
 split
 ·rename_i c;exact⟨agJ _,.inl c⟩
 ·rename_i c1
  rw[if_neg c1] at h
  split
  ·rename_i c;exact⟨agJ _,.inr c⟩
  ·rename_i c;rw[if_neg c] at h;exact absurd h (by decide)
theorem agR (o:BinOp) (x y:Nat):(ofB o x y).kind=3:=by
 unfold ofB
 split
 ·exact ag9 _
 ·rfl
theorem ops_ok:ahP ⟨o4,mU,lF⟩:=by
 refine⟨fun a=>?_,fun n a hn h=>?_,fun n a b h1 h2 h=>?_,fun n a b h1 h=>?_⟩
 ·show(o4 11 a).1.kind=1
  unfold o4;rw[if_pos rfl];exact agJ _
 ·change (o4 n a).2<0 at h
  show(o4 n a).1.kind=a.kind
  unfold o4 at h ⊢
  rw[if_neg hn] at h ⊢
  split
  ·rename_i c
   rw[if_pos c] at h
   rw[agH h,←c.2,agN (by omega)]
  ·rename_i c
   rw[if_neg c] at h
   split
   ·rename_i c3
    show(ofM _).kind=_
    rw[ag9,←c3.2,agN (by omega)]
   ·rename_i c3;rw[if_neg c3] at h;exact absurd h (by decide)
 ·change (mU n a b).2<0 at h
  show(mU n a b).1.kind=1
  unfold mU at h ⊢
  split
  ·rename_i c
   rw[if_pos c] at h
   unfold lI at h ⊢
   rw[if_neg (by omega),if_neg (by omega),if_neg (by omega),if_neg (by omega)] at h ⊢
   split
   ·exact agJ _
   ·rename_i c8;rw[if_neg c8] at h;exact(agI h).1
  ·rename_i c
   rw[if_neg c] at h
   split
   ·exact agJ _
   ·rename_i c8
    rw[if_neg c8] at h
    split
    ·rename_i c2
     rw[if_pos c2] at h
     unfold gR at h ⊢
     rw[if_neg (by omega),if_neg (by omega),if_neg (by omega),if_neg (by omega)] at h ⊢
     exact(agI h).1
    ·rename_i c2;rw[if_neg c2] at h;exact absurd h (by decide)
 ·change (mU n a b).2<0 at h
  show(mU n a b).1.kind=a.kind
  unfold mU at h ⊢
  split
  ·rename_i c
   rw[if_pos c] at h
   have ha:a.kind=3:=by rw[←c.1,agN (by omega)]
   rw[ha]
   unfold lI at h ⊢
   split
   ·exact agR _ _ _
   split
   ·exact agR _ _ _
   split
   ·exact agR _ _ _
   split
   ·exact agR _ _ _
   rename_i q1 q2 q3 q4
   rw[if_neg q1,if_neg q2,if_neg q3,if_neg q4,if_neg (by omega)] at h
   have:=(agI h).2
   omega
  ·rename_i c
   rw[if_neg c,if_neg (by omega)] at h
   rw[if_neg (show ¬n=8 by omega)]
   split
   ·rename_i c2
    rw[if_pos c2] at h
    have ha:a.kind=2:=by rw[←c2.1,agN (by omega)]
    rw[ha]
    unfold gR at h ⊢
    split
    ·rename_i q;rw[if_pos q] at h;exact agH h
    rename_i q1
    rw[if_neg q1] at h
    split
    ·rename_i q;rw[if_pos q] at h;exact agH h
    rename_i q2
    rw[if_neg q2] at h
    split
    ·rename_i q;rw[if_pos q] at h;exact agH h
    rename_i q3
    rw[if_neg q3] at h
    split
    ·rename_i q
     rw[if_pos q] at h
     split
     ·rename_i q0;rw[if_pos q0] at h;exact absurd h (by decide)
     ·rename_i q0
      rw[if_neg q0] at h
      split
      ·rename_i q6;rw[if_pos q6] at h;exact agH h
      ·rename_i q6;rw[if_neg q6] at h;exact agH h
    ·rename_i q
     rw[if_neg q] at h
     have:=(agI h).2
     omega
   ·rename_i c2;rw[if_neg c2] at h;exact absurd h (by decide)
end
end Go.Proofs.YtjaphgpkkfdaaaaGreatDoor
