/- Laws. -/
import Derived.Test.YtjaphgpkkfdaaaaGreatDoorZBB
import Derived.Test.YtjaphgpkkfdaaaaGreatDoorYTL
import Derived.Test.YtjaphgpkkfdaaaaGreatDoorYTS
set_option maxHeartbeats 16000000
set_option maxRecDepth 100000
set_option linter.all false
namespace Go.Proofs.YtjaphgpkkfdaaaaGreatDoor
section
theorem af4 {x:bG} {k:Nat} {v:Int} (hv : [x.a,x.b,x.c][k]? = some v) (hk:(k:Int)<(cF x.op).asks):v∈iU x:=by
 unfold iU
 refine List.mem_of_getElem? (i:=k) ?_
 rw[List.getElem?_take,if_pos (by omega)]
 exact hv
structure afL (t:aN) (d:Int) (k:Nat) (w w':aI):Prop where
 cells:w'.cells=w.cells
 regs:w'.regs=w.regs
 at_:w'.at_=w.at_
 steps:w'.steps=w.steps+d
 len:w'.vals.length=w.vals.length
 full:w.vals.length=t.ins.length
 vals:∀v:Nat,v<k→iC (jE t v).op=true→w'.vals[v]? = w.vals[v]?
def afV (t:aN):Prop:=∀(k:Nat) (x:bG),t.ins[k]? = some x→∀v∈iU x,0≤v∧v<k∧iC (jE t v).op=true
theorem af1 {aG:Val→Bool} {ce:Int} {fns:List FnM} {t:aN} (h:fA aG ce fns t=0):afV t:=fun k x hx v hv=>by
 have:=oS h hx v hv
 refine⟨this.1,this.2.1,?_⟩
 have h2:=this.2.2.2
 unfold nQ at h2
 unfold jE
 cases e:t.ins[v.toNat]? with
 | none=>rw[e] at h2;exact absurd h2 (by decide)
 | some y=>rw[e] at h2;exact h2
theorem afL.val {t:aN} {d:Int} {k:Nat} {w w':aI} (h:afL t d k w w') {v:Int} (h0:0≤v) (h1:v<k) (h2:iC (jE t v).op=true):cX w' v=cX w v:=by
 obtain⟨n,rfl⟩:=Int.eq_ofNat_of_zero_le h0
 exact uH (h.vals n (by omega) h2)
theorem afL.cell {t:aN} {d:Int} {k:Nat} {w w':aI} (h:afL t d k w w') {v:Int} (h0:0≤v) (h1:v<k) (h2:iC (jE t v).op=true):eF w' v=eF w v:=by
 unfold eF
 rw[h.val h0 h1 h2,h.cells]
structure afO (t:aN) (d:Int) (i:Nat) (r r':aI×Int):Prop where
 how:r'.2=r.2
 keep:afL t d i r.1 r'.1
 next:r.2=0→afL t d (i+1) r.1 r'.1
section
variable {t:aN} {d:Int} {i:Nat} {w w':aI}
theorem afL.stay (h:afL t d i w w') (hq:iC (jE t i).op=false) (how:Int):afO t d i (w,how) (w',how):=
 ⟨rfl,h,fun _=>⟨h.cells,h.regs,h.at_,h.steps,h.len,h.full,fun v hv ht=>by
  by_cases e:v=i
  ·subst e;rw[hq] at ht;cases ht
  ·exact h.vals v (by omega) ht⟩⟩
theorem afL.no (h:afL t d i w w') {how:Int} (hh:how≠0):afO t d i (w,how) (w',how):=⟨rfl,h,fun e=>absurd e hh⟩
theorem afL.setV (h:afL t d i w w') (hi:i<t.ins.length) (v:Val):afL t d (i+1) (fS w i v) (fS w' i v):=
 ⟨h.cells,h.regs,h.at_,h.steps,by simp[fS,h.len],by simp[fS,h.full],fun u hu ht=>by
  show(w'.vals.set i v)[u]? = (w.vals.set i v)[u]?
  by_cases e:u=i
  ·subst e
   rw[List.getElem?_set_self (by rw[h.len,h.full];exact hi),List.getElem?_set_self (by rw[h.full];exact hi)]
  ·rw[List.getElem?_set_ne (Ne.symm e),List.getElem?_set_ne (Ne.symm e)]
   exact h.vals u (by omega) ht⟩
theorem afL.less {k k':Nat} (h:afL t d k w w') (hk:k'≤k):afL t d k' w w':=⟨h.cells,h.regs,h.at_,h.steps,h.len,h.full,fun v hv ht=>h.vals v (by omega) ht⟩
theorem afL.tell (h:afL t d i w w') (hi:i<t.ins.length) (v:Val) (how:Int):afO t d i (fS w i v,how) (fS w' i v,how):=⟨rfl,(h.setV hi v).less (by omega),fun _=>h.setV hi v⟩
theorem afL.setC (h:afL t d i w w') (n:Nat) (c:bC):afL t d i (setCW w n c) (setCW w' n c):=
 ⟨by show w'.cells.set n c=w.cells.set n c;rw[h.cells],h.regs,h.at_,h.steps,h.len,h.full,h.vals⟩
theorem afL.fresh (h:afL t d i w w') (hi:i<t.ins.length) (k:Int):afO t d i (dX w i k) (dX w' i k):=by
 unfold dX
 rw[h.cells]
 split
 ·exact h.no (by decide)
 ·have h1:=h.setV hi ⟨5,w.cells.length⟩
  have h2:afL t d (i+1) { w with vals:=w.vals.set i ⟨5,w.cells.length⟩,cells:=w.cells++[⟨k,0,[],[]⟩] } { w' with vals:=w'.vals.set i ⟨5,w.cells.length⟩,cells:=w.cells++[⟨k,0,[],[]⟩] }:=
   ⟨rfl,h1.regs,h1.at_,h1.steps,h1.len,h1.full,h1.vals⟩
  exact⟨rfl,h2.less (by omega),fun _=>h2⟩
theorem same_do (h:afL t d i w w') (ask:afV t) (E:hV) (self:Val) (shapes:List aT) (hi:i<t.ins.length) (hop:lU (jE t i).op=true):afO t d i (doW E t self shapes w i) (doW E t self shapes w' i):=by
 have hx:t.ins[i]? = some (jE t i):=by
  unfold jE
  rw[show(i:Int).toNat=i from rfl,lG hi];rfl
 have ak:=ask i _ hx
 have hns:∀(hq:iC (jE t i).op=false) (how:Int),afO t d i (w,how) (w',how):=fun hq how=>h.stay hq how
 unfold doW
 obtain⟨x,hxq⟩:∃x,jE t i=x:=⟨_,rfl⟩
 rw[hxq] at hx ak hns hop ⊢
 have va:0<(cF x.op).asks→cX w' x.a=cX w x.a:=fun c=>by
  obtain⟨a1,a2,a3⟩:=ak _ (af4 (k:=0) rfl c);exact h.val a1 a2 a3
 have vb:1<(cF x.op).asks→cX w' x.b=cX w x.b:=fun c=>by
  obtain⟨a1,a2,a3⟩:=ak _ (af4 (k:=1) rfl c);exact h.val a1 a2 a3
 have vc:2<(cF x.op).asks→cX w' x.c=cX w x.c:=fun c=>by
  obtain⟨a1,a2,a3⟩:=ak _ (af4 (k:=2) rfl c);exact h.val a1 a2 a3
 have ca:0<(cF x.op).asks→eF w' x.a=eF w x.a:=fun c=>by
  obtain⟨a1,a2,a3⟩:=ak _ (af4 (k:=0) rfl c);exact h.cell a1 a2 a3
 have iteR:∀ {c:Prop} [Decidable c] {a b a' b':aI×Int},(c→afO t d i a a')→(¬c→afO t d i b b')→afO t d i (if c then a else b) (if c then a' else b'):=fun {c} _ {a b a' b'} ha hb=>by
  by_cases hc:c
  ·rw[if_pos hc,if_pos hc];exact ha hc
  ·rw[if_neg hc,if_neg hc];exact hb hc
 have put:∀(hq:iC x.op=false) (n:Nat) (c:bC),afO t d i (setCW w n c,0) (setCW w' n c,0):=fun hq n c=>by
  have:=(h.setC n c)
  exact⟨rfl,this,fun _=>⟨this.cells,this.regs,this.at_,this.steps,this.len,this.full,fun v hv ht=>by
   by_cases e:v=i
   ·subst e;rw[hxq] at ht;rw[hq] at ht;cases ht
   ·exact this.vals v (by omega) ht⟩⟩
 unfold doI
 refine iteR (fun c=>?_) fun c1=>?_
 ·rw[h.regs];exact h.tell hi _ 0
 refine iteR (fun c=>h.tell hi _ 0) fun c2=>?_
 refine iteR (fun c=>h.tell hi _ 0) fun c3=>?_
 refine iteR (fun c=>?_) fun c4=>?_
 ·have h0:0<(cF x.op).asks:=by rcases c with c | c | c | c <;> rw[c] <;> decide
  have hg:iY E w' x=iY E w x:=by unfold iY;rw[va h0,ca h0]
  rw[hg]
  exact hns (by rcases c with c | c | c | c <;> rw[c] <;> rfl) _
 refine iteR (fun c=>?_) fun c5=>?_
 ·rw[va (by rw[c];decide),vb (by rw[c];decide)]
  exact h.tell hi _ _
 refine iteR (fun c=>?_) fun c6=>?_
 ·rw[va (by rw[c];decide)]
  exact h.tell hi _ _
 refine iteR (fun c=>?_) fun c7=>?_
 ·have h0:0<(cF x.op).asks:=by rcases c with c | c | c <;> rw[c] <;> decide
  unfold gW
  rw[ca h0]
  cases eF w x.a with
  | none=>exact h.no (by decide)
  | some nc=>
   obtain⟨n,cl⟩:=nc
   dsimp only
   refine iteR (fun _=>h.no (by decide)) fun _=>?_
   refine iteR (fun _=>h.tell hi _ 0) fun _=>?_
   refine iteR (fun e=>?_) fun _=>h.tell hi _ 0
   rw[vb (by rw[e];decide)]
   exact put (by rw[e];rfl) _ _
 refine iteR (fun c=>?_) fun c8=>?_
 ·unfold jT
  rw[ca (by rw[c];decide),vb (by rw[c];decide)]
  cases eF w x.a with
  | none=>exact h.no (by decide)
  | some nc=>
   obtain⟨n,cl⟩:=nc
   dsimp only
   refine iteR (fun _=>h.no (by decide)) fun _=>?_
   cases shapes[x.n.toNat]? with
   | none=>exact h.no (by decide)
   | some sh=>
    dsimp only
    exact iteR (fun _=>h.no (by decide)) fun _=>put (by rw[c];rfl) _ _
 refine iteR (fun c=>?_) fun c9=>?_
 ·have h0:0<(cF x.op).asks:=by rcases c with c | c <;> rw[c] <;> decide
  have h1:1<(cF x.op).asks:=by rcases c with c | c <;> rw[c] <;> decide
  unfold lP
  rw[ca h0,vb h1]
  cases eF w x.a with
  | none=>exact h.no (by decide)
  | some nc=>
   obtain⟨n,cl⟩:=nc
   dsimp only
   refine iteR (fun _=>h.no (by decide)) fun _=>?_
   refine iteR (fun _=>h.no (by decide)) fun _=>?_
   refine iteR (fun _=>h.tell hi _ 0) fun e=>?_
   have e14:x.op=14:=by omega
   rw[vc (by rw[e14];decide)]
   exact put (by rw[e14];rfl) _ _
 refine iteR (fun c=>h.fresh hi _) fun c10=>?_
 refine iteR (fun c=>?_) fun c11=>?_
 ·unfold iT
  rw[ca (by rw[c];decide),vb (by rw[c];decide)]
  cases eF w x.a with
  | none=>exact h.no (by decide)
  | some nc=>
   obtain⟨n,cl⟩:=nc
   dsimp only
   refine iteR (fun _=>h.no (by decide)) fun _=>?_
   refine iteR (fun _=>put (by rw[c];rfl) _ _) fun _=>?_
   exact iteR (fun _=>h.no (by decide)) fun _=>h.no (by decide)
 exact iteR (fun c=>hns (by rw[c];rfl) _) fun _=>h.fresh hi _
end
structure afN (t:aN) (x:cW) (k:Nat):Prop where
 sets:∀s∈x.sets,0≤s.val∧s.val<k∧iC (jE t s.val).op=true
 makes:∀m∈x.makes,(0≤m.cell∧m.cell<k∧iC (jE t m.cell).op=true)∧∀v∈m.vals,0≤v∧v<k∧iC (jE t v).op=true
section
variable {t:aN} {d:Int} {k:Nat}
theorem af6 {w w':aI} (h:afL t d k w w') {m:fZ} (hm:(0≤m.cell∧m.cell<k∧iC (jE t m.cell).op=true)∧∀v∈m.vals,0≤v∧v<k∧iC (jE t v).op=true):(fP w' m).2=(fP w m).2∧afL t d k (fP w m).1 (fP w' m).1:=by
 have e:m.vals.map (cX w')=m.vals.map (cX w):=List.map_congr_left fun v hv=>by
  obtain⟨a,b,c⟩:=hm.2 v hv
  exact h.val a b c
 unfold fP
 rw[h.cell hm.1.1 hm.1.2.1 hm.1.2.2,e]
 cases eF w m.cell with
 | none=>exact⟨rfl,h⟩
 | some nc=>
  obtain⟨n,c⟩:=nc
  dsimp only
  split
  ·exact⟨rfl,h⟩
  ·exact⟨rfl,⟨by show w'.cells.set n _=w.cells.set n _;rw[h.cells],h.regs,h.at_,h.steps,h.len,h.full,h.vals⟩⟩
theorem afS:∀(l:List fZ) (w w':aI),afL t d k w w'→(∀m∈l,(0≤m.cell∧m.cell<k∧iC (jE t m.cell).op=true)∧∀v∈m.vals,0≤v∧v<k∧iC (jE t v).op=true)→(eK w' l).2=(eK w l).2∧afL t d k (eK w l).1 (eK w' l).1
 | [],w,w',h,_=>⟨rfl,h⟩
 | m::l,w,w',h,hm=>by
  have h1:=af6 h (hm m (by simp))
  unfold eK
  rw[h1.1]
  split
  ·exact⟨h1.1,h1.2⟩
  ·exact afS l _ _ h1.2 (fun q hq=>hm q (by simp[hq]))
theorem afY:∀(l:List pS) (w w':aI),afL t d k w w'→(∀s∈l,0≤s.val∧s.val<k∧iC (jE t s.val).op=true)→afL t d k (fN w l) (fN w' l)
 | [],w,w',h,_=>h
 | s::l,w,w',h,hs=>by
  obtain⟨a,b,c⟩:=hs s (by simp)
  exact afY l _ _ ⟨h.cells,by dsimp only;rw[h.regs,h.val a b c],h.at_,h.steps,h.len,h.full,h.vals⟩ (fun q hq=>hs q (by simp[hq]))
theorem af0 {w w':aI} (h:afL t d k w w') {x:cW} (hx:afN t x k):(iG w' x).2=(iG w x).2∧afL t d k (iG w x).1 (iG w' x).1:=by
 have h1:=afS x.makes w w' h hx.makes
 unfold iG
 rw[h1.1]
 split
 ·exact⟨h1.1,h1.2⟩
 ·have h2:=afY x.sets _ _ h1.2 hx.sets
  exact⟨rfl,⟨h2.cells,h2.regs,rfl,by dsimp only;rw[h2.steps];omega,h2.len,h2.full,h2.vals⟩⟩
structure afM (t:aN):Prop where
 ask:afV t
 ops:∀(i:Nat) x,t.ins[i]? = some x→lU x.op=true
 exits:∀(i:Nat) x e,t.ins[i]? = some x→0≤x.exit→t.exits[x.exit.toNat]? = some e→afN t e i
 back:afN t t.back t.ins.length
theorem afX (E:hV) (hx:jA t) (tt:afM t) (self:Val) (shapes:List aT) (fin:cW):∀(n i:Nat) (w w':aI),i+n≤t.ins.length→afN t fin (i+n)→afL t d i w w'→
  (dM E t self shapes fin n i w').2=(dM E t self shapes fin n i w).2∧afL t d 0 (dM E t self shapes fin n i w).1 (dM E t self shapes fin n i w').1
 | 0,i,w,w',_,hf,h=>by
  have h1:=af0 h (x:=fin) (by rwa [Nat.add_zero] at hf)
  unfold dM
  exact⟨by rw[h1.1],h1.2.less (by omega)⟩
 | n+1,i,w,w',hn,hf,h=>by
  have hi:t.ins[i]? = some (jE t i):=by
   unfold jE
   rw[show(i:Int).toNat=i from rfl,lG (show i<t.ins.length by omega)];rfl
  have hs:=same_do h tt.ask E self shapes (show i<t.ins.length by omega) (tt.ops i _ hi)
  unfold dM
  rw[hs.how]
  split
  ·exact⟨rfl,hs.keep.less (by omega)⟩
  rename_i h2
  split
  ·rename_i h1
   have hl:=u0 E hx self shapes w (show i<t.ins.length by omega) h1
   cases he:t.exits[(jE t i).exit.toNat]? with
   | none=>exact⟨rfl,hs.keep.less (by omega)⟩
   | some x=>
    dsimp only
    have h3:=af0 hs.keep (tt.exits i _ x hi hl.1 he)
    exact⟨by rw[h3.1],h3.2.less (by omega)⟩
  ·rename_i h1
   have h0:(doW E t self shapes w i).2=0:=by
    rcases adJ E self shapes w i (jE t i) with c | c | c
    ·exact c
    ·exact absurd c h1
    ·exact absurd c h2
   exact afX E hx tt self shapes fin n (i+1) _ _ (by omega) (by rw[show i+1+n=i+(n+1) by omega];exact hf) (hs.next h0)
theorem af5 (E:hV) (hx:jA t) (tt:afM t) (hl:t.loop=0) (self:Val) (shapes:List aT) (done done':Nat) {w w':aI} (h:afL t d 0 w w') :
  (dN E t self shapes done' w').2=(dN E t self shapes done w).2∧afL t d 0 (dN E t self shapes done w).1 (dN E t self shapes done' w').1:=by
 unfold dN
 rw[if_neg (by omega),if_neg (by omega),hl]
 exact afX E hx tt self shapes t.back (t.ins.length - (0:Int).toNat) (0:Int).toNat w w' (by simp) (by simpa using tt.back) h
theorem afR (E:hV) (hx:jA t) (tt:afM t) (hl:t.loop=0) (self:Val) (shapes:List aT):∀(n done done':Nat) (w w':aI),afL t d 0 w w'→
  (bQ E t self shapes n done' w').2.1=(bQ E t self shapes n done w).2.1∧(bQ E t self shapes n done' w').2.2.2=(bQ E t self shapes n done w).2.2.2∧
   (bQ E t self shapes n done' w').2.2.1 - done'=(bQ E t self shapes n done w).2.2.1 - done∧afL t d 0 (bQ E t self shapes n done w).1 (bQ E t self shapes n done' w').1
 | 0,done,done',w,w',h=>⟨rfl,rfl,by simp[bQ],h⟩
 | n+1,done,done',w,w',h=>by
  have h1:=af5 E hx tt hl self shapes done done' h
  have ea:(dN E t self shapes done' w').2.2=(dN E t self shapes done w).2.2:=by rw[h1.1]
  have eb:(dN E t self shapes done' w').2.1=(dN E t self shapes done w).2.1:=by rw[h1.1]
  unfold bQ
  by_cases c:(dN E t self shapes done w).2.2=2∨0≤(dN E t self shapes done w).2.1
  ·have c':(dN E t self shapes done' w').2.2=2∨0≤(dN E t self shapes done' w').2.1:=by rw[ea,eb];exact c
   simp only[if_pos c,if_pos c']
   exact⟨eb,ea,by omega,h1.2⟩
  ·have c':¬((dN E t self shapes done' w').2.2=2∨0≤(dN E t self shapes done' w').2.1):=by rw[ea,eb];exact c
   simp only[if_neg c,if_neg c']
   obtain⟨g1,g2,g3,g4⟩:=afR E hx tt hl self shapes n (done+1) (done'+1) _ _ h1.2
   exact⟨g1,g2,by omega,g4⟩
end
theorem afZ (E:hV) (t:aN) (self:Val) (shapes:List aT) (b:Nat):∀(a done:Nat) (w:aI),
  bQ E t self shapes (a+b) done w=if(bQ E t self shapes a done w).2.2.2=2∨0≤(bQ E t self shapes a done w).2.1 then bQ E t self shapes a done w else bQ E t self shapes b (done+a) (bQ E t self shapes a done w).1
 | 0,done,w=>by
  have:¬((bQ E t self shapes 0 done w).2.2.2=2∨0≤(bQ E t self shapes 0 done w).2.1):=by
   unfold bQ;dsimp only;omega
  rw[if_neg this,Nat.zero_add];rfl
 | a+1,done,w=>by
  rw[show a+1+b=(a+b)+1 by omega]
  have ih:=afZ E t self shapes b a (done+1) (dN E t self shapes done w).1
  conv=>lhs;unfold bQ
  by_cases c:(dN E t self shapes done w).2.2=2∨0≤(dN E t self shapes done w).2.1
  ·have e:bQ E t self shapes (a+1) done w=((dN E t self shapes done w).1,(dN E t self shapes done w).2.1,(done:Int),(dN E t self shapes done w).2.2):=by
    unfold bQ;simp only[if_pos c]
   simp only[if_pos c]
   rw[e]
   dsimp only
   rw[if_pos c]
  ·have e:bQ E t self shapes (a+1) done w=bQ E t self shapes a (done+1) (dN E t self shapes done w).1:=by
    conv=>lhs;unfold bQ
    simp only[if_neg c]
   simp only[if_neg c]
   rw[e,ih,show done+1+a=done+(a+1) by omega]
theorem af2 {E:hV} {irc stc:Int} {t:aN} {S all:aR} {th exit n a b:Int} {regs:Int} (hx:jA t) (ha:wT t) (hf:kQ regs t) (tt:afM t) (hl:t.loop=0) (ha0:0≤a) (hb0:0≤b)
  (h:mY E irc stc t S th (a+b)=(all,exit,n,0)) :
  ∃x first m,mY E irc stc t S th a=(x,first,m,0)∧(0≤first→first=exit∧m=n∧x=all)∧
   (first<0→∃k,mY E irc 0 t x th b=(all,exit,k,0)∧m+k=n):=by
 obtain⟨q1,q2,h0,ht,ht2,hd,f,h1,h2,hst,hfn,hat,hw,hsm,e1,e2,e3⟩:=uN h
 subst q1 q2
 have eab:(a+b).toNat=a.toNat+b.toNat:=by omega
 have hsp:=afZ E t f.self S.shapes b.toNat a.toNat 0 (cL t S f)
 rw[←eab] at hsp
 have same0:afL t 0 0 (cL t S f) (cL t S f):=⟨rfl,rfl,rfl,by omega,rfl,by simp[cL],fun _ _ _=>rfl⟩
 obtain⟨-,-,-,ga⟩:=afR E hx tt hl f.self S.shapes a.toNat 0 0 _ _ same0
 have hwa:(bQ E t f.self S.shapes a.toNat 0 (cL t S f)).2.2.2≠2:=by
  intro c
  rw[if_pos (.inl c)] at hsp
  rw[hsp] at hw
  exact hw c
 obtain⟨ra0,-,m,ga3,ga4⟩:=pB E hx ha f.self S.shapes a.toNat 0 (cL t S f) hwa
 have hsums:(bQ E t f.self S.shapes a.toNat 0 (cL t S f)).1.steps≤(bQ E t f.self S.shapes (a+b).toNat 0 (cL t S f)).1.steps:=by
  rw[hsp]
  split
  ·exact Int.le_refl _
  ·rename_i c
   have hwb:(bQ E t f.self S.shapes b.toNat (0+a.toNat) (bQ E t f.self S.shapes a.toNat 0 (cL t S f)).1).2.2.2≠2:=by
    rw[hsp,if_neg c] at hw;exact hw
   obtain⟨-,-,m2,-,gb4⟩:=pB E hx ha f.self S.shapes b.toNat (0+a.toNat) _ hwb
   have hp:=l7 hf m2 (0+a.toNat)
   rcases gb4 with ⟨-,-,g,-⟩ | ⟨y,-,-,-,hy,g,-⟩
   ·omega
   ·have:=(hf.all y (List.mem_of_getElem? hy)).1
    omega
 obtain⟨wa,hwae⟩:∃r,bQ E t f.self S.shapes a.toNat 0 (cL t S f)=r:=⟨_,rfl⟩
 rw[hwae] at hsp ga hwa ra0 ga3 ga4 hsums
 have hrunA:mY E 0 0 t S th a=(gX S th.toNat wa.1,wa.2.1,wa.2.2.1,0):=by
  unfold mY
  rw[if_neg (by decide),if_neg (by decide),if_neg (by omega:¬th<0),h1]
  dsimp only
  have hs':gV t S th=true:=by
   unfold gV
   rw[if_neg (by omega),h1]
   dsimp only
   rw[h2]
   simp[hst,hfn,hat]
  rw[if_neg (by rw[hs'];decide),if_neg (by omega),h2]
  dsimp only
  rw[hwae,if_neg hwa,if_neg (by omega)]
 refine⟨_,_,_,hrunA,fun hfirst=>?_,fun hfirst=>?_⟩
 ·rw[if_pos (.inr hfirst)] at hsp
  rw[hsp] at e1 e2 e3
  exact⟨e2.symm,e3.symm,e1.symm⟩
 ·have hneg:¬(wa.2.2.2=2∨0≤wa.2.1):=by rintro (c | c) <;> omega
  rw[if_neg hneg,Nat.zero_add] at hsp
  have hexa:wa.2.1 = -1∧m=a.toNat∧wa.1.at_=t.at_:=by
   rcases ga4 with ⟨g1,g2,-,g4⟩ | ⟨x,-,g2,-⟩
   ·refine⟨g1,g2,?_⟩
    rw[g4]
    split
    ·exact hat
    ·rfl
   ·omega
  obtain⟨hd',b1,b2,b3⟩:=uC h1 h2 wa.1
  have hbf:=lK h1 h2 wa.1
  have sb:afL t (- wa.1.steps) 0 wa.1 (cL t (gX S th.toNat wa.1) { f with at_:=wa.1.at_,regs:=wa.1.regs }):=
   ⟨by rw[hbf];rfl,rfl,rfl,by show(0:Int)=_;omega,by show(List.replicate _ _).length=_;rw[List.length_replicate,ga.full],ga.full,fun v hv=>by omega⟩
  obtain⟨gb1,gb2,gb3,gb4⟩:=afR E hx tt hl f.self S.shapes b.toNat a.toNat 0 _ _ sb
  obtain⟨wb,hwbe⟩:∃r,bQ E t f.self S.shapes b.toNat 0 (cL t (gX S th.toNat wa.1) { f with at_:=wa.1.at_,regs:=wa.1.regs })=r:=⟨_,rfl⟩
  rw[hwbe] at gb1 gb2 gb3 gb4
  rw[hsp] at hw hsm e1 e2 e3
  obtain⟨wc,hwce⟩:∃r,bQ E t f.self S.shapes b.toNat a.toNat wa.1=r:=⟨_,rfl⟩
  rw[hwce] at gb1 gb2 gb3 gb4 hw hsm e1 e2 e3
  have hshapes:(gX S th.toNat wa.1).shapes=S.shapes:=by rw[hbf]
  have hsteps:(gX S th.toNat wa.1).steps=S.steps+wa.1.steps:=by rw[hbf]
  have hgs:=gb4.steps
  have hrunB:mY E 0 0 t (gX S th.toNat wa.1) th b=(gX (gX S th.toNat wa.1) th.toNat wb.1,wb.2.1,wb.2.2.1,0):=by
   unfold mY
   rw[if_neg (by decide),if_neg (by decide),if_neg (by omega:¬th<0),b1]
   dsimp only
   have hhd:hd'.state=hd.state:=by
    rw[hbf] at b1
    have hi:=(lE h1).1
    change (S.threads.set th.toNat _)[th.toNat]? = _ at b1
    rw[List.getElem?_set_self hi] at b1
    injection b1 with b1
    rw[←b1]
   have hs':gV t (gX S th.toNat wa.1) th=true:=by
    unfold gV
    rw[if_neg (by omega),b1]
    dsimp only
    rw[b3]
    simp[hhd,hst,hfn,hexa.2.2]
   rw[if_neg (by rw[hs'];decide),if_neg (by omega),b3]
   dsimp only
   rw[hshapes,hwbe,if_neg (by rw[gb2];exact hw),if_neg (by rw[hsteps];omega)]
  refine⟨wb.2.2.1,?_,?_⟩
  ·rw[hrunB,gb1,←e2]
   have:gX (gX S th.toNat wa.1) th.toNat wb.1=all:=by
    rw[e1,lK h1 h2 wc.1,lK b1 b3 wb.1,gb4.cells,gb4.regs,gb4.at_]
    rw[hsteps]
    have hi:=(lE h1).1
    have hth:(gX S th.toNat wa.1).threads=S.threads.set th.toNat hd':=by
     rw[hbf] at b1 ⊢
     change (S.threads.set th.toNat _)[th.toNat]? = _ at b1
     rw[List.getElem?_set_self hi] at b1
     injection b1 with b1
     rw[←b1]
    have hfr:({ hd' with frames:=hd'.frames.dropLast++[{ { f with at_:=wa.1.at_,regs:=wa.1.regs } with at_:=wc.1.at_,regs:=wc.1.regs }] } : bW) = { hd with frames:=hd.frames.dropLast++[{ f with at_:=wc.1.at_,regs:=wc.1.regs }] }:=by
     rw[hbf] at b1
     change (S.threads.set th.toNat _)[th.toNat]? = _ at b1
     rw[List.getElem?_set_self hi] at b1
     injection b1 with b1
     rw[←b1]
     simp
    rw[hth,List.set_set,hfr]
    have e9:S.steps+wa.1.steps+wb.1.steps=S.steps+wc.1.steps:=by omega
    rw[e9,hbf]
   rw[this]
  ·rw[e3]
   have:=hexa.2.1
   rw[ga3]
   omega
end
section
theorem afP {t:aN} {v:Int} {k:Nat} (h:fF t.ins v (k:Int)=true):0≤v∧v<k∧iC (jE t v).op=true:=by
 simp only[fF,Bool.and_eq_true,decide_eq_true_eq] at h
 refine⟨h.1.1.1,h.1.1.2,?_⟩
 have h2:=h.2
 unfold nQ at h2
 unfold jE
 cases e:t.ins[v.toNat]? with
 | none=>rw[e] at h2;exact absurd h2 (by decide)
 | some y=>rw[e] at h2;exact h2
theorem afW {t:aN} {regs:Int} {k:Nat} : ∀(last:Int) (l:List pS),nC regs t.ins (k:Int) last l=true→∀s∈l,0≤s.val∧s.val<k∧iC (jE t s.val).op=true
 | _,[],_,_,hs=>by simp at hs
 | last,x::l,h,s,hs=>by
  simp only[nC,Bool.and_eq_true,decide_eq_true_eq] at h
  rcases List.mem_cons.1 hs with rfl | hs
  ·exact afP h.1.2
  ·exact afW _ l h.2 s hs
theorem afU {t:aN} {k:Nat} : ∀(last:Int) (l:List fZ),iE t.ins (k:Int) last l=true→∀m∈l,(0≤m.cell∧m.cell<k∧iC (jE t m.cell).op=true)∧∀v∈m.vals,0≤v∧v<k∧iC (jE t v).op=true
 | _,[],_,_,hm=>by simp at hm
 | last,x::l,h,m,hm=>by
  simp only[iE,Bool.and_eq_true,decide_eq_true_eq] at h
  rcases List.mem_cons.1 hm with rfl | hm
  ·have h2:=h.1.2
   simp only[nD,Bool.and_eq_true] at h2
   refine⟨afP h2.1.1.1.1,fun v hv=>?_⟩
   have h3:=h2.2
   unfold gT at h3
   exact afP (List.all_eq_true.1 h3 v hv)
  ·exact afU _ l h.2 m hm
theorem afT {fn:FnM} {t:aN} {x:cW} {k:Nat} (h:bR fn t.ins x (k:Int)=true):afN t x k:=by
 simp only[bR,Bool.and_eq_true] at h
 exact⟨afW (-1) _ h.1.2,afU (-1) _ h.2⟩
theorem af3 {aG:Val→Bool} {ce:Int} {fns:List FnM} {t:aN} (h:fA aG ce fns t=0):afM t:=by
 obtain⟨-,-,fn,hf,-,hl,hi,-,ht1,hb,hx⟩:=gZ h
 refine⟨af1 h,fun i x hxi=>(fQ t.ins 0 hi i x hxi).1,fun i x e hxi h0 he=>?_,afT hb.2⟩
 obtain⟨h1,h2⟩:=fQ t.ins 0 hi i x hxi
 rw[Nat.zero_add] at h2
 simp only[eY,Bool.and_eq_true] at h2
 have h3:=h2.2
 split at h3
 ·rw[beq_iff_eq] at h3;omega
 ·simp only[Bool.and_eq_true,decide_eq_true_eq] at h3
  rw[he] at h3
  exact afT h3.2
end
section
open Go.RowKit
theorem afQ {w:World} {g:Nat} {cs:List Value} {A B:aR} (h:gK w g cs A) (e:A=B):gK w g cs B:=e ▸ h
theorem agG {w w1:World} {a b c:Obj} (h:w1=((w.alloc a).alloc b).alloc c):w1.heap[w.heap.size]? = some a∧w1.heap[w.heap.size+1]? = some b∧w1.heap[w.heap.size+1+1]? = some c∧Below w.heap.size w w1:=h ▸ aeI w a b c
theorem agF {w w1:World} {a:Obj} (h:w1=w.alloc a):w1.heap[w.heap.size]? = some a:=h ▸ aJ _ _
theorem irunTurns_walk (pcs tcs scs:List Value) (p:aW) (t:aN) (S:aR) (th ai bi:Int) (w:World) (hp:eL w w.heap.size pcs p) (ht:cT w w.heap.size tcs t) (hs:gK w w.heap.size scs S) (wth:wfi th) (wai:wfi ai) (wbi:wfi bi) (tab:Tab w) :
  Calls Tryz.prog 7 #[.agg ⟨pcs⟩,.agg ⟨tcs⟩,.agg ⟨scs⟩,.int .i64 th,.int .i64 ai,.int .i64 bi] w (aM (.bool true) w):=by
 have HP0:=hI hp
 have HT0:=hI ht
 have HS0:=hI hs
 obtain⟨PA,pn,PB,pm,PD,pk,rfl,-⟩:=id hp
 obtain⟨B1,m1,B2,m2,B3,m3,B4,m4,B5,m5,B6,m6,rfl,-⟩:=ht.cells6
 obtain⟨c,s,x,tv,en,sa,rfl,hc,hsh,htx,hth',hen,hsa,wa,ws⟩:=id hs
 obtain⟨CA,cc,rfl,-⟩:=id hc
 obtain⟨SA,sc,rfl,-⟩:=id hsh
 obtain⟨XA,xc,rfl,-⟩:=id htx
 obtain⟨TA,tc,rfl,-⟩:=id hth'
 obtain⟨EA,ec,rfl,-⟩:=id hen
 obtain⟨AA,ac,rfl,-⟩:=id hsa
 obtain⟨w1,hw1⟩:∃w1,w1=((w.alloc (.cells #[.slice PA p.fns.length pn,.slice PB p.consts.length pm,.slice PD p.texts.length pk] 26)).alloc (.cells #[.int .i64 t.fn,.int .i64 t.at_,.int .i64 t.loop,.slice B1 t.ins.length m1,.slice B2 t.exits.length m2,.int .i64 t.turn.at_,.int .i64 t.turn.steps,.slice B3 t.turn.sets.length m3,.slice B4 t.turn.makes.length m4,.int .i64 t.back.at_,.int .i64 t.back.steps,.slice B5 t.back.sets.length m5,.slice B6 t.back.makes.length m6] 34)).alloc (.cells #[.slice CA S.cells.length cc,.slice SA S.shapes.length sc,.slice XA S.texts.length xc,.slice TA S.threads.length tc,.slice EA S.ends.length ec,.slice AA S.said.length ac,.int .i64 S.asked,.int .i64 S.steps] 40):=⟨_,rfl⟩
 obtain⟨f1,f2,f3,f5⟩:=agG hw1
 have ROWP1:=hI f1
 have ROWT1:=hI f2
 have ROWS1:=hI f3
 have K1:=hI f5
 have HW1:=hI hw1
 have T0:=hI tab
 clear hp ht hs hc hsh htx hth' hen hsa wa ws hw1 f1 f2 f3 f5 tab
 have ra:=aeU ai 6 (by decide)
 have rb:=aeU bi 6 (by decide)
 obtain⟨n0,hn0⟩:∃n:Nat,aeH ai 6=(n:Int):=⟨(aeH ai 6).toNat,by omega⟩
 obtain⟨m0,hm0⟩:∃n:Nat,aeH bi 6=(n:Int):=⟨(aeH bi 6).toNat,by omega⟩
 have RSA:=hI (fun W=>afC ai 6 W (by decide) (by decide))
 have RSB:=hI (fun W=>afC bi 6 W (by decide) (by decide))
 rw[hn0] at RSA ra
 rw[hm0] at RSB rb
 clear hn0 hm0 wai wbi
 go_enter Tryz.func7,Tryz.ntmps7
 go_upto_region 1 with fail
 rw[←HW1.out]
 have t2:=crZ ROWT1 2 rfl
 by_cases hl:t.loop=0
 case neg=>
  have hb:(t.loop != 0)=true:=bne_iff_ne.2 hl
  clear hl
  go_wp2_with fail
  refine(irred_c w1).mono ?_
  rintro e w2 ⟨rfl,kk⟩
  have K2:=btZ K1 kk
  clear kk
  go_wp2_with fail
  go_ret
  exact⟨rfl,K2.out⟩
 rw[hl] at t2
 have HL:=hI hl
 clear hl
 go_wp2_with fail
 refine(RSA.out w1).mono ?_
 rintro e w2 ⟨rfl,kk⟩
 have K2:=btZ K1 kk
 have ROWP2:=rkZ ROWP1 kk
 have ROWT2:=rkZ ROWT1 kk
 have ROWS2:=rkZ ROWS1 kk
 clear kk t2
 go_wp2_with fail
 refine(RSB.out w2).mono ?_
 rintro e w3 ⟨rfl,kk⟩
 have K3:=btZ K2 kk
 have ROWP3:=rkZ ROWP2 kk
 have ROWT3:=rkZ ROWT2 kk
 have ROWS3:=rkZ ROWS2 kk
 clear kk
 obtain⟨r,hr⟩:∃r,mY cJ (acT p t) (wZ p S) t S th ((n0:Int)+(m0:Int))=r:=⟨_,rfl⟩
 have RN:=hI (irun_c _ _ _ p t S th ((n0:Int)+(m0:Int)) w3 (HP0.out.below K3.out) (HT0.out.below K3.out) (HS0.out.below K3.out) wth (by unfold wfi;omega) (T0.out.below K3.out))
 rw[hr] at RN
 obtain⟨out,exit,n,err⟩:=r
 have HR:=hI hr
 unfold aeG at RN
 dsimp only at RN
 clear hr
 have RGP:=rrZ ROWP3
 have RGT:=rrZ ROWT3
 have RGS:=rrZ ROWS3
 go_wp2_with (first | (refine wpList_load_mid rfl 26 _ rfl w.heap.size 0 rfl _ _ RGP.out Tryz.underlying26 rfl zF ?_) | (refine wpList_load_mid rfl 34 _ rfl (w.heap.size+1) 0 rfl _ _ RGT.out Tryz.underlying34 rfl rP ?_) | (refine wpList_load_mid rfl 40 _ rfl (w.heap.size+1+1) 0 rfl _ _ RGS.out Tryz.underlying40 rfl eC ?_) | fail)
 clear RGP RGT RGS
 refine RN.out.mono ?_
 rintro e w4 ⟨ocs,rfl,hout',kk⟩
 have hout:=hout' w4 (fun _ _ _=>rfl) (Nat.le_refl _)
 have K4:=btZ K3 kk
 have KK:=hI kk
 have ROWP4:=rkZ ROWP3 kk
 have ROWT4:=rkZ ROWT3 kk
 have ROWS4:=rkZ ROWS3 kk
 obtain⟨c,s,x,tv,en,sa,rfl,hc,hsh,htx,hth',hen,hsa,-⟩:=id hout
 obtain⟨CO,co,rfl,-⟩:=id hc
 obtain⟨SO,so,rfl,-⟩:=id hsh
 obtain⟨XO,xo,rfl,-⟩:=id htx
 obtain⟨TO,uo,rfl,-⟩:=id hth'
 obtain⟨EO,eo,rfl,-⟩:=id hen
 obtain⟨AO,ao,rfl,-⟩:=id hsa
 have HTH:=hI hth'
 clear hc hsh htx hth' hen hsa
 have HOUT:=hI hout
 clear kk hout hout'
 obtain⟨w5,hw5⟩:∃ww,ww=w4.alloc (.cells #[.slice CO out.cells.length co,.slice SO out.shapes.length so,.slice XO out.texts.length xo,.slice TO out.threads.length uo,.slice EO out.ends.length eo,.slice AO out.said.length ao,.int .i64 out.asked,.int .i64 out.steps] 40):=⟨_,rfl⟩
 have KB:Hid (Below w4.heap.size w4 w5):=by rw[hw5];exact aB _ _
 have ROWO5:=hI (agF hw5)
 have K5:=btZ K4 KB.out
 have ROWP5:=rkZ ROWP4 KB.out
 have ROWT5:=rkZ ROWT4 KB.out
 have ROWS5:=rkZ ROWS4 KB.out
 have HW5:=hI hw5
 clear hw5
 go_upto_region 5 with fail
 rw[←HW5.out]
 by_cases he:err=0
 case neg=>
  have hb:(err != 0)=true:=bne_iff_ne.2 he
  clear he
  go_wp2_with fail
  refine(irred_c w5).mono ?_
  rintro e w6 ⟨rfl,kk⟩
  have K6:=btZ K5 kk
  clear kk
  go_wp2_with fail
  go_ret
  exact⟨rfl,K6.out⟩
 subst he
 obtain⟨hirc,-⟩:=uN HR.out
 have HIRC:=hI hirc
 clear hirc
 obtain⟨-,mm,hd,f,hnm,hth,hlast,hcase⟩:=xP (qI HIRC.out) (adR HIRC.out) HR.out
 have hnb:0≤n∧n≤12:=by rcases hcase with h | ⟨x,h⟩ <;> omega
 obtain⟨fn,-,-,hfine⟩:=yK HIRC.out
 obtain⟨x',first',m',hx1,hx2,hx3⟩:=af2 (qI HIRC.out) (adR HIRC.out) hfine (af3 HIRC.out) HL.out (Int.natCast_nonneg n0) (Int.natCast_nonneg m0) HR.out
 have HX1:=hI hx1
 have HX2:=hI hx2
 have HX3:=hI hx3
 clear hx1 hx2 hx3 hfine hcase hnm hth hlast
 obtain⟨r1,hr1⟩:∃r,mY cJ (acT p t) (wZ p S) t S th (n0:Int)=r:=⟨_,rfl⟩
 have RN1:=hI (irun_c _ _ _ p t S th (n0:Int) w5 (HP0.out.below K5.out) (HT0.out.below K5.out) (HS0.out.below K5.out) wth (by unfold wfi;omega) (T0.out.below K5.out))
 rw[hr1] at RN1
 obtain⟨out1,exit1,n1,err1⟩:=r1
 have HR1:=hI hr1
 unfold aeG at RN1
 dsimp only at RN1
 clear hr1
 have RGP:=rrZ ROWP5
 have RGT:=rrZ ROWT5
 have RGS:=rrZ ROWS5
 go_wp2_with (first | (refine wpList_load_mid rfl 26 _ rfl w.heap.size 0 rfl _ _ RGP.out Tryz.underlying26 rfl zF ?_) | (refine wpList_load_mid rfl 34 _ rfl (w.heap.size+1) 0 rfl _ _ RGT.out Tryz.underlying34 rfl rP ?_) | (refine wpList_load_mid rfl 40 _ rfl (w.heap.size+1+1) 0 rfl _ _ RGS.out Tryz.underlying40 rfl eC ?_) | fail)
 clear RGP RGT RGS
 refine RN1.out.mono ?_
 rintro e w6 ⟨ocs1,rfl,hout',kk⟩
 have hout1:=hout' w6 (fun _ _ _=>rfl) (Nat.le_refl _)
 have K6:=btZ K5 kk
 have KK1:=hI kk
 have ROWP6:=rkZ ROWP5 kk
 have ROWT6:=rkZ ROWT5 kk
 have ROWS6:=rkZ ROWS5 kk
 obtain⟨c,s,x,tv,en,sa,rfl,hc,hsh,htx,hth',hen,hsa,-⟩:=id hout1
 obtain⟨CO1,co1,rfl,-⟩:=id hc
 obtain⟨SO1,so1,rfl,-⟩:=id hsh
 obtain⟨XO1,xo1,rfl,-⟩:=id htx
 obtain⟨TO1,uo1,rfl,-⟩:=id hth'
 obtain⟨EO1,eo1,rfl,-⟩:=id hen
 obtain⟨AO1,ao1,rfl,-⟩:=id hsa
 have HTH1:=hI hth'
 clear hc hsh htx hth' hen hsa
 have HOUT1:=hI hout1
 clear kk hout1 hout'
 obtain⟨w7,hw7⟩:∃ww,ww=w6.alloc (.cells #[.slice CO1 out1.cells.length co1,.slice SO1 out1.shapes.length so1,.slice XO1 out1.texts.length xo1,.slice TO1 out1.threads.length uo1,.slice EO1 out1.ends.length eo1,.slice AO1 out1.said.length ao1,.int .i64 out1.asked,.int .i64 out1.steps] 40):=⟨_,rfl⟩
 have KB1:Hid (Below w6.heap.size w6 w7):=by rw[hw7];exact aB _ _
 have ROWO17:=hI (agF hw7)
 have K7:=btZ K6 KB1.out
 have ROWP7:=rkZ ROWP6 KB1.out
 have ROWT7:=rkZ ROWT6 KB1.out
 have ROWS7:=rkZ ROWS6 KB1.out
 have HW7:=hI hw7
 clear hw7
 have K57:=btZ KK1 KB1.out
 have K47:=btZ KB K57.out
 have ROWO7:=rkZ ROWO5 K57.out
 have hee:=HR1.out.symm.trans HX1.out
 injection hee with q1 hee
 injection hee with q2 hee
 injection hee with q3 q4
 subst q1 q2 q3 q4
 go_upto_region 8 with fail
 rw[←HW7.out]
 by_cases c:0≤exit1
 ·obtain⟨e1,e2,e3⟩:=HX2.out c
  have E3:=hI e3
  subst e1 e2
  clear e3
  obtain⟨q,rfl⟩:∃q:Nat,exit1=(q:Int):=⟨exit1.toNat,by omega⟩
  have SAM:=hI (aeY _ _ _ w7 (afQ (HOUT1.out.below KB1.out) E3.out) (HOUT.out.below K47.out))
  have RGO1:=rrZ ROWO17
  have RGO:=rrZ ROWO7
  go_wp2_with (first | (refine b8 40 _ rfl rfl w6.heap.size 0 rfl _ _ RGO1.out Tryz.underlying40 rfl eC ?_) | (refine b8 40 _ rfl rfl w4.heap.size 0 rfl _ _ RGO.out Tryz.underlying40 rfl eC ?_) | fail)
  refine SAM.out.mono ?_
  rintro e w8 ⟨rfl,kk⟩
  have K8:=btZ K7 kk
  clear kk RGO1 RGO
  go_wp2_with fail
  refine(irred_c w8).mono ?_
  rintro e w9 ⟨rfl,kk⟩
  have K9:=btZ K8 kk
  clear kk
  go_wp2_with fail
  go_ret
  exact⟨rfl,K9.out⟩
 obtain⟨k,hk,hmk⟩:=HX3.out (by omega)
 have HK:=hI hk
 have cb:decide (0≤exit1)=false:=decide_eq_false c
 obtain⟨s,hs⟩:∃s,wZ p out1=s:=⟨_,rfl⟩
 have SCK:=hI (acD _ _ p out1 w7 (HP0.out.below K7.out) (HOUT1.out.below KB1.out) (T0.out.below K7.out))
 have hs':dG aG p out1 cC (bH p)=s:=hs
 rw[hs'] at SCK
 have HS9:=hI hs
 have HMK:=hI hmk
 clear hs hs' hk hmk
 have RGP:=rrZ ROWP7
 have RGO1:=rrZ ROWO17
 go_wp2_with (first | (refine wpList_load_mid rfl 26 _ rfl w.heap.size 0 rfl _ _ RGP.out Tryz.underlying26 rfl zF ?_) | (refine wpList_load_mid rfl 40 _ rfl w6.heap.size 0 rfl _ _ RGO1.out Tryz.underlying40 rfl eC ?_) | fail)
 clear RGP RGO1
 refine SCK.out.mono ?_
 rintro e w8 ⟨rfl,kk⟩
 have K8:=btZ K7 kk
 have K48:=btZ K47 kk
 have K68:=btZ KB1 kk
 have ROWP8:=rkZ ROWP7 kk
 have ROWT8:=rkZ ROWT7 kk
 have ROWO8:=rkZ ROWO7 kk
 have ROWO18:=rkZ ROWO17 kk
 clear kk
 by_cases hse:s=0
 case neg=>
  have hb:(s != 0)=true:=bne_iff_ne.2 hse
  clear hse
  go_wp2_with fail
  refine(irred_c w8).mono ?_
  rintro e w9 ⟨rfl,kk⟩
  have K9:=btZ K8 kk
  clear kk
  go_wp2_with fail
  go_ret
  exact⟨rfl,K9.out⟩
 subst hse
 obtain⟨r2,hr2⟩:∃r,mY cJ (acT p t) (wZ p out1) t out1 th (m0:Int)=r:=⟨_,rfl⟩
 have RN2:=hI (irun_c _ _ _ p t out1 th (m0:Int) w8 (HP0.out.below K8.out) (HT0.out.below K8.out) (HOUT1.out.below K68.out) wth (by unfold wfi;omega) (T0.out.below K8.out))
 rw[hr2] at RN2
 obtain⟨out2,exit2,n2,err2⟩:=r2
 have HR2:=hI hr2
 unfold aeG at RN2
 dsimp only at RN2
 clear hr2
 have RGP:=rrZ ROWP8
 have RGT:=rrZ ROWT8
 have RGO1:=rrZ ROWO18
 go_wp2_with (first | (refine wpList_load_mid rfl 26 _ rfl w.heap.size 0 rfl _ _ RGP.out Tryz.underlying26 rfl zF ?_) | (refine wpList_load_mid rfl 34 _ rfl (w.heap.size+1) 0 rfl _ _ RGT.out Tryz.underlying34 rfl rP ?_) | (refine wpList_load_mid rfl 40 _ rfl w6.heap.size 0 rfl _ _ RGO1.out Tryz.underlying40 rfl eC ?_) | fail)
 clear RGP RGT RGO1
 refine RN2.out.mono ?_
 rintro e w9 ⟨ocs2,rfl,hout',kk⟩
 have hout2:=hout' w9 (fun _ _ _=>rfl) (Nat.le_refl _)
 have K9:=btZ K8 kk
 have KK2:=hI kk
 have ROWP9:=rkZ ROWP8 kk
 have ROWT9:=rkZ ROWT8 kk
 obtain⟨c,s,x,tv,en,sa,rfl,hc,hsh,htx,hth',hen,hsa,-⟩:=id hout2
 obtain⟨CO2,co2,rfl,-⟩:=id hc
 obtain⟨SO2,so2,rfl,-⟩:=id hsh
 obtain⟨XO2,xo2,rfl,-⟩:=id htx
 obtain⟨TO2,uo2,rfl,-⟩:=id hth'
 obtain⟨EO2,eo2,rfl,-⟩:=id hen
 obtain⟨AO2,ao2,rfl,-⟩:=id hsa
 have HTH2:=hI hth'
 clear hc hsh htx hth' hen hsa
 have HOUT2:=hI hout2
 clear kk hout2 hout'
 obtain⟨w10,hw10⟩:∃ww,ww=w9.alloc (.cells #[.slice CO2 out2.cells.length co2,.slice SO2 out2.shapes.length so2,.slice XO2 out2.texts.length xo2,.slice TO2 out2.threads.length uo2,.slice EO2 out2.ends.length eo2,.slice AO2 out2.said.length ao2,.int .i64 out2.asked,.int .i64 out2.steps] 40):=⟨_,rfl⟩
 have KB2:Hid (Below w9.heap.size w9 w10):=by rw[hw10];exact aB _ _
 have ROWO210:=hI (agF hw10)
 have K10:=btZ K9 KB2.out
 have ROWP10:=rkZ ROWP9 KB2.out
 have ROWT10:=rkZ ROWT9 KB2.out
 have HW10:=hI hw10
 clear hw10
 have K810:=btZ KK2 KB2.out
 have K410:=btZ K48 K810.out
 have ROWO10:=rkZ ROWO8 K810.out
 have hee:=HR2.out
 rw[HS9.out] at hee
 have hee:=hee.symm.trans HK.out
 injection hee with q1 hee
 injection hee with q2 hee
 injection hee with q3 q4
 have Q1:=hI q1
 clear q1
 subst q2 q3 q4
 have hmk:=HMK.out
 subst hmk
 have hwr:wrap64 (n1+n2)=n1+n2:=by unfold wrap64;omega
 go_upto_region 15 with fail
 rw[←HW10.out]
 go_wp2_with fail
 refine(irred_c w10).mono ?_
 rintro e w11 ⟨rfl,kk⟩
 have K11:=btZ K10 kk
 have ROWO11:=rkZ ROWO10 kk
 have ROWO211:=rkZ ROWO210 kk
 have SAM:=hI (aeY _ _ _ w11 (afQ (HOUT2.out.below (KB2.out.trans (kk.mono KB2.out.size))) Q1.out) (HOUT.out.below (K410.out.trans (kk.mono K410.out.size))))
 have RGO2:=rrZ ROWO211
 have RGO:=rrZ ROWO11
 clear kk
 go_wp2_with (first | (refine b8 40 _ rfl rfl w9.heap.size 0 rfl _ _ RGO2.out Tryz.underlying40 rfl eC ?_) | (refine b8 40 _ rfl rfl w4.heap.size 0 rfl _ _ RGO.out Tryz.underlying40 rfl eC ?_) | fail)
 refine SAM.out.mono ?_
 rintro e w12 ⟨rfl,kk⟩
 have K12:=btZ K11 kk
 clear kk RGO2 RGO
 go_wp2_with fail
 go_ret
 exact⟨rfl,K12.out⟩
end
end Go.Proofs.YtjaphgpkkfdaaaaGreatDoor
