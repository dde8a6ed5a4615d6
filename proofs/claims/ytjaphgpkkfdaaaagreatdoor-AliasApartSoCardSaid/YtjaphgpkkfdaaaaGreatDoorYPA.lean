/- Part of the walk of the given code: what a turn tells, and plain laws on it. -/
import Derived.Test.YtjaphgpkkfdaaaaGreatDoorZBB
import Derived.Test.YtjaphgpkkfdaaaaGreatDoorZM
import Derived.Test.YtjaphgpkkfdaaaaGreatDoorZU
set_option maxHeartbeats 16000000
set_option maxRecDepth 100000
set_option linter.all false
namespace Go.Proofs.YtjaphgpkkfdaaaaGreatDoor
section
structure afL (t:aN) (d:Int) (k:Nat) (w w':aI):Prop where
 cells:w'.cells=w.cells
 regs:w'.regs=w.regs
 at_:w'.at_=w.at_
 steps:w'.steps=w.steps+d
 len:w'.vals.length=w.vals.length
 full:w.vals.length=t.ins.length
 vals:∀v:Nat,v<k→iC (jE t v).op=true→w'.vals[v]? = w.vals[v]?
def afV (t:aN):Prop:=∀(k:Nat) (x:bG),t.ins[k]? = some x→∀v∈iU x,0≤v∧v<k∧iC (jE t v).op=true
theorem afL.val {t:aN} {d:Int} {k:Nat} {w w':aI} (h:afL t d k w w') {v:Int} (h0:0≤v) (h1:v<k) (h2:iC (jE t v).op=true):cX w' v=cX w v:=by
 obtain⟨n,rfl⟩:=Int.eq_ofNat_of_zero_le h0
 exact uH (h.vals n (by omega) h2)
theorem afL.cell {t:aN} {d:Int} {k:Nat} {w w':aI} (h:afL t d k w w') {v:Int} (h0:0≤v) (h1:v<k) (h2:iC (jE t v).op=true):eF w' v=eF w v:=by
 unfold eF
 rw[h.val h0 h1 h2,h.cells]
structure afO (t:aN) (d:Int) (i:Nat) (r r':aI×Int):Prop where
 how:r'.2=r.2
 keep:afL t d i r.1 r'.1
 next:r.2=0→afL t d (i+1) r.1 r'.1
section
variable {t:aN} {d:Int} {i:Nat} {w w':aI}
theorem afL.stay (h:afL t d i w w') (hq:iC (jE t i).op=false) (how:Int):afO t d i (w,how) (w',how):=
 ⟨rfl,h,fun _=>⟨h.cells,h.regs,h.at_,h.steps,h.len,h.full,fun v hv ht=>by
  by_cases e:v=i
  ·subst e;rw[hq] at ht;cases ht
  ·exact h.vals v (by omega) ht⟩⟩
theorem afL.no (h:afL t d i w w') {how:Int} (hh:how≠0):afO t d i (w,how) (w',how):=⟨rfl,h,fun e=>absurd e hh⟩
theorem afL.setV (h:afL t d i w w') (hi:i<t.ins.length) (v:Val):afL t d (i+1) (fS w i v) (fS w' i v):=
 ⟨h.cells,h.regs,h.at_,h.steps,by simp[fS,h.len],by simp[fS,h.full],fun u hu ht=>by
  show(w'.vals.set i v)[u]? = (w.vals.set i v)[u]?
  by_cases e:u=i
  ·subst e
   rw[List.getElem?_set_self (by rw[h.len,h.full];exact hi),List.getElem?_set_self (by rw[h.full];exact hi)]
  ·rw[List.getElem?_set_ne (Ne.symm e),List.getElem?_set_ne (Ne.symm e)]
   exact h.vals u (by omega) ht⟩
theorem afL.less {k k':Nat} (h:afL t d k w w') (hk:k'≤k):afL t d k' w w':=⟨h.cells,h.regs,h.at_,h.steps,h.len,h.full,fun v hv ht=>h.vals v (by omega) ht⟩
theorem afL.tell (h:afL t d i w w') (hi:i<t.ins.length) (v:Val) (how:Int):afO t d i (fS w i v,how) (fS w' i v,how):=⟨rfl,(h.setV hi v).less (by omega),fun _=>h.setV hi v⟩
theorem afL.setC (h:afL t d i w w') (n:Nat) (c:bC):afL t d i (setCW w n c) (setCW w' n c):=
 ⟨by show w'.cells.set n c=w.cells.set n c;rw[h.cells],h.regs,h.at_,h.steps,h.len,h.full,h.vals⟩
theorem afL.fresh (h:afL t d i w w') (hi:i<t.ins.length) (k:Int):afO t d i (dX w i k) (dX w' i k):=by
 unfold dX
 rw[h.cells]
 split
 ·exact h.no (by decide)
 ·have h1:=h.setV hi ⟨5,w.cells.length⟩
  have h2:afL t d (i+1) { w with vals:=w.vals.set i ⟨5,w.cells.length⟩,cells:=w.cells++[⟨k,0,[],[]⟩] } { w' with vals:=w'.vals.set i ⟨5,w.cells.length⟩,cells:=w.cells++[⟨k,0,[],[]⟩] }:=
   ⟨rfl,h1.regs,h1.at_,h1.steps,h1.len,h1.full,h1.vals⟩
  exact⟨rfl,h2.less (by omega),fun _=>h2⟩
end
structure afN (t:aN) (x:cW) (k:Nat):Prop where
 sets:∀s∈x.sets,0≤s.val∧s.val<k∧iC (jE t s.val).op=true
 makes:∀m∈x.makes,(0≤m.cell∧m.cell<k∧iC (jE t m.cell).op=true)∧∀v∈m.vals,0≤v∧v<k∧iC (jE t v).op=true
section
variable {t:aN} {d:Int} {k:Nat}
structure afM (t:aN):Prop where
 ask:afV t
 ops:∀(i:Nat) x,t.ins[i]? = some x→lU x.op=true
 exits:∀(i:Nat) x e,t.ins[i]? = some x→0≤x.exit→t.exits[x.exit.toNat]? = some e→afN t e i
 back:afN t t.back t.ins.length
end
end
section
end
section
structure agP (E:hV) (t:aN) (w:aI) (v:Nat):Prop where
 const:(jE t v).op=2→cX w v=(jE t v).k
 count:(jE t v).op=15→(cX w v).kind=2
 new:(jE t v).op=16∨(jE t v).op=18→(cX w v).kind=5
 bin:(jE t v).op=7→cX w v=(E.B (jE t v).n (cX w (jE t v).a) (cX w (jE t v).b)).1∧(E.B (jE t v).n (cX w (jE t v).a) (cX w (jE t v).b)).2<0
 un:(jE t v).op=8→cX w v=(E.U (jE t v).n (cX w (jE t v).a)).1∧(E.U (jE t v).n (cX w (jE t v).a)).2<0
 is_:(jE t v).op=4→(cX w (jE t v).a).kind=(jE t v).n
 same:(jE t v).op=6→cX w (jE t v).a=(jE t v).k
 cell:(jE t v).op=9→(cX w (jE t v).a).kind=5
theorem agQ {w:aI} {i:Nat} (hi:i<w.vals.length) (v:Val):cX (fS w i v) (i:Int)=v:=by
 unfold cX fS
 rw[show(i:Int).toNat=i from rfl,List.getElem?_set_self hi];rfl
structure ahP (E:hV):Prop where
 not_:∀a,(E.U 11 a).1.kind=1
 neg:∀n a,n≠11→(E.U n a).2<0→(E.U n a).1.kind=a.kind
 cmp:∀n a b,8≤n→n≤10→(E.B n a b).2<0→(E.B n a b).1.kind=1
 arith:∀n a b,n<8→(E.B n a b).2<0→(E.B n a b).1.kind=a.kind
def agX (t:aN) (vals:List Int):aN:={ t with back:=⟨t.at_,1,(List.range vals.length).map (fun i:Nat=>⟨(i:Int),vals.getD i 0⟩),[]⟩ }
theorem aiP {t:aN} {a b:Int} (w:aI):(iG w (agX t [a,b]).back).1.regs=(w.regs.set 0 (cX w a)).set 1 (cX w b):=rfl
end
section
theorem ag9 (b:Nat):(ofM b).kind=3:=by unfold ofM;split <;> rfl
theorem agJ (b:Bool):(cP b).kind=1:=by cases b <;> rfl
theorem agR (o:BinOp) (x y:Nat):(ofB o x y).kind=3:=by
 unfold ofB
 split
 ·exact ag9 _
 ·rfl
end
section
def Lt (n:Nat) (v:Val):Prop:=v.kind=5→v.n<(n:Int)
theorem Lt.mono {n m:Nat} {v:Val} (h:Lt n v) (hm:n≤m):Lt m v:=fun c=>by have:=h c;omega
theorem aiD (n:Nat):Lt n ⟨0,0⟩:=fun c=>absurd (show(0:Int)=5 from c) (by decide)
theorem ahY {n:Nat} {l:List Val} (h:∀v∈l,Lt n v) (i:Nat):Lt n ((l[i]?).getD ⟨0,0⟩):=by
 cases e:l[i]? with
 | none=>exact aiD n
 | some v=>exact h v (List.mem_of_getElem? e)
theorem aiE {n:Nat} {l:List Val} {u:Val} (h:∀v∈l,Lt n v) (hu:Lt n u):∀v∈l++[u],Lt n v:=fun v hv=>by
 rcases List.mem_append.1 hv with hv | hv
 ·exact h v hv
 ·rw[List.mem_singleton.1 hv];exact hu
theorem ah9 {n:Nat} {l:List Val} {u:Val} (h:∀v∈l,Lt n v) (i:Nat) (hu:Lt n u):∀v∈l.set i u,Lt n v:=fun v hv=>by
 rcases List.mem_or_eq_of_mem_set hv with hv | hv
 ·exact h v hv
 ·rw[hv];exact hu
structure ahR (w:aI):Prop where
 cells:∀c∈w.cells,∀v∈c.vals,Lt w.cells.length v
 vals:∀v∈w.vals,Lt w.cells.length v
 regs:∀v∈w.regs,Lt w.cells.length v
theorem ahR.val {w:aI} (h:ahR w) (v:Int):Lt w.cells.length (cX w v):=ahY h.vals _
theorem ahS {w:aI} (h:ahR w) (i:Nat) {v:Val} (hv:Lt w.cells.length v):ahR (fS w i v):=⟨h.cells,ah9 h.vals i hv,h.regs⟩
theorem ahV {w:aI} (h:ahR w) (n:Nat) {d:bC} (hd:∀v∈d.vals,Lt w.cells.length v):ahR (setCW w n d):=by
 have hl:(setCW w n d).cells.length=w.cells.length:=by simp[setCW]
 refine⟨fun c hc=>?_,fun v hv=>?_,fun v hv=>?_⟩
 ·rw[hl]
  rcases List.mem_or_eq_of_mem_set hc with hc | hc
  ·exact h.cells c hc
  ·rw[hc];exact hd
 ·rw[hl];exact h.vals v hv
 ·rw[hl];exact h.regs v hv
theorem ahX {w:aI} (h:ahR w) {v:Int} {n:Nat} {c:bC} (hc:eF w v=some (n,c)):∀u∈c.vals,Lt w.cells.length u:=h.cells c (List.mem_of_getElem? (sE hc).1)
theorem ah3 {w:aI} (h:ahR w) (i:Nat) (k:Int):ahR (dX w i k).1:=by
 unfold dX
 split
 ·exact h
 ·have hl:(w.cells++[(⟨k,0,[],[]⟩:bC)]).length=w.cells.length+1:=by simp
  refine⟨fun c hc v hv=>?_,fun v hv=>?_,fun v hv=>?_⟩
  ·show Lt (w.cells++[(⟨k,0,[],[]⟩:bC)]).length v
   rcases List.mem_append.1 hc with hc | hc
   ·exact(h.cells c hc v hv).mono (by omega)
   ·rw[List.mem_singleton.1 hc] at hv;simp at hv
  ·show Lt (w.cells++[(⟨k,0,[],[]⟩:bC)]).length v
   rcases List.mem_or_eq_of_mem_set hv with hv | hv
   ·exact(h.vals v hv).mono (by omega)
   ·rw[hv];intro _
    show(w.cells.length:Int)<_
    omega
  ·show Lt (w.cells++[(⟨k,0,[],[]⟩:bC)]).length v
   exact(h.regs v hv).mono (by omega)
theorem aiI {w:aI} (h:ahR w) (i:Nat) (x:bG):ahR (gW w i x).1:=by
 unfold gW
 cases hc:eF w x.a with
 | none=>exact h
 | some nc=>
  obtain⟨n,c⟩:=nc
  have hv:=ahX h hc
  dsimp only
  refine bU (fun r:aI×Int=>ahR r.1) (fun _=>h) fun _=>?_
  refine bU (fun r:aI×Int=>ahR r.1) (fun _=>ahS h i (ahY hv _)) fun _=>?_
  exact bU (fun r:aI×Int=>ahR r.1) (fun _=>ahV h n (ah9 hv _ (h.val _))) fun _=>ahS h i (fun c=>absurd (show(2:Int)=5 from c) (by decide))
theorem aiL {w:aI} (h:ahR w) (sh:List aT) (x:bG):ahR (jT sh w x).1:=by
 unfold jT
 cases hc:eF w x.a with
 | none=>exact h
 | some nc=>
  obtain⟨n,c⟩:=nc
  have hv:=ahX h hc
  dsimp only
  refine bU (fun r:aI×Int=>ahR r.1) (fun _=>h) fun _=>?_
  cases sh[x.n.toNat]? with
  | none=>exact h
  | some s=>exact bU (fun r:aI×Int=>ahR r.1) (fun _=>h) fun _=>ahV h n (aiE hv (h.val _))
theorem aiJ {w:aI} (h:ahR w) (x:bG):ahR (iT w x).1:=by
 unfold iT
 cases hc:eF w x.a with
 | none=>exact h
 | some nc=>
  obtain⟨n,c⟩:=nc
  have hv:=ahX h hc
  dsimp only
  refine bU (fun r:aI×Int=>ahR r.1) (fun _=>h) fun _=>?_
  refine bU (fun r:aI×Int=>ahR r.1) (fun _=>ahV h n (aiE hv (h.val _))) fun _=>?_
  exact bU (fun r:aI×Int=>ahR r.1) (fun _=>h) fun _=>h
theorem aiK {w:aI} (h:ahR w) (i:Nat) (x:bG):ahR (lP w i x).1:=by
 unfold lP
 cases hc:eF w x.a with
 | none=>exact h
 | some nc=>
  obtain⟨n,c⟩:=nc
  have hv:=ahX h hc
  dsimp only
  refine bU (fun r:aI×Int=>ahR r.1) (fun _=>h) fun _=>?_
  refine bU (fun r:aI×Int=>ahR r.1) (fun _=>h) fun _=>?_
  exact bU (fun r:aI×Int=>ahR r.1) (fun _=>ahS h i (ahY hv _)) fun _=>ahV h n (ah9 hv _ (h.val _))
structure aiG (E:hV):Prop where
 un:∀n a,(E.U n a).1.kind≠5
 bin:∀n a b,(E.B n a b).1.kind≠5
theorem sane_do {w:aI} (h:ahR w) {E:hV} (nr:aiG E) {self:Val} (hs:Lt w.cells.length self) (sh:List aT) (i:Nat) (x:bG) (hk:x.op=2→x.k.kind≠5):ahR (doI E self sh w i x).1:=by
 unfold doI
 refine bU (fun r:aI×Int=>ahR r.1) (fun _=>ahS h i (ahY h.regs _)) fun _=>?_
 refine bU (fun r:aI×Int=>ahR r.1) (fun e=>ahS h i (fun c=>absurd c (hk e))) fun _=>?_
 refine bU (fun r:aI×Int=>ahR r.1) (fun _=>ahS h i hs) fun _=>?_
 refine bU (fun r:aI×Int=>ahR r.1) (fun _=>h) fun _=>?_
 refine bU (fun r:aI×Int=>ahR r.1) (fun _=>ahS h i (fun c=>absurd c (nr.bin _ _ _))) fun _=>?_
 refine bU (fun r:aI×Int=>ahR r.1) (fun _=>ahS h i (fun c=>absurd c (nr.un _ _))) fun _=>?_
 refine bU (fun r:aI×Int=>ahR r.1) (fun _=>aiI h _ _) fun _=>?_
 refine bU (fun r:aI×Int=>ahR r.1) (fun _=>aiL h _ _) fun _=>?_
 refine bU (fun r:aI×Int=>ahR r.1) (fun _=>aiK h _ _) fun _=>?_
 refine bU (fun r:aI×Int=>ahR r.1) (fun _=>ah3 h _ _) fun _=>?_
 refine bU (fun r:aI×Int=>ahR r.1) (fun _=>aiJ h _) fun _=>?_
 exact bU (fun r:aI×Int=>ahR r.1) (fun _=>h) fun _=>ah3 h _ _
structure aiT (n0:Nat) (t:aN) (w:aI) (v:Nat):Prop where
 new:(jE t v).op=16∨(jE t v).op=18→(n0:Int)≤(cX w v).n∧(cX w v).kind=5∧∀u:Nat,u<v→cX w u≠cX w v
 old:((jE t v).op=1∨(jE t v).op=2)∨(jE t v).op=3→Lt n0 (cX w v)
structure InvR (n0:Nat) (t:aN) (i:Nat) (w:aI):Prop where
 sane:ahR w
 len:w.vals.length=t.ins.length
 big:n0≤w.cells.length
 regs:∀v∈w.regs,Lt n0 v
 all:∀v<i,aiT n0 t w v
def KOk (t:aN):Prop:=∀i:Nat,(jE t i).op=2→(jE t i).k.kind≠5
theorem check_k {aG:Val→Bool} {ce:Int} {fns:List FnM} {t:aN} (h:fA aG ce fns t=0):KOk t:=fun i=>by
 unfold jE
 rw[show(i:Int).toNat=i from rfl]
 cases hx:t.ins[i]? with
 | none=>intro c;exact absurd (show(0:Int)=2 from c) (by decide)
 | some x=>
  intro c e
  obtain⟨_,fn,h1⟩:=nX h
  obtain⟨_,h2⟩:=fQ t.ins 0 h1 i x hx
  simp only[eY,Bool.and_eq_true,Bool.not_eq_true',Bool.or_eq_false_iff] at h2
  have h3:=h2.1.2.2
  rw[show x.op=2 from c,show x.k.kind=5 from e] at h3
  exact absurd h3 (by decide)
theorem inv_ref {n0:Nat} {t:aN} (kk:KOk t) {E:hV} (nr:aiG E) {self:Val} (hs:Lt n0 self) (sh:List aT) {i:Nat} {w:aI} (hi:i<t.ins.length) (h:InvR n0 t i w) (h0:(doW E t self sh w i).2=0):InvR n0 t (i+1) (doW E t self sh w i).1:=by
 have hst:=sB w.cells E self sh w i (jE t i)
 change fH w.cells i w (doW E t self sh w i).1 at hst
 have hfr:=sA E t self sh w i
 have hw:i<w.vals.length:=by rw[h.len];exact hi
 have hv:∀u:Nat,u≠i→cX (doW E t self sh w i).1 (u:Int)=cX w u:=fun u hu=>uH (hst.vals u hu)
 refine⟨sane_do h.sane nr (hs.mono h.big) sh i _ (kk i),hst.len.trans h.len,Nat.le_trans h.big (hst.keep (.refl _)).len,by rw[hfr.regs];exact h.regs,fun v hvi=>?_⟩
 by_cases e:v=i
 case neg=>
  have F:=h.all v (by omega)
  refine⟨fun c=>?_,fun c=>?_⟩
  ·obtain⟨a,b,d⟩:=F.new c
   rw[hv v e]
   exact⟨a,b,fun u hu=>by rw[hv u (by omega)];exact d u hu⟩
  ·rw[hv v e];exact F.old c
 subst e
 refine⟨fun c=>?_,fun c=>?_⟩
 ·have hf:∀k,(dX w v k).2=0→cX (dX w v k).1 (v:Int)=⟨5,w.cells.length⟩:=fun k hk=>by
   unfold dX at hk ⊢
   split at hk
   ·cases hk
   ·rename_i hc
    rw[if_neg hc]
    unfold cX
    rw[show(v:Int).toNat=v from rfl,List.getElem?_set_self hw];rfl
  have e5:cX (doW E t self sh w v).1 (v:Int)=⟨5,w.cells.length⟩:=by
   rcases c with c | c
   ·have e:doW E t self sh w v=dX w v (jE t v).n:=by
     unfold doW doI
     rw[if_neg (by omega),if_neg (by omega),if_neg (by omega),if_neg (by omega),if_neg (by omega),if_neg (by omega),if_neg (by omega),if_neg (by omega),if_neg (by omega),if_pos c]
    rw[e] at h0 ⊢;exact hf _ h0
   ·have e:doW E t self sh w v=dX w v 0:=by
     unfold doW doI
     rw[if_neg (by omega),if_neg (by omega),if_neg (by omega),if_neg (by omega),if_neg (by omega),if_neg (by omega),if_neg (by omega),if_neg (by omega),if_neg (by omega),if_neg (by omega),if_neg (by omega),if_neg (by omega)]
    rw[e] at h0 ⊢;exact hf _ h0
  rw[e5]
  refine⟨by have:=h.big;show(n0:Int)≤(w.cells.length:Int);omega,rfl,fun u hu q=>?_⟩
  rw[hv u (by omega)] at q
  have:=h.sane.val u (by rw[q])
  rw[q] at this
  exact absurd (show(w.cells.length:Int)<w.cells.length from this) (by omega)
 ·rcases c with (c | c) | c
  ·have e:doW E t self sh w v=(fS w v (w.regs.getD (jE t v).n.toNat ⟨0,0⟩),0):=by
    unfold doW doI
    rw[if_pos c]
   rw[e,show cX (fS w v (w.regs.getD (jE t v).n.toNat ⟨0,0⟩),(0:Int)).1 (v:Int)=_ from agQ hw _]
   exact ahY h.regs _
  ·have e:doW E t self sh w v=(fS w v (jE t v).k,0):=by
    unfold doW doI
    rw[if_neg (by omega),if_pos c]
   rw[e,show cX (fS w v (jE t v).k,(0:Int)).1 (v:Int)=_ from agQ hw _]
   exact fun q=>absurd q (kk v c)
  ·have e:doW E t self sh w v=(fS w v self,0):=by
    unfold doW doI
    rw[if_neg (by omega),if_neg (by omega),if_pos c]
   rw[e,show cX (fS w v self,(0:Int)).1 (v:Int)=_ from agQ hw _]
   exact hs
theorem ah6 (E:hV) {t:aN} (hx:jA t) (self:Val) (shapes:List aT) (fin:cW) {P:Nat→aI→Prop} (step:∀(i:Nat) (w:aI),i<t.ins.length→P i w→(doW E t self shapes w i).2=0→P (i+1) (doW E t self shapes w i).1) :
  ∀(n i:Nat) (w:aI),i+n=t.ins.length→P i w→(dM E t self shapes fin n i w).2.2≠2→(dM E t self shapes fin n i w).2.1 = -1→∃w',(dM E t self shapes fin n i w).1=(iG w' fin).1∧w'.regs=w.regs∧P t.ins.length w'
 | 0,i,w,hn,hf,_,_=>⟨w,rfl,rfl,by rw[←hn];exact hf⟩
 | n+1,i,w,hn,hf,h2,h1=>by
  have hfr:=sA E t self shapes w i
  unfold dM at h1 h2 ⊢
  split at h2
  ·exact absurd rfl h2
  rename_i c2
  rw[if_neg c2] at h1 ⊢
  split at h2
  ·rename_i c1
   rw[if_pos c1] at h1
   have hl':=u0 E hx self shapes w (show i<t.ins.length by omega) c1
   exfalso
   split at h1
   ·dsimp only at h1;omega
   ·dsimp only at h1;omega
  ·rename_i c1
   rw[if_neg c1] at h1 ⊢
   have h0:(doW E t self shapes w i).2=0:=by
    rcases adJ E self shapes w i (jE t i) with c | c | c
    ·exact c
    ·exact absurd c c1
    ·exact absurd c c2
   obtain⟨w',g1,g3,g4⟩:=ah6 E hx self shapes fin step n (i+1) _ (by omega) (step i w (by omega) hf h0) h2 h1
   exact⟨w',g1,g3.trans hfr.regs,g4⟩
theorem aiQ {E:hV} {irc stc:Int} {t:aN} {S out:aR} {th exit n:Int} (hx:jA t) (hl:t.loop=0) (h:mY E irc stc t S th 1=(out,exit,n,0)) (hneg:exit<0) {P:a8→Nat→aI→Prop}
  (first:∀hd f,S.threads[th.toNat]? = some hd→hd.frames.getLast? = some f→P f 0 (cL t S f))
  (step:∀(f:a8) (i:Nat) (w:aI),i<t.ins.length→P f i w→(doW E t f.self S.shapes w i).2=0→P f (i+1) (doW E t f.self S.shapes w i).1) :
  0≤th∧∃hd f w' hd' f',S.threads[th.toNat]? = some hd∧hd.frames.getLast? = some f∧w'.regs=f.regs∧P f t.ins.length w'∧
   out.threads[th.toNat]? = some hd'∧hd'.frames.getLast? = some f'∧f'.regs=(iG w' t.back).1.regs:=by
 obtain⟨-,-,h0,-,-,hd,f,h1,h2,-,-,-,hw,-,e1,e2,e3⟩:=uN h
 have hrun:bQ E t f.self S.shapes (1:Int).toNat 0 (cL t S f)=bQ E t f.self S.shapes (0+1) 0 (cL t S f):=rfl
 rw[hrun] at hw e1 e2 e3
 obtain⟨hd',b1,-,b2⟩:=uC h1 h2 (bQ E t f.self S.shapes (0+1) 0 (cL t S f)).1
 unfold bQ at hw e1 e2 e3 b1 b2
 by_cases c:(dN E t f.self S.shapes 0 (cL t S f)).2.2=2∨0≤(dN E t f.self S.shapes 0 (cL t S f)).2.1
 ·simp only[if_pos c] at hw e2
  rcases c with c | c
  ·exact absurd c hw
  ·omega
 ·simp only[if_neg c] at e1 b1 b2
  have ho:dN E t f.self S.shapes 0 (cL t S f)=dM E t f.self S.shapes t.back (t.ins.length - t.loop.toNat) t.loop.toNat (cL t S f):=by
   unfold dN;rw[if_neg (by omega)]
  rw[ho,hl] at c e1 b1 b2
  have hm1:(dM E t f.self S.shapes t.back (t.ins.length - (0:Int).toNat) (0:Int).toNat (cL t S f)).2.1 = -1:=by
   obtain⟨x,g1,-⟩:=iB E hx f.self S.shapes t.back (t.ins.length - (0:Int).toNat) (0:Int).toNat (cL t S f) (by simp) (fun e=>c (.inl e))
   rcases g1 with ⟨g,_⟩ | ⟨g,_⟩
   ·exact g
   ·exact absurd (.inr g) c
  obtain⟨w',g1,g3,g4⟩:=ah6 E hx f.self S.shapes t.back (P:=P f) (step f) (t.ins.length - (0:Int).toNat) (0:Int).toNat (cL t S f) (by simp) (first hd f h1 h2) (fun e=>c (.inl e)) hm1
  refine⟨h0,hd,f,w',hd',_,h1,h2,g3,g4,by rw[e1];exact b1,b2,?_⟩
  show(dM E t f.self S.shapes t.back (t.ins.length - (0:Int).toNat) (0:Int).toNat (cL t S f)).1.regs=_
  rw[g1]
structure FitS (S:aR):Prop where
 cells:∀c∈S.cells,∀v∈c.vals,Lt S.cells.length v
 frames:∀h∈S.threads,∀f∈h.frames,Lt S.cells.length f.self∧∀v∈f.regs,Lt S.cells.length v
theorem ah0 {n0:Nat} {t:aN} {w:aI} (all:∀v<t.ins.length,aiT n0 t w v) (hl:t.loop=0) {a b:Int} (hab:a≤b) (hk:sG t.ins t.loop a b=true):cX w a≠cX w b:=by
 simp only[sG,Int.min_eq_left hab,Int.max_eq_right hab] at hk
 split at hk
 ·cases hk
 rename_i c
 split at hk
 ·cases hk
 simp only[Bool.or_eq_true,decide_eq_true_eq,beq_iff_eq,not_or] at c
 obtain⟨⟨c1,c2⟩,c3⟩:=c
 obtain⟨na,rfl⟩:=Int.eq_ofNat_of_zero_le (show 0≤a by omega)
 obtain⟨nb,rfl⟩:=Int.eq_ofNat_of_zero_le (show 0≤b by omega)
 have op_:∀n:Nat,n<t.ins.length→((t.ins[(n:Int).toNat]?).map (·.op)).getD 0=(jE t n).op:=fun n hn=>by
  unfold jE
  rw[show(n:Int).toNat=n from rfl,lG hn];rfl
 rw[if_neg (by rw[Bool.and_eq_true,decide_eq_true_eq,decide_eq_true_eq];omega),op_ na (by omega),op_ nb (by omega)] at hk
 simp only[uX,beforeM,Bool.or_eq_true,Bool.and_eq_true,beq_iff_eq] at hk
 rcases hk with hy | ⟨hx,hy⟩
 ·exact((all nb (by omega)).new hy).2.2 na (by omega)
 ·intro e
  obtain⟨N1,N2,-⟩:=(all na (by omega)).new hx
  rw[e] at N1 N2
  have:=(all nb (by omega)).old hy N2
  omega
theorem aiS {n0:Nat} {t:aN} {w:aI} (all:∀v<t.ins.length,aiT n0 t w v) (hl:t.loop=0) {a b:Int} (hk:sG t.ins t.loop a b=true):cX w a≠cX w b:=by
 rcases Int.le_total a b with h | h
 ·exact ah0 all hl h hk
 ·rw[apartM_symm] at hk
  exact fun e=>ah0 all hl h hk e.symm
theorem aiA {E:hV} (nr:aiG E) {irc stc:Int} {t:aN} {S out:aR} {th exit n a b:Int} (hx:jA t) (kk:KOk t) (fit:FitS S) (hl:t.loop=0) (h:mY E irc stc (agX t [a,b]) S th 1=(out,exit,n,0)) (hneg:exit<0) (hk:sG t.ins t.loop a b=true) :
  ∃hd' f',0≤th∧out.threads[th.toNat]? = some hd'∧hd'.frames.getLast? = some f'∧∀x y,f'.regs[0]? = some x→f'.regs[1]? = some y→x≠y:=by
 obtain⟨h0,hd,f,w',hd',f',h1,h2,g3,⟨_,g4⟩,b1,b2,b3⟩:=aiQ (t:=agX t [a,b]) hx hl h hneg (P:=fun f i w=>Lt S.cells.length f.self∧InvR S.cells.length t i w)
  (fun hd f h1 h2=>by
   have F:=fit.frames hd (List.mem_of_getElem? h1) f (List.mem_of_getLast? h2)
   exact⟨F.1,⟨fit.cells,fun v hv=>by rw[List.eq_of_mem_replicate hv];exact aiD _,F.2⟩,by simp[cL,agX],Nat.le_refl _,F.2,fun v hv=>by omega⟩)
  (fun f i w hi hp h00=>⟨hp.1,inv_ref kk nr hp.1 S.shapes hi hp.2 h00⟩)
 refine⟨hd',f',h0,b1,b2,fun x y hxx hyy=>?_⟩
 rw[b3,aiP] at hxx hyy
 have hreg:1<w'.regs.length:=by
  have:=(lE hyy).1
  simpa using this
 rw[List.getElem?_set_self (by simpa using hreg)] at hyy
 rw[List.getElem?_set_ne (by decide),List.getElem?_set_self (by omega)] at hxx
 injection hxx with hxx
 injection hyy with hyy
 rw[←hxx,←hyy]
 exact aiS (t:=t) g4.all hl hk
end
section
theorem aiF {R:Val→Bool} {S:aR} {v:Val} (h:dJ R S v=true):Lt S.cells.length v:=fun c=>by
 simp only[dJ,Bool.and_eq_true] at h
 have h2:=h.2
 rw[if_neg (by omega),if_pos c] at h2
 simp only[Bool.and_eq_true,decide_eq_true_eq] at h2
 exact h2.1
theorem aiR {R:Val→Bool} {p:aW} {S:aR} {f:a8} (h:dB R p S f=true):Lt S.cells.length f.self∧∀v∈f.regs,Lt S.cells.length v:=by
 simp only[dB,Bool.and_eq_true] at h
 refine⟨fun c=>?_,fun v hv=>aiF (List.all_eq_true.1 h.2 v hv)⟩
 have h2:=h.1.1.1.1.1.2
 cases e:bM S f.self 4 with
 | none=>rw[e] at h2;cases h2
 | some x=>
  unfold bM at e
  split at e
  ·cases e
  ·omega
theorem ah2 {R:Val→Bool} {p:aW} {S:aR} : ∀(l:List a8) (low:Option Int) (gens g:List Int),b7 R p S low gens l=some g→∀f∈l,dB R p S f=true
 | [],_,_,_,_,f,hf=>by simp at hf
 | y::r,low,gens,g,h,f,hf=>by
  unfold b7 at h
  dsimp only at h
  split at h
  ·cases h
  rename_i c
  have h0:dB R p S y=true:=by
   cases e:dB R p S y with
   | true=>rfl
   | false=>rw[e] at c;exact absurd (by simp) c
  rcases List.mem_cons.1 hf with rfl | hf
  ·exact h0
  split at h
  ·exact ah2 r _ _ _ h f hf
  ·split at h
   ·cases h
   ·split at h
    ·cases h
    ·exact ah2 r _ _ _ h f hf
theorem aiH {R:Val→Bool} {p:aW} {S:aR} {gens g:List Int} {x:bW} (h:eN R p S gens x=some g):∀f∈x.frames,dB R p S f=true:=by
 unfold eN at h
 dsimp only at h
 split at h
 ·cases h
 split at h
 ·cases h
 split at h
 ·cases h
 split at h
 ·cases h
 exact ah2 _ _ _ _ h
theorem ah1 {R:Val→Bool} {p:aW} {S:aR} : ∀(l:List bW) (gens g:List Int),cE R p S gens l=some g→∀x∈l,∀f∈x.frames,dB R p S f=true
 | [],_,_,_,x,hx=>by simp at hx
 | y::r,gens,g,h,x,hx=>by
  unfold cE at h
  split at h
  ·cases h
  rename_i g' e
  rcases List.mem_cons.1 hx with rfl | hx
  ·exact aiH e
  ·exact ah1 r _ _ h x hx
theorem aiM {R:Val→Bool} {p:aW} {S:aR} {W:List ByteArray} {cc:Int} (h:dG R p S W cc=0):FitS S:=by
 unfold dG at h
 split at h
 ·exact absurd h (by assumption)
 split at h
 ·exact absurd h (by assumption)
 rename_i c1
 split at h
 ·exact absurd h (by decide)
 split at h
 case isFalse=>exact absurd h (by decide)
 rename_i c2
 refine⟨fun c hc v hv=>?_,fun x hx f hf=>?_⟩
 ·have c1:cG R S W=0:=by omega
  unfold cG at c1
  split at c1
  ·exact absurd c1 (by decide)
  split at c1
  ·exact absurd c1 (by assumption)
  split at c1
  ·exact absurd c1 (by decide)
  rename_i q
  simp only[Bool.or_eq_true,not_or] at q
  have q2:kE R S c=true:=by
   cases e:kE R S c with
   | true=>rfl
   | false=>exact absurd (List.any_eq_true.2 ⟨c,hc,by rw[e];rfl⟩) q.2
  simp only[kE,Bool.and_eq_true] at q2
  exact aiF (List.all_eq_true.1 q2.1.2 v hv)
 ·unfold mF at c2
  split at c2
  ·cases c2
  split at c2
  ·cases c2
  split at c2
  ·cases c2
  rename_i g e
  exact aiR (ah1 _ _ _ e x hx f hf)
theorem ahW (b:Bool):(cP b).kind≠5:=by rw[agJ];decide
theorem of_no (b:Nat):(ofM b).kind≠5:=by rw[ag9];decide
theorem ah5 (o:BinOp) (x y:Nat):(ofB o x y).kind≠5:=by rw[agR];decide
theorem ahU (n:Int):(dS n).1.kind≠5:=by
 unfold dS
 exact bU (fun r:Val×Int=>r.1.kind≠5) (fun _=>show(2:Int)≠5 by decide) fun _=>show(0:Int)≠5 by decide
theorem ah4 (op:Int) (a b:Bool):(eA op a b).1.kind≠5:=by
 unfold eA
 refine bU (fun r:Val×Int=>r.1.kind≠5) (fun _=>ahW _) fun _=>?_
 exact bU (fun r:Val×Int=>r.1.kind≠5) (fun _=>ahW _) fun _=>show(0:Int)≠5 by decide
theorem no_ref:aiG ⟨o4,mU,lF⟩:=by
 refine⟨fun n a=>?_,fun n a b=>?_⟩
 ·show(o4 n a).1.kind≠5
  unfold o4
  refine bU (fun r:Val×Int=>r.1.kind≠5) (fun _=>ahW _) fun _=>?_
  refine bU (fun r:Val×Int=>r.1.kind≠5) (fun _=>ahU _) fun _=>?_
  exact bU (fun r:Val×Int=>r.1.kind≠5) (fun _=>of_no _) fun _=>show(0:Int)≠5 by decide
 ·show(mU n a b).1.kind≠5
  unfold mU
  refine bU (fun r:Val×Int=>r.1.kind≠5) (fun _=>?_) fun _=>?_
  ·unfold lI
   refine bU (fun r:Val×Int=>r.1.kind≠5) (fun _=>ah5 _ _ _) fun _=>?_
   refine bU (fun r:Val×Int=>r.1.kind≠5) (fun _=>ah5 _ _ _) fun _=>?_
   refine bU (fun r:Val×Int=>r.1.kind≠5) (fun _=>ah5 _ _ _) fun _=>?_
   refine bU (fun r:Val×Int=>r.1.kind≠5) (fun _=>ah5 _ _ _) fun _=>?_
   exact bU (fun r:Val×Int=>r.1.kind≠5) (fun _=>ahW _) fun _=>ah4 _ _ _
  refine bU (fun r:Val×Int=>r.1.kind≠5) (fun _=>ahW _) fun _=>?_
  refine bU (fun r:Val×Int=>r.1.kind≠5) (fun _=>?_) fun _=>show(0:Int)≠5 by decide
  unfold gR
  refine bU (fun r:Val×Int=>r.1.kind≠5) (fun _=>ahU _) fun _=>?_
  refine bU (fun r:Val×Int=>r.1.kind≠5) (fun _=>ahU _) fun _=>?_
  refine bU (fun r:Val×Int=>r.1.kind≠5) (fun _=>ahU _) fun _=>?_
  refine bU (fun r:Val×Int=>r.1.kind≠5) (fun _=>?_) fun _=>ah4 _ _ _
  refine bU (fun r:Val×Int=>r.1.kind≠5) (fun _=>show(0:Int)≠5 by decide) fun _=>?_
  exact bU (fun r:Val×Int=>r.1.kind≠5) (fun _=>ahU _) fun _=>ahU _
end
end Go.Proofs.YtjaphgpkkfdaaaaGreatDoor
