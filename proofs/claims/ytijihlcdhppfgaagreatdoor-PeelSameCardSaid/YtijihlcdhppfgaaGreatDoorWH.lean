/- A part of the walk. -/
import Derived.Test.YtijihlcdhppfgaaGreatDoorWG
set_option maxHeartbeats 16000000
set_option maxRecDepth 100000
set_option linter.all false
namespace Go.Proofs.YtijihlcdhppfgaaGreatDoor
open Go.Proofs.Tryz
section
set_option maxHeartbeats 1000000
def atA (E:iH) (self:Val) (shapes:List aO) (w:aG) (x:aT):Option (Option Val):=
 if x.op=1 then some (some (w.regs.getD x.n.toNat ⟨0,0⟩))
 else if x.op=2 then some (some x.k)
 else if x.op=3 then some (some self)
 else if x.op=4\/x.op=5\/x.op=6\/x.op=9 then(if jF E w x=true then some none else none)
 else if x.op=7 then(if(E.B x.n (bL w x.a) (bL w x.b)).2<0 then some (some (E.B x.n (bL w x.a) (bL w x.b)).1) else none)
 else if x.op=8 then(if(E.U x.n (bL w x.a)).2<0 then some (some (E.U x.n (bL w x.a)).1) else none)
 else if x.op=10 then(match dG w x.a with | none=>none | some (_,c)=>if(c.vals.length:Int)<=x.n then none else some (some (c.vals.getD x.n.toNat ⟨0,0⟩)))
 else if x.op=15 then(match dG w x.a with | none=>none | some (_,c)=>some (some ⟨2,c.vals.length⟩))
 else if x.op=13 then(match dG w x.a with | none=>none | some (_,c)=>if c.kind≠2 then none else if ¬((bL w x.b).kind=2/\0<=(bL w x.b).n/\(bL w x.b).n<c.vals.length) then none else some (some (c.vals.getD (bL w x.b).n.toNat ⟨0,0⟩)))
 else if(match shapes[x.n.toNat]? with | none=>false | some s=>s.up == x.b)=true then some none else none
def atG (op:Int):Prop:=op=1\/op=2\/op=3\/op=4\/op=5\/op=6\/op=9\/op=7\/op=8\/op=10\/op=13\/op=15\/op=19
theorem atM {t:aH} {x:aT} (h:arQ t x=true):atG x.op:=by
 unfold atG;unfold arQ at h;split at h;·omega
 split at h;·omega
 split at h;·omega
 split at h;·omega
 split at h;·omega
 ·cases h
theorem auT {E:iH} {self:Val} {shapes:List aO} {w:aG} {i:Nat} {x:aT} (h:atG x.op) :
  ((doI E self shapes w i x).2=0->∃o,atA E self shapes w x=some o)/\(atA E self shapes w x=some none->doI E self shapes w i x=(w,0))/\∀v,atA E self shapes w x=some (some v)->doI E self shapes w i x=(setV w i v,0):=by
 have j:∀r:Val×Int,((gX w i x.exit r).2=0->∃o,(if r.2<0 then some (some r.1) else none:Option (Option Val))=some o)/\((if r.2<0 then some (some r.1) else none:Option (Option Val))=some none->gX w i x.exit r=(w,0))/\
   ∀v,(if r.2<0 then some (some r.1) else none:Option (Option Val))=some (some v)->gX w i x.exit r=(setV w i v,0):=λr=>by
  unfold gX
  by_cases c:r.2<0
  ·rw[if_pos c,if_pos c]
   exact⟨λ_=>⟨_,rfl⟩,λq=>(by cases q),λv q=>by injection q with q;injection q with q;rw[q]⟩
  ·rw[if_neg c,if_neg c]
   refine⟨λq=>?_,λq=>(by cases q),λv q=>(by cases q)⟩
   dsimp only at q
   split at q <;> omega
 have f:∀b:Bool,((w,isW b 1).2=0->∃o,(if b=true then some none else none:Option (Option Val))=some o)/\((if b=true then some none else none:Option (Option Val))=some none->(w,isW b 1)=(w,0))/\
   ∀v,(if b=true then some none else none:Option (Option Val))=some (some v)->(w,isW b 1)=(setV w i v,0):=λb=>by
  cases b
  ·exact⟨λq=>absurd q (show(1:Int)≠0 by decide),λq=>(by cases q),λv q=>(by cases q)⟩
  ·exact⟨λ_=>⟨_,rfl⟩,λ_=>rfl,λv q=>(by cases q)⟩
 have one:∀g:Val,((setV w i g,(0:Int)).2=0->∃o,(some (some g):Option (Option Val))=some o)/\((some (some g):Option (Option Val))=some none->(setV w i g,(0:Int))=(w,0))/\∀v,(some (some g):Option (Option Val))=some (some v)->(setV w i g,(0:Int))=(setV w i v,0):=λg=>
  ⟨λ_=>⟨_,rfl⟩,λq=>(by cases q),λv q=>by injection q with q;injection q with q;rw[q]⟩
 have d:∀how:Int,how≠0->((w,how).2=0->∃o,(none:Option (Option Val))=some o)/\((none:Option (Option Val))=some none->(w,how)=(w,0))/\∀v,(none:Option (Option Val))=some (some v)->(w,how)=(setV w i v,0):=λhow p=>
  ⟨λq=>absurd q p,λq=>(by cases q),λv q=>(by cases q)⟩
 unfold doI atA
 rcases h with c | c | c | c | c | c | c | c | c | c | c | c | c
 ·rw[if_pos c,if_pos c];exact one _
 ·rw[if_neg (by omega),if_pos c,if_neg (by omega),if_pos c];exact one _
 ·rw[if_neg (by omega),if_neg (by omega),if_pos c,if_neg (by omega),if_neg (by omega),if_pos c];exact one _
 ·rw[if_neg (by omega),if_neg (by omega),if_neg (by omega),if_pos (by omega),if_neg (by omega),if_neg (by omega),if_neg (by omega),if_pos (by omega)];exact f _
 ·rw[if_neg (by omega),if_neg (by omega),if_neg (by omega),if_pos (by omega),if_neg (by omega),if_neg (by omega),if_neg (by omega),if_pos (by omega)];exact f _
 ·rw[if_neg (by omega),if_neg (by omega),if_neg (by omega),if_pos (by omega),if_neg (by omega),if_neg (by omega),if_neg (by omega),if_pos (by omega)];exact f _
 ·rw[if_neg (by omega),if_neg (by omega),if_neg (by omega),if_pos (by omega),if_neg (by omega),if_neg (by omega),if_neg (by omega),if_pos (by omega)];exact f _
 ·iterate 4 rw[if_neg (by omega)]
  rw[if_pos c]
  iterate 4 rw[if_neg (by omega)]
  rw[if_pos c];exact j _
 ·iterate 5 rw[if_neg (by omega)]
  rw[if_pos c]
  iterate 5 rw[if_neg (by omega)]
  rw[if_pos c];exact j _
 ·iterate 6 rw[if_neg (by omega)]
  rw[if_pos (by omega)]
  iterate 6 rw[if_neg (by omega)]
  rw[if_pos c]
  unfold jK
  cases dG w x.a with
  | none=>exact d _ (by decide)
  | some nc=>
   obtain⟨n,cl⟩:=nc
   dsimp only
   by_cases q:(cl.vals.length:Int)<=x.n
   ·rw[if_pos ⟨by omega,q⟩,if_pos q];exact d _ (by decide)
   ·rw[if_neg (λa=>q a.2),if_pos c,if_neg q];exact one _
 ·iterate 8 rw[if_neg (by omega)]
  rw[if_pos (by omega)]
  iterate 8 rw[if_neg (by omega)]
  rw[if_pos c]
  unfold nE
  cases dG w x.a with
  | none=>exact d _ (by decide)
  | some nc=>
   obtain⟨n,cl⟩:=nc
   dsimp only
   by_cases q:cl.kind≠2
   ·rw[if_pos q,if_pos q];exact d _ (by decide)
   rw[if_neg q,if_neg q]
   by_cases l:¬((bL w x.b).kind=2/\0<=(bL w x.b).n/\(bL w x.b).n<cl.vals.length)
   ·rw[if_pos l,if_pos l];exact d _ (by decide)
   ·rw[if_neg l,if_neg l,if_pos c];exact one _
 ·iterate 6 rw[if_neg (by omega)]
  rw[if_pos (by omega)]
  iterate 6 rw[if_neg (by omega)]
  rw[if_neg (by omega),if_pos c]
  unfold jK
  cases dG w x.a with
  | none=>exact d _ (by decide)
  | some nc=>
   obtain⟨n,cl⟩:=nc
   dsimp only
   rw[if_neg (by omega),if_neg (by omega),if_neg (by omega)];exact one _
 ·iterate 11 rw[if_neg (by omega)]
  rw[if_pos c]
  iterate 9 rw[if_neg (by omega)]
  exact f _
def as5 (t:aH) (cs cs':List bJ):Prop:=∀(r:Nat) c,cs[r]? = some c->c.kind≠0->∃c',cs'[r]? = some c'/\c'.kind=c.kind/\(arW t [12]=false->c'.num=c.num)/\
 (arW t [11,14]=false->∃l,c'.vals=c.vals++l)/\(arW t [17,12]=false->c'.vals.length=c.vals.length)
theorem as5.refl (t:aH) (cs:List bJ):as5 t cs cs:=λ_ c h _=>⟨c,h,rfl,λ_=>rfl,λ_=>⟨[],by simp⟩,λ_=>rfl⟩
theorem as5.trans {t:aH} {a b c:List bJ} (h:as5 t a b) (k:as5 t b c):as5 t a c:=λr x hx w=>by
 obtain⟨y,d,A,f,g,j⟩:=h r x hx w
 obtain⟨z,p,D,s,u,v⟩:=k r y d (by omega)
 refine⟨z,p,by omega,λq=>by rw[s q,f q],λq=>?_,λq=>by rw[v q,j q]⟩
 obtain⟨l,hl⟩:=g q
 obtain⟨m,hm⟩:=u q
 exact⟨l++m,by rw[hm,hl,List.append_assoc]⟩
theorem as5.set {t:aH} {cs:List bJ} {n:Nat} {c d:bJ} (hc:cs[n]? = some c) (h:c.kind≠0->d.kind=c.kind/\(arW t [12]=false->d.num=c.num)/\(arW t [11,14]=false->∃l,d.vals=c.vals++l)/\(arW t [17,12]=false->d.vals.length=c.vals.length)):as5 t cs (cs.set n d):=λr a f g=>by
 by_cases e:n=r
 ·subst e
  rw[hc] at f;injection f with f;subst f
  exact⟨d,by rw[List.getElem?_set_self (lE hc).1],h g⟩
 ·exact⟨a,by rw[List.getElem?_set_ne e];exact f,rfl,λ_=>rfl,λ_=>⟨[],by simp⟩,λ_=>rfl⟩
theorem as5.snoc (t:aH) (cs:List bJ) (d:bJ):as5 t cs (cs++[d]):=λr a f _=>⟨a,by rw[List.getElem?_append_left (lE f).1];exact f,rfl,λ_=>rfl,λ_=>⟨[],by simp⟩,λ_=>rfl⟩
def as4 (cs:List bJ):Prop:=∀c∈cs,c.kind=0->c.vals=[]
theorem as4.set {cs:List bJ} (h:as4 cs) (n:Nat) {d:bJ} (hd:d.kind=0->d.vals=[]):as4 (cs.set n d):=λc hc=>by
 rcases List.mem_or_eq_of_mem_set hc with hc | hc
 ·exact h c hc
 ·rw[hc];exact hd
theorem as4.snoc {cs:List bJ} (h:as4 cs) (k:Int):as4 (cs++[⟨k,0,[],[]⟩]):=λc hc=>by
 rcases List.mem_append.1 hc with hc | hc
 ·exact h c hc
 ·rw[List.mem_singleton.1 hc];exact λ_=>rfl
def Old0 (S cs:List bJ):Prop:=∀(r:Nat) c,cs[r]? = some c->c.vals=[]\/∃c0,c0∈S/\c.vals=c0.vals
theorem au4 {t:aH} {i:Nat} (hi:i<t.ins.length) {ops:List Int} (h:(bT t i).op∈ops):arW t ops=true:= List.any_eq_true.2 ⟨bT t i,lM (vB hi),decide_eq_true h⟩
structure atL (t:aH) (S:List bJ) (w w':aG):Prop where
 keep:as4 w.cells->as5 t w.cells w'.cells
 emp:as4 w.cells->as4 w'.cells
 old:arW t [11,14]=false->arW t [17,12]=false->Old0 S w.cells->Old0 S w'.cells
theorem atL.refl (t:aH) (S:List bJ) (w:aG):atL t S w w:=⟨λ_=>.refl _ _,id,λ_ _=>id⟩
theorem do_f (E:iH) (self:Val) (shapes:List aO) (t:aH) (S:List bJ) (w:aG) (i:Nat) (x:aT) (hx:∀ops:List Int,x.op∈ops->arW t ops=true):atL t S w (doI E self shapes w i x).1:=by
 have no:∀w':aG,w'.cells=w.cells->atL t S w w':=λw' e=>⟨λ_=>by rw[e];exact .refl _ _,λh=>by rw[e];exact h,λ_ _ h=>by rw[e];exact h⟩
 have fresh:∀k,atL t S w (eP w i k).1:=λk=>by
  unfold eP
  split
  ·exact no w rfl
  ·refine⟨λ_=>.snoc _ _ _,λh=>h.snoc k,λ_ _ h r c hc=>?_⟩
   change (w.cells++[(⟨k,0,[],[]⟩:bJ)])[r]? = some c at hc
   rcases Nat.lt_or_ge r w.cells.length with q | q
   ·rw[List.getElem?_append_left q] at hc;exact h r c hc
   ·rw[List.getElem?_append_right q] at hc
    have:=lM hc
    rw[List.mem_singleton.1 this];exact .inl rfl
 have setC:∀ {v:Int} {n:Nat} {c d:bJ},dG w v=some (n,c)->(as4 w.cells->d.kind=c.kind/\(c.kind=0->d.vals=[])/\(arW t [12]=false->d.num=c.num)/\(arW t [11,14]=false->∃l,d.vals=c.vals++l)/\(arW t [17,12]=false->d.vals.length=c.vals.length))->
   (arW t [11,14]=true\/arW t [17,12]=true)->atL t S w (setCW w n d):=λ{v n c d} hc hd hh=>by
  obtain⟨h1,-,-⟩:=ad4 hc
  refine⟨λe=>as5.set h1 λ_=>⟨(hd e).1,(hd e).2.2⟩,λe=>e.set n λq=>(hd e).2.1 (by rw[<-(hd e).1];exact q),λa b _=>?_⟩
  rcases hh with q | q
  ·rw[a] at q;cases q
  ·rw[b] at q;cases q
 have zero:∀ {v:Int} {n:Nat} {c:bJ},dG w v=some (n,c)->as4 w.cells->c.kind=0->c.vals=[]:=λ{v n c} hc e=>e c (lM (ad4 hc).1)
 have P:∀ {c:Prop} [Decidable c] {a b:aG×Int},(c->atL t S w a.1)->(¬c->atL t S w b.1)->atL t S w (if c then a else b).1:=λ{c} _ {a b} h1 h2=>cI (λr:aG×Int=>atL t S w r.1) h1 h2
 unfold doI
 refine P (λ_=>no _ rfl) λ_=>?_
 refine P (λ_=>no _ rfl) λ_=>?_
 refine P (λ_=>no _ rfl) λ_=>?_
 refine P (λ_=>no _ rfl) λ_=>?_
 refine P (λ_=>no _ rfl) λ_=>?_
 refine P (λ_=>no _ rfl) λ_=>?_
 refine P (λq=>?_) λ_=>?_
 ·unfold jK
  cases hc:dG w x.a with
  | none=>exact no w rfl
  | some nc=>
   obtain⟨n,c⟩:=nc
   dsimp only
   refine P (λ_=>no w rfl) λq1=>?_
   refine P (λ_=>no _ rfl) λ_=>?_
   refine P (λf=>?_) λ_=>no _ rfl
   have hp:arW t [11,14]=true:=hx _ (by rw[f];simp)
   exact setC hc (λe=>⟨rfl,λz=>by show(c.vals.set _ _)=[];rw[zero hc e z];rfl,λ_=>rfl,λa=>(by rw[hp] at a;cases a),λ_=>by simp⟩) (.inl hp)
 refine P (λq=>?_) λ_=>?_
 ·unfold lH
  cases hc:dG w x.a with
  | none=>exact no w rfl
  | some nc=>
   obtain⟨n,c⟩:=nc
   dsimp only
   have g:arW t [12]=true:=hx _ (by rw[q];simp)
   have hp:arW t [17,12]=true:=hx _ (by rw[q];simp)
   refine P (λ_=>no w rfl) λq1=>?_
   cases shapes[x.n.toNat]? with
   | none=>exact no w rfl
   | some s=>exact P (λ_=>no w rfl) λ_=>setC hc (λe=>⟨rfl,λz=>by omega,λa=>(by rw[g] at a;cases a),λ_=>⟨_,rfl⟩,λa=>(by rw[hp] at a;cases a)⟩) (.inr hp)
 refine P (λq=>?_) λ_=>?_
 ·unfold nE
  cases hc:dG w x.a with
  | none=>exact no w rfl
  | some nc=>
   obtain⟨n,c⟩:=nc
   dsimp only
   refine P (λ_=>no w rfl) λq1=>?_
   refine P (λ_=>no w rfl) λ_=>?_
   refine P (λ_=>no _ rfl) λf=>?_
   have hp:arW t [11,14]=true:=hx _ (by rw[show x.op=14 by omega];simp)
   exact setC hc (λe=>⟨rfl,λz=>by show(c.vals.set _ _)=[];rw[zero hc e z];rfl,λ_=>rfl,λa=>(by rw[hp] at a;cases a),λ_=>by simp⟩) (.inl hp)
 refine P (λ_=>fresh _) λ_=>?_
 refine P (λq=>?_) λ_=>?_
 ·unfold j6
  cases hc:dG w x.a with
  | none=>exact no w rfl
  | some nc=>
   obtain⟨n,c⟩:=nc
   dsimp only
   have hp:arW t [17,12]=true:=hx _ (by rw[q];simp)
   refine P (λ_=>no w rfl) λq1=>?_
   refine P (λ_=>setC hc (λe=>⟨rfl,λz=>by omega,λ_=>rfl,λ_=>⟨_,rfl⟩,λa=>(by rw[hp] at a;cases a)⟩) (.inr hp)) λ_=>?_
   exact P (λ_=>no w rfl) λ_=>no w rfl
 exact P (λ_=>no _ rfl) λ_=>fresh _
def KindX (x:bX):Prop:=∀m∈x.makes,m.kind≠0
theorem auR (t:aH):∀(l:List dX) (w:aG),(∀m∈l,m.kind≠0)->as5 t w.cells (eO w l).1.cells/\(as4 w.cells->as4 (eO w l).1.cells)
 | [],w,_=>⟨.refl _ _,id⟩
 | m::l,w,hm=>by
  have h1:as5 t w.cells (gF w m).1.cells/\(as4 w.cells->as4 (gF w m).1.cells):=by
   unfold gF
   split
   ·exact⟨.refl _ _,id⟩
   ·rename_i h
    split
    ·exact⟨.refl _ _,id⟩
    ·rename_i f
     exact⟨as5.set (ad4 h).1 (λc=>absurd c (by simpa using f)),λe=>e.set _ (λc=>absurd c (hm m (by simp)))⟩
  unfold eO
  split
  ·exact h1
  ·have d:=auR t l (gF w m).1 (λk hk=>hm k (by simp[hk]))
   exact⟨h1.1.trans d.1,λe=>d.2 (h1.2 e)⟩
theorem au0 (w:aG) (x:bX):(g8 w x).1.cells=(eO w x.makes).1.cells:=by
 have hs:∀(l:List oL) (w:aG),(gY w l).cells=w.cells:=λl=>by
  induction l with
  | nil=>intro w;rfl
  | cons s l ih=>intro w;exact ih _
 unfold g8;split;·rfl
 ·exact hs _ _
theorem avC (w:aG) (x:bX):(g8 w x).1.vals=w.vals:=by
 have hm:∀(l:List dX) (w:aG),(eO w l).1.vals=w.vals:=λl=>by
  induction l with
  | nil=>intro w;rfl
  | cons m l ih=>
   intro w
   have h1:(gF w m).1.vals=w.vals:=by
    unfold gF
    split
    ·rfl
    ·split <;> rfl
   unfold eO
   split
   ·exact h1
   ·rw[ih,h1]
 have hs:∀(l:List oL) (w:aG),(gY w l).vals=w.vals:=λl=>by
  induction l with
  | nil=>intro w;rfl
  | cons s l ih=>intro w;exact ih _
 unfold g8;split;·exact hm _ _
 ·exact(hs _ _).trans (hm _ _)
theorem au6 (w:aG) (x:bX) {r:Nat} (f:∀s∈x.sets,s.reg.toNat≠r):(g8 w x).1.regs[r]? = w.regs[r]?:=by
 have hm:∀(l:List dX) (w:aG),(eO w l).1.regs=w.regs:=λl=>by
  induction l with
  | nil=>intro w;rfl
  | cons m l ih=>
   intro w
   have h1:=(adA w m).1
   unfold eO
   split
   ·exact h1
   ·rw[ih,h1]
 have hs:∀(l:List oL) (w:aG),(∀s∈l,s.reg.toNat≠r)->(gY w l).regs[r]? = w.regs[r]?:=λl=>by
  induction l with
  | nil=>intro w _;rfl
  | cons s l ih=>
   intro w h
   show(gY { w with regs:=w.regs.set s.reg.toNat (bL w s.val) } l).regs[r]? = _
   rw[ih _ (λq d=>h q (by simp[d]))]
   show(w.regs.set _ _)[r]? = _
   rw[List.getElem?_set_ne (h s (by simp))]
 unfold g8;split;·rw[hm]
 ·show(gY (eO w x.makes).1 x.sets).regs[r]? = _;rw[hs _ _ f,hm]
end
section
set_option maxHeartbeats 1000000
def avB (E:iH) (me:Val) (shapes:List aO) (t:aH) (w:aG) (j:Nat):Prop:=atA E me shapes w (bT t j)=some none\/atA E me shapes w (bT t j)=some (some (bL w j))
def NumF (t:aH):Prop:=∀i:Nat,((bT t i).op=1->0<=(bT t i).n)/\((bT t i).op=10->0<=(bT t i).n)/\((bT t i).op=9->1<=(bT t i).n)
theorem auM {R:Val->Bool} {g:Int} {fns:List FnM} {t:aH} (h:cQ R g fns t=0):NumF t:=λi=>by
 rcases Nat.lt_or_ge i t.ins.length with c | c
 ·obtain⟨_,fn,h1⟩:=xH h
  obtain⟨_,f⟩:=fW t.ins 0 h1 i _ (vB c)
  simp only[eJ,Bool.and_eq_true,Bool.not_eq_true',Bool.or_eq_false_iff,decide_eq_false_iff_not] at f
  have d:=f.1.1.2.1.1
  refine⟨λe=>?_,λe=>?_,λe=>?_⟩
  ·rw[e] at d;have:(bP 1).low=0:=by decide
   omega
  ·rw[e] at d;have:(bP 10).low=0:=by decide
   omega
  ·rw[e] at d;have:(bP 9).low=1:=by decide
   omega
 ·have:bT t i=⟨0,0,0,0,0,0,⟨0,0⟩⟩:=by
   unfold bT
   rw[show(i:Int).toNat=i from rfl,List.getElem?_eq_none c];rfl
  rw[this]
  refine⟨λe=>?_,λe=>?_,λe=>?_⟩ <;> cases e
section
variable {E:iH} {me:Val} {shapes:List aO} {t:aH} {w w':aG}
theorem atC {o:Int} {r:Nat} {c:bJ} (h:dG w o=some (r,c)) (hv:bL w' o=bL w o) (hk:as5 t w.cells w'.cells) (p:c.kind≠0) : ∃c',dG w' o=some (r,c')/\c'.kind=c.kind/\(arW t [12]=false->c'.num=c.num)/\(arW t [11,14]=false->∃l,c'.vals=c.vals++l)/\(arW t [17,12]=false->c'.vals.length=c.vals.length):=by obtain⟨h1,d,f⟩:=ad4 h;obtain⟨c',g,j⟩:=hk r c h1 p;refine⟨c',?_,j⟩;unfold dG;rw[hv,if_pos ⟨d,by omega⟩,f,Int.toNat_natCast,g];rfl
theorem auE {l m:List Val} {n:Nat} (h:n<l.length) (d:Val):(l++m).getD n d=l.getD n d:=by rw[List.getD_eq_getElem?_getD,List.getD_eq_getElem?_getD,List.getElem?_append_left h]
theorem auC {x:aT} (hf:arQ t x=true) {o:Option Val} (h:atA E me shapes w x=some o) (D:∀v∈bU x,bL w' v=bL w v) (L:x.op=1->w'.regs[x.n.toNat]? = w.regs[x.n.toNat]?) (hk:as5 t w.cells w'.cells) (M:as4 w.cells) (F:x.op=15->∃r c,dG w x.a=some (r,c)/\c.kind≠0) (N:x.op=9->1<=x.n) (G:x.op=10->0<=x.n):atA E me shapes w' x=some o:=by
 have f:0<(bP x.op).asks->bL w' x.a=bL w x.a:=λc=>D _ (nL (k:=0) rfl c);have u:1<(bP x.op).asks->bL w' x.b=bL w x.b:=λc=>D _ (nL (k:=1) rfl c);have zero:∀ {v:Int} {n:Nat} {c:bJ},dG w v=some (n,c)->c.vals≠[]->c.kind≠0:=λ{v n c} hc hn hz=>hn (M c (lM (ad4 hc).1) hz);have y:=atM hf;unfold atA at h ⊢;rcases y with c | c | c | c | c | c | c | c | c | c | c | c | c;·rw[if_pos c] at h ⊢;rw[<-h,List.getD_eq_getElem?_getD,List.getD_eq_getElem?_getD,L c]
 ·rw[if_neg (by omega),if_pos c] at h ⊢;exact h
 ·rw[if_neg (by omega),if_neg (by omega),if_pos c] at h ⊢;exact h
 ·rw[if_neg (by omega),if_neg (by omega),if_neg (by omega),if_pos (by omega)] at h ⊢;have e:jF E w' x=jF E w x:=by unfold jF;rw[if_pos c,if_pos c,f (by rw[c];decide)]
  rw[e];exact h
 ·rw[if_neg (by omega),if_neg (by omega),if_neg (by omega),if_pos (by omega)] at h ⊢;have e:jF E w' x=jF E w x:=by unfold jF;rw[if_neg (by omega),if_pos c,if_neg (by omega),if_pos c,f (by rw[c];decide)]
  rw[e];exact h
 ·rw[if_neg (by omega),if_neg (by omega),if_neg (by omega),if_pos (by omega)] at h ⊢;have e:jF E w' x=jF E w x:=by unfold jF;rw[if_neg (by omega),if_neg (by omega),if_pos c,if_neg (by omega),if_neg (by omega),if_pos c,f (by rw[c];decide)]
  rw[e];exact h
 ·rw[if_neg (by omega),if_neg (by omega),if_neg (by omega),if_pos (by omega)] at h ⊢;by_cases g:jF E w x=true;case neg=>rw[if_neg g] at h;cases h
  rw[if_pos g] at h;have H:jF E w' x=true:=by
   unfold jF at g ⊢
   rw[if_neg (by omega),if_neg (by omega),if_neg (by omega)] at g ⊢
   cases hc:dG w x.a with
   | none=>rw[hc] at g;cases g
   | some nc=>
    obtain⟨r,d⟩:=nc
    rw[hc] at g
    simp only[Bool.and_eq_true,beq_iff_eq,Bool.or_eq_true,bne_iff_ne,ne_eq] at g
    obtain⟨j,q1,p,J,-,-⟩:=atC hc (f (by rw[c];decide)) hk (by have:=N c;omega)
    rw[q1]
    simp only[Bool.and_eq_true,beq_iff_eq,Bool.or_eq_true,bne_iff_ne,ne_eq]
    refine⟨by omega,?_⟩
    rcases g.2 with g2 | g2
    ·exact .inl g2
    ·by_cases q:x.n=1
     ·refine .inr ?_
      have I:arW t [12]=false:=by
       unfold arQ at hf
       rw[if_neg (by omega),if_neg (by omega),if_pos c,q] at hf
       simpa using hf
      rw[J I];exact g2
     ·exact .inl q
  rw[if_pos H];exact h
 ·iterate 4 rw[if_neg (by omega)] at h ⊢
  rw[if_pos c] at h ⊢;rw[f (by rw[c];decide),u (by rw[c];decide)];exact h
 ·iterate 5 rw[if_neg (by omega)] at h ⊢
  rw[if_pos c] at h ⊢;rw[f (by rw[c];decide)];exact h
 ·iterate 6 rw[if_neg (by omega)] at h ⊢
  rw[if_pos c] at h ⊢;cases hc:dG w x.a with
  | none=>rw[hc] at h;cases h
  | some nc=>
   obtain⟨r,d⟩:=nc
   rw[hc] at h
   dsimp only at h
   by_cases q:(d.vals.length:Int)<=x.n
   ·rw[if_pos q] at h;cases h
   rw[if_neg q] at h
   have hn:=G c
   have hp:arW t [11,14]=false:=by
    unfold arQ at hf
    rw[if_neg (by omega),if_neg (by omega),if_neg (by omega),if_pos (by omega)] at hf
    simpa using hf
   obtain⟨j,q1,-,-,s,-⟩:=atC hc (f (by rw[c];decide)) hk (zero hc λz=>by rw[z] at q;simp at q;omega)
   obtain⟨l,hl⟩:=s hp
   rw[q1]
   dsimp only
   rw[if_neg (by rw[hl,List.length_append];omega),hl,auE (by omega)];exact h
 ·iterate 8 rw[if_neg (by omega)] at h ⊢
  rw[if_pos c] at h ⊢;rw[u (by rw[c];decide)];cases hc:dG w x.a with
  | none=>rw[hc] at h;cases h
  | some nc=>
   obtain⟨r,d⟩:=nc
   rw[hc] at h
   dsimp only at h
   by_cases q:d.kind≠2
   ·rw[if_pos q] at h;cases h
   rw[if_neg q] at h
   by_cases p:¬((bL w x.b).kind=2/\0<=(bL w x.b).n/\(bL w x.b).n<d.vals.length)
   ·rw[if_pos p] at h;cases h
   rw[if_neg p] at h
   have hp:arW t [11,14]=false:=by
    unfold arQ at hf
    rw[if_neg (by omega),if_neg (by omega),if_neg (by omega),if_pos (by omega)] at hf
    simpa using hf
   obtain⟨j,q1,A,-,s,-⟩:=atC hc (f (by rw[c];decide)) hk (by omega)
   obtain⟨l,hl⟩:=s hp
   rw[q1]
   dsimp only
   rw[if_neg (by omega),if_neg (by rw[hl,List.length_append];omega),hl,auE (by omega)];exact h
 ·iterate 7 rw[if_neg (by omega)] at h ⊢
  rw[if_pos c] at h ⊢;obtain⟨r,d,hc,K⟩:=F c;have hp:arW t [17,12]=false:=by unfold arQ at hf;rw[if_neg (by omega),if_neg (by omega),if_neg (by omega),if_neg (by omega),if_pos c] at hf;simpa using hf
  obtain⟨j,q1,-,-,-,A⟩:=atC hc (f (by rw[c];decide)) hk K;rw[hc] at h;rw[q1];dsimp only at h ⊢;rw[A hp];exact h
 ·iterate 9 rw[if_neg (by omega)] at h ⊢
  exact h
theorem atS {x:aT} {o:Option Val} (g:atG x.op) (ho:atA E me shapes w x=some o):o=none↔dZ x.op=false:=by
 have val:∀u:Val,some (some u)=some o->dZ x.op=true->(o=none↔dZ x.op=false):=λu h ht=>by
  injection h with h
  subst h;rw[ht];exact⟨λq=>(by cases q),λq=>(by cases q)⟩
 have d:∀b:Bool,(if b=true then some none else none:Option (Option Val))=some o->dZ x.op=false->(o=none↔dZ x.op=false):=λb h ht=>by
  cases b;·cases h
  ·injection h with h
   exact⟨λ_=>ht,λ_=>h.symm⟩
 have f:∀(c:Prop) [Decidable c] (u:Val),(if c then some (some u) else none:Option (Option Val))=some o->dZ x.op=true->(o=none↔dZ x.op=false):=λc _ u h ht=>by
  by_cases q:c;·rw[if_pos q] at h;exact val u h ht
  ·rw[if_neg q] at h;cases h
 unfold atA at ho;unfold atG at g;rcases g with c | c | c | c | c | c | c | c | c | c | c | c | c;·rw[if_pos c] at ho;exact val _ ho (by rw[c];rfl)
 ·rw[if_neg (by omega),if_pos c] at ho;exact val _ ho (by rw[c];rfl)
 ·rw[if_neg (by omega),if_neg (by omega),if_pos c] at ho;exact val _ ho (by rw[c];rfl)
 ·rw[if_neg (by omega),if_neg (by omega),if_neg (by omega),if_pos (by omega)] at ho;exact d _ ho (by rw[c];rfl)
 ·rw[if_neg (by omega),if_neg (by omega),if_neg (by omega),if_pos (by omega)] at ho;exact d _ ho (by rw[c];rfl)
 ·rw[if_neg (by omega),if_neg (by omega),if_neg (by omega),if_pos (by omega)] at ho;exact d _ ho (by rw[c];rfl)
 ·rw[if_neg (by omega),if_neg (by omega),if_neg (by omega),if_pos (by omega)] at ho;exact d _ ho (by rw[c];rfl)
 ·iterate 4 rw[if_neg (by omega)] at ho
  rw[if_pos c] at ho;exact f _ _ ho (by rw[c];rfl)
 ·iterate 5 rw[if_neg (by omega)] at ho
  rw[if_pos c] at ho;exact f _ _ ho (by rw[c];rfl)
 ·iterate 6 rw[if_neg (by omega)] at ho
  rw[if_pos c] at ho;split at ho;·cases ho
  ·split at ho;·cases ho
   ·exact val _ ho (by rw[c];rfl)
 ·iterate 8 rw[if_neg (by omega)] at ho
  rw[if_pos c] at ho;split at ho;·cases ho
  ·split at ho;·cases ho
   ·split at ho;·cases ho
    ·exact val _ ho (by rw[c];rfl)
 ·iterate 7 rw[if_neg (by omega)] at ho
  rw[if_pos c] at ho;split at ho;·cases ho
  ·exact val _ ho (by rw[c];rfl)
 ·iterate 9 rw[if_neg (by omega)] at ho
  exact d _ ho (by rw[c];rfl)
theorem auY {x:aT} (u:atG x.op) {n m:Int} (y:∀v∈bU x,bL w (v+n)=bL w v):atA E me shapes w (ar3 n m x)=atA E me shapes w x:=by
 have j:(ar3 n m x).op=x.op:=rfl;have l:(ar3 n m x).n=x.n:=rfl;have p:(ar3 n m x).k=x.k:=rfl;have f:0<(bP x.op).asks->bL w (ar3 n m x).a=bL w x.a:=λc=>by rw[show(ar3 n m x).a=x.a+n from if_pos c];exact y _ (nL (k:=0) rfl c)
 have q:1<(bP x.op).asks->bL w (ar3 n m x).b=bL w x.b:=λc=>by rw[show(ar3 n m x).b=x.b+n from if_pos c];exact y _ (nL (k:=1) rfl c)
 have r:¬ 1<(bP x.op).asks->(ar3 n m x).b=x.b:=λc=>if_neg c;have ca:0<(bP x.op).asks->dG w (ar3 n m x).a=dG w x.a:=λc=>by unfold dG;rw[f c]
 have d:∀ {α : Type} {c:Prop} [Decidable c] {a b g b' : α},(c->a=g)->(¬c->b=b')->(if c then a else b)=if c then g else b':=λ{α c} _ {a b g b'} h1 h2=>by
  by_cases h:c;·rw[if_pos h,if_pos h];exact h1 h
  ·rw[if_neg h,if_neg h];exact h2 h
 unfold atA;rw[j,l,p];refine d (λ_=>rfl) λz=>?_;refine d (λ_=>rfl) λA=>?_;refine d (λ_=>rfl) λD=>?_;refine d (λc=>?_) λc4=>?_
 ·have s:0<(bP x.op).asks:=by rcases c with c | c | c | c <;> rw[c] <;> decide
  have e:jF E w (ar3 n m x)=jF E w x:=by unfold jF;rw[j,l,p,f s,ca s];refine d (λ_=>rfl) λq1=>d (λ_=>rfl) λF=>d (λ_=>rfl) λG=>?_;rw[r (by rw[show x.op=9 by omega];decide)]
  rw[e]
 refine d (λc=>?_) λH=>?_;·rw[f (by rw[c];decide),q (by rw[c];decide)]
 refine d (λc=>?_) λI=>?_;·rw[f (by rw[c];decide)]
 refine d (λc=>?_) λJ=>?_;·rw[ca (by rw[c];decide)]
 refine d (λc=>?_) λK=>?_;·rw[ca (by rw[c];decide)]
 refine d (λc=>?_) λL=>?_;·rw[ca (by rw[c];decide),q (by rw[c];decide)]
 unfold atG at u;rw[r (by rw[show x.op=19 by omega];decide)]
end
def atF (S:List bJ) (v:Val):Prop:=v.kind=5->0<=v.n/\∃c,S[v.n.toNat]? = some c/\c.kind≠0
theorem atV (S:List bJ):atF S ⟨0,0⟩:=λc=>absurd (show(0:Int)=5 from c) (by decide)
theorem atW {S:List bJ} {l:List Val} (h:∀v∈l,atF S v) (i:Nat):atF S ((l[i]?).getD ⟨0,0⟩):=by
 cases e:l[i]? with
 | none=>exact atV S
 | some v=>exact h v (lM e)
structure atY (E:iH) (me:Val) (shapes:List aO) (S:List bJ) (t:aH) (lo i:Nat) (w:aG):Prop where
 lo_:lo=0\/lo=t.ins.length
 len:w.vals.length=(arY t).ins.length
 emp:as4 w.cells
 kf:as5 t S w.cells
 old:lo=0->arW t [11,14]=false->arW t [17,12]=false->Old0 S w.cells
 regs:lo=0->∀v∈w.regs,atF S v
 frm:∀j:Nat,j<t.ins.length->(lo=0->j<i)->arT t j=true->avB E me shapes t w j
 ref:arW t [17,12]=false->∀j:Nat,j<t.ins.length->(lo=0->j<i)->arT t j=true->dZ (bT t j).op=true->(bL w j).kind=5->∃r c,dG w j=some (r,c)/\c.kind≠0
 sec:∀j:Nat,j<t.ins.length->t.ins.length+j<i->arT t j=true->dZ (bT t j).op=true->bL w ((t.ins.length+j:Nat):Int)=bL w j
structure atZ (E:iH) (me:Val) (S:List bJ) (t:aH):Prop where
 n0:0<t.ins.length
 tt:qF t
 num:NumF t
 kk:∀i:Nat,(bT t i).op=2->(bT t i).k.kind≠5
 nr:anO E
 cells:∀c∈S,∀v∈c.vals,atF S v
 self:atF S me
 bk:∀s∈t.back.sets,0<=s.reg
 bm:KindX t.back
section
variable {E:iH} {me:Val} {shapes:List aO} {S:List bJ} {t:aH} {w w':aG} {lo i:Nat}
theorem atQ (hi:i<t.ins.length):bT (arY t) i=bT t i:=aaN (t:=arY t) (by rw[as9 hi];exact vB hi)
theorem atK {j:Nat} (hj:j<t.ins.length):bT (arY t) ((t.ins.length+j:Nat):Int)=ar3 t.ins.length t.exits.length (bT t j):=aaN (t:=arY t) (by rw[as8,vB hj];rfl)
theorem au9 (g:atZ E me S t) {j:Nat} (hj:j<t.ins.length):∀o∈bU (bT t j),0<=o/\o<(j:Int)/\dZ (bT t o).op=true:=λo ho=>g.tt.ask j _ (vB hj) o ho
theorem hasT (hi:i<(arY t).ins.length) (ops:List Int) (h:(bT (arY t) i).op∈ops):arW t ops=true:=by
 rw[as2] at hi;rcases Nat.lt_or_ge i t.ins.length with c | c;·rw[atQ c] at h;exact au4 c h
 ·obtain⟨j,rfl⟩:∃j,i=t.ins.length+j:=⟨i - t.ins.length,by omega⟩;rw[atK (by omega)] at h;exact au4 (i:=j) (by omega) h
theorem auH {cs:List bJ} {v:Int} (h:atF S (bL w v)) (hk:(bL w v).kind=5) (j:as5 t S w.cells):∃r c,dG w v=some (r,c)/\c.kind≠0:=by obtain⟨d,c,h1,f⟩:=h hk;obtain⟨c',g,l,-⟩:=j _ c h1 f;refine⟨(bL w v).n.toNat,c',?_,by omega⟩;unfold dG;rw[if_pos ⟨hk,d⟩,g];rfl
theorem atX (g:atZ E me S t) (I:atY E me shapes S t lo i w) {j:Nat} (hj:j<t.ins.length) (q:lo=0->j<i) (hf:arT t j=true) (hv:∀v:Nat,v<=j->bL w' (v:Int)=bL w v) (G:(bT t j).op=1->w'.regs[(bT t j).n.toNat]? = w.regs[(bT t j).n.toNat]?) (hk:as5 t w.cells w'.cells) : avB E me shapes t w' j:=by
 obtain⟨f,F⟩:=as7 hf;have D:∀o∈bU (bT t j),bL w' o=bL w o:=λo ho=>by obtain⟨s,y,-⟩:=au9 g hj o ho;obtain⟨n,rfl⟩:=Int.eq_ofNat_of_zero_le s;exact hv n (by omega)
 have u:(bT t j).op=15->∀o,atA E me shapes w (bT t j)=some o->∃r c,dG w (bT t j).a=some (r,c)/\c.kind≠0:=λc o ho=>by
  have l:(bT t j).a∈bU (bT t j):=nL (k:=0) rfl (by rw[c];decide)
  obtain⟨s,y,A⟩:=au9 g hj _ l
  obtain⟨n,hn⟩:=Int.eq_ofNat_of_zero_le s
  have hp:arW t [17,12]=false:=by
   unfold arQ at f
   rw[if_neg (by omega),if_neg (by omega),if_neg (by omega),if_neg (by omega),if_pos c] at f
   simpa using f
  have hc:∃d,dG w (bT t j).a=some d:=by
   unfold atA at ho
   iterate 7 rw[if_neg (by omega)] at ho
   rw[if_pos c] at ho
   cases e:dG w (bT t j).a with
   | none=>rw[e] at ho;cases ho
   | some d=>exact⟨d,rfl⟩
  obtain⟨d,hc⟩:=hc
  have x:=(ad4 (n:=d.1) (c:=d.2) hc).2.1
  rw[hn] at y A x ⊢
  have p:=F _ l (by omega) (by omega)
  rw[hn] at p
  exact I.ref hp n (by omega) (λz=>by have:=q z;omega) p A x
 have keep:∀o,atA E me shapes w (bT t j)=some o->atA E me shapes w' (bT t j)=some o:=λo ho=> auC f ho D G hk I.emp (λc=>u c o ho) (g.num j).2.2 (g.num j).2.1;rcases I.frm j hj q hf with h | h;·exact .inl (keep _ h)
 ·refine .inr ?_;rw[hv j (Nat.le_refl _)];exact keep _ h
theorem auA {o:Int} (h:∃r c,dG w o=some (r,c)/\c.kind≠0) (hv:bL w' o=bL w o) (hk:as5 t w.cells w'.cells):∃r c,dG w' o=some (r,c)/\c.kind≠0:=by obtain⟨r,c,h1,d⟩:=h;obtain⟨c',q1,f,-⟩:=atC h1 hv hk d;exact⟨r,c',q1,by omega⟩
theorem atR (g:atZ E me S t) (I:atY E me shapes S t lo i w) {j:Nat} (hj:j<t.ins.length) (hi:i=t.ins.length+j) (hf:arT t j=true) : doW E (arY t) me shapes w i=(w,0)/\dZ (bT t j).op=false\/doW E (arY t) me shapes w i=(setV w i (bL w j),0)/\dZ (bT t j).op=true:=by
 obtain⟨q,r⟩:=as7 hf;have d:=atM q;have D:=I.lo_;have hn:=g.n0;have p:∀o∈bU (bT t j),bL w (o+(t.ins.length:Int))=bL w o:=λo ho=>by obtain⟨s,u,v⟩:=au9 g hj o ho;obtain⟨n,rfl⟩:=Int.eq_ofNat_of_zero_le s;have:=I.sec n (by omega) (by omega) (r _ ho (by omega) u) v;rw[show(n:Int)+(t.ins.length:Int)=((t.ins.length+n:Nat):Int) by omega];exact this
 have l:atA E me shapes w (bT (arY t) i)=atA E me shapes w (bT t j):=by rw[hi,atK hj];exact auY d p
 have f:atG (bT (arY t) i).op:=by rw[hi,atK hj];exact d
 obtain⟨-,y,A⟩:=auT (E:=E) (self:=me) (shapes:=shapes) (w:=w) (i:=i) f;have tells:=λo ho=>atS (E:=E) (me:=me) (shapes:=shapes) (w:=w) (x:=bT t j) (o:=o) d ho;rcases I.frm j hj (λz=>by omega) hf with h | h;·exact .inl ⟨y (l.trans h),(tells _ h).1 rfl⟩
 ·refine .inr ⟨A _ (l.trans h),?_⟩;cases e:dZ (bT t j).op with
  | true=>rfl
  | false=>exact absurd ((tells _ h).2 e) (by simp)
end
end
section
set_option maxHeartbeats 1000000
section
variable {E:iH} {me:Val} {shapes:List aO} {S:List bJ} {t:aH} {w w':aG} {lo i:Nat}
theorem cnt_of (g:atZ E me S t) (I:atY E me shapes S t lo i w) {j:Nat} (hj:j<t.ins.length) (s:lo=0->j<=i) (hf:arT t j=true) (c:(bT t j).op=15) {o:Option Val} (ho:atA E me shapes w (bT t j)=some o):∃r c,dG w (bT t j).a=some (r,c)/\c.kind≠0:=by
 obtain⟨l,u⟩:=as7 hf;have f:(bT t j).a∈bU (bT t j):=nL (k:=0) rfl (by rw[c];decide);obtain⟨v,x,q⟩:=au9 g hj _ f;obtain⟨n,hn⟩:=Int.eq_ofNat_of_zero_le v;have hp:arW t [17,12]=false:=by unfold arQ at l;rw[if_neg (by omega),if_neg (by omega),if_neg (by omega),if_neg (by omega),if_pos c] at l;simpa using l
 have hc:∃d,dG w (bT t j).a=some d:=by
  unfold atA at ho
  iterate 7 rw[if_neg (by omega)] at ho
  rw[if_pos c] at ho
  cases e:dG w (bT t j).a with
  | none=>rw[e] at ho;cases ho
  | some d=>exact⟨d,rfl⟩
 obtain⟨d,hc⟩:=hc;have p:=(ad4 (n:=d.1) (c:=d.2) hc).2.1;have h:=u _ f (by omega) (by omega);rw[hn] at x q p h ⊢;exact I.ref hp n (by omega) (λz=>by have:=s z;omega) h q p
theorem fit_new (g:atZ E me S t) (I:atY E me shapes S t lo i w) (q:lo=0) {x:aT} (hf:arQ t x=true) (hk:x.op=2->x.k.kind≠5) (hp:arW t [17,12]=false) {v:Val} (h:atA E me shapes w x=some (some v)):atF S v:=by
 have p:=atM hf;have f:∀ {u:Val},u.kind≠5->atF S u:=λhu c=>absurd c hu;have old:arW t [11,14]=false->∀ {o:Int} {r:Nat} {c:bJ},dG w o=some (r,c)->∀k:Nat,atF S (c.vals.getD k ⟨0,0⟩):=λl {o r c} hc k=>by
  rw[List.getD_eq_getElem?_getD];rcases I.old q l hp r c (ad4 hc).1 with e | ⟨s,y,z⟩;·rw[e];exact atV S
  ·rw[z];exact atW (g.cells s y) k
 have j:∀b:Bool,(if b=true then some none else none:Option (Option Val))=some (some v)->atF S v:=λb h=>by cases b <;> cases h
 unfold atA at h;unfold atG at p;rcases p with c | c | c | c | c | c | c | c | c | c | c | c | c
 ·rw[if_pos c] at h;injection h with h;injection h with h
  rw[<-h,List.getD_eq_getElem?_getD];exact atW (I.regs q) _
 ·rw[if_neg (by omega),if_pos c] at h;injection h with h;injection h with h
  rw[<-h];exact f (hk c)
 ·rw[if_neg (by omega),if_neg (by omega),if_pos c] at h;injection h with h;injection h with h
  rw[<-h];exact g.self
 ·rw[if_neg (by omega),if_neg (by omega),if_neg (by omega),if_pos (by omega)] at h;exact j _ h
 ·rw[if_neg (by omega),if_neg (by omega),if_neg (by omega),if_pos (by omega)] at h;exact j _ h
 ·rw[if_neg (by omega),if_neg (by omega),if_neg (by omega),if_pos (by omega)] at h;exact j _ h
 ·rw[if_neg (by omega),if_neg (by omega),if_neg (by omega),if_pos (by omega)] at h;exact j _ h
 ·iterate 4 rw[if_neg (by omega)] at h
  rw[if_pos c] at h;split at h
  ·injection h with h;injection h with h
   rw[<-h];exact f (g.nr.bin _ _ _)
  ·cases h
 ·iterate 5 rw[if_neg (by omega)] at h
  rw[if_pos c] at h;split at h
  ·injection h with h;injection h with h
   rw[<-h];exact f (g.nr.un _ _)
  ·cases h
 ·iterate 6 rw[if_neg (by omega)] at h
  rw[if_pos c] at h;have l:arW t [11,14]=false:=by unfold arQ at hf;rw[if_neg (by omega),if_neg (by omega),if_neg (by omega),if_pos (by omega)] at hf;simpa using hf
  split at h;·cases h
  ·rename_i r d hc;split at h;·cases h
   ·injection h with h;injection h with h
    rw[<-h];exact old l hc _
 ·iterate 8 rw[if_neg (by omega)] at h
  rw[if_pos c] at h;have l:arW t [11,14]=false:=by unfold arQ at hf;rw[if_neg (by omega),if_neg (by omega),if_neg (by omega),if_pos (by omega)] at hf;simpa using hf
  split at h;·cases h
  ·rename_i r d hc;split at h;·cases h
   ·split at h;·cases h
    ·injection h with h;injection h with h
     rw[<-h];exact old l hc _
 ·iterate 7 rw[if_neg (by omega)] at h
  rw[if_pos c] at h;split at h;·cases h
  ·injection h with h;injection h with h
   rw[<-h];exact f (show(2:Int)≠5 by decide)
 ·iterate 9 rw[if_neg (by omega)] at h
  exact j _ h
theorem au1 (g:atZ E me S t) (I:atY E me shapes S t lo i w) (hi:i<(arY t).ins.length) (O:lo<=i) (J:(doW E (arY t) me shapes w i).2=0):atY E me shapes S t lo (i+1) (doW E (arY t) me shapes w i).1:=by
 have hs:=xB w.cells E me shapes w i (bT (arY t) i)
 change iS w.cells i w (doW E (arY t) me shapes w i).1 at hs
 have u:=pK E (arY t) me shapes w i
 have d:=do_f E me shapes t S w i (bT (arY t) i) (λops h=>hasT hi ops h)
 change atL t S w (doW E (arY t) me shapes w i).1 at d
 have hv:∀v:Nat,v≠i->bL (doW E (arY t) me shapes w i).1 (v:Int)=bL w v:=λv h=>ad9 (hs.vals v h)
 have hl:=I.lo_
 have hn:=g.n0
 have before:∀j:Nat,j<t.ins.length->(lo=0->j<i+1)->j≠i->j<i:=λj hj h1 R=>by
  rcases hl with c | c
  ·have:=h1 c;omega
  ·omega
 have here:i<t.ins.length->arT t i=true->lo=0/\∃o,atA E me shapes w (bT t i)=some o/\doW E (arY t) me shapes w i=(match o with | none=>(w,0) | some v=>(setV w i v,0)):=λF hf=>by
  have r:lo=0:=by rcases hl with c | c <;> omega
  obtain⟨p,-⟩:=as7 hf
  have e:doW E (arY t) me shapes w i=doI E me shapes w i (bT t i):=by unfold doW;rw[atQ F]
  rw[e] at J ⊢
  obtain⟨K,L,M⟩:=auT (E:=E) (self:=me) (shapes:=shapes) (w:=w) (i:=i) (x:=bT t i) (atM p)
  obtain⟨o,ho⟩:=K J
  refine⟨r,o,ho,?_⟩
  cases o with
  | none=>exact L ho
  | some v=>exact M v ho
 have f:i<w.vals.length:=by rw[I.len];exact hi
 refine⟨hl,hs.len.trans I.len,d.emp I.emp,I.kf.trans (d.keep I.emp),λz a b=>d.old a b (I.old z a b),λz=>by rw[u.regs];exact I.regs z,λj hj l hf=>?_,λhp j hj l hf ht s=>?_,λj hj l hf ht=>?_⟩
 ·by_cases e:j=i
  case neg=>
   have hb:=before j hj l e
   exact atX g I hj (λ_=>hb) hf (λv h=>hv v (by omega)) (λ_=>by rw[u.regs]) (d.keep I.emp)
  subst e
  obtain⟨r,o,ho,hd⟩:=here hj hf
  obtain⟨p,-⟩:=as7 hf
  rw[hd]
  cases o with
  | none=>exact .inl ho
  | some v=>
   refine .inr ?_
   show atA E me shapes (setV w j v) (bT t j)=some (some (bL (setV w j v) (j:Int)))
   rw[pT f]
   refine auC p ho (λG H=>?_) (λ_=>rfl) (.refl _ _) I.emp (λc=>cnt_of g I hj (λ_=>Nat.le_refl _) hf c ho) (g.num j).2.2 (g.num j).2.1
   obtain⟨N,P,-⟩:=au9 g hj G H
   rw[pS f v G N,if_neg (by omega)]
 ·by_cases e:j=i
  case neg=>
   have hb:=before j hj l e
   have y:=hv j e
   rw[y] at s
   exact auA (I.ref hp j hj (λ_=>hb) hf ht s) y (d.keep I.emp)
  subst e
  obtain⟨r,o,ho,hd⟩:=here hj hf
  obtain⟨p,-⟩:=as7 hf
  have A:=I.kf.trans (d.keep I.emp)
  rw[hd] at s A ⊢
  cases o with
  | none=>exact absurd ((atS (atM p) ho).1 rfl) (by rw[ht];decide)
  | some v=>
   refine auH (cs:=[]) ?_ s A
   show atF S (bL (setV w j v) (j:Int))
   rw[pT f]
   exact fit_new g I r p (g.kk j) hp ho
 ·have D:j≠i:=by omega
  rw[hv j D]
  by_cases e:t.ins.length+j=i
  case neg=>
   rw[hv _ e];exact I.sec j hj (by omega) hf ht
  rcases atR g I hj e.symm hf with ⟨-,q⟩ | ⟨q,-⟩
  ·rw[ht] at q;cases q
  ·rw[q]
   show bL (setV w i (bL w j)) _=_
   rw[e];exact pT f _
theorem auO (g:atZ E me S t) {m:Nat} (I:atY E me shapes S t lo m w) (hm:t.ins.length<=m) {x:bX} (hx:∀s∈x.sets,∃d∈t.back.sets,d.reg=s.reg) (hk:KindX x):atY E me shapes S t t.ins.length t.ins.length (g8 w x).1:=by
 have l:=avC w x;have r:=au0 w x;obtain⟨f,p⟩:=auR t x.makes w hk;rw[<-r] at f p;have hv:∀v:Int,bL (g8 w x).1 v=bL w v:=λv=>by unfold bL;rw[l]
 have hn:=g.n0;refine⟨.inr rfl,by rw[l];exact I.len,p I.emp,I.kf.trans f,λz=>by omega,λz=>by omega,λj hj _ hf=>?_,λhp j hj _ hf ht q=>?_,λj hj u=>by omega⟩
 ·refine atX g I hj (λ_=>by omega) hf (λv _=>hv v) (λc=>?_) f;refine au6 w x λs hs=>?_;obtain⟨d,q1,F⟩:=hx s hs;obtain⟨h,-⟩:=as7 hf;have y:=(g.num j).1 c;have A:=g.bk d q1;have D:d.reg≠(bT t j).n:=by unfold arQ at h;rw[if_neg (by omega),if_pos c,Bool.not_eq_true',List.any_eq_false] at h;exact λe=>h d q1 (decide_eq_true e)
  omega
 ·rw[hv] at q;exact auA (I.ref hp j hj (λ_=>by omega) hf ht q) (hv _) f
theorem auJ (t:aH):(asE t).length=(arY t).ins.length:=by rw[as2];simp[asE,vN]
theorem atB (h:i<t.ins.length):(asE t)[i]? = some (i:Int):=by unfold asE;rw[List.getElem?_append_left (by rw[vN];exact h)];exact aeA h
theorem atE {j:Nat} (h:j<t.ins.length):(asE t)[t.ins.length+j]? = some (ar9 t j):=by unfold asE;rw[List.getElem?_append_right (by rw[vN];omega),vN,Nat.add_sub_cancel_left,List.getElem?_map,List.getElem?_range h];rfl
theorem au2 (g:atZ E me S t):xN E me shapes (arY t) (arY t) (asE t) (atY E me shapes S t) where
 len:=rfl
 loop:=rfl
 turn:=rfl
 back:=rfl
 exits i e _ _ _ he:=.inl ⟨he,rfl⟩
 tells _:=rfl
 step lo i w hi hlo h h0:=au1 g h hi hlo h0
 turn_ _ w h _:=auO g h (Nat.le_refl _) (λs hs=>⟨s,hs,rfl⟩) g.bm
 back_ w h _:=auO g h (by rw[as2];omega) (λs hs=>by
  obtain⟨l,q1,rfl⟩:=List.mem_map.1 (show s∈t.back.sets.map _ from hs)
  exact⟨l,q1,rfl⟩) (λm hm=>by
  obtain⟨p,q1,rfl⟩:=List.mem_map.1 (show m∈t.back.makes.map _ from hm)
  exact g.bm p q1)
 kept _ _ _ _ _ _ _:=rfl
 skip lo i w hi hlo h hk _:=by
  rw[as2] at hi
  rcases Nat.lt_or_ge i t.ins.length with c | c
  ·exact absurd (atB c) hk
  obtain⟨j,rfl⟩:∃j,i=t.ins.length+j:=⟨i - t.ins.length,by omega⟩
  have hj:j<t.ins.length:=by omega
  have d:t.ins.length+j<w.vals.length:=by rw[h.len,as2];exact hi
  rw[atE hj] at hk ⊢
  have hf:arT t j=true:=by
   cases e:arT t j with
   | true=>rfl
   | false=>exact absurd (by unfold ar9;rw[if_pos e]) hk
  rcases atR g h hj rfl hf with ⟨q1,f⟩ | ⟨q1,f⟩
  ·rw[q1]
   refine⟨rfl,rfl,λ_ _=>rfl,rfl,λn hn=>?_⟩
   unfold ar9 at hn
   rw[if_neg (by rw[hf];decide),if_neg (by rw[f];decide)] at hn
   injection hn with hn;omega
  ·rw[q1]
   refine⟨rfl,rfl,λv hv=>?_,by simp[setV],λn hn=>?_⟩
   ·rw[pS d _ _ (by omega),if_neg (by omega)]
   ·unfold ar9 at hn
    rw[if_neg (by rw[hf];decide),if_pos f] at hn
    injection hn with hn
    obtain rfl:j=n:=by omega
    exact pT d _
theorem auI (hn:0<t.ins.length):oS (arY t).ins (asE t) where
 tell i n hne h:=by
  have hi:i<t.ins.length+t.ins.length:=by rw[<-as2,<-auJ];exact(lE h).1
  rcases Nat.lt_or_ge i t.ins.length with c | c
  ·rw[atB c] at h;injection h with h;omega
  obtain⟨j,rfl⟩:∃j,i=t.ins.length+j:=⟨i - t.ins.length,by omega⟩
  have hj:j<t.ins.length:=by omega
  rw[atE hj] at h
  injection h with h
  unfold ar9 at h
  split at h
  ·omega
  ·split at h
   ·rename_i q
    obtain rfl:j=n:=by omega
    unfold l6
    rw[show(j:Int).toNat=j from rfl,as9 hj,vB hj];exact q
   ·omega
 free i h:=by
  have hi:i<t.ins.length+t.ins.length:=by
   rw[<-as2]
   rcases Nat.lt_or_ge i (arY t).ins.length with c | c
   ·exact c
   ·unfold l6 at h
    rw[show(i:Int).toNat=i from rfl,List.getElem?_eq_none c] at h;simp at h
  rcases Nat.lt_or_ge i t.ins.length with c | c
  ·exact atB c
  obtain⟨j,rfl⟩:∃j,i=t.ins.length+j:=⟨i - t.ins.length,by omega⟩
  have hj:j<t.ins.length:=by omega
  rw[atE hj]
  unfold l6 at h
  rw[show((t.ins.length+j:Nat):Int).toNat=t.ins.length+j from rfl,as8,vB hj] at h
  have ho:(bT t j).op=18:=h
  have hf:arT t j=false:=by
   cases e:arT t j with
   | false=>rfl
   | true=>
    have:=atM (as7 e).1
    unfold atG at this
    omega
  unfold ar9
  rw[if_pos hf]
end
theorem au8 {R:Val->Bool} {f:Int} {fns:List FnM} {t:aH} (h:cQ R f fns t=0) (i:Nat):(bT t i).op=2->(bT t i).k.kind≠5:=λc=>by
 rcases Nat.lt_or_ge i t.ins.length with q | q
 ·obtain⟨_,fn,h1⟩:=xH h
  obtain⟨_,d⟩:=fW t.ins 0 h1 i _ (vB q)
  simp only[eJ,Bool.and_eq_true,Bool.not_eq_true',Bool.or_eq_false_iff,Bool.and_eq_false_iff] at d
  rcases d.1.2.2 with e | e
  ·rw[c] at e;cases e
  ·exact λk=>by rw[k] at e;cases e
 ·have:bT t i=⟨0,0,0,0,0,0,⟨0,0⟩⟩:=by
   unfold bT
   rw[show(i:Int).toNat=i from rfl,List.getElem?_eq_none q];rfl
  rw[this] at c;cases c
theorem at6 {regs:Int} {ins:List aT} {at_:Int} : ∀(last:Int) (l:List oL),j5 regs ins at_ last l=true->∀s∈l,last<s.reg
 | _,[],_,s,hs=>by simp at hs
 | last,k::l,h,s,hs=>by
  simp only[j5,Bool.and_eq_true,decide_eq_true_eq] at h
  rcases List.mem_cons.1 hs with rfl | hs
  ·exact h.1.1.1
  ·have:=at6 _ l h.2 s hs
   omega
theorem atP {ins:List aT} {at_:Int} : ∀(last:Int) (l:List dX),fI ins at_ last l=true->∀m∈l,m.kind≠0
 | _,[],_,m,hm=>by simp at hm
 | last,k::l,h,m,hm=>by
  simp only[fI,Bool.and_eq_true] at h
  rcases List.mem_cons.1 hm with rfl | hm
  ·have d:=h.1.2
   simp only[mG,Bool.and_eq_true,Bool.not_eq_true',Bool.or_eq_false_iff,decide_eq_false_iff_not] at d
   have:=d.1.1.2.1.1.1
   omega
  ·exact atP _ l h.2 m hm
structure avA (S:aP):Prop where
 cells:∀c∈S.cells,∀v∈c.vals,atF S.cells v
 emp:as4 S.cells
 frames:∀h∈S.threads,∀f∈h.frames,atF S.cells f.self/\∀v∈f.regs,atF S.cells v
theorem auW {E:iH} (M:anO E) {R:Val->Bool} {u:Int} {fns:List FnM} {stc:Int} {t:aH} {S0 out:aP} {th turns exit n:Int} (hc:cQ R u fns t=0) (p:u=0) (hl:t.loop=0) (hn:0<t.ins.length) (y:t.ins.length<=150) (z:t.exits.length<=100) (A:stc=0->avA S0) (hd:(g9 (arY t) (asE t)).2=0) : cQ R u fns (g9 (arY t) (asE t)).1=0/\(mC E 0 stc t S0 th turns=(out,exit,n,0)->∃g,mC E 0 stc (g9 (arY t) (asE t)).1 S0 th turns=(out,g,n,0)/\(g<0↔exit<0)):=by have d:=auF hc p hn y z;have hs:=auI hn;have v:0<(arY t).loop->(asE t)[0]? = some 0:=λ_=>atB hn;refine⟨zR d p hd hs v,λh=>?_⟩;have w:=adZ hc;obtain⟨-,-,fn,-,-,-,-,-,-,D,-⟩:=fD hc;have q:=D.2;simp only[bN,Bool.and_eq_true] at q;obtain⟨H,I,J⟩:=auU h hn hl (pM hc) w;refine⟨H,run_cut I (pM d) (xG d) d hd hs v rfl rfl λf K q1 L=>?_,J⟩;have F:=A (run_ok h).2.1;have x:=F.frames K (lM q1) f (List.mem_of_getLast? L);have G:atZ E f.self S0.cells t:=⟨hn,w,auM hc,au8 hc,M,F.cells,x.1,λs hs=>by have:=at6 (-1) _ q.1.2 s hs;omega,atP _ _ q.2⟩;refine⟨_,au2 (shapes:=S0.shapes) G,.inl rfl,by simp[gG],F.emp,.refl _ _,λ_ _ _ r c hc=>.inr ⟨c,lM hc,rfl⟩,λ_=>x.2,λj hj l=>absurd (l rfl) (by omega),λ_ j hj l=>absurd (l rfl) (by omega),λj hj l=>absurd l (by omega)⟩
theorem auV {t:aH} (hc:Cuts t) (hn:0<t.ins.length) (hd:(g9 (arY t) (asE t)).2=0):(g9 (arY t) (asE t)).1.loop=t.ins.length/\(g9 (arY t) (asE t)).1.ins.length<=t.ins.length+t.ins.length/\t.ins.length<=(g9 (arY t) (asE t)).1.ins.length:=by
 have h:=auX hc hn (tl:=(List.range t.ins.length).map (ar9 t)) (by simp) (z:=(g9 (arY t) (asE t)).1) (by rw[<-hd];rfl);refine⟨h.1,?_,h.2.1⟩;rcases cutM_len (arY t) (asE t) with ⟨-,q⟩ | ⟨q,-⟩;·rw[as2] at q;exact q
 ·omega
end
section
open Go.RowKit
theorem auS {S:aP} {v:Val} (h:eU aF S v=true):atF S.cells v:=λc=>by
 simp only[eU,Bool.and_eq_true] at h
 obtain⟨h1,d⟩:=h
 rw[if_neg (by omega),if_pos c] at d
 simp only[Bool.and_eq_true,decide_eq_true_eq,bne_iff_ne,ne_eq] at d
 have f:0<=v.n:=by
  unfold aF at h1
  rw[if_neg (by omega),if_neg (by omega),if_neg (by omega),if_neg (by omega),if_pos (.inr c)] at h1
  exact of_decide_eq_true h1
 refine⟨f,?_⟩
 have hk:=d.2
 unfold oC at hk
 cases e:S.cells[v.n.toNat]? with
 | none=>rw[e] at hk;exact absurd rfl hk
 | some c=>rw[e] at hk;exact⟨c,rfl,hk⟩
theorem au5 {p:aZ} {S:aP} {f:bC} (h:eC aF p S f=true):atF S.cells f.self/\∀v∈f.regs,atF S.cells v:=by
 simp only[eC,Bool.and_eq_true] at h;refine⟨λ_=>?_,λv hv=>auS (List.all_eq_true.1 h.2 v hv)⟩;have g:=h.1.1.1.1.1.2;cases e:bZ S f.self 4 with
 | none=>rw[e] at g;cases g
 | some x=>
  unfold bZ at e
  split at e
  ·cases e
  ·rename_i c
   refine⟨by omega,?_⟩
   cases j:S.cells[f.self.n.toNat]? with
   | none=>rw[j] at e;simp at e
   | some d=>
    rw[j] at e
    refine⟨d,rfl,?_⟩
    simp at e
    omega
theorem auG {p:aZ} {S:aP} {W:List ByteArray} {s:Int} (h:eN aF p S W s=0):avA S:=by
 unfold eN at h;split at h;·exact absurd h (by assumption)
 split at h;·exact absurd h (by assumption)
 rename_i d;split at h;·exact absurd h (by decide)
 split at h;case isFalse=>exact absurd h (by decide)
 rename_i j;have cell:∀c∈S.cells,mN aF S c=true:=λc hc=>by
  have d:dN aF S W=0:=by omega
  unfold dN at d
  split at d
  ·exact absurd d (by decide)
  split at d
  ·exact absurd d (by assumption)
  split at d
  ·exact absurd d (by decide)
  rename_i q
  simp only[Bool.or_eq_true,not_or] at q
  cases e:mN aF S c with
  | true=>rfl
  | false=>exact absurd (List.any_eq_true.2 ⟨c,hc,by rw[e];rfl⟩) q.2
 refine⟨λc hc v hv=>?_,λc hc hk=>?_,λx hx f hf=>?_⟩;·have l:=cell c hc;simp only[mN,Bool.and_eq_true] at l;exact auS (List.all_eq_true.1 l.1.2 v hv)
 ·have l:=cell c hc;simp only[mN,Bool.and_eq_true] at l;have r:=l.1.1;rw[if_pos hk] at r;simp only[Bool.and_eq_true,List.isEmpty_iff] at r;exact r.1.2
 ·unfold pC at j;split at j;·cases j
  split at j;·cases j
  split at j;·cases j
  rename_i g e;exact au5 (al2 _ _ _ e x hx f hf)
def atJ (t:aH):Int:=(t.ins.length:Int) - t.loop
theorem au3 {E:iH} (w:anO E) {R:Val->Bool} {fns:List FnM} {stc:Int} {t u:aH} {S0:aP} {th:Int} (hc:cQ R 0 fns t=0) (l:stc=0->avA S0) (h:asC 0 t=(u,0)) : cQ R 0 fns u=0/\(∃v,asC 0 u=(v,0)/\(0<u.loop->v=u))/\(0<=u.loop/\u.loop<=u.ins.length)/\atJ u<=atJ t/\ ∀turns out exit n,mC E 0 stc t S0 th turns=(out,exit,n,0)->∃d,mC E 0 stc u S0 th turns=(out,d,n,0)/\decide (d<0)=decide (exit<0):=by
 have j:=xG hc;have f:∀ {x:aH},cQ R 0 fns x=0->g9 x (upto x.ins.length)=(x,0):=λhx=>ag1 (mL hx);by_cases c:0<t.loop\/t.ins.length=0\/150<t.ins.length\/100<t.exits.length
 ·have e:asC 0 t=(t,0):=by unfold asC;rw[if_neg (by omega),if_pos c];exact f hc
  rw[e] at h;injection h with h
  subst h;exact⟨hc,⟨t,e,λ_=>rfl⟩,j.2.2,Int.le_refl _,λ_ _ x _ h=>⟨x,h,rfl⟩⟩
 have e:asC 0 t=g9 (arY t) (asE t):=by unfold asC;rw[if_neg (by omega),if_neg c]
 have hl:=j.2.2.1;have hd:(g9 (arY t) (asE t)).2=0:=by rw[<-e,h]
 have hu:(g9 (arY t) (asE t)).1=u:=by rw[<-e,h]
 have hn:0<t.ins.length:=by omega
 obtain⟨s1,p,q⟩:=auV (mL hc) hn hd;have same:∀turns out exit n,_:=λturns out exit n=>auW w (stc:=stc) (S0:=S0) (th:=th) (turns:=turns) (out:=out) (exit:=exit) (n:=n) hc rfl (by omega) hn (by omega) (by omega) l hd;rw[hu] at s1 p q same;have g:=(same 0 S0 0 0).1;refine⟨g,⟨u,?_,λ_=>rfl⟩,⟨by omega,by omega⟩,?_,λturns out exit n s=>?_⟩;·unfold asC;rw[if_neg (by omega),if_pos (.inl (by omega))];exact f g
 ·unfold atJ;omega
 ·obtain⟨x,q1,r⟩:=(same turns out exit n).2 s;exact⟨x,q1,decide_eq_decide.2 r⟩
end
end Go.Proofs.YtijihlcdhppfgaaGreatDoor
