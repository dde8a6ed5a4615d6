/- Part of the walk of the given code: contracts, and plain laws. -/
import Derived.Test.YtijihlcdhppfgaaGreatDoorZM
import Derived.Test.YtijihlcdhppfgaaGreatDoorZBA
import Derived.Test.YtijihlcdhppfgaaGreatDoorYR
import Derived.Test.YtijihlcdhppfgaaGreatDoorZCC
import Derived.Test.YtijihlcdhppfgaaGreatDoorYB
set_option maxHeartbeats 16000000
set_option maxRecDepth 100000
set_option linter.all false
namespace Go.Proofs.YtijihlcdhppfgaaGreatDoor
open Tryz
section
def eqG (x y:aT):Bool:=y.op == x.op && y.a == x.a && y.b == x.b && y.n == x.n && (y.k.kind == x.k.kind && y.k.n == x.k.n)
def alI (ins:List aT) (i:Nat) (x:aT):Bool:=(ins.take i).any (eqG x)
def al0 (ins:List aT) (i:Nat) (x:aT):Bool:=
 if kindM ins x.a i=0/\x.n=0 then true else if 2<=kindM ins x.a i/\kindM ins x.a i<=6/\x.n=1 then true else alI ins i x
def amA (t:aH):Bool:=(t.ins.drop t.loop.toNat).any (λy=>y.op == 12)
def alT (t:aH) (i:Nat):Nat:=if t.loop<=i/\amA t=true then t.loop.toNat else 0
def ak9 (ins:List aT) (x:aT) (lo:Nat):Nat->Bool
 | 0=>false
 | k+1=>
  if k<lo then false
  else if(insAt ins k).op=9/\(insAt ins k).a=x.a/\(insAt ins k).n=1 then(insAt ins k).b == x.b
  else if(insAt ins k).op=16/\(k:Int)=x.a/\(insAt ins k).n=1 then x.b == 0
  else if(insAt ins k).op=12 then(insAt ins k).a == x.a && (insAt ins k).n == x.b
  else ak9 ins x lo k
def alF (t:aH) (i:Nat) (x:aT):Bool:=
 if x.op=4 then kindM t.ins x.a i == x.n
 else if x.op=5 then al0 t.ins i x
 else if x.op=6\/x.op=19 then alI t.ins i x
 else if x.op=9 then if x.n=1 then ak9 t.ins x (alT t i) i else alI t.ins i x || ((insAt t.ins x.a).op == 16 && (insAt t.ins x.a).n == x.n)
 else false
def toG (t:aH) (i:Nat):Int:=if alF t i (insAt t.ins i) then -1 else i
def ak4 (t:aH):List Int:=(List.range t.ins.length).map (toG t)
def alG (ce:Int) (t:aH):aH×Int:=if ce≠0 then(mT,ce) else g9 t (ak4 t)
end
section
set_option maxHeartbeats 1000000
def ak7 (b:Bool) (cs cs':List bJ):Prop:=∀(r:Nat) c,cs[r]? = some c->c.kind≠0->∃c',cs'[r]? = some c'/\c'.kind=c.kind/\(b=true->c'.num=c.num)
theorem ak7.refl (b:Bool) (cs:List bJ):ak7 b cs cs:=λ_ c h _=>⟨c,h,rfl,λ_=>rfl⟩
theorem ak7.trans {b:Bool} {f g j:List bJ} (h:ak7 b f g) (k:ak7 b g j):ak7 b f j:=λr c u v=>by
 obtain⟨d,l,w,p⟩:=h r c u v
 obtain⟨e,q,x,s⟩:=k r d l (by omega)
 exact⟨e,q,by omega,λhb=>by rw[s hb,p hb]⟩
theorem ak7.set {b:Bool} {cs:List bJ} {n:Nat} {c d:bJ} (j:cs[n]? = some c) (h:c.kind≠0->d.kind=c.kind/\(b=true->d.num=c.num)):ak7 b cs (cs.set n d):=λr a f g=>by
 by_cases e:n=r
 ·subst e
  rw[j] at f;injection f with f;subst f
  exact⟨d,by rw[List.getElem?_set_self (lE j).1],(h g).1,(h g).2⟩
 ·exact⟨a,by rw[List.getElem?_set_ne e];exact f,rfl,λ_=>rfl⟩
theorem ak7.snoc (b:Bool) (cs:List bJ) (d:bJ):ak7 b cs (cs++[d]):=λr a f _=>⟨a,by rw[List.getElem?_append_left (lE f).1];exact f,rfl,λ_=>rfl⟩
theorem aoL {b:Bool} {w:aG} {v:Int} {n:Nat} {c d:bJ} (h:dG w v=some (n,c)) (f:c.kind≠0->d.kind=c.kind/\(b=true->d.num=c.num)):ak7 b w.cells (setCW w n d).cells:=ak7.set (ad4 h).1 f
theorem aoG (E:iH) (self:Val) (shapes:List aO) (w:aG) (i:Nat) (x:aT):ak7 (x.op != 12) w.cells (doI E self shapes w i x).1.cells:=by
 have hf:∀k,ak7 (x.op != 12) w.cells (eP w i k).1.cells:=λk=>by
  unfold eP;split;·exact .refl _ _
  ·exact .snoc _ _ _
 unfold doI;iterate 6 refine cI (λr:aG×Int=>ak7 (x.op != 12) w.cells r.1.cells) (λ_=>.refl _ _) λ_=>?_
 refine cI (λr:aG×Int=>ak7 (x.op != 12) w.cells r.1.cells) (λc=>?_) λ_=>?_
 ·unfold jK;split;·exact .refl _ _
  ·rename_i h;split;·exact .refl _ _
   ·split;·exact .refl _ _
    ·split;·exact aoL h (λ_=>⟨rfl,λ_=>rfl⟩)
     ·exact .refl _ _
 refine cI (λr:aG×Int=>ak7 (x.op != 12) w.cells r.1.cells) (λc=>?_) λ_=>?_
 ·unfold lH;split;·exact .refl _ _
  ·rename_i h;split;·exact .refl _ _
   ·split;·exact .refl _ _
    ·split;·exact .refl _ _
     ·exact aoL h (λ_=>⟨rfl,λhb=>by rw[c] at hb;cases hb⟩)
 refine cI (λr:aG×Int=>ak7 (x.op != 12) w.cells r.1.cells) (λc=>?_) λ_=>?_
 ·unfold nE;split;·exact .refl _ _
  ·rename_i h;split;·exact .refl _ _
   ·split;·exact .refl _ _
    ·split;·exact .refl _ _
     ·exact aoL h (λ_=>⟨rfl,λ_=>rfl⟩)
 refine cI (λr:aG×Int=>ak7 (x.op != 12) w.cells r.1.cells) (λc=>?_) λ_=>?_;·exact hf _
 refine cI (λr:aG×Int=>ak7 (x.op != 12) w.cells r.1.cells) (λc=>?_) λ_=>?_
 ·unfold j6;split;·exact .refl _ _
  ·rename_i h;split;·exact .refl _ _
   ·split;·exact aoL h (λ_=>⟨rfl,λ_=>rfl⟩)
    ·split <;> exact .refl _ _
 refine cI (λr:aG×Int=>ak7 (x.op != 12) w.cells r.1.cells) (λc=>?_) λ_=>?_;·exact .refl _ _
 ·exact hf _
theorem alR (b:Bool):∀(l:List dX) (w:aG),ak7 b w.cells (eO w l).1.cells/\(eO w l).1.vals=w.vals
 | [],w=>⟨.refl _ _,rfl⟩
 | m::l,w=>by
  have h1:ak7 b w.cells (gF w m).1.cells/\(gF w m).1.vals=w.vals:=by
   unfold gF
   split
   ·exact⟨.refl _ _,rfl⟩
   ·rename_i h
    split
    ·exact⟨.refl _ _,rfl⟩
    ·rename_i f
     exact⟨aoL h (λc=>absurd c (by simpa using f)),rfl⟩
  unfold eO
  split
  ·exact h1
  ·have d:=alR b l (gF w m).1
   exact⟨h1.1.trans d.1,d.2.trans h1.2⟩
theorem anA (l:List oL):∀w:aG,(gY w l).cells=w.cells:=by
 induction l with
 | nil=>intro w;rfl
 | cons s l ih=>intro w;exact ih _
theorem anX (w:aG) (x:bX):(g8 w x).1.vals=w.vals:=by
 have h:=(alR true x.makes w).2;have d:∀(l:List oL) (w:aG),(gY w l).vals=w.vals:=λl=>by
  induction l with
  | nil=>intro w;rfl
  | cons s l ih=>intro w;exact ih _
 unfold g8;split;·exact h
 ·exact(d _ _).trans h
theorem amV (b:Bool) (w:aG) (x:bX):ak7 b w.cells (g8 w x).1.cells:=by
 have h:=(alR b x.makes w).1;unfold g8;split;·exact h
 ·show ak7 b w.cells (gY (eO w x.makes).1 x.sets).cells;rw[anA];exact h
structure GAt (E:iH) (shapes:List aO) (t:aH) (w:aG) (v:Nat):Prop where
 fact:alN E t w v
 tru:(bT t v).op=5->E.T (bL w (bT t v).a)=((bT t v).n == 1)
 shp:(bT t v).op=19->(match shapes[(bT t v).n.toNat]? with | none=>false | some s=>s.up == (bT t v).b)=true
 cel:(bT t v).op=9->∃r c,dG w (bT t v).a=some (r,c)/\c.kind=(bT t v).n
 new:(bT t v).op=16->∃r c,dG w v=some (r,c)/\c.kind=(bT t v).n
structure SAt (t:aH) (w:aG) (v:Nat):Prop where
 s9:(bT t v).op=9->(bT t v).n=1->∃r c,dG w (bT t v).a=some (r,c)/\c.kind=1/\c.num=(bT t v).b
 s16:(bT t v).op=16->(bT t v).n=1->∃r c,dG w v=some (r,c)/\c.kind=1/\c.num=0
 s12:(bT t v).op=12->∃r c,dG w (bT t v).a=some (r,c)/\c.kind=1/\c.num=(bT t v).n
theorem alK {b:Bool} {w w':aG} {o:Int} {r:Nat} {c:bJ} (h:dG w o=some (r,c)) (p:bL w' o=bL w o) (k:ak7 b w.cells w'.cells) (q:c.kind≠0) : ∃c',dG w' o=some (r,c')/\c'.kind=c.kind/\(b=true->c'.num=c.num):=by obtain⟨h1,d,f⟩:=ad4 h;obtain⟨c',g,j,l⟩:=k r c h1 q;refine⟨c',?_,j,l⟩;unfold dG;rw[p,if_pos ⟨d,by omega⟩,f,Int.toNat_natCast,g];rfl
def anE (t:aH):Prop:=∀i:Nat,((bT t i).op=4->0<=(bT t i).n)/\((bT t i).op=9->1<=(bT t i).n)/\((bT t i).op=16->1<=(bT t i).n)
section
variable {E:iH} {self:Val} {shapes:List aO} {t:aH} {w w':aG} {v i:Nat} {Q:Val->Prop}
theorem anG (g:∀o∈bU (bT t v),0<=o/\o<(v:Int)) (h:∀u:Nat,u<=v->w'.vals[u]? = w.vals[u]?) (c:0<(bP (bT t v).op).asks):bL w' (bT t v).a=bL w (bT t v).a:=by obtain⟨d,j⟩:=g _ (nL (k:=0) rfl c);obtain⟨n,f⟩:=Int.eq_ofNat_of_zero_le d;rw[f];exact ad9 (h n (by omega))
theorem GAt.old {b:Bool} (h:GAt E shapes t w v) (num:anE t) (p:∀o∈bU (bT t v),0<=o/\o<(v:Int)) (f:∀u:Nat,u<=v->w'.vals[u]? = w.vals[u]?) (k:ak7 b w.cells w'.cells):GAt E shapes t w' v where
 fact:=am6 h.fact p f
 tru c:=by rw[anG p f (by rw[c];decide)];exact h.tru c
 shp:=h.shp
 cel c:=by
  obtain⟨r,d,g,q⟩:=h.cel c
  obtain⟨j,l,s,-⟩:=alK g (anG p f (by rw[c];decide)) k (by have:=(num v).2.1 c;omega)
  exact⟨r,j,l,by omega⟩
 new c:=by
  obtain⟨r,d,g,q⟩:=h.new c
  obtain⟨j,l,s,-⟩:=alK g (ad9 (f v (Nat.le_refl _))) k (by have:=(num v).2.2 c;omega)
  exact⟨r,j,l,by omega⟩
theorem SAt.old (h:SAt t w v) (y:∀o∈bU (bT t v),0<=o/\o<(v:Int)) (q:∀u:Nat,u<=v->w'.vals[u]? = w.vals[u]?) (k:ak7 true w.cells w'.cells):SAt t w' v where
 s9 c c1:=by
  obtain⟨r,d,f,s,g⟩:=h.s9 c c1
  obtain⟨j,l,x,p⟩:=alK f (anG y q (by rw[c];decide)) k (by omega)
  exact⟨r,j,l,by omega,by rw[p rfl,g]⟩
 s16 c c1:=by
  obtain⟨r,d,f,s,g⟩:=h.s16 c c1
  obtain⟨j,l,x,p⟩:=alK f (ad9 (q v (Nat.le_refl _))) k (by omega)
  exact⟨r,j,l,by omega,by rw[p rfl,g]⟩
 s12 c:=by
  obtain⟨r,d,f,s,g⟩:=h.s12 c
  obtain⟨j,l,x,p⟩:=alK f (anG y q (by rw[c];decide)) k (by omega)
  exact⟨r,j,l,by omega,by rw[p rfl,g]⟩
theorem anN {x:aT} (h:x.op=4\/x.op=5\/x.op=6\/x.op=9):doI E self shapes w i x=(w,isW (jF E w x) 1):=by unfold doI;rw[if_neg (by omega),if_neg (by omega),if_neg (by omega),if_pos h]
theorem aoH {x:aT} (h:x.op=19):doI E self shapes w i x=(w,isW (match shapes[x.n.toNat]? with | none=>false | some s=>s.up == x.b) 1):=by unfold doI;rw[if_neg (by omega),if_neg (by omega),if_neg (by omega),if_neg (by omega),if_neg (by omega),if_neg (by omega),if_neg (by omega),if_neg (by omega),if_neg (by omega),if_neg (by omega),if_neg (by omega),if_pos h];rfl
theorem doI_12 {x:aT} (h:x.op=12):doI E self shapes w i x=lH shapes w x:=by unfold doI;rw[if_neg (by omega),if_neg (by omega),if_neg (by omega),if_neg (by omega),if_neg (by omega),if_neg (by omega),if_neg (by omega),if_pos h]
theorem aoI {x:aT} (h:x.op=16):doI E self shapes w i x=eP w i x.n:=by unfold doI;rw[if_neg (by omega),if_neg (by omega),if_neg (by omega),if_neg (by omega),if_neg (by omega),if_neg (by omega),if_neg (by omega),if_neg (by omega),if_neg (by omega),if_pos h]
theorem anJ {b:Bool} (h:isW b 1=0):b=true:=by
 cases b;·cases h
 ·rfl
theorem GAt.fresh (hl:w.vals.length=t.ins.length) (hi:i<t.ins.length) (f:∀o∈bU (bT t i),0<=o/\o<(i:Int)) (d:(doW E t self shapes w i).2=0):GAt E shapes t (doW E t self shapes w i).1 i where
 fact:=am7 hl hi self shapes f d
 tru c:=by
  unfold doW at d ⊢
  rw[anN (.inr (.inl c))] at d ⊢
  have:=anJ d
  unfold jF at this
  rw[if_neg (by omega),if_pos c] at this
  exact beq_iff_eq.1 this
 shp c:=by
  unfold doW at d
  rw[aoH c] at d
  exact anJ d
 cel c:=by
  unfold doW at d ⊢
  rw[anN (.inr (.inr (.inr c)))] at d ⊢
  have:=anJ d
  unfold jF at this
  rw[if_neg (by omega),if_neg (by omega),if_neg (by omega)] at this
  cases e:dG w (bT t i).a with
  | none=>rw[e] at this;cases this
  | some p=>
   rw[e] at this
   simp only[Bool.and_eq_true,beq_iff_eq] at this
   exact⟨p.1,p.2,rfl,this.1⟩
 new c:=by
  unfold doW at d ⊢
  rw[aoI c] at d ⊢
  unfold eP at d ⊢
  split at d
  ·cases d
  ·rename_i g
   rw[if_neg g]
   refine⟨w.cells.length,⟨(bT t i).n,0,[],[]⟩,?_,rfl⟩
   unfold dG
   have e:bL { w with vals:=w.vals.set i ⟨5,w.cells.length⟩,cells:=w.cells++[⟨(bT t i).n,0,[],[]⟩] } (i:Int)=⟨5,w.cells.length⟩:=by
    unfold bL
    rw[show(i:Int).toNat=i from rfl,List.getElem?_set_self (by omega)];rfl
   rw[e,if_pos ⟨rfl,Int.natCast_nonneg _⟩]
   simp
theorem guard_9 {x:aT} (h:x.op=9) (d:jF E w x=true):∃r c,dG w x.a=some (r,c)/\c.kind=x.n/\(x.n=1->c.num=x.b):=by
 unfold jF at d
 rw[if_neg (by omega),if_neg (by omega),if_neg (by omega)] at d
 cases e:dG w x.a with
 | none=>rw[e] at d;cases d
 | some p=>
  rw[e] at d
  simp only[Bool.and_eq_true,beq_iff_eq,Bool.or_eq_true,bne_iff_ne,ne_eq] at d
  exact⟨p.1,p.2,rfl,d.1,λc=>d.2.resolve_left (λq=>q c)⟩
theorem SAt.fresh (hl:w.vals.length=t.ins.length) (hi:i<t.ins.length) (f:(doW E t self shapes w i).2=0):SAt t (doW E t self shapes w i).1 i where
 s9 c c1:=by
  unfold doW at f ⊢
  rw[anN (.inr (.inr (.inr c)))] at f ⊢
  obtain⟨r,d,l,z,u⟩:=guard_9 c (anJ f)
  exact⟨r,d,l,by omega,u c1⟩
 s16 c c1:=by
  unfold doW at f ⊢
  rw[aoI c] at f ⊢
  unfold eP at f ⊢
  split at f
  ·cases f
  ·rename_i y
   rw[if_neg y]
   refine⟨w.cells.length,⟨(bT t i).n,0,[],[]⟩,?_,c1,rfl⟩
   unfold dG
   have e:bL { w with vals:=w.vals.set i ⟨5,w.cells.length⟩,cells:=w.cells++[⟨(bT t i).n,0,[],[]⟩] } (i:Int)=⟨5,w.cells.length⟩:=by
    unfold bL
    rw[show(i:Int).toNat=i from rfl,List.getElem?_set_self (by omega)];rfl
   rw[e,if_pos ⟨rfl,Int.natCast_nonneg _⟩]
   simp
 s12 c:=by
  unfold doW at f ⊢
  rw[doI_12 c] at f ⊢
  unfold lH at f ⊢
  cases e:dG w (bT t i).a with
  | none=>rw[e] at f;cases f
  | some p=>
   obtain⟨n,d⟩:=p
   rw[e] at f
   dsimp only at f ⊢
   by_cases g:d.kind≠1
   ·rw[if_pos g] at f;cases f
   rw[if_neg g] at f ⊢
   cases j:shapes[(bT t i).n.toNat]? with
   | none=>rw[j] at f;cases f
   | some s=>
    rw[j] at f
    dsimp only at f ⊢
    by_cases h:s.up≠d.num\/100<=d.vals.length
    ·rw[if_pos h] at f;cases f
    rw[if_neg h]
    obtain⟨h1,v,x⟩:=ad4 e
    refine⟨n,{ d with num:=(bT t i).n,vals:=d.vals++[bL w (bT t i).b] },?_,(show d.kind=1 by omega),rfl⟩
    unfold dG
    rw[show ∀q,bL (setCW w n q) (bT t i).a=bL w (bT t i).a from λ_=>rfl,if_pos ⟨v,by omega⟩,x,Int.toNat_natCast]
    show((w.cells.set n _)[n]?).map _=_
    rw[List.getElem?_set_self (lE h1).1];rfl
structure an1 (Q:Val->Prop) (E:iH) (shapes:List aO) (t:aH) (lo i:Nat) (w:aG):Prop where
 tame:ak6 Q w
 len:w.vals.length=t.ins.length
 all:∀v<i,GAt E shapes t w v
 shp:∀v<i,(∀u:Nat,v<u->u<i->(bT t u).op≠12)->(v<lo->amA t=false)->SAt t w v
 from_:lo=0\/lo=t.loop.toNat
theorem al4 (ask:acO t) {v:Nat} (f:v<t.ins.length):∀o∈bU (bT t v),0<=o/\o<(v:Int):=λo d=>⟨(ask v _ (vB f) o d).1,(ask v _ (vB f) o d).2.1⟩
theorem aoC (q:QOk Q E) (qs:Q self) (r:KQ Q t) (ask:acO t) (num:anE t) {f:Nat} (h:an1 Q E shapes t f i w) (hi:i<t.ins.length) (g:(doW E t self shapes w i).2=0):an1 Q E shapes t f (i+1) (doW E t self shapes w i).1:=by
 have d:=xB w.cells E self shapes w i (bT t i);change iS w.cells i w (doW E t self shapes w i).1 at d;have k:=aoG E self shapes w i (bT t i);change ak7 _ w.cells (doW E t self shapes w i).1.cells at k;refine⟨h.tame.do_ q qs shapes i _ (r i),d.len.trans h.len,λv j=>?_,λv j h1 l=>?_,h.from_⟩
 ·by_cases e:v=i;·subst e;exact .fresh h.len hi (al4 ask hi) g
  ·exact(h.all v (by omega)).old num (al4 ask (by omega)) (λu p=>d.vals u (by omega)) k
 ·by_cases e:v=i;·subst e;exact .fresh h.len hi g
  ·rw[show((bT t i).op != 12)=true by simpa using h1 i (by omega) (by omega)] at k;exact(h.shp v (by omega) (λu a b=>h1 u a (by omega)) l).old (al4 ask (by omega)) (λu p=>d.vals u (by omega)) k
theorem anU (h:amA t=false) {u:Nat} (h1:t.loop.toNat<=u) (f:u<t.ins.length):(bT t u).op≠12:=λc=>by
 unfold amA at h
 rw[List.any_eq_false] at h
 have d:=vB f
 refine h (bT t u) ?_ (by simpa using c)
 refine List.mem_of_getElem? (i:=u - t.loop.toNat) ?_
 rw[List.getElem?_drop,show t.loop.toNat+(u - t.loop.toNat)=u by omega]
 exact d
theorem anM (ask:acO t) (num:anE t) {l n:Nat} (h:an1 Q E shapes t l n w) (q:t.loop.toNat<=n) (hl:n<=t.ins.length) (q0:Q ⟨0,0⟩) {x:bX} (p:amD x):an1 Q E shapes t t.loop.toNat t.loop.toNat (g8 w x).1:=by
 have f:(g8 w x).1.vals=w.vals:=anX w x;refine⟨h.tame.end_ q0 x p,by rw[f];exact h.len,λv d=>?_,λv d h1 j=>?_,.inr rfl⟩;·exact(h.all v (by omega)).old num (al4 ask (by omega)) (λu _=>by rw[f]) (amV true w x)
 ·have g:=j d;refine(h.shp v (by omega) (λu a b=>?_) (λ_=>g)).old (al4 ask (by omega)) (λu _=>by rw[f]) (amV true w x);rcases Nat.lt_or_ge u t.loop.toNat with c | c;·exact h1 u a c
  ·exact anU g c (by omega)
structure amI (Q:Val->Prop) (E:iH):Prop where
 nil:∀v:Val,v.kind=0->E.T v=false
 some_:∀v:Val,Q v->2<=v.kind->v.kind<=6->E.T v=true
theorem al3 {x:aT} (hi:i<t.ins.length) (h:alI t.ins i x=true):∃j,j<i/\(bT t j).op=x.op/\(bT t j).a=x.a/\(bT t j).b=x.b/\(bT t j).n=x.n/\(bT t j).k=x.k:=by
 unfold alI at h;obtain⟨y,h1,f⟩:=List.any_eq_true.1 h;obtain⟨j,d⟩:=List.mem_iff_getElem?.1 h1;rw[List.getElem?_take] at d;split at d;case isFalse=>cases d
 rename_i c;have e:=aaN d;simp only[eqG,Bool.and_eq_true,beq_iff_eq] at f;obtain⟨⟨⟨⟨a1,a2⟩,a3⟩,a4⟩,a5,a6⟩:=f;refine⟨j,c,?_⟩;rw[e];exact⟨a1,a2,a3,a4,by cases g:y.k;cases l:x.k;rw[g,l] at a5 a6;dsimp only at a5 a6;rw[a5,a6]⟩
theorem al6 (x:aT) (g:Nat):∀k:Nat,ak9 t.ins x g k=true->∃m,g<=m/\m<k/\(∀u:Nat,m<u->u<k->(bT t u).op≠12)/\
  (((bT t m).op=9/\(bT t m).a=x.a/\(bT t m).n=1/\(bT t m).b=x.b)\/((bT t m).op=16/\(m:Int)=x.a/\(bT t m).n=1/\x.b=0)\/((bT t m).op=12/\(bT t m).a=x.a/\(bT t m).n=x.b))
 | 0,h=>by cases h
 | k+1,h=>by
  unfold ak9 at h
  rw[show insAt t.ins (k:Int)=bT t k from rfl] at h
  by_cases c:k<g
  ·rw[if_pos c] at h;cases h
  rw[if_neg c] at h
  by_cases d:(bT t k).op=9/\(bT t k).a=x.a/\(bT t k).n=1
  ·rw[if_pos d] at h
   exact⟨k,by omega,by omega,λu a b=>by omega,.inl ⟨d.1,d.2.1,d.2.2,beq_iff_eq.1 h⟩⟩
  rw[if_neg d] at h
  by_cases f:(bT t k).op=16/\(k:Int)=x.a/\(bT t k).n=1
  ·rw[if_pos f] at h
   exact⟨k,by omega,by omega,λu a b=>by omega,.inr (.inl ⟨f.1,f.2.1,f.2.2,beq_iff_eq.1 h⟩)⟩
  rw[if_neg f] at h
  by_cases j:(bT t k).op=12
  ·rw[if_pos j] at h
   simp only[Bool.and_eq_true,beq_iff_eq] at h
   exact⟨k,by omega,by omega,λu a b=>by omega,.inr (.inr ⟨j,h.1,h.2⟩)⟩
  rw[if_neg j] at h
  obtain⟨m,l,r,p,q⟩:=al6 x g k h
  refine⟨m,l,by omega,λu a b=>?_,q⟩
  by_cases e:u=k
  ·rw[e];exact j
  ·exact p u a (by omega)
theorem alS {x:aT} {r:Nat} {c:bJ} (h:x.op=9) (d:dG w x.a=some (r,c)) (h1:c.kind=x.n) (f:x.n=1->c.num=x.b):jF E w x=true:=by
 unfold jF;rw[if_neg (by omega),if_neg (by omega),if_neg (by omega),d];simp only[Bool.and_eq_true,beq_iff_eq,Bool.or_eq_true,bne_iff_ne,ne_eq];refine⟨h1,?_⟩;by_cases q:x.n=1;·exact .inr (f q)
 ·exact .inl q
theorem aoD (Z:amS E) (q0:Q ⟨0,0⟩) (tr:amI Q E) (ask:acO t) (I:amX t) (num:anE t) {N:Nat} (h:an1 Q E shapes t N i w) (a5:N<=i) (hi:i<t.ins.length) (hs:alF t i (bT t i)=true) : doW E t self shapes w i=(w,0):=by
 have G:kindM t.ins (bT t i).a i≠-1->(bL w (bT t i).a).kind=kindM t.ins (bT t i).a i:=λc=> am0 Z ask I (m:=i) (λv Y=>(h.all v Y).fact) ((bT t i).a.toNat+1) (bT t i).a i (by omega) (Int.le_refl _) c;have z:((bT t i).op=4\/(bT t i).op=5\/(bT t i).op=6\/(bT t i).op=9)->jF E w (bT t i)=true->doW E t self shapes w i=(w,0):=λc e=>by unfold doW;rw[anN c,e];rfl
 unfold alF at hs;by_cases c4:(bT t i).op=4;·rw[if_pos c4] at hs;have e:=beq_iff_eq.1 hs;refine z (.inl c4) ?_;unfold jF;rw[if_pos c4,G (by have:=(num i).1 c4;omega),e];exact beq_self_eq_true _
 rw[if_neg c4] at hs;by_cases u:(bT t i).op=5
 ·rw[if_pos u] at hs;refine z (.inr (.inl u)) ?_;unfold jF;rw[if_neg c4,if_pos u];unfold al0 at hs;by_cases J:kindM t.ins (bT t i).a i=0/\(bT t i).n=0;·rw[tr.nil _ ((G (by omega)).trans J.1),J.2];rfl
  rw[if_neg J] at hs;by_cases O:2<=kindM t.ins (bT t i).a i/\kindM t.ins (bT t i).a i<=6/\(bT t i).n=1;·have:=G (by omega);rw[tr.some_ _ (h.tame.val q0 _) (by omega) (by omega),O.2.2];rfl
  rw[if_neg O] at hs;obtain⟨j,l,K,s,H,j5,j6⟩:=al3 hi hs;have:=(h.all j l).tru (by omega);rw[s,j5] at this;rw[this];exact beq_self_eq_true _
 rw[if_neg u] at hs;by_cases c6:(bT t i).op=6\/(bT t i).op=19
 ·rw[if_pos c6] at hs;obtain⟨j,l,K,s,H,j5,j6⟩:=al3 hi hs;rcases c6 with c6 | c6;·refine z (.inr (.inr (.inl c6))) ?_;unfold jF;rw[if_neg c4,if_neg u,if_pos c6];have:=(h.all j l).fact.same (by omega);rw[s,j6] at this;exact decide_eq_true this
  ·have:=(h.all j l).shp (by omega);rw[j5,H] at this;unfold doW;rw[aoH c6,this];rfl
 rw[if_neg c6] at hs;by_cases f:(bT t i).op=9;case neg=>rw[if_neg f] at hs;cases hs
 rw[if_pos f] at hs;refine z (.inr (.inr (.inr f))) ?_;by_cases D:(bT t i).n=1
 ·rw[if_pos D] at hs;obtain⟨m,m1,R,V,X⟩:=al6 _ _ _ hs;have S:=h.shp m R V (λc=>by
   rcases h.from_ with e | e
   ·omega
   ·cases g:amA t with
    | false=>rfl
    | true=>
     have:alT t i=t.loop.toNat:=by unfold alT;rw[if_pos ⟨by omega,g⟩]
     omega)
  rcases X with ⟨x,y,F,a4⟩ | ⟨x,y,F,a4⟩ | ⟨x,y,F⟩;·obtain⟨r,c,d,A,L⟩:=S.s9 x F;rw[y] at d;exact alS f d (by omega) (λ_=>by omega)
  ·obtain⟨r,c,d,A,L⟩:=S.s16 x F;rw[y] at d;exact alS f d (by omega) (λ_=>by omega)
  ·obtain⟨r,c,d,A,L⟩:=S.s12 x;rw[y] at d;exact alS f d (by omega) (λ_=>by omega)
 rw[if_neg D] at hs;rcases Bool.or_eq_true_iff.1 hs with hs | hs;·obtain⟨j,l,K,s,H,j5,j6⟩:=al3 hi hs;obtain⟨r,c,d,A⟩:=(h.all j l).cel (by omega);rw[s] at d;exact alS f d (by omega) (λq=>absurd q D)
 ·simp only[Bool.and_eq_true,beq_iff_eq] at hs;have P:=al4 ask hi (bT t i).a (nL (k:=0) rfl (by rw[f];decide));obtain⟨p,M⟩:=Int.eq_ofNat_of_zero_le P.1;rw[M] at hs;rw[show insAt t.ins (p:Int)=bT t p from rfl] at hs;obtain⟨r,c,d,A⟩:=(h.all p (by omega)).new hs.1;exact alS f (by rw[M];exact d) (by omega) (λq=>absurd q D)
theorem alU (hi:i<t.ins.length):(ak4 t)[i]? = some (if alF t i (bT t i) then -1 else(i:Int)):=by unfold ak4;rw[List.getElem?_map,List.getElem?_range hi];rfl
theorem aoF {n:Int} (h:(ak4 t)[i]? = some n):i<t.ins.length:=by have:=(lE h).1;simpa [ak4] using this
theorem aoE (p:amS E) (f:QOk Q E) (tr:amI Q E) (qs:Q self) (q:KQ Q t) (l:amD t.turn/\amD t.back) (ask:acO t) (g:amX t) (num:anE t) (hl:t.loop.toNat<=t.ins.length):xN E self shapes t t (ak4 t) (an1 Q E shapes t) where
 len:=rfl
 loop:=rfl
 turn:=rfl
 back:=rfl
 exits i e _ _ _ he:=.inl ⟨he,rfl⟩
 tells _:=rfl
 step lo i w hi _ h h0:=aoC f qs q ask num h hi h0
 turn_ _ w h _:=anM ask num h (Nat.le_refl _) hl f.zero l.1
 back_ w h _:=anM ask num h hl (Nat.le_refl _) f.zero l.2
 kept _ _ _ _ _ _ _:=rfl
 skip lo i w hi hlo h hk _:=by
  rw[alU hi] at hk
  have j:alF t i (bT t i)=true:=by
   cases c:alF t i (bT t i) with
   | true=>rfl
   | false=>rw[c] at hk;exact absurd rfl hk
  rw[aoD p f.zero tr ask g num h hlo hi j]
  refine⟨rfl,rfl,λ_ _=>rfl,rfl,λn d=>?_⟩
  rw[alU hi,j] at d
  injection d with d
  simp only[if_true] at d
  omega
end
theorem am5 (t:aH):oS t.ins (ak4 t) where
 tell i n hne h:=by
  rw[alU (aoF h)] at h
  injection h with h
  split at h <;> omega
 free i h:=by
  have hi:i<t.ins.length:=by
   rcases Nat.lt_or_ge i t.ins.length with c | c
   ·exact c
   ·unfold l6 at h
    rw[show(i:Int).toNat=i from rfl,List.getElem?_eq_none c] at h;simp at h
  have f:(bT t i).op=18:=by
   unfold l6 at h
   unfold bT
   cases e:t.ins[(i:Int).toNat]? with
   | none=>rw[e] at h;simp at h
   | some x=>rw[e] at h;simpa using h
  have d:alF t i (bT t i)=false:=by
   unfold alF
   rw[if_neg (by omega),if_neg (by omega),if_neg (by omega),if_neg (by omega)]
  rw[alU hi,d];rfl
theorem anD {R:Val->Bool} {g:Int} {fns:List FnM} {t:aH} (h:cQ R g fns t=0):anE t:=λi=>by
 rcases Nat.lt_or_ge i t.ins.length with c | c
 ·obtain⟨_,fn,h1⟩:=xH h
  obtain⟨_,f⟩:=fW t.ins 0 h1 i _ (vB c)
  simp only[eJ,Bool.and_eq_true,Bool.not_eq_true',Bool.or_eq_false_iff,decide_eq_false_iff_not] at f
  have d:=f.1.1.2.1.1
  refine⟨λe=>?_,λe=>?_,λe=>?_⟩
  ·rw[e] at d;have:(bP 4).low=0:=by decide
   omega
  ·rw[e] at d;have:(bP 9).low=1:=by decide
   omega
  ·rw[e] at d;have:(bP 16).low=1:=by decide
   omega
 ·have:bT t i=⟨0,0,0,0,0,0,⟨0,0⟩⟩:=by
   unfold bT
   rw[show(i:Int).toNat=i from rfl,List.getElem?_eq_none c];rfl
  rw[this]
  refine⟨λe=>?_,λe=>?_,λe=>?_⟩ <;> cases e
theorem anB {t:aH} (ask:acO t) (num:anE t) (h:0<t.ins.length):alF t 0 (bT t (0:Nat))=false:=by
 have d:kindM t.ins (bT t (0:Nat)).a (0:Nat) = -1:=by rw[kindM_eq,if_pos (by omega)]
 have f:alI t.ins 0 (bT t (0:Nat))=false:=by unfold alI;rw[List.take_zero];rfl
 unfold alF;by_cases c4:(bT t (0:Nat)).op=4;·rw[if_pos c4,d];have:=(num 0).1 c4;exact beq_eq_false_iff_ne.2 (by omega)
 rw[if_neg c4];by_cases g:(bT t (0:Nat)).op=5;·rw[if_pos g];unfold al0;rw[d,if_neg (by omega),if_neg (by omega),f]
 rw[if_neg g,f];split;·rfl
 split;·rename_i j;have:=al4 ask h (bT t (0:Nat)).a (nL (k:=0) rfl (by rw[j];decide));omega
 ·rfl
theorem amQ {E:iH} (D:amS E) {Q:Val->Prop} (r:QOk Q E) (tr:amI Q E) {R:Val->Bool} {j:Int} {fns:List FnM} {stc:Int} {t:aH} {S0 out:aP} {th turns exit n:Int} (d:cQ R j fns t=0) (F:KQ Q t) (s:stc=0->FitQ Q S0) (u:j=0) (w:(g9 t (ak4 t)).2=0) : cQ R j fns (g9 t (ak4 t)).1=0/\(mC E 0 stc t S0 th turns=(out,exit,n,0)->mC E 0 stc (g9 t (ak4 t)).1 S0 th turns=(out,exit,n,0)):=by
 have l:=am5 t;have g:=xG d;have ask:=acA d;have num:=anD d;have p:0<t.loop->(ak4 t)[0]? = some 0:=λc=>by
  have q:0<t.ins.length:=by have:=g.2.2;omega
  rw[alU q,anB ask num q];rfl
 refine⟨zR d u w l p,λh=>run_cut h (pM d) g d w l p rfl rfl λf G y z=>?_⟩;obtain⟨qs,x⟩:=(s (run_ok h).2.1).begin r.zero t y z;refine⟨_,aoE D r tr qs F (am8 d) ask (anY d) num (by have:=g.2.2;omega),?_⟩;exact⟨x,by simp[gG],λv A=>by omega,λv A=>by omega,.inl rfl⟩
end
end Go.Proofs.YtijihlcdhppfgaaGreatDoor
