/- A part of the walk. -/
import Derived.Test.YtjaphgpkkfdaaaaGreatDoorYQA
set_option maxHeartbeats 16000000
set_option maxRecDepth 100000
set_option linter.all false
namespace Go.Proofs.YtjaphgpkkfdaaaaGreatDoor
open Tryz
section
def ajP (n:Int):Int:=min (max n (-2147483648)) 2147483647
def alZ:Int×Int:=(-2147483648,2147483647)
def ajU (ins:List bG) (i:Int):Bool:=hZ ins (insAt ins i).a i == 2 && hZ ins (insAt ins i).b i == 2
def aj5 (S:Int->Int×Int) (x:bG):Option (Int×Int):=
 if x.n=3 then some ((S x.a).1+(S x.b).1,(S x.a).2+(S x.b).2)
 else if x.n=4 then some ((S x.a).1 - (S x.b).2,(S x.a).2 - (S x.b).1)
 else if x.n=5 then some (min (min (min ((S x.a).1*(S x.b).1) ((S x.a).1*(S x.b).2)) ((S x.a).2*(S x.b).1)) ((S x.a).2*(S x.b).2),max (max (max ((S x.a).1*(S x.b).1) ((S x.a).1*(S x.b).2)) ((S x.a).2*(S x.b).1)) ((S x.a).2*(S x.b).2))
 else none
def ai4 (ins:List bG) (S:Int->Int×Int) (v:Int):Int×Int:=
 if(insAt ins v).op=2/\(insAt ins v).k.kind=2 then((insAt ins v).k.n,(insAt ins v).k.n)
 else if(insAt ins v).op=15 then(0,600)
 else if(insAt ins v).op≠7\/ajU ins v=false then alZ
 else match aj5 S (insAt ins v) with
  | some b=>(ajP b.1,ajP b.2)
  | none=>if(insAt ins v).n=7/\1<=(S (insAt ins v).b).1 then
    (if 0<=(S (insAt ins v).a).1 then(0,(S (insAt ins v).b).2 - 1) else(-((S (insAt ins v).b).2 - 1),(S (insAt ins v).b).2 - 1))
   else alZ
def ajA (S:Int->Int×Int) (s:Int×Int) (v a b d:Int):Int×Int:=
 let s1:=if v=a then(if s.1<=min s.2 ((S b).2 - d) then(s.1,min s.2 ((S b).2 - d)) else s) else s
 if v=b then(if max s1.1 ((S a).1+d)<=s1.2 then(max s1.1 ((S a).1+d),s1.2) else s1) else s1
def ai6 (ins:List bG) (S:Int->Int->Int×Int) (v:Int) (s:Int×Int) (i:Nat):Int×Int:=
 if(insAt ins i).op≠5 then s
 else if(insAt ins (insAt ins i).a).op≠7\/((insAt ins (insAt ins i).a).n≠9/\(insAt ins (insAt ins i).a).n≠10)\/((insAt ins (insAt ins i).a).a≠v/\(insAt ins (insAt ins i).a).b≠v)\/ajU ins (insAt ins i).a=false then s
 else if(insAt ins i).n=1 then ajA (S · i) s v (insAt ins (insAt ins i).a).a (insAt ins (insAt ins i).a).b (if(insAt ins (insAt ins i).a).n=9 then 1 else 0)
 else ajA (S · i) s v (insAt ins (insAt ins i).a).b (insAt ins (insAt ins i).a).a (1 - (if(insAt ins (insAt ins i).a).n=9 then 1 else 0))
def alE (v at_:Int):List Nat:=List.range' (v.toNat+1) (at_.toNat - (v.toNat+1))
def ajH (ins:List bG):Nat->Int->Int->Int×Int
 | 0,_,_=>alZ
 | n+1,v,at_=>if v<0\/at_<=v then alZ else(alE v at_).foldl (ai6 ins (ajH ins n) v) (ai4 ins (ajH ins n · v) v)
def ai0 (ins:List bG) (v at_:Int):Int×Int:=ajH ins (at_.toNat+1) v at_
theorem ajZ {S T:Int->Int×Int} (h:∀v,S v=T v) (ins:List bG) (v:Int):ai4 ins S v=ai4 ins T v:=by obtain rfl:S=T:=funext h;rfl
theorem ajR {S T:Int->Int->Int×Int} (ins:List bG) (v:Int) (s:Int×Int) (i:Nat) (h:∀u,S u i=T u i):ai6 ins S v s i=ai6 ins T v s i:=by have e:(S · (i:Int))=(T · (i:Int)):=funext h;unfold ai6;rw[e]
theorem aj0 {α : Type} {f g : α->Nat->α} : ∀(l:List Nat) (s : α),(∀i∈l,∀s,f s i=g s i)->l.foldl f s=l.foldl g s
 | [],_,_=>rfl
 | i::l,s,h=>by
  rw[List.foldl_cons,List.foldl_cons,h i (by simp)]
  exact aj0 l _ (λj d=>h j (by simp[d]))
theorem aj8 {v at_:Int} {i:Nat} (h:i∈alE v at_):v.toNat<i/\i<at_.toNat:=by unfold alE at h;rw[List.mem_range'_1] at h;omega
theorem ajI (ins:List bG):∀(n m:Nat) (v at_:Int),at_.toNat<n->at_.toNat<m->ajH ins n v at_=ajH ins m v at_
 | 0,_,_,_,h,_=>by omega
 | _+1,0,_,_,_,h=>by omega
 | n+1,m+1,v,at_,h1,h2=>by
  unfold ajH
  by_cases c:v<0\/at_<=v
  ·rw[if_pos c,if_pos c]
  ·rw[if_neg c,if_neg c]
   have d:ai4 ins (ajH ins n · v) v=ai4 ins (ajH ins m · v) v:=ajZ (λu=>ajI ins n m u v (by omega) (by omega)) ins v
   rw[d]
   exact aj0 _ _ (λi hi s=>ajR ins v s i (λu=>ajI ins n m u i (by have:=aj8 hi;omega) (by have:=aj8 hi;omega)))
theorem ak4 (ins:List bG) (v at_:Int):ai0 ins v at_=if v<0\/at_<=v then alZ else(alE v at_).foldl (ai6 ins (ai0 ins) v) (ai4 ins (ai0 ins · v) v):=by
 show ajH ins (at_.toNat+1) v at_=_;unfold ajH;by_cases c:v<0\/at_<=v;·rw[if_pos c,if_pos c]
 ·rw[if_neg c,if_neg c];have d:ai4 ins (ajH ins at_.toNat · v) v=ai4 ins (ai0 ins · v) v:=ajZ (λu=>ajI ins _ _ u v (by omega) (by omega)) ins v;rw[d];exact aj0 _ _ (λi hi s=>ajR ins v s i (λu=>ajI ins _ _ u i (by have:=aj8 hi;omega) (by simp)))
def okS (s:Int×Int):Prop:=-2147483648<=s.1/\s.1<=s.2/\s.2<=2147483647
theorem alL:okS alZ:=⟨by decide,by decide,by decide⟩
def inS (s r:Int×Int):Prop:=r.1<=s.1/\s.1<=s.2/\s.2<=r.2
theorem inS.ok {s r:Int×Int} (h:inS s r) (k:okS r):okS s:=⟨Int.le_trans k.1 h.1,h.2.1,Int.le_trans h.2.2 k.2.2⟩
theorem akU (S:Int->Int×Int) {s r:Int×Int} (v a b d:Int) (h:inS s r):inS (ajA S s v a b d) r:=by
 obtain⟨f,i,j⟩:=h;unfold ajA;dsimp only;have e:inS (if v=a then(if s.1<=min s.2 ((S b).2 - d) then(s.1,min s.2 ((S b).2 - d)) else s) else s) r:=by
  split
  ·split;·exact⟨f,by assumption,by dsimp only;omega⟩
   ·exact⟨f,i,j⟩
  ·exact⟨f,i,j⟩
 revert e;generalize (if v=a then(if s.1<=min s.2 ((S b).2 - d) then(s.1,min s.2 ((S b).2 - d)) else s) else s)=s1;rintro ⟨e,l,g⟩;split
 ·split;·exact⟨by dsimp only;omega,by assumption,g⟩
  ·exact⟨e,l,g⟩
 ·exact⟨e,l,g⟩
theorem step_in (ins:List bG) (S:Int->Int->Int×Int) {s r:Int×Int} (v:Int) (i:Nat) (h:inS s r):inS (ai6 ins S v s i) r:=by
 unfold ai6;split;·exact h
 ·split;·exact h
  ·split;·exact akU _ _ _ _ _ h
   ·exact akU _ _ _ _ _ h
theorem ak0 (ins:List bG) (S:Int->Int->Int×Int) (v:Int):∀(l:List Nat) {s r:Int×Int},inS s r->inS (l.foldl (ai6 ins S v) s) r
 | [],_,_,h=>h
 | i::l,_,_,h=>ak0 ins S v l (step_in ins S v i h)
def ajD (ins:List bG):Prop:=∀x∈ins,x.op=2->x.k.kind=2->-2147483648<=x.k.n/\x.k.n<=2147483647
theorem amC {ins:List bG} {v:Int} (h:(insAt ins v).op≠0):insAt ins v∈ins:=by
 unfold insAt at *;cases d:ins[v.toNat]? with
 | none=>rw[d] at h;exact absurd rfl h
 | some x=>exact lM d
theorem alJ (n:Int) : -2147483648<=ajP n/\ajP n<=2147483647:=by unfold ajP;omega
theorem alY {a b:Int} (h:a<=b):ajP a<=ajP b:=by unfold ajP;omega
theorem alQ {S:Int->Int×Int} (d:∀v,okS (S v)) {x:bG} {b:Int×Int} (h:aj5 S x=some b):b.1<=b.2:=by
 obtain⟨e,f,g⟩:=d x.a;obtain⟨b1,i,j⟩:=d x.b;unfold aj5 at h;split at h;·injection h with h;subst h;dsimp only;omega
 split at h;·injection h with h;subst h;dsimp only;omega
 split at h
 ·injection h with h;subst h;dsimp only
  generalize (S x.a).1*(S x.b).1=p;generalize (S x.a).1*(S x.b).2=q;generalize (S x.a).2*(S x.b).1=r;generalize (S x.a).2*(S x.b).2=s;omega
 ·cases h
theorem akV {ins:List bG} (e:ajD ins) {S:Int->Int×Int} (d:∀v,okS (S v)) (v:Int):okS (ai4 ins S v):=by
 unfold ai4;split;·rename_i h;have:=e _ (amC (ins:=ins) (v:=v) (by omega)) h.1 h.2;exact⟨this.1,Int.le_refl _,this.2⟩
 split;·exact⟨by decide,by decide,by decide⟩
 split;·exact⟨by decide,by decide,by decide⟩
 split;·rename_i b hb;have:=alQ d hb;exact⟨(alJ _).1,alY this,(alJ _).2⟩
 ·split
  ·rename_i h;obtain⟨b1,f,g⟩:=d (insAt ins v).b;split;·exact⟨by dsimp only;omega,by dsimp only;omega,by dsimp only;omega⟩
   ·exact⟨by dsimp only;omega,by dsimp only;omega,by dsimp only;omega⟩
  ·exact⟨by decide,by decide,by decide⟩
theorem ak5 {ins:List bG} (d:ajD ins):∀(n:Nat) (v at_:Int),okS (ajH ins n v at_)
 | 0,_,_=>alL
 | n+1,v,at_=>by
  unfold ajH
  split
  ·exact alL
  ·have h:=akV d (S:=(ajH ins n · v)) (λu=>ak5 d n u v) v
   exact(ak0 ins (ajH ins n) v _ (r:=ai4 ins (ajH ins n · v) v) ⟨Int.le_refl _,h.2.1,Int.le_refl _⟩).ok h
theorem ajK {ins:List bG} (d:ajD ins) (v at_:Int):okS (ai0 ins v at_):=ak5 d _ v at_
end
section
open Go.RowKit
def Mid (v:Val):Prop:=v.kind=2->-2147483648<=v.n/\v.n<=2147483647
theorem ajW {v:Val} (h:v.kind≠2):Mid v:=λc=>absurd c h
theorem ajL:Mid ⟨0,0⟩:=ajW (show(0:Int)≠2 by decide)
theorem aj7 {l:List Val} (h:∀v∈l,Mid v) (i:Nat):Mid ((l[i]?).getD ⟨0,0⟩):=by
 cases e:l[i]? with
 | none=>exact ajL
 | some v=>exact h v (lM e)
theorem ak6 {l:List Val} {u:Val} (h:∀v∈l,Mid v) (d:Mid u):∀v∈l++[u],Mid v:=λv hv=>by
 rcases List.mem_append.1 hv with hv | hv
 ·exact h v hv
 ·rw[List.mem_singleton.1 hv];exact d
theorem akE {l:List Val} {u:Val} (h:∀v∈l,Mid v) (i:Nat) (d:Mid u):∀v∈l.set i u,Mid v:=λv hv=>by
 rcases List.mem_or_eq_of_mem_set hv with hv | hv
 ·exact h v hv
 ·rw[hv];exact d
def ak3 (c:bC):Prop:=c.vals.length<=600/\∀v∈c.vals,Mid v
structure ai8 (w:aI):Prop where
 cells:∀c∈w.cells,ak3 c
 vals:∀v∈w.vals,Mid v
 regs:∀v∈w.regs,Mid v
theorem ai8.val {w:aI} (h:ai8 w) (v:Int):Mid (cX w v):=aj7 h.vals _
theorem ajF {w:aI} (h:ai8 w) (i:Nat) {v:Val} (d:Mid v):ai8 (fS w i v):=⟨h.cells,akE h.vals i d,h.regs⟩
theorem ajQ {w:aI} (h:ai8 w) (n:Nat) {d:bC} (e:ak3 d):ai8 (setCW w n d):=by
 refine⟨λc hc=>?_,h.vals,h.regs⟩;rcases List.mem_or_eq_of_mem_set hc with hc | hc;·exact h.cells c hc
 ·rw[hc];exact e
theorem ajM {w:aI} (h:ai8 w) {v:Int} {n:Nat} {c:bC} (d:eF w v=some (n,c)):ak3 c:=h.cells c (lM (sE d).1)
theorem akG {w:aI} (h:ai8 w) (i:Nat) (k:Int):ai8 (dX w i k).1:=by
 unfold dX;split;·exact h
 ·refine⟨λc hc=>?_,akE h.vals i (ajW (show(5:Int)≠2 by decide)),h.regs⟩;rcases List.mem_append.1 hc with hc | hc;·exact h.cells c hc
  ·rw[List.mem_singleton.1 hc];exact⟨Nat.zero_le _,λv d=>by simp at d⟩
theorem alM {w:aI} (h:ai8 w) (i:Nat) (x:bG):ai8 (gW w i x).1:=by
 unfold gW
 cases e:eF w x.a with
 | none=>exact h
 | some nc=>
  obtain⟨n,c⟩:=nc
  have d:=ajM h e
  dsimp only
  refine bU (λr:aI×Int=>ai8 r.1) (λ_=>h) λ_=>?_
  refine bU (λr:aI×Int=>ai8 r.1) (λ_=>ajF h i (aj7 d.2 _)) λ_=>?_
  refine bU (λr:aI×Int=>ai8 r.1) (λ_=>ajQ h n ⟨by rw[List.length_set];exact d.1,akE d.2 _ (h.val _)⟩) λ_=>ajF h i (λ_=>?_)
  show -2147483648<=(c.vals.length:Int)/\(c.vals.length:Int)<=2147483647
  have:=d.1
  omega
theorem alP {w:aI} (h:ai8 w) (sh:List aT) (x:bG):ai8 (jT sh w x).1:=by
 unfold jT;cases e:eF w x.a with
 | none=>exact h
 | some nc=>
  obtain⟨n,c⟩:=nc
  have d:=ajM h e
  dsimp only
  refine bU (λr:aI×Int=>ai8 r.1) (λ_=>h) λ_=>?_
  cases sh[x.n.toNat]? with
  | none=>exact h
  | some s=>exact bU (λr:aI×Int=>ai8 r.1) (λ_=>h) λq=>ajQ h n ⟨by rw[List.length_append,List.length_singleton];omega,ak6 d.2 (h.val _)⟩
theorem alN {w:aI} (h:ai8 w) (x:bG):ai8 (iT w x).1:=by
 unfold iT
 cases e:eF w x.a with
 | none=>exact h
 | some nc=>
  obtain⟨n,c⟩:=nc
  have d:=ajM h e
  dsimp only
  refine bU (λr:aI×Int=>ai8 r.1) (λ_=>h) λ_=>?_
  refine bU (λr:aI×Int=>ai8 r.1) (λq=>ajQ h n ⟨by rw[List.length_append,List.length_singleton];omega,ak6 d.2 (h.val _)⟩) λ_=>?_
  exact bU (λr:aI×Int=>ai8 r.1) (λ_=>h) λ_=>h
theorem alO {w:aI} (h:ai8 w) (i:Nat) (x:bG):ai8 (lP w i x).1:=by
 unfold lP
 cases e:eF w x.a with
 | none=>exact h
 | some nc=>
  obtain⟨n,c⟩:=nc
  have d:=ajM h e
  dsimp only
  refine bU (λr:aI×Int=>ai8 r.1) (λ_=>h) λ_=>?_
  refine bU (λr:aI×Int=>ai8 r.1) (λ_=>h) λ_=>?_
  exact bU (λr:aI×Int=>ai8 r.1) (λ_=>ajF h i (aj7 d.2 _)) λ_=>ajQ h n ⟨by rw[List.length_set];exact d.1,akE d.2 _ (h.val _)⟩
structure aj1 (E:hV):Prop where
 un:∀n a,Mid (E.U n a).1
 bin:∀n a b,Mid (E.B n a b).1
 tru:∀b:Bool,E.T (cP b)=b
 is_:∀n a b,a.kind=2->b.kind=2->Mid a->Mid b->(E.B n a b).2<0->
  (n=3->(E.B n a b).1=⟨2,a.n+b.n⟩)/\(n=4->(E.B n a b).1=⟨2,a.n - b.n⟩)/\(n=5->(E.B n a b).1=⟨2,a.n*b.n⟩)/\
  (n=7->(E.B n a b).1=⟨2,a.n.tmod b.n⟩)/\(n=9->(E.B n a b).1=cP (decide (a.n<b.n)))/\(n=10->(E.B n a b).1=cP (decide (a.n<=b.n)))
theorem tame_do {w:aI} (h:ai8 w) {E:hV} (d:aj1 E) {self:Val} (f:Mid self) (sh:List aT) (i:Nat) (x:bG) (g:x.op=2->Mid x.k):ai8 (doI E self sh w i x).1:=by unfold doI;refine bU (λr:aI×Int=>ai8 r.1) (λ_=>ajF h i (aj7 h.regs _)) λ_=>?_;refine bU (λr:aI×Int=>ai8 r.1) (λe=>ajF h i (g e)) λ_=>?_;refine bU (λr:aI×Int=>ai8 r.1) (λ_=>ajF h i f) λ_=>?_;refine bU (λr:aI×Int=>ai8 r.1) (λ_=>h) λ_=>?_;refine bU (λr:aI×Int=>ai8 r.1) (λ_=>ajF h i (d.bin _ _ _)) λ_=>?_;refine bU (λr:aI×Int=>ai8 r.1) (λ_=>ajF h i (d.un _ _)) λ_=>?_;refine bU (λr:aI×Int=>ai8 r.1) (λ_=>alM h _ _) λ_=>?_;refine bU (λr:aI×Int=>ai8 r.1) (λ_=>alP h _ _) λ_=>?_;refine bU (λr:aI×Int=>ai8 r.1) (λ_=>alO h _ _) λ_=>?_;refine bU (λr:aI×Int=>ai8 r.1) (λ_=>akG h _ _) λ_=>?_;refine bU (λr:aI×Int=>ai8 r.1) (λ_=>alN h _) λ_=>?_;exact bU (λr:aI×Int=>ai8 r.1) (λ_=>h) λ_=>akG h _ _
structure ak2 (E:hV) (t:aN) (w:aI) (v:Nat):Prop where
 count:(jE t v).op=15->0<=(cX w v).n/\(cX w v).n<=600
 tru:(jE t v).op=5->E.T (cX w (jE t v).a)=((jE t v).n == 1)
structure InvZ (E:hV) (t:aN) (i:Nat) (w:aI):Prop where
 tame:ai8 w
 len:w.vals.length=t.ins.length
 all:∀v<i,agP E t w v/\ak2 E t w v
def KMid (t:aN):Prop:=∀i:Nat,(jE t i).op=2->Mid (jE t i).k
theorem akS {v:Val} (h:aG v=true):Mid v:=λc=>by
 unfold aG at h
 rw[if_neg (by omega),if_neg (by omega),if_pos c] at h
 simpa using h
theorem alC {g:Int} {fns:List FnM} {t:aN} (h:fA aG g fns t=0):KMid t:=λi=>by
 unfold jE
 rw[show(i:Int).toNat=i from rfl]
 cases j:t.ins[i]? with
 | none=>intro c;exact absurd (show(0:Int)=2 from c) (by decide)
 | some x=>
  intro c
  obtain⟨_,fn,f⟩:=nX h
  obtain⟨_,e⟩:=fQ t.ins 0 f i x j
  simp only[eY,Bool.and_eq_true,Bool.not_eq_true',Bool.or_eq_false_iff] at e
  have d:=e.1.2.1.2
  rw[show x.op=2 from c,show(cF 2).k=true by decide] at d
  exact akS (v:=x.k) (by simpa using d)
theorem inv_z {t:aN} (ask:afV t) (z:KMid t) {E:hV} (A:aj1 E) {self:Val} (C:Mid self) (sh:List aT) {i:Nat} {w:aI} (hi:i<t.ins.length) (h:InvZ E t i w) (d:(doW E t self sh w i).2=0):InvZ E t (i+1) (doW E t self sh w i).1:=by
 have f:=sB w.cells E self sh w i (jE t i)
 change fH w.cells i w (doW E t self sh w i).1 at f
 have r:i<w.vals.length:=by rw[h.len];exact hi
 have g:∀v:Nat,v<t.ins.length->∀o∈iU (jE t v),0<=o/\o<v:=λv m o y=>by
  have hi:t.ins[v]? = some (jE t v):=by
   unfold jE
   rw[show(v:Int).toNat=v from rfl,lG m];rfl
  have:=ask v _ hi o y
  exact⟨this.1,this.2.1⟩
 have j:∀v:Nat,v<=i->0<(cF (jE t v).op).asks->cX (doW E t self sh w i).1 (jE t v).a=cX w (jE t v).a:=λv m c=>by
  obtain⟨s,G⟩:=g v (by omega) _ (af4 (k:=0) rfl c)
  obtain⟨n,x⟩:=Int.eq_ofNat_of_zero_le s
  rw[x];exact uH (f.vals n (by omega))
 refine⟨tame_do h.tame A C sh i _ (z i),f.len.trans h.len,λv D=>?_⟩
 by_cases e:v=i
 case neg=>
  have F:=h.all v (by omega)
  refine⟨ahM F.1 (g v (by omega)) (λu H=>f.vals u (by omega)),λc=>?_,λc=>?_⟩
  ·rw[uH (f.vals v e)];exact F.2.count c
  ·rw[j v (by omega) (by rw[c];decide)];exact F.2.tru c
 subst e
 refine⟨ahN h.len hi self sh (g v hi) d,λc=>?_,λc=>?_⟩
 ·have e:doW E t self sh w v=gW w v (jE t v):=by
   unfold doW doI
   rw[if_neg (by omega),if_neg (by omega),if_neg (by omega),if_neg (by omega),if_neg (by omega),if_neg (by omega),if_pos (by omega)]
  rw[e] at d ⊢
  unfold gW at d ⊢
  cases p:eF w (jE t v).a with
  | none=>rw[p] at d;cases d
  | some nc=>
   obtain⟨n,l⟩:=nc
   have:=(ajM h.tame p).1
   dsimp only
   rw[if_neg (by omega),if_neg (by omega),if_neg (by omega)]
   show 0<=(cX (fS w v _) (v:Int)).n/\(cX (fS w v _) (v:Int)).n<=600
   rw[agQ r]
   show 0<=(l.vals.length:Int)/\(l.vals.length:Int)<=600
   omega
 ·rw[j v (Nat.le_refl _) (by rw[c];decide)]
  have e:doW E t self sh w v=(w,isW (iY E w (jE t v)) 1):=by
   unfold doW doI
   rw[if_neg (by omega),if_neg (by omega),if_neg (by omega),if_pos (by omega)]
  rw[e] at d
  unfold iY at d
  rw[if_neg (by omega),if_pos c] at d
  unfold isW at d
  dsimp only at d
  split at d
  ·rename_i q;simpa using q
  ·cases d
def Inn (s:Int×Int) (x:Int):Prop:=s.1<=x/\x<=s.2
theorem ak1 {d hi x:Int} (e:d<=x) (f:x<=hi) (g : -2147483648<=x/\x<=2147483647):Inn (ajP d,ajP hi) x:=by unfold Inn ajP;dsimp only;omega
theorem lin {c x d hi:Int} (e:d<=x) (f:x<=hi):min (c*d) (c*hi)<=c*x/\c*x<=max (c*d) (c*hi):=by
 rcases Int.le_total 0 c with h | h;·have a:=Int.mul_le_mul_of_nonneg_left e h;have b:=Int.mul_le_mul_of_nonneg_left f h;omega
 ·have a:=Int.mul_le_mul_of_nonpos_left h e;have b:=Int.mul_le_mul_of_nonpos_left h f;omega
theorem alK {a b d e f g:Int} (j:d<=a) (l:a<=e) (h:f<=b) (i:b<=g) : min (min (min (d*f) (d*g)) (e*f)) (e*g)<=a*b/\a*b<=max (max (max (d*f) (d*g)) (e*f)) (e*g):=by have p:=lin (c:=b) j l;have q:=lin (c:=d) h i;have r:=lin (c:=e) h i;rw[Int.mul_comm b d,Int.mul_comm b e,Int.mul_comm b a] at p;omega
section
variable {E:hV} {t:aN} {w:aI}
theorem alH (e:ahP E) (ask:afV t) (num:ahQ t) (d:∀v<t.ins.length,agP E t w v) {v:Int} (h:ajU t.ins v=true):(cX w (jE t v).a).kind=2/\(cX w (jE t v).b).kind=2:=by simp only[ajU,Bool.and_eq_true,beq_iff_eq] at h;have hi:insAt t.ins v=jE t v:=rfl;rw[hi] at h;have f:=ahA e ask num d ((jE t v).a.toNat+1) (jE t v).a v (by omega) (by omega);have g:=ahA e ask num d ((jE t v).b.toNat+1) (jE t v).b v (by omega) (by omega);omega
theorem alU (J:ahP E) (K:aj1 E) (ask:afV t) (num:ahQ t) (e:∀v<t.ins.length,agP E t w v) (r:∀v<t.ins.length,ak2 E t w v) (d:∀v:Int,Mid (cX w v)) {v:Nat} (s:v<t.ins.length) (S:Int->Int×Int) (y:∀u,(cX w u).kind=2->Inn (S u) (cX w u).n) (z:(cX w v).kind=2):Inn (ai4 t.ins S v) (cX w v).n:=by
 unfold ai4;have hi:insAt t.ins (v:Int)=jE t v:=rfl;rw[hi];have F:=e v s;by_cases g:(jE t v).op=2/\(jE t v).k.kind=2;·rw[if_pos g,F.const g.1];exact⟨Int.le_refl _,Int.le_refl _⟩
 rw[if_neg g];by_cases h:(jE t v).op=15;·rw[if_pos h];exact(r v s).count h
 rw[if_neg h];by_cases f:(jE t v).op≠7\/ajU t.ins v=false;·rw[if_pos f];exact d v z
 rw[if_neg f];simp only[not_or,Decidable.not_not,Bool.not_eq_false] at f;obtain⟨p,q⟩:=alH J ask num e f.2;obtain⟨b1,D⟩:=F.bin f.1;obtain⟨G,H,I,s7,-,-⟩:=K.is_ _ _ _ p q (d _) (d _) D;have A:=y _ p;have B:=y _ q;have M:=d v z;rw[b1] at M;rw[b1];unfold Inn at A B;unfold aj5;by_cases i:(jE t v).n=3;·rw[if_pos i];dsimp only;rw[G i] at M ⊢;exact ak1 (x:=_+_) (by omega) (by omega) M
 rw[if_neg i];by_cases j:(jE t v).n=4;·rw[if_pos j];dsimp only;rw[H j] at M ⊢;exact ak1 (x:=_ - _) (by omega) (by omega) M
 rw[if_neg j];by_cases l:(jE t v).n=5;·rw[if_pos l];dsimp only;rw[I l] at M ⊢;have c:=alK A.1 A.2 B.1 B.2;exact ak1 (x:=_*_) c.1 c.2 M
 rw[if_neg l];dsimp only;by_cases m:(jE t v).n=7/\1<=(S (jE t v).b).1;case neg=>rw[if_neg m];exact M
 rw[if_pos m];rw[s7 m.1] at M ⊢;have L:=Int.tmod_lt_of_pos (cX w (jE t v).a).n (show 0<(cX w (jE t v).b).n by omega);have N:=Int.lt_tmod_of_pos (cX w (jE t v).a).n (show 0<(cX w (jE t v).b).n by omega);by_cases C:0<=(S (jE t v).a).1;·rw[if_pos C];have O:=Int.tmod_nonneg (cX w (jE t v).b).n (show 0<=(cX w (jE t v).a).n by omega);unfold Inn;dsimp only;omega
 ·rw[if_neg C];unfold Inn;dsimp only;omega
theorem ajV {S:Int->Int×Int} (g:∀u,(cX w u).kind=2->Inn (S u) (cX w u).n) {s:Int×Int} {v a b d:Int} (i:(cX w a).kind=2) (j:(cX w b).kind=2) (l:(cX w a).n+d<=(cX w b).n) (h:Inn s (cX w v).n):Inn (ajA S s v a b d) (cX w v).n:=by
 have A:=g _ i;have B:=g _ j;unfold Inn at A B h;have f:Inn (if v=a then(if s.1<=min s.2 ((S b).2 - d) then(s.1,min s.2 ((S b).2 - d)) else s) else s) (cX w v).n:=by
  split
  ·rename_i e;subst e;split;·unfold Inn;dsimp only;omega
   ·exact h
  ·exact h
 unfold ajA;dsimp only;generalize (if v=a then(if s.1<=min s.2 ((S b).2 - d) then(s.1,min s.2 ((S b).2 - d)) else s) else s)=s1 at f;unfold Inn at f;split
 ·rename_i e;subst e;split;·unfold Inn;dsimp only;omega
  ·exact f
 ·exact f
theorem step_so (L:ahP E) (r:aj1 E) (ask:afV t) (num:ahQ t) (l:∀v<t.ins.length,agP E t w v) (C:∀v<t.ins.length,ak2 E t w v) (p:∀v:Int,Mid (cX w v)) {i:Nat} (hi:i<t.ins.length) (S:Int->Int->Int×Int) (m:∀u,(cX w u).kind=2->Inn (S u i) (cX w u).n) {v:Int} {s:Int×Int} (h:Inn s (cX w v).n):Inn (ai6 t.ins S v s i) (cX w v).n:=by
 unfold ai6;have x:∀u,insAt t.ins u=jE t u:=λ_=>rfl;simp only[x];by_cases D:(jE t i).op≠5;·rw[if_pos D];exact h
 rw[if_neg D];split;·exact h
 rename_i F;simp only[not_or,Decidable.not_not,Bool.not_eq_false] at F;obtain⟨z,I,-,d⟩:=F;have G:t.ins[i]? = some (jE t i):=by unfold jE;rw[show(i:Int).toNat=i from rfl,lG hi];rfl
 have q:=ask i _ G (jE t i).a (af4 (k:=0) rfl (by rw[show(jE t i).op=5 by omega];decide));obtain⟨c,J⟩:=Int.eq_ofNat_of_zero_le q.1;have T:=(C i hi).tru (by omega);rw[J] at z I d T ⊢;obtain⟨f,j⟩:=alH L ask num l d;obtain⟨b1,K⟩:=(l c (by omega)).bin z;obtain⟨-,-,-,-,s9,A⟩:=r.is_ _ _ _ f j (p _) (p _) K;rw[b1] at T;have H:(jE t c).n=9\/(jE t c).n=10:=by omega
 rcases H with e | e
 ·rw[s9 e,r.tru] at T;by_cases g:(jE t i).n=1;·rw[if_pos g,if_pos e];rw[g] at T;exact ajV (S:=(S · i)) m f j (by have:=of_decide_eq_true (T.trans (by decide));omega) h
  ·rw[if_neg g,if_pos e];exact ajV (S:=(S · i)) m j f (by have:=of_decide_eq_false (T.trans (by simpa using g));omega) h
 ·rw[A e,r.tru] at T;have y:¬(jE t c).n=9:=by omega
  by_cases g:(jE t i).n=1;·rw[if_pos g,if_neg y];rw[g] at T;exact ajV (S:=(S · i)) m f j (by have:=of_decide_eq_true (T.trans (by decide));omega) h
  ·rw[if_neg g,if_neg y];exact ajV (S:=(S · i)) m j f (by have:=of_decide_eq_false (T.trans (by simpa using g));omega) h
theorem alI (f:Int×Int->Nat->Int×Int) (x:Int):∀(l:List Nat) (s:Int×Int),(∀i∈l,∀s,Inn s x->Inn (f s i) x)->Inn s x->Inn (l.foldl f s) x
 | [],_,_,h=>h
 | i::l,s,hf,h=>alI f x l (f s i) (λj d=>hf j (List.mem_cons_of_mem _ d)) (hf i List.mem_cons_self s h)
theorem akX (g:ahP E) (j:aj1 E) (ask:afV t) (num:ahQ t) (d:∀v<t.ins.length,agP E t w v) (f:∀v<t.ins.length,ak2 E t w v) (e:∀v:Int,Mid (cX w v)) :
  ∀(n:Nat) (at_ v:Int),at_.toNat<n->at_<=t.ins.length->(cX w v).kind=2->Inn (ai0 t.ins v at_) (cX w v).n
 | 0,_,_,h,_,_=>by omega
 | n+1,at_,v,hn,hl,hk=>by
  rw[ak4]
  by_cases c:v<0\/at_<=v
  ·rw[if_pos c];exact e v hk
  rw[if_neg c]
  obtain⟨m,rfl⟩:=Int.eq_ofNat_of_zero_le (show 0<=v by omega)
  refine alI _ _ _ _ (λi hi s p=>?_) (alU g j ask num d f e (by omega) _ (λu l=>akX g j ask num d f e n m u (by omega) (by omega) l) hk)
  have hb:=aj8 hi
  exact step_so g j ask num d f e (by omega) _ (λu l=>akX g j ask num d f e n i u (by omega) (by omega) l) p
end
end
section
open Go.RowKit
structure FitZ (S:aR):Prop where
 cells:∀c∈S.cells,ak3 c
 frames:∀h∈S.threads,∀f∈h.frames,Mid f.self/\∀v∈f.regs,Mid v
theorem ak7 {S:aR} {v:Val} (h:dJ aG S v=true):Mid v:=by simp only[dJ,Bool.and_eq_true] at h;exact akS h.1
theorem alX {p:aW} {S:aR} {f:a8} (h:dB aG p S f=true):Mid f.self/\∀v∈f.regs,Mid v:=by simp only[dB,Bool.and_eq_true] at h;refine⟨ajW λc=>?_,λv e=>ak7 (List.all_eq_true.1 h.2 v e)⟩;have d:=h.1.1.1.1.1.2;unfold bM at d;rw[if_pos (.inl (by omega))] at d;cases d
theorem alD {p:aW} {S:aR} {W:List ByteArray} {u:Int} (h:dG aG p S W u=0):FitZ S:=by
 unfold dG at h;split at h;·exact absurd h (by assumption)
 split at h;·exact absurd h (by assumption)
 rename_i d;split at h;·exact absurd h (by decide)
 split at h;case isFalse=>exact absurd h (by decide)
 rename_i i;refine⟨λc m=>?_,λx r f hf=>?_⟩
 ·have d:cG aG S W=0:=by omega
  unfold cG at d;split at d;·exact absurd d (by decide)
  rename_i j;split at d;·exact absurd d (by assumption)
  split at d;·exact absurd d (by decide)
  rename_i q;simp only[Bool.or_eq_true,not_or] at q;have l:kE aG S c=true:=by
   cases e:kE aG S c with
   | true=>rfl
   | false=>exact absurd (List.any_eq_true.2 ⟨c,m,by rw[e];rfl⟩) q.2
  simp only[kE,Bool.and_eq_true] at l;refine⟨?_,λv s=>ak7 (List.all_eq_true.1 l.1.2 v s)⟩;rcases Nat.lt_or_ge 600 c.vals.length with g | g;·refine absurd ?_ j;unfold nS;rw[Bool.or_eq_true];refine .inr (List.any_eq_true.2 ⟨c,m,?_⟩);rw[Bool.and_eq_true,Bool.or_eq_true];exact⟨decide_eq_true (by omega),.inr (decide_eq_true g)⟩
  ·exact g
 ·unfold mF at i;split at i;·cases i
  split at i;·cases i
  split at i;·cases i
  rename_i g e;exact alX (ah1 _ _ _ e x r f hf)
theorem ajO (b:Bool):Mid (cP b):=ajW (by rw[agJ];decide)
theorem mid_of (b:Nat):Mid (ofM b):=ajW (by rw[ag9];decide)
theorem akF (o:BinOp) (x y:Nat):Mid (ofB o x y):=ajW (by rw[agR];decide)
theorem ajJ (n:Int):Mid (dS n).1:=by unfold dS;refine bU (λr:Val×Int=>Mid r.1) (λc _=>?_) λ_=>ajL;show -2147483648<=n/\n<=2147483647;simpa [aK] using c
theorem akB (op:Int) (a b:Bool):Mid (eA op a b).1:=by unfold eA;refine bU (λr:Val×Int=>Mid r.1) (λ_=>ajO _) λ_=>?_;exact bU (λr:Val×Int=>Mid r.1) (λ_=>ajO _) λ_=>ajL
theorem akP {a:Val} (d:a.kind=2) (e:Mid a):dD a=a:=by unfold dD;rw[if_pos];unfold aG;rw[if_neg (by omega),if_neg (by omega),if_pos d];have:=e d;simp only[Bool.and_eq_true,decide_eq_true_eq];exact this
theorem aj3 {n:Int} (h:(dS n).2<0):(dS n).1=⟨2,n⟩:=by
 unfold dS at h ⊢;split;·rfl
 ·rename_i c;rw[if_neg c] at h;exact absurd h (by decide)
theorem alS {a b:Int} (d : -2147483648<=a/\a<=2147483647) (hb : -2147483648<=b/\b<=2147483647) : -9223372036854775808<=a*b/\a*b<=9223372036854775807:=by have:=alK d.1 d.2 hb.1 hb.2;omega
theorem span_ok:aj1 ⟨o4,mU,lF⟩:=by
 refine⟨λn a=>?_,λn a b=>?_,λb=>by cases b <;> decide,λn a b d hb f g h=>?_⟩;·show Mid (o4 n a).1;unfold o4;refine bU (λr:Val×Int=>Mid r.1) (λ_=>ajO _) λ_=>?_;refine bU (λr:Val×Int=>Mid r.1) (λ_=>ajJ _) λ_=>?_;exact bU (λr:Val×Int=>Mid r.1) (λ_=>mid_of _) λ_=>ajL
 ·show Mid (mU n a b).1;unfold mU;refine bU (λr:Val×Int=>Mid r.1) (λ_=>?_) λ_=>?_;·unfold lI;refine bU (λr:Val×Int=>Mid r.1) (λ_=>akF _ _ _) λ_=>?_;refine bU (λr:Val×Int=>Mid r.1) (λ_=>akF _ _ _) λ_=>?_;refine bU (λr:Val×Int=>Mid r.1) (λ_=>akF _ _ _) λ_=>?_;refine bU (λr:Val×Int=>Mid r.1) (λ_=>akF _ _ _) λ_=>?_;exact bU (λr:Val×Int=>Mid r.1) (λ_=>ajO _) λ_=>akB _ _ _
  refine bU (λr:Val×Int=>Mid r.1) (λ_=>ajO _) λ_=>?_;refine bU (λr:Val×Int=>Mid r.1) (λ_=>?_) λ_=>ajL;unfold gR;refine bU (λr:Val×Int=>Mid r.1) (λ_=>ajJ _) λ_=>?_;refine bU (λr:Val×Int=>Mid r.1) (λ_=>ajJ _) λ_=>?_;refine bU (λr:Val×Int=>Mid r.1) (λ_=>ajJ _) λ_=>?_;refine bU (λr:Val×Int=>Mid r.1) (λ_=>?_) λ_=>akB _ _ _;refine bU (λr:Val×Int=>Mid r.1) (λ_=>ajL) λ_=>?_;exact bU (λr:Val×Int=>Mid r.1) (λ_=>ajJ _) λ_=>ajJ _
 ·change (mU n a b).2<0 at h;show(n=3->(mU n a b).1=_)/\(n=4->(mU n a b).1=_)/\(n=5->(mU n a b).1=_)/\(n=7->(mU n a b).1=_)/\(n=9->(mU n a b).1=_)/\(n=10->(mU n a b).1=_);have e:n≠8->mU n a b=gR n a.n b.n:=λj=>by unfold mU;rw[akP d f,akP hb g,if_neg (by omega),if_neg j,if_pos ⟨d,hb⟩]
  have i:=f d;have rb:=g hb;have m:=alS i rb;refine⟨λc=>?_,λc=>?_,λc=>?_,λc=>?_,λc=>?_,λc=>?_⟩;·rw[e (by omega)] at h ⊢;unfold gR at h ⊢;rw[if_pos c] at h ⊢;rw[aj3 h,show wrap64 (a.n+b.n)=a.n+b.n by unfold wrap64;omega]
  ·rw[e (by omega)] at h ⊢;unfold gR at h ⊢;rw[if_neg (by omega),if_pos c] at h ⊢;rw[aj3 h,show wrap64 (a.n - b.n)=a.n - b.n by unfold wrap64;omega]
  ·rw[e (by omega)] at h ⊢;unfold gR at h ⊢;rw[if_neg (by omega),if_neg (by omega),if_pos c] at h ⊢;rw[aj3 h,show wrap64 (a.n*b.n)=a.n*b.n by unfold wrap64;omega]
  ·rw[e (by omega)] at h ⊢;unfold gR at h ⊢;rw[if_neg (by omega),if_neg (by omega),if_neg (by omega),if_pos (.inr c)] at h ⊢;split at h;·exact absurd h (by show ¬(2:Int)<0;decide)
   ·rename_i l;rw[if_neg l];rw[if_neg (by omega)] at h ⊢;exact aj3 h
  ·rw[e (by omega)];unfold gR eA;rw[if_neg (by omega),if_neg (by omega),if_neg (by omega),if_neg (by omega),if_pos c]
  ·rw[e (by omega)];unfold gR eA;rw[if_neg (by omega),if_neg (by omega),if_neg (by omega),if_neg (by omega),if_neg (by omega),if_pos c]
theorem alV {E:hV} (M:ahP E) (D:aj1 E) {G H:Int} {t:aN} {S out:aR} {q exit n v:Int} (N:jA t) (ask:afV t) (num:ahQ t) (O:KMid t) (g:FitZ S) (hl:t.loop=0) (h:mY E G H (agX t [v]) S q 1=(out,exit,n,0)) (r:exit<0) : ∃e f',0<=q/\out.threads[q.toNat]? = some e/\e.frames.getLast? = some f'/\∀x,f'.regs[0]? = some x->x.kind=2->(ai0 t.ins v t.ins.length).1<=x.n/\x.n<=(ai0 t.ins v t.ins.length).2:=by
 obtain⟨I,s,f,w',e,f',y,z,R,⟨_,l⟩,b1,J,K⟩:=aiQ (t:=agX t [v]) N hl h r (P:=λf i w=>Mid f.self/\InvZ E t i w)
  (λs f y z=>by
   have F:=g.frames s (lM y) f (List.mem_of_getLast? z)
   exact⟨F.1,⟨g.cells,λv A=>by rw[List.eq_of_mem_replicate A];exact ajL,F.2⟩,by simp[cL,agX],λv A=>by omega⟩)
  (λf i w hi m C=>⟨m.1,inv_z ask O D m.1 S.shapes hi m.2 C⟩)
 refine⟨e,f',I,b1,J,λx d=>?_⟩;rw[K,ahJ] at d;have j:0<w'.regs.length:=by have:=(lE d).1;simpa using this
 rw[List.getElem?_set_self j] at d;injection d with d
 rw[<-d];intro L;exact akX M D ask num (λu p=>(l.all u p).1) (λu p=>(l.all u p).2) (λu=>l.tame.val u) (t.ins.length+1) t.ins.length v (by omega) (Int.le_refl _) L
end
end Go.Proofs.YtjaphgpkkfdaaaaGreatDoor
