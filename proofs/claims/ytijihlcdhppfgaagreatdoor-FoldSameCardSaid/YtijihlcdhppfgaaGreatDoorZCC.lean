/- A part of the walk. -/
import Derived.Test.YtijihlcdhppfgaaGreatDoorZCB
set_option maxHeartbeats 16000000
set_option maxRecDepth 100000
set_option linter.all false
namespace Go.Proofs.YtijihlcdhppfgaaGreatDoor
open Tryz
section
def bD (tl:List Int):Nat->Nat
 | 0=>0
 | i+1=>bD tl i+if tl[i]? = some (i:Int) then 1 else 0
theorem nD (tl:List Int):∀ {i j:Nat},i<=j->bD tl i<=bD tl j:=by
 intro i j h;induction h with
 | refl=>exact Nat.le_refl _
 | step _ ih=>exact Nat.le_trans ih (by show bD tl _<=bD tl _+_;omega)
theorem iF {tl:List Int} {i j:Nat} (h:i<j) (d:tl[i]? = some (i:Int)):bD tl i<bD tl j:=by
 have:=nD tl (show i+1<=j from h);have e:bD tl (i+1)=bD tl i+1:=by show bD tl i+_=_;rw[if_pos d]
 omega
structure jO (loop0:Int) (ins:List aT) (tl:List Int) (j:Nat) (S:mX):Prop where
 at_:S.at_.length=j
 num:S.ins.length=bD tl j
 kept:∀i:Nat,i<j->tl[i]? = some (i:Int)->S.at_[i]? = some (bD tl i:Int)/\∃x,ins[i]? = some x/\S.ins[bD tl i]? = some (oE (S.at_.take (i+1)) x)/\(S.fine=true->mJ (S.at_.take (i+1)) x=true)
 gone:∀i:Nat,i<j->tl[i]? = some (-1)->S.at_[i]? = some (-1)
 sent:∀i n:Nat,i<j->n≠i->tl[i]? = some (n:Int)->n<i/\S.at_[i]? = S.at_[n]?
 some_:∀i:Nat,i<j->∃n,tl[i]? = some n/\(n = -1\/0<=n/\n<=i)
 loop:S.loop=if 0<=loop0/\loop0<j then(bD tl loop0.toNat:Int) else 0
theorem jO.zero (loop0:Int) (ins:List aT) (tl:List Int):jO loop0 ins tl 0 ⟨[],true,0,[]⟩:=
 ⟨rfl,rfl,λ_ h=>by omega,λ_ h=>by omega,λ_ _ h=>by omega,λ_ h=>by omega,by rw[if_neg (by omega)]⟩
theorem ag2 {loop0:Int} {ins:List aT} {tl:List Int} {j:Nat} {S w:mX} (h:jO loop0 ins tl j S) {x:aT} {n:Int} (N:ins[j]? = some x) (r:tl[j]? = some n) (e:gK loop0 S x n=some w):jO loop0 ins tl (j+1) w:=by
 have s:=h.at_;have g:=h.num;have u:=h.loop;have q:∀(a:Int) (f:Bool) (l:List aT),w=⟨S.at_++[a],f,if(j:Int)=loop0 then(S.ins.length:Int) else S.loop,S.ins++l⟩->
   (f=true->S.fine=true)->(l.length=if n=j then 1 else 0)->
   (n=j->a=(bD tl j:Int)/\l=[oE (S.at_++[a]) x]/\(f=true->mJ (S.at_++[a]) x=true))->
   (n = -1->a = -1)->(n≠j->n≠-1->0<=n/\n<j/\S.at_[n.toNat]? = some a)->jO loop0 ins tl (j+1) w:=by
  intro a f l J hf hl K L E
  subst J
  have old:∀i,i<j->(S.at_++[a])[i]? = S.at_[i]?:=λi hi=>List.getElem?_append_left (by omega)
  have new:(S.at_++[a])[j]? = some a:=by rw[List.getElem?_append_right (by omega),s,Nat.sub_self];rfl
  have D:∀i,i<j->(S.at_++[a]).take (i+1)=S.at_.take (i+1):=λi hi=>List.take_append_of_le_length (by omega)
  have z:(S.at_++[a]).take (j+1)=S.at_++[a]:=List.take_of_length_le (by simp[s])
  refine⟨by simp[s],?_,λi hi ht=>?_,λi hi ht=>?_,λi m hi M ht=>?_,λi hi=>?_,?_⟩
  ·show(S.ins++l).length=bD tl j+_
   rw[List.length_append,g,hl,r]
   simp only[Option.some.injEq]
  ·rcases Nat.lt_or_ge i j with c | c
   ·obtain⟨q1,y,v,A,F⟩:=h.kept i c ht
    refine⟨(old i c).trans q1,y,v,?_,?_⟩
    ·show(S.ins++l)[_]? = _
     rw[D i c,List.getElem?_append_left (by have:=iF c ht;omega)];exact A
    ·rw[D i c];exact λe=>F (hf e)
   ·obtain rfl:i=j:=by omega
    rw[r] at ht;injection ht with ht
    obtain⟨G,H,I⟩:=K ht
    refine⟨by rw[<-G];exact new,x,N,?_,?_⟩
    ·show(S.ins++l)[_]? = _
     rw[z,List.getElem?_append_right (by omega),g,Nat.sub_self,H];rfl
    ·rw[z];exact I
  ·rcases Nat.lt_or_ge i j with c | c
   ·exact(old i c).trans (h.gone i c ht)
   ·obtain rfl:i=j:=by omega
    rw[r] at ht;injection ht with ht
    rw[<-L ht];exact new
  ·rcases Nat.lt_or_ge i j with c | c
   ·obtain⟨q1,v⟩:=h.sent i m c M ht
    exact⟨q1,(old i c).trans (v.trans (old m (by omega)).symm)⟩
   ·obtain rfl:i=j:=by omega
    rw[r] at ht;injection ht with ht
    obtain⟨q1,v,A⟩:=E (by omega) (by omega)
    subst ht
    refine⟨by omega,new.trans ((old m (by omega)).trans A).symm⟩
  ·rcases Nat.lt_or_ge i j with c | c
   ·exact h.some_ i c
   ·obtain rfl:i=j:=by omega
    refine⟨n,r,?_⟩
    by_cases O:n=i
    ·omega
    by_cases d:n = -1
    ·exact .inl d
    ·have:=E O d;omega
  ·show(if(j:Int)=loop0 then(S.ins.length:Int) else S.loop)=_
   by_cases c:(j:Int)=loop0
   ·rw[if_pos c,if_pos (by omega),g,<-c];rfl
   ·rw[if_neg c,u]
    by_cases d:0<=loop0/\loop0<j
    ·rw[if_pos d,if_pos (by omega)]
    ·rw[if_neg d,if_neg (by omega)]
 unfold gK at e;dsimp only at e;rw[s] at e;split at e
 ·rename_i c;injection e with e
  refine q _ _ _ e.symm (λf=>by rw[Bool.and_eq_true] at f;exact f.1) (by rw[if_pos c];rfl) (λ_=>⟨by rw[g],rfl,λf=>by rw[Bool.and_eq_true] at f;exact f.2⟩) (λd=>by omega) (λd=>absurd c d)
 rename_i c;split at e
 ·rename_i d;injection e with e
  refine q (-1) S.fine [] (by rw[<-e,List.append_nil]) id (by rw[if_neg c];rfl) (λp=>absurd p c) (λ_=>rfl) (λ_ p=>absurd d p)
 rename_i d;split at e
 ·rename_i p;injection e with e
  refine q _ S.fine [] (by rw[<-e,List.append_nil]) id (by rw[if_neg c];rfl) (λp=>absurd p c) (λc4=>absurd c4 d) (λ_ _=>⟨p.1,p.2,?_⟩);rw[List.getD_eq_getElem?_getD];rw[lG (by omega)];rfl
 ·cases e
theorem ab2 {loop0:Int} {ins:List aT} {tl:List Int} (hl:tl.length=ins.length):∀(k j:Nat) (S d:mX),j+k=ins.length->jO loop0 ins tl j S->iU loop0 (ins.drop j) (tl.drop j) S=some d->jO loop0 ins tl ins.length d
 | 0,j,S,d,hk,h,e=>by
  obtain rfl:j=ins.length:=by omega
  rw[List.drop_length] at e
  simp only[iU,Option.some.injEq] at e
  subst e
  exact h
 | k+1,j,S,d,hk,h,e=>by
  have f:j<ins.length:=by omega
  rw[List.drop_eq_getElem_cons f,List.drop_eq_getElem_cons (l:=tl) (i:=j) (by omega)] at e
  simp only[iU] at e
  split at e
  ·cases e
  rename_i g p
  exact ab2 hl k (j+1) g d (by omega) (ag2 h (lG f) (lG (by omega)) p) e
theorem tT {t:aH} {tl:List Int} (h:(g9 t tl).2=0):∃S,jO t.loop t.ins tl t.ins.length S/\(g9 t tl).1=bK t S/\tl.length=t.ins.length/\S.fine=true/\t.exits.all (dF S.at_)=true/\dF S.at_ t.turn=true/\dF S.at_ t.back=true:=by
 unfold g9 at h ⊢;split at h;·cases h
 rename_i hl;have d:=Classical.not_not.1 hl;rw[if_neg hl];split at h;·cases h
 rename_i S e;split at h;case isFalse=>cases h
 rename_i c;have f:=ab2 d t.ins.length 0 _ S (by omega) (jO.zero t.loop t.ins tl) e;simp only[Bool.and_eq_true] at c;exact⟨S,f,by rw[if_pos (by simp only[Bool.and_eq_true];exact c)],d,c.1.1.1,c.1.1.2,c.1.2,c.2⟩
theorem jO.loop_ {t:aH} {tl:List Int} {S:mX} (h:jO t.loop t.ins tl t.ins.length S) (d:0<=t.loop) (h1:t.loop<=t.ins.length):(bK t S).loop=(bD tl t.loop.toNat:Int):=by
 show(if t.loop<=0 then 0 else if(t.ins.length:Int)<=t.loop then(S.ins.length:Int) else S.loop)=_;split;·rw[show t.loop.toNat=0 by omega];rfl
 split;·rw[h.num,show t.loop.toNat=t.ins.length by omega]
 ·rw[h.loop,if_pos (by omega)]
end
section
theorem akP (F:Int->Int) (x:aT):bU (iA F x)=(bU x).map F:=by
 unfold bU iA;have:∀(n:Int) (a b c:Int),[if 0<n then F a else a,if 1<n then F b else b,if 2<n then F c else c].take n.toNat=([a,b,c].take n.toNat).map F:=λn a b c=>by
  rcases (show n<=0\/n=1\/n=2\/2<n by omega) with h | rfl | rfl | h;·rw[show n.toNat=0 by omega];rfl
  ·rfl
  ·rfl
  ·rw[if_pos (by omega),if_pos (by omega),if_pos h];obtain⟨m,d⟩:∃m,n.toNat=m+3:=⟨n.toNat - 3,by omega⟩;rw[d,List.take_of_length_le (by simp),List.take_of_length_le (by simp)];rfl
 exact this _ _ _ _
theorem tH {F G:Int->Int} {x:aT} (h:∀v∈bU x,F v=G v):iA F x=iA G x:=by
 have f:∀(k:Nat) (v:Int),[x.a,x.b,x.c][k]? = some v->(k:Int)<(bP x.op).asks->v∈bU x:=λk v g j=>by unfold bU;refine lM (i:=k) ?_;rw[List.getElem?_take,if_pos (by omega)];exact g
 unfold iA;obtain⟨op,a,b,c,n,e,k⟩:=x;dsimp only at f ⊢;congr 1
 ·split;·rename_i d;exact h _ (f 0 _ rfl d)
  ·rfl
 ·split;·rename_i d;exact h _ (f 1 _ rfl d)
  ·rfl
 ·split;·rename_i d;exact h _ (f 2 _ rfl d)
  ·rfl
theorem sF {A:List Int} {v:Int} {i:Nat} (h:v<i):bO (A.take i) v=bO A v:=by
 unfold bO;by_cases c:v<0;·rw[if_pos c,if_pos c]
 ·rw[if_neg c,if_neg c,List.getElem?_take,if_pos (by omega)]
theorem zI {A:List Int} {v:Int} {i:Nat} (h:v<i):eE (A.take i) v=eE A v:=by unfold eE;rw[sF h]
structure oS (ins:List aT) (tl:List Int):Prop where
 tell:∀i n:Nat,n≠i->tl[i]? = some (n:Int)->dZ (l6 ins n)=true
 free:∀i:Nat,l6 ins i=18->tl[i]? = some (i:Int)
section
variable {loop0:Int} {ins:List aT} {tl:List Int} {S:mX}
theorem jO.root (h:jO loop0 ins tl ins.length S) (w:oS ins tl):∀(v:Nat),v<ins.length->0<=bO S.at_ v->∃r:Nat,r<=v/\tl[r]? = some (r:Int)/\bO S.at_ v=bD tl r/\(dZ (l6 ins v)=true->dZ (l6 ins r)=true):=by
 intro v;induction v using Nat.strongRecOn with
 | ind v ih=>
  intro g f
  obtain⟨n,d,j⟩:=h.some_ v g
  have one:∀ {u:Nat} {a:Int},S.at_[u]? = some a->0<=a->bO S.at_ u=a:=λ{u a} e ha=>by
   unfold bO
   rw[if_neg (by omega),show(u:Int).toNat=u from rfl,e]
   dsimp only
   rw[if_neg (by omega)]
  rcases j with rfl | ⟨x,h1⟩
  ·have:=h.gone v g d
   unfold bO at f
   rw[if_neg (by omega),show(v:Int).toNat=v from rfl,this] at f
   exact absurd f (by decide)
  obtain⟨m,rfl⟩:=Int.eq_ofNat_of_zero_le x
  by_cases c:m=v
  ·subst c
   exact⟨m,Nat.le_refl _,d,one (h.kept m g d).1 (by omega),id⟩
  ·obtain⟨q1,l⟩:=h.sent v m g c d
   have e:bO S.at_ v=bO S.at_ m:=by
    unfold bO
    rw[if_neg (by omega),if_neg (by omega),show(v:Int).toNat=v from rfl,show(m:Int).toNat=m from rfl,l]
   rw[e] at f ⊢
   obtain⟨r,y,p,q,s⟩:=ih m q1 (by omega) f
   exact⟨r,by omega,p,q,λ_=>s (w.tell v m c d)⟩
theorem jO.op (h:jO loop0 ins tl ins.length S) {r:Nat} (f:r<ins.length) (g:tl[r]? = some (r:Int)):l6 S.ins (bD tl r)=l6 ins r:=by obtain⟨-,x,q1,d,-⟩:=h.kept r f g;unfold l6;rw[show((bD tl r:Nat):Int).toNat=bD tl r from rfl,show(r:Int).toNat=r from rfl,q1,d];rfl
theorem jO.value (h:jO loop0 ins tl ins.length S) (p:oS ins tl) {v:Int} {a:Nat} (q:a<=ins.length) (d:eZ ins v a=true) (hf:eE S.at_ v=true):eZ S.ins (bO S.at_ v) (bD tl a)=true:=by simp only[eZ,Bool.and_eq_true,decide_eq_true_eq] at d;obtain⟨n,rfl⟩:=Int.eq_ofNat_of_zero_le d.1.1.1;obtain⟨r,w,f,g,l⟩:=h.root p n (by omega) (by unfold eE at hf;simpa using hf);have s:=iF (j:=a) (show r<a by omega) f;have u:=nD tl q;simp only[eZ,Bool.and_eq_true,decide_eq_true_eq];rw[g,h.op (by omega) f,h.num];exact⟨⟨⟨by omega,by omega⟩,by omega⟩,l d.2⟩
theorem jO.values (h:jO loop0 ins tl ins.length S) (g:oS ins tl) {l:List Int} {a:Nat} (j:a<=ins.length) (d:fN ins l a=true) (hf:l.all (eE S.at_)=true):fN S.ins (l.map (bO S.at_)) (bD tl a)=true:=by unfold fN at d ⊢;rw[List.all_eq_true] at d hf ⊢;intro u f;obtain⟨v,h1,rfl⟩:=List.mem_map.1 f;exact h.value g j (d v h1) (hf v h1)
theorem jO.sets (h:jO loop0 ins tl ins.length S) (d:oS ins tl) {regs:Int} {a:Nat} (f:a<=ins.length):∀(l:List oL) (last:Int),j5 regs ins a last l=true->l.all (j7 S.at_)=true->j5 regs S.ins (bD tl a) last (l.map (setC S.at_))=true
 | [],_,_,_=>rfl
 | s::l,last,h1,h2=>by
  simp only[j5,Bool.and_eq_true] at h1
  simp only[List.all_cons,Bool.and_eq_true] at h2
  simp only[List.map_cons,j5,Bool.and_eq_true]
  exact⟨⟨h1.1.1,h.value d f h1.1.2 h2.1⟩,jO.sets h d f l _ h1.2 h2.2⟩
theorem jO.makes (h:jO loop0 ins tl ins.length S) (r:oS ins tl) {a:Nat} (u:a<=ins.length):∀(l:List dX) (last f:Int),(∀c:Nat,last<c->tl[c]? = some (c:Int)->f<bD tl c)->fI ins a last l=true->l.all (kU S.at_)=true->fI S.ins (bD tl a) f (l.map (kS S.at_))=true
 | [],_,_,_,_,_=>rfl
 | m::l,last,f,hl,h1,h2=>by
  simp only[fI,mG,Bool.and_eq_true,decide_eq_true_eq,beq_iff_eq] at h1
  simp only[List.all_cons,kU,Bool.and_eq_true] at h2
  have s:=h1.1.2.1.1.1.1
  simp only[eZ,Bool.and_eq_true,decide_eq_true_eq] at s
  obtain⟨c,j⟩:=Int.eq_ofNat_of_zero_le s.1.1.1
  rw[j] at s
  have p:=r.free c (by rw[<-j];exact h1.1.2.1.1.1.2)
  have w:bO S.at_ m.cell=bD tl c:=by
   rw[j];unfold bO
   rw[if_neg (by omega),show(c:Int).toNat=c from rfl,(h.kept c (by omega) p).1]
   dsimp only
   rw[if_neg (by omega)]
  have x:=jO.makes h r u l m.cell (bD tl c) (λd y z=>by rw[j] at y;have:=iF (show c<d by omega) p;omega) h1.2 h2.2
  have g:=h.value r u h1.1.2.1.1.1.1 h2.1.1
  have q:=h.values r u h1.1.2.2 h2.1.2
  have v:l6 S.ins (bD tl c)=18:=by rw[h.op (by omega) p,<-j];exact h1.1.2.1.1.1.2
  simp only[List.map_cons,fI,mG,kS,Bool.and_eq_true,decide_eq_true_eq,beq_iff_eq,List.length_map]
  rw[w] at g ⊢
  exact⟨⟨hl c (by omega) p,⟨⟨⟨g,v⟩,h1.1.2.1.1.2⟩,h1.1.2.1.2⟩,q⟩,x⟩
theorem jO.right (h:jO loop0 ins tl ins.length S) (f:oS ins tl) {fn:FnM} {x:bX} {a:Nat} (g:a<=ins.length) (h1:bN fn ins x a=true) (d:dF S.at_ x=true):bN fn S.ins (dM S.at_ x) (bD tl a)=true:=by simp only[bN,Bool.and_eq_true] at h1;simp only[dF,Bool.and_eq_true] at d;simp only[bN,dM,Bool.and_eq_true];exact⟨⟨h1.1.1,h.sets f g _ _ h1.1.2 d.1⟩,h.makes f g _ _ _ (λc _ _=>by omega) h1.2 d.2⟩
theorem sG (tl:List Int):∀(n k:Nat),k<bD tl n->∃i,i<n/\tl[i]? = some (i:Int)/\bD tl i=k
 | 0,k,h=>by simp[bD] at h
 | n+1,k,h=>by
  rcases Nat.lt_or_ge k (bD tl n) with c | c
  ·obtain⟨i,h1,g⟩:=sG tl n k c;exact⟨i,by omega,g⟩
  ·have f:k<bD tl n+if tl[n]? = some (n:Int) then 1 else 0:=h
   by_cases d:tl[n]? = some (n:Int)
   ·rw[if_pos d] at f;exact⟨n,by omega,d,by omega⟩
   ·rw[if_neg d] at f;omega
theorem wL (tl:List Int):∀n,bD tl n<=n
 | 0=>Nat.le_refl _
 | n+1=>by have:=wL tl n;show bD tl n+_<=_;split <;> omega
end
theorem aeU {R:Val->Bool} {fn:FnM} {t:aH} : ∀(l:List aT) (i:Nat),(∀k x,l[k]? = some x->mD x.op=true/\eJ R fn t x ((i+k:Nat):Int)=true)->sJ R fn t i l=0
 | [],_,_=>rfl
 | x::l,i,h=>by
  have d:=h 0 x rfl
  unfold sJ
  rw[d.1,show eJ R fn t x (i:Int)=true from d.2]
  exact aeU l (i+1) λk y f=>by
   have:=h (k+1) y (by simpa using f)
   rwa [show i+(k+1)=i+1+k by omega] at this
theorem adN {R:Val->Bool} {fn:FnM} {t u:aH} {x:aT} {F:Int->Int} {a b:Int} (h:eJ R fn t x a=true) (j:fN t.ins (bU x) a=true->fN u.ins ((bU x).map F) b=true) (hl:u.exits.length=t.exits.length)
  (l:∀e:bX,0<=x.exit->t.exits[x.exit.toNat]? = some e->bN fn t.ins e a=true->∃d,u.exits[x.exit.toNat]? = some d/\bN fn u.ins d b=true):eJ R fn u (iA F x) b=true:=by
 unfold eJ at h ⊢
 simp only[Bool.and_eq_true] at h ⊢
 obtain⟨⟨⟨⟨h1,h2⟩,h3⟩,h4⟩,h5⟩:=h
 refine⟨⟨⟨⟨?_,?_⟩,h3⟩,h4⟩,?_⟩
 ·rw[akP];exact j h1
 ·simp only[fU,Bool.and_eq_true,Bool.or_eq_true,decide_eq_true_eq] at h2 ⊢
  have sh:∀(k:Nat) (o:Int),fV (iA F x) k o=fV x k o:=λ_ _=>rfl
  refine⟨⟨?_,?_⟩,?_⟩
  ·by_cases c:0<(bP x.op).asks
   ·exact .inl c
   ·right;rw[sh,show(iA F x).a=x.a from if_neg c];exact h2.1.1.resolve_left c
  ·by_cases c:1<(bP x.op).asks
   ·exact .inl c
   ·right;rw[sh,show(iA F x).b=x.b from if_neg c];exact h2.1.2.resolve_left c
  ·by_cases c:2<(bP x.op).asks
   ·exact .inl c
   ·right;rw[sh,show(iA F x).c=x.c from if_neg c];exact h2.2.resolve_left c
 ·show(if _ then _ else _)=true
  change (if((bP x.op).exit == 0 || (bP x.op).exit == 1 && x.exit == -1)=true then x.exit == -1 else decide (0<=x.exit) && decide (x.exit<u.exits.length) && (u.exits[x.exit.toNat]?).any (bN fn u.ins · b))=true
  split at h5
  ·rename_i c;rw[if_pos c];exact h5
  ·rename_i c
   rw[if_neg c,hl]
   simp only[Bool.and_eq_true] at h5 ⊢
   refine⟨h5.1,?_⟩
   cases e:t.exits[x.exit.toNat]? with
   | none=>rw[e] at h5;exact absurd h5.2 (by simp)
   | some y=>
    rw[e] at h5
    obtain⟨d,f,g⟩:=l y (by simpa using h5.1.1) e (by simpa using h5.2)
    rw[f];simpa using g
theorem zR {R:Val->Bool} {F:Int} {fns:List FnM} {t:aH} {tl:List Int} (hc:cQ R F fns t=0) (b6:F=0) (hd:(g9 t tl).2=0) (P:oS t.ins tl) (h0:0<t.loop->tl[0]? = some 0):cQ R F fns (g9 t tl).1=0:=by
 obtain⟨S,h,e,hl,Y,I,Z,f4⟩:=tT hd;obtain⟨p1,p2,fn,p3,p4,J,p6,p7,K,L,M⟩:=fD hc;rw[e];have f:(bK t S).ins.length=bD tl t.ins.length:=h.num;have b4:=wL tl t.ins.length;have u:=h.loop_ J.1 J.2;have w:(bK t S).exits.length=t.exits.length:=by simp[bK]
 have b5:=nD tl (show t.loop.toNat<=t.ins.length by omega);have l:∀a:Nat,a<=t.ins.length->∀x,bN fn t.ins x a=true->dF S.at_ x=true->bN fn (bK t S).ins (dM S.at_ x) (bD tl a)=true:=λa ha x h1 h2=>h.right P ha h1 h2;have A:sJ R fn (bK t S) 0 (bK t S).ins=0:=by
  refine aeU _ _ λk y s=>?_;have V:k<bD tl t.ins.length:=by rw[<-f];exact(lE s).1
  obtain⟨i,i1,i2,rfl⟩:=sG tl _ _ V;obtain⟨-,x,q2,r,q4⟩:=h.kept i i1 i2;rw[show S.ins[bD tl i]? = some y from s] at r;injection r with r
  subst r;obtain⟨r1,E⟩:=fW t.ins 0 p6 i x q2;rw[Nat.zero_add] at E ⊢;refine⟨r1,?_⟩;have D:fN t.ins (bU x) i=true:=by have:=E;unfold eJ at this;simp only[Bool.and_eq_true] at this;exact this.1.1.1.1
  have lt:∀v∈bU x,v<(i:Int):=λv g=>(vM D v g).2.1;have X:oE (S.at_.take (i+1)) x=iA (bO S.at_) x:=tH λv g=>sF (by have:=lt v g;omega);rw[X];refine adN E (λD=>h.values P (by omega) D ?_) w (λe e0 O e2=>⟨dM S.at_ e,?_,l i (by omega) e e2 ?_⟩);·have:=q4 Y;unfold mJ at this;rw[List.all_eq_true] at this ⊢;exact λv g=>by rw[<-zI (i:=i+1) (by have:=lt v g;omega)];exact this v g
  ·show(t.exits.map (dM S.at_))[_]? = _;rw[List.getElem?_map,O];rfl
  ·exact List.all_eq_true.1 I e (lM O)
 have q:0<t.loop->0<bD tl t.loop.toNat:=λc=>by have:=iF (i:=0) (j:=t.loop.toNat) (by omega) (by simpa using h0 c);omega
 unfold cQ;rw[if_neg (by omega),if_neg (by rw[f,w];omega),show(bK t S).fn=t.fn from rfl,if_neg (by omega),p3.2];dsimp only;rw[show(bK t S).at_=t.at_ from rfl,if_neg (by rw[u,f];omega),A,if_neg (by decide)];rw[if_neg,if_neg,if_pos];·show(t.exits.map (dM S.at_)).all _=true;rw[List.all_eq_true];intro y s;obtain⟨x,N,rfl⟩:=List.mem_map.1 s;rw[f];exact l _ (Nat.le_refl _) x (List.all_eq_true.1 M x N) (List.all_eq_true.1 I x N)
 ·rintro (c | c);·exact c L.1
  ·have c':bN fn (bK t S).ins (dM S.at_ t.back) ((bK t S).ins.length:Int)=false:=c;rw[f,l _ (Nat.le_refl _) _ L.2 f4] at c';cases c'
 ·rw[u];rintro (⟨c1,c2⟩ | ⟨c1,c2⟩)
  ·have G:t.loop=0:=by
    rcases Int.lt_or_le 0 t.loop with d | d;·have:=q d;omega
    ·omega
   have hb:=p7 G;have p:kV (dM S.at_ t.turn)=false:=c2;simp only[kV,Bool.and_eq_true,List.isEmpty_iff] at hb;simp[kV,dM,hb.1.1.1,hb.1.1.2,hb.1.2,hb.2] at p
  ·have z:0<t.loop:=by
    rcases Int.lt_or_le 0 t.loop with d | d;·exact d
    ·rw[show t.loop.toNat=0 by omega] at c1;simp[bD] at c1
   rcases c2 with c2 | c2;·exact c2 (K z).1
   ·have H:=(K z).2;have p:bN fn (bK t S).ins (dM S.at_ t.turn) (bD tl t.loop.toNat:Int)=false:=c2;rw[l _ (by omega) _ (by rw[show((t.loop.toNat:Nat):Int)=t.loop by omega];exact H) Z] at p;cases p
end
section
structure iP (t:aH) (A:List Int) (m i:Nat) (w w':aG):Prop where
 cells:w'.cells=w.cells
 regs:w'.regs=w.regs
 at_:w'.at_=w.at_
 steps:w'.steps=w.steps
 len:w.vals.length=t.ins.length
 len':w'.vals.length=m
 vals:∀v:Nat,v<i->dZ (bT t v).op=true->eE A v=true->bL w' (bO A v)=bL w v
def lD (t:aH) (A:List Int) (k:Nat) (v:Int):Prop:=(0<=v/\v<k/\dZ (bT t v).op=true)/\eE A v=true
section
variable {t:aH} {A:List Int} {m i:Nat} {w w':aG}
theorem iP.val (h:iP t A m i w w') {v:Int} (d:lD t A i v):bL w' (bO A v)=bL w v:=by obtain⟨n,rfl⟩:=Int.eq_ofNat_of_zero_le d.1.1;exact h.vals n (by have:=d.1.2.1;omega) d.1.2.2 d.2
theorem iP.cell (h:iP t A m i w w') {v:Int} (d:lD t A i v):dG w' (bO A v)=dG w v:=by unfold dG;rw[h.val d,h.cells]
theorem iP.less {j:Nat} (h:iP t A m i w w') (f:j<=i):iP t A m j w w':=⟨h.cells,h.regs,h.at_,h.steps,h.len,h.len',λv d=>h.vals v (by omega)⟩
structure acL (t:aH) (A:List Int) (m i:Nat) (r r':aG×Int):Prop where
 how:r'.2=r.2
 keep:iP t A m i r.1 r'.1
 next:r.2=0->iP t A m (i+1) r.1 r'.1
theorem pS {w:aG} {i:Nat} (hi:i<w.vals.length) (v:Val) (u:Int) (d:0<=u):bL (setV w i v) u=if u=i then v else bL w u:=by
 obtain⟨n,rfl⟩:=Int.eq_ofNat_of_zero_le d;unfold bL setV;dsimp only;rw[show(n:Int).toNat=n from rfl];by_cases c:n=i;·subst c;rw[if_pos rfl,List.getElem?_set_self hi];rfl
 ·rw[if_neg (by omega),List.getElem?_set_ne (Ne.symm c)]
theorem pT {w:aG} {i:Nat} (hi:i<w.vals.length) (v:Val):bL (setV w i v) (i:Int)=v:=by rw[pS hi _ _ (by omega),if_pos rfl]
theorem iP.setV (h:iP t A m i w w') (hi:i<t.ins.length) {p:Nat} (f:p<m) (g:bO A i=p) (hb:∀v:Nat,v<i->eE A v=true->bO A v<p) (u:Val):iP t A m (i+1) (setV w i u) (setV w' p u):=
 ⟨h.cells,h.regs,h.at_,h.steps,by simp[Go.Proofs.YtijihlcdhppfgaaGreatDoor.setV,h.len],by simp[Go.Proofs.YtijihlcdhppfgaaGreatDoor.setV,h.len'],λv j ht hf=>by
  have d:0<=bO A v:=by unfold eE at hf;simpa using hf
  rw[pS (by rw[h.len'];exact f) _ _ d,pS (by rw[h.len];exact hi) _ _ (by omega)]
  by_cases c:v=i
  ·subst c;rw[g,if_pos rfl,if_pos rfl]
  ·rw[if_neg (by have:=hb v (by omega) hf;omega),if_neg (by omega)]
   exact h.vals v (by omega) ht hf⟩
theorem sim_do (h:iP t A m i w w') (E:iH) (self:Val) (shapes:List aO) (hi:i<t.ins.length) {x y:aT} (V:bT t i=x) (Z:mD x.op=true) {p:Nat} (J:p<m) (K:bO A i=p) (hb:∀v:Nat,v<i->eE A v=true->bO A v<p)
  (f:y=iA (bO A) x) (F:∀v∈bU x,lD t A i v):acL t A m i (doI E self shapes w i x) (doI E self shapes w' p y):=by
 have H:0<(bP x.op).asks->bL w' y.a=bL w x.a:=λc=>by
  rw[f,show(iA (bO A) x).a=bO A x.a from if_pos c];exact h.val (F _ (nL (k:=0) rfl c))
 have s:1<(bP x.op).asks->bL w' y.b=bL w x.b:=λc=>by
  rw[f,show(iA (bO A) x).b=bO A x.b from if_pos c];exact h.val (F _ (nL (k:=1) rfl c))
 have O:2<(bP x.op).asks->bL w' y.c=bL w x.c:=λc=>by
  rw[f,show(iA (bO A) x).c=bO A x.c from if_pos c];exact h.val (F _ (nL (k:=2) rfl c))
 have u:0<(bP x.op).asks->dG w' y.a=dG w x.a:=λc=>by
  rw[f,show(iA (bO A) x).a=bO A x.a from if_pos c];exact h.cell (F _ (nL (k:=0) rfl c))
 have L:¬ 1<(bP x.op).asks->y.b=x.b:=λc=>by rw[f];exact if_neg c
 have z:y.op=x.op:=by rw[f];rfl
 have D:y.n=x.n:=by rw[f];rfl
 have I:y.exit=x.exit:=by rw[f];rfl
 have M:y.k=x.k:=by rw[f];rfl
 clear f
 have d:∀ {c:Prop} [Decidable c] {a b q b':aG×Int},(c->acL t A m i a q)->(¬c->acL t A m i b b')->acL t A m i (if c then a else b) (if c then q else b'):=λ{c} _ {a b q b'} ha hb=>by
  by_cases r:c
  ·rw[if_pos r,if_pos r];exact ha r
  ·rw[if_neg r,if_neg r];exact hb r
 have j:∀ {a q:aG} (how:Int),iP t A m i a q->dZ x.op=false->acL t A m i (a,how) (q,how):=λhow g R=>⟨rfl,g,λ_=>⟨g.cells,g.regs,g.at_,g.steps,g.len,g.len',λv hv ht hf=>by
  by_cases e:v=i
  ·subst e;rw[V,R] at ht;cases ht
  ·exact g.vals v (by omega) ht hf⟩⟩
 have no:∀ {how:Int},how≠0->acL t A m i (w,how) (w',how):=λS=>⟨rfl,h,λe=>absurd e S⟩
 have tell:∀(v:Val) (how:Int),acL t A m i (setV w i v,how) (setV w' p v,how):=λv how=>⟨rfl,(h.setV hi J K hb v).less (by omega),λ_=>h.setV hi J K hb v⟩
 have setC:∀(n:Nat) (c:bJ),iP t A m i (setCW w n c) (setCW w' n c):=λn c=>⟨by show w'.cells.set n c=w.cells.set n c;rw[h.cells],h.regs,h.at_,h.steps,h.len,h.len',h.vals⟩
 have fresh:∀k,acL t A m i (eP w i k) (eP w' p k):=λk=>by
  unfold eP
  rw[h.cells]
  split
  ·exact no (by decide)
  ·have h1:=h.setV hi J K hb ⟨5,w.cells.length⟩
   have N:iP t A m (i+1) { w with vals:=w.vals.set i ⟨5,w.cells.length⟩,cells:=w.cells++[⟨k,0,[],[]⟩] } { w' with vals:=w'.vals.set p ⟨5,w.cells.length⟩,cells:=w.cells++[⟨k,0,[],[]⟩] }:=
    ⟨rfl,h1.regs,h1.at_,h1.steps,h1.len,h1.len',h1.vals⟩
   exact⟨rfl,N.less (by omega),λ_=>N⟩
 unfold doI
 rw[z,D,M]
 refine d (λc=>?_) λc1=>?_
 ·rw[h.regs];exact tell _ 0
 refine d (λc=>tell _ 0) λc2=>?_
 refine d (λc=>tell _ 0) λc3=>?_
 refine d (λc=>?_) λc4=>?_
 ·have l:0<(bP x.op).asks:=by rcases c with c | c | c | c <;> rw[c] <;> decide
  have P:jF E w' y=jF E w x:=by
   unfold jF;rw[H l,u l,z,D,M]
   rcases c with c | c | c | c
   ·rw[if_pos c,if_pos c]
   ·rw[if_neg (by omega),if_pos c,if_neg (by omega),if_pos c]
   ·rw[if_neg (by omega),if_neg (by omega),if_pos c,if_neg (by omega),if_neg (by omega),if_pos c]
   ·rw[L (by rw[c];decide)]
  rw[P]
  exact j _ h (by rcases c with c | c | c | c <;> rw[c] <;> rfl)
 refine d (λc=>?_) λc5=>?_
 ·rw[H (by rw[c];decide),s (by rw[c];decide)]
  unfold gX
  rw[I]
  exact tell _ _
 refine d (λc=>?_) λc6=>?_
 ·rw[H (by rw[c];decide)]
  unfold gX
  rw[I]
  exact tell _ _
 refine d (λc=>?_) λc7=>?_
 ·have l:0<(bP x.op).asks:=by rcases c with c | c | c <;> rw[c] <;> decide
  unfold jK
  rw[u l,z,D]
  cases dG w x.a with
  | none=>exact no (by decide)
  | some nc=>
   obtain⟨n,cl⟩:=nc
   dsimp only
   refine d (λ_=>no (by decide)) λ_=>?_
   refine d (λ_=>tell _ 0) λ_=>?_
   refine d (λe=>?_) λ_=>tell _ 0
   rw[s (by rw[e];decide)]
   exact j _ (setC _ _) (by rw[e];rfl)
 refine d (λc=>?_) λc8=>?_
 ·unfold lH
  rw[u (by rw[c];decide),s (by rw[c];decide),D]
  cases dG w x.a with
  | none=>exact no (by decide)
  | some nc=>
   obtain⟨n,cl⟩:=nc
   dsimp only
   refine d (λ_=>no (by decide)) λ_=>?_
   cases shapes[x.n.toNat]? with
   | none=>exact no (by decide)
   | some sh=>
    dsimp only
    exact d (λ_=>no (by decide)) λ_=>j _ (setC _ _) (by rw[c];rfl)
 refine d (λc=>?_) λc9=>?_
 ·have l:0<(bP x.op).asks:=by rcases c with c | c <;> rw[c] <;> decide
  have h1:1<(bP x.op).asks:=by rcases c with c | c <;> rw[c] <;> decide
  unfold nE
  rw[u l,s h1,z]
  cases dG w x.a with
  | none=>exact no (by decide)
  | some nc=>
   obtain⟨n,cl⟩:=nc
   dsimp only
   refine d (λ_=>no (by decide)) λ_=>?_
   refine d (λ_=>no (by decide)) λ_=>?_
   refine d (λ_=>tell _ 0) λe=>?_
   have G:x.op=14:=by omega
   rw[O (by rw[G];decide)]
   exact j _ (setC _ _) (by rw[G];rfl)
 refine d (λc=>fresh _) λX=>?_
 refine d (λc=>?_) λY=>?_
 ·unfold j6
  rw[u (by rw[c];decide),s (by rw[c];decide),I]
  cases dG w x.a with
  | none=>exact no (by decide)
  | some nc=>
   obtain⟨n,cl⟩:=nc
   dsimp only
   refine d (λ_=>no (by decide)) λ_=>?_
   refine d (λ_=>j _ (setC _ _) (by rw[c];rfl)) λ_=>?_
   exact d (λ_=>no (by decide)) λ_=>no (by decide)
 refine d (λc=>?_) λ_=>fresh _
 rw[L (by rw[c];decide)]
 exact j _ h (by rw[c];rfl)
theorem ah4 (h:iP t A m i w w') {k:dX} (d:lD t A i k.cell/\∀v∈k.vals,lD t A i v):(gF w' (kS A k)).2=(gF w k).2/\iP t A m i (gF w k).1 (gF w' (kS A k)).1:=by
 have e:(k.vals.map (bO A)).map (bL w')=k.vals.map (bL w):=by rw[List.map_map];exact List.map_congr_left λv f=>h.val (d.2 v f)
 unfold gF kS;dsimp only;rw[h.cell d.1,e];cases dG w k.cell with
 | none=>exact⟨rfl,h⟩
 | some nc=>
  obtain⟨n,c⟩:=nc
  dsimp only
  split
  ·exact⟨rfl,h⟩
  ·exact⟨rfl,⟨by show w'.cells.set n _=w.cells.set n _;rw[h.cells],h.regs,h.at_,h.steps,h.len,h.len',h.vals⟩⟩
theorem yQ:∀(l:List dX) (w w':aG),iP t A m i w w'->(∀k∈l,lD t A i k.cell/\∀v∈k.vals,lD t A i v)->(eO w' (l.map (kS A))).2=(eO w l).2/\iP t A m i (eO w l).1 (eO w' (l.map (kS A))).1
 | [],w,w',h,_=>⟨rfl,h⟩
 | k::l,w,w',h,hm=>by
  have h1:=ah4 h (hm k (by simp))
  rw[List.map_cons]
  unfold eO
  rw[h1.1]
  split
  ·exact⟨h1.1,h1.2⟩
  ·exact yQ l _ _ h1.2 (λq d=>hm q (by simp[d]))
theorem abD:∀(l:List oL) (w w':aG),iP t A m i w w'->(∀s∈l,lD t A i s.val)->iP t A m i (gY w l) (gY w' (l.map (setC A)))
 | [],w,w',h,_=>h
 | s::l,w,w',h,hs=>by
  rw[List.map_cons]
  exact abD l _ _ ⟨h.cells,by dsimp only [setC];rw[h.regs,h.val (hs s (by simp))],h.at_,h.steps,h.len,h.len',h.vals⟩ (λq d=>hs q (by simp[d]))
structure kJ (t:aH) (A:List Int) (k:Nat) (x:bX):Prop where
 sets:∀s∈x.sets,lD t A k s.val
 makes:∀q∈x.makes,lD t A k q.cell/\∀v∈q.vals,lD t A k v
theorem kJ.of {x:bX} (h:sS t x i) (hf:dF A x=true):kJ t A i x:=by simp only[dF,Bool.and_eq_true,List.all_eq_true,kU,j7] at hf;exact⟨λs f=>⟨h.sets s f,hf.1 s f⟩,λq d=>⟨⟨(h.makes q d).1,(hf.2 q d).1⟩,λv g=>⟨(h.makes q d).2 v g,(hf.2 q d).2 v g⟩⟩⟩
theorem aeH (h:iP t A m i w w') {x:bX} (f:kJ t A i x):(g8 w' (dM A x)).2=(g8 w x).2/\iP t A m i (g8 w x).1 (g8 w' (dM A x)).1:=by
 have h1:=yQ x.makes w w' h f.makes;unfold g8;rw[show(dM A x).makes=x.makes.map (kS A) from rfl,h1.1];split;·exact⟨h1.1,h1.2⟩
 ·have d:=abD x.sets _ _ h1.2 f.sets;exact⟨rfl,⟨d.cells,d.regs,rfl,by show(gY _ (x.sets.map _)).steps+_=_;rw[d.steps];rfl,d.len,d.len',d.vals⟩⟩
end
structure xN (E:iH) (me:Val) (shapes:List aO) (t t1:aH) (tl:List Int) (I:Nat->Nat->aG->Prop):Prop where
 len:t1.ins.length=t.ins.length
 loop:t1.loop=t.loop
 turn:t1.turn=t.turn
 back:t1.back=t.back
 exits:∀(i:Nat) (e:bX),i<t.ins.length->0<=(bT t i).exit->tl[i]? = some (i:Int)->t.exits[(bT t i).exit.toNat]? = some e->t1.exits[(bT t i).exit.toNat]? = some e/\(bT t1 i).exit=(bT t i).exit\/∀lo w,I lo i w->(doW E t me shapes w i).2≠1
 tells:∀i:Nat,dZ (bT t1 i).op=dZ (bT t i).op
 step:∀(lo i:Nat) (w:aG),i<t.ins.length->lo<=i->I lo i w->(doW E t me shapes w i).2=0->I lo (i+1) (doW E t me shapes w i).1
 turn_:0<t.loop->∀w,I 0 t.loop.toNat w->(g8 w t.turn).2≠2->I t.loop.toNat t.loop.toNat (g8 w t.turn).1
 back_:∀w,I t.loop.toNat t.ins.length w->(g8 w t.back).2≠2->I t.loop.toNat t.loop.toNat (g8 w t.back).1
 kept:∀(lo i:Nat) (w:aG),i<t.ins.length->I lo i w->tl[i]? = some (i:Int)->(doW E t me shapes w i).2≠2->doW E t1 me shapes w i=doW E t me shapes w i
 skip:∀(lo i:Nat) (w:aG),i<t.ins.length->lo<=i->I lo i w->tl[i]?≠some (i:Int)->(doW E t me shapes w i).2≠2->(doW E t me shapes w i).2=0/\(doW E t me shapes w i).1.cells=w.cells/\(∀v:Nat,v<i->bL (doW E t me shapes w i).1 v=bL w v)/\(doW E t me shapes w i).1.vals.length=w.vals.length/\∀n:Nat,tl[i]? = some (n:Int)->bL (doW E t me shapes w i).1 i=bL w n
section
variable {E:iH} {self:Val} {shapes:List aO} {t t1:aH} {tl:List Int} {I:Nat->Nat->aG->Prop} {S:mX}
theorem vB {t:aH} {i:Nat} (hi:i<t.ins.length):t.ins[i]? = some (bT t i):=by unfold bT;rw[show(i:Int).toNat=i from rfl,lG hi];rfl
theorem aaN {t:aH} {i:Nat} {x:aT} (h:t.ins[i]? = some x):bT t i=x:=by unfold bT;rw[show(i:Int).toNat=i from rfl,h];rfl
theorem sA (q:xN E self shapes t t1 tl I) (X:mB t) (z:qF t1) (h:jO t1.loop t1.ins tl t1.ins.length S) (K:oS t1.ins tl) (hf:S.fine=true) (A:t1.exits.all (dF S.at_)=true) (fin:bX) (g:Nat) :
  ∀(k i:Nat) (w w':aG),i+k<=t.ins.length->g<=i->kJ t1 S.at_ (i+k) fin->iP t1 S.at_ S.ins.length i w w'->I g i w->(dA E t self shapes fin k i w).2.2≠2->
  (dA E (bK t1 S) self shapes (dM S.at_ fin) (bD tl (i+k) - bD tl i) (bD tl i) w').2=(dA E t self shapes fin k i w).2/\
   iP t1 S.at_ S.ins.length 0 (dA E t self shapes fin k i w).1 (dA E (bK t1 S) self shapes (dM S.at_ fin) (bD tl (i+k) - bD tl i) (bD tl i) w').1/\
   ((dA E t self shapes fin k i w).2.1<0->iP t1 S.at_ S.ins.length (i+k) (dA E t self shapes fin k i w).1 (dA E (bK t1 S) self shapes (dM S.at_ fin) (bD tl (i+k) - bD tl i) (bD tl i) w').1/\∃V,I g (i+k) V/\(dA E t self shapes fin k i w).1=(g8 V fin).1/\(g8 V fin).2≠2)
 | 0,i,w,w',hn,hlo,hfin,sim,hI,h2=>by
  rw[Nat.add_zero] at hfin ⊢
  rw[Nat.sub_self]
  have h1:=aeH sim hfin
  unfold dA at h2 ⊢
  dsimp only at h2 ⊢
  exact⟨by rw[h1.1],h1.2.less (by omega),λ_=>⟨h1.2,w,hI,rfl,h2⟩⟩
 | k+1,i,w,w',hn,hlo,hfin,sim,hI,h2=>by
  have hi:i<t.ins.length:=by omega
  have f:i<t1.ins.length:=by rw[q.len];exact hi
  have c5:=vB hi
  have u:=vB f
  have p:(doW E t self shapes w i).2≠2:=λc=>by
   unfold dA at h2
   rw[if_pos c] at h2;exact h2 rfl
  have a0:bD tl (i+1)<=bD tl (i+(k+1)):=nD tl (by omega)
  have D:i+(k+1)=i+1+k:=by omega
  by_cases s:tl[i]? = some (i:Int)
  ·
   obtain⟨q1,x,H,q3,q4⟩:=h.kept i f s
   rw[u] at H;injection H with H;subst H
   have a1:bD tl i<S.ins.length:=by rw[h.num];exact iF f s
   have eK:bD tl (i+1)=bD tl i+1:=by show bD tl i+_=_;rw[if_pos s]
   have hA:bO S.at_ i=bD tl i:=by
    unfold bO
    rw[if_neg (by omega),show(i:Int).toNat=i from rfl,q1]
    dsimp only
    rw[if_neg (by omega)]
   have hb:∀v:Nat,v<i->eE S.at_ v=true->bO S.at_ v<bD tl i:=λv J d=>by
    obtain⟨r,r1,r2,r3,-⟩:=h.root K v (by omega) (by unfold eE at d;simpa using d)
    have:=iF (j:=i) (show r<i by omega) r2
    omega
   have ask:∀v∈bU (bT t1 i),lD t1 S.at_ i v:=λv J=>by
    have a:=z.ask i _ u v J
    refine⟨a,?_⟩
    have:=q4 hf
    unfold mJ at this
    rw[List.all_eq_true] at this
    rw[<-zI (i:=i+1) (by have:=a.2.1;omega)];exact this v J
   have ei:oE (S.at_.take (i+1)) (bT t1 i)=iA (bO S.at_) (bT t1 i):=tH λv a9=>sF (by have:=(ask v a9).1.2.1;omega)
   rw[ei] at q3
   have eR:bT (bK t1 S) (bD tl i:Nat)=iA (bO S.at_) (bT t1 i):=aaN (t:=bK t1 S) q3
   have F:=sim_do sim E self shapes f rfl (z.ops i _ u) a1 hA hb rfl ask
   have dk:=q.kept g i w hi hI s p
   have eD:doW E (bK t1 S) self shapes w' (bD tl i)=doI E self shapes w' (bD tl i) (iA (bO S.at_) (bT t1 i)):=by unfold doW;rw[eR]
   have a2:doI E self shapes w i (bT t1 i)=doW E t self shapes w i:=dk
   rw[a2,<-eD] at F
   have M:bD tl (i+(k+1)) - bD tl i=(bD tl (i+1+k) - bD tl (i+1))+1:=by rw[D] at a0 ⊢;omega
   rw[M]
   unfold dA at h2 ⊢
   rw[if_neg p] at h2
   rw[if_neg p,F.how,if_neg p]
   by_cases l:(doW E t self shapes w i).2=1
   ·rw[if_pos l] at h2
    rw[if_pos l,if_pos l]
    have hl:=aaR E X self shapes w hi l
    cases Y:t.exits[(bT t i).exit.toNat]? with
    | none=>rw[Y] at h2;exact absurd rfl h2
    | some ex=>
     rw[Y] at h2
     dsimp only at h2
     rcases q.exits i ex hi hl.1 s Y with ⟨x1,Z⟩ | x1
     ·have N:(bT (bK t1 S) (bD tl i:Nat)).exit=(bT t i).exit:=by rw[eR,<-Z];rfl
      rw[N]
      have hc:(bK t1 S).exits[(bT t i).exit.toNat]? = some (dM S.at_ ex):=by
       show(t1.exits.map _)[_]? = _
       rw[List.getElem?_map,x1];rfl
      rw[hc]
      dsimp only
      have te:=z.exits i _ ex u (by rw[Z];exact hl.1) (by rw[Z];exact x1)
      have h3:=aeH F.keep (kJ.of te (List.all_eq_true.1 A ex (lM x1)))
      exact⟨by rw[h3.1],h3.2.less (by omega),λc=>absurd hl.1 (by omega)⟩
     ·exact absurd l (x1 g w hI)
   ·rw[if_neg l] at h2
    rw[if_neg l,if_neg l]
    have G:(doW E t self shapes w i).2=0:=by
     rcases ajW E self shapes w i (bT t i) with c | c | c
     ·exact c
     ·exact absurd c l
     ·exact absurd c p
    rw[D] at hfin ⊢
    rw[<-eK]
    exact sA q X z h K hf A fin g k (i+1) _ _ (by omega) (by omega) hfin (F.next G) (q.step g i w hi hlo hI G) h2
  ·
   obtain⟨G,ec,ev,a7,M⟩:=q.skip g i w hi hlo hI s p
   have O:=pK E t self shapes w i
   have eK:bD tl (i+1)=bD tl i:=by show bD tl i+_=_;rw[if_neg s];rfl
   have P:iP t1 S.at_ S.ins.length (i+1) (doW E t self shapes w i).1 w':=by
    refine⟨by rw[ec];exact sim.cells,by rw[O.regs];exact sim.regs,by rw[O.at_];exact sim.at_,by rw[O.steps];exact sim.steps,by rw[a7];exact sim.len,sim.len',λv J ht d=>?_⟩
    by_cases c:v=i
    ·subst c
     obtain⟨n,y,R⟩:=h.some_ v f
     rcases R with rfl | ⟨R,n3⟩
     ·have:=h.gone v f y
      unfold eE bO at d
      rw[if_neg (by omega),show(v:Int).toNat=v from rfl,this] at d
      exact absurd d (by decide)
     ·obtain⟨n,rfl⟩:=Int.eq_ofNat_of_zero_le R
      have L:n≠v:=λc=>s (by rw[y,c])
      obtain⟨s1,s2⟩:=h.sent v n f L y
      have e:bO S.at_ v=bO S.at_ n:=by
       unfold bO
       rw[if_neg (by omega),if_neg (by omega),show(v:Int).toNat=v from rfl,show(n:Int).toNat=n from rfl,s2]
      have a4:eE S.at_ n=true:=by unfold eE at d ⊢;rw[<-e];exact d
      have a5:dZ (bT t1 n).op=true:=by
       have:=K.tell v n L y
       unfold l6 at this
       rw[show(n:Int).toNat=n from rfl,vB (t:=t1) (i:=n) (by omega)] at this
       exact this
      rw[e,M n y]
      exact sim.vals n s1 a5 a4
    ·rw[ev v (by omega)]
     exact sim.vals v (by omega) ht d
   unfold dA at h2
   rw[if_neg p,if_neg (by omega)] at h2
   have eT:dA E t self shapes fin (k+1) i w=dA E t self shapes fin k (i+1) (doW E t self shapes w i).1:=by
    conv=>lhs;unfold dA
    rw[if_neg p,if_neg (by omega)]
   rw[eT,D,<-eK]
   rw[D] at hfin
   exact sA q X z h K hf A fin g k (i+1) _ _ (by omega) (by omega) hfin P (q.step g i w hi hlo hI G) h2
def nF (t:aH) (done:Nat):Nat:=if done=0 then 0 else t.loop.toNat
theorem ah3 (g:xN E self shapes t t1 tl I) (M:mB t) (y:ad7 t) (N:qF t1) (h:jO t1.loop t1.ins tl t1.ins.length S) (O:oS t1.ins tl) (hf:S.fine=true) (z:t1.exits.all (dF S.at_)=true) (ht:0<t.loop->kJ t1 S.at_ t.loop.toNat t1.turn) (hb:kJ t1 S.at_ t.ins.length t1.back) (R:0<t.loop->tl[0]? = some 0) (f:Nat) {w w':aG} (l:iP t1 S.at_ S.ins.length (nF t f) w w') (hI:I (nF t f) (nF t f) w) (v:(eW E t self shapes f w).2.2≠2):(eW E (bK t1 S) self shapes f w').2=(eW E t self shapes f w).2/\iP t1 S.at_ S.ins.length 0 (eW E t self shapes f w).1 (eW E (bK t1 S) self shapes f w').1/\ ((eW E t self shapes f w).2.1<0->iP t1 S.at_ S.ins.length t.loop.toNat (eW E t self shapes f w).1 (eW E (bK t1 S) self shapes f w').1/\I t.loop.toNat t.loop.toNat (eW E t self shapes f w).1):=by
 have h1:t1.loop.toNat<=t.ins.length:=by rw[g.loop];have:=y.2.2;omega
 have A:(bK t1 S).loop=(bD tl t.loop.toNat:Int):=by rw[<-g.loop];exact h.loop_ (by rw[g.loop];exact y.2.2.1) (by rw[g.loop,g.len];exact y.2.2.2)
 have P:(bK t1 S).ins.length=bD tl t.ins.length:=by rw[<-g.len];exact h.num
 have D:0<t.loop->0<bD tl t.loop.toNat:=λc=>by have:=iF (i:=0) (j:=t.loop.toNat) (by omega) (by simpa using R c);omega
 have x:¬ 0<t.loop->bD tl t.loop.toNat=0:=λc=>by rw[show t.loop.toNat=0 by omega];rfl
 unfold eW at v ⊢;by_cases c:f=0/\0<t.loop
 ·have c':f=0/\0<(bK t1 S).loop:=⟨c.1,by rw[A];have:=D c.2;omega⟩;rw[if_pos c] at v;rw[if_pos c,if_pos c'];have F:nF t f=0:=by unfold nF;rw[if_pos c.1]
  rw[F] at l hI;obtain⟨r,s,u⟩:=sA g M N h O hf z t.turn 0 t.loop.toNat 0 w w' (by rw[g.loop] at h1;omega) (by omega) (by rw[Nat.zero_add,<-g.turn];exact ht c.2) l hI v;rw[Nat.zero_add,show bD tl 0=0 from rfl,Nat.sub_zero] at r s u;rw[show(bK t1 S).turn=dM S.at_ t.turn by rw[<-g.turn];rfl,A,show((bD tl t.loop.toNat:Nat):Int).toNat=bD tl t.loop.toNat from rfl];refine⟨r,s,λd=>?_⟩;obtain⟨G,H,J,K,L⟩:=u d;refine⟨G,?_⟩;rw[K];exact g.turn_ c.2 H J L
 ·have c':¬(f=0/\0<(bK t1 S).loop):=λd=>c ⟨d.1,by
   rcases Int.lt_or_le 0 t.loop with q | q;·exact q
   ·have:=x (by omega);omega⟩
  rw[if_neg c] at v;rw[if_neg c,if_neg c'];have F:nF t f=t.loop.toNat:=by
   unfold nF;split;·have:=y.2.2.1;omega
   ·rfl
  rw[F] at l hI;have p:t.loop.toNat+(t.ins.length - t.loop.toNat)=t.ins.length:=by rw[g.loop] at h1;omega
  obtain⟨r,s,u⟩:=sA g M N h O hf z t.back t.loop.toNat (t.ins.length - t.loop.toNat) t.loop.toNat w w' (by omega) (by omega) (by rw[p,<-g.back];exact hb) l hI v;rw[p] at r s u;rw[show(bK t1 S).back=dM S.at_ t.back by rw[<-g.back];rfl,A,P,show((bD tl t.loop.toNat:Nat):Int).toNat=bD tl t.loop.toNat from rfl];refine⟨r,s,λd=>?_⟩;obtain⟨G,H,J,K,L⟩:=u d;refine⟨G.less (by omega),?_⟩;rw[K];exact g.back_ H J L
theorem aeG (j:xN E self shapes t t1 tl I) (l:mB t) (p:ad7 t) (q:qF t1) (h:jO t1.loop t1.ins tl t1.ins.length S) (r:oS t1.ins tl) (hf:S.fine=true) (f:t1.exits.all (dF S.at_)=true)
  (ht:0<t.loop->kJ t1 S.at_ t.loop.toNat t1.turn) (hb:kJ t1 S.at_ t.ins.length t1.back) (s:0<t.loop->tl[0]? = some 0):∀(k d:Nat) (w w':aG),iP t1 S.at_ S.ins.length (nF t d) w w'->I (nF t d) (nF t d) w->
  (cH E t self shapes k d w).2.2.2≠2->(cH E (bK t1 S) self shapes k d w').2=(cH E t self shapes k d w).2/\iP t1 S.at_ S.ins.length 0 (cH E t self shapes k d w).1 (cH E (bK t1 S) self shapes k d w').1
 | 0,d,w,w',sim,_,_=>⟨rfl,sim.less (by omega)⟩
 | k+1,d,w,w',sim,hI,h2=>by
  have g:(eW E t self shapes d w).2.2≠2:=λc=>by
   unfold cH at h2
   simp only[if_pos (Or.inl c:_\/0<=(eW E t self shapes d w).2.1)] at h2
   exact h2 c
  obtain⟨u,v,x⟩:=ah3 j l p q h r hf f ht hb s d sim hI g
  unfold cH at h2 ⊢
  dsimp only at h2 ⊢
  rw[u]
  by_cases c:(eW E t self shapes d w).2.2=2\/0<=(eW E t self shapes d w).2.1
  ·rw[if_pos c,if_pos c]
   exact⟨rfl,v⟩
  ·rw[if_neg c] at h2
   rw[if_neg c,if_neg c]
   obtain⟨y,z⟩:=x (by omega)
   exact aeG j l p q h r hf f ht hb s k (d+1) _ _ y z h2
end
theorem run_cut {E:iH} {R:Val->Bool} {V:Int} {fns:List FnM} {F stc:Int} {t d:aH} {tl:List Int} {S0 out:aP} {th turns exit n:Int} (h:mC E F stc t S0 th turns=(out,exit,n,0)) (X:mB t) (Y:ad7 t) (q:cQ R V fns d=0) (l:(g9 d tl).2=0) (Z:oS d.ins tl) (h0:0<t.loop->tl[0]? = some 0) (e1:d.fn=t.fn) (e2:d.at_=t.at_) (g:∀(f:bC) l,S0.threads[th.toNat]? = some l->l.frames.getLast? = some f->∃I,xN E f.self S0.shapes t d tl I/\I 0 0 (gG t S0 f)):mC E 0 stc (g9 d tl).1 S0 th turns=(out,exit,n,0):=by
 obtain⟨S,J,e,hl,K,L,M,f4⟩:=tT l;rw[e];obtain⟨-,r2,r3,r4,r5,N,f,r,s,r8,r9,x,p,a3,y,z,A⟩:=run_ok h;obtain⟨I,g,hI⟩:=g f N r s;have u:=adZ q;have hb:kJ d S.at_ t.ins.length d.back:=by rw[<-g.len];exact kJ.of u.back f4
 have ht:0<t.loop->kJ d S.at_ t.loop.toNat d.turn:=λc=>by obtain⟨_,_,fn,_,_,p5,_,_,O,_⟩:=fD q;have:=(O (by rw[g.loop];exact c)).2;rw[g.loop,show t.loop=((t.loop.toNat:Nat):Int) by omega] at this;exact kJ.of (rF this) M
 have w:iP d S.at_ S.ins.length (nF t 0) (gG t S0 f) (gG (bK d S) S0 f):=⟨rfl,rfl,rfl,rfl,by rw[g.len];simp[gG],by simp[gG,bK],λv D=>by unfold nF at D;rw[if_pos rfl] at D;omega⟩;obtain⟨P,j⟩:=aeG g X Y u J Z K L ht hb h0 turns.toNat 0 _ _ w (by unfold nF;rw[if_pos rfl];exact hI) p;have G:iL (bK d S) S0 th=true:=by unfold iL;rw[if_neg (by omega),r];dsimp only;rw[s];dsimp only;rw[r8,r9,x,show(bK d S).fn=t.fn from e1,show(bK d S).at_=t.at_ from e2];simp
 unfold mC;rw[if_neg (by decide),if_neg (by omega),if_neg (by omega),r];dsimp only;rw[G,if_neg (by decide),if_neg (by omega),s];dsimp only;rw[P,if_neg p,j.steps,if_neg (by omega),y,z,A];have H:jS S0 th.toNat (cH E (bK d S) f.self S0.shapes turns.toNat 0 (gG (bK d S) S0 f)).1=jS S0 th.toNat (cH E t f.self S0.shapes turns.toNat 0 (gG t S0 f)).1:=by unfold jS;rw[j.cells,j.regs,j.at_,j.steps]
 rw[H]
end
end Go.Proofs.YtijihlcdhppfgaaGreatDoor
