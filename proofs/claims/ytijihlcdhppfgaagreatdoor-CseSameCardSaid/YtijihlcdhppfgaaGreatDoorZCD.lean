/- A part of the walk. -/
import Derived.Test.YtijihlcdhppfgaaGreatDoorZCC
import Derived.Test.YtijihlcdhppfgaaGreatDoorZU
set_option maxHeartbeats 16000000
set_option maxRecDepth 100000
set_option linter.all false
namespace Go.Proofs.YtijihlcdhppfgaaGreatDoor
open Tryz
section
def Like (x y:aT):Prop:=y.op=x.op/\y.n=x.n/\y.exit=x.exit/\y.k=x.k
structure pP (loop0:Int) (l:List aT) (m:List Int) (j:Nat) (S:mX) (ks:List Nat):Prop where
 at_:S.at_.length=j
 len:ks.length=S.ins.length
 all:∀i,i∈ks↔i<j/\m[i]? = some (i:Int)
 up:ks.Pairwise (· < ·)
 like:∀(p i:Nat),ks[p]? = some i->∃x y:aT,l[i]? = some x/\S.ins[p]? = some y/\Like x y
 loop:0<=loop0->loop0<j->∀(p i:Nat),ks[p]? = some i->((p:Int)<S.loop↔(i:Int)<loop0)
 lop:S.loop<=S.ins.length
theorem pP.zero (loop0:Int) (l:List aT) (m:List Int):pP loop0 l m 0 ⟨[],true,0,[]⟩ []:= ⟨rfl,rfl,λi=>by simp,List.Pairwise.nil,λp i h=>by simp at h,λ_ _ p i h=>by simp at h,by simp⟩
theorem pP.drop {loop0:Int} {l:List aT} {m:List Int} {j:Nat} {S f:mX} {q:List Nat} (h:pP loop0 l m j S q) {n:Int} (u:m[j]? = some n) (v:n≠j) (w:f.at_.length=j+1) (g:f.ins=S.ins) (r:f.loop=if(j:Int)=loop0 then(S.ins.length:Int) else S.loop):pP loop0 l m (j+1) f q:=by
 refine⟨w,by rw[g];exact h.len,λi=>?_,h.up,λp i d=>by rw[g];exact h.like p i d,λs h1 p i d=>?_,?_⟩
 ·rw[h.all];constructor;·rintro ⟨a,b⟩;exact⟨by omega,b⟩
  ·rintro ⟨a,b⟩;refine⟨?_,b⟩;rcases Nat.lt_or_ge i j with c | c;·exact c
   ·obtain rfl:i=j:=by omega
    rw[u] at b;injection b with b;exact(v b).elim
 ·have hi:=(h.all i).1 (lM d);have x:=(lE d).1;have:=h.len;rw[r];split;·omega
  ·exact h.loop s (by omega) p i d
 ·rw[r,g];split;·omega
  ·exact h.lop
theorem pP.push {loop0:Int} {l:List aT} {m:List Int} {j:Nat} {S g:mX} {f:List Nat} (h:pP loop0 l m j S f) (E:m[j]? = some (j:Int)) {x y:aT} (F:l[j]? = some x) (G:Like x y) (H:g.at_.length=j+1) (q:g.ins=S.ins++[y]) (s:g.loop=if(j:Int)=loop0 then(S.ins.length:Int) else S.loop):pP loop0 l m (j+1) g (f++[j]):=by
 have hl:=h.len;have r:∀p i,(f++[j])[p]? = some i->(f[p]? = some i/\p<f.length)\/(p=f.length/\i=j):=λp i d=>by
  rcases Nat.lt_or_ge p f.length with c | c;·rw[List.getElem?_append_left c] at d;exact .inl ⟨d,c⟩
  ·rw[List.getElem?_append_right c] at d;have:=(lE d).1;simp only[List.length_cons,List.length_nil] at this;have u:p - f.length=0:=(by omega);rw[u] at d;exact .inr ⟨by omega,by simpa using d.symm⟩
 refine⟨H,by rw[q];simp[hl],λi=>?_,?_,λp i d=>?_,λA h1 p i d=>?_,?_⟩
 ·rw[List.mem_append,h.all];constructor
  ·rintro (⟨a,b⟩ | a);·exact⟨by omega,b⟩
   ·simp at a;subst a;exact⟨by omega,E⟩
  ·rintro ⟨a,b⟩;rcases Nat.lt_or_ge i j with c | c;·exact .inl ⟨c,b⟩
   ·right;simp;omega
 ·rw[List.pairwise_append];refine⟨h.up,List.pairwise_singleton _ _,λa D b hb=>?_⟩;simp at hb;subst hb;exact((h.all a).1 D).1
 ·rcases r p i d with ⟨d,c⟩ | ⟨rfl,rfl⟩;·obtain⟨x,y,v,w,z⟩:=h.like p i d;exact⟨x,y,v,by rw[q,List.getElem?_append_left (by omega)];exact w,z⟩
  ·exact⟨x,y,F,by rw[q,List.getElem?_append_right (by omega),show f.length - S.ins.length=0 by omega];rfl,G⟩
 ·rw[s];rcases r p i d with ⟨d,c⟩ | ⟨rfl,rfl⟩
  ·have hi:=(h.all i).1 (lM d);split;·omega
   ·exact h.loop A (by omega) p i d
  ·split;·omega
   ·rename_i I;have:=h.lop;constructor;·intro c;omega
    ·intro c;omega
 ·rw[s,q,List.length_append];have:=h.lop;split <;> simp only[List.length_cons,List.length_nil] <;> omega
end
section
structure Key where
 op:Int
 n:Int
 a:Int
 b:Int
 ahead:Bool
 k:Val
deriving DecidableEq
def eV (x:aT) (ahead:Bool):Option Key:=
 if x.op=2 then some ⟨2,0,0,0,false,x.k⟩
 else if x.op=3 then some ⟨3,0,0,0,false,⟨0,0⟩⟩
 else if x.op=1 then some ⟨1,x.n,0,0,ahead,⟨0,0⟩⟩
 else if x.op=8 then some ⟨8,x.n,x.a,0,false,⟨0,0⟩⟩
 else if x.op=7 then some (if x.n=3\/x.n=5\/x.n=8 then⟨7,x.n,min x.a x.b,max x.a x.b,false,⟨0,0⟩⟩ else⟨7,x.n,x.a,x.b,false,⟨0,0⟩⟩)
 else none
def gZ (k:Key):List (Key×Int)->Option Int
 | []=>none
 | (q,i)::l=>if q=k then some i else gZ k l
structure pQ where
 seen:List (Key×Int)
 tl:List Int
def rM (s:pQ) (x:aT):aT:=iA (λv=>s.tl.getD v.toNat 0) x
def oJ (loop:Int) (s:pQ) (x:aT):pQ:=
 match eV (rM s x) (decide ((s.tl.length:Int)<loop)) with
 | none=>⟨s.seen,s.tl++[(s.tl.length:Int)]⟩
 | some k=>match gZ k s.seen with
  | some f=>⟨s.seen,s.tl++[f]⟩
  | none=>⟨(k,(s.tl.length:Int))::s.seen,s.tl++[(s.tl.length:Int)]⟩
def gO (loop:Int) (l:List aT) (s:pQ):pQ:=l.foldl (oJ loop) s
def bR (t:aH):List Int:=(gO t.loop t.ins ⟨[],[]⟩).tl
def tU (ce:Int) (t:aH):aH×Int:=if ce≠0 then(mT,ce) else g9 t (bR t)
theorem abU {x:aT} (h:x.op=1\/x.op=2\/x.op=3) (F:Int->Int) (d:Bool):eV (iA F x) d=eV x d:=by unfold eV iA;dsimp only;rcases h with h | h | h <;> rw[h] <;> rfl
structure ahO (loop:Int) (l:List aT) (j:Nat) (s:pQ):Prop where
 len:s.tl.length=j
 few:∀k i,gZ k s.seen=some i->0<=i/\i<j
 bd:∀v∈s.tl,0<=v/\v<j
 once:∀(i:Nat) x,i<j->l[i]? = some x->(x.op=1\/x.op=2\/x.op=3)->s.tl[i]? = some (i:Int)->∃k,eV x (decide ((i:Int)<loop))=some k/\gZ k s.seen=some (i:Int)
theorem aiX {x:aT} (h:x.op=1\/x.op=2\/x.op=3) (d:Bool):∃k,eV x d=some k:=by unfold eV;rcases h with h | h | h <;> rw[h] <;> exact⟨_,rfl⟩
theorem ab4 {loop:Int} {l:List aT} {j:Nat} {s:pQ} (h:ahO loop l j s) {x:aT} (A:l[j]? = some x):ahO loop l (j+1) (oJ loop s x):=by
 have hl:=h.len;have old:∀ {v:Int} {i:Nat},i<j->(s.tl++[v])[i]? = some (i:Int)->s.tl[i]? = some (i:Int):=λhi e=>by rwa [List.getElem?_append_left (by omega)] at e
 have new:∀ {v:Int} {i:Nat},i=j->(s.tl++[v])[i]? = some (i:Int)->v=j:=λhi e=>by subst hi;rw[List.getElem?_append_right (by omega),hl,Nat.sub_self] at e;simpa using e
 have grow:∀ {v:Int},0<=v/\v<((j+1:Nat):Int)->∀u∈s.tl++[v],0<=u/\u<((j+1:Nat):Int):=λD u hu=>by
  rcases List.mem_append.1 hu with hu | hu;·have:=h.bd u hu;omega
  ·simp at hu;subst hu;exact D
 unfold oJ;cases p:eV (rM s x) (decide ((s.tl.length:Int)<loop)) with
 | none=>
  dsimp only
  refine⟨by simp[hl],λk i e=>by have:=h.few k i e;omega,grow ⟨by omega,by omega⟩,λi y hi d g e=>?_⟩
  rcases Nat.lt_or_ge i j with c | c
  ·exact h.once i y c d g (old c e)
  ·obtain rfl:i=j:=by omega
   rw[A] at d;injection d with d;subst d
   obtain⟨k,z⟩:=aiX g (decide ((s.tl.length:Int)<loop))
   unfold rM at p
   rw[abU g,z] at p;cases p
 | some k=>
  dsimp only
  cases w:gZ k s.seen with
  | some f=>
   dsimp only
   refine⟨by simp[hl],λk i e=>by have:=h.few k i e;omega,grow (by have:=h.few k f w;omega),λi y hi d g e=>?_⟩
   rcases Nat.lt_or_ge i j with c | c
   ·exact h.once i y c d g (old c e)
   ·obtain rfl:i=j:=by omega
    have:=new rfl e
    have:=h.few k f w
    omega
  | none=>
   dsimp only
   refine⟨by simp[hl],λq i e=>?_,grow ⟨by omega,by omega⟩,λi y hi d g e=>?_⟩
   ·unfold gZ at e
    split at e
    ·injection e with e;omega
    ·have:=h.few q i e;omega
   ·rcases Nat.lt_or_ge i j with c | c
    ·obtain⟨q,h1,r⟩:=h.once i y c d g (old c e)
     refine⟨q,h1,?_⟩
     unfold gZ
     rw[if_neg (by rintro rfl;rw[w] at r;cases r)]
     exact r
    ·obtain rfl:i=j:=by omega
     rw[A] at d;injection d with d;subst d
     unfold rM at p
     rw[abU g,hl] at p
     refine⟨k,p,?_⟩
     unfold gZ
     rw[if_pos rfl,hl]
theorem ae4 {loop:Int} {l:List aT} : ∀(k j:Nat) (s:pQ),j+k=l.length->ahO loop l j s->ahO loop l l.length (gO loop (l.drop j) s)
 | 0,j,s,hk,h=>by
  obtain rfl:j=l.length:=by omega
  rw[List.drop_length];exact h
 | k+1,j,s,hk,h=>by
  have d:j<l.length:=by omega
  rw[List.drop_eq_getElem_cons d]
  exact ae4 k (j+1) _ (by omega) (ab4 h (lG d))
theorem ab3 {loop:Int} {l:List aT} {j:Nat} {x:aT} (f:l[j]? = some x) (s:pQ):gO loop (l.take (j+1)) s=oJ loop (gO loop (l.take j) s) x:=by obtain⟨h1,d⟩:=lE f;unfold gO;rw[List.take_succ_eq_append_getElem h1,d,List.foldl_append];rfl
theorem aj0 (loop:Int) (l:List aT):∀j,j<=l.length->ahO loop l j (gO loop (l.take j) ⟨[],[]⟩)
 | 0,_=>by
  rw[List.take_zero]
  exact⟨rfl,λk i e=>(by cases e),λv f=>(by simp[gO] at f),λi _ hi=>by omega⟩
 | j+1,h=>by
  have d:l[j]? = some (l[j]'(by omega)):=lG (by omega)
  rw[ab3 d]
  exact ab4 (aj0 loop l j (by omega)) d
theorem cse_to (t:aH):ahO t.loop t.ins t.ins.length (gO t.loop t.ins ⟨[],[]⟩):=by have:=ae4 (loop:=t.loop) (l:=t.ins) t.ins.length 0 ⟨[],[]⟩ (by omega) ⟨rfl,λk i e=>(by cases e),λv d=>(by simp at d),λi _ hi=>by omega⟩;simpa using this
end
section
def bQ (T:List Int) (x:aT):aT:=iA (λv=>T.getD v.toNat 0) x
structure ahN (loop:Int) (ins:List aT) (j:Nat) (s:pQ):Prop where
 len:s.tl.length=j
 seen:∀k i,gZ k s.seen=some i->∃f:Nat,i=f/\f<j/\s.tl[f]? = some (f:Int)/\∃y,ins[f]? = some y/\eV (bQ s.tl y) (decide ((f:Int)<loop))=some k
 one:∀i:Nat,i<j->∃y,ins[i]? = some y/\((s.tl[i]? = some (i:Int))\/∃f:Nat,s.tl[i]? = some (f:Int)/\f<i/\s.tl[f]? = some (f:Int)/\∃z k,ins[f]? = some z/\eV (bQ s.tl y) (decide ((i:Int)<loop))=some k/\eV (bQ s.tl z) (decide ((f:Int)<loop))=some k)
 once:∀(i:Nat) y k,i<j->s.tl[i]? = some (i:Int)->ins[i]? = some y->eV (bQ s.tl y) (decide ((i:Int)<loop))=some k->gZ k s.seen=some (i:Int)
theorem yW {T:List Int} {a:Int} {x:aT} (h:∀v∈bU x,0<=v/\v<T.length):bQ (T++[a]) x=bQ T x:=tH λv d=>by
 have:=h v d
 rw[List.getD_eq_getElem?_getD,List.getD_eq_getElem?_getD,List.getElem?_append_left (by omega)]
theorem ag4 {loop:Int} {ins:List aT} {j:Nat} {s:pQ} (h:ahN loop ins j s) (ask:∀(i:Nat) x,ins[i]? = some x->∀v∈bU x,0<=v/\v<(i:Int)) {x:aT} (I:ins[j]? = some x):ahN loop ins (j+1) (oJ loop s x):=by
 have hl:=h.len;have u:∀(A:List (Key×Int)) (a:Int),(∀k i,gZ k A=some i->gZ k s.seen=some i\/(i=(j:Int)/\a=(j:Int)/\eV (bQ (s.tl++[a]) x) (decide ((j:Int)<loop))=some k))->
   (a=(j:Int)\/∃k f,a=f/\gZ k s.seen=some f/\eV (bQ (s.tl++[a]) x) (decide ((j:Int)<loop))=some k)->(∀k i,gZ k s.seen=some i->gZ k A=some i)->(∀k,a=(j:Int)->eV (bQ (s.tl++[a]) x) (decide ((j:Int)<loop))=some k->gZ k A=some (j:Int))->ahN loop ins (j+1) ⟨A,s.tl++[a]⟩:=by
  intro A a h1 D S V
  have old:∀i:Nat,i<j->(s.tl++[a])[i]? = s.tl[i]?:=λi hi=>List.getElem?_append_left (by omega)
  have new:(s.tl++[a])[j]? = some a:=by rw[List.getElem?_append_right (by omega),hl,Nat.sub_self];rfl
  have w:∀(i:Nat) y,i<j->ins[i]? = some y->bQ (s.tl++[a]) y=bQ s.tl y:=λi y hi p=>yW λv L=>by have:=ask i y p v L;omega
  refine⟨by simp[hl],λk i r=>?_,λi hi=>?_,λi y k hi ht p l=>?_⟩
  ·rcases h1 k i r with c | ⟨rfl,X,Y⟩
   ·obtain⟨f,rfl,F,J,y,G,f4⟩:=h.seen k i c
    exact⟨f,rfl,by omega,(old f F).trans J,y,G,by show eV (bQ (s.tl++[a]) y) _=_;rw[w f y F G];exact f4⟩
   ·exact⟨j,rfl,by omega,by rw[new,X],x,I,Y⟩
  ·rcases Nat.lt_or_ge i j with c | c
   ·obtain⟨y,N,K⟩:=h.one i c
    refine⟨y,N,?_⟩
    rcases K with K | ⟨f,F,J,G,z,k,f4,f5,f6⟩
    ·exact .inl ((old i c).trans K)
    ·exact .inr ⟨f,(old i c).trans F,J,(old f (by omega)).trans G,z,k,f4,by show eV (bQ (s.tl++[a]) y) _=_;rw[w i y c N];exact f5,by show eV (bQ (s.tl++[a]) z) _=_;rw[w f z (by omega) f4];exact f6⟩
   ·obtain rfl:i=j:=by omega
    refine⟨x,I,?_⟩
    rcases D with D | ⟨k,f,D,Z,h4⟩
    ·exact .inl (by rw[<-D];exact new)
    ·obtain⟨g,rfl,H,P,z,O,R⟩:=h.seen k f Z
     exact .inr ⟨g,by rw[<-D];exact new,H,(old g H).trans P,z,k,O,h4,by show eV (bQ (s.tl++[a]) z) _=_;rw[w g z H O];exact R⟩
  ·change eV (bQ (s.tl++[a]) y) _=_ at l
   change (s.tl++[a])[i]? = _ at ht
   rcases Nat.lt_or_ge i j with c | c
   ·rw[old i c] at ht
    rw[w i y c p] at l
    exact S k i (h.once i y k c ht p l)
   ·obtain rfl:i=j:=by omega
    rw[new] at ht;injection ht with ht
    rw[I] at p;injection p with p;subst p
    exact V k ht l
 have E:∀a,bQ (s.tl++[a]) x=rM s x:=λa=>yW λv L=>by have:=ask j x I v L;omega
 unfold oJ;rw[hl];cases r:eV (rM s x) (decide ((j:Int)<loop)) with
 | none=>exact u s.seen j (λk i h=>.inl h) (.inl rfl) (λ_ _ h=>h) (λk _ h=>by rw[E,r] at h;cases h)
 | some k=>
  dsimp only
  cases M:gZ k s.seen with
  | some f=>exact u s.seen f (λk i h=>.inl h) (.inr ⟨k,f,rfl,M,by rw[E];exact r⟩) (λ_ _ h=>h) (λq e _=>by obtain⟨g,rfl,H,-⟩:=h.seen k f M;omega)
  | none=>
   refine u ((k,(j:Int))::s.seen) j (λq i d=>?_) (.inl rfl) (λq i d=>?_) (λq _ d=>?_)
   ·unfold gZ at d
    split at d
    ·rename_i e
     injection d with d
     exact .inr ⟨d.symm,rfl,by rw[E,<-e];exact r⟩
    ·exact .inl d
   ·unfold gZ
    rw[if_neg (by rintro rfl;rw[M] at d;cases d)];exact d
   ·rw[E,r] at d;injection d with d
    unfold gZ
    rw[if_pos d]
theorem ab6 {loop:Int} {ins:List aT} (ask:∀(i:Nat) x,ins[i]? = some x->∀v∈bU x,0<=v/\v<(i:Int)):∀(k j:Nat) (s:pQ),j+k=ins.length->ahN loop ins j s->ahN loop ins ins.length (gO loop (ins.drop j) s)
 | 0,j,s,hk,h=>by
  obtain rfl:j=ins.length:=by omega
  rw[List.drop_length];exact h
 | k+1,j,s,hk,h=>by
  have d:j<ins.length:=by omega
  rw[List.drop_eq_getElem_cons d]
  exact ab6 ask k (j+1) _ (by omega) (ag4 h ask (lG d))
theorem xE (t:aH) (ask:∀(i:Nat) x,t.ins[i]? = some x->∀v∈bU x,0<=v/\v<(i:Int)):ahN t.loop t.ins t.ins.length (gO t.loop t.ins ⟨[],[]⟩):=by have:=ab6 ask (loop:=t.loop) t.ins.length 0 ⟨[],[]⟩ (by omega) ⟨rfl,λk i e=>(by cases e),λi hi=>by omega,λi _ _ hi=>by omega⟩;simpa using this
theorem wK {x:aT} {d:Bool} {k:Key} (h:eV x d=some k):x.op=1\/x.op=2\/x.op=3\/x.op=7\/x.op=8:=by
 unfold eV at h;repeat (split at h <;> first | omega | skip)
 cases h
def acN (E:iH):Prop:=∀n u v,n=3\/n=5\/n=8->E.B n u v=E.B n v u
def Holds (E:iH) (self:Val) (T:List Int) (lo f:Nat) (x:aT) (w:aG):Prop:=
 (x.op=1->lo<=f->bL w f=w.regs.getD x.n.toNat ⟨0,0⟩)/\(x.op=2->bL w f=x.k)/\(x.op=3->bL w f=self)/\
 (x.op=7->bL w f=(E.B x.n (bL w (bQ T x).a) (bL w (bQ T x).b)).1/\(E.B x.n (bL w (bQ T x).a) (bL w (bQ T x).b)).2<0)/\
 (x.op=8->bL w f=(E.U x.n (bL w (bQ T x).a)).1/\(E.U x.n (bL w (bQ T x).a)).2<0)
structure rR (E:iH) (me:Val) (t:aH) (T:List Int) (lo i:Nat) (w:aG):Prop where
 lo_:lo=0\/lo=t.loop.toNat
 len:w.vals.length=t.ins.length
 sent:∀v m:Nat,v<i->T[v]? = some (m:Int)->bL w v=bL w m
 hold:∀f:Nat,f<i->Holds E me T lo f (bT t f) w
section
variable {E:iH} {self:Val} {shapes:List aO} {t:aH} {T:List Int}
theorem sE {j i:Nat} {w:aG} (h:rR E self t T j i w) (p:T.length=t.ins.length) (pos:∀v∈T,0<=v) {o:Int} (l:0<=o) (h1:o<i) (q:i<=t.ins.length):bL w (T.getD o.toNat 0)=bL w o:=by
 obtain⟨n,rfl⟩:=Int.eq_ofNat_of_zero_le l;have d:n<T.length:=by omega
 have g:=pos T[n] (List.getElem_mem d);obtain⟨m,f⟩:=Int.eq_ofNat_of_zero_le g;rw[List.getD_eq_getElem?_getD,show(n:Int).toNat=n from rfl,lG d,Option.getD_some,f];exact(h.sent n m (by omega) (by rw[lG d,f])).symm
theorem doI_1 (E:iH) (self:Val) (shapes:List aO) (w:aG) (i:Nat) {x:aT} (h:x.op=1):doI E self shapes w i x=(setV w i (w.regs.getD x.n.toNat ⟨0,0⟩),0):=by unfold doI;rw[if_pos h]
theorem doI_2 (E:iH) (self:Val) (shapes:List aO) (w:aG) (i:Nat) {x:aT} (h:x.op=2):doI E self shapes w i x=(setV w i x.k,0):=by unfold doI;rw[if_neg (by omega),if_pos h]
theorem doI_3 (E:iH) (self:Val) (shapes:List aO) (w:aG) (i:Nat) {x:aT} (h:x.op=3):doI E self shapes w i x=(setV w i self,0):=by unfold doI;rw[if_neg (by omega),if_neg (by omega),if_pos h]
theorem doI_7 (E:iH) (self:Val) (shapes:List aO) (w:aG) (i:Nat) {x:aT} (h:x.op=7):doI E self shapes w i x=gX w i x.exit (E.B x.n (bL w x.a) (bL w x.b)):=by unfold doI;rw[if_neg (by omega),if_neg (by omega),if_neg (by omega),if_neg (by omega),if_pos h]
theorem doI_8 (E:iH) (self:Val) (shapes:List aO) (w:aG) (i:Nat) {x:aT} (h:x.op=8):doI E self shapes w i x=gX w i x.exit (E.U x.n (bL w x.a)):=by unfold doI;rw[if_neg (by omega),if_neg (by omega),if_neg (by omega),if_neg (by omega),if_neg (by omega),if_pos h]
theorem ahT {w:aG} {i:Nat} {e:Int} {r:Val×Int} (h:(gX w i e r).2=0):r.2<0:=by
 unfold gX at h;dsimp only at h;split at h;·assumption
 ·split at h <;> cases h
theorem zO (cm:acN E) {L i f:Nat} {w:aG} (h:rR E self t T L i w) (hT:T.length=t.ins.length) (pos:∀v∈T,0<=v) (b5:L<=i) (hi:i<t.ins.length) (hf:f<i) (ask:∀v∈bU (bT t i),0<=v/\v<(i:Int)) {k:Key} (j:eV (bQ T (bT t i)) (decide ((i:Int)<t.loop))=some k) (g:eV (bQ T (bT t f)) (decide ((f:Int)<t.loop))=some k):doW E t self shapes w i=(setV w i (bL w f),0):=by
 obtain⟨x,hx⟩:∃x,bT t i=x:=⟨_,rfl⟩;obtain⟨y,hy⟩:∃y,bT t f=y:=⟨_,rfl⟩;have M:=h.hold f hf;unfold doW;rw[hx] at j ask ⊢;rw[hy] at g M;have H:0<(bP x.op).asks->bL w (bQ T x).a=bL w x.a:=λc=>by rw[show(bQ T x).a=T.getD x.a.toNat 0 from if_pos c];have:=ask _ (nL (k:=0) rfl c);exact sE h hT pos this.1 this.2 (by omega)
 have N:1<(bP x.op).asks->bL w (bQ T x).b=bL w x.b:=λc=>by rw[show(bQ T x).b=T.getD x.b.toNat 0 from if_pos c];have:=ask _ (nL (k:=1) rfl c);exact sE h hT pos this.1 this.2 (by omega)
 have I:(bQ T x).op=x.op:=rfl;have O:(bQ T y).op=y.op:=rfl;have P:(bQ T x).n=x.n:=rfl;have R:(bQ T y).n=y.n:=rfl;have S:(bQ T x).k=x.k:=rfl;have V:(bQ T y).k=y.k:=rfl;obtain⟨h1,h2,h3,Z,h8⟩:=M;generalize bQ T x=x' at j H N I P S;generalize bQ T y=y' at g Z h8 O R V;have F:=wK j;rw[I] at F;unfold eV at j g;rw[I,P,S] at j;rw[O,R,V] at g;have e:∀ {a b:Key},some a=some k->some b=some k->a=b:=λp q=>by injection p with p;injection q with q;rw[p,q]
 have b4:y.op=x.op:=by
  have G:∀(z:aT) (s:aT) (ah:Bool),(if z.op=2 then some (⟨2,0,0,0,false,z.k⟩:Key) else if z.op=3 then some ⟨3,0,0,0,false,⟨0,0⟩⟩ else if z.op=1 then some ⟨1,z.n,0,0,ah,⟨0,0⟩⟩ else if z.op=8 then some ⟨8,z.n,s.a,0,false,⟨0,0⟩⟩
    else if z.op=7 then some (if z.n=3\/z.n=5\/z.n=8 then⟨7,z.n,min s.a s.b,max s.a s.b,false,⟨0,0⟩⟩ else⟨7,z.n,s.a,s.b,false,⟨0,0⟩⟩) else none)=some k->k.op=z.op:=λz s ah d=>by
   split at d
   ·injection d with d;subst d;exact Eq.symm (by assumption)
   split at d
   ·injection d with d;subst d;exact Eq.symm (by assumption)
   split at d
   ·injection d with d;subst d;exact Eq.symm (by assumption)
   split at d
   ·injection d with d;subst d;exact Eq.symm (by assumption)
   split at d
   ·injection d with d;subst d;split <;> exact Eq.symm (by assumption)
   ·cases d
  rw[<-G x x' _ j,<-G y y' _ g]
 rcases F with c | c | c | c | c
 ·have c':y.op=1:=by omega
  rw[if_neg (by omega),if_neg (by omega),if_pos c] at j;rw[if_neg (by omega),if_neg (by omega),if_pos c'] at g;have:=e j g;injection this with _ r _ _ D
  have X:L<=f:=by
   rcases h.lo_ with l | l;·omega
   ·have:((i:Int)<t.loop)↔((f:Int)<t.loop):=decide_eq_decide.1 D;omega
  rw[doI_1 E self shapes w i c,r,h1 c' X]
 ·have c':y.op=2:=by omega
  rw[if_pos c] at j;rw[if_pos c'] at g;have:=e j g;injection this with _ _ _ _ _ ek
  rw[doI_2 E self shapes w i c,ek,h2 c']
 ·rw[doI_3 E self shapes w i c,h3 (by omega)]
 ·have c':y.op=7:=by omega
  rw[if_neg (by omega),if_neg (by omega),if_neg (by omega),if_neg (by omega),if_pos c] at j;rw[if_neg (by omega),if_neg (by omega),if_neg (by omega),if_neg (by omega),if_pos c'] at g;obtain⟨J,K⟩:=Z c';have Y:E.B x.n (bL w x.a) (bL w x.b)=E.B y.n (bL w y'.a) (bL w y'.b):=by
   rw[<-H (by rw[c];decide),<-N (by rw[c];decide)];by_cases A:x.n=3\/x.n=5\/x.n=8
   ·rw[if_pos A] at j;by_cases u:y.n=3\/y.n=5\/y.n=8
    ·rw[if_pos u] at g;have:=e j g;injection this with _ r b0 b2
     rw[<-r];rcases (show(x'.a=y'.a/\x'.b=y'.b)\/(x'.a=y'.b/\x'.b=y'.a) by omega) with ⟨p,q⟩ | ⟨p,q⟩;·rw[p,q]
     ·rw[p,q,cm _ _ _ A]
    ·rw[if_neg u] at g;have:=e j g;injection this with _ r
     exact absurd (r ▸ A) u
   ·rw[if_neg A] at j;by_cases u:y.n=3\/y.n=5\/y.n=8
    ·rw[if_pos u] at g;have:=e j g;injection this with _ r
     exact absurd (r ▸ u) A
    ·rw[if_neg u] at g;have:=e j g;injection this with _ r D eb
     rw[r,D,eb]
  rw[doI_7 E self shapes w i c,Y];unfold gX;rw[if_pos K,<-J]
 ·have c':y.op=8:=by omega
  rw[if_neg (by omega),if_neg (by omega),if_neg (by omega),if_pos c] at j;rw[if_neg (by omega),if_neg (by omega),if_neg (by omega),if_pos c'] at g;obtain⟨J,K⟩:=h8 c';have:=e j g;injection this with _ r D
  rw[doI_8 E self shapes w i c,<-H (by rw[c];decide),r,D];unfold gX;rw[if_pos K,<-J]
theorem ajX {w:aG} {i:Nat} (x:aT) {v:Nat} (h:v≠i):bL (doI E self shapes w i x).1 (v:Int)=bL w v:=ad9 ((xB w.cells E self shapes w i x).vals v h)
theorem doI_len {w:aG} {i:Nat} (x:aT):(doI E self shapes w i x).1.vals.length=w.vals.length:=(xB w.cells E self shapes w i x).len
structure CseT (t:aH) (T:List Int):Prop where
 len:T.length=t.ins.length
 pos:∀v∈T,0<=v
 one:∀i:Nat,i<t.ins.length->T[i]? = some (i:Int)\/∃f:Nat,T[i]? = some (f:Int)/\f<i/\T[f]? = some (f:Int)/\∃k,eV (bQ T (bT t i)) (decide ((i:Int)<t.loop))=some k/\eV (bQ T (bT t f)) (decide ((f:Int)<t.loop))=some k
 ask:∀i:Nat,i<t.ins.length->∀v∈bU (bT t i),0<=v/\v<(i:Int)
theorem aaS (V:acN E) (j:CseT t T) {A i:Nat} {w:aG} (h:rR E self t T A i w) (I:A<=i) (hi:i<t.ins.length) (J:(doW E t self shapes w i).2=0):rR E self t T A (i+1) (doW E t self shapes w i).1:=by
 have q:∀v:Nat,v<i->bL (doW E t self shapes w i).1 (v:Int)=bL w v:=λv q=>ajX _ (by omega);have F:=(pK E t self shapes w i).regs;have l:∀u,(doW E t self shapes w i)=(setV w i u,0)->bL (doW E t self shapes w i).1 (i:Int)=u:=λu e=>by rw[e];exact pT (by rw[h.len];exact hi) _
 have op:∀f:Nat,f<=i->∀o,o∈bU (bT t f)->bL (doW E t self shapes w i).1 (T.getD o.toNat 0)=bL w (T.getD o.toNat 0):=λf hf o S=>by
  have:=j.ask f (by omega) o S;have y:o.toNat<T.length:=by rw[j.len];omega
  have L:=j.pos _ (List.getElem_mem y);rw[List.getD_eq_getElem?_getD,lG y,Option.getD_some];obtain⟨m,D⟩:=Int.eq_ofNat_of_zero_le L;rw[D];refine q m ?_;rcases j.one o.toNat (by rw[<-j.len];exact y) with c | ⟨g,c,K,-⟩;·rw[lG y] at c;injection c with c;omega
  ·rw[lG y] at c;injection c with c;omega
 have r:∀f:Nat,f<i->Holds E self T A f (bT t f) (doW E t self shapes w i).1:=λf hf=>by
  obtain⟨h1,N,O,P,R⟩:=h.hold f hf;refine⟨λc d=>?_,λc=>?_,λc=>?_,λc=>?_,λc=>?_⟩;·rw[q f hf,F];exact h1 c d
  ·rw[q f hf];exact N c
  ·rw[q f hf];exact O c
  ·have z:(bQ T (bT t f)).a=T.getD (bT t f).a.toNat 0:=if_pos (by rw[c];decide);have G:(bQ T (bT t f)).b=T.getD (bT t f).b.toNat 0:=if_pos (by rw[c];decide);rw[q f hf,z,G,op f (by omega) _ (nL (k:=0) rfl (by rw[c];decide)),op f (by omega) _ (nL (k:=1) rfl (by rw[c];decide)),<-z,<-G];exact P c
  ·have z:(bQ T (bT t f)).a=T.getD (bT t f).a.toNat 0:=if_pos (by rw[c];decide);rw[q f hf,z,op f (by omega) _ (nL (k:=0) rfl (by rw[c];decide)),<-z];exact R c
 refine⟨h.lo_,by rw[show(doW E t self shapes w i).1.vals.length=w.vals.length from doI_len _];exact h.len,λv m Z ht=>?_,λf hf=>?_⟩
 ·rcases j.one v (by omega) with c | ⟨f,c,K,c3,k,X,Y⟩;·rw[c] at ht;injection ht with ht;rw[ht]
  ·rw[c] at ht;injection ht with ht
   have D:f=m:=(by omega);subst D;rw[q f (by omega)];by_cases e:v=i;·subst e;exact l _ (zO V h j.len j.pos I hi K (j.ask v hi) X Y)
   ·rw[q v (by omega)];exact h.sent v f (by omega) c
 ·by_cases e:f=i
  ·subst e;have ask:=j.ask f hi;have H:0<(bP (bT t f).op).asks->bL (doW E t self shapes w f).1 (bQ T (bT t f)).a=bL w (bT t f).a:=λc=>by have m:=nL (x:=bT t f) (k:=0) rfl c;rw[show(bQ T (bT t f)).a=T.getD (bT t f).a.toNat 0 from if_pos c,op f (Nat.le_refl _) _ m];exact sE h j.len j.pos (ask _ m).1 (ask _ m).2 (by omega)
   have M:1<(bP (bT t f).op).asks->bL (doW E t self shapes w f).1 (bQ T (bT t f)).b=bL w (bT t f).b:=λc=>by have m:=nL (x:=bT t f) (k:=1) rfl c;rw[show(bQ T (bT t f)).b=T.getD (bT t f).b.toNat 0 from if_pos c,op f (Nat.le_refl _) _ m];exact sE h j.len j.pos (ask _ m).1 (ask _ m).2 (by omega)
   refine⟨λc _=>?_,λc=>?_,λc=>?_,λc=>?_,λc=>?_⟩;·rw[F];exact l _ (doI_1 E self shapes w f c)
   ·exact l _ (doI_2 E self shapes w f c)
   ·exact l _ (doI_3 E self shapes w f c)
   ·have e:=doI_7 E self shapes w f c;have p:=J;unfold doW at p;rw[e] at p;have s:=ahT p;rw[H (by rw[c];decide),M (by rw[c];decide)];refine⟨?_,s⟩;unfold doW;rw[e];exact pT (by rw[h.len];exact hi) _
   ·have e:=doI_8 E self shapes w f c;have p:=J;unfold doW at p;rw[e] at p;have s:=ahT p;rw[H (by rw[c];decide)];refine⟨?_,s⟩;unfold doW;rw[e];exact pT (by rw[h.len];exact hi) _
  ·exact r f (by omega)
theorem uT (x:CseT t T) {s n:Nat} {w w':aG} (h:rR E self t T s n w) (y:t.loop.toNat<=n) (hl:t.loop.toNat<=t.ins.length) (j:w'.vals=w.vals):rR E self t T t.loop.toNat t.loop.toNat w':=by
 have g:∀v,bL w' v=bL w v:=λv=>by unfold bL;rw[j]
 refine⟨.inr rfl,by rw[j];exact h.len,λv m u ht=>?_,λf hf=>?_⟩;·rw[g,g];exact h.sent v m (by omega) ht
 ·obtain⟨h1,l,p,q,r⟩:=h.hold f (by omega);refine⟨λc d=>by omega,λc=>?_,λc=>?_,λc=>?_,λc=>?_⟩;·rw[g];exact l c
  ·rw[g];exact p c
  ·rw[g,g,g];exact q c
  ·rw[g,g];exact r c
theorem ab1 (w:aG) (x:bX):(g8 w x).1.vals=w.vals:=by
 have d:∀(l:List dX) (w:aG),(eO w l).1.vals=w.vals:=by
  intro l
  induction l with
  | nil=>intro w;rfl
  | cons m l ih=>
   intro w
   have h1:(gF w m).1.vals=w.vals:=by
    unfold gF
    split
    ·rfl
    ·split <;> rfl
   unfold eO
   split
   ·exact h1
   ·rw[ih,h1]
 unfold g8;split;·exact d _ _
 ·show(gY _ _).vals=_;rw[(nV x.sets _).2.2.2.1];exact d _ _
theorem ajZ (j:acN E) (d:CseT t T) (hl:t.loop.toNat<=t.ins.length):xN E self shapes t t T (rR E self t T) where
 len:=rfl
 loop:=rfl
 turn:=rfl
 back:=rfl
 exits i e _ _ _ he:=.inl ⟨he,rfl⟩
 tells _:=rfl
 step lo i w hi hlo h h0:=aaS j d h hlo hi h0
 turn_ _ w h _:=uT d h (Nat.le_refl _) hl (ab1 w _)
 back_ w h _:=uT d h hl hl (ab1 w _)
 kept _ _ _ _ _ _ _:=rfl
 skip lo i w hi hlo h hk h2:=by
  rcases d.one i hi with c | ⟨f,c,l,s,k,p,q⟩
  ·exact absurd c hk
  have e:=zO (shapes:=shapes) j h d.len d.pos hlo hi l (d.ask i hi) p q
  rw[e]
  refine⟨rfl,rfl,λv r=>?_,by simp[setV],λn g=>?_⟩
  ·rw[pS (by rw[h.len];exact hi) _ _ (by omega),if_neg (by omega)]
  ·rw[c] at g;injection g with g
   rw[pT (by rw[h.len];exact hi)]
   rw[show(f:Int)=n from g]
end
theorem aaT {R:Val->Bool} {r:Int} {fns:List FnM} {t:aH} (s:cQ R r fns t=0):CseT t (bR t):=by
 have g:=mL s;have j:=xE t g.ins;have hi:=cse_to t;refine⟨j.len,λv q=>(hi.bd v q).1,λi h=>?_,λi h=>g.ins i _ (vB h)⟩;obtain⟨y,p,d⟩:=j.one i h;have l:=aaN p;rcases d with d | ⟨f,u,w,x,z,k,f4,f5,f6⟩;·exact .inl d
 ·exact .inr ⟨f,u,w,x,k,by rw[l];exact f5,by rw[aaN f4];exact f6⟩
theorem zN {R:Val->Bool} {p:Int} {fns:List FnM} {t:aH} (q:cQ R p fns t=0):oS t.ins (bR t):=by
 have g:=aaT q;have d:∀i:Nat,l6 t.ins i=(bT t i).op:=λi=>by unfold l6 bT;cases t.ins[(i:Int).toNat]? <;> rfl
 have lt:∀ {i:Nat} {n:Int},(bR t)[i]? = some n->i<t.ins.length:=λh=>by rw[<-g.len];exact(lE h).1
 refine⟨λi n u h=>?_,λi h=>?_⟩
 ·rcases g.one i (lt h) with c | ⟨f,c,r,s,k,j,l⟩;·rw[c] at h;injection h with h;omega
  ·rw[c] at h;injection h with h
   obtain rfl:f=n:=by omega
   rw[d];have:=wK l;rw[show(bQ (bR t) (bT t f)).op=(bT t f).op from rfl] at this;rcases this with c | c | c | c | c <;> rw[c] <;> rfl
 ·have hi:i<t.ins.length:=by
   rcases Nat.lt_or_ge i t.ins.length with c | c;·exact c
   ·unfold l6 at h;rw[show(i:Int).toNat=i from rfl,List.getElem?_eq_none c] at h;simp at h
  rcases g.one i hi with c | ⟨f,c,r,s,k,j,l⟩;·exact c
  ·rw[d] at h;have:=wK j;rw[show(bQ (bR t) (bT t i)).op=(bT t i).op from rfl] at this;omega
theorem ab5 {E:iH} (u:acN E) {R:Val->Bool} {j:Int} {fns:List FnM} {stc:Int} {t:aH} {S0 out:aP} {th turns exit n:Int} (d:cQ R j fns t=0) (r:j=0) (s:(g9 t (bR t)).2=0) : cQ R j fns (g9 t (bR t)).1=0/\(mC E 0 stc t S0 th turns=(out,exit,n,0)->mC E 0 stc (g9 t (bR t)).1 S0 th turns=(out,exit,n,0)):=by
 have l:=aaT d;have p:=zN d;have g:=xG d;have q:0<t.loop->(bR t)[0]? = some 0:=λc=>by
  rcases l.one 0 (by have:=g.2.2;omega) with c | ⟨f,_,c2,_⟩;·exact c
  ·omega
 refine⟨zR d r s p q,λh=>run_cut h (pM d) g d s p q rfl rfl λf w _ _=>⟨_,ajZ u l (by have:=g.2.2;omega),?_⟩⟩;exact⟨.inl rfl,by simp[gG],λv m x=>by omega,λf hf=>by omega⟩
theorem ai4 {x:aT} (d:Bool) (c:x.op=1):eV x d=some ⟨1,x.n,0,0,d,⟨0,0⟩⟩:=by unfold eV;rw[if_neg (by omega),if_neg (by omega),if_pos c]
theorem ai3 {x:aT} (d:Bool) (c:x.op=2):eV x d=some ⟨2,0,0,0,false,x.k⟩:=by unfold eV;rw[if_pos c]
theorem key3 {x:aT} (d:Bool) (c:x.op=3):eV x d=some ⟨3,0,0,0,false,⟨0,0⟩⟩:=by unfold eV;rw[if_neg (by omega),if_pos c]
theorem ai1 {x:aT} (d:Bool) (c:x.op=8):eV x d=some ⟨8,x.n,x.a,0,false,⟨0,0⟩⟩:=by unfold eV;rw[if_neg (by omega),if_neg (by omega),if_neg (by omega),if_pos c]
theorem ai2 {x:aT} (d:Bool) (c:x.op=7):eV x d=some (if x.n=3\/x.n=5\/x.n=8 then⟨7,x.n,min x.a x.b,max x.a x.b,false,⟨0,0⟩⟩ else⟨7,x.n,x.a,x.b,false,⟨0,0⟩⟩):=by unfold eV;rw[if_neg (by omega),if_neg (by omega),if_neg (by omega),if_neg (by omega),if_pos c]
theorem aiY {x:aT} {d:Bool} {k:Key} (h:eV x d=some k):k.op=x.op:=by
 rcases wK h with c | c | c | c | c;·rw[ai4 d c] at h;injection h with h;rw[<-h,c]
 ·rw[ai3 d c] at h;injection h with h;rw[<-h,c]
 ·rw[key3 d c] at h;injection h with h;rw[<-h,c]
 ·rw[ai2 d c] at h;injection h with h;rw[<-h,c];split <;> rfl
 ·rw[ai1 d c] at h;injection h with h;rw[<-h,c]
theorem aiZ {x y x' y':aT} {K:Int->Int} {b b':Bool} {k:Key} (l:x'.op=x.op/\x'.n=x.n/\x'.k=x.k) (s:y'.op=y.op/\y'.n=y.n/\y'.k=y.k) (A:x.op=7\/x.op=8->x'.a=K x.a) (G:x.op=7->x'.b=K x.b) (D:y.op=7\/y.op=8->y'.a=K y.a) (H:y.op=7->y'.b=K y.b) (f:∀u v,(u=x.a\/u=y.a\/x.op=7/\(u=x.b\/u=y.b))->(v=x.a\/v=y.a\/x.op=7/\(v=x.b\/v=y.b))->x.op=7\/x.op=8->y.op=x.op->(K u<=K v↔u<=v)) (h1:eV x' b=some k) (g:eV y' b'=some k):∃q,eV x b=some q/\eV y b'=some q:=by
 have d:y.op=x.op:=by rw[<-l.1,<-s.1,<-aiY h1,<-aiY g]
 have z:=wK h1;rw[l.1] at z;have e:∀ {a b:Key},some a=some k->some b=some k->a=b:=λp q=>by injection p with p;injection q with q;rw[p,q]
 have I:=l.1;have J:=s.1;rcases z with c | c | c | c | c;·rw[ai4 _ (by omega),l.2.1] at h1;rw[ai4 _ (by omega),s.2.1] at g;exact⟨_,ai4 _ c,by rw[ai4 _ (by omega)];exact congrArg some (e g h1)⟩
 ·rw[ai3 _ (by omega),l.2.2] at h1;rw[ai3 _ (by omega),s.2.2] at g;exact⟨_,ai3 _ c,by rw[ai3 _ (by omega)];exact congrArg some (e g h1)⟩
 ·exact⟨_,key3 _ c,key3 _ (by omega)⟩
 ·have c':y.op=7:=by omega
  rw[ai2 _ (by omega),l.2.1,A (.inl c),G c] at h1;rw[ai2 _ (by omega),s.2.1,D (.inl c'),H c'] at g;have E:=f x.a x.b (by simp) (by simp[c]) (.inl c) d;have F:=f y.a y.b (by simp) (by simp[c]) (.inl c) d;have L:=f x.a y.a (by simp) (by simp) (.inl c) d;have M:=f y.a x.a (by simp) (by simp) (.inl c) d;have N:=f x.b y.b (by simp[c]) (by simp[c]) (.inl c) d;have O:=f y.b x.b (by simp[c]) (by simp[c]) (.inl c) d;have P:=f x.a y.b (by simp) (by simp[c]) (.inl c) d;have R:=f y.b x.a (by simp[c]) (by simp) (.inl c) d;have m9:=f x.b y.a (by simp[c]) (by simp) (.inl c) d;have S:=f y.a x.b (by simp) (by simp[c]) (.inl c) d;have h:=e g h1;refine⟨_,ai2 _ c,?_⟩;rw[ai2 _ c'];congr 1;by_cases w:x.n=3\/x.n=5\/x.n=8
  ·rw[if_pos w] at h ⊢;by_cases r:y.n=3\/y.n=5\/y.n=8
   ·rw[if_pos r] at h ⊢;injection h with _ j p q
    rw[j,show min y.a y.b=min x.a x.b by omega,show max y.a y.b=max x.a x.b by omega]
   ·rw[if_neg r] at h;injection h with _ j
    exact absurd (j ▸ w) r
  ·rw[if_neg w] at h ⊢;by_cases r:y.n=3\/y.n=5\/y.n=8
   ·rw[if_pos r] at h;injection h with _ j
    exact absurd (j ▸ r) w
   ·rw[if_neg r] at h ⊢;injection h with _ j p q
    rw[j,show y.a=x.a by omega,show y.b=x.b by omega]
 ·have c':y.op=8:=by omega
  rw[ai1 _ (by omega),l.2.1,A (.inr c)] at h1;rw[ai1 _ (by omega),s.2.1,D (.inr c')] at g;have E:=f x.a y.a (by simp) (by simp) (.inr c) d;have F:=f y.a x.a (by simp) (by simp) (.inr c) d;have h:=e g h1;injection h with _ j p
  refine⟨_,ai1 _ c,?_⟩;rw[ai1 _ c',j,show y.a=x.a by omega]
theorem aaL {tl:List Int} {i j:Nat} (hi:tl[i]? = some (i:Int)) (d:tl[j]? = some (j:Int)):((bD tl i:Int)<=bD tl j↔(i:Int)<=j):=by
 rcases Nat.lt_trichotomy i j with c | c | c;·have:=iF c hi;omega
 ·subst c;omega
 ·have:=iF c d;omega
theorem ag3 {R:Val->Bool} {ce:Int} {fns:List FnM} {t:aH} (I:cQ R ce fns t=0) (d5:ce=0) (hd:(g9 t (bR t)).2=0):g9 (g9 t (bR t)).1 (bR (g9 t (bR t)).1)=((g9 t (bR t)).1,0):=by
 have ct:=aaT I;have hs:=zN I;have V:=xG I;have h0:0<t.loop->(bR t)[0]? = some 0:=λc=>by
  rcases ct.one 0 (by have:=V.2.2;omega) with c | ⟨f,_,c2,_⟩;·exact c
  ·omega
 have a0:=zR I d5 hd hs h0;obtain⟨S,h,e,hl,f1,f2,f3,f4⟩:=tT hd;have J:=mL a0;have hj:=xE t (mL I).ins;have a1:=xE _ J.ins;have a2:=aaT a0;suffices hu:bR (g9 t (bR t)).1=upto (g9 t (bR t)).1.ins.length by rw[hu];exact ag1 J
 rw[e] at a1 a2 ⊢;have a3:=h.loop_ V.2.2.1 V.2.2.2;have b6:∀p:Nat,p<(bK t S).ins.length->(bR (bK t S))[p]? = some (p:Int):=by
  intro p
  induction p using Nat.strongRecOn with
  | ind p ih=>
   intro hp
   obtain⟨y,hy,c6⟩:=a1.one p hp
   rcases c6 with c | ⟨g,g1,g2,g3,z,k,g4,g5,g6⟩
   ·exact c
   exfalso
   have same:∀(q:Nat) u,q<=p->(bK t S).ins[q]? = some u->bQ (gO (bK t S).loop (bK t S).ins ⟨[],[]⟩).tl u=u:=λq u hq hu=>aeL λv hv=>by
    have:=J.ins q u (by rw[e];exact hu) v hv
    have c0:=ih v.toNat (by omega) (by omega)
    rw[List.getD_eq_getElem?_getD,show(gO (bK t S).loop (bK t S).ins ⟨[],[]⟩).tl[v.toNat]? = some (v.toNat:Int) from c0,Option.getD_some];omega
   rw[same p y (Nat.le_refl _) hy] at g5
   rw[same g z (by omega) g4] at g6
   obtain⟨i,M,N,i3⟩:=sG (bR t) t.ins.length p (by rw[<-h.num];exact hp)
   obtain⟨j,O,P,j3⟩:=sG (bR t) t.ins.length g (by rw[<-h.num];exact(lE g4).1)
   obtain⟨-,x,x1,G,-⟩:=h.kept i M N
   obtain⟨-,u,u1,H,-⟩:=h.kept j O P
   have qi:=h.kept i M N
   have qj:=h.kept j O P
   rw[i3,show S.ins[p]? = some y from hy] at G
   rw[j3,show S.ins[g]? = some z from g4] at H
   injection G with G
   injection H with H
   have root:∀(i:Nat) x,i<t.ins.length->t.ins[i]? = some x->mJ (S.at_.take (i+1)) x=true->∀o∈bU x,∃r:Nat,(bR t).getD o.toNat 0=r/\(bR t)[r]? = some (r:Int)/\bO (S.at_.take (i+1)) o=bD (bR t) r:=λi x hi hx hf o ho=>by
    have:=(mL I).ins i x hx o ho
    obtain⟨n,rfl⟩:=Int.eq_ofNat_of_zero_le this.1
    rw[sF (by omega),show(n:Int).toNat=n from rfl,List.getD_eq_getElem?_getD]
    have on:∀ {a:Int},S.at_[n]? = some a->0<=a->bO S.at_ n=a:=λ{a} ea V=>by
     unfold bO
     rw[if_neg (by omega),show(n:Int).toNat=n from rfl,ea]
     dsimp only
     rw[if_neg (by omega)]
    rcases ct.one n (by omega) with c | ⟨f,c,c2,c3,-⟩
    ·exact⟨n,by rw[c];rfl,c,on (h.kept n (by omega) c).1 (by omega)⟩
    ·exact⟨f,by rw[c];rfl,c3,on ((h.sent n f (by omega) (by omega) c).2.trans (h.kept f (by omega) c3).1) (by omega)⟩
   have fi:∀(i:Nat) x,i<t.ins.length->(bR t)[i]? = some (i:Int)->t.ins[i]? = some x->mJ (S.at_.take (i+1)) x=true:=λi x hi hk hx=>by
    obtain⟨-,x',Z,-,e2⟩:=h.kept i hi hk
    rw[hx] at Z;injection Z with Z;subst Z;exact e2 f1
   have X:=root i x M x1 (fi i x M N x1)
   have Y:=root j u O u1 (fi j u O P u1)
   have sx:(bQ (bR t) x).op=x.op:=rfl
   have su:(bQ (bR t) u).op=u.op:=rfl
   have e3:∀ {z:aT},z.op=7->(bP z.op).asks=2:=λc=>by rw[c];rfl
   have e4:∀ {z:aT},z.op=8->(bP z.op).asks=1:=λc=>by rw[c];rfl
   have s:∀(F:Int->Int) (z:aT),z.op=7\/z.op=8->(iA F z).a=F z.a:=λF z c=>if_pos (by rcases c with c | c <;> rw[c] <;> decide)
   have w:∀(F:Int->Int) (z:aT),z.op=7->(iA F z).b=F z.b:=λF z c=>if_pos (by rw[c];decide)
   have A:∀(z:aT),z.op=7\/z.op=8->z.a∈bU z:=λz c=>nL (k:=0) rfl (by rcases c with c | c <;> rw[c] <;> decide)
   have D:∀(z:aT),z.op=7->z.b∈bU z:=λz c=>nL (k:=1) rfl (by rw[c];decide)
   obtain⟨q,k1,k2⟩:=aiZ (x:=bQ (bR t) x) (y:=bQ (bR t) u) (x':=y) (y':=z) (K:=λv=>(bD (bR t) v.toNat:Int)) (b:=decide ((i:Int)<t.loop)) (b':=decide ((j:Int)<t.loop)) (k:=k) (by rw[G];exact⟨rfl,rfl,rfl⟩) (by rw[H];exact⟨rfl,rfl,rfl⟩)
    (λc=>by
     obtain⟨r,d,l,E⟩:=X _ (A x c)
     rw[G,show(oE (S.at_.take (i+1)) x).a=bO (S.at_.take (i+1)) x.a from s _ x c,show(bQ (bR t) x).a=(bR t).getD x.a.toNat 0 from s _ x c,d,E];rfl)
    (λc=>by
     obtain⟨r,d,l,E⟩:=X _ (D x c)
     rw[G,show(oE (S.at_.take (i+1)) x).b=bO (S.at_.take (i+1)) x.b from w _ x c,show(bQ (bR t) x).b=(bR t).getD x.b.toNat 0 from w _ x c,d,E];rfl)
    (λc=>by
     obtain⟨r,d,l,E⟩:=Y _ (A u c)
     rw[H,show(oE (S.at_.take (j+1)) u).a=bO (S.at_.take (j+1)) u.a from s _ u c,show(bQ (bR t) u).a=(bR t).getD u.a.toNat 0 from s _ u c,d,E];rfl)
    (λc=>by
     obtain⟨r,d,l,E⟩:=Y _ (D u c)
     rw[H,show(oE (S.at_.take (j+1)) u).b=bO (S.at_.take (j+1)) u.b from w _ u c,show(bQ (bR t) u).b=(bR t).getD u.b.toNat 0 from w _ u c,d,E];rfl)
    (λa b pa pb d2 d3=>by
     have L:x.op=7\/x.op=8:=d2
     have h3:u.op=x.op:=d3
     have a4:∀a,(a=(bQ (bR t) x).a\/a=(bQ (bR t) u).a\/x.op=7/\(a=(bQ (bR t) x).b\/a=(bQ (bR t) u).b))->∃r:Nat,a=r/\(bR t)[r]? = some (r:Int):=λa pa=>by
      rcases pa with rfl | rfl | ⟨c,rfl | rfl⟩
      ·obtain⟨r,d,l,-⟩:=X _ (A x L)
       exact⟨r,by rw[show(bQ (bR t) x).a=(bR t).getD x.a.toNat 0 from s _ x L,d],l⟩
      ·obtain⟨r,d,l,-⟩:=Y _ (A u (by omega))
       exact⟨r,by rw[show(bQ (bR t) u).a=(bR t).getD u.a.toNat 0 from s _ u (by omega),d],l⟩
      ·obtain⟨r,d,l,-⟩:=X _ (D x c)
       exact⟨r,by rw[show(bQ (bR t) x).b=(bR t).getD x.b.toNat 0 from w _ x c,d],l⟩
      ·obtain⟨r,d,l,-⟩:=Y _ (D u (by omega))
       exact⟨r,by rw[show(bQ (bR t) u).b=(bR t).getD u.b.toNat 0 from w _ u (by omega),d],l⟩
     obtain⟨ra,rfl,c9⟩:=a4 a pa
     obtain⟨rb,rfl,d0⟩:=a4 b pb
     exact aaL c9 d0)
    (by
     rw[<-show decide ((p:Int)<(bK t S).loop)=decide ((i:Int)<t.loop) from decide_eq_decide.2 ?_]
     ·exact g5
     rw[a3,<-i3]
     rcases Int.lt_or_le (i:Int) t.loop with c | c
     ·have:=iF (show i<t.loop.toNat by omega) N;omega
     ·have:=nD (bR t) (show t.loop.toNat<=i by omega);omega)
    (by
     rw[<-show decide ((g:Int)<(bK t S).loop)=decide ((j:Int)<t.loop) from decide_eq_decide.2 ?_]
     ·exact g6
     rw[a3,<-j3]
     rcases Int.lt_or_le (j:Int) t.loop with c | c
     ·have:=iF (show j<t.loop.toNat by omega) P;omega
     ·have:=nD (bR t) (show t.loop.toNat<=j by omega);omega)
   have o1:=hj.once i x q M N x1 k1
   have o2:=hj.once j u q O P u1 k2
   rw[o1] at o2
   injection o2 with o2
   have:i=j:=by omega
   subst this
   omega
 refine List.ext_getElem? λp=>?_;rcases Nat.lt_or_ge p (bK t S).ins.length with c | c;·rw[b6 p c,aeA c]
 ·rw[List.getElem?_eq_none (by rw[a2.len];exact c),List.getElem?_eq_none (by rw[vN];exact c)]
end
section
theorem ahY (x y:Ieee.Datum):x.sum y=y.sum x:=by
 cases x <;> cases y <;> simp only[Ieee.Datum.sum];case infinity.infinity s t=>cases s <;> cases t <;> rfl
 case number.number s m i t n j=>have e:∀(p q:Int),p+q=q+p:=Int.add_comm;rw[Int.min_comm j i,e (Ieee.signed t n _) (Ieee.signed s m _),Bool.and_comm t s]
theorem aaD (x y:Ieee.Datum):x.product y=y.product x:=by cases x <;> cases y <;> simp only[Ieee.Datum.product,Bool.xor_comm,Nat.mul_comm,Int.add_comm]
theorem ab9 {α : Type} [Ord α] [Std.LawfulEqOrd α] (a b : α):(some (compare a b) == some .eq)=(some (compare b a) == some .eq):=by
 by_cases h:a=b;·rw[h]
 ·have h1:compare a b≠.eq:=λe=>h (Std.LawfulEqOrd.eq_of_compare e);have d:compare b a≠.eq:=λe=>h (Std.LawfulEqOrd.eq_of_compare e).symm;generalize compare a b=p at h1 ⊢;generalize compare b a=q at d ⊢;cases p <;> cases q <;> first | rfl | exact absurd rfl h1 | exact absurd rfl d
theorem ac4 (x y:Ieee.Datum):(x.order y == some .eq)=(y.order x == some .eq):=by
 cases x <;> cases y <;> simp only[Ieee.Datum.order];case infinity.infinity s t=>exact ab9 _ _
 case infinity.number s m i e=>cases s <;> rfl
 case number.infinity s m i e=>cases e <;> rfl
 case number.number s m i t n j=>rw[Int.min_comm j i];exact ab9 _ _
theorem ab8:acN ⟨qY,jV,oD⟩:=λn u v g=>by
 show jV n u v=jV n v u
 unfold jV
 generalize dQ u=a
 generalize dQ v=b
 by_cases h1:a.kind=3/\b.kind=3
 ·rw[if_pos h1,if_pos ⟨h1.2,h1.1⟩]
  unfold oH
  rcases g with rfl | rfl | rfl
  ·rw[if_pos rfl,if_pos rfl]
   unfold ofB floatBits Ieee.Format.add
   rw[ahY]
  ·rw[if_neg (by decide),if_neg (by decide),if_pos rfl,if_neg (by decide),if_neg (by decide),if_pos rfl]
   unfold ofB floatBits Ieee.Format.mul
   rw[aaD]
  ·rw[if_neg (by decide),if_neg (by decide),if_neg (by decide),if_neg (by decide),if_pos rfl,if_neg (by decide),if_neg (by decide),if_neg (by decide),if_neg (by decide),if_pos rfl]
   unfold eqF Ieee.Format.order
   rw[ac4]
 ·rw[if_neg h1,if_neg (show ¬(b.kind=3/\a.kind=3) from λh=>h1 ⟨h.2,h.1⟩)]
  by_cases d:n=8
  ·rw[if_pos d,if_pos d]
   have e:∀p q:Int,(p == q)=(q == p):=λp q=>decide_eq_decide.2 ⟨Eq.symm,Eq.symm⟩
   rw[e a.kind,e a.n]
  ·rw[if_neg d,if_neg d]
   by_cases f:a.kind=2/\b.kind=2
   ·rw[if_pos f,if_pos ⟨f.2,f.1⟩]
    unfold pR
    rcases g with rfl | rfl | rfl
    ·rw[if_pos rfl,if_pos rfl,Int.add_comm]
    ·rw[if_neg (by decide),if_neg (by decide),if_pos rfl,if_neg (by decide),if_neg (by decide),if_pos rfl,Int.mul_comm]
    ·exact absurd rfl d
   ·rw[if_neg f,if_neg (show ¬(b.kind=2/\a.kind=2) from λh=>f ⟨h.2,h.1⟩)]
end
end Go.Proofs.YtijihlcdhppfgaaGreatDoor
