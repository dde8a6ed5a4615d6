/- A part of the walk. -/
import Derived.Test.YtijihlcdhppfgaaGreatDoorVR
set_option maxHeartbeats 16000000
set_option maxRecDepth 100000
set_option linter.all false
namespace Go.Proofs.YtijihlcdhppfgaaGreatDoor
open Tryz
section
def v9 (x:bX):List Int:=x.sets.map (·.val)++x.makes.flatMap (λm=>m.cell::m.vals)
theorem ao7 (at_:List Int) (x:bX):v9 (dM at_ x)=(v9 x).map (bO at_):=by unfold v9 dM;dsimp only;rw[List.map_append,List.map_map,List.map_map,List.flatMap_map,List.map_flatMap];rfl
def aoS (t:aH) (i:Nat):Bool:=t.ins.any (λx=>x.exit == (i:Int))
def aoM (t:aH) (i:Nat) (x:bX):bX:=if aoS t i then x else⟨x.at_,x.steps,[],[]⟩
def oT (t:aH):List bX:=t.exits.mapIdx (aoM t)
def i9 (t:aH):aH:={ t with exits:=oT t }
def ao1 (t:aH):List Int:=(oT t).flatMap v9++v9 t.turn++v9 t.back
def ao2 (t:aH) (marks:List Int) (i:Nat) (x:aT):Bool:=marks.contains (i:Int) || decide (0<=x.exit) || !dZ x.op || (i == 0 && decide (0<t.loop))
def aoO (t:aH):Nat->List Int->List Int->List Int
 | 0,_,acc=>acc
 | i+1,marks,acc=>match t.ins[i]? with
  | none=>acc
  | some x=>if ao2 t marks i x then aoO t i (marks++bU x) ((i:Int)::acc) else aoO t i marks (-1::acc)
def a9 (t:aH):List Int:=aoO t t.ins.length (ao1 t) []
def aoY (ce:Int) (t:aH):aH×Int:=if ce≠0 then(mT,ce) else g9 (i9 t) (a9 t)
theorem aoR (t:aH):∀(i:Nat) (f g:List Int),i+g.length=t.ins.length->(aoO t i f g).length=t.ins.length/\(∀k,i<=k->(aoO t i f g)[k]? = g[k - i]?)/\
  ∀k,k<i->∀x,t.ins[k]? = some x->(aoO t i f g)[k]? = some (k:Int)->
   0<=x.exit\/dZ x.op=false\/(k=0/\0<t.loop)\/(k:Int)∈f\/∃b y,k<b/\b<i/\t.ins[b]? = some y/\(aoO t i f g)[b]? = some (b:Int)/\(k:Int)∈bU y
 | 0,f,g,h=>⟨by simpa [aoO] using h,λk _=>rfl,λk q=>by omega⟩
 | i+1,f,g,h=>by
  have hi:i<t.ins.length:=by omega
  have r:t.ins[i]? = some t.ins[i]:=lG hi
  unfold aoO
  rw[r]
  dsimp only
  by_cases c:ao2 t f i t.ins[i]=true
  ·rw[if_pos c]
   obtain⟨h1,p,s⟩:=aoR t i (f++bU t.ins[i]) ((i:Int)::g) (by simp;omega)
   refine⟨h1,λk q=>?_,λk q x j l=>?_⟩
   ·rw[p k (by omega)]
    obtain⟨m,u⟩:∃m,k - i=m+1:=⟨k - i - 1,by omega⟩
    rw[u,show k - (i+1)=m by omega];rfl
   ·rcases Nat.lt_or_ge k i with d | d
    ·rcases s k d x j l with e | e | e | e | ⟨b,y,b1,A,v,w,z⟩
     ·exact .inl e
     ·exact .inr (.inl e)
     ·exact .inr (.inr (.inl e))
     ·rcases List.mem_append.1 e with e | e
      ·exact .inr (.inr (.inr (.inl e)))
      ·refine .inr (.inr (.inr (.inr ⟨i,_,d,by omega,r,?_,e⟩)))
       rw[p i (Nat.le_refl _),Nat.sub_self];rfl
     ·exact .inr (.inr (.inr (.inr ⟨b,y,b1,by omega,v,w,z⟩)))
    ·obtain rfl:k=i:=by omega
     rw[r] at j;injection j with j;subst j
     unfold ao2 at c
     simp only[Bool.or_eq_true,Bool.and_eq_true,decide_eq_true_eq,beq_iff_eq,Bool.not_eq_true',List.contains_iff_mem] at c
     rcases c with ((c | c) | c) | c
     ·exact .inr (.inr (.inr (.inl c)))
     ·exact .inl c
     ·exact .inr (.inl c)
     ·exact .inr (.inr (.inl c))
  ·rw[if_neg c]
   obtain⟨h1,p,s⟩:=aoR t i f (-1::g) (by simp;omega)
   refine⟨h1,λk q=>?_,λk q x j l=>?_⟩
   ·rw[p k (by omega)]
    obtain⟨m,u⟩:∃m,k - i=m+1:=⟨k - i - 1,by omega⟩
    rw[u,show k - (i+1)=m by omega];rfl
   ·rcases Nat.lt_or_ge k i with d | d
    ·rcases s k d x j l with e | e | e | e | ⟨b,y,b1,A,v,w,z⟩
     ·exact .inl e
     ·exact .inr (.inl e)
     ·exact .inr (.inr (.inl e))
     ·exact .inr (.inr (.inr (.inl e)))
     ·exact .inr (.inr (.inr (.inr ⟨b,y,b1,by omega,v,w,z⟩)))
    ·obtain rfl:k=i:=by omega
     rw[p k (Nat.le_refl _),Nat.sub_self] at l
     simp at l
end
section
set_option maxHeartbeats 1000000
theorem apD (t:aH):∀(i:Nat) (f g:List Int),i+g.length=t.ins.length->∀k,k<i->∀x,t.ins[k]? = some x->
  ((aoO t i f g)[k]? = some (k:Int)\/(aoO t i f g)[k]? = some (-1))/\
  (0<=x.exit\/dZ x.op=false\/(k=0/\0<t.loop)->(aoO t i f g)[k]? = some (k:Int))
 | 0,_,_,_,k,hk,_,_=>by omega
 | i+1,f,g,h,k,hk,x,j=>by
  have hi:i<t.ins.length:=by omega
  have p:t.ins[i]? = some t.ins[i]:=lG hi
  unfold aoO
  rw[p]
  dsimp only
  by_cases c:ao2 t f i t.ins[i]=true
  ·rw[if_pos c]
   rcases Nat.lt_or_ge k i with d | d
   ·exact apD t i _ _ (by simp;omega) k d x j
   ·obtain rfl:k=i:=by omega
    have l:=(aoR t k (f++bU t.ins[k]) ((k:Int)::g) (by simp;omega)).2.1 k (Nat.le_refl _)
    rw[Nat.sub_self] at l
    exact⟨.inl l,λ_=>l⟩
  ·rw[if_neg c]
   rcases Nat.lt_or_ge k i with d | d
   ·exact apD t i _ _ (by simp;omega) k d x j
   ·obtain rfl:k=i:=by omega
    have l:=(aoR t k f (-1::g) (by simp;omega)).2.1 k (Nat.le_refl _)
    rw[Nat.sub_self] at l
    refine⟨.inr l,λe=>absurd ?_ c⟩
    rw[p] at j;injection j with j;subst j
    unfold ao2
    simp only[Bool.or_eq_true,Bool.and_eq_true,decide_eq_true_eq,beq_iff_eq,Bool.not_eq_true']
    rcases e with e | e | e
    ·exact .inl (.inl (.inr e))
    ·exact .inl (.inr e)
    ·exact .inr e
theorem aoX (t:aH) {k:Nat} {x:aT} (d:t.ins[k]? = some x):((a9 t)[k]? = some (k:Int)\/(a9 t)[k]? = some (-1))/\(0<=x.exit\/dZ x.op=false\/(k=0/\0<t.loop)->(a9 t)[k]? = some (k:Int)):= apD t t.ins.length (ao1 t) [] (by simp) k (lE d).1 x d
theorem aqT (t:aH):(a9 t).length=t.ins.length:=(aoR t t.ins.length (ao1 t) [] (by simp)).1
theorem apV {t:aH} {k:Nat} {x:bX} (h:t.exits[k]? = some x):(i9 t).exits[k]? = some (aoM t k x):=by show(t.exits.mapIdx (aoM t))[k]? = _;rw[List.getElem?_mapIdx,h];rfl
theorem used_of {t:aH} {i:Nat} {x:aT} (d:t.ins[i]? = some x) (f:0<=x.exit):aoS t x.exit.toNat=true:=
 List.any_eq_true.2 ⟨x,lM d,by rw[beq_iff_eq];omega⟩
theorem apS {t:aH} {k:Nat} {x:bX} (h:aoS t k=true):aoM t k x=x:=if_pos h
theorem apG {fn:FnM} {t:aH} {k:Nat} {x:bX} {a:Int} (h:bN fn t.ins x a=true):bN fn t.ins (aoM t k x) a=true:=by
 unfold aoM;split;·exact h
 ·simp only[bN,Bool.and_eq_true] at h ⊢;exact⟨⟨h.1.1,rfl⟩,rfl⟩
theorem asks_id (x:aT):iA id x=x:=aeL λ_ _=>rfl
theorem apW {R:Val->Bool} {l:Int} {fns:List FnM} {t:aH} (h:cQ R l fns t=0) (H:l=0):cQ R l fns (i9 t)=0:=by
 obtain⟨I,J,fn,v,K,L,p6,p7,q,r,s⟩:=fD h
 have f:(i9 t).exits.length=t.exits.length:=by show(t.exits.mapIdx _).length=_;simp
 have g:sJ R fn (i9 t) 0 (i9 t).ins=0:=by
  refine aeU _ _ λk y j=>?_
  have p:t.ins[k]? = some y:=j
  obtain⟨w,z⟩:=fW t.ins 0 p6 k y p
  refine⟨w,?_⟩
  have:=adN (F:=id) (u:=i9 t) (b:=((0+k:Nat):Int)) z (λD=>by rw[List.map_id];exact D) f (λe M E G=>⟨aoM t y.exit.toNat e,apV E,apG G⟩)
  rwa [asks_id] at this
 unfold cQ
 rw[if_neg (by omega),if_neg (by rw[f];show ¬(300<t.ins.length\/_);omega),show(i9 t).fn=t.fn from rfl,if_neg (by omega),v.2]
 dsimp only
 rw[show(i9 t).at_=t.at_ from rfl,show(i9 t).loop=t.loop from rfl,if_neg (by show ¬(_\/_\/_\/(t.ins.length:Int)<_);omega),g,if_neg (by decide)]
 rw[if_neg,if_neg,if_pos]
 ·rw[List.all_eq_true]
  intro y j
  obtain⟨k,A⟩:=List.mem_iff_getElem?.1 j
  have d:(t.exits.mapIdx (aoM t))[k]? = some y:=A
  rw[List.getElem?_mapIdx] at d
  cases e:t.exits[k]? with
  | none=>rw[e] at d;cases d
  | some x=>
   rw[e] at d
   injection d with d
   rw[<-d]
   exact apG (List.all_eq_true.1 s x (lM e))
 ·rintro (c | c)
  ·exact c r.1
  ·exact absurd r.2 (by rw[show bN fn t.ins t.back t.ins.length=false from c];decide)
 ·rintro (⟨c1,c2⟩ | ⟨c1,c2 | c2⟩)
  ·exact absurd (p7 c1) (by rw[show kV t.turn=false from c2];decide)
  ·exact c2 (q c1).1
  ·exact absurd (q c1).2 (by rw[show bN fn t.ins t.turn t.loop=false from c2];decide)
theorem apR {t:aH} (d:mB t):oS t.ins (a9 t) where
 tell i n hne h:=by
  have hi:i<t.ins.length:=by rw[<-aqT t];exact(lE h).1
  rcases (aoX t (lG hi)).1 with c | c
  ·rw[c] at h;injection h with h;omega
  ·rw[c] at h;injection h with h;omega
 free i h:=by
  have hi:i<t.ins.length:=by
   rcases Nat.lt_or_ge i t.ins.length with c | c
   ·exact c
   ·unfold l6 at h
    rw[show(i:Int).toNat=i from rfl,List.getElem?_eq_none c] at h;simp at h
  have e:=lG hi
  unfold l6 at h
  rw[show(i:Int).toNat=i from rfl,e] at h
  have f:t.ins[i].op=18:=h
  refine(aoX t e).2 (.inl ?_)
  have:=d i _ e
  omega
theorem aq0 (w:aG) (x:bX):(g8 w x).1.vals.length=w.vals.length:=by
 have d:∀(l:List dX) (w:aG),(eO w l).1.vals=w.vals:=λl=>by
  induction l with
  | nil=>intro w;rfl
  | cons m l ih=>
   intro w
   have h1:(gF w m).1.vals=w.vals:=by
    unfold gF
    split
    ·rfl
    ·split <;> rfl
   unfold eO
   split
   ·exact h1
   ·rw[ih,h1]
 have f:∀(l:List oL) (w:aG),(gY w l).vals=w.vals:=λl=>by
  induction l with
  | nil=>intro w;rfl
  | cons s l ih=>intro w;exact ih _
 unfold g8;split;·rw[d]
 ·show(gY _ _).vals.length=_;rw[f,d]
theorem skip_do {E:iH} {self:Val} {shapes:List aO} {w:aG} {i:Nat} {x:aT} (ht:dZ x.op=true) (s:x.exit<0) (l:x.op=1\/x.op=2\/x.op=3\/x.op=10\/x.op=11\/x.op=15\/((x.op=7\/x.op=8\/x.op=17)/\x.exit<0)) (d:(doI E self shapes w i x).2≠2):(doI E self shapes w i x).2=0/\(doI E self shapes w i x).1.cells=w.cells:=by
 have j:x.op=1\/x.op=2\/x.op=3\/x.op=10\/x.op=15\/x.op=7\/x.op=8:=by
  rcases l with c | c | c | c | c | c | ⟨c | c | c,_⟩;·omega
  ·omega
  ·omega
  ·omega
  ·rw[c] at ht;cases ht
  ·omega
  ·omega
  ·omega
  ·rw[c] at ht;cases ht
 have f:∀r:Val×Int,(gX w i x.exit r).2≠2->(gX w i x.exit r).2=0/\(gX w i x.exit r).1.cells=w.cells:=λr h=>by
  unfold gX at h ⊢;dsimp only at h ⊢;by_cases c:r.2<0;·rw[if_pos c];exact⟨rfl,rfl⟩
  ·rw[if_neg c,if_pos s] at h;exact absurd rfl h
 have g:x.op=10\/x.op=15->(jK w i x).2≠2->(jK w i x).2=0/\(jK w i x).1.cells=w.cells:=λu h=>by
  unfold jK at h ⊢
  cases e:dG w x.a with
  | none=>rw[e] at h;exact absurd rfl h
  | some nc=>
   obtain⟨n,c⟩:=nc
   rw[e] at h
   dsimp only at h ⊢
   by_cases p:x.op≠15/\(c.vals.length:Int)<=x.n
   ·rw[if_pos p] at h;exact absurd rfl h
   rw[if_neg p]
   by_cases q:x.op=10
   ·rw[if_pos q];exact⟨rfl,rfl⟩
   ·rw[if_neg q,if_neg (by omega)];exact⟨rfl,rfl⟩
 unfold doI at d ⊢;rcases j with c | c | c | c | c | c | c;·rw[if_pos c];exact⟨rfl,rfl⟩
 ·rw[if_neg (by omega),if_pos c];exact⟨rfl,rfl⟩
 ·rw[if_neg (by omega),if_neg (by omega),if_pos c];exact⟨rfl,rfl⟩
 ·rw[if_neg (by omega),if_neg (by omega),if_neg (by omega),if_neg (by omega),if_neg (by omega),if_neg (by omega),if_pos (by omega)] at d ⊢;exact g (.inl c) d
 ·rw[if_neg (by omega),if_neg (by omega),if_neg (by omega),if_neg (by omega),if_neg (by omega),if_neg (by omega),if_pos (by omega)] at d ⊢;exact g (.inr c) d
 ·rw[if_neg (by omega),if_neg (by omega),if_neg (by omega),if_neg (by omega),if_pos c] at d ⊢;exact f _ d
 ·rw[if_neg (by omega),if_neg (by omega),if_neg (by omega),if_neg (by omega),if_neg (by omega),if_pos c] at d ⊢;exact f _ d
theorem aq5 (E:iH) (self:Val) (shapes:List aO) {t:aH} (u:mB t):xN E self shapes t (i9 t) (a9 t) (λ_ _ w=>w.vals.length=t.ins.length) where
 len:=rfl
 loop:=rfl
 turn:=rfl
 back:=rfl
 exits i e hi h0 hk g:=.inl ⟨by rw[apV g,apS (used_of (vB hi) h0)],rfl⟩
 tells _:=rfl
 step lo i w hi _ h _:=(xB w.cells E self shapes w i (bT t i)).len.trans h
 turn_ _ w h _:=(aq0 w t.turn).trans h
 back_ w h _:=(aq0 w t.back).trans h
 kept _ _ _ _ _ _ _:=rfl
 skip lo i w hi hlo h hk h2:=by
  have f:=vB hi
  obtain⟨q,r⟩:=aoX t f
  have j:¬(0<=(bT t i).exit\/dZ (bT t i).op=false\/(i=0/\0<t.loop)):=λc=>hk (r c)
  have ht:dZ (bT t i).op=true:=by
   cases c:dZ (bT t i).op with
   | true=>rfl
   | false=>exact absurd (.inr (.inl c)) j
  have g:(bT t i).exit<0:=by
   rcases Int.lt_or_le (bT t i).exit 0 with c | c
   ·exact c
   ·exact absurd (.inl c) j
  have l:=u i _ f
  obtain⟨q1,s⟩:=skip_do (E:=E) (self:=self) (shapes:=shapes) (w:=w) (i:=i) ht g (by rcases l with c | c | c | c | c | c | c | c <;> first | omega | exact .inr (.inr (.inr (.inr (.inr (.inr c)))))) h2
  have p:=xB w.cells E self shapes w i (bT t i)
  refine⟨q1,s,λv x=>ad9 (p.vals v (by omega)),p.len,λn d=>?_⟩
  rcases q with c | c
  ·exact absurd c hk
  ·rw[c] at d;injection d with d;omega
theorem apT (t:aH):∀(i:Nat) (d f:List Int),i+f.length=t.ins.length->
  (∀(k:Nat) x,k<i->t.ins[k]? = some x->0<=x.exit\/dZ x.op=false\/(k=0/\0<t.loop)\/(k:Int)∈d\/∃(b:Nat) (y:aT),k<b/\b<i/\t.ins[b]? = some y/\(k:Int)∈bU y)->
  aoO t i d f=upto i++f
 | 0,_,_,_,_=>rfl
 | i+1,d,f,h,hall=>by
  have hi:i<t.ins.length:=by omega
  have j:t.ins[i]? = some t.ins[i]:=lG hi
  have c:ao2 t d i t.ins[i]=true:=by
   unfold ao2
   simp only[Bool.or_eq_true,Bool.and_eq_true,decide_eq_true_eq,beq_iff_eq,Bool.not_eq_true',List.contains_iff_mem]
   rcases hall i _ (by omega) j with c | c | c | c | ⟨b,y,b1,q,_⟩
   ·exact .inl (.inl (.inr c))
   ·exact .inl (.inr c)
   ·exact .inr c
   ·exact .inl (.inl (.inl c))
   ·omega
  unfold aoO
  rw[j]
  dsimp only
  rw[if_pos c,apT t i _ _ (by simp;omega) (λk x r l=>?_),afK,List.append_assoc];rfl
  rcases hall k x (by omega) l with c | c | c | c | ⟨b,y,b1,q,g,p⟩
  ·exact .inl c
  ·exact .inr (.inl c)
  ·exact .inr (.inr (.inl c))
  ·exact .inr (.inr (.inr (.inl (List.mem_append.2 (.inl c)))))
  ·by_cases e:b=i
   ·subst e
    rw[j] at g;injection g with g;subst g
    exact .inr (.inr (.inr (.inl (List.mem_append.2 (.inr p)))))
   ·exact .inr (.inr (.inr (.inr ⟨b,y,b1,by omega,g,p⟩)))
theorem ao8 {t:aH} (f:ad7 t) (c:0<t.loop):(a9 t)[0]? = some 0:=by
 have d:0<t.ins.length:=by have:=f.2.2;omega
 exact(aoX t (lG d)).2 (.inr (.inr ⟨rfl,c⟩))
theorem aqS {R:Val->Bool} {P:Int} {fns:List FnM} {t:aH} (G:cQ R P fns t=0) (D:P=0) (V:(g9 (i9 t) (a9 t)).2=0) : g9 (i9 (g9 (i9 t) (a9 t)).1) (a9 (g9 (i9 t) (a9 t)).1)=((g9 (i9 t) (a9 t)).1,0):=by
 have hx:=pM G;have E:=xG G;have hs:=apR hx;have H:=zR (apW G D) D V (t:=i9 t) hs (λc=>ao8 E c);have A:=mL H;obtain⟨S,h,e,hl,f1,f2,f3,f4⟩:=tT V;rw[e] at A ⊢;have h:jO t.loop t.ins (a9 t) t.ins.length S:=h;have I:∀(p:Nat) y,(bK (i9 t) S).ins[p]? = some y->∃i x,i<t.ins.length/\(a9 t)[i]? = some (i:Int)/\bD (a9 t) i=p/\t.ins[i]? = some x/\y=oE (S.at_.take (i+1)) x:=λp y w=>by
  have hp:p<bD (a9 t) t.ins.length:=by rw[<-h.num];exact(lE w).1
  obtain⟨i,g,f,v⟩:=sG (a9 t) _ _ hp;obtain⟨-,x,d,r,-⟩:=h.kept i g f;rw[v,show S.ins[p]? = some y from w] at r;injection r with r
  exact⟨i,x,g,f,v,d,r⟩
 have pos:∀i:Nat,i<t.ins.length->(a9 t)[i]? = some (i:Int)->bO S.at_ i=bD (a9 t) i:=λi hi F=>by unfold bO;rw[if_neg (by omega),show(i:Int).toNat=i from rfl,(h.kept i hi F).1];dsimp only;rw[if_neg (by omega)]
 have s:∀(i:Nat) (l:List Int),i<t.ins.length->(a9 t)[i]? = some (i:Int)->(i:Int)∈l->(bD (a9 t) i:Int)∈l.map (bO S.at_):=λi l hi F hl=>List.mem_map.2 ⟨_,hl,pos i hi F⟩;have J:i9 (bK (i9 t) S)=bK (i9 t) S:=by
  have:oT (bK (i9 t) S)=(bK (i9 t) S).exits:=by
   refine List.ext_getElem? λk=>?_
   show((bK (i9 t) S).exits.mapIdx (aoM (bK (i9 t) S)))[k]? = _
   rw[List.getElem?_mapIdx]
   show(((i9 t).exits.map (dM S.at_))[k]?).map _=((i9 t).exits.map (dM S.at_))[k]?
   rw[List.getElem?_map]
   cases X:t.exits[k]? with
   | none=>rw[show(i9 t).exits[k]? = none by show(t.exits.mapIdx (aoM t))[k]? = _;rw[List.getElem?_mapIdx,X];rfl];rfl
   | some x=>
    rw[apV X]
    show some (aoM (bK (i9 t) S) k (dM S.at_ (aoM t k x)))=some (dM S.at_ (aoM t k x))
    congr 1
    cases u:aoS t k with
    | false=>
     rw[show aoM t k x=⟨x.at_,x.steps,[],[]⟩ by unfold aoM;rw[u];rfl]
     unfold aoM
     split <;> rfl
    | true=>
     refine apS ?_
     obtain⟨y,y1,N⟩:=List.any_eq_true.1 u
     rw[beq_iff_eq] at N
     obtain⟨i,hi⟩:=List.mem_iff_getElem?.1 y1
     have K:=(lE hi).1
     obtain⟨-,z,d,r,-⟩:=h.kept i K ((aoX t hi).2 (.inl (by omega)))
     rw[hi] at d;injection d with d;subst d
     exact List.any_eq_true.2 ⟨_,lM (show(bK (i9 t) S).ins[bD (a9 t) i]? = _ from r),by rw[beq_iff_eq];exact N⟩
  unfold i9
  unfold i9 at this
  rw[this]
 have hT:a9 (bK (i9 t) S)=upto (bK (i9 t) S).ins.length:=by
  have L:oT (bK (i9 t) S)=(i9 t).exits.map (dM S.at_):=congrArg aH.exits J;unfold a9;rw[apT _ _ _ _ (by simp) (λp y _ w=>?_),List.append_nil];obtain⟨i,x,g,f,v,i4,O⟩:=I p y w;obtain⟨-,-,h3⟩:=aoR t t.ins.length (ao1 t) [] (by simp);have M:=h.loop_ (t:=i9 t) E.2.2.1 E.2.2.2;subst v;rcases h3 i g x i4 f with c | c | ⟨c1,c2⟩ | c | ⟨b,z,b1,Y,b3,Z,b5⟩;·exact .inl (by rw[O];exact c)
  ·exact .inr (.inl (by rw[O];exact c))
  ·refine .inr (.inr (.inl ⟨by rw[c1];rfl,?_⟩));rw[M];have c5:0<t.loop.toNat:=(by omega);have:=iF (tl:=a9 t) (i:=i) (j:=t.loop.toNat) (by omega) f;show(0:Int)<(bD (a9 t) t.loop.toNat:Int);omega
  ·refine .inr (.inr (.inr (.inl ?_)));unfold ao1 at c ⊢;rw[L];rcases List.mem_append.1 c with c | c
   ·rcases List.mem_append.1 c with c | c;·obtain⟨q,hq,hv⟩:=List.mem_flatMap.1 c;refine List.mem_append.2 (.inl (List.mem_append.2 (.inl (List.mem_flatMap.2 ⟨dM S.at_ q,List.mem_map.2 ⟨q,hq,rfl⟩,?_⟩))));rw[ao7];exact s i _ g f hv
    ·refine List.mem_append.2 (.inl (List.mem_append.2 (.inr ?_)));show _∈v9 (dM S.at_ t.turn);rw[ao7];exact s i _ g f c
   ·refine List.mem_append.2 (.inr ?_);show _∈v9 (dM S.at_ t.back);rw[ao7];exact s i _ g f c
  ·obtain⟨-,z',d,r,-⟩:=h.kept b Y Z;rw[b3] at d;injection d with d;subst d
   refine .inr (.inr (.inr (.inr ⟨bD (a9 t) b,_,iF b1 f,?_,r,?_⟩)));·show _<S.ins.length;rw[h.num];exact iF Y Z
   ·unfold oE;rw[akP];refine List.mem_map.2 ⟨_,b5,?_⟩;rw[sF (by omega)];exact pos i g f
 rw[hT,J];exact ag1 A
theorem ap5 {E:iH} {R:Val->Bool} {p:Int} {fns:List FnM} {stc:Int} {t:aH} {S0 out:aP} {th turns exit n:Int} (q:cQ R p fns t=0) (g:p=0) (s:(g9 (i9 t) (a9 t)).2=0) : cQ R p fns (g9 (i9 t) (a9 t)).1=0/\(mC E 0 stc t S0 th turns=(out,exit,n,0)->mC E 0 stc (g9 (i9 t) (a9 t)).1 S0 th turns=(out,exit,n,0)):=by have j:=pM q;have l:=xG q;have r:=apR j;have d:=apW q g;refine⟨zR d g s r (λc=>ao8 l c),λh=>run_cut h j l d s r (λc=>ao8 l c) rfl rfl λf u _ _=>⟨_,aq5 E f.self S0.shapes j,?_⟩⟩;simp[gG]
end
end Go.Proofs.YtijihlcdhppfgaaGreatDoor
