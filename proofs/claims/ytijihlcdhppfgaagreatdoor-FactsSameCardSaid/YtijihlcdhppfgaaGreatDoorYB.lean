/- Part of the walk of the given code: contracts, and plain laws. -/
import Derived.Test.YtijihlcdhppfgaaGreatDoorZCB
import Derived.Test.YtijihlcdhppfgaaGreatDoorZM
import Derived.Test.YtijihlcdhppfgaaGreatDoorYR
import Derived.Test.YtijihlcdhppfgaaGreatDoorZU
set_option maxHeartbeats 16000000
set_option maxRecDepth 100000
set_option linter.all false
namespace Go.Proofs.YtijihlcdhppfgaaGreatDoor
open Tryz
section
structure alN (E:iH) (t:aH) (w:aG) (v:Nat):Prop where
 const:(bT t v).op=2->bL w v=(bT t v).k
 count:(bT t v).op=15->(bL w v).kind=2
 new:(bT t v).op=16\/(bT t v).op=18->(bL w v).kind=5
 bin:(bT t v).op=7->bL w v=(E.B (bT t v).n (bL w (bT t v).a) (bL w (bT t v).b)).1/\(E.B (bT t v).n (bL w (bT t v).a) (bL w (bT t v).b)).2<0
 un:(bT t v).op=8->bL w v=(E.U (bT t v).n (bL w (bT t v).a)).1/\(E.U (bT t v).n (bL w (bT t v).a)).2<0
 is_:(bT t v).op=4->(bL w (bT t v).a).kind=(bT t v).n
 same:(bT t v).op=6->bL w (bT t v).a=(bT t v).k
 cell:(bT t v).op=9->(bL w (bT t v).a).kind=5
theorem alE {w:aG} {i:Nat} (hi:i<w.vals.length) (v:Val):bL (setV w i v) (i:Int)=v:=by unfold bL setV;rw[show(i:Int).toNat=i from rfl,List.getElem?_set_self hi];rfl
theorem anZ {w:aG} {v:Int} {d:Nat×bJ} (h:dG w v=some d):(bL w v).kind=5:=by
 unfold dG at h;split at h;·rename_i c;exact c.1
 ·cases h
theorem am6 {E:iH} {t:aH} {w w':aG} {v:Nat} (h:alN E t w v) (p:∀o∈bU (bT t v),0<=o/\o<v) (l:∀u:Nat,u<=v->w'.vals[u]? = w.vals[u]?):alN E t w' v:=by
 have d:bL w' (v:Int)=bL w v:=ad9 (l v (Nat.le_refl _));have f:0<(bP (bT t v).op).asks->bL w' (bT t v).a=bL w (bT t v).a:=λc=>by obtain⟨g,r⟩:=p _ (nL (k:=0) rfl c);obtain⟨n,j⟩:=Int.eq_ofNat_of_zero_le g;rw[j];exact ad9 (l n (by omega))
 have q:1<(bP (bT t v).op).asks->bL w' (bT t v).b=bL w (bT t v).b:=λc=>by obtain⟨g,r⟩:=p _ (nL (k:=1) rfl c);obtain⟨n,j⟩:=Int.eq_ofNat_of_zero_le g;rw[j];exact ad9 (l n (by omega))
 refine⟨λc=>?_,λc=>?_,λc=>?_,λc=>?_,λc=>?_,λc=>?_,λc=>?_,λc=>?_⟩;·rw[d];exact h.const c
 ·rw[d];exact h.count c
 ·rw[d];exact h.new c
 ·rw[d,f (by rw[c];decide),q (by rw[c];decide)];exact h.bin c
 ·rw[d,f (by rw[c];decide)];exact h.un c
 ·rw[f (by rw[c];decide)];exact h.is_ c
 ·rw[f (by rw[c];decide)];exact h.same c
 ·rw[f (by rw[c];decide)];exact h.cell c
theorem am7 {E:iH} {t:aH} {w:aG} {i:Nat} (hl:w.vals.length=t.ins.length) (hi:i<t.ins.length) (self:Val) (shapes:List aO) (s:∀o∈bU (bT t i),0<=o/\o<i)
  (d:(doW E t self shapes w i).2=0):alN E t (doW E t self shapes w i).1 i:=by
 have j:=xB w.cells E self shapes w i (bT t i)
 change iS w.cells i w (doW E t self shapes w i).1 at j
 have g:i<w.vals.length:=by omega
 have h:0<(bP (bT t i).op).asks->bL (doW E t self shapes w i).1 (bT t i).a=bL w (bT t i).a:=λc=>by
  obtain⟨l,v⟩:=s _ (nL (k:=0) rfl c)
  obtain⟨n,p⟩:=Int.eq_ofNat_of_zero_le l
  rw[p];exact ad9 (j.vals n (by omega))
 have u:1<(bP (bT t i).op).asks->bL (doW E t self shapes w i).1 (bT t i).b=bL w (bT t i).b:=λc=>by
  obtain⟨l,v⟩:=s _ (nL (k:=1) rfl c)
  obtain⟨n,p⟩:=Int.eq_ofNat_of_zero_le l
  rw[p];exact ad9 (j.vals n (by omega))
 refine⟨λc=>?_,λc=>?_,λc=>?_,λc=>?_,λc=>?_,λc=>?_,λc=>?_,λc=>?_⟩
 ·have e:doW E t self shapes w i=(setV w i (bT t i).k,0):=by
   unfold doW doI
   rw[if_neg (by omega),if_pos c]
  rw[e];exact alE g _
 ·have e:doW E t self shapes w i=jK w i (bT t i):=by
   unfold doW doI
   rw[if_neg (by omega),if_neg (by omega),if_neg (by omega),if_neg (by omega),if_neg (by omega),if_neg (by omega),if_pos (by omega)]
  rw[e] at d ⊢
  unfold jK at d ⊢
  cases f:dG w (bT t i).a with
  | none=>rw[f] at d;cases d
  | some nc=>
   obtain⟨n,cl⟩:=nc
   dsimp only
   rw[if_neg (by omega),if_neg (by omega),if_neg (by omega)]
   show(bL (setV w i _) (i:Int)).kind=2
   rw[alE g]
 ·have hf:∀k,(eP w i k).2=0->(bL (eP w i k).1 (i:Int)).kind=5:=λk r=>by
   unfold eP at r ⊢
   split at r
   ·cases r
   ·rename_i f
    rw[if_neg f]
    have:bL { w with vals:=w.vals.set i ⟨5,w.cells.length⟩,cells:=w.cells++[⟨k,0,[],[]⟩] } (i:Int)=⟨5,w.cells.length⟩:=by
     unfold bL
     rw[show(i:Int).toNat=i from rfl,List.getElem?_set_self g];rfl
    rw[this]
  rcases c with c | c
  ·have e:doW E t self shapes w i=eP w i (bT t i).n:=by
    unfold doW doI
    rw[if_neg (by omega),if_neg (by omega),if_neg (by omega),if_neg (by omega),if_neg (by omega),if_neg (by omega),if_neg (by omega),if_neg (by omega),if_neg (by omega),if_pos c]
   rw[e] at d ⊢;exact hf _ d
  ·have e:doW E t self shapes w i=eP w i 0:=by
    unfold doW doI
    rw[if_neg (by omega),if_neg (by omega),if_neg (by omega),if_neg (by omega),if_neg (by omega),if_neg (by omega),if_neg (by omega),if_neg (by omega),if_neg (by omega),if_neg (by omega),if_neg (by omega),if_neg (by omega)]
   rw[e] at d ⊢;exact hf _ d
 ·rw[h (by rw[c];decide),u (by rw[c];decide)]
  have e:doW E t self shapes w i=gX w i (bT t i).exit (E.B (bT t i).n (bL w (bT t i).a) (bL w (bT t i).b)):=by
   unfold doW doI
   rw[if_neg (by omega),if_neg (by omega),if_neg (by omega),if_neg (by omega),if_pos c]
  rw[e] at d ⊢
  refine⟨alE g _,?_⟩
  unfold gX at d
  dsimp only at d
  split at d
  ·assumption
  ·split at d <;> cases d
 ·rw[h (by rw[c];decide)]
  have e:doW E t self shapes w i=gX w i (bT t i).exit (E.U (bT t i).n (bL w (bT t i).a)):=by
   unfold doW doI
   rw[if_neg (by omega),if_neg (by omega),if_neg (by omega),if_neg (by omega),if_neg (by omega),if_pos c]
  rw[e] at d ⊢
  refine⟨alE g _,?_⟩
  unfold gX at d
  dsimp only at d
  split at d
  ·assumption
  ·split at d <;> cases d
 ·rw[h (by rw[c];decide)]
  have e:doW E t self shapes w i=(w,isW (jF E w (bT t i)) 1):=by
   unfold doW doI
   rw[if_neg (by omega),if_neg (by omega),if_neg (by omega),if_pos (by omega)]
  rw[e] at d
  unfold jF at d
  rw[if_pos c] at d
  unfold isW at d
  dsimp only at d
  split at d
  ·rename_i q;simpa using q
  ·cases d
 ·rw[h (by rw[c];decide)]
  have e:doW E t self shapes w i=(w,isW (jF E w (bT t i)) 1):=by
   unfold doW doI
   rw[if_neg (by omega),if_neg (by omega),if_neg (by omega),if_pos (by omega)]
  rw[e] at d
  unfold jF at d
  rw[if_neg (by omega),if_neg (by omega),if_pos c] at d
  unfold isW at d
  dsimp only at d
  split at d
  ·rename_i q;simpa using q
  ·cases d
 ·rw[h (by rw[c];decide)]
  have e:doW E t self shapes w i=(w,isW (jF E w (bT t i)) 1):=by
   unfold doW doI
   rw[if_neg (by omega),if_neg (by omega),if_neg (by omega),if_pos (by omega)]
  rw[e] at d
  unfold jF at d
  rw[if_neg (by omega),if_neg (by omega),if_neg (by omega)] at d
  cases f:dG w (bT t i).a with
  | none=>rw[f] at d;cases d
  | some nc=>exact anZ f
structure amS (E:iH):Prop where
 not_:∀a,(E.U 11 a).1.kind=1
 neg:∀n a,n≠11->(E.U n a).2<0->(E.U n a).1.kind=a.kind
 cmp:∀n a b,8<=n->n<=10->(E.B n a b).2<0->(E.B n a b).1.kind=1
 arith:∀n a b,n<8->(E.B n a b).2<0->(E.B n a b).1.kind=a.kind
theorem amP (v:Int):∀(l:List aT),guardM v l≠-1->∃(i:Nat) (x:aT),l[i]? = some x/\x.a=v/\((x.op=4/\guardM v l=x.n)\/(x.op=6/\guardM v l=x.k.kind)\/(x.op=9/\guardM v l=5))
 | [],h=>absurd rfl h
 | x::l,h=>by
  have next:guardM v (x::l)=guardM v l->∃(i:Nat) (y:aT),(x::l)[i]? = some y/\y.a=v/\((y.op=4/\guardM v (x::l)=y.n)\/(y.op=6/\guardM v (x::l)=y.k.kind)\/(y.op=9/\guardM v (x::l)=5)):=λe=>by
   rw[e] at h ⊢
   obtain⟨i,y,a,b,c⟩:=amP v l h
   exact⟨i+1,y,by simpa using a,b,c⟩
  by_cases d:x.a=v
  ·by_cases c4:x.op=4
   ·exact⟨0,x,rfl,d,.inl ⟨c4,by unfold guardM;rw[if_neg (by omega),if_pos c4]⟩⟩
   ·by_cases f:x.op=6
    ·exact⟨0,x,rfl,d,.inr (.inl ⟨f,by unfold guardM;rw[if_neg (by omega),if_neg c4,if_pos f]⟩)⟩
    ·by_cases g:x.op=9
     ·exact⟨0,x,rfl,d,.inr (.inr ⟨g,by unfold guardM;rw[if_neg (by omega),if_neg c4,if_neg f,if_pos g]⟩)⟩
     ·exact next (by conv=>lhs;unfold guardM;rw[if_neg (show ¬x.a≠v by omega),if_neg c4,if_neg f,if_neg g])
  ·exact next (by conv=>lhs;unfold guardM;rw[if_pos d])
def amX (t:aH):Prop:=∀(i:Nat) x,t.ins[i]? = some x->(x.op=7->3<=x.n/\x.n<=10)/\(x.op=8->11<=x.n/\x.n<=12)
theorem anY {aF:Val->Bool} {p:Int} {fns:List FnM} {t:aH} (h:cQ aF p fns t=0):amX t:=λi x l=>by
 obtain⟨_,fn,h1⟩:=xH h
 obtain⟨_,f⟩:=fW t.ins 0 h1 i x l
 simp only[eJ,Bool.and_eq_true,Bool.not_eq_true',Bool.or_eq_false_iff,decide_eq_false_iff_not] at f
 have d:=f.1.1.2.1
 constructor
 ·intro c;rw[c] at d;have g:(bP 7).low=3:=by decide
  have j:(bP 7).high=10:=by decide
  exact⟨by omega,by omega⟩
 ·intro c;rw[c] at d;have g:(bP 8).low=11:=by decide
  have j:(bP 8).high=12:=by decide
  exact⟨by omega,by omega⟩
theorem am0 {E:iH} (q:amS E) {t:aH} (ask:acO t) (num:amX t) {w:aG} {m:Nat} (j:∀v<m,alN E t w v):∀(n:Nat) (v at_:Int),v<n->at_<=m->kindM t.ins v at_≠-1->(bL w v).kind=kindM t.ins v at_
 | 0,v,at_,hn,hm,h=>by
  rw[kindM_eq,if_pos (.inl (by omega))] at h
  exact absurd rfl h
 | n+1,v,at_,hn,hm,h=>by
  rw[kindM_eq] at h ⊢
  by_cases c:v<0\/at_<=v\/(t.ins.length:Int)<at_\/dZ (l6 t.ins v)=false
  ·rw[if_pos c] at h;exact absurd rfl h
  rw[if_neg c] at h ⊢
  have M:0<=v:=by omega
  have X:v<t.ins.length:=by omega
  obtain⟨d,rfl⟩:=Int.eq_ofNat_of_zero_le M
  have N:d<t.ins.length:=by omega
  have F:=j d (by omega)
  have z:t.ins[d]? = some (bT t d):=by
   unfold bT
   rw[show(d:Int).toNat=d from rfl,lG N];rfl
  have hi:insAt t.ins (d:Int)=bT t d:=rfl
  rw[hi] at h ⊢
  by_cases g:0<=ownM (kindM t.ins · d) (bT t d)
  ·rw[if_pos g] at h ⊢
   unfold ownM at g h ⊢
   by_cases G:(bT t d).op=2
   ·rw[if_pos G,F.const G]
   rw[if_neg G] at g h ⊢
   by_cases r:(bT t d).op=15
   ·rw[if_pos r,F.count r]
   rw[if_neg r] at g h ⊢
   by_cases s:(bT t d).op=16
   ·rw[if_pos s,F.new (.inl s)]
   rw[if_neg s] at g h ⊢
   by_cases u:(bT t d).op=18
   ·rw[if_pos u,F.new (.inr u)]
   rw[if_neg u] at g h ⊢
   by_cases l:(bT t d).op=7\/(bT t d).op=8
   case neg=>rw[if_neg l] at h;exact absurd rfl h
   rw[if_pos l] at g h ⊢
   by_cases H:(8<=(bT t d).n/\(bT t d).n<=10/\(bT t d).op=7)\/((bT t d).n=11/\(bT t d).op=8)
   ·rw[if_pos H]
    rcases H with ⟨I,J,L⟩ | ⟨I,J⟩
    ·rw[(F.bin L).1];exact q.cmp _ _ _ I J (F.bin L).2
    ·rw[(F.un J).1,I];exact q.not_ _
   rw[if_neg H] at g h ⊢
   by_cases y:kindM t.ins (bT t d).a d=2\/kindM t.ins (bT t d).a d=3
   case neg=>rw[if_neg y] at h;exact absurd rfl h
   rw[if_pos y]
   have O:=ask d _ z (bT t d).a (nL (k:=0) rfl (by rcases l with o | o <;> rw[o] <;> decide))
   have K:=am0 q ask num j n (bT t d).a d (by omega) (by omega) (by omega)
   rcases l with o | o
   ·have P:=(num d _ z).1 o
    rw[(F.bin o).1,q.arith _ _ _ (by omega) (F.bin o).2];exact K
   ·have P:=(num d _ z).2 o
    rw[(F.un o).1,q.neg _ _ (by omega) (F.un o).2];exact K
  ·rw[if_neg g] at h ⊢
   obtain⟨i,x,p,D,R⟩:=amP (d:Int) _ h
   rw[List.getElem?_drop,List.getElem?_take] at p
   split at p
   case isFalse=>cases p
   rename_i V
   have S:=(lE p).1
   have f:bT t (((d:Int).toNat+1+i:Nat):Int)=x:=by
    unfold bT
    rw[Int.toNat_natCast,p];rfl
   have A:=j ((d:Int).toNat+1+i) (by omega)
   rcases R with ⟨o,e⟩ | ⟨o,e⟩ | ⟨o,e⟩
   ·have:=A.is_ (by rw[f];exact o)
    rw[f,D] at this
    rw[this,e]
   ·have:=A.same (by rw[f];exact o)
    rw[f,D] at this
    rw[this,e]
   ·have:=A.cell (by rw[f];exact o)
    rw[f,D] at this
    rw[this,e]
end
section
theorem alB {n:Int} (h:(mR n).2<0):(mR n).1.kind=2:=by
 unfold mR at h ⊢;split;·rfl
 ·rename_i c;rw[if_neg c] at h;exact absurd h (by decide)
theorem amY (b:Nat):(ofM b).kind=3:=by unfold ofM;split <;> rfl
theorem alC (b:Bool):(mS b).kind=1:=by cases b <;> rfl
theorem alL {v:Val} (h:(dQ v).kind≠0):dQ v=v:=by
 unfold dQ at h ⊢;split;·rfl
 ·rename_i c;rw[if_neg c] at h;exact absurd rfl h
theorem alD {op:Int} {a b:Bool} (h:(kR op a b).2<0):(kR op a b).1.kind=1/\(op=9\/op=10):=by
 unfold kR at h ⊢;split;·rename_i c;exact⟨alC _,.inl c⟩
 ·rename_i d;rw[if_neg d] at h;split;·rename_i c;exact⟨alC _,.inr c⟩
  ·rename_i c;rw[if_neg c] at h;exact absurd h (by decide)
theorem alQ (o:BinOp) (x y:Nat):(ofB o x y).kind=3:=by
 unfold ofB;split;·exact amY _
 ·rfl
theorem an6:amS ⟨qY,jV,oD⟩:=by
 refine⟨λa=>?_,λn a s h=>?_,λn a b h1 v h=>?_,λn a b h1 h=>?_⟩;·show(qY 11 a).1.kind=1;unfold qY;rw[if_pos rfl];exact alC _
 ·change (qY n a).2<0 at h;show(qY n a).1.kind=a.kind;unfold qY at h ⊢;rw[if_neg s] at h ⊢;split;·rename_i c;rw[if_pos c] at h;rw[alB h,<-c.2,alL (by omega)]
  ·rename_i c;rw[if_neg c] at h;split;·rename_i g;show(ofM _).kind=_;rw[amY,<-g.2,alL (by omega)]
   ·rename_i g;rw[if_neg g] at h;exact absurd h (by decide)
 ·change (jV n a b).2<0 at h;show(jV n a b).1.kind=1;unfold jV at h ⊢;split
  ·rename_i c;rw[if_pos c] at h;unfold oH at h ⊢;rw[if_neg (by omega),if_neg (by omega),if_neg (by omega),if_neg (by omega)] at h ⊢;split;·exact alC _
   ·rename_i j;rw[if_neg j] at h;exact(alD h).1
  ·rename_i c;rw[if_neg c] at h;split;·exact alC _
   ·rename_i j;rw[if_neg j] at h;split;·rename_i d;rw[if_pos d] at h;unfold pR at h ⊢;rw[if_neg (by omega),if_neg (by omega),if_neg (by omega),if_neg (by omega)] at h ⊢;exact(alD h).1
    ·rename_i d;rw[if_neg d] at h;exact absurd h (by decide)
 ·change (jV n a b).2<0 at h;show(jV n a b).1.kind=a.kind;unfold jV at h ⊢;split
  ·rename_i c;rw[if_pos c] at h;have f:a.kind=3:=(by rw[<-c.1,alL (by omega)]);rw[f];unfold oH at h ⊢;split;·exact alQ _ _ _
   split;·exact alQ _ _ _
   split;·exact alQ _ _ _
   split;·exact alQ _ _ _
   rename_i q1 l p u;rw[if_neg q1,if_neg l,if_neg p,if_neg u,if_neg (by omega)] at h;have:=(alD h).2;omega
  ·rename_i c;rw[if_neg c,if_neg (by omega)] at h;rw[if_neg (show ¬n=8 by omega)];split
   ·rename_i d;rw[if_pos d] at h;have f:a.kind=2:=(by rw[<-d.1,alL (by omega)]);rw[f];unfold pR at h ⊢;split;·rename_i q;rw[if_pos q] at h;exact alB h
    rename_i q1;rw[if_neg q1] at h;split;·rename_i q;rw[if_pos q] at h;exact alB h
    rename_i l;rw[if_neg l] at h;split;·rename_i q;rw[if_pos q] at h;exact alB h
    rename_i p;rw[if_neg p] at h;split
    ·rename_i q;rw[if_pos q] at h;split;·rename_i q0;rw[if_pos q0] at h;exact absurd h (by decide)
     ·rename_i q0;rw[if_neg q0] at h;split;·rename_i r;rw[if_pos r] at h;exact alB h
      ·rename_i r;rw[if_neg r] at h;exact alB h
    ·rename_i q;rw[if_neg q] at h;have:=(alD h).2;omega
   ·rename_i d;rw[if_neg d] at h;exact absurd h (by decide)
end
section
def Lt (n:Nat) (v:Val):Prop:=v.kind=5->v.n<(n:Int)
theorem Lt.mono {n m:Nat} {v:Val} (h:Lt n v) (d:n<=m):Lt m v:=λc=>by have:=h c;omega
theorem anH (n:Nat):Lt n ⟨0,0⟩:=λc=>absurd (show(0:Int)=5 from c) (by decide)
theorem al8 {n:Nat} {l:List Val} (h:∀v∈l,Lt n v) (i:Nat):Lt n ((l[i]?).getD ⟨0,0⟩):=by
 cases e:l[i]? with
 | none=>exact anH n
 | some v=>exact h v (List.mem_of_getElem? e)
structure ak8 (w:aG):Prop where
 cells:∀c∈w.cells,∀v∈c.vals,Lt w.cells.length v
 vals:∀v∈w.vals,Lt w.cells.length v
 regs:∀v∈w.regs,Lt w.cells.length v
theorem ak8.val {w:aG} (h:ak8 w) (v:Int):Lt w.cells.length (bL w v):=al8 h.vals _
structure anO (E:iH):Prop where
 un:∀n a,(E.U n a).1.kind≠5
 bin:∀n a b,(E.B n a b).1.kind≠5
structure aoK (n0:Nat) (t:aH) (w:aG) (v:Nat):Prop where
 new:(bT t v).op=16\/(bT t v).op=18->(n0:Int)<=(bL w v).n/\(bL w v).kind=5/\∀u:Nat,u<v->bL w u≠bL w v
 old:((bT t v).op=1\/(bT t v).op=2)\/(bT t v).op=3->Lt n0 (bL w v)
structure InvR (n0:Nat) (t:aH) (i:Nat) (w:aG):Prop where
 sane:ak8 w
 len:w.vals.length=t.ins.length
 big:n0<=w.cells.length
 regs:∀v∈w.regs,Lt n0 v
 all:∀v<i,aoK n0 t w v
structure FitS (S:aP):Prop where
 cells:∀c∈S.cells,∀v∈c.vals,Lt S.cells.length v
 frames:∀h∈S.threads,∀f∈h.frames,Lt S.cells.length f.self/\∀v∈f.regs,Lt S.cells.length v
end
section
theorem amL {R:Val->Bool} {p:aZ} {S:aP} : ∀(l:List bC) (low:Option Int) (gens g:List Int),cX R p S low gens l=some g->∀f∈l,eC R p S f=true
 | [],_,_,_,_,f,hf=>by simp at hf
 | y::r,low,gens,g,h,f,hf=>by
  unfold cX at h
  dsimp only at h
  split at h
  ·cases h
  rename_i c
  have d:eC R p S y=true:=by
   cases e:eC R p S y with
   | true=>rfl
   | false=>rw[e] at c;exact absurd (by simp) c
  rcases List.mem_cons.1 hf with rfl | hf
  ·exact d
  split at h
  ·exact amL r _ _ _ h f hf
  ·split at h
   ·cases h
   ·split at h
    ·cases h
    ·exact amL r _ _ _ h f hf
theorem anP {R:Val->Bool} {p:aZ} {S:aP} {gens g:List Int} {x:cD} (h:gJ R p S gens x=some g):∀f∈x.frames,eC R p S f=true:=by
 unfold gJ at h;dsimp only at h;split at h;·cases h
 split at h;·cases h
 split at h;·cases h
 split at h;·cases h
 exact amL _ _ _ _ h
theorem al2 {R:Val->Bool} {p:aZ} {S:aP} : ∀(l:List cD) (gens g:List Int),dK R p S gens l=some g->∀x∈l,∀f∈x.frames,eC R p S f=true
 | [],_,_,_,x,hx=>by simp at hx
 | y::r,gens,g,h,x,hx=>by
  unfold dK at h
  split at h
  ·cases h
  rename_i d e
  rcases List.mem_cons.1 hx with rfl | hx
  ·exact anP e
  ·exact al2 r _ _ h x hx
end
section
open Go.RowKit
structure QOk (Q:Val->Prop) (E:iH):Prop where
 zero:Q ⟨0,0⟩
 ref:∀n:Nat,Q ⟨5,n⟩
 num:∀n:Nat,n<=600->Q ⟨2,n⟩
 un:∀n a,Q (E.U n a).1
 bin:∀n a b,Q (E.B n a b).1
structure ak6 (Q:Val->Prop) (w:aG):Prop where
 cells:∀c∈w.cells,c.vals.length<=600/\∀v∈c.vals,Q v
 vals:∀v∈w.vals,Q v
 regs:∀v∈w.regs,Q v
section
variable {Q:Val->Prop} {w:aG}
theorem alZ {l:List Val} (q0:Q ⟨0,0⟩) (h:∀v∈l,Q v) (i:Nat):Q ((l[i]?).getD ⟨0,0⟩):=by
 cases e:l[i]? with
 | none=>exact q0
 | some v=>exact h v (List.mem_of_getElem? e)
theorem amW {l:List Val} {u:Val} (h:∀v∈l,Q v) (d:Q u):∀v∈l++[u],Q v:=λv hv=>by
 rcases List.mem_append.1 hv with hv | hv
 ·exact h v hv
 ·rw[List.mem_singleton.1 hv];exact d
theorem alW {l:List Val} {u:Val} (h:∀v∈l,Q v) (i:Nat) (d:Q u):∀v∈l.set i u,Q v:=λv hv=>by
 rcases List.mem_or_eq_of_mem_set hv with hv | hv
 ·exact h v hv
 ·rw[hv];exact d
theorem ak6.val (h:ak6 Q w) (q0:Q ⟨0,0⟩) (v:Int):Q (bL w v):=alZ q0 h.vals _
theorem ak6.setV (h:ak6 Q w) (i:Nat) {v:Val} (d:Q v):ak6 Q (setV w i v):=⟨h.cells,alW h.vals i d,h.regs⟩
theorem ak6.setCW (h:ak6 Q w) (n:Nat) {d:bJ} (f:d.vals.length<=600/\∀v∈d.vals,Q v):ak6 Q (setCW w n d):=by
 refine⟨λc hc=>?_,h.vals,h.regs⟩;rcases List.mem_or_eq_of_mem_set hc with hc | hc;·exact h.cells c hc
 ·rw[hc];exact f
theorem ak6.cell (h:ak6 Q w) {v:Int} {n:Nat} {c:bJ} (d:dG w v=some (n,c)):c.vals.length<=600/\∀v∈c.vals,Q v:=h.cells c (List.mem_of_getElem? (ad4 d).1)
theorem ak6.fresh (h:ak6 Q w) (f:∀n:Nat,Q ⟨5,n⟩) (i:Nat) (k:Int):ak6 Q (eP w i k).1:=by
 unfold eP;split;·exact h
 ·refine⟨λc hc=>?_,alW h.vals i (f _),h.regs⟩;rcases List.mem_append.1 hc with hc | hc;·exact h.cells c hc
  ·rw[List.mem_singleton.1 hc];exact⟨Nat.zero_le _,λv d=>by simp at d⟩
theorem ak6.do_ (h:ak6 Q w) {E:iH} (f:QOk Q E) {self:Val} (j:Q self) (sh:List aO) (i:Nat) (x:aT) (l:x.op=2->Q x.k):ak6 Q (doI E self sh w i x).1:=by
 have P:∀ {c:Prop} [Decidable c] {a b:aG×Int},(c->ak6 Q a.1)->(¬c->ak6 Q b.1)->ak6 Q (if c then a else b).1:=λ{c} _ {a b} h1 h2=>cI (λr:aG×Int=>ak6 Q r.1) h1 h2
 unfold doI
 refine P (λ_=>h.setV i (alZ f.zero h.regs _)) λ_=>?_
 refine P (λe=>h.setV i (l e)) λ_=>?_
 refine P (λ_=>h.setV i j) λ_=>?_
 refine P (λ_=>h) λ_=>?_
 refine P (λ_=>h.setV i (f.bin _ _ _)) λ_=>?_
 refine P (λ_=>h.setV i (f.un _ _)) λ_=>?_
 refine P (λ_=>?_) λ_=>?_
 ·unfold jK
  cases g:dG w x.a with
  | none=>exact h
  | some nc=>
   obtain⟨n,c⟩:=nc
   have d:=h.cell g
   dsimp only
   refine P (λ_=>h) λ_=>?_
   refine P (λ_=>h.setV i (alZ f.zero d.2 _)) λ_=>?_
   exact P (λ_=>h.setCW n ⟨by rw[List.length_set];exact d.1,alW d.2 _ (h.val f.zero _)⟩) λ_=>h.setV i (f.num _ d.1)
 refine P (λ_=>?_) λ_=>?_
 ·unfold lH
  cases g:dG w x.a with
  | none=>exact h
  | some nc=>
   obtain⟨n,c⟩:=nc
   have d:=h.cell g
   dsimp only
   refine P (λ_=>h) λ_=>?_
   cases sh[x.n.toNat]? with
   | none=>exact h
   | some s=>exact P (λ_=>h) λq=>h.setCW n ⟨by rw[List.length_append,List.length_singleton];omega,amW d.2 (h.val f.zero _)⟩
 refine P (λ_=>?_) λ_=>?_
 ·unfold nE
  cases g:dG w x.a with
  | none=>exact h
  | some nc=>
   obtain⟨n,c⟩:=nc
   have d:=h.cell g
   dsimp only
   refine P (λ_=>h) λ_=>?_
   refine P (λ_=>h) λ_=>?_
   exact P (λ_=>h.setV i (alZ f.zero d.2 _)) λ_=>h.setCW n ⟨by rw[List.length_set];exact d.1,alW d.2 _ (h.val f.zero _)⟩
 refine P (λ_=>h.fresh f.ref _ _) λ_=>?_
 refine P (λ_=>?_) λ_=>?_
 ·unfold j6
  cases g:dG w x.a with
  | none=>exact h
  | some nc=>
   obtain⟨n,c⟩:=nc
   have d:=h.cell g
   dsimp only
   refine P (λ_=>h) λ_=>?_
   refine P (λq=>h.setCW n ⟨by rw[List.length_append,List.length_singleton];omega,amW d.2 (h.val f.zero _)⟩) λ_=>?_
   exact P (λ_=>h) λ_=>h
 exact P (λ_=>h) λ_=>h.fresh f.ref _ _
theorem ak6.make (h:ak6 Q w) (q0:Q ⟨0,0⟩) (m:dX) (f:m.vals.length<=600):ak6 Q (gF w m).1:=by
 unfold gF;split;·exact h
 ·split;·exact h
  ·refine h.setCW _ ⟨by simpa using f,λv d=>?_⟩;obtain⟨u,_,rfl⟩:=List.mem_map.1 d;exact h.val q0 u
theorem ak6.makes (q0:Q ⟨0,0⟩):∀(l:List dX) (w:aG),ak6 Q w->(∀m∈l,m.vals.length<=600)->ak6 Q (eO w l).1
 | [],_,h,_=>h
 | m::l,w,h,hm=>by
  unfold eO
  split
  ·exact h.make q0 m (hm m (by simp))
  ·exact ak6.makes q0 l _ (h.make q0 m (hm m (by simp))) (λk d=>hm k (by simp[d]))
theorem ak6.sets (q0:Q ⟨0,0⟩):∀(l:List oL) (w:aG),ak6 Q w->ak6 Q (gY w l)
 | [],_,h=>h
 | s::l,w,h=>ak6.sets q0 l { w with regs:=w.regs.set s.reg.toNat (bL w s.val) } ⟨h.cells,h.vals,alW h.regs _ (h.val q0 _)⟩
theorem ak6.end_ (h:ak6 Q w) (q0:Q ⟨0,0⟩) (x:bX) (f:∀m∈x.makes,m.vals.length<=600):ak6 Q (g8 w x).1:=by
 have h1:=ak6.makes q0 x.makes w h f;unfold g8;split;·exact h1
 ·have d:=ak6.sets q0 x.sets _ h1;exact⟨d.cells,d.vals,d.regs⟩
end
def amD (x:bX):Prop:=∀m∈x.makes,m.vals.length<=600
theorem amG {ins:List aT} {at_:Int} : ∀(last:Int) (l:List dX),fI ins at_ last l=true->∀m∈l,m.vals.length<=600
 | _,[],_,m,hm=>by simp at hm
 | last,k::l,h,m,hm=>by
  simp only[fI,Bool.and_eq_true] at h
  rcases List.mem_cons.1 hm with rfl | hm
  ·have d:=h.1.2
   simp only[mG,Bool.and_eq_true,decide_eq_true_eq] at d
   have:=d.1.2
   omega
  ·exact amG _ l h.2 m hm
theorem amF {fn:FnM} {ins:List aT} {x:bX} {at_:Int} (h:bN fn ins x at_=true):amD x:=by simp only[bN,Bool.and_eq_true] at h;exact amG _ _ h.2
theorem am8 {R:Val->Bool} {l:Int} {fns:List FnM} {t:aH} (h:cQ R l fns t=0):amD t.turn/\amD t.back:=by
 obtain⟨-,-,fn,-,-,hl,-,h1,g,j,-⟩:=fD h;refine⟨?_,amF j.2⟩;by_cases c:t.loop=0;·have d:=h1 c;simp only[kV,Bool.and_eq_true,List.isEmpty_iff] at d;intro m f;rw[d.2] at f;simp at f
 ·exact amF (g (by omega)).2
def KQ (Q:Val->Prop) (t:aH):Prop:=∀i:Nat,(bT t i).op=2->Q (bT t i).k
def ak5 (v:Val):Prop:=aF v=true
theorem am9 {g:Int} {fns:List FnM} {t:aH} (h:cQ aF g fns t=0):KQ ak5 t:=λi=>by
 unfold bT
 rw[show(i:Int).toNat=i from rfl]
 cases j:t.ins[i]? with
 | none=>intro c;exact absurd (show(0:Int)=2 from c) (by decide)
 | some x=>
  intro c
  obtain⟨_,fn,h1⟩:=xH h
  obtain⟨_,f⟩:=fW t.ins 0 h1 i x j
  simp only[eJ,Bool.and_eq_true,Bool.not_eq_true',Bool.or_eq_false_iff] at f
  have d:=f.1.2.1.2
  rw[show x.op=2 from c,show(bP 2).k=true by decide] at d
  show aF x.k=true
  simpa using d
structure FitQ (Q:Val->Prop) (S:aP):Prop where
 cells:∀c∈S.cells,c.vals.length<=600/\∀v∈c.vals,Q v
 frames:∀h∈S.threads,∀f∈h.frames,Q f.self/\∀v∈f.regs,Q v
theorem anK {S:aP} {v:Val} (h:eU aF S v=true):ak5 v:=by simp only[eU,Bool.and_eq_true] at h;exact h.1
theorem aoA {p:aZ} {S:aP} {f:bC} (h:eC aF p S f=true):ak5 f.self/\∀v∈f.regs,ak5 v:=by
 simp only[eC,Bool.and_eq_true] at h;refine⟨?_,λv g=>anK (List.all_eq_true.1 h.2 v g)⟩;have d:=h.1.1.1.1.1.2;cases e:bZ S f.self 4 with
 | none=>rw[e] at d;cases d
 | some x=>
  unfold bZ at e
  split at e
  ·cases e
  ·rename_i c
   unfold ak5 aF
   rw[if_neg (by omega),if_neg (by omega),if_neg (by omega),if_neg (by omega),if_pos (by omega)]
   exact decide_eq_true (by omega)
theorem amR {p:aZ} {S:aP} {W:List ByteArray} {y:Int} (h:eN aF p S W y=0):FitQ ak5 S:=by
 unfold eN at h;split at h;·exact absurd h (by assumption)
 split at h;·exact absurd h (by assumption)
 rename_i d;split at h;·exact absurd h (by decide)
 split at h;case isFalse=>exact absurd h (by decide)
 rename_i j;refine⟨λc s=>?_,λx u f hf=>?_⟩
 ·have d:dN aF S W=0:=by omega
  unfold dN at d;split at d;·exact absurd d (by decide)
  rename_i l;split at d;·exact absurd d (by assumption)
  split at d;·exact absurd d (by decide)
  rename_i q;simp only[Bool.or_eq_true,not_or] at q;have r:mN aF S c=true:=by
   cases e:mN aF S c with
   | true=>rfl
   | false=>exact absurd (List.any_eq_true.2 ⟨c,s,by rw[e];rfl⟩) q.2
  simp only[mN,Bool.and_eq_true] at r;refine⟨?_,λv w=>anK (List.all_eq_true.1 r.1.2 v w)⟩;rcases Nat.lt_or_ge 600 c.vals.length with g | g;·refine absurd ?_ l;unfold rI;rw[Bool.or_eq_true];refine .inr (List.any_eq_true.2 ⟨c,s,?_⟩);rw[Bool.and_eq_true,Bool.or_eq_true];exact⟨decide_eq_true (by omega),.inr (decide_eq_true g)⟩
  ·exact g
 ·unfold pC at j;split at j;·cases j
  split at j;·cases j
  split at j;·cases j
  rename_i g e;exact aoA (al2 _ _ _ e x u f hf)
theorem FitQ.begin {Q:Val->Prop} {S:aP} (h:FitQ Q S) (q0:Q ⟨0,0⟩) {th:Nat} {d:cD} {f:bC} (t:aH) (h1:S.threads[th]? = some d) (j:d.frames.getLast? = some f):Q f.self/\ak6 Q (gG t S f):=by have F:=h.frames d (List.mem_of_getElem? h1) f (List.mem_of_getLast? j);exact⟨F.1,h.cells,λv g=>by rw[List.eq_of_mem_replicate g];exact q0,F.2⟩
theorem alP (b:Bool):ak5 (mS b):=by cases b <;> rfl
theorem bits_lt (n:Int):pO n<2 ^ 64:=by unfold pO;rw[IntKind.wrap_u64];omega
theorem an0 {b:Nat} (h:b<2 ^ 64):pO (wrap64 b)=b:=by unfold pO wrap64;rw[IntKind.wrap_u64];omega
theorem an5:ak5 ⟨3,nanM⟩:=by unfold ak5 aF nanM;rw[if_neg (by decide),if_neg (by decide),if_neg (by decide),if_pos rfl];simp
theorem rq_of {b:Nat} (h:b<2 ^ 64):ak5 (ofM b):=by
 unfold ofM;split;·rename_i c;unfold ak5 aF;rw[if_neg (show ¬(3:Int)=0 by decide),if_neg (show ¬(3:Int)=1 by decide),if_neg (show ¬(3:Int)=2 by decide),if_pos rfl];unfold isNum;rw[show pO (wrap64 (b:Int))=b from an0 h,c];rfl
 ·exact an5
theorem rq_ofB (o:BinOp) (x y:Nat):ak5 (ofB o x y):=by
 unfold ofB;split;·rename_i r h;have:=floatBits_wf h;exact rq_of (by simpa [Lit.wf] using this)
 ·exact an5
theorem alY:ak5 ⟨0,0⟩:=rfl
theorem al7 (n:Int):ak5 (mR n).1:=by unfold mR;refine cI (λr:Val×Int=>ak5 r.1) (λc=>?_) λ_=>alY;simpa [ak5,aF,aL] using c
theorem amN (op:Int) (a b:Bool):ak5 (kR op a b).1:=by unfold kR;refine cI (λr:Val×Int=>ak5 r.1) (λ_=>alP _) λ_=>?_;exact cI (λr:Val×Int=>ak5 r.1) (λ_=>alP _) λ_=>alY
theorem amU:QOk ak5 ⟨qY,jV,oD⟩ where
 zero:=alY
 ref n:=by
  unfold ak5 aF
  rw[if_neg (show ¬(5:Int)=0 by decide),if_neg (show ¬(5:Int)=1 by decide),if_neg (show ¬(5:Int)=2 by decide),if_neg (show ¬(5:Int)=3 by decide),if_pos (.inr rfl)]
  exact decide_eq_true (Int.natCast_nonneg n)
 num n h:=by
  unfold ak5 aF
  rw[if_neg (show ¬(2:Int)=0 by decide),if_neg (show ¬(2:Int)=1 by decide),if_pos rfl]
  simp;omega
 un n a:=by
  show ak5 (qY n a).1
  unfold qY
  refine cI (λr:Val×Int=>ak5 r.1) (λ_=>alP _) λ_=>?_
  refine cI (λr:Val×Int=>ak5 r.1) (λ_=>al7 _) λ_=>?_
  refine cI (λr:Val×Int=>ak5 r.1) (λ_=>rq_of ?_) λ_=>alY
  exact Nat.xor_lt_two_pow (bits_lt _) (by decide)
 bin n a b:=by
  show ak5 (jV n a b).1
  unfold jV
  refine cI (λr:Val×Int=>ak5 r.1) (λ_=>?_) λ_=>?_
  ·unfold oH
   iterate 4 refine cI (λr:Val×Int=>ak5 r.1) (λ_=>rq_ofB _ _ _) λ_=>?_
   exact cI (λr:Val×Int=>ak5 r.1) (λ_=>alP _) λ_=>amN _ _ _
  refine cI (λr:Val×Int=>ak5 r.1) (λ_=>alP _) λ_=>?_
  refine cI (λr:Val×Int=>ak5 r.1) (λ_=>?_) λ_=>alY
  unfold pR
  iterate 3 refine cI (λr:Val×Int=>ak5 r.1) (λ_=>al7 _) λ_=>?_
  refine cI (λr:Val×Int=>ak5 r.1) (λ_=>?_) λ_=>amN _ _ _
  refine cI (λr:Val×Int=>ak5 r.1) (λ_=>alY) λ_=>?_
  exact cI (λr:Val×Int=>ak5 r.1) (λ_=>al7 _) λ_=>al7 _
end
end Go.Proofs.YtijihlcdhppfgaaGreatDoor
