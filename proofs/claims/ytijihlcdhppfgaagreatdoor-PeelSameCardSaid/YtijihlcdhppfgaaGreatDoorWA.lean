/- A part of the walk. -/
import Derived.Test.YtijihlcdhppfgaaGreatDoorWR
set_option maxHeartbeats 16000000
set_option maxRecDepth 100000
set_option linter.all false
namespace Go.Proofs.YtijihlcdhppfgaaGreatDoor
open Go.Proofs.Tryz
section
def ar2 (x:bX) (n:Int):bX:=⟨x.at_,x.steps,x.sets.map (λs=>⟨s.reg,s.val+n⟩),x.makes.map (λm=>⟨m.cell+n,m.kind,m.num,m.vals.map (· + n)⟩)⟩
def ar3 (n m:Int) (x:aT):aT:={ iA (· + n) x with exit:=if 0<=x.exit then x.exit+m else x.exit }
def arY (t:aH):aH:=
 ⟨t.fn,t.at_,(t.ins.length:Int),t.ins++t.ins.map (ar3 t.ins.length t.exits.length),t.exits++t.exits.map (ar2 · t.ins.length),t.back,ar2 t.back t.ins.length⟩
theorem ar0 (loop0:Int):∀(l1:List aT) (d:List Int) (f:List aT) (g:List Int) (s:mX),l1.length=d.length->iU loop0 (l1++f) (d++g) s=(iU loop0 l1 d s).bind (iU loop0 f g)
 | [],[],_,_,_,_=>rfl
 | [],_::_,_,_,_,h=>by simp at h
 | _::_,[],_,_,_,h=>by simp at h
 | x::l1,n::d,f,g,s,h=>by
  simp only[List.cons_append]
  unfold iU
  cases hs:gK loop0 s x n with
  | none=>rfl
  | some s'=>
   dsimp only
   rw[ar0 loop0 l1 d f g s' (by simpa using h)]
theorem ar1 {loop0:Int} {s d:mX} {x:aT} {n:Int} (h:gK loop0 s x n=some d):∃a I,d.at_=s.at_++[a]/\d.ins=s.ins++I/\(((s.at_.length:Int)=loop0->d.loop=s.ins.length)/\((s.at_.length:Int)≠loop0->d.loop=s.loop)):=by
 unfold gK at h;dsimp only at h;split at h
 ·injection h with h;subst h
  exact⟨_,_,rfl,rfl,λe=>if_pos e,λe=>if_neg e⟩
 split at h
 ·injection h with h;subst h
  exact⟨_,[],rfl,by simp,λe=>if_pos e,λe=>if_neg e⟩
 split at h
 ·injection h with h;subst h
  exact⟨_,[],rfl,by simp,λe=>if_pos e,λe=>if_neg e⟩
 ·cases h
theorem arZ {loop0:Int} : ∀(l:List aT) (m:List Int) (s d:mX),iU loop0 l m s=some d->(∃A I,d.at_=s.at_++A/\d.ins=s.ins++I)/\(loop0<(s.at_.length:Int)->d.loop=s.loop)
 | [],m,s,d,h=>by
  have e:s=d:=by simpa [iU] using h
  subst e
  exact⟨⟨[],[],by simp,by simp⟩,λ_=>rfl⟩
 | x::l,[],s,d,h=>by
  have e:s=d:=by simpa [iU] using h
  subst e
  exact⟨⟨[],[],by simp,by simp⟩,λ_=>rfl⟩
 | x::l,n::m,s,d,h=>by
  unfold iU at h
  cases hs:gK loop0 s x n with
  | none=>rw[hs] at h;cases h
  | some s1=>
   rw[hs] at h
   dsimp only at h
   obtain⟨a,I,f,g,u,j⟩:=ar1 hs
   obtain⟨⟨A,J,p,q⟩,r⟩:=arZ l m s1 d h
   refine⟨⟨a::A,I++J,by rw[p,f];simp,by rw[q,g];simp⟩,λhl=>?_⟩
   rw[r (by rw[f];simp;omega),j (by omega)]
theorem ar4 {at_:List Int} {n:Nat} (h:∀v:Int,0<=v->v<n->bO at_ v=v) {x:bX} (hx:tQ n x):dM at_ x=x:=by
 obtain⟨h1,g⟩:=hx;obtain⟨a,s,sets,makes⟩:=x;unfold dM;simp only[bX.mk.injEq,true_and];refine⟨nA _ λs hs=>?_,nA _ λm hm=>?_⟩;·unfold setC;rw[h _ (h1 s hs).1 (h1 s hs).2]
 ·obtain⟨d,f⟩:=g m hm;unfold kS;rw[h _ d.1 d.2,nA _ λv hv=>h _ (f v hv).1 (f v hv).2]
theorem ar5 {n:Nat} {A:List Int} {v:Int} (d:0<=v) (h:v<n):bO (upto n++A) v=v:=by unfold bO;rw[if_neg (by omega),List.getElem?_append_left (by rw[vN];omega),aeA (by omega)];dsimp only;rw[if_neg (by omega)];omega
theorem auX {t:aH} (hc:Cuts t) (hn:0<t.ins.length) {tl:List Int} (G:tl.length=t.ins.length) {z:aH} (h:g9 (arY t) (upto t.ins.length++tl)=(z,0)) : z.loop=t.ins.length/\t.ins.length<=z.ins.length/\z.ins.take t.ins.length=t.ins/\z.exits.length=2*t.exits.length/\z.turn=t.back/\ ∀(i:Nat) (x:bX),t.exits[i]? = some x->z.exits[i]? = some x/\∃y,z.exits[t.exits.length+i]? = some y/\y.at_=x.at_/\y.steps=x.steps:=by
 unfold g9 at h;split at h;·cases h
 obtain⟨d,w,K⟩:=zM (t.ins.length:Int) t.ins [] 0 (λk x hx v hv=>by simpa using hc.ins k x hx v hv);rw[List.length_nil,abJ] at w;have j:iU (arY t).loop (arY t).ins (upto t.ins.length++tl) ⟨[],true,0,[]⟩=iU (t.ins.length:Int) (t.ins.map (ar3 t.ins.length t.exits.length)) tl ⟨upto t.ins.length,true,d,t.ins⟩:=by show iU (t.ins.length:Int) (t.ins++t.ins.map (ar3 t.ins.length t.exits.length)) (upto t.ins.length++tl) _=_;rw[ar0 _ _ _ _ _ _ (by rw[vN])];rw[show(⟨[],true,0,[]⟩:mX)=⟨upto 0,true,0,[]⟩ from rfl,w];simp
 rw[j] at h;cases hs:iU (t.ins.length:Int) (t.ins.map (ar3 t.ins.length t.exits.length)) tl ⟨upto t.ins.length,true,d,t.ins⟩ with
 | none=>rw[hs] at h;cases h
 | some s=>
  rw[hs] at h
  dsimp only at h
  split at h
  ·injection h with h _
   obtain⟨⟨A,I,D,p⟩,-⟩:=arZ _ _ _ _ hs
   dsimp only at D p
   have u:s.loop=t.ins.length:=by
    obtain⟨x,l,hx⟩:∃x l,t.ins.map (ar3 t.ins.length t.exits.length)=x::l:=by
     cases hi:t.ins with
     | nil=>rw[hi] at hn;simp at hn
     | cons y r=>exact⟨_,_,rfl⟩
    obtain⟨q,m,hm⟩:∃q m,tl=q::m:=by
     cases tl with
     | nil=>simp at G;omega
     | cons y r=>exact⟨_,_,rfl⟩
    rw[hx,hm] at hs
    unfold iU at hs
    cases f:gK (t.ins.length:Int) ⟨upto t.ins.length,true,d,t.ins⟩ x q with
    | none=>rw[f] at hs;cases hs
    | some s1=>
     rw[f] at hs
     dsimp only at hs
     obtain⟨a,J,E,L,F,-⟩:=ar1 f
     dsimp only at E F
     have:=(arZ _ _ _ _ hs).2 (by rw[E];simp[vN];omega)
     rw[this,F (by rw[vN])]
   have g:∀v:Int,0<=v->v<t.ins.length->bO s.at_ v=v:=λv H h1=>by rw[D];exact ar5 H h1
   subst h
   refine⟨?_,?_,?_,?_,?_,?_⟩
   ·show(if(arY t).loop<=0 then 0 else if((arY t).ins.length:Int)<=(arY t).loop then(s.ins.length:Int) else s.loop)=_
    rw[if_neg (show ¬(arY t).loop<=0 from by show ¬(t.ins.length:Int)<=0;omega),if_neg (show ¬((arY t).ins.length:Int)<=(arY t).loop from by show ¬(((t.ins++t.ins.map (ar3 t.ins.length t.exits.length)).length:Nat):Int)<=(t.ins.length:Int);simp;omega),u]
   ·show _<=s.ins.length
    rw[p];simp
   ·show s.ins.take _=_
    rw[p,List.take_left]
   ·show((t.exits++t.exits.map (ar2 · t.ins.length)).map (dM s.at_)).length=_
    simp;omega
   ·show dM s.at_ t.back=t.back
    exact ar4 g hc.back
   ·intro i x hx
    have hi:=(lE hx).1
    constructor
    ·show((t.exits++t.exits.map (ar2 · t.ins.length)).map (dM s.at_))[i]? = _
     rw[List.getElem?_map,List.getElem?_append_left hi,hx,Option.map_some,ar4 g (hc.exits x (lM hx))]
    ·refine⟨dM s.at_ (ar2 x t.ins.length),?_,rfl,rfl⟩
     show((t.exits++t.exits.map (ar2 · t.ins.length)).map (dM s.at_))[t.exits.length+i]? = _
     rw[List.getElem?_map,List.getElem?_append_right (by omega),Nat.add_sub_cancel_left,List.getElem?_map,hx]
     rfl
  ·cases h
end
open Go.Proofs.Tryz
section
def arW (t:aH) (ops:List Int):Bool:=t.ins.any (λx=>decide (x.op∈ops))
def arQ (t:aH) (x:aT):Bool:=
 if x.op=2\/x.op=3\/x.op=19\/x.op=7\/x.op=8\/x.op=4\/x.op=5\/x.op=6 then true
 else if x.op=1 then !t.back.sets.any (λs=>decide (s.reg=x.n))
 else if x.op=9 then x.n != 1 || !arW t [12]
 else if x.op=10\/x.op=13 then !arW t [11,14]
 else if x.op=15 then !arW t [17,12]
 else false
def isL (t:aH):Nat->List Bool
 | 0=>[]
 | i+1=>isL t i++[arQ t (bT t i) && !(bU (bT t i)).any (λv=>!(isL t i).getD v.toNat false)]
def arT (t:aH) (i:Nat):Bool:=(isL t (i+1)).getD i false
def ar9 (t:aH) (i:Nat):Int:=if arT t i=false then((t.ins.length+i:Nat):Int) else if dZ (bT t i).op=true then(i:Int) else -1
def asE (t:aH):List Int:=upto t.ins.length++(List.range t.ins.length).map (ar9 t)
def asC (ce:Int) (t:aH):aH×Int:=
 if ce≠0 then(mT,ce) else if 0<t.loop\/t.ins.length=0\/150<t.ins.length\/100<t.exits.length then g9 t (upto t.ins.length) else g9 (arY t) (asE t)
theorem arN (t:aH):∀i,(isL t i).length=i
 | 0=>rfl
 | i+1=>by unfold isL;rw[List.length_append,arN t i];rfl
theorem arX (t:aH):∀ {i j:Nat},j<i->(isL t i)[j]? = some (arT t j)
 | i+1,j,h=>by
  by_cases c:j=i
  ·subst c
   unfold arT
   have:=arN t (j+1)
   rw[List.getD_eq_getElem?_getD,lG (by omega)];rfl
  ·unfold isL
   rw[List.getElem?_append_left (by rw[arN];omega)]
   exact arX t (by omega)
theorem asV (t:aH) (i:Nat):arT t i=(arQ t (bT t i) && !(bU (bT t i)).any (λv=>!(isL t i).getD v.toNat false)):=by
 have h1:(isL t (i+1))[i]? = some (arQ t (bT t i) && !(bU (bT t i)).any (λv=>!(isL t i).getD v.toNat false)):=by show(isL t i++[_])[i]? = _;rw[List.getElem?_append_right (by rw[arN];omega),arN,Nat.sub_self];rfl
 unfold arT;rw[List.getD_eq_getElem?_getD,h1];rfl
theorem asT {l:List Int} {f g:Int->Bool} (h:∀v∈l,f v=g v):l.any f=l.any g:=by
 induction l with
 | nil=>rfl
 | cons a l ih=>rw[List.any_cons,List.any_cons,h a (by simp),ih (λv hv=>h v (by simp[hv]))]
theorem isAt_bs {t:aH} {j:Nat} {d:List Bool} (hb:∀v:Nat,v<j->d.getD v false=arT t v) (f:∀v∈bU (bT t j),0<=v/\v<(j:Int)):arT t j=(arQ t (bT t j) && !(bU (bT t j)).any (λv=>!(d.getD v.toNat false))):=by rw[asV,asT (g:=λv=>!(d.getD v.toNat false)) λv hv=>?_];have:=f v hv;rw[hb v.toNat (by omega),List.getD_eq_getElem?_getD,arX t (i:=j) (j:=v.toNat) (by omega)];rfl
theorem as7 {t:aH} {i:Nat} (h:arT t i=true):arQ t (bT t i)=true/\∀v∈bU (bT t i),0<=v->v<(i:Int)->arT t v.toNat=true:=by rw[asV,Bool.and_eq_true] at h;refine⟨h.1,λv hv f h1=>?_⟩;have d:=h.2;rw[Bool.not_eq_true',List.any_eq_false] at d;have:=d v hv;rw[List.getD_eq_getElem?_getD,arX t (i:=i) (j:=v.toNat) (by omega)] at this;simpa using this
end
end Go.Proofs.YtijihlcdhppfgaaGreatDoor
