/- Part of the walk of the given code: contracts, and plain laws. -/
import Derived.Test.YtijihlcdhppfgaaGreatDoorXR
import Derived.Test.YtijihlcdhppfgaaGreatDoorZU
import Derived.Test.YtijihlcdhppfgaaGreatDoorXG
import Derived.Test.YtijihlcdhppfgaaGreatDoorZCC
set_option maxHeartbeats 16000000
set_option maxRecDepth 100000
set_option linter.all false
namespace Go.Proofs.YtijihlcdhppfgaaGreatDoor
section
structure awF where
 U:Int→Val→Val×Int
 B:Int→Val→Val→Val×Int
 T:Val→Bool
 K:Int→Int→Int
def awE (ins:List aT) (v:Int):aT:=(ins[v.toNat]?).getD ⟨0,0,0,0,0,0,⟨0,0⟩⟩
def awH (k:Val):aT:=⟨2,-1,-1,-1,0,-1,k⟩
def awM (n:Int):Val:=⟨2,n⟩
def axD (b:Bool):Val:=⟨1,if b then 1 else 0⟩
def awN (done:List aT) (v:Int):Bool:=(awE done v).op == 2
def aw9 (E:awF) (x:aT) (v:Val):Bool:=if x.op=4 then v.kind == x.n else if x.op=5 then E.T v == (x.n == 1) else decide (v=x.k)
def awJ (E:awF) (done:List aT) (x:aT):Option Val:=
 if awN done x.a=false then none
 else if x.op=7 then(if awN done x.b=false then none else if(E.B x.n (awE done x.a).k (awE done x.b).k).2<0 then some (E.B x.n (awE done x.a).k (awE done x.b).k).1 else none)
 else if(E.U x.n (awE done x.a).k).2<0 then some (E.U x.n (awE done x.a).k).1 else none
def isM (done:List aT) (v:Int) (k:Val):Bool:=awN done v && decide ((awE done v).k=k)
def aw0 (E:awF) (v i:Int):Bool:=E.K v i == 2
def axA (n:Int):Int:=if n=5∨n=6 then 1 else 0
def awT (E:awF) (done:List aT) (x:aT) (i:Int):Int:=
 if(x.n=3∨x.n=5)∧(isM done x.a (awM (axA x.n)) && aw0 E x.b i)=true then x.b
 else if(x.n=3∨x.n=4∨x.n=5∨x.n=6)∧(isM done x.b (awM (axA x.n)) && aw0 E x.a i)=true then x.a
 else -1
def axQ (E:awF) (x:aT) (i:Int):Option Val:=
 if x.n=8∧0≤E.K x.a i∧E.K x.a i≠3 then some (axD true)
 else if E.K x.a i≠2 then none
 else if x.n=4 then some (awM 0)
 else if x.n=9∨x.n=10 then some (axD (x.n == 10))
 else none
def ayF (E:awF) (done:List aT) (x:aT) (i:Int):aT×Int:=
 match awJ E done x with
 | some k=>(awH k,i)
 | none=>
  if 0≤awT E done x i then(x,awT E done x i)
  else if x.n=5∧((isM done x.a (awM 0) && aw0 E x.b i) || (isM done x.b (awM 0) && aw0 E x.a i))=true then(awH (awM 0),i)
  else if x.a=x.b then(match axQ E x i with | some k=>(awH k,i) | none=>(x,i))
  else(x,i)
def awP (E:awF) (done:List aT) (x:aT) (i:Int):aT×Int:=
 if x.op=7 then ayF E done x i
 else if x.op=8 then
  match awJ E done x with
  | some k=>(awH k,i)
  | none=>if x.n=11∧(awE done x.a).op=8∧(awE done x.a).n=11∧E.K (awE done x.a).a i=1 then(x,(awE done x.a).a) else(x,i)
 else if x.op=4∨x.op=5∨x.op=6 then(if(awN done x.a && aw9 E x (awE done x.a).k)=true then(x,-1) else(x,i))
 else(x,i)
structure awL where
 ins:List aT
 tl:List Int
def aw5 (s:awL) (x:aT):aT:=iA (fun v=>s.tl.getD v.toNat 0) x
def awO (E:awF) (s:awL) (x:aT):awL:=⟨s.ins++[(awP E s.ins (aw5 s x) s.tl.length).1],s.tl++[(awP E s.ins (aw5 s x) s.tl.length).2]⟩
def awG (E:awF) (l:List aT) (s:awL):awL:=l.foldl (awO E) s
def aw6 (E:awF) (t:aH):aH:={ t with ins:=(awG E t.ins ⟨[],[]⟩).ins }
def aoU (E:awF) (ce:Int) (t:aH):aH×Int:=if ce≠0 then(mT,ce) else g9 (aw6 E t) (awG E t.ins ⟨[],[]⟩).tl
structure Left (E:awF) (ins:List aT) (x:aT):Prop where
 un:x.op=8→(awE ins x.a).op=2→0≤(E.U x.n (awE ins x.a).k).2
 bin:x.op=7→(awE ins x.a).op=2→(awE ins x.b).op=2→0≤(E.B x.n (awE ins x.a).k (awE ins x.b).k).2
 is_:x.op=4→(awE ins x.a).op=2→(awE ins x.a).k.kind≠x.n
 same:x.op=6→(awE ins x.a).op=2→(awE ins x.a).k≠x.k
def axJ (tl:List Int) (i:Nat) (x:aT):Prop:=∀o∈bU x,0≤o∧o<i∧tl[o.toNat]? = some o
def awZ (l:List aT):Prop:=∀(k:Nat) (x:aT),l[k]? = some x→∀v∈bU x,0≤v∧v<k∧dZ (l6 l v)=true
structure awY (E:awF) (l:List aT) (j:Nat) (s:awL):Prop where
 len:s.tl.length=j
 lin:s.ins.length=j
 idem:∀(v:Nat) u,s.tl[v]? = some u→(u = -1∧dZ (l6 l v)=false)∨(0≤u∧u≤v∧s.tl[u.toNat]? = some u)
 opnd:∀(i:Nat) x,s.ins[i]? = some x→axJ s.tl i x
 left:∀(i:Nat) x,s.ins[i]? = some x→s.tl[i]? = some (i:Int)→Left E s.ins x
theorem awS {ins r:List aT} {v:Int} (h:v.toNat<ins.length):awE (ins++r) v=awE ins v:=by
 unfold awE;rw[List.getElem?_append_left h]
theorem awI {x:aT} (h:0<(bP x.op).asks):x.a∈bU x:=by
 unfold bU
 obtain⟨n,hn⟩:∃n,(bP x.op).asks.toNat=n+1:=⟨(bP x.op).asks.toNat - 1,by omega⟩
 rw[hn];simp
theorem awU {x:aT} (h:1<(bP x.op).asks):x.b∈bU x:=by
 unfold bU
 obtain⟨n,hn⟩:∃n,(bP x.op).asks.toNat=n+2:=⟨(bP x.op).asks.toNat - 2,by omega⟩
 rw[hn];simp
theorem awK {x:aT} : (x.op=7→(bP x.op).asks=2)∧(x.op=8→(bP x.op).asks=1)∧(x.op=4→(bP x.op).asks=1)∧(x.op=5→(bP x.op).asks=1)∧(x.op=6→(bP x.op).asks=1)∧(x.op=2→(bP x.op).asks=0):=by
 refine⟨fun h=>?_,fun h=>?_,fun h=>?_,fun h=>?_,fun h=>?_,fun h=>?_⟩ <;> rw[h] <;> rfl
theorem axN {F:Int→Int} {x:aT} {o:Int} (h:o∈bU (iA F x)):∃v∈bU x,o=F v:=by
 unfold bU at h
 rw[show(iA F x).op=x.op from rfl] at h
 obtain⟨k,hk⟩:=List.mem_iff_getElem?.1 h
 rw[List.getElem?_take] at hk
 split at hk
 case isFalse=>cases hk
 rename_i hlt
 have mem:∀(v:Int),[x.a,x.b,x.c][k]? = some v→v∈bU x:=fun v hv=>by
  refine List.mem_of_getElem? (i:=k) ?_
  unfold bU
  rw[List.getElem?_take,if_pos hlt];exact hv
 rcases k with _ | _ | _ | k
 ·refine⟨x.a,mem _ rfl,?_⟩
  simp only[List.getElem?_cons_zero,Option.some.injEq] at hk
  rw[←hk];unfold iA;dsimp only;rw[if_pos (by omega)]
 ·refine⟨x.b,mem _ rfl,?_⟩
  simp only[List.getElem?_cons_succ,List.getElem?_cons_zero,Option.some.injEq] at hk
  rw[←hk];unfold iA;dsimp only;rw[if_pos (by omega)]
 ·refine⟨x.c,mem _ rfl,?_⟩
  simp only[List.getElem?_cons_succ,List.getElem?_cons_zero,Option.some.injEq] at hk
  rw[←hk];unfold iA;dsimp only;rw[if_pos (by omega)]
 ·simp at hk
theorem aw8 {k:Val} : bU (awH k)=[]:=rfl
theorem aw4 (E:awF) (ins:List aT) (k:Val):Left E ins (awH k):=by
 refine⟨fun h=>?_,fun h=>?_,fun h=>?_,fun h=>?_⟩ <;> cases h
inductive awV (E:awF) (done:List aT) (x:aT) (i:Int):aT×Int→Prop
 | const (k:Val):dZ x.op=true→awV E done x i (awH k,i)
 | stands (v:Int):dZ x.op=true→(v∈bU x∨∃u∈bU x,v∈bU (awE done u))→awV E done x i (x,v)
 | gone:dZ x.op=false→awV E done x i (x,-1)
 | stays:Left E done x→awV E done x i (x,i)
theorem awQ {E:awF} {done:List aT} {x:aT} (h:awJ E done x=none):(x.op=8→(awE done x.a).op=2→0≤(E.U x.n (awE done x.a).k).2)∧(x.op=7→(awE done x.a).op=2→(awE done x.b).op=2→0≤(E.B x.n (awE done x.a).k (awE done x.b).k).2):=by
 unfold awJ awN at h
 constructor
 ·intro h8 ha
  rw[ha,h8] at h
  simp only[BEq.rfl,Bool.true_eq_false,↓reduceIte] at h
  rw[if_neg (by decide)] at h
  split at h
  ·cases h
  ·omega
 ·intro h7 ha hb
  rw[ha,h7,hb] at h
  simp only[BEq.rfl,Bool.true_eq_false,↓reduceIte] at h
  split at h
  ·cases h
  ·omega
theorem awW {x:aT} (h:x.op=7∨x.op=8):dZ x.op=true:=by rcases h with h | h <;> rw[h] <;> rfl
theorem axV (E:awF) (done:List aT) (x:aT) (i:Int):awV E done x i (awP E done x i):=by
 obtain⟨f7,f8,f4,f5,f6,-⟩:=awK (x:=x)
 unfold awP
 split
 ·rename_i h7
  have ta:x.a∈bU x:=awI (by rw[f7 h7];decide)
  have tb:x.b∈bU x:=awU (by rw[f7 h7];decide)
  have tt:=awW (.inl h7)
  unfold ayF
  cases hr:awJ E done x with
  | some k=>exact .const k tt
  | none=>
   have hn:=(awQ hr).2
   have stay:Left E done x:=⟨fun c=>by omega,hn,fun c=>by omega,fun c=>by omega⟩
   dsimp only
   split
   ·rename_i hv
    refine .stands _ tt (.inl ?_)
    unfold awT at hv ⊢
    split
    ·exact tb
    ·rename_i c
     rw[if_neg c] at hv
     split
     ·exact ta
     ·rename_i c2
      rw[if_neg c2] at hv;omega
   ·split
    ·exact .const _ tt
    ·split
     ·cases axQ E x i with
      | some k=>exact .const k tt
      | none=>exact .stays stay
     ·exact .stays stay
 ·rename_i h7
  split
  ·rename_i h8
   have ta:x.a∈bU x:=awI (by rw[f8 h8];decide)
   have tt:=awW (.inr h8)
   cases hr:awJ E done x with
   | some k=>exact .const k tt
   | none=>
    have hn:=(awQ hr).1
    dsimp only
    split
    ·rename_i c
     exact .stands _ tt (.inr ⟨_,ta,awI (by rw[(awK (x:=awE done x.a)).2.1 c.2.1];decide)⟩)
    ·exact .stays ⟨hn,fun c=>by omega,fun c=>by omega,fun c=>by omega⟩
  ·rename_i h8
   split
   ·rename_i h
    split
    ·refine .gone ?_
     rcases h with h | h | h <;> rw[h] <;> rfl
    ·rename_i c
     refine .stays ⟨fun c=>by omega,fun c=>by omega,fun e ha hk=>c ?_,fun e ha hk=>c ?_⟩
     ·unfold awN aw9
      rw[ha,if_pos e,hk];simp
     ·unfold awN aw9
      rw[ha,if_neg (by omega),if_neg (by omega),hk];simp
   ·exact .stays ⟨fun c=>by omega,fun c=>by omega,fun c=>by omega,fun c=>by omega⟩
theorem aw7 {x:aT} (h:x.op=7∨x.op=8∨x.op=4∨x.op=6):0<(bP x.op).asks:=by rcases h with h | h | h | h <;> rw[h] <;> decide
theorem awR {E:awF} {ins r:List aT} {x:aT} (ho:∀o∈bU x,0≤o∧o.toNat<ins.length):Left E (ins++r) x↔Left E ins x:=by
 obtain⟨f7,f8,f4,f5,f6,-⟩:=awK (x:=x)
 have e1:(x.op=7∨x.op=8∨x.op=4∨x.op=6)→awE (ins++r) x.a=awE ins x.a:=fun h=>awS (ho _ (awI (aw7 h))).2
 have e2:x.op=7→awE (ins++r) x.b=awE ins x.b:=fun h=>awS (ho _ (awU (by rw[f7 h];decide))).2
 constructor
 ·rintro ⟨h1,h2,h3,h4⟩
  refine⟨fun c=>?_,fun c=>?_,fun c=>?_,fun c=>?_⟩
  ·have:=h1 c;rwa [e1 (by omega)] at this
  ·have:=h2 c;rwa [e1 (by omega),e2 c] at this
  ·have:=h3 c;rwa [e1 (by omega)] at this
  ·have:=h4 c;rwa [e1 (by omega)] at this
 ·rintro ⟨h1,h2,h3,h4⟩
  refine⟨fun c=>?_,fun c=>?_,fun c=>?_,fun c=>?_⟩
  ·rw[e1 (by omega)];exact h1 c
  ·rw[e1 (by omega),e2 c];exact h2 c
  ·rw[e1 (by omega)];exact h3 c
  ·rw[e1 (by omega)];exact h4 c
theorem axH {E:awF} {l:List aT} {j:Nat} {s:awL} (h:awY E l j s) (ha:awZ l) {x:aT} (hx:l[j]? = some x):axJ s.tl j (aw5 s x):=by
 intro o ho
 obtain⟨v,hv,rfl⟩:=axN ho
 obtain⟨a1,a2,a3⟩:=ha j x hx v hv
 have hl:=h.len
 have e:s.tl[v.toNat]? = some (s.tl[v.toNat]'(by omega)):=lG (by omega)
 have e2:s.tl.getD v.toNat 0=s.tl[v.toNat]'(by omega):=by rw[List.getD_eq_getElem?_getD,e];rfl
 rw[e2]
 rcases h.idem _ _ e with ⟨_,c⟩ | ⟨c1,c2,c3⟩
 ·rw[show((v.toNat:Nat):Int)=v by omega,a3] at c;cases c
 ·exact⟨c1,by omega,c3⟩
theorem axF {E:awF} {l:List aT} {j:Nat} {s:awL} (h:awY E l j s) (ha:awZ l) {x:aT} (hx:l[j]? = some x):awY E l (j+1) (awO E s x):=by
 have hl:=h.len
 have hi:=h.lin
 have hp:=axH h ha hx
 have hop:l6 l (j:Int)=x.op:=by unfold l6;rw[show(j:Int).toNat=j from rfl,hx];rfl
 have hw:=axV E s.ins (aw5 s x) s.tl.length
 unfold awO
 generalize hr:awP E s.ins (aw5 s x) s.tl.length=r at hw ⊢
 obtain⟨y,u⟩:=r
 dsimp only
 have hu:(u = -1∧dZ (l6 l (j:Int))=false)∨(0≤u∧u<j∧s.tl[u.toNat]? = some u)∨u=j:=by
  rw[hop]
  cases hw with
  | const k ht=>exact .inr (.inr (by omega))
  | stands v ht hv=>
   refine .inr (.inl ?_)
   rcases hv with hv | ⟨o,ho,hv⟩
   ·exact hp _ hv
   ·obtain⟨b1,b2,b3⟩:=hp o ho
    have e:s.ins[o.toNat]? = some (awE s.ins o):=by
     unfold awE
     rw[lG (show o.toNat<s.ins.length by omega)];rfl
    obtain⟨c1,c2,c3⟩:=h.opnd _ _ e _ hv
    exact⟨c1,by omega,c3⟩
  | gone ht=>exact .inl ⟨rfl,ht⟩
  | stays hs=>exact .inr (.inr (by omega))
 have hy:axJ s.tl j y:=by
  cases hw with
  | const k ht=>intro o ho;rw[aw8] at ho;simp at ho
  | stands v ht hv=>exact hp
  | gone ht=>exact hp
  | stays hs=>exact hp
 have hyl:u=j→Left E s.ins y:=fun e=>by
  cases hw with
  | const k ht=>exact aw4 E _ k
  | stands v ht hv=>
   exfalso
   rcases hu with ⟨c,_⟩ | ⟨_,c,_⟩ | c
   ·omega
   ·omega
   ·rcases hv with hv | ⟨o,ho,hv⟩
    ·have:=hp _ hv;omega
    ·obtain⟨b1,b2,b3⟩:=hp o ho
     have e:s.ins[o.toNat]? = some (awE s.ins o):=by
      unfold awE
      rw[lG (show o.toNat<s.ins.length by omega)];rfl
     have:=h.opnd _ _ e _ hv
     omega
  | gone ht=>omega
  | stays hs=>exact hs
 clear hw hr
 have old:∀ {v:Nat} {b:Int},v<j→((s.tl++[u])[v]? = some b↔s.tl[v]? = some b):=fun hv=>by
  rw[List.getElem?_append_left (by omega)]
 have oki:∀ {i:Nat} {z:aT},axJ s.tl i z→i≤j→axJ (s.tl++[u]) i z:=fun hz hij o ho=>by
  obtain⟨c1,c2,c3⟩:=hz o ho
  exact⟨c1,c2,(old (by omega)).2 c3⟩
 have mem:∀ {α : Type} (L:List α) (a b : α) (i:Nat),L.length=j→(L++[a])[i]? = some b→(i<j∧L[i]? = some b)∨(i=j∧b=a):=fun L a b i hL e=>by
  rcases Nat.lt_or_ge i j with c | c
  ·rw[List.getElem?_append_left (by omega)] at e;exact .inl ⟨c,e⟩
  ·have:=(lE e).1
   simp only[List.length_append,List.length_cons,List.length_nil] at this
   obtain rfl:i=j:=by omega
   rw[List.getElem?_append_right (by omega),hL,Nat.sub_self] at e
   exact .inr ⟨rfl,by simpa using e.symm⟩
 refine⟨by simp[hl],by simp[hi],fun v b e=>?_,fun i z e=>?_,fun i z e e2=>?_⟩
 ·rcases mem _ _ _ _ hl e with ⟨c,e⟩ | ⟨rfl,rfl⟩
  ·rcases h.idem v b e with c1 | ⟨c1,c2,c3⟩
   ·exact .inl c1
   ·exact .inr ⟨c1,c2,(old (by omega)).2 c3⟩
  ·rcases hu with c1 | ⟨c1,c2,c3⟩ | c1
   ·exact .inl c1
   ·exact .inr ⟨c1,by omega,(old (by omega)).2 c3⟩
   ·refine .inr ⟨by omega,by omega,?_⟩
    rw[c1,show(v:Int).toNat=v from rfl]
    rw[List.getElem?_append_right (by omega),hl,Nat.sub_self];rfl
 ·rcases mem _ _ _ _ hi e with ⟨c,e⟩ | ⟨rfl,rfl⟩
  ·exact oki (h.opnd i z e) (by omega)
  ·exact oki hy (by omega)
 ·rcases mem _ _ _ _ hi e with ⟨c,e⟩ | ⟨rfl,rfl⟩
  ·refine(awR fun o ho=>?_).2 (h.left i z e ((old c).1 e2))
   have:=h.opnd i z e o ho
   exact⟨this.1,by omega⟩
  ·rcases mem _ _ _ _ hl e2 with ⟨c,_⟩ | ⟨_,e3⟩
   ·omega
   ·refine(awR fun o ho=>?_).2 (hyl (by omega))
    have:=hy o ho
    exact⟨this.1,by omega⟩
theorem axE {E:awF} {l:List aT} {j:Nat} {x:aT} (hx:l[j]? = some x) (s:awL):awG E (l.take (j+1)) s=awO E (awG E (l.take j) s) x:=by
 obtain⟨h1,h2⟩:=lE hx
 unfold awG
 rw[List.take_succ_eq_append_getElem h1,h2,List.foldl_append];rfl
theorem axC (E:awF) {l:List aT} (ha:awZ l):∀j,j≤l.length→awY E l j (awG E (l.take j) ⟨[],[]⟩)
 | 0,_=>by
  rw[List.take_zero]
  exact⟨rfl,rfl,fun v u e=>by simp[awG] at e,fun i x e=>by simp[awG] at e,fun i x e=>by simp[awG] at e⟩
 | j+1,h=>by
  have hx:l[j]? = some (l[j]'(by omega)):=lG (by omega)
  rw[axE hx]
  exact axF (axC E ha j (by omega)) ha hx
theorem ayE {aF:Val→Bool} {ce:Int} {fns:List FnM} {t:aH} (h:cQ aF ce fns t=0):awZ t.ins:=fun k x hx v hv=>by
 have:=lK h hx v hv
 exact⟨this.1,this.2.1,this.2.2.2⟩
end
section
open Go.RowKit Go.IntWalk
structure axT (Q:Val→Prop) (B:Int→Val→Val→Val×Int) (U:Int→Val→Val×Int):Prop where
 left:∀v,Q v→v.kind=2→∀n,n=3∨n=5→B n (awM (axA n)) v=(v,-1)
 right:∀v,Q v→v.kind=2→∀n,n=3∨n=4∨n=5∨n=6→B n v (awM (axA n))=(v,-1)
 zero:∀v,Q v→v.kind=2→B 5 (awM 0) v=(awM 0,-1)∧B 5 v (awM 0)=(awM 0,-1)
 eq:∀v,Q v→v.kind≠3→B 8 v v=(axD true,-1)
 sub:∀v,Q v→v.kind=2→B 4 v v=(awM 0,-1)
 ord:∀v,Q v→v.kind=2→∀n,n=9∨n=10→B n v v=(axD (n == 10),-1)
 not_:∀v,Q v→v.kind=1→(U 11 v).2<0∧U 11 (U 11 v).1=(v,-1)
theorem axL {v:Val} (h:ak5 v) (k:v.kind=2) : -2147483648≤v.n∧v.n≤2147483647:=by
 unfold ak5 aF at h
 rw[if_neg (by omega),if_neg (by omega),if_pos k] at h
 simpa using h
theorem axM {n:Int} (h : -2147483648≤n∧n≤2147483647):mR (wrap64 n)=(⟨2,n⟩,-1):=by
 have e:wrap64 n=n:=by unfold wrap64;omega
 unfold mR aL
 rw[e]
 simp[h.1,h.2]
theorem axK {n:Int} {u v:Val} (hu:ak5 u) (hv:ak5 v) (ku:u.kind=2) (kv:v.kind=2) (h8:n≠8):jV n u v=pR n u.n v.n:=by
 unfold jV
 rw[show dQ u=u from if_pos hu,show dQ v=v from if_pos hv,if_neg (by omega),if_neg h8,if_pos ⟨ku,kv⟩]
theorem fol_ok:axT ak5 jV qY:=by
 have z:ak5 (awM 0):=show aF (awM 0)=true by decide
 have o:ak5 (awM 1):=show aF (awM 1)=true by decide
 have eta:∀ {v:Val},v.kind=2→(⟨2,v.n⟩:Val)=v:=fun {v} h=>by cases v;dsimp only at h;rw[h]
 have ok:∀ {v:Val} {n:Int},ak5 v→v.kind=2→n=v.n→mR (wrap64 n)=(v,-1):=fun h k e=>by
  rw[e,axM (axL h k),eta k]
 have w0:mR (wrap64 0)=(awM 0,-1):=axM (by omega)
 refine⟨fun v hv k n hn=>?_,fun v hv k n hn=>?_,fun v hv k=>⟨?_,?_⟩,fun v hv k=>?_,fun v hv k=>?_,fun v hv k n hn=>?_,fun v hv k=>?_⟩
 ·rcases hn with rfl | rfl
  ·rw[show awM (axA 3)=awM 0 from rfl,axK z hv rfl k (by decide)]
   exact ok hv k (by show 0+v.n=_;omega)
  ·rw[show awM (axA 5)=awM 1 from rfl,axK o hv rfl k (by decide)]
   exact ok hv k (by show 1*v.n=_;omega)
 ·rcases hn with rfl | rfl | rfl | rfl
  ·rw[show awM (axA 3)=awM 0 from rfl,axK hv z k rfl (by decide)]
   exact ok hv k (by show v.n+0=_;omega)
  ·rw[show awM (axA 4)=awM 0 from rfl,axK hv z k rfl (by decide)]
   exact ok hv k (by show v.n - 0=_;omega)
  ·rw[show awM (axA 5)=awM 1 from rfl,axK hv o k rfl (by decide)]
   exact ok hv k (by show v.n*1=_;omega)
  ·rw[show awM (axA 6)=awM 1 from rfl,axK hv o k rfl (by decide)]
   exact ok hv k (by show v.n.tdiv 1=_;exact Int.tdiv_one _)
 ·rw[axK z hv rfl k (by decide)]
  show mR (wrap64 (0*v.n))=_
  rw[Int.zero_mul];exact w0
 ·rw[axK hv z k rfl (by decide)]
  show mR (wrap64 (v.n*0))=_
  rw[Int.mul_zero];exact w0
 ·unfold jV
  rw[show dQ v=v from if_pos hv,if_neg (by omega),if_pos rfl]
  simp[mS,axD]
 ·rw[axK hv hv k k (by decide)]
  show mR (wrap64 (v.n - v.n))=_
  rw[Int.sub_self];exact w0
 ·rcases hn with rfl | rfl
  ·rw[axK hv hv k k (by decide)]
   show(mS (decide (v.n<v.n)),(-1:Int))=_
   rw[decide_eq_false (by omega)];rfl
  ·rw[axK hv hv k k (by decide)]
   show(mS (decide (v.n≤v.n)),(-1:Int))=_
   rw[decide_eq_true (by omega)];rfl
 ·have hn:v=⟨1,0⟩∨v=⟨1,1⟩:=by
   unfold ak5 aF at hv
   rw[if_neg (by omega),if_pos k] at hv
   simp only[Bool.and_eq_true,decide_eq_true_eq] at hv
   obtain⟨a,n⟩:=v
   dsimp only at k hv
   have:n=0∨n=1:=by omega
   rcases this with rfl | rfl <;> rw[k] <;> simp
  rcases hn with rfl | rfl <;> exact⟨by decide,by decide⟩
end
section
set_option maxHeartbeats 1000000
section
variable {E:iH} {self:Val} {shapes:List aO} {w:aG} {i:Nat}
theorem doI_put {F:Int→Int} {x:aT} (h:∀v∈bU x,bL w (F v)=bL w v):doI E self shapes w i (iA F x)=doI E self shapes w i x:=by
 have A:bL w (iA F x).a=bL w x.a:=by
  show bL w (if 0<(bP x.op).asks then F x.a else x.a)=_
  split
  ·exact h _ (nL (k:=0) rfl ‹_›)
  ·rfl
 have B:bL w (iA F x).b=bL w x.b:=by
  show bL w (if 1<(bP x.op).asks then F x.b else x.b)=_
  split
  ·exact h _ (nL (k:=1) rfl ‹_›)
  ·rfl
 have C:bL w (iA F x).c=bL w x.c:=by
  show bL w (if 2<(bP x.op).asks then F x.c else x.c)=_
  split
  ·exact h _ (nL (k:=2) rfl ‹_›)
  ·rfl
 have D:dG w (iA F x).a=dG w x.a:=by unfold dG;rw[A]
 have Bb:x.op=9∨x.op=19→(iA F x).b=x.b:=fun c=>by
  show(if 1<(bP x.op).asks then F x.b else x.b)=x.b
  rcases c with c | c <;> rw[c] <;> rfl
 have G:x.op=4∨x.op=5∨x.op=6∨x.op=9→jF E w (iA F x)=jF E w x:=fun c=>by
  unfold jF
  rw[show(iA F x).op=x.op from rfl,show(iA F x).n=x.n from rfl,show(iA F x).k=x.k from rfl,A,D]
  by_cases c9:x.op=9
  ·rw[Bb (.inl c9)]
  ·rcases c with c | c | c | c
   ·rw[if_pos c,if_pos c]
   ·rw[if_neg (by omega),if_pos c,if_neg (by omega),if_pos c]
   ·rw[if_neg (by omega),if_neg (by omega),if_pos c,if_neg (by omega),if_neg (by omega),if_pos c]
   ·exact absurd c c9
 unfold doI jK lH nE j6
 rw[show(iA F x).op=x.op from rfl,show(iA F x).n=x.n from rfl,show(iA F x).k=x.k from rfl,show(iA F x).exit=x.exit from rfl,A,B,C,D]
 by_cases c:x.op=4∨x.op=5∨x.op=6∨x.op=9
 ·rw[G c]
  by_cases c19:x.op=19
  ·omega
  ·rw[if_pos c,if_pos c]
 ·rw[if_neg c,if_neg c]
  by_cases c19:x.op=19
  ·rw[Bb (.inr c19)]
  ·rw[if_neg c19,if_neg c19]
end
theorem axP (F:awF):∀(l:List aT) (s:awL),∃a b,awG F l s=⟨s.ins++a,s.tl++b⟩∧a.length=l.length∧b.length=l.length
 | [],s=>⟨[],[],by simp[awG],rfl,rfl⟩
 | x::l,s=>by
  obtain⟨a,b,e,h1,h2⟩:=axP F l (awO F s x)
  exact⟨_::a,_::b,by show awG F l (awO F s x)=_;rw[e];unfold awO;simp;exact⟨rfl,rfl⟩,by simp[h1],by simp[h2]⟩
theorem axU (F:awF) {l:List aT} {i:Nat} {x:aT} (hx:l[i]? = some x) {s p:awL} (hs:s=awG F l ⟨[],[]⟩) (hp:p=awG F (l.take i) ⟨[],[]⟩) :
  p.ins.length=i∧p.tl.length=i∧(∀v:Nat,v<i→s.ins[v]? = p.ins[v]?∧s.tl[v]? = p.tl[v]?)∧s.ins[i]? = some (awP F p.ins (aw5 p x) i).1∧s.tl[i]? = some (awP F p.ins (aw5 p x) i).2:=by
 obtain⟨h1,h2⟩:=lE hx
 obtain⟨a,b,e,la,lb⟩:=axP F (l.take i) ⟨[],[]⟩
 rw[←hp] at e
 have lp:p.ins.length=i∧p.tl.length=i:=by rw[e];simp[la,lb];omega
 have es:s=awG F (l.drop (i+1)) (awO F p x):=by
  rw[hs,hp]
  conv=>lhs;rw[←List.take_append_drop i l]
  unfold awG
  rw[List.foldl_append,List.drop_eq_getElem_cons h1,h2];rfl
 obtain⟨c,d,e2,-⟩:=axP F (l.drop (i+1)) (awO F p x)
 rw[←es] at e2
 unfold awO at e2
 rw[lp.2] at e2
 dsimp only at e2
 refine⟨lp.1,lp.2,fun v hv=>⟨?_,?_⟩,?_,?_⟩
 ·rw[e2];show((p.ins++_)++c)[v]? = _
  rw[List.append_assoc,List.getElem?_append_left (by omega)]
 ·rw[e2];show((p.tl++_)++d)[v]? = _
  rw[List.append_assoc,List.getElem?_append_left (by omega)]
 ·rw[e2];show((p.ins++_)++c)[i]? = _
  rw[List.append_assoc,List.getElem?_append_right (by omega),lp.1,Nat.sub_self];rfl
 ·rw[e2];show((p.tl++_)++d)[i]? = _
  rw[List.append_assoc,List.getElem?_append_right (by omega),lp.2,Nat.sub_self];rfl
inductive axR (w:aG) (i:Nat) (r:aG×Int) (y:aT):aT×Int→Prop
 | const (k:Val):r=(setV w i k,0)→axR w i r y (awH k,i)
 | stands (v:Int):0≤v→r=(setV w i (bL w v),0)→axR w i r y (y,v)
 | gone:r=(w,0)→axR w i r y (y,-1)
 | stays:axR w i r y (y,i)
section
variable {Q:Val→Prop} {E:iH} {F:awF} {self:Val} {shapes:List aO} {w:aG} {i:Nat} {done:List aT} {y:aT}
theorem axO {r:Val×Int} {e:Int} (h:r.2<0):gX w i e r=(setV w i r.1,0):=by
 unfold gX;rw[if_pos h]
theorem axS (ok:axT Q E.B E.U) (hB:F.B=E.B) (hU:F.U=E.U) (hT:∀v,F.T v=E.T v) (hq:∀v:Int,Q (bL w v))
  (cons:∀v∈bU y,(awE done v).op=2→bL w v=(awE done v).k) (kind:∀v∈bU y,F.K v i≠-1→(bL w v).kind=F.K v i)
  (nn:∀v∈bU y,0≤v):y.op=7→axR w i (doI E self shapes w i y) y (ayF F done y i):=by
 intro h7
 have ta:y.a∈bU y:=awI (by rw[h7];decide)
 have tb:y.b∈bU y:=awU (by rw[h7];decide)
 have e:doI E self shapes w i y=gX w i y.exit (E.B y.n (bL w y.a) (bL w y.b)):=by
  unfold doI;rw[if_neg (by omega),if_neg (by omega),if_neg (by omega),if_neg (by omega),if_pos h7]
 have is_:∀ {v:Int} {k:Val},v∈bU y→isM done v k=true→bL w v=k:=fun hv h=>by
  unfold isM awN at h
  simp only[Bool.and_eq_true,beq_iff_eq,decide_eq_true_eq] at h
  rw[cons _ hv h.1,h.2]
 have wh:∀ {v:Int},v∈bU y→aw0 F v i=true→(bL w v).kind=2:=fun hv h=>by
  have h:=beq_iff_eq.1 h
  rw[kind _ hv (by omega),h]
 rw[e]
 unfold ayF
 cases hr:awJ F done y with
 | some k=>
  refine .const k ?_
  unfold awJ awN at hr
  split at hr
  ·cases hr
  rename_i c1
  (try rw[if_pos h7] at hr)
  split at hr
  ·cases hr
  rename_i c2
  have v1:=cons _ ta (by simpa using c1)
  have v2:=cons _ tb (by simpa using c2)
  split at hr
  ·rename_i c3
   injection hr with hr
   rw[hB] at c3 hr
   rw[v1,v2,axO c3,hr]
  ·cases hr
 | none=>
  dsimp only
  split
  ·rename_i hv
   refine .stands _ hv ?_
   unfold awT at hv ⊢
   split
   ·rename_i c
    simp only[Bool.and_eq_true] at c
    rw[is_ ta c.2.1,ok.left _ (hq _) (wh tb c.2.2) _ c.1]
    exact axO (show(-1:Int)<0 by decide)
   ·rename_i c
    rw[if_neg c] at hv
    split
    ·rename_i c
     simp only[Bool.and_eq_true] at c
     rw[is_ tb c.2.1,ok.right _ (hq _) (wh ta c.2.2) _ c.1]
     exact axO (show(-1:Int)<0 by decide)
    ·rename_i c2
     rw[if_neg c2] at hv;omega
  ·split
   ·rename_i c
    simp only[Bool.or_eq_true,Bool.and_eq_true] at c
    refine .const _ ?_
    rw[c.1]
    rcases c.2 with c | c
    ·rw[is_ ta c.1,(ok.zero _ (hq _) (wh tb c.2)).1]
     exact axO (show(-1:Int)<0 by decide)
    ·rw[is_ tb c.1,(ok.zero _ (hq _) (wh ta c.2)).2]
     exact axO (show(-1:Int)<0 by decide)
   ·split
    ·rename_i hab
     cases hs:axQ F y i with
     | none=>exact .stays
     | some k=>
      refine .const k ?_
      rw[←hab]
      unfold axQ at hs
      split at hs
      ·rename_i c
       injection hs with hs
       rw[c.1,ok.eq _ (hq _) (by rw[kind _ ta (by omega)];exact c.2.2),←hs]
       exact axO (show(-1:Int)<0 by decide)
      split at hs
      ·cases hs
      rename_i k2
      have hk:(bL w y.a).kind=2:=by rw[kind _ ta (by omega)];omega
      split at hs
      ·rename_i c
       injection hs with hs
       rw[c,ok.sub _ (hq _) hk,←hs]
       exact axO (show(-1:Int)<0 by decide)
      split at hs
      ·rename_i c
       injection hs with hs
       rw[ok.ord _ (hq _) hk _ c,←hs]
       exact axO (show(-1:Int)<0 by decide)
      ·cases hs
    ·exact .stays
theorem axW (ok:axT Q E.B E.U) (hB:F.B=E.B) (hU:F.U=E.U) (hT:∀v,F.T v=E.T v) (hq:∀v:Int,Q (bL w v))
  (cons:∀v∈bU y,(awE done v).op=2→bL w v=(awE done v).k) (kind:∀v∈bU y,F.K v i≠-1→(bL w v).kind=F.K v i) (nn:∀v∈bU y,0≤v)
  (un:∀v∈bU y,(awE done v).op=8→bL w v=(E.U (awE done v).n (bL w (awE done v).a)).1∧0≤(awE done v).a∧(F.K (awE done v).a i≠-1→(bL w (awE done v).a).kind=F.K (awE done v).a i)) :
  axR w i (doI E self shapes w i y) y (awP F done y i):=by
 unfold awP
 split
 ·exact axS ok hB hU hT hq cons kind nn ‹_›
 split
 ·rename_i h8
  have ta:y.a∈bU y:=awI (by rw[h8];decide)
  have e:doI E self shapes w i y=gX w i y.exit (E.U y.n (bL w y.a)):=by
   unfold doI;rw[if_neg (by omega),if_neg (by omega),if_neg (by omega),if_neg (by omega),if_neg (by omega),if_pos h8]
  rw[e]
  cases hr:awJ F done y with
  | some k=>
   refine .const k ?_
   unfold awJ awN at hr
   split at hr
   ·cases hr
   rename_i c1
   (try rw[if_neg (by omega)] at hr)
   split at hr
   ·rename_i c3
    injection hr with hr
    rw[hU] at c3 hr
    rw[cons _ ta (by simpa using c1),axO c3,hr]
   ·cases hr
  | none=>
   dsimp only
   split
   ·rename_i c
    obtain⟨u1,u2,u3⟩:=un _ ta c.2.1
    refine .stands _ u2 ?_
    rw[c.1,u1,c.2.2.1,(ok.not_ _ (hq _) (by rw[u3 (by omega)];exact c.2.2.2)).2]
    exact axO (show(-1:Int)<0 by decide)
   ·exact .stays
 split
 ·rename_i h
  have ta:y.a∈bU y:=awI (by rcases h with h | h | h <;> rw[h] <;> decide)
  split
  ·rename_i c
   simp only[Bool.and_eq_true] at c
   have v1:=cons _ ta (by simpa [awN] using c.1)
   refine .gone ?_
   have e:doI E self shapes w i y=(w,isW (jF E w y) 1):=by
    unfold doI;rw[if_neg (by omega),if_neg (by omega),if_neg (by omega),if_pos (by omega)]
   have g:jF E w y=true:=by
    have hh:=c.2
    unfold aw9 at hh
    unfold jF
    rw[v1]
    rcases h with h | h | h
    ·rw[if_pos h] at hh ⊢;exact hh
    ·rw[if_neg (by omega),if_pos h] at hh ⊢;rw[←hT];exact hh
    ·rw[if_neg (by omega),if_neg (by omega)] at hh
     rw[if_neg (by omega),if_neg (by omega),if_pos h];exact hh
   rw[e,g];rfl
  ·exact .stays
 ·exact .stays
end
structure ax1 (Q:Val→Prop) (E:iH) (F:awF) (t:aH) (lo i:Nat) (w:aG):Prop where
 tame:ak6 Q w
 len:w.vals.length=t.ins.length
 fact:∀v<i,alN E t w v
 sent:∀v:Nat,v<i→∀u:Int,(awG F t.ins ⟨[],[]⟩).tl[v]? = some u→0≤u→bL w u=bL w v
 cons:∀v:Nat,v<i→(bT (aw6 F t) v).op=2→bL w v=(bT (aw6 F t) v).k
 un:∀v:Nat,v<i→(bT (aw6 F t) v).op=8→bL w v=(E.U (bT (aw6 F t) v).n (bL w (bT (aw6 F t) v).a)).1
structure FolE (Q:Val→Prop) (E:iH) (F:awF) (t:aH):Prop where
 ok:axT Q E.B E.U
 ops:amS E
 hB:F.B=E.B
 hU:F.U=E.U
 hT:∀v,F.T v=E.T v
 hK:∀v i:Int,F.K v i=kindM t.ins v i
 q0:Q ⟨0,0⟩
 ask:acO t
 num:amX t
 asks:awZ t.ins
section
variable {Q:Val→Prop} {E:iH} {F:awF} {t:aH} {self:Val} {shapes:List aO} {w:aG} {lo i:Nat}
theorem axY (fe:FolE Q E F t) (h:ax1 Q E F t lo i w) (hi:i<t.ins.length) :
  ∃(p:awL) (y:aT),awY F t.ins i p∧y=aw5 p (bT t i)∧axJ p.tl i y∧doI E self shapes w i y=doW E t self shapes w i∧bT (aw6 F t) i=(awP F p.ins y i).1∧(awG F t.ins ⟨[],[]⟩).tl[i]? = some (awP F p.ins y i).2∧
   axR w i (doW E t self shapes w i) y (awP F p.ins y i)∧awV F p.ins y i (awP F p.ins y i)∧(∀v:Nat,v<i→(awG F t.ins ⟨[],[]⟩).tl[v]? = p.tl[v]?)∧∀v:Nat,v<i→p.ins[v]? = some (bT (aw6 F t) v):=by
 obtain⟨p,hp⟩:∃p,p=awG F (t.ins.take i) ⟨[],[]⟩:=⟨_,rfl⟩
 have hx:=vB hi
 obtain⟨l1,l2,l3,l4,l5⟩:=axU F hx rfl hp
 have hI:awY F t.ins i p:=hp ▸ axC F fe.asks i (by omega)
 have hop:=axH hI fe.asks hx
 have opn:∀ {v:Nat},v<i→awE p.ins v=bT (aw6 F t) v:=fun {v} hv=>by
  unfold awE bT
  show _=((awG F t.ins ⟨[],[]⟩).ins[(v:Int).toNat]?).getD _
  rw[show(v:Int).toNat=v from rfl,(l3 v hv).1]
 have hd:doI E self shapes w i (aw5 p (bT t i))=doW E t self shapes w i:=doI_put fun v hv=>by
  obtain⟨a1,a2,a3⟩:=fe.asks i _ hx v hv
  obtain⟨n,rfl⟩:=Int.eq_ofNat_of_zero_le a1
  have hn:n<i:=by omega
  have e:p.tl[n]? = some (p.tl[n]'(by omega)):=lG (by omega)
  rw[show(n:Int).toNat=n from rfl,List.getD_eq_getElem?_getD,e,Option.getD_some]
  refine h.sent n hn _ ((l3 n hn).2.trans e) ?_
  rcases hI.idem _ _ e with ⟨_,c⟩ | ⟨c,-⟩
  ·rw[a3] at c;cases c
  ·exact c
 refine⟨p,_,hI,rfl,hop,hd,?_,l5,?_,axV F p.ins _ i,fun v hv=>(l3 v hv).2,fun v hv=>?_⟩
 ·unfold bT
  show((awG F t.ins ⟨[],[]⟩).ins[(i:Int).toNat]?).getD _=_
  rw[show(i:Int).toNat=i from rfl,l4];rfl
 ·rw[←hd]
  have kd:∀v:Int,F.K v i≠-1→(bL w v).kind=F.K v i:=fun v hv=>by
   rw[fe.hK] at hv ⊢
   exact am0 fe.ops fe.ask fe.num (m:=i) h.fact (v.toNat+1) v i (by omega) (Int.le_refl _) hv
  have nat:∀v∈bU (aw5 p (bT t i)),∃n:Nat,v=n∧n<i:=fun v hv=>by
   obtain⟨a1,a2,-⟩:=hop v hv
   exact⟨v.toNat,by omega,by omega⟩
  refine axW fe.ok fe.hB fe.hU fe.hT (fun v=>h.tame.val fe.q0 v) (fun v hv c=>?_) (fun v _ c=>kd v c) (fun v hv=>(hop v hv).1) (fun v hv c=>?_)
  ·obtain⟨n,rfl,hn⟩:=nat v hv
   rw[opn hn] at c ⊢
   exact h.cons n hn c
  ·obtain⟨n,rfl,hn⟩:=nat v hv
   have hz:p.ins[n]? = some (awE p.ins n):=by
    unfold awE
    rw[show(n:Int).toNat=n from rfl,lG (by omega)];rfl
   refine⟨?_,(hI.opnd n _ hz _ (awI (by rw[c];decide))).1,fun k=>kd _ k⟩
   rw[opn hn] at c ⊢
   exact h.un n hn c
 ·have e:p.ins[v]? = some (p.ins[v]'(by omega)):=lG (by omega)
  rw[e]
  unfold bT
  show _=some (((awG F t.ins ⟨[],[]⟩).ins[(v:Int).toNat]?).getD _)
  rw[show(v:Int).toNat=v from rfl,(l3 v hv).1,e];rfl
theorem axX {d:aG×Int} {y:aT} {done:List aT} {tl:List Int} {r:aT×Int} (go:axR w i d y r) (ow:awV F done y i r) (hop:axJ tl i y) (opn:∀(n:Nat) z,done[n]? = some z→axJ tl n z) (hl:done.length=i) :
  (r.2=i∧(r.1=y∨∃k,r.1=awH k∧d=(setV w i k,0)∧dZ y.op=true))∨(r.1=y∧∃v:Nat,v<i∧r.2=v∧d=(setV w i (bL w v),0))∨(r.1=y∧r.2 = -1∧d=(w,0)):=by
 have oi:(∃k,r=(awH k,(i:Int))∧dZ y.op=true)∨(∃v,r=(y,v)∧(v∈bU y∨∃u∈bU y,v∈bU (awE done u)))∨r=(y,-1)∨r=(y,(i:Int)):=by
  cases ow with
  | const k h=>exact .inl ⟨k,rfl,h⟩
  | stands v h h2=>exact .inr (.inl ⟨v,rfl,h2⟩)
  | gone h=>exact .inr (.inr (.inl rfl))
  | stays h=>exact .inr (.inr (.inr rfl))
 have gi:(∃k,r=(awH k,(i:Int))∧d=(setV w i k,0))∨(∃v,r=(y,v)∧0≤v∧d=(setV w i (bL w v),0))∨(r=(y,-1)∧d=(w,0))∨r=(y,(i:Int)):=by
  cases go with
  | const k h=>exact .inl ⟨k,rfl,h⟩
  | stands v h h2=>exact .inr (.inl ⟨v,rfl,h,h2⟩)
  | gone h=>exact .inr (.inr (.inl ⟨rfl,h⟩))
  | stays=>exact .inr (.inr (.inr rfl))
 by_cases hy:r.1=y
 ·by_cases h2:r.2=i
  ·exact .inl ⟨h2,.inl hy⟩
  rcases gi with ⟨k,e,-⟩ | ⟨v,e,h0,hd⟩ | ⟨e,hd⟩ | e
  ·exact absurd (by rw[e]) h2
  ·refine .inr (.inl ⟨hy,v.toNat,?_,by rw[e];show v=_;omega,by rw[hd,show((v.toNat:Nat):Int)=v by omega]⟩)
   rcases oi with ⟨k,e',-⟩ | ⟨v',e',hm⟩ | e' | e'
   ·exact absurd (by rw[e']) h2
   ·obtain rfl:v=v':=by have:=e.symm.trans e';injection this
    rcases hm with hm | ⟨u,hu,hm⟩
    ·have:=(hop v hm).2.1;omega
    ·obtain⟨a1,a2,-⟩:=hop u hu
     have hz:done[u.toNat]? = some (awE done u):=by
      unfold awE
      rw[lG (by omega)];rfl
     have:=(opn _ _ hz v hm).2.1;omega
   ·have:=e.symm.trans e';injection this with _ q;omega
   ·exact absurd (by rw[e']) h2
  ·exact .inr (.inr ⟨hy,by rw[e],hd⟩)
  ·exact absurd (by rw[e]) h2
 ·rcases gi with ⟨k,e,hd⟩ | ⟨v,e,-⟩ | ⟨e,-⟩ | e
  ·refine .inl ⟨by rw[e],.inr ⟨k,by rw[e],hd,?_⟩⟩
   rcases oi with ⟨_,-,h⟩ | ⟨v',e',-⟩ | e' | e'
   ·exact h
   ·exact absurd (by rw[e']) hy
   ·exact absurd (by rw[e']) hy
   ·exact absurd (by rw[e']) hy
  ·exact absurd (by rw[e]) hy
  ·exact absurd (by rw[e]) hy
  ·exact absurd (by rw[e]) hy
theorem ax2 (fe:FolE Q E F t) (qo:QOk Q E) (qs:Q self) (kq:KQ Q t) (h:ax1 Q E F t lo i w) (hi:i<t.ins.length) (h0:(doW E t self shapes w i).2=0):ax1 Q E F t lo (i+1) (doW E t self shapes w i).1:=by
 obtain⟨p,y,hI,hy,hop,hd,e1,e2,go,ow,pre,pin⟩:=axY (self:=self) (shapes:=shapes) fe h hi
 have hs:=xB w.cells E self shapes w i (bT t i)
 change iS w.cells i w (doW E t self shapes w i).1 at hs
 have ask:∀ {v:Nat},v<t.ins.length→∀o∈bU (bT t v),0≤o∧o<(v:Int):=fun hv o ho=>⟨(fe.ask _ _ (vB hv) o ho).1,(fe.ask _ _ (vB hv) o ho).2.1⟩
 have vals:∀v:Nat,v≠i→bL (doW E t self shapes w i).1 v=bL w v:=fun v hv=>ad9 (hs.vals v hv)
 have fi:alN E t (doW E t self shapes w i).1 i:=am7 h.len hi self shapes (ask hi) h0
 have gc:=axX go ow hop hI.opnd hI.lin
 have le:∀(v:Nat) u,v<i→(awG F t.ins ⟨[],[]⟩).tl[v]? = some u→0≤u→∃n:Nat,u=n∧n≤v:=fun v u hv hu h0=>by
  rw[pre v hv] at hu
  rcases hI.idem v u hu with ⟨c,-⟩ | ⟨c,c2,-⟩
  ·omega
  ·exact⟨u.toNat,by omega,by omega⟩
 refine⟨h.tame.do_ qo qs shapes i _ (kq i),hs.len.trans h.len,fun v hv=>?_,fun v hv u hu u0=>?_,fun v hv c=>?_,fun v hv c=>?_⟩
 ·by_cases e:v=i
  ·subst e;exact fi
  ·exact am6 (h.fact v (by omega)) (ask (by omega)) (fun u hu=>hs.vals u (by omega))
 ·by_cases e:v=i
  ·subst e
   have hu':=e2.symm.trans hu
   injection hu' with hu'
   rcases gc with ⟨c,-⟩ | ⟨-,n,hn,c,d⟩ | ⟨-,c,-⟩
   ·rw[←hu',c]
   ·rw[←hu',c,vals n (by omega),d]
    exact(pT (by rw[h.len];exact hi) _).symm
   ·omega
  ·obtain⟨n,rfl,hn⟩:=le v u (by omega) hu u0
   rw[vals n (by omega),vals v e]
   exact h.sent v (by omega) _ hu u0
 ·by_cases e:v=i
  ·subst e
   rw[e1] at c ⊢
   have fy:(awP F p.ins y v).1=y→bL (doW E t self shapes w v).1 v=(awP F p.ins y v).1.k:=fun q=>by
    rw[q] at c ⊢
    rw[hy] at c ⊢
    exact fi.const c
   rcases gc with ⟨-,q | ⟨k,q,d,-⟩⟩ | ⟨q,-⟩ | ⟨q,-⟩
   ·exact fy q
   ·rw[q,d];exact pT (by rw[h.len];exact hi) _
   ·exact fy q
   ·exact fy q
  ·rw[vals v e];exact h.cons v (by omega) c
 ·by_cases e:v=i
  ·subst e
   rw[e1] at c ⊢
   have fy:(awP F p.ins y v).1=y→bL (doW E t self shapes w v).1 v=(E.U (awP F p.ins y v).1.n (bL (doW E t self shapes w v).1 (awP F p.ins y v).1.a)).1:=fun q=>by
    rw[q] at c ⊢
    have c8:(bT t v).op=8:=by rw[hy] at c;exact c
    have ta:y.a∈bU y:=awI (by rw[c];decide)
    have tx:(bT t v).a∈bU (bT t v):=awI (by rw[c8];decide)
    obtain⟨a1,a2⟩:=ask hi _ tx
    obtain⟨n,hn⟩:=Int.eq_ofNat_of_zero_le a1
    obtain⟨b1,b2,b3⟩:=hop _ ta
    obtain⟨m,hm⟩:=Int.eq_ofNat_of_zero_le b1
    have ea:p.tl[n]? = some y.a:=by
     have:y.a=p.tl.getD (bT t v).a.toNat 0:=by
      rw[hy]
      show(if 0<(bP (bT t v).op).asks then _ else _)=_
      rw[if_pos (by rw[c8];decide)]
     rw[this,hn]
     show _=some (p.tl.getD n 0)
     rw[List.getD_eq_getElem?_getD,lG (show n<p.tl.length by have:=hI.len;omega)];rfl
    have se:=h.sent n (by omega) y.a ((pre n (by omega)).trans ea) b1
    have:=(fi.un c8).1
    rw[this,hm,vals m (by omega),←hm,se,hn,vals n (by omega)]
    rw[hy];rfl
   rcases gc with ⟨-,q | ⟨k,q,d,-⟩⟩ | ⟨q,-⟩ | ⟨q,-⟩
   ·exact fy q
   ·rw[q] at c;exact absurd c (show ¬(2:Int)=8 by decide)
   ·exact fy q
   ·exact fy q
  ·have hv':v<i:=by omega
   obtain⟨b1,b2,-⟩:=hI.opnd v _ (pin v hv') _ (awI (by rw[c];decide))
   obtain⟨m,hm⟩:=Int.eq_ofNat_of_zero_le b1
   rw[vals v e,h.un v hv' c,hm,vals m (by omega)]
theorem ax0 (w:aG) (x:bX):(g8 w x).1.vals=w.vals:=by
 have mk:∀(l:List dX) (w:aG),(eO w l).1.vals=w.vals:=by
  intro l
  induction l with
  | nil=>intro w;rfl
  | cons m l ih=>
   intro w
   have h1:(gF w m).1.vals=w.vals:=by
    unfold gF
    split
    ·rfl
    ·split <;> rfl
   unfold eO
   split
   ·exact h1
   ·rw[ih,h1]
 unfold g8
 split
 ·exact mk _ _
 ·show(gY _ _).vals=_
  rw[(nV x.sets _).2.2.2.1];exact mk _ _
theorem axZ (fe:FolE Q E F t) {n:Nat} (h:ax1 Q E F t lo n w) (hn:t.loop.toNat≤n) (hl:t.loop.toNat≤t.ins.length) {x:bX} (hx:amD x):ax1 Q E F t t.loop.toNat t.loop.toNat (g8 w x).1:=by
 have hv:(g8 w x).1.vals=w.vals:=ax0 w x
 have hw:∀v:Int,bL (g8 w x).1 v=bL w v:=fun v=>by unfold bL;rw[hv]
 refine⟨h.tame.end_ fe.q0 x hx,by rw[hv];exact h.len,fun v hv'=>?_,fun v hv' u hu u0=>?_,fun v hv' c=>?_,fun v hv' c=>?_⟩
 ·exact am6 (h.fact v (by omega)) (fun o ho=>⟨(fe.ask _ _ (vB (by omega)) o ho).1,(fe.ask _ _ (vB (by omega)) o ho).2.1⟩) (fun u _=>by rw[hv])
 ·rw[hw,hw];exact h.sent v (by omega) u hu u0
 ·rw[hw];exact h.cons v (by omega) c
 ·rw[hw,hw];exact h.un v (by omega) c
theorem ayA (F:awF) (t:aH) (i:Nat):dZ (bT (aw6 F t) i).op=dZ (bT t i).op:=by
 rcases Nat.lt_or_ge i t.ins.length with hi | hi
 ·obtain⟨l1,l2,l3,l4,l5⟩:=axU F (vB hi) rfl rfl
  have ow:=axV F (awG F (t.ins.take i) ⟨[],[]⟩).ins (aw5 (awG F (t.ins.take i) ⟨[],[]⟩) (bT t i)) i
  rw[show bT (aw6 F t) i=_ from aaN l4]
  generalize awP F (awG F (t.ins.take i) ⟨[],[]⟩).ins (aw5 (awG F (t.ins.take i) ⟨[],[]⟩) (bT t i)) i=r at ow ⊢
  cases ow with
  | const k h=>exact(show dZ (awH k).op=true from rfl).trans h.symm
  | stands v h h2=>rfl
  | gone h=>rfl
  | stays h=>rfl
 ·have ln:(awG F t.ins ⟨[],[]⟩).ins.length=t.ins.length:=by
   obtain⟨a,b,e,la,-⟩:=axP F t.ins ⟨[],[]⟩
   rw[e];simpa using la
  unfold bT
  show dZ (((awG F t.ins ⟨[],[]⟩).ins[(i:Int).toNat]?).getD _).op=dZ ((t.ins[(i:Int).toNat]?).getD _).op
  rw[show(i:Int).toNat=i from rfl,List.getElem?_eq_none (by omega),List.getElem?_eq_none (by omega)]
theorem ayQ (fe:FolE Q E F t) (qo:QOk Q E) (qs:Q self) (kq:KQ Q t) (sx:amD t.turn∧amD t.back) (hl:t.loop.toNat≤t.ins.length):xN E self shapes t (aw6 F t) (awG F t.ins ⟨[],[]⟩).tl (ax1 Q E F t) where
 len:=by
  obtain⟨a,b,e,la,-⟩:=axP F t.ins ⟨[],[]⟩
  show(awG F t.ins ⟨[],[]⟩).ins.length=_
  rw[e];simpa using la
 loop:=rfl
 turn:=rfl
 back:=rfl
 exits i e hi _ _ he:=by
  by_cases q:(bT (aw6 F t) i).exit=(bT t i).exit
  ·exact .inl ⟨he,q⟩
  refine .inr fun lo w h=>?_
  obtain⟨p,y,hI,hy,hop,hd,e1,e2,go,ow,pre,pin⟩:=axY (self:=self) (shapes:=shapes) fe h hi
  have no:(awP F p.ins y i).1≠y:=fun c=>q (by rw[e1,c,hy];rfl)
  rcases axX go ow hop hI.opnd hI.lin with ⟨-,c | ⟨k,-,d,-⟩⟩ | ⟨c,-⟩ | ⟨c,-⟩
  ·exact absurd c no
  ·rw[d];exact(by decide:(0:Int)≠1)
  ·exact absurd c no
  ·exact absurd c no
 tells:=ayA F t
 step lo i w hi _ h h0:=ax2 fe qo qs kq h hi h0
 turn_ _ w h _:=axZ fe h (Nat.le_refl _) hl sx.1
 back_ w h _:=axZ fe h hl hl sx.2
 kept lo i w hi h ht _:=by
  obtain⟨p,y,hI,hy,hop,hd,e1,e2,go,ow,pre,pin⟩:=axY (self:=self) (shapes:=shapes) fe h hi
  have e3:=e2.symm.trans ht
  injection e3 with e3
  have fy:(awP F p.ins y i).1=y→doW E (aw6 F t) self shapes w i=doW E t self shapes w i:=fun q=>by
   rw[←hd]
   unfold doW
   rw[e1,q]
  rcases axX go ow hop hI.opnd hI.lin with ⟨-,q | ⟨k,q,d,-⟩⟩ | ⟨q,-⟩ | ⟨q,-⟩
  ·exact fy q
  ·rw[d]
   unfold doW
   rw[e1,q];rfl
  ·exact fy q
  ·exact fy q
 skip lo i w hi hlo h ht _:=by
  obtain⟨p,y,hI,hy,hop,hd,e1,e2,go,ow,pre,pin⟩:=axY (self:=self) (shapes:=shapes) fe h hi
  rcases axX go ow hop hI.opnd hI.lin with ⟨c,-⟩ | ⟨-,n,hn,c,d⟩ | ⟨-,c,d⟩
  ·exact absurd (by rw[e2,c]) ht
  ·rw[d]
   refine⟨rfl,rfl,fun v hv=>?_,by simp[setV],fun m hm=>?_⟩
   ·rw[pS (by rw[h.len];exact hi) _ _ (by omega),if_neg (by omega)]
   ·rw[e2] at hm
    injection hm with hm
    rw[pT (by rw[h.len];exact hi),←hm,c]
  ·rw[d]
   refine⟨rfl,rfl,fun v hv=>rfl,rfl,fun m hm=>?_⟩
   rw[e2,c] at hm
   injection hm with hm
   omega
end
end
section
set_option maxHeartbeats 1000000
section
variable {F:awF} {t:aH} {done:List aT} {x:aT} {i:Int}
theorem ayP {P:Val→Prop} (b:∀n u v,P (F.B n u v).1) (u:∀n v,P (F.U n v).1) (z:P (awM 0)) (o:∀b,P (axD b)):(awP F done x i).1=x∨∃k,(awP F done x i).1=awH k∧P k:=by
 have rk:∀k,awJ F done x=some k→P k:=fun k h=>by
  unfold awJ at h
  split at h
  ·cases h
  split at h
  ·split at h
   ·cases h
   split at h
   ·injection h with h;rw[←h];exact b _ _ _
   ·cases h
  ·split at h
   ·injection h with h;rw[←h];exact u _ _
   ·cases h
 have sk:∀k,axQ F x i=some k→P k:=fun k h=>by
  unfold axQ at h
  split at h
  ·injection h with h;rw[←h];exact o _
  split at h
  ·cases h
  split at h
  ·injection h with h;rw[←h];exact z
  split at h
  ·injection h with h;rw[←h];exact o _
  ·cases h
 unfold awP
 split
 ·unfold ayF
  cases hr:awJ F done x with
  | some k=>exact .inr ⟨k,rfl,rk k hr⟩
  | none=>
   dsimp only
   split
   ·exact .inl rfl
   split
   ·exact .inr ⟨_,rfl,z⟩
   split
   ·cases hs:axQ F x i with
    | some k=>exact .inr ⟨k,rfl,sk k hs⟩
    | none=>exact .inl rfl
   ·exact .inl rfl
 split
 ·cases hr:awJ F done x with
  | some k=>exact .inr ⟨k,rfl,rk k hr⟩
  | none=>
   dsimp only
   split <;> exact .inl rfl
 split
 ·split <;> exact .inl rfl
 ·exact .inl rfl
theorem ax9 (h:x.op≠7∧x.op≠8∧x.op≠4∧x.op≠5∧x.op≠6):awP F done x i=(x,i):=by
 unfold awP
 rw[if_neg h.1,if_neg h.2.1,if_neg (by omega)]
theorem ayJ:(awP F done x i).1.op=18↔x.op=18:=by
 constructor
 ·intro h
  rcases ayP (P:=fun _=>True) (F:=F) (done:=done) (x:=x) (i:=i) (fun _ _ _=>trivial) (fun _ _=>trivial) trivial (fun _=>trivial) with e | ⟨k,e,-⟩
  ·rw[←e];exact h
  ·rw[e] at h;exact absurd h (show ¬(2:Int)=18 by decide)
 ·intro h
  rw[ax9 (by omega)];exact h
end
section
variable {F:awF} {t:aH}
theorem opE (t:aH) (i:Nat):l6 t.ins i=(bT t i).op:=by
 unfold l6 bT
 cases t.ins[(i:Int).toNat]? <;> rfl
theorem ax8:(aw6 F t).ins.length=t.ins.length∧(awG F t.ins ⟨[],[]⟩).tl.length=t.ins.length:=by
 obtain⟨a,b,e,la,lb⟩:=axP F t.ins ⟨[],[]⟩
 refine⟨?_,by rw[e];simpa using lb⟩
 show(awG F t.ins ⟨[],[]⟩).ins.length=_
 rw[e];simpa using la
theorem ayD (asks:awZ t.ins) {i:Nat} (hi:i<t.ins.length):∃p:awL,awY F t.ins i p∧axJ p.tl i (aw5 p (bT t i))∧(∀v:Nat,v<i→p.ins[v]? = some (bT (aw6 F t) v)∧(awG F t.ins ⟨[],[]⟩).tl[v]? = p.tl[v]?)∧
  bT (aw6 F t) i=(awP F p.ins (aw5 p (bT t i)) i).1∧(awG F t.ins ⟨[],[]⟩).tl[i]? = some (awP F p.ins (aw5 p (bT t i)) i).2:=by
 obtain⟨p,hp⟩:∃p,p=awG F (t.ins.take i) ⟨[],[]⟩:=⟨_,rfl⟩
 obtain⟨l1,l2,l3,l4,l5⟩:=axU F (vB hi) rfl hp
 have hI:awY F t.ins i p:=hp ▸ axC F asks i (by omega)
 refine⟨p,hI,axH hI asks (vB hi),fun v hv=>⟨?_,(l3 v hv).2⟩,aaN (t:=aw6 F t) l4,l5⟩
 rw[←(l3 v hv).1]
 exact vB (t:=aw6 F t) (by rw[ax8.1];omega)
theorem ayI (asks:awZ t.ins):∀i:Nat,i<t.ins.length→(∀o∈bU (bT (aw6 F t) i),dZ (l6 t.ins o)=true)∧∀n:Nat,n≠i→(awG F t.ins ⟨[],[]⟩).tl[i]? = some (n:Int)→dZ (l6 t.ins n)=true:=by
 intro i
 induction i using Nat.strongRecOn with
 | ind i ih=>
 intro hi
 obtain⟨p,hI,hop,pre,e1,e2⟩:=ayD (F:=F) asks hi
 have ty:∀o∈bU (aw5 p (bT t i)),dZ (l6 t.ins o)=true:=fun o ho=>by
  have h0:=(hop o ho).1
  obtain⟨v,hv,rfl⟩:=axN ho
  obtain⟨a1,a2,a3⟩:=asks i _ (vB hi) v hv
  obtain⟨n,rfl⟩:=Int.eq_ofNat_of_zero_le a1
  obtain⟨m,hm⟩:=Int.eq_ofNat_of_zero_le h0
  rw[hm]
  have hn:n<i:=by omega
  by_cases c:m=n
  ·rw[c];exact a3
  ·refine(ih n hn (by omega)).2 m c ?_
   rw[(pre n hn).2,←hm]
   show _=some (p.tl.getD n 0)
   rw[List.getD_eq_getElem?_getD,lG (show n<p.tl.length by have:=hI.len;omega)];rfl
 have ow:=axV F p.ins (aw5 p (bT t i)) i
 rw[e1,e2]
 generalize awP F p.ins (aw5 p (bT t i)) i=r at ow
 cases ow with
 | const k h=>exact⟨fun o ho=>(by rw[show bU (awH k)=[] from rfl] at ho;simp at ho),fun n hn c=>by injection c with c;omega⟩
 | stands v h h2=>
  refine⟨ty,fun n hn c=>?_⟩
  injection c with c
  rcases h2 with h2 | ⟨u,hu,h2⟩
  ·rw[←c];exact ty v h2
  ·obtain⟨a1,a2,-⟩:=hop u hu
   obtain⟨m,rfl⟩:=Int.eq_ofNat_of_zero_le a1
   have hm:m<i:=by omega
   have:awE p.ins m=bT (aw6 F t) m:=by
    unfold awE
    rw[show(m:Int).toNat=m from rfl,(pre m hm).1];rfl
   rw[this] at h2
   rw[←c];exact(ih m hm (by omega)).1 v h2
 | gone h=>exact⟨ty,fun n hn c=>by injection c with c;omega⟩
 | stays h=>exact⟨ty,fun n hn c=>by injection c with c;omega⟩
theorem ayL (asks:awZ t.ins):oS (aw6 F t).ins (awG F t.ins ⟨[],[]⟩).tl where
 tell i n hne h:=by
  have hi:i<t.ins.length:=by rw[←(ax8 (F:=F)).2];exact(lE h).1
  rw[opE,ayA,←opE]
  exact(ayI asks i hi).2 n hne h
 free i h:=by
  have hi:i<t.ins.length:=by
   rw[←(ax8 (F:=F)).1]
   rcases Nat.lt_or_ge i (aw6 F t).ins.length with c | c
   ·exact c
   ·unfold l6 at h
    rw[show(i:Int).toNat=i from rfl,List.getElem?_eq_none c] at h;simp at h
  obtain⟨p,-,-,-,e1,e2⟩:=ayD (F:=F) asks hi
  rw[opE,e1] at h
  rw[e2,ax9 (by have:=ayJ.1 h;omega)]
theorem fol_0 (asks:awZ t.ins) (h0:0<t.ins.length):(awG F t.ins ⟨[],[]⟩).tl[0]? = some 0:=by
 obtain⟨p,-,hop,-,-,e2⟩:=ayD (F:=F) asks h0
 have no:∀o,¬o∈bU (aw5 p (bT t (0:Nat))):=fun o ho=>by have:=hop o ho;omega
 have key:∀c:Int,(aw5 p (bT t (0:Nat))).op=c→¬ 0<(bP c).asks:=fun c e g=>no _ (awI (by rw[e];exact g))
 rw[e2,ax9 ⟨fun c=>key 7 c (by decide),fun c=>key 8 c (by decide),fun c=>key 4 c (by decide),fun c=>key 5 c (by decide),fun c=>key 6 c (by decide)⟩]
 rfl
theorem ayC (v a:Int):eZ (aw6 F t).ins v a=eZ t.ins v a:=by
 unfold eZ
 rw[ax8.1]
 by_cases c:0≤v
 ·obtain⟨n,rfl⟩:=Int.eq_ofNat_of_zero_le c
  rw[opE,opE,ayA]
 ·simp[c]
theorem ax5 (asks:awZ t.ins) (fn:FnM) (x:bX) (a:Int):bN fn (aw6 F t).ins x a=bN fn t.ins x a:=by
 have mk:∀m:dX,mG (aw6 F t).ins m a=mG t.ins m a:=fun m=>by
  unfold mG fN
  simp only[ayC]
  by_cases c:eZ t.ins m.cell a=true
  ·have c':=c
   simp only[eZ,Bool.and_eq_true,decide_eq_true_eq] at c'
   obtain⟨n,hn⟩:=Int.eq_ofNat_of_zero_le c'.1.1.1
   have:(l6 (aw6 F t).ins m.cell == 18)=(l6 t.ins m.cell == 18):=by
    rw[hn,opE,opE]
    obtain⟨p,-,-,-,e1,-⟩:=ayD (F:=F) asks (i:=n) (by omega)
    rw[e1,Bool.eq_iff_iff,beq_iff_eq,beq_iff_eq]
    exact ayJ
   rw[this]
  ·rw[Bool.not_eq_true] at c
   rw[c];rfl
 have ss:∀(l:List oL) (r last:Int),j5 r (aw6 F t).ins a last l=j5 r t.ins a last l:=by
  intro l
  induction l with
  | nil=>intro _ _;rfl
  | cons s l ih=>intro r last;unfold j5;rw[ayC,ih]
 have ms:∀(l:List dX) (last:Int),fI (aw6 F t).ins a last l=fI t.ins a last l:=by
  intro l
  induction l with
  | nil=>intro _;rfl
  | cons s l ih=>intro last;unfold fI;rw[mk,ih]
 unfold bN
 rw[ss,ms]
theorem ayM {R:Val→Bool} {fns:List FnM} {ce:Int} (h:cQ R ce fns t=0) (hce:ce=0) (kb:∀n u v,R (F.B n u v).1=true∧(F.B n u v).1.kind≠5) (ku:∀n v,R (F.U n v).1=true∧(F.U n v).1.kind≠5) (kz:R (awM 0)=true) (ko:∀b,R (axD b)=true):cQ R ce fns (aw6 F t)=0:=by
 have asks:=ayE h
 obtain⟨p1,p2,fn,p3,p4,p5,p6,p7,p8,p9,p10⟩:=fD h
 have hle:=ax8 (F:=F) (t:=t)
 have hins:sJ R fn (aw6 F t) 0 (aw6 F t).ins=0:=by
  refine aeU _ _ fun k y hy=>?_
  have hk:k<t.ins.length:=by rw[←hle.1];exact(lE hy).1
  obtain⟨r1,r2⟩:=fW t.ins 0 p6 k _ (vB hk)
  obtain⟨p,hI,hop,pre,e1,e2⟩:=ayD (F:=F) asks hk
  have ey:y=_:=(aaN hy).symm.trans e1
  rcases ayP (P:=fun k=>R k=true∧k.kind≠5) (F:=F) (done:=p.ins) (x:=aw5 p (bT t k)) (i:=k) kb ku ⟨kz,(by decide:(2:Int)≠5)⟩ (fun b=>⟨ko b,(by decide:(1:Int)≠5)⟩) with e | ⟨c,e,c1,c2⟩
  ·rw[e] at ey
   rw[ey]
   refine⟨r1,adN r2 (fun hv=>?_) rfl fun e _ q1 q2=>⟨e,q1,by rw[ax5 asks];exact q2⟩⟩
   unfold fN
   rw[List.all_eq_true]
   intro o ho
   have ho':o∈bU (aw5 p (bT t k)):=by
    have:bU (aw5 p (bT t k))=_:=akP _ _
    rw[this];exact ho
   obtain⟨q1,q2,-⟩:=hop o ho'
   have q3:=(ayI asks k hk).1 o (by rw[e1,e];exact ho')
   rw[ayC]
   simp only[eZ,Bool.and_eq_true,decide_eq_true_eq]
   exact⟨⟨⟨q1,by omega⟩,by omega⟩,q3⟩
  ·rw[e] at ey
   rw[ey]
   refine⟨rfl,?_⟩
   have s0:fU (awH c) (bP (awH c).op)=true:=rfl
   unfold eJ
   dsimp only
   rw[s0,show bU (awH c)=[] from rfl]
   show(_ && !((!true && _) || (true && !R c) || (true && c.kind == 5)) && _)=true
   rw[c1,beq_eq_false_iff_ne.2 c2]
   rfl
 unfold cQ
 rw[if_neg (by omega),if_neg (by rw[hle.1];show ¬(_∨200<t.exits.length);omega),show(aw6 F t).fn=t.fn from rfl,if_neg (by omega),p3.2]
 dsimp only
 rw[show(aw6 F t).at_=t.at_ from rfl,show(aw6 F t).loop=t.loop from rfl,if_neg (by rw[hle.1];omega),hins,if_neg (by decide)]
 rw[ax5 asks,ax5 asks,hle.1,show(aw6 F t).turn=t.turn from rfl,show(aw6 F t).back=t.back from rfl,show(aw6 F t).exits=t.exits from rfl]
 rw[if_neg,if_neg,if_pos]
 ·rw[List.all_eq_true] at p10 ⊢
  intro y hy
  rw[ax5 asks];exact p10 y hy
 ·rintro (c | c)
  ·exact c p9.1
  ·rw[p9.2] at c;cases c
 ·rintro (⟨c1,c2⟩ | ⟨c1,c2 | c2⟩)
  ·rw[p7 c1] at c2;cases c2
  ·exact c2 (p8 c1).1
  ·rw[(p8 c1).2] at c2;cases c2
end
theorem azE {E:iH} {F:awF} {Q:Val→Prop} (ok:axT Q E.B E.U) (ops:amS E) (qo:QOk Q E) (hB:F.B=E.B) (hU:F.U=E.U) (hT:∀v,F.T v=E.T v) {R:Val→Bool} (hq:∀v,Q v→R v=true) (nr:anO E) (kz:R (awM 0)=true) (ko:∀b,R (axD b)=true) {ce:Int} {fns:List FnM} {stc:Int} {t:aH}
  (hK:∀v i:Int,F.K v i=kindM t.ins v i) {S0 out:aP} {th turns exit n:Int} (hc:cQ R ce fns t=0) (kq:KQ Q t) (fit:stc=0→FitQ Q S0) (hce:ce=0) (hd:(g9 (aw6 F t) (awG F t.ins ⟨[],[]⟩).tl).2=0) :
  cQ R ce fns (g9 (aw6 F t) (awG F t.ins ⟨[],[]⟩).tl).1=0∧(mC E 0 stc t S0 th turns=(out,exit,n,0)→mC E 0 stc (g9 (aw6 F t) (awG F t.ins ⟨[],[]⟩).tl).1 S0 th turns=(out,exit,n,0)):=by
 have asks:=ayE hc
 have ha:=xG hc
 have hs:=ayL (F:=F) asks
 have h0:0<t.loop→(awG F t.ins ⟨[],[]⟩).tl[0]? = some 0:=fun c=>fol_0 asks (by have:=ha.2.2;omega)
 have hc1:cQ R ce fns (aw6 F t)=0:=ayM hc hce (fun n u v=>by rw[hB];exact⟨hq _ (qo.bin _ _ _),nr.bin _ _ _⟩) (fun n v=>by rw[hU];exact⟨hq _ (qo.un _ _),nr.un _ _⟩) kz ko
 refine⟨zR hc1 hce hd hs h0,fun h=>run_cut h (pM hc) ha hc1 hd hs h0 rfl rfl fun f hh e1 e2=>?_⟩
 obtain⟨qs,tm⟩:=(fit (run_ok h).2.1).begin qo.zero t e1 e2
 refine⟨_,ayQ ⟨ok,ops,hB,hU,hT,hK,qo.zero,acA hc,anY hc,asks⟩ qo qs kq (am8 hc) (by have:=ha.2.2;omega),?_⟩
 exact⟨tm,by simp[gG],fun v hv=>by omega,fun v hv=>by omega,fun v hv=>by omega,fun v hv=>by omega⟩
end
end Go.Proofs.YtijihlcdhppfgaaGreatDoor
