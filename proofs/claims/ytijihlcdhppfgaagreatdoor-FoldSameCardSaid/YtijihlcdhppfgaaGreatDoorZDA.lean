/- Part of the walk of the given code: contracts, and plain laws. -/
import Derived.Test.YtijihlcdhppfgaaGreatDoorZBX
import Derived.Maps.AppendAt
import Derived.Deep.AppendLies
import Derived.Test.YtijihlcdhppfgaaGreatDoorZA
import Derived.Test.YtijihlcdhppfgaaGreatDoorZBA
import Derived.Test.YtijihlcdhppfgaaGreatDoorZK
import Derived.Test.YtijihlcdhppfgaaGreatDoorZM
import Derived.Deep.DeepCutAuto
import Derived.Test.YtijihlcdhppfgaaGreatDoorZI
import Derived.Test.YtijihlcdhppfgaaGreatDoorZR
set_option maxHeartbeats 16000000
set_option maxRecDepth 100000
set_option linter.all false
namespace Go.Proofs.YtijihlcdhppfgaaGreatDoor
open Go.Proofs.Tryz
section
open Go.RowKit
namespace Bx
open Go.Proofs.Tryz
variable {w0 w:World} {l:List (Nat×List Value×TypeId)} {g:Nat} {cs:List Value} {t:TypeId}
theorem al1 {w1:World} {t:TypeId} (X:Bx w0 w l) (h:w.alloc (.cells ⟨cs⟩ t)=w1):Bx w0 w1 ((w.heap.size,cs,t)::l):=h ▸ X.al cs t
theorem tl1 {e:Nat×List Value×TypeId} (X:Bx w0 w (e::l)):Bx w0 w l:=⟨X.k,(List.nodup_cons.1 X.nd).2,λg cs t h=>X.at_ g cs t (.tl _ h)⟩
theorem qc {v:Value} {j:Nat} (_:Bx w0 w l) (hm:In3 g cs t l:=by repeat (first | exact .hd _ | apply In3.tl)) (hj:cs[j]? = some v:=by rfl):∀E:W w0 l,E.tq.cell? ⟨g,j,none⟩=some v:=clq hm hj
end Bx
structure Og where
 e:TypeId
 s:Nat
 v:Value
 n:Nat
 xs:List Value
inductive StO (o p:Og):List Og->List Og->Prop
 | hd (l):StO o p (o::l) (p::l)
 | tl (q) {l l'} : StO o p l l'->StO o p (q::l) (q::l')
def Og.ne (o p:Og):Prop:=∀g,o.v.ownBlock=some g->p.v.ownBlock≠some g
theorem Og.ne.symm {o p:Og} (h:o.ne p):p.ne o:=λg h1 d=>h g d h1
section
variable {o p:Og} {os os':List Og}
theorem StO.ap (k:List Og) (h:StO o p os os'):StO o p (k++os) (k++os'):=by
 induction k with
 | nil=>exact h
 | cons e k ih=>exact .tl e ih
theorem StO.m (h:StO o p os os'):o∈os/\p∈os':=by
 induction h with
 | hd=>simp
 | tl q _ ih=>exact⟨List.mem_cons_of_mem _ ih.1,List.mem_cons_of_mem _ ih.2⟩
theorem StO.z (h:StO o p os os') (d:os.Pairwise Og.ne) {q:Og} (hq:q∈os'):q=p\/q∈os/\q.ne o:=by
 induction h with
 | hd l=>
  rcases List.mem_cons.1 hq with rfl | hq
  ·exact .inl rfl
  ·exact .inr ⟨List.mem_cons_of_mem _ hq,((List.pairwise_cons.1 d).1 q hq).symm⟩
 | tl r h ih=>
  rcases List.mem_cons.1 hq with rfl | hq
  ·exact .inr ⟨List.mem_cons_self,(List.pairwise_cons.1 d).1 _ h.m.1⟩
  ·rcases ih (List.pairwise_cons.1 d).2 hq with h | ⟨h1,f⟩
   ·exact .inl h
   ·exact .inr ⟨List.mem_cons_of_mem _ h1,f⟩
theorem StO.w (h:StO o p os os') (g:os.Pairwise Og.ne) (hp:∀q∈os,q.ne o->q.ne p):os'.Pairwise Og.ne:=by
 induction h with
 | hd l=> have:=List.pairwise_cons.1 g;exact List.pairwise_cons.2 ⟨λq d=>(hp q (List.mem_cons_of_mem _ d) (this.1 q d).symm).symm,this.2⟩
 | tl r h ih=>
  have f:=List.pairwise_cons.1 g
  refine List.pairwise_cons.2 ⟨λq d=>?_,ih f.2 λq d=>hp q (List.mem_cons_of_mem _ d)⟩
  rcases h.z f.2 d with rfl | ⟨h1,-⟩
  ·exact hp r List.mem_cons_self (f.1 _ h.m.1)
  ·exact f.1 q h1
end
inductive StN:List Value->Nat->List Value->List Value->Prop
 | nil (l):StN [] 0 l l
 | hd (v u) {vs l l'} : StN vs 0 l l'->StN (v::vs) 0 (u::l) (v::l')
 | tl (u) {vs j l l'} : StN vs j l l'->StN vs (j+1) (u::l) (u::l')
def avG:List Value->Nat->List Value->List Value
 | cs,_,[]=>cs
 | cs,j,v::r=>avG (cs.set j v) (j+1) r
theorem avF (u:Value):∀(vs cs:List Value) (j:Nat),avG (u::cs) (j+1) vs=u::avG cs j vs
 | [],_,_=>rfl
 | v::r,cs,j=>by rw[avG,avG,List.set_cons_succ,avF u r]
theorem StN.e {vs:List Value} {j:Nat} {cs d:List Value} (h:StN vs j cs d):d=avG cs j vs/\j+vs.length<=cs.length:=by
 induction h with
 | nil=>simp[avG]
 | hd v u _ ih=>rw[avG,List.set_cons_zero,avF,<-ih.1];simp;omega
 | tl u _ ih=>rw[avF,<-ih.1];simp;omega
theorem St3.mid {g:Nat} {cs d:List Value} {t:TypeId} {l f:List (Nat×List Value×TypeId)} (h:St3 g cs d t l f) (c:List Value):∃m,St3 g cs c t l m/\St3 g c d t m f:=by
 induction h with
 | hd l=>exact⟨_,.hd _,.hd _⟩
 | tl e _ ih=>obtain⟨m,a,b⟩:=ih;exact⟨_,.tl _ a,.tl _ b⟩
theorem St3.fam {g:Nat} {cs f:List Value} {t:TypeId} {l j:List (Nat×List Value×TypeId)} (h:St3 g cs f t l j):∃M:List Value->List (Nat×List Value×TypeId),(∀c d,St3 g c d t (M c) (M d))/\M cs=l/\M f=j:=by
 induction h with
 | hd l=>exact⟨λc=>(g,c,t)::l,λ_ _=>.hd _,rfl,rfl⟩
 | tl e _ ih=>obtain⟨M,h,a,b⟩:=ih;exact⟨λc=>e::M c,λc d=>.tl _ (h c d),congrArg (e::·) a,congrArg (e::·) b⟩
theorem St3.same {g:Nat} {cs:List Value} {t:TypeId} {l d:List (Nat×List Value×TypeId)} : St3 g cs cs t l d->l=d
 | .hd _=>rfl
 | .tl e h=>congrArg (e::·) h.same
structure Bo (w0 w:World) (l:List (Nat×List Value×TypeId)) (os:List Og):Prop where
 bx:Bx w0 w l
 ow:∀o∈os,w.ownsRow w0.heap.size o.e o.s o.v o.n o.xs
 far:∀o∈os,∀g,o.v.ownBlock=some g->g∉l.map (·.1)
 ap:os.Pairwise Og.ne
theorem avJ {w w':World} {B n s:Nat} {e:TypeId} {v:Value} {xs:List Value} (h:w.ownsRow B e s v n xs) (hk:∀g,v.ownBlock=some g->w'.heap[g]? = w.heap[g]?):w'.ownsRow B e s v n xs:=by refine⟨h.1,h.2.imp id λ⟨g,d,f,e,hb,j,r⟩=>?_⟩;subst e;exact⟨g,d,f,rfl,hb,(hk g rfl).trans j,r⟩
namespace Bo
open Go.Proofs.Tryz
variable {P:Program} {ops:Array Oper} {rest:List Oper} {o:Oper} {a:Act} {w0 w:World} {Q:Exit->Act->World->Prop} {l l':List (Nat×List Value×TypeId)} {g:Nat} {cs:List Value} {t:TypeId} {os os':List Og}
theorem of (X:Bx w0 w l):Bo w0 w l []:=⟨X,by simp,by simp,.nil⟩
theorem lt (X:Bo w0 w l os) {q:Og} (d:q∈os) {g:Nat} (f:q.v.ownBlock=some g):w0.heap.size<=g/\g<w.heap.size:=(X.ow q d).lt g f
theorem nw (X:Bo w0 w l os) (e:TypeId) (s:Nat):Bo w0 w l (⟨e,s,.slice none 0 0,0,[]⟩::os) where
 bx:=X.bx
 ow:=by
  intro q hq
  rcases List.mem_cons.1 hq with rfl | hq
  ·exact World.ownsRow_nil _ _ _ _
  ·exact X.ow q hq
 far:=by
  intro q hq g d
  rcases List.mem_cons.1 hq with rfl | hq
  ·cases d
  ·exact X.far q hq g d
 ap:=List.pairwise_cons.2 ⟨λq _ g d=>(by cases d),X.ap⟩
theorem on {w':World} (X:Bo w0 w l os) (h:Below w.heap.size w w'):Bo w0 w' l os:= ⟨X.bx.on h,λq d=>avJ (X.ow q d) λg f=>h.block g (X.lt d f).2,X.far,X.ap⟩
theorem al (X:Bo w0 w l os) (cs:List Value) (t:TypeId):Bo w0 (w.alloc (.cells ⟨cs⟩ t)) ((w.heap.size,cs,t)::l) os where
 bx:=X.bx.al cs t
 ow q hq:=(X.ow q hq).alloc _
 far q hq g hg:=by
  simp only[List.map_cons,List.mem_cons,not_or]
  exact⟨Nat.ne_of_lt (X.lt hq hg).2,X.far q hq g hg⟩
 ap:=X.ap
theorem al1 {w1:World} {t:TypeId} (X:Bo w0 w l os) (h:w.alloc (.cells ⟨cs⟩ t)=w1):Bo w0 w1 ((w.heap.size,cs,t)::l) os:=h ▸ X.al cs t
theorem dr (X:Bo w0 w l os):Bo w0 w.drew l os:=⟨X.bx.dr,X.ow,X.far,X.ap⟩
theorem tl1 {e:Nat×List Value×TypeId} (X:Bo w0 w (e::l) os):Bo w0 w l os:=⟨X.bx.tl1,X.ow,λq d g f h=>X.far q d g f (List.mem_cons_of_mem _ h),X.ap⟩
theorem call {f:FuncId} {args:Array Value} {v:Value} {R:Ending->World->Prop} (X:Bo w0 w l os) (h:Calls P f args w λe w'=>e=.returned v/\Below w.heap.size w w') (k:∀w',Bo w0 w' l os->R (.returned v) w'):Calls P f args w R:= h.mono λ_ _ ⟨e,b⟩=>e ▸ k _ (X.on b)
theorem turn {w':World} {f:List Value} (X:Bo w0 w l os) (j:Bx w0 w' l') (hk:∀q,q≠g->w'.heap[q]? = w.heap[q]?) (hm:St3 g cs f t l l'):Bo w0 w' l' os:= ⟨j,λq d=>avJ (X.ow q d) λk h=>hk k λe=>X.far q d k h (e ▸ hm.i.m),λq d k h=>hm.m ▸ X.far q d k h,X.ap⟩
theorem st {ty:TypeId} {x y:Operand} {d:List Value} (X:Bo w0 w l os) (h:∀w',Bo w0 w' l' os->wpList P ops Q rest (a.put o.dst undef) w') (hgd:o.guard=none:=by rfl) (ho:o.op=.store ty x y:=by rfl) (hx:a.eval x=.pointer (some ⟨g,0,none⟩):=by rfl) (hy:a.eval y=.agg ⟨d⟩:=by rfl) (hm:St3 g cs d t l l':=by repeat (first | exact .hd _ | apply St3.tl)) (hi:(P.info? ty).map (·.size)=some d.length:=by kernel_rfl) (hl:cs.length=d.length:=by rfl) (h1:d.all (·.oneCell')=true:=by simp[Value.oneCell']):wpList P ops Q (o::rest) a w:= wpList_store_row hgd ty x y ho g ⟨d⟩ hx hy t ⟨cs⟩ (X.bx.at_ _ _ _ hm.i).2 hi hl (by simpa using h1) (h _ (X.turn (X.bx.set hm ⟨rfl,rfl,rfl,by simp[World.setRow]⟩ (setRow_heap _ _ _ _ _ _ (X.bx.at_ _ _ _ hm.i).2) (λq f=>setRow_other _ _ _ _ f)) (λq f=>setRow_other _ _ _ _ f) hm))
theorem sc {v:Value} {j:Nat} (X:Bo w0 w l os) (hm:St3 g cs (cs.set j v) t l l'):Bo w0 (w.setCell ⟨g,j,none⟩ v) l' os:=by have hb:=(X.bx.at_ _ _ _ hm.i).2;have hf:∀q,q≠g->(w.setCell ⟨g,j,none⟩ v).heap[q]? = w.heap[q]?:=λq h=>Below.heap_setCell _ _ _ _ h;refine X.turn (X.bx.set hm ⟨rfl,rfl,rfl,by simp[World.setCell]⟩ ?_ hf) hf hm;have d:=(aE hb).1;have f:=(aE hb).2;unfold World.setCell;rw[Array.getElem?_eq_getElem (by simpa using d),Array.getElem_modify];simp[f]
theorem scs:∀(vs:List Value) {j:Nat} {w:World} {cs:List Value} {l d:List (Nat×List Value×TypeId)},Bo w0 w l os->St3 g cs (avG cs j vs) t l d->Bo w0 (w.setCells g j vs) d os
 | [],_,_,_,_,_,X,hm=>hm.same ▸ X
 | v::r,j,w,cs,l,d,X,hm=>by
  obtain⟨m,h1,f⟩:=hm.mid (cs.set j v)
  exact scs r (X.sc h1) f
theorem s1 {ty:TypeId} {x y:Operand} {f:List Value} {v:Value} {j:Nat} (X:Bo w0 w l os) (h:∀w',Bo w0 w' l' os->wpList P ops Q rest (a.put o.dst undef) w') (hgd:o.guard=none:=by rfl) (ho:o.op=.store ty x y:=by rfl) (hx:a.eval x=.pointer (some ⟨g,j,none⟩):=by rfl) (hy:a.eval y=v:=by rfl) (hv:v.oneCell'=true:=by rfl) (hi:(P.info? ty).map (·.size)=some 1:=by kernel_rfl) (hc:In3 g cs t l:=by repeat (first | exact .hd _ | apply In3.tl)) (hs:St1 v j cs f:=by repeat (first | exact .hd _ _ | apply St1.tl)) (hm:St3 g cs f t l l':=by repeat (first | exact .hd _ | apply St3.tl)):wpList P ops Q (o::rest) a w:=by
 obtain⟨rfl,hj⟩:=St1.e hs;have hb:=(X.bx.at_ _ _ _ hc).2;refine wpList_plain hgd λ_ u=>?_;unfold Oper.wp execOp;have d:=X.bx.cl hc (lG hj);have q:w.frozen? ⟨g,j,none⟩=false:=by simp[World.frozen?,hb]
 have r:v.cells=#[v]:=by cases v <;> first | rfl | (simp[Value.oneCell'] at hv)
 have s:(storeVar ty ⟨g,j,none⟩ v).run P w=.ok () (w.setCell ⟨g,j,none⟩ v):=by
  cases p:P.info? ty with
  | none=>simp[p] at hi
  | some i=>
   have hs:i.size=1:=by simp[p] at hi;exact hi
   simp[storeVar,sizeOf,typeInfo,p,hs,r,storeCells,Addr.add,run_store P w _ _ _ hv,d,q]
 simp only[ho,hx,hy,Instr.storeAt,Instr.sureAddr,Sem.run_bind,Sem.run_pure,Result.andThen_ok,s];exact u _ _ (h _ (X.sc hm))
theorem sm {ty:TypeId} {x y:Operand} {d vs:List Value} {j:Nat} (X:Bo w0 w l os) (h:∀w',Bo w0 w' l' os->wpList P ops Q rest (a.put o.dst undef) w') (hgd:o.guard=none:=by rfl) (ho:o.op=.store ty x y:=by rfl) (hx:a.eval x=.pointer (some ⟨g,j,none⟩):=by rfl) (hy:a.eval y=.agg ⟨vs⟩:=by rfl) (hc:In3 g cs t l:=by repeat (first | exact .hd _ | apply In3.tl)) (hs:StN vs j cs d:=by repeat (first | exact .nil _ | apply StN.hd | apply StN.tl)) (hm:St3 g cs d t l l':=by repeat (first | exact .hd _ | apply St3.tl)) (hi:(P.info? ty).map (·.size)=some vs.length:=by kernel_rfl) (h1:vs.all (·.oneCell')=true:=by simp[Value.oneCell']):wpList P ops Q (o::rest) a w:=by
 obtain⟨rfl,hj⟩:=StN.e hs;have hb:=(X.bx.at_ _ _ _ hc).2;refine wpList_store_mid hgd ty x y ho g j ⟨vs⟩ hx hy (λi hi=>⟨?_,?_⟩) hi (by simpa using h1) (h _ (X.scs vs hm));·simp only[List.size_toArray] at hi;rw[X.bx.cl hc (lG (by omega))];rfl
 ·simp[World.frozen?,hb]
theorem sta {ty:TypeId} {x y:Operand} {d:List Value} (X:Bo w0 w l os) (h:∀w',Bo w0 w' ((w.heap.size,d,t)::l) os->wpList P ops Q rest (a.put o.dst undef) w') (hgd:o.guard=none:=by rfl) (ho:o.op=.store ty x y:=by rfl) (hx:a.eval x=.pointer (some ⟨w.heap.size,0,none⟩):=by rfl) (hy:a.eval y=.agg ⟨d⟩:=by rfl) (hi:(P.info? ty).map (·.size)=some d.length:=by kernel_rfl) (hl:cs.length=d.length:=by rfl) (h1:d.all (·.oneCell')=true:=by simp[Value.oneCell']):wpList P ops Q (o::rest) a (w.alloc (.cells ⟨cs⟩ t)):= (X.al cs t).st h hgd ho hx hy (.hd _) hi hl h1
theorem app {W:World} {f xs:List Value} {z:Value} {m c n j p:Nat} {s x:Operand} {T e N:TypeId} {v:Value} {G:Value->List Og} (X:Bo w0 w l os) (hI:(P.info? e).map (λi=>(i.zero,i.size,i.bytes))=some (some z,j,p)) (h:∀A c w',Bo w0 w' l (G (.slice A (n+m) c))->wpList P ops Q rest (a.put o.dst (.slice A (n+m) c)) w') (hk:Below w.heap.size w W:=by repeat (first | exact Below.refl _ _ | refine Below.alloc ?_ (by first | exact Nat.le_refl _ | (simp;done) | (simp;omega)) _)) (hgd:o.guard=none:=by rfl) (ho:o.op=.call { callee:=.builtin .append,args:=#[s,x],argTypes:=#[T,T] }:=by rfl) (hs:a.eval s=v:=by rfl) (hx:a.eval x=.slice (some ⟨g,0,none⟩) m c:=by rfl) (hn:W.heap[g]? = some (.cells ⟨f⟩ N (0,0)):=by exact heap_alloc_new _ _) (hl:f.length=m*j:=by rfl) (h1:f.all (·.oneCell')=true:=by simp[Value.oneCell']) (ht:P.underlying T=some (.slice e):=by rfl) (O:z.cells.size=j:=by rfl) (hp:0<j:=by decide) (hy:p<=4096:=by decide) (hO:∀v',StO ⟨e,j,v,n,xs⟩ ⟨e,j,v',n+m,xs++f⟩ os (G v'):=by intro _;repeat (first | exact .hd _ | apply StO.tl | apply StO.ap)) (hb:n+m<=16777216:=by omega):wpList P ops Q (o::rest) a W:=by
 obtain⟨i,hi,I,J,K⟩:∃i,P.info? e=some i/\i.zero=some z/\i.size=j/\i.bytes=p:=by
  cases d:P.info? e with
  | none=>simp[d] at hI
  | some i=>simp only[d,Option.map_some,Option.some.injEq,Prod.mk.injEq] at hI;exact⟨i,rfl,hI⟩
 have Y:=X.on hk;have hm:=(hO v).m.1;refine wpList_append_own_at W hgd s x T ho w0.heap.size e i z j p ht hi I J K O hp v n xs hs (Y.ow _ hm) ⟨g,0,none⟩ m c f hx hl (World.news_of_block hn) (by simpa using h1) (by unfold maxLen;omega) (by have:=Nat.mul_le_mul hb hy;omega) Y.bx.k.size λv' w' E D _ h5=>?_;obtain⟨A,c',rfl⟩:∃A c',v'=.slice A (n+m) c':=by
  rcases E.2 with ⟨H,R⟩ | ⟨g,S,_,H,_⟩;·exact⟨none,0,by rw[H,R]⟩
  ·exact⟨_,_,H⟩
 have r:=hO (.slice A (n+m) c');have hB:∀k,Value.ownBlock (.slice A (n+m) c')=some k->v.ownBlock=some k\/W.heap.size<=k:=λk hk=>by
  rcases h5 with h5 | h5;·exact .inl (h5 ▸ hk)
  ·rw[h5] at hk;injection hk with hk;exact .inr (by omega)
 have y:∀k,k<W.heap.size->v.ownBlock≠some k->w'.heap[k]? = W.heap[k]?:=λk h1 E=>D.block k h1 λe=>E e.symm;refine h A c' w' ⟨⟨⟨D.os.trans Y.bx.k.os,D.tape.trans Y.bx.k.tape,D.output.trans Y.bx.k.output,Nat.le_trans Y.bx.k.size D.size,λk hk=>(y k (Nat.lt_of_lt_of_le hk Y.bx.k.size) λe=>?_).trans (Y.bx.k.block k hk)⟩,Y.bx.nd,λq c u d=>⟨(Y.bx.at_ q c u d).1,(y q (Y.bx.lt d) λe=>Y.far _ hm q e d.m).trans (Y.bx.at_ q c u d).2⟩⟩,λq d=>?_,λq d k hk=>?_,r.w Y.ap λq d L k hk e=>?_⟩;·have:=(Y.lt hm e).1;omega
 ·rcases r.z Y.ap d with rfl | ⟨F,M⟩;·exact E
  ·exact avJ (Y.ow q F) λk hk=>y k (Y.lt F hk).2 (M k hk)
 ·rcases r.z Y.ap d with rfl | ⟨F,M⟩
  ·intro hc;rcases hB k hk with e | e;·exact Y.far _ hm k e hc
   ·obtain⟨cs,t,hc⟩:=Bx.mem hc;have:=Y.bx.lt hc;omega
  ·exact Y.far q F k hk
 ·rcases hB k e with e | e;·exact L k hk e
  ·have:=(Y.lt d hk).2;omega
theorem nr {w':World} (X:Bo w0 w l os) (q:Og) (k:Below w.heap.size w w') (h:w'.ownsRow w.heap.size q.e q.s q.v q.n q.xs):Bo w0 w' l (q::os) where
 bx:=X.bx.on k
 ow:=by
  intro p hp
  rcases List.mem_cons.1 hp with rfl | hp
  ·refine⟨h.1,h.2.imp id λ⟨g,f,j,e,hb,r⟩=>⟨g,f,j,e,Nat.le_trans X.bx.k.size hb,r⟩⟩
  ·exact(X.on k).ow p hp
 far:=by
  intro p hp g d hm
  rcases List.mem_cons.1 hp with rfl | hp
  ·obtain⟨cs,t,i⟩:=Bx.mem hm
   have:=X.bx.lt i;have:=(h.lt g d).1;omega
  ·exact X.far p hp g d hm
 ap:=List.pairwise_cons.2 ⟨λp hp g h1 u=>by have:=(X.lt hp u).2;have:=(h.lt g h1).1;omega,X.ap⟩
theorem tr {w':World} (X:Bo w0 w l os) (Y:Bo w w' l' os'):Bo w0 w' (l'++l) (os'++os):=by
 have Z:=X.on Y.bx.k;refine⟨⟨Z.bx.k,?_,λg cs t i=>?_⟩,λp hp=>?_,λp hp g d hm=>?_,List.pairwise_append.2 ⟨Y.ap,X.ap,λp hp q u g h1 v=>?_⟩⟩;·rw[List.map_append];refine List.nodup_append.2 ⟨Y.bx.nd,X.bx.nd,λa x b hb e=>?_⟩;obtain⟨cs,t,i⟩:=Bx.mem x;obtain⟨y,z,s⟩:=Bx.mem hb;have:=(Y.bx.at_ _ _ _ i).1;have:=X.bx.lt s;omega
 ·have:In3 g cs t l'\/In3 g cs t l:=by
   clear Y Z
   induction l' with
   | nil=>exact .inr i
   | cons e l' ih=>
    cases i with
    | hd=>exact .inl (.hd _)
    | tl _ i=>exact(ih i).imp (.tl _) id
  rcases this with i | i;·exact⟨Nat.le_trans X.bx.k.size (Y.bx.at_ _ _ _ i).1,(Y.bx.at_ _ _ _ i).2⟩
  ·exact Z.bx.at_ _ _ _ i
 ·rcases List.mem_append.1 hp with hp | hp;·have h:=Y.ow p hp;exact⟨h.1,h.2.imp id λ⟨g,f,j,e,hb,r⟩=>⟨g,f,j,e,Nat.le_trans X.bx.k.size hb,r⟩⟩
  ·exact Z.ow p hp
 ·rw[List.map_append] at hm;rcases List.mem_append.1 hp with hp | hp <;> rcases List.mem_append.1 hm with hm | hm;·exact Y.far p hp g d hm
  ·obtain⟨cs,t,i⟩:=Bx.mem hm;have:=(Y.lt hp d).1;have:=X.bx.lt i;omega
  ·obtain⟨cs,t,i⟩:=Bx.mem hm;have:=(X.lt hp d).2;have:=(Y.bx.at_ _ _ _ i).1;omega
  ·exact X.far p hp g d hm
 ·have:=(Y.lt hp h1).1;have:=(X.lt u v).2;omega
theorem isl (X:Bo w0 w l os) {q:Og} (f:q∈os):∃A c,q.v=.slice A q.n c:=by
 rcases (X.ow q f).2 with ⟨d,h⟩ | ⟨g,j,_,d,_⟩;·exact⟨none,0,by rw[d,h]⟩
 ·exact⟨_,_,d⟩
theorem isv {e:TypeId} {s n:Nat} {v:Value} {xs:List Value} (X:Bo w0 w l os) (d:(⟨e,s,v,n,xs⟩:Og)∈os):∃A c,v=.slice A n c:=X.isl d
end Bo
end
section
open Go.RowKit
theorem Bo.al2 {w0 w w1:World} {l:List (Nat×List Value×TypeId)} {os:List Og} {cs d:List Value} {t f:TypeId} (X:Bo w0 w l os) (h:(w.alloc (.cells ⟨cs⟩ t)).alloc (.cells ⟨d⟩ f)=w1):Bo w0 w1 ((w.heap.size+1,d,f)::(w.heap.size,cs,t)::l) os:=by have:=(X.al cs t).al d f;rw[World.size_alloc] at this;exact h ▸ this
theorem Bo.al3 {w0 w w1:World} {l:List (Nat×List Value×TypeId)} {os:List Og} {cs d f:List Value} {t g j:TypeId} (X:Bo w0 w l os) (h:((w.alloc (.cells ⟨cs⟩ t)).alloc (.cells ⟨d⟩ g)).alloc (.cells ⟨f⟩ j)=w1):Bo w0 w1 ((w.heap.size+1+1,f,j)::(w.heap.size+1,d,g)::(w.heap.size,cs,t)::l) os:=by have:=((X.al cs t).al d g).al f j;rw[World.size_alloc,World.size_alloc] at this;exact h ▸ this
inductive avD {α β : Type} (R : α->β->Prop):List α->List β->Prop
 | nil:avD R [] []
 | cons {a b us bs} : R a b->avD R us bs->avD R (a::us) (b::bs)
section
variable {α β : Type} {R S : α->β->Prop} {us:List α} {bs:List β}
theorem avD.snoc {a : α} {b : β} (h:avD R us bs) (r:R a b):avD R (us++[a]) (bs++[b]):=by
 induction h with
 | nil=>exact .cons r .nil
 | cons h _ ih=>exact .cons h ih
theorem avD.imp (h:avD R us bs) (k:∀a b,b∈bs->R a b->S a b):avD S us bs:=by
 induction h with
 | nil=>exact .nil
 | cons h _ ih=>exact .cons (k _ _ List.mem_cons_self h) (ih λa b hb=>k a b (List.mem_cons_of_mem _ hb))
theorem avD.get (h:avD R us bs):∀ {i:Nat} {b : β},bs[i]? = some b->∃a,us[i]? = some a/\R a b:=by
 induction h with
 | nil=>intro i b h;simp at h
 | cons h _ ih=>
  intro i b hb
  cases i with
  | zero=>simp at hb;subst hb;exact⟨_,rfl,h⟩
  | succ i=>simp at hb;simpa using ih hb
theorem avD.mem (h:avD R us bs) {a : α} (ha:a∈us):∃b,b∈bs/\R a b:=by
 induction h with
 | nil=>simp at ha
 | cons h _ ih=>
  rcases List.mem_cons.1 ha with rfl | ha
  ·exact⟨_,List.mem_cons_self,h⟩
  ·obtain⟨b,h1,d⟩:=ih ha;exact⟨b,List.mem_cons_of_mem _ h1,d⟩
end
theorem avM {α β : Type} {f : α->List β} {l:List α} {k:Nat} {x : α} (h:l[k]? = some x):(l.take (k+1)).flatMap f=(l.take k).flatMap f++f x:=by obtain⟨h1,d⟩:=lE h;rw[List.take_succ_eq_append_getElem h1,d,List.flatMap_append];simp
theorem avQ {α β : Type} {f : α->β} {l:List α} {k:Nat} {x : α} (h:l[k]? = some x):(l.take (k+1)).map f=(l.take k).map f++[f x]:=by obtain⟨h1,d⟩:=lE h;rw[List.take_succ_eq_append_getElem h1,d,List.map_append];rfl
theorem avO {α : Type} {p : α->Bool} {l:List α} {k:Nat} {x : α} (h:l[k]? = some x):(l.take (k+1)).all p=((l.take k).all p && p x):=by obtain⟨h1,d⟩:=lE h;rw[List.take_succ_eq_append_getElem h1,d,List.all_append];simp
theorem avX {α : Type} {R:List Value->α->Prop} {w:World} {B:Nat} {e:TypeId} {s:Nat} {v:Value} {rows:List (List Value)} {xs:List α} (d:w.ownsRow B e s v xs.length (rows.flatten)) (h:avD (λc x=>c.length=s/\R c x) rows xs):aB w w.heap.size s R v xs:=by
 rw[<-List.flatMap_id] at d;rcases id d.2 with ⟨h1,l⟩ | ⟨g,p,A,h1,hb,r,y,z,-⟩;·obtain rfl:xs=[]:=List.eq_nil_of_length_eq_zero l;subst h1;exact aB.nil _ _ _ _
 ·subst h1;refine⟨_,p,rfl,y,z,λhp=>⟨g,0,rfl,(aE r).1,λi x hi=>?_⟩⟩;obtain⟨c,hc,hl,q⟩:=h.get hi;refine⟨c,hl,q,λj u hj=>?_⟩;have:=d.cells (g:=g) rfl (i*s+j) u (by have:=wX rows (f:=id) (n:=s) (λc hc=>by obtain⟨_,_,h,_⟩:=h.mem hc;exact h) i c hc j (by rw[<-hl];exact(lE hj).1);exact this.trans hj);rw[Nat.zero_add];simp only[Addr.add,Nat.zero_add] at this;split at this;·rename_i l;rw[l];exact this
  ·exact this
theorem Bo.dp {w0 w:World} {l:List (Nat×List Value×TypeId)} {os:List Og} (k:List Og) (X:Bo w0 w l (k++os)):Bo w0 w l os:= ⟨X.bx,λq d=>X.ow q (List.mem_append_right _ d),λq d=>X.far q (List.mem_append_right _ d),(List.pairwise_append.1 X.ap).2.1⟩
def avW (F:Int->Int) (j i:Nat) (v:Int):Int:=if i<j then F v else v
theorem avZ (F:Int->Int) (op xa xb xc xn xe:Int) (k:Val) (n:Nat) (hn:(bP op).asks=n) : iA F ⟨op,xa,xb,xc,xn,xe,k⟩=⟨op,avW F n 0 xa,avW F n 1 xb,avW F n 2 xc,xn,xe,k⟩:=by unfold iA avW;dsimp only;rw[hn];simp only[aT.mk.injEq,true_and,and_true];refine⟨?_,?_,?_⟩ <;> (split <;> split <;> first | rfl | omega)
theorem avD.app {α β : Type} {R : α->β->Prop} {d vs:List α} {f cs:List β} (h:avD R d f) (k:avD R vs cs):avD R (d++vs) (f++cs):=by
 induction h with
 | nil=>exact k
 | cons h _ ih=>exact .cons h ih
theorem lqC {P:Program} {ops:Array Oper} {rest:List Oper} {o:Oper} {a:Act} {ty:TypeId} {x:Operand} {d:TypeDesc} {Q:Act->Prop} {C:World->Prop} {b j:Nat} {vs:List Value} (g:∀w',C w'->w'.rangeAt b j vs) (h:wpQuiet P ops C Q rest (a.put o.dst (.agg vs.toArray)))
  (ho:o.op=.load ty x:=by rfl) (hgd:o.guard=none:=by rfl) (hx:a.eval x=.pointer (some ⟨b,j,none⟩):=by rfl)
  (hu:P.underlying ty=some d:=by rfl) (hd:d.isRow=true:=by rfl) (hi:(P.info? ty).map (·.size)=some vs.length:=by kernel_rfl):wpQuiet P ops C Q (o::rest) a:=
 wpQuiet_step λK f=>by
  simp only[Region.wanted,hgd,if_true]
  refine⟨.agg vs.toArray,λw' E=>?_,f _ h⟩
  unfold Oper.quietAt execOp
  simp only[ho,hx,Instr.loadAt,Instr.sureAddr,Sem.run_bind,Sem.run_pure,Result.andThen_ok,run_loadVar_mid w' b j ty vs d (g _ E) hu hd hi]
  exact⟨rfl,rfl⟩
def avR (s:oL):List Value:=[.int .i64 s.reg,.int .i64 s.val]
theorem av9:(prog.info? 124).map (λi=>(i.zero,i.size,i.bytes))=some (some (.agg #[.int .i64 0,.int .i64 0]),2,16):=by kernel_rfl
theorem awA:(prog.info? 127).map (λi=>(i.zero,i.size,i.bytes))=some (some (.agg #[.int .i64 0,.int .i64 0,.int .i64 0,.slice none 0 0]),4,48):=by kernel_rfl
def OgI (v:Value) (xs:List Int):Og:=⟨3,1,v,xs.length,xs.flatMap λx=>[.int .i64 x]⟩
def MkO (os:List Og) (c:List Value) (m:dX):Prop:=∃v,c=[.int .i64 m.cell,.int .i64 m.kind,.int .i64 m.num,v]/\OgI v m.vals∈os
def ExO (os:List Og) (cs:List Value) (x:bX):Prop:=
 ∃s m rows,cs=[.int .i64 x.at_,.int .i64 x.steps,s,m]/\(⟨124,2,s,x.sets.length,x.sets.flatMap avR⟩:Og)∈os/\(⟨127,4,m,x.makes.length,rows.flatten⟩:Og)∈os/\avD (MkO os) rows x.makes
def av4 (w0:World) (l:List (Nat×List Value×TypeId)) (os:List Og) (x:bX) (e:Ending) (w':World):Prop:=∃cs os1,e=.returned (.agg ⟨cs⟩)/\ExO os1 cs x/\Bo w0 w' l (os1++os)
def wfX (x:bX):Prop:=wfi x.at_/\wfi x.steps/\(∀s∈x.sets,wfi s.reg/\wfi s.val)/\∀m∈x.makes,(wfi m.cell/\wfi m.kind/\wfi m.num)/\∀v∈m.vals,wfi v
theorem MkO.more {os d:List Og} {c:List Value} {m:dX} (h:MkO os c m) (k:∀q∈os,q∈d):MkO d c m:=by obtain⟨v,h1,f⟩:=h;exact⟨v,h1,k _ f⟩
theorem ExO.more {os d:List Og} {cs:List Value} {x:bX} (h:ExO os cs x) (k:∀q∈os,q∈d):ExO d cs x:=by obtain⟨s,m,rows,h1,f,g,j⟩:=h;exact⟨s,m,rows,h1,k _ f,k _ g,j.imp λ_ _ _ h=>h.more k⟩
theorem avE {α β : Type} {R : α->β->Prop} {f : β->α} : ∀ {d:List β},(∀b∈d,R (f b) b)->avD R (d.map f) d
 | [],_=>.nil
 | b::d,h=>.cons (h b List.mem_cons_self) (avE λb hb=>h b (List.mem_cons_of_mem _ hb))
theorem avU {α : Type} {R:List Value->α->Prop} {w:World} {B:Nat} {e:TypeId} {s:Nat} {v:Value} {f : α->List Value} {xs:List α} (d:w.ownsRow B e s v xs.length (xs.flatMap f)) (h:∀x∈xs,(f x).length=s/\R (f x) x):aB w w.heap.size s R v xs:= avX (rows:=xs.map f) (by rw[<-List.flatMap_def];exact d) (avE h)
theorem ExO.r {w:World} {B:Nat} {os:List Og} {cs:List Value} {x:bX} (h:ExO os cs x) (f:∀q∈os,w.ownsRow B q.e q.s q.v q.n q.xs) (d:wfX x):fM w w.heap.size cs x:=by obtain⟨s,m,rows,rfl,g,j,l⟩:=h;refine⟨s,m,rfl,avU (f _ g) λb hb=>⟨rfl,rfl,d.2.2.1 b hb⟩,avX (f _ j) (l.imp λc y hy hc=>?_),d.1,d.2.1⟩;obtain⟨v,rfl,hv⟩:=hc;obtain⟨w1,p⟩:=d.2.2.2 y hy;exact⟨rfl,v,rfl,avU (f _ hv) λb hb=>⟨rfl,rfl,p b hb⟩,w1⟩
theorem ExO.len {os:List Og} {cs:List Value} {x:bX} (h:ExO os cs x):cs.length=4:=by obtain⟨s,m,rows,rfl,-⟩:=h;rfl
theorem awD {w:World} {B:Nat} {os:List Og} {d f:Value} {rows:List (List Value)} {g cb:List Value} {t:aH} (h:∀q∈os,w.ownsRow B q.e q.s q.v q.n q.xs) (hi:(⟨53,8,d,t.ins.length,t.ins.flatMap bA⟩:Og)∈os) (j:∀x∈t.ins,kX x) (l:(⟨32,4,f,t.exits.length,rows.flatten⟩:Og)∈os) (hx:avD (λc x=>c.length=4/\fM w w.heap.size c x) rows t.exits) (ht:fM w w.heap.size g t.turn) (hb:fM w w.heap.size cb t.back) (wf:wfi t.fn/\wfi t.at_/\wfi t.loop) : bI w w.heap.size ([.int .i64 t.fn,.int .i64 t.at_,.int .i64 t.loop,d,f]++g++cb) t:= ⟨_,_,_,_,rfl,avU (h _ hi) λx hx=>⟨rfl,rfl,j x hx⟩,avX (h _ l) hx,ht,hb,wf⟩
theorem av7:(prog.info? 53).map (λi=>(i.zero,i.size,i.bytes))=some (some (.agg #[.int .i64 0,.int .i64 0,.int .i64 0,.int .i64 0,.int .i64 0,.int .i64 0,.int .i64 0,.int .i64 0]),8,64):=by kernel_rfl
theorem av8:(prog.info? 32).map (λi=>(i.zero,i.size,i.bytes))=some (some (.agg #[.int .i64 0,.int .i64 0,.slice none 0 0,.slice none 0 0]),4,64):=by kernel_rfl
theorem Bo.ir {w0 w:World} {l:List (Nat×List Value×TypeId)} {os:List Og} {v:Value} {xs:List Int} (X:Bo w0 w l os) (h:OgI v xs∈os) {k:Nat} {a:Int} (hk:xs[k]? = some a) : ∃b c,v=.slice (some ⟨b,0,none⟩) xs.length c/\∀ {w':World} {l'},Bo w0 w' l' os->w'.cell? ⟨b,k,none⟩=some (.int .i64 a):=by
 rcases (X.ow _ h).2 with ⟨h1,d⟩ | ⟨g,f,j,h1,hb,p,q,r,-⟩;·rw[List.eq_nil_of_length_eq_zero d] at hk;simp at hk
 ·dsimp only [OgI] at h1;subst h1;refine⟨g,f,rfl,λ{w' l'} Y=>?_⟩;have:=(Y.ow _ h).cells (g:=g) rfl k (.int .i64 a) (by show(xs.flatMap λx=>[Value.int .i64 x])[k]? = _;rw[show(λx=>[Value.int .i64 x])=(λx=>[(Value.int .i64) x]) from rfl,<-List.map_eq_flatMap,List.getElem?_map,hk];rfl);simp only[Addr.add,Nat.zero_add] at this;split at this;·rename_i d;rw[d];exact this
  ·exact this
end
open Go.Proofs.Tryz
section
open Go.RowKit
def avL (w0:World) (v:Value) (l:List (Nat×List Value×TypeId)) (os:List Og) (e:Ending) (w':World):Prop:=e=.returned v/\Bo w0 w' l os
theorem avP {P:Program} {w0 w:World} {f:FuncId} {args:Array Value} {v:Value} {R:Ending->World->Prop} {d:List (Nat×List Value×TypeId)} {os:List Og} (h:Calls P f args w (avL w0 v d os)) (k:∀w',Bo w0 w' d os->R (.returned v) w'):Calls P f args w R:= h.mono λ_ _ ⟨e,X⟩=>e ▸ k _ X
theorem Bo.ints {w0 w:World} {l:List (Nat×List Value×TypeId)} {os:List Og} {v:Value} {xs:List Int} (X:Bo w0 w l os) (h:OgI v xs∈os) (d:∀x∈xs,wfi x):aB w w.heap.size 1 gB v xs:= avU (X.ow _ h) λb hb=>⟨rfl,rfl,d b hb⟩
section
variable {w0 w:World} {bc:Nat} {tv:Value} {at_:List Int} {l l':List (Nat×List Value×TypeId)} {os:List Og} {f:Bool}
theorem avK {v:Int} (h:v<0\/(at_.length:Int)<=v\/∃a,at_[v.toNat]? = some a/\a<0):bO at_ v = -1/\eE at_ v=false:=by
 have e:bO at_ v = -1:=by
  unfold bO;rcases h with h | h | ⟨a,h1,d⟩;·rw[if_pos h]
  ·split;·rfl
   ·rw[List.getElem?_eq_none (by omega)]
  ·split;·rfl
   ·rw[h1];dsimp only;rw[if_pos d]
 exact⟨e,by unfold eE;rw[e];rfl⟩
theorem one_yes {v a:Int} (f:0<=v) (h1:at_[v.toNat]? = some a) (d:0<=a):bO at_ v=a/\eE at_ v=true:=by
 have e:bO at_ v=a:=by unfold bO;rw[if_neg (by omega),h1];dsimp only;rw[if_neg (by omega)]
 exact⟨e,by unfold eE;rw[e];simpa using d⟩
theorem av0 (h:∀a∈at_,-1<=a/\a<=300) (v:Int) : -1<=bO at_ v/\bO at_ v<=300:=by
 unfold bO;split;·omega
 ·split;·omega
  ·rename_i a d;have:=h a (List.mem_of_getElem? d);split <;> omega
theorem avS {v:Int} (hb:∀a∈at_,-1<=a/\a<=300) (ho:OgI tv at_∈os) (X:Bo w0 w l os) (hm:St3 bc [tv,.bool f] [tv,.bool (f && eE at_ v)] 119 l l') : Calls prog 108 #[.pointer (some ⟨bc,0,none⟩),.int .i64 v] w (avL w0 (.int .i64 (bO at_ v)) l' os):=by
 have hs:=X.ints ho (λx hx=>by have:=hb x hx;unfold wfi;omega);obtain⟨A,cap,rfl,l1,l2,-⟩:=id hs;unfold maxLen at l2;have c0:=X.bx.cl hm.i (j:=0) rfl;by_cases b1:v<0;case pos=>have HR:=hI (avK (at_:=at_) (.inl b1));rw[HR.o.2,Bool.and_false] at hm;clear hs;go_enter func108,ntmps108;go_wp2_with (first | (refine X.s1 (λ_ X=>?_) (hc:=hm.i) (hm:=hm)) | fail);go_ret;exact⟨by rw[HR.o.1];rfl,X⟩
 by_cases b2:(at_.length:Int)<=v;case pos=>have HR:=hI (avK (at_:=at_) (.inr (.inl b2)));rw[HR.o.2,Bool.and_false] at hm;clear hs;go_enter func108,ntmps108;go_wp2_with (first | (refine X.s1 (λ_ X=>?_) (hc:=hm.i) (hm:=hm)) | fail);go_ret;exact⟨by rw[HR.o.1];rfl,X⟩
 obtain⟨k,rfl⟩:=Int.eq_ofNat_of_zero_le (Int.not_lt.1 b1);obtain⟨b,off,a,cs,rfl,hb,ha,-,⟨rfl,wa⟩,hat⟩:=hs.at_ (i:=k) (by omega);have g0:w.cell? ⟨b,off+k,none⟩=some (.int .i64 a):=by simpa using hat 0 _ rfl
 have hk:(k:Int)<at_.length:=by omega
 by_cases b3:a<0;case pos=>have HR:=hI (avK (at_:=at_) (v:=(k:Int)) (.inr (.inr ⟨a,by simpa using ha,b3⟩)));rw[HR.o.2,Bool.and_false] at hm;clear hs hat ha;go_enter func108,ntmps108;go_wp2_with (first | (refine X.s1 (λ_ X=>?_) (hc:=hm.i) (hm:=hm)) | fail);go_ret;exact⟨by rw[HR.o.1];rfl,X⟩
 ·have HR:=hI (one_yes (at_:=at_) (v:=(k:Int)) (by omega) (by simpa using ha) (by omega:0<=a));rw[HR.o.2,Bool.and_true] at hm;have HL:=hI hm.same;clear hs hat ha hm;go_enter func108,ntmps108;go_wp2_with fail;go_ret;exact⟨by rw[HR.o.1];rfl,HL.o ▸ X⟩
theorem ins_b {x:aT} (hb:∀a∈at_,-1<=a/\a<=300) (ho:OgI tv at_∈os) (X:Bo w0 w l os) (hm:St3 bc [tv,.bool f] [tv,.bool (f && mJ at_ x)] 119 l l') : Calls prog 54 #[.pointer (some ⟨bc,0,none⟩),yA x] w (avL w0 (yA (oE at_ x)) l' os):=by
 obtain⟨p,z,aN⟩:=vG x.op;obtain⟨n,hn⟩:=Int.eq_ofNat_of_zero_le p;obtain⟨op,xa,xb,xc,xn,xe,⟨q,r⟩⟩:=x;dsimp only at hn p z aN;have J:n<=3:=by omega
 have A:(n:Int)<=3:=by omega
 have u:=hI (avZ (bO at_) op xa xb xc xn xe ⟨q,r⟩ n hn);rw[show mJ at_ ⟨op,xa,xb,xc,xn,xe,⟨q,r⟩⟩=([xa,xb,xc].take n).all (eE at_) by unfold mJ bU;dsimp only;rw[hn,Int.toNat_natCast]] at hm;obtain⟨M,hM,rfl,rfl⟩:=hm.fam;have D:=hI ho;have E:=hI hb;have G:=hI hM;have d:=hI (λW=>aiH op W);obtain⟨is,g⟩:∃is,mD op=is:=⟨_,rfl⟩;obtain⟨F,s⟩:∃F,bP op=F:=⟨_,rfl⟩;unfold akS at d;rw[g,s] at d;have H:Hid (F.asks=n):=by rw[<-s];exact hn
 have v:Hid (is=false->n=0):=λe=>by have:=aN (g.trans e);omega
 obtain⟨asks,low,high,L,tells,N⟩:=F;obtain rfl:asks=(n:Int):=H.o;clear hn p z aN g s hm hM ho hb;unfold yA;unfold nH at d;dsimp only at d ⊢;go_enter func54,ntmps54;go_upto_region 1 with fail;generalize h:World.alloc _ _=w1;have X:=X.al2 h;clear h;go_upto_region 3 with (first | (refine X.bx.l1 ?_) | (go_at_call 30;refine X.call (d.o _) λO X=>?_) | (refine X.sta λP X=>?_) | fail);cases is;case false=>obtain rfl:=v.o rfl;go_wp2_with (first | (refine X.bx.ld ?_) | (refine X.st λ_ X=>?_) | fail);exact X.bx.rt1 ⟨by rw[show oE at_ _=_ from u.o],by simpa using X.tl1.tl1.tl1.tl1⟩
 go_wp2_with (first | (refine X.bx.l1 ?_) | fail);go_loopw [25] (λi wr=>∃j:Nat,i=.int .i64 j/\j<=n/\Bo w0 wr ((_,[.pointer (some ⟨w.heap.size,1,none⟩),.pointer (some ⟨w.heap.size,2,none⟩),.pointer (some ⟨w.heap.size,3,none⟩)],_)::_::(w.heap.size+1,_,53)::(w.heap.size,[.int .i64 op,.int .i64 (avW (bO at_) j 0 xa),.int .i64 (avW (bO at_) j 1 xb),.int .i64 (avW (bO at_) j 2 xc),.int .i64 xn,.int .i64 xe,.int .i64 q,.int .i64 r],53)::M [tv,.bool (f && ([xa,xb,xc].take j).all (eE at_))]) os) (λi _=>n - (RowKit.intOf i).toNat);case atStart=>exact⟨0,rfl,by omega,by rw[List.take_zero,List.all_nil,Bool.and_true];exact X⟩
 case round=>
  clear X;obtain⟨j,rfl,hj,X⟩:=hrel;by_cases K:j<n
  ·have y:(j:Int)<n:=(by omega);have I:j=0\/j=1\/j=2:=(by omega);rcases I with rfl | rfl | rfl
   all_goals
    go_wp2_with (first | (refine X.bx.l1 ?_) | (go_at_call 108;refine avP (avS E.o D.o X (.tl _ <| .tl _ <| .tl _ <| .tl _ <| G.o _ _)) λR X=>?_) | (refine X.s1 λ_ X=>?_) | fail);go_roundw;case rel=>first | exact⟨0+1,rfl,by omega,by rw[avO (x:=xa) rfl,<-Bool.and_assoc];exact X⟩ | exact⟨1+1,rfl,by omega,by rw[avO (x:=xb) rfl,<-Bool.and_assoc];exact X⟩ | exact⟨2+1,rfl,by omega,by rw[avO (x:=xc) rfl,<-Bool.and_assoc];exact X⟩
    case measure=>simp[RowKit.intOf];omega
  ·obtain rfl:j=n:=by omega
   have y:¬(j:Int)<j:=(by omega);go_wp2_with (first | (refine X.bx.ld ?_) | (refine X.st λ_ X=>?_) | fail);exact X.bx.rt1 ⟨by rw[show oE at_ _=_ from u.o],X.tl1.tl1.tl1.tl1⟩
end
end
open Go.Proofs.Tryz
section
open Go.RowKit
theorem St3.symm {g:Nat} {cs d:List Value} {t:TypeId} {l f:List (Nat×List Value×TypeId)} (h:St3 g cs d t l f):St3 g d cs t f l:=by
 induction h with
 | hd l=>exact .hd _
 | tl e _ ih=>exact .tl _ ih
structure Bk (w0:World) (bc:Nat) (tv:Value) (f:Bool) (l:List (Nat×List Value×TypeId)) (os:List Og) where
 wd:World
 l':List (Nat×List Value×TypeId)
 d:Bool
 st:St3 bc [tv,.bool f] [tv,.bool d] 119 l l'
 bo:Bo w0 wd l' os
section
variable {P:Program} {ops:Array Oper} {rest:List Oper} {o:Oper} {a:Act} {w0 w:World} {bc:Nat} {tv:Value} {f:Bool} {l:List (Nat×List Value×TypeId)} {os:List Og} {g:Nat} {cs:List Value} {t:TypeId}
theorem Bk.in_ (E:Bk w0 bc tv f l os) (h:In3 g cs t l) (d:cs≠[tv,.bool f]):In3 g cs t E.l':=by
 rcases E.st.symm.o E.bo.bx.nd h with ⟨-,h,-⟩ | ⟨-,h⟩;·exact absurd h d
 ·exact h
theorem Bk.cl {v:Value} {j:Nat} (_:Bo w0 w l os) (d:In3 g cs t l:=by repeat (first | exact .hd _ | apply In3.tl)) (hj:cs[j]? = some v:=by rfl) (h:cs≠[tv,.bool f]:=by simp):∀E:Bk w0 bc tv f l os,E.wd.cell? ⟨g,j,none⟩=some v:=λE=>E.bo.bx.cl (E.in_ d h) hj
theorem Bk.rm {vs:List Value} {j:Nat} (_:Bo w0 w l os) (d:In3 g cs t l:=by repeat (first | exact .hd _ | apply In3.tl)) (h:(cs.drop j).take vs.length=vs:=by rfl) (p:cs≠[tv,.bool f]:=by simp):∀E:Bk w0 bc tv f l os,E.wd.rangeAt g j vs:=λE=>E.bo.bx.rm (E.in_ d p) h
end
section
variable {w0 w:World} {bc:Nat} {tv:Value} {at_:List Int} {l l':List (Nat×List Value×TypeId)} {os:List Og} {f:Bool}
theorem avY {xs:List Value} {x:bX} (hb:∀a∈at_,-1<=a/\a<=300) (ho:OgI tv at_∈os) (X:Bo w0 w l os) (hm:St3 bc [tv,.bool f] [tv,.bool (f && dF at_ x)] 119 l l') (hx:fM w0 w0.heap.size xs x) (h1:x.sets.length<=1000) (h2:x.makes.length<=1000) (h3:∀m∈x.makes,m.vals.length<=1000) : Calls prog 55 #[.pointer (some ⟨bc,0,none⟩),.agg ⟨xs⟩] w (av4 w0 l' os (dM at_ x)):=by
 obtain⟨MM,hM,rfl,rfl⟩:=hm.fam;have P:=hI ho;have HB:=hI hb;have D:=hI hM;have H3:=hI h3;obtain⟨s,m,rfl,hs,hm,wa,ws⟩:=hx;have HS:=hI hs;have HM:=hI hm;obtain⟨S,cS,rfl,f7,d2,-⟩:=hs;obtain⟨M,cM,rfl,f8,d3,-⟩:=hm;unfold maxLen at d2 d3;clear wa ws h3 hb ho hM;go_enter func55,ntmps55;go_upto_region 2 with fail;generalize h:World.alloc _ _=w1;have X:=X.al3 h;clear h;go_wp2_with (first | (refine X.bx.l1 ?_) | fail);have X:=X.nw 124 2;go_loopw [21] (λi wr=>∃(j:Nat) (v:Value),i=.int .i64 j/\j<=x.sets.length/\Bo w0 wr ((w.heap.size+1+1,[.int .i64 x.at_,.int .i64 x.steps,v,.slice none 0 0],32)::(w.heap.size+1,[.int .i64 0,.int .i64 0,.slice none 0 0,.slice none 0 0],32)::(w.heap.size,[.int .i64 x.at_,.int .i64 x.steps,.slice S x.sets.length cS,.slice M x.makes.length cM],32)::MM [tv,.bool (f && (x.sets.take j).all (j7 at_))]) (⟨124,2,v,j,(x.sets.take j).flatMap λs=>avR (setC at_ s)⟩::os)) (λi _=>x.sets.length - (RowKit.intOf i).toNat);case atStart=>exact⟨0,_,rfl,by omega,by rw[List.take_zero,List.all_nil,Bool.and_true];exact X⟩
 case round=>
  clear X
  obtain⟨j,v,rfl,hj,X⟩:=hrel
  by_cases N:j<x.sets.length
  ·have R:(j:Int)<x.sets.length:=by omega
   obtain⟨b,L,y,ys,rfl,hb,hy,-,⟨rfl,a0,a1⟩,G⟩:=HS.o.at_ N
   have RG:Hid (wr.rangeAt b (L+j*2) _):=λk u hk=>(X.bx.k.cell hb).trans (G k u hk)
   have HE:=hI (avM (f:=λs=>avR (setC at_ s)) hy)
   have HY:=hI hy
   generalize J:(f && (x.sets.take j).all (j7 at_))=ff at X
   have HF:Hid ((f && (x.sets.take (j+1)).all (j7 at_))=(ff && eE at_ y.val)):=by
    rw[avO hy,<-Bool.and_assoc,J];rfl
   clear G hy a0 a1 J
   go_upto_region 5 with (first | (refine Bx.ldr RG.o ?_) | (refine X.sta λwa X=>?_) | fail)
   (try dsimp only [Act.put])
   have q2:=Bk.cl (bc:=bc) (tv:=tv) (f:=ff) X (g:=w.heap.size+1+1) (j:=2)
   have q0:=Bk.cl (bc:=bc) (tv:=tv) (f:=ff) X (g:=wr.heap.size) (j:=0)
   have q1:=Bk.cl (bc:=bc) (tv:=tv) (f:=ff) X (g:=wr.heap.size) (j:=1)
   have NK:Nonempty (Bk w0 bc tv ff _ _):=⟨⟨_,_,_,.tl _ <| .tl _ <| .tl _ <| .tl _ <| D.o _ _,X⟩⟩
   refine cE (λw'=>∃E:Bk w0 bc tv ff _ _,w'=E.wd) 7 [7,8,9,10,11,12] [7,8,9] (by kernel_rfl) (by decide) (by kernel_rfl) (λ_ _ d _ _ h=>by cases d <;> exact h) ⟨⟨_,_,_,.tl _ <| .tl _ <| .tl _ <| .tl _ <| D.o _ _,X.dr⟩,rfl⟩ ?_
   simp only[List.take_succ_cons,List.take_zero]
   generalize H:(λa'=>gT _ _ _ _ _ _ a' _)=qq
   have F:=hI H
   clear H
   repeat (go_big_quiet_step (fail))
   refine wpQuiet_nil ?_
   rw[<-F.o]
   clear F qq q2 q0 q1
   have X:=X.dr
   generalize World.drew _=wd at X ⊢
   refine aR rfl (λK r=>?_)
   go_simp
   refine avP (avS HB.o (.tail _ P.o) X (.tl _ <| .tl _ <| .tl _ <| .tl _ <| D.o _ _)) λw5 I=>?_
   refine r _ _ (λ_=>⟨⟨w5,_,_,.tl _ <| .tl _ <| .tl _ <| .tl _ <| D.o _ _,I⟩,rfl⟩) ?_
   clear r K X
   refine aR rfl (λK r=>?_)
   go_simp
   refine r _ _ (λ_=>⟨⟨_,_,_,.tl _ <| .tl _ <| .tl _ <| .tl _ <| D.o _ _,I⟩,rfl⟩) ?_
   clear r K
   refine aR rfl (λK r=>?_)
   go_simp
   refine r _ _ (λ_=>⟨⟨_,_,_,.tl _ <| .tl _ <| .tl _ <| .tl _ <| D.o _ _,(I.al _ _).tl1⟩,rfl⟩) ?_
   clear r K
   refine bG [10,11,12] _ _ (by kernel_rfl) (by kernel_rfl) ?_
   simp only[List.filterMap_cons,List.filterMap_nil,List.getElem?_toArray,List.getElem?_cons_zero,List.getElem?_cons_succ]
   show wpList _ _ _ [_,_,_] _ _
   go_wp2_with (first | (at_builtin;refine I.app av9 λA' c' w6 X=>?_) | (refine X.s1 λ_ X=>?_) | fail)
   go_roundw
   case rel=>exact⟨j+1,_,by go_num,by omega,by rw[HE.o,HF.o];exact X.tl1⟩
   case measure=>simp[RowKit.intOf];omega
  ·obtain rfl:j=x.sets.length:=by omega
   have R:¬(x.sets.length:Int)<x.sets.length:=by omega
   rw[List.take_of_length_le (Nat.le_refl _)] at X
   generalize a6:(f && x.sets.all (j7 at_))=f1 at X
   have d0:Hid ((f && dF at_ x)=(f1 && x.makes.all (kU at_))):=by rw[<-a6];unfold dF;rw[Bool.and_assoc];rfl
   have X:=X.nw 127 4
   clear HS N hj a6
   go_wp2_with (first | (refine X.bx.l1 ?_) | fail)
   go_loopw [41] (λi wr=>∃(j:Nat) (u:Value) (rows:List (List Value)) (vs:List Og),i=.int .i64 j/\j<=x.makes.length/\Hid (avD (MkO vs) rows ((x.makes.take j).map (kS at_)))/\Bo w0 wr ((w.heap.size+1+1,[.int .i64 x.at_,.int .i64 x.steps,v,u],32)::(w.heap.size+1,[.int .i64 0,.int .i64 0,.slice none 0 0,.slice none 0 0],32)::(w.heap.size,[.int .i64 x.at_,.int .i64 x.steps,.slice S x.sets.length cS,.slice M x.makes.length cM],32)::MM [tv,.bool (f1 && (x.makes.take j).all (kU at_))])
     (vs++⟨127,4,u,j,rows.flatten⟩::⟨124,2,v,x.sets.length,x.sets.flatMap λs=>avR (setC at_ s)⟩::os)) (λi _=>x.makes.length - (RowKit.intOf i).toNat)
   case atStart=>exact⟨0,_,[],[],rfl,by omega,.nil,by rw[List.take_zero,List.all_nil,Bool.and_true];exact X⟩
   case round=>
    clear X
    obtain⟨j,u,rows,vs,rfl,hj,AL,X⟩:=hrel
    have P:=hI (List.mem_append_right vs (.tail ⟨127,4,u,j,rows.flatten⟩ (.tail ⟨124,2,v,x.sets.length,x.sets.flatMap λs=>avR (setC at_ s)⟩ P.o)))
    by_cases N:j<x.makes.length
    ·have R:(j:Int)<x.makes.length:=by omega
     obtain⟨b,L,y,ys,rfl,hb,hy,-,⟨vv,rfl,a5,a0,a1,d4⟩,G⟩:=HM.o.at_ N
     have HV:=hI a5
     obtain⟨V,cV,rfl,f9,d5,-⟩:=a5
     unfold maxLen at d5
     have RG:Hid (wr.rangeAt b (L+j*4) _):=λk u hk=>(X.bx.k.cell hb).trans (G k u hk)
     have f3:=H3.o y (List.mem_of_getElem? hy)
     have HY:=hI hy
     generalize J:(f1 && (x.makes.take j).all (kU at_))=ff at X
     have HF:Hid ((f1 && (x.makes.take (j+1)).all (kU at_))=(ff && eE at_ y.cell && y.vals.all (eE at_))):=by
      rw[avO hy,<-Bool.and_assoc,J];unfold kU;rw[Bool.and_assoc];rfl
     clear G hy a0 a1 d4 J
     go_upto_region 10 with (first | (refine Bx.ldr RG.o ?_) | (refine X.sta λwa X=>?_) | fail)
     (try dsimp only [Act.put])
     go_cut [10] (λd8 wx=>∃nb:Nat,d8=.pointer (some ⟨nb,0,none⟩)/\Bo w0 wx ((nb,[.int .i64 (bO at_ y.cell),.int .i64 y.kind,.int .i64 y.num,.slice none 0 0],127)::(wr.heap.size,[.int .i64 y.cell,.int .i64 y.kind,.int .i64 y.num,.slice V y.vals.length cV],127)::(w.heap.size+1+1,[.int .i64 x.at_,.int .i64 x.steps,v,u],32)::(w.heap.size+1,[.int .i64 0,.int .i64 0,.slice none 0 0,.slice none 0 0],32)::(w.heap.size,[.int .i64 x.at_,.int .i64 x.steps,.slice S x.sets.length cS,.slice (some ⟨b,L,none⟩) x.makes.length cM],32)::MM [tv,.bool (ff && eE at_ y.cell)])
      (vs++⟨127,4,u,j,rows.flatten⟩::⟨124,2,v,x.sets.length,x.sets.flatMap λs=>avR (setC at_ s)⟩::os))
     case first=>
      have q0:=Bk.cl (bc:=bc) (tv:=tv) (f:=ff) X (g:=wr.heap.size) (j:=0)
      have q1:=Bk.cl (bc:=bc) (tv:=tv) (f:=ff) X (g:=wr.heap.size) (j:=1)
      have q2:=Bk.cl (bc:=bc) (tv:=tv) (f:=ff) X (g:=wr.heap.size) (j:=2)
      have NK:Nonempty (Bk w0 bc tv ff _ _):=⟨⟨_,_,_,.tl _ <| .tl _ <| .tl _ <| .tl _ <| D.o _ _,X⟩⟩
      refine fS (λw'=>∃E:Bk w0 bc tv ff _ _,w'=E.wd) [0,1,2,4,5,6,7] [3,9] 4 #[true,true,true,false,true,true,true,true,false,false,false] _ (by kernel_rfl) (by kernel_rfl) (by simp only[List.filterMap_cons,List.filterMap_nil,List.getElem?_toArray,List.getElem?_cons_zero,List.getElem?_cons_succ];rfl) (λ_ _ d _ _ h=>by cases d <;> exact h) ⟨⟨_,_,_,.tl _ <| .tl _ <| .tl _ <| .tl _ <| D.o _ _,X.dr⟩,rfl⟩ ?_
      generalize H:(λa'=>dH _ _ _ _ _ _ _ _ a' _)=qq
      have F:=hI H
      clear H
      show wpQuiet _ _ _ _ [_,_,_,_,_,_,_] _
      repeat (go_big_quiet_step (fail))
      refine wpQuiet_nil ?_
      rw[<-F.o]
      clear F qq q0 q1 q2
      have Y:=X.dr
      clear X
      generalize World.drew _=wd at Y ⊢
      repeat' (first
       | (refine lR (i:=3) (k:=9) (by decide +kernel) rfl rfl (λK r=>?_) (λK r=>?_))
       | (refine lR (i:=8) (k:=9) (by decide +kernel) rfl rfl (λK r=>?_) (λK r=>?_))
       | (refine cT [8,10] _ _ _ (by decide +kernel) ?_;refine bG [8,10] _ _ (by kernel_rfl) (by kernel_rfl) ?_)
       | (refine cT [10] _ _ _ (by decide +kernel) ?_;refine bG [10] _ _ (by kernel_rfl) (by kernel_rfl) ?_)
       | (refine j9 (i:=9) (by decide +kernel) rfl (λK r=>?_))
       | (refine j9 (i:=3) (by decide +kernel) rfl (λK r=>?_))
       | (go_simp;refine avP (avS HB.o P.o Y (by repeat (first | exact D.o _ _ | apply St3.tl))) λz Z=>?_;clear Y;have Y:=Z;clear Z;refine r _ _ (λ_=>⟨⟨z,_,_,by repeat (first | exact D.o _ _ | apply St3.tl),by first | exact Y | exact Y.tl1⟩,rfl⟩) ?_;clear r K)
       | (go_simp;generalize O:World.alloc _ _=z;have Z:=Y.al1 O;clear O Y;have Y:=Z;clear Z;refine r _ _ (λ_=>⟨⟨z,_,_,by repeat (first | exact D.o _ _ | apply St3.tl),Y.tl1⟩,rfl⟩) ?_;clear r K)
       | (go_simp;refine r _ _ (λh=>by cases h) ?_;clear r K))
      all_goals
       simp only[List.filterMap_cons,List.filterMap_nil,List.getElem?_toArray,List.getElem?_cons_zero,List.getElem?_cons_succ]
       (first | show wpList _ _ _ [_,_] _ _ | show wpList _ _ _ [_] _ _)
       go_wp2_with (first | (refine Y.st λ_ Y=>?_) | fail)
       go_meet
       exact⟨_,rfl,Y⟩
     case rest=>
      obtain⟨nb,rfl,I⟩:=hcut
      have X:=I.nw 3 1
      clear I
      go_wp2_with (first | (refine X.bx.l1 ?_) | fail)
      go_loopw [57] (λi wz=>∃(q:Nat) (p:Value),i=.int .i64 q/\q<=y.vals.length/\Bo w0 wz ((nb,[.int .i64 (bO at_ y.cell),.int .i64 y.kind,.int .i64 y.num,p],127)::_::_::_::_::MM [tv,.bool (ff && eE at_ y.cell && (y.vals.take q).all (eE at_))]) (⟨3,1,p,q,(y.vals.take q).flatMap λv=>[.int .i64 (bO at_ v)]⟩::_)) (λi _=>y.vals.length - (RowKit.intOf i).toNat)
      case atStart=>exact⟨0,_,rfl,by omega,by rw[List.take_zero,List.all_nil,Bool.and_true];exact X⟩
      case round=>
       clear X
       obtain⟨q,p,rfl,hq,X⟩:=hrel
       by_cases e1:q<y.vals.length
       ·have d1:(q:Int)<y.vals.length:=by omega
        obtain⟨b3,f2,z,zs,rfl,d6,O,-,⟨rfl,wz⟩,G⟩:=HV.o.at_ e1
        have g0:=(X.bx.k.cell d6).trans (by simpa using G 0 _ rfl)
        have HE:=hI (avM (f:=λv=>[Value.int .i64 (bO at_ v)]) O)
        generalize a7:(ff && eE at_ y.cell && (y.vals.take q).all (eE at_))=gg at X
        have HG:Hid ((ff && eE at_ y.cell && (y.vals.take (q+1)).all (eE at_))=(gg && eE at_ z)):=by
         rw[avO O,<-Bool.and_assoc,a7];rfl
        clear G O wz a7
        go_upto_region 14 with fail
        have q3:=Bk.cl (bc:=bc) (tv:=tv) (f:=gg) X (g:=nb) (j:=3)
        have NK:Nonempty (Bk w0 bc tv gg _ _):=⟨⟨_,_,_,.tl _ <| .tl _ <| .tl _ <| .tl _ <| .tl _ <| D.o _ _,X⟩⟩
        refine cE (λw'=>∃E:Bk w0 bc tv gg _ _,w'=E.wd) 4 [4,5,6,7,8] [4,5] (by kernel_rfl) (by decide) (by kernel_rfl) (λ_ _ d _ _ h=>by cases d <;> exact h) ⟨⟨_,_,_,.tl _ <| .tl _ <| .tl _ <| .tl _ <| .tl _ <| D.o _ _,X.dr⟩,rfl⟩ ?_
        simp only[List.take_succ_cons,List.take_zero]
        generalize H:(λa'=>gT _ _ _ _ _ _ a' _)=qq
        have F:=hI H
        clear H
        repeat (go_big_quiet_step (fail))
        refine wpQuiet_nil ?_
        rw[<-F.o]
        clear F qq q3 g0
        have X:=X.dr
        generalize World.drew _=wd at X ⊢
        refine aR rfl (λK r=>?_)
        go_simp
        refine avP (avS HB.o (.tail _ P.o) X (by repeat (first | exact D.o _ _ | apply St3.tl))) λw5 I=>?_
        refine r _ _ (λ_=>⟨⟨w5,_,_,by repeat (first | exact D.o _ _ | apply St3.tl),I⟩,rfl⟩) ?_
        clear r K X
        refine aR rfl (λK r=>?_)
        go_simp
        refine r _ _ (λ_=>⟨⟨_,_,_,by repeat (first | exact D.o _ _ | apply St3.tl),(I.al _ _).tl1⟩,rfl⟩) ?_
        clear r K
        refine bG [6,7,8] _ _ (by kernel_rfl) (by kernel_rfl) ?_
        simp only[List.filterMap_cons,List.filterMap_nil,List.getElem?_toArray,List.getElem?_cons_zero,List.getElem?_cons_succ]
        show wpList _ _ _ [_,_,_] _ _
        go_wp2_with (first | (at_builtin;refine I.app qC λA' c' w6 X=>?_) | (refine X.s1 λ_ X=>?_) | fail)
        go_roundw
        case rel=>exact⟨q+1,_,by go_num,by omega,by rw[HE.o,HG.o];exact X⟩
        case measure=>simp[RowKit.intOf];omega
       ·obtain rfl:q=y.vals.length:=by omega
        have d1:¬(y.vals.length:Int)<y.vals.length:=by omega
        rw[List.take_of_length_le (Nat.le_refl _),<-HF.o] at X
        obtain⟨A,c,rfl⟩:∃A c,p=.slice A y.vals.length c:=X.isl List.mem_cons_self
        go_wp2_with (first | (refine X.bx.ld ?_) | (refine X.bx.l1 ?_) | (at_builtin;refine X.app awA λA' c' w6 X=>?_) | (refine X.s1 λ_ X=>?_) | fail)
        go_roundw
        case rel=>
         refine⟨j+1,_,rows++[[.int .i64 (bO at_ y.cell),.int .i64 y.kind,.int .i64 y.num,.slice A y.vals.length c]],⟨_,_,_,_,_⟩::vs,by go_num,by omega,?_,by rw[List.flatten_append];exact X.tl1.tl1⟩
         rw[avQ HY.o]
         exact(AL.o.imp λ_ _ _ h=>h.more λ_=>List.mem_cons_of_mem _).snoc ⟨_,rfl,by unfold OgI kS;simp[List.flatMap_map]⟩
        case measure=>simp[RowKit.intOf];omega
    ·obtain rfl:j=x.makes.length:=by omega
     have R:¬(x.makes.length:Int)<x.makes.length:=by omega
     obtain⟨A,c,rfl⟩:∃A c,u=.slice A x.makes.length c:=X.isl (q:=⟨_,_,u,_,_⟩) (List.mem_append_right _ List.mem_cons_self)
     obtain⟨A',c',rfl⟩:∃A c,v=.slice A x.sets.length c:=X.isl (q:=⟨_,_,v,_,_⟩) (List.mem_append_right _ (List.mem_cons_of_mem _ List.mem_cons_self))
     rw[List.take_of_length_le (Nat.le_refl _)] at AL X
     rw[<-d0.o] at X
     go_wp2_with (first | (refine X.bx.ld ?_) | (refine X.st λ_ X=>?_) | fail)
     refine X.bx.rt1 ⟨_,vs++[?pa,?pb],rfl,⟨_,_,rows,rfl,?ps,?pm,?pv⟩,?py⟩
     case py=>rw[List.append_assoc];exact X.tl1.tl1.tl1
     case ps=>
      rw[show(dM at_ x).sets.flatMap avR=x.sets.flatMap λs=>avR (setC at_ s) from by show(x.sets.map (setC at_)).flatMap avR=_;rw[List.flatMap_map]]
      show(⟨_,_,_,(x.sets.map _).length,_⟩:Og)∈_
      rw[List.length_map]
      exact List.mem_append_right _ (List.mem_cons_of_mem _ List.mem_cons_self)
     case pm=>
      show(⟨_,_,_,(x.makes.map _).length,_⟩:Og)∈_
      rw[List.length_map]
      exact List.mem_append_right _ List.mem_cons_self
     case pv=>exact AL.o.imp λ_ _ _ h=>h.more λ_=>List.mem_append_left _
end
end
end Go.Proofs.YtijihlcdhppfgaaGreatDoor
