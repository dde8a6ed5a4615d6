/- A part of the walk. -/
import Derived.Test.YtijihlcdhppfgaaGreatDoorVC
import Derived.RangeFuncFrom
import Derived.RangeFuncWrites
import Derived.RangeFuncOwn
import Derived.OrdersIn
import Derived.TacticsIn
import Derived.OwnWalkIn
import Derived.RangeFuncCalls
import Derived.RangeFuncNested
set_option maxHeartbeats 16000000
set_option maxRecDepth 100000
set_option linter.all false
namespace Go.Proofs.YtijihlcdhppfgaaGreatDoor
open Tryz
section
open Go.RowKit
theorem apF:∀(vs:List Value) (cs:Array Value) (o:Nat),o+vs.length<=cs.size->(tB cs o vs).toList=cs.toList.take o++vs++cs.toList.drop (o+vs.length)
 | [],cs,o,_=>by simp[tB]
 | v::r,cs,o,h=>by
  simp only[List.length_cons] at h
  rw[tB,apF r _ (o+1) (by simp;omega),Array.toList_setIfInBounds]
  have g:o<cs.toList.length:=by simp;omega
  obtain⟨A,c,D,d,q⟩:∃(A:List Value) (c:Value) (D:List Value),A.length=o/\cs.toList=A++c::D:=
   ⟨cs.toList.take o,cs.toList[o],cs.toList.drop (o+1),by simp;omega,by rw[<-List.drop_eq_getElem_cons g,List.take_append_drop]⟩
  rw[q,List.set_append_right _ _ (by omega),d,Nat.sub_self]
  have j:(A++(c::D).set 0 v).take (o+1)=A++[v]:=by
   rw[List.take_append,d,List.take_of_length_le (by omega),show o+1 - o=1 by omega];rfl
  have l:(A++(c::D).set 0 v).drop (o+1+r.length)=(A++c::D).drop (o+(r.length+1)):=by
   have f:∀Y:List Value,(A++Y).drop (o+1+r.length)=Y.drop (r.length+1):=λY=>by
    rw[List.drop_append,List.drop_of_length_le (by omega),d,show o+1+r.length - o=r.length+1 by omega,List.nil_append]
   rw[show o+(r.length+1)=o+1+r.length by omega,f,f];rfl
  have p:(A++c::D).take o=A:=by rw[<-d,List.take_left]
  rw[j,l,p]
  simp
theorem own_set {w:World} {B g f n size i:Nat} {e:TypeId} {xs vs:List Value} (h:w.ownsRow B e size (.slice (some ⟨g,0,none⟩) n f) n xs) (hi:i<n) (l:vs.length=size) : (w.setCells g (i*size) vs).ownsRow B e size (.slice (some ⟨g,0,none⟩) n f) n (xs.take (i*size)++vs++xs.drop ((i+1)*size)):=by
 obtain⟨hl,u⟩:=h;rcases u with ⟨d,_⟩ | ⟨G,x,j,d,hb,y,q,z,p,A⟩;·cases d
 ·injection d with d F v
  injection d with d
  injection d with d
  subst d;subst v;have D:(i+1)*size<=n*size:=Nat.mul_le_mul_right size hi;have r:n*size<=f*size:=Nat.mul_le_mul_right size q;have s:(i+1)*size=i*size+size:=Nat.succ_mul i size;refine⟨?_,.inr ⟨g,f,tB j (i*size) vs,rfl,hb,jR vs _ w j y,q,z,by rw[o5];exact p,?_⟩⟩;·simp only[List.length_append,List.length_take,List.length_drop,hl,l];omega
  ·have E:i*size+size<=j.toList.length:=(by simp only[Array.length_toList,p];omega);rw[apF vs j _ (by rw[p,l];omega),<-A,l,s,List.take_append,List.take_of_length_le (by simp only[List.length_append,List.length_take,l];omega),List.take_take,Nat.min_eq_left (by omega),List.drop_take];congr 2;simp only[List.length_append,List.length_take,l];omega
structure z9 (a:Nat) (o:Option Nat) (w w':World):Prop where
 os:w'.os=w.os
 tape:w'.tape=w.tape
 output:w'.output=w.output
 size:w.heap.size<=w'.heap.size
 block:∀k,k<w.heap.size->k≠a->o≠some k->w'.heap[k]? = w.heap[k]?
section
variable {a:Nat} {o:Option Nat} {w w1 w2:World}
theorem z9.refl (a:Nat) (o:Option Nat) (w:World):z9 a o w w:=⟨rfl,rfl,rfl,Nat.le_refl _,λ_ _ _ _=>rfl⟩
theorem z9.trans (h:z9 a o w w1) (k:z9 a o w1 w2):z9 a o w w2:= ⟨k.os.trans h.os,k.tape.trans h.tape,k.output.trans h.output,Nat.le_trans h.size k.size,λi hi h1 d=>(k.block i (Nat.lt_of_lt_of_le hi h.size) h1 d).trans (h.block i hi h1 d)⟩
theorem z9.then (h:z9 a o w w1) (k:Below w.heap.size w1 w2):z9 a o w w2:= ⟨k.os.trans h.os,k.tape.trans h.tape,k.output.trans h.output,Nat.le_trans h.size k.size,λi hi h1 d=>(k.block i hi).trans (h.block i hi h1 d)⟩
theorem z9.fined (h:z9 a o w w1) (k:aV a w1 w2):z9 a o w w2:= ⟨k.os.trans h.os,k.tape.trans h.tape,k.output.trans h.output,Nat.le_trans h.size k.size,λi hi h1 d=>(k.block i (Nat.lt_of_lt_of_le hi h.size) h1).trans (h.block i hi h1 d)⟩
theorem z9.cells {g:Nat} (h:z9 a (some g) w w1) (i:Nat) (vs:List Value):z9 a (some g) w (w1.setCells g i vs):=by
 have k:=akY (B:=0) (b:=g) (Nat.zero_le _) vs i w1 (Below.refl 0 w1);refine⟨k.os.trans h.os,k.tape.trans h.tape,k.output.trans h.output,Nat.le_trans h.size k.size,λj hj h1 f=>?_⟩;have d:j≠g:=λe=>f (by rw[e]);have far:∀(vs:List Value) (o:Nat) (w:World),(w.setCells g o vs).heap[j]? = w.heap[j]?:=λvs=>by
  induction vs with
  | nil=>intro _ _;rfl
  | cons v r ih=>
   intro o w
   rw[World.setCells,ih]
   exact heap_setCell_other w ⟨g,o,none⟩ j v (by show j≠g;exact d)
 rw[far];exact h.block j hj h1 f
theorem z9.below (h:z9 a o w w1) {B:Nat} (g:B<=a) (d:∀k,o=some k->B<=k) (hB:B<=w.heap.size):Below B w w1:= ⟨h.os,h.tape,h.output,h.size,λk f=>h.block k (by omega) (by omega) (λe=>by have:=d k e;omega)⟩
theorem z9.row (h:z9 a o w w1) {k:Nat} {x:Obj} (d:w.heap[k]? = some x) (h1:k≠a) (f:o≠some k):w1.heap[k]? = some x:=(h.block k (aE d).1 h1 f).trans d
end
theorem oR {B:Nat} {w w':World} (h:Below B w w') {k:Nat} {x:Obj} (d:w.heap[k]? = some x) (hb:k<B:=by first | omega | exact(aE d).1):w'.heap[k]? = some x:=(h.block k hb).trans d
theorem aq3 {β : Type} {a:Nat} {o:Option Nat} {w0:World} {B:Nat} (hB:w0.heap.size<=B):OwnFrom B (λ(_ : β) W=>z9 a o w0 W):=λ_ _ _ _ d f h=> ⟨f.os.trans d.os,f.tape.trans d.tape,f.output.trans d.output,Nat.le_trans d.size f.size,λk g h1 j=>(f.block k (Nat.lt_of_lt_of_le g d.size) (λe=>by have:=(h k e.symm).1;omega)).trans (d.block k g h1 j)⟩
theorem aqA {β : Type} {k B:Nat} {t:TypeId} {p:Nat×Nat} (f : β->Array Value):OwnFrom B (λs W=>W.heap[k]? = some (.cells (f s) t p)):=λ_ _ _ _ d j l=> (j.block k (aE d).1 (λe=>by obtain⟨_,o,g,h⟩:=l k e.symm;rw[d] at g;cases g;cases h)).trans d
theorem z9.from {a tb:Nat} {w w':World} (h:z9 a (some tb) w w') {B:Nat} (h1:a<B) (g:tb<B):KeepsFrom B w w':= ⟨h.size,λk _ f d _=>h.row d (by omega) (by simp;omega)⟩
theorem z9.set {a tb:Nat} {w w1:World} (h:z9 a (some tb) w w1) (i:Nat) (v:Value):z9 a (some tb) w (w1.setCell ⟨tb,i,none⟩ v):=h.cells i [v]
theorem arA {tl:List Int} (i:Nat) (v:Int):(⟨tl.map (.int .i64)⟩:Array Value).setIfInBounds i (.int .i64 v)=⟨(tl.set i v).map (.int .i64)⟩:=by apply Array.toList_inj.1;rw[Array.toList_setIfInBounds];show(tl.map (Value.int .i64)).set i _=_;rw[List.map_set]
def aq4:List Value:=[.int .i64 0,.int .i64 0,.int .i64 0,.int .i64 0,.int .i64 0,.int .i64 0,.int .i64 0,.int .i64 0]
theorem arC {w:World} {g:Nat} {x:aT} (h:w.heap[g]? = some (.cells ⟨aq4⟩ 53 (0,0))):(w.setCells g 0 (bA x)).heap[g]? = some (.cells ⟨bA x⟩ 53 (0,0)):=by rw[jR _ _ _ _ h];simp[aq4,bA,tB]
def aqD (r:List Value):List Value:=[r.getD 0 undef,r.getD 1 undef,.slice none 0 0,.slice none 0 0]
def aoN (f:Nat->Bool) (rows:List (List Value)) (j:Nat):List (List Value):=rows.mapIdx (λk r=>if k<j/\f k=false then aqD r else r)
theorem aqU (f:Nat->Bool) (rows:List (List Value)):aoN f rows 0=rows:=by unfold aoN;apply List.ext_getElem?;intro i;rw[List.getElem?_mapIdx];cases rows[i]? <;> simp
theorem ap6 (f:Nat->Bool) (rows:List (List Value)) (j:Nat):(aoN f rows j).length=rows.length:=by simp[aoN]
theorem aqW (f:Nat->Bool) (rows:List (List Value)) (j:Nat):(aoN f rows j)[j]? = rows[j]?:=by unfold aoN;rw[List.getElem?_mapIdx];cases rows[j]? <;> simp
theorem aqV {f:Nat->Bool} {rows:List (List Value)} {j:Nat} (h:f j=true):aoN f rows (j+1)=aoN f rows j:=by
 unfold aoN;apply List.ext_getElem?;intro i;rw[List.getElem?_mapIdx,List.getElem?_mapIdx];cases rows[i]? with
 | none=>rfl
 | some r=>
  simp only[Option.map_some,Option.some.injEq]
  by_cases c:i=j
  ·subst c;simp[h]
  ·simp only[show(i<j+1/\f i=false)↔(i<j/\f i=false) from(by constructor <;> rintro ⟨a,b⟩ <;> exact⟨by omega,b⟩)]
theorem aq7 {f:Nat->Bool} {rows:List (List Value)} {j:Nat} {r:List Value} (h:f j=false) (d:rows[j]? = some r):aoN f rows (j+1)=(aoN f rows j).set j (aqD r):=by
 have hj:=(lE d).1
 apply List.ext_getElem?
 intro i
 by_cases c:j=i
 ·subst c
  rw[List.getElem?_set_self (by rw[ap6];exact hj)]
  unfold aoN
  rw[List.getElem?_mapIdx,d]
  simp[h]
 ·rw[List.getElem?_set_ne c]
  unfold aoN
  rw[List.getElem?_mapIdx,List.getElem?_mapIdx]
  cases rows[i]? with
  | none=>rfl
  | some r=>
   simp only[Option.map_some,Option.some.injEq]
   simp only[show(i<j+1/\f i=false)↔(i<j/\f i=false) from(by constructor <;> rintro ⟨a,b⟩ <;> exact⟨by omega,b⟩)]
theorem aqK {size:Nat} : ∀(rows:List (List Value)) (i:Nat) (r:List Value),(∀x∈rows,x.length=size)->r.length=size->i<rows.length->
  (rows.set i r).flatMap id=(rows.flatMap id).take (i*size)++r++(rows.flatMap id).drop ((i+1)*size)
 | [],_,_,_,_,h=>by simp at h
 | x::l,0,r,hx,hr,_=>by
  have h1:=hx x (by simp)
  rw[List.set_cons_zero,List.flatMap_cons,List.flatMap_cons]
  simp only[id,Nat.zero_mul,List.take_zero,List.nil_append,Nat.zero_add,Nat.one_mul]
  rw[<-h1,List.drop_left]
 | x::l,i+1,r,hx,hr,h=>by
  have h1:=hx x (by simp)
  have f:=aqK l i r (λy j=>hx y (by simp[j])) hr (by simpa using h)
  rw[List.set_cons_succ,List.flatMap_cons,List.flatMap_cons,f]
  have d:(i+1)*size=x.length+i*size:=by rw[Nat.succ_mul,h1];omega
  have g:(i+1+1)*size=x.length+(i+1)*size:=by rw[Nat.succ_mul,h1];omega
  simp only[id]
  rw[g,d,List.take_length_add_append,List.drop_length_add_append]
  rw[<-d]
  simp
theorem apQ {size:Nat} : ∀(rows:List (List Value)) (i k:Nat) (r:List Value),(∀x∈rows,x.length=size)->rows[i]? = some r->k<size->(rows.flatMap id)[i*size+k]? = r[k]?
 | [],_,_,_,_,h,_=>by simp at h
 | x::l,0,k,r,hx,h,hk=>by
  have h1:=hx x (by simp)
  obtain rfl:x=r:=by simpa using h
  rw[List.flatMap_cons]
  simp only[id,Nat.zero_mul,Nat.zero_add]
  rw[List.getElem?_append_left (by omega)]
 | x::l,i+1,k,r,hx,h,hk=>by
  have h1:=hx x (by simp)
  have d:=apQ l i k r (λy f=>hx y (by simp[f])) (by simpa using h) hk
  rw[List.flatMap_cons]
  simp only[id]
  rw[List.getElem?_append_right (by rw[Nat.succ_mul];omega),show(i+1)*size+k - x.length=i*size+k by rw[Nat.succ_mul,h1];omega]
  exact d
theorem ao9 {f:Nat->Bool} {rows:List (List Value)} (h:∀x∈rows,x.length=4) (j:Nat):∀x∈aoN f rows j,x.length=4:=by
 intro x g;obtain⟨i,hi⟩:=List.getElem?_of_mem g;unfold aoN at hi;rw[List.getElem?_mapIdx] at hi;obtain⟨r,d,rfl⟩:=Option.map_eq_some_iff.1 hi;split;·rfl
 ·exact h r (lM d)
theorem used_eq (t:aH) (i:Nat):(t.ins.map (·.exit)).contains (i:Int)=aoS t i:=by
 unfold aoS;rw[Bool.eq_iff_iff,List.contains_iff_mem,List.any_eq_true,List.mem_map];constructor;·rintro ⟨x,d,e⟩;exact⟨x,d,beq_iff_eq.2 e⟩
 ·rintro ⟨x,d,e⟩;exact⟨x,d,beq_iff_eq.1 e⟩
theorem arB {w:World} {B:Nat} {e:TypeId} {size n c:Nat} {A:Option Addr} {xs:List Value} (h:w.ownsRow B e size (.slice A n c) n xs) (l:0<n):∃G,A=some ⟨G,0,none⟩/\B<=G:=by
 rcases h.2 with ⟨_,r⟩ | ⟨g,f,j,d,hb,_⟩;·omega
 ·injection d with d p q
  exact⟨g,d,hb⟩
theorem apU {t:aH} {j:Nat} {y:bX} (h:t.exits[j]? = some y):(oT t).take (j+1)=(oT t).take j++[aoM t j y]:=by refine jJ ?_;unfold oT;rw[List.getElem?_mapIdx,h];rfl
theorem aoW {g:Nat} : ∀(vs:List Value) (o:Nat) (w:World) (k:Nat),k≠g->(w.setCells g o vs).heap[k]? = w.heap[k]?
 | [],_,_,_,_=>rfl
 | v::r,o,w,k,h=>by
  rw[World.setCells,aoW r (o+1) _ k h]
  exact heap_setCell_other w ⟨g,o,none⟩ k v (by show k≠g;exact h)
theorem apY {w:World} {B g:Nat} {e:TypeId} {size n:Nat} {v:Value} {xs:List Value} (h:w.ownsRow B e size v n xs) (f:v.ownBlock≠some g) (i:Nat) (u:Value):(w.setCell ⟨g,i,none⟩ u).ownsRow B e size v n xs:= h.kept (row:=some g) ⟨rfl,rfl,rfl,by simp[World.setCell],λk _ d=>Below.heap_setCell _ _ _ _ (λe=>d (by rw[e]))⟩ (.inr f)
theorem arK {w:World} {B G n c size i:Nat} {e:TypeId} {xs:List Value} (h:w.ownsRow B e size (.slice (some ⟨G,0,none⟩) n c) n xs) (hi:i<n):w.there G (i*size) size:=by
 rcases h.2 with ⟨d,_⟩ | ⟨u,f,p,d,hb,j,l,v,x,y⟩;·cases d
 ·injection d with d r s
  injection d with d
  injection d with d
  subst d;refine rY j ?_;have g:(i+1)*size<=n*size:=Nat.mul_le_mul_right size hi;have q:n*size<=f*size:=Nat.mul_le_mul_right size l;rw[Nat.succ_mul] at g;omega
theorem ao3 {n:Nat} {x:bX} (h:tQ n x):∀v∈v9 x,0<=v/\v<(n:Int):=by
 intro v hv;rcases List.mem_append.1 hv with hv | hv;·obtain⟨s,f,rfl⟩:=List.mem_map.1 hv;exact h.1 s f
 ·obtain⟨m,d,hv⟩:=List.mem_flatMap.1 hv;rcases List.mem_cons.1 hv with rfl | hv;·exact(h.2 m d).1
  ·exact(h.2 m d).2 v hv
theorem arF {n:Nat} {t:aH} {j:Nat} {x:bX} (h:tQ n x):tQ n (aoM t j x):=by
 unfold aoM;split;·exact h
 ·exact⟨λs d=>by simp at d,λm f=>by simp at f⟩
theorem apJ {t:aH} {j:Nat} {x:bX} (h:acK x):acK (aoM t j x):=by
 unfold aoM;split;·exact h
 ·exact⟨by simp,by simp,λm d=>by simp at d⟩
theorem ao4 {P:Program} {c:Code} {Q:Exit->Act->World->Prop} {a:Act} {w:World} (h:c.wp P (λe a w=>(∀x,e≠.panic x)/\Q e a w) a w):c.wp P Q a w:= Code.wp_mono (λ_ _ _ h=>h.2) h
theorem ap9 {w:World} {base:Nat} {e:TypeId} {A:Option Addr} {c:Nat} {xs:List bX} {rows:List (List Value)} (h:w.ownsRow base e 4 (.slice A xs.length c) xs.length (rows.flatMap id)) (v:∀r∈rows,r.length=4) (y:∀(j:Nat) (x:bX),xs[j]? = some x->∃r,rows[j]? = some r/\fM w w.heap.size r x):aB w w.heap.size 4 (fM w w.heap.size) (.slice A xs.length c) xs:=by
 rcases h.2 with ⟨d,D⟩ | ⟨g,H,I,d,hb,E,h1,F,L,M⟩;·have:xs=[]:=List.length_eq_zero_iff.1 D;subst this;rw[d];exact aB.nil _ _ _ _
 ·injection d with d K z
  subst d;subst z;refine⟨_,_,rfl,h1,F,λJ=>⟨g,0,rfl,(aE E).1,λi x hi=>?_⟩⟩;obtain⟨r,f,q⟩:=y i x hi;have G:=(lE hi).1;have l:=v r (lM f);refine⟨r,l,q,λk u s=>?_⟩;have p:k<4:=by have:=(lE s).1;omega
  rw[Nat.zero_add,World.ownsRow.cellAt h (i*4+k) (by omega),apQ rows i k r v f p];exact s
theorem arD {w:World} {B:Nat} {t:aH} {rows:List (List Value)} {j n:Nat} {y:bX} {r:List Value} (l:rows[j]? = some r) (hj:j<n) (u:fM w B r y):∃h,(aoN (aoS t) rows n)[j]? = some h/\fM w B h (aoM t j y):=by
 obtain⟨s,m,rfl,p,q,f,g⟩:=u;cases d:aoS t j
 ·refine⟨[.int .i64 y.at_,.int .i64 y.steps,.slice none 0 0,.slice none 0 0],?_,?_⟩;·unfold aoN;rw[List.getElem?_mapIdx,l];simp[hj,d,aqD]
  ·unfold aoM;rw[d];exact⟨_,_,rfl,aB.nil _ _ _ _,aB.nil _ _ _ _,f,g⟩
 ·refine⟨[.int .i64 y.at_,.int .i64 y.steps,s,m],?_,?_⟩;·unfold aoN;rw[List.getElem?_mapIdx,l];simp only[Option.map_some];rw[if_neg (by simp[d])]
  ·unfold aoM;rw[d];exact⟨_,_,rfl,p,q,f,g⟩
theorem aqF {t:aH} (h:aa1 t):aa1 (i9 t):=by
 refine⟨h.ins,?_,λx g=>?_,h.turn,h.back⟩
 ·show(oT t).length<=200
  unfold oT
  rw[List.length_mapIdx]
  exact h.exitsLen
 ·have d:x∈oT t:=g
  unfold oT at d
  obtain⟨j,hj⟩:=List.getElem?_of_mem d
  rw[List.getElem?_mapIdx] at hj
  cases f:t.exits[j]? with
  | none=>rw[f] at hj;cases hj
  | some y=>
   rw[f] at hj
   injection hj with hj
   subst hj
   exact apJ (h.exits y (lM f))
theorem ap8 {w0 w:World} {B0:Nat} {ca:List Value} {t:aH} (h:bI w0 B0 ca t) (hB:B0<=w.heap.size) (l:∀p:Addr,p.block<B0->w.cell? p=w0.cell? p) {u:Value} {xs:List bX} (q:aB w w.heap.size 4 (fM w w.heap.size) u xs) : bI w w.heap.size (ca.set 4 u) { t with exits:=xs }:=by obtain⟨i,e,d,cb,h1,f,r,g,j⟩:=h.keep hB l;exact⟨i,u,d,cb,by rw[h1];rfl,f,q,g,j⟩
theorem z9.own {a:Nat} {o:Option Nat} {w w':World} (k:z9 a o w w') {B n size:Nat} {e:TypeId} {v:Value} {xs:List Value} (h:w.ownsRow B e size v n xs) (l:∀G,v.ownBlock=some G->G≠a/\o≠some G):w'.ownsRow B e size v n xs:=by
 obtain⟨hl,j⟩:=h;refine⟨hl,?_⟩;rcases j with ⟨rfl,p⟩ | ⟨g,d,f,rfl,hb,q,h1⟩;·exact .inl ⟨rfl,p⟩
 ·have:=l g rfl;exact .inr ⟨g,d,f,rfl,hb,k.row q this.1 this.2,h1⟩
theorem aq9 {w:World} {D:Nat} {f:Option (List Deferred)} (h:w.heap[D]? = some (.deferred f)) (p:Addr):(w.putObj D (.deferred none)).cell? p=w.cell? p:=by
 have d:=(aE h).1;unfold World.cell?;by_cases c:p.block=D;·rw[c,h,World.putObj_heap_same d]
 ·rw[World.putObj_heap_other c]
theorem aqX {B:Nat} {w0 w:World} (k:Below B w0 w) {D:Nat} (d:B<=D) (f:B<=w.heap.size):Below B w0 (w.putObj D (.deferred none)):= k.grown (grownBy_putObj' w D _) f (λj e=>by cases e;exact d)
theorem apC (t:aH):∀(i:Nat) (d f:List Int),i<=t.ins.length->(∀v∈f,-1<=v/\v<(t.ins.length:Int))->∀v∈aoO t i d f,-1<=v/\v<(t.ins.length:Int)
 | 0,_,_,_,h=>h
 | i+1,d,f,hi,h=>by
  unfold aoO
  rw[lG (by omega)]
  dsimp only
  split
  ·exact apC t i _ _ (by omega) (λv hv=>by rcases List.mem_cons.1 hv with rfl | hv;exact⟨by omega,by omega⟩;exact h v hv)
  ·exact apC t i _ _ (by omega) (λv hv=>by rcases List.mem_cons.1 hv with rfl | hv;exact⟨by omega,by omega⟩;exact h v hv)
theorem aq6 {t:aH} (f:t.ins.length<=300):∀v∈a9 t,wfi v:=λv d=>by
 have:=apC t t.ins.length (ao1 t) [] (Nat.le_refl _) (λv d=>by cases d) v d
 unfold wfi;omega
end
section
open Go.RowKit
section
variable {P:Program} {ops:Array Oper} {md:Region.Mode} {C:World->Prop} {Q:Exit->Act->World->Prop} {lo n:Nat}
def aoT (o:Oper):Bool:=match o.op with
 | .defer _=>false
 | _=>true
theorem aqB {o:Oper} (h:aoT o=true):∀c,o.op≠.defer c:=λc e=>by unfold aoT at h;rw[e] at h;cases h
theorem aqH {n:Nat} {row:String} {args:Array Value} {w:World} {R:Value->World->Prop} (h:Rows P row args w R):RowsIn (Fence.wide.inRound lo) n P row args w R:=λc cs _=>by
 obtain⟨v,w',h1,d⟩:=h c cs
 exact⟨v,w',h1,stepsIn_wide.2 d⟩
theorem apN {o:Oper} (d:aoT o=true) (hl:¬LetsOut Q) {a:Act} {w:World} {K:Act->World->Prop} (h:o.wp P a w K Q\/(o.asks P a w/\LetsOut Q)):o.wpIn (Fence.wide.inRound lo) n P a w K Q:=by
 rcases h with h | h
 ·unfold Oper.wpIn;refine⟨λ_ _=>trivial,?_⟩;rw[Oper.semAt_plain _ _ _ (aqB d)];unfold Oper.wp at h;generalize (execOp a.eval o).run P w=r at *;cases r with
  | ok x w'=>
   cases x <;> simp only[Oper.upon,Oper.uponIn] at h ⊢ <;>
    first
     | exact h
     | exact⟨λh=>(by cases h),CallsIn.inRound lo (callsIn_wide.2 h)⟩
     | exact⟨λh=>(by cases h),aqH h⟩
  | halt x w'=>cases x <;> simp only[Oper.upon,Oper.uponIn] at h ⊢ <;> exact h
 ·exact absurd h.2 hl
theorem aqQ (hl:¬LetsOut Q) {i:Nat} (j:∀o:Oper,ops[i]? = some o->aoT o=true) {a:Act} {w:World} {K g:Act->World->Prop} (d:∀a w,K a w->g a w) (h:wpOp P ops Q i K a w):wpOpIn (Fence.wide.inRound lo) n P ops Q i g a w:=by
 unfold wpOp at h;unfold wpOpIn;cases f:ops[i]? with
 | none=>rw[f] at h;exact d _ _ h
 | some o=>
  rw[f] at h
  dsimp only at h ⊢
  by_cases c:Region.wanted o (yielded ops a.tmps)=true
  ·rw[if_pos c] at h ⊢
   exact Oper.wpIn_mono d (apN (j o f) hl h)
  ·rw[if_neg c] at h ⊢
   exact⟨λ_ _=>trivial,d _ _ h⟩
theorem apE (hl:¬LetsOut Q) (g:∀(i:Nat) (o:Oper),ops[i]? = some o->aoT o=true):∀(f:Nat) (d:Array Bool) (a:Act) (w:World),wpAny P md ops Q f d a w->wpAnyIn (Fence.wide.inRound lo) n P md ops Q f d a w
 | 0,_,_,_,h=>h
 | f+1,d,_,_,h=>⟨h.1,λi hi=>aqQ hl (g i) (apE hl g f _) (h.2 i hi)⟩
theorem aoZ (hl:¬LetsOut Q):∀(l:List Oper) (a:Act) (w:World),(l.all aoT)=true->wpList P ops Q l a w->wpListIn (Fence.wide.inRound lo) n P ops Q l a w
 | [],_,_,_,h=>h
 | o::r,a,w,hd,h=>by
  rw[List.all_cons,Bool.and_eq_true] at hd
  unfold wpList at h
  unfold wpListIn
  by_cases c:Region.wanted o (yielded ops a.tmps)=true
  ·rw[if_pos c] at h ⊢
   exact Oper.wpIn_mono (λa w h=>aoZ hl r a w hd.2 h) (apN hd.1 hl h)
  ·rw[if_neg c] at h ⊢
   exact⟨λ_ _=>trivial,aoZ hl r _ _ hd.2 h⟩
theorem aqO {l:List Oper} (h:l.all aoT=true):∀(i:Nat) (o:Oper),l.toArray[i]? = some o->aoT o=true:=λi o d=>List.all_eq_true.1 h o (by
 rw[List.getElem?_toArray] at d
 exact lM d)
theorem apA {id:Nat} {l:List Oper} {a:Act} {w:World} (hl:¬LetsOut Q) (d:l.all aoT=true) (h:wpList P l.toArray Q l a w):(Code.region id l.toArray false).wpIn (Fence.wide.inRound lo) n P Q a w:= wpIn_region_lit (aoZ hl l a w d h)
theorem arG {a:Act} {w:World} {l:List Oper} (C:World->Prop) (qs ms fl:List Nat) (hB:aj5 .any l.toArray qs ms fl=true) (z:∀(c:_) (a:Act) (d:Option Tmp) (v:Value) (w:World),Q (.panic c) (a.put d v) w->Q (.panic c) a w) (A:C w.drew) (h:wpQuiet P l.toArray C (λu=>gT P l.toArray C (λj=>qs.contains j || fl.contains j) Q ms u w.drew) (qs.filterMap (l.toArray[·]?)) a):wpAny P .any l.toArray Q l.toArray.size (Array.replicate l.toArray.size false) a w.drew:=by
 simp only[aj5,Bool.and_eq_true,decide_eq_true_eq] at hB;obtain⟨⟨⟨q,f⟩,g⟩,r⟩:=hB;have H:=uB (md:=.any) (qs0:=qs) (ms:=ms) (F:=λj=>qs.contains j || fl.contains j) (Q:=Q) q z (λs i j hi x y hj=>by
  by_cases p:j∈qs;·simp[p]
  ·exact pZ f x hi y hj p) A qs (Array.replicate l.toArray.size false) a (λ_ h=>h) (by
  intro j D _ hl;rw[getD_replicate_false] at hl;cases hl) g h
 rw[r] at H;exact nP _ _ _ _ H
theorem ao6 {id:Nat} {a:Act} {w:World} {l:List Oper} (hl:¬LetsOut Q) (C:World->Prop) (m:Nat) (ms fl:List Nat) (g:P.follows .mixedOrders=true) (p:m<=l.length) (q:l.all aoT=true) (hB:aj5 .any l.toArray (List.range m) ms fl=true) (r:∀(c:_) (a:Act) (d:Option Tmp) (v:Value) (w:World),Q (.panic c) (a.put d v) w->Q (.panic c) a w) (s:C w.drew) (h:wpQuiet P l.toArray C (λf=>gT P l.toArray C (λj=>(List.range m).contains j || fl.contains j) Q ms f w.drew) (l.take m) a):(Code.region id l.toArray true).wpIn (Fence.wide.inRound lo) n P Q a w:= wpIn_region_any g (apE hl (aqO q) _ _ _ _ (arG C (List.range m) ms fl hB r s (by rw[v7 l m p];exact h)))
end
theorem aqI {F:Fence} {n:Nat} {P:Program} {α : Type} {g:Operand} {M:Array Tmp} {f z:Code} {Q:Exit->Act->World->Prop} {a:Act} {w:World} (R:F.round=none) (h1:1<=n) {gf:Nat} {lb:Array Value} (hg:a.eval g=.func (.func gf) #[] lb) (V:F.fn gf) (eg:∀args w,(callFunc gf args).run P w=.ok (.enter gf args) w) {q : α->Array Value} {s:World->World->Prop} {S X:List α->Prop} {N:Nat} {w0:World} (O:SeqStopsK F (n - 1) P gf lb q s S X N w0) (Y:∀ {A B C:World},s A B->s B C->s A C) (Z:∀(W:World) (l:Nat) (o o':Obj),w.heap.size<=l->W.heap[l]? = some o->o.isCells=false->o.isWalk=false->s W (W.putObj l o')) (a0:Below w0.heap.size w0 w) (a1:∀x,(q x).size=M.size) (I:List α->World->Prop) (E:Code->List α->World->Prop) (hI:OwnFrom w.heap.size I) (a2:∀c,OwnFrom w.heap.size (E c)) (h0:I [] w) (G:Act->α->Act->World->Prop) (a3:∀x j,OwnFrom w.heap.size (λ(_:Unit) W=>G a x j W)) (u:∀(l:Nat) (d:List α) (x : α) (W:World) (K:Act->World->Prop),I d W->(∀j y,KeepsFrom w.heap.size W y->s W y->I d y->G a x j y->K j y)-> f.wpIn (F.inRound l) (n - 1 - 1) P (Exit.then K (λ_ _ _=>False)) { tmps:=(M.zip (q x)).foldl (λt (p,v)=>t.setIfInBounds p v) a.tmps,defers:=[] } W) (H:∀(l:Nat) (d:List α) (x : α) (j:Act) (W:World),w.heap.size<=l->(∃r,W.heap[l]? = some (.loop r))->I d W->G a x j W->d.length<N->z.wpIn (F.inRound l) (n - 1 - 1) P (ownPostG w.heap.size s I E (d++[x]) W) j W) (J:∀(D:Nat) (xs:List α) (W:World),w.heap.size<=D->S xs->I xs W->W.heap[D]? = some (.deferred (some []))->Q .normal { a with defers:={ target:=.collected D,args:=#[] }::a.defers } W) (L:∀(D:Nat) (c:Code) (d:List α) (W:World),w.heap.size<=D->X d->E c d W->W.heap[D]? = some (.deferred (some []))->c.wpIn F n P Q { a with defers:={ target:=.collected D,args:=#[] }::a.defers } W) : (Code.rangeFunc g M f z).wpIn F n P Q a w:= wpIn_rangeFunc_ownH R h1 hg V eg O (λh k=>Y h k) Z a0 a1 I E hI a2 h0 (G a) a3 u H J L
end
end Go.Proofs.YtijihlcdhppfgaaGreatDoor
