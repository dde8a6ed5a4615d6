/- A part of the walk. -/
import Derived.Test.YtjaphgpkkfdaaaaGreatDoorZI
import Derived.Sort.Row
import Derived.DeepKeys4
import Derived.Maps.OwnSet
set_option maxHeartbeats 16000000
set_option maxRecDepth 100000
set_option linter.all false
namespace Go.Proofs.YtjaphgpkkfdaaaaGreatDoor
open Tryz
section
open Go.RowKit
theorem bV {w:World} {B:Nat} {e:TypeId} {size n:Nat} {v:Value} {xs:List Value} (d:w.ownsRow B e size v n xs):∃A c,v=.slice A n c:=by
 rcases d.2 with ⟨e,f⟩ | ⟨g,h,_,e,_⟩;·subst f;exact⟨_,_,e⟩
 ·exact⟨_,_,e⟩
theorem mO {w w':World} {B B':Nat} {e:TypeId} {size n:Nat} {v:Value} {xs:List Value} (f:w.ownsRow B e size v n xs) (d:w.grownBy w' v.ownBlock) (h:B'<=B) (i:B'<=w.heap.size):Below B' w w':= ⟨d.os,d.tape,d.output,d.size,λk g=>d.block k (by omega) (λe=>by have:=(jD f k e.symm).1;omega)⟩
theorem o5 {α : Type} {l:List α} {k:Nat} {x : α} (h:l[k]? = some x):l.take (k+1)=l.take k++[x]:=by obtain⟨d,e⟩:=lE h;rw[List.take_succ_eq_append_getElem d,e]
theorem vT {size:Nat} : ∀(rows:List (List Value)),(∀r∈rows,r.length=size)->(rows.flatMap id).length=rows.length*size
 | [],_=>by simp
 | r::l,h=>by
  rw[List.flatMap_cons,List.length_append,vT l (λx d=>h x (by simp[d])),List.length_cons,Nat.succ_mul]
  have:=h r (by simp)
  show r.length+_=_
  omega
theorem b9 {size:Nat} : ∀(rows:List (List Value)) (i k:Nat) (r:List Value),(∀r∈rows,r.length=size)->rows[i]? = some r->k<size->(rows.flatMap id)[i*size+k]? = r[k]?
 | [],_,_,_,_,h,_=>by simp at h
 | y::l,0,k,r,hl,h,hk=>by
  obtain rfl:y=r:=by simpa using h
  have:=hl y (by simp)
  rw[List.flatMap_cons,List.getElem?_append_left (by show _<y.length;omega)];simp
 | y::l,i+1,k,r,hl,h,hk=>by
  have:=hl y (by simp)
  rw[List.flatMap_cons,List.getElem?_append_right (by show y.length<=_;rw[Nat.succ_mul];omega),show(i+1)*size+k - (id y).length=i*size+k by rw[Nat.succ_mul];show _ - y.length=_;omega]
  exact b9 l i k r (λx d=>hl x (by simp[d])) (by simpa using h) hk
theorem j5 {α : Type} {w:World} {base size:Nat} {e:TypeId} {A:Option Addr} {c:Nat} {rows:List (List Value)} {xs:List α} {R:List Value->α->Prop} (h:w.ownsRow base e size (.slice A xs.length c) xs.length (rows.flatMap id)) (hl:rows.length=xs.length) (j:∀r∈rows,r.length=size) (q:∀(i:Nat) (r:List Value) (x : α),rows[i]? = some r->xs[i]? = some x->R r x) : aH w w.heap.size size R (.slice A xs.length c) xs:=by
 rcases h.2 with ⟨d,v⟩ | ⟨g,E,F,d,hb,y,z,C,I,J⟩;·have:xs=[]:=List.length_eq_zero_iff.1 v;subst this;rw[d];exact aH.nil _ _ _ _
 ·injection d with d H s
  subst d;subst s;refine⟨_,_,rfl,z,C,λG=>⟨g,0,rfl,(aE y).1,λi x hi=>?_⟩⟩;have D:=(lE hi).1;have f:rows[i]? = some (rows[i]'(by omega)):=lG (by omega);refine⟨_,j _ (lM f),q i _ x f hi,λk u p=>?_⟩;have l:k<size:=by have:=(lE p).1;have:=j _ (lM f);omega
  have m:i*size+k<xs.length*size:=by have:(i+1)*size<=xs.length*size:=Nat.mul_le_mul_right _ (by omega);rw[Nat.succ_mul] at this;omega
  rw[Nat.zero_add,World.ownsRow.cellAt h (i*size+k) m,b9 rows i k _ j f l];exact p
theorem vP {w:World} {base:Nat} {e:TypeId} {A:Option Addr} {c:Nat} {xs:List Int} (h:w.ownsRow base e 1 (.slice A xs.length c) xs.length (xs.map (.int .i64))) (j:∀x∈xs,wfi x):aH w w.heap.size 1 hY (.slice A xs.length c) xs:=by
 have g:∀l:List Int,(l.map λx=>[Value.int .i64 x]).flatMap id=l.map (.int .i64):=λl=>by
  induction l with
  | nil=>rfl
  | cons y l ih=>rw[List.map_cons,List.flatMap_cons,ih];rfl
 refine j5 (rows:=xs.map λx=>[.int .i64 x]) (by rw[g];exact h) (by simp) (by simp) ?_
 ·intro i r x d f;rw[List.getElem?_map,f] at d;injection d with d
  exact⟨d.symm,j x (lM f)⟩
section
open Go.Sort
theorem vW {α : Type} [Inhabited α] {w:World} {g e:Nat} {enc : α->Value} {d:Array α} {f:Array Value} {t:TypeId} {i:Nat×Nat} (h:w.heap[g]? = some (.cells f t i)):(putRow enc w g e d).heap[g]? = some (.cells (putCells enc e d f) t i):=by simp[putRow,mapBlock,Array.getElem?_modify,h,onCells]
theorem uQ {α : Type} [Inhabited α] {w:World} {g k e:Nat} {enc : α->Value} {d:Array α} (h:k≠g):(putRow enc w g e d).heap[k]? = w.heap[k]?:=by simp[putRow,mapBlock,Array.getElem?_modify,Ne.symm h]
theorem vV {α : Type} [Inhabited α] {w:World} {g e:Nat} {enc : α->Value} {d:Array α} : (putRow enc w g e d).heap.size=w.heap.size:=by simp[putRow,mapBlock]
theorem vX {α : Type} [Inhabited α] {enc : α->Value} {d:Array α} {c:Array Value} {j:Nat} (f:j<d.size) (g:d.size<=c.size):(putCells enc 0 d c)[j]? = some (enc d[j]!):=by
 have e:j<c.size:=by omega
 simp[putCells,Array.getElem?_mapIdx,e,f]
end
end
section
def kF (l:List aT) (K:Nat):Prop:=∀j x,1<=j->j<=K->l[j]? = some x->0<=x.up/\x.up<j
def upN (l:List aT) (s:Int):List Int:=upM l (s.toNat+1) s
theorem vL {l:List aT} {K:Nat} (h:kF l K):∀(f g:Nat) (s:Int),s<=K->s.toNat<f->s.toNat<g->upM l f s=upM l g s
 | 0,_,_,_,h1,_=>by omega
 | _+1,0,_,_,_,h2=>by omega
 | f+1,g+1,s,hs,h1,h2=>by
  unfold upM
  by_cases c:s<=0
  ·rw[if_pos c,if_pos c]
  ·rw[if_neg c,if_neg c]
   cases e:l[s.toNat]? with
   | none=>rfl
   | some x=>
    have:=h s.toNat x (by omega) (by omega) e
    dsimp only
    rw[vL h f g x.up (by omega) (by omega) (by omega)]
theorem lZ {l:List aT} {s:Int} (h:s<=0):upN l s=[]:=by unfold upN upM;rw[if_pos h]
theorem qW {l:List aT} {K:Nat} (h:kF l K) {s:Int} (g:0<s) (i:s<=K) {x:aT} (d:l[s.toNat]? = some x):upN l s=x.name::upN l x.up:=by
 have f:=h s.toNat x (by omega) (by omega) d;have e:upN l s=x.name::upM l s.toNat x.up:=by unfold upN;rw[upM];rw[if_neg (by omega),d]
 rw[e];unfold upN;rw[vL h s.toNat (x.up.toNat+1) x.up (by omega) (by omega) (by omega)]
theorem xM (l:List aT) (s:Int):lA l s=(upN l s).reverse:=rfl
theorem yS {l:List aT} {K:Nat} (h:kF l K):∀(n:Nat) (s:Int),s<=n->s<=K->(upN l s).length<=n
 | 0,s,h1,_=>by rw[lZ (by omega)];simp
 | n+1,s,h1,h2=>by
  by_cases c:s<=0
  ·rw[lZ c];simp
  ·cases e:l[s.toNat]? with
   | none=>unfold upN upM;rw[if_neg c,e];simp
   | some x=>
    have:=h s.toNat x (by omega) (by omega) e
    rw[qW h (by omega) h2 e,List.length_cons]
    have:=yS h n x.up (by omega) (by omega)
    omega
theorem yR {l:List aT} {K:Nat} (h:kF l K):∀(n:Nat) (s:Int),s<=n->s<=K->∀y∈upN l s,∃x∈l,x.name=y
 | 0,s,h1,_,y,hy=>by rw[lZ (by omega)] at hy;cases hy
 | n+1,s,h1,h2,y,hy=>by
  by_cases c:s<=0
  ·rw[lZ c] at hy;cases hy
  ·cases e:l[s.toNat]? with
   | none=>unfold upN upM at hy;rw[if_neg c,e] at hy;cases hy
   | some x=>
    have:=h s.toNat x (by omega) (by omega) e
    rw[qW h (by omega) h2 e] at hy
    rcases List.mem_cons.1 hy with rfl | hy
    ·exact⟨x,lM e,rfl⟩
    ·exact yR h n x.up (by omega) (by omega) y hy
def iR (l:List aT) (k:Nat) (seen:List aT) (s:aT):Bool:=decide (s.up<0) || decide ((k:Int)<s.up) || decide (s.name<0) || decide (s∈seen) || decide (s.name∈lA l s.up)
theorem iX (l:List aT) (k:Nat) (seen:List aT) (s:aT) (r:List aT):dE l k seen (s::r)=(!iR l k seen s && dE l (k+1) (seen++[s]) r):=rfl
theorem lO {l:List aT} {k:Nat} {seen:List aT} {s:aT} {r:List aT} (h:iR l k seen s=true):dE l k seen (s::r)=false:=by rw[iX,h];rfl
theorem sT {l:List aT} {k:Nat} {seen:List aT} {s:aT} {r:List aT} (h:iR l k seen s=false):dE l k seen (s::r)=dE l (k+1) (seen++[s]) r:=by rw[iX,h];rfl
theorem kF.next {l:List aT} {k:Nat} (h:kF l k) {s:aT} (f:l[k+1]? = some s) (i:¬s.up<0) (m:¬(k:Int)<s.up):kF l (k+1):=by
 intro j x e g d;by_cases c:j=k+1
 ·subst c;rw[f] at d;injection d with d;subst d
  omega
 ·exact h j x e (by omega) d
theorem l8 {l:List aT} : ∀(r seen:List aT) (k:Nat),(∀i x,r[i]? = some x->l[k+1+i]? = some x)->l.length=k+1+r.length->kF l k->dE l k seen r=true->kF l (l.length - 1)
 | [],_,k,_,hl,hu,_=>by
  rw[hl];simpa using hu
 | s::r,seen,k,hi,hl,hu,hf=>by
  rw[iX,Bool.and_eq_true] at hf
  obtain⟨f,h⟩:=hf
  unfold iR at f
  simp only[Bool.not_eq_true',Bool.or_eq_false_iff,decide_eq_false_iff_not] at f
  obtain⟨⟨⟨⟨a,b⟩,c⟩,d⟩,e⟩:=f
  have g:=hi 0 s rfl
  exact l8 r (seen++[s]) (k+1) (λi x j=>by
   have:=hi (i+1) x (by simpa using j)
   rwa [show k+1+(i+1)=k+1+1+i by omega] at this) (by rw[hl,List.length_cons];omega) (hu.next (by simpa using g) a b) h
theorem mB {l:List aT} (h:bT l=0):kF l (l.length - 1)/\l.length<=100/\0<l.length:=by
 unfold bT at h;split at h;·cases h
 ·rename_i f;split at h;·cases h
  ·rename_i x r;split at h;·cases h
   ·split at h;·rename_i d;refine⟨l8 r [] 0 (λi x e=>by rw[show 0+1+i=i+1 by omega];simpa using e) (by simp;omega) (λj y f d=>by omega) d,by omega,by simp⟩
    ·cases h
end
section
open Go.RowKit Go.Maps
section
variable {κ : Type} (lit : κ->Lit)
def jB (l:List κ):DataW Unit:=l.foldl (λd k=>d.put (lit k) (.lit (.int .i64 1))) (.map [])
theorem nM (l:List κ) (k : κ):jB lit (l++[k])=(jB lit l).put (lit k) (.lit (.int .i64 1)):=by simp[jB,List.foldl_append]
variable {lit}
theorem rB {k : κ} (j:WideAt.IsKeyLit (lit k)) (z:DataW Unit):∀(l:List κ),(∀q∈l,lit k=lit q->k=q)->∀(D:DataW Unit),IsMap D->
  (k∈l->(l.foldl (λd k=>d.put (lit k) (.lit (.int .i64 1))) D).atKey (lit k) z=.lit (.int .i64 1))/\
  (k∉l->(l.foldl (λd k=>d.put (lit k) (.lit (.int .i64 1))) D).atKey (lit k) z=D.atKey (lit k) z)
 | [],_,D,_=>⟨λh=>by simp at h,λ_=>rfl⟩
 | x::l,hi,D,h=>by
  rw[List.foldl_cons]
  obtain⟨m,i⟩:=rB j z l (λq p=>hi q (List.mem_cons_of_mem _ p)) _ (h.put (lit x) (.lit (.int .i64 1)))
  refine⟨λf=>?_,λf=>?_⟩
  ·by_cases g:k∈l
   ·exact m g
   ·rw[i g]
    rcases List.mem_cons.1 f with h2 | h2
    ·subst h2
     exact atKey_put_same h j _ _
    ·exact absurd h2 g
  ·rw[i (λh=>f (List.mem_cons_of_mem _ h))]
   exact atKey_put_other (λe=>f (hi x List.mem_cons_self e ▸ List.mem_cons_self)) _ _
theorem tI {k : κ} (d:WideAt.IsKeyLit (lit k)) {l:List κ} (hi:∀q∈l,lit k=lit q->k=q) (h:k∈l):(jB lit l).atKey (lit k) (.lit (.int .i64 0))=.lit (.int .i64 1):=(rB d _ l hi _ isMap_empty).1 h
theorem rA {k : κ} (d:WideAt.IsKeyLit (lit k)) {l:List κ} (hi:∀q∈l,lit k=lit q->k=q) (h:k∉l):(jB lit l).atKey (lit k) (.lit (.int .i64 0))=.lit (.int .i64 0):=(rB d _ l hi _ isMap_empty).2 h
end
def mZ (n:Int):Lit:=.int .i64 n
theorem v6 {a b:Int} (h:mZ a=mZ b):a=b:=by unfold mZ at h;injection h
theorem xQ:Keyed prog 3:=int_keyed underlying3
theorem zE {n:Int} (h:wfi n):(Lit.int .i64 n).wf=true:=by unfold wfi at h;simp[Lit.wf,IntKind.min,IntKind.max,IntKind.signed,IntKind.bits];omega
theorem nT {n:Int} (h:wfi n):keyOf prog 3 (.int .i64 n)=some (mZ n):=keyOf_int_mk underlying3 (zE h)
theorem aaL {n:Int} {l:List Int} (h:n∈l):(jB mZ l).atKey (mZ n) (.lit (.int .i64 0))=.lit (.int .i64 1):=tI (lit:=mZ) (show WideAt.IsKeyLit (mZ n) from trivial) (λ_ _ e=>v6 e) h
theorem xE {n:Int} {l:List Int} (h:n∉l):(jB mZ l).atKey (mZ n) (.lit (.int .i64 0))=.lit (.int .i64 0):=rA (lit:=mZ) (show WideAt.IsKeyLit (mZ n) from trivial) (λ_ _ e=>v6 e) h
def jP (s:aT):Value:=.agg #[.int .i64 s.up,.int .i64 s.name]
theorem xC {s t:aT} (h:jP s=jP t):s=t:=by obtain⟨a,b⟩:=s;obtain⟨c,d⟩:=t;unfold jP at h;simp only[Value.agg.injEq,Array.mk.injEq,List.cons.injEq,Value.int.injEq,true_and,and_true] at h;obtain⟨rfl,rfl⟩:=h;rfl
theorem laidS:laidOutB prog=true:=by kernel_rfl
theorem ab9:(51:TypeId)<prog.types.size:=of_decide_eq_true (by kernel_rfl)
theorem aaI:(match prog.underlying 51 with | some (.array _ _) | some (.struct _)=>true | _=>false)=true:=by kernel_rfl
theorem mA:Keyed prog 51:=Keyed.of_law (deep_law_laid laidS (m:=3) (by omega) ab9 (by kernel_rfl) aaI)
theorem zB (d:Nat) {n:Int} (h:wfi n):prog.keyLits (d+1) 3 [.int .i64 n]=some [.int .i64 n]:=by unfold Program.keyLits;simp[underlying3,zE h]
theorem qJ {P : Program} {d : Nat} {t : TypeId} {g : Array Field} {cs : List Value} (h : P.underlying t = some (.struct g)) (i : cs.length = P.cellsOf t) (j : g.all (·.name != "_") = true) : P.keyLits (d+1) t cs=(g.toList.mapM fun f=>P.keyLits d f.type ((cs.drop f.offset).take (P.cellsOf f.type))).map List.flatten:=by
 conv=>lhs;unfold Program.keyLits
 split;all_goals (first | (rename_i e;rw[h] at e;cases e;done) | (rename_i e _;rw[h] at e;cases e;done) | skip)
 ·rename_i l m e;rw[h] at e;injection e with e
  injection e with e
  subst e;rw[if_pos ⟨i,j⟩]
 ·simp_all
theorem cS1:prog.cellsOf 3=1:=by kernel_rfl
theorem cS2:prog.cellsOf 51=2:=by kernel_rfl
def fW (s:aT):Prop:=wfi s.up/\wfi s.name
theorem wD {s:aT} (h:fW s):∃l,keyOf prog 51 (jP s)=some l:=by
 obtain⟨i,j⟩:=h;have e:prog.keyType 51=true:=by kernel_rfl
 have f:(jP s).formed prog 51=true:=by unfold jP;simp[Value.formed,underlying51,cS2]
 obtain⟨d,m⟩:∃d,prog.types.size+1=d+1+1+1:=⟨prog.types.size - 2,by have:2<=prog.types.size:=of_decide_eq_true (by kernel_rfl);omega⟩;have g:∃L,prog.keyLits (d+1+1+1) 51 (jP s).cells.toList=some L:=by unfold jP;rw[qJ underlying51 (by rw[cS2];rfl) (by simp)];simp[cS1,Value.cells,zB (d+1) i,zB (d+1) j]
 obtain⟨L,p⟩:=g;refine⟨.string (keyBytes L),?_⟩;unfold keyOf;rw[underlying51];simp only[];rw[e,f,m,p];rfl
noncomputable def pJ (s:aT):Lit:=(keyOf prog 51 (jP s)).getD (.int .i64 0)
theorem iF {s:aT} (h:fW s):keyOf prog 51 (jP s)=some (pJ s):=by obtain⟨l,hl⟩:=wD h;unfold pJ;rw[hl];rfl
theorem vZ {s t:aT} (d:fW s) (ht:fW t) (h:pJ s=pJ t):s=t:= xC (mA.inj (iF d) (by rw[h];exact iF ht))
theorem aaK {s:aT} {l:List aT} (d:fW s) (hl:∀x∈l,fW x) (h:s∈l):(jB pJ l).atKey (pJ s) (.lit (.int .i64 0))=.lit (.int .i64 1):=tI (lit:=pJ) (mA.key (iF d)) (λq f e=>vZ d (hl q f) e) h
theorem xD {s:aT} {l:List aT} (d:fW s) (hl:∀x∈l,fW x) (h:s∉l):(jB pJ l).atKey (pJ s) (.lit (.int .i64 0))=.lit (.int .i64 0):=rA (lit:=pJ) (mA.key (iF d)) (λq f e=>vZ d (hl q f) e) h
end
section
open Go.RowKit Go.Sort
theorem wf_upN {w:World} {B:Nat} {v:Value} {l:List aT} (h:aH w B 2 jX v l) {K:Nat} (g:kF l K) {s:Int} (i:s<=K):∀y∈upN l s,wfi y:=λy f=>by
 obtain⟨x,d,rfl⟩:=yR g s.toNat s (by omega) i y f
 obtain⟨cs,e⟩:=h.mem d
 exact e.2.2
theorem vN (A:Option Addr) (W:Nat) (l:List aT) (K:Nat) (s:Int) (w:World) (Y:aH w w.heap.size 2 jX (.slice A l.length W) l) (E:kF l K) (hK:K<l.length) (e9:K<=100) (I:s<=K) : Calls prog 119 #[.slice A l.length W,.int .i64 s] w (mW (lA l s) w):=by
 have HS:=hI Y;have HU:=hI E;have M:=hI (wf_upN Y E I);have HN:Hid ((upN l s).length<=100):=Nat.le_trans (yS E K s I I) e9;obtain⟨r,hr⟩:∃r,upN l s=r:=⟨_,rfl⟩;rw[xM];rw[hr] at M HN ⊢;have HR:=hI hr;have ll:=aP Y;obtain⟨q0,d6,d7,d8,e0⟩:=info_parts uW;clear Y E hr;go_enter func119,ntmps119;go_wp2_with fail;go_loopw [5,1] (λa k wr=>∃(O:Int) (d:List Int),k=.int .i64 O/\O<=K/\Hid (d++upN l O=r)/\Hid (wr.ownsRow w.heap.size 3 1 a d.length (d.map (.int .i64)))/\Hid (Below w.heap.size w wr)) (λ_ k _=>(RowKit.intOf k).toNat);case atStart=>exact⟨s,[],rfl,I,by rw[List.nil_append];exact HR.o,World.ownsRow_nil _ _ _ _,Below.refl _ _⟩
 case round=>
  obtain⟨O,d,rfl,e4,HA,D,p⟩:=hrel
  obtain⟨P,q,rfl⟩:=bV D.o
  have c6:=p.o.size
  have h8:d.length<=100:=by have:=HN.o;rw[<-HA.o,List.length_append] at this;omega
  by_cases a6:0<O
  ·obtain⟨m,rfl⟩:=Int.eq_ofNat_of_zero_le (Int.le_of_lt a6)
   have hm:m<l.length:=by omega
   obtain⟨b,G,x,ys,rfl,hb,hx,-,⟨rfl,i2,i3⟩,R⟩:=HS.o.at_ hm
   have g0:wr.cell? ⟨b,G+m*2,none⟩=some (.int .i64 x.up):=(p.o.cell hb).trans (R 0 _ rfl)
   have g1:wr.cell? ⟨b,G+m*2+1,none⟩=some (.int .i64 x.name):=(p.o.cell hb).trans (R 1 _ rfl)
   have h9:b<wr.heap.size:=Nat.lt_of_lt_of_le hb p.o.size
   have Z:l[(m:Int).toNat]? = some x:=by rw[Int.toNat_natCast];exact hx
   have X:Hid (d++[x.name]++upN l x.up=r):=by
    show _=r
    rw[<-HA.o,qW HU.o a6 e4 Z,List.append_assoc];rfl
   have a0:=HU.o m x (by omega) (by omega) hx
   have a1:=hI a0
   have i0:(m:Int)<l.length:=by omega
   obtain⟨L,hL⟩:∃L,d.map (Value.int .i64)=L:=⟨_,rfl⟩
   rw[hL] at D
   have HL:=hI hL
   clear R hx Z hL a0
   go_wp2_with (at_builtin;refine wpList_append_own _ rfl _ _ 89 rfl w.heap.size 3 q0 (.int .i64 0) 1 8 underlying89 d6 d7 d8 e0 rfl (by decide) (.slice P d.length q) d.length L rfl (D.o.alloc _) ⟨wr.heap.size,0,none⟩ 1 1 [.int .i64 x.name] rfl rfl ?c1 ?c2 ?c3 ?c4 ?c5 ?_)
   case c1=>exact World.news_of_block (cs:=#[.int .i64 x.name]) (aJ _ _)
   case c2=>intro u E;simp at E;subst E;rfl
   case c3=>unfold maxLen;omega
   case c4=>omega
   case c5=>simp;omega
   intro v' w6 V hg _
   have O7:=hI V
   have KB:=hI (mO (B':=w.heap.size) (D.o.alloc (.cells #[.int .i64 x.name] 3)) hg (Nat.le_refl _) (by simp;omega))
   have K7:=hI ((p.o.alloc c6 _).trans KB.o)
   have h0:w6.cell? ⟨b,G+m*2,none⟩=some (.int .i64 x.up):=by
    have d0:w.cell? ⟨b,G+m*2,none⟩=some (.int .i64 x.up):=(p.o.cell hb).symm.trans g0
    exact(K7.o.cell hb).trans d0
   clear V hg g0 g1
   go_wp2_with fail
   go_roundw
   case rel=>exact⟨x.up,d++[x.name],rfl,by have:=a1.o;omega,X,by rw[List.map_append,HL.o,List.length_append];exact O7.o,K7⟩
   case measure=>have:=a1.o;simp[RowKit.intOf];omega
  ·have N:Hid (d=r):=by have:=HA.o;rwa [lZ (by omega),List.append_nil] at this
   have i1:Hid (∀y∈d,wfi y):=λy hy=>M.o y (N.o ▸ hy)
   rcases Nat.eq_zero_or_pos d.length with h0 | h0
   ·rw[h0] at D ⊢
    have C:d=[]:=List.length_eq_zero_iff.1 h0
    have RC:=hI (Tryz.slices_Reverse_int_empty P q wr)
    have HG:Hid (aH wr wr.heap.size 1 hY (.slice P 0 q) r.reverse):=by
     rw[<-N.o,C]
     have:=vP (xs:=[]) (c:=q) (A:=P) (by simpa [C] using D.o) (by simp)
     exact this
    clear C h0
    go_wp2_with fail
    refine RC.o.mono ?_
    rintro e J ⟨rfl,rfl⟩
    go_wp2_with fail
    go_ret
    exact⟨_,rfl,HG.o,p.o⟩
   ·obtain⟨g,f,rfl,i4,H,e5,e6,a4,a5⟩:∃g f,P=some ⟨g,0,none⟩/\w.heap.size<=g/\wr.heap[g]? = some (.cells f 3 (0,0))/\d.length<=q/\q<=maxLen/\f.size=q*1/\f.toList.take (d.length*1)=d.map (.int .i64):=by
     rcases D.o.2 with ⟨e,h⟩ | ⟨g,W,f,e,k1,k2,k3,k4,k5,k6⟩
     ·omega
     ·injection e with e1 e2 e3
      subst e3
      exact⟨g,f,e1,k1,k2,k3,k4,k5,k6⟩
    have HC:∀j (z:j<d.length),wr.cell? ⟨g,0+j,none⟩=some (.int .i64 d[j]):=λj z=>by
     rw[Nat.zero_add,cell_of_row wr g _ _ _ _ H,<-Array.getElem?_toList]
     have h7:(f.toList.take (d.length*1))[j]? = some (.int .i64 d[j]):=by
      rw[a5,List.getElem?_map,lG z];rfl
     rw[List.getElem?_take,if_pos (by omega)] at h7
     exact h7
    have HH:Holds (Value.int .i64) wr g 0 d.toArray:=λj z=>by
     have a2:j<d.length:=by simpa using z
     refine⟨?_,frozen_of_row wr g _ _ _ H⟩
     rw[HC j a2]
     simp[getElem!_pos,a2]
    have RC:=hI (Tryz.slices_Reverse_int g 0 q d wr HH (by omega))
    have d4:=hI H
    have d5:=hI a4
    clear HC HH H a5 a4
    unfold maxLen at e6
    go_wp2_with fail
    refine RC.o.mono ?_
    rintro e J ⟨rfl,n,S⟩
    have KS:Hid (Below w.heap.size w J):=by
     rw[S]
     refine⟨p.o.os,p.o.tape,p.o.output,by rw[vV];exact p.o.size,λk hk=>?_⟩
     rw[uQ (by omega)]
     exact p.o.block k hk
    have HG:Hid (aH J J.heap.size 1 hY (.slice (some ⟨g,0,none⟩) d.length q) r.reverse):=by
     have F:J.heap[g]? = some (.cells (putCells (Value.int .i64) 0 d.reverse.toArray f) 3 (0,0)):=by rw[S];exact vW d4.o
     refine⟨_,q,by rw[<-N.o,List.length_reverse],by rw[<-N.o,List.length_reverse];exact e5,by unfold maxLen;omega,λ_=>⟨g,0,rfl,(aE F).1,λi x hi=>⟨[.int .i64 x],rfl,⟨rfl,?_⟩,λj v z=>?_⟩⟩⟩
     ·exact M.o x (List.mem_reverse.1 (lM hi))
     ·match j,z with
      | 0,z=>
       simp only[List.getElem?_cons_zero,Option.some.injEq] at z
       subst z
       rw[<-N.o] at hi
       have a3:=(lE hi).1
       have b0:d.reverse.toArray.size<=f.size:=by have:=d5.o;simp;omega
       rw[cell_of_row J g _ _ _ _ F,show 0+i*1+0=i by omega,vX (by simpa using a3) b0,getElem!_pos _ _ (by simpa using a3)]
       have:=(lE hi).2
       simp[<-this]
    clear S
    go_wp2_with fail
    go_ret
    exact⟨_,rfl,HG.o,KS.o⟩
end
section
open Go.RowKit
theorem ab8 (v:Value) (xs:List Int) (x:Int) (w:World) (l:aH w w.heap.size 1 hY v xs):Calls prog 160 #[v,.int .i64 x] w (λe w'=>∃k:Int,e=.returned (.int .i64 k)/\(0<=k↔x∈xs)/\Below w.heap.size w w'):=by
 have z:=hI l;obtain⟨A,E,rfl,G,D,-⟩:=id l;unfold maxLen at D;clear l;go_enter func160,ntmps160;go_wp2_with fail;go_loopw [8] (λi wr=>∃j:Nat,i=.int .i64 j/\j<=xs.length/\Hid (x∉xs.take j)/\Hid (Below w.heap.size w wr)) (λi _=>xs.length - (RowKit.intOf i).toNat);case atStart=>exact⟨0,rfl,by omega,by rw[List.take_zero];exact List.not_mem_nil,Below.refl _ _⟩
 case round=>
  obtain⟨j,rfl,H,q,d⟩:=hrel;by_cases u:j<xs.length
  ·obtain⟨b,r,y,I,rfl,hb,s,-,⟨rfl,wy⟩,f⟩:=z.o.at_ u;have m:(j:Int)<xs.length:=(by omega);have F:wr.cell? ⟨b,r+j,none⟩=some (.int .i64 y):=(d.o.cell hb).trans (by simpa using f 0 _ rfl);have p:=hI s;clear f s wy;by_cases c:x=y;·have g:Hid (x∈xs):=(by rw[c];exact lM p.o);have b1:(x == y)=true:=beq_iff_eq.2 c;go_wp2_with fail;go_ret;exact⟨_,rfl,⟨λ_=>g.o,λ_=>by omega⟩,d.o⟩
   ·have b1:(x == y)=false:=bF c;have C:Hid (x∉xs.take (j+1)):=by
     rw[show Hid _=(x∉xs.take (j+1)) from rfl,o5 p.o,List.mem_append];rintro (h | h);·exact q.o h
     ·simp at h;exact c h
    go_wp2_with fail;go_roundw;case rel=>exact⟨j+1,by go_num,by omega,C.o,d.o⟩
    case measure=>simp[RowKit.intOf];omega
  ·have m:¬(j:Int)<xs.length:=(by omega);have g:Hid (x∉xs):=(by have:=q.o;rwa [List.take_of_length_le (by omega)] at this);go_wp2_with fail;go_ret;exact⟨_,rfl,⟨λh=>by omega,λh=>absurd h g.o⟩,d.o⟩
theorem vR (v:Value) (xs:List Int) (x:Int) (w:World) (h:aH w w.heap.size 1 hY v xs):Calls prog 118 #[v,.int .i64 x] w (aM (.bool (decide (x∈xs))) w):=by have i:=hI (ab8 v xs x w h);obtain⟨A,p,rfl,-⟩:=h;obtain⟨r,d⟩:∃r,decide (x∈xs)=r:=⟨_,rfl⟩;rw[d];have j:=hI d;clear d;go_enter func118,ntmps118;go_wp2_with fail;refine i.o.mono ?_;rintro e w1 ⟨k,rfl,f,g⟩;have l:=hI g;have m:=hI f;clear g f;go_wp2_with fail;go_ret;exact⟨by rw[<-j.o,show decide (x∈xs)=decide (0<=k) from decide_eq_decide.2 m.o.symm];rfl,l.o⟩
end
section
open Go.RowKit Go.Maps Go.WideMaps
theorem vQ {l:List aT} {k:Nat} {seen:List aT} {s:aT} (h:decide (s.up<0)=true\/decide ((k:Int)<s.up)=true\/decide (s.name<0)=true\/s∈seen\/s.name∈lA l s.up):iR l k seen s=true:=by unfold iR;rcases h with h | h | h | h | h <;> simp[h] <;> simp_all
theorem aaH {l:List aT} {k:Nat} {seen:List aT} {s:aT} (d:decide (s.up<0)=false) (e:decide ((k:Int)<s.up)=false) (f:decide (s.name<0)=false) (g:s∉seen) (h:s.name∉lA l s.up):iR l k seen s=false:=by unfold iR;rw[d,e,f,decide_eq_false g,decide_eq_false h];rfl
theorem iI (w:World):Hid (Below w.heap.size w w):=Below.refl _ _
theorem qT (w:World):(zeroValue 3).run prog w=.ok (.int .i64 0) w:=by kernel_rfl
theorem aaP {W:World} {i:Nat} {n:Nat} {L:List aT} (h:W.ownsMap prog 51 (plainElem prog 3) i n (jB pJ L)) (hl:∀x∈L,fW x) {s:aT} (g:fW s) : (Instr.lookup 195 (.map (some i)) (.agg #[.int .i64 s.up,.int .i64 s.name]) false).run prog W=.ok (.int .i64 (if s∈L then 1 else 0)) W:=by
 obtain⟨c,f,d,-⟩:=h.lookup_int mA underlying195 underlying3 (qT W) (iF g);rw[show(Value.agg #[.int .i64 s.up,.int .i64 s.name])=jP s from rfl,f];by_cases e:s∈L;·rw[aaK g hl e] at d;rw[if_pos e,<-j7 d]
 ·rw[xD g hl e] at d;rw[if_neg e,<-j7 d]
theorem pA {W:World} {g:Nat} {n:Nat} {L:List Int} (h:W.ownsMap prog 3 (plainElem prog 3) g n (jB mZ L)) {k:Int} (i:wfi k) : (Instr.lookup 114 (.map (some g)) (.int .i64 k) false).run prog W=.ok (.int .i64 (if k∈L then 1 else 0)) W:=by
 obtain⟨c,f,d,-⟩:=h.lookup_int xQ underlying114 underlying3 (qT W) (nT i);rw[f];by_cases e:k∈L;·rw[aaL e] at d;rw[if_pos e,<-j7 d]
 ·rw[xE e] at d;rw[if_neg e,<-j7 d]
theorem mJ {P:Program} {k:TypeId} {H:Type} {R:Value->Option (DataW H×List MemPlace)} {b n:Nat} {D:DataW H} {w w':World} (h:w.ownsMap P k R b n D) (i:Below w.heap.size w w'):w'.ownsMap P k R b n D:=by obtain⟨e,d,hb,F,f,g⟩:=h;exact⟨e,d,(i.block b (aE hb).1).trans hb,F,f,g⟩
theorem tG (A:Option Addr) (V:Nat) (l:List aT) (w:World) (I:aH w w.heap.size 2 jX (.slice A l.length V) l):Calls prog 79 #[.slice A l.length V] w (aM (.int .i64 (bT l)) w):=by
 obtain⟨r,R⟩:∃r,bT l=r:=⟨_,rfl⟩;rw[R];have HS:=hI I;obtain⟨-,e0,i3⟩:=I.len;unfold maxLen at i3;by_cases p:100<l.length
 ·have F:Hid ((2:Int)=r):=by rw[<-R];unfold bT;rw[if_pos p];rfl
  have hi:(100:Int)<l.length:=by omega
  clear R I p;go_enter func79,ntmps79;go_wp2_with fail;go_ret;exact⟨by rw[<-F.o];rfl,Below.refl _ _⟩
 have hi:decide ((100:Int)<l.length)=false:=by simp;omega
 rcases Nat.eq_zero_or_pos l.length with h0 | h0
 ·have F:Hid ((3:Int)=r):=by rw[<-R,List.length_eq_zero_iff.1 h0];rfl
  rw[h0] at hi ⊢;clear R I p;go_enter func79,ntmps79;go_wp2_with fail;go_ret;exact⟨by rw[<-F.o];rfl,Below.refl _ _⟩
 obtain⟨b,G,x0,ys,rfl,hb,H,-,⟨rfl,J,L⟩,s⟩:=I.at_ (i:=0) h0;have g0:w.cell? ⟨b,G,none⟩=some (.int .i64 x0.up):=by have:=s 0 _ rfl;simpa using this
 have g1:w.cell? ⟨b,G+1,none⟩=some (.int .i64 x0.name):=by have:=s 1 _ rfl;simpa using this
 have z:(if x0≠⟨-1,-1⟩ then 3 else if dE l 0 [] l.tail then(0:Int) else 3)=r:=by
  rw[<-R]
  cases l with
  | nil=>cases h0
  | cons y t=>
   obtain rfl:y=x0:=by simpa using H
   unfold bT
   rw[if_neg p]
   rfl
 have n0:((l.length:Int) == 0)=false:=bF (by omega);by_cases O:x0=⟨-1,-1⟩
 case neg=>
  rw[if_pos O] at z;have F:=hI z;obtain⟨u,nm⟩:=x0;dsimp only at g0 g1;by_cases hu:u = -1;·subst hu;have hn:¬nm = -1:=λh=>O (by rw[h]);clear R z s I H O p J L;go_enter func79,ntmps79;go_wp2_with fail;go_ret;exact⟨by rw[<-F.o];rfl,Below.refl _ _⟩
  ·clear R z s I H O p J L;go_enter func79,ntmps79;go_wp2_with fail;go_ret;exact⟨by rw[<-F.o];rfl,Below.refl _ _⟩
 rw[if_neg (λh=>h O)] at z;subst O;dsimp only at g0 g1;obtain⟨q,hq⟩:∃q,dE l 0 [] l.tail=q:=⟨_,rfl⟩;rw[hq] at z;have F:=hI z;have HQ:=hI hq;obtain⟨N,hN⟩:∃N,l.length=N+1:=⟨l.length - 1,by omega⟩;have a9:Hid (l.tail.length=N):=by show _=_;rw[List.length_tail];omega
 have HT:Hid (∀i:Nat,l.tail[i]? = l[i+1]?):=λi=>by rw[List.getElem?_tail]
 have a2:=hI hN;have g6:N<=99:=by omega
 rw[hN] at HS hi n0 e0 ⊢;have c9:Hid (∀i x,l[i]? = some x->fW x):=λi x H=>by obtain⟨cs,hR⟩:=I.mem (lM H);exact⟨hR.2.1,hR.2.2⟩
 have d0:=I;clear R z s I H p J L h0 hN hq;have j4:(1:Int)<=(N:Int)+1:=by omega
 have c7:(((N+1:Nat)):Int)=(N:Int)+1:=by simp
 rw[c7] at hi n0;have m2:=@run_makeMap prog;have b0:=hI d0;clear d0;by_cases j3:V=1
 ·have d1:N=0:=by omega
  have m:Hid ((0:Int)=r):=by have P:=HQ.o;rw[show l.tail=[] from List.length_eq_zero_iff.1 (by rw[a9.o,d1])] at P;have X:=F.o;rw[<-P] at X;exact X
  subst d1;subst j3;clear HS a9 HT a2 c9 b0 g6 e0;go_enter func79,ntmps79;go_wp2_with fail;go_loopw [23] (λk wr=>k=.int .i64 0/\Hid (Below w.heap.size w wr)) (λ_ _=>0);case atStart=>exact⟨rfl,aB w _⟩
  case round=>obtain⟨rfl,KW⟩:=hrel;clear g0 g1;go_wp2_with fail;go_ret;exact⟨by rw[<-m.o];rfl,KW.o⟩
 go_enter func79,ntmps79;go_wp2_with fail;go_loopw [23] (λk wr=>∃f:Nat,k=.int .i64 f/\f<=N/\Hid (kF l f)/\Hid (wr.ownsMap prog 51 (plainElem prog 3) w.heap.size f (jB pJ (l.tail.take f)))/\Hid (dE l f (l.tail.take f) (l.tail.drop f)=q)/\Hid (Below w.heap.size w wr)) (λk _=>N - (RowKit.intOf k).toNat);case atStart=>exact⟨0,rfl,by omega,λj x P X _=>by omega,World.ownsMap_made _ _ _ _,by rw[List.take_zero,List.drop_zero];exact HQ.o,aB w _⟩
 case round=>
  obtain⟨f,rfl,hk,HU,HM,HF,KW⟩:=hrel
  clear g0 g1
  have g7:=KW.o.size
  by_cases m5:f<N
  ·obtain⟨b',f9,x,ys,hbo,m4,H,-,⟨rfl,J,L⟩,s⟩:=b0.o.at_ (i:=f+1) (by have:=a2.o;omega)
   obtain⟨rfl,rfl⟩:b=b'/\G=f9:=by injection hbo with hbo;injection hbo with P X;exact⟨P,X⟩
   have g0:wr.cell? ⟨b,G+2+f*2,none⟩=some (.int .i64 x.up):=(KW.o.cell hb).trans (by have:=s 0 _ rfl;rw[<-this];congr 2;omega)
   have g1:wr.cell? ⟨b,G+2+f*2+1,none⟩=some (.int .i64 x.name):=(KW.o.cell hb).trans (by have:=s 1 _ rfl;rw[<-this];congr 2;omega)
   have h3:(f:Int)<(N:Int):=by omega
   have b4:l.tail[f]? = some x:=by rw[HT.o];exact H
   have a3:l.tail.drop f=x::l.tail.drop (f+1):=by
    obtain⟨P,X⟩:=lE b4
    rw[List.drop_eq_getElem_cons P,X]
   have d2:=hI b4
   have b5:Hid (dE l f (l.tail.take f) (x::l.tail.drop (f+1))=q):=by have:=HF.o;rwa [a3] at this
   have HX:=hI H
   have d3:Hid (fW x):=⟨J,L⟩
   have h4:Hid (∀y∈l.tail.take f,fW y):=λy hy=>by
    obtain⟨i,hi⟩:=List.getElem?_of_mem (List.mem_of_mem_take hy)
    rw[HT.o] at hi
    exact c9.o _ _ hi
   obtain⟨w1,M⟩:∃w1,w1=wr.alloc (.cells #[.int .i64 x.up,.int .i64 x.name] 51):=⟨_,rfl⟩
   have K1:Hid (Below wr.heap.size wr w1):=by rw[M];exact aB _ _
   have Y:∀E:Up w1,E.to.cell? ⟨wr.heap.size,0,none⟩=some (.int .i64 x.up):=λE=>E.cell (by rw[M];exact bL _ _ _ _)
   have Z:∀E:Up w1,E.to.cell? ⟨wr.heap.size,1,none⟩=some (.int .i64 x.name):=λE=>E.cell (by rw[M];exact bL _ _ _ _)
   have C:Hid (∀E:Up w1,(Instr.lookup 195 (.map (some w.heap.size)) (.agg #[.int .i64 x.up,.int .i64 x.name]) false).run prog E.to=.ok (.int .i64 (if x∈l.tail.take f then 1 else 0)) E.to):=λE=>aaP (mJ (mJ HM.o K1.o) E.below) h4.o d3.o
   have K2:Hid (Below w.heap.size w w1):=KW.o.trans (K1.o.mono g7)
   have d4:=hI M
   have m3:wr.heap.size<w1.heap.size:=by rw[M];simp
   clear s H b4 a3 hbo J L M HF
   by_cases g:decide (x.up<0)=true\/decide ((f:Int)<x.up)=true\/decide (x.name<0)=true\/x∈l.tail.take f
   ·have b6:Hid (q=false):=by rw[<-b5.o];exact lO (vQ (by rcases g with h | h | h | h;exact .inl h;exact .inr (.inl h);exact .inr (.inr (.inl h));exact .inr (.inr (.inr (.inl h)))))
    have m:Hid ((3:Int)=r):=by have:=F.o;rw[b6.o] at this;exact this
    have e7:=hI g
    clear g
    go_upto_region 9 with fail
    rw[<-d4.o]
    refine aD (by kernel_rfl) (by kernel_rfl) ?_
    repeat (go_big_quiet_step (fail))
    obtain⟨b1,e1⟩:∃b:Bool,(decide (x.up<0))=b:=⟨_,rfl⟩
    rw[e1]
    cases b1
    case true=>
     repeat (go_big_quiet_step (fail))
     refine wpQuiet_nil ?_
     rintro _ ⟨E,rfl⟩
     have D:=btZ K2 E.below
     clear Y Z C
     go_wp2_with fail
     go_ret
     exact⟨by rw[<-m.o];rfl,D.o⟩
    repeat (go_big_quiet_step (fail))
    obtain⟨b2,e2⟩:∃b:Bool,(decide ((f:Int)<x.up))=b:=⟨_,rfl⟩
    rw[e2]
    cases b2
    case true=>
     repeat (go_big_quiet_step (fail))
     refine wpQuiet_nil ?_
     rintro _ ⟨E,rfl⟩
     have D:=btZ K2 E.below
     clear Y Z C
     go_wp2_with fail
     go_ret
     exact⟨by rw[<-m.o];rfl,D.o⟩
    repeat (go_big_quiet_step (fail))
    obtain⟨b3,e3⟩:∃b:Bool,(decide (x.name<0))=b:=⟨_,rfl⟩
    rw[e3]
    cases b3
    case true=>
     repeat (go_big_quiet_step (fail))
     refine wpQuiet_nil ?_
     rintro _ ⟨E,rfl⟩
     have D:=btZ K2 E.below
     clear Y Z C
     go_wp2_with fail
     go_ret
     exact⟨by rw[<-m.o];rfl,D.o⟩
    have e9:x∈l.tail.take f:=by
     rcases e7.o with h | h | h | h
     ·rw[e1] at h;cases h
     ·rw[e2] at h;cases h
     ·rw[e3] at h;cases h
     ·exact h
    rw[if_pos e9] at C
    have c0:=C.o
    repeat (go_big_quiet_step (fail))
    refine wpQuiet_nil ?_
    rintro _ ⟨E,rfl⟩
    have D:=btZ K2 E.below
    clear Y Z C
    go_wp2_with fail
    go_ret
    exact⟨by rw[<-m.o];rfl,D.o⟩
   ·have d5:decide (x.up<0)=false:=by cases h:decide (x.up<0);rfl;exact absurd (.inl h) g
    have c1:decide ((f:Int)<x.up)=false:=by cases h:decide ((f:Int)<x.up);rfl;exact absurd (.inr (.inl h)) g
    have d6:decide (x.name<0)=false:=by cases h:decide (x.name<0);rfl;exact absurd (.inr (.inr (.inl h))) g
    have c2:x∉l.tail.take f:=λh=>g (.inr (.inr (.inr h)))
    rw[if_neg c2] at C
    have c0:=C.o
    have P1:=hI d5
    have P2:=hI c1
    have P3:=hI d6
    have P4:=hI c2
    have SN:Hid (∀W,Below w.heap.size w W->Calls prog 119 #[.slice (some ⟨b,G,none⟩) (N+1) V,.int .i64 x.up] W (mW (lA l x.up) W)):=λW k=>by
     have:=vN (some ⟨b,G,none⟩) V l f x.up W (b0.o.below k) HU.o (by have:=a2.o;omega) (by omega) (by have:=of_decide_eq_false c1;omega)
     rwa [a2.o] at this
    clear g c2
    go_upto_region 9 with fail
    rw[<-d4.o]
    refine fI (λw'=>∃E:Up w1,w'=E.to) [0,1,2,3,4,5,6,7,8,9,10,11,12,13,14,15,16,17,18,19,20,21,22,23,25,26] [24,27,28] [24] (by kernel_rfl) (by kernel_rfl) (λ_ _ d _ _ h=>by cases d <;> exact h) ⟨⟨_,(Below.refl _ w1).drew⟩,rfl⟩ ?_
    simp only[List.filterMap_cons,List.filterMap_nil,List.getElem?_toArray,List.getElem?_cons_zero,List.getElem?_cons_succ]
    generalize e4:(λa'=>gA _ _ _ _ _ _ a' _)=qq
    have d7:=hI e4
    clear e4
    show wpQuiet _ _ _ _ [_,_,_,_,_,_,_,_,_,_,_,_,_,_,_,_,_,_,_,_,_,_,_,_,_,_] _
    repeat (go_big_quiet_step (fail))
    refine wpQuiet_nil ?_
    rw[<-d7.o]
    clear d7 qq
    refine bA rfl (λK hK=>?_)
    go_simp
    refine(SN.o w1.drew (K2.o.drew)).mono ?_
    rintro e w5 ⟨v,rfl,sv,k5⟩
    have K5:Hid (Below w1.heap.size w1 w5):=(Below.refl _ w1).drew.trans k5
    have CN:=hI (vR v _ x.name w5 sv)
    clear k5 sv
    refine hK _ _ (λ_=>⟨⟨w5,K5.o⟩,rfl⟩) ?_
    clear hK K
    refine bP [27,28] _ _ (by kernel_rfl) (by kernel_rfl) ?_
    simp only[List.filterMap_cons,List.filterMap_nil,List.getElem?_toArray,List.getElem?_cons_zero,List.getElem?_cons_succ]
    obtain⟨c5,c6⟩:∃c:Bool,decide (x.name∈lA l x.up)=c:=⟨_,rfl⟩
    rw[c6] at CN
    have d8:=hI c6
    clear c6
    go_wp2_with fail
    refine CN.o.mono ?_
    rintro e w6 ⟨rfl,k6⟩
    have K6:=btZ K5 k6
    clear k6
    cases c5 with
    | true=>
     have b6:Hid (q=false):=by rw[<-b5.o];exact lO (vQ (.inr (.inr (.inr (.inr (of_decide_eq_true d8.o))))))
     have m:Hid ((3:Int)=r):=by have:=F.o;rw[b6.o] at this;exact this
     have D:=btZ K2 K6.o
     clear Y Z c0
     go_wp2_with fail
     go_ret
     exact⟨by rw[<-m.o];rfl,D.o⟩
    | false=>
     have h9:Hid (dE l (f+1) (l.tail.take f++[x]) (l.tail.drop (f+1))=q):=by
      rw[<-b5.o]
      exact(sT (aaH P1.o P2.o P3.o P4.o (of_decide_eq_false d8.o))).symm
     have i0:Hid (kF l (f+1)):=HU.o.next HX.o (of_decide_eq_false P1.o) (of_decide_eq_false P2.o)
     have D:=btZ K2 K6.o
     have i1:=hI (mJ (mJ HM.o K1.o) K6.o)
     have h0:w6.cell? ⟨wr.heap.size,0,none⟩=some (.int .i64 x.up):=Y ⟨w6,K6.o⟩
     have P:w6.cell? ⟨wr.heap.size,1,none⟩=some (.int .i64 x.name):=Z ⟨w6,K6.o⟩
     have f2:=hI (iF d3.o)
     clear Y Z c0 d5 c1 d6
     go_wp2_with (first
      | (at_mapUpdate;refine wpList_mapUpdate_own _ rfl _ _ _ 195 rfl 51 3 mA underlying195 _ w.heap.size f _ rfl i1.o (by unfold maxLen;omega) _ _ _ rfl rfl f2.o _ [] (plainElem_int underlying3 (by decide)) ?_;intro w7 a4 S)
      | fail)
     have R1:Hid (w7.ownsMap prog 51 (plainElem prog 3) w.heap.size (f+1) (jB pJ (l.tail.take (f+1)))):=by rw[o5 d2.o,nM];exact a4
     have R2:=hI (D.o.grown S D.o.size (λj hj=>by cases hj;exact Nat.le_refl _))
     clear a4 S h0 P
     go_wp2_with fail
     go_roundw
     case rel=>exact⟨f+1,by go_num,by omega,i0.o,R1.o,by rw[o5 d2.o];exact h9.o,R2.o⟩
     case measure=>simp[RowKit.intOf];omega
  ·have i2:Hid (q=true):=by
    rw[<-HF.o,List.drop_of_length_le (by have:=a9.o;omega)];rfl
   have m:Hid ((0:Int)=r):=by have:=F.o;rw[i2.o] at this;exact this
   have h3:¬(f:Int)<(N:Int):=by omega
   go_wp2_with fail
   go_ret
   exact⟨by rw[<-m.o];rfl,KW.o⟩
theorem aaG (A:Option Addr) (j:Nat) (l:List aT) (s:Int) (w:World) (m:aH w w.heap.size 2 jX (.slice A l.length j) l) : Calls prog 122 #[.slice A l.length j,.int .i64 s] w (mW (fM l s) w):=by
 obtain⟨r,f⟩:∃r,fM l s=r:=⟨_,rfl⟩;rw[f];unfold fM at f;have F:=hI m;have M:=aP m;have C:=hI (tG A j l w m);obtain⟨q,p⟩:∃q,bT l=q:=⟨_,rfl⟩;rw[p] at C f;have G:=hI p;clear m p;by_cases z:q=0;case neg=>rw[if_pos (.inl z)] at f;have i:=hI f;clear f;go_enter func122,ntmps122;go_wp2_with fail;have d:=iI w;refine C.o.mono ?_;rintro e w1 ⟨rfl,g⟩;have K:=btZ d g;go_wp2_with fail;go_ret;exact⟨_,rfl,by rw[<-i.o];exact aH.nil _ _ _ _,K.o⟩
 subst z;by_cases D:s<0;·rw[if_pos (.inr (.inl D))] at f;have i:=hI f;clear f;go_enter func122,ntmps122;go_wp2_with fail;have d:=iI w;refine C.o.mono ?_;rintro e w1 ⟨rfl,g⟩;have K:=btZ d g;go_wp2_with fail;go_ret;exact⟨_,rfl,by rw[<-i.o];exact aH.nil _ _ _ _,K.o⟩
 by_cases E:(l.length:Int)<=s;·rw[if_pos (.inr (.inr E))] at f;have i:=hI f;clear f;go_enter func122,ntmps122;go_wp2_with fail;have d:=iI w;refine C.o.mono ?_;rintro e w1 ⟨rfl,g⟩;have K:=btZ d g;go_wp2_with fail;go_ret;exact⟨_,rfl,by rw[<-i.o];exact aH.nil _ _ _ _,K.o⟩
 rw[if_neg (by rintro (h | h | h);exact h rfl;exact D h;exact E h)] at f;have i:=hI f;obtain⟨u,N,O⟩:=mB G.o;have H:=hI u;clear f u;go_enter func122,ntmps122;go_wp2_with fail;have d:=iI w;refine C.o.mono ?_;rintro e w1 ⟨rfl,g⟩;have K:=btZ d g;clear g;have I:=hI (vN A j l (l.length - 1) s w1 (F.o.below K.o) H.o (by omega) (by omega) (by omega));go_wp2_with fail;refine I.o.mono ?_;rintro e P ⟨v,rfl,x,y⟩;have J:=hI x;have L:=btZ K y;clear y x;go_wp2_with fail;go_ret;exact⟨_,rfl,by rw[<-i.o];exact J.o,L.o⟩
end
end Go.Proofs.YtjaphgpkkfdaaaaGreatDoor
