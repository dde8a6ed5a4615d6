/- A part of the walk. -/
import Derived.Test.YtijihlcdhppfgaaGreatDoorZI
import Derived.Sort.Row
import Derived.DeepKeys4
import Derived.Maps.OwnSet
set_option maxHeartbeats 16000000
set_option maxRecDepth 100000
set_option linter.all false
namespace Go.Proofs.YtijihlcdhppfgaaGreatDoor
open Tryz
section
open Go.RowKit
theorem cJ {w:World} {B:Nat} {e:TypeId} {size n:Nat} {v:Value} {xs:List Value} (d:w.ownsRow B e size v n xs):∃A c,v=.slice A n c:=by
 rcases d.2 with ⟨e,f⟩ | ⟨g,h,_,e,_⟩;·subst f;exact⟨_,_,e⟩
 ·exact⟨_,_,e⟩
theorem pV {w w':World} {B B':Nat} {e:TypeId} {size n:Nat} {v:Value} {xs:List Value} (f:w.ownsRow B e size v n xs) (d:w.grownBy w' v.ownBlock) (h:B'<=B) (j:B'<=w.heap.size):Below B' w w':= ⟨d.os,d.tape,d.output,d.size,λk g=>d.block k (by omega) (λe=>by have:=(hY f k e.symm).1;omega)⟩
theorem sZ {α : Type} {l:List α} {k:Nat} {x : α} (h:l[k]? = some x):l.take (k+1)=l.take k++[x]:=by obtain⟨h1,d⟩:=lE h;rw[List.take_succ_eq_append_getElem h1,d]
theorem abI {size:Nat} : ∀(rows:List (List Value)),(∀r∈rows,r.length=size)->(rows.flatMap id).length=rows.length*size
 | [],_=>by simp
 | r::l,h=>by
  rw[List.flatMap_cons,List.length_append,abI l (λx d=>h x (by simp[d])),List.length_cons,Nat.succ_mul]
  have:=h r (by simp)
  show r.length+_=_
  omega
theorem dB {size:Nat} : ∀(rows:List (List Value)) (i k:Nat) (r:List Value),(∀r∈rows,r.length=size)->rows[i]? = some r->k<size->(rows.flatMap id)[i*size+k]? = r[k]?
 | [],_,_,_,_,h,_=>by simp at h
 | y::l,0,k,r,hl,h,hk=>by
  obtain rfl:y=r:=by simpa using h
  have:=hl y (by simp)
  rw[List.flatMap_cons,List.getElem?_append_left (by show _<y.length;omega)];simp
 | y::l,i+1,k,r,hl,h,hk=>by
  have:=hl y (by simp)
  rw[List.flatMap_cons,List.getElem?_append_right (by show y.length<=_;rw[Nat.succ_mul];omega),show(i+1)*size+k - (id y).length=i*size+k by rw[Nat.succ_mul];show _ - y.length=_;omega]
  exact dB l i k r (λx d=>hl x (by simp[d])) (by simpa using h) hk
theorem mE {α : Type} {w:World} {base size:Nat} {e:TypeId} {A:Option Addr} {c:Nat} {rows:List (List Value)} {xs:List α} {R:List Value->α->Prop} (h:w.ownsRow base e size (.slice A xs.length c) xs.length (rows.flatMap id)) (hl:rows.length=xs.length) (j:∀r∈rows,r.length=size) (s:∀(i:Nat) (r:List Value) (x : α),rows[i]? = some r->xs[i]? = some x->R r x) : aB w w.heap.size size R (.slice A xs.length c) xs:=by
 rcases h.2 with ⟨d,y⟩ | ⟨g,F,G,d,hb,z,h1,D,J,K⟩;·have:xs=[]:=List.length_eq_zero_iff.1 y;subst this;rw[d];exact aB.nil _ _ _ _
 ·injection d with d I v
  subst d;subst v;refine⟨_,_,rfl,h1,D,λH=>⟨g,0,rfl,(aE z).1,λi x hi=>?_⟩⟩;have E:=(lE hi).1;have f:rows[i]? = some (rows[i]'(by omega)):=lG (by omega);refine⟨_,j _ (lM f),s i _ x f hi,λk u q=>?_⟩;have l:k<size:=by have:=(lE q).1;have:=j _ (lM f);omega
  have p:i*size+k<xs.length*size:=by have:(i+1)*size<=xs.length*size:=Nat.mul_le_mul_right _ (by omega);rw[Nat.succ_mul] at this;omega
  rw[Nat.zero_add,World.ownsRow.cellAt h (i*size+k) p,dB rows i k _ j f l];exact q
theorem abC {w:World} {base:Nat} {e:TypeId} {A:Option Addr} {c:Nat} {xs:List Int} (h:w.ownsRow base e 1 (.slice A xs.length c) xs.length (xs.map (.int .i64))) (j:∀x∈xs,wfi x):aB w w.heap.size 1 gB (.slice A xs.length c) xs:=by
 have g:∀l:List Int,(l.map λx=>[Value.int .i64 x]).flatMap id=l.map (.int .i64):=λl=>by
  induction l with
  | nil=>rfl
  | cons y l ih=>rw[List.map_cons,List.flatMap_cons,ih];rfl
 refine mE (rows:=xs.map λx=>[.int .i64 x]) (by rw[g];exact h) (by simp) (by simp) ?_
 ·intro i r x d f;rw[List.getElem?_map,f] at d;injection d with d
  exact⟨d.symm,j x (lM f)⟩
section
open Go.Sort
theorem abL {α : Type} [Inhabited α] {w:World} {g f:Nat} {enc : α->Value} {d:Array α} {j:Array Value} {t:TypeId} {l:Nat×Nat} (h:w.heap[g]? = some (.cells j t l)):(putRow enc w g f d).heap[g]? = some (.cells (putCells enc f d j) t l):=by simp[putRow,mapBlock,Array.getElem?_modify,h,onCells]
theorem aaC {α : Type} [Inhabited α] {w:World} {g k f:Nat} {enc : α->Value} {d:Array α} (h:k≠g):(putRow enc w g f d).heap[k]? = w.heap[k]?:=by simp[putRow,mapBlock,Array.getElem?_modify,Ne.symm h]
theorem abK {α : Type} [Inhabited α] {w:World} {g f:Nat} {enc : α->Value} {d:Array α} : (putRow enc w g f d).heap.size=w.heap.size:=by simp[putRow,mapBlock]
theorem abM {α : Type} [Inhabited α] {enc : α->Value} {d:Array α} {c:Array Value} {j:Nat} (g:j<d.size) (h:d.size<=c.size):(putCells enc 0 d c)[j]? = some (enc d[j]!):=by
 have f:j<c.size:=by omega
 simp[putCells,Array.getElem?_mapIdx,f,g]
end
end
section
def mP (l:List aO) (K:Nat):Prop:=∀j x,1<=j->j<=K->l[j]? = some x->0<=x.up/\x.up<j
def upN (l:List aO) (s:Int):List Int:=upM l (s.toNat+1) s
theorem aa7 {l:List aO} {K:Nat} (h:mP l K):∀(f g:Nat) (s:Int),s<=K->s.toNat<f->s.toNat<g->upM l f s=upM l g s
 | 0,_,_,_,h1,_=>by omega
 | _+1,0,_,_,_,h2=>by omega
 | f+1,g+1,s,hs,h1,h2=>by
  unfold upM
  by_cases c:s<=0
  ·rw[if_pos c,if_pos c]
  ·rw[if_neg c,if_neg c]
   cases e:l[s.toNat]? with
   | none=>rfl
   | some x=>
    have:=h s.toNat x (by omega) (by omega) e
    dsimp only
    rw[aa7 h f g x.up (by omega) (by omega) (by omega)]
theorem oV {l:List aO} {s:Int} (h:s<=0):upN l s=[]:=by unfold upN upM;rw[if_pos h]
theorem vO {l:List aO} {K:Nat} (h:mP l K) {s:Int} (g:0<s) (j:s<=K) {x:aO} (d:l[s.toNat]? = some x):upN l s=x.name::upN l x.up:=by
 have f:=h s.toNat x (by omega) (by omega) d;have e:upN l s=x.name::upM l s.toNat x.up:=by unfold upN;rw[upM];rw[if_neg (by omega),d]
 rw[e];unfold upN;rw[aa7 h s.toNat (x.up.toNat+1) x.up (by omega) (by omega) (by omega)]
theorem ac9 (l:List aO) (s:Int):oA l s=(upN l s).reverse:=rfl
theorem aeC {l:List aO} {K:Nat} (h:mP l K):∀(n:Nat) (s:Int),s<=n->s<=K->(upN l s).length<=n
 | 0,s,h1,_=>by rw[oV (by omega)];simp
 | n+1,s,h1,h2=>by
  by_cases c:s<=0
  ·rw[oV c];simp
  ·cases e:l[s.toNat]? with
   | none=>unfold upN upM;rw[if_neg c,e];simp
   | some x=>
    have:=h s.toNat x (by omega) (by omega) e
    rw[vO h (by omega) h2 e,List.length_cons]
    have:=aeC h n x.up (by omega) (by omega)
    omega
theorem aeB {l:List aO} {K:Nat} (h:mP l K):∀(n:Nat) (s:Int),s<=n->s<=K->∀y∈upN l s,∃x∈l,x.name=y
 | 0,s,h1,_,y,hy=>by rw[oV (by omega)] at hy;cases hy
 | n+1,s,h1,h2,y,hy=>by
  by_cases c:s<=0
  ·rw[oV c] at hy;cases hy
  ·cases e:l[s.toNat]? with
   | none=>unfold upN upM at hy;rw[if_neg c,e] at hy;cases hy
   | some x=>
    have:=h s.toNat x (by omega) (by omega) e
    rw[vO h (by omega) h2 e] at hy
    rcases List.mem_cons.1 hy with rfl | hy
    ·exact⟨x,lM e,rfl⟩
    ·exact aeB h n x.up (by omega) (by omega) y hy
def kP (l:List aO) (k:Nat) (seen:List aO) (s:aO):Bool:=decide (s.up<0) || decide ((k:Int)<s.up) || decide (s.name<0) || decide (s∈seen) || decide (s.name∈oA l s.up)
theorem lA (l:List aO) (k:Nat) (seen:List aO) (s:aO) (r:List aO):eG l k seen (s::r)=(!kP l k seen s && eG l (k+1) (seen++[s]) r):=rfl
theorem oN {l:List aO} {k:Nat} {seen:List aO} {s:aO} {r:List aO} (h:kP l k seen s=true):eG l k seen (s::r)=false:=by rw[lA,h];rfl
theorem xX {l:List aO} {k:Nat} {seen:List aO} {s:aO} {r:List aO} (h:kP l k seen s=false):eG l k seen (s::r)=eG l (k+1) (seen++[s]) r:=by rw[lA,h];rfl
theorem mP.next {l:List aO} {k:Nat} (h:mP l k) {s:aO} (g:l[k+1]? = some s) (q:¬s.up<0) (h1:¬(k:Int)<s.up):mP l (k+1):=by
 intro j x f p d;by_cases c:j=k+1
 ·subst c;rw[g] at d;injection d with d;subst d
  omega
 ·exact h j x f (by omega) d
theorem oX {l:List aO} : ∀(r seen:List aO) (k:Nat),(∀i x,r[i]? = some x->l[k+1+i]? = some x)->l.length=k+1+r.length->mP l k->eG l k seen r=true->mP l (l.length - 1)
 | [],_,k,_,hl,hu,_=>by
  rw[hl];simpa using hu
 | s::r,seen,k,hi,hl,hu,hf=>by
  rw[lA,Bool.and_eq_true] at hf
  obtain⟨h1,g⟩:=hf
  unfold kP at h1
  simp only[Bool.not_eq_true',Bool.or_eq_false_iff,decide_eq_false_iff_not] at h1
  obtain⟨⟨⟨⟨a,b⟩,c⟩,d⟩,e⟩:=h1
  have f:=hi 0 s rfl
  exact oX r (seen++[s]) (k+1) (λi x h=>by
   have:=hi (i+1) x (by simpa using h)
   rwa [show k+1+(i+1)=k+1+1+i by omega] at this) (by rw[hl,List.length_cons];omega) (hu.next (by simpa using f) a b) g
theorem oZ {l:List aO} (h:cG l=0):mP l (l.length - 1)/\l.length<=100/\0<l.length:=by
 unfold cG at h;split at h;·cases h
 ·rename_i h1;split at h;·cases h
  ·rename_i x r;split at h;·cases h
   ·split at h;·rename_i d;refine⟨oX r [] 0 (λi x f=>by rw[show 0+1+i=i+1 by omega];simpa using f) (by simp;omega) (λj y h1 d=>by omega) d,by omega,by simp⟩
    ·cases h
end
section
open Go.RowKit Go.Maps
section
variable {κ : Type} (lit : κ->Lit)
def lF (l:List κ):DataW Unit:=l.foldl (λd k=>d.put (lit k) (.lit (.int .i64 1))) (.map [])
theorem rA (l:List κ) (k : κ):lF lit (l++[k])=(lF lit l).put (lit k) (.lit (.int .i64 1)):=by simp[lF,List.foldl_append]
variable {lit}
theorem vU {k : κ} (j:WideAt.IsKeyLit (lit k)) (z:DataW Unit):∀(l:List κ),(∀q∈l,lit k=lit q->k=q)->∀(D:DataW Unit),IsMap D->
  (k∈l->(l.foldl (λd k=>d.put (lit k) (.lit (.int .i64 1))) D).atKey (lit k) z=.lit (.int .i64 1))/\
  (k∉l->(l.foldl (λd k=>d.put (lit k) (.lit (.int .i64 1))) D).atKey (lit k) z=D.atKey (lit k) z)
 | [],_,D,_=>⟨λh=>by simp at h,λ_=>rfl⟩
 | x::l,hi,D,h=>by
  rw[List.foldl_cons]
  obtain⟨p,g⟩:=vU j z l (λq r=>hi q (List.mem_cons_of_mem _ r)) _ (h.put (lit x) (.lit (.int .i64 1)))
  refine⟨λf=>?_,λf=>?_⟩
  ·by_cases h1:k∈l
   ·exact p h1
   ·rw[g h1]
    rcases List.mem_cons.1 f with h2 | h2
    ·subst h2
     exact atKey_put_same h j _ _
    ·exact absurd h2 h1
  ·rw[g (λh=>f (List.mem_cons_of_mem _ h))]
   exact atKey_put_other (λe=>f (hi x List.mem_cons_self e ▸ List.mem_cons_self)) _ _
theorem yX {k : κ} (d:WideAt.IsKeyLit (lit k)) {l:List κ} (hi:∀q∈l,lit k=lit q->k=q) (h:k∈l):(lF lit l).atKey (lit k) (.lit (.int .i64 0))=.lit (.int .i64 1):=(vU d _ l hi _ isMap_empty).1 h
theorem vT {k : κ} (d:WideAt.IsKeyLit (lit k)) {l:List κ} (hi:∀q∈l,lit k=lit q->k=q) (h:k∉l):(lF lit l).atKey (lit k) (.lit (.int .i64 0))=.lit (.int .i64 0):=(vU d _ l hi _ isMap_empty).2 h
end
def qL (n:Int):Lit:=.int .i64 n
theorem abR {a b:Int} (h:qL a=qL b):a=b:=by unfold qL at h;injection h
theorem adC:Keyed prog 3:=int_keyed underlying3
theorem aeT {n:Int} (h:wfi n):(Lit.int .i64 n).wf=true:=by unfold wfi at h;simp[Lit.wf,IntKind.min,IntKind.max,IntKind.signed,IntKind.bits];omega
theorem rJ {n:Int} (h:wfi n):keyOf prog 3 (.int .i64 n)=some (qL n):=keyOf_int_mk underlying3 (aeT h)
theorem afY {n:Int} {l:List Int} (h:n∈l):(lF qL l).atKey (qL n) (.lit (.int .i64 0))=.lit (.int .i64 1):=yX (lit:=qL) (show WideAt.IsKeyLit (qL n) from trivial) (λ_ _ e=>abR e) h
theorem ac1 {n:Int} {l:List Int} (h:n∉l):(lF qL l).atKey (qL n) (.lit (.int .i64 0))=.lit (.int .i64 0):=vT (lit:=qL) (show WideAt.IsKeyLit (qL n) from trivial) (λ_ _ e=>abR e) h
def lX (s:aO):Value:=.agg #[.int .i64 s.up,.int .i64 s.name]
theorem acZ {s t:aO} (h:lX s=lX t):s=t:=by obtain⟨a,b⟩:=s;obtain⟨c,d⟩:=t;unfold lX at h;simp only[Value.agg.injEq,Array.mk.injEq,List.cons.injEq,Value.int.injEq,true_and,and_true] at h;obtain⟨rfl,rfl⟩:=h;rfl
theorem laidS:laidOutB prog=true:=by kernel_rfl
theorem ah5:(172:TypeId)<prog.types.size:=of_decide_eq_true (by kernel_rfl)
theorem afT:(match prog.underlying 172 with | some (.array _ _) | some (.struct _)=>true | _=>false)=true:=by kernel_rfl
theorem oY:Keyed prog 172:=Keyed.of_law (deep_law_laid laidS (m:=3) (by omega) ah5 (by kernel_rfl) afT)
theorem aeR (d:Nat) {n:Int} (h:wfi n):prog.keyLits (d+1) 3 [.int .i64 n]=some [.int .i64 n]:=by unfold Program.keyLits;simp[underlying3,aeT h]
theorem uV {P : Program} {d : Nat} {t : TypeId} {g : Array Field} {cs : List Value} (h : P.underlying t = some (.struct g)) (j : cs.length = P.cellsOf t) (l : g.all (·.name != "_") = true) : P.keyLits (d+1) t cs=(g.toList.mapM fun f=>P.keyLits d f.type ((cs.drop f.offset).take (P.cellsOf f.type))).map List.flatten:=by
 conv=>lhs;unfold Program.keyLits
 split;all_goals (first | (rename_i e;rw[h] at e;cases e;done) | (rename_i e _;rw[h] at e;cases e;done) | skip)
 ·rename_i p q e;rw[h] at e;injection e with e
  injection e with e
  subst e;rw[if_pos ⟨j,l⟩]
 ·simp_all
theorem cS1:prog.cellsOf 3=1:=by kernel_rfl
theorem cS2:prog.cellsOf 172=2:=by kernel_rfl
def iO (s:aO):Prop:=wfi s.up/\wfi s.name
theorem abT {s:aO} (h:iO s):∃l,keyOf prog 172 (lX s)=some l:=by
 obtain⟨p,h1⟩:=h;have f:prog.keyType 172=true:=by kernel_rfl
 have g:(lX s).formed prog 172=true:=by unfold lX;simp[Value.formed,underlying172,cS2]
 obtain⟨d,q⟩:∃d,prog.types.size+1=d+1+1+1:=⟨prog.types.size - 2,by have:2<=prog.types.size:=of_decide_eq_true (by kernel_rfl);omega⟩;have j:∃L,prog.keyLits (d+1+1+1) 172 (lX s).cells.toList=some L:=by unfold lX;rw[uV underlying172 (by rw[cS2];rfl) (by simp)];simp[cS1,Value.cells,aeR (d+1) p,aeR (d+1) h1]
 obtain⟨L,r⟩:=j;refine⟨.string (keyBytes L),?_⟩;unfold keyOf;rw[underlying172];simp only[];rw[f,g,q,r];rfl
noncomputable def tL (s:aO):Lit:=(keyOf prog 172 (lX s)).getD (.int .i64 0)
theorem kD {s:aO} (h:iO s):keyOf prog 172 (lX s)=some (tL s):=by obtain⟨l,hl⟩:=abT h;unfold tL;rw[hl];rfl
theorem abQ {s t:aO} (d:iO s) (ht:iO t) (h:tL s=tL t):s=t:= acZ (oY.inj (kD d) (by rw[h];exact kD ht))
theorem afX {s:aO} {l:List aO} (d:iO s) (hl:∀x∈l,iO x) (h:s∈l):(lF tL l).atKey (tL s) (.lit (.int .i64 0))=.lit (.int .i64 1):=yX (lit:=tL) (oY.key (kD d)) (λq f e=>abQ d (hl q f) e) h
theorem ac0 {s:aO} {l:List aO} (d:iO s) (hl:∀x∈l,iO x) (h:s∉l):(lF tL l).atKey (tL s) (.lit (.int .i64 0))=.lit (.int .i64 0):=vT (lit:=tL) (oY.key (kD d)) (λq f e=>abQ d (hl q f) e) h
end
section
open Go.RowKit Go.Sort
theorem wf_upN {w:World} {B:Nat} {v:Value} {l:List aO} (h:aB w B 2 jG v l) {K:Nat} (j:mP l K) {s:Int} (p:s<=K):∀y∈upN l s,wfi y:=λy g=>by
 obtain⟨x,d,rfl⟩:=aeB j s.toNat s (by omega) p y g
 obtain⟨cs,f⟩:=h.mem d
 exact f.2.2
theorem abA (A:Option Addr) (Y:Nat) (l:List aO) (K:Nat) (s:Int) (w:World) (hs:aB w w.heap.size 2 jG (.slice A l.length Y) l) (F:mP l K) (hK:K<l.length) (f1:K<=100) (J:s<=K) : Calls prog 195 #[.slice A l.length Y,.int .i64 s] w (qI (oA l s) w):=by
 have HS:=hI hs;have HU:=hI F;have N:=hI (wf_upN hs F J);have HN:Hid ((upN l s).length<=100):=Nat.le_trans (aeC F K s J J) f1;obtain⟨r,hr⟩:∃r,upN l s=r:=⟨_,rfl⟩;rw[ac9];rw[hr] at N HN ⊢;have HR:=hI hr;have ll:=aM hs;obtain⟨q0,d8,e0,e4,e5⟩:=info_parts qC;clear hs F hr;go_enter func195,ntmps195;go_wp2_with fail;go_loopw [5,1] (λa k wr=>∃(P:Int) (d:List Int),k=.int .i64 P/\P<=K/\Hid (d++upN l P=r)/\Hid (wr.ownsRow w.heap.size 3 1 a d.length (d.map (.int .i64)))/\Hid (Below w.heap.size w wr)) (λ_ k _=>(RowKit.intOf k).toNat);case atStart=>exact⟨s,[],rfl,J,by rw[List.nil_append];exact HR.o,World.ownsRow_nil _ _ _ _,Below.refl _ _⟩
 case round=>
  obtain⟨P,d,rfl,e6,HA,E,p⟩:=hrel
  obtain⟨R,q,rfl⟩:=cJ E.o
  have c9:=p.o.size
  have i0:d.length<=100:=by have:=HN.o;rw[<-HA.o,List.length_append] at this;omega
  by_cases a9:0<P
  ·obtain⟨m,rfl⟩:=Int.eq_ofNat_of_zero_le (Int.le_of_lt a9)
   have hm:m<l.length:=by omega
   obtain⟨b,H,x,ys,rfl,hb,hx,-,⟨rfl,i4,i5⟩,S⟩:=HS.o.at_ hm
   have g0:wr.cell? ⟨b,H+m*2,none⟩=some (.int .i64 x.up):=(p.o.cell hb).trans (S 0 _ rfl)
   have g1:wr.cell? ⟨b,H+m*2+1,none⟩=some (.int .i64 x.name):=(p.o.cell hb).trans (S 1 _ rfl)
   have i1:b<wr.heap.size:=Nat.lt_of_lt_of_le hb p.o.size
   have a1:l[(m:Int).toNat]? = some x:=by rw[Int.toNat_natCast];exact hx
   have Z:Hid (d++[x.name]++upN l x.up=r):=by
    show _=r
    rw[<-HA.o,vO HU.o a9 e6 a1,List.append_assoc];rfl
   have a2:=HU.o m x (by omega) (by omega) hx
   have a3:=hI a2
   have i2:(m:Int)<l.length:=by omega
   obtain⟨L,hL⟩:∃L,d.map (Value.int .i64)=L:=⟨_,rfl⟩
   rw[hL] at E
   have HL:=hI hL
   clear S hx a1 hL a2
   go_wp2_with (at_builtin;refine wpList_append_own _ rfl _ _ 55 rfl w.heap.size 3 q0 (.int .i64 0) 1 8 underlying55 d8 e0 e4 e5 rfl (by decide) (.slice R d.length q) d.length L rfl (E.o.alloc _) ⟨wr.heap.size,0,none⟩ 1 1 [.int .i64 x.name] rfl rfl ?c1 ?c2 ?c3 ?c4 ?c5 ?_)
   case c1=>exact World.news_of_block (cs:=#[.int .i64 x.name]) (aS _ _)
   case c2=>intro u F;simp at F;subst F;rfl
   case c3=>unfold maxLen;omega
   case c4=>omega
   case c5=>simp;omega
   intro v' w6 X hg _
   have O7:=hI X
   have KB:=hI (pV (B':=w.heap.size) (E.o.alloc (.cells #[.int .i64 x.name] 3)) hg (Nat.le_refl _) (by simp;omega))
   have K7:=hI ((p.o.alloc c9 _).trans KB.o)
   have h0:w6.cell? ⟨b,H+m*2,none⟩=some (.int .i64 x.up):=by
    have d2:w.cell? ⟨b,H+m*2,none⟩=some (.int .i64 x.up):=(p.o.cell hb).symm.trans g0
    exact(K7.o.cell hb).trans d2
   clear X hg g0 g1
   go_wp2_with fail
   go_roundw
   case rel=>exact⟨x.up,d++[x.name],rfl,by have:=a3.o;omega,Z,by rw[List.map_append,HL.o,List.length_append];exact O7.o,K7⟩
   case measure=>have:=a3.o;simp[RowKit.intOf];omega
  ·have O:Hid (d=r):=by have:=HA.o;rwa [oV (by omega),List.append_nil] at this
   have i3:Hid (∀y∈d,wfi y):=λy hy=>N.o y (O.o ▸ hy)
   rcases Nat.eq_zero_or_pos d.length with h0 | h0
   ·rw[h0] at E ⊢
    have D:d=[]:=List.length_eq_zero_iff.1 h0
    have RC:=hI (Tryz.slices_Reverse_int_empty R q wr)
    have HG:Hid (aB wr wr.heap.size 1 gB (.slice R 0 q) r.reverse):=by
     rw[<-O.o,D]
     have:=abC (xs:=[]) (c:=q) (A:=R) (by simpa [D] using E.o) (by simp)
     exact this
    clear D h0
    go_wp2_with fail
    refine RC.o.mono ?_
    rintro e M ⟨rfl,rfl⟩
    go_wp2_with fail
    go_ret
    exact⟨_,rfl,HG.o,p.o⟩
   ·obtain⟨g,f,rfl,i6,I,e7,e9,a6,a7⟩:∃g f,R=some ⟨g,0,none⟩/\w.heap.size<=g/\wr.heap[g]? = some (.cells f 3 (0,0))/\d.length<=q/\q<=maxLen/\f.size=q*1/\f.toList.take (d.length*1)=d.map (.int .i64):=by
     rcases E.o.2 with ⟨e,h⟩ | ⟨g,Y,f,e,k1,k2,k3,k4,k5,k6⟩
     ·omega
     ·injection e with e1 e2 e3
      subst e3
      exact⟨g,f,e1,k1,k2,k3,k4,k5,k6⟩
    have HC:∀j (z:j<d.length),wr.cell? ⟨g,0+j,none⟩=some (.int .i64 d[j]):=λj z=>by
     rw[Nat.zero_add,cell_of_row wr g _ _ _ _ I,<-Array.getElem?_toList]
     have h7:(f.toList.take (d.length*1))[j]? = some (.int .i64 d[j]):=by
      rw[a7,List.getElem?_map,lG z];rfl
     rw[List.getElem?_take,if_pos (by omega)] at h7
     exact h7
    have HH:Holds (Value.int .i64) wr g 0 d.toArray:=λj z=>by
     have a4:j<d.length:=by simpa using z
     refine⟨?_,frozen_of_row wr g _ _ _ I⟩
     rw[HC j a4]
     simp[getElem!_pos,a4]
    have RC:=hI (Tryz.slices_Reverse_int g 0 q d wr HH (by omega))
    have d6:=hI I
    have d7:=hI a6
    clear HC HH I a7 a6
    unfold maxLen at e9
    go_wp2_with fail
    refine RC.o.mono ?_
    rintro e M ⟨rfl,n,V⟩
    have KS:Hid (Below w.heap.size w M):=by
     rw[V]
     refine⟨p.o.os,p.o.tape,p.o.output,by rw[abK];exact p.o.size,λk hk=>?_⟩
     rw[aaC (by omega)]
     exact p.o.block k hk
    have HG:Hid (aB M M.heap.size 1 gB (.slice (some ⟨g,0,none⟩) d.length q) r.reverse):=by
     have G:M.heap[g]? = some (.cells (putCells (Value.int .i64) 0 d.reverse.toArray f) 3 (0,0)):=by rw[V];exact abL d6.o
     refine⟨_,q,by rw[<-O.o,List.length_reverse],by rw[<-O.o,List.length_reverse];exact e7,by unfold maxLen;omega,λ_=>⟨g,0,rfl,(aE G).1,λi x hi=>⟨[.int .i64 x],rfl,⟨rfl,?_⟩,λj v z=>?_⟩⟩⟩
     ·exact N.o x (List.mem_reverse.1 (lM hi))
     ·match j,z with
      | 0,z=>
       simp only[List.getElem?_cons_zero,Option.some.injEq] at z
       subst z
       rw[<-O.o] at hi
       have a5:=(lE hi).1
       have b3:d.reverse.toArray.size<=f.size:=by have:=d7.o;simp;omega
       rw[cell_of_row M g _ _ _ _ G,show 0+i*1+0=i by omega,abM (by simpa using a5) b3,getElem!_pos _ _ (by simpa using a5)]
       have:=(lE hi).2
       simp[<-this]
    clear V
    go_wp2_with fail
    go_ret
    exact⟨_,rfl,HG.o,KS.o⟩
end
section
open Go.RowKit
theorem ah2 (v:Value) (xs:List Int) (x:Int) (w:World) (l:aB w w.heap.size 1 gB v xs):Calls prog 212 #[v,.int .i64 x] w (λe w'=>∃k:Int,e=.returned (.int .i64 k)/\(0<=k↔x∈xs)/\Below w.heap.size w w'):=by
 have D:=hI l;obtain⟨A,G,rfl,l1,F,-⟩:=id l;unfold maxLen at F;clear l;go_enter func212,ntmps212;go_wp2_with fail;go_loopw [8] (λi wr=>∃j:Nat,i=.int .i64 j/\j<=xs.length/\Hid (x∉xs.take j)/\Hid (Below w.heap.size w wr)) (λi _=>xs.length - (RowKit.intOf i).toNat);case atStart=>exact⟨0,rfl,by omega,by rw[List.take_zero];exact List.not_mem_nil,Below.refl _ _⟩
 case round=>
  obtain⟨j,rfl,I,r,d⟩:=hrel;by_cases z:j<xs.length
  ·obtain⟨b,s,y,J,rfl,hb,u,-,⟨rfl,wy⟩,f⟩:=D.o.at_ z;have p:(j:Int)<xs.length:=(by omega);have H:wr.cell? ⟨b,s+j,none⟩=some (.int .i64 y):=(d.o.cell hb).trans (by simpa using f 0 _ rfl);have q:=hI u;clear f u wy;by_cases c:x=y;·have g:Hid (x∈xs):=(by rw[c];exact lM q.o);have b1:(x == y)=true:=beq_iff_eq.2 c;go_wp2_with fail;go_ret;exact⟨_,rfl,⟨λ_=>g.o,λ_=>by omega⟩,d.o⟩
   ·have b1:(x == y)=false:=bF c;have E:Hid (x∉xs.take (j+1)):=by
     rw[show Hid _=(x∉xs.take (j+1)) from rfl,sZ q.o,List.mem_append];rintro (h | h);·exact r.o h
     ·simp at h;exact c h
    go_wp2_with fail;go_roundw;case rel=>exact⟨j+1,by go_num,by omega,E.o,d.o⟩
    case measure=>simp[RowKit.intOf];omega
  ·have p:¬(j:Int)<xs.length:=(by omega);have g:Hid (x∉xs):=(by have:=r.o;rwa [List.take_of_length_le (by omega)] at this);go_wp2_with fail;go_ret;exact⟨_,rfl,⟨λh=>by omega,λh=>absurd h g.o⟩,d.o⟩
theorem abF (v:Value) (xs:List Int) (x:Int) (w:World) (h:aB w w.heap.size 1 gB v xs):Calls prog 159 #[v,.int .i64 x] w (aK (.bool (decide (x∈xs))) w):=by have j:=hI (ah2 v xs x w h);obtain⟨A,s,rfl,-⟩:=h;obtain⟨r,d⟩:∃r,decide (x∈xs)=r:=⟨_,rfl⟩;rw[d];have l:=hI d;clear d;go_enter func159,ntmps159;go_wp2_with fail;refine j.o.mono ?_;rintro e w1 ⟨k,rfl,f,g⟩;have p:=hI g;have q:=hI f;clear g f;go_wp2_with fail;go_ret;exact⟨by rw[<-l.o,show decide (x∈xs)=decide (0<=k) from decide_eq_decide.2 q.o.symm];rfl,p.o⟩
end
section
open Go.RowKit Go.Maps Go.WideMaps
theorem abE {l:List aO} {k:Nat} {seen:List aO} {s:aO} (h:decide (s.up<0)=true\/decide ((k:Int)<s.up)=true\/decide (s.name<0)=true\/s∈seen\/s.name∈oA l s.up):kP l k seen s=true:=by unfold kP;rcases h with h | h | h | h | h <;> simp[h] <;> simp_all
theorem afS {l:List aO} {k:Nat} {seen:List aO} {s:aO} (h1:decide (s.up<0)=false) (d:decide ((k:Int)<s.up)=false) (f:decide (s.name<0)=false) (g:s∉seen) (h:s.name∉oA l s.up):kP l k seen s=false:=by unfold kP;rw[h1,d,f,decide_eq_false g,decide_eq_false h];rfl
theorem kG (w:World):Hid (Below w.heap.size w w):=Below.refl _ _
theorem vK (w:World):(zeroValue 3).run prog w=.ok (.int .i64 0) w:=by kernel_rfl
theorem af2 {W:World} {l:Nat} {n:Nat} {L:List aO} (h:W.ownsMap prog 172 (plainElem prog 3) l n (lF tL L)) (hl:∀x∈L,iO x) {s:aO} (j:iO s) : (Instr.lookup 278 (.map (some l)) (.agg #[.int .i64 s.up,.int .i64 s.name]) false).run prog W=.ok (.int .i64 (if s∈L then 1 else 0)) W:=by
 obtain⟨c,g,d,-⟩:=h.lookup_int oY underlying278 underlying3 (vK W) (kD j);rw[show(Value.agg #[.int .i64 s.up,.int .i64 s.name])=lX s from rfl,g];by_cases f:s∈L;·rw[afX j hl f] at d;rw[if_pos f,<-lJ d]
 ·rw[ac0 j hl f] at d;rw[if_neg f,<-lJ d]
theorem tC {W:World} {j:Nat} {n:Nat} {L:List Int} (h:W.ownsMap prog 3 (plainElem prog 3) j n (lF qL L)) {k:Int} (l:wfi k) : (Instr.lookup 155 (.map (some j)) (.int .i64 k) false).run prog W=.ok (.int .i64 (if k∈L then 1 else 0)) W:=by
 obtain⟨c,g,d,-⟩:=h.lookup_int adC underlying155 underlying3 (vK W) (rJ l);rw[g];by_cases f:k∈L;·rw[afY f] at d;rw[if_pos f,<-lJ d]
 ·rw[ac1 f] at d;rw[if_neg f,<-lJ d]
theorem pF {P:Program} {k:TypeId} {H:Type} {R:Value->Option (DataW H×List MemPlace)} {b n:Nat} {D:DataW H} {w w':World} (h:w.ownsMap P k R b n D) (l:Below w.heap.size w w'):w'.ownsMap P k R b n D:=by obtain⟨f,d,hb,F,g,j⟩:=h;exact⟨f,d,(l.block b (aE hb).1).trans hb,F,g,j⟩
theorem yR (A:Option Addr) (X:Nat) (l:List aO) (w:World) (L:aB w w.heap.size 2 jG (.slice A l.length X) l):Calls prog 132 #[.slice A l.length X] w (aK (.int .i64 (cG l)) w):=by
 obtain⟨r,S⟩:∃r,cG l=r:=⟨_,rfl⟩;rw[S];have HS:=hI L;obtain⟨-,e1,i4⟩:=L.len;unfold maxLen at i4;by_cases s:100<l.length
 ·have H:Hid ((2:Int)=r):=by rw[<-S];unfold cG;rw[if_pos s];rfl
  have hi:(100:Int)<l.length:=by omega
  clear S L s;go_enter func132,ntmps132;go_wp2_with fail;go_ret;exact⟨by rw[<-H.o];rfl,Below.refl _ _⟩
 have hi:decide ((100:Int)<l.length)=false:=by simp;omega
 rcases Nat.eq_zero_or_pos l.length with h0 | h0
 ·have H:Hid ((3:Int)=r):=by rw[<-S,List.length_eq_zero_iff.1 h0];rfl
  rw[h0] at hi ⊢;clear S L s;go_enter func132,ntmps132;go_wp2_with fail;go_ret;exact⟨by rw[<-H.o];rfl,Below.refl _ _⟩
 obtain⟨b,I,x0,ys,rfl,hb,J,-,⟨rfl,M,O⟩,z⟩:=L.at_ (i:=0) h0;have g0:w.cell? ⟨b,I,none⟩=some (.int .i64 x0.up):=by have:=z 0 _ rfl;simpa using this
 have g1:w.cell? ⟨b,I+1,none⟩=some (.int .i64 x0.name):=by have:=z 1 _ rfl;simpa using this
 have D:(if x0≠⟨-1,-1⟩ then 3 else if eG l 0 [] l.tail then(0:Int) else 3)=r:=by
  rw[<-S]
  cases l with
  | nil=>cases h0
  | cons y t=>
   obtain rfl:y=x0:=by simpa using J
   unfold cG
   rw[if_neg s]
   rfl
 have n0:((l.length:Int) == 0)=false:=bF (by omega);by_cases R:x0=⟨-1,-1⟩
 case neg=>
  rw[if_pos R] at D;have H:=hI D;obtain⟨u,nm⟩:=x0;dsimp only at g0 g1;by_cases hu:u = -1;·subst hu;have hn:¬nm = -1:=λh=>R (by rw[h]);clear S D z L J R s M O;go_enter func132,ntmps132;go_wp2_with fail;go_ret;exact⟨by rw[<-H.o];rfl,Below.refl _ _⟩
  ·clear S D z L J R s M O;go_enter func132,ntmps132;go_wp2_with fail;go_ret;exact⟨by rw[<-H.o];rfl,Below.refl _ _⟩
 rw[if_neg (λh=>h R)] at D;subst R;dsimp only at g0 g1;obtain⟨q,hq⟩:∃q,eG l 0 [] l.tail=q:=⟨_,rfl⟩;rw[hq] at D;have H:=hI D;have HQ:=hI hq;obtain⟨N,hN⟩:∃N,l.length=N+1:=⟨l.length - 1,by omega⟩;have b0:Hid (l.tail.length=N):=by show _=_;rw[List.length_tail];omega
 have HT:Hid (∀i:Nat,l.tail[i]? = l[i+1]?):=λi=>by rw[List.getElem?_tail]
 have a3:=hI hN;have g7:N<=99:=by omega
 rw[hN] at HS hi n0 e1 ⊢;have d0:Hid (∀i x,l[i]? = some x->iO x):=λi x J=>by obtain⟨cs,hR⟩:=L.mem (lM J);exact⟨hR.2.1,hR.2.2⟩
 have d1:=L;clear S D z L J s M O h0 hN hq;have k0:(1:Int)<=(N:Int)+1:=by omega
 have c8:(((N+1:Nat)):Int)=(N:Int)+1:=by simp
 rw[c8] at hi n0;have m3:=@run_makeMap prog;have b4:=hI d1;clear d1;by_cases j4:X=1
 ·have d2:N=0:=by omega
  have p:Hid ((0:Int)=r):=by have h1:=HQ.o;rw[show l.tail=[] from List.length_eq_zero_iff.1 (by rw[b0.o,d2])] at h1;have Y:=H.o;rw[<-h1] at Y;exact Y
  subst d2;subst j4;clear HS b0 HT a3 d0 b4 g7 e1;go_enter func132,ntmps132;go_wp2_with fail;go_loopw [23] (λk wr=>k=.int .i64 0/\Hid (Below w.heap.size w wr)) (λ_ _=>0);case atStart=>exact⟨rfl,aA w _⟩
  case round=>obtain⟨rfl,KW⟩:=hrel;clear g0 g1;go_wp2_with fail;go_ret;exact⟨by rw[<-p.o];rfl,KW.o⟩
 go_enter func132,ntmps132;go_wp2_with fail;go_loopw [23] (λk wr=>∃f:Nat,k=.int .i64 f/\f<=N/\Hid (mP l f)/\Hid (wr.ownsMap prog 172 (plainElem prog 3) w.heap.size f (lF tL (l.tail.take f)))/\Hid (eG l f (l.tail.take f) (l.tail.drop f)=q)/\Hid (Below w.heap.size w wr)) (λk _=>N - (RowKit.intOf k).toNat);case atStart=>exact⟨0,rfl,by omega,λj x h1 Y _=>by omega,World.ownsMap_made _ _ _ _,by rw[List.take_zero,List.drop_zero];exact HQ.o,aA w _⟩
 case round=>
  obtain⟨f,rfl,hk,HU,HM,HF,KW⟩:=hrel
  clear g0 g1
  have h3:=KW.o.size
  by_cases m6:f<N
  ·obtain⟨b',g2,x,ys,hbo,m5,J,-,⟨rfl,M,O⟩,z⟩:=b4.o.at_ (i:=f+1) (by have:=a3.o;omega)
   obtain⟨rfl,rfl⟩:b=b'/\I=g2:=by injection hbo with hbo;injection hbo with h1 Y;exact⟨h1,Y⟩
   have g0:wr.cell? ⟨b,I+2+f*2,none⟩=some (.int .i64 x.up):=(KW.o.cell hb).trans (by have:=z 0 _ rfl;rw[<-this];congr 2;omega)
   have g1:wr.cell? ⟨b,I+2+f*2+1,none⟩=some (.int .i64 x.name):=(KW.o.cell hb).trans (by have:=z 1 _ rfl;rw[<-this];congr 2;omega)
   have h4:(f:Int)<(N:Int):=by omega
   have b5:l.tail[f]? = some x:=by rw[HT.o];exact J
   have a4:l.tail.drop f=x::l.tail.drop (f+1):=by
    obtain⟨h1,Y⟩:=lE b5
    rw[List.drop_eq_getElem_cons h1,Y]
   have d3:=hI b5
   have b6:Hid (eG l f (l.tail.take f) (x::l.tail.drop (f+1))=q):=by have:=HF.o;rwa [a4] at this
   have HX:=hI J
   have d4:Hid (iO x):=⟨M,O⟩
   have h5:Hid (∀y∈l.tail.take f,iO y):=λy hy=>by
    obtain⟨i,hi⟩:=List.getElem?_of_mem (List.mem_of_mem_take hy)
    rw[HT.o] at hi
    exact d0.o _ _ hi
   obtain⟨w1,P⟩:∃w1,w1=wr.alloc (.cells #[.int .i64 x.up,.int .i64 x.name] 172):=⟨_,rfl⟩
   have K1:Hid (Below wr.heap.size wr w1):=by rw[P];exact aA _ _
   have Z:∀E:Up w1,E.to.cell? ⟨wr.heap.size,0,none⟩=some (.int .i64 x.up):=λE=>E.cell (by rw[P];exact cA _ _ _ _)
   have f1:∀E:Up w1,E.to.cell? ⟨wr.heap.size,1,none⟩=some (.int .i64 x.name):=λE=>E.cell (by rw[P];exact cA _ _ _ _)
   have F:Hid (∀E:Up w1,(Instr.lookup 278 (.map (some w.heap.size)) (.agg #[.int .i64 x.up,.int .i64 x.name]) false).run prog E.to=.ok (.int .i64 (if x∈l.tail.take f then 1 else 0)) E.to):=λE=>af2 (pF (pF HM.o K1.o) E.below) h5.o d4.o
   have K2:Hid (Below w.heap.size w w1):=KW.o.trans (K1.o.mono h3)
   have d5:=hI P
   have m4:wr.heap.size<w1.heap.size:=by rw[P];simp
   clear z J b5 a4 hbo M O P HF
   by_cases g:decide (x.up<0)=true\/decide ((f:Int)<x.up)=true\/decide (x.name<0)=true\/x∈l.tail.take f
   ·have c0:Hid (q=false):=by rw[<-b6.o];exact oN (abE (by rcases g with h | h | h | h;exact .inl h;exact .inr (.inl h);exact .inr (.inr (.inl h));exact .inr (.inr (.inr (.inl h)))))
    have p:Hid ((3:Int)=r):=by have:=H.o;rw[c0.o] at this;exact this
    have e9:=hI g
    clear g
    go_upto_region 9 with fail
    rw[<-d5.o]
    refine aD (by kernel_rfl) (by kernel_rfl) ?_
    repeat (go_big_quiet_step (fail))
    obtain⟨b1,e2⟩:∃b:Bool,(decide (x.up<0))=b:=⟨_,rfl⟩
    rw[e2]
    cases b1
    case true=>
     repeat (go_big_quiet_step (fail))
     refine wpQuiet_nil ?_
     rintro _ ⟨E,rfl⟩
     have G:=btZ K2 E.below
     clear Z f1 F
     go_wp2_with fail
     go_ret
     exact⟨by rw[<-p.o];rfl,G.o⟩
    repeat (go_big_quiet_step (fail))
    obtain⟨b2,e3⟩:∃b:Bool,(decide ((f:Int)<x.up))=b:=⟨_,rfl⟩
    rw[e3]
    cases b2
    case true=>
     repeat (go_big_quiet_step (fail))
     refine wpQuiet_nil ?_
     rintro _ ⟨E,rfl⟩
     have G:=btZ K2 E.below
     clear Z f1 F
     go_wp2_with fail
     go_ret
     exact⟨by rw[<-p.o];rfl,G.o⟩
    repeat (go_big_quiet_step (fail))
    obtain⟨b3,e4⟩:∃b:Bool,(decide (x.name<0))=b:=⟨_,rfl⟩
    rw[e4]
    cases b3
    case true=>
     repeat (go_big_quiet_step (fail))
     refine wpQuiet_nil ?_
     rintro _ ⟨E,rfl⟩
     have G:=btZ K2 E.below
     clear Z f1 F
     go_wp2_with fail
     go_ret
     exact⟨by rw[<-p.o];rfl,G.o⟩
    have f2:x∈l.tail.take f:=by
     rcases e9.o with h | h | h | h
     ·rw[e2] at h;cases h
     ·rw[e3] at h;cases h
     ·rw[e4] at h;cases h
     ·exact h
    rw[if_pos f2] at F
    have c1:=F.o
    repeat (go_big_quiet_step (fail))
    refine wpQuiet_nil ?_
    rintro _ ⟨E,rfl⟩
    have G:=btZ K2 E.below
    clear Z f1 F
    go_wp2_with fail
    go_ret
    exact⟨by rw[<-p.o];rfl,G.o⟩
   ·have d6:decide (x.up<0)=false:=by cases h:decide (x.up<0);rfl;exact absurd (.inl h) g
    have c2:decide ((f:Int)<x.up)=false:=by cases h:decide ((f:Int)<x.up);rfl;exact absurd (.inr (.inl h)) g
    have d7:decide (x.name<0)=false:=by cases h:decide (x.name<0);rfl;exact absurd (.inr (.inr (.inl h))) g
    have c3:x∉l.tail.take f:=λh=>g (.inr (.inr (.inr h)))
    rw[if_neg c3] at F
    have c1:=F.o
    have P1:=hI d6
    have P2:=hI c2
    have P3:=hI d7
    have P4:=hI c3
    have SN:Hid (∀W,Below w.heap.size w W->Calls prog 195 #[.slice (some ⟨b,I,none⟩) (N+1) X,.int .i64 x.up] W (qI (oA l x.up) W)):=λW k=>by
     have:=abA (some ⟨b,I,none⟩) X l f x.up W (b4.o.below k) HU.o (by have:=a3.o;omega) (by omega) (by have:=of_decide_eq_false c2;omega)
     rwa [a3.o] at this
    clear g c3
    go_upto_region 9 with fail
    rw[<-d5.o]
    refine gL (λw'=>∃E:Up w1,w'=E.to) [0,1,2,3,4,5,6,7,8,9,10,11,12,13,14,15,16,17,18,19,20,21,22,23,25,26] [24,27,28] [24] (by kernel_rfl) (by kernel_rfl) (λ_ _ d _ _ h=>by cases d <;> exact h) ⟨⟨_,(Below.refl _ w1).drew⟩,rfl⟩ ?_
    simp only[List.filterMap_cons,List.filterMap_nil,List.getElem?_toArray,List.getElem?_cons_zero,List.getElem?_cons_succ]
    generalize e5:(λa'=>gT _ _ _ _ _ _ a' _)=qq
    have d8:=hI e5
    clear e5
    show wpQuiet _ _ _ _ [_,_,_,_,_,_,_,_,_,_,_,_,_,_,_,_,_,_,_,_,_,_,_,_,_,_] _
    repeat (go_big_quiet_step (fail))
    refine wpQuiet_nil ?_
    rw[<-d8.o]
    clear d8 qq
    refine aR rfl (λK hK=>?_)
    go_simp
    refine(SN.o w1.drew (K2.o.drew)).mono ?_
    rintro e w5 ⟨v,rfl,sv,k5⟩
    have K5:Hid (Below w1.heap.size w1 w5):=(Below.refl _ w1).drew.trans k5
    have CN:=hI (abF v _ x.name w5 sv)
    clear k5 sv
    refine hK _ _ (λ_=>⟨⟨w5,K5.o⟩,rfl⟩) ?_
    clear hK K
    refine bG [27,28] _ _ (by kernel_rfl) (by kernel_rfl) ?_
    simp only[List.filterMap_cons,List.filterMap_nil,List.getElem?_toArray,List.getElem?_cons_zero,List.getElem?_cons_succ]
    obtain⟨c5,c7⟩:∃c:Bool,decide (x.name∈oA l x.up)=c:=⟨_,rfl⟩
    rw[c7] at CN
    have e0:=hI c7
    clear c7
    go_wp2_with fail
    refine CN.o.mono ?_
    rintro e w6 ⟨rfl,k6⟩
    have K6:=btZ K5 k6
    clear k6
    cases c5 with
    | true=>
     have c0:Hid (q=false):=by rw[<-b6.o];exact oN (abE (.inr (.inr (.inr (.inr (of_decide_eq_true e0.o))))))
     have p:Hid ((3:Int)=r):=by have:=H.o;rw[c0.o] at this;exact this
     have G:=btZ K2 K6.o
     clear Z f1 c1
     go_wp2_with fail
     go_ret
     exact⟨by rw[<-p.o];rfl,G.o⟩
    | false=>
     have i0:Hid (eG l (f+1) (l.tail.take f++[x]) (l.tail.drop (f+1))=q):=by
      rw[<-b6.o]
      exact(xX (afS P1.o P2.o P3.o P4.o (of_decide_eq_false e0.o))).symm
     have i1:Hid (mP l (f+1)):=HU.o.next HX.o (of_decide_eq_false P1.o) (of_decide_eq_false P2.o)
     have G:=btZ K2 K6.o
     have i2:=hI (pF (pF HM.o K1.o) K6.o)
     have h0:w6.cell? ⟨wr.heap.size,0,none⟩=some (.int .i64 x.up):=Z ⟨w6,K6.o⟩
     have h1:w6.cell? ⟨wr.heap.size,1,none⟩=some (.int .i64 x.name):=f1 ⟨w6,K6.o⟩
     have f3:=hI (kD d4.o)
     clear Z f1 c1 d6 c2 d7
     go_wp2_with (first
      | (at_mapUpdate;refine wpList_mapUpdate_own _ rfl _ _ _ 278 rfl 172 3 oY underlying278 _ w.heap.size f _ rfl i2.o (by unfold maxLen;omega) _ _ _ rfl rfl f3.o _ [] (plainElem_int underlying3 (by decide)) ?_;intro w7 a5 V)
      | fail)
     have R1:Hid (w7.ownsMap prog 172 (plainElem prog 3) w.heap.size (f+1) (lF tL (l.tail.take (f+1)))):=by rw[sZ d3.o,rA];exact a5
     have R2:=hI (G.o.grown V G.o.size (λj hj=>by cases hj;exact Nat.le_refl _))
     clear a5 V h0 h1
     go_wp2_with fail
     go_roundw
     case rel=>exact⟨f+1,by go_num,by omega,i1.o,R1.o,by rw[sZ d3.o];exact i0.o,R2.o⟩
     case measure=>simp[RowKit.intOf];omega
  ·have i3:Hid (q=true):=by
    rw[<-HF.o,List.drop_of_length_le (by have:=b0.o;omega)];rfl
   have p:Hid ((0:Int)=r):=by have:=H.o;rw[i3.o] at this;exact this
   have h4:¬(f:Int)<(N:Int):=by omega
   go_wp2_with fail
   go_ret
   exact⟨by rw[<-p.o];rfl,KW.o⟩
theorem afR (A:Option Addr) (p:Nat) (l:List aO) (s:Int) (w:World) (u:aB w w.heap.size 2 jG (.slice A l.length p) l) : Calls prog 198 #[.slice A l.length p,.int .i64 s] w (qI (iE l s) w):=by
 obtain⟨r,f⟩:∃r,iE l s=r:=⟨_,rfl⟩;rw[f];unfold iE at f;have G:=hI u;have N:=aM u;have C:=hI (yR A p l w u);obtain⟨q,x⟩:∃q,cG l=q:=⟨_,rfl⟩;rw[x] at C f;have H:=hI x;clear u x;by_cases E:q=0;case neg=>rw[if_pos (.inl E)] at f;have j:=hI f;clear f;go_enter func198,ntmps198;go_wp2_with fail;have d:=kG w;refine C.o.mono ?_;rintro e w1 ⟨rfl,g⟩;have K:=btZ d g;go_wp2_with fail;go_ret;exact⟨_,rfl,by rw[<-j.o];exact aB.nil _ _ _ _,K.o⟩
 subst E;by_cases h1:s<0;·rw[if_pos (.inr (.inl h1))] at f;have j:=hI f;clear f;go_enter func198,ntmps198;go_wp2_with fail;have d:=kG w;refine C.o.mono ?_;rintro e w1 ⟨rfl,g⟩;have K:=btZ d g;go_wp2_with fail;go_ret;exact⟨_,rfl,by rw[<-j.o];exact aB.nil _ _ _ _,K.o⟩
 by_cases F:(l.length:Int)<=s;·rw[if_pos (.inr (.inr F))] at f;have j:=hI f;clear f;go_enter func198,ntmps198;go_wp2_with fail;have d:=kG w;refine C.o.mono ?_;rintro e w1 ⟨rfl,g⟩;have K:=btZ d g;go_wp2_with fail;go_ret;exact⟨_,rfl,by rw[<-j.o];exact aB.nil _ _ _ _,K.o⟩
 rw[if_neg (by rintro (h | h | h);exact h rfl;exact h1 h;exact F h)] at f;have j:=hI f;obtain⟨y,O,P⟩:=oZ H.o;have I:=hI y;clear f y;go_enter func198,ntmps198;go_wp2_with fail;have d:=kG w;refine C.o.mono ?_;rintro e w1 ⟨rfl,g⟩;have K:=btZ d g;clear g;have J:=hI (abA A p l (l.length - 1) s w1 (G.o.below K.o) I.o (by omega) (by omega) (by omega));go_wp2_with fail;refine J.o.mono ?_;rintro e R ⟨v,rfl,z,D⟩;have L:=hI z;have M:=btZ K D;clear D z;go_wp2_with fail;go_ret;exact⟨_,rfl,by rw[<-j.o];exact L.o,M.o⟩
end
end Go.Proofs.YtijihlcdhppfgaaGreatDoor
