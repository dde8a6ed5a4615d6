/- Part of the walk of the given code: contracts of the functions that irun.Run reaches, and plain laws on what it reckons. -/
import Derived.Test.YtjaphgpkkfdaaaaGreatDoorZI
import Derived.Test.YtjaphgpkkfdaaaaGreatDoorZE
import Derived.Sort.Row
import Derived.Test.YtjaphgpkkfdaaaaGreatDoorZD
import Derived.Test.YtjaphgpkkfdaaaaGreatDoorZH
import Derived.DeepKeys4
import Derived.Maps.OwnOps
import Derived.Maps.OwnSet
import Derived.Maps.Views
import Derived.Test.YtjaphgpkkfdaaaaGreatDoorZB
set_option maxHeartbeats 16000000
set_option maxRecDepth 100000
set_option linter.all false
namespace Go.Proofs.YtjaphgpkkfdaaaaGreatDoor
section
open Go.RowKit
theorem bV {w:World} {B:Nat} {e:TypeId} {size n:Nat} {v:Value} {xs:List Value} (hown:w.ownsRow B e size v n xs):∃A c,v=.slice A n c:=by
 rcases hown.2 with ⟨e,h0⟩ | ⟨g,cp,_,e,_⟩
 ·subst h0;exact⟨_,_,e⟩
 ·exact⟨_,_,e⟩
theorem mO {w w':World} {B B':Nat} {e:TypeId} {size n:Nat} {v:Value} {xs:List Value} (hown:w.ownsRow B e size v n xs) (hg:w.grownBy w' v.ownBlock) (h:B'≤B) (hw:B'≤w.heap.size):Below B' w w':=
 ⟨hg.os,hg.tape,hg.output,hg.size,fun k hk=>hg.block k (by omega) (fun e=>by have:=(jD hown k e.symm).1;omega)⟩
theorem o5 {α : Type} {l:List α} {k:Nat} {x : α} (h:l[k]? = some x):l.take (k+1)=l.take k++[x]:=by
 obtain⟨h1,h2⟩:=lE h
 rw[List.take_succ_eq_append_getElem h1,h2]
theorem vT {size:Nat} : ∀(rows:List (List Value)),(∀r∈rows,r.length=size)→(rows.flatMap id).length=rows.length*size
 | [],_=>by simp
 | r::l,h=>by
  rw[List.flatMap_cons,List.length_append,vT l (fun x hx=>h x (by simp[hx])),List.length_cons,Nat.succ_mul]
  have:=h r (by simp)
  show r.length+_=_
  omega
theorem b9 {size:Nat} : ∀(rows:List (List Value)) (i k:Nat) (r:List Value),(∀r∈rows,r.length=size)→rows[i]? = some r→k<size→(rows.flatMap id)[i*size+k]? = r[k]?
 | [],_,_,_,_,h,_=>by simp at h
 | y::l,0,k,r,hl,h,hk=>by
  obtain rfl:y=r:=by simpa using h
  have:=hl y (by simp)
  rw[List.flatMap_cons,List.getElem?_append_left (by show _<y.length;omega)];simp
 | y::l,i+1,k,r,hl,h,hk=>by
  have:=hl y (by simp)
  rw[List.flatMap_cons,List.getElem?_append_right (by show y.length≤_;rw[Nat.succ_mul];omega),show(i+1)*size+k - (id y).length=i*size+k by rw[Nat.succ_mul];show _ - y.length=_;omega]
  exact b9 l i k r (fun x hx=>hl x (by simp[hx])) (by simpa using h) hk
theorem j5 {α : Type} {w:World} {base size:Nat} {e:TypeId} {A:Option Addr} {c:Nat} {rows:List (List Value)} {xs:List α} {R:List Value→α→Prop}
  (h:w.ownsRow base e size (.slice A xs.length c) xs.length (rows.flatMap id)) (hl:rows.length=xs.length) (hs:∀r∈rows,r.length=size) (hR:∀(i:Nat) (r:List Value) (x : α),rows[i]? = some r→xs[i]? = some x→R r x) :
  aH w w.heap.size size R (.slice A xs.length c) xs:=by
 rcases h.2 with ⟨e0,h0⟩ | ⟨g,cap,cur,e0,hb,hg,h1,h2,h3,h5⟩
 ·have:xs=[]:=List.length_eq_zero_iff.1 h0
  subst this
  rw[e0]
  exact aH.nil _ _ _ _
 ·injection e0 with e0 e1 e2
  subst e0;subst e2
  refine⟨_,_,rfl,h1,h2,fun hp=>⟨g,0,rfl,(aE hg).1,fun i x hi=>?_⟩⟩
  have hi':=(lE hi).1
  have hr:rows[i]? = some (rows[i]'(by omega)):=lG (by omega)
  refine⟨_,hs _ (List.mem_of_getElem? hr),hR i _ x hr hi,fun k u hk=>?_⟩
  have hk8:k<size:=by have:=(lE hk).1;have:=hs _ (List.mem_of_getElem? hr);omega
  have hlt:i*size+k<xs.length*size:=by
   have:(i+1)*size≤xs.length*size:=Nat.mul_le_mul_right _ (by omega)
   rw[Nat.succ_mul] at this
   omega
  rw[Nat.zero_add,World.ownsRow.cellAt h (i*size+k) hlt,b9 rows i k _ hs hr hk8]
  exact hk
theorem vP {w:World} {base:Nat} {e:TypeId} {A:Option Addr} {c:Nat} {xs:List Int} (h:w.ownsRow base e 1 (.slice A xs.length c) xs.length (xs.map (.int .i64))) (hw:∀x∈xs,wfi x):aH w w.heap.size 1 hY (.slice A xs.length c) xs:=by
 have e1:∀l:List Int,(l.map fun x=>[Value.int .i64 x]).flatMap id=l.map (.int .i64):=fun l=>by
  induction l with
  | nil=>rfl
  | cons y l ih=>rw[List.map_cons,List.flatMap_cons,ih];rfl
 refine j5 (rows:=xs.map fun x=>[.int .i64 x]) (by rw[e1];exact h) (by simp) (by simp) ?_
 ·intro i r x hr hx
  rw[List.getElem?_map,hx] at hr
  injection hr with hr
  exact⟨hr.symm,hw x (List.mem_of_getElem? hx)⟩
section
open Go.Sort
theorem vW {α : Type} [Inhabited α] {w:World} {g off:Nat} {enc : α→Value} {d:Array α} {cur:Array Value} {t:TypeId} {fr:Nat×Nat} (h:w.heap[g]? = some (.cells cur t fr)):(putRow enc w g off d).heap[g]? = some (.cells (putCells enc off d cur) t fr):=by
 simp[putRow,mapBlock,Array.getElem?_modify,h,onCells]
theorem uQ {α : Type} [Inhabited α] {w:World} {g k off:Nat} {enc : α→Value} {d:Array α} (h:k≠g):(putRow enc w g off d).heap[k]? = w.heap[k]?:=by
 simp[putRow,mapBlock,Array.getElem?_modify,Ne.symm h]
theorem vV {α : Type} [Inhabited α] {w:World} {g off:Nat} {enc : α→Value} {d:Array α} : (putRow enc w g off d).heap.size=w.heap.size:=by
 simp[putRow,mapBlock]
theorem vX {α : Type} [Inhabited α] {enc : α→Value} {d:Array α} {c:Array Value} {j:Nat} (hj:j<d.size) (hc:d.size≤c.size):(putCells enc 0 d c)[j]? = some (enc d[j]!):=by
 have hjc:j<c.size:=by omega
 simp[putCells,Array.getElem?_mapIdx,hjc,hj]
end
end
section
def kF (l:List aT) (K:Nat):Prop:=∀j x,1≤j→j≤K→l[j]? = some x→0≤x.up∧x.up<j
def upN (l:List aT) (s:Int):List Int:=upM l (s.toNat+1) s
theorem vL {l:List aT} {K:Nat} (h:kF l K):∀(f g:Nat) (s:Int),s≤K→s.toNat<f→s.toNat<g→upM l f s=upM l g s
 | 0,_,_,_,h1,_=>by omega
 | _+1,0,_,_,_,h2=>by omega
 | f+1,g+1,s,hs,h1,h2=>by
  unfold upM
  by_cases c:s≤0
  ·rw[if_pos c,if_pos c]
  ·rw[if_neg c,if_neg c]
   cases e:l[s.toNat]? with
   | none=>rfl
   | some x=>
    have:=h s.toNat x (by omega) (by omega) e
    dsimp only
    rw[vL h f g x.up (by omega) (by omega) (by omega)]
theorem lZ {l:List aT} {s:Int} (h:s≤0):upN l s=[]:=by unfold upN upM;rw[if_pos h]
theorem qW {l:List aT} {K:Nat} (h:kF l K) {s:Int} (h0:0<s) (hK:s≤K) {x:aT} (hx:l[s.toNat]? = some x):upN l s=x.name::upN l x.up:=by
 have hu:=h s.toNat x (by omega) (by omega) hx
 have e:upN l s=x.name::upM l s.toNat x.up:=by
  unfold upN
  rw[upM]
  rw[if_neg (by omega),hx]
 rw[e]
 unfold upN
 rw[vL h s.toNat (x.up.toNat+1) x.up (by omega) (by omega) (by omega)]
theorem xM (l:List aT) (s:Int):lA l s=(upN l s).reverse:=rfl
theorem yS {l:List aT} {K:Nat} (h:kF l K):∀(n:Nat) (s:Int),s≤n→s≤K→(upN l s).length≤n
 | 0,s,h1,_=>by rw[lZ (by omega)];simp
 | n+1,s,h1,h2=>by
  by_cases c:s≤0
  ·rw[lZ c];simp
  ·cases e:l[s.toNat]? with
   | none=>unfold upN upM;rw[if_neg c,e];simp
   | some x=>
    have:=h s.toNat x (by omega) (by omega) e
    rw[qW h (by omega) h2 e,List.length_cons]
    have:=yS h n x.up (by omega) (by omega)
    omega
theorem yR {l:List aT} {K:Nat} (h:kF l K):∀(n:Nat) (s:Int),s≤n→s≤K→∀y∈upN l s,∃x∈l,x.name=y
 | 0,s,h1,_,y,hy=>by rw[lZ (by omega)] at hy;cases hy
 | n+1,s,h1,h2,y,hy=>by
  by_cases c:s≤0
  ·rw[lZ c] at hy;cases hy
  ·cases e:l[s.toNat]? with
   | none=>unfold upN upM at hy;rw[if_neg c,e] at hy;cases hy
   | some x=>
    have:=h s.toNat x (by omega) (by omega) e
    rw[qW h (by omega) h2 e] at hy
    rcases List.mem_cons.1 hy with rfl | hy
    ·exact⟨x,List.mem_of_getElem? e,rfl⟩
    ·exact yR h n x.up (by omega) (by omega) y hy
def iR (l:List aT) (k:Nat) (seen:List aT) (s:aT):Bool:=decide (s.up<0) || decide ((k:Int)<s.up) || decide (s.name<0) || decide (s∈seen) || decide (s.name∈lA l s.up)
theorem iX (l:List aT) (k:Nat) (seen:List aT) (s:aT) (r:List aT):dE l k seen (s::r)=(!iR l k seen s && dE l (k+1) (seen++[s]) r):=rfl
theorem lO {l:List aT} {k:Nat} {seen:List aT} {s:aT} {r:List aT} (h:iR l k seen s=true):dE l k seen (s::r)=false:=by rw[iX,h];rfl
theorem sT {l:List aT} {k:Nat} {seen:List aT} {s:aT} {r:List aT} (h:iR l k seen s=false):dE l k seen (s::r)=dE l (k+1) (seen++[s]) r:=by rw[iX,h];rfl
theorem kF.next {l:List aT} {k:Nat} (h:kF l k) {s:aT} (hs:l[k+1]? = some s) (h0:¬s.up<0) (h1:¬(k:Int)<s.up):kF l (k+1):=by
 intro j x hj1 hj2 hx
 by_cases c:j=k+1
 ·subst c
  rw[hs] at hx;injection hx with hx;subst hx
  omega
 ·exact h j x hj1 (by omega) hx
theorem l8 {l:List aT} : ∀(r seen:List aT) (k:Nat),(∀i x,r[i]? = some x→l[k+1+i]? = some x)→l.length=k+1+r.length→kF l k→dE l k seen r=true→kF l (l.length - 1)
 | [],_,k,_,hl,hu,_=>by
  rw[hl];simpa using hu
 | s::r,seen,k,hi,hl,hu,hf=>by
  rw[iX,Bool.and_eq_true] at hf
  obtain⟨h1,h2⟩:=hf
  unfold iR at h1
  simp only[Bool.not_eq_true',Bool.or_eq_false_iff,decide_eq_false_iff_not] at h1
  obtain⟨⟨⟨⟨a,b⟩,c⟩,d⟩,e⟩:=h1
  have h0:=hi 0 s rfl
  exact l8 r (seen++[s]) (k+1) (fun i x hx=>by
   have:=hi (i+1) x (by simpa using hx)
   rwa [show k+1+(i+1)=k+1+1+i by omega] at this) (by rw[hl,List.length_cons];omega) (hu.next (by simpa using h0) a b) h2
theorem mB {l:List aT} (h:bT l=0):kF l (l.length - 1)∧l.length≤100∧0<l.length:=by
 unfold bT at h
 split at h
 ·cases h
 ·rename_i h1
  split at h
  ·cases h
  ·rename_i x r
   split at h
   ·cases h
   ·split at h
    ·rename_i h2
     refine⟨l8 r [] 0 (fun i x hx=>by rw[show 0+1+i=i+1 by omega];simpa using hx) (by simp;omega) (fun j y h1 h2=>by omega) h2,by omega,by simp⟩
    ·cases h
end
section
open Go.RowKit Go.Maps
section
variable {κ : Type} (lit : κ→Lit)
def jB (l:List κ):DataW Unit:=l.foldl (fun d k=>d.put (lit k) (.lit (.int .i64 1))) (.map [])
theorem nM (l:List κ) (k : κ):jB lit (l++[k])=(jB lit l).put (lit k) (.lit (.int .i64 1)):=by simp[jB,List.foldl_append]
variable {lit}
theorem rB {k : κ} (hk:WideAt.IsKeyLit (lit k)) (z:DataW Unit):∀(l:List κ),(∀q∈l,lit k=lit q→k=q)→∀(D:DataW Unit),IsMap D→
  (k∈l→(l.foldl (fun d k=>d.put (lit k) (.lit (.int .i64 1))) D).atKey (lit k) z=.lit (.int .i64 1))∧
  (k∉l→(l.foldl (fun d k=>d.put (lit k) (.lit (.int .i64 1))) D).atKey (lit k) z=D.atKey (lit k) z)
 | [],_,D,_=>⟨fun h=>by simp at h,fun _=>rfl⟩
 | x::l,hi,D,h=>by
  rw[List.foldl_cons]
  obtain⟨i1,i2⟩:=rB hk z l (fun q hq=>hi q (List.mem_cons_of_mem _ hq)) _ (h.put (lit x) (.lit (.int .i64 1)))
  refine⟨fun hm=>?_,fun hm=>?_⟩
  ·by_cases h1:k∈l
   ·exact i1 h1
   ·rw[i2 h1]
    rcases List.mem_cons.1 hm with h2 | h2
    ·subst h2
     exact atKey_put_same h hk _ _
    ·exact absurd h2 h1
  ·rw[i2 (fun h=>hm (List.mem_cons_of_mem _ h))]
   exact atKey_put_other (fun e=>hm (hi x List.mem_cons_self e ▸ List.mem_cons_self)) _ _
theorem tI {k : κ} (hk:WideAt.IsKeyLit (lit k)) {l:List κ} (hi:∀q∈l,lit k=lit q→k=q) (h:k∈l):(jB lit l).atKey (lit k) (.lit (.int .i64 0))=.lit (.int .i64 1):=(rB hk _ l hi _ isMap_empty).1 h
theorem rA {k : κ} (hk:WideAt.IsKeyLit (lit k)) {l:List κ} (hi:∀q∈l,lit k=lit q→k=q) (h:k∉l):(jB lit l).atKey (lit k) (.lit (.int .i64 0))=.lit (.int .i64 0):=(rB hk _ l hi _ isMap_empty).2 h
end
def mZ (n:Int):Lit:=.int .i64 n
theorem v6 {a b:Int} (h:mZ a=mZ b):a=b:=by unfold mZ at h;injection h
theorem xQ:Keyed Tryz.prog 3:=int_keyed Tryz.underlying3
theorem zE {n:Int} (h:wfi n):(Lit.int .i64 n).wf=true:=by
 unfold wfi at h;simp[Lit.wf,IntKind.min,IntKind.max,IntKind.signed,IntKind.bits];omega
theorem nT {n:Int} (h:wfi n):keyOf Tryz.prog 3 (.int .i64 n)=some (mZ n):=keyOf_int_mk Tryz.underlying3 (zE h)
theorem aaL {n:Int} {l:List Int} (h:n∈l):(jB mZ l).atKey (mZ n) (.lit (.int .i64 0))=.lit (.int .i64 1):=tI (lit:=mZ) (show WideAt.IsKeyLit (mZ n) from trivial) (fun _ _ e=>v6 e) h
theorem xE {n:Int} {l:List Int} (h:n∉l):(jB mZ l).atKey (mZ n) (.lit (.int .i64 0))=.lit (.int .i64 0):=rA (lit:=mZ) (show WideAt.IsKeyLit (mZ n) from trivial) (fun _ _ e=>v6 e) h
def jP (s:aT):Value:=.agg #[.int .i64 s.up,.int .i64 s.name]
theorem xC {s t:aT} (h:jP s=jP t):s=t:=by
 obtain⟨a,b⟩:=s
 obtain⟨c,d⟩:=t
 unfold jP at h
 simp only[Value.agg.injEq,Array.mk.injEq,List.cons.injEq,Value.int.injEq,true_and,and_true] at h
 obtain⟨rfl,rfl⟩:=h
 rfl
theorem laidS:laidOutB Tryz.prog=true:=by kernel_rfl
theorem ab9:(51:TypeId)<Tryz.prog.types.size:=of_decide_eq_true (by kernel_rfl)
theorem aaI:(match Tryz.prog.underlying 51 with | some (.array _ _) | some (.struct _)=>true | _=>false)=true:=by kernel_rfl
theorem mA:Keyed Tryz.prog 51:=Keyed.of_law (deep_law_laid laidS (m:=3) (by omega) ab9 (by kernel_rfl) aaI)
theorem zB (d:Nat) {n:Int} (h:wfi n):Tryz.prog.keyLits (d+1) 3 [.int .i64 n]=some [.int .i64 n]:=by
 unfold Program.keyLits
 simp[Tryz.underlying3,zE h]
theorem qJ {P : Program} {d : Nat} {t : TypeId} {fs : Array Field} {cs : List Value} (h : P.underlying t = some (.struct fs)) (hc : cs.length = P.cellsOf t) (hn : fs.all (·.name != "_") = true) :
  P.keyLits (d+1) t cs=(fs.toList.mapM fun f=>P.keyLits d f.type ((cs.drop f.offset).take (P.cellsOf f.type))).map List.flatten:=by
 conv=>lhs;unfold Program.keyLits
 split
 all_goals (first | (rename_i e;rw[h] at e;cases e;done) | (rename_i e _;rw[h] at e;cases e;done) | skip)
 ·rename_i fs' cs' e
  rw[h] at e
  injection e with e
  injection e with e
  subst e
  rw[if_pos ⟨hc,hn⟩]
 ·simp_all
theorem cS1:Tryz.prog.cellsOf 3=1:=by kernel_rfl
theorem cS2:Tryz.prog.cellsOf 51=2:=by kernel_rfl
def fW (s:aT):Prop:=wfi s.up∧wfi s.name
theorem wD {s:aT} (h:fW s):∃l,keyOf Tryz.prog 51 (jP s)=some l:=by
 obtain⟨h0,h1⟩:=h
 have e1:Tryz.prog.keyType 51=true:=by kernel_rfl
 have e2:(jP s).formed Tryz.prog 51=true:=by
  unfold jP
  simp[Value.formed,Tryz.underlying51,cS2]
 obtain⟨d,hd⟩:∃d,Tryz.prog.types.size+1=d+1+1+1:=⟨Tryz.prog.types.size - 2,by have:2≤Tryz.prog.types.size:=of_decide_eq_true (by kernel_rfl);omega⟩
 have e3:∃L,Tryz.prog.keyLits (d+1+1+1) 51 (jP s).cells.toList=some L:=by
  unfold jP
  rw[qJ Tryz.underlying51 (by rw[cS2];rfl) (by simp)]
  simp[cS1,Value.cells,zB (d+1) h0,zB (d+1) h1]
 obtain⟨L,hL⟩:=e3
 refine⟨.string (keyBytes L),?_⟩
 unfold keyOf
 rw[Tryz.underlying51]
 simp only[]
 rw[e1,e2,hd,hL]
 rfl
noncomputable def pJ (s:aT):Lit:=(keyOf Tryz.prog 51 (jP s)).getD (.int .i64 0)
theorem iF {s:aT} (h:fW s):keyOf Tryz.prog 51 (jP s)=some (pJ s):=by
 obtain⟨l,hl⟩:=wD h
 unfold pJ
 rw[hl];rfl
theorem vZ {s t:aT} (hs:fW s) (ht:fW t) (h:pJ s=pJ t):s=t:=
 xC (mA.inj (iF hs) (by rw[h];exact iF ht))
theorem aaK {s:aT} {l:List aT} (hs:fW s) (hl:∀x∈l,fW x) (h:s∈l):(jB pJ l).atKey (pJ s) (.lit (.int .i64 0))=.lit (.int .i64 1):=tI (lit:=pJ) (mA.key (iF hs)) (fun q hq e=>vZ hs (hl q hq) e) h
theorem xD {s:aT} {l:List aT} (hs:fW s) (hl:∀x∈l,fW x) (h:s∉l):(jB pJ l).atKey (pJ s) (.lit (.int .i64 0))=.lit (.int .i64 0):=rA (lit:=pJ) (mA.key (iF hs)) (fun q hq e=>vZ hs (hl q hq) e) h
end
section
open Go.RowKit Go.Sort
theorem wf_upN {w:World} {B:Nat} {v:Value} {l:List aT} (h:aH w B 2 jX v l) {K:Nat} (hu:kF l K) {s:Int} (hs:s≤K):∀y∈upN l s,wfi y:=fun y hy=>by
 obtain⟨x,hx,rfl⟩:=yR hu s.toNat s (by omega) hs y hy
 obtain⟨cs,hR⟩:=h.mem hx
 exact hR.2.2
theorem vN (A:Option Addr) (cap:Nat) (l:List aT) (K:Nat) (s:Int) (w:World) (hs:aH w w.heap.size 2 jX (.slice A l.length cap) l) (hu:kF l K) (hK:K<l.length) (hK2:K≤100) (hsK:s≤K) :
  Calls Tryz.prog 119 #[.slice A l.length cap,.int .i64 s] w (mW (lA l s) w):=by
 have HS:=hI hs
 have HU:=hI hu
 have HWF:=hI (wf_upN hs hu hsK)
 have HN:Hid ((upN l s).length≤100):=Nat.le_trans (yS hu K s hsK hsK) hK2
 obtain⟨r,hr⟩:∃r,upN l s=r:=⟨_,rfl⟩
 rw[xM]
 rw[hr] at HWF HN ⊢
 have HR:=hI hr
 have ll:=aP hs
 obtain⟨q0,hq0,hq1,hq2,hq3⟩:=info_parts uW
 clear hs hu hr
 go_enter Tryz.func119,Tryz.ntmps119
 go_wp2_with fail
 go_loopw [5,1] (fun a k wr=>∃(sk:Int) (acc:List Int),k=.int .i64 sk∧sk≤K∧Hid (acc++upN l sk=r)∧Hid (wr.ownsRow w.heap.size 3 1 a acc.length (acc.map (.int .i64)))∧Hid (Below w.heap.size w wr)) (fun _ k _=>(RowKit.intOf k).toNat)
 case atStart=>exact⟨s,[],rfl,hsK,by rw[List.nil_append];exact HR.out,World.ownsRow_nil _ _ _ _,Below.refl _ _⟩
 case round=>
  obtain⟨sk,acc,rfl,hsk,HA,OA,KW⟩:=hrel
  obtain⟨A7,c7,rfl⟩:=bV OA.out
  have hsz:=KW.out.size
  have hal:acc.length≤100:=by have:=HN.out;rw[←HA.out,List.length_append] at this;omega
  by_cases hlt:0<sk
  ·obtain⟨m,rfl⟩:=Int.eq_ofNat_of_zero_le (Int.le_of_lt hlt)
   have hm:m<l.length:=by omega
   obtain⟨b,off,x,ys,rfl,hb,hx,-,⟨rfl,wx1,wx2⟩,hat⟩:=HS.out.at_ hm
   have g0:wr.cell? ⟨b,off+m*2,none⟩=some (.int .i64 x.up):=(KW.out.cell hb).trans (hat 0 _ rfl)
   have g1:wr.cell? ⟨b,off+m*2+1,none⟩=some (.int .i64 x.name):=(KW.out.cell hb).trans (hat 1 _ rfl)
   have hzb:b<wr.heap.size:=Nat.lt_of_lt_of_le hb KW.out.size
   have hxx:l[(m:Int).toNat]? = some x:=by rw[Int.toNat_natCast];exact hx
   have HSTEP:Hid (acc++[x.name]++upN l x.up=r):=by
    show _=r
    rw[←HA.out,qW HU.out hlt hsk hxx,List.append_assoc];rfl
   have hup:=HU.out m x (by omega) (by omega) hx
   have HUP:=hI hup
   have hm1:(m:Int)<l.length:=by omega
   obtain⟨L,hL⟩:∃L,acc.map (Value.int .i64)=L:=⟨_,rfl⟩
   rw[hL] at OA
   have HL:=hI hL
   clear hat hx hxx hL hup
   go_wp2_with (at_builtin;refine wpList_append_own _ rfl _ _ 89 rfl w.heap.size 3 q0 (.int .i64 0) 1 8 Tryz.underlying89 hq0 hq1 hq2 hq3 rfl (by decide) (.slice A7 acc.length c7) acc.length L rfl (OA.out.alloc _) ⟨wr.heap.size,0,none⟩ 1 1 [.int .i64 x.name] rfl rfl ?c1 ?c2 ?c3 ?c4 ?c5 ?_)
   case c1=>exact World.news_of_block (cs:=#[.int .i64 x.name]) (aJ _ _)
   case c2=>intro u hu;simp at hu;subst hu;rfl
   case c3=>unfold maxLen;omega
   case c4=>omega
   case c5=>simp;omega
   intro v' w6 hown hg _
   have O7:=hI hown
   have KB:=hI (mO (B':=w.heap.size) (OA.out.alloc (.cells #[.int .i64 x.name] 3)) hg (Nat.le_refl _) (by simp;omega))
   have K7:=hI ((KW.out.alloc hsz _).trans KB.out)
   have h0:w6.cell? ⟨b,off+m*2,none⟩=some (.int .i64 x.up):=by
    have hc0:w.cell? ⟨b,off+m*2,none⟩=some (.int .i64 x.up):=(KW.out.cell hb).symm.trans g0
    exact(K7.out.cell hb).trans hc0
   clear hown hg g0 g1
   go_wp2_with fail
   go_roundw
   case rel=>exact⟨x.up,acc++[x.name],rfl,by have:=HUP.out;omega,HSTEP,by rw[List.map_append,HL.out,List.length_append];exact O7.out,K7⟩
   case measure=>have:=HUP.out;simp[RowKit.intOf];omega
  ·have HE:Hid (acc=r):=by have:=HA.out;rwa [lZ (by omega),List.append_nil] at this
   have HW2:Hid (∀y∈acc,wfi y):=fun y hy=>HWF.out y (HE.out ▸ hy)
   rcases Nat.eq_zero_or_pos acc.length with h0 | h0
   ·rw[h0] at OA ⊢
    have hacc:acc=[]:=List.length_eq_zero_iff.1 h0
    have RC:=hI (Tryz.slices_Reverse_int_empty A7 c7 wr)
    have HG:Hid (aH wr wr.heap.size 1 hY (.slice A7 0 c7) r.reverse):=by
     rw[←HE.out,hacc]
     have:=vP (xs:=[]) (c:=c7) (A:=A7) (by simpa [hacc] using OA.out) (by simp)
     exact this
    clear hacc h0
    go_wp2_with fail
    refine RC.out.mono ?_
    rintro e w5 ⟨rfl,rfl⟩
    go_wp2_with fail
    go_ret
    exact⟨_,rfl,HG.out,KW.out⟩
   ·obtain⟨g,cur,rfl,hgb,hgc,hc1,hc2,hc3,hc4⟩:∃g cur,A7=some ⟨g,0,none⟩∧w.heap.size≤g∧wr.heap[g]? = some (.cells cur 3 (0,0))∧acc.length≤c7∧c7≤maxLen∧cur.size=c7*1∧cur.toList.take (acc.length*1)=acc.map (.int .i64):=by
     rcases OA.out.2 with ⟨e,h⟩ | ⟨g,cap,cur,e,k1,k2,k3,k4,k5,k6⟩
     ·omega
     ·injection e with e1 e2 e3
      subst e3
      exact⟨g,cur,e1,k1,k2,k3,k4,k5,k6⟩
    have HC:∀j (hj:j<acc.length),wr.cell? ⟨g,0+j,none⟩=some (.int .i64 acc[j]):=fun j hj=>by
     rw[Nat.zero_add,cell_of_row wr g _ _ _ _ hgc,←Array.getElem?_toList]
     have h7:(cur.toList.take (acc.length*1))[j]? = some (.int .i64 acc[j]):=by
      rw[hc4,List.getElem?_map,lG hj];rfl
     rw[List.getElem?_take,if_pos (by omega)] at h7
     exact h7
    have HH:Holds (Value.int .i64) wr g 0 acc.toArray:=fun j hj=>by
     have hj':j<acc.length:=by simpa using hj
     refine⟨?_,frozen_of_row wr g _ _ _ hgc⟩
     rw[HC j hj']
     simp[getElem!_pos,hj']
    have RC:=hI (Tryz.slices_Reverse_int g 0 c7 acc wr HH (by omega))
    have HGC:=hI hgc
    have HC3:=hI hc3
    clear HC HH hgc hc4 hc3
    unfold maxLen at hc2
    go_wp2_with fail
    refine RC.out.mono ?_
    rintro e w5 ⟨rfl,n,hw5⟩
    have KS:Hid (Below w.heap.size w w5):=by
     rw[hw5]
     refine⟨KW.out.os,KW.out.tape,KW.out.output,by rw[vV];exact KW.out.size,fun k hk=>?_⟩
     rw[uQ (by omega)]
     exact KW.out.block k hk
    have HG:Hid (aH w5 w5.heap.size 1 hY (.slice (some ⟨g,0,none⟩) acc.length c7) r.reverse):=by
     have hsame:w5.heap[g]? = some (.cells (putCells (Value.int .i64) 0 acc.reverse.toArray cur) 3 (0,0)):=by rw[hw5];exact vW HGC.out
     refine⟨_,c7,by rw[←HE.out,List.length_reverse],by rw[←HE.out,List.length_reverse];exact hc1,by unfold maxLen;omega,fun _=>⟨g,0,rfl,(aE hsame).1,fun i x hi=>⟨[.int .i64 x],rfl,⟨rfl,?_⟩,fun j v hj=>?_⟩⟩⟩
     ·exact HWF.out x (List.mem_reverse.1 (List.mem_of_getElem? hi))
     ·match j,hj with
      | 0,hj=>
       simp only[List.getElem?_cons_zero,Option.some.injEq] at hj
       subst hj
       rw[←HE.out] at hi
       have hil:=(lE hi).1
       have hsz5:acc.reverse.toArray.size≤cur.size:=by have:=HC3.out;simp;omega
       rw[cell_of_row w5 g _ _ _ _ hsame,show 0+i*1+0=i by omega,vX (by simpa using hil) hsz5,getElem!_pos _ _ (by simpa using hil)]
       have:=(lE hi).2
       simp[←this]
    clear hw5
    go_wp2_with fail
    go_ret
    exact⟨_,rfl,HG.out,KS.out⟩
end
section
open Go.RowKit
theorem ab8 (v:Value) (xs:List Int) (x:Int) (w:World) (hs:aH w w.heap.size 1 hY v xs):Calls Tryz.prog 160 #[v,.int .i64 x] w (fun e w'=>∃k:Int,e=.returned (.int .i64 k)∧(0≤k↔x∈xs)∧Below w.heap.size w w'):=by
 have HS:=hI hs
 obtain⟨A,cap,rfl,l1,l2,-⟩:=id hs
 unfold maxLen at l2
 clear hs
 go_enter Tryz.func160,Tryz.ntmps160
 go_wp2_with fail
 go_loopw [8] (fun i wr=>∃j:Nat,i=.int .i64 j∧j≤xs.length∧Hid (x∉xs.take j)∧Hid (Below w.heap.size w wr)) (fun i _=>xs.length - (RowKit.intOf i).toNat)
 case atStart=>exact⟨0,rfl,by omega,by rw[List.take_zero];exact List.not_mem_nil,Below.refl _ _⟩
 case round=>
  obtain⟨j,rfl,hj,KN,KW⟩:=hrel
  by_cases hlt:j<xs.length
  ·obtain⟨b,off,y,ys,rfl,hb,hy,-,⟨rfl,wy⟩,hat⟩:=HS.out.at_ hlt
   have hji:(j:Int)<xs.length:=by omega
   have g0:wr.cell? ⟨b,off+j,none⟩=some (.int .i64 y):=(KW.out.cell hb).trans (by simpa using hat 0 _ rfl)
   have HY:=hI hy
   clear hat hy wy
   by_cases c:x=y
   ·have HM:Hid (x∈xs):=by rw[c];exact List.mem_of_getElem? HY.out
    have b1:(x == y)=true:=beq_iff_eq.2 c
    go_wp2_with fail
    go_ret
    exact⟨_,rfl,⟨fun _=>HM.out,fun _=>by omega⟩,KW.out⟩
   ·have b1:(x == y)=false:=beq_eq_false_iff_ne.2 c
    have HN:Hid (x∉xs.take (j+1)):=by
     rw[show Hid _=(x∉xs.take (j+1)) from rfl,o5 HY.out,List.mem_append]
     rintro (h | h)
     ·exact KN.out h
     ·simp at h;exact c h
    go_wp2_with fail
    go_roundw
    case rel=>exact⟨j+1,by go_num,by omega,HN.out,KW.out⟩
    case measure=>simp[RowKit.intOf];omega
  ·have hji:¬(j:Int)<xs.length:=by omega
   have HM:Hid (x∉xs):=by have:=KN.out;rwa [List.take_of_length_le (by omega)] at this
   go_wp2_with fail
   go_ret
   exact⟨_,rfl,⟨fun h=>by omega,fun h=>absurd h HM.out⟩,KW.out⟩
theorem vR (v:Value) (xs:List Int) (x:Int) (w:World) (hs:aH w w.heap.size 1 hY v xs):Calls Tryz.prog 118 #[v,.int .i64 x] w (aM (.bool (decide (x∈xs))) w):=by
 have IC:=hI (ab8 v xs x w hs)
 obtain⟨A,cap,rfl,-⟩:=hs
 obtain⟨r,hr⟩:∃r,decide (x∈xs)=r:=⟨_,rfl⟩
 rw[hr]
 have HR:=hI hr
 clear hr
 go_enter Tryz.func118,Tryz.ntmps118
 go_wp2_with fail
 refine IC.out.mono ?_
 rintro e w1 ⟨k,rfl,hk,k1⟩
 have K1:=hI k1
 have HK:=hI hk
 clear k1 hk
 go_wp2_with fail
 go_ret
 exact⟨by rw[←HR.out,show decide (x∈xs)=decide (0≤k) from decide_eq_decide.2 HK.out.symm];rfl,K1.out⟩
end
section
open Go.RowKit Go.Maps Go.WideMaps
theorem vQ {l:List aT} {k:Nat} {seen:List aT} {s:aT} (h:decide (s.up<0)=true∨decide ((k:Int)<s.up)=true∨decide (s.name<0)=true∨s∈seen∨s.name∈lA l s.up):iR l k seen s=true:=by
 unfold iR
 rcases h with h | h | h | h | h <;> simp[h] <;> simp_all
theorem aaH {l:List aT} {k:Nat} {seen:List aT} {s:aT} (h1:decide (s.up<0)=false) (h2:decide ((k:Int)<s.up)=false) (h3:decide (s.name<0)=false) (h4:s∉seen) (h5:s.name∉lA l s.up):iR l k seen s=false:=by
 unfold iR
 rw[h1,h2,h3,decide_eq_false h4,decide_eq_false h5];rfl
theorem iI (w:World):Hid (Below w.heap.size w w):=Below.refl _ _
theorem qT (w:World):(zeroValue 3).run Tryz.prog w=.ok (.int .i64 0) w:=by kernel_rfl
theorem aaP {W:World} {mb:Nat} {n:Nat} {L:List aT} (h:W.ownsMap Tryz.prog 51 (plainElem Tryz.prog 3) mb n (jB pJ L)) (hl:∀x∈L,fW x) {s:aT} (hs:fW s) :
  (Instr.lookup 195 (.map (some mb)) (.agg #[.int .i64 s.up,.int .i64 s.name]) false).run Tryz.prog W=.ok (.int .i64 (if s∈L then 1 else 0)) W:=by
 obtain⟨c,hrun,hat,-⟩:=h.lookup_int mA Tryz.underlying195 Tryz.underlying3 (qT W) (iF hs)
 rw[show(Value.agg #[.int .i64 s.up,.int .i64 s.name])=jP s from rfl,hrun]
 by_cases hm:s∈L
 ·rw[aaK hs hl hm] at hat
  rw[if_pos hm,←j7 hat]
 ·rw[xD hs hl hm] at hat
  rw[if_neg hm,←j7 hat]
theorem pA {W:World} {mb:Nat} {n:Nat} {L:List Int} (h:W.ownsMap Tryz.prog 3 (plainElem Tryz.prog 3) mb n (jB mZ L)) {k:Int} (hk:wfi k) :
  (Instr.lookup 114 (.map (some mb)) (.int .i64 k) false).run Tryz.prog W=.ok (.int .i64 (if k∈L then 1 else 0)) W:=by
 obtain⟨c,hrun,hat,-⟩:=h.lookup_int xQ Tryz.underlying114 Tryz.underlying3 (qT W) (nT hk)
 rw[hrun]
 by_cases hm:k∈L
 ·rw[aaL hm] at hat
  rw[if_pos hm,←j7 hat]
 ·rw[xE hm] at hat
  rw[if_neg hm,←j7 hat]
theorem mJ {P:Program} {k:TypeId} {H:Type} {R:Value→Option (DataW H×List MemPlace)} {b n:Nat} {D:DataW H} {w w':World} (h:w.ownsMap P k R b n D) (hk:Below w.heap.size w w'):w'.ownsMap P k R b n D:=by
 obtain⟨es,clock,hb,F,hs,hD⟩:=h
 exact⟨es,clock,(hk.block b (aE hb).1).trans hb,F,hs,hD⟩
theorem tG (A:Option Addr) (cap:Nat) (l:List aT) (w:World) (hs:aH w w.heap.size 2 jX (.slice A l.length cap) l):Calls Tryz.prog 79 #[.slice A l.length cap] w (aM (.int .i64 (bT l)) w):=by
 obtain⟨r,hr⟩:∃r,bT l=r:=⟨_,rfl⟩
 rw[hr]
 have HS:=hI hs
 obtain⟨-,hl1,hl2⟩:=hs.len
 unfold maxLen at hl2
 by_cases h100:100<l.length
 ·have HR:Hid ((2:Int)=r):=by rw[←hr];unfold bT;rw[if_pos h100];rfl
  have hi:(100:Int)<l.length:=by omega
  clear hr hs h100
  go_enter Tryz.func79,Tryz.ntmps79
  go_wp2_with fail
  go_ret
  exact⟨by rw[←HR.out];rfl,Below.refl _ _⟩
 have hi:decide ((100:Int)<l.length)=false:=by simp;omega
 rcases Nat.eq_zero_or_pos l.length with h0 | h0
 ·have HR:Hid ((3:Int)=r):=by rw[←hr,List.length_eq_zero_iff.1 h0];rfl
  rw[h0] at hi ⊢
  clear hr hs h100
  go_enter Tryz.func79,Tryz.ntmps79
  go_wp2_with fail
  go_ret
  exact⟨by rw[←HR.out];rfl,Below.refl _ _⟩
 obtain⟨b,off,x0,ys,rfl,hb,hx,-,⟨rfl,wx1,wx2⟩,hat⟩:=hs.at_ (i:=0) h0
 have g0:w.cell? ⟨b,off,none⟩=some (.int .i64 x0.up):=by have:=hat 0 _ rfl;simpa using this
 have g1:w.cell? ⟨b,off+1,none⟩=some (.int .i64 x0.name):=by have:=hat 1 _ rfl;simpa using this
 have hr2:(if x0≠⟨-1,-1⟩ then 3 else if dE l 0 [] l.tail then(0:Int) else 3)=r:=by
  rw[←hr]
  cases l with
  | nil=>cases h0
  | cons y t=>
   obtain rfl:y=x0:=by simpa using hx
   unfold bT
   rw[if_neg h100]
   rfl
 have n0:((l.length:Int) == 0)=false:=beq_eq_false_iff_ne.2 (by omega)
 by_cases hx0:x0=⟨-1,-1⟩
 case neg=>
  rw[if_pos hx0] at hr2
  have HR:=hI hr2
  obtain⟨u,nm⟩:=x0
  dsimp only at g0 g1
  by_cases hu:u = -1
  ·subst hu
   have hn:¬nm = -1:=fun h=>hx0 (by rw[h])
   clear hr hr2 hat hs hx hx0 h100 wx1 wx2
   go_enter Tryz.func79,Tryz.ntmps79
   go_wp2_with fail
   go_ret
   exact⟨by rw[←HR.out];rfl,Below.refl _ _⟩
  ·clear hr hr2 hat hs hx hx0 h100 wx1 wx2
   go_enter Tryz.func79,Tryz.ntmps79
   go_wp2_with fail
   go_ret
   exact⟨by rw[←HR.out];rfl,Below.refl _ _⟩
 rw[if_neg (fun h=>h hx0)] at hr2
 subst hx0
 dsimp only at g0 g1
 obtain⟨q,hq⟩:∃q,dE l 0 [] l.tail=q:=⟨_,rfl⟩
 rw[hq] at hr2
 have HR:=hI hr2
 have HQ:=hI hq
 obtain⟨N,hN⟩:∃N,l.length=N+1:=⟨l.length - 1,by omega⟩
 have HTL:Hid (l.tail.length=N):=by show _=_;rw[List.length_tail];omega
 have HT:Hid (∀i:Nat,l.tail[i]? = l[i+1]?):=fun i=>by rw[List.getElem?_tail]
 have HNN:=hI hN
 have hN1:N≤99:=by omega
 rw[hN] at HS hi n0 hl1 ⊢
 have HWF:Hid (∀i x,l[i]? = some x→fW x):=fun i x hx=>by
  obtain⟨cs,hR⟩:=hs.mem (List.mem_of_getElem? hx)
  exact⟨hR.2.1,hR.2.2⟩
 have hs1:=hs
 clear hr hr2 hat hs hx h100 wx1 wx2 h0 hN hq
 have hcap:(1:Int)≤(N:Int)+1:=by omega
 have hcast:(((N+1:Nat)):Int)=(N:Int)+1:=by simp
 rw[hcast] at hi n0
 have hmm:=@run_makeMap Tryz.prog
 have HS1:=hI hs1
 clear hs1
 by_cases hc1:cap=1
 ·have hN0:N=0:=by omega
  have HR3:Hid ((0:Int)=r):=by
   have h1:=HQ.out
   rw[show l.tail=[] from List.length_eq_zero_iff.1 (by rw[HTL.out,hN0])] at h1
   have h2:=HR.out
   rw[←h1] at h2
   exact h2
  subst hN0
  subst hc1
  clear HS HTL HT HNN HWF HS1 hN1 hl1
  go_enter Tryz.func79,Tryz.ntmps79
  go_wp2_with fail
  go_loopw [23] (fun k wr=>k=.int .i64 0∧Hid (Below w.heap.size w wr)) (fun _ _=>0)
  case atStart=>exact⟨rfl,aB w _⟩
  case round=>
   obtain⟨rfl,KW⟩:=hrel
   clear g0 g1
   go_wp2_with fail
   go_ret
   exact⟨by rw[←HR3.out];rfl,KW.out⟩
 go_enter Tryz.func79,Tryz.ntmps79
 go_wp2_with fail
 go_loopw [23] (fun k wr=>∃kn:Nat,k=.int .i64 kn∧kn≤N∧Hid (kF l kn)∧Hid (wr.ownsMap Tryz.prog 51 (plainElem Tryz.prog 3) w.heap.size kn (jB pJ (l.tail.take kn)))∧Hid (dE l kn (l.tail.take kn) (l.tail.drop kn)=q)∧Hid (Below w.heap.size w wr)) (fun k _=>N - (RowKit.intOf k).toNat)
 case atStart=>exact⟨0,rfl,by omega,fun j x h1 h2 _=>by omega,World.ownsMap_made _ _ _ _,by rw[List.take_zero,List.drop_zero];exact HQ.out,aB w _⟩
 case round=>
  obtain⟨kn,rfl,hk,HU,HM,HF,KW⟩:=hrel
  clear g0 g1
  have hsz:=KW.out.size
  by_cases hlt:kn<N
  ·obtain⟨b',off',x,ys,hbo,hb',hx,-,⟨rfl,wx1,wx2⟩,hat⟩:=HS1.out.at_ (i:=kn+1) (by have:=HNN.out;omega)
   obtain⟨rfl,rfl⟩:b=b'∧off=off':=by injection hbo with hbo;injection hbo with h1 h2;exact⟨h1,h2⟩
   have g0:wr.cell? ⟨b,off+2+kn*2,none⟩=some (.int .i64 x.up):=(KW.out.cell hb).trans (by have:=hat 0 _ rfl;rw[←this];congr 2;omega)
   have g1:wr.cell? ⟨b,off+2+kn*2+1,none⟩=some (.int .i64 x.name):=(KW.out.cell hb).trans (by have:=hat 1 _ rfl;rw[←this];congr 2;omega)
   have hi1:(kn:Int)<(N:Int):=by omega
   have htx:l.tail[kn]? = some x:=by rw[HT.out];exact hx
   have hdrop:l.tail.drop kn=x::l.tail.drop (kn+1):=by
    obtain⟨h1,h2⟩:=lE htx
    rw[List.drop_eq_getElem_cons h1,h2]
   have HTX:=hI htx
   have HF2:Hid (dE l kn (l.tail.take kn) (x::l.tail.drop (kn+1))=q):=by have:=HF.out;rwa [hdrop] at this
   have HX:=hI hx
   have HWX:Hid (fW x):=⟨wx1,wx2⟩
   have HWL:Hid (∀y∈l.tail.take kn,fW y):=fun y hy=>by
    obtain⟨i,hi⟩:=List.getElem?_of_mem (List.mem_of_mem_take hy)
    rw[HT.out] at hi
    exact HWF.out _ _ hi
   obtain⟨w1,hw1⟩:∃w1,w1=wr.alloc (.cells #[.int .i64 x.up,.int .i64 x.name] 51):=⟨_,rfl⟩
   have K1:Hid (Below wr.heap.size wr w1):=by rw[hw1];exact aB _ _
   have f0:∀E:Up w1,E.to.cell? ⟨wr.heap.size,0,none⟩=some (.int .i64 x.up):=fun E=>E.cell (by rw[hw1];exact bL _ _ _ _)
   have f1:∀E:Up w1,E.to.cell? ⟨wr.heap.size,1,none⟩=some (.int .i64 x.name):=fun E=>E.cell (by rw[hw1];exact bL _ _ _ _)
   have HM1:Hid (∀E:Up w1,(Instr.lookup 195 (.map (some w.heap.size)) (.agg #[.int .i64 x.up,.int .i64 x.name]) false).run Tryz.prog E.to=.ok (.int .i64 (if x∈l.tail.take kn then 1 else 0)) E.to):=fun E=>aaP (mJ (mJ HM.out K1.out) E.below) HWL.out HWX.out
   have K2:Hid (Below w.heap.size w w1):=KW.out.trans (K1.out.mono hsz)
   have HW1:=hI hw1
   have hzw:wr.heap.size<w1.heap.size:=by rw[hw1];simp
   clear hat hx htx hdrop hbo wx1 wx2 hw1 HF
   by_cases hpre:decide (x.up<0)=true∨decide ((kn:Int)<x.up)=true∨decide (x.name<0)=true∨x∈l.tail.take kn
   ·have HQF:Hid (q=false):=by rw[←HF2.out];exact lO (vQ (by rcases hpre with h | h | h | h;exact .inl h;exact .inr (.inl h);exact .inr (.inr (.inl h));exact .inr (.inr (.inr (.inl h)))))
    have HR3:Hid ((3:Int)=r):=by have:=HR.out;rw[HQF.out] at this;exact this
    have HPRE:=hI hpre
    clear hpre
    go_upto_region 9 with fail
    rw[←HW1.out]
    refine aD (by kernel_rfl) (by kernel_rfl) ?_
    repeat (go_big_quiet_step (fail))
    obtain⟨b1,hb1⟩:∃b:Bool,(decide (x.up<0))=b:=⟨_,rfl⟩
    rw[hb1]
    cases b1
    case true=>
     repeat (go_big_quiet_step (fail))
     refine wpQuiet_nil ?_
     rintro _ ⟨E,rfl⟩
     have KE:=btZ K2 E.below
     clear f0 f1 HM1
     go_wp2_with fail
     go_ret
     exact⟨by rw[←HR3.out];rfl,KE.out⟩
    repeat (go_big_quiet_step (fail))
    obtain⟨b2,hb2⟩:∃b:Bool,(decide ((kn:Int)<x.up))=b:=⟨_,rfl⟩
    rw[hb2]
    cases b2
    case true=>
     repeat (go_big_quiet_step (fail))
     refine wpQuiet_nil ?_
     rintro _ ⟨E,rfl⟩
     have KE:=btZ K2 E.below
     clear f0 f1 HM1
     go_wp2_with fail
     go_ret
     exact⟨by rw[←HR3.out];rfl,KE.out⟩
    repeat (go_big_quiet_step (fail))
    obtain⟨b3,hb3⟩:∃b:Bool,(decide (x.name<0))=b:=⟨_,rfl⟩
    rw[hb3]
    cases b3
    case true=>
     repeat (go_big_quiet_step (fail))
     refine wpQuiet_nil ?_
     rintro _ ⟨E,rfl⟩
     have KE:=btZ K2 E.below
     clear f0 f1 HM1
     go_wp2_with fail
     go_ret
     exact⟨by rw[←HR3.out];rfl,KE.out⟩
    have hmm1:x∈l.tail.take kn:=by
     rcases HPRE.out with h | h | h | h
     ·rw[hb1] at h;cases h
     ·rw[hb2] at h;cases h
     ·rw[hb3] at h;cases h
     ·exact h
    rw[if_pos hmm1] at HM1
    have hm1:=HM1.out
    repeat (go_big_quiet_step (fail))
    refine wpQuiet_nil ?_
    rintro _ ⟨E,rfl⟩
    have KE:=btZ K2 E.below
    clear f0 f1 HM1
    go_wp2_with fail
    go_ret
    exact⟨by rw[←HR3.out];rfl,KE.out⟩
   ·have hp1:decide (x.up<0)=false:=by cases h:decide (x.up<0);rfl;exact absurd (.inl h) hpre
    have hp2:decide ((kn:Int)<x.up)=false:=by cases h:decide ((kn:Int)<x.up);rfl;exact absurd (.inr (.inl h)) hpre
    have hp3:decide (x.name<0)=false:=by cases h:decide (x.name<0);rfl;exact absurd (.inr (.inr (.inl h))) hpre
    have hp4:x∉l.tail.take kn:=fun h=>hpre (.inr (.inr (.inr h)))
    rw[if_neg hp4] at HM1
    have hm1:=HM1.out
    have P1:=hI hp1
    have P2:=hI hp2
    have P3:=hI hp3
    have P4:=hI hp4
    have SN:Hid (∀W,Below w.heap.size w W→Calls Tryz.prog 119 #[.slice (some ⟨b,off,none⟩) (N+1) cap,.int .i64 x.up] W (mW (lA l x.up) W)):=fun W k=>by
     have:=vN (some ⟨b,off,none⟩) cap l kn x.up W (HS1.out.below k) HU.out (by have:=HNN.out;omega) (by omega) (by have:=of_decide_eq_false hp2;omega)
     rwa [HNN.out] at this
    clear hpre hp4
    go_upto_region 9 with fail
    rw[←HW1.out]
    refine fI (fun w'=>∃E:Up w1,w'=E.to) [0,1,2,3,4,5,6,7,8,9,10,11,12,13,14,15,16,17,18,19,20,21,22,23,25,26] [24,27,28] [24] (by kernel_rfl) (by kernel_rfl) (fun _ _ d _ _ h=>by cases d <;> exact h) ⟨⟨_,(Below.refl _ w1).drew⟩,rfl⟩ ?_
    simp only[List.filterMap_cons,List.filterMap_nil,List.getElem?_toArray,List.getElem?_cons_zero,List.getElem?_cons_succ]
    generalize hqq:(fun a'=>gA _ _ _ _ _ _ a' _)=qq
    have HQQ:=hI hqq
    clear hqq
    show wpQuiet _ _ _ _ [_,_,_,_,_,_,_,_,_,_,_,_,_,_,_,_,_,_,_,_,_,_,_,_,_,_] _
    repeat (go_big_quiet_step (fail))
    refine wpQuiet_nil ?_
    rw[←HQQ.out]
    clear HQQ qq
    refine bA rfl (fun K hK=>?_)
    go_simp
    refine(SN.out w1.drew (K2.out.drew)).mono ?_
    rintro e w5 ⟨v,rfl,sv,k5⟩
    have K5:Hid (Below w1.heap.size w1 w5):=(Below.refl _ w1).drew.trans k5
    have CN:=hI (vR v _ x.name w5 sv)
    clear k5 sv
    refine hK _ _ (fun _=>⟨⟨w5,K5.out⟩,rfl⟩) ?_
    clear hK K
    refine bP [27,28] _ _ (by kernel_rfl) (by kernel_rfl) ?_
    simp only[List.filterMap_cons,List.filterMap_nil,List.getElem?_toArray,List.getElem?_cons_zero,List.getElem?_cons_succ]
    obtain⟨c5,hc5⟩:∃c:Bool,decide (x.name∈lA l x.up)=c:=⟨_,rfl⟩
    rw[hc5] at CN
    have HC5:=hI hc5
    clear hc5
    go_wp2_with fail
    refine CN.out.mono ?_
    rintro e w6 ⟨rfl,k6⟩
    have K6:=btZ K5 k6
    clear k6
    cases c5 with
    | true=>
     have HQF:Hid (q=false):=by rw[←HF2.out];exact lO (vQ (.inr (.inr (.inr (.inr (of_decide_eq_true HC5.out))))))
     have HR3:Hid ((3:Int)=r):=by have:=HR.out;rw[HQF.out] at this;exact this
     have KE:=btZ K2 K6.out
     clear f0 f1 hm1
     go_wp2_with fail
     go_ret
     exact⟨by rw[←HR3.out];rfl,KE.out⟩
    | false=>
     have HF3:Hid (dE l (kn+1) (l.tail.take kn++[x]) (l.tail.drop (kn+1))=q):=by
      rw[←HF2.out]
      exact(sT (aaH P1.out P2.out P3.out P4.out (of_decide_eq_false HC5.out))).symm
     have HU3:Hid (kF l (kn+1)):=HU.out.next HX.out (of_decide_eq_false P1.out) (of_decide_eq_false P2.out)
     have KE:=btZ K2 K6.out
     have HM6:=hI (mJ (mJ HM.out K1.out) K6.out)
     have h0:w6.cell? ⟨wr.heap.size,0,none⟩=some (.int .i64 x.up):=f0 ⟨w6,K6.out⟩
     have h1:w6.cell? ⟨wr.heap.size,1,none⟩=some (.int .i64 x.name):=f1 ⟨w6,K6.out⟩
     have hkey:=hI (iF HWX.out)
     clear f0 f1 hm1 hp1 hp2 hp3
     go_wp2_with (first
      | (at_mapUpdate;refine wpList_mapUpdate_own _ rfl _ _ _ 195 rfl 51 3 mA Tryz.underlying195 _ w.heap.size kn _ rfl HM6.out (by unfold maxLen;omega) _ _ _ rfl rfl hkey.out _ [] (plainElem_int Tryz.underlying3 (by decide)) ?_;intro w7 hown7 hgrow7)
      | fail)
     have R1:Hid (w7.ownsMap Tryz.prog 51 (plainElem Tryz.prog 3) w.heap.size (kn+1) (jB pJ (l.tail.take (kn+1)))):=by rw[o5 HTX.out,nM];exact hown7
     have R2:=hI (KE.out.grown hgrow7 KE.out.size (fun j hj=>by cases hj;exact Nat.le_refl _))
     clear hown7 hgrow7 h0 h1
     go_wp2_with fail
     go_roundw
     case rel=>exact⟨kn+1,by go_num,by omega,HU3.out,R1.out,by rw[o5 HTX.out];exact HF3.out,R2.out⟩
     case measure=>simp[RowKit.intOf];omega
  ·have HQT:Hid (q=true):=by
    rw[←HF.out,List.drop_of_length_le (by have:=HTL.out;omega)];rfl
   have HR3:Hid ((0:Int)=r):=by have:=HR.out;rw[HQT.out] at this;exact this
   have hi1:¬(kn:Int)<(N:Int):=by omega
   go_wp2_with fail
   go_ret
   exact⟨by rw[←HR3.out];rfl,KW.out⟩
theorem aaG (A:Option Addr) (cap:Nat) (l:List aT) (s:Int) (w:World) (hs:aH w w.heap.size 2 jX (.slice A l.length cap) l) :
  Calls Tryz.prog 122 #[.slice A l.length cap,.int .i64 s] w (mW (fM l s) w):=by
 obtain⟨r,hr⟩:∃r,fM l s=r:=⟨_,rfl⟩
 rw[hr]
 unfold fM at hr
 have HS:=hI hs
 have ll:=aP hs
 have C:=hI (tG A cap l w hs)
 obtain⟨q,hq⟩:∃q,bT l=q:=⟨_,rfl⟩
 rw[hq] at C hr
 have HQ:=hI hq
 clear hs hq
 by_cases h0:q=0
 case neg=>
  rw[if_pos (.inl h0)] at hr
  have HR:=hI hr
  clear hr
  go_enter Tryz.func122,Tryz.ntmps122
  go_wp2_with fail
  have SELF:=iI w
  refine C.out.mono ?_
  rintro e w1 ⟨rfl,k1⟩
  have K:=btZ SELF k1
  go_wp2_with fail
  go_ret
  exact⟨_,rfl,by rw[←HR.out];exact aH.nil _ _ _ _,K.out⟩
 subst h0
 by_cases h1:s<0
 ·rw[if_pos (.inr (.inl h1))] at hr
  have HR:=hI hr
  clear hr
  go_enter Tryz.func122,Tryz.ntmps122
  go_wp2_with fail
  have SELF:=iI w
  refine C.out.mono ?_
  rintro e w1 ⟨rfl,k1⟩
  have K:=btZ SELF k1
  go_wp2_with fail
  go_ret
  exact⟨_,rfl,by rw[←HR.out];exact aH.nil _ _ _ _,K.out⟩
 by_cases h2:(l.length:Int)≤s
 ·rw[if_pos (.inr (.inr h2))] at hr
  have HR:=hI hr
  clear hr
  go_enter Tryz.func122,Tryz.ntmps122
  go_wp2_with fail
  have SELF:=iI w
  refine C.out.mono ?_
  rintro e w1 ⟨rfl,k1⟩
  have K:=btZ SELF k1
  go_wp2_with fail
  go_ret
  exact⟨_,rfl,by rw[←HR.out];exact aH.nil _ _ _ _,K.out⟩
 rw[if_neg (by rintro (h | h | h);exact h rfl;exact h1 h;exact h2 h)] at hr
 have HR:=hI hr
 obtain⟨u1,u2,u3⟩:=mB HQ.out
 have HU:=hI u1
 clear hr u1
 go_enter Tryz.func122,Tryz.ntmps122
 go_wp2_with fail
 have SELF:=iI w
 refine C.out.mono ?_
 rintro e w1 ⟨rfl,k1⟩
 have K:=btZ SELF k1
 clear k1
 have CN:=hI (vN A cap l (l.length - 1) s w1 (HS.out.below K.out) HU.out (by omega) (by omega) (by omega))
 go_wp2_with fail
 refine CN.out.mono ?_
 rintro e w2 ⟨v,rfl,sv,k2⟩
 have SV:=hI sv
 have K2:=btZ K k2
 clear k2 sv
 go_wp2_with fail
 go_ret
 exact⟨_,rfl,by rw[←HR.out];exact SV.out,K2.out⟩
end
end Go.Proofs.YtjaphgpkkfdaaaaGreatDoor
