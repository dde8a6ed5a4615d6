/- Part of the walk of the given code: contracts, and plain laws. -/
import Derived.Test.YtijihlcdhppfgaaGreatDoorZCE
import Derived.Test.YtijihlcdhppfgaaGreatDoorXR
import Derived.Test.YtijihlcdhppfgaaGreatDoorZDA
import Derived.Test.YtijihlcdhppfgaaGreatDoorZU
import Derived.Test.YtijihlcdhppfgaaGreatDoorXA
import Derived.Test.YtijihlcdhppfgaaGreatDoorXK
import Derived.Test.YtijihlcdhppfgaaGreatDoorZI
import Derived.Test.YtijihlcdhppfgaaGreatDoorZR
set_option maxHeartbeats 16000000
set_option maxRecDepth 100000
set_option linter.all false
namespace Go.Proofs.YtijihlcdhppfgaaGreatDoor
section
open Go.RowKit
theorem ayS {w:World} {B g cap n size k:Nat} {e:TypeId} {xs:List Value} (h:w.ownsRow B e size (.slice (some ⟨g,0,none⟩) n cap) n xs) (hk:k<n*size) (v:Value):(w.setCell ⟨g,k,none⟩ v).ownsRow B e size (.slice (some ⟨g,0,none⟩) n cap) n (xs.set k v):=by
 obtain⟨hl,h2⟩:=h
 rcases h2 with ⟨e1,_⟩ | ⟨g',cap',cur,e1,hb,hg,h3,h4,h5,h6⟩
 ·cases e1
 ·injection e1 with e1 e2 e3
  injection e1 with e1
  injection e1 with e1
  subst e1;subst e3
  refine⟨by rw[List.length_set];exact hl,.inr ⟨g,cap,cur.setIfInBounds k v,rfl,hb,?_,h3,h4,by simp[h5],?_⟩⟩
  ·exact heap_setCell_same w g k _ _ _ hg
  ·rw[Array.toList_setIfInBounds,List.take_set,h6]
theorem ayR:∀(xs:List aT) (i k:Nat) (x:aT),xs[i]? = some x→k<8→(xs.flatMap bA)[i*8+k]? = (bA x)[k]?
 | [],_,_,_,h,_=>by simp at h
 | y::l,0,k,x,h,hk=>by
  obtain rfl:y=x:=by simpa using h
  rw[List.flatMap_cons,List.getElem?_append_left (by simp[bA];omega)];simp
 | y::l,i+1,k,x,h,hk=>by
  rw[List.flatMap_cons,List.getElem?_append_right (by simp[bA];omega),show(i+1)*8+k - (bA y).length=i*8+k by simp[bA];omega]
  exact ayR l i k x (by simpa using h) hk
theorem ay9 {w0 w:World} {B0:Nat} {ca:List Value} {t:aH} (h:bI w0 B0 ca t) (hB:B0≤w.heap.size) (hk:∀p:Addr,p.block<B0→w.cell? p=w0.cell? p) {u:Value} {xs:List aT} (hu:aB w w.heap.size 8 xP u xs) :
  bI w w.heap.size (ca.set 3 u) { t with ins:=xs }:=by
 obtain⟨i,e,ct,cb,h1,h2,h3,h4,h5⟩:=h.keep hB hk
 exact⟨u,e,ct,cb,by rw[h1];rfl,hu,h3,h4,h5⟩
end
section
open Go.RowKit
theorem StO.mid {o p:Og} {os os':List Og} (h:StO o p os os') (q:Og):∃m,StO o q os m∧StO q p m os':=by
 induction h with
 | hd l=>exact⟨_,.hd _,.hd _⟩
 | tl e _ ih=>obtain⟨m,a,b⟩:=ih;exact⟨_,.tl _ a,.tl _ b⟩
theorem StO.same {o:Og} {os os':List Og} : StO o o os os'→os=os'
 | .hd _=>rfl
 | .tl e h=>congrArg (e::·) h.same
section
variable {P:Program} {ops:Array Oper} {rest:List Oper} {o:Oper} {a:Act} {w0 w:World} {Q:Exit→Act→World→Prop} {l:List (Nat×List Value×TypeId)} {os os':List Og} {e:TypeId} {s n c G j:Nat} {xs:List Value}
theorem Bo.oc {v:Value} (X:Bo w0 w l os) (hO:StO ⟨e,s,.slice (some ⟨G,0,none⟩) n c,n,xs⟩ ⟨e,s,.slice (some ⟨G,0,none⟩) n c,n,xs.set j v⟩ os os') (hj:j<n*s):Bo w0 (w.setCell ⟨G,j,none⟩ v) l os':=by
 have hG:=X.lt hO.m.1 (g:=G) rfl
 have hf:∀q,q≠G→(w.setCell ⟨G,j,none⟩ v).heap[q]? = w.heap[q]?:=fun q hq=>Below.heap_setCell _ _ _ _ hq
 refine⟨⟨⟨X.bx.k.os,X.bx.k.tape,X.bx.k.output,by simp only[World.setCell,Array.size_modify];exact X.bx.k.size,fun q hq=>(hf q (by omega)).trans (X.bx.k.block q hq)⟩,X.bx.nd,fun g cs t i=>⟨(X.bx.at_ g cs t i).1,(hf g fun e=>X.far _ hO.m.1 G rfl (e ▸ i.m)).trans (X.bx.at_ g cs t i).2⟩⟩,fun q hq=>?_,fun q hq g hg=>?_,hO.w X.ap fun q _ h=>h⟩
 ·rcases hO.z X.ap hq with rfl | ⟨h1,h2⟩
  ·exact ayS (X.ow _ hO.m.1) hj v
  ·exact avJ (X.ow q h1) fun k hk=>hf k fun e=>h2 k hk (by rw[e];rfl)
 ·rcases hO.z X.ap hq with rfl | ⟨h1,h2⟩
  ·exact X.far _ hO.m.1 g hg
  ·exact X.far q h1 g hg
theorem Bo.ocs:∀(vs:List Value) {j:Nat} {w:World} {xs:List Value} {os os':List Og},Bo w0 w l os→StO ⟨e,s,.slice (some ⟨G,0,none⟩) n c,n,xs⟩ ⟨e,s,.slice (some ⟨G,0,none⟩) n c,n,avG xs j vs⟩ os os'→j+vs.length≤n*s→Bo w0 (w.setCells G j vs) l os'
 | [],_,_,_,_,_,X,hO,_=>hO.same ▸ X
 | v::r,j,w,xs,os,os',X,hO,h=>by
  simp only[List.length_cons] at h
  obtain⟨m,h1,h2⟩:=hO.mid ⟨e,s,.slice (some ⟨G,0,none⟩) n c,n,xs.set j v⟩
  exact ocs r (X.oc h1 (by omega)) h2 (by omega)
theorem Bo.there (X:Bo w0 w l os) (hO:⟨e,s,.slice (some ⟨G,0,none⟩) n c,n,xs⟩∈os):∃cur,w.heap[G]? = some (.cells cur e (0,0))∧n*s≤cur.size:=by
 rcases (X.ow _ hO).2 with ⟨e1,_⟩ | ⟨g,cap,cur,e1,hb,hg,h3,h4,h5,h6⟩
 ·cases e1
 ·injection e1 with e1 e2 e3
  injection e1 with e1
  injection e1 with e1
  subst e1
  exact⟨cur,hg,by rw[h5];exact Nat.mul_le_mul_right _ h3⟩
theorem Bo.so {ty:TypeId} {x y:Operand} {vs:List Value} (X:Bo w0 w l os) (hO:StO ⟨e,s,.slice (some ⟨G,0,none⟩) n c,n,xs⟩ ⟨e,s,.slice (some ⟨G,0,none⟩) n c,n,avG xs j vs⟩ os os') (h:∀w',Bo w0 w' l os'→wpList P ops Q rest (a.put o.dst undef) w')
  (hj:j+vs.length≤n*s) (hgd:o.guard=none:=by rfl) (ho:o.op=.store ty x y:=by rfl) (hx:a.eval x=.pointer (some ⟨G,j,none⟩):=by rfl) (hy:a.eval y=.agg ⟨vs⟩:=by rfl)
  (hi:(P.info? ty).map (·.size)=some vs.length:=by kernel_rfl) (h1:vs.all (·.oneCell')=true:=by simp[Value.oneCell']):wpList P ops Q (o::rest) a w:=by
 obtain⟨cur,hg,hs⟩:=X.there hO.m.1
 refine wpList_store_mid hgd ty x y ho G j ⟨vs⟩ hx hy (fun i hi=>⟨?_,?_⟩) hi (by simpa using h1) (h _ (X.ocs vs hO hj))
 ·simp only[List.size_toArray] at hi
  rw[cell_of_row w G (j+i) _ _ _ hg,Array.getElem?_eq_getElem (by omega)];rfl
 ·simp[World.frozen?,hg]
theorem Bo.so1 {ty:TypeId} {x y:Operand} {v:Value} (X:Bo w0 w l os) (hO:StO ⟨e,s,.slice (some ⟨G,0,none⟩) n c,n,xs⟩ ⟨e,s,.slice (some ⟨G,0,none⟩) n c,n,xs.set j v⟩ os os') (h:∀w',Bo w0 w' l os'→wpList P ops Q rest (a.put o.dst undef) w')
  (hj:j<n*s) (hgd:o.guard=none:=by rfl) (ho:o.op=.store ty x y:=by rfl) (hx:a.eval x=.pointer (some ⟨G,j,none⟩):=by rfl) (hy:a.eval y=v:=by rfl)
  (hv:v.oneCell'=true:=by rfl) (hi:(P.info? ty).map (·.size)=some 1:=by kernel_rfl):wpList P ops Q (o::rest) a w:=by
 obtain⟨cur,hg,hs⟩:=X.there hO.m.1
 refine wpList_plain hgd fun _ hK=>?_
 unfold Oper.wp execOp
 have hcell:w.cell? ⟨G,j,none⟩=some (cur[j]'(by omega)):=by rw[cell_of_row w G j _ _ _ hg,Array.getElem?_eq_getElem (by omega)]
 have hfz:w.frozen? ⟨G,j,none⟩=false:=by simp[World.frozen?,hg]
 have hcs:v.cells=#[v]:=by cases v <;> first | rfl | (simp[Value.oneCell'] at hv)
 have hst:(storeVar ty ⟨G,j,none⟩ v).run P w=.ok () (w.setCell ⟨G,j,none⟩ v):=by
  cases hq:P.info? ty with
  | none=>simp[hq] at hi
  | some i=>
   have hs:i.size=1:=by simp[hq] at hi;exact hi
   simp[storeVar,sizeOf,typeInfo,hq,hs,hcs,storeCells,Addr.add,run_store P w _ _ _ hv,hcell,hfz]
 simp only[ho,hx,hy,Instr.storeAt,Instr.sureAddr,Sem.run_bind,Sem.run_pure,Result.andThen_ok,hst]
 exact hK _ _ (h _ (X.oc hO hj))
end
theorem ayH (y:aT):∀(xs:List aT) (i:Nat),i<xs.length→avG (xs.flatMap bA) (i*8) (bA y)=(xs.set i y).flatMap bA
 | [],_,h=>by simp at h
 | x::l,0,_=>by simp[bA,avG]
 | x::l,i+1,h=>by
  have ih:=ayH y l i (by simpa using h)
  rw[List.flatMap_cons,List.set_cons_succ,List.flatMap_cons,←ih]
  have key:∀(A L vs:List Value) (o:Nat),avG (A++L) (A.length+o) vs=A++avG L o vs:=by
   intro A
   induction A with
   | nil=>intro L vs o;rw[List.nil_append,List.nil_append,List.length_nil,Nat.zero_add]
   | cons u A ih=>intro L vs o;rw[List.cons_append,List.length_cons,show A.length+1+o=A.length+o+1 by omega,avF,ih];rfl
  rw[show(i+1)*8=(bA x).length+i*8 by simp[bA];omega,key]
theorem Bx.lgd {P:Program} {ops:Array Oper} {rest:List Oper} {o:Oper} {a:Act} {w0 w:World} {Q:Exit→Act→World→Prop} {l:List (Nat×List Value×TypeId)} {g:Nat} {cs:List Value} {t ty:TypeId} {x:Operand} {d:TypeDesc} (X:Bx w0 w l) (h:wpList P ops Q rest (a.put o.dst (.agg cs.toArray)) w) (ho:o.op=.load ty x:=by rfl)
  (hgd:Region.wanted o (yielded ops a.tmps)=true:=by first | rfl | (simp[Region.wanted,yielded,Act.put, *];done)) (hx:a.eval x=.pointer (some ⟨g,0,none⟩):=by rfl) (hm:In3 g cs t l:=by repeat (first | exact .hd _ | apply In3.tl))
  (hu:P.underlying ty=some d:=by rfl) (hd:d.isRow=true:=by rfl) (hi:(P.info? ty).map (·.size)=some cs.length:=by kernel_rfl):wpList P ops Q (o::rest) a w:=
 ldr (X.rg hm) h hi ho hgd hx hu hd
section
variable {P:Program} {ops:Array Oper} {rest:List Oper} {o:Oper} {a:Act} {w0 w:World} {Q:Exit→Act→World→Prop} {l l':List (Nat×List Value×TypeId)} {os:List Og} {g j:Nat} {cs cs':List Value} {t ty:TypeId} {x y:Operand} {v:Value}
theorem Bx.lo {d:TypeDesc} (X:Bx w0 w l) (hm:In3 g cs t l) (hj:cs[j]? = some v) (h:wpList P ops Q rest (a.put o.dst v) w) (hgd:o.guard=none:=by rfl) (ho:o.op=.load ty x:=by rfl) (hx:a.eval x=.pointer (some ⟨g,j,none⟩):=by rfl)
  (hu:P.underlying ty=some d:=by rfl) (hd:d.isRow=false:=by rfl):wpList P ops Q (o::rest) a w:=X.l1 h hgd ho hx hu hd hm hj
theorem Bo.s1o (X:Bo w0 w l os) (hs:St1 v j cs cs') (hm:St3 g cs cs' t l l') (h:∀w',Bo w0 w' l' os→wpList P ops Q rest (a.put o.dst undef) w') (hgd:o.guard=none:=by rfl) (ho:o.op=.store ty x y:=by rfl) (hx:a.eval x=.pointer (some ⟨g,j,none⟩):=by rfl) (hy:a.eval y=v:=by rfl)
  (hv:v.oneCell'=true:=by rfl) (hi:(P.info? ty).map (·.size)=some 1:=by kernel_rfl):wpList P ops Q (o::rest) a w:=X.s1 h hgd ho hx hy hv hi hm.i hs hm
end
def OgJ (v:Value) (xs:List aT):Og:=⟨53,8,v,xs.length,xs.flatMap bA⟩
def fos (uI uT:Value) (cur:List aT) (tl:List Int):List Og:=[OgI uT tl,OgJ uI cur]
structure FC (fb:Nat) (ca:List Value) (uI uT:Value) (l:List (Nat×List Value×TypeId)):Prop where
 in_:∃fcs,In3 fb fcs 108 l∧fcs.take ca.length=ca∧fcs[16]? = some uI∧fcs[26]? = some uT
theorem FC.tl {fb:Nat} {ca:List Value} {uI uT:Value} {l:List (Nat×List Value×TypeId)} (h:FC fb ca uI uT l) (e:Nat×List Value×TypeId):FC fb ca uI uT (e::l):=by
 obtain⟨f,h1,h2⟩:=h.in_
 exact⟨f,.tl _ h1,h2⟩
structure FR (w:World) (fb:Nat) (ca:List Value) (t:aH) (uI:Value) (cur:List aT):Prop where
 was:w.rangeAt fb 0 ca
 cI:w.cell? ⟨fb,16,none⟩=some uI
 lt:fb<w.heap.size
 tr:bI w w.heap.size ca t
 ins:aB w w.heap.size 8 xP uI cur
 few:cur.length≤300
theorem FR.below {w w':World} {fb:Nat} {ca:List Value} {t:aH} {uI:Value} {cur:List aT} (h:FR w fb ca t uI cur) (k:Below w.heap.size w w'):FR w' fb ca t uI cur:=
 ⟨fun j v hv=>(k.cell h.lt).trans (h.was j v hv),(k.cell h.lt).trans h.cI,Nat.lt_of_lt_of_le h.lt k.size,h.tr.below k,h.ins.below k,h.few⟩
structure FB (w0:World) (fb:Nat) (ca:List Value) (t:aH) (uI uT:Value) (cur:List aT) (l:List (Nat×List Value×TypeId)):Prop where
 fc:FC fb ca uI uT l
 tr:bI w0 w0.heap.size ca t
 wf:∀x∈cur,kX x
 few:cur.length≤300
theorem FB.fr {w0 w:World} {fb:Nat} {ca:List Value} {t:aH} {uI uT:Value} {cur:List aT} {tl:List Int} {l:List (Nat×List Value×TypeId)} (F:FB w0 fb ca t uI uT cur l) (X:Bo w0 w l (fos uI uT cur tl)):FR w fb ca t uI cur:=by
 obtain⟨f,h1,h2,h3,h4⟩:=F.fc.in_
 refine⟨X.bx.rm h1 (by rw[List.drop_zero,h2]),X.bx.cl h1 h3,X.bx.lt h1,F.tr.below X.bx.k,?_,F.few⟩
 exact avU (X.ow (OgJ uI cur) (.tail _ (.head _))) fun b hb=>⟨rfl,rfl,F.wf b hb⟩
theorem FB.tl {w0:World} {fb:Nat} {ca:List Value} {t:aH} {uI uT:Value} {cur:List aT} {l:List (Nat×List Value×TypeId)} (F:FB w0 fb ca t uI uT cur l) (e:Nat×List Value×TypeId):FB w0 fb ca t uI uT cur (e::l):=⟨F.fc.tl e,F.tr,F.wf,F.few⟩
section
variable {w0 w:World} {fb:Nat} {ca:List Value} {t:aH} {uI uT:Value} {cur:List aT} {l:List (Nat×List Value×TypeId)} {os:List Og}
theorem FB.was (F:FB w0 fb ca t uI uT cur l) (X:Bo w0 w l os):w.rangeAt fb 0 ca:=by
 obtain⟨f,h1,h2,h3,h4⟩:=F.fc.in_
 exact X.bx.rm h1 (by rw[List.drop_zero,h2])
theorem FB.trc {l':List (Nat×List Value×TypeId)} (X:Bx w0 w l') (F:FB w0 fb ca t uI uT cur l):bI w w.heap.size ca t:=F.tr.below X.k
end
theorem Bo.at0 {w0 w:World} {l:List (Nat×List Value×TypeId)} {os:List Og} {e:TypeId} {s n:Nat} {v:Value} {xs:List Value} (X:Bo w0 w l os) (hq:(⟨e,s,v,n,xs⟩:Og)∈os) (hn:0<n):∃G c,v=.slice (some ⟨G,0,none⟩) n c:=by
 rcases (X.ow _ hq).2 with ⟨_,e2⟩ | ⟨g,cap,_,e1,_⟩
 ·dsimp only at e2;omega
 ·exact⟨g,cap,e1⟩
section
variable {uT uI:Value} {cur:List aT} {tl:List Int} {G c i:Nat}
theorem fos_j (hi:i<cur.length) (y:aT):StO ⟨53,8,.slice (some ⟨G,0,none⟩) cur.length c,cur.length,cur.flatMap bA⟩ ⟨53,8,.slice (some ⟨G,0,none⟩) cur.length c,cur.length,avG (cur.flatMap bA) (i*8) (bA y)⟩ (fos (.slice (some ⟨G,0,none⟩) cur.length c) uT cur tl) (fos (.slice (some ⟨G,0,none⟩) cur.length c) uT (cur.set i y) tl):=by
 rw[ayH y cur i hi]
 unfold fos OgJ
 rw[List.length_set]
 exact .tl _ (.hd _)
theorem fos_t (v:Int):StO ⟨3,1,.slice (some ⟨G,0,none⟩) tl.length c,tl.length,tl.flatMap fun x=>[.int .i64 x]⟩ ⟨3,1,.slice (some ⟨G,0,none⟩) tl.length c,tl.length,(tl.flatMap fun x=>[.int .i64 x]).set i (.int .i64 v)⟩ (fos uI (.slice (some ⟨G,0,none⟩) tl.length c) cur tl) (fos uI (.slice (some ⟨G,0,none⟩) tl.length c) cur (tl.set i v)):=by
 unfold fos OgI
 rw[List.length_set,←List.map_eq_flatMap (f:=Value.int .i64),←List.map_eq_flatMap (f:=Value.int .i64),List.map_set]
 exact .hd _
end
theorem FR.row {w:World} {fb G n c:Nat} {ca:List Value} {t:aH} {cur:List aT} {i:Nat} {x:aT} (h:FR w fb ca t (.slice (some ⟨G,0,none⟩) n c) cur) (hx:cur[i]? = some x):w.rangeAt G (i*8) [.int .i64 x.op,.int .i64 x.a,.int .i64 x.b,.int .i64 x.c,.int .i64 x.n,.int .i64 x.exit,.int .i64 x.k.kind,.int .i64 x.k.n]:=fun k u hk=>by
 obtain⟨b,off,y,ys,e,-,hy,-,⟨rfl,-⟩,hat⟩:=h.ins.at_ (lE hx).1
 rw[hx] at hy
 injection hy with hy
 subst hy
 injection e with e
 injection e with e1 e2
 subst e1 e2
 have:=hat k u hk
 rwa [Nat.zero_add] at this
theorem lqCg {P:Program} {ops:Array Oper} {rest:List Oper} {o:Oper} {a:Act} {ty:TypeId} {x:Operand} {d:TypeDesc} {Q:Act→Prop} {C:World→Prop} {b j:Nat} {vs:List Value} (hr:∀w',C w'→w'.rangeAt b j vs) (h:wpQuiet P ops C Q rest (a.put o.dst (.agg vs.toArray)))
  (hi:(P.info? ty).map (·.size)=some vs.length) (ho:o.op=.load ty x:=by rfl) (hgd:Region.wanted o (yielded ops a.tmps)=true:=by(simp[Region.wanted,yielded];done)) (hx:a.eval x=.pointer (some ⟨b,j,none⟩):=by rfl)
  (hu:P.underlying ty=some d:=by rfl) (hd:d.isRow=true:=by rfl):wpQuiet P ops C Q (o::rest) a:=
 wpQuiet_step fun K hK=>by
  rw[if_pos hgd]
  refine⟨.agg vs.toArray,fun w' E=>?_,hK _ h⟩
  unfold Oper.quietAt execOp
  simp only[ho,hx,Instr.loadAt,Instr.sureAddr,Sem.run_bind,Sem.run_pure,Result.andThen_ok,run_loadVar_mid w' b j ty vs d (hr _ E) hu hd hi]
  exact⟨rfl,rfl⟩
end
section
open Go.RowKit Go.IntWalk
set_option maxHeartbeats 1600000
set_option maxRecDepth 100000
def ax3 (ins:List aT):awF:=⟨qY,jV,oD,kindM ins⟩
theorem ayU (n:Int) (w:World):Calls Tryz.prog 167 #[.int .i64 n] w (aK (.agg #[.int .i64 2,.int .i64 n]) w):=by
 go_enter Tryz.func167,Tryz.ntmps167
 go_upto_region 1 with fail
 generalize h:World.alloc _ _=w1
 have X:=Bx.of1 h
 go_wp2_with (first | (refine X.st fun _ X=>?_) | fail)
 exact X.rt1 ⟨rfl,X.k⟩
theorem ayO (b:Bool) (w:World):Calls Tryz.prog 216 #[.bool b] w (aK (.agg #[.int .i64 (axD b).kind,.int .i64 (axD b).n]) w):=by
 go_enter Tryz.func216,Tryz.ntmps216
 go_upto_region 1 with fail
 generalize h:World.alloc _ _=w1
 have X:=Bx.of1 h
 clear h
 cases b
 ·go_wp2_with (first | (refine X.sta fun _ X _=>?_) | (refine X.ld ?_) | (refine X.st fun _ X=>?_) | fail)
  exact X.rt1 ⟨rfl,X.k⟩
 ·go_upto_region 4 with (first | (refine X.sta fun _ X _=>?_) | (refine X.s1 fun _ X=>?_))
  (try dsimp only [Act.put])
  have X:Bx w _ [(_,[.int .i64 1,.int .i64 1],_),_]:=X
  go_wp2_with (first | (refine X.ld ?_) | (refine X.st fun _ X=>?_) | fail)
  exact X.rt1 ⟨rfl,X.k⟩
structure Bf (w0:World) (g:Nat) (T:TypeId) where
 wd:World
 cs:List Value
 bx:Bx w0 wd [(g,cs,T)]
section
variable {W:World} {fb:Nat} {ca:List Value} {t:aH} {uI:Value} {cur:List aT}
theorem ayT (h:FR W fb ca t uI cur) {v:Nat} {x:aT} (hx:cur[v]? = some x) :
  Calls Tryz.prog 103 #[.pointer (some ⟨fb,0,none⟩),.int .i64 v] W (aK (.tuple #[.agg #[.int .i64 x.k.kind,.int .i64 x.k.n],.bool (x.op == 2)]) W):=by
 have hv:=(lE hx).1
 have few:=h.few
 have hvi:(v:Int)<cur.length:=by omega
 have hin:=h.ins
 obtain⟨A,cA,rfl,-,lA,-⟩:=id hin
 unfold maxLen at lA
 obtain⟨b,off,y,ys,rfl,hb,hy,-,⟨rfl,-⟩,hat⟩:=hin.at_ hv
 rw[hx] at hy
 injection hy with hy
 subst hy
 obtain⟨op,xa,xb,xc,xn,xe,⟨kk,kn⟩⟩:=x
 dsimp only
 have q16:∀E:Bf W W.heap.size 51,E.wd.cell? ⟨fb,13+3,none⟩=_:=fun E=>(E.bx.k.cell h.lt).trans h.cI
 have q0:∀E:Bf W W.heap.size 51,E.wd.cell? ⟨b,off+v*8,none⟩=some (.int .i64 op):=fun E=>(E.bx.k.cell hb).trans (hat 0 _ rfl)
 have RX:Hid (∀E:Bf W W.heap.size 51,E.wd.rangeAt b (off+v*8+6) [.int .i64 kk,.int .i64 kn]):=fun E a u hu=>by
  match a,hu with
  | 0,hu=>exact(E.bx.k.cell hb).trans (hat 6 u hu)
  | 1,hu=>exact(E.bx.k.cell hb).trans (hat 7 u hu)
 clear hat hx h hb
 go_enter Tryz.func103,Tryz.ntmps103
 go_upto_region 1 with fail
 generalize h:World.alloc _ _=w1
 have X:=Bx.of1 h
 clear h
 have NE:Nonempty (Bf W W.heap.size 51):=⟨⟨_,_,X⟩⟩
 refine cE (fun w'=>∃E:Bf W W.heap.size 51,w'=E.wd) 19 [19,20] [19] (by kernel_rfl) (by decide) (by kernel_rfl) (fun _ _ d _ _ h=>by cases d <;> exact h) ⟨⟨_,_,X.dr⟩,rfl⟩ ?_
 simp only[List.take_succ_cons,List.take_zero]
 generalize hqq:(fun a'=>gT _ _ _ _ _ _ a' _)=qq
 have HQQ:=hI hqq
 clear hqq
 repeat (first | (refine lqC (fun _ ⟨E,e⟩=>e ▸ RX.out E) ?_;go_simp) | go_big_quiet_step (fail))
 refine wpQuiet_nil ?_
 rw[←HQQ.out]
 clear HQQ qq q16 q0 RX
 have X:=X.dr
 generalize World.drew _=wd at X ⊢
 refine aR rfl (fun K hK=>?_)
 rw[if_pos (by rfl)]
 refine wp_store_mid 51 _ _ rfl W.heap.size 0 #[.int .i64 kk,.int .i64 kn] rfl rfl (nU (X.at_ _ _ _ (.hd _)).2 (show 2≤2 from Nat.le_refl 2)) fB (all_oneCell_toArray (by simp[Value.oneCell'])) ?_
 have X:Bx W _ [(W.heap.size,[.int .i64 kk,.int .i64 kn],51)]:=((Bo.of X).scs [.int .i64 kk,.int .i64 kn] (j:=0) (.hd _)).bx
 refine hK _ _ (fun _=>⟨⟨_,_,X⟩,rfl⟩) ?_
 clear hK K
 refine bG [20] _ _ (by kernel_rfl) (by kernel_rfl) ?_
 simp only[List.filterMap_cons,List.filterMap_nil,List.getElem?_toArray,List.getElem?_cons_zero,List.getElem?_cons_succ]
 show wpList _ _ _ [_] _ _
 go_wp2_with fail
 exact X.rt2 ⟨rfl,X.k⟩
theorem ayV (h:FR W fb ca t uI cur) {v:Nat} (hv:v<cur.length) (k:Val) :
  Calls Tryz.prog 168 #[.pointer (some ⟨fb,0,none⟩),.int .i64 v,.agg #[.int .i64 k.kind,.int .i64 k.n]] W (aK (.bool (isM cur v k)) W):=by
 obtain⟨x,hx⟩:∃x,cur[v]? = some x:=⟨_,lG hv⟩
 have CC:Hid (∀w1,Below W.heap.size W w1→_):=fun w1 K=>ayT (h.below K) hx
 have HI:Hid (isM cur v k=(x.op == 2 && decide (x.k=k))):=by unfold isM awN awE Hid;rw[show(v:Int).toNat=v from rfl,hx];rfl
 rw[HI.out]
 obtain⟨k0,k1⟩:=k
 obtain⟨op,xa,xb,xc,xn,xe,⟨kk,kn⟩⟩:=x
 dsimp only at CC ⊢
 generalize (op == 2)=cv at CC ⊢
 clear hx h HI
 go_enter Tryz.func168,Tryz.ntmps168
 go_upto_region 1 with fail
 generalize h:World.alloc _ _=w1
 have X:=Bx.of1 h
 clear h
 go_upto_region 2 with (first | (go_at_call 103;refine X.call (CC.out _ X.k) fun _ X=>?_) | (refine X.sta fun _ X _=>?_) | fail)
 (try dsimp only [Act.put])
 cases cv
 ·go_wp2_with fail
  go_ret
  exact⟨rfl,X.k⟩
 ·by_cases e1:kk=k0
  ·subst e1
   by_cases e2:kn=k1
   ·subst e2
    go_wp2_with (first | (refine Bx.lgd X ?_) | fail)
    go_ret
    exact⟨by simp,X.k⟩
   ·have ne:(kn == k1)=false:=beq_eq_false_iff_ne.2 e2
    have ND:=hI (show decide ((⟨kk,kn⟩:Val)=⟨kk,k1⟩)=false from decide_eq_false (fun h=>by injection h with _ h;exact e2 h))
    clear e2
    go_wp2_with (first | (refine Bx.lgd X ?_) | fail)
    go_ret
    exact⟨by rw[ND.out];simp,X.k⟩
  ·have ne:(kk == k0)=false:=beq_eq_false_iff_ne.2 e1
   have ND:=hI (show decide ((⟨kk,kn⟩:Val)=⟨k0,k1⟩)=false from decide_eq_false (fun h=>by injection h with h;exact e1 h))
   clear e1
   go_wp2_with (first | (refine Bx.lgd X ?_) | fail)
   go_ret
   exact⟨by rw[ND.out];simp,X.k⟩
theorem ax7 (h:FR W fb ca t uI cur) (v:Int) {i:Nat} (hi:i≤300) :
  Calls Tryz.prog 169 #[.pointer (some ⟨fb,0,none⟩),.int .i64 v,.int .i64 i] W (aK (.bool (aw0 (ax3 t.ins) v i)) W):=by
 have It:=hI h.tr.size13
 have RR:=hI h.was
 have KC:=hI (an7 ca t (v.toNat+1) v i W (by omega) h.tr (by omega) (by omega))
 show Calls _ _ _ _ (aK (.bool (kindM t.ins v i == 2)) W)
 generalize kindM t.ins v i=kv at KC
 clear h
 go_enter Tryz.func169,Tryz.ntmps169
 go_wp2_with (first | (refine Bx.ldr RR.out ?_ It.out) | fail)
 refine KC.out.mono ?_
 rintro e w1 ⟨rfl,k1⟩
 have K1:=hI k1
 clear k1
 go_wp2_with fail
 go_ret
 exact⟨rfl,K1.out⟩
theorem ay3 (ins:List aT) (x:aT) (v:Val) (W:World):Calls Tryz.prog 104 #[yA x,.agg #[.int .i64 v.kind,.int .i64 v.n]] W (aK (.bool (aw9 (ax3 ins) x v)) W):=by
 have TC:=hI (fun W=>tru_c v W)
 have HO:Hid (aw9 (ax3 ins) x v=if x.op=4 then v.kind == x.n else if x.op=5 then oD v == (x.n == 1) else decide (v=x.k)):=rfl
 generalize aw9 (ax3 ins) x v=r at HO ⊢
 generalize oD v=tv at TC HO
 obtain⟨op,xa,xb,xc,xn,xe,⟨kk,kn⟩⟩:=x
 obtain⟨k0,k1⟩:=v
 dsimp only at TC HO ⊢
 unfold yA
 dsimp only
 go_enter Tryz.func104,Tryz.ntmps104
 go_upto_region 1 with fail
 generalize h:World.alloc _ _=w1
 have X:=Bx.of2 h
 clear h
 by_cases c4:op=4
 ·subst c4
  replace HO:=HO.out
  rw[if_pos rfl] at HO
  replace HO:=hI HO
  go_wp2_with (first | (refine X.l1 ?_) | fail)
  go_ret
  exact⟨by rw[HO.out];rfl,X.k⟩
 by_cases c5:op=5
 ·subst c5
  replace HO:=HO.out
  rw[if_neg c4,if_pos rfl] at HO
  replace HO:=hI HO
  go_wp2_with (first | (refine X.l1 ?_) | fail)
  refine X.qq fun _=>?_
  have q4:=X.qc (g:=W.heap.size) (j:=4) (v:=.int .i64 xn)
  repeat (first | (refine Bx.lq ?_;go_simp) | go_big_quiet_step ((go_at_call 174;exact Bx.cq (TC.out _))))
  refine wpQuiet_nil ?_
  (first | rintro _ ⟨⟨_,X⟩,rfl⟩ | rintro ⟨_,X⟩)
  go_wp2_with fail
  go_ret
  exact⟨by rw[HO.out];rfl,X.k⟩
 replace HO:=HO.out
 rw[if_neg c4,if_neg c5] at HO
 by_cases e1:k0=kk
 ·subst e1
  by_cases e2:k1=kn
  ·subst e2
   replace HO:=hI HO
   go_wp2_with (first | (refine X.l1 ?_) | (refine Bx.lm [.int .i64 k0,.int .i64 k1] X ?_) | (refine Bx.lm [.int .i64 k0,.int .i64 kn] X ?_) | (refine Bx.lm [.int .i64 kk,.int .i64 kn] X ?_) | fail)
   go_ret
   exact⟨by rw[HO.out];simp,X.k⟩
  ·have ne:(k1 == kn)=false:=beq_eq_false_iff_ne.2 e2
   rw[decide_eq_false (fun h=>by injection h with _ h;exact e2 h)] at HO
   replace HO:=hI HO
   clear e2
   go_wp2_with (first | (refine X.l1 ?_) | (refine Bx.lm [.int .i64 k0,.int .i64 k1] X ?_) | (refine Bx.lm [.int .i64 k0,.int .i64 kn] X ?_) | (refine Bx.lm [.int .i64 kk,.int .i64 kn] X ?_) | fail)
   go_ret
   exact⟨by rw[HO.out];simp,X.k⟩
 ·have ne:(k0 == kk)=false:=beq_eq_false_iff_ne.2 e1
  rw[decide_eq_false (fun h=>by injection h with h;exact e1 h)] at HO
  replace HO:=hI HO
  clear e1
  go_wp2_with (first | (refine X.l1 ?_) | (refine Bx.lm [.int .i64 k0,.int .i64 k1] X ?_) | (refine Bx.lm [.int .i64 k0,.int .i64 kn] X ?_) | (refine Bx.lm [.int .i64 kk,.int .i64 kn] X ?_) | fail)
  go_ret
  exact⟨by rw[HO.out];simp,X.k⟩
end
end
end Go.Proofs.YtijihlcdhppfgaaGreatDoor
