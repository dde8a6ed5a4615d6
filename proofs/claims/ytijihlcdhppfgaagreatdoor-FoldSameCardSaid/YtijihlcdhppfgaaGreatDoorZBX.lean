/- A part of the walk. -/
import Derived.Below
import Derived.Tactics
import Derived.Test.YtijihlcdhppfgaaGreatDoorZC
set_option maxHeartbeats 16000000
set_option maxRecDepth 100000
set_option linter.all false
namespace Go.Proofs.YtijihlcdhppfgaaGreatDoor
open Tryz
section
open Go.RowKit
inductive In3 (g:Nat) (cs:List Value) (t:TypeId):List (Nat×List Value×TypeId)->Prop
 | hd (l):In3 g cs t ((g,cs,t)::l)
 | tl (e) {l} : In3 g cs t l->In3 g cs t (e::l)
inductive St3 (g:Nat) (cs cs':List Value) (t:TypeId):List (Nat×List Value×TypeId)->List (Nat×List Value×TypeId)->Prop
 | hd (l):St3 g cs cs' t ((g,cs,t)::l) ((g,cs',t)::l)
 | tl (e) {l l'} : St3 g cs cs' t l l'->St3 g cs cs' t (e::l) (e::l')
inductive St1 (v:Value):Nat->List Value->List Value->Prop
 | hd (u l):St1 v 0 (u::l) (v::l)
 | tl (u) {j l l'} : St1 v j l l'->St1 v (j+1) (u::l) (u::l')
section
variable {l l':List (Nat×List Value×TypeId)} {g:Nat} {cs:List Value} {t:TypeId}
theorem In3.m (h:In3 g cs t l):g∈l.map (·.1):=by
 induction h with
 | hd=>simp
 | tl e _ ih=>simp only[List.map_cons,List.mem_cons];exact .inr ih
theorem St3.i {d:List Value} (h:St3 g cs d t l l'):In3 g cs t l:=by
 induction h with
 | hd=>exact .hd _
 | tl e _ ih=>exact .tl _ ih
theorem St3.m {d:List Value} (h:St3 g cs d t l l'):l'.map (·.1)=l.map (·.1):=by
 induction h with
 | hd=>rfl
 | tl e _ ih=>simp[ih]
theorem St3.o {f:List Value} (h:St3 g cs f t l l') (nd:(l.map (·.1)).Nodup) {q:Nat} {c:List Value} {u:TypeId} (d:In3 q c u l'):q=g/\c=f/\u=t\/q≠g/\In3 q c u l:=by
 induction h with
 | hd l=>
  cases d with
  | hd=>exact .inl ⟨rfl,rfl,rfl⟩
  | tl _ d=>
   refine .inr ⟨?_,.tl _ d⟩
   rintro rfl
   simp only[List.map_cons,List.nodup_cons] at nd
   exact nd.1 (d.m)
 | tl e h ih=>
  simp only[List.map_cons,List.nodup_cons] at nd
  cases d with
  | hd=>
   refine .inr ⟨?_,.hd _⟩
   rintro rfl
   exact nd.1 (h.i.m)
  | tl _ d=>
   rcases ih nd.2 d with h | ⟨h1,j⟩
   ·exact .inl h
   ·exact .inr ⟨h1,.tl _ j⟩
theorem St1.e {v:Value} {j:Nat} {cs d:List Value} (h:St1 v j cs d):d=cs.set j v/\j<cs.length:=by
 induction h with
 | hd=>simp
 | tl _ _ ih=>simp[ih.1,ih.2]
end
structure Bx (w0 w:World) (l:List (Nat×List Value×TypeId)):Prop where
 k:Below w0.heap.size w0 w
 nd:(l.map (·.1)).Nodup
 at_:∀g cs t,In3 g cs t l->w0.heap.size<=g/\w.heap[g]? = some (.cells ⟨cs⟩ t (0,0))
namespace Bx
open Tryz
variable {P:Program} {ops:Array Oper} {rest:List Oper} {o:Oper} {a:Act} {w0 w:World} {Q:Exit->Act->World->Prop} {l l':List (Nat×List Value×TypeId)} {g:Nat} {cs:List Value} {t:TypeId}
theorem nil (w:World):Bx w w []:=⟨Below.refl _ _,by simp,λg cs t h=>by cases h⟩
theorem lt (X:Bx w0 w l) (h:In3 g cs t l):g<w.heap.size:=(aE (X.at_ g cs t h).2).1
theorem mem (h:g∈l.map (·.1)):∃cs t,In3 g cs t l:=by
 induction l with
 | nil=>simp at h
 | cons e l ih=>
  obtain⟨d,cs,t⟩:=e
  simp only[List.map_cons,List.mem_cons] at h
  rcases h with rfl | h
  ·exact⟨cs,t,.hd _⟩
  ·obtain⟨cs,t,h⟩:=ih h;exact⟨cs,t,.tl _ h⟩
theorem al (X:Bx w0 w l) (cs:List Value) (t:TypeId):Bx w0 (w.alloc (.cells ⟨cs⟩ t)) ((w.heap.size,cs,t)::l) where
 k:=X.k.alloc X.k.size _
 nd:=by
  simp only[List.map_cons,List.nodup_cons]
  refine⟨λh=>?_,X.nd⟩
  obtain⟨cs,t,h⟩:=mem h
  exact Nat.lt_irrefl _ (X.lt h)
 at_ g cs' t' h:=by
  cases h with
  | hd=>exact⟨X.k.size,by unfold World.alloc;simp⟩
  | tl _ h=>exact⟨(X.at_ _ _ _ h).1,(Below.heap_alloc w _ _ (X.lt h)).trans (X.at_ _ _ _ h).2⟩
theorem dr (X:Bx w0 w l):Bx w0 w.drew l:=⟨X.k.drew,X.nd,X.at_⟩
theorem on {w':World} (X:Bx w0 w l) (h:Below w.heap.size w w'):Bx w0 w' l:= ⟨X.k.trans (h.mono X.k.size),X.nd,λg cs t i=>⟨(X.at_ g cs t i).1,(h.block _ (X.lt i)).trans (X.at_ g cs t i).2⟩⟩
theorem call {f:FuncId} {args:Array Value} {v:Value} {R:Ending->World->Prop} (X:Bx w0 w l) (h:Calls P f args w λe w'=>e=.returned v/\Below w.heap.size w w') (k:∀w',Bx w0 w' l->R (.returned v) w'):Calls P f args w R:= h.mono λ_ _ ⟨e,b⟩=>e ▸ k _ (X.on b)
theorem cl {v:Value} {j:Nat} (X:Bx w0 w l) (d:In3 g cs t l:=by repeat (first | exact .hd _ | apply In3.tl)) (f:cs[j]? = some v:=by rfl):w.cell? ⟨g,j,none⟩=some v:=by rw[cell_of_row w g j _ _ _ (X.at_ g cs t d).2];simpa using f
theorem rg (X:Bx w0 w l) (f:In3 g cs t l):w.rangeAt g 0 cs:=λj v d=>by
 rw[Nat.zero_add];exact X.cl f d
theorem ld {ty:TypeId} {x:Operand} {d:TypeDesc} (X:Bx w0 w l) (h:wpList P ops Q rest (a.put o.dst (.agg cs.toArray)) w) (f:o.guard=none:=by rfl) (j:o.op=.load ty x:=by rfl) (p:a.eval x=.pointer (some ⟨g,0,none⟩):=by rfl) (q:In3 g cs t l:=by repeat (first | exact .hd _ | apply In3.tl)) (r:P.underlying ty=some d:=by rfl) (s:d.isRow=true:=by rfl) (hi:(P.info? ty).map (·.size)=some cs.length:=by kernel_rfl):wpList P ops Q (o::rest) a w:= wpList_load_mid f ty x j g 0 p cs d (X.rg q) r s hi h
theorem l1 {ty:TypeId} {x:Operand} {d:TypeDesc} {v:Value} {j:Nat} (X:Bx w0 w l) (h:wpList P ops Q rest (a.put o.dst v) w)
  (p:o.guard=none:=by rfl) (r:o.op=.load ty x:=by rfl) (s:a.eval x=.pointer (some ⟨g,j,none⟩):=by rfl)
  (u:P.underlying ty=some d:=by rfl) (A:d.isRow=false:=by rfl) (y:In3 g cs t l:=by repeat (first | exact .hd _ | apply In3.tl)) (z:cs[j]? = some v:=by rfl):wpList P ops Q (o::rest) a w:=
 wpList_plain p λ_ q=>by
  unfold Oper.wp execOp
  simp only[r,s,Instr.loadAt,Instr.sureAddr,Sem.run_bind,Sem.run_pure,Result.andThen_ok]
  have f:(isAgg ty).run P w=.ok false w:=by
   unfold isAgg
   rw[Sem.run_bind,run_underlying u w]
   cases d <;> simp_all
  have hl:(loadVar ty ⟨g,j,none⟩).run P w=.ok v w:=by
   simp only[loadVar,Sem.run_bind,f,Result.andThen_ok,Bool.false_eq_true,if_false,run_load,X.cl y z]
  rw[hl]
  exact q _ _ h
theorem l1g {ty:TypeId} {x:Operand} {d:TypeDesc} {v:Value} {j:Nat} (X:Bx w0 w l) (h:wpList P ops Q rest (a.put o.dst v) w)
  (r:o.op=.load ty x:=by rfl) (p:Region.wanted o (yielded ops a.tmps)=true:=by simp[Region.wanted,yielded, *]) (s:a.eval x=.pointer (some ⟨g,j,none⟩):=by rfl)
  (u:P.underlying ty=some d:=by rfl) (A:d.isRow=false:=by rfl) (y:In3 g cs t l:=by repeat (first | exact .hd _ | apply In3.tl)) (z:cs[j]? = some v:=by rfl):wpList P ops Q (o::rest) a w:=
 wpList_step λK q=>by
  rw[if_pos p]
  unfold Oper.wp execOp
  simp only[r,s,Instr.loadAt,Instr.sureAddr,Sem.run_bind,Sem.run_pure,Result.andThen_ok]
  have f:(isAgg ty).run P w=.ok false w:=by
   unfold isAgg
   rw[Sem.run_bind,run_underlying u w]
   cases d <;> simp_all
  have hl:(loadVar ty ⟨g,j,none⟩).run P w=.ok v w:=by
   simp only[loadVar,Sem.run_bind,f,Result.andThen_ok,Bool.false_eq_true,if_false,run_load,X.cl y z]
  rw[hl]
  exact q _ _ h
theorem set {h:List Value} {w':World} (X:Bx w0 w l) (d:St3 g cs h t l l') (f:w'.os=w.os/\w'.tape=w.tape/\w'.output=w.output/\w'.heap.size=w.heap.size) (s:w'.heap[g]? = some (.cells ⟨h⟩ t (0,0)))
  (p:∀q,q≠g->w'.heap[q]? = w.heap[q]?):Bx w0 w' l' where
 k:=⟨f.1.trans X.k.os,f.2.1.trans X.k.tape,f.2.2.1.trans X.k.output,by rw[f.2.2.2];exact X.k.size,λq j=>(p q (by have:=(X.at_ _ _ _ d.i).1;omega)).trans (X.k.block q j)⟩
 nd:=by rw[d.m];exact X.nd
 at_ q c u j:=by
  rcases d.o X.nd j with ⟨rfl,rfl,rfl⟩ | ⟨h1,r⟩
  ·exact⟨(X.at_ _ _ _ d.i).1,s⟩
  ·exact⟨(X.at_ _ _ _ r).1,(p q h1).trans (X.at_ _ _ _ r).2⟩
theorem st {ty:TypeId} {x y:Operand} {d:List Value} (X:Bx w0 w l) (h:∀w',Bx w0 w' l'->wpList P ops Q rest (a.put o.dst undef) w') (j:o.guard=none:=by rfl) (r:o.op=.store ty x y:=by rfl) (s:a.eval x=.pointer (some ⟨g,0,none⟩):=by rfl) (u:a.eval y=.agg ⟨d⟩:=by rfl) (f:St3 g cs d t l l':=by repeat (first | exact .hd _ | apply St3.tl)) (hi:(P.info? ty).map (·.size)=some d.length:=by kernel_rfl) (hl:cs.length=d.length:=by rfl) (h1:d.all (·.oneCell')=true:=by simp[Value.oneCell']):wpList P ops Q (o::rest) a w:= wpList_store_row j ty x y r g ⟨d⟩ s u t ⟨cs⟩ (X.at_ _ _ _ f.i).2 hi hl (by simpa using h1) (h _ (X.set f ⟨rfl,rfl,rfl,by simp[World.setRow]⟩ (setRow_heap _ _ _ _ _ _ (X.at_ _ _ _ f.i).2) (λq p=>setRow_other _ _ _ _ p)))
theorem s1 {ty:TypeId} {x y:Operand} {p:List Value} {v:Value} {j:Nat} (X:Bx w0 w l) (h:∀w',Bx w0 w' l'->wpList P ops Q rest (a.put o.dst undef) w') (E:o.guard=none:=by rfl) (J:o.op=.store ty x y:=by rfl) (K:a.eval x=.pointer (some ⟨g,j,none⟩):=by rfl) (L:a.eval y=v:=by rfl) (F:v.oneCell'=true:=by rfl) (hi:(P.info? ty).map (·.size)=some 1:=by kernel_rfl) (G:In3 g cs t l:=by repeat (first | exact .hd _ | apply In3.tl)) (r:St1 v j cs p:=by repeat (first | exact .hd _ _ | apply St1.tl)) (M:St3 g cs p t l l':=by repeat (first | exact .hd _ | apply St3.tl)):wpList P ops Q (o::rest) a w:=by
 obtain⟨rfl,H⟩:=St1.e r;have hb:=(X.at_ _ _ _ G).2;refine wpList_plain E λ_ I=>?_;unfold Oper.wp execOp;have f:=X.cl G (lG H);have s:w.frozen? ⟨g,j,none⟩=false:=by simp[World.frozen?,hb]
 have u:v.cells=#[v]:=by cases v <;> first | rfl | (simp[Value.oneCell'] at F)
 have z:(storeVar ty ⟨g,j,none⟩ v).run P w=.ok () (w.setCell ⟨g,j,none⟩ v):=by
  cases d:P.info? ty with
  | none=>simp[d] at hi
  | some i=>
   have r:i.size=1:=by simp[d] at hi;exact hi
   simp[storeVar,sizeOf,typeInfo,d,r,u,storeCells,Addr.add,run_store P w _ _ _ F,f,s]
 simp only[J,K,L,Instr.storeAt,Instr.sureAddr,Sem.run_bind,Sem.run_pure,Result.andThen_ok,z];refine I _ _ (h _ (X.set M ⟨rfl,rfl,rfl,by simp[World.setCell]⟩ ?_ (λq d=>Below.heap_setCell _ _ _ _ d)));have A:=(aE hb).1;have D:=(aE hb).2;unfold World.setCell;rw[Array.getElem?_eq_getElem (by simpa using A),Array.getElem_modify];simp[D]
theorem up {w':World} (X:Bx w0 w l) (E:∃w1,Below w.heap.size w w1/\w'=w1):Bx w0 w' l:=by obtain⟨_,h,rfl⟩:=E;exact X.on h
theorem of1 {w1:World} (h:w.alloc (.cells ⟨cs⟩ t)=w1):Bx w w1 [(w.heap.size,cs,t)]:=h ▸ (nil w).al cs t
theorem of2 {w1:World} {d:List Value} {f:TypeId} (h:(w.alloc (.cells ⟨cs⟩ t)).alloc (.cells ⟨d⟩ f)=w1):Bx w w1 [(w.heap.size+1,d,f),(w.heap.size,cs,t)]:=by have:=((nil w).al cs t).al d f;rw[World.size_alloc] at this;exact h ▸ this
theorem of3 {w1:World} {d f:List Value} {g j:TypeId} (h:((w.alloc (.cells ⟨cs⟩ t)).alloc (.cells ⟨d⟩ g)).alloc (.cells ⟨f⟩ j)=w1):Bx w w1 [(w.heap.size+1+1,f,j),(w.heap.size+1,d,g),(w.heap.size,cs,t)]:=by have:=(((nil w).al cs t).al d g).al f j;rw[World.size_alloc,World.size_alloc] at this;exact h ▸ this
theorem ldr {ty:TypeId} {x:Operand} {d:TypeDesc} {b p:Nat} {vs:List Value} (j:w.rangeAt b p vs) (h:wpList P ops Q rest (a.put o.dst (.agg vs.toArray)) w) (hi:(P.info? ty).map (·.size)=some vs.length:=by kernel_rfl)
  (l:o.op=.load ty x:=by rfl) (f:Region.wanted o (yielded ops a.tmps)=true:=by simp[Region.wanted,yielded, *]) (q:a.eval x=.pointer (some ⟨b,p,none⟩):=by rfl)
  (r:P.underlying ty=some d:=by rfl) (s:d.isRow=true:=by rfl):wpList P ops Q (o::rest) a w:=
 wpList_step λK g=>by
  rw[if_pos f]
  exact wp_load_mid ty x l b p q vs d j r s hi (g _ _ h)
theorem rm {j:Nat} {vs:List Value} (X:Bx w0 w l) (f:In3 g cs t l:=by repeat (first | exact .hd _ | apply In3.tl)) (h:(cs.drop j).take vs.length=vs:=by rfl):w.rangeAt g j vs:=λk v d=>by
 refine X.cl f ?_
 rw[<-h,List.getElem?_take] at d
 split at d
 ·rwa [List.getElem?_drop] at d
 ·cases d
theorem lm {ty:TypeId} {x:Operand} {d:TypeDesc} {j:Nat} (vs:List Value) (X:Bx w0 w l) (h:wpList P ops Q rest (a.put o.dst (.agg vs.toArray)) w) (p:o.op=.load ty x:=by rfl) (f:Region.wanted o (yielded ops a.tmps)=true:=by simp[Region.wanted,yielded, *]) (q:a.eval x=.pointer (some ⟨g,j,none⟩):=by rfl) (r:In3 g cs t l:=by repeat (first | exact .hd _ | apply In3.tl)) (s:(cs.drop j).take vs.length=vs:=by rfl) (u:P.underlying ty=some d:=by rfl) (v:d.isRow=true:=by rfl) (hi:(P.info? ty).map (·.size)=some vs.length:=by kernel_rfl):wpList P ops Q (o::rest) a w:= ldr (X.rm r s) h hi p f q u v
theorem of4 {w1:World} {d f g:List Value} {j l p:TypeId} (h:(((w.alloc (.cells ⟨cs⟩ t)).alloc (.cells ⟨d⟩ j)).alloc (.cells ⟨f⟩ l)).alloc (.cells ⟨g⟩ p)=w1):Bx w w1 [(w.heap.size+1+1+1,g,p),(w.heap.size+1+1,f,l),(w.heap.size+1,d,j),(w.heap.size,cs,t)]:=by have:=((((nil w).al cs t).al d j).al f l).al g p;rw[World.size_alloc,World.size_alloc,World.size_alloc] at this;exact h ▸ this
theorem sta {ty:TypeId} {x y:Operand} {d:List Value} (X:Bx w0 w l) (h:∀w',Bx w0 w' ((w.heap.size,d,t)::l)->Below w.heap.size w w'->wpList P ops Q rest (a.put o.dst undef) w') (f:o.guard=none:=by rfl) (j:o.op=.store ty x y:=by rfl) (p:a.eval x=.pointer (some ⟨w.heap.size,0,none⟩):=by rfl) (r:a.eval y=.agg ⟨d⟩:=by rfl) (hi:(P.info? ty).map (·.size)=some d.length:=by kernel_rfl) (hl:cs.length=d.length:=by rfl) (h1:d.all (·.oneCell')=true:=by simp[Value.oneCell']):wpList P ops Q (o::rest) a (w.alloc (.cells ⟨cs⟩ t)):=by
 have hb:(w.alloc (.cells ⟨cs⟩ t)).heap[w.heap.size]? = some (.cells ⟨cs⟩ t (0,0)):=((X.al cs t).at_ _ _ _ (.hd _)).2;refine wpList_store_row f ty x y j w.heap.size ⟨d⟩ p r t ⟨cs⟩ hb hi hl (by simpa using h1) (h _ ?_ ?_);·exact(X.al cs t).set (.hd _) ⟨rfl,rfl,rfl,by simp[World.setRow]⟩ (setRow_heap _ _ _ _ _ _ hb) (λq g=>setRow_other _ _ _ _ g)
 ·have k:=(Below.refl w.heap.size w).alloc (Nat.le_refl _) (.cells ⟨cs⟩ t);exact⟨k.os,k.tape,k.output,by have:=k.size;simp only[World.setRow,Array.size_modify];exact this,λb hb=>(setRow_other _ _ _ _ (by omega)).trans (k.block b hb)⟩
theorem lv {T:TypeId} {d:TypeDesc} (X:Bx w0 w l) (f:In3 g cs t l) (h:P.underlying T=some d) (j:d.isRow=true) (hi:(P.info? T).map (·.size)=some cs.length):(loadVar T ⟨g,0,none⟩).run P w=.ok (.agg ⟨cs⟩) w:= run_loadVar_mid w g 0 T cs d (X.rg f) h j hi
theorem rt1 {fn:Func} {s:Nat} {T:TypeId} {d:TypeDesc} {R:Ending->World->Prop} (X:Bx w0 w l) (j:R (.returned (.agg ⟨cs⟩)) w) (hf:fn.results=#[.cell s T]:=by rfl) (f:a.tmps.getD s undef=.pointer (some ⟨g,0,none⟩):=by rfl) (p:In3 g cs t l:=by repeat (first | exact .hd _ | apply In3.tl)) (q:P.underlying T=some d:=by rfl) (r:d.isRow=true:=by rfl) (hi:(P.info? T).map (·.size)=some cs.length:=by kernel_rfl) (h:a.defers=[]:=by rfl):bodyPost P fn R .ret a w:= bodyPost_ret (v:=.agg ⟨cs⟩) (by rw[Array.getD_eq_getD_getElem?] at f;simp[results,hf,f,asAddr,X.lv p q r hi]) h j
theorem rt2 {fn:Func} {s u:Nat} {T:TypeId} {d:TypeDesc} {v:Value} {R:Ending->World->Prop} (X:Bx w0 w l) (p:R (.returned (.tuple #[.agg ⟨cs⟩,v])) w) (hf:fn.results=#[.cell s T,.tmp u]:=by rfl) (f:a.tmps.getD s undef=.pointer (some ⟨g,0,none⟩):=by rfl) (h:a.tmps.getD u undef=v:=by rfl) (q:In3 g cs t l:=by repeat (first | exact .hd _ | apply In3.tl)) (r:P.underlying T=some d:=by rfl) (x:d.isRow=true:=by rfl) (hi:(P.info? T).map (·.size)=some cs.length:=by kernel_rfl) (j:a.defers=[]:=by rfl):bodyPost P fn R .ret a w:= bodyPost_ret (v:=.tuple #[.agg ⟨cs⟩,v]) (by rw[Array.getD_eq_getD_getElem?] at f h;simp[results,hf,f,h,asAddr,X.lv q r x hi]) j p
structure W (w0:World) (l:List (Nat×List Value×TypeId)) where
 tq:World
 bx:Bx w0 tq l
def C (w0:World) (l:List (Nat×List Value×TypeId)) (w:World):Prop:=∃E:W w0 l,w=E.tq
theorem dq {id n:Nat} {d:List Oper} (X:Bx w0 w l) (h:Nonempty (W w0 l)->wpQuiet P d.toArray (λw'=>∃E:W w0 l,w'=E.tq) (λf=>∀w',(∃E:W w0 l,w'=E.tq)->wpList P d.toArray Q (d.drop n) f w') (d.take n) a) (g:P.follows .mixedOrders=true:=by kernel_rfl) (hB:Region.lexTailB .any d.toArray n=true:=by kernel_rfl):(Code.region id d.toArray true).wp P Q a w:= kO n g hB ⟨⟨_,X.dr⟩,rfl⟩ (h ⟨⟨_,X⟩⟩)
theorem qq {id:Nat} {d:List Oper} (X:Bx w0 w l) (h:Nonempty (W w0 l)->wpQuiet P d.toArray (λw'=>∃E:W w0 l,w'=E.tq) (λf=>∀w',(∃E:W w0 l,w'=E.tq)->Q .normal f w') d a) (g:P.follows .mixedOrders=true:=by kernel_rfl) (hB:Region.lexB .any d.toArray=true:=by kernel_rfl):(Code.region id d.toArray true).wp P Q a w:= wp_region_quiet (C:=λw'=>∃E:W w0 l,w'=E.tq) g hB ⟨⟨_,X.dr⟩,rfl⟩ (by simpa using h ⟨⟨_,X⟩⟩)
theorem lq {ty:TypeId} {x:Operand} {d:TypeDesc} {Q:Act->Prop} (h:wpQuiet P ops (λw'=>∃E:W w0 l,w'=E.tq) Q rest (a.put o.dst (.agg cs.toArray)))
  (p:o.op=.load ty x:=by rfl) (f:o.guard=none:=by rfl) (q:a.eval x=.pointer (some ⟨g,0,none⟩):=by rfl) (r:In3 g cs t l:=by repeat (first | exact .hd _ | apply In3.tl))
  (s:P.underlying ty=some d:=by rfl) (u:d.isRow=true:=by rfl) (hi:(P.info? ty).map (·.size)=some cs.length:=by kernel_rfl):wpQuiet P ops (λw'=>∃E:W w0 l,w'=E.tq) Q (o::rest) a:=
 wpQuiet_step λK j=>by
  simp only[Region.wanted,f,if_true]
  refine⟨.agg cs.toArray,λw' ⟨E,e⟩=>?_,j _ h⟩
  subst e
  unfold Oper.quietAt execOp
  simp only[p,q,Instr.loadAt,Instr.sureAddr,Sem.run_bind,Sem.run_pure,Result.andThen_ok,run_loadVar_mid E.tq g 0 ty cs d (E.bx.rg r) s u hi]
  exact⟨rfl,rfl⟩
theorem lqg {ty:TypeId} {x:Operand} {d:TypeDesc} {Q:Act->Prop} (h:wpQuiet P ops (λw'=>∃E:W w0 l,w'=E.tq) Q rest (a.put o.dst (.agg cs.toArray)))
  (p:o.op=.load ty x:=by rfl) (f:Region.wanted o (yielded ops a.tmps)=true:=by simp[Region.wanted,yielded]) (q:a.eval x=.pointer (some ⟨g,0,none⟩):=by rfl) (r:In3 g cs t l:=by repeat (first | exact .hd _ | apply In3.tl))
  (s:P.underlying ty=some d:=by rfl) (u:d.isRow=true:=by rfl) (hi:(P.info? ty).map (·.size)=some cs.length:=by kernel_rfl):wpQuiet P ops (λw'=>∃E:W w0 l,w'=E.tq) Q (o::rest) a:=
 wpQuiet_step λK j=>by
  rw[if_pos f]
  refine⟨.agg cs.toArray,λw' ⟨E,e⟩=>?_,j _ h⟩
  subst e
  unfold Oper.quietAt execOp
  simp only[p,q,Instr.loadAt,Instr.sureAddr,Sem.run_bind,Sem.run_pure,Result.andThen_ok,run_loadVar_mid E.tq g 0 ty cs d (E.bx.rg r) s u hi]
  exact⟨rfl,rfl⟩
theorem cq {f:FuncId} {args:Array Value} {v:Value} {E:W w0 l} (h:Calls P f args E.tq λe w'=>e=.returned v/\Below E.tq.heap.size E.tq w'):Calls P f args E.tq λe d=>e=.returned v/\∃j:W w0 l,d=j.tq:= h.mono λ_ w' ⟨g,hb⟩=>⟨g,⟨w',E.bx.on hb⟩,rfl⟩
theorem clq {v:Value} {j:Nat} (d:In3 g cs t l:=by repeat (first | exact .hd _ | apply In3.tl)) (f:cs[j]? = some v:=by rfl) (E:W w0 l):E.tq.cell? ⟨g,j,none⟩=some v:=E.bx.cl d f
end Bx
end
end Go.Proofs.YtijihlcdhppfgaaGreatDoor
