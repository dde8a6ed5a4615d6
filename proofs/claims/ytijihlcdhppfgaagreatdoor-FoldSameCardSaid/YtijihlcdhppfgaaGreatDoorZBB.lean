/- A part of the walk. -/
import Derived.Test.YtijihlcdhppfgaaGreatDoorZBA
set_option maxHeartbeats 16000000
set_option maxRecDepth 100000
set_option linter.all false
namespace Go.Proofs.YtijihlcdhppfgaaGreatDoor
open Tryz
section
theorem zC {ins:List aT} {at_:Int} : ∀(last:Int) (l:List dX),fI ins at_ last l=true->∀m∈l,0<=m.cell/\m.cell<at_/\l6 ins m.cell=18
 | _,[],_,_,hm=>by simp at hm
 | last,x::l,h,m,hm=>by
  have d:=nB last (x::l) h m hm
  simp only[fI,Bool.and_eq_true,decide_eq_true_eq] at h
  rcases List.mem_cons.1 hm with rfl | hm
  ·have f:=h.1.2
   simp only[mG,Bool.and_eq_true,beq_iff_eq] at f
   exact⟨d.1.1,d.1.2.1,f.1.1.1.2⟩
  ·exact zC _ l h.2 m hm
theorem yU {regs:Int} {ins:List aT} {at_:Int} : ∀(last:Int) (l:List oL),-1<=last->j5 regs ins at_ last l=true->∀s∈l,0<=s.reg/\s.reg<regs/\0<=s.val/\s.val<at_/\s.val<ins.length
 | _,[],_,_,_,hs=>by simp at hs
 | last,x::l,hl,h,s,hs=>by
  have d:=vS last (x::l) h s hs
  simp only[j5,Bool.and_eq_true,decide_eq_true_eq] at h
  rcases List.mem_cons.1 hs with rfl | hs
  ·exact⟨by omega,h.1.1.2,d⟩
  ·exact yU _ l (by omega) h.2 s hs
structure sT (regs:Int) (t:aH) (x:bX) (k:Nat):Prop where
 steps:0<=x.steps
 makes:vI t x k
 sets:∀s∈x.sets,0<=s.reg/\s.reg<regs/\0<=s.val/\s.val<k/\s.val<t.ins.length
theorem lY {fn:FnM} {t:aH} {x:bX} {k:Nat} (h:bN fn t.ins x (k:Int)=true):sT fn.regs t x k:=by
 simp only[bN,Bool.and_eq_true,Bool.not_eq_true',Bool.or_eq_false_iff,decide_eq_false_iff_not] at h;refine⟨by omega,λm f=>?_,λs g=>yU (-1) _ (by omega) h.1.2 s g⟩;have h1:=zC _ _ h.2 m f;refine⟨h1.1,h1.2.1,?_⟩;have d:=h1.2.2;unfold l6 at d;unfold bT;cases e:t.ins[m.cell.toNat]? with
 | none=>rw[e] at d;cases d
 | some y=>rw[e] at d;exact d
structure qG (regs:Int) (t:aH):Prop where
 exits:∀(i:Nat) x e,t.ins[i]? = some x->0<=x.exit->t.exits[x.exit.toNat]? = some e->sT regs t e i
 turn:0<t.loop->sT regs t t.turn t.loop.toNat
 back:sT regs t t.back t.ins.length
 all:∀e∈t.exits,0<=e.steps/\∀s∈e.sets,0<=s.reg/\s.reg<regs
theorem ad0 {aF:Val->Bool} {r:Int} {fns:List FnM} {t:aH} (h:cQ aF r fns t=0):∃fn,0<=t.fn/\fns[t.fn.toNat]? = some fn/\qG fn.regs t:=by
 obtain⟨-,-,fn,hf,-,hl,hi,-,j,hb,q⟩:=fD h;refine⟨fn,hf.1,hf.2,⟨λi x e l u g=>?_,λc=>?_,lY (by exact hb.2),λe g=>?_⟩⟩
 ·obtain⟨h1,d⟩:=fW t.ins 0 hi i x l;rw[Nat.zero_add] at d;simp only[eJ,Bool.and_eq_true] at d;have f:=d.2;split at f;·rw[beq_iff_eq] at f;omega
  ·simp only[Bool.and_eq_true,decide_eq_true_eq] at f;rw[g] at f;exact lY f.2
 ·have:=(j c).2;have e:((t.loop.toNat:Nat):Int)=t.loop:=by omega
  rw[<-e] at this;exact lY this
 ·have:=List.all_eq_true.1 q e g;have d:=lY this;exact⟨d.steps,λs p=>⟨(d.sets s p).1,(d.sets s p).2.1⟩⟩
theorem qG.mk_ {regs:Int} {t:aH} (h:qG regs t):TraceMk t:=⟨λi x e a b c=>(h.exits i x e a b c).makes,λc=>(h.turn c).makes,h.back.makes⟩
theorem uH {regs:Int} {t:aH} (h:qG regs t):∀(k d:Nat),0<=iK t d k
 | 0,_=>by simp[iK]
 | k+1,d=>by
  have:=uH h k (d+1)
  have f:0<=(pJ t d).steps:=by
   unfold pJ
   split
   ·rename_i c;exact(h.turn c.2).steps
   ·exact h.back.steps
  simp only[iK];omega
end
section
structure Lim (t:aH) (r:Nat) (w:aG):Prop where
 vals:w.vals.length=t.ins.length
 cells:w.cells.length<=300
 regs:w.regs.length=r
theorem sC {w:aG} (h:w.cells.length<=300) (n:Nat) (c:bJ):(setCW w n c).cells.length<=300:=by show(w.cells.set n c).length<=300;rw[List.length_set];exact h
theorem aeY {w:aG} (h:w.cells.length<=300) (i:Nat) (k:Int):(eP w i k).1.cells.length<=300:=by
 unfold eP;split;·exact h
 ·show(w.cells++[_]).length<=300;rw[List.length_append,List.length_singleton];omega
theorem slot_n {w:aG} (h:w.cells.length<=300) (i:Nat) (x:aT):(jK w i x).1.cells.length<=300:=by
 unfold jK;split;·exact h
 ·split;·exact h
  ·split;·exact h
   ·split;·exact sC h _ _
    ·exact h
theorem grow_n {w:aG} (h:w.cells.length<=300) (sh:List aO) (x:aT):(lH sh w x).1.cells.length<=300:=by
 unfold lH;split;·exact h
 ·split;·exact h
  ·split;·exact h
   ·split;·exact h
    ·exact sC h _ _
theorem push_n {w:aG} (h:w.cells.length<=300) (x:aT):(j6 w x).1.cells.length<=300:=by
 unfold j6;split;·exact h
 ·split;·exact h
  ·split;·exact sC h _ _
   ·split <;> exact h
theorem item_n {w:aG} (h:w.cells.length<=300) (i:Nat) (x:aT):(nE w i x).1.cells.length<=300:=by
 unfold nE;split;·exact h
 ·split;·exact h
  ·split;·exact h
   ·split;·exact h
    ·exact sC h _ _
theorem do_n (E:iH) (self:Val) (shapes:List aO) {w:aG} (h:w.cells.length<=300) (i:Nat) (x:aT):(doI E self shapes w i x).1.cells.length<=300:=by unfold doI;refine cI (λr:aG×Int=>r.1.cells.length<=300) (λ_=>h) λ_=>?_;refine cI (λr:aG×Int=>r.1.cells.length<=300) (λ_=>h) λ_=>?_;refine cI (λr:aG×Int=>r.1.cells.length<=300) (λ_=>h) λ_=>?_;refine cI (λr:aG×Int=>r.1.cells.length<=300) (λ_=>h) λ_=>?_;refine cI (λr:aG×Int=>r.1.cells.length<=300) (λ_=>h) λ_=>?_;refine cI (λr:aG×Int=>r.1.cells.length<=300) (λ_=>h) λ_=>?_;refine cI (λr:aG×Int=>r.1.cells.length<=300) (λ_=>slot_n h _ _) λ_=>?_;refine cI (λr:aG×Int=>r.1.cells.length<=300) (λ_=>grow_n h _ _) λ_=>?_;refine cI (λr:aG×Int=>r.1.cells.length<=300) (λ_=>item_n h _ _) λ_=>?_;refine cI (λr:aG×Int=>r.1.cells.length<=300) (λ_=>aeY h _ _) λ_=>?_;refine cI (λr:aG×Int=>r.1.cells.length<=300) (λ_=>push_n h _) λ_=>?_;exact cI (λr:aG×Int=>r.1.cells.length<=300) (λ_=>h) λ_=>aeY h _ _
theorem Lim.do_ {t:aH} {r:Nat} {w:aG} (h:Lim t r w) (E:iH) (self:Val) (shapes:List aO) (i:Nat):Lim t r (doW E t self shapes w i).1:= ⟨(xB [] E self shapes w i (bT t i)).len.trans h.vals,do_n E self shapes h.cells i _,by rw[(pK E t self shapes w i).regs];exact h.regs⟩
structure afF (regs:Int) (t:aH) (i:Nat) (x:aT):Prop where
 op:1<=x.op/\x.op<=19
 a:1<=(bP x.op).asks->0<=x.a/\x.a<i
 b:2<=(bP x.op).asks->0<=x.b/\x.b<i
 c:3<=(bP x.op).asks->0<=x.c/\x.c<i
 n:(bP x.op).low<=x.n/\x.n<=(bP x.op).high
 reg:x.op=1->x.n<regs
structure acM (t:aH) (m:dX) (k:Nat):Prop where
 cell:0<=m.cell/\m.cell<k
 len:m.vals.length<=100
 vals:∀v∈m.vals,0<=v/\v<k
structure qJ (regs:Int) (t:aH) (x:bX) (k:Nat):Prop where
 at_:0<=x.at_
 steps:0<=x.steps/\x.steps<=200
 sets:∀s∈x.sets,0<=s.reg/\s.reg<regs/\0<=s.val/\s.val<k
 makes:∀m∈x.makes,acM t m k
structure xK (regs:Int) (t:aH):Prop where
 len:t.ins.length<=300
 loop:0<=t.loop/\t.loop<=t.ins.length
 ins:∀(i:Nat) x,t.ins[i]? = some x->afF regs t i x
 exits:∀(i:Nat) x e,t.ins[i]? = some x->0<=x.exit->t.exits[x.exit.toNat]? = some e->qJ regs t e i
 turn:0<t.loop->qJ regs t t.turn t.loop.toNat
 back:qJ regs t t.back t.ins.length
theorem uN {ins:List aT} {t:aH} {k:Nat} : ∀(last:Int) (l:List dX),fI ins (k:Int) last l=true->∀m∈l,acM t m k
 | _,[],_,_,hm=>by simp at hm
 | last,x::l,h,m,hm=>by
  have d:=nB last (x::l) h m hm
  simp only[fI,Bool.and_eq_true,decide_eq_true_eq] at h
  rcases List.mem_cons.1 hm with rfl | hm
  ·have f:=h.1.2
   simp only[mG,Bool.and_eq_true,decide_eq_true_eq] at f
   exact⟨⟨d.1.1,d.1.2.1⟩,f.1.2,λv g=>⟨(d.2 v g).1,(d.2 v g).2.1⟩⟩
  ·exact uN _ l h.2 m hm
theorem tE {fn:FnM} {t:aH} {x:bX} {k:Nat} (h:bN fn t.ins x (k:Int)=true):qJ fn.regs t x k:=by have d:=lY h;simp only[bN,Bool.and_eq_true,Bool.not_eq_true',Bool.or_eq_false_iff,decide_eq_false_iff_not] at h;exact⟨by omega,by omega,λs f=>⟨(d.sets s f).1,(d.sets s f).2.1,(d.sets s f).2.2.1,(d.sets s f).2.2.2.1⟩,uN _ _ h.2⟩
theorem adY {aF:Val->Bool} {u:Int} {fns:List FnM} {t:aH} (h:cQ aF u fns t=0):∃fn,0<=t.fn/\fns[t.fn.toNat]? = some fn/\xK fn.regs t:=by
 obtain⟨l,-,fn,hf,-,hl,hi,-,q,hb,w⟩:=fD h;refine⟨fn,hf.1,hf.2,⟨l,hl,λi x g=>?_,λi x e g y s=>?_,λc=>?_,tE (by exact hb.2)⟩⟩
 ·obtain⟨h1,d⟩:=fW t.ins 0 hi i x g;have p:=lK h g;have f:∀v∈bU x,0<=v/\v<i:=λv r=>⟨(p v r).1,(p v r).2.1⟩;unfold bU at f;rw[Nat.zero_add] at d;simp only[eJ,Bool.and_eq_true,Bool.not_eq_true',Bool.or_eq_false_iff,decide_eq_false_iff_not] at d;obtain⟨⟨⟨-,⟨j,h4⟩,h5⟩,-⟩,-⟩:=d;refine⟨by simpa [mD] using h1,λc=>f x.a ?_,λc=>f x.b ?_,λc=>f x.c ?_,⟨by omega,by omega⟩,λc=>?_⟩;·generalize (bP x.op).asks=n at c;obtain⟨m,rfl⟩:∃m:Nat,n=((m+1:Nat):Int):=⟨(n - 1).toNat,by omega⟩;show x.a∈List.take (m+1) [x.a,x.b,x.c];simp
  ·generalize (bP x.op).asks=n at c;obtain⟨m,rfl⟩:∃m:Nat,n=((m+2:Nat):Int):=⟨(n - 2).toNat,by omega⟩;show x.b∈List.take (m+2) [x.a,x.b,x.c];simp
  ·generalize (bP x.op).asks=n at c;obtain⟨m,rfl⟩:∃m:Nat,n=((m+3:Nat):Int):=⟨(n - 3).toNat,by omega⟩;show x.c∈List.take (m+3) [x.a,x.b,x.c];simp
  ·rw[c] at h5;simpa using h5
 ·obtain⟨h1,d⟩:=fW t.ins 0 hi i x g;rw[Nat.zero_add] at d;simp only[eJ,Bool.and_eq_true] at d;have j:=d.2;split at j;·rw[beq_iff_eq] at j;omega
  ·simp only[Bool.and_eq_true,decide_eq_true_eq] at j;rw[s] at j;exact tE j.2
 ·have:=(q c).2;have e:((t.loop.toNat:Nat):Int)=t.loop:=by omega
  rw[<-e] at this;exact tE this
end
end Go.Proofs.YtijihlcdhppfgaaGreatDoor
