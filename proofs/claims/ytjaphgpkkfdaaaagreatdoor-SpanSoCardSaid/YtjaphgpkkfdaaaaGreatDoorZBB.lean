/- A part of the walk. -/
import Derived.Test.YtjaphgpkkfdaaaaGreatDoorZBA
set_option maxHeartbeats 16000000
set_option maxRecDepth 100000
set_option linter.all false
namespace Go.Proofs.YtjaphgpkkfdaaaaGreatDoor
open Tryz
section
theorem tM {ins:List bG} {at_:Int} : ∀(last:Int) (l:List fZ),iE ins at_ last l=true->∀m∈l,0<=m.cell/\m.cell<at_/\nQ ins m.cell=18
 | _,[],_,_,hm=>by simp at hm
 | last,x::l,h,m,hm=>by
  have d:=mP last (x::l) h m hm
  simp only[iE,Bool.and_eq_true,decide_eq_true_eq] at h
  rcases List.mem_cons.1 hm with rfl | hm
  ·have e:=h.1.2
   simp only[nD,Bool.and_eq_true,beq_iff_eq] at e
   exact⟨d.1.1,d.1.2.1,e.1.1.1.2⟩
  ·exact tM _ l h.2 m hm
theorem tH {regs:Int} {ins:List bG} {at_:Int} : ∀(last:Int) (l:List pS),-1<=last->nC regs ins at_ last l=true->∀s∈l,0<=s.reg/\s.reg<regs/\0<=s.val/\s.val<at_/\s.val<ins.length
 | _,[],_,_,_,hs=>by simp at hs
 | last,x::l,hl,h,s,hs=>by
  have d:=q9 last (x::l) h s hs
  simp only[nC,Bool.and_eq_true,decide_eq_true_eq] at h
  rcases List.mem_cons.1 hs with rfl | hs
  ·exact⟨by omega,h.1.1.2,d⟩
  ·exact tH _ l (by omega) h.2 s hs
structure oW (regs:Int) (t:aN) (x:cW) (k:Nat):Prop where
 steps:0<=x.steps
 makes:mV t x k
 sets:∀s∈x.sets,0<=s.reg/\s.reg<regs/\0<=s.val/\s.val<k/\s.val<t.ins.length
theorem jQ {fn:FnM} {t:aN} {x:cW} {k:Nat} (h:bR fn t.ins x (k:Int)=true):oW fn.regs t x k:=by
 simp only[bR,Bool.and_eq_true,Bool.not_eq_true',Bool.or_eq_false_iff,decide_eq_false_iff_not] at h;refine⟨by omega,λm g=>?_,λs i=>tH (-1) _ (by omega) h.1.2 s i⟩;have f:=tM _ _ h.2 m g;refine⟨f.1,f.2.1,?_⟩;have d:=f.2.2;unfold nQ at d;unfold jE;cases e:t.ins[m.cell.toNat]? with
 | none=>rw[e] at d;cases d
 | some y=>rw[e] at d;exact d
structure kQ (regs:Int) (t:aN):Prop where
 exits:∀(i:Nat) x e,t.ins[i]? = some x->0<=x.exit->t.exits[x.exit.toNat]? = some e->oW regs t e i
 turn:0<t.loop->oW regs t t.turn t.loop.toNat
 back:oW regs t t.back t.ins.length
 all:∀e∈t.exits,0<=e.steps/\∀s∈e.sets,0<=s.reg/\s.reg<regs
theorem yK {aG:Val->Bool} {q:Int} {fns:List FnM} {t:aN} (h:fA aG q fns t=0):∃fn,0<=t.fn/\fns[t.fn.toNat]? = some fn/\kQ fn.regs t:=by
 obtain⟨-,-,fn,hf,-,hl,hi,-,j,hb,p⟩:=gZ h;refine⟨fn,hf.1,hf.2,⟨λi x e l u g=>?_,λc=>?_,jQ (by exact hb.2),λe g=>?_⟩⟩
 ·obtain⟨r,d⟩:=fQ t.ins 0 hi i x l;rw[Nat.zero_add] at d;simp only[eY,Bool.and_eq_true] at d;have f:=d.2;split at f;·rw[beq_iff_eq] at f;omega
  ·simp only[Bool.and_eq_true,decide_eq_true_eq] at f;rw[g] at f;exact jQ f.2
 ·have:=(j c).2;have e:((t.loop.toNat:Nat):Int)=t.loop:=by omega
  rw[<-e] at this;exact jQ this
 ·have:=List.all_eq_true.1 p e g;have d:=jQ this;exact⟨d.steps,λs m=>⟨(d.sets s m).1,(d.sets s m).2.1⟩⟩
theorem l7 {regs:Int} {t:aN} (h:kQ regs t):∀(k d:Nat),0<=dA t d k
 | 0,_=>by simp[dA]
 | k+1,d=>by
  have:=l7 h k (d+1)
  have e:0<=(jV t d).steps:=by
   unfold jV
   split
   ·rename_i c;exact(h.turn c.2).steps
   ·exact h.back.steps
  simp only[dA];omega
end
section
structure Lim (t:aN) (r:Nat) (w:aI):Prop where
 vals:w.vals.length=t.ins.length
 cells:w.cells.length<=300
 regs:w.regs.length=r
theorem oI {w:aI} (h:w.cells.length<=300) (n:Nat) (c:bC):(setCW w n c).cells.length<=300:=by show(w.cells.set n c).length<=300;rw[List.length_set];exact h
theorem zI {w:aI} (h:w.cells.length<=300) (i:Nat) (k:Int):(dX w i k).1.cells.length<=300:=by
 unfold dX;split;·exact h
 ·show(w.cells++[_]).length<=300;rw[List.length_append,List.length_singleton];omega
theorem slot_n {w:aI} (h:w.cells.length<=300) (i:Nat) (x:bG):(gW w i x).1.cells.length<=300:=by
 unfold gW;split;·exact h
 ·split;·exact h
  ·split;·exact h
   ·split;·exact oI h _ _
    ·exact h
theorem grow_n {w:aI} (h:w.cells.length<=300) (sh:List aT) (x:bG):(jT sh w x).1.cells.length<=300:=by
 unfold jT;split;·exact h
 ·split;·exact h
  ·split;·exact h
   ·split;·exact h
    ·exact oI h _ _
theorem push_n {w:aI} (h:w.cells.length<=300) (x:bG):(iT w x).1.cells.length<=300:=by
 unfold iT;split;·exact h
 ·split;·exact h
  ·split;·exact oI h _ _
   ·split <;> exact h
theorem item_n {w:aI} (h:w.cells.length<=300) (i:Nat) (x:bG):(lP w i x).1.cells.length<=300:=by
 unfold lP;split;·exact h
 ·split;·exact h
  ·split;·exact h
   ·split;·exact h
    ·exact oI h _ _
theorem do_n (E:hV) (self:Val) (shapes:List aT) {w:aI} (h:w.cells.length<=300) (i:Nat) (x:bG):(doI E self shapes w i x).1.cells.length<=300:=by unfold doI;refine bU (λr:aI×Int=>r.1.cells.length<=300) (λ_=>h) λ_=>?_;refine bU (λr:aI×Int=>r.1.cells.length<=300) (λ_=>h) λ_=>?_;refine bU (λr:aI×Int=>r.1.cells.length<=300) (λ_=>h) λ_=>?_;refine bU (λr:aI×Int=>r.1.cells.length<=300) (λ_=>h) λ_=>?_;refine bU (λr:aI×Int=>r.1.cells.length<=300) (λ_=>h) λ_=>?_;refine bU (λr:aI×Int=>r.1.cells.length<=300) (λ_=>h) λ_=>?_;refine bU (λr:aI×Int=>r.1.cells.length<=300) (λ_=>slot_n h _ _) λ_=>?_;refine bU (λr:aI×Int=>r.1.cells.length<=300) (λ_=>grow_n h _ _) λ_=>?_;refine bU (λr:aI×Int=>r.1.cells.length<=300) (λ_=>item_n h _ _) λ_=>?_;refine bU (λr:aI×Int=>r.1.cells.length<=300) (λ_=>zI h _ _) λ_=>?_;refine bU (λr:aI×Int=>r.1.cells.length<=300) (λ_=>push_n h _) λ_=>?_;exact bU (λr:aI×Int=>r.1.cells.length<=300) (λ_=>h) λ_=>zI h _ _
theorem Lim.do_ {t:aN} {r:Nat} {w:aI} (h:Lim t r w) (E:hV) (self:Val) (shapes:List aT) (i:Nat):Lim t r (doW E t self shapes w i).1:= ⟨(sB [] E self shapes w i (jE t i)).len.trans h.vals,do_n E self shapes h.cells i _,by rw[(sA E t self shapes w i).regs];exact h.regs⟩
structure zV (regs:Int) (t:aN) (i:Nat) (x:bG):Prop where
 op:1<=x.op/\x.op<=19
 a:1<=(cF x.op).asks->0<=x.a/\x.a<i
 b:2<=(cF x.op).asks->0<=x.b/\x.b<i
 c:3<=(cF x.op).asks->0<=x.c/\x.c<i
 n:(cF x.op).low<=x.n/\x.n<=(cF x.op).high
 reg:x.op=1->x.n<regs
structure wQ (t:aN) (m:fZ) (k:Nat):Prop where
 cell:0<=m.cell/\m.cell<k
 len:m.vals.length<=100
 vals:∀v∈m.vals,0<=v/\v<k
structure mX (regs:Int) (t:aN) (x:cW) (k:Nat):Prop where
 at_:0<=x.at_
 steps:0<=x.steps/\x.steps<=200
 sets:∀s∈x.sets,0<=s.reg/\s.reg<regs/\0<=s.val/\s.val<k
 makes:∀m∈x.makes,wQ t m k
structure sI (regs:Int) (t:aN):Prop where
 len:t.ins.length<=300
 loop:0<=t.loop/\t.loop<=t.ins.length
 ins:∀(i:Nat) x,t.ins[i]? = some x->zV regs t i x
 exits:∀(i:Nat) x e,t.ins[i]? = some x->0<=x.exit->t.exits[x.exit.toNat]? = some e->mX regs t e i
 turn:0<t.loop->mX regs t t.turn t.loop.toNat
 back:mX regs t t.back t.ins.length
theorem qB {ins:List bG} {t:aN} {k:Nat} : ∀(last:Int) (l:List fZ),iE ins (k:Int) last l=true->∀m∈l,wQ t m k
 | _,[],_,_,hm=>by simp at hm
 | last,x::l,h,m,hm=>by
  have d:=mP last (x::l) h m hm
  simp only[iE,Bool.and_eq_true,decide_eq_true_eq] at h
  rcases List.mem_cons.1 hm with rfl | hm
  ·have e:=h.1.2
   simp only[nD,Bool.and_eq_true,decide_eq_true_eq] at e
   exact⟨⟨d.1.1,d.1.2.1⟩,e.1.2,λv f=>⟨(d.2 v f).1,(d.2 v f).2.1⟩⟩
  ·exact qB _ l h.2 m hm
theorem pD {fn:FnM} {t:aN} {x:cW} {k:Nat} (h:bR fn t.ins x (k:Int)=true):mX fn.regs t x k:=by have d:=jQ h;simp only[bR,Bool.and_eq_true,Bool.not_eq_true',Bool.or_eq_false_iff,decide_eq_false_iff_not] at h;exact⟨by omega,by omega,λs e=>⟨(d.sets s e).1,(d.sets s e).2.1,(d.sets s e).2.2.1,(d.sets s e).2.2.2.1⟩,qB _ _ h.2⟩
theorem yJ {aG:Val->Bool} {w:Int} {fns:List FnM} {t:aN} (h:fA aG w fns t=0):∃fn,0<=t.fn/\fns[t.fn.toNat]? = some fn/\sI fn.regs t:=by
 obtain⟨l,-,fn,hf,-,hl,hi,-,q,hb,y⟩:=gZ h;refine⟨fn,hf.1,hf.2,⟨l,hl,λi x g=>?_,λi x e g z u=>?_,λc=>?_,pD (by exact hb.2)⟩⟩
 ·obtain⟨r,d⟩:=fQ t.ins 0 hi i x g;have p:=oS h g;have f:∀v∈iU x,0<=v/\v<i:=λv s=>⟨(p v s).1,(p v s).2.1⟩;unfold iU at f;rw[Nat.zero_add] at d;simp only[eY,Bool.and_eq_true,Bool.not_eq_true',Bool.or_eq_false_iff,decide_eq_false_iff_not] at d;obtain⟨⟨⟨-,⟨j,h4⟩,h5⟩,-⟩,-⟩:=d;refine⟨by simpa [lU] using r,λc=>f x.a ?_,λc=>f x.b ?_,λc=>f x.c ?_,⟨by omega,by omega⟩,λc=>?_⟩;·generalize (cF x.op).asks=n at c;obtain⟨m,rfl⟩:∃m:Nat,n=((m+1:Nat):Int):=⟨(n - 1).toNat,by omega⟩;show x.a∈List.take (m+1) [x.a,x.b,x.c];simp
  ·generalize (cF x.op).asks=n at c;obtain⟨m,rfl⟩:∃m:Nat,n=((m+2:Nat):Int):=⟨(n - 2).toNat,by omega⟩;show x.b∈List.take (m+2) [x.a,x.b,x.c];simp
  ·generalize (cF x.op).asks=n at c;obtain⟨m,rfl⟩:∃m:Nat,n=((m+3:Nat):Int):=⟨(n - 3).toNat,by omega⟩;show x.c∈List.take (m+3) [x.a,x.b,x.c];simp
  ·rw[c] at h5;simpa using h5
 ·obtain⟨r,d⟩:=fQ t.ins 0 hi i x g;rw[Nat.zero_add] at d;simp only[eY,Bool.and_eq_true] at d;have j:=d.2;split at j;·rw[beq_iff_eq] at j;omega
  ·simp only[Bool.and_eq_true,decide_eq_true_eq] at j;rw[u] at j;exact pD j.2
 ·have:=(q c).2;have e:((t.loop.toNat:Nat):Int)=t.loop:=by omega
  rw[<-e] at this;exact pD this
end
end Go.Proofs.YtjaphgpkkfdaaaaGreatDoor
