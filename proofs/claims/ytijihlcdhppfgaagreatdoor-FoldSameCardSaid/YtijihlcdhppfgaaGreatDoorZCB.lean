/- A part of the walk. -/
import Derived.Test.YtijihlcdhppfgaaGreatDoorZBB
set_option maxHeartbeats 16000000
set_option maxRecDepth 100000
set_option linter.all false
namespace Go.Proofs.YtijihlcdhppfgaaGreatDoor
open Tryz
section
theorem nL {x:aT} {k:Nat} {v:Int} (d : [x.a,x.b,x.c][k]? = some v) (f:(k:Int)<(bP x.op).asks):v∈bU x:=by unfold bU;refine lM (i:=k) ?_;rw[List.getElem?_take,if_pos (by omega)];exact d
def acO (t:aH):Prop:=∀(k:Nat) (x:aT),t.ins[k]? = some x->∀v∈bU x,0<=v/\v<k/\dZ (bT t v).op=true
theorem acA {aF:Val->Bool} {j:Int} {fns:List FnM} {t:aH} (h:cQ aF j fns t=0):acO t:=λk x f v g=>by
 have:=lK h f v g
 refine⟨this.1,this.2.1,?_⟩
 have d:=this.2.2.2
 unfold l6 at d
 unfold bT
 cases e:t.ins[v.toNat]? with
 | none=>rw[e] at d;exact absurd d (by decide)
 | some y=>rw[e] at d;exact d
section
variable {t:aH} {d:Int} {i:Nat} {w w':aG}
end
structure sS (t:aH) (x:bX) (k:Nat):Prop where
 sets:∀s∈x.sets,0<=s.val/\s.val<k/\dZ (bT t s.val).op=true
 makes:∀m∈x.makes,(0<=m.cell/\m.cell<k/\dZ (bT t m.cell).op=true)/\∀v∈m.vals,0<=v/\v<k/\dZ (bT t v).op=true
section
variable {t:aH} {d:Int} {k:Nat}
structure qF (t:aH):Prop where
 ask:acO t
 ops:∀(i:Nat) x,t.ins[i]? = some x->mD x.op=true
 exits:∀(i:Nat) x e,t.ins[i]? = some x->0<=x.exit->t.exits[x.exit.toNat]? = some e->sS t e i
 back:sS t t.back t.ins.length
end
end
section
theorem qX {t:aH} {v:Int} {k:Nat} (h:eZ t.ins v (k:Int)=true):0<=v/\v<k/\dZ (bT t v).op=true:=by
 simp only[eZ,Bool.and_eq_true,decide_eq_true_eq] at h;refine⟨h.1.1.1,h.1.1.2,?_⟩;have d:=h.2;unfold l6 at d;unfold bT;cases e:t.ins[v.toNat]? with
 | none=>rw[e] at d;exact absurd d (by decide)
 | some y=>rw[e] at d;exact d
theorem yT {t:aH} {regs:Int} {k:Nat} : ∀(last:Int) (l:List oL),j5 regs t.ins (k:Int) last l=true->∀s∈l,0<=s.val/\s.val<k/\dZ (bT t s.val).op=true
 | _,[],_,_,hs=>by simp at hs
 | last,x::l,h,s,hs=>by
  simp only[j5,Bool.and_eq_true,decide_eq_true_eq] at h
  rcases List.mem_cons.1 hs with rfl | hs
  ·exact qX h.1.2
  ·exact yT _ l h.2 s hs
theorem wH {t:aH} {k:Nat} : ∀(last:Int) (l:List dX),fI t.ins (k:Int) last l=true->∀m∈l,(0<=m.cell/\m.cell<k/\dZ (bT t m.cell).op=true)/\∀v∈m.vals,0<=v/\v<k/\dZ (bT t v).op=true
 | _,[],_,_,hm=>by simp at hm
 | last,x::l,h,m,hm=>by
  simp only[fI,Bool.and_eq_true,decide_eq_true_eq] at h
  rcases List.mem_cons.1 hm with rfl | hm
  ·have d:=h.1.2
   simp only[mG,Bool.and_eq_true] at d
   refine⟨qX d.1.1.1.1,λv g=>?_⟩
   have f:=d.2
   unfold fN at f
   exact qX (List.all_eq_true.1 f v g)
  ·exact wH _ l h.2 m hm
theorem rF {fn:FnM} {t:aH} {x:bX} {k:Nat} (h:bN fn t.ins x (k:Int)=true):sS t x k:=by simp only[bN,Bool.and_eq_true] at h;exact⟨yT (-1) _ h.1.2,wH (-1) _ h.2⟩
theorem adZ {aF:Val->Bool} {l:Int} {fns:List FnM} {t:aH} (h:cQ aF l fns t=0):qF t:=by
 obtain⟨-,-,fn,hf,-,hl,hi,-,p,hb,q⟩:=fD h;refine⟨acA h,λi x f=>(fW t.ins 0 hi i x f).1,λi x e f r j=>?_,rF hb.2⟩;obtain⟨h1,g⟩:=fW t.ins 0 hi i x f;rw[Nat.zero_add] at g;simp only[eJ,Bool.and_eq_true] at g;have d:=g.2;split at d;·rw[beq_iff_eq] at d;omega
 ·simp only[Bool.and_eq_true,decide_eq_true_eq] at d;rw[j] at d;exact rF d.2
end
end Go.Proofs.YtijihlcdhppfgaaGreatDoor
