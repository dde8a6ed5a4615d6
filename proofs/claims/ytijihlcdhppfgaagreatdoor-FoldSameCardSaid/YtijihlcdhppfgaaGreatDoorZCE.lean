/- A part of the walk. -/
import Derived.Test.YtijihlcdhppfgaaGreatDoorZBA
import Derived.Test.YtijihlcdhppfgaaGreatDoorZM
import Derived.Test.YtijihlcdhppfgaaGreatDoorZCC
import Derived.Test.YtijihlcdhppfgaaGreatDoorZR
set_option maxHeartbeats 16000000
set_option maxRecDepth 100000
set_option linter.all false
namespace Go.Proofs.YtijihlcdhppfgaaGreatDoor
open Tryz
section
open Go.RowKit
section
variable {bc:Nat} {w w1 w2:World}
end
end
section
open Go.RowKit
end
section
open Go.RowKit
theorem aW.set_ {α : Type} {w:World} {B:Nat} {ty t:TypeId} {size:Nat} {R:List Value->α->Prop} {v:Value} {xs:List α} (h:aW w B ty size R v xs) {g:Nat} {cs:Array Value} {f:Nat×Nat} (j:w.heap[g]? = some (.cells cs t f)) (ht:t≠ty) (i:Nat) (u:Value):aW (w.setCell ⟨g,i,none⟩ u) B ty size R v xs:= h.keep (λk c f _ d=>heap_setCell_other w _ _ _ (by show k≠g;rintro rfl;rw[j] at d;injection d with d;injection d with _ d _;exact ht d)) (λ_ _ h=>h)
theorem aW.set_row {α : Type} {w:World} {B:Nat} {ty t:TypeId} {size:Nat} {R:List Value->α->Prop} {v:Value} {xs:List α} (h:aW w B ty size R v xs) {g:Nat} {cs:Array Value} {f:Nat×Nat} (j:w.heap[g]? = some (.cells cs t f)) (ht:t≠ty) (new:Array Value):aW (w.setRow g new) B ty size R v xs:= h.keep (λk c f _ d=>setRow_other w g k new (by rintro rfl;rw[j] at d;injection d with d;injection d with _ d _;exact ht d)) (λ_ _ h=>h)
end
open Tryz
section
open Go.RowKit
end
open Tryz
section
open Go.RowKit
def sV (t:aH) (tl:List Int) (w:World) (e:Ending) (w':World):Prop:=
 ∃cs,e=.returned (.tuple #[.agg ⟨cs⟩,.int .i64 (g9 t tl).2])/\bI w' w'.heap.size cs (g9 t tl).1/\Below w.heap.size w w'/\∀g new,g<w.heap.size->bI (w'.setRow g new) (w'.setRow g new).heap.size cs (g9 t tl).1
def jX (t:aH) (tl:List Int) (w:World) (e:Ending) (w':World):Prop:=
 ∃cs,e=.returned (.tuple #[.agg ⟨cs⟩,.int .i64 (g9 t tl).2])/\bI w' w'.heap.size cs (g9 t tl).1/\Below w.heap.size w w'/\∀w2:World,(∀k,w.heap.size<=k->k<w'.heap.size->w2.heap[k]? = w'.heap[k]?)->bI w2 w2.heap.size cs (g9 t tl).1
theorem jX.one {t:aH} {tl:List Int} {w:World} {e:Ending} {w':World} (h:jX t tl w e w'):sV t tl w e w':=by obtain⟨cs,a,b,c,d⟩:=h;exact⟨cs,a,b,c,λg new f=>d _ (λk j _=>setRow_other _ _ _ _ (by omega))⟩
def bY:List Value:=[.int .i64 0,.int .i64 0,.int .i64 0,.slice none 0 0,.slice none 0 0,.int .i64 0,.int .i64 0,.slice none 0 0,.slice none 0 0,.int .i64 0,.int .i64 0,.slice none 0 0,.slice none 0 0]
theorem fR (w:World) (B:Nat):bI w B bY mT:=by
 have z:wfi 0:=by unfold wfi;omega
 have d:fM w B [.int .i64 0,.int .i64 0,.slice none 0 0,.slice none 0 0] ajP:=⟨_,_,rfl,aB.nil _ _ _ _,aB.nil _ _ _ _,z,z⟩;exact⟨_,_,_,_,rfl,aB.nil _ _ _ _,aB.nil _ _ _ _,d,d,z,z,z⟩
theorem iG:(prog.info? 34).map (·.size)=some 13:=by kernel_rfl
end
section
def acK (x:bX):Prop:=x.sets.length<=1000/\x.makes.length<=1000/\∀m∈x.makes,m.vals.length<=1000
theorem yV {regs:Int} {ins:List aT} {at_:Int} : ∀(last:Int) (l:List oL),j5 regs ins at_ last l=true->l=[]\/last+l.length<regs
 | _,[],_=>.inl rfl
 | last,s::l,h=>by
  simp only[j5,Bool.and_eq_true,decide_eq_true_eq] at h
  right
  rcases yV s.reg l h.2 with e | e
  ·subst e;simp only[List.length_cons,List.length_nil];omega
  ·simp only[List.length_cons];omega
theorem wI {ins:List aT} {at_:Int} : ∀(last:Int) (l:List dX),fI ins at_ last l=true->l=[]\/last+l.length<ins.length
 | _,[],_=>.inl rfl
 | last,m::l,h=>by
  have d:=nB last (m::l) h m (by simp)
  simp only[fI,Bool.and_eq_true,decide_eq_true_eq] at h
  right
  rcases wI m.cell l h.2 with e | e
  ·subst e;simp only[List.length_cons,List.length_nil];omega
  ·simp only[List.length_cons];omega
theorem uM {ins:List aT} {at_:Int} : ∀(last:Int) (l:List dX),fI ins at_ last l=true->∀m∈l,m.vals.length<=100
 | _,[],_,_,hm=>by simp at hm
 | last,x::l,h,m,hm=>by
  simp only[fI,Bool.and_eq_true,decide_eq_true_eq] at h
  rcases List.mem_cons.1 hm with rfl | hm
  ·have d:=h.1.2
   simp only[mG,Bool.and_eq_true,decide_eq_true_eq] at d
   exact d.1.2
  ·exact uM _ l h.2 m hm
theorem nY {fn:FnM} {ins:List aT} {x:bX} {at_:Int} (f:fn.regs<=60) (hi:ins.length<=300) (h:bN fn ins x at_=true):acK x:=by
 simp only[bN,Bool.and_eq_true] at h;refine⟨?_,?_,λm d=>?_⟩
 ·rcases yV _ _ h.1.2 with e | e;·rw[e];simp
  ·omega
 ·rcases wI _ _ h.2 with e | e;·rw[e];simp
  ·omega
 ·have:=uM _ _ h.2 m d;omega
theorem acH {x:bX} (h:kV x=true):acK x:=by simp only[kV,Bool.and_eq_true,List.isEmpty_iff] at h;refine⟨by rw[h.1.2];simp,by rw[h.2];simp,λm d=>by rw[h.2] at d;simp at d⟩
theorem xF {p:aZ} (h:bH p=0):∀f∈p.fns,f.regs<=60:=by
 unfold bH at h;split at h;·cases h
 ·rename_i h1;exact λf hf=>((wJ (by simpa using h1)).2 f hf).2
structure aa1 (t:aH):Prop where
 ins:t.ins.length<=300
 exitsLen:t.exits.length<=200
 exits:∀x∈t.exits,acK x
 turn:acK t.turn
 back:acK t.back
theorem acC {p:aZ} {t:aH} {rv:Val->Bool} (h:cQ rv (bH p) (p.fns.map gI) t=0):aa1 t:=by
 have q:bH p=0:=by
  unfold cQ at h;split at h;·rename_i h1;exact(h1 h).elim
  ·rename_i h1;exact Classical.not_not.1 h1
 obtain⟨h1,r,fn,hf,_,hl,_,g,j,hb,s⟩:=fD h;have d:fn.regs<=60:=by have:=hf.2;rw[List.getElem?_map] at this;obtain⟨f,u,rfl⟩:=Option.map_eq_some_iff.1 this;exact xF q f (lM u)
 refine⟨h1,r,λx l=>nY d h1 (List.all_eq_true.1 s x l),?_,nY d h1 hb.2⟩;rcases Int.lt_or_le 0 t.loop with c | c;·exact nY d h1 (j c).2
 ·exact acH (g (by omega))
end
section
open Go.RowKit
section
variable {W w6:World} {bc:Nat} {tv v':Value} {at_:List Int} {fine:Bool} {a:Int}
end
section
variable {w w1:World} {B:Nat} {cs:List Value} {x:bX}
end
theorem ai9 (x:aT):∀u∈bA x,u.oneCell'=true:=by intro u d;simp[bA] at d;rcases d with rfl | rfl | rfl | rfl | rfl | rfl | rfl | rfl <;> rfl
end
section
open Go.RowKit Go.Maps
end
open Tryz
section
open Go.RowKit Go.Maps
section
variable {H:Type} {P:Program} {k:TypeId} {R:Value->Option (DataW H×List MemPlace)} {b n:Nat} {D:DataW H} {w w':World}
theorem map_set (h:w.ownsMap P k R b n D) {g:Nat} (f:b≠g) (i:Nat) (u:Value):(w.setCell ⟨g,i,none⟩ u).ownsMap P k R b n D:= h.kept (row:=some g) ⟨rfl,rfl,rfl,by simp[World.setCell],λj _ d=>Below.heap_setCell _ _ _ _ (λe=>d (by rw[e]))⟩ (by simp;exact f)
end
end
section
open Go.RowKit
end
end Go.Proofs.YtijihlcdhppfgaaGreatDoor
