/- A part of the walk. -/
import Derived.Test.YtijihlcdhppfgaaGreatDoorRows
import Derived.SizedLaws
import Derived.Test.YtijihlcdhppfgaaGreatDoorZCA
import Derived.Test.YtijihlcdhppfgaaGreatDoorZCI
set_option maxHeartbeats 16000000
set_option maxRecDepth 100000
set_option linter.all false
namespace Go.Proofs.YtijihlcdhppfgaaGreatDoor
open Tryz
section
open Go.ChangeShapes Go.WideShapes Go.ChangeAt Go.RowKit
section
variable {H:Type} {enc:TypeId×Value->H} {P:Program}
theorem qM (hl:laidOutB P=true) {W s:World} (hb:Below W.heap.size W s):∀(f:List TypeId) (vs:List Value) (g:List (DataW H)) (j:List MemPlace),
  (∀t∈f,P.readableRec t=true/\t<P.types.size)->(∀x∈j,x.block<W.heap.size)->
  DataW.TrodAll enc P W 0 (λ_=>true) true f vs g j->DataW.TrodAll enc P s 0 (λb=>decide (b<W.heap.size)) true f vs g j
 | [],[],[],_,_,_,h=>h
 | t::f,v::vs,d::g,j,ht,hp,h=>by
  obtain⟨p,q,h1,u,rfl⟩:=h
  exact⟨p,q,Below.trod hl (ht t (by simp)).1 (ht t (by simp)).2 h1 hb (λx l=>hp x (by simp[l])),
   qM hl hb f vs g q (λt r=>ht t (by simp[r])) (λx l=>hp x (by simp[l])) u,rfl⟩
 | [],_::_,_,_,_,_,h=>by cases h
 | [],[],_::_,_,_,_,h=>by cases h
 | _::_,[],_,_,_,_,h=>by cases h
 | _::_,_::_,[],_,_,_,h=>by cases h
theorem law_post {f:Func} {s:ChangeSpec} {W v:World} {args:Array Value} {g j:List (DataW H)} {before:List MemPlace} {B:TypeId} (hl:laidOutB P=true) (w:s.vars=[]) (A:f.resultTypes=#[B]) (hB:P.underlying B=some .bool) (ht:∀t∈f.params.toList,P.readableRec t=true/\t<P.types.size) (y:DataW.Whole enc P f.params.toList s.vars false W args.toList g j before) (r:(s.fn H (g++j)).results=[.lit (.bool true)]/\(s.fn H (g++j)).args=g/\(s.fn H (g++j)).vars=[]) (hb:Below W.heap.size W v) : s.post enc P f false true false false W args (.bool true) v:=by
 have l:=y;obtain⟨p,q,z,hV,rfl,D,E⟩:=y;have u:∀x∈p++q,x.block<W.heap.size:=λx d=>by simpa using l.lt x d
 rw[w] at hV;obtain⟨rfl,rfl⟩:=trodVars_none hV;refine⟨g,[],p++[],[],p,[],l,?_,?_,?_,World.keptBut_mono (λx d=>⟨d,?_⟩) (hb.frame (·∈p++[])),λh=>by cases h⟩;·rw[r.1,A];exact trodAll_mk1 (shut_bool hB true)
 ·rw[r.2.1];exact qM hl hb _ _ _ _ ht (λx d=>u x (by simp[d])) z
 ·rw[w,r.2.2];rfl
 ·simp at d;exact .inr (.inl d)
end
end
section
open Go.RowKit
set_option maxHeartbeats 8000000
set_option maxRecDepth 100000
theorem bI.cs {w:World} {B:Nat} {cs:List Value} {t:aH} (h:bI w B cs t):(Tryz.prog.info? 34).map (·.size)=some cs.length∧13=cs.length∧cs.all (·.oneCell')=true:=by
 obtain⟨_,_,_,_,_,_,_,_,_,_,_,_,rfl,-⟩:=h.cells6
 exact⟨by kernel_rfl,rfl,rfl⟩
theorem aj8 {R:Val->Bool} {d:Int} {fns:List FnM} {t:aH} (h:cQ R d fns t=0):d=0:=by
 unfold cQ at h;split at h;·exact h
 ·omega
end
end Go.Proofs.YtijihlcdhppfgaaGreatDoor
