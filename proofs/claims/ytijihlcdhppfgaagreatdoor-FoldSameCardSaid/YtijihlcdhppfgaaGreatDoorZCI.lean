/- A part of the walk. -/
import Derived.Test.YtijihlcdhppfgaaGreatDoorZCE
import Derived.Test.YtijihlcdhppfgaaGreatDoorZDD
import Derived.Test.YtijihlcdhppfgaaGreatDoorZBX
set_option maxHeartbeats 16000000
set_option maxRecDepth 100000
set_option linter.all false
namespace Go.Proofs.YtijihlcdhppfgaaGreatDoor
open Tryz
section
open Go.RowKit
theorem cut_c2 (ca:List Value) (t:aH) (v:Value) (tl:List Int) (w:World) (ht:bI w w.heap.size ca t) (hv:aB w w.heap.size 1 gB v tl) (hsm:aa1 t):Calls prog 24 #[.agg ⟨ca⟩,v] w (jX t tl w):=
 (cut_b ca t v tl w ht hv hsm.ins hsm.exitsLen fun x h=>by
  rcases h with rfl | rfl | h
  ·exact hsm.back
  ·exact hsm.turn
  ·exact hsm.exits x h).mono fun _ _ ⟨cs,a,b,d⟩=>⟨cs,a,d _ (fun _ _ _=>rfl),b,d⟩
theorem cut_c (ca:List Value) (t:aH) (v:Value) (tl:List Int) (w:World) (ht:bI w w.heap.size ca t) (hv:aB w w.heap.size 1 gB v tl) (hsm:aa1 t):Calls prog 24 #[.agg ⟨ca⟩,v] w (sV t tl w):=
 (cut_c2 ca t v tl w ht hv hsm).mono fun _ _ h=>h.one
theorem bI.cells {w:World} {B:Nat} {cs:List Value} {t:aH} (h:bI w B cs t):∃d f g j l p q r s u v x,cs=[.int .i64 t.fn,.int .i64 t.at_,.int .i64 t.loop,.slice d t.ins.length f,.slice g t.exits.length j,.int .i64 t.turn.at_,.int .i64 t.turn.steps,.slice l t.turn.sets.length p,.slice q t.turn.makes.length r,.int .i64 t.back.at_,.int .i64 t.back.steps,.slice s t.back.sets.length u,.slice v t.back.makes.length x]/\t.ins.length<=maxLen:=by obtain⟨i,e,z,cb,rfl,⟨d,f,rfl,l1,y,-⟩,⟨g,j,rfl,-⟩,⟨s1,A,rfl,⟨l,p,rfl,-⟩,⟨q,r,rfl,-⟩,-⟩,⟨D,E,rfl,⟨s,u,rfl,-⟩,⟨v,x,rfl,-⟩,-⟩,-⟩:=h;exact⟨d,f,g,j,l,p,q,r,s,u,v,x,rfl,Nat.le_trans l1 y⟩
end
section
open Go.RowKit Go.Maps
end
section
open Go.RowKit
end
section
open Go.RowKit
end
section
open Go.RowKit
end
section
open Go.RowKit
end
section
open Go.RowKit
end
section
open Go.RowKit
namespace Bx
open Tryz
variable {P:Program} {ops:Array Oper} {rest:List Oper} {o:Oper} {a:Act} {w0 w:World} {Q:Exit->Act->World->Prop} {l l':List (Nat×List Value×TypeId)} {g:Nat} {cs:List Value} {t:TypeId}
theorem ldg {ty:TypeId} {x:Operand} {d:TypeDesc} (X:Bx w0 w l) (hi:(P.info? ty).map (·.size)=some cs.length) (h:wpList P ops Q rest (a.put o.dst (.agg cs.toArray)) w) (j:o.op=.load ty x:=by rfl) (f:Region.wanted o (yielded ops a.tmps)=true:=by first | rfl | simp[Region.wanted,yielded,Act.put, *]) (p:a.eval x=.pointer (some ⟨g,0,none⟩):=by rfl) (q:In3 g cs t l:=by repeat (first | exact .hd _ | apply In3.tl)) (r:P.underlying ty=some d:=by rfl) (s:d.isRow=true:=by rfl):wpList P ops Q (o::rest) a w:= ldr (X.rg q) h hi j f p r s
end Bx
end
end Go.Proofs.YtijihlcdhppfgaaGreatDoor
