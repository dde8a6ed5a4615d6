/- A part of the walk. -/
import Derived.Test.YtijihlcdhppfgaaGreatDoorZM
import Derived.Test.YtijihlcdhppfgaaGreatDoorZBA
set_option maxHeartbeats 16000000
set_option maxRecDepth 100000
set_option linter.all false
namespace Go.Proofs.YtijihlcdhppfgaaGreatDoor
open Go.Proofs.Tryz
section
end
section
end
section
open Go.RowKit
end
section
end
section
theorem cutRun_len (loop0:Int):∀(l:List aT) (m:List Int) (s d:mX),iU loop0 l m s=some d->d.ins.length<=s.ins.length+l.length
 | [],m,s,d,h=>by
  cases m <;> (simp only[iU,Option.some.injEq] at h;subst h;simp)
 | x::l,[],s,d,h=>by simp only[iU,Option.some.injEq] at h;subst h;omega
 | x::l,n::m,s,d,h=>by
  simp only[iU] at h
  split at h
  ·cases h
  rename_i s1 e
  have h1:=cutRun_len loop0 l m s1 d h
  have f:s1.ins.length<=s.ins.length+1:=by
   unfold gK at e
   dsimp only at e
   split at e
   ·injection e with e;subst e;simp
   split at e
   ·injection e with e;subst e;simp
   split at e
   ·injection e with e;subst e;simp
   ·cases e
  simp only[List.length_cons];omega
theorem cutM_len (t:aH) (d:List Int):((g9 t d).2=0/\(g9 t d).1.ins.length<=t.ins.length)\/((g9 t d).2=3/\(g9 t d).1.ins=[]):=by
 unfold g9;split;·exact .inr ⟨rfl,rfl⟩
 split;·exact .inr ⟨rfl,rfl⟩
 rename_i s e;have h:=cutRun_len _ _ _ _ _ e;split;·left;refine⟨rfl,?_⟩;simpa [bK] using h
 ·exact .inr ⟨rfl,rfl⟩
end
end Go.Proofs.YtijihlcdhppfgaaGreatDoor
