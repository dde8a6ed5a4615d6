/- Part of the walk of the given code: contracts, and plain laws. -/
import Derived.Test.YtijihlcdhppfgaaGreatDoorZA
import Derived.Test.YtijihlcdhppfgaaGreatDoorZG
import Derived.Test.YtijihlcdhppfgaaGreatDoorZK
import Derived.Test.YtijihlcdhppfgaaGreatDoorZM
import Derived.Test.YtijihlcdhppfgaaGreatDoorZBA
set_option maxHeartbeats 16000000
set_option maxRecDepth 100000
set_option linter.all false
namespace Go.Proofs.YtijihlcdhppfgaaGreatDoor
section
end
section
def ownM (K:Int→Int) (x:aT):Int:=
 if x.op=2 then x.k.kind
 else if x.op=15 then 2
 else if x.op=16 then 5
 else if x.op=18 then 5
 else if x.op=7∨x.op=8 then
  if(8≤x.n∧x.n≤10∧x.op=7)∨(x.n=11∧x.op=8) then 1
  else if K x.a=2∨K x.a=3 then K x.a else -1
 else -1
def guardM (v:Int):List aT→Int
 | []=>-1
 | x::l=>if x.a≠v then guardM v l else if x.op=4 then x.n else if x.op=6 then x.k.kind else if x.op=9 then 5 else guardM v l
def kindF (ins:List aT):Nat→Int→Int→Int
 | 0,_,_=>-1
 | n+1,v,at_=>
  if v<0∨at_≤v∨(ins.length:Int)<at_∨dZ (l6 ins v)=false then -1
  else
   let k:=ownM (kindF ins n · v) (insAt ins v)
   if 0≤k then k else guardM v ((ins.take at_.toNat).drop (v.toNat+1))
def kindM (ins:List aT) (v at_:Int):Int:=kindF ins (v.toNat+1) v at_
theorem ownM_congr {K L:Int→Int} {x:aT} (h:K x.a=L x.a):ownM K x=ownM L x:=by unfold ownM;rw[h]
theorem kindF_neg {ins:List aT} {n:Nat} {v at_:Int} (h:v<0):kindF ins n v at_ = -1:=by
 cases n with
 | zero=>rfl
 | succ n=>unfold kindF;rw[if_pos (.inl h)]
theorem kindF_late {ins:List aT} {n:Nat} {v at_:Int} (h:at_≤v):kindF ins n v at_ = -1:=by
 cases n with
 | zero=>rfl
 | succ n=>unfold kindF;rw[if_pos (.inr (.inl h))]
theorem kindF_fuel {ins:List aT} : ∀(n m:Nat) (v at_:Int),v<n→v<m→kindF ins n v at_=kindF ins m v at_
 | 0,m,v,at_,h1,_=>by rw[kindF_neg (by omega),kindF_neg (by omega)]
 | n+1,0,v,at_,_,h2=>by rw[kindF_neg (by omega),kindF_neg (by omega)]
 | n+1,m+1,v,at_,h1,h2=>by
  unfold kindF
  have e:ownM (kindF ins n · v) (insAt ins v)=ownM (kindF ins m · v) (insAt ins v):=by
   refine ownM_congr ?_
   rcases Int.lt_or_le (insAt ins v).a v with h | h
   ·exact kindF_fuel n m _ _ (by omega) (by omega)
   ·rw[kindF_late h,kindF_late h]
  rw[e]
theorem kindM_of {ins:List aT} {n:Nat} {v at_:Int} (h:v<n):kindF ins n v at_=kindM ins v at_:=kindF_fuel _ _ _ _ h (by omega)
theorem kindM_eq (ins:List aT) (v at_:Int):kindM ins v at_ =
  if v<0∨at_≤v∨(ins.length:Int)<at_∨dZ (l6 ins v)=false then -1
  else if 0≤ownM (kindM ins · v) (insAt ins v) then ownM (kindM ins · v) (insAt ins v) else guardM v ((ins.take at_.toNat).drop (v.toNat+1)):=by
 conv=>lhs;unfold kindM kindF
 by_cases h0:v<0
 ·rw[if_pos (.inl h0),if_pos (.inl h0)]
 have e:ownM (kindF ins v.toNat · v) (insAt ins v)=ownM (kindM ins · v) (insAt ins v):=by
  refine ownM_congr ?_
  rcases Int.lt_or_le (insAt ins v).a v with h | h
  ·exact kindM_of (by omega)
  ·rw[kindF_late h];unfold kindM;rw[kindF_late h]
 dsimp only
 rw[e]
end
section
open Go.RowKit
theorem insAt_some {ins:List aT} {k:Nat} {x:aT} (h:ins[k]? = some x):insAt ins k=x∧l6 ins k=x.op:=by
 unfold insAt l6
 rw[Int.toNat_natCast,h]
 exact⟨rfl,rfl⟩
end
section
end
section
theorem cutRun_len (loop0:Int):∀(l:List aT) (m:List Int) (s s':mX),iU loop0 l m s=some s'→s'.ins.length≤s.ins.length+l.length
 | [],m,s,s',h=>by
  cases m <;> (simp only[iU,Option.some.injEq] at h;subst h;simp)
 | x::l,[],s,s',h=>by simp only[iU,Option.some.injEq] at h;subst h;omega
 | x::l,n::m,s,s',h=>by
  simp only[iU] at h
  split at h
  ·cases h
  rename_i s1 e
  have h1:=cutRun_len loop0 l m s1 s' h
  have h2:s1.ins.length≤s.ins.length+1:=by
   unfold gK at e
   dsimp only at e
   split at e
   ·injection e with e;subst e;simp
   split at e
   ·injection e with e;subst e;simp
   split at e
   ·injection e with e;subst e;simp
   ·cases e
  simp only[List.length_cons];omega
theorem cutM_len (t:aH) (tq:List Int):((g9 t tq).2=0∧(g9 t tq).1.ins.length≤t.ins.length)∨((g9 t tq).2=3∧(g9 t tq).1.ins=[]):=by
 unfold g9
 split
 ·exact .inr ⟨rfl,rfl⟩
 split
 ·exact .inr ⟨rfl,rfl⟩
 rename_i s e
 have h:=cutRun_len _ _ _ _ _ e
 split
 ·left;refine⟨rfl,?_⟩
  simpa [bK] using h
 ·exact .inr ⟨rfl,rfl⟩
end
end Go.Proofs.YtijihlcdhppfgaaGreatDoor
