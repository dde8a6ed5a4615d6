/- A part of the walk. -/
import Derived.Test.YtjaphgpkkfdaaaaGreatDoorZA
import Derived.Test.YtjaphgpkkfdaaaaGreatDoorZB
import Derived.Deep.DeepLaidRun
import Derived.Deep.DeepWitnessRowRef
import Derived.Lib.SpaceR
import Derived.Laws.Tables
import Derived.StillTailTactics
import Derived.Shelf.Abstract
set_option maxHeartbeats 16000000
set_option maxRecDepth 100000
set_option linter.all false
namespace Go.Proofs.YtjaphgpkkfdaaaaGreatDoor
open Tryz
section
open Go.RowKit
abbrev Tab (w : World) : Prop := Lib.TabIs prog w "strings.asciiSpace" .u8 Lib.asciiSpaceTab
theorem gTab : prog.globalNamed "strings.asciiSpace" = some 0 := by kernel_rfl
theorem Tab.below {w w':World} (h:Tab w) (k:Below w.heap.size w w'):Tab w':=by
 unfold Tab Lib.TabIs World.var? at h ⊢;rw[gTab] at h ⊢;simp only[Option.bind_some] at h ⊢;have d:0<w.heap.size:=by
  rcases Nat.lt_or_ge 0 w.heap.size with h' | h';·exact h'
  ·rw[Array.getElem?_eq_none h'] at h;cases h
 rw[k.block 0 d];exact h
def oZ:List UInt8:=[107,105,110,100,32,114,97,110,103,101,32,122,101,114,111,32,105,110,100,101,120,32,108,97,114,103,101,32,100,101,101,112,32,115,116,97,116,101,32,99,111,117,110,116,32,110,105,108,32,98,111,111,108,32,105,110,116,32,102,108,111,97,116,32,116,101,120,116,32,111,98,106,101,99,116,32,108,105,115,116,32,102,117,110,99,116,105,111,110,32,103,101,110,101,114,97,116,111,114,32,108,111,99,107,32,119,101,97,107]
def cC:List ByteArray:=(Lib.fields oZ).map λl=>⟨l.toArray⟩
theorem tD:(Lib.fields oZ).length=19:=by kernel_rfl
theorem jK:cC.length=19:=by rw[cC,List.length_map];exact tD
theorem vI:∀b∈oZ,b.toNat<128:=by decide
theorem zX:((Lib.fields oZ).map λl=>Value.string ⟨l.toArray⟩)=cC.map Value.string:=by rw[cC,List.map_map];rfl
theorem yQ (w:World) (h:Tab w):Calls prog 112 #[] w λe w'=>e=.returned (.slice (some ⟨w.heap.size,0,none⟩) 19 19)/\w'=w.alloc (.cells (cC.map Value.string).toArray 9):=by
 obtain⟨s,d⟩:∃s:ByteArray,s=⟨oZ.toArray⟩:=⟨_,rfl⟩;have f:s.data.toList=oZ:=by rw[d]
 have g:s.size=109:=by rw[d];rfl
 have C:=Tryz.strings_Fields s w (by rw[g];omega) (λj b hb=>by rw[f] at hb;exact vI b (lM hb)) h;rw[f,tD,zX] at C;have l:=hI C;have m:=hI d;clear C f g d h;go_enter func112,ntmps112;go_wp2_with fail;have i:=l.o;rw[m.o] at i;refine i.mono ?_;rintro e w' ⟨rfl,rfl⟩;go_wp2_with fail;go_ret;exact⟨rfl,rfl⟩
end
section
open Go.ChangeShapes Go.WideShapes Go.ChangeAt Go.RowKit
section
variable {H:Type} {enc:TypeId×Value->H} {w:World} {spare:Nat->Bool} {held:Bool}
theorem cBool:prog.cellsOf 4=1:=by kernel_rfl
theorem cStr:prog.cellsOf 9=1:=by kernel_rfl
theorem cCIns:prog.cellsOf 193=5:=by kernel_rfl
theorem cFn:prog.cellsOf 99=5:=by kernel_rfl
theorem cProg:prog.cellsOf 26=3:=by kernel_rfl
theorem ad0:prog.cellsOf 97=1:=by kernel_rfl
theorem cSFn:prog.cellsOf 22=1:=by kernel_rfl
theorem cSVal:prog.cellsOf 23=1:=by kernel_rfl
theorem cSStr:prog.cellsOf 24=1:=by kernel_rfl
theorem o_cins:eQ enc prog w spare held 193 iA:=by
 intro y cs x h
 have hl:=fT underlying193 h
 refine⟨hl,?_⟩
 rw[cCIns] at hl
 obtain⟨j,d⟩:=aS underlying193 h 0 _ rfl eT
 obtain⟨l,e⟩:=aS underlying193 h 1 _ rfl eT
 obtain⟨m,f⟩:=aS underlying193 h 2 _ rfl eT
 obtain⟨p,g⟩:=aS underlying193 h 3 _ rfl eT
 obtain⟨q,i⟩:=aS underlying193 h 4 _ rfl eT
 match cs,hl with
 | [c0,c1,c2,c3,c4],_=>
  simp only[List.getElem_toArray,List.getElem_cons_zero,List.getElem_cons_succ,tC,hY,List.drop_zero,List.take_succ_cons,List.take_zero,List.drop_succ_cons,List.cons.injEq,and_true] at d e f g i
  obtain⟨rfl,r⟩:=d
  obtain⟨rfl,w1⟩:=e
  obtain⟨rfl,s⟩:=f
  obtain⟨rfl,u⟩:=g
  obtain⟨rfl,v⟩:=i
  exact⟨⟨j,l,m,p,q⟩,rfl,r,w1,s,u,v⟩
theorem o_cinss:eQ enc prog w spare held 97 (λcs (xs:List fE)=>∃v,cs=[v]/\aH w w.heap.size 5 iA v xs):=eB underlying97 cCIns (by decide) ad0 o_cins
theorem o_bool:eQ enc prog w spare held 4 sP:=xH underlying4 cBool
theorem o_str:eQ enc prog w spare held 9 lV:=uR underlying9 cStr
theorem o_fn:eQ enc prog w spare held 99 (FnR w w.heap.size):=by
 intro y cs x h
 have hl:=fT underlying99 h
 refine⟨hl,?_⟩
 rw[cFn] at hl
 obtain⟨p,d⟩:=aS underlying99 h 0 _ rfl eT
 obtain⟨q,e⟩:=aS underlying99 h 1 _ rfl eT
 obtain⟨r,f⟩:=aS underlying99 h 2 _ rfl o_bool
 obtain⟨s,z,g,i⟩:=aS underlying99 h 3 _ rfl xJ
 obtain⟨u,D,j,l⟩:=aS underlying99 h 4 _ rfl o_cinss
 match cs,hl with
 | [c0,c1,c2,c3,c4],_=>
  simp only[List.getElem_toArray,List.getElem_cons_zero,List.getElem_cons_succ,tC,cBool,adY,ad0,hY,sP,List.drop_zero,List.take_succ_cons,List.take_zero,List.drop_succ_cons,List.cons.injEq,and_true] at d e f g j
  obtain⟨rfl,v⟩:=d
  obtain⟨rfl,w1⟩:=e
  subst f;subst g;subst j
  obtain⟨A,n,rfl,-⟩:=id i
  obtain⟨C,m,rfl,-⟩:=id l
  exact⟨⟨p,q,r,s,u⟩,A,n,C,m,rfl,i,l,v,w1⟩
theorem o_fns:eQ enc prog w spare held 22 (λcs (xs:List CFn)=>∃v,cs=[v]/\aH w w.heap.size 5 (FnR w w.heap.size) v xs):=eB underlying22 cFn (by decide) cSFn o_fn
theorem o_vals:eQ enc prog w spare held 23 (λcs (xs:List Val)=>∃v,cs=[v]/\aH w w.heap.size 2 hU v xs):=eB underlying23 cVal (by decide) cSVal o_val
theorem o_strs:eQ enc prog w spare held 24 (λcs (xs:List ByteArray)=>∃v,cs=[v]/\aH w w.heap.size 1 lV v xs):=eB underlying24 cStr (by decide) cSStr o_str
theorem o_prog:eQ enc prog w spare held 26 (eL w w.heap.size):=by
 intro r cs x h
 have hl:=fT underlying26 h
 refine⟨hl,?_⟩
 rw[cProg] at hl
 obtain⟨l,s,d,e⟩:=aS underlying26 h 0 _ rfl o_fns
 obtain⟨p,u,f,g⟩:=aS underlying26 h 1 _ rfl o_vals
 obtain⟨q,v,i,j⟩:=aS underlying26 h 2 _ rfl o_strs
 match cs,hl with
 | [c0,c1,c2],_=>
  simp only[List.getElem_toArray,List.getElem_cons_zero,List.getElem_cons_succ,cSFn,cSVal,cSStr,List.drop_zero,List.take_succ_cons,List.take_zero,List.drop_succ_cons,List.cons.injEq,and_true] at d f i
  subst d;subst f;subst i
  obtain⟨A,n,rfl,-⟩:=id e
  obtain⟨C,m,rfl,-⟩:=id g
  obtain⟨D,k,rfl,-⟩:=id j
  exact⟨⟨l,p,q⟩,A,n,C,m,D,k,rfl,e,g,j⟩
theorem open_prog {v:Value} {d:DataW H} {f:List MemPlace} {r:Reach} {g:Nat} (i:Value.okWide prog w r g 26 v) (h:DataW.Trod enc prog w 0 spare held 26 v d f):∃cs p,v=.agg ⟨cs⟩/\eL w w.heap.size cs p:=by obtain⟨cs,rfl,_⟩:=okWide_struct underlying26 i;obtain⟨e,hf⟩:=h;obtain⟨_,t,ht⟩:=o_prog _ _ _ hf;exact⟨cs.toList,t,rfl,ht⟩
end
theorem gTabType:(prog.globals[0]?).map (·.type)=some 243:=by kernel_rfl
theorem cellsT256:prog.cellsOf 243=256:=by kernel_rfl
theorem cellsU8:prog.cellsOf 5=1:=by kernel_rfl
noncomputable def laidWorld (os:Os):World:=
 let N:=(World.settled prog os).heap.size
 let w0:=World.holding prog os ⟨#[.cells (Lib.whiteT.map λ(z:Nat)=>Value.int .u16 (z:Int)).toArray 262,.cells #[.slice (some ⟨N,0,none⟩) 7 7,.slice none 0 0,.int .i64 2] 259],#[],[]⟩
 let put (h:Array Obj) (g:Nat) (cs:Array Value):Array Obj:=h.modify g fun
  | .cells _ t frozen=>.cells cs t frozen
  | o=>o
 { w0 with heap:=put (put w0.heap 0 (Lib.asciiSpaceTab.map λz=>Value.int .u8 z).toArray) 2 #[.pointer (some ⟨N+1,0,none⟩)] }
def nilProg:Value:=.agg #[.slice none 0 0,.slice none 0 0,.slice none 0 0]
def nilTrace:Value:=.agg #[.int .i64 0,.int .i64 0,.int .i64 0,.slice none 0 0,.slice none 0 0,.int .i64 0,.int .i64 0,.slice none 0 0,.slice none 0 0,.int .i64 0,.int .i64 0,.slice none 0 0,.slice none 0 0]
def nilProgD {H:Type} : DataW H:=.agg [.nil,.nil,.nil]
def vY {H:Type} : DataW H:=.agg [.lit (.int .i64 0),.lit (.int .i64 0),.nil,.nil]
def nilTraceD {H:Type} : DataW H:=.agg [.lit (.int .i64 0),.lit (.int .i64 0),.lit (.int .i64 0),.nil,.nil,vY,vY]
end
section
structure bZ where
 seen:List Bool
 out:List (List gM)
 todo:List Int
 bad:Bool
def dW (s:bZ) (at_:Int) (l:List gM):bZ:=
 if(s.seen.length:Int)<=at_\/20<l.length then { s with bad:=true }
 else if s.seen[at_.toNat]? = some false then { s with seen:=s.seen.set at_.toNat true,out:=s.out.set at_.toNat l,todo:=s.todo++[at_] }
 else if s.out[at_.toNat]? = some l then s else { s with bad:=true }
def oM (code:List fE) (s:bZ) (at_:Int):bZ:=
 match code[at_.toNat]?,s.out[at_.toNat]? with
 | some i,some l=>
  if i.op=28\/i.op=29 then s
  else if i.op=13\/i.op=14 then dW s i.a l
  else if i.op=15 then dW (dW s i.b l) (at_+1) l
  else if i.op=30 then dW (dW s i.b l) (at_+1) (l++[⟨i.a,i.b⟩])
  else if i.op=31 then(if l=[] then { s with bad:=true } else dW s (at_+1) l.dropLast)
  else dW s (at_+1) l
 | _,_=>s
def eM (s:bZ):Nat:=s.seen.count false+s.todo.length
def kX (s:bZ):bZ:={ s with todo:=s.todo.dropLast }
def nP (code:List fE):Nat->bZ->bZ
 | 0,s=>s
 | f+1,s=>if s.todo≠[]/\s.bad=false then nP code f (oM code (kX s) (s.todo.getLast?.getD 0)) else s
def jN (n:Nat):bZ:=dW ⟨List.replicate n false,List.replicate n [],[],false⟩ 0 []
def cY (code:List fE):bZ:=nP code (eM (jN code.length)) (jN code.length)
structure WOk (n:Nat) (s:bZ):Prop where
 seen:s.seen.length=n
 out:s.out.length=n
 todo:∀t∈s.todo,0<=t/\t<n
 few:∀l∈s.out,l.length<=20
 small:eM s<=n
 wf:∀l∈s.out,∀x∈l,(-9223372036854775808<=x.reg/\x.reg<=9223372036854775807)/\(-9223372036854775808<=x.at_/\x.at_<=9223372036854775807)
theorem count_set (l:List Bool) (i:Nat) (h:l[i]? = some false):(l.set i true).count false+1=l.count false:=by
 have hl:i<l.length:=(lE h).1;have d:=List.count_pos_iff.2 (lM h);rw[List.count_set hl];have e:l[i]=false:=by rw[lG hl] at h;injection h
 simp[e];omega
theorem tL (s:bZ) (at_:Int) (l:List gM):eM (dW s at_ l)=eM s:=by
 unfold dW;split;·rfl
 ·split;·rename_i h;have:=count_set _ _ h;simp only[eM,List.length_append,List.length_singleton];omega
  ·split <;> rfl
abbrev TryWf (l:List gM):Prop:=∀x∈l,(-9223372036854775808<=x.reg/\x.reg<=9223372036854775807)/\(-9223372036854775808<=x.at_/\x.at_<=9223372036854775807)
theorem WOk.come {n:Nat} {s:bZ} (h:WOk n s) {at_:Int} (p:0<=at_) {l:List gM} (hl:TryWf l):WOk n (dW s at_ l):=by
 have f:=tL s at_ l;have e:eM (dW s at_ l)<=n:=by rw[f];exact h.small
 unfold dW at e ⊢;split;·exact⟨h.seen,h.out,h.todo,h.few,h.small,h.wf⟩
 ·rename_i g;rw[if_neg g] at e;split
  ·rename_i i;rw[if_pos i] at e;have j:¬(s.seen.length:Int)<=at_/\¬ 20<l.length:=(by omega);have:=h.seen;refine⟨by simp[h.seen],by simp[h.out],λt ht=>?_,λm d=>?_,e,λm d=>?_⟩
   ·rcases List.mem_append.1 ht with ht | ht;·exact h.todo t ht
    ·simp at ht;subst ht;omega
   ·rcases List.mem_or_eq_of_mem_set d with d | rfl;·exact h.few m d
    ·omega
   ·rcases List.mem_or_eq_of_mem_set d with d | rfl;·exact h.wf m d
    ·exact hl
  ·split;·exact h
   ·exact⟨h.seen,h.out,h.todo,h.few,h.small,h.wf⟩
def iP (code:List fE):Prop:=∀i∈code,((i.op=13\/i.op=14)->0<=i.a/\i.a<=9223372036854775807)/\((i.op=15\/i.op=30)->0<=i.b/\i.b<=9223372036854775807)/\(-9223372036854775808<=i.a/\i.a<=9223372036854775807)
theorem pH (code:List fE) (s:bZ) (at_:Int):eM (oM code s at_)=eM s:=by
 unfold oM;split
 ·repeat' split
  all_goals first | rfl | (simp only[tL])
 ·rfl
theorem WOk.from_ {n:Nat} {s:bZ} (h:WOk n s) {code:List fE} (m:iP code) {at_:Int} (q:0<=at_):WOk n (oM code s at_):=by
 unfold oM;split
 ·rename_i i l hi p;have e:=lM hi;have hl:TryWf l:=h.wf l (lM p);obtain⟨g,d,j⟩:=m i e;repeat' split
  ·exact h
  ·exact h.come (g (by assumption)).1 hl
  ·exact(h.come (d (.inl (by assumption))).1 hl).come (by omega) hl
  ·have f:=d (.inr (by assumption));refine(h.come f.1 hl).come (by omega) (λx hx=>?_);rcases List.mem_append.1 hx with hx | hx;·exact hl x hx
   ·simp at hx;subst hx;exact⟨j,by dsimp only;omega⟩
  ·exact⟨h.seen,h.out,h.todo,h.few,h.small,h.wf⟩
  ·exact h.come (by omega) (λx hx=>hl x (List.dropLast_subset l hx))
  ·exact h.come (by omega) hl
 ·exact h
theorem WOk.pop {n:Nat} {s:bZ} (h:WOk n s):WOk n (kX s):= ⟨h.seen,h.out,λt ht=>h.todo t (List.dropLast_subset _ ht),h.few,by have:=h.small;simp only[eM,kX,List.length_dropLast] at *;omega,h.wf⟩
theorem acN {s:bZ} (h:s.todo≠[]):eM (kX s)+1=eM s:=by have:0<s.todo.length:=List.length_pos_iff.2 h;simp only[eM,kX,List.length_dropLast];omega
theorem vS {code:List fE} {s:bZ} {t:Int} (h:s.todo.getLast? = some t) (hb:s.bad=false):nP code (eM s) s=nP code (eM (oM code (kX s) t)) (oM code (kX s) t):=by
 have d:s.todo≠[]:=by intro e;rw[e] at h;cases h
 rw[pH,<-acN d];show(if s.todo≠[]/\s.bad=false then _ else _)=_;rw[if_pos ⟨d,hb⟩,h];rfl
theorem yW {code:List fE} {s:bZ} (h:s.todo=[]\/s.bad=true) (f:Nat):nP code f s=s:=by
 cases f with
 | zero=>rfl
 | succ f=>
  unfold nP
  rw[if_neg]
  rcases h with h | h <;> simp[h]
theorem o6 (n:Nat):WOk n (jN n):=by refine WOk.come ⟨by simp,by simp,by simp,by simp,by simp[eM],by simp⟩ (Int.le_refl _) (by intro x d;cases d)
def dF (p:aW) (f:CFn):Bool:=
 !(decide (f.params<0) || decide (f.regs<1) || decide (f.regs<f.params)) && (f.code.zipIdx.all λx=>gJ p f x.2 x.1) && !(cY f.code).bad
theorem y9 {p:aW} {f:CFn} {n:Int} (h:cD p f 97 n=true):0<=n/\n<f.code.length:=by have:aK n 0 ((f.code.length:Int) - 1)=true:=h;rw[eS] at this;omega
theorem qA {p:aW} {f:CFn} {at_:Int} {i:fE} (h:gJ p f at_ i=true):((i.op=13\/i.op=14)->0<=i.a/\i.a<f.code.length)/\((i.op=15\/i.op=30)->0<=i.b/\i.b<f.code.length):=by
 unfold gJ at h;simp only[Bool.and_eq_true] at h;have d:=h.1;unfold mI at d;split at d
 ·rename_i x y z hf;simp only[Bool.and_eq_true] at d;refine⟨λho=>?_,λho=>?_⟩
  ·have:kB i.op=[97,45,45]:=by rcases ho with ho | ho <;> rw[ho] <;> decide
   rw[this] at hf;injection hf with g
   exact y9 (by rw[g];exact d.1.1.2)
  ·have:kB i.op=[114,97,45]:=by rcases ho with ho | ho <;> rw[ho] <;> decide
   rw[this] at hf;injection hf with g e
   injection e with e
   exact y9 (by rw[e];exact d.1.2)
 ·cases d
def lB (p:aW):Bool:=
 decide (60<p.fns.length) || decide (200<p.consts.length) || decide (200<p.texts.length) || p.texts.any (λt=>decide (200<t.size)) || p.fns.any (λf=>decide (600<f.code.length) || decide (60<f.regs))
end
section
open Go.RowKit
theorem gE {α : Type} {f : α->List Value} {n:Nat} : ∀(xs:List α),(∀x∈xs,(f x).length=n)->(xs.flatMap f).length=xs.length*n
 | [],_=>by simp
 | x::xs,hf=>by
  have d:=hf x (by simp)
  have e:=gE xs (λy g=>hf y (by simp[g]))
  simp[d,e,Nat.add_mul];omega
theorem rZ {α : Type} {f : α->List Value} {n:Nat} : ∀(xs:List α),(∀x∈xs,(f x).length=n)->∀(i:Nat) (x : α),xs[i]? = some x->∀j,j<n->(xs.flatMap f)[i*n+j]? = (f x)[j]?
 | [],_,i,x,h,_,_=>by simp at h
 | y::xs,hf,0,x,h,j,hj=>by
  simp at h;subst h
  simp only[List.flatMap_cons,Nat.zero_mul,Nat.zero_add]
  rw[List.getElem?_append_left (by rw[hf _ (by simp)];exact hj)]
 | y::xs,hf,i+1,x,h,j,hj=>by
  simp only[List.flatMap_cons]
  rw[List.getElem?_append_right (by rw[hf y (by simp),Nat.add_mul];omega),hf y (by simp)]
  have e:(i+1)*n+j - n=i*n+j:=by rw[Nat.add_mul];omega
  rw[e]
  exact rZ xs (λz d=>hf z (by simp[d])) i x (by simpa using h) j hj
theorem flat_at {α : Type} {f : α->List Value} {n:Nat} (d:0<n) (xs:List α) (hf:∀x∈xs,(f x).length=n) (j:Nat) (u:Value) (h:(xs.flatMap f)[j]? = some u) : ∃x,xs[j / n]? = some x/\(f x)[j % n]? = some u:=by
 have hl:j<xs.length*n:=by rw[<-gE xs hf];exact(lE h).1
 have hi:j / n<xs.length:=(Nat.div_lt_iff_lt_mul d).2 hl;refine⟨xs[j / n],lG hi,?_⟩;have:=rZ xs hf (j / n) _ (lG hi) (j % n) (Nat.mod_lt _ d);rw[<-this,Nat.div_add_mod' j n];exact h
def bI {α : Type} (w:World) (B:Nat) (ty:TypeId) (size:Nat) (R:List Value->α->Prop) (v:Value) (xs:List α):Prop:=
 ∃A cap,v=.slice A xs.length cap/\xs.length<=cap/\cap<=maxLen/\
  (0<xs.length->∃b off cs fr,A=some ⟨b,off,none⟩/\B<=b/\w.heap[b]? = some (.cells cs ty fr)/\∀i x,xs[i]? = some x->∃c,c.length=size/\R c x/\∀j u,c[j]? = some u->cs[off+i*size+j]? = some u)
theorem bI.slice {α : Type} {w:World} {B:Nat} {g:TypeId} {size:Nat} {R:List Value->α->Prop} {v:Value} {xs:List α} (h:bI w B g size R v xs):aH w w.heap.size size R v xs:=by obtain⟨A,d,l,m,p,q⟩:=h;refine⟨A,d,l,m,p,λE=>?_⟩;obtain⟨b,e,cs,r,s,G,f,y⟩:=q E;refine⟨b,e,s,(aE f).1,λi x hi=>?_⟩;obtain⟨c,z,C,D⟩:=y i x hi;exact⟨c,z,C,λj u F=>by rw[cell_of_row w b _ cs g r f];exact D j u F⟩
theorem bI.keep {α : Type} {w w':World} {B:Nat} {e:TypeId} {size:Nat} {R m:List Value->α->Prop} {v:Value} {xs:List α} (h:bI w B e size R v xs) (F:∀k cs d,B<=k->w.heap[k]? = some (.cells cs e d)->w'.heap[k]? = w.heap[k]?) (G:∀cs x,R cs x->m cs x):bI w' B e size m v xs:=by obtain⟨A,f,p,q,r,s⟩:=h;refine⟨A,f,p,q,r,λE=>?_⟩;obtain⟨b,g,cs,d,u,j,l,y⟩:=s E;exact⟨b,g,cs,d,u,j,(F b cs d j l).trans l,λi x hi=>by obtain⟨c,z,C,D⟩:=y i x hi;exact⟨c,z,G c x C,D⟩⟩
theorem bI.below {α : Type} {w w':World} {B:Nat} {d:TypeId} {size:Nat} {R:List Value->α->Prop} {v:Value} {xs:List α} (h:bI w B d size R v xs) (hb:Below w.heap.size w w'):bI w' B d size R v xs:= h.keep (λk cs f _ e=>hb.block k (aE e).1) (λ_ _ h=>h)
theorem bI.more {α : Type} {w:World} {B B':Nat} {f:TypeId} {size:Nat} {R:List Value->α->Prop} {v:Value} {xs:List α} (h:bI w B f size R v xs) (hB:B'<=B):bI w B' f size R v xs:=by obtain⟨A,d,g,i,j,l⟩:=h;refine⟨A,d,g,i,j,λs=>?_⟩;obtain⟨b,e,cs,m,p,q,r⟩:=l s;exact⟨b,e,cs,m,p,Nat.le_trans hB q,r⟩
theorem bI.nil {α : Type} (w:World) (B:Nat) (d:TypeId) (size:Nat) (R:List Value->α->Prop):bI w B d size R (.slice none 0 0) []:=⟨none,0,rfl,Nat.le_refl _,by decide,by simp⟩
theorem bI.take {α : Type} {w:World} {B:Nat} {f:TypeId} {size:Nat} {R:List Value->α->Prop} {A:Option Addr} {n d k:Nat} {xs:List α} (h:bI w B f size R (.slice A n d) xs) (F:k<=n) : bI w B f size R (.slice A k d) (xs.take k):=by
 obtain⟨C,g,j,D,l,m⟩:=h;injection j with v y z
 subst v;subst y;subst z;have hl:(xs.take k).length=k:=by simp;omega
 refine⟨A,d,by rw[hl],by omega,l,λE=>?_⟩;obtain⟨b,e,cs,p,q,r,s,u⟩:=m (by omega);refine⟨b,e,cs,p,q,r,s,λi x hi=>u i x ?_⟩;rw[List.getElem?_take] at hi;split at hi;·exact hi
 ·cases hi
theorem qZ {α : Type} {w:World} {base:Nat} {m:TypeId} {size:Nat} {R:List Value->α->Prop} {f : α->List Value} {v:Value} {xs:List α} (E:0<size) (hf:∀x∈xs,(f x).length=size) (r:∀x∈xs,R (f x) x) (h:w.ownsRow base m size v xs.length (xs.flatMap f)):bI w base m size R v xs:=by
 rcases h.2 with ⟨rfl,s⟩ | ⟨g,p,q,rfl,hb,y,z,A,G,C⟩;·have:xs=[]:=List.length_eq_zero_iff.1 s;subst this;exact bI.nil _ _ _ _ _
 ·refine⟨_,p,rfl,z,A,λF=>⟨g,0,q,(0,0),rfl,hb,y,λi x hi=>⟨f x,hf x (lM hi),r x (lM hi),λj u l=>?_⟩⟩⟩;have d:j<size:=by rw[<-hf x (lM hi)];exact(lE l).1
  have D:i<xs.length:=(lE hi).1;have e:=rZ xs hf i x hi j d;rw[<-C,List.getElem?_take,if_pos (by have:(i+1)*size<=xs.length*size:=Nat.mul_le_mul_right _ (by omega);rw[Nat.add_mul] at this;omega)] at e;rw[Nat.zero_add,<-Array.getElem?_toList,e];exact l
theorem dQ {α : Type} {w:World} {B size:Nat} {R:List Value->α->Prop} {f : α->List Value} {b g n m:Nat} {xs:List α} (p:0<size) (hf:∀x∈xs,(f x).length=size) (z:∀cs x,R cs x->cs=f x) (h:aH w B size R (.slice (some ⟨b,g,none⟩) n m) xs):∀j u,(xs.flatMap f)[j]? = some u->w.cell? ((⟨b,g,none⟩:Addr).add j)=some u:=by
 intro j u v;obtain⟨x,i,q⟩:=flat_at p xs hf j u v;have hl:j / size<xs.length:=(lE i).1;obtain⟨E,r,y,cs,e,_,d,_,s,l⟩:=h.at_ hl;injection e with e
 injection e with A C
 subst A;subst C;rw[i] at d;injection d with d
 subst d;have:=l (j % size) u (by rw[z cs x s];exact q);rw[Nat.add_assoc,Nat.div_add_mod' j size] at this;rw[Addr.add];split;·rename_i D;subst D;simpa using this
 ·exact this
theorem gO {α : Type} {f : α->List Value} (xs:List α) (hf:∀x∈xs,∀u∈f x,u.oneCell'=true):∀u∈xs.flatMap f,u.oneCell'=true:=by intro u g;obtain⟨x,d,e⟩:=List.mem_flatMap.1 g;exact hf x d u e
def Raw (size:Nat) (c x:List Value):Prop:=c=x/\x.length=size
theorem aH.raw {α : Type} {w:World} {B size:Nat} {R:List Value->α->Prop} {v:Value} {xs:List α} (h:aH w B size R v xs) : ∃rows:List (List Value),rows.length=xs.length/\aH w B size (Raw size) v rows/\∀(i:Nat) x,xs[i]? = some x->∃c,rows[i]? = some c/\R c x:=by
 obtain⟨A,l,r,z,s,C⟩:=h;by_cases G:0<xs.length
 ·obtain⟨b,m,D,E,F⟩:=C G;obtain⟨rows,g,u⟩:=mL (len:=xs.length) (p:=λi (c:List Value)=>∀x,xs[i]? = some x->c.length=size/\R c x/\hJ w b (m+i*size) c) (λi hi=>by obtain⟨c,j,y,q⟩:=F i _ (lG hi);exact⟨c,λx d=>by rw[lG hi] at d;injection d with d;subst d;exact⟨j,y,q⟩⟩);refine⟨rows,g,⟨A,l,by rw[r,g],by omega,s,λ_=>⟨b,m,D,E,λi c f=>?_⟩⟩,λi x d=>?_⟩;·have hi:i<xs.length:=(by rw[<-g];exact(lE f).1);obtain⟨j,y,q⟩:=u i c f _ (lG hi);exact⟨c,j,⟨rfl,j⟩,q⟩
  ·have hi:i<rows.length:=(by rw[g];exact(lE d).1);have f:=lG hi;exact⟨_,f,(u i _ f x d).2.1⟩
 ·have e:xs=[]:=List.length_eq_zero_iff.1 (by omega);subst e;exact⟨[],rfl,⟨A,l,r,z,s,by simp⟩,by simp⟩
end
section
open Go.RowKit
theorem aH.mem {α : Type} {w:World} {B size:Nat} {R:List Value->α->Prop} {v:Value} {xs:List α} (h:aH w B size R v xs) {x : α} (g:x∈xs):∃cs,R cs x:=by obtain⟨A,j,m,p,q,d⟩:=h;obtain⟨i,hi⟩:=List.getElem?_of_mem g;obtain⟨b,l,_,_,e⟩:=d (by have:=(lE hi).1;omega);obtain⟨cs,_,f,_⟩:=e i x hi;exact⟨cs,f⟩
theorem gN (w:World) (e:TypeId) (size:Nat):(w.alloc (.cells #[] e)).ownsRow w.heap.size e size (.slice (some ⟨w.heap.size,0,none⟩) 0 0) 0 []:= ⟨by simp,.inr ⟨w.heap.size,0,#[],rfl,Nat.le_refl _,heap_alloc_new w _,Nat.le_refl _,by unfold maxLen;omega,by simp,by simp⟩⟩
theorem rQ:(prog.info? 96).map (λi=>(i.zero.map (·.cells.size),i.size,i.bytes))=some (some 2,2,16):=by kernel_rfl
theorem uA (v:Value) (rows:List (List Value)) (w:World) (p:aH w w.heap.size 2 (Raw 2) v rows) (D:∀r∈rows,∀u∈r,u.oneCell'=true) (E:rows.length*16<=140737488355328) : Calls prog 63 #[v] w λe w'=>∃u,e=.returned u/\w'.ownsRow w.heap.size 96 2 u rows.length (rows.flatMap id)/\Below w.heap.size w w':=by
 have d:∀x∈rows,x.length=2:=λx hx=>by obtain⟨cs,_,h⟩:=p.mem hx;exact h
 obtain⟨A,l,rfl,a2,a3,i⟩:=id p;cases A with
 | none=>
  have e:rows=[]:=by
   rcases Nat.eq_zero_or_pos rows.length with h | h
   ·exact List.length_eq_zero_iff.1 h
   ·obtain⟨b,I,h,_⟩:=i h;cases h
  subst e
  have M:∀W,(binOp .eql 59 (.slice none 0 l) (.slice none 0 0)).run prog W=.ok (.bool true) W:=λW=>Lib.run_eql_slice_nil W _ _ _ _ _ _ _ underlying59
  clear i p d D
  simp only[List.length_nil] at *
  go_enter func63,ntmps63
  go_wp2_with fail
  go_ret
  exact⟨_,rfl,World.ownsRow_nil _ _ _ _,Below.refl _ _⟩
 | some ad=>
  have M:∀W,(binOp .eql 59 (.slice (some ad) rows.length l) (.slice none 0 0)).run prog W=.ok (.bool false) W:=λW=>Lib.run_eql_slice_nil W _ _ _ _ _ _ _ underlying59
  have g:∀j u,(rows.flatMap id)[j]? = some u->w.cell? (ad.add j)=some u:=by
   rcases Nat.eq_zero_or_pos rows.length with h | h
   ·have e:rows=[]:=List.length_eq_zero_iff.1 h
    subst e;simp
   ·obtain⟨b,I,h,_⟩:=i h
    injection h with h
    subst h
    exact dQ (by decide) d (λcs x h=>h.1) p
  obtain⟨Z,hi,J⟩:=Option.map_eq_some_iff.1 rQ
  simp only[Prod.mk.injEq] at J
  obtain⟨K,q,s⟩:=J
  obtain⟨z,y,C⟩:=Option.map_eq_some_iff.1 K
  have N:=hI g
  have O:=hI hi
  have P:=hI y
  have F:=hI q
  have G:=hI s
  have H:=hI C
  have hl:rows.length<=maxLen:=by unfold maxLen;omega
  have R:=hI hl
  have HR:=hI d
  have S:=hI (gO (f:=id) rows D)
  have V:=hI (gE (f:=id) rows d)
  clear g hi y q s C K hl d D p i
  go_enter func63,ntmps63
  go_wp2_with (at_builtin;refine wpList_append_own _ rfl _ _ 59 rfl w.heap.size 96 Z z 2 16 underlying59 O.o P.o F.o G.o H.o (by decide) (.slice (some ⟨w.heap.size,0,none⟩) 0 0) 0 [] rfl (gN _ _ _) ad rows.length l (rows.flatMap id) rfl V.o (λj u hj=>iM (N.o j u hj) _) S.o (by rw[Nat.zero_add];exact R.o) (by rw[Nat.zero_add];exact E) (by simp) ?_)
  intro v' w6 m L _
  have X:=hI L
  have Y:=hI m
  clear L m
  go_wp2_with fail
  go_ret
  refine⟨_,rfl,by simpa using Y.o,Below.grown (aB w _) X.o (by simp) (by simp[Value.ownBlock])⟩
end
section
open Go.RowKit
theorem uY:(prog.info? 246).map (·.size)=some 39:=by kernel_rfl
theorem pK:((j9.map λl=>Value.string ⟨l.toArray⟩).toArray).all (·.oneCell')=true:=by kernel_rfl
theorem jF (w:World) (o:Obj) (C:Array Value):Below w.heap.size w ((w.alloc o).setRow w.heap.size C):=by refine(aB w o).trans ⟨rfl,rfl,rfl,by simp[World.setRow],λk d=>?_⟩;simp only[World.setRow,Array.getElem?_modify];rw[if_neg (by omega)]
theorem xF (w:World) (c C:Array Value) (t:TypeId):((w.alloc (.cells c t)).setRow w.heap.size C).heap[w.heap.size]? = some (.cells C t (0,0)):=by simp only[World.setRow,Array.getElem?_modify,if_true];rw[heap_alloc_new];rfl
theorem pL (op:Int) (w:World):Calls prog 155 #[.int .i64 op] w (aM (.string ⟨(kB op).toArray⟩) w):=by
 obtain⟨s,j⟩:∃s:ByteArray,(⟨(kB op).toArray⟩:ByteArray)=s:=⟨_,rfl⟩;rw[j];by_cases h:op<1\/39<=op
 ·have m:(⟨#[]⟩:ByteArray)=s:=by rw[<-j];simp[kB,h]
  subst m;clear j;rcases h with h | h
  ·go_enter func155,ntmps155;go_wp2_with (first
    | (refine wpList_build rfl 246 _ rfl (by kernel_rfl) ?_;generalize g:Option.getD _ _=C;have e:C=(j9.map λl=>Value.string ⟨l.toArray⟩).toArray:=(by rw[<-g];kernel_rfl);have f:=hI e;clear g e)
    | (refine wpList_store_row rfl 246 _ _ rfl w.heap.size C rfl rfl 246 _ (heap_alloc_new _ _) (by rw[f.o];exact uY) (by rw[f.o];rfl) (by rw[f.o];exact pK) ?_;generalize d:World.setRow _ _ _=w1;have i:Hid (Below w.heap.size w w1):=(by rw[<-d];exact jF _ _ _);clear d))
   go_ret;exact⟨rfl,i.o⟩
  ·have y:¬op<1:=(by omega);go_enter func155,ntmps155;go_wp2_with (first
    | (refine wpList_build rfl 246 _ rfl (by kernel_rfl) ?_;generalize g:Option.getD _ _=C;have e:C=(j9.map λl=>Value.string ⟨l.toArray⟩).toArray:=(by rw[<-g];kernel_rfl);have f:=hI e;clear g e)
    | (refine wpList_store_row rfl 246 _ _ rfl w.heap.size C rfl rfl 246 _ (heap_alloc_new _ _) (by rw[f.o];exact uY) (by rw[f.o];rfl) (by rw[f.o];exact pK) ?_;generalize d:World.setRow _ _ _=w1;have i:Hid (Below w.heap.size w w1):=(by rw[<-d];exact jF _ _ _);clear d))
   go_ret;exact⟨rfl,i.o⟩
 ·obtain⟨n,rfl⟩:∃n:Nat,op=n:=⟨op.toNat,by omega⟩;have p:n<39:=by omega
  have u:¬(n:Int)<1:=by omega
  have v:¬ 39<=(n:Int):=by omega
  have x:(n:Int)<39:=by omega
  have r:Hid ((j9.map λl=>Value.string ⟨l.toArray⟩).toArray[n]? = some (.string s)):=by show _=_;rw[List.getElem?_toArray,List.getElem?_map,lG (show n<j9.length from p),<-j];unfold kB;rw[if_neg (by omega),Int.toNat_natCast,List.getD_eq_getElem?_getD,lG (show n<j9.length from p)];rfl
  clear h j;go_enter func155,ntmps155;go_wp2_with (first
   | (refine wpList_build rfl 246 _ rfl (by kernel_rfl) ?_;generalize g:Option.getD _ _=C;have e:C=(j9.map λl=>Value.string ⟨l.toArray⟩).toArray:=(by rw[<-g];kernel_rfl);have f:=hI e;clear g e)
   | (refine wpList_store_row rfl 246 _ _ rfl w.heap.size C rfl rfl 246 _ (heap_alloc_new _ _) (by rw[f.o];exact uY) (by rw[f.o];rfl) (by rw[f.o];exact pK) ?_;generalize d:World.setRow _ _ _=w1;have i:Hid (Below w.heap.size w w1):=(by rw[<-d];exact jF _ _ _);have q:w1.cell? ⟨w.heap.size,n,none⟩=some (.string s):=(by rw[<-d,cell_of_row _ _ _ _ _ _ (xF _ _ _ _),f.o];exact r.o);clear d))
  go_ret;exact⟨rfl,i.o⟩
end
section
open Go.RowKit
theorem aaX (cs:List Value) (p:aW) (f:CFn) (n:Int) (w:World) (h:fC w w.heap.size cs p f) (r:1<=f.regs) : Calls prog 157 #[.agg ⟨cs⟩,.int .u8 114,.int .i64 n] w (aM (.bool (uO f n)) w):=by have m:=hI h;obtain⟨z,A,rfl,⟨C,D,E,F,G,H,rfl,d,g,i⟩,⟨I,J,K,L,rfl,q1,j,w1,M⟩⟩:=h;have s:=aP d;have u:=aP g;have v:=aP i;have x:=aP q1;have y:=aP j;clear d g i q1 j;go_enter func157,ntmps157;go_wp2_with fail;refine(xO _ p f n _ (m.o.keep (by simp) (λ_ h=>(aB w _).cell h)) r).mono ?_;rintro e w1 ⟨rfl,l⟩;have q:=hI ((aB w _).trans (l.mono (by simp)));clear l;go_wp2_with fail;go_ret;exact⟨rfl,q.o⟩
theorem aa0 (cs:List Value) (p:aW) (f:CFn) (n:Int) (w:World) (h:fC w w.heap.size cs p f) (J:1<=f.regs) : Calls prog 157 #[.agg ⟨cs⟩,.int .u8 107,.int .i64 n] w (aM (.bool (aK n 0 ((p.consts.length:Int) - 1))) w):=by obtain⟨u,v,rfl,⟨x,y,z,A,C,D,rfl,d,g,i⟩,⟨E,F,G,H,rfl,q1,j,w1,I⟩⟩:=h;have l:=aP d;have m:=aP g;have q:=aP i;have r:=aP q1;have s:=aP j;clear d g i q1 j;go_enter func157,ntmps157;go_wp2_with fail;refine(dR _ _ _ _).mono ?_;rintro e w' ⟨rfl,rfl⟩;go_wp2_with fail;go_ret;exact⟨rfl,aB w _⟩
theorem aaW (cs:List Value) (p:aW) (f:CFn) (n:Int) (w:World) (h:fC w w.heap.size cs p f) (M:1<=f.regs) : Calls prog 157 #[.agg ⟨cs⟩,.int .u8 116,.int .i64 n] w (aM (.bool (aK n 0 ((p.texts.length:Int) - 1))) w):=by have m:=hI h;obtain⟨y,z,rfl,⟨A,C,D,E,F,G,rfl,d,g,i⟩,⟨H,I,J,K,rfl,q1,j,w1,L⟩⟩:=h;have r:=aP d;have s:=aP g;have u:=aP i;have v:=aP q1;have x:=aP j;clear d g i q1 j;go_enter func157,ntmps157;go_wp2_with fail;refine(ltext_c _ p f n _ (m.o.keep (by simp) (λ_ h=>(aB w _).cell h))).mono ?_;rintro e w1 ⟨rfl,l⟩;have q:=hI ((aB w _).trans (l.mono (by simp)));clear l;go_wp2_with fail;go_ret;exact⟨rfl,q.o⟩
theorem acK (cs:List Value) (p:aW) (f:CFn) (n:Int) (w:World) (h:fC w w.heap.size cs p f) (M:1<=f.regs) : Calls prog 157 #[.agg ⟨cs⟩,.int .u8 97,.int .i64 n] w (aM (.bool (aK n 0 ((f.code.length:Int) - 1))) w):=by have m:=hI h;obtain⟨y,z,rfl,⟨A,C,D,E,F,G,rfl,d,g,i⟩,⟨H,I,J,K,rfl,q1,j,w1,L⟩⟩:=h;have r:=aP d;have s:=aP g;have u:=aP i;have v:=aP q1;have x:=aP j;clear d g i q1 j;go_enter func157,ntmps157;go_wp2_with fail;refine(lat_c _ p f n _ (m.o.keep (by simp) (λ_ h=>(aB w _).cell h))).mono ?_;rintro e w1 ⟨rfl,l⟩;have q:=hI ((aB w _).trans (l.mono (by simp)));clear l;go_wp2_with fail;go_ret;exact⟨rfl,q.o⟩
theorem aaV (cs:List Value) (p:aW) (f:CFn) (n:Int) (w:World) (h:fC w w.heap.size cs p f) (J:1<=f.regs) : Calls prog 157 #[.agg ⟨cs⟩,.int .u8 117,.int .i64 n] w (aM (.bool (aK n 0 ((f.caught.length:Int) - 1))) w):=by obtain⟨u,v,rfl,⟨x,y,z,A,C,D,rfl,d,g,i⟩,⟨E,F,G,H,rfl,q1,j,w1,I⟩⟩:=h;have l:=aP d;have m:=aP g;have q:=aP i;have r:=aP q1;have s:=aP j;clear d g i q1 j;go_enter func157,ntmps157;go_wp2_with fail;refine(dR _ _ _ _).mono ?_;rintro e w' ⟨rfl,rfl⟩;go_wp2_with fail;go_ret;exact⟨rfl,aB w _⟩
theorem aa1 (cs:List Value) (p:aW) (f:CFn) (n:Int) (w:World) (h:fC w w.heap.size cs p f) (J:1<=f.regs) : Calls prog 157 #[.agg ⟨cs⟩,.int .u8 102,.int .i64 n] w (aM (.bool (aK n 1 ((p.fns.length:Int) - 1))) w):=by obtain⟨u,v,rfl,⟨x,y,z,A,C,D,rfl,d,g,i⟩,⟨E,F,G,H,rfl,q1,j,w1,I⟩⟩:=h;have l:=aP d;have m:=aP g;have q:=aP i;have r:=aP q1;have s:=aP j;clear d g i q1 j;go_enter func157,ntmps157;go_wp2_with fail;refine(dR _ _ _ _).mono ?_;rintro e w' ⟨rfl,rfl⟩;go_wp2_with fail;go_ret;exact⟨rfl,aB w _⟩
theorem aaZ (cs:List Value) (p:aW) (f:CFn) (n:Int) (w:World) (h:fC w w.heap.size cs p f) (J:1<=f.regs) : Calls prog 157 #[.agg ⟨cs⟩,.int .u8 108,.int .i64 n] w (aM (.bool (aK n 0 f.regs)) w):=by obtain⟨u,v,rfl,⟨x,y,z,A,C,D,rfl,d,g,i⟩,⟨E,F,G,H,rfl,q1,j,w1,I⟩⟩:=h;have l:=aP d;have m:=aP g;have q:=aP i;have r:=aP q1;have s:=aP j;clear d g i q1 j;go_enter func157,ntmps157;go_wp2_with fail;refine(dR _ _ _ _).mono ?_;rintro e w' ⟨rfl,rfl⟩;go_wp2_with fail;go_ret;exact⟨rfl,aB w _⟩
theorem acJ (cs:List Value) (p:aW) (f:CFn) (n:Int) (w:World) (h:fC w w.heap.size cs p f) (J:1<=f.regs) : Calls prog 157 #[.agg ⟨cs⟩,.int .u8 99,.int .i64 n] w (aM (.bool (aK n 0 f.regs)) w):=by obtain⟨u,v,rfl,⟨x,y,z,A,C,D,rfl,d,g,i⟩,⟨E,F,G,H,rfl,q1,j,w1,I⟩⟩:=h;have l:=aP d;have m:=aP g;have q:=aP i;have r:=aP q1;have s:=aP j;clear d g i q1 j;go_enter func157,ntmps157;go_wp2_with fail;refine(dR _ _ _ _).mono ?_;rintro e w' ⟨rfl,rfl⟩;go_wp2_with fail;go_ret;exact⟨rfl,aB w _⟩
theorem aaY (cs:List Value) (p:aW) (f:CFn) (n:Int) (w:World) (h:fC w w.heap.size cs p f) (J:1<=f.regs) : Calls prog 157 #[.agg ⟨cs⟩,.int .u8 110,.int .i64 n] w (aM (.bool (aK n 0 f.regs)) w):=by obtain⟨u,v,rfl,⟨x,y,z,A,C,D,rfl,d,g,i⟩,⟨E,F,G,H,rfl,q1,j,w1,I⟩⟩:=h;have l:=aP d;have m:=aP g;have q:=aP i;have r:=aP q1;have s:=aP j;clear d g i q1 j;go_enter func157,ntmps157;go_wp2_with fail;refine(dR _ _ _ _).mono ?_;rintro e w' ⟨rfl,rfl⟩;go_wp2_with fail;go_ret;exact⟨rfl,aB w _⟩
theorem eX (cs:List Value) (p:aW) (f:CFn) (c:UInt8) (n:Int) (w:World) (h:fC w w.heap.size cs p f) (g:1<=f.regs) : Calls prog 157 #[.agg ⟨cs⟩,.int .u8 c.toNat,.int .i64 n] w (aM (.bool (cD p f c n)) w):=by
 by_cases i:c=114;·subst i;exact aaX cs p f n w h g
 by_cases j:c=107;·subst j;exact aa0 cs p f n w h g
 by_cases l:c=116;·subst l;exact aaW cs p f n w h g
 by_cases u:c=97;·subst u;exact acK cs p f n w h g
 by_cases m:c=117;·subst m;exact aaV cs p f n w h g
 by_cases q:c=102;·subst q;exact aa1 cs p f n w h g
 by_cases r:c=108;·subst r;exact aaZ cs p f n w h g
 by_cases v:c=99;·subst v;exact acJ cs p f n w h g
 by_cases s:c=110;·subst s;exact aaY cs p f n w h g
 have e:cD p f c n=(n == 0):=by unfold cD;rw[if_neg i,if_neg j,if_neg l,if_neg u,if_neg m,if_neg q,if_neg (by simp[r,v,s])]
 rw[e];clear e;have d:∀k:UInt8,c≠k->((c.toNat:Int) == (k.toNat:Int))=false:=λk F=>by simp only[beq_eq_false_iff_ne,ne_eq,Int.natCast_inj];exact λe=>F (UInt8.toNat_inj.1 e)
 have x:((c.toNat:Int) == 114)=false:=d 114 i;have y:((c.toNat:Int) == 107)=false:=d 107 j;have z:((c.toNat:Int) == 116)=false:=d 116 l;have G:((c.toNat:Int) == 97)=false:=d 97 u;have A:((c.toNat:Int) == 117)=false:=d 117 m;have C:((c.toNat:Int) == 102)=false:=d 102 q;have D:((c.toNat:Int) == 108)=false:=d 108 r;have H:((c.toNat:Int) == 99)=false:=d 99 v;have E:((c.toNat:Int) == 110)=false:=d 110 s;clear d i j l u m q r v s;obtain⟨I,J,rfl,⟨K,L,M,N,O,P,rfl,-⟩,⟨R,S,V,W,rfl,-⟩⟩:=h;go_enter func157,ntmps157;go_wp2_with fail;go_ret;exact⟨rfl,aB w _⟩
end
section
open Go.RowKit
section
variable {P:Program} {ops:Array Oper} {md:Region.Mode} {C:World->Prop}
def oE (P:Program) (md:Region.Mode) (ops:Array Oper) (C:World->Prop) (n:Nat) (L:Array Bool->Act->Prop):Nat->Array Bool->Act->Prop
 | 0,listed,a=>L listed a
 | f+1,listed,a=>Region.ready md ops listed≠[]/\∀i∈Region.ready md ops listed,i<n/\qOp P ops C i (oE P md ops C n L f (listed.setIfInBounds i true)) a
theorem lY {n g:Nat} {L:Array Bool->Act->Prop} {Q':Exit->Act->World->Prop} (j:∀d a w,C w->L d a->wpAny P md ops Q' g d a w) :
  ∀(f:Nat) (d:Array Bool) (a:Act) (w:World),C w->oE P md ops C n L f d a->wpAny P md ops Q' (f+g) d a w
 | 0,d,a,w,hw,h=>by rw[Nat.zero_add];exact j _ _ _ hw h
 | f+1,d,a,w,hw,h=>by
  rw[show f+1+g=(f+g)+1 by omega]
  exact⟨λl=>absurd l h.1,λi hi=>wpOp_of_qOp hw (λm w' e p=>lY j f _ m w' e p) (h.2 i hi).2⟩
theorem sQ {n i:Nat} {w:Oper} {v:Value} {L:Array Bool->Act->Prop} (hi:ops[i]? = some w) (D:∀(j:Nat) (o:Oper) cs b,ops[j]? = some o->o.op≠.select cs b) (V:Region.sinkB md ops n=true) (W:Region.chainB md ops n=true) (X:n<ops.size) (I:i<n) (G:∀d a,L d a->∀j∈Region.ready md ops d,n<=j) : ∀(f:Nat) (d:Array Bool) (a:Act),HeadInv md ops n d-> (∀j p,ops[j]? = some p->j≠i->d.getD j true=false->(∀e∈p.after,Region.binds md e=true->e.on≠i)->w.apart ops p=true)-> i∈Region.ready md ops d->YieldsIn P ops C w v a-> oE P md ops C n L f (d.setIfInBounds i true) (a.put w.dst v)->oE P md ops C n L (f+1) d a:=by
 intro f;induction f with
 | zero=>
  intro d a s _ m F H
  have l:=(mem_ready.1 m).1
  refine⟨λh=>(by rw[h] at m;cases m),λj q=>?_⟩
  have r:j<n:=by
   rcases Nat.lt_or_ge j n with h | h
   ·exact h
   ·exact absurd q (tail_waits V W X s _ i rfl I l j h)
  refine⟨r,?_⟩
  by_cases g:j=i
  ·subst g;exact F.qOp hi H
  ·have:=G _ _ H j (ready_mono q g)
   omega
 | succ f ih=>
  intro d a s u m F H
  have l:=(mem_ready.1 m).1
  refine⟨λh=>(by rw[h] at m;cases m),λj q=>?_⟩
  have r:j<n:=by
   rcases Nat.lt_or_ge j n with h | h
   ·exact h
   ·exact absurd q (tail_waits V W X s _ i rfl I l j h)
  refine⟨r,?_⟩
  by_cases g:j=i
  ·subst g;exact F.qOp hi H
  ·have E:=(H.2 j (ready_mono q g)).2
   obtain⟨y,p,z,M⟩:=mem_ready.1 q
   have K:∀e∈p.after,Region.binds md e=true->e.on≠i:=λe Z hb N=>by
    have E:=M e Z hb
    rw[N,getD_both l] at E
    cases E
   have Y:=qOp_put z (u j p z g y K) (λcs b=>D i w cs b hi) (λcs b=>D j p cs b z) F E
   have x:∀k A,ops[k]? = some A->k≠i->(d.setIfInBounds j true).getD k true=false->
     (∀e∈A.after,Region.binds md e=true->e.on≠i)->w.apart ops A=true:=λk A hk O l R=>by
    refine u k A hk O ?_ R
    by_cases J:j=k
    ·subst J;exact y
    ·rw[getD_set_ne true J] at l;exact l
   refine qOp_mono (λa' S=>ih (d.setIfInBounds j true) a' (s.set q r) x (ready_mono m (Ne.symm g)) S.1 ?_) Y
   rw[Array.setIfInBounds_comm _ _ g]
   exact S.2
theorem pU {n g:Nat} {q:Act->Prop} (f:Region.noSelect ops=true) (w:Region.sinkB md ops n=true) (x:Region.chainB md ops n=true) (y:n<ops.size) :
  ∀(l:List Oper) (k:Nat) (d:Array Bool) (a:Act),(∀j,j<l.length->l[j]? = ops[k+j]?)->k+l.length=n->HeadInv md ops n d->
  Region.lexHead md ops g l.length k d=true->wpQuiet P ops C q l a->
  oE P md ops C n (λe u=>Region.seqB md ops g n e=true/\q u) l.length d a
 | [],k,d,a,_,hk,_,hB,h=>by
  have:k=n:=by simpa using hk
  subst this
  exact⟨by simpa [Region.lexHead] using hB,h⟩
 | o::l,k,d,a,hl,hk,inv,hB,h=>by
  have i:ops[k]? = some o:=by simpa using (hl 0 (by simp)).symm
  simp only[List.length_cons,Region.lexHead,Bool.and_eq_true] at hB
  obtain⟨⟨z,hf⟩,s⟩:=hB
  have m:k<n:=by simp only[List.length_cons] at hk;omega
  have p:k∈Region.ready md ops d:=by simpa using z
  have r:qOp P ops C k (wpQuiet P ops C q l) a:=by unfold qOp;simp only[i];exact h
  obtain⟨v,A,D⟩:=yieldsIn_of_qOp i r
  exact sQ i (Region.noSelect_spec f) w x y m (λe u E=>seqB_ready E.1) l.length d a inv (Region.free_spec i hf) p A
   (pU f w x y l (k+1) _ _ (λj F=>by have:=hl (j+1) (by simp;omega);simpa [Nat.add_assoc,Nat.add_comm 1 j] using this) (by simp only[List.length_cons] at hk;omega) (inv.set p m) s D)
theorem lX {id:Nat} {Q:Exit->Act->World->Prop} {a:Act} {w:World} {l:List Oper} (n:Nat) (u:P.follows .mixedOrders=true) (hB:Region.lexTailB .any l.toArray n=true) (v:C { w with drawn:=w.drawn+1 }) (h:wpQuiet P l.toArray C (λm=>∀w',C w'->wpList P l.toArray Q (l.drop n) m w') (l.take n) a):(Code.region id l.toArray true).wp P Q a w:=by
 simp only[Region.lexTailB,Bool.and_eq_true,decide_eq_true_eq] at hB;obtain⟨⟨⟨⟨hsel,hn⟩,hs⟩,hc⟩,hlex⟩:=hB;have x:n<l.length:=by simpa using hn
 have d:(l.take n).length=n:=by simp;omega
 have f:(l.drop n).length=l.toArray.size - n:=by simp
 have i:HeadInv .any l.toArray n (Array.replicate l.toArray.size false):= ⟨by simp,λj y _ hl=>(by rw[getD_replicate_false] at hl;cases hl),λt _ ht=>getD_in (by simpa using ht) (getD_replicate_false _ _)⟩;have H:=pU (md:=.any) (g:=l.toArray.size - n) hsel hs hc hn (l.take n) 0 _ a (λj q=>by
  have p:j<n:=by rw[d] at q;exact q
  simp[p]) (by simpa using d) i (by rw[d];exact hlex) h
 refine wp_region_any u ?_;have:=lY (Q':=Q) (g:=l.toArray.size - n) (λe m w' r s=>by have:=wpAny_of_seq (md:=.any) (Q':=Q) (l.drop n) n e m w' (λj=>by simp[List.getElem?_drop]) (by rw[f];exact s.1) (s.2 w' r);rwa [f] at this) _ _ _ _ v H;rw[d,show n+(l.toArray.size - n)=l.toArray.size by omega] at this;exact this
theorem aL {id:Nat} {Q:Exit->Act->World->Prop} {a:Act} {w:World} {l:List Oper} (n:Nat) (e:P.follows .mixedOrders=true) (hB:Region.lexTailB .any l.toArray n=true) (h:wpQuiet P l.toArray (λw'=>∃E:Up w,w'=E.to) (λd=>∀w',(∃E:Up w,w'=E.to)->wpList P l.toArray Q (l.drop n) d w') (l.take n) a):(Code.region id l.toArray true).wp P Q a w:= lX n e hB ⟨⟨_,(Below.refl _ w).drew⟩,rfl⟩ h
end
end
section
open Go.RowKit
def aA (w:World) (g:Nat) (cs:List Value):Prop:=∀i v,cs[i]? = some v->w.cell? ⟨g,i,none⟩=some v
theorem aA.on {w w':World} {g:Nat} {cs:List Value} (h:aA w g cs) (hb:Below w.heap.size w w'):aA w' g cs:=λi v d=>aC hb (h i v d)
theorem ad5 (w:World) (cs:List Value) (t:TypeId):aA (w.alloc (.cells ⟨cs⟩ t)) w.heap.size cs:=λi v d=>by
 rw[bL];simpa using d
theorem aA.old {w:World} {g:Nat} {cs:List Value} (h:aA w g cs) (o:Obj):aA (w.alloc o) g cs:=λi v d=>iM (h i v d) o
def oU (f:CFn) (c:Int):Bool:=!uO f c && !aK c (-(f.caught.length:Int)) (-1)
theorem abR (cs:List Value) (p:aW) (f:CFn) (g:Nat) (c:Int) (w:World) (h:fC w w.heap.size cs p f) (V:1<=f.regs) (d:aA w g cs) : Calls prog 181 #[.int .i64 c,.pointer (some ⟨g,0,none⟩)] w (aM (.bool (oU f c)) w):=by
 obtain⟨r,i⟩:∃r,oU f c=r:=⟨_,rfl⟩;rw[i];have x:=hI h;obtain⟨Z,fc,rfl,⟨F,G,H,I,J,K,rfl,L,M,N⟩,⟨u,v,O,P,rfl,q1,R,w1,w2⟩⟩:=h;have W:=aP q1;have X:=hI d;clear L M N q1 R;have y:=d 0 _ rfl;have z:=d 1 _ rfl;have A:=d 2 _ rfl;have C:=d 3 _ rfl;have c4:=d 4 _ rfl;have D:=d 5 _ rfl;have q:=d 6 _ rfl;have E:=d 7 _ rfl;clear d;go_enter func181,ntmps181;go_wp2_with fail;refine(xO _ p f c _ x.o V).mono ?_;rintro e S ⟨rfl,m⟩;have s:=hI m;have Y:S.cell? ⟨g,6,none⟩=some (.slice u f.caught.length v):=aC m q;clear m y z A C c4 D q E;cases j:uO f c
 ·have l:Hid (r = !aK c (-(f.caught.length:Int)) (-1)):=by rw[<-i];simp[oU,j,Hid]
  clear i j;go_wp2_with fail;refine(dR _ _ _ _).mono ?_;rintro e w' ⟨rfl,rfl⟩;go_wp2_with fail;go_ret;exact⟨by rw[l.o];rfl,s.o⟩
 ·have l:Hid (r=false):=by rw[<-i];simp[oU,j,Hid]
  clear i j;go_wp2_with fail;go_ret;exact⟨by rw[l.o];rfl,s.o⟩
theorem tB:∀d W,(callFunc 181 d).run prog W=.ok (.enter 181 d) W:=enters_of func181 (by kernel_rfl) rfl
theorem adV (cs l:List Value) (p:aW) (f g:CFn) (w:World) (h:fC w w.heap.size cs p f) (E:1<=f.regs) (F:FnR w w.heap.size l g) : Calls prog 159 #[.agg ⟨cs⟩,.agg ⟨l⟩] w (aM (.bool (qR f g)) w):=by
 obtain⟨d,i⟩:∃d,d=(w.alloc (.cells ⟨cs⟩ 191)).alloc (.cells ⟨l⟩ 99):=⟨_,rfl⟩;have j:Hid (Below w.heap.size w d):=by rw[i];exact bE w _ _
 have s:Hid (aA d w.heap.size cs):=by rw[i];exact(ad5 w cs _).old _
 have u:Hid (fC d d.heap.size cs p f):=h.keep j.o.size (λ_ h=>j.o.cell h);obtain⟨m,q,G,H,rfl,q1,C,w1,I⟩:=F;have v:Hid (aH d d.heap.size 1 hY (.slice m g.caught.length q) g.caught):=q1.keep j.o.size (λ_ h=>j.o.cell h) (λ_ _ h=>h);obtain⟨J,K,rfl,⟨L,M,N,O,P,R,rfl,-⟩,⟨S,V,W,X,rfl,-⟩⟩:=h;simp only[List.cons_append,List.nil_append] at i;have y:=hI i;have z:=hI (oO hY (oU f) m q g.caught 181 tB #[.pointer (some ⟨w.heap.size,0,none⟩)] d v.o (λw1 k x cs Z D=>by obtain⟨rfl,-⟩:=D;exact abR _ p f w.heap.size x w1 (u.o.keep k.size (λ_ h=>k.cell h)) E (s.o.on k)));clear i q1 C;go_enter func159,ntmps159;go_wp2_with fail;rw[<-y.o];refine z.o.mono ?_;rintro e Y ⟨rfl,r⟩;have A:=btZ j r;clear r;go_wp2_with fail;go_ret;exact⟨rfl,A.o⟩
end
end Go.Proofs.YtjaphgpkkfdaaaaGreatDoor
