/- A part of the walk. -/
import Derived.Test.YtijihlcdhppfgaaGreatDoorZA
import Derived.Test.YtijihlcdhppfgaaGreatDoorZB
import Derived.Deep.DeepLaidRun
import Derived.Deep.DeepWitnessRowRef
import Derived.Lib.SpaceR
import Derived.Laws.Tables
import Derived.StillTailTactics
import Derived.Shelf.Abstract
set_option maxHeartbeats 16000000
set_option maxRecDepth 100000
set_option linter.all false
namespace Go.Proofs.YtijihlcdhppfgaaGreatDoor
open Tryz
section
open Go.RowKit
abbrev Tab (w : World) : Prop := Lib.TabIs prog w "strings.asciiSpace" .u8 Lib.asciiSpaceTab
theorem gTab : prog.globalNamed "strings.asciiSpace" = some 0 := by kernel_rfl
theorem Tab.below {w w':World} (h:Tab w) (k:Below w.heap.size w w'):Tab w':=by
 unfold Tab Lib.TabIs World.var? at h ⊢;rw[gTab] at h ⊢;simp only[Option.bind_some] at h ⊢;have d:0<w.heap.size:=by
  rcases Nat.lt_or_ge 0 w.heap.size with h' | h';·exact h'
  ·rw[Array.getElem?_eq_none h'] at h;cases h
 rw[k.block 0 d];exact h
def sY:List UInt8:=[107,105,110,100,32,114,97,110,103,101,32,122,101,114,111,32,105,110,100,101,120,32,108,97,114,103,101,32,100,101,101,112,32,115,116,97,116,101,32,99,111,117,110,116,32,110,105,108,32,98,111,111,108,32,105,110,116,32,102,108,111,97,116,32,116,101,120,116,32,111,98,106,101,99,116,32,108,105,115,116,32,102,117,110,99,116,105,111,110,32,103,101,110,101,114,97,116,111,114,32,108,111,99,107,32,119,101,97,107]
def dI:List ByteArray:=(Lib.fields sY).map λl=>⟨l.toArray⟩
theorem yN:(Lib.fields sY).length=19:=by kernel_rfl
theorem lS:dI.length=19:=by rw[dI,List.length_map];exact yN
theorem aa5:∀b∈sY,b.toNat<128:=by decide
theorem afH:((Lib.fields sY).map λl=>Value.string ⟨l.toArray⟩)=dI.map Value.string:=by rw[dI,List.map_map];rfl
theorem ad8 (w:World) (h:Tab w):Calls prog 112 #[] w λe w'=>e=.returned (.slice (some ⟨w.heap.size,0,none⟩) 19 19)/\w'=w.alloc (.cells (dI.map Value.string).toArray 9):=by
 obtain⟨s,d⟩:∃s:ByteArray,s=⟨sY.toArray⟩:=⟨_,rfl⟩;have f:s.data.toList=sY:=by rw[d]
 have g:s.size=109:=by rw[d];rfl
 have C:=Tryz.strings_Fields s w (by rw[g];omega) (λj b hb=>by rw[f] at hb;exact aa5 b (lM hb)) h;rw[f,yN,afH] at C;have p:=hI C;have q:=hI d;clear C f g d h;go_enter func112,ntmps112;go_wp2_with fail;have l:=p.o;rw[q.o] at l;refine l.mono ?_;rintro e w' ⟨rfl,rfl⟩;go_wp2_with fail;go_ret;exact⟨rfl,rfl⟩
end
section
open Go.ChangeShapes Go.WideShapes Go.ChangeAt Go.RowKit
section
variable {H:Type} {enc:TypeId×Value->H} {w:World} {spare:Nat->Bool} {held:Bool}
theorem cBool:prog.cellsOf 4=1:=by kernel_rfl
theorem cStr:prog.cellsOf 9=1:=by kernel_rfl
theorem cCIns:prog.cellsOf 211=5:=by kernel_rfl
theorem cFn:prog.cellsOf 72=5:=by kernel_rfl
theorem cProg:prog.cellsOf 26=3:=by kernel_rfl
theorem akH:prog.cellsOf 70=1:=by kernel_rfl
theorem cSFn:prog.cellsOf 22=1:=by kernel_rfl
theorem cSVal:prog.cellsOf 23=1:=by kernel_rfl
theorem cSStr:prog.cellsOf 24=1:=by kernel_rfl
theorem o_cins:dS enc prog w spare held 211 j8:=by
 intro z cs x h
 have hl:=dV underlying211 h
 refine⟨hl,?_⟩
 rw[cCIns] at hl
 obtain⟨l,d⟩:=aI underlying211 h 0 _ rfl dL
 obtain⟨p,h1⟩:=aI underlying211 h 1 _ rfl dL
 obtain⟨q,f⟩:=aI underlying211 h 2 _ rfl dL
 obtain⟨r,g⟩:=aI underlying211 h 3 _ rfl dL
 obtain⟨s,j⟩:=aI underlying211 h 4 _ rfl dL
 match cs,hl with
 | [c0,c1,c2,c3,c4],_=>
  simp only[List.getElem_toArray,List.getElem_cons_zero,List.getElem_cons_succ,pN,gB,List.drop_zero,List.take_succ_cons,List.take_zero,List.drop_succ_cons,List.cons.injEq,and_true] at d h1 f g j
  obtain⟨rfl,w0⟩:=d
  obtain⟨rfl,w1⟩:=h1
  obtain⟨rfl,u⟩:=f
  obtain⟨rfl,v⟩:=g
  obtain⟨rfl,y⟩:=j
  exact⟨⟨l,p,q,r,s⟩,rfl,w0,w1,u,v,y⟩
theorem o_cinss:dS enc prog w spare held 70 (λcs (xs:List hP)=>∃v,cs=[v]/\aB w w.heap.size 5 j8 v xs):=cO underlying70 cCIns (by decide) akH o_cins
theorem o_bool:dS enc prog w spare held 4 xS:=ac5 underlying4 cBool
theorem o_str:dS enc prog w spare held 9 nM:=aaE underlying9 cStr
theorem o_fn:dS enc prog w spare held 72 (FnR w w.heap.size):=by
 intro y cs x h
 have hl:=dV underlying72 h
 refine⟨hl,?_⟩
 rw[cFn] at hl
 obtain⟨q,d⟩:=aI underlying72 h 0 _ rfl dL
 obtain⟨r,h1⟩:=aI underlying72 h 1 _ rfl dL
 obtain⟨s,f⟩:=aI underlying72 h 2 _ rfl o_bool
 obtain⟨u,z,g,j⟩:=aI underlying72 h 3 _ rfl aiL
 obtain⟨v,D,l,p⟩:=aI underlying72 h 4 _ rfl o_cinss
 match cs,hl with
 | [c0,c1,c2,c3,c4],_=>
  simp only[List.getElem_toArray,List.getElem_cons_zero,List.getElem_cons_succ,pN,cBool,akF,akH,gB,xS,List.drop_zero,List.take_succ_cons,List.take_zero,List.drop_succ_cons,List.cons.injEq,and_true] at d h1 f g l
  obtain⟨rfl,w0⟩:=d
  obtain⟨rfl,w1⟩:=h1
  subst f;subst g;subst l
  obtain⟨A,n,rfl,-⟩:=id j
  obtain⟨C,m,rfl,-⟩:=id p
  exact⟨⟨q,r,s,u,v⟩,A,n,C,m,rfl,j,p,w0,w1⟩
theorem o_fns:dS enc prog w spare held 22 (λcs (xs:List CFn)=>∃v,cs=[v]/\aB w w.heap.size 5 (FnR w w.heap.size) v xs):=cO underlying22 cFn (by decide) cSFn o_fn
theorem aaI:dS enc prog w spare held 23 (λcs (xs:List Val)=>∃v,cs=[v]/\aB w w.heap.size 2 hU v xs):=cO underlying23 ahH (by decide) cSVal abO
theorem aiI:dS enc prog w spare held 24 (λcs (xs:List ByteArray)=>∃v,cs=[v]/\aB w w.heap.size 1 nM v xs):=cO underlying24 cStr (by decide) cSStr o_str
theorem o_prog:dS enc prog w spare held 26 (fL w w.heap.size):=by
 intro r cs x h
 have hl:=dV underlying26 h
 refine⟨hl,?_⟩
 rw[cProg] at hl
 obtain⟨l,s,d,f⟩:=aI underlying26 h 0 _ rfl o_fns
 obtain⟨p,u,h1,s1⟩:=aI underlying26 h 1 _ rfl aaI
 obtain⟨q,v,g,j⟩:=aI underlying26 h 2 _ rfl aiI
 match cs,hl with
 | [c0,c1,c2],_=>
  simp only[List.getElem_toArray,List.getElem_cons_zero,List.getElem_cons_succ,cSFn,cSVal,cSStr,List.drop_zero,List.take_succ_cons,List.take_zero,List.drop_succ_cons,List.cons.injEq,and_true] at d h1 g
  subst d;subst h1;subst g
  obtain⟨A,n,rfl,-⟩:=id f
  obtain⟨C,m,rfl,-⟩:=id s1
  obtain⟨D,k,rfl,-⟩:=id j
  exact⟨⟨l,p,q⟩,A,n,C,m,D,k,rfl,f,s1,j⟩
theorem open_prog {v:Value} {d:DataW H} {g:List MemPlace} {r:Reach} {j:Nat} (l:Value.okWide prog w r j 26 v) (h:DataW.Trod enc prog w 0 spare held 26 v d g):∃cs p,v=.agg ⟨cs⟩/\fL w w.heap.size cs p:=by obtain⟨cs,rfl,_⟩:=okWide_struct underlying26 l;obtain⟨f,hf⟩:=h;obtain⟨_,t,ht⟩:=o_prog _ _ _ hf;exact⟨cs.toList,t,rfl,ht⟩
end
theorem gTabType:(prog.globals[0]?).map (·.type)=some 300:=by kernel_rfl
theorem cellsT256:prog.cellsOf 300=256:=by kernel_rfl
theorem cellsU8:prog.cellsOf 5=1:=by kernel_rfl
noncomputable def laidWorld (os:Os):World:=
 let N:=(World.settled prog os).heap.size
 let w0:=World.holding prog os ⟨#[.cells (Lib.whiteT.map λ(z:Nat)=>Value.int .u16 (z:Int)).toArray 328,.cells #[.slice (some ⟨N,0,none⟩) 7 7,.slice none 0 0,.int .i64 2] 325],#[],[]⟩
 let put (h:Array Obj) (g:Nat) (cs:Array Value):Array Obj:=h.modify g fun
  | .cells _ t frozen=>.cells cs t frozen
  | o=>o
 { w0 with heap:=put (put w0.heap 0 (Lib.asciiSpaceTab.map λz=>Value.int .u8 z).toArray) 2 #[.pointer (some ⟨N+1,0,none⟩)] }
def nilProg:Value:=.agg #[.slice none 0 0,.slice none 0 0,.slice none 0 0]
def nilTrace:Value:=.agg #[.int .i64 0,.int .i64 0,.int .i64 0,.slice none 0 0,.slice none 0 0,.int .i64 0,.int .i64 0,.slice none 0 0,.slice none 0 0,.int .i64 0,.int .i64 0,.slice none 0 0,.slice none 0 0]
def nilProgD {H:Type} : DataW H:=.agg [.nil,.nil,.nil]
def abP {H:Type} : DataW H:=.agg [.lit (.int .i64 0),.lit (.int .i64 0),.nil,.nil]
def nilTraceD {H:Type} : DataW H:=.agg [.lit (.int .i64 0),.lit (.int .i64 0),.lit (.int .i64 0),.nil,.nil,abP,abP]
end
section
structure cW where
 seen:List Bool
 out:List (List iV)
 todo:List Int
 bad:Bool
def fK (s:cW) (at_:Int) (l:List iV):cW:=
 if(s.seen.length:Int)<=at_\/20<l.length then { s with bad:=true }
 else if s.seen[at_.toNat]? = some false then { s with seen:=s.seen.set at_.toNat true,out:=s.out.set at_.toNat l,todo:=s.todo++[at_] }
 else if s.out[at_.toNat]? = some l then s else { s with bad:=true }
def sK (code:List hP) (s:cW) (at_:Int):cW:=
 match code[at_.toNat]?,s.out[at_.toNat]? with
 | some i,some l=>
  if i.op=28\/i.op=29 then s
  else if i.op=13\/i.op=14 then fK s i.a l
  else if i.op=15 then fK (fK s i.b l) (at_+1) l
  else if i.op=30 then fK (fK s i.b l) (at_+1) (l++[⟨i.a,i.b⟩])
  else if i.op=31 then(if l=[] then { s with bad:=true } else fK s (at_+1) l.dropLast)
  else fK s (at_+1) l
 | _,_=>s
def gH (s:cW):Nat:=s.seen.count false+s.todo.length
def nZ (s:cW):cW:={ s with todo:=s.todo.dropLast }
def rE (code:List hP):Nat->cW->cW
 | 0,s=>s
 | f+1,s=>if s.todo≠[]/\s.bad=false then rE code f (sK code (nZ s) (s.todo.getLast?.getD 0)) else s
def lV (n:Nat):cW:=fK ⟨List.replicate n false,List.replicate n [],[],false⟩ 0 []
def dY (code:List hP):cW:=rE code (gH (lV code.length)) (lV code.length)
structure WOk (n:Nat) (s:cW):Prop where
 seen:s.seen.length=n
 out:s.out.length=n
 todo:∀t∈s.todo,0<=t/\t<n
 few:∀l∈s.out,l.length<=20
 small:gH s<=n
 wf:∀l∈s.out,∀x∈l,(-9223372036854775808<=x.reg/\x.reg<=9223372036854775807)/\(-9223372036854775808<=x.at_/\x.at_<=9223372036854775807)
theorem count_set (l:List Bool) (i:Nat) (h:l[i]? = some false):(l.set i true).count false+1=l.count false:=by
 have hl:i<l.length:=(lE h).1;have d:=List.count_pos_iff.2 (lM h);rw[List.count_set hl];have e:l[i]=false:=by rw[lG hl] at h;injection h
 simp[e];omega
theorem zB (s:cW) (at_:Int) (l:List iV):gH (fK s at_ l)=gH s:=by
 unfold fK;split;·rfl
 ·split;·rename_i h;have:=count_set _ _ h;simp only[gH,List.length_append,List.length_singleton];omega
  ·split <;> rfl
abbrev TryWf (l:List iV):Prop:=∀x∈l,(-9223372036854775808<=x.reg/\x.reg<=9223372036854775807)/\(-9223372036854775808<=x.at_/\x.at_<=9223372036854775807)
theorem WOk.come {n:Nat} {s:cW} (h:WOk n s) {at_:Int} (r:0<=at_) {l:List iV} (hl:TryWf l):WOk n (fK s at_ l):=by
 have g:=zB s at_ l;have f:gH (fK s at_ l)<=n:=by rw[g];exact h.small
 unfold fK at f ⊢;split;·exact⟨h.seen,h.out,h.todo,h.few,h.small,h.wf⟩
 ·rename_i j;rw[if_neg j] at f;split
  ·rename_i p;rw[if_pos p] at f;have q:¬(s.seen.length:Int)<=at_/\¬ 20<l.length:=(by omega);have:=h.seen;refine⟨by simp[h.seen],by simp[h.out],λt ht=>?_,λm d=>?_,f,λm d=>?_⟩
   ·rcases List.mem_append.1 ht with ht | ht;·exact h.todo t ht
    ·simp at ht;subst ht;omega
   ·rcases List.mem_or_eq_of_mem_set d with d | rfl;·exact h.few m d
    ·omega
   ·rcases List.mem_or_eq_of_mem_set d with d | rfl;·exact h.wf m d
    ·exact hl
  ·split;·exact h
   ·exact⟨h.seen,h.out,h.todo,h.few,h.small,h.wf⟩
def kN (code:List hP):Prop:=∀i∈code,((i.op=13\/i.op=14)->0<=i.a/\i.a<=9223372036854775807)/\((i.op=15\/i.op=30)->0<=i.b/\i.b<=9223372036854775807)/\(-9223372036854775808<=i.a/\i.a<=9223372036854775807)
theorem tJ (code:List hP) (s:cW) (at_:Int):gH (sK code s at_)=gH s:=by
 unfold sK;split
 ·repeat' split
  all_goals first | rfl | (simp only[zB])
 ·rfl
theorem WOk.from_ {n:Nat} {s:cW} (h:WOk n s) {code:List hP} (q:kN code) {at_:Int} (u:0<=at_):WOk n (sK code s at_):=by
 unfold sK;split
 ·rename_i i l hi r;have f:=lM hi;have hl:TryWf l:=h.wf l (lM r);obtain⟨j,d,p⟩:=q i f;repeat' split
  ·exact h
  ·exact h.come (j (by assumption)).1 hl
  ·exact(h.come (d (.inl (by assumption))).1 hl).come (by omega) hl
  ·have g:=d (.inr (by assumption));refine(h.come g.1 hl).come (by omega) (λx hx=>?_);rcases List.mem_append.1 hx with hx | hx;·exact hl x hx
   ·simp at hx;subst hx;exact⟨p,by dsimp only;omega⟩
  ·exact⟨h.seen,h.out,h.todo,h.few,h.small,h.wf⟩
  ·exact h.come (by omega) (λx hx=>hl x (List.dropLast_subset l hx))
  ·exact h.come (by omega) hl
 ·exact h
theorem WOk.pop {n:Nat} {s:cW} (h:WOk n s):WOk n (nZ s):= ⟨h.seen,h.out,λt ht=>h.todo t (List.dropLast_subset _ ht),h.few,by have:=h.small;simp only[gH,nZ,List.length_dropLast] at *;omega,h.wf⟩
theorem aiS {s:cW} (h:s.todo≠[]):gH (nZ s)+1=gH s:=by have:0<s.todo.length:=List.length_pos_iff.2 h;simp only[gH,nZ,List.length_dropLast];omega
theorem abH {code:List hP} {s:cW} {t:Int} (h:s.todo.getLast? = some t) (hb:s.bad=false):rE code (gH s) s=rE code (gH (sK code (nZ s) t)) (sK code (nZ s) t):=by
 have d:s.todo≠[]:=by intro e;rw[e] at h;cases h
 rw[tJ,<-aiS d];show(if s.todo≠[]/\s.bad=false then _ else _)=_;rw[if_pos ⟨d,hb⟩,h];rfl
theorem aeI {code:List hP} {s:cW} (h:s.todo=[]\/s.bad=true) (f:Nat):rE code f s=s:=by
 cases f with
 | zero=>rfl
 | succ f=>
  unfold rE
  rw[if_neg]
  rcases h with h | h <;> simp[h]
theorem s7 (n:Nat):WOk n (lV n):=by refine WOk.come ⟨by simp,by simp,by simp,by simp,by simp[gH],by simp⟩ (Int.le_refl _) (by intro x d;cases d)
def eH (p:aZ) (f:CFn):Bool:=
 !(decide (f.params<0) || decide (f.regs<1) || decide (f.regs<f.params)) && (f.code.zipIdx.all λx=>jE p f x.2 x.1) && !(dY f.code).bad
theorem aeP {p:aZ} {f:CFn} {n:Int} (h:dJ p f 97 n=true):0<=n/\n<f.code.length:=by have:aL n 0 ((f.code.length:Int) - 1)=true:=h;rw[gQ] at this;omega
theorem uK {p:aZ} {f:CFn} {at_:Int} {i:hP} (h:jE p f at_ i=true):((i.op=13\/i.op=14)->0<=i.a/\i.a<f.code.length)/\((i.op=15\/i.op=30)->0<=i.b/\i.b<f.code.length):=by
 unfold jE at h;simp only[Bool.and_eq_true] at h;have h1:=h.1;unfold pE at h1;split at h1
 ·rename_i x y z hf;simp only[Bool.and_eq_true] at h1;refine⟨λho=>?_,λho=>?_⟩
  ·have:mI i.op=[97,45,45]:=by rcases ho with ho | ho <;> rw[ho] <;> decide
   rw[this] at hf;injection hf with g
   exact aeP (by rw[g];exact h1.1.1.2)
  ·have:mI i.op=[114,97,45]:=by rcases ho with ho | ho <;> rw[ho] <;> decide
   rw[this] at hf;injection hf with g d
   injection d with d
   exact aeP (by rw[d];exact h1.1.2)
 ·cases h1
def oB (p:aZ):Bool:=
 decide (60<p.fns.length) || decide (200<p.consts.length) || decide (200<p.texts.length) || p.texts.any (λt=>decide (200<t.size)) || p.fns.any (λf=>decide (600<f.code.length) || decide (60<f.regs))
end
section
open Go.RowKit
theorem jA {α : Type} {f : α->List Value} {n:Nat} : ∀(xs:List α),(∀x∈xs,(f x).length=n)->(xs.flatMap f).length=xs.length*n
 | [],_=>by simp
 | x::xs,hf=>by
  have h1:=hf x (by simp)
  have d:=jA xs (λy g=>hf y (by simp[g]))
  simp[h1,d,Nat.add_mul];omega
theorem wX {α : Type} {f : α->List Value} {n:Nat} : ∀(xs:List α),(∀x∈xs,(f x).length=n)->∀(i:Nat) (x : α),xs[i]? = some x->∀j,j<n->(xs.flatMap f)[i*n+j]? = (f x)[j]?
 | [],_,i,x,h,_,_=>by simp at h
 | y::xs,hf,0,x,h,j,hj=>by
  simp at h;subst h
  simp only[List.flatMap_cons,Nat.zero_mul,Nat.zero_add]
  rw[List.getElem?_append_left (by rw[hf _ (by simp)];exact hj)]
 | y::xs,hf,i+1,x,h,j,hj=>by
  simp only[List.flatMap_cons]
  rw[List.getElem?_append_right (by rw[hf y (by simp),Nat.add_mul];omega),hf y (by simp)]
  have e:(i+1)*n+j - n=i*n+j:=by rw[Nat.add_mul];omega
  rw[e]
  exact wX xs (λz d=>hf z (by simp[d])) i x (by simpa using h) j hj
theorem flat_at {α : Type} {f : α->List Value} {n:Nat} (d:0<n) (xs:List α) (hf:∀x∈xs,(f x).length=n) (j:Nat) (u:Value) (h:(xs.flatMap f)[j]? = some u) : ∃x,xs[j / n]? = some x/\(f x)[j % n]? = some u:=by
 have hl:j<xs.length*n:=by rw[<-jA xs hf];exact(lE h).1
 have hi:j / n<xs.length:=(Nat.div_lt_iff_lt_mul d).2 hl;refine⟨xs[j / n],lG hi,?_⟩;have:=wX xs hf (j / n) _ (lG hi) (j % n) (Nat.mod_lt _ d);rw[<-this,Nat.div_add_mod' j n];exact h
def aW {α : Type} (w:World) (B:Nat) (ty:TypeId) (size:Nat) (R:List Value->α->Prop) (v:Value) (xs:List α):Prop:=
 ∃A cap,v=.slice A xs.length cap/\xs.length<=cap/\cap<=maxLen/\
  (0<xs.length->∃b off cs fr,A=some ⟨b,off,none⟩/\B<=b/\w.heap[b]? = some (.cells cs ty fr)/\∀i x,xs[i]? = some x->∃c,c.length=size/\R c x/\∀j u,c[j]? = some u->cs[off+i*size+j]? = some u)
theorem aW.slice {α : Type} {w:World} {B:Nat} {ty:TypeId} {size:Nat} {R:List Value->α->Prop} {v:Value} {xs:List α} (h:aW w B ty size R v xs):aB w w.heap.size size R v xs:=by obtain⟨A,d,h1,l,p,q⟩:=h;refine⟨A,d,h1,l,p,λF=>?_⟩;obtain⟨b,f,cs,r,s,H,g,y⟩:=q F;refine⟨b,f,s,(aE g).1,λi x hi=>?_⟩;obtain⟨c,z,D,E⟩:=y i x hi;exact⟨c,z,D,λj u G=>by rw[cell_of_row w b _ cs ty r g];exact E j u G⟩
theorem aW.keep {α : Type} {w w':World} {B:Nat} {ty:TypeId} {size:Nat} {R R':List Value->α->Prop} {v:Value} {xs:List α} (h:aW w B ty size R v xs) (F:∀k cs d,B<=k->w.heap[k]? = some (.cells cs ty d)->w'.heap[k]? = w.heap[k]?) (G:∀cs x,R cs x->R' cs x):aW w' B ty size R' v xs:=by obtain⟨A,f,h1,p,q,r⟩:=h;refine⟨A,f,h1,p,q,λE=>?_⟩;obtain⟨b,g,cs,d,s,j,l,u⟩:=r E;exact⟨b,g,cs,d,s,j,(F b cs d j l).trans l,λi x hi=>by obtain⟨c,y,z,D⟩:=u i x hi;exact⟨c,y,G c x z,D⟩⟩
theorem aW.below {α : Type} {w w':World} {B:Nat} {ty:TypeId} {size:Nat} {R:List Value->α->Prop} {v:Value} {xs:List α} (h:aW w B ty size R v xs) (hb:Below w.heap.size w w'):aW w' B ty size R v xs:= h.keep (λk cs f _ d=>hb.block k (aE d).1) (λ_ _ h=>h)
theorem aW.more {α : Type} {w:World} {B B':Nat} {ty:TypeId} {size:Nat} {R:List Value->α->Prop} {v:Value} {xs:List α} (h:aW w B ty size R v xs) (hB:B'<=B):aW w B' ty size R v xs:=by obtain⟨A,d,h1,g,j,l⟩:=h;refine⟨A,d,h1,g,j,λu=>?_⟩;obtain⟨b,f,cs,p,q,r,s⟩:=l u;exact⟨b,f,cs,p,q,Nat.le_trans hB r,s⟩
theorem aW.nil {α : Type} (w:World) (B:Nat) (ty:TypeId) (size:Nat) (R:List Value->α->Prop):aW w B ty size R (.slice none 0 0) []:=⟨none,0,rfl,Nat.le_refl _,by decide,by simp⟩
theorem aW.take {α : Type} {w:World} {B:Nat} {ty:TypeId} {size:Nat} {R:List Value->α->Prop} {A:Option Addr} {n d k:Nat} {xs:List α} (h:aW w B ty size R (.slice A n d) xs) (G:k<=n) : aW w B ty size R (.slice A k d) (xs.take k):=by
 obtain⟨D,g,h1,E,j,l⟩:=h;injection h1 with v y z
 subst v;subst y;subst z;have hl:(xs.take k).length=k:=by simp;omega
 refine⟨A,d,by rw[hl],by omega,j,λF=>?_⟩;obtain⟨b,f,cs,p,q,r,s,u⟩:=l (by omega);refine⟨b,f,cs,p,q,r,s,λi x hi=>u i x ?_⟩;rw[List.getElem?_take] at hi;split at hi;·exact hi
 ·cases hi
theorem gM {α : Type} {w:World} {base:Nat} {ty:TypeId} {size:Nat} {R:List Value->α->Prop} {f : α->List Value} {v:Value} {xs:List α} (E:0<size) (hf:∀x∈xs,(f x).length=size) (r:∀x∈xs,R (f x) x) (h:w.ownsRow base ty size v xs.length (xs.flatMap f)):aW w base ty size R v xs:=by
 rcases h.2 with ⟨rfl,s⟩ | ⟨g,p,q,rfl,hb,y,h1,z,G,A⟩;·have:xs=[]:=List.length_eq_zero_iff.1 s;subst this;exact aW.nil _ _ _ _ _
 ·refine⟨_,p,rfl,h1,z,λF=>⟨g,0,q,(0,0),rfl,hb,y,λi x hi=>⟨f x,hf x (lM hi),r x (lM hi),λj u l=>?_⟩⟩⟩;have d:j<size:=by rw[<-hf x (lM hi)];exact(lE l).1
  have D:i<xs.length:=(lE hi).1;have e:=wX xs hf i x hi j d;rw[<-A,List.getElem?_take,if_pos (by have:(i+1)*size<=xs.length*size:=Nat.mul_le_mul_right _ (by omega);rw[Nat.add_mul] at this;omega)] at e;rw[Nat.zero_add,<-Array.getElem?_toList,e];exact l
theorem fE {α : Type} {w:World} {B size:Nat} {R:List Value->α->Prop} {f : α->List Value} {b g n q:Nat} {xs:List α} (r:0<size) (hf:∀x∈xs,(f x).length=size) (D:∀cs x,R cs x->cs=f x) (h:aB w B size R (.slice (some ⟨b,g,none⟩) n q) xs):∀j u,(xs.flatMap f)[j]? = some u->w.cell? ((⟨b,g,none⟩:Addr).add j)=some u:=by
 intro j u A;obtain⟨x,l,s⟩:=flat_at r xs hf j u A;have hl:j / size<xs.length:=(lE l).1;obtain⟨b',v,y,cs,e,_,d,_,z,p⟩:=h.at_ hl;injection e with e
 injection e with E F
 subst E;subst F;rw[l] at d;injection d with d
 subst d;have:=p (j % size) u (by rw[D cs x z];exact s);rw[Nat.add_assoc,Nat.div_add_mod' j size] at this;rw[Addr.add];split;·rename_i G;subst G;simpa using this
 ·exact this
theorem jM {α : Type} {f : α->List Value} (xs:List α) (hf:∀x∈xs,∀u∈f x,u.oneCell'=true):∀u∈xs.flatMap f,u.oneCell'=true:=by intro u h;obtain⟨x,d,g⟩:=List.mem_flatMap.1 h;exact hf x d u g
def Raw (size:Nat) (c x:List Value):Prop:=c=x/\x.length=size
theorem aB.raw {α : Type} {w:World} {B size:Nat} {R:List Value->α->Prop} {v:Value} {xs:List α} (h:aB w B size R v xs) : ∃rows:List (List Value),rows.length=xs.length/\aB w B size (Raw size) v rows/\∀(i:Nat) x,xs[i]? = some x->∃c,rows[i]? = some c/\R c x:=by
 obtain⟨A,l,h1,z,s,D⟩:=h;by_cases H:0<xs.length
 ·obtain⟨b,q,E,F,G⟩:=D H;obtain⟨rows,g,u⟩:=pL (len:=xs.length) (p:=λi (c:List Value)=>∀x,xs[i]? = some x->c.length=size/\R c x/\jY w b (q+i*size) c) (λi hi=>by obtain⟨c,j,y,r⟩:=G i _ (lG hi);exact⟨c,λx d=>by rw[lG hi] at d;injection d with d;subst d;exact⟨j,y,r⟩⟩);refine⟨rows,g,⟨A,l,by rw[h1,g],by omega,s,λ_=>⟨b,q,E,F,λi c f=>?_⟩⟩,λi x d=>?_⟩;·have hi:i<xs.length:=(by rw[<-g];exact(lE f).1);obtain⟨j,y,r⟩:=u i c f _ (lG hi);exact⟨c,j,⟨rfl,j⟩,r⟩
  ·have hi:i<rows.length:=(by rw[g];exact(lE d).1);have f:=lG hi;exact⟨_,f,(u i _ f x d).2.1⟩
 ·have e:xs=[]:=List.length_eq_zero_iff.1 (by omega);subst e;exact⟨[],rfl,⟨A,l,h1,z,s,by simp⟩,by simp⟩
theorem akU {α : Type} {w:World} {B:Nat} {ty:TypeId} {size:Nat} {R:List Value->α->Prop} {v:Value} {rows:List (List Value)} {xs:List α} (h:aW w B ty size (Raw size) v rows) (hl:rows.length=xs.length) (E:∀(i:Nat) x,xs[i]? = some x->∃c,rows[i]? = some c/\R c x):aW w B ty size R v xs:=by obtain⟨A,d,h1,F,g,j⟩:=h;refine⟨A,d,by rw[h1,hl],by omega,g,λG=>?_⟩;obtain⟨b,f,cs,l,p,q,r,s⟩:=j (by omega);refine⟨b,f,cs,l,p,q,r,λi x hi=>?_⟩;obtain⟨c,u,y⟩:=E i x hi;obtain⟨c',z,⟨rfl,_⟩,D⟩:=s i c u;exact⟨c',z,y,D⟩
end
section
open Go.RowKit
theorem aB.mem {α : Type} {w:World} {B size:Nat} {R:List Value->α->Prop} {v:Value} {xs:List α} (h:aB w B size R v xs) {x : α} (j:x∈xs):∃cs,R cs x:=by obtain⟨A,l,h1,q,r,d⟩:=h;obtain⟨i,hi⟩:=List.getElem?_of_mem j;obtain⟨b,p,_,_,f⟩:=d (by have:=(lE hi).1;omega);obtain⟨cs,_,g,_⟩:=f i x hi;exact⟨cs,g⟩
theorem jL (w:World) (e:TypeId) (size:Nat):(w.alloc (.cells #[] e)).ownsRow w.heap.size e size (.slice (some ⟨w.heap.size,0,none⟩) 0 0) 0 []:= ⟨by simp,.inr ⟨w.heap.size,0,#[],rfl,Nat.le_refl _,heap_alloc_new w _,Nat.le_refl _,by unfold maxLen;omega,by simp,by simp⟩⟩
theorem wM:(prog.info? 223).map (λi=>(i.zero.map (·.cells.size),i.size,i.bytes))=some (some 2,2,16):=by kernel_rfl
theorem zQ (v:Value) (rows:List (List Value)) (w:World) (s:aB w w.heap.size 2 (Raw 2) v rows) (h1:∀r∈rows,∀u∈r,u.oneCell'=true) (G:rows.length*16<=140737488355328) : Calls prog 124 #[v] w λe w'=>∃u,e=.returned u/\w'.ownsRow w.heap.size 223 2 u rows.length (rows.flatMap id)/\Below w.heap.size w w':=by
 have d:∀x∈rows,x.length=2:=λx hx=>by obtain⟨cs,_,h⟩:=s.mem hx;exact h
 obtain⟨A,p,rfl,a4,a5,l⟩:=id s;cases A with
 | none=>
  have e:rows=[]:=by
   rcases Nat.eq_zero_or_pos rows.length with h | h
   ·exact List.length_eq_zero_iff.1 h
   ·obtain⟨b,K,h,_⟩:=l h;cases h
  subst e
  have O:∀W,(binOp .eql 143 (.slice none 0 p) (.slice none 0 0)).run prog W=.ok (.bool true) W:=λW=>Lib.run_eql_slice_nil W _ _ _ _ _ _ _ underlying143
  clear l s d h1
  simp only[List.length_nil] at *
  go_enter func124,ntmps124
  go_wp2_with fail
  go_ret
  exact⟨_,rfl,World.ownsRow_nil _ _ _ _,Below.refl _ _⟩
 | some ad=>
  have O:∀W,(binOp .eql 143 (.slice (some ad) rows.length p) (.slice none 0 0)).run prog W=.ok (.bool false) W:=λW=>Lib.run_eql_slice_nil W _ _ _ _ _ _ _ underlying143
  have g:∀j u,(rows.flatMap id)[j]? = some u->w.cell? (ad.add j)=some u:=by
   rcases Nat.eq_zero_or_pos rows.length with h | h
   ·have e:rows=[]:=List.length_eq_zero_iff.1 h
    subst e;simp
   ·obtain⟨b,K,h,_⟩:=l h
    injection h with h
    subst h
    exact fE (by decide) d (λcs x h=>h.1) s
  obtain⟨i0,hi,L⟩:=Option.map_eq_some_iff.1 wM
  simp only[Prod.mk.injEq] at L
  obtain⟨M,y,D⟩:=L
  obtain⟨z,E,F⟩:=Option.map_eq_some_iff.1 M
  have P:=hI g
  have R:=hI hi
  have S:=hI E
  have H:=hI y
  have I:=hI D
  have J:=hI F
  have hl:rows.length<=maxLen:=by unfold maxLen;omega
  have V:=hI hl
  have HR:=hI d
  have X:=hI (jM (f:=id) rows h1)
  have Y:=hI (jA (f:=id) rows d)
  clear g hi E y D F M hl d h1 s l
  go_enter func124,ntmps124
  go_wp2_with (at_builtin;refine wpList_append_own _ rfl _ _ 143 rfl w.heap.size 223 i0 z 2 16 underlying143 R.o S.o H.o I.o J.o (by decide) (.slice (some ⟨w.heap.size,0,none⟩) 0 0) 0 [] rfl (jL _ _ _) ad rows.length p (rows.flatMap id) rfl Y.o (λj u hj=>kL (P.o j u hj) _) X.o (by rw[Nat.zero_add];exact V.o) (by rw[Nat.zero_add];exact G) (by simp) ?_)
  intro v' w6 q N _
  have Z:=hI N
  have KO:=hI q
  clear N q
  go_wp2_with fail
  go_ret
  refine⟨_,rfl,by simpa using KO.o,Below.grown (aA w _) Z.o (by simp) (by simp[Value.ownBlock])⟩
end
section
open Go.RowKit
theorem aaP:(prog.info? 303).map (·.size)=some 39:=by kernel_rfl
theorem tO:((nG.map λl=>Value.string ⟨l.toArray⟩).toArray).all (·.oneCell')=true:=by kernel_rfl
theorem lL (w:World) (o:Obj) (C:Array Value):Below w.heap.size w ((w.alloc o).setRow w.heap.size C):=by refine(aA w o).trans ⟨rfl,rfl,rfl,by simp[World.setRow],λk d=>?_⟩;simp only[World.setRow,Array.getElem?_modify];rw[if_neg (by omega)]
theorem ac2 (w:World) (c C:Array Value) (t:TypeId):((w.alloc (.cells c t)).setRow w.heap.size C).heap[w.heap.size]? = some (.cells C t (0,0)):=by simp only[World.setRow,Array.getElem?_modify,if_true];rw[heap_alloc_new];rfl
theorem tP (op:Int) (w:World):Calls prog 183 #[.int .i64 op] w (aK (.string ⟨(mI op).toArray⟩) w):=by
 obtain⟨s,q⟩:∃s:ByteArray,(⟨(mI op).toArray⟩:ByteArray)=s:=⟨_,rfl⟩;rw[q];by_cases h:op<1\/39<=op
 ·have r:(⟨#[]⟩:ByteArray)=s:=by rw[<-q];simp[mI,h]
  subst r;clear q;rcases h with h | h
  ·go_enter func183,ntmps183;go_wp2_with (first
    | (refine wpList_build rfl 303 _ rfl (by kernel_rfl) ?_;generalize j:Option.getD _ _=C;have f:C=(nG.map λl=>Value.string ⟨l.toArray⟩).toArray:=(by rw[<-j];kernel_rfl);have g:=hI f;clear j f)
    | (refine wpList_store_row rfl 303 _ _ rfl w.heap.size C rfl rfl 303 _ (heap_alloc_new _ _) (by rw[g.o];exact aaP) (by rw[g.o];rfl) (by rw[g.o];exact tO) ?_;generalize d:World.setRow _ _ _=w1;have p:Hid (Below w.heap.size w w1):=(by rw[<-d];exact lL _ _ _);clear d))
   go_ret;exact⟨rfl,p.o⟩
  ·have D:¬op<1:=(by omega);go_enter func183,ntmps183;go_wp2_with (first
    | (refine wpList_build rfl 303 _ rfl (by kernel_rfl) ?_;generalize j:Option.getD _ _=C;have f:C=(nG.map λl=>Value.string ⟨l.toArray⟩).toArray:=(by rw[<-j];kernel_rfl);have g:=hI f;clear j f)
    | (refine wpList_store_row rfl 303 _ _ rfl w.heap.size C rfl rfl 303 _ (heap_alloc_new _ _) (by rw[g.o];exact aaP) (by rw[g.o];rfl) (by rw[g.o];exact tO) ?_;generalize d:World.setRow _ _ _=w1;have p:Hid (Below w.heap.size w w1):=(by rw[<-d];exact lL _ _ _);clear d))
   go_ret;exact⟨rfl,p.o⟩
 ·obtain⟨n,rfl⟩:∃n:Nat,op=n:=⟨op.toNat,by omega⟩;have u:n<39:=by omega
  have y:¬(n:Int)<1:=by omega
  have z:¬ 39<=(n:Int):=by omega
  have A:(n:Int)<39:=by omega
  have x:Hid ((nG.map λl=>Value.string ⟨l.toArray⟩).toArray[n]? = some (.string s)):=by show _=_;rw[List.getElem?_toArray,List.getElem?_map,lG (show n<nG.length from u),<-q];unfold mI;rw[if_neg (by omega),Int.toNat_natCast,List.getD_eq_getElem?_getD,lG (show n<nG.length from u)];rfl
  clear h q;go_enter func183,ntmps183;go_wp2_with (first
   | (refine wpList_build rfl 303 _ rfl (by kernel_rfl) ?_;generalize j:Option.getD _ _=C;have f:C=(nG.map λl=>Value.string ⟨l.toArray⟩).toArray:=(by rw[<-j];kernel_rfl);have g:=hI f;clear j f)
   | (refine wpList_store_row rfl 303 _ _ rfl w.heap.size C rfl rfl 303 _ (heap_alloc_new _ _) (by rw[g.o];exact aaP) (by rw[g.o];rfl) (by rw[g.o];exact tO) ?_;generalize d:World.setRow _ _ _=w1;have p:Hid (Below w.heap.size w w1):=(by rw[<-d];exact lL _ _ _);have v:w1.cell? ⟨w.heap.size,n,none⟩=some (.string s):=(by rw[<-d,cell_of_row _ _ _ _ _ _ (ac2 _ _ _ _),g.o];exact x.o);clear d))
  go_ret;exact⟨rfl,p.o⟩
end
section
open Go.RowKit
theorem agC (cs:List Value) (p:aZ) (f:CFn) (n:Int) (w:World) (h:hG w w.heap.size cs p f) (u:1<=f.regs) : Calls prog 185 #[.agg ⟨cs⟩,.int .u8 114,.int .i64 n] w (aK (.bool (aaA f n)) w):=by have r:=hI h;obtain⟨A,D,rfl,⟨E,F,G,H,I,J,rfl,d,g,j⟩,⟨K,L,M,N,rfl,q1,l,w1,O⟩⟩:=h;have l1:=aM d;have v:=aM g;have x:=aM j;have y:=aM q1;have z:=aM l;clear d g j q1 l;go_enter func185,ntmps185;go_wp2_with fail;refine(adB _ p f n _ (r.o.keep (by simp) (λ_ h=>(aA w _).cell h)) u).mono ?_;rintro e w1 ⟨rfl,q⟩;have s:=hI ((aA w _).trans (q.mono (by simp)));clear q;go_wp2_with fail;go_ret;exact⟨rfl,s.o⟩
theorem agF (cs:List Value) (p:aZ) (f:CFn) (n:Int) (w:World) (h:hG w w.heap.size cs p f) (L:1<=f.regs) : Calls prog 185 #[.agg ⟨cs⟩,.int .u8 107,.int .i64 n] w (aK (.bool (aL n 0 ((p.consts.length:Int) - 1))) w):=by obtain⟨v,x,rfl,⟨y,z,A,D,E,F,rfl,d,g,j⟩,⟨G,H,I,J,rfl,q1,l,w1,K⟩⟩:=h;have l1:=aM d;have q:=aM g;have r:=aM j;have s:=aM q1;have u:=aM l;clear d g j q1 l;go_enter func185,ntmps185;go_wp2_with fail;refine(fF _ _ _ _).mono ?_;rintro e w' ⟨rfl,rfl⟩;go_wp2_with fail;go_ret;exact⟨rfl,aA w _⟩
theorem agB (cs:List Value) (p:aZ) (f:CFn) (n:Int) (w:World) (h:hG w w.heap.size cs p f) (O:1<=f.regs) : Calls prog 185 #[.agg ⟨cs⟩,.int .u8 116,.int .i64 n] w (aK (.bool (aL n 0 ((p.texts.length:Int) - 1))) w):=by have r:=hI h;obtain⟨z,A,rfl,⟨D,E,F,G,H,I,rfl,d,g,j⟩,⟨J,K,L,M,rfl,q1,l,w1,N⟩⟩:=h;have l1:=aM d;have u:=aM g;have v:=aM j;have x:=aM q1;have y:=aM l;clear d g j q1 l;go_enter func185,ntmps185;go_wp2_with fail;refine(ltext_c _ p f n _ (r.o.keep (by simp) (λ_ h=>(aA w _).cell h))).mono ?_;rintro e w1 ⟨rfl,q⟩;have s:=hI ((aA w _).trans (q.mono (by simp)));clear q;go_wp2_with fail;go_ret;exact⟨rfl,s.o⟩
theorem aiP (cs:List Value) (p:aZ) (f:CFn) (n:Int) (w:World) (h:hG w w.heap.size cs p f) (O:1<=f.regs) : Calls prog 185 #[.agg ⟨cs⟩,.int .u8 97,.int .i64 n] w (aK (.bool (aL n 0 ((f.code.length:Int) - 1))) w):=by have r:=hI h;obtain⟨z,A,rfl,⟨D,E,F,G,H,I,rfl,d,g,j⟩,⟨J,K,L,M,rfl,q1,l,w1,N⟩⟩:=h;have l1:=aM d;have u:=aM g;have v:=aM j;have x:=aM q1;have y:=aM l;clear d g j q1 l;go_enter func185,ntmps185;go_wp2_with fail;refine(lat_c _ p f n _ (r.o.keep (by simp) (λ_ h=>(aA w _).cell h))).mono ?_;rintro e w1 ⟨rfl,q⟩;have s:=hI ((aA w _).trans (q.mono (by simp)));clear q;go_wp2_with fail;go_ret;exact⟨rfl,s.o⟩
theorem agA (cs:List Value) (p:aZ) (f:CFn) (n:Int) (w:World) (h:hG w w.heap.size cs p f) (L:1<=f.regs) : Calls prog 185 #[.agg ⟨cs⟩,.int .u8 117,.int .i64 n] w (aK (.bool (aL n 0 ((f.caught.length:Int) - 1))) w):=by obtain⟨v,x,rfl,⟨y,z,A,D,E,F,rfl,d,g,j⟩,⟨G,H,I,J,rfl,q1,l,w1,K⟩⟩:=h;have l1:=aM d;have q:=aM g;have r:=aM j;have s:=aM q1;have u:=aM l;clear d g j q1 l;go_enter func185,ntmps185;go_wp2_with fail;refine(fF _ _ _ _).mono ?_;rintro e w' ⟨rfl,rfl⟩;go_wp2_with fail;go_ret;exact⟨rfl,aA w _⟩
theorem agG (cs:List Value) (p:aZ) (f:CFn) (n:Int) (w:World) (h:hG w w.heap.size cs p f) (L:1<=f.regs) : Calls prog 185 #[.agg ⟨cs⟩,.int .u8 102,.int .i64 n] w (aK (.bool (aL n 1 ((p.fns.length:Int) - 1))) w):=by obtain⟨v,x,rfl,⟨y,z,A,D,E,F,rfl,d,g,j⟩,⟨G,H,I,J,rfl,q1,l,w1,K⟩⟩:=h;have l1:=aM d;have q:=aM g;have r:=aM j;have s:=aM q1;have u:=aM l;clear d g j q1 l;go_enter func185,ntmps185;go_wp2_with fail;refine(fF _ _ _ _).mono ?_;rintro e w' ⟨rfl,rfl⟩;go_wp2_with fail;go_ret;exact⟨rfl,aA w _⟩
theorem agE (cs:List Value) (p:aZ) (f:CFn) (n:Int) (w:World) (h:hG w w.heap.size cs p f) (L:1<=f.regs) : Calls prog 185 #[.agg ⟨cs⟩,.int .u8 108,.int .i64 n] w (aK (.bool (aL n 0 f.regs)) w):=by obtain⟨v,x,rfl,⟨y,z,A,D,E,F,rfl,d,g,j⟩,⟨G,H,I,J,rfl,q1,l,w1,K⟩⟩:=h;have l1:=aM d;have q:=aM g;have r:=aM j;have s:=aM q1;have u:=aM l;clear d g j q1 l;go_enter func185,ntmps185;go_wp2_with fail;refine(fF _ _ _ _).mono ?_;rintro e w' ⟨rfl,rfl⟩;go_wp2_with fail;go_ret;exact⟨rfl,aA w _⟩
theorem aiO (cs:List Value) (p:aZ) (f:CFn) (n:Int) (w:World) (h:hG w w.heap.size cs p f) (L:1<=f.regs) : Calls prog 185 #[.agg ⟨cs⟩,.int .u8 99,.int .i64 n] w (aK (.bool (aL n 0 f.regs)) w):=by obtain⟨v,x,rfl,⟨y,z,A,D,E,F,rfl,d,g,j⟩,⟨G,H,I,J,rfl,q1,l,w1,K⟩⟩:=h;have l1:=aM d;have q:=aM g;have r:=aM j;have s:=aM q1;have u:=aM l;clear d g j q1 l;go_enter func185,ntmps185;go_wp2_with fail;refine(fF _ _ _ _).mono ?_;rintro e w' ⟨rfl,rfl⟩;go_wp2_with fail;go_ret;exact⟨rfl,aA w _⟩
theorem agD (cs:List Value) (p:aZ) (f:CFn) (n:Int) (w:World) (h:hG w w.heap.size cs p f) (L:1<=f.regs) : Calls prog 185 #[.agg ⟨cs⟩,.int .u8 110,.int .i64 n] w (aK (.bool (aL n 0 f.regs)) w):=by obtain⟨v,x,rfl,⟨y,z,A,D,E,F,rfl,d,g,j⟩,⟨G,H,I,J,rfl,q1,l,w1,K⟩⟩:=h;have l1:=aM d;have q:=aM g;have r:=aM j;have s:=aM q1;have u:=aM l;clear d g j q1 l;go_enter func185,ntmps185;go_wp2_with fail;refine(fF _ _ _ _).mono ?_;rintro e w' ⟨rfl,rfl⟩;go_wp2_with fail;go_ret;exact⟨rfl,aA w _⟩
theorem gU (cs:List Value) (p:aZ) (f:CFn) (c:UInt8) (n:Int) (w:World) (h:hG w w.heap.size cs p f) (g:1<=f.regs) : Calls prog 185 #[.agg ⟨cs⟩,.int .u8 c.toNat,.int .i64 n] w (aK (.bool (dJ p f c n)) w):=by
 by_cases j:c=114;·subst j;exact agC cs p f n w h g
 by_cases l:c=107;·subst l;exact agF cs p f n w h g
 by_cases q:c=116;·subst q;exact agB cs p f n w h g
 by_cases x:c=97;·subst x;exact aiP cs p f n w h g
 by_cases r:c=117;·subst r;exact agA cs p f n w h g
 by_cases s:c=102;·subst s;exact agG cs p f n w h g
 by_cases u:c=108;·subst u;exact agE cs p f n w h g
 by_cases y:c=99;·subst y;exact aiO cs p f n w h g
 by_cases v:c=110;·subst v;exact agD cs p f n w h g
 have e:dJ p f c n=(n == 0):=by unfold dJ;rw[if_neg j,if_neg l,if_neg q,if_neg x,if_neg r,if_neg s,if_neg (by simp[u,y,v])]
 rw[e];clear e;have d:∀k:UInt8,c≠k->((c.toNat:Int) == (k.toNat:Int))=false:=λk I=>by simp only[beq_eq_false_iff_ne,ne_eq,Int.natCast_inj];exact λe=>I (UInt8.toNat_inj.1 e)
 have z:((c.toNat:Int) == 114)=false:=d 114 j;have A:((c.toNat:Int) == 107)=false:=d 107 l;have D:((c.toNat:Int) == 116)=false:=d 116 q;have J:((c.toNat:Int) == 97)=false:=d 97 x;have E:((c.toNat:Int) == 117)=false:=d 117 r;have F:((c.toNat:Int) == 102)=false:=d 102 s;have G:((c.toNat:Int) == 108)=false:=d 108 u;have K:((c.toNat:Int) == 99)=false:=d 99 y;have H:((c.toNat:Int) == 110)=false:=d 110 v;clear d j l q x r s u y v;obtain⟨L,M,rfl,⟨N,O,P,R,S,V,rfl,-⟩,⟨X,Y,Z,n5,rfl,-⟩⟩:=h;go_enter func185,ntmps185;go_wp2_with fail;go_ret;exact⟨rfl,aA w _⟩
end
section
open Go.RowKit
section
variable {P:Program} {ops:Array Oper} {md:Region.Mode} {C:World->Prop}
def rU (P:Program) (md:Region.Mode) (ops:Array Oper) (C:World->Prop) (n:Nat) (L:Array Bool->Act->Prop):Nat->Array Bool->Act->Prop
 | 0,listed,a=>L listed a
 | f+1,listed,a=>Region.ready md ops listed≠[]/\∀i∈Region.ready md ops listed,i<n/\qOp P ops C i (rU P md ops C n L f (listed.setIfInBounds i true)) a
theorem oU {n g:Nat} {L:Array Bool->Act->Prop} {Q':Exit->Act->World->Prop} (l:∀d a w,C w->L d a->wpAny P md ops Q' g d a w) :
  ∀(f:Nat) (d:Array Bool) (a:Act) (w:World),C w->rU P md ops C n L f d a->wpAny P md ops Q' (f+g) d a w
 | 0,d,a,w,hw,h=>by rw[Nat.zero_add];exact l _ _ _ hw h
 | f+1,d,a,w,hw,h=>by
  rw[show f+1+g=(f+g)+1 by omega]
  exact⟨λp=>absurd p h.1,λi hi=>wpOp_of_qOp hw (λq w' j r=>oU l f _ q w' j r) (h.2 i hi).2⟩
theorem xU {n i:Nat} {x:Oper} {v:Value} {L:Array Bool->Act->Prop} (hi:ops[i]? = some x) (E:∀(j:Nat) (o:Oper) cs b,ops[j]? = some o->o.op≠.select cs b) (V:Region.sinkB md ops n=true) (X:Region.chainB md ops n=true) (Y:n<ops.size) (I:i<n) (G:∀d a,L d a->∀j∈Region.ready md ops d,n<=j) : ∀(f:Nat) (d:Array Bool) (a:Act),HeadInv md ops n d-> (∀j q,ops[j]? = some q->j≠i->d.getD j true=false->(∀e∈q.after,Region.binds md e=true->e.on≠i)->x.apart ops q=true)-> i∈Region.ready md ops d->YieldsIn P ops C x v a-> rU P md ops C n L f (d.setIfInBounds i true) (a.put x.dst v)->rU P md ops C n L (f+1) d a:=by
 intro f;induction f with
 | zero=>
  intro d a u _ p F H
  have l:=(mem_ready.1 p).1
  refine⟨λh=>(by rw[h] at p;cases p),λj r=>?_⟩
  have s:j<n:=by
   rcases Nat.lt_or_ge j n with h | h
   ·exact h
   ·exact absurd r (tail_waits V X Y u _ i rfl I l j h)
  refine⟨s,?_⟩
  by_cases g:j=i
  ·subst g;exact F.qOp hi H
  ·have:=G _ _ H j (ready_mono r g)
   omega
 | succ f ih=>
  intro d a u w p F H
  have l:=(mem_ready.1 p).1
  refine⟨λh=>(by rw[h] at p;cases p),λj r=>?_⟩
  have s:j<n:=by
   rcases Nat.lt_or_ge j n with h | h
   ·exact h
   ·exact absurd r (tail_waits V X Y u _ i rfl I l j h)
  refine⟨s,?_⟩
  by_cases g:j=i
  ·subst g;exact F.qOp hi H
  ·have h1:=(H.2 j (ready_mono r g)).2
   obtain⟨z,q,A,M⟩:=mem_ready.1 r
   have K:∀e∈q.after,Region.binds md e=true->e.on≠i:=λe he hb N=>by
    have h1:=M e he hb
    rw[N,getD_both l] at h1
    cases h1
   have Z:=qOp_put A (w j q A g z K) (λcs b=>E i x cs b hi) (λcs b=>E j q cs b A) F h1
   have y:∀k D,ops[k]? = some D->k≠i->(d.setIfInBounds j true).getD k true=false->
     (∀e∈D.after,Region.binds md e=true->e.on≠i)->x.apart ops D=true:=λk D hk O l R=>by
    refine w k D hk O ?_ R
    by_cases J:j=k
    ·subst J;exact z
    ·rw[getD_set_ne true J] at l;exact l
   refine qOp_mono (λa' S=>ih (d.setIfInBounds j true) a' (u.set r s) y (ready_mono p (Ne.symm g)) S.1 ?_) Z
   rw[Array.setIfInBounds_comm _ _ g]
   exact S.2
theorem uA {n g:Nat} {u:Act->Prop} (p:Region.noSelect ops=true) (z:Region.sinkB md ops n=true) (A:Region.chainB md ops n=true) (D:n<ops.size) :
  ∀(l:List Oper) (k:Nat) (d:Array Bool) (a:Act),(∀j,j<l.length->l[j]? = ops[k+j]?)->k+l.length=n->HeadInv md ops n d->
  Region.lexHead md ops g l.length k d=true->wpQuiet P ops C u l a->
  rU P md ops C n (λf y=>Region.seqB md ops g n f=true/\u y) l.length d a
 | [],k,d,a,_,hk,_,hB,h=>by
  have:k=n:=by simpa using hk
  subst this
  exact⟨by simpa [Region.lexHead] using hB,h⟩
 | o::l,k,d,a,hl,hk,inv,hB,h=>by
  have q:ops[k]? = some o:=by simpa using (hl 0 (by simp)).symm
  simp only[List.length_cons,Region.lexHead,Bool.and_eq_true] at hB
  obtain⟨⟨E,hf⟩,x⟩:=hB
  have r:k<n:=by simp only[List.length_cons] at hk;omega
  have s:k∈Region.ready md ops d:=by simpa using E
  have w:qOp P ops C k (wpQuiet P ops C u l) a:=by unfold qOp;simp only[q];exact h
  obtain⟨v,F,G⟩:=yieldsIn_of_qOp q w
  exact xU q (Region.noSelect_spec p) z A D r (λf y H=>seqB_ready H.1) l.length d a inv (Region.free_spec q hf) s F
   (uA p z A D l (k+1) _ _ (λj I=>by have:=hl (j+1) (by simp;omega);simpa [Nat.add_assoc,Nat.add_comm 1 j] using this) (by simp only[List.length_cons] at hk;omega) (inv.set s r) x G)
theorem kO {id:Nat} {Q:Exit->Act->World->Prop} {a:Act} {w:World} {l:List Oper} (n:Nat) (y:P.follows .mixedOrders=true) (hB:Region.lexTailB .any l.toArray n=true) (z:C { w with drawn:=w.drawn+1 }) (h:wpQuiet P l.toArray C (λr=>∀w',C w'->wpList P l.toArray Q (l.drop n) r w') (l.take n) a):(Code.region id l.toArray true).wp P Q a w:=by
 simp only[Region.lexTailB,Bool.and_eq_true,decide_eq_true_eq] at hB;obtain⟨⟨⟨⟨hsel,hn⟩,hs⟩,hc⟩,hlex⟩:=hB;have A:n<l.length:=by simpa using hn
 have d:(l.take n).length=n:=by simp;omega
 have p:(l.drop n).length=l.toArray.size - n:=by simp
 have q:HeadInv .any l.toArray n (Array.replicate l.toArray.size false):= ⟨by simp,λj D _ hl=>(by rw[getD_replicate_false] at hl;cases hl),λt _ ht=>getD_in (by simpa using ht) (getD_replicate_false _ _)⟩;have H:=uA (md:=.any) (g:=l.toArray.size - n) hsel hs hc hn (l.take n) 0 _ a (λj u=>by
  have s:j<n:=by rw[d] at u;exact u
  simp[s]) (by simpa using d) q (by rw[d];exact hlex) h
 refine wp_region_any y ?_;have:=oU (Q':=Q) (g:=l.toArray.size - n) (λf r w' v x=>by have:=wpAny_of_seq (md:=.any) (Q':=Q) (l.drop n) n f r w' (λj=>by simp[List.getElem?_drop]) (by rw[p];exact x.1) (x.2 w' v);rwa [p] at this) _ _ _ _ z H;rw[d,show n+(l.toArray.size - n)=l.toArray.size by omega] at this;exact this
theorem aU {id:Nat} {Q:Exit->Act->World->Prop} {a:Act} {w:World} {l:List Oper} (n:Nat) (f:P.follows .mixedOrders=true) (hB:Region.lexTailB .any l.toArray n=true) (h:wpQuiet P l.toArray (λw'=>∃E:Up w,w'=E.to) (λd=>∀w',(∃E:Up w,w'=E.to)->wpList P l.toArray Q (l.drop n) d w') (l.take n) a):(Code.region id l.toArray true).wp P Q a w:= kO n f hB ⟨⟨_,(Below.refl _ w).drew⟩,rfl⟩ h
end
end
section
open Go.RowKit
def aJ (w:World) (g:Nat) (cs:List Value):Prop:=∀i v,cs[i]? = some v->w.cell? ⟨g,i,none⟩=some v
theorem aJ.on {w w':World} {g:Nat} {cs:List Value} (h:aJ w g cs) (hb:Below w.heap.size w w'):aJ w' g cs:=λi v d=>aC hb (h i v d)
theorem akV (w:World) (cs:List Value) (t:TypeId):aJ (w.alloc (.cells ⟨cs⟩ t)) w.heap.size cs:=λi v d=>by
 rw[cA];simpa using d
theorem aJ.old {w:World} {g:Nat} {cs:List Value} (h:aJ w g cs) (o:Obj):aJ (w.alloc o) g cs:=λi v d=>kL (h i v d) o
def sP (f:CFn) (c:Int):Bool:=!aaA f c && !aL c (-(f.caught.length:Int)) (-1)
theorem ahG (cs:List Value) (p:aZ) (f:CFn) (g:Nat) (c:Int) (w:World) (h:hG w w.heap.size cs p f) (Z:1<=f.regs) (d:aJ w g cs) : Calls prog 230 #[.int .i64 c,.pointer (some ⟨g,0,none⟩)] w (aK (.bool (sP f c)) w):=by
 obtain⟨r,j⟩:∃r,sP f c=r:=⟨_,rfl⟩;rw[j];have z:=hI h;obtain⟨pc,fc,rfl,⟨I,J,K,L,M,N,rfl,O,P,R⟩,⟨x,y,S,V,rfl,q1,X,w1,w2⟩⟩:=h;have l4:=aM q1;have HG:=hI d;clear O P R q1 X;have A:=d 0 _ rfl;have D:=d 1 _ rfl;have E:=d 2 _ rfl;have F:=d 3 _ rfl;have c4:=d 4 _ rfl;have G:=d 5 _ rfl;have u:=d 6 _ rfl;have H:=d 7 _ rfl;clear d;go_enter func230,ntmps230;go_wp2_with fail;refine(adB _ p f c _ z.o Z).mono ?_;rintro e Y ⟨rfl,s⟩;have v:=hI s;have d6:Y.cell? ⟨g,6,none⟩=some (.slice x f.caught.length y):=aC s u;clear s A D E F c4 G u H;cases l:aaA f c
 ·have q:Hid (r = !aL c (-(f.caught.length:Int)) (-1)):=by rw[<-j];simp[sP,l,Hid]
  clear j l;go_wp2_with fail;refine(fF _ _ _ _).mono ?_;rintro e w' ⟨rfl,rfl⟩;go_wp2_with fail;go_ret;exact⟨by rw[q.o];rfl,v.o⟩
 ·have q:Hid (r=false):=by rw[<-j];simp[sP,l,Hid]
  clear j l;go_wp2_with fail;go_ret;exact⟨by rw[q.o];rfl,v.o⟩
theorem yL:∀args W,(callFunc 230 args).run prog W=.ok (.enter 230 args) W:=enters_of func230 (by kernel_rfl) rfl
theorem akC (cs l:List Value) (p:aZ) (f g:CFn) (w:World) (h:hG w w.heap.size cs p f) (G:1<=f.regs) (H:FnR w w.heap.size l g) : Calls prog 187 #[.agg ⟨cs⟩,.agg ⟨l⟩] w (aK (.bool (vF f g)) w):=by
 obtain⟨w0,d⟩:∃w0,w0=(w.alloc (.cells ⟨cs⟩ 209)).alloc (.cells ⟨l⟩ 72):=⟨_,rfl⟩;have j:Hid (Below w.heap.size w w0):=by rw[d];exact bV w _ _
 have u:Hid (aJ w0 w.heap.size cs):=by rw[d];exact(akV w cs _).old _
 have v:Hid (hG w0 w0.heap.size cs p f):=h.keep j.o.size (λ_ h=>j.o.cell h);obtain⟨q,r,I,J,rfl,q1,E,w1,K⟩:=H;have y:Hid (aB w0 w0.heap.size 1 gB (.slice q g.caught.length r) g.caught):=q1.keep j.o.size (λ_ h=>j.o.cell h) (λ_ _ h=>h);obtain⟨L,M,rfl,⟨N,O,P,R,S,V,rfl,-⟩,⟨X,Y,Z,m5,rfl,-⟩⟩:=h;simp only[List.cons_append,List.nil_append] at d;have z:=hI d;have A:=hI (sL gB (sP f) q r g.caught 230 yL #[.pointer (some ⟨w.heap.size,0,none⟩)] w0 y.o (λw1 k x cs hx F=>by obtain⟨rfl,-⟩:=F;exact ahG _ p f w.heap.size x w1 (v.o.keep k.size (λ_ h=>k.cell h)) G (u.o.on k)));clear d q1 E;go_enter func187,ntmps187;go_wp2_with fail;rw[<-z.o];refine A.o.mono ?_;rintro e w3 ⟨rfl,s⟩;have D:=btZ j s;clear s;go_wp2_with fail;go_ret;exact⟨rfl,D.o⟩
end
end Go.Proofs.YtijihlcdhppfgaaGreatDoor
