/- Part of the walk of the given code: contracts of the functions that irun.Run reaches, and plain laws on what it reckons. -/
import Derived.Test.YtjaphgpkkfdaaaaGreatDoorProg
import Derived.WalkKit
import Derived.Lib.Hide
import Derived.WalkLawsBesides
import Derived.Deep.QuietTactic
import Derived.BigQuiet
import Derived.ProofKit
import Derived.OpenShut
import Derived.Deep.Slices
import Derived.WalkSpells
import Derived.Deep.MidRow
set_option maxHeartbeats 16000000
set_option maxRecDepth 100000
set_option linter.all false
namespace Go.Proofs.YtjaphgpkkfdaaaaGreatDoor
theorem hI{p:Prop}(h:p):Go.RowKit.Hid p:=Go.Lib.hid h
theorem aE{α:Type}{l:Array α}{i:Nat}{a:α}(h:l[i]? = some a):∃ h:i<l.size,l[i] = a:=Array.getElem?_eq_some_iff.1 h
theorem lE{α:Type}{l:List α}{i:Nat}{a:α}(h:l[i]? = some a):∃ h:i<l.length,l[i] = a:=List.getElem?_eq_some_iff.1 h
theorem lG{α:Type}{l:List α}{i:Nat}(h:i<l.length):l[i]? = some l[i]:=List.getElem?_eq_getElem h
theorem x_{α:Type}(a:α):∃r,a=r:=⟨_,rfl⟩
theorem y_{α:Type}(a:α):∃r,r=a:=⟨_,rfl⟩
section
structure Form where
 asks:Int
 low:Int
 high:Int
 k:Bool
 tells:Bool
 exit:Int
deriving DecidableEq
def cF (op:Int):Form:=
 if op=1 then⟨0,0,1073741824,false,true,0⟩
 else if op=2 then⟨0,0,0,true,true,0⟩
 else if op=3 then⟨0,0,0,false,true,0⟩
 else if op=4 then⟨1,0,6,false,false,2⟩
 else if op=5 then⟨1,0,1,false,false,2⟩
 else if op=6 then⟨1,0,0,true,false,2⟩
 else if op=7 then⟨2,3,10,false,true,1⟩
 else if op=8 then⟨1,11,12,false,true,1⟩
 else if op=9 then⟨1,1,7,false,false,2⟩
 else if op=10 then⟨1,0,99,false,true,0⟩
 else if op=11 then⟨2,0,99,false,false,0⟩
 else if op=12 then⟨2,1,1073741824,false,false,2⟩
 else if op=13 then⟨2,0,0,false,true,2⟩
 else if op=14 then⟨3,0,0,false,false,2⟩
 else if op=15 then⟨1,0,0,false,true,0⟩
 else if op=16 then⟨0,1,3,false,true,2⟩
 else if op=17 then⟨2,0,0,false,false,1⟩
 else if op=18 then⟨0,0,0,false,true,2⟩
 else if op=19 then⟨0,1,1073741824,false,false,2⟩
 else⟨0,0,0,false,false,0⟩
def lU (op:Int):Bool:=decide (1≤op∧op≤19)
theorem rY (op:Int) (h:¬(op=1∨op=2∨op=3∨op=4∨op=5∨op=6∨op=7∨op=8∨op=9∨op=10∨op=11∨op=12∨op=13∨op=14∨op=15∨op=16∨op=17∨op=18∨op=19)):cF op=⟨0,0,0,false,false,0⟩:=by
 unfold cF
 repeat (rw[if_neg (by omega)])
theorem aa4 (op:Int) (h:¬(op=1∨op=2∨op=3∨op=4∨op=5∨op=6∨op=7∨op=8∨op=9∨op=10∨op=11∨op=12∨op=13∨op=14∨op=15∨op=16∨op=17∨op=18∨op=19)):lU op=false:=by
 simp only[lU,decide_eq_false_iff_not];omega
def iC (op:Int):Bool:=(cF op).tells
theorem nU {op:Int} (h:lU op=true):op=1∨op=2∨op=3∨op=4∨op=5∨op=6∨op=7∨op=8∨op=9∨op=10∨op=11∨op=12∨op=13∨op=14∨op=15∨op=16∨op=17∨op=18∨op=19:=by
 simp only[lU,decide_eq_true_eq] at h;omega
structure Val where
 kind:Int
 n:Int
deriving DecidableEq
structure bG where
 op:Int
 a:Int
 b:Int
 c:Int
 n:Int
 exit:Int
 k:Val
deriving DecidableEq
structure pS where
 reg:Int
 val:Int
deriving DecidableEq
structure fZ where
 cell:Int
 kind:Int
 num:Int
 vals:List Int
deriving DecidableEq
structure cW where
 at_:Int
 steps:Int
 sets:List pS
 makes:List fZ
deriving DecidableEq
structure aN where
 fn:Int
 at_:Int
 loop:Int
 ins:List bG
 exits:List cW
 turn:cW
 back:cW
deriving DecidableEq
def iU (x:bG):List Int:=[x.a,x.b,x.c].take (cF x.op).asks.toNat
def opAt (t:aN) (v:Int):Int:=if 0≤v then((t.ins[v.toNat]?).map (·.op)).getD 0 else 0
def uX (op:Int):Bool:=op == 16 || op == 18
def beforeM (op:Int):Bool:=op == 1 || op == 2 || op == 3
def sG (ins:List bG) (loop a0 b0:Int):Bool:=
 let a:=min a0 b0
 let b:=max a0 b0
 if a<0 || (ins.length:Int)≤b || a == b then false else
 let x:=((ins[a.toNat]?).map (·.op)).getD 0
 let y:=((ins[b.toNat]?).map (·.op)).getD 0
 if !iC x || !iC y then false else
 if a<loop && loop≤b then uX x && uX y else uX y || (uX x && beforeM y)
theorem apartM_symm (ins:List bG) (loop a b:Int):sG ins loop a b=sG ins loop b a:=by
 unfold sG
 rw[Int.min_comm,Int.max_comm]
theorem apartM_self (ins:List bG) (loop a:Int):sG ins loop a a=false:=by
 simp[sG]
end
section
structure fE where
 op:Int
 a:Int
 b:Int
 c:Int
 line:Int
deriving DecidableEq
structure CFn where
 params:Int
 regs:Int
 gen:Bool
 caught:List Int
 code:List fE
deriving DecidableEq
structure aW where
 fns:List CFn
 consts:List Val
 texts:List ByteArray
structure gM where
 reg:Int
 at_:Int
deriving DecidableEq
def aK (n lo hi:Int):Bool:=decide (lo≤n) && decide (n≤hi)
theorem eS {n lo hi:Int} : aK n lo hi=true↔lo≤n∧n≤hi:=by simp[aK]
def j9:List (List UInt8):=[[],[114,107,45],[114,114,45],[114,114,114],[114,114,114],[114,114,114],[114,114,114],[114,114,114],[114,114,114],[114,114,114],[114,114,114],[114,114,45],[114,114,45],[97,45,45],[97,45,45],[114,97,45],[114,45,45],[114,114,116],[114,116,114],[114,108,110],[114,114,114],[114,114,114],[114,45,45],[114,114,45],[114,114,45],[114,117,45],[114,102,45],[114,99,110],[114,45,45],[114,45,45],[114,97,45],[45,45,45],[114,114,45],[114,45,45],[114,45,45],[114,114,45],[114,114,45],[114,45,45],[114,45,45]]
def kB (op:Int):List UInt8:=if op<1∨39≤op then [] else j9.getD op.toNat []
theorem qE (op:Int):kB op=[]∨∃x y z,kB op=[x,y,z]:=by
 unfold kB
 split
 ·exact .inl rfl
 ·rename_i h
  have hn:op.toNat<39:=by omega
  have:∀n:Nat,n<39→j9.getD n []=[]∨∃x y z,j9.getD n []=[x,y,z]:=by
   intro n hn
   have h2:∀l∈j9,l=[]∨∃x y z,l=[x,y,z]:=by
    unfold j9
    intro l hl
    simp only[List.mem_cons,List.not_mem_nil,or_false] at hl
    repeat (rcases hl with rfl | hl;first | exact .inl rfl | exact .inr ⟨_,_,_,rfl⟩)
   have hl:n<j9.length:=hn
   rw[List.getD_eq_getElem?_getD,lG hl]
   exact h2 _ (List.getElem_mem hl)
  exact this _ hn
def uO (f:CFn) (n:Int):Bool:=aK n 0 (f.regs - 1)
def cD (p:aW) (f:CFn) (c:UInt8) (n:Int):Bool:=
 if c=114 then uO f n
 else if c=107 then aK n 0 ((p.consts.length:Int) - 1)
 else if c=116 then aK n 0 ((p.texts.length:Int) - 1)
 else if c=97 then aK n 0 ((f.code.length:Int) - 1)
 else if c=117 then aK n 0 ((f.caught.length:Int) - 1)
 else if c=102 then aK n 1 ((p.fns.length:Int) - 1)
 else if c=108∨c=99∨c=110 then aK n 0 f.regs
 else n == 0
def qR (f g:CFn):Bool:=!(g.caught.any fun c=>!uO f c && !aK c (-(f.caught.length:Int)) (-1))
def mI (p:aW) (f:CFn) (i:fE):Bool:=
 match kB i.op with
 | [x,y,z]=>aK i.line 0 2000 && cD p f x i.a && cD p f y i.b && cD p f z i.c
 | _=>false
def gJ (p:aW) (f:CFn) (at_:Int) (i:fE):Bool:=
 mI p f i &&
 (if i.op=14 then decide (i.a≤at_)
 else if i.op=19 then decide (i.b+i.c≤f.regs)
 else if i.op=27 then uO f (i.b+i.c)
 else if i.op=26 then(match p.fns[i.b.toNat]? with | some g=>qR f g | none=>false)
 else if i.op=32 then f.gen
 else true)
end
section
open Go.RowKit
def lR (f:Form):Value:=.agg #[.int .i64 f.asks,.int .i64 f.low,.int .i64 f.high,.bool f.k,.bool f.tells,.int .i64 f.exit]
def OfPost (op:Int) (w:World) (e:Ending) (w':World):Prop:=e=.returned (.tuple #[lR (cF op),.bool (lU op)])∧Below w.heap.size w w'
theorem of_c (op:Int) (w:World):Calls Tryz.prog 55 #[.int .i64 op] w (OfPost op w):=by
 by_cases h:op=1∨op=2∨op=3∨op=4∨op=5∨op=6∨op=7∨op=8∨op=9∨op=10∨op=11∨op=12∨op=13∨op=14∨op=15∨op=16∨op=17∨op=18∨op=19
 ·rcases h with rfl | rfl | rfl | rfl | rfl | rfl | rfl | rfl | rfl | rfl | rfl | rfl | rfl | rfl | rfl | rfl | rfl | rfl | rfl
  all_goals
   go_enter Tryz.func55,Tryz.ntmps55
   go_wp2
   refine bodyPost_ret (v:=.tuple #[lR (cF _),.bool true]) (by simp[results,Tryz.results55,go_sem,lR,cF]) rfl ⟨rfl,?_⟩
   repeat (first | exact Below.refl _ _ | refine Below.drew ?_ | refine Below.setCell ?_ (by simp) _ | refine Below.alloc ?_ (by simp) _)
 ·have e1:cF op=⟨0,0,0,false,false,0⟩:=rY op h
  have e2:lU op=false:=aa4 op h
  have E1:=hI e1
  have E2:=hI e2
  clear e1 e2
  have n1:(op == 1)=false:=by simp;omega
  have n2:(op == 2)=false:=by simp;omega
  have n3:(op == 3)=false:=by simp;omega
  have n4:(op == 4)=false:=by simp;omega
  have n5:(op == 5)=false:=by simp;omega
  have n6:(op == 6)=false:=by simp;omega
  have n7:(op == 7)=false:=by simp;omega
  have n8:(op == 8)=false:=by simp;omega
  have n9:(op == 9)=false:=by simp;omega
  have n10:(op == 10)=false:=by simp;omega
  have n11:(op == 11)=false:=by simp;omega
  have n12:(op == 12)=false:=by simp;omega
  have n13:(op == 13)=false:=by simp;omega
  have n14:(op == 14)=false:=by simp;omega
  have n15:(op == 15)=false:=by simp;omega
  have n16:(op == 16)=false:=by simp;omega
  have n17:(op == 17)=false:=by simp;omega
  have n18:(op == 18)=false:=by simp;omega
  have n19:(op == 19)=false:=by simp;omega
  clear h
  go_enter Tryz.func55,Tryz.ntmps55
  go_wp2
  refine bodyPost_ret (v:=.tuple #[lR ⟨0,0,0,false,false,0⟩,.bool false]) (by simp[results,Tryz.results55,go_sem,lR]) rfl ⟨by rw[E1.out,E2.out],?_⟩
  repeat (first | exact Below.refl _ _ | refine Below.drew ?_ | refine Below.setCell ?_ (by simp) _ | refine Below.alloc ?_ (by simp) _)
end
section
open Go.ChangeShapes Go.WideShapes Go.ChangeAt Go.RowKit
def wfi (a:Int):Prop:=-9223372036854775808≤a∧a≤9223372036854775807
theorem wfi_of {a:Int} (h:(Lit.int .i64 a).wf=true):wfi a:=by
 simp[Lit.wf,IntKind.min,IntKind.max,IntKind.signed,IntKind.bits] at h
 exact⟨by omega,by omega⟩
theorem dP {w:World} {a:Addr} {v:Value} (h:w.cell? a=some v):a.block<w.heap.size:=by
 unfold World.cell? at h
 split at h
 ·rename_i hb
  exact(aE hb).1
 ·cases h
theorem abQ {w:World} {a:Addr} {v:Value} (h:w.cell? a=some v):a.spot=none:=by
 unfold World.cell? at h
 split at h
 ·split at h
  ·cases h
  ·rename_i hs
   simpa using hs
 ·cases h
def hJ (w:World) (b off:Nat) (cs:List Value):Prop:=∀j v,cs[j]? = some v→w.cell? ⟨b,off+j,none⟩=some v
def aH {α : Type} (w:World) (B size:Nat) (R:List Value→α→Prop) (v:Value) (xs:List α):Prop:=
 ∃A cap,v=.slice A xs.length cap∧xs.length≤cap∧cap≤maxLen∧
  (0<xs.length→∃b off,A=some ⟨b,off,none⟩∧b<B∧∀i x,xs[i]? = some x→∃cs,cs.length=size∧R cs x∧hJ w b (off+i*size) cs)
theorem hJ.keep {w w':World} {B b off:Nat} {cs:List Value} (h:hJ w b off cs) (hb:b<B) (hk:∀p:Addr,p.block<B→w'.cell? p=w.cell? p):hJ w' b off cs:=
 fun j v hj=>(hk _ hb).trans (h j v hj)
theorem aH.keep {α : Type} {w w':World} {B B' size:Nat} {R R':List Value→α→Prop} {v:Value} {xs:List α} (h:aH w B size R v xs) (hB:B≤B') (hk:∀p:Addr,p.block<B→w'.cell? p=w.cell? p)
  (hR:∀cs x,R cs x→R' cs x):aH w' B' size R' v xs:=by
 obtain⟨A,cap,h1,h2,h3,h4⟩:=h
 refine⟨A,cap,h1,h2,h3,fun hp=>?_⟩
 obtain⟨b,off,h5,h6,h7⟩:=h4 hp
 refine⟨b,off,h5,by omega,fun i x hi=>?_⟩
 obtain⟨cs,c1,c2,c3⟩:=h7 i x hi
 exact⟨cs,c1,hR cs x c2,c3.keep h6 hk⟩
theorem aH.at_ {α : Type} {w:World} {B size:Nat} {R:List Value→α→Prop} {A:Option Addr} {n cap:Nat} {xs:List α} (h:aH w B size R (.slice A n cap) xs) {i:Nat} (hi:i<xs.length) :
  ∃b off x cs,A=some ⟨b,off,none⟩∧b<B∧xs[i]? = some x∧cs.length=size∧R cs x∧hJ w b (off+i*size) cs:=by
 obtain⟨A',cap',h1,h2,h3,h4⟩:=h
 obtain⟨b,off,h5,h6,h7⟩:=h4 (by omega)
 injection h1 with e1 e2 e3
 have hx:xs[i]? = some xs[i]:=lG hi
 obtain⟨cs,c1,c2,c3⟩:=h7 i _ hx
 exact⟨b,off,xs[i],cs,by rw[e1,h5],h6,hx,c1,c2,c3⟩
theorem aH.len {α : Type} {w:World} {B size:Nat} {R:List Value→α→Prop} {A:Option Addr} {n cap:Nat} {xs:List α} (h:aH w B size R (.slice A n cap) xs):n=xs.length∧n≤cap∧cap≤maxLen:=by
 obtain⟨A',cap',h1,h2,h3,h4⟩:=h
 injection h1 with e1 e2 e3
 subst e2;subst e3
 exact⟨rfl,h2,h3⟩
theorem aH.nil {α : Type} (w:World) (B size:Nat) (R:List Value→α→Prop):aH w B size R (.slice none 0 0) []:=⟨none,0,rfl,Nat.le_refl _,by decide,by simp⟩
theorem aH.take {α : Type} {w:World} {B size:Nat} {R:List Value→α→Prop} {A:Option Addr} {n cap k:Nat} {xs:List α} (h:aH w B size R (.slice A n cap) xs) (hk:k≤n) :
  aH w B size R (.slice A k cap) (xs.take k):=by
 obtain⟨A',cap',h1,h2,h3,h4⟩:=h
 injection h1 with e1 e2 e3
 subst e1;subst e2;subst e3
 have hl:(xs.take k).length=k:=by simp;omega
 refine⟨A,cap,by rw[hl],by omega,h3,fun hp=>?_⟩
 obtain⟨b,off,h5,h6,h7⟩:=h4 (by omega)
 refine⟨b,off,h5,h6,fun i x hi=>h7 i x ?_⟩
 rw[List.getElem?_take] at hi
 split at hi
 ·exact hi
 ·cases hi
def hY (cs:List Value) (x:Int):Prop:=cs=[.int .i64 x]∧wfi x
section
variable {H:Type} {enc:TypeId×Value→H} {P:Program} {w:World} {spare:Nat→Bool} {held:Bool}
def eQ {α : Type} (enc:TypeId×Value→H) (P:Program) (w:World) (spare:Nat→Bool) (held:Bool) (t:TypeId) (R:List Value→α→Prop):Prop:=
 ∀(fuel:Nat) (cs:List Value) (x:DataW H×List MemPlace),DataW.trod enc P w 0 spare held fuel t cs=some x→cs.length=P.cellsOf t∧∃a,R cs a
theorem aaT {t:TypeId} (ht:P.underlying t=some (.int .i64)) (hc:P.cellsOf t=1):eQ enc P w spare held t hY:=by
 intro fuel cs x h
 obtain⟨n,rfl,_,hw⟩:=DataW.trod_int ht h
 exact⟨hc.symm,n,rfl,wfi_of hw⟩
def sP (cs:List Value) (x:Bool):Prop:=cs=[.bool x]
theorem xH {t:TypeId} (ht:P.underlying t=some .bool) (hc:P.cellsOf t=1):eQ enc P w spare held t sP:=by
 intro fuel cs x h
 obtain⟨n,rfl,_⟩:=DataW.trod_bool ht h
 exact⟨hc.symm,n,rfl⟩
def lV (cs:List Value) (s:ByteArray):Prop:=cs=[.string s]∧s.size≤maxLen
theorem uR {t:TypeId} (ht:P.underlying t=some .string) (hc:P.cellsOf t=1):eQ enc P w spare held t lV:=by
 intro fuel cs x h
 obtain⟨s,rfl,_,hs⟩:=DataW.trod_string ht h
 exact⟨hc.symm,s,rfl,hs⟩
theorem mL {α : Type} {len:Nat} {p:Nat→α→Prop} (h:∀i,i<len→∃x,p i x):∃xs:List α,xs.length=len∧∀i x,xs[i]? = some x→p i x:=by
 induction len with
 | zero=>exact⟨[],rfl,by simp⟩
 | succ n ih=>
  obtain⟨xss,h1,h2⟩:=ih (fun i hi=>h i (by omega))
  obtain⟨xs,h3⟩:=h n (by omega)
  refine⟨xss++[xs],by simp[h1],fun i ys hi=>?_⟩
  rcases Nat.lt_or_ge i xss.length with hl | hl
  ·rw[List.getElem?_append_left hl] at hi
   exact h2 i ys hi
  ·rw[List.getElem?_append_right hl] at hi
   have:i - xss.length=0:=by
    rcases Nat.eq_zero_or_pos (i - xss.length) with h0 | h0
    ·exact h0
    ·rw[List.getElem?_eq_none (by simp;omega)] at hi;cases hi
   rw[this] at hi
   simp at hi
   subst hi
   have:i=n:=by omega
   subst this
   exact h3
theorem eB {α : Type} {t e:TypeId} {R:List Value→α→Prop} {n:Nat} (ht:P.underlying t=some (.slice e)) (hn:P.cellsOf e=n) (hpos:0<n) (hc:P.cellsOf t=1)
  (he:eQ enc P w spare held e R):eQ enc P w spare held t (fun cs (xs:List α)=>∃v,cs=[v]∧aH w w.heap.size n R v xs):=by
 intro fuel cs x h
 rcases Deep.open_slice ht h with ⟨rfl,_⟩ | ⟨a,len,cap,m,n',D,Pl,rfl,hb,hl,hm,hmm,hx,hi⟩
 ·exact⟨hc.symm,[],_,rfl,aH.nil _ _ _ _⟩
 ·refine⟨hc.symm,?_⟩
  have hlm:len≤m:=by rw[hmm];split <;> omega
  obtain⟨xs,h1,h2⟩:=mL (len:=len) (p:=fun i (x : α)=>∃cs,cs.length=n∧R cs x∧∀j v,cs[j]? = some v→w.cell? (a.add (i*n+j))=some v) (fun i hil=>by
   obtain⟨cs',hc',ht'⟩:=hi i (by omega)
   rw[hn] at hc'
   obtain⟨_,hcl,hat⟩:=World.cells?_some hc'
   obtain⟨_,y,hy⟩:=he _ _ _ ht'
   refine⟨y,cs',hcl,hy,fun j v hj=>?_⟩
   have hjl:j<cs'.length:=(lE hj).1
   have hcell:=hat j (by omega)
   rw[←Go.Deep.add_add,hcell]
   exact hj)
  refine⟨xs,_,rfl,some a,cap,by rw[h1],by omega,hm,fun hp=>?_⟩
  have e0:xs[0]? = some xs[0]:=lG hp
  obtain⟨cs0,b1,b2,b3⟩:=h2 0 _ e0
  have e1:cs0[0]? = some (cs0[0]'(by omega)):=lG (by omega)
  have hc0:=b3 0 _ e1
  have hsp:=abQ hc0
  have hlt:=dP hc0
  simp[Addr.add] at hsp hlt
  obtain⟨b,off,sp⟩:=a
  simp at hsp hlt
  subst hsp
  refine⟨b,off,rfl,hlt,fun i x hi=>?_⟩
  obtain⟨cs,c1,c2,c3⟩:=h2 i x hi
  refine⟨cs,c1,c2,fun j v hj=>?_⟩
  have:=c3 j v hj
  rw[Addr.add] at this
  split at this
  ·rename_i h0
   rw[Nat.add_assoc,h0];exact this
  ·rw[Nat.add_assoc];exact this
theorem aS {α : Type} {t:TypeId} {fs:Array Field} {fuel:Nat} {cs:List Value} {x:DataW H×List MemPlace} (ht:P.underlying t=some (.struct fs)) (h:DataW.trod enc P w 0 spare held fuel t cs=some x)
  (i:Nat) (f:Field) (hf:fs[i]? = some f) {R:List Value→α→Prop} (ho:eQ enc P w spare held f.type R):∃a,R ((cs.drop f.offset).take (P.cellsOf f.type)) a:=by
 obtain⟨xs,m,rfl,_,hlen,hxl,hg⟩:=DataW.trod_struct ht h
 have h1:=hg i f hf
 have hi:i<fs.size:=(aE hf).1
 have h2:xs[i]? = some (xs[i]'(by omega)):=lG (by omega)
 rw[h2] at h1
 exact(ho _ _ _ h1).2
theorem fT {t:TypeId} {fs:Array Field} {fuel:Nat} {cs:List Value} {x:DataW H×List MemPlace} (ht:P.underlying t=some (.struct fs)) (h:DataW.trod enc P w 0 spare held fuel t cs=some x):cs.length=P.cellsOf t:=by
 obtain⟨xs,m,rfl,_,hlen,hxl,hg⟩:=DataW.trod_struct ht h
 exact hlen
end
end
section
open Go.RowKit
structure Up (w:World) where
 to:World
 below:Below w.heap.size w to
instance Up.some_ (w:World):Nonempty (Up w):=⟨⟨w,Below.refl _ _⟩⟩
theorem Up.cell {w:World} (E:Up w) {a:Addr} {v:Value} (h:w.cell? a=some v):E.to.cell? a=some v:=by
 have hlt:a.block<w.heap.size:=by
  unfold World.cell? at h
  split at h
  ·rename_i hb
   exact(aE hb).1
  ·cases h
 exact(E.below.cell hlt).trans h
section
variable {P:Program}
theorem aD {id:Nat} {Q:Exit→Act→World→Prop} {a:Act} {w:World} {l:List Oper} (hm:P.follows .mixedOrders=true) (hB:Region.lexB .any l.toArray=true)
  (h:wpQuiet P l.toArray (fun w'=>∃E:Up w,w'=E.to) (fun a'=>∀w',(∃E:Up w,w'=E.to)→Q .normal a' w') l a):(Code.region id l.toArray true).wp P Q a w:=
 wp_region_quiet (C:=fun w'=>∃E:Up w,w'=E.to) hm hB ⟨⟨_,(Below.refl _ w).drew⟩,rfl⟩ (by simpa using h)
theorem Calls.up {f:FuncId} {args:Array Value} {w:World} {E:Up w} {v:Value}
  (h:Calls P f args E.to fun e w'=>e=.returned v∧Below E.to.heap.size E.to w'):Calls P f args E.to fun e w''=>e=.returned v∧∃E':Up w,w''=E'.to:=
 h.mono fun _ w' ⟨he,hb⟩=>⟨he,⟨w',E.below.trans (hb.mono E.below.size)⟩,rfl⟩
theorem Calls.up_same {f:FuncId} {args:Array Value} {w:World} {E:Up w} {v:Value}
  (h:Calls P f args E.to fun e w'=>e=.returned v∧w'=E.to):Calls P f args E.to fun e w''=>e=.returned v∧∃E':Up w,w''=E'.to:=
 h.mono fun _ _ ⟨he,hb⟩=>⟨he,E,hb⟩
end
end
section
open Go.RowKit
theorem below_drewN {B:Nat} {a w:World} (h:Below B a w) (n:Nat):Below B a (w.drewN n):=⟨h.os,h.tape,h.output,h.size,h.block⟩
def aM (v:Value) (w:World) (e:Ending) (w':World):Prop:=e=.returned v∧Below w.heap.size w w'
theorem uK (op:Int) (w:World):Calls Tryz.prog 33 #[.int .i64 op] w (aM (.bool (iC op)) w):=by
 go_enter Tryz.func33,Tryz.ntmps33
 go_wp2_with fail
 refine(of_c op w).mono ?_
 rintro e w1 ⟨rfl,b1⟩
 have B1:=hI b1
 clear b1
 unfold lR
 go_wp2_with fail
 go_ret
 exact⟨rfl,by repeat (first | exact B1.out | refine Below.drew ?_ | refine Below.setCell ?_ (by have:=B1.out.size;simp;omega) _ | refine Below.alloc ?_ (by have:=B1.out.size;simp;omega) _)⟩
theorem sS {w:World} {base e:Nat} {v:Value} {xs:List Int} (h:w.ownsRow base e 1 v xs.length (xs.map (Value.int .i64))) (hw:∀x∈xs,wfi x):aH w w.heap.size 1 hY v xs:=by
 rcases h.2 with ⟨rfl,h0⟩ | ⟨g,cap,cur,rfl,hb,hg,h1,h2,h3,h4⟩
 ·have:xs=[]:=List.length_eq_zero_iff.1 h0
  subst this
  exact aH.nil _ _ _ _
 ·refine⟨_,cap,rfl,h1,h2,fun hp=>⟨g,0,rfl,(aE hg).1,fun i x hi=>⟨[.int .i64 x],rfl,⟨rfl,hw x (List.mem_of_getElem? hi)⟩,fun j u hj=>?_⟩⟩⟩
  have hj0:j=0:=by
   have:=(lE hj).1
   simp at this;omega
  subst hj0
  simp at hj
  subst hj
  have hi':i<xs.length:=(lE hi).1
  simp only[World.cell?,hg]
  simp only[Nat.mul_one,Nat.zero_add,Nat.add_zero,Option.isSome_none,Bool.false_eq_true,if_false]
  have h5:(cur.toList.take xs.length)[i]? = some (.int .i64 x):=by
   rw[Nat.mul_one] at h4
   rw[h4]
   simp[hi]
  rw[List.getElem?_take,if_pos hi'] at h5
  simpa using h5
theorem abA (v u:Value) (xs ys:List Int) (B:Nat) (w:World) (hx:aH w B 1 hY v xs) (hy:aH w B 1 hY u ys) :
  Calls Tryz.prog 31 #[v,u] w fun e w'=>e=.returned (.bool (decide (xs=ys)))∧w'=w:=by
 obtain⟨A,cap,rfl,hc1,hc2,_⟩:=id hx
 obtain⟨A',cap',rfl,hc1',hc2',_⟩:=id hy
 unfold maxLen at hc2 hc2'
 have HX:=hI hx
 have HY:=hI hy
 clear hx hy
 by_cases hl:xs.length=ys.length
 ·have hl1:xs.length≤ys.length:=by omega
  have hl2:ys.length≤xs.length:=by omega
  have hb1:((xs.length:Int) != (ys.length:Int))=false:=by simp;omega
  clear hl
  go_enter Tryz.func31,Tryz.ntmps31
  go_wp2_with fail
  go_loop [14] (fun k=>∃kn:Nat,k=.int .i64 kn∧kn≤xs.length∧Hid (xs.take kn=ys.take kn)) (fun k=>xs.length - (intOf k).toNat)
  case atStart=>exact⟨0,rfl,by omega,hI rfl⟩
  case round=>
   obtain⟨kn,rfl,hk,he⟩:=hrel
   by_cases hlt:kn<xs.length
   ·obtain⟨b,off,x,cs,rfl,hb,hx0,hcl,hR,hat⟩:=HX.out.at_ hlt
    obtain⟨b',off',y,cs',rfl,hb',hy0,hcl',hR',hat'⟩:=HY.out.at_ (i:=kn) (by omega)
    obtain⟨rfl,_⟩:=hR
    obtain⟨rfl,_⟩:=hR'
    have g0:w.cell? ⟨b,off+kn,none⟩=some (.int .i64 x):=by simpa using hat 0 _ rfl
    have g1:w.cell? ⟨b',off'+kn,none⟩=some (.int .i64 y):=by simpa using hat' 0 _ rfl
    have HX0:=hI hx0
    have HY0:=hI hy0
    clear hx0 hy0 hat hat' hcl hcl'
    by_cases hxy:x=y
    ·subst hxy
     go_wp2_with fail
     go_round
     case rel=>exact⟨kn+1,by go_num,by omega,hI (by rw[List.take_add_one,List.take_add_one,he.out,HX0.out,HY0.out])⟩
     case measure=>simp[intOf];omega
    ·have hne:(x == y)=false:=by simpa using hxy
     have hne2:(x != y)=true:=by simpa using hxy
     have HN:=hI hxy
     clear hxy
     go_wp2_with fail
     go_ret
     refine⟨?_,rfl⟩
     have:¬xs=ys:=fun e=>HN.out (by have h1:=HX0.out;rw[e,HY0.out] at h1;injection h1 with h1;exact h1.symm)
     simp[this]
   ·go_wp2_with fail
    go_ret
    refine⟨?_,rfl⟩
    have h1:xs=ys:=by
     have:=he.out
     rw[List.take_of_length_le (by omega),List.take_of_length_le (by omega)] at this
     exact this
    simp[h1]
 ·have hb1:((xs.length:Int) != (ys.length:Int))=true:=by simp;omega
  have HN:=hI hl
  clear hl
  go_enter Tryz.func31,Tryz.ntmps31
  go_wp2_with fail
  go_ret
  refine⟨?_,rfl⟩
  have:¬xs=ys:=fun e=>HN.out (by rw[e])
  simp[this]
end
section
open Go.RowKit
theorem zP {w0 wr:World} (hb:Below w0.heap.size w0 wr) (E:Up wr) {a:Addr} {v:Value} (h:w0.cell? a=some v):E.to.cell? a=some v:=E.cell ((hb.cell (dP h)).trans h)
theorem aC {w0 wr:World} (hb:Below w0.heap.size w0 wr) {a:Addr} {v:Value} (h:w0.cell? a=some v):wr.cell? a=some v:=(hb.cell (dP h)).trans h
theorem oV {w0 wr:World} (hb:Below w0.heap.size w0 wr) (E:Up wr):Below w0.heap.size w0 E.to:=hb.trans (E.below.mono hb.size)
theorem Below.then {B:Nat} {w0 w1 w2:World} (h:Below B w0 w1) (k:Below w1.heap.size w1 w2) (hB:B≤w1.heap.size):Below B w0 w2:=h.trans (k.mono hB)
theorem Below.next {w0 w1 w2:World} (h:Below w0.heap.size w0 w1) (k:Below w1.heap.size w1 w2):Below w0.heap.size w0 w2:=h.trans (k.mono h.size)
theorem bL (w:World) (A:Array Value) (t:TypeId) (i:Nat):(w.alloc (.cells A t)).cell? ⟨w.heap.size,i,none⟩=A[i]?:=World.cell?_alloc_at _ _ _ _ rfl
theorem iM {w:World} {a:Addr} {v:Value} (h:w.cell? a=some v) (o:Obj):(w.alloc o).cell? a=some v:=(World.cell?_alloc_lt _ _ _ (dP h)).trans h
theorem kK (w:World) (A:Array Value) (t:TypeId) (o:Obj) (i:Nat):((w.alloc (.cells A t)).alloc o).cell? ⟨w.heap.size,i,none⟩=A[i]?:=by
 rw[World.cell?_alloc_lt _ _ _ (by simp)];exact bL w A t i
theorem mM (w:World) (A:Array Value) (t:TypeId) (o:Obj) (i:Nat):((w.alloc o).alloc (.cells A t)).cell? ⟨w.heap.size+1,i,none⟩=A[i]?:=by
 have h:=bL (w.alloc o) A t i
 rwa [World.size_alloc] at h
theorem aB (w:World) (a:Obj):Below w.heap.size w (w.alloc a):=(Below.refl w.heap.size w).alloc (Nat.le_refl _) a
theorem bE (w:World) (a b:Obj):Below w.heap.size w ((w.alloc a).alloc b):=((Below.refl w.heap.size w).alloc (Nat.le_refl _) a).alloc (by simp) b
end
section
open Go.RowKit
def jU {α : Type} (p : α→Bool) (xs:List α):Int:=match xs.findIdx? p with
 | some i=>i
 | none=>-1
theorem fU {α : Type} {p : α→Bool} {xs:List α} {k:Nat} {x : α} (h:∀i x,i<k→xs[i]? = some x→p x=false) (hx:xs[k]? = some x) (hp:p x=true):jU p xs=k:=by
 have hl:k<xs.length:=(lE hx).1
 have e:xs.findIdx? p=some k:=by
  rw[List.findIdx?_eq_some_iff_getElem]
  refine⟨hl,?_,fun j hj=>?_⟩
  ·rw[lG hl] at hx;injection hx with hx;rw[hx];exact hp
  ·have:=h j xs[j] hj (lG (by omega))
   simp[this]
 simp[jU,e]
theorem e8 {α : Type} {p : α→Bool} {xs:List α} (h:∀(i:Nat) x,xs[i]? = some x→p x=false):jU p xs = -1:=by
 have e:xs.findIdx? p=none:=by
  rw[List.findIdx?_eq_none_iff]
  intro x hx
  obtain⟨i,hi⟩:=List.getElem?_of_mem hx
  exact h i x hi
 simp[jU,e]
theorem fV {α : Type} (p : α→Bool) (xs:List α):xs.any p=decide (0≤jU p xs):=by
 unfold jU
 split
 ·rename_i i hi
  obtain⟨h1,h2,_⟩:=List.findIdx?_eq_some_iff_getElem.1 hi
  rw[eq_comm];simp
  exact⟨xs[i],List.getElem_mem h1,h2⟩
 ·rename_i hi
  rw[List.findIdx?_eq_none_iff] at hi
  rw[eq_comm]
  simp
  exact fun x hx=>by simpa using hi x hx
theorem rW {α : Type} (R:List Value→α→Prop) (p : α→Bool) (A:Option Addr) (cap:Nat) (xs:List α) (fid:FuncId) (hen:∀args W,(callFunc fid args).run Tryz.prog W=.ok (.enter fid args) W) (caps:Array Value) (w:World) (hs:aH w w.heap.size 1 R (.slice A xs.length cap) xs)
  (hp:∀(w1:World),Below w.heap.size w w1→∀(x : α) (cs:List Value),x∈xs→R cs x→Calls Tryz.prog fid (cs.toArray++caps) w1 (aM (.bool (p x)) w1)) :
  Calls Tryz.prog 187 #[.slice A xs.length cap,.func (.func fid) #[] caps] w (aM (.int .i64 (jU p xs)) w):=by
 have HS:=hI hs
 have HP:=hI hp
 have hl:xs.length≤cap∧cap≤maxLen:=by obtain⟨A',c',e,e1,e2,-⟩:=hs;injection e with _ _ e3;subst e3;exact⟨e1,e2⟩
 obtain⟨hl1,hl0⟩:=hl
 unfold maxLen at hl0
 clear hs hp
 go_enter Tryz.func187,Tryz.ntmps187
 go_wp2_with fail
 go_loopw [8] (fun k wr=>∃kn:Nat,k=.int .i64 kn∧kn≤xs.length∧Hid (∀i x,i<kn→xs[i]? = some x→p x=false)∧Hid (Below w.heap.size w wr)) (fun k _=>xs.length - (RowKit.intOf k).toNat)
 case atStart=>exact⟨0,rfl,by omega,fun i x hi _=>by omega,Below.refl _ _⟩
 case round=>
  obtain⟨kn,rfl,hk,KP,KW⟩:=hrel
  by_cases hlt:kn<xs.length
  ·obtain⟨b,off,x,cs,rfl,hb,hx0,hcl,hR,hat⟩:=HS.out.at_ hlt
   match cs,hcl with
   | [c0],_=>
    have hi1:(kn:Int)<xs.length:=by omega
    have g0:wr.cell? ⟨b,off+kn,none⟩=some c0:=(KW.out.cell hb).trans (by simpa using hat 0 _ rfl)
    have HC:=hI (HP.out wr KW.out x _ (List.mem_of_getElem? hx0) hR)
    have HX:=hI hx0
    clear hx0 hat hR
    cases hpx:p x
    ·have HF:=hI hpx
     rw[hpx] at HC
     clear hpx
     go_wp2_with fail
     refine HC.out.mono ?_
     rintro e w2 ⟨rfl,k2⟩
     have K2:=hI (Below.trans KW.out (k2.mono KW.out.size))
     clear k2 g0
     go_wp2_with fail
     go_roundw
     case rel=>exact⟨kn+1,by go_num,by omega,fun i y hi hy=>by
      rcases Nat.lt_or_ge i kn with h | h
      ·exact KP.out i y h hy
      ·have:i=kn:=by omega
       subst this
       rw[HX.out] at hy
       injection hy with hy
       subst hy
       exact HF.out,K2⟩
     case measure=>simp[RowKit.intOf];omega
    ·have HF:=hI (fU KP.out HX.out hpx)
     rw[hpx] at HC
     clear hpx
     go_wp2_with fail
     refine HC.out.mono ?_
     rintro e w2 ⟨rfl,k2⟩
     have K2:=hI (Below.trans KW.out (k2.mono KW.out.size))
     clear k2 g0
     go_wp2_with fail
     go_ret
     exact⟨by rw[HF.out];rfl,K2.out⟩
  ·have HF:=hI (e8 (p:=p) (xs:=xs) (fun i x hi=>KP.out i x (by have:=(lE hi).1;omega) hi))
   go_wp2_with fail
   go_ret
   exact⟨by rw[HF.out];rfl,KW.out⟩
theorem oO {α : Type} (R:List Value→α→Prop) (p : α→Bool) (A:Option Addr) (cap:Nat) (xs:List α) (fid:FuncId) (hen:∀args W,(callFunc fid args).run Tryz.prog W=.ok (.enter fid args) W) (caps:Array Value) (w:World) (hs:aH w w.heap.size 1 R (.slice A xs.length cap) xs)
  (hp:∀(w1:World),Below w.heap.size w w1→∀(x : α) (cs:List Value),x∈xs→R cs x→Calls Tryz.prog fid (cs.toArray++caps) w1 (aM (.bool (p x)) w1)) :
  Calls Tryz.prog 180 #[.slice A xs.length cap,.func (.func fid) #[] caps] w (aM (.bool (xs.any p)) w):=by
 have HC:=hI (rW R p A cap xs fid hen caps w hs hp)
 have HB:=hI (fV p xs)
 clear hs hp hen
 go_enter Tryz.func180,Tryz.ntmps180
 go_wp2_with fail
 refine HC.out.mono ?_
 rintro e w1 ⟨rfl,k1⟩
 have K1:=hI k1
 clear k1
 go_wp2_with fail
 go_ret
 exact⟨by rw[HB.out];rfl,K1.out⟩
end
section
open Go.RowKit
def jS (x:bG):List Value:=[.int .i64 x.op,.int .i64 x.a,.int .i64 x.b,.int .i64 x.c,.int .i64 x.n,.int .i64 x.exit,.int .i64 x.k.kind,.int .i64 x.k.n]
def acY (x:bG):Value:=.agg #[.int .i64 x.op,.int .i64 x.a,.int .i64 x.b,.int .i64 x.c,.int .i64 x.n,.int .i64 x.exit,.int .i64 x.k.kind,.int .i64 x.k.n]
def uD (x:bG):Prop:=wfi x.op∧wfi x.a∧wfi x.b∧wfi x.c∧wfi x.n∧wfi x.exit∧wfi x.k.kind∧wfi x.k.n
theorem uW:(Tryz.prog.info? 3).map (fun i=>(i.zero,i.size,i.bytes))=some (some (.int .i64 0),1,8):=by kernel_rfl
theorem zQ (op:Int):0≤(cF op).asks∧(cF op).asks≤3∧((lU op)=false→(cF op).asks=0):=by
 by_cases h:lU op=true
 ·rcases nU h with h | h | h | h | h | h | h | h | h | h | h | h | h | h | h | h | h | h | h <;> subst h <;> decide
 ·have h':lU op=false:=by simpa using h
  have:=rY op (fun hc=>by simp only[lU,decide_eq_false_iff_not] at h';omega)
  rw[this]
  simp
def mW (xs:List Int) (w:World) (e:Ending) (w':World):Prop:=∃v,e=.returned v∧aH w' w'.heap.size 1 hY v xs∧Below w.heap.size w w'
theorem ab2 {W:World} {g:Nat} {a b c:Int} {t:TypeId} {fr:Nat×Nat} {k:Nat} (h:W.heap[g]? = some (.cells #[.int .i64 a,.int .i64 b,.int .i64 c] t fr)) :
  ∀j u,(([a,b,c].take k).map (Value.int .i64))[j]? = some u→W.cell? ((⟨g,0,none⟩:Addr).add j)=some u:=by
 intro j u hj
 rw[List.map_take,List.getElem?_take] at hj
 split at hj
 ·have hl:j<3:=by
   have:=(lE hj).1
   simpa using this
  match j,hl with
  | 0,_=>simpa [Addr.add,World.cell?,h] using hj
  | 1,_=>simpa [Addr.add,World.cell?,h] using hj
  | 2,_=>simpa [Addr.add,World.cell?,h] using hj
 ·cases hj
theorem aa2 {a b c:Int} {k:Nat} (hk:k≤3):(([a,b,c].take k).map (Value.int .i64)).length=k*1:=by simp;omega
theorem cQ (w:World) (o p:Obj):((w.alloc o).alloc p).heap[w.heap.size+1]? = some p:=by
 show((w.heap.push o).push p)[w.heap.size+1]? = _
 rw[Array.getElem?_push,if_pos (by simp)]
theorem acW (xs:List Int):∀u∈xs.map (Value.int .i64),u.oneCell'=true:=by
 intro u hu
 obtain⟨x,_,rfl⟩:=List.mem_map.1 hu
 rfl
theorem aaE {n:Nat} (h:n≤1000000):n≤maxLen:=by unfold maxLen;omega
theorem vO {n:Nat} (h:n≤1000000):n*8≤140737488355328:=by omega
theorem wM {w w5:World} (h:w.heap.size<w5.heap.size) (o p:Obj):w.heap.size≤((w5.alloc o).alloc p).heap.size:=by simp;omega
theorem abT {w w5:World} {o0:Obj} (h:Below (w.alloc o0).heap.size (w.alloc o0) w5) (hz:w.heap.size<w5.heap.size) (o p:Obj):Below w.heap.size w ((w5.alloc o).alloc p):=
 Below.alloc (Below.alloc ((Below.alloc (Below.refl _ _) (Nat.le_refl _) o0).trans (h.mono (by simp))) (by omega) o) (by simp;omega) p
theorem abV (x:bG) (h:(cF x.op).asks=0):iU x=[]:=by simp[iU,h]
theorem asks_c (x:bG) (hw:uD x) (w:World):Calls Tryz.prog 32 #[acY x] w (mW (iU x) w):=by
 obtain⟨op,a,b,c,n,ex,⟨kk,kn⟩⟩:=x
 obtain⟨w1,w2,w3,w4,_⟩:=hw
 simp only at w2 w3 w4
 unfold acY
 dsimp only
 obtain⟨h0,h3,hz⟩:=zQ op
 obtain⟨i0,hi,hz0,hz1,hz2⟩:=info_parts uW
 by_cases his:lU op=true
 ·have hml:iU ⟨op,a,b,c,n,ex,⟨kk,kn⟩⟩=[a,b,c].take (cF op).asks.toNat:=rfl
  have HM:=hI hml
  clear hml hz
  obtain⟨k,hk⟩:∃k:Nat,(cF op).asks=k:=⟨(cF op).asks.toNat,by omega⟩
  have hk3:k≤3:=by omega
  have hk3i:(k:Int)≤3:=by omega
  have HK:=hI hk
  go_enter Tryz.func32,Tryz.ntmps32
  go_wp2_with fail
  refine(of_c op _).mono ?_
  rintro e w5 ⟨rfl,b5⟩
  have g1:w5.cell? ⟨w.heap.size,1,none⟩=some (.int .i64 a):=(b5.cell (p:=⟨w.heap.size,1,none⟩) (by simp)).trans (World.cell?_alloc_at _ _ _ _ rfl)
  have g2:w5.cell? ⟨w.heap.size,2,none⟩=some (.int .i64 b):=(b5.cell (p:=⟨w.heap.size,2,none⟩) (by simp)).trans (World.cell?_alloc_at _ _ _ _ rfl)
  have g3:w5.cell? ⟨w.heap.size,3,none⟩=some (.int .i64 c):=(b5.cell (p:=⟨w.heap.size,3,none⟩) (by simp)).trans (World.cell?_alloc_at _ _ _ _ rfl)
  have B5:=hI b5
  have hz5:w.heap.size<w5.heap.size:=by have:=b5.size;simp at this;omega
  clear b5
  unfold lR
  rw[his,hk]
  clear hk his h0 h3
  go_wp2_with (at_builtin;refine wpList_append_own _ rfl _ _ 89 rfl w.heap.size 3 i0 (.int .i64 0) 1 8 Tryz.underlying89 hi hz0 hz1 hz2 rfl (by decide) (.slice none 0 0) 0 [] rfl (World.ownsRow_nil _ _ _ _) ⟨w5.heap.size+1,0,none⟩ k 3 (([a,b,c].take k).map (Value.int .i64)) rfl (aa2 hk3) (ab2 (cQ _ _ _)) (acW _) (aaE (by omega)) (vO (by omega)) (wM hz5 _ _) ?_)
  intro v w6 hown hg _
  have HO:=hI hown
  have HG:=hI hg
  clear hown hg
  go_wp2_with fail
  go_ret
  refine⟨v,rfl,?_,?_⟩
  ·rw[HM.out,HK.out]
   have:=HO.out
   have hlen:([a,b,c].take k).length=k:=by simp;omega
   refine sS (base:=w.heap.size) (e:=3) (xs:=[a,b,c].take k) ?_ ?_
   ·rw[hlen];simpa using this
   ·intro x hx
    have:=List.mem_of_mem_take hx
    simp at this
    rcases this with rfl | rfl | rfl <;> assumption
  ·have hb:=HG.out
   exact Below.grown (abT B5.out hz5 _ _) hb (wM hz5 _ _) (by simp[Value.ownBlock])
 ·have his':lU op=false:=by simpa using his
  have HN:=hI (abV ⟨op,a,b,c,n,ex,⟨kk,kn⟩⟩ (hz his'))
  clear hz his h0 h3
  go_enter Tryz.func32,Tryz.ntmps32
  go_wp2_with fail
  refine(of_c op _).mono ?_
  rintro e w5 ⟨rfl,b5⟩
  have B5:=hI b5
  clear b5
  unfold lR
  rw[his']
  clear his'
  go_wp2_with fail
  go_ret
  refine⟨_,rfl,?_,?_⟩
  ·rw[HN.out];exact aH.nil _ _ _ _
  ·refine Below.alloc ((Below.alloc (Below.refl _ _) (Nat.le_refl _) _).trans (B5.out.mono (by simp))) ?_ _
   have:=B5.out.size;simp at this;omega
end
section
open Go.RowKit
theorem aH.below {α : Type} {w w':World} {size:Nat} {R:List Value→α→Prop} {v:Value} {xs:List α} (h:aH w w.heap.size size R v xs) (hb:Below w.heap.size w w'):aH w' w'.heap.size size R v xs:=
 h.keep hb.size (fun _ hp=>hb.cell hp) (fun _ _ h=>h)
theorem ab6 (w:World) (t:TypeId):aH (w.alloc (.cells #[.int .i64 4,.int .i64 5,.int .i64 6] t)) (w.heap.size+1) 1 hY (.slice (some ⟨w.heap.size,0,none⟩) 3 3) [4,5,6]:=by
 refine⟨_,3,rfl,by simp,by decide,fun _=>⟨w.heap.size,0,rfl,by omega,fun i x hi=>⟨[.int .i64 x],rfl,⟨rfl,?_⟩,fun j v hj=>?_⟩⟩⟩
 ·have:=List.mem_of_getElem? hi
  simp at this
  rcases this with rfl | rfl | rfl <;> exact⟨by decide,by decide⟩
 ·have hj0:j=0:=by
   have:=(lE hj).1
   simp at this;omega
  subst hj0
  simp at hj
  subst hj
  have hi3:i<3:=by
   have:=(lE hi).1
   simpa using this
  rw[World.cell?_alloc_at _ _ _ _ rfl]
  match i,hi3 with
  | 0,_=>simpa using hi
  | 1,_=>simpa using hi
  | 2,_=>simpa using hi
def Irred (w:World) (e:Ending) (w':World):Prop:=e=.returned (.bool true)∧Below w.heap.size w w'
theorem irred_c (w:World):Calls Tryz.prog 14 #[] w (Irred w):=by
 have T1:=fun w'=>uK 13 w'
 have T2:=fun w'=>uK 11 w'
 have e1:iC 13=true:=by decide
 have e2:iC 11=false:=by decide
 rw[e1] at T1
 rw[e2] at T2
 have H1:=hI T1
 have H2:=hI T2
 clear e1 e2 T1 T2
 go_enter Tryz.func14,Tryz.ntmps14
 go_wp2_with fail
 refine(asks_c ⟨14,4,5,6,0,0,⟨0,0⟩⟩ (by unfold uD wfi;decide) _).mono ?_
 rintro e w1 ⟨v,rfl,hv,b1⟩
 have HV:=hI hv
 have B1:=hI b1
 clear hv b1
 go_wp2_with fail
 refine(abA v _ (iU ⟨14,4,5,6,0,0,⟨0,0⟩⟩) [4,5,6] _ _ (HV.out.keep (Nat.le_succ _) (fun p hp=>World.cell?_alloc_lt _ _ _ hp) (fun _ _ h=>h)) (ab6 w1 _)).mono ?_
 rw[show decide (iU ⟨14,4,5,6,0,0,⟨0,0⟩⟩=[4,5,6])=true from by decide]
 rintro e w2 ⟨rfl,rfl⟩
 go_wp2_with fail
 refine(H1.out _).mono ?_
 rintro e w3 ⟨rfl,b3⟩
 have B3:=hI b3
 clear b3
 go_wp2_with fail
 refine(H2.out _).mono ?_
 rintro e w4 ⟨rfl,b4⟩
 have B4:=hI b4
 clear b4
 go_wp2_with fail
 go_ret
 refine⟨rfl,?_⟩
 have hs1:=B1.out.size
 have hs3:=B3.out.size
 simp at hs3
 exact((B1.out.alloc hs1 _).trans (B3.out.mono (by simp;omega))).trans (B4.out.mono (by omega))
end
section
open Go.RowKit
def wR (cs:List Value) (x:bG):Prop:=cs=jS x∧uD x
theorem rN {w:World} {B:Nat} {A:Option Addr} {n cap:Nat} {xs:List bG} (h:aH w B 8 wR (.slice A n cap) xs) {i:Nat} (hi:i<xs.length) :
  ∃b off x,A=some ⟨b,off,none⟩∧b<B∧xs[i]? = some x∧uD x∧hJ w b (off+i*8) (jS x):=by
 obtain⟨b,off,x,cs,h1,h2,h3,_,⟨rfl,h4⟩,h5⟩:=h.at_ hi
 exact⟨b,off,x,h1,h2,h3,h4,h5⟩
end
section
open Go.ChangeShapes Go.WideShapes Go.ChangeAt Go.RowKit
def SetR (cs:List Value) (x:pS):Prop:=cs=[.int .i64 x.reg,.int .i64 x.val]∧wfi x.reg∧wfi x.val
def sM (w:World) (B:Nat) (cs:List Value) (m:fZ):Prop:=∃v,cs=[.int .i64 m.cell,.int .i64 m.kind,.int .i64 m.num,v]∧aH w B 1 hY v m.vals∧wfi m.cell∧wfi m.kind∧wfi m.num
def gF (w:World) (B:Nat) (cs:List Value) (x:cW):Prop:=∃s m,cs=[.int .i64 x.at_,.int .i64 x.steps,s,m]∧aH w B 2 SetR s x.sets∧aH w B 4 (sM w B) m x.makes∧wfi x.at_∧wfi x.steps
def cT (w:World) (B:Nat) (cs:List Value) (t:aN):Prop:=
 ∃i e ct cb,cs=[.int .i64 t.fn,.int .i64 t.at_,.int .i64 t.loop,i,e]++ct++cb∧aH w B 8 wR i t.ins∧aH w B 4 (gF w B) e t.exits∧gF w B ct t.turn∧gF w B cb t.back∧wfi t.fn∧wfi t.at_∧wfi t.loop
theorem sM.keep {w w':World} {B B':Nat} {cs:List Value} {m:fZ} (h:sM w B cs m) (hB:B≤B') (hk:∀p:Addr,p.block<B→w'.cell? p=w.cell? p):sM w' B' cs m:=by
 obtain⟨v,h1,h2,h3⟩:=h
 exact⟨v,h1,h2.keep hB hk (fun _ _ h=>h),h3⟩
theorem gF.keep {w w':World} {B B':Nat} {cs:List Value} {x:cW} (h:gF w B cs x) (hB:B≤B') (hk:∀p:Addr,p.block<B→w'.cell? p=w.cell? p):gF w' B' cs x:=by
 obtain⟨s,m,h1,h2,h3,h4⟩:=h
 exact⟨s,m,h1,h2.keep hB hk (fun _ _ h=>h),h3.keep hB hk (fun _ _ h=>h.keep hB hk),h4⟩
theorem cT.keep {w w':World} {B B':Nat} {cs:List Value} {t:aN} (h:cT w B cs t) (hB:B≤B') (hk:∀p:Addr,p.block<B→w'.cell? p=w.cell? p):cT w' B' cs t:=by
 obtain⟨i,e,ct,cb,h1,h2,h3,h4,h5,h6⟩:=h
 exact⟨i,e,ct,cb,h1,h2.keep hB hk (fun _ _ h=>h),h3.keep hB hk (fun _ _ h=>h.keep hB hk),h4.keep hB hk,h5.keep hB hk,h6⟩
theorem cT.below {w w':World} {cs:List Value} {t:aN} (h:cT w w.heap.size cs t) (hb:Below w.heap.size w w'):cT w' w'.heap.size cs t:=
 h.keep hb.size (fun _ hp=>hb.cell hp)
section
variable {H:Type} {enc:TypeId×Value→H} {w:World} {spare:Nat→Bool} {held:Bool}
theorem tC:Tryz.prog.cellsOf 3=1:=by kernel_rfl
theorem cVal:Tryz.prog.cellsOf 48=2:=by kernel_rfl
theorem cIns:Tryz.prog.cellsOf 92=8:=by kernel_rfl
theorem cSet:Tryz.prog.cellsOf 66=2:=by kernel_rfl
theorem cMake:Tryz.prog.cellsOf 181=4:=by kernel_rfl
theorem ad1:Tryz.prog.cellsOf 32=4:=by kernel_rfl
theorem cTrace:Tryz.prog.cellsOf 34=13:=by kernel_rfl
theorem adY:Tryz.prog.cellsOf 89=1:=by kernel_rfl
theorem cSIns:Tryz.prog.cellsOf 27=1:=by kernel_rfl
theorem cSSet:Tryz.prog.cellsOf 29=1:=by kernel_rfl
theorem adX:Tryz.prog.cellsOf 30=1:=by kernel_rfl
theorem adZ:Tryz.prog.cellsOf 28=1:=by kernel_rfl
theorem eT:eQ enc Tryz.prog w spare held 3 hY:=aaT Tryz.underlying3 tC
theorem xJ:eQ enc Tryz.prog w spare held 89 (fun cs (xs:List Int)=>∃v,cs=[v]∧aH w w.heap.size 1 hY v xs):=eB Tryz.underlying89 tC (by decide) adY eT
def hU (cs:List Value) (x:Val):Prop:=cs=[.int .i64 x.kind,.int .i64 x.n]∧wfi x.kind∧wfi x.n
theorem o_val:eQ enc Tryz.prog w spare held 48 hU:=by
 intro fuel cs x h
 have hl:=fT Tryz.underlying48 h
 refine⟨hl,?_⟩
 rw[cVal] at hl
 obtain⟨a,ha⟩:=aS Tryz.underlying48 h 0 _ rfl eT
 obtain⟨b,hb⟩:=aS Tryz.underlying48 h 1 _ rfl eT
 match cs,hl with
 | [c0,c1],_=>
  simp only[List.getElem_toArray,List.getElem_cons_zero,List.getElem_cons_succ,tC,hY,List.drop_zero,List.take_succ_cons,List.take_zero,List.drop_succ_cons,List.cons.injEq,and_true] at ha hb
  obtain⟨rfl,wa⟩:=ha
  obtain⟨rfl,wb⟩:=hb
  exact⟨⟨a,b⟩,rfl,wa,wb⟩
theorem o_set:eQ enc Tryz.prog w spare held 66 SetR:=by
 intro fuel cs x h
 have hl:=fT Tryz.underlying66 h
 refine⟨hl,?_⟩
 rw[cSet] at hl
 obtain⟨a,ha⟩:=aS Tryz.underlying66 h 0 _ rfl eT
 obtain⟨b,hb⟩:=aS Tryz.underlying66 h 1 _ rfl eT
 match cs,hl with
 | [c0,c1],_=>
  simp only[List.getElem_toArray,List.getElem_cons_zero,List.getElem_cons_succ,tC,hY,List.drop_zero,List.take_succ_cons,List.take_zero,List.drop_succ_cons,List.cons.injEq,and_true] at ha hb
  obtain⟨rfl,wa⟩:=ha
  obtain⟨rfl,wb⟩:=hb
  exact⟨⟨a,b⟩,rfl,wa,wb⟩
theorem o_ins:eQ enc Tryz.prog w spare held 92 wR:=by
 intro fuel cs x h
 have hl:=fT Tryz.underlying92 h
 refine⟨hl,?_⟩
 rw[cIns] at hl
 obtain⟨a0,h0⟩:=aS Tryz.underlying92 h 0 _ rfl eT
 obtain⟨a1,h1⟩:=aS Tryz.underlying92 h 1 _ rfl eT
 obtain⟨a2,h2⟩:=aS Tryz.underlying92 h 2 _ rfl eT
 obtain⟨a3,h3⟩:=aS Tryz.underlying92 h 3 _ rfl eT
 obtain⟨a4,h4⟩:=aS Tryz.underlying92 h 4 _ rfl eT
 obtain⟨a5,h5⟩:=aS Tryz.underlying92 h 5 _ rfl eT
 obtain⟨k,hk⟩:=aS Tryz.underlying92 h 6 _ rfl o_val
 match cs,hl with
 | [c0,c1,c2,c3,c4,c5,c6,c7],_=>
  simp only[List.getElem_toArray,List.getElem_cons_zero,List.getElem_cons_succ,tC,cVal,hY,hU,List.drop_zero,List.take_succ_cons,List.take_zero,List.drop_succ_cons,List.cons.injEq,and_true] at h0 h1 h2 h3 h4 h5 hk
  obtain⟨rfl,w0⟩:=h0
  obtain⟨rfl,w1⟩:=h1
  obtain⟨rfl,w2⟩:=h2
  obtain⟨rfl,w3⟩:=h3
  obtain⟨rfl,w4⟩:=h4
  obtain⟨rfl,w5⟩:=h5
  obtain⟨⟨rfl,rfl⟩,w6,w7⟩:=hk
  exact⟨⟨a0,a1,a2,a3,a4,a5,k⟩,rfl,w0,w1,w2,w3,w4,w5,w6,w7⟩
theorem o_sets:eQ enc Tryz.prog w spare held 29 (fun cs (xs:List pS)=>∃v,cs=[v]∧aH w w.heap.size 2 SetR v xs):=eB Tryz.underlying29 cSet (by decide) cSSet o_set
theorem o_inss:eQ enc Tryz.prog w spare held 27 (fun cs (xs:List bG)=>∃v,cs=[v]∧aH w w.heap.size 8 wR v xs):=eB Tryz.underlying27 cIns (by decide) cSIns o_ins
theorem o_make:eQ enc Tryz.prog w spare held 181 (sM w w.heap.size):=by
 intro fuel cs x h
 have hl:=fT Tryz.underlying181 h
 refine⟨hl,?_⟩
 rw[cMake] at hl
 obtain⟨a0,h0⟩:=aS Tryz.underlying181 h 0 _ rfl eT
 obtain⟨a1,h1⟩:=aS Tryz.underlying181 h 1 _ rfl eT
 obtain⟨a2,h2⟩:=aS Tryz.underlying181 h 2 _ rfl eT
 obtain⟨a3,v,h3,hs⟩:=aS Tryz.underlying181 h 3 _ rfl xJ
 match cs,hl with
 | [c0,c1,c2,c3],_=>
  simp only[List.getElem_toArray,List.getElem_cons_zero,List.getElem_cons_succ,tC,adY,hY,List.drop_zero,List.take_succ_cons,List.take_zero,List.drop_succ_cons,List.cons.injEq,and_true] at h0 h1 h2 h3
  obtain⟨rfl,w0⟩:=h0
  obtain⟨rfl,w1⟩:=h1
  obtain⟨rfl,w2⟩:=h2
  subst h3
  exact⟨⟨a0,a1,a2,a3⟩,_,rfl,hs,w0,w1,w2⟩
theorem o_makes:eQ enc Tryz.prog w spare held 30 (fun cs (xs:List fZ)=>∃v,cs=[v]∧aH w w.heap.size 4 (sM w w.heap.size) v xs):=eB Tryz.underlying30 cMake (by decide) adX o_make
theorem xK:eQ enc Tryz.prog w spare held 32 (gF w w.heap.size):=by
 intro fuel cs x h
 have hl:=fT Tryz.underlying32 h
 refine⟨hl,?_⟩
 rw[ad1] at hl
 obtain⟨a0,h0⟩:=aS Tryz.underlying32 h 0 _ rfl eT
 obtain⟨a1,h1⟩:=aS Tryz.underlying32 h 1 _ rfl eT
 obtain⟨a2,v,h2,hs⟩:=aS Tryz.underlying32 h 2 _ rfl o_sets
 obtain⟨a3,u,h3,hm⟩:=aS Tryz.underlying32 h 3 _ rfl o_makes
 match cs,hl with
 | [c0,c1,c2,c3],_=>
  simp only[List.getElem_toArray,List.getElem_cons_zero,List.getElem_cons_succ,tC,cSSet,adX,hY,List.drop_zero,List.take_succ_cons,List.take_zero,List.drop_succ_cons,List.cons.injEq,and_true] at h0 h1 h2 h3
  obtain⟨rfl,w0⟩:=h0
  obtain⟨rfl,w1⟩:=h1
  subst h2;subst h3
  exact⟨⟨a0,a1,a2,a3⟩,_,_,rfl,hs,hm,w0,w1⟩
theorem o_exits:eQ enc Tryz.prog w spare held 28 (fun cs (xs:List cW)=>∃v,cs=[v]∧aH w w.heap.size 4 (gF w w.heap.size) v xs):=eB Tryz.underlying28 ad1 (by decide) adZ xK
theorem o_trace:eQ enc Tryz.prog w spare held 34 (cT w w.heap.size):=by
 intro fuel cs x h
 have hl:=fT Tryz.underlying34 h
 refine⟨hl,?_⟩
 rw[cTrace] at hl
 obtain⟨a0,h0⟩:=aS Tryz.underlying34 h 0 _ rfl eT
 obtain⟨a1,h1⟩:=aS Tryz.underlying34 h 1 _ rfl eT
 obtain⟨a2,h2⟩:=aS Tryz.underlying34 h 2 _ rfl eT
 obtain⟨a3,v,h3,hs⟩:=aS Tryz.underlying34 h 3 _ rfl o_inss
 obtain⟨a4,u,h4,hm⟩:=aS Tryz.underlying34 h 4 _ rfl o_exits
 obtain⟨a5,h5⟩:=aS Tryz.underlying34 h 5 _ rfl xK
 obtain⟨a6,h6⟩:=aS Tryz.underlying34 h 6 _ rfl xK
 match cs,hl with
 | [c0,c1,c2,c3,c4,c5,c6,c7,c8,c9,c10,c11,c12],_=>
  simp only[List.getElem_toArray,List.getElem_cons_zero,List.getElem_cons_succ,tC,cSIns,adZ,ad1,hY,List.drop_zero,List.take_succ_cons,List.take_zero,List.drop_succ_cons,List.cons.injEq,and_true] at h0 h1 h2 h3 h4 h5 h6
  obtain⟨rfl,w0⟩:=h0
  obtain⟨rfl,w1⟩:=h1
  obtain⟨rfl,w2⟩:=h2
  subst h3;subst h4
  exact⟨⟨a0,a1,a2,a3,a4,a5,a6⟩,_,_,_,_,rfl,hs,hm,h5,h6,w0,w1,w2⟩
theorem open_trace {v:Value} {d:DataW H} {ps:List MemPlace} {r:Reach} {b0:Nat} (hv:Value.okWide Tryz.prog w r b0 34 v) (h:DataW.Trod enc Tryz.prog w 0 spare held 34 v d ps):∃cs t,v=.agg ⟨cs⟩∧cT w w.heap.size cs t:=by
 obtain⟨cs,rfl,_⟩:=okWide_struct Tryz.underlying34 hv
 obtain⟨fuel,hf⟩:=h
 obtain⟨_,t,ht⟩:=o_trace _ _ _ hf
 exact⟨cs.toList,t,rfl,ht⟩
end
end
section
open Go.RowKit
def iA (cs:List Value) (x:fE):Prop:=cs=[.int .i64 x.op,.int .i64 x.a,.int .i64 x.b,.int .i64 x.c,.int .i64 x.line]∧wfi x.op∧wfi x.a∧wfi x.b∧wfi x.c∧wfi x.line
def FnR (w:World) (B:Nat) (cs:List Value) (f:CFn):Prop:=
 ∃A n C m,cs=[.int .i64 f.params,.int .i64 f.regs,.bool f.gen,.slice A f.caught.length n,.slice C f.code.length m]∧aH w B 1 hY (.slice A f.caught.length n) f.caught∧aH w B 5 iA (.slice C f.code.length m) f.code∧wfi f.params∧wfi f.regs
def eL (w:World) (B:Nat) (cs:List Value) (p:aW):Prop:=
 ∃A n C m D k,cs=[.slice A p.fns.length n,.slice C p.consts.length m,.slice D p.texts.length k]∧aH w B 5 (FnR w B) (.slice A p.fns.length n) p.fns∧aH w B 2 hU (.slice C p.consts.length m) p.consts∧aH w B 1 lV (.slice D p.texts.length k) p.texts
def fC (w:World) (B:Nat) (cs:List Value) (p:aW) (f:CFn):Prop:=∃pc fc,cs=pc++fc∧eL w B pc p∧FnR w B fc f
theorem FnR.keep {w w':World} {B B':Nat} {cs:List Value} {f:CFn} (h:FnR w B cs f) (hB:B≤B') (hk:∀p:Addr,p.block<B→w'.cell? p=w.cell? p):FnR w' B' cs f:=by
 obtain⟨A,n,C,m,h1,h2,h3,h4⟩:=h
 exact⟨A,n,C,m,h1,h2.keep hB hk (fun _ _ h=>h),h3.keep hB hk (fun _ _ h=>h),h4⟩
theorem eL.keep {w w':World} {B B':Nat} {cs:List Value} {p:aW} (h:eL w B cs p) (hB:B≤B') (hk:∀p:Addr,p.block<B→w'.cell? p=w.cell? p):eL w' B' cs p:=by
 obtain⟨A,n,C,m,D,k,h1,h2,h3,h4⟩:=h
 exact⟨A,n,C,m,D,k,h1,h2.keep hB hk (fun _ _ h=>h.keep hB hk),h3.keep hB hk (fun _ _ h=>h),h4.keep hB hk (fun _ _ h=>h)⟩
theorem fC.keep {w w':World} {B B':Nat} {cs:List Value} {p:aW} {f:CFn} (h:fC w B cs p f) (hB:B≤B') (hk:∀p:Addr,p.block<B→w'.cell? p=w.cell? p):fC w' B' cs p f:=by
 obtain⟨pc,fc,h1,h2,h3⟩:=h
 exact⟨pc,fc,h1,h2.keep hB hk,h3.keep hB hk⟩
theorem aP {α : Type} {w:World} {B size:Nat} {R:List Value→α→Prop} {A:Option Addr} {n cap:Nat} {xs:List α} (h:aH w B size R (.slice A n cap) xs):n≤9223372036854775807:=by
 obtain⟨h1,h2,h3⟩:=h.len
 unfold maxLen at h3
 omega
theorem dR (n lo hi:Int) (w:World):Calls Tryz.prog 156 #[.int .i64 n,.int .i64 lo,.int .i64 hi] w fun e w'=>e=.returned (.bool (aK n lo hi))∧w=w':=by
 unfold aK
 obtain⟨r,hr⟩:∃r:Bool,(decide (lo≤n) && decide (n≤hi))=r:=⟨_,rfl⟩
 rw[hr]
 by_cases h:lo≤n
 ·have hr':decide (n≤hi)=r:=by rw[←hr];simp[h]
  have HR:=hI hr'
  clear hr hr'
  go_enter Tryz.func156,Tryz.ntmps156
  go_wp2
  go_ret
  exact⟨by rw[←HR.out];rfl,rfl⟩
 ·have hr':false=r:=by rw[←hr];simp[h]
  subst hr'
  have h':decide (lo≤n)=false:=by simpa using h
  clear hr
  go_enter Tryz.func156,Tryz.ntmps156
  go_wp2
  go_ret
  exact⟨rfl,rfl⟩
theorem xO (cs:List Value) (p:aW) (f:CFn) (n:Int) (w:World) (h:fC w w.heap.size cs p f) (hr:1≤f.regs) :
  Calls Tryz.prog 158 #[.agg ⟨cs⟩,.int .i64 n] w (aM (.bool (uO f n)) w):=by
 obtain⟨pc,fc,rfl,⟨A1,n1,A2,n2,A3,n3,rfl,-⟩,⟨A4,n4,A5,n5,rfl,-,-,-,w1,w2⟩⟩:=h
 unfold uO
 go_enter Tryz.func158,Tryz.ntmps158
 go_wp2_with fail
 refine(dR _ _ _ _).mono ?_
 rintro e w' ⟨rfl,rfl⟩
 go_wp2_with fail
 go_ret
 exact⟨rfl,aB w _⟩
theorem lat_c (cs:List Value) (p:aW) (f:CFn) (n:Int) (w:World) (h:fC w w.heap.size cs p f) :
  Calls Tryz.prog 179 #[.agg ⟨cs⟩,.int .i64 n] w (aM (.bool (aK n 0 ((f.code.length:Int) - 1))) w):=by
 obtain⟨pc,fc,rfl,⟨A1,n1,A2,n2,A3,n3,rfl,-⟩,⟨A4,n4,A5,n5,rfl,-,h5,-⟩⟩:=h
 have hl:=aP h5
 clear h5
 go_enter Tryz.func179,Tryz.ntmps179
 go_wp2_with fail
 refine(dR _ _ _ _).mono ?_
 rintro e w' ⟨rfl,rfl⟩
 go_wp2_with fail
 go_ret
 exact⟨rfl,aB w _⟩
theorem ltext_c (cs:List Value) (p:aW) (f:CFn) (n:Int) (w:World) (h:fC w w.heap.size cs p f) :
  Calls Tryz.prog 178 #[.agg ⟨cs⟩,.int .i64 n] w (aM (.bool (aK n 0 ((p.texts.length:Int) - 1))) w):=by
 obtain⟨pc,fc,rfl,⟨A1,n1,A2,n2,A3,n3,rfl,-,-,h5⟩,⟨A4,n4,A5,n5,rfl,-⟩⟩:=h
 have hl:=aP h5
 clear h5
 go_enter Tryz.func178,Tryz.ntmps178
 go_wp2_with fail
 refine(dR _ _ _ _).mono ?_
 rintro e w' ⟨rfl,rfl⟩
 go_wp2_with fail
 go_ret
 exact⟨rfl,aB w _⟩
end
section
open Go.RowKit
theorem rkZ{w w':World}{g:Nat}{o:Obj}(h:Hid (w.heap[g]? = some o))(k:Below w.heap.size w w'):Hid (w'.heap[g]? = some o):=(k.block _ (Array.getElem?_eq_some_iff.1 h.out).1).trans h.out
theorem btZ{a b c:World}(h:Hid (Below a.heap.size a b))(k:Below b.heap.size b c):Hid (Below a.heap.size a c):=h.out.trans (k.mono h.out.size)
theorem crZ{w:World}{g:Nat}{cs:List Value}{t:TypeId}{v:Value}(h:Hid (w.heap[g]? = some (.cells ⟨cs⟩ t (0,0))))(i:Nat)(hv:cs[i]? = some v):w.cell? ⟨g,i,none⟩ = some v:=by
 rw[cell_of_row w g i _ _ _ h.out];simpa using hv
theorem fzZ{w:World}{g:Nat}{cs:Array Value}{t:TypeId}(h:Hid (w.heap[g]? = some (.cells cs t (0,0))))(i:Nat):w.frozen? ⟨g,i,none⟩ = false:=frozen_of_row w g i _ _ h.out
theorem rrZ{w:World}{g:Nat}{cs:List Value}{t:TypeId}(h:Hid (w.heap[g]? = some (.cells ⟨cs⟩ t (0,0)))):Hid (w.rangeAt g 0 cs):=fun j v hv=>by rw[Nat.zero_add];exact crZ h j hv
theorem soZ{w w':World}{g k:Nat}{c:Array Value}{o:Obj}(hw:w.setRow g c=w')(h:Hid (w.heap[k]? = some o))(hk:k≠g):Hid (w'.heap[k]? = some o):=by
 rw[←hw];exact(setRow_other _ _ _ _ hk).trans h.out
theorem shZ{w w':World}{g:Nat}{cs old:Array Value}{t:TypeId}{f:Nat×Nat}(hw:w.setRow g cs=w')(h:Hid (w.heap[g]? = some (.cells old t f))):Hid (w'.heap[g]? = some (.cells cs t f)):=by
 rw[←hw];exact setRow_heap _ _ _ _ _ _ h.out
theorem k_{w w':World}{o:Obj}(h:w'=w.alloc o):Hid (Below w.heap.size w w'):=by rw[h];exact aB _ _
theorem h_{w w':World}{o:Obj}(h:w'=w.alloc o):Hid (w'.heap[w.heap.size]? = some o):=by rw[h];show(w.heap.push o)[w.heap.size]? = some o;simp
theorem g_{w w':World}{g:Nat}{cs:List Value}{t:TypeId}(h:w'=w.alloc (.cells ⟨cs⟩ t)):Hid (w'.rangeAt w.heap.size 0 cs):=fun j v hv=>by rw[h,Nat.zero_add];exact(bL w ⟨cs⟩ t j).trans (by simpa using hv)
theorem ecZ{w:World}{a:Addr}{v:Value}(h:w.cell? a = some v):∀E:Up w,E.to.cell? a = some v:=fun E=>E.cell h
end
end Go.Proofs.YtjaphgpkkfdaaaaGreatDoor
