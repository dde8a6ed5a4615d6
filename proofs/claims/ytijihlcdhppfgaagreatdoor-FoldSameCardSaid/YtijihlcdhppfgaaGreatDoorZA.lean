/- A part of the walk. -/
import Derived.Test.YtijihlcdhppfgaaGreatDoorProg
import Derived.WalkKit
import Derived.Lib.Hide
import Derived.WalkLawsBesides
import Derived.Deep.QuietTactic
import Derived.BigQuiet
import Derived.ProofKit
import Derived.OpenShut
import Derived.Deep.Slices
import Derived.WalkSpells
import Derived.Deep.MidRow
set_option maxHeartbeats 16000000
set_option maxRecDepth 100000
set_option linter.all false
namespace Go.Proofs.YtijihlcdhppfgaaGreatDoor
open Tryz
theorem _root_.Go.RowKit.Hid.o{p:Prop}(h:Go.RowKit.Hid p):p:=h.out
theorem oCz{cs:List Value}(h:∀v∈cs,v.oneCell' = true):cs.toArray.all (·.oneCell') = true:=all_oneCell_toArray h
theorem bF{α:Type}[BEq α][LawfulBEq α]{a b:α}(h:a≠b):(a==b) = false:=beq_eq_false_iff_ne.2 h
theorem lM{α:Type}{l:List α}{i:Nat}{a:α}(h:l[i]? = some a):a∈l:=List.mem_of_getElem? h
theorem hI{p:Prop}(h:p):Go.RowKit.Hid p:=Go.Lib.hid h
theorem aE{α:Type}{l:Array α}{i:Nat}{a:α}(h:l[i]? = some a):∃ h:i<l.size,l[i] = a:=Array.getElem?_eq_some_iff.1 h
theorem lE{α:Type}{l:List α}{i:Nat}{a:α}(h:l[i]? = some a):∃ h:i<l.length,l[i] = a:=List.getElem?_eq_some_iff.1 h
theorem lG{α:Type}{l:List α}{i:Nat}(h:i<l.length):l[i]? = some l[i]:=List.getElem?_eq_getElem h
section
structure Form where
 asks:Int
 low:Int
 high:Int
 k:Bool
 tells:Bool
 exit:Int
deriving DecidableEq
def bP (op:Int):Form:=
 if op=1 then⟨0,0,1073741824,false,true,0⟩
 else if op=2 then⟨0,0,0,true,true,0⟩
 else if op=3 then⟨0,0,0,false,true,0⟩
 else if op=4 then⟨1,0,6,false,false,2⟩
 else if op=5 then⟨1,0,1,false,false,2⟩
 else if op=6 then⟨1,0,0,true,false,2⟩
 else if op=7 then⟨2,3,10,false,true,1⟩
 else if op=8 then⟨1,11,12,false,true,1⟩
 else if op=9 then⟨1,1,7,false,false,2⟩
 else if op=10 then⟨1,0,99,false,true,0⟩
 else if op=11 then⟨2,0,99,false,false,0⟩
 else if op=12 then⟨2,1,1073741824,false,false,2⟩
 else if op=13 then⟨2,0,0,false,true,2⟩
 else if op=14 then⟨3,0,0,false,false,2⟩
 else if op=15 then⟨1,0,0,false,true,0⟩
 else if op=16 then⟨0,1,3,false,true,2⟩
 else if op=17 then⟨2,0,0,false,false,1⟩
 else if op=18 then⟨0,0,0,false,true,2⟩
 else if op=19 then⟨0,1,1073741824,false,false,2⟩
 else⟨0,0,0,false,false,0⟩
def mD (op:Int):Bool:=decide (1<=op/\op<=19)
theorem wW (op:Int) (h:¬(op=1\/op=2\/op=3\/op=4\/op=5\/op=6\/op=7\/op=8\/op=9\/op=10\/op=11\/op=12\/op=13\/op=14\/op=15\/op=16\/op=17\/op=18\/op=19)):bP op=⟨0,0,0,false,false,0⟩:=by unfold bP;repeat (rw[if_neg (by omega)])
theorem agL (op:Int) (h:¬(op=1\/op=2\/op=3\/op=4\/op=5\/op=6\/op=7\/op=8\/op=9\/op=10\/op=11\/op=12\/op=13\/op=14\/op=15\/op=16\/op=17\/op=18\/op=19)):mD op=false:=by simp only[mD,decide_eq_false_iff_not];omega
def dZ (op:Int):Bool:=(bP op).tells
theorem rK {op:Int} (h:mD op=true):op=1\/op=2\/op=3\/op=4\/op=5\/op=6\/op=7\/op=8\/op=9\/op=10\/op=11\/op=12\/op=13\/op=14\/op=15\/op=16\/op=17\/op=18\/op=19:=by simp only[mD,decide_eq_true_eq] at h;omega
structure Val where
 kind:Int
 n:Int
deriving DecidableEq
structure aT where
 op:Int
 a:Int
 b:Int
 c:Int
 n:Int
 exit:Int
 k:Val
deriving DecidableEq
structure oL where
 reg:Int
 val:Int
deriving DecidableEq
structure dX where
 cell:Int
 kind:Int
 num:Int
 vals:List Int
deriving DecidableEq
structure bX where
 at_:Int
 steps:Int
 sets:List oL
 makes:List dX
deriving DecidableEq
structure aH where
 fn:Int
 at_:Int
 loop:Int
 ins:List aT
 exits:List bX
 turn:bX
 back:bX
deriving DecidableEq
def bU (x:aT):List Int:=[x.a,x.b,x.c].take (bP x.op).asks.toNat
end
section
structure hP where
 op:Int
 a:Int
 b:Int
 c:Int
 line:Int
deriving DecidableEq
structure CFn where
 params:Int
 regs:Int
 gen:Bool
 caught:List Int
 code:List hP
deriving DecidableEq
structure aZ where
 fns:List CFn
 consts:List Val
 texts:List ByteArray
structure iV where
 reg:Int
 at_:Int
deriving DecidableEq
def aL (n lo hi:Int):Bool:=decide (lo<=n) && decide (n<=hi)
theorem gQ {n d hi:Int} : aL n d hi=true↔d<=n/\n<=hi:=by simp[aL]
def nG:List (List UInt8):=[[],[114,107,45],[114,114,45],[114,114,114],[114,114,114],[114,114,114],[114,114,114],[114,114,114],[114,114,114],[114,114,114],[114,114,114],[114,114,45],[114,114,45],[97,45,45],[97,45,45],[114,97,45],[114,45,45],[114,114,116],[114,116,114],[114,108,110],[114,114,114],[114,114,114],[114,45,45],[114,114,45],[114,114,45],[114,117,45],[114,102,45],[114,99,110],[114,45,45],[114,45,45],[114,97,45],[45,45,45],[114,114,45],[114,45,45],[114,45,45],[114,114,45],[114,114,45],[114,45,45],[114,45,45]]
def mI (op:Int):List UInt8:=if op<1\/39<=op then [] else nG.getD op.toNat []
theorem uQ (op:Int):mI op=[]\/∃x y z,mI op=[x,y,z]:=by
 unfold mI;split;·exact .inl rfl
 ·rename_i h;have d:op.toNat<39:=by omega
  have:∀n:Nat,n<39->nG.getD n []=[]\/∃x y z,nG.getD n []=[x,y,z]:=by intro n d;have f:∀l∈nG,l=[]\/∃x y z,l=[x,y,z]:=(by unfold nG;intro l hl;simp only[List.mem_cons,List.not_mem_nil,or_false] at hl;repeat (rcases hl with rfl | hl;first | exact .inl rfl | exact .inr ⟨_,_,_,rfl⟩));have hl:n<nG.length:=d;rw[List.getD_eq_getElem?_getD,lG hl];exact f _ (List.getElem_mem hl)
  exact this _ d
def aaA (f:CFn) (n:Int):Bool:=aL n 0 (f.regs - 1)
def dJ (p:aZ) (f:CFn) (c:UInt8) (n:Int):Bool:=
 if c=114 then aaA f n
 else if c=107 then aL n 0 ((p.consts.length:Int) - 1)
 else if c=116 then aL n 0 ((p.texts.length:Int) - 1)
 else if c=97 then aL n 0 ((f.code.length:Int) - 1)
 else if c=117 then aL n 0 ((f.caught.length:Int) - 1)
 else if c=102 then aL n 1 ((p.fns.length:Int) - 1)
 else if c=108\/c=99\/c=110 then aL n 0 f.regs
 else n == 0
def vF (f g:CFn):Bool:=!(g.caught.any λc=>!aaA f c && !aL c (-(f.caught.length:Int)) (-1))
def pE (p:aZ) (f:CFn) (i:hP):Bool:=
 match mI i.op with
 | [x,y,z]=>aL i.line 0 2000 && dJ p f x i.a && dJ p f y i.b && dJ p f z i.c
 | _=>false
def jE (p:aZ) (f:CFn) (at_:Int) (i:hP):Bool:=
 pE p f i &&
 (if i.op=14 then decide (i.a<=at_)
 else if i.op=19 then decide (i.b+i.c<=f.regs)
 else if i.op=27 then aaA f (i.b+i.c)
 else if i.op=26 then(match p.fns[i.b.toNat]? with | some g=>vF f g | none=>false)
 else if i.op=32 then f.gen
 else true)
end
section
open Go.RowKit
def nH (f:Form):Value:=.agg #[.int .i64 f.asks,.int .i64 f.low,.int .i64 f.high,.bool f.k,.bool f.tells,.int .i64 f.exit]
def akS (op:Int) (w:World) (e:Ending) (w':World):Prop:=e=.returned (.tuple #[nH (bP op),.bool (mD op)])/\Below w.heap.size w w'
theorem aiH (op:Int) (w:World):Calls prog 30 #[.int .i64 op] w (akS op w):=by
 by_cases h:op=1\/op=2\/op=3\/op=4\/op=5\/op=6\/op=7\/op=8\/op=9\/op=10\/op=11\/op=12\/op=13\/op=14\/op=15\/op=16\/op=17\/op=18\/op=19;·rcases h with rfl | rfl | rfl | rfl | rfl | rfl | rfl | rfl | rfl | rfl | rfl | rfl | rfl | rfl | rfl | rfl | rfl | rfl | rfl;all_goals go_enter func30,ntmps30;go_wp2;refine bodyPost_ret (v:=.tuple #[nH (bP _),.bool true]) (by simp[results,results30,go_sem,nH,bP]) rfl ⟨rfl,?_⟩;repeat (first | exact Below.refl _ _ | refine Below.drew ?_ | refine Below.setCell ?_ (by simp) _ | refine Below.alloc ?_ (by simp) _)
 ·have d:bP op=⟨0,0,0,false,false,0⟩:=wW op h;have f:mD op=false:=agL op h;have g:=hI d;have j:=hI f;clear d f;have D:(op == 1)=false:=by simp;omega
  have E:(op == 2)=false:=by simp;omega
  have F:(op == 3)=false:=by simp;omega
  have G:(op == 4)=false:=by simp;omega
  have H:(op == 5)=false:=by simp;omega
  have I:(op == 6)=false:=by simp;omega
  have J:(op == 7)=false:=by simp;omega
  have K:(op == 8)=false:=by simp;omega
  have L:(op == 9)=false:=by simp;omega
  have l:(op == 10)=false:=by simp;omega
  have p:(op == 11)=false:=by simp;omega
  have q:(op == 12)=false:=by simp;omega
  have r:(op == 13)=false:=by simp;omega
  have s:(op == 14)=false:=by simp;omega
  have u:(op == 15)=false:=by simp;omega
  have x:(op == 16)=false:=by simp;omega
  have y:(op == 17)=false:=by simp;omega
  have z:(op == 18)=false:=by simp;omega
  have A:(op == 19)=false:=by simp;omega
  clear h;go_enter func30,ntmps30;go_wp2;refine bodyPost_ret (v:=.tuple #[nH ⟨0,0,0,false,false,0⟩,.bool false]) (by simp[results,results30,go_sem,nH]) rfl ⟨by rw[g.o,j.o],?_⟩;repeat (first | exact Below.refl _ _ | refine Below.drew ?_ | refine Below.setCell ?_ (by simp) _ | refine Below.alloc ?_ (by simp) _)
end
section
open Go.ChangeShapes Go.WideShapes Go.ChangeAt Go.RowKit
def wfi (a:Int):Prop:=-9223372036854775808<=a/\a<=9223372036854775807
theorem wfi_of {a:Int} (h:(Lit.int .i64 a).wf=true):wfi a:=by simp[Lit.wf,IntKind.min,IntKind.max,IntKind.signed,IntKind.bits] at h;exact⟨by omega,by omega⟩
theorem eL {w:World} {a:Addr} {v:Value} (h:w.cell? a=some v):a.block<w.heap.size:=by
 unfold World.cell? at h;split at h;·rename_i hb;exact(aE hb).1
 ·cases h
theorem zS {w:World} {a:Addr} {v:Value} (h:w.cell? a=some v):a.spot=none:=by
 unfold World.cell? at h;split at h
 ·split at h;·cases h
  ·rename_i d;simpa using d
 ·cases h
def jY (w:World) (b off:Nat) (cs:List Value):Prop:=∀j v,cs[j]? = some v->w.cell? ⟨b,off+j,none⟩=some v
def aB {α : Type} (w:World) (B size:Nat) (R:List Value->α->Prop) (v:Value) (xs:List α):Prop:=
 ∃A cap,v=.slice A xs.length cap/\xs.length<=cap/\cap<=maxLen/\
  (0<xs.length->∃b off,A=some ⟨b,off,none⟩/\b<B/\∀i x,xs[i]? = some x->∃cs,cs.length=size/\R cs x/\jY w b (off+i*size) cs)
theorem jY.keep {w w':World} {B b d:Nat} {cs:List Value} (h:jY w b d cs) (hb:b<B) (g:∀p:Addr,p.block<B->w'.cell? p=w.cell? p):jY w' b d cs:= λj v f=>(g _ hb).trans (h j v f)
theorem aB.keep {α : Type} {w w':World} {B B' size:Nat} {R R':List Value->α->Prop} {v:Value} {xs:List α} (h:aB w B size R v xs) (hB:B<=B') (E:∀p:Addr,p.block<B->w'.cell? p=w.cell? p) (F:∀cs x,R cs x->R' cs x):aB w' B' size R' v xs:=by obtain⟨A,d,h1,g,j,l⟩:=h;refine⟨A,d,h1,g,j,λD=>?_⟩;obtain⟨b,f,q,r,s⟩:=l D;refine⟨b,f,q,by omega,λi x hi=>?_⟩;obtain⟨cs,u,y,z⟩:=s i x hi;exact⟨cs,u,F cs x y,z.keep r E⟩
theorem aB.at_ {α : Type} {w:World} {B size:Nat} {R:List Value->α->Prop} {A:Option Addr} {n g:Nat} {xs:List α} (h:aB w B size R (.slice A n g) xs) {i:Nat} (hi:i<xs.length) : ∃b d x cs,A=some ⟨b,d,none⟩/\b<B/\xs[i]? = some x/\cs.length=size/\R cs x/\jY w b (d+i*size) cs:=by
 obtain⟨z,j,h1,D,E,l⟩:=h;obtain⟨b,d,p,q,r⟩:=l (by omega);injection h1 with y F G
 have f:xs[i]? = some xs[i]:=lG hi;obtain⟨cs,s,u,v⟩:=r i _ f;exact⟨b,d,xs[i],cs,by rw[y,p],q,f,s,u,v⟩
theorem aB.len {α : Type} {w:World} {B size:Nat} {R:List Value->α->Prop} {A:Option Addr} {n d:Nat} {xs:List α} (h:aB w B size R (.slice A n d) xs):n=xs.length/\n<=d/\d<=maxLen:=by
 obtain⟨q,f,h1,g,j,r⟩:=h;injection h1 with s l p
 subst l;subst p;exact⟨rfl,g,j⟩
theorem aB.nil {α : Type} (w:World) (B size:Nat) (R:List Value->α->Prop):aB w B size R (.slice none 0 0) []:=⟨none,0,rfl,Nat.le_refl _,by decide,by simp⟩
theorem aB.take {α : Type} {w:World} {B size:Nat} {R:List Value->α->Prop} {A:Option Addr} {n d k:Nat} {xs:List α} (h:aB w B size R (.slice A n d) xs) (E:k<=n) : aB w B size R (.slice A k d) (xs.take k):=by
 obtain⟨y,g,h1,z,j,l⟩:=h;injection h1 with s u v
 subst s;subst u;subst v;have hl:(xs.take k).length=k:=by simp;omega
 refine⟨A,d,by rw[hl],by omega,j,λD=>?_⟩;obtain⟨b,f,p,q,r⟩:=l (by omega);refine⟨b,f,p,q,λi x hi=>r i x ?_⟩;rw[List.getElem?_take] at hi;split at hi;·exact hi
 ·cases hi
def gB (cs:List Value) (x:Int):Prop:=cs=[.int .i64 x]/\wfi x
section
variable {H:Type} {enc:TypeId×Value->H} {P:Program} {w:World} {spare:Nat->Bool} {held:Bool}
def dS {α : Type} (enc:TypeId×Value->H) (P:Program) (w:World) (spare:Nat->Bool) (held:Bool) (t:TypeId) (R:List Value->α->Prop):Prop:=
 ∀(fuel:Nat) (cs:List Value) (x:DataW H×List MemPlace),DataW.trod enc P w 0 spare held fuel t cs=some x->cs.length=P.cellsOf t/\∃a,R cs a
theorem af6 {t:TypeId} (ht:P.underlying t=some (.int .i64)) (g:P.cellsOf t=1):dS enc P w spare held t gB:=by intro f cs x h;obtain⟨n,rfl,_,d⟩:=DataW.trod_int ht h;exact⟨g.symm,n,rfl,wfi_of d⟩
def xS (cs:List Value) (x:Bool):Prop:=cs=[.bool x]
theorem ac5 {t:TypeId} (ht:P.underlying t=some .bool) (f:P.cellsOf t=1):dS enc P w spare held t xS:=by intro d cs x h;obtain⟨n,rfl,_⟩:=DataW.trod_bool ht h;exact⟨f.symm,n,rfl⟩
def nM (cs:List Value) (s:ByteArray):Prop:=cs=[.string s]/\s.size<=maxLen
theorem aaE {t:TypeId} (ht:P.underlying t=some .string) (g:P.cellsOf t=1):dS enc P w spare held t nM:=by intro f cs x h;obtain⟨s,rfl,_,d⟩:=DataW.trod_string ht h;exact⟨g.symm,s,rfl,d⟩
theorem pL {α : Type} {len:Nat} {p:Nat->α->Prop} (h:∀i,i<len->∃x,p i x):∃xs:List α,xs.length=len/\∀i x,xs[i]? = some x->p i x:=by
 induction len with
 | zero=>exact⟨[],rfl,by simp⟩
 | succ n ih=>
  obtain⟨d,h1,f⟩:=ih (λi hi=>h i (by omega))
  obtain⟨xs,g⟩:=h n (by omega)
  refine⟨d++[xs],by simp[h1],λi j hi=>?_⟩
  rcases Nat.lt_or_ge i d.length with hl | hl
  ·rw[List.getElem?_append_left hl] at hi
   exact f i j hi
  ·rw[List.getElem?_append_right hl] at hi
   have:i - d.length=0:=by
    rcases Nat.eq_zero_or_pos (i - d.length) with h0 | h0
    ·exact h0
    ·rw[List.getElem?_eq_none (by simp;omega)] at hi;cases hi
   rw[this] at hi
   simp at hi
   subst hi
   have:i=n:=by omega
   subst this
   exact g
theorem cO {α : Type} {t e:TypeId} {R:List Value->α->Prop} {n:Nat} (ht:P.underlying t=some (.slice e)) (Z:P.cellsOf e=n) (a0:0<n) (H:P.cellsOf t=1) (he:dS enc P w spare held e R):dS enc P w spare held t (λcs (xs:List α)=>∃v,cs=[v]/\aB w w.heap.size n R v xs):=by
 intro X cs x h;rcases Deep.open_slice ht h with ⟨rfl,_⟩ | ⟨a,len,I,m,n',D,Pl,rfl,hb,hl,hm,J,hx,hi⟩;·exact⟨H.symm,[],_,rfl,aB.nil _ _ _ _⟩
 ·refine⟨H.symm,?_⟩;have a4:len<=m:=by rw[J];split <;> omega
  obtain⟨xs,h1,z⟩:=pL (len:=len) (p:=λi (x : α)=>∃cs,cs.length=n/\R cs x/\∀j v,cs[j]? = some v->w.cell? (a.add (i*n+j))=some v) (λi a6=>by obtain⟨r,s,A⟩:=hi i (by omega);rw[Z] at s;obtain⟨_,E,F⟩:=World.cells?_some s;obtain⟨_,y,M⟩:=he _ _ _ A;refine⟨y,r,E,M,λj v l=>?_⟩;have a5:j<r.length:=(lE l).1;have g:=F j (by omega);rw[<-Go.Deep.add_add,g];exact l);refine⟨xs,_,rfl,some a,I,by rw[h1],by omega,hm,λY=>?_⟩;have K:xs[0]? = some xs[0]:=lG Y;obtain⟨u,b1,b2,N⟩:=z 0 _ K;have L:u[0]? = some (u[0]'(by omega)):=lG (by omega);have q:=N 0 _ L;have d:=zS q;have f:=eL q;simp[Addr.add] at d f;obtain⟨b,G,sp⟩:=a;simp at d f;subst d;refine⟨b,G,rfl,f,λi x hi=>?_⟩;obtain⟨cs,O,S,V⟩:=z i x hi;refine⟨cs,O,S,λj v l=>?_⟩;have:=V j v l;rw[Addr.add] at this;split at this;·rename_i h0;rw[Nat.add_assoc,h0];exact this
  ·rw[Nat.add_assoc];exact this
theorem aI {α : Type} {t:TypeId} {d:Array Field} {g:Nat} {cs:List Value} {x:DataW H×List MemPlace} (ht:P.underlying t=some (.struct d)) (h:DataW.trod enc P w 0 spare held g t cs=some x) (i:Nat) (f:Field) (hf:d[i]? = some f) {R:List Value->α->Prop} (q:dS enc P w spare held f.type R):∃a,R ((cs.drop f.offset).take (P.cellsOf f.type)) a:=by obtain⟨xs,m,rfl,_,l,r,p⟩:=DataW.trod_struct ht h;have h1:=p i f hf;have hi:i<d.size:=(aE hf).1;have j:xs[i]? = some (xs[i]'(by omega)):=lG (by omega);rw[j] at h1;exact(q _ _ _ h1).2
theorem dV {t:TypeId} {g:Array Field} {f:Nat} {cs:List Value} {x:DataW H×List MemPlace} (ht:P.underlying t=some (.struct g)) (h:DataW.trod enc P w 0 spare held f t cs=some x):cs.length=P.cellsOf t:=by obtain⟨xs,m,rfl,_,d,j,l⟩:=DataW.trod_struct ht h;exact d
end
end
section
open Go.RowKit
structure Up (w:World) where
 to:World
 below:Below w.heap.size w to
instance Up.some_ (w:World):Nonempty (Up w):=⟨⟨w,Below.refl _ _⟩⟩
theorem Up.cell {w:World} (E:Up w) {a:Addr} {v:Value} (h:w.cell? a=some v):E.to.cell? a=some v:=by
 have d:a.block<w.heap.size:=by
  unfold World.cell? at h;split at h;·rename_i hb;exact(aE hb).1
  ·cases h
 exact(E.below.cell d).trans h
section
variable {P:Program}
theorem aD {id:Nat} {Q:Exit->Act->World->Prop} {a:Act} {w:World} {l:List Oper} (f:P.follows .mixedOrders=true) (hB:Region.lexB .any l.toArray=true) (h:wpQuiet P l.toArray (λw'=>∃E:Up w,w'=E.to) (λd=>∀w',(∃E:Up w,w'=E.to)->Q .normal d w') l a):(Code.region id l.toArray true).wp P Q a w:= wp_region_quiet (C:=λw'=>∃E:Up w,w'=E.to) f hB ⟨⟨_,(Below.refl _ w).drew⟩,rfl⟩ (by simpa using h)
theorem Calls.up {f:FuncId} {args:Array Value} {w:World} {E:Up w} {v:Value} (h:Calls P f args E.to λe w'=>e=.returned v/\Below E.to.heap.size E.to w'):Calls P f args E.to λe d=>e=.returned v/\∃j:Up w,d=j.to:= h.mono λ_ w' ⟨g,hb⟩=>⟨g,⟨w',E.below.trans (hb.mono E.below.size)⟩,rfl⟩
theorem Calls.up_same {f:FuncId} {args:Array Value} {w:World} {E:Up w} {v:Value} (h:Calls P f args E.to λe w'=>e=.returned v/\w'=E.to):Calls P f args E.to λe d=>e=.returned v/\∃j:Up w,d=j.to:= h.mono λ_ _ ⟨g,hb⟩=>⟨g,E,hb⟩
end
end
section
open Go.RowKit
def aK (v:Value) (w:World) (e:Ending) (w':World):Prop:=e=.returned v/\Below w.heap.size w w'
theorem zX (op:Int) (w:World):Calls prog 26 #[.int .i64 op] w (aK (.bool (dZ op)) w):=by go_enter func26,ntmps26;go_wp2_with fail;refine(aiH op w).mono ?_;rintro e w1 ⟨rfl,b1⟩;have d:=hI b1;clear b1;unfold nH;go_wp2_with fail;go_ret;exact⟨rfl,by repeat (first | exact d.o | refine Below.drew ?_ | refine Below.setCell ?_ (by have:=d.o.size;simp;omega) _ | refine Below.alloc ?_ (by have:=d.o.size;simp;omega) _)⟩
theorem qQ {w:World} {base e:Nat} {v:Value} {xs:List Int} (h:w.ownsRow base e 1 v xs.length (xs.map (Value.int .i64))) (z:∀x∈xs,wfi x):aB w w.heap.size 1 gB v xs:=by
 rcases h.2 with ⟨rfl,A⟩ | ⟨g,q,r,rfl,hb,s,h1,D,F,y⟩;·have:xs=[]:=List.length_eq_zero_iff.1 A;subst this;exact aB.nil _ _ _ _
 ·refine⟨_,q,rfl,h1,D,λE=>⟨g,0,rfl,(aE s).1,λi x hi=>⟨[.int .i64 x],rfl,⟨rfl,z x (lM hi)⟩,λj u d=>?_⟩⟩⟩;have f:j=0:=by have:=(lE d).1;simp at this;omega
  subst f;simp at d;subst d;have l:i<xs.length:=(lE hi).1;simp only[World.cell?,s];simp only[Nat.mul_one,Nat.zero_add,Nat.add_zero,Option.isSome_none,Bool.false_eq_true,if_false];have p:(r.toList.take xs.length)[i]? = some (.int .i64 x):=by rw[Nat.mul_one] at y;rw[y];simp[hi]
  rw[List.getElem?_take,if_pos l] at p;simpa using p
theorem zJ (v u:Value) (xs d:List Int) (B:Nat) (w:World) (F:aB w B 1 gB v xs) (G:aB w B 1 gB u d) : Calls prog 25 #[v,u] w λe w'=>e=.returned (.bool (decide (xs=d)))/\w'=w:=by
 obtain⟨A,a1,rfl,a2,I,_⟩:=id F;obtain⟨A',S,rfl,V,z,_⟩:=id G;unfold maxLen at I z;have O:=hI F;have P:=hI G;clear F G;by_cases hl:xs.length=d.length
 ·have Y:xs.length<=d.length:=by omega
  have Z:d.length<=xs.length:=by omega
  have H:((xs.length:Int) != (d.length:Int))=false:=by simp;omega
  clear hl;go_enter func25,ntmps25;go_wp2_with fail;go_loop [14] (λk=>∃f:Nat,k=.int .i64 f/\f<=xs.length/\Hid (xs.take f=d.take f)) (λk=>xs.length - (intOf k).toNat);case atStart=>exact⟨0,rfl,by omega,hI rfl⟩
  case round=>
   obtain⟨f,rfl,hk,J⟩:=hrel;by_cases N:f<xs.length
   ·obtain⟨b,K,x,cs,rfl,hb,p,L,X,q⟩:=O.o.at_ N;obtain⟨b',D,y,a3,rfl,a4,r,E,M,h⟩:=P.o.at_ (i:=f) (by omega);obtain⟨rfl,_⟩:=X;obtain⟨rfl,_⟩:=M;have g0:w.cell? ⟨b,K+f,none⟩=some (.int .i64 x):=(by simpa using q 0 _ rfl);have g1:w.cell? ⟨b',D+f,none⟩=some (.int .i64 y):=(by simpa using h 0 _ rfl);have j:=hI p;have l:=hI r;clear p r q h L E;by_cases g:x=y
    ·subst g;go_wp2_with fail;go_round;case rel=>exact⟨f+1,by go_num,by omega,hI (by rw[List.take_add_one,List.take_add_one,J.o,j.o,l.o])⟩
     case measure=>simp[intOf];omega
    ·have a0:(x == y)=false:=(by simpa using g);have R:(x != y)=true:=(by simpa using g);have s:=hI g;clear g;go_wp2_with fail;go_ret;refine⟨?_,rfl⟩;have:¬xs=d:=λe=>s.o (by have h1:=j.o;rw[e,l.o] at h1;injection h1 with h1;exact h1.symm);simp[this]
   ·go_wp2_with fail;go_ret;refine⟨?_,rfl⟩;have h1:xs=d:=(by have:=J.o;rw[List.take_of_length_le (by omega),List.take_of_length_le (by omega)] at this;exact this);simp[h1]
 ·have H:((xs.length:Int) != (d.length:Int))=true:=by simp;omega
  have s:=hI hl;clear hl;go_enter func25,ntmps25;go_wp2_with fail;go_ret;refine⟨?_,rfl⟩;have:¬xs=d:=λe=>s.o (by rw[e]);simp[this]
end
section
open Go.RowKit
theorem vE {w0 wr:World} (hb:Below w0.heap.size w0 wr) (E:Up wr) {a:Addr} {v:Value} (h:w0.cell? a=some v):E.to.cell? a=some v:=E.cell ((hb.cell (eL h)).trans h)
theorem aC {w0 wr:World} (hb:Below w0.heap.size w0 wr) {a:Addr} {v:Value} (h:w0.cell? a=some v):wr.cell? a=some v:=(hb.cell (eL h)).trans h
theorem jB {w0 wr:World} (hb:Below w0.heap.size w0 wr) (E:Up wr):Below w0.heap.size w0 E.to:=hb.trans (E.below.mono hb.size)
theorem Below.then {B:Nat} {w0 w1 d:World} (h:Below B w0 w1) (k:Below w1.heap.size w1 d) (hB:B<=w1.heap.size):Below B w0 d:=h.trans (k.mono hB)
theorem Below.next {w0 w1 d:World} (h:Below w0.heap.size w0 w1) (k:Below w1.heap.size w1 d):Below w0.heap.size w0 d:=h.trans (k.mono h.size)
theorem cA (w:World) (A:Array Value) (t:TypeId) (i:Nat):(w.alloc (.cells A t)).cell? ⟨w.heap.size,i,none⟩=A[i]?:=World.cell?_alloc_at _ _ _ _ rfl
theorem kL {w:World} {a:Addr} {v:Value} (h:w.cell? a=some v) (o:Obj):(w.alloc o).cell? a=some v:=(World.cell?_alloc_lt _ _ _ (eL h)).trans h
theorem jI (w:World) (A:Array Value) (t:TypeId) (o:Obj) (i:Nat):((w.alloc (.cells A t)).alloc o).cell? ⟨w.heap.size,i,none⟩=A[i]?:=by rw[World.cell?_alloc_lt _ _ _ (by simp)];exact cA w A t i
theorem lN (w:World) (A:Array Value) (t:TypeId) (o:Obj) (i:Nat):((w.alloc o).alloc (.cells A t)).cell? ⟨w.heap.size+1,i,none⟩=A[i]?:=by have h:=cA (w.alloc o) A t i;rwa [World.size_alloc] at h
theorem aA (w:World) (a:Obj):Below w.heap.size w (w.alloc a):=(Below.refl w.heap.size w).alloc (Nat.le_refl _) a
theorem bV (w:World) (a b:Obj):Below w.heap.size w ((w.alloc a).alloc b):=((Below.refl w.heap.size w).alloc (Nat.le_refl _) a).alloc (by simp) b
end
section
open Go.RowKit
def l7 {α : Type} (p : α->Bool) (xs:List α):Int:=match xs.findIdx? p with
 | some i=>i
 | none=>-1
theorem iM {α : Type} {p : α->Bool} {xs:List α} {k:Nat} {x : α} (h:∀i x,i<k->xs[i]? = some x->p x=false) (d:xs[k]? = some x) (g:p x=true):l7 p xs=k:=by
 have hl:k<xs.length:=(lE d).1;have e:xs.findIdx? p=some k:=by
  rw[List.findIdx?_eq_some_iff_getElem];refine⟨hl,?_,λj f=>?_⟩;·rw[lG hl] at d;injection d with d;rw[d];exact g
  ·have:=h j xs[j] f (lG (by omega));simp[this]
 simp[l7,e]
theorem gV {α : Type} {p : α->Bool} {xs:List α} (h:∀(i:Nat) x,xs[i]? = some x->p x=false):l7 p xs = -1:=by
 have e:xs.findIdx? p=none:=by rw[List.findIdx?_eq_none_iff];intro x d;obtain⟨i,hi⟩:=List.getElem?_of_mem d;exact h i x hi
 simp[l7,e]
theorem iN {α : Type} (p : α->Bool) (xs:List α):xs.any p=decide (0<=l7 p xs):=by
 unfold l7;split;·rename_i i hi;obtain⟨h1,d,_⟩:=List.findIdx?_eq_some_iff_getElem.1 hi;rw[eq_comm];simp;exact⟨xs[i],List.getElem_mem h1,d⟩
 ·rename_i hi;rw[List.findIdx?_eq_none_iff] at hi;rw[eq_comm];simp;exact λx f=>by simpa using hi x f
theorem wU {α : Type} (R:List Value->α->Prop) (p : α->Bool) (A:Option Addr) (j:Nat) (xs:List α) (l:FuncId) (a2:∀args W,(callFunc l args).run prog W=.ok (.enter l args) W) (v:Array Value) (w:World) (G:aB w w.heap.size 1 R (.slice A xs.length j) xs) (N:∀(w1:World),Below w.heap.size w w1->∀(x : α) (cs:List Value),x∈xs->R cs x->Calls prog l (cs.toArray++v) w1 (aK (.bool (p x)) w1)) : Calls prog 89 #[.slice A xs.length j,.func (.func l) #[] v] w (aK (.int .i64 (l7 p xs)) w):=by
 have P:=hI G;have S:=hI N;have hl:xs.length<=j/\j<=maxLen:=by obtain⟨A',c',e,V,X,-⟩:=G;injection e with _ _ Z;subst Z;exact⟨V,X⟩
 obtain⟨a1,J⟩:=hl;unfold maxLen at J;clear G N;go_enter func89,ntmps89;go_wp2_with fail;go_loopw [8] (λk wr=>∃d:Nat,k=.int .i64 d/\d<=xs.length/\Hid (∀i x,i<d->xs[i]? = some x->p x=false)/\Hid (Below w.heap.size w wr)) (λk _=>xs.length - (RowKit.intOf k).toNat);case atStart=>exact⟨0,rfl,by omega,λi x hi _=>by omega,Below.refl _ _⟩
 case round=>
  obtain⟨d,rfl,hk,F,g⟩:=hrel
  by_cases O:d<xs.length
  ·obtain⟨b,K,x,cs,rfl,hb,r,L,M,D⟩:=P.o.at_ O
   match cs,L with
   | [c0],_=>
    have a0:(d:Int)<xs.length:=by omega
    have H:wr.cell? ⟨b,K+d,none⟩=some c0:=(g.o.cell hb).trans (by simpa using D 0 _ rfl)
    have z:=hI (S.o wr g.o x _ (lM r) M)
    have I:=hI r
    clear r D M
    cases f:p x
    ·have q:=hI f
     rw[f] at z
     clear f
     go_wp2_with fail
     refine z.o.mono ?_
     rintro e Y ⟨rfl,s⟩
     have E:=hI (Below.trans g.o (s.mono g.o.size))
     clear s H
     go_wp2_with fail
     go_roundw
     case rel=>exact⟨d+1,by go_num,by omega,λi y hi u=>by
      rcases Nat.lt_or_ge i d with h | h
      ·exact F.o i y h u
      ·have:i=d:=by omega
       subst this
       rw[I.o] at u
       injection u with u
       subst u
       exact q.o,E⟩
     case measure=>simp[RowKit.intOf];omega
    ·have q:=hI (iM F.o I.o f)
     rw[f] at z
     clear f
     go_wp2_with fail
     refine z.o.mono ?_
     rintro e Y ⟨rfl,s⟩
     have E:=hI (Below.trans g.o (s.mono g.o.size))
     clear s H
     go_wp2_with fail
     go_ret
     exact⟨by rw[q.o];rfl,E.o⟩
  ·have q:=hI (gV (p:=p) (xs:=xs) (λi x hi=>F.o i x (by have:=(lE hi).1;omega) hi))
   go_wp2_with fail
   go_ret
   exact⟨by rw[q.o];rfl,g.o⟩
theorem sL {α : Type} (R:List Value->α->Prop) (p : α->Bool) (A:Option Addr) (g:Nat) (xs:List α) (d:FuncId) (h:∀args W,(callFunc d args).run prog W=.ok (.enter d args) W) (f:Array Value) (w:World) (l:aB w w.heap.size 1 R (.slice A xs.length g) xs) (q:∀(w1:World),Below w.heap.size w w1->∀(x : α) (cs:List Value),x∈xs->R cs x->Calls prog d (cs.toArray++f) w1 (aK (.bool (p x)) w1)) : Calls prog 44 #[.slice A xs.length g,.func (.func d) #[] f] w (aK (.bool (xs.any p)) w):=by have r:=hI (wU R p A g xs d h f w l q);have s:=hI (iN p xs);clear l q h;go_enter func44,ntmps44;go_wp2_with fail;refine r.o.mono ?_;rintro e w1 ⟨rfl,j⟩;have u:=hI j;clear j;go_wp2_with fail;go_ret;exact⟨by rw[s.o];rfl,u.o⟩
end
section
open Go.RowKit
def bA (x:aT):List Value:=[.int .i64 x.op,.int .i64 x.a,.int .i64 x.b,.int .i64 x.c,.int .i64 x.n,.int .i64 x.exit,.int .i64 x.k.kind,.int .i64 x.k.n]
def yA (x:aT):Value:=.agg #[.int .i64 x.op,.int .i64 x.a,.int .i64 x.b,.int .i64 x.c,.int .i64 x.n,.int .i64 x.exit,.int .i64 x.k.kind,.int .i64 x.k.n]
def kX (x:aT):Prop:=wfi x.op/\wfi x.a/\wfi x.b/\wfi x.c/\wfi x.n/\wfi x.exit/\wfi x.k.kind/\wfi x.k.n
theorem qC:(prog.info? 3).map (λi=>(i.zero,i.size,i.bytes))=some (some (.int .i64 0),1,8):=by kernel_rfl
theorem vG (op:Int):0<=(bP op).asks/\(bP op).asks<=3/\((mD op)=false->(bP op).asks=0):=by
 by_cases h:mD op=true;·rcases rK h with h | h | h | h | h | h | h | h | h | h | h | h | h | h | h | h | h | h | h <;> subst h <;> decide
 ·have d:mD op=false:=by simpa using h
  have:=wW op (λf=>by simp only[mD,decide_eq_false_iff_not] at d;omega);rw[this];simp
def qI (xs:List Int) (w:World) (e:Ending) (w':World):Prop:=∃v,e=.returned v/\aB w' w'.heap.size 1 gB v xs/\Below w.heap.size w w'
theorem ahV {W:World} {g:Nat} {a b c:Int} {t:TypeId} {f:Nat×Nat} {k:Nat} (h:W.heap[g]? = some (.cells #[.int .i64 a,.int .i64 b,.int .i64 c] t f)) : ∀j u,(([a,b,c].take k).map (Value.int .i64))[j]? = some u->W.cell? ((⟨g,0,none⟩:Addr).add j)=some u:=by
 intro j u d;rw[List.map_take,List.getElem?_take] at d;split at d
 ·have hl:j<3:=by have:=(lE d).1;simpa using this
  match j,hl with
  | 0,_=>simpa [Addr.add,World.cell?,h] using d
  | 1,_=>simpa [Addr.add,World.cell?,h] using d
  | 2,_=>simpa [Addr.add,World.cell?,h] using d
 ·cases d
theorem agI {a b c:Int} {k:Nat} (d:k<=3):(([a,b,c].take k).map (Value.int .i64)).length=k*1:=by simp;omega
theorem iZ (w:World) (o p:Obj):((w.alloc o).alloc p).heap[w.heap.size+1]? = some p:=by show((w.heap.push o).push p)[w.heap.size+1]? = _;rw[Array.getElem?_push,if_pos (by simp)]
theorem ai7 (xs:List Int):∀u∈xs.map (Value.int .i64),u.oneCell'=true:=by intro u d;obtain⟨x,_,rfl⟩:=List.mem_map.1 d;rfl
theorem afP {n:Nat} (h:n<=1000000):n<=maxLen:=by unfold maxLen;omega
theorem abB {n:Nat} (h:n<=1000000):n*8<=140737488355328:=by omega
theorem acG {w d:World} (h:w.heap.size<d.heap.size) (o p:Obj):w.heap.size<=((d.alloc o).alloc p).heap.size:=by simp;omega
theorem ahJ {w d:World} {f:Obj} (h:Below (w.alloc f).heap.size (w.alloc f) d) (g:w.heap.size<d.heap.size) (o p:Obj):Below w.heap.size w ((d.alloc o).alloc p):= Below.alloc (Below.alloc ((Below.alloc (Below.refl _ _) (Nat.le_refl _) f).trans (h.mono (by simp))) (by omega) o) (by simp;omega) p
theorem ahL (x:aT) (h:(bP x.op).asks=0):bU x=[]:=by simp[bU,h]
theorem akR (x:aT) (hw:kX x) (w:World):Calls prog 22 #[yA x] w (qI (bU x) w):=by
 obtain⟨op,a,b,c,n,A,⟨D,E⟩⟩:=x;obtain⟨w1,S,V,X,_⟩:=hw;simp only at S V X;unfold yA;dsimp only;obtain⟨F,G,u⟩:=vG op;obtain⟨Y,hi,H,I,J⟩:=info_parts qC;by_cases g:mD op=true
 ·have r:bU ⟨op,a,b,c,n,A,⟨D,E⟩⟩=[a,b,c].take (bP op).asks.toNat:=rfl;have L:=hI r;clear r u;obtain⟨k,y⟩:∃k:Nat,(bP op).asks=k:=⟨(bP op).asks.toNat,by omega⟩;have z:k<=3:=by omega
  have M:(k:Int)<=3:=by omega
  have N:=hI y;go_enter func22,ntmps22;go_wp2_with fail;refine(aiH op _).mono ?_;rintro e h ⟨rfl,d⟩;have g1:h.cell? ⟨w.heap.size,1,none⟩=some (.int .i64 a):=(d.cell (p:=⟨w.heap.size,1,none⟩) (by simp)).trans (World.cell?_alloc_at _ _ _ _ rfl);have g2:h.cell? ⟨w.heap.size,2,none⟩=some (.int .i64 b):=(d.cell (p:=⟨w.heap.size,2,none⟩) (by simp)).trans (World.cell?_alloc_at _ _ _ _ rfl);have g3:h.cell? ⟨w.heap.size,3,none⟩=some (.int .i64 c):=(d.cell (p:=⟨w.heap.size,3,none⟩) (by simp)).trans (World.cell?_alloc_at _ _ _ _ rfl);have q:=hI d;have j:w.heap.size<h.heap.size:=by have:=d.size;simp at this;omega
  clear d;unfold nH;rw[g,y];clear y g F G;go_wp2_with (at_builtin;refine wpList_append_own _ rfl _ _ 55 rfl w.heap.size 3 Y (.int .i64 0) 1 8 underlying55 hi H I J rfl (by decide) (.slice none 0 0) 0 [] rfl (World.ownsRow_nil _ _ _ _) ⟨h.heap.size+1,0,none⟩ k 3 (([a,b,c].take k).map (Value.int .i64)) rfl (agI z) (ahV (iZ _ _ _)) (ai7 _) (afP (by omega)) (abB (by omega)) (acG j _ _) ?_);intro v w6 l K _;have O:=hI l;have P:=hI K;clear l K;go_wp2_with fail;go_ret;refine⟨v,rfl,?_,?_⟩
  ·rw[L.o,N.o];have:=O.o;have s:([a,b,c].take k).length=k:=(by simp;omega);refine qQ (base:=w.heap.size) (e:=3) (xs:=[a,b,c].take k) ?_ ?_;·rw[s];simpa using this
   ·intro x Z;have:=List.mem_of_mem_take Z;simp at this;rcases this with rfl | rfl | rfl <;> assumption
  ·have hb:=P.o;exact Below.grown (ahJ q.o j _ _) hb (acG j _ _) (by simp[Value.ownBlock])
 ·have f:mD op=false:=by simpa using g
  have R:=hI (ahL ⟨op,a,b,c,n,A,⟨D,E⟩⟩ (u f));clear u g F G;go_enter func22,ntmps22;go_wp2_with fail;refine(aiH op _).mono ?_;rintro e h ⟨rfl,d⟩;have q:=hI d;clear d;unfold nH;rw[f];clear f;go_wp2_with fail;go_ret;refine⟨_,rfl,?_,?_⟩;·rw[R.o];exact aB.nil _ _ _ _
  ·refine Below.alloc ((Below.alloc (Below.refl _ _) (Nat.le_refl _) _).trans (q.o.mono (by simp))) ?_ _;have:=q.o.size;simp at this;omega
end
section
open Go.RowKit
theorem aB.below {α : Type} {w w':World} {size:Nat} {R:List Value->α->Prop} {v:Value} {xs:List α} (h:aB w w.heap.size size R v xs) (hb:Below w.heap.size w w'):aB w' w'.heap.size size R v xs:= h.keep hb.size (λ_ d=>hb.cell d) (λ_ _ h=>h)
theorem ah0 (w:World) (t:TypeId):aB (w.alloc (.cells #[.int .i64 4,.int .i64 5,.int .i64 6] t)) (w.heap.size+1) 1 gB (.slice (some ⟨w.heap.size,0,none⟩) 3 3) [4,5,6]:=by
 refine⟨_,3,rfl,by simp,by decide,λ_=>⟨w.heap.size,0,rfl,by omega,λi x hi=>⟨[.int .i64 x],rfl,⟨rfl,?_⟩,λj v d=>?_⟩⟩⟩;·have:=lM hi;simp at this;rcases this with rfl | rfl | rfl <;> exact⟨by decide,by decide⟩
 ·have f:j=0:=by have:=(lE d).1;simp at this;omega
  subst f;simp at d;subst d;have g:i<3:=by have:=(lE hi).1;simpa using this
  rw[World.cell?_alloc_at _ _ _ _ rfl];match i,g with
  | 0,_=>simpa using hi
  | 1,_=>simpa using hi
  | 2,_=>simpa using hi
def Irred (w:World) (e:Ending) (w':World):Prop:=e=.returned (.bool true)/\Below w.heap.size w w'
theorem aeS (w:World):Calls prog 11 #[] w (Irred w):=by
 have d:=λw'=>zX 13 w';have f:=λw'=>zX 11 w';have g:dZ 13=true:=by decide
 have j:dZ 11=false:=by decide
 rw[g] at d;rw[j] at f;have z:=hI d;have A:=hI f;clear g j d f;go_enter func11,ntmps11;go_wp2_with fail;refine(akR ⟨14,4,5,6,0,0,⟨0,0⟩⟩ (by unfold kX wfi;decide) _).mono ?_;rintro e w1 ⟨v,rfl,u,b1⟩;have D:=hI u;have l:=hI b1;clear u b1;go_wp2_with fail;refine(zJ v _ (bU ⟨14,4,5,6,0,0,⟨0,0⟩⟩) [4,5,6] _ _ (D.o.keep (Nat.le_succ _) (λp F=>World.cell?_alloc_lt _ _ _ F) (λ_ _ h=>h)) (ah0 w1 _)).mono ?_;rw[show decide (bU ⟨14,4,5,6,0,0,⟨0,0⟩⟩=[4,5,6])=true from by decide];rintro e G ⟨rfl,rfl⟩;go_wp2_with fail;refine(z.o _).mono ?_;rintro e H ⟨rfl,x⟩;have q:=hI x;clear x;go_wp2_with fail;refine(A.o _).mono ?_;rintro e I ⟨rfl,y⟩;have E:=hI y;clear y;go_wp2_with fail;go_ret;refine⟨rfl,?_⟩;have r:=l.o.size;have s:=q.o.size;simp at s;exact((l.o.alloc r _).trans (q.o.mono (by simp;omega))).trans (E.o.mono (by omega))
end
section
open Go.RowKit
def xP (cs:List Value) (x:aT):Prop:=cs=bA x/\kX x
theorem tN {w:World} {B:Nat} {A:Option Addr} {n f:Nat} {xs:List aT} (h:aB w B 8 xP (.slice A n f) xs) {i:Nat} (hi:i<xs.length) : ∃b d x,A=some ⟨b,d,none⟩/\b<B/\xs[i]? = some x/\kX x/\jY w b (d+i*8) (bA x):=by obtain⟨b,d,x,cs,h1,g,j,_,⟨rfl,l⟩,p⟩:=h.at_ hi;exact⟨b,d,x,h1,g,j,l,p⟩
end
section
open Go.ChangeShapes Go.WideShapes Go.ChangeAt Go.RowKit
def uW (cs:List Value) (x:oL):Prop:=cs=[.int .i64 x.reg,.int .i64 x.val]/\wfi x.reg/\wfi x.val
def qW (w:World) (B:Nat) (cs:List Value) (m:dX):Prop:=∃v,cs=[.int .i64 m.cell,.int .i64 m.kind,.int .i64 m.num,v]/\aB w B 1 gB v m.vals/\wfi m.cell/\wfi m.kind/\wfi m.num
def fM (w:World) (B:Nat) (cs:List Value) (x:bX):Prop:=∃s m,cs=[.int .i64 x.at_,.int .i64 x.steps,s,m]/\aB w B 2 uW s x.sets/\aB w B 4 (qW w B) m x.makes/\wfi x.at_/\wfi x.steps
def bI (w:World) (B:Nat) (cs:List Value) (t:aH):Prop:=
 ∃i e ct cb,cs=[.int .i64 t.fn,.int .i64 t.at_,.int .i64 t.loop,i,e]++ct++cb/\aB w B 8 xP i t.ins/\aB w B 4 (fM w B) e t.exits/\fM w B ct t.turn/\fM w B cb t.back/\wfi t.fn/\wfi t.at_/\wfi t.loop
theorem qW.keep {w w':World} {B B':Nat} {cs:List Value} {m:dX} (h:qW w B cs m) (hB:B<=B') (g:∀p:Addr,p.block<B->w'.cell? p=w.cell? p):qW w' B' cs m:=by obtain⟨v,h1,d,f⟩:=h;exact⟨v,h1,d.keep hB g (λ_ _ h=>h),f⟩
theorem fM.keep {w w':World} {B B':Nat} {cs:List Value} {x:bX} (h:fM w B cs x) (hB:B<=B') (d:∀p:Addr,p.block<B->w'.cell? p=w.cell? p):fM w' B' cs x:=by obtain⟨s,m,h1,f,g,j⟩:=h;exact⟨s,m,h1,f.keep hB d (λ_ _ h=>h),g.keep hB d (λ_ _ h=>h.keep hB d),j⟩
theorem bI.keep {w w':World} {B B':Nat} {cs:List Value} {t:aH} (h:bI w B cs t) (hB:B<=B') (d:∀p:Addr,p.block<B->w'.cell? p=w.cell? p):bI w' B' cs t:=by obtain⟨i,e,f,cb,h1,g,j,l,q,r⟩:=h;exact⟨i,e,f,cb,h1,g.keep hB d (λ_ _ h=>h),j.keep hB d (λ_ _ h=>h.keep hB d),l.keep hB d,q.keep hB d,r⟩
theorem bI.below {w w':World} {cs:List Value} {t:aH} (h:bI w w.heap.size cs t) (hb:Below w.heap.size w w'):bI w' w'.heap.size cs t:= h.keep hb.size (λ_ d=>hb.cell d)
section
variable {H:Type} {enc:TypeId×Value->H} {w:World} {spare:Nat->Bool} {held:Bool}
theorem pN:prog.cellsOf 3=1:=by kernel_rfl
theorem ahH:prog.cellsOf 51=2:=by kernel_rfl
theorem cIns:prog.cellsOf 53=8:=by kernel_rfl
theorem cSet:prog.cellsOf 124=2:=by kernel_rfl
theorem cMake:prog.cellsOf 127=4:=by kernel_rfl
theorem akL:prog.cellsOf 32=4:=by kernel_rfl
theorem cTrace:prog.cellsOf 34=13:=by kernel_rfl
theorem akF:prog.cellsOf 55=1:=by kernel_rfl
theorem cSIns:prog.cellsOf 27=1:=by kernel_rfl
theorem cSSet:prog.cellsOf 29=1:=by kernel_rfl
theorem akE:prog.cellsOf 30=1:=by kernel_rfl
theorem akG:prog.cellsOf 28=1:=by kernel_rfl
theorem dL:dS enc prog w spare held 3 gB:=af6 underlying3 pN
theorem aiL:dS enc prog w spare held 55 (λcs (xs:List Int)=>∃v,cs=[v]/\aB w w.heap.size 1 gB v xs):=cO underlying55 pN (by decide) akF dL
def hU (cs:List Value) (x:Val):Prop:=cs=[.int .i64 x.kind,.int .i64 x.n]/\wfi x.kind/\wfi x.n
theorem abO:dS enc prog w spare held 51 hU:=by
 intro g cs x h
 have hl:=dV underlying51 h
 refine⟨hl,?_⟩
 rw[ahH] at hl
 obtain⟨a,d⟩:=aI underlying51 h 0 _ rfl dL
 obtain⟨b,hb⟩:=aI underlying51 h 1 _ rfl dL
 match cs,hl with
 | [c0,c1],_=>
  simp only[List.getElem_toArray,List.getElem_cons_zero,List.getElem_cons_succ,pN,gB,List.drop_zero,List.take_succ_cons,List.take_zero,List.drop_succ_cons,List.cons.injEq,and_true] at d hb
  obtain⟨rfl,f⟩:=d
  obtain⟨rfl,wb⟩:=hb
  exact⟨⟨a,b⟩,rfl,f,wb⟩
theorem o_set:dS enc prog w spare held 124 uW:=by
 intro g cs x h
 have hl:=dV underlying124 h
 refine⟨hl,?_⟩
 rw[cSet] at hl
 obtain⟨a,d⟩:=aI underlying124 h 0 _ rfl dL
 obtain⟨b,hb⟩:=aI underlying124 h 1 _ rfl dL
 match cs,hl with
 | [c0,c1],_=>
  simp only[List.getElem_toArray,List.getElem_cons_zero,List.getElem_cons_succ,pN,gB,List.drop_zero,List.take_succ_cons,List.take_zero,List.drop_succ_cons,List.cons.injEq,and_true] at d hb
  obtain⟨rfl,f⟩:=d
  obtain⟨rfl,wb⟩:=hb
  exact⟨⟨a,b⟩,rfl,f,wb⟩
theorem o_ins:dS enc prog w spare held 53 xP:=by
 intro H cs x h
 have hl:=dV underlying53 h
 refine⟨hl,?_⟩
 rw[cIns] at hl
 obtain⟨q,d⟩:=aI underlying53 h 0 _ rfl dL
 obtain⟨r,h1⟩:=aI underlying53 h 1 _ rfl dL
 obtain⟨s,f⟩:=aI underlying53 h 2 _ rfl dL
 obtain⟨u,g⟩:=aI underlying53 h 3 _ rfl dL
 obtain⟨v,j⟩:=aI underlying53 h 4 _ rfl dL
 obtain⟨y,l⟩:=aI underlying53 h 5 _ rfl dL
 obtain⟨k,p⟩:=aI underlying53 h 6 _ rfl abO
 match cs,hl with
 | [c0,c1,c2,c3,c4,c5,c6,c7],_=>
  simp only[List.getElem_toArray,List.getElem_cons_zero,List.getElem_cons_succ,pN,ahH,gB,hU,List.drop_zero,List.take_succ_cons,List.take_zero,List.drop_succ_cons,List.cons.injEq,and_true] at d h1 f g j l p
  obtain⟨rfl,w0⟩:=d
  obtain⟨rfl,w1⟩:=h1
  obtain⟨rfl,z⟩:=f
  obtain⟨rfl,A⟩:=g
  obtain⟨rfl,D⟩:=j
  obtain⟨rfl,E⟩:=l
  obtain⟨⟨rfl,rfl⟩,F,G⟩:=p
  exact⟨⟨q,r,s,u,v,y,k⟩,rfl,w0,w1,z,A,D,E,F,G⟩
theorem o_sets:dS enc prog w spare held 29 (λcs (xs:List oL)=>∃v,cs=[v]/\aB w w.heap.size 2 uW v xs):=cO underlying29 cSet (by decide) cSSet o_set
theorem o_inss:dS enc prog w spare held 27 (λcs (xs:List aT)=>∃v,cs=[v]/\aB w w.heap.size 8 xP v xs):=cO underlying27 cIns (by decide) cSIns o_ins
theorem o_make:dS enc prog w spare held 127 (qW w w.heap.size):=by
 intro u cs x h
 have hl:=dV underlying127 h
 refine⟨hl,?_⟩
 rw[cMake] at hl
 obtain⟨j,d⟩:=aI underlying127 h 0 _ rfl dL
 obtain⟨l,h1⟩:=aI underlying127 h 1 _ rfl dL
 obtain⟨p,f⟩:=aI underlying127 h 2 _ rfl dL
 obtain⟨q,v,g,r⟩:=aI underlying127 h 3 _ rfl aiL
 match cs,hl with
 | [c0,c1,c2,c3],_=>
  simp only[List.getElem_toArray,List.getElem_cons_zero,List.getElem_cons_succ,pN,akF,gB,List.drop_zero,List.take_succ_cons,List.take_zero,List.drop_succ_cons,List.cons.injEq,and_true] at d h1 f g
  obtain⟨rfl,w0⟩:=d
  obtain⟨rfl,w1⟩:=h1
  obtain⟨rfl,s⟩:=f
  subst g
  exact⟨⟨j,l,p,q⟩,_,rfl,r,w0,w1,s⟩
theorem o_makes:dS enc prog w spare held 30 (λcs (xs:List dX)=>∃v,cs=[v]/\aB w w.heap.size 4 (qW w w.heap.size) v xs):=cO underlying30 cMake (by decide) akE o_make
theorem ac7:dS enc prog w spare held 32 (fM w w.heap.size):=by
 intro y cs x h
 have hl:=dV underlying32 h
 refine⟨hl,?_⟩
 rw[akL] at hl
 obtain⟨j,d⟩:=aI underlying32 h 0 _ rfl dL
 obtain⟨l,h1⟩:=aI underlying32 h 1 _ rfl dL
 obtain⟨p,v,f,q⟩:=aI underlying32 h 2 _ rfl o_sets
 obtain⟨r,u,g,s⟩:=aI underlying32 h 3 _ rfl o_makes
 match cs,hl with
 | [c0,c1,c2,c3],_=>
  simp only[List.getElem_toArray,List.getElem_cons_zero,List.getElem_cons_succ,pN,cSSet,akE,gB,List.drop_zero,List.take_succ_cons,List.take_zero,List.drop_succ_cons,List.cons.injEq,and_true] at d h1 f g
  obtain⟨rfl,w0⟩:=d
  obtain⟨rfl,w1⟩:=h1
  subst f;subst g
  exact⟨⟨j,l,p,r⟩,_,_,rfl,q,s,w0,w1⟩
theorem o_exits:dS enc prog w spare held 28 (λcs (xs:List bX)=>∃v,cs=[v]/\aB w w.heap.size 4 (fM w w.heap.size) v xs):=cO underlying28 akL (by decide) akG ac7
theorem o_trace:dS enc prog w spare held 34 (bI w w.heap.size):=by
 intro H cs x h
 have hl:=dV underlying34 h
 refine⟨hl,?_⟩
 rw[cTrace] at hl
 obtain⟨q,d⟩:=aI underlying34 h 0 _ rfl dL
 obtain⟨r,h1⟩:=aI underlying34 h 1 _ rfl dL
 obtain⟨s,f⟩:=aI underlying34 h 2 _ rfl dL
 obtain⟨y,v,g,z⟩:=aI underlying34 h 3 _ rfl o_inss
 obtain⟨A,u,j,D⟩:=aI underlying34 h 4 _ rfl o_exits
 obtain⟨E,l⟩:=aI underlying34 h 5 _ rfl ac7
 obtain⟨F,p⟩:=aI underlying34 h 6 _ rfl ac7
 match cs,hl with
 | [c0,c1,c2,c3,c4,c5,c6,c7,c8,c9,c10,c11,c12],_=>
  simp only[List.getElem_toArray,List.getElem_cons_zero,List.getElem_cons_succ,pN,cSIns,akG,akL,gB,List.drop_zero,List.take_succ_cons,List.take_zero,List.drop_succ_cons,List.cons.injEq,and_true] at d h1 f g j l p
  obtain⟨rfl,w0⟩:=d
  obtain⟨rfl,w1⟩:=h1
  obtain⟨rfl,G⟩:=f
  subst g;subst j
  exact⟨⟨q,r,s,y,A,E,F⟩,_,_,_,_,rfl,z,D,l,p,w0,w1,G⟩
theorem open_trace {v:Value} {d:DataW H} {g:List MemPlace} {r:Reach} {j:Nat} (l:Value.okWide prog w r j 34 v) (h:DataW.Trod enc prog w 0 spare held 34 v d g):∃cs t,v=.agg ⟨cs⟩/\bI w w.heap.size cs t:=by obtain⟨cs,rfl,_⟩:=okWide_struct underlying34 l;obtain⟨f,hf⟩:=h;obtain⟨_,t,ht⟩:=o_trace _ _ _ hf;exact⟨cs.toList,t,rfl,ht⟩
end
end
section
open Go.RowKit
def j8 (cs:List Value) (x:hP):Prop:=cs=[.int .i64 x.op,.int .i64 x.a,.int .i64 x.b,.int .i64 x.c,.int .i64 x.line]/\wfi x.op/\wfi x.a/\wfi x.b/\wfi x.c/\wfi x.line
def FnR (w:World) (B:Nat) (cs:List Value) (f:CFn):Prop:=
 ∃A n C m,cs=[.int .i64 f.params,.int .i64 f.regs,.bool f.gen,.slice A f.caught.length n,.slice C f.code.length m]/\aB w B 1 gB (.slice A f.caught.length n) f.caught/\aB w B 5 j8 (.slice C f.code.length m) f.code/\wfi f.params/\wfi f.regs
def fL (w:World) (B:Nat) (cs:List Value) (p:aZ):Prop:=
 ∃A n C m D k,cs=[.slice A p.fns.length n,.slice C p.consts.length m,.slice D p.texts.length k]/\aB w B 5 (FnR w B) (.slice A p.fns.length n) p.fns/\aB w B 2 hU (.slice C p.consts.length m) p.consts/\aB w B 1 nM (.slice D p.texts.length k) p.texts
def hG (w:World) (B:Nat) (cs:List Value) (p:aZ) (f:CFn):Prop:=∃pc fc,cs=pc++fc/\fL w B pc p/\FnR w B fc f
theorem FnR.keep {w w':World} {B B':Nat} {cs:List Value} {f:CFn} (h:FnR w B cs f) (hB:B<=B') (d:∀p:Addr,p.block<B->w'.cell? p=w.cell? p):FnR w' B' cs f:=by obtain⟨A,n,C,m,h1,g,j,l⟩:=h;exact⟨A,n,C,m,h1,g.keep hB d (λ_ _ h=>h),j.keep hB d (λ_ _ h=>h),l⟩
theorem fL.keep {w w':World} {B B':Nat} {cs:List Value} {p:aZ} (h:fL w B cs p) (hB:B<=B') (d:∀p:Addr,p.block<B->w'.cell? p=w.cell? p):fL w' B' cs p:=by obtain⟨A,n,C,m,D,k,h1,f,g,j⟩:=h;exact⟨A,n,C,m,D,k,h1,f.keep hB d (λ_ _ h=>h.keep hB d),g.keep hB d (λ_ _ h=>h),j.keep hB d (λ_ _ h=>h)⟩
theorem hG.keep {w w':World} {B B':Nat} {cs:List Value} {p:aZ} {f:CFn} (h:hG w B cs p f) (hB:B<=B') (d:∀p:Addr,p.block<B->w'.cell? p=w.cell? p):hG w' B' cs p f:=by obtain⟨g,j,h1,l,q⟩:=h;exact⟨g,j,h1,l.keep hB d,q.keep hB d⟩
theorem aM {α : Type} {w:World} {B size:Nat} {R:List Value->α->Prop} {A:Option Addr} {n d:Nat} {xs:List α} (h:aB w B size R (.slice A n d) xs):n<=9223372036854775807:=by obtain⟨h1,g,f⟩:=h.len;unfold maxLen at f;omega
theorem fF (n g hi:Int) (w:World):Calls prog 184 #[.int .i64 n,.int .i64 g,.int .i64 hi] w λe w'=>e=.returned (.bool (aL n g hi))/\w=w':=by
 unfold aL;obtain⟨r,f⟩:∃r:Bool,(decide (g<=n) && decide (n<=hi))=r:=⟨_,rfl⟩;rw[f];by_cases h:g<=n
 ·have d:decide (n<=hi)=r:=by rw[<-f];simp[h]
  have j:=hI d;clear f d;go_enter func184,ntmps184;go_wp2;go_ret;exact⟨by rw[<-j.o];rfl,rfl⟩
 ·have d:false=r:=by rw[<-f];simp[h]
  subst d;have l:decide (g<=n)=false:=by simpa using h
  clear f;go_enter func184,ntmps184;go_wp2;go_ret;exact⟨rfl,rfl⟩
theorem adB (cs:List Value) (p:aZ) (f:CFn) (n:Int) (w:World) (h:hG w w.heap.size cs p f) (D:1<=f.regs) : Calls prog 186 #[.agg ⟨cs⟩,.int .i64 n] w (aK (.bool (aaA f n)) w):=by obtain⟨d,g,rfl,⟨j,l,q,r,s,u,rfl,-⟩,⟨v,x,y,z,rfl,-,-,-,w1,A⟩⟩:=h;unfold aaA;go_enter func186,ntmps186;go_wp2_with fail;refine(fF _ _ _ _).mono ?_;rintro e w' ⟨rfl,rfl⟩;go_wp2_with fail;go_ret;exact⟨rfl,aA w _⟩
theorem lat_c (cs:List Value) (p:aZ) (f:CFn) (n:Int) (w:World) (h:hG w w.heap.size cs p f) : Calls prog 229 #[.agg ⟨cs⟩,.int .i64 n] w (aK (.bool (aL n 0 ((f.code.length:Int) - 1))) w):=by obtain⟨g,j,rfl,⟨l,q,r,s,u,v,rfl,-⟩,⟨x,y,z,A,rfl,-,d,-⟩⟩:=h;have hl:=aM d;clear d;go_enter func229,ntmps229;go_wp2_with fail;refine(fF _ _ _ _).mono ?_;rintro e w' ⟨rfl,rfl⟩;go_wp2_with fail;go_ret;exact⟨rfl,aA w _⟩
theorem ltext_c (cs:List Value) (p:aZ) (f:CFn) (n:Int) (w:World) (h:hG w w.heap.size cs p f) : Calls prog 228 #[.agg ⟨cs⟩,.int .i64 n] w (aK (.bool (aL n 0 ((p.texts.length:Int) - 1))) w):=by obtain⟨g,j,rfl,⟨l,q,r,s,u,v,rfl,-,-,d⟩,⟨x,y,z,A,rfl,-⟩⟩:=h;have hl:=aM d;clear d;go_enter func228,ntmps228;go_wp2_with fail;refine(fF _ _ _ _).mono ?_;rintro e w' ⟨rfl,rfl⟩;go_wp2_with fail;go_ret;exact⟨rfl,aA w _⟩
end
section
open Go.RowKit
theorem rkZ{w w':World}{g:Nat}{o:Obj}(h:Hid (w.heap[g]? = some o))(k:Below w.heap.size w w'):Hid (w'.heap[g]? = some o):=(k.block _ (Array.getElem?_eq_some_iff.1 h.o).1).trans h.o
theorem btZ{a b c:World}(h:Hid (Below a.heap.size a b))(k:Below b.heap.size b c):Hid (Below a.heap.size a c):=h.o.trans (k.mono h.o.size)
theorem crZ{w:World}{g:Nat}{cs:List Value}{t:TypeId}{v:Value}(h:Hid (w.heap[g]? = some (.cells ⟨cs⟩ t (0,0))))(i:Nat)(d:cs[i]? = some v):w.cell? ⟨g,i,none⟩ = some v:=by rw[cell_of_row w g i _ _ _ h.o];simpa using d
theorem fzZ{w:World}{g:Nat}{cs:Array Value}{t:TypeId}(h:Hid (w.heap[g]? = some (.cells cs t (0,0))))(i:Nat):w.frozen? ⟨g,i,none⟩ = false:=frozen_of_row w g i _ _ h.o
theorem rrZ{w:World}{g:Nat}{cs:List Value}{t:TypeId}(h:Hid (w.heap[g]? = some (.cells ⟨cs⟩ t (0,0)))):Hid (w.rangeAt g 0 cs):=λj v d=>by rw[Nat.zero_add];exact crZ h j d
theorem soZ{w w':World}{g k:Nat}{c:Array Value}{o:Obj}(d:w.setRow g c=w')(h:Hid (w.heap[k]? = some o))(f:k≠g):Hid (w'.heap[k]? = some o):=by rw[<-d];exact(setRow_other _ _ _ _ f).trans h.o
theorem shZ{w w':World}{g:Nat}{cs old:Array Value}{t:TypeId}{f:Nat×Nat}(d:w.setRow g cs=w')(h:Hid (w.heap[g]? = some (.cells old t f))):Hid (w'.heap[g]? = some (.cells cs t f)):=by rw[<-d];exact setRow_heap _ _ _ _ _ _ h.o
theorem ecZ{w:World}{a:Addr}{v:Value}(h:w.cell? a = some v):∀E:Up w,E.to.cell? a = some v:=λE=>E.cell h
end
end Go.Proofs.YtijihlcdhppfgaaGreatDoor
