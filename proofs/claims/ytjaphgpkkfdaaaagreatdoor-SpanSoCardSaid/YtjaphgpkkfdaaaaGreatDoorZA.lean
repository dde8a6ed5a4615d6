/- A part of the walk. -/
import Derived.Test.YtjaphgpkkfdaaaaGreatDoorProg
import Derived.WalkKit
import Derived.Lib.Hide
import Derived.WalkLawsBesides
import Derived.Deep.QuietTactic
import Derived.BigQuiet
import Derived.ProofKit
import Derived.OpenShut
import Derived.Deep.Slices
import Derived.WalkSpells
import Derived.Deep.MidRow
set_option maxHeartbeats 16000000
set_option maxRecDepth 100000
set_option linter.all false
namespace Go.Proofs.YtjaphgpkkfdaaaaGreatDoor
open Tryz
theorem _root_.Go.RowKit.Hid.o{p:Prop}(h:Go.RowKit.Hid p):p:=h.out
theorem oC{cs:List Value}(h:∀v∈cs,v.oneCell' = true):cs.toArray.all (·.oneCell') = true:=all_oneCell_toArray h
theorem bF{α:Type}[BEq α][LawfulBEq α]{a b:α}(h:a≠b):(a==b) = false:=beq_eq_false_iff_ne.2 h
theorem lM{α:Type}{l:List α}{i:Nat}{a:α}(h:l[i]? = some a):a∈l:=List.mem_of_getElem? h
theorem hI{p:Prop}(h:p):Go.RowKit.Hid p:=Go.Lib.hid h
theorem aE{α:Type}{l:Array α}{i:Nat}{a:α}(h:l[i]? = some a):∃ h:i<l.size,l[i] = a:=Array.getElem?_eq_some_iff.1 h
theorem lE{α:Type}{l:List α}{i:Nat}{a:α}(h:l[i]? = some a):∃ h:i<l.length,l[i] = a:=List.getElem?_eq_some_iff.1 h
theorem lG{α:Type}{l:List α}{i:Nat}(h:i<l.length):l[i]? = some l[i]:=List.getElem?_eq_getElem h
section
structure Form where
 asks:Int
 low:Int
 high:Int
 k:Bool
 tells:Bool
 exit:Int
deriving DecidableEq
def cF (op:Int):Form:=
 if op=1 then⟨0,0,1073741824,false,true,0⟩
 else if op=2 then⟨0,0,0,true,true,0⟩
 else if op=3 then⟨0,0,0,false,true,0⟩
 else if op=4 then⟨1,0,6,false,false,2⟩
 else if op=5 then⟨1,0,1,false,false,2⟩
 else if op=6 then⟨1,0,0,true,false,2⟩
 else if op=7 then⟨2,3,10,false,true,1⟩
 else if op=8 then⟨1,11,12,false,true,1⟩
 else if op=9 then⟨1,1,7,false,false,2⟩
 else if op=10 then⟨1,0,99,false,true,0⟩
 else if op=11 then⟨2,0,99,false,false,0⟩
 else if op=12 then⟨2,1,1073741824,false,false,2⟩
 else if op=13 then⟨2,0,0,false,true,2⟩
 else if op=14 then⟨3,0,0,false,false,2⟩
 else if op=15 then⟨1,0,0,false,true,0⟩
 else if op=16 then⟨0,1,3,false,true,2⟩
 else if op=17 then⟨2,0,0,false,false,1⟩
 else if op=18 then⟨0,0,0,false,true,2⟩
 else if op=19 then⟨0,1,1073741824,false,false,2⟩
 else⟨0,0,0,false,false,0⟩
def lU (op:Int):Bool:=decide (1<=op/\op<=19)
theorem rY (op:Int) (h:¬(op=1\/op=2\/op=3\/op=4\/op=5\/op=6\/op=7\/op=8\/op=9\/op=10\/op=11\/op=12\/op=13\/op=14\/op=15\/op=16\/op=17\/op=18\/op=19)):cF op=⟨0,0,0,false,false,0⟩:=by unfold cF;repeat (rw[if_neg (by omega)])
theorem aa4 (op:Int) (h:¬(op=1\/op=2\/op=3\/op=4\/op=5\/op=6\/op=7\/op=8\/op=9\/op=10\/op=11\/op=12\/op=13\/op=14\/op=15\/op=16\/op=17\/op=18\/op=19)):lU op=false:=by simp only[lU,decide_eq_false_iff_not];omega
def iC (op:Int):Bool:=(cF op).tells
theorem nU {op:Int} (h:lU op=true):op=1\/op=2\/op=3\/op=4\/op=5\/op=6\/op=7\/op=8\/op=9\/op=10\/op=11\/op=12\/op=13\/op=14\/op=15\/op=16\/op=17\/op=18\/op=19:=by simp only[lU,decide_eq_true_eq] at h;omega
structure Val where
 kind:Int
 n:Int
deriving DecidableEq
structure bG where
 op:Int
 a:Int
 b:Int
 c:Int
 n:Int
 exit:Int
 k:Val
deriving DecidableEq
structure pS where
 reg:Int
 val:Int
deriving DecidableEq
structure fZ where
 cell:Int
 kind:Int
 num:Int
 vals:List Int
deriving DecidableEq
structure cW where
 at_:Int
 steps:Int
 sets:List pS
 makes:List fZ
deriving DecidableEq
structure aN where
 fn:Int
 at_:Int
 loop:Int
 ins:List bG
 exits:List cW
 turn:cW
 back:cW
deriving DecidableEq
def iU (x:bG):List Int:=[x.a,x.b,x.c].take (cF x.op).asks.toNat
end
section
structure fE where
 op:Int
 a:Int
 b:Int
 c:Int
 line:Int
deriving DecidableEq
structure CFn where
 params:Int
 regs:Int
 gen:Bool
 caught:List Int
 code:List fE
deriving DecidableEq
structure aW where
 fns:List CFn
 consts:List Val
 texts:List ByteArray
structure gM where
 reg:Int
 at_:Int
deriving DecidableEq
def aK (n lo hi:Int):Bool:=decide (lo<=n) && decide (n<=hi)
theorem eS {n d hi:Int} : aK n d hi=true↔d<=n/\n<=hi:=by simp[aK]
def j9:List (List UInt8):=[[],[114,107,45],[114,114,45],[114,114,114],[114,114,114],[114,114,114],[114,114,114],[114,114,114],[114,114,114],[114,114,114],[114,114,114],[114,114,45],[114,114,45],[97,45,45],[97,45,45],[114,97,45],[114,45,45],[114,114,116],[114,116,114],[114,108,110],[114,114,114],[114,114,114],[114,45,45],[114,114,45],[114,114,45],[114,117,45],[114,102,45],[114,99,110],[114,45,45],[114,45,45],[114,97,45],[45,45,45],[114,114,45],[114,45,45],[114,45,45],[114,114,45],[114,114,45],[114,45,45],[114,45,45]]
def kB (op:Int):List UInt8:=if op<1\/39<=op then [] else j9.getD op.toNat []
theorem qE (op:Int):kB op=[]\/∃x y z,kB op=[x,y,z]:=by
 unfold kB;split;·exact .inl rfl
 ·rename_i h;have d:op.toNat<39:=by omega
  have:∀n:Nat,n<39->j9.getD n []=[]\/∃x y z,j9.getD n []=[x,y,z]:=by intro n d;have e:∀l∈j9,l=[]\/∃x y z,l=[x,y,z]:=(by unfold j9;intro l hl;simp only[List.mem_cons,List.not_mem_nil,or_false] at hl;repeat (rcases hl with rfl | hl;first | exact .inl rfl | exact .inr ⟨_,_,_,rfl⟩));have hl:n<j9.length:=d;rw[List.getD_eq_getElem?_getD,lG hl];exact e _ (List.getElem_mem hl)
  exact this _ d
def uO (f:CFn) (n:Int):Bool:=aK n 0 (f.regs - 1)
def cD (p:aW) (f:CFn) (c:UInt8) (n:Int):Bool:=
 if c=114 then uO f n
 else if c=107 then aK n 0 ((p.consts.length:Int) - 1)
 else if c=116 then aK n 0 ((p.texts.length:Int) - 1)
 else if c=97 then aK n 0 ((f.code.length:Int) - 1)
 else if c=117 then aK n 0 ((f.caught.length:Int) - 1)
 else if c=102 then aK n 1 ((p.fns.length:Int) - 1)
 else if c=108\/c=99\/c=110 then aK n 0 f.regs
 else n == 0
def qR (f g:CFn):Bool:=!(g.caught.any λc=>!uO f c && !aK c (-(f.caught.length:Int)) (-1))
def mI (p:aW) (f:CFn) (i:fE):Bool:=
 match kB i.op with
 | [x,y,z]=>aK i.line 0 2000 && cD p f x i.a && cD p f y i.b && cD p f z i.c
 | _=>false
def gJ (p:aW) (f:CFn) (at_:Int) (i:fE):Bool:=
 mI p f i &&
 (if i.op=14 then decide (i.a<=at_)
 else if i.op=19 then decide (i.b+i.c<=f.regs)
 else if i.op=27 then uO f (i.b+i.c)
 else if i.op=26 then(match p.fns[i.b.toNat]? with | some g=>qR f g | none=>false)
 else if i.op=32 then f.gen
 else true)
end
section
open Go.RowKit
def lR (f:Form):Value:=.agg #[.int .i64 f.asks,.int .i64 f.low,.int .i64 f.high,.bool f.k,.bool f.tells,.int .i64 f.exit]
def OfPost (op:Int) (w:World) (e:Ending) (w':World):Prop:=e=.returned (.tuple #[lR (cF op),.bool (lU op)])/\Below w.heap.size w w'
theorem of_c (op:Int) (w:World):Calls prog 55 #[.int .i64 op] w (OfPost op w):=by
 by_cases h:op=1\/op=2\/op=3\/op=4\/op=5\/op=6\/op=7\/op=8\/op=9\/op=10\/op=11\/op=12\/op=13\/op=14\/op=15\/op=16\/op=17\/op=18\/op=19;·rcases h with rfl | rfl | rfl | rfl | rfl | rfl | rfl | rfl | rfl | rfl | rfl | rfl | rfl | rfl | rfl | rfl | rfl | rfl | rfl;all_goals go_enter func55,ntmps55;go_wp2;refine bodyPost_ret (v:=.tuple #[lR (cF _),.bool true]) (by simp[results,results55,go_sem,lR,cF]) rfl ⟨rfl,?_⟩;repeat (first | exact Below.refl _ _ | refine Below.drew ?_ | refine Below.setCell ?_ (by simp) _ | refine Below.alloc ?_ (by simp) _)
 ·have d:cF op=⟨0,0,0,false,false,0⟩:=rY op h;have e:lU op=false:=aa4 op h;have f:=hI d;have g:=hI e;clear d e;have y:(op == 1)=false:=by simp;omega
  have z:(op == 2)=false:=by simp;omega
  have A:(op == 3)=false:=by simp;omega
  have C:(op == 4)=false:=by simp;omega
  have D:(op == 5)=false:=by simp;omega
  have E:(op == 6)=false:=by simp;omega
  have F:(op == 7)=false:=by simp;omega
  have G:(op == 8)=false:=by simp;omega
  have H:(op == 9)=false:=by simp;omega
  have i:(op == 10)=false:=by simp;omega
  have j:(op == 11)=false:=by simp;omega
  have l:(op == 12)=false:=by simp;omega
  have m:(op == 13)=false:=by simp;omega
  have p:(op == 14)=false:=by simp;omega
  have q:(op == 15)=false:=by simp;omega
  have r:(op == 16)=false:=by simp;omega
  have s:(op == 17)=false:=by simp;omega
  have u:(op == 18)=false:=by simp;omega
  have x:(op == 19)=false:=by simp;omega
  clear h;go_enter func55,ntmps55;go_wp2;refine bodyPost_ret (v:=.tuple #[lR ⟨0,0,0,false,false,0⟩,.bool false]) (by simp[results,results55,go_sem,lR]) rfl ⟨by rw[f.o,g.o],?_⟩;repeat (first | exact Below.refl _ _ | refine Below.drew ?_ | refine Below.setCell ?_ (by simp) _ | refine Below.alloc ?_ (by simp) _)
end
section
open Go.ChangeShapes Go.WideShapes Go.ChangeAt Go.RowKit
def wfi (a:Int):Prop:=-9223372036854775808<=a/\a<=9223372036854775807
theorem wfi_of {a:Int} (h:(Lit.int .i64 a).wf=true):wfi a:=by simp[Lit.wf,IntKind.min,IntKind.max,IntKind.signed,IntKind.bits] at h;exact⟨by omega,by omega⟩
theorem dP {w:World} {a:Addr} {v:Value} (h:w.cell? a=some v):a.block<w.heap.size:=by
 unfold World.cell? at h;split at h;·rename_i hb;exact(aE hb).1
 ·cases h
theorem abQ {w:World} {a:Addr} {v:Value} (h:w.cell? a=some v):a.spot=none:=by
 unfold World.cell? at h;split at h
 ·split at h;·cases h
  ·rename_i d;simpa using d
 ·cases h
def hJ (w:World) (b off:Nat) (cs:List Value):Prop:=∀j v,cs[j]? = some v->w.cell? ⟨b,off+j,none⟩=some v
def aH {α : Type} (w:World) (B size:Nat) (R:List Value->α->Prop) (v:Value) (xs:List α):Prop:=
 ∃A cap,v=.slice A xs.length cap/\xs.length<=cap/\cap<=maxLen/\
  (0<xs.length->∃b off,A=some ⟨b,off,none⟩/\b<B/\∀i x,xs[i]? = some x->∃cs,cs.length=size/\R cs x/\hJ w b (off+i*size) cs)
theorem hJ.keep {w w':World} {B b d:Nat} {cs:List Value} (h:hJ w b d cs) (hb:b<B) (f:∀p:Addr,p.block<B->w'.cell? p=w.cell? p):hJ w' b d cs:= λj v e=>(f _ hb).trans (h j v e)
theorem aH.keep {α : Type} {w w':World} {B B' size:Nat} {R f:List Value->α->Prop} {v:Value} {xs:List α} (h:aH w B size R v xs) (hB:B<=B') (D:∀p:Addr,p.block<B->w'.cell? p=w.cell? p) (E:∀cs x,R cs x->f cs x):aH w' B' size f v xs:=by obtain⟨A,d,g,j,l,m⟩:=h;refine⟨A,d,g,j,l,λC=>?_⟩;obtain⟨b,e,q,r,s⟩:=m C;refine⟨b,e,q,by omega,λi x hi=>?_⟩;obtain⟨cs,u,y,z⟩:=s i x hi;exact⟨cs,u,E cs x y,z.keep r D⟩
theorem aH.at_ {α : Type} {w:World} {B size:Nat} {R:List Value->α->Prop} {A:Option Addr} {n f:Nat} {xs:List α} (h:aH w B size R (.slice A n f) xs) {i:Nat} (hi:i<xs.length) : ∃b d x cs,A=some ⟨b,d,none⟩/\b<B/\xs[i]? = some x/\cs.length=size/\R cs x/\hJ w b (d+i*size) cs:=by
 obtain⟨y,g,j,z,C,l⟩:=h;obtain⟨b,d,m,p,q⟩:=l (by omega);injection j with v D E
 have e:xs[i]? = some xs[i]:=lG hi;obtain⟨cs,r,s,u⟩:=q i _ e;exact⟨b,d,xs[i],cs,by rw[v,m],p,e,r,s,u⟩
theorem aH.len {α : Type} {w:World} {B size:Nat} {R:List Value->α->Prop} {A:Option Addr} {n d:Nat} {xs:List α} (h:aH w B size R (.slice A n d) xs):n=xs.length/\n<=d/\d<=maxLen:=by
 obtain⟨m,e,f,g,i,p⟩:=h;injection f with q j l
 subst j;subst l;exact⟨rfl,g,i⟩
theorem aH.nil {α : Type} (w:World) (B size:Nat) (R:List Value->α->Prop):aH w B size R (.slice none 0 0) []:=⟨none,0,rfl,Nat.le_refl _,by decide,by simp⟩
theorem aH.take {α : Type} {w:World} {B size:Nat} {R:List Value->α->Prop} {A:Option Addr} {n d k:Nat} {xs:List α} (h:aH w B size R (.slice A n d) xs) (C:k<=n) : aH w B size R (.slice A k d) (xs.take k):=by
 obtain⟨v,f,g,y,j,l⟩:=h;injection g with r s u
 subst r;subst s;subst u;have hl:(xs.take k).length=k:=by simp;omega
 refine⟨A,d,by rw[hl],by omega,j,λz=>?_⟩;obtain⟨b,e,m,p,q⟩:=l (by omega);refine⟨b,e,m,p,λi x hi=>q i x ?_⟩;rw[List.getElem?_take] at hi;split at hi;·exact hi
 ·cases hi
def hY (cs:List Value) (x:Int):Prop:=cs=[.int .i64 x]/\wfi x
section
variable {H:Type} {enc:TypeId×Value->H} {P:Program} {w:World} {spare:Nat->Bool} {held:Bool}
def eQ {α : Type} (enc:TypeId×Value->H) (P:Program) (w:World) (spare:Nat->Bool) (held:Bool) (t:TypeId) (R:List Value->α->Prop):Prop:=
 ∀(fuel:Nat) (cs:List Value) (x:DataW H×List MemPlace),DataW.trod enc P w 0 spare held fuel t cs=some x->cs.length=P.cellsOf t/\∃a,R cs a
theorem aaT {t:TypeId} (ht:P.underlying t=some (.int .i64)) (f:P.cellsOf t=1):eQ enc P w spare held t hY:=by intro e cs x h;obtain⟨n,rfl,_,d⟩:=DataW.trod_int ht h;exact⟨f.symm,n,rfl,wfi_of d⟩
def sP (cs:List Value) (x:Bool):Prop:=cs=[.bool x]
theorem xH {t:TypeId} (ht:P.underlying t=some .bool) (e:P.cellsOf t=1):eQ enc P w spare held t sP:=by intro d cs x h;obtain⟨n,rfl,_⟩:=DataW.trod_bool ht h;exact⟨e.symm,n,rfl⟩
def lV (cs:List Value) (s:ByteArray):Prop:=cs=[.string s]/\s.size<=maxLen
theorem uR {t:TypeId} (ht:P.underlying t=some .string) (f:P.cellsOf t=1):eQ enc P w spare held t lV:=by intro e cs x h;obtain⟨s,rfl,_,d⟩:=DataW.trod_string ht h;exact⟨f.symm,s,rfl,d⟩
theorem mL {α : Type} {len:Nat} {p:Nat->α->Prop} (h:∀i,i<len->∃x,p i x):∃xs:List α,xs.length=len/\∀i x,xs[i]? = some x->p i x:=by
 induction len with
 | zero=>exact⟨[],rfl,by simp⟩
 | succ n ih=>
  obtain⟨d,e,f⟩:=ih (λi hi=>h i (by omega))
  obtain⟨xs,g⟩:=h n (by omega)
  refine⟨d++[xs],by simp[e],λi j hi=>?_⟩
  rcases Nat.lt_or_ge i d.length with hl | hl
  ·rw[List.getElem?_append_left hl] at hi
   exact f i j hi
  ·rw[List.getElem?_append_right hl] at hi
   have:i - d.length=0:=by
    rcases Nat.eq_zero_or_pos (i - d.length) with h0 | h0
    ·exact h0
    ·rw[List.getElem?_eq_none (by simp;omega)] at hi;cases hi
   rw[this] at hi
   simp at hi
   subst hi
   have:i=n:=by omega
   subst this
   exact g
theorem eB {α : Type} {t e:TypeId} {R:List Value->α->Prop} {n:Nat} (ht:P.underlying t=some (.slice e)) (Y:P.cellsOf e=n) (Z:0<n) (G:P.cellsOf t=1) (he:eQ enc P w spare held e R):eQ enc P w spare held t (λcs (xs:List α)=>∃v,cs=[v]/\aH w w.heap.size n R v xs):=by
 intro W cs x h;rcases Deep.open_slice ht h with ⟨rfl,_⟩ | ⟨a,len,H,m,n',D,Pl,rfl,hb,hl,hm,I,hx,hi⟩;·exact⟨G.symm,[],_,rfl,aH.nil _ _ _ _⟩
 ·refine⟨G.symm,?_⟩;have a3:len<=m:=by rw[I];split <;> omega
  obtain⟨xs,L,z⟩:=mL (len:=len) (p:=λi (x : α)=>∃cs,cs.length=n/\R cs x/\∀j v,cs[j]? = some v->w.cell? (a.add (i*n+j))=some v) (λi a5=>by obtain⟨r,s,A⟩:=hi i (by omega);rw[Y] at s;obtain⟨_,C,E⟩:=World.cells?_some s;obtain⟨_,y,M⟩:=he _ _ _ A;refine⟨y,r,C,M,λj v l=>?_⟩;have a4:j<r.length:=(lE l).1;have g:=E j (by omega);rw[<-Go.Deep.add_add,g];exact l);refine⟨xs,_,rfl,some a,H,by rw[L],by omega,hm,λX=>?_⟩;have J:xs[0]? = some xs[0]:=lG X;obtain⟨u,b1,b2,N⟩:=z 0 _ J;have K:u[0]? = some (u[0]'(by omega)):=lG (by omega);have q:=N 0 _ K;have d:=abQ q;have f:=dP q;simp[Addr.add] at d f;obtain⟨b,F,sp⟩:=a;simp at d f;subst d;refine⟨b,F,rfl,f,λi x hi=>?_⟩;obtain⟨cs,O,S,V⟩:=z i x hi;refine⟨cs,O,S,λj v l=>?_⟩;have:=V j v l;rw[Addr.add] at this;split at this;·rename_i h0;rw[Nat.add_assoc,h0];exact this
  ·rw[Nat.add_assoc];exact this
theorem aS {α : Type} {t:TypeId} {d:Array Field} {e:Nat} {cs:List Value} {x:DataW H×List MemPlace} (ht:P.underlying t=some (.struct d)) (h:DataW.trod enc P w 0 spare held e t cs=some x) (i:Nat) (f:Field) (hf:d[i]? = some f) {R:List Value->α->Prop} (q:eQ enc P w spare held f.type R):∃a,R ((cs.drop f.offset).take (P.cellsOf f.type)) a:=by obtain⟨xs,m,rfl,_,l,r,p⟩:=DataW.trod_struct ht h;have g:=p i f hf;have hi:i<d.size:=(aE hf).1;have j:xs[i]? = some (xs[i]'(by omega)):=lG (by omega);rw[j] at g;exact(q _ _ _ g).2
theorem fT {t:TypeId} {f:Array Field} {e:Nat} {cs:List Value} {x:DataW H×List MemPlace} (ht:P.underlying t=some (.struct f)) (h:DataW.trod enc P w 0 spare held e t cs=some x):cs.length=P.cellsOf t:=by obtain⟨xs,m,rfl,_,d,g,i⟩:=DataW.trod_struct ht h;exact d
end
end
section
open Go.RowKit
structure Up (w:World) where
 to:World
 below:Below w.heap.size w to
instance Up.some_ (w:World):Nonempty (Up w):=⟨⟨w,Below.refl _ _⟩⟩
theorem Up.cell {w:World} (E:Up w) {a:Addr} {v:Value} (h:w.cell? a=some v):E.to.cell? a=some v:=by
 have d:a.block<w.heap.size:=by
  unfold World.cell? at h;split at h;·rename_i hb;exact(aE hb).1
  ·cases h
 exact(E.below.cell d).trans h
section
variable {P:Program}
theorem aD {id:Nat} {Q:Exit->Act->World->Prop} {a:Act} {w:World} {l:List Oper} (e:P.follows .mixedOrders=true) (hB:Region.lexB .any l.toArray=true) (h:wpQuiet P l.toArray (λw'=>∃E:Up w,w'=E.to) (λd=>∀w',(∃E:Up w,w'=E.to)->Q .normal d w') l a):(Code.region id l.toArray true).wp P Q a w:= wp_region_quiet (C:=λw'=>∃E:Up w,w'=E.to) e hB ⟨⟨_,(Below.refl _ w).drew⟩,rfl⟩ (by simpa using h)
theorem Calls.up {f:FuncId} {d:Array Value} {w:World} {E:Up w} {v:Value} (h:Calls P f d E.to λe w'=>e=.returned v/\Below E.to.heap.size E.to w'):Calls P f d E.to λe g=>e=.returned v/\∃j:Up w,g=j.to:= h.mono λ_ w' ⟨i,hb⟩=>⟨i,⟨w',E.below.trans (hb.mono E.below.size)⟩,rfl⟩
end
end
section
open Go.RowKit
def aM (v:Value) (w:World) (e:Ending) (w':World):Prop:=e=.returned v/\Below w.heap.size w w'
theorem uK (op:Int) (w:World):Calls prog 33 #[.int .i64 op] w (aM (.bool (iC op)) w):=by go_enter func33,ntmps33;go_wp2_with fail;refine(of_c op w).mono ?_;rintro e w1 ⟨rfl,b1⟩;have d:=hI b1;clear b1;unfold lR;go_wp2_with fail;go_ret;exact⟨rfl,by repeat (first | exact d.o | refine Below.drew ?_ | refine Below.setCell ?_ (by have:=d.o.size;simp;omega) _ | refine Below.alloc ?_ (by have:=d.o.size;simp;omega) _)⟩
theorem sS {w:World} {base e:Nat} {v:Value} {xs:List Int} (h:w.ownsRow base e 1 v xs.length (xs.map (Value.int .i64))) (y:∀x∈xs,wfi x):aH w w.heap.size 1 hY v xs:=by
 rcases h.2 with ⟨rfl,z⟩ | ⟨g,p,q,rfl,hb,r,A,C,E,s⟩;·have:xs=[]:=List.length_eq_zero_iff.1 z;subst this;exact aH.nil _ _ _ _
 ·refine⟨_,p,rfl,A,C,λD=>⟨g,0,rfl,(aE r).1,λi x hi=>⟨[.int .i64 x],rfl,⟨rfl,y x (lM hi)⟩,λj u d=>?_⟩⟩⟩;have f:j=0:=by have:=(lE d).1;simp at this;omega
  subst f;simp at d;subst d;have l:i<xs.length:=(lE hi).1;simp only[World.cell?,r];simp only[Nat.mul_one,Nat.zero_add,Nat.add_zero,Option.isSome_none,Bool.false_eq_true,if_false];have m:(q.toList.take xs.length)[i]? = some (.int .i64 x):=by rw[Nat.mul_one] at s;rw[s];simp[hi]
  rw[List.getElem?_take,if_pos l] at m;simpa using m
theorem abA (v u:Value) (xs d:List Int) (B:Nat) (w:World) (E:aH w B 1 hY v xs) (F:aH w B 1 hY u d) : Calls prog 31 #[v,u] w λe w'=>e=.returned (.bool (decide (xs=d)))/\w'=w:=by
 obtain⟨A,a0,rfl,a1,H,_⟩:=id E;obtain⟨A',R,rfl,S,z,_⟩:=id F;unfold maxLen at H z;have N:=hI E;have O:=hI F;clear E F;by_cases hl:xs.length=d.length
 ·have X:xs.length<=d.length:=by omega
  have Y:d.length<=xs.length:=by omega
  have G:((xs.length:Int) != (d.length:Int))=false:=by simp;omega
  clear hl;go_enter func31,ntmps31;go_wp2_with fail;go_loop [14] (λk=>∃f:Nat,k=.int .i64 f/\f<=xs.length/\Hid (xs.take f=d.take f)) (λk=>xs.length - (intOf k).toNat);case atStart=>exact⟨0,rfl,by omega,hI rfl⟩
  case round=>
   obtain⟨f,rfl,hk,I⟩:=hrel;by_cases M:f<xs.length
   ·obtain⟨b,J,x,cs,rfl,hb,p,K,V,q⟩:=N.o.at_ M;obtain⟨W,C,y,a2,rfl,a3,r,D,L,j⟩:=O.o.at_ (i:=f) (by omega);obtain⟨rfl,_⟩:=V;obtain⟨rfl,_⟩:=L;have g0:w.cell? ⟨b,J+f,none⟩=some (.int .i64 x):=(by simpa using q 0 _ rfl);have g1:w.cell? ⟨W,C+f,none⟩=some (.int .i64 y):=(by simpa using j 0 _ rfl);have l:=hI p;have m:=hI r;clear p r q j K D;by_cases g:x=y
    ·subst g;go_wp2_with fail;go_round;case rel=>exact⟨f+1,by go_num,by omega,hI (by rw[List.take_add_one,List.take_add_one,I.o,l.o,m.o])⟩
     case measure=>simp[intOf];omega
    ·have Z:(x == y)=false:=(by simpa using g);have P:(x != y)=true:=(by simpa using g);have s:=hI g;clear g;go_wp2_with fail;go_ret;refine⟨?_,rfl⟩;have:¬xs=d:=λe=>s.o (by have h:=l.o;rw[e,m.o] at h;injection h with h;exact h.symm);simp[this]
   ·go_wp2_with fail;go_ret;refine⟨?_,rfl⟩;have h:xs=d:=(by have:=I.o;rw[List.take_of_length_le (by omega),List.take_of_length_le (by omega)] at this;exact this);simp[h]
 ·have G:((xs.length:Int) != (d.length:Int))=true:=by simp;omega
  have s:=hI hl;clear hl;go_enter func31,ntmps31;go_wp2_with fail;go_ret;refine⟨?_,rfl⟩;have:¬xs=d:=λe=>s.o (by rw[e]);simp[this]
end
section
open Go.RowKit
theorem zP {d wr:World} (hb:Below d.heap.size d wr) (E:Up wr) {a:Addr} {v:Value} (h:d.cell? a=some v):E.to.cell? a=some v:=E.cell ((hb.cell (dP h)).trans h)
theorem aC {d wr:World} (hb:Below d.heap.size d wr) {a:Addr} {v:Value} (h:d.cell? a=some v):wr.cell? a=some v:=(hb.cell (dP h)).trans h
theorem oV {d wr:World} (hb:Below d.heap.size d wr) (E:Up wr):Below d.heap.size d E.to:=hb.trans (E.below.mono hb.size)
theorem Below.then {B:Nat} {d w1 e:World} (h:Below B d w1) (k:Below w1.heap.size w1 e) (hB:B<=w1.heap.size):Below B d e:=h.trans (k.mono hB)
theorem Below.next {d w1 e:World} (h:Below d.heap.size d w1) (k:Below w1.heap.size w1 e):Below d.heap.size d e:=h.trans (k.mono h.size)
theorem bL (w:World) (A:Array Value) (t:TypeId) (i:Nat):(w.alloc (.cells A t)).cell? ⟨w.heap.size,i,none⟩=A[i]?:=World.cell?_alloc_at _ _ _ _ rfl
theorem iM {w:World} {a:Addr} {v:Value} (h:w.cell? a=some v) (o:Obj):(w.alloc o).cell? a=some v:=(World.cell?_alloc_lt _ _ _ (dP h)).trans h
theorem kK (w:World) (A:Array Value) (t:TypeId) (o:Obj) (i:Nat):((w.alloc (.cells A t)).alloc o).cell? ⟨w.heap.size,i,none⟩=A[i]?:=by rw[World.cell?_alloc_lt _ _ _ (by simp)];exact bL w A t i
theorem mM (w:World) (A:Array Value) (t:TypeId) (o:Obj) (i:Nat):((w.alloc o).alloc (.cells A t)).cell? ⟨w.heap.size+1,i,none⟩=A[i]?:=by have h:=bL (w.alloc o) A t i;rwa [World.size_alloc] at h
theorem aB (w:World) (a:Obj):Below w.heap.size w (w.alloc a):=(Below.refl w.heap.size w).alloc (Nat.le_refl _) a
theorem bE (w:World) (a b:Obj):Below w.heap.size w ((w.alloc a).alloc b):=((Below.refl w.heap.size w).alloc (Nat.le_refl _) a).alloc (by simp) b
end
section
open Go.RowKit
def jU {α : Type} (p : α->Bool) (xs:List α):Int:=match xs.findIdx? p with
 | some i=>i
 | none=>-1
theorem fU {α : Type} {p : α->Bool} {xs:List α} {k:Nat} {x : α} (h:∀i x,i<k->xs[i]? = some x->p x=false) (d:xs[k]? = some x) (g:p x=true):jU p xs=k:=by
 have hl:k<xs.length:=(lE d).1;have e:xs.findIdx? p=some k:=by
  rw[List.findIdx?_eq_some_iff_getElem];refine⟨hl,?_,λj f=>?_⟩;·rw[lG hl] at d;injection d with d;rw[d];exact g
  ·have:=h j xs[j] f (lG (by omega));simp[this]
 simp[jU,e]
theorem e8 {α : Type} {p : α->Bool} {xs:List α} (h:∀(i:Nat) x,xs[i]? = some x->p x=false):jU p xs = -1:=by
 have e:xs.findIdx? p=none:=by rw[List.findIdx?_eq_none_iff];intro x d;obtain⟨i,hi⟩:=List.getElem?_of_mem d;exact h i x hi
 simp[jU,e]
theorem fV {α : Type} (p : α->Bool) (xs:List α):xs.any p=decide (0<=jU p xs):=by
 unfold jU;split;·rename_i i hi;obtain⟨d,e,_⟩:=List.findIdx?_eq_some_iff_getElem.1 hi;rw[eq_comm];simp;exact⟨xs[i],List.getElem_mem d,e⟩
 ·rename_i hi;rw[List.findIdx?_eq_none_iff] at hi;rw[eq_comm];simp;exact λx f=>by simpa using hi x f
theorem rW {α : Type} (R:List Value->α->Prop) (p : α->Bool) (A:Option Addr) (j:Nat) (xs:List α) (l:FuncId) (a1:∀u W,(callFunc l u).run prog W=.ok (.enter l u) W) (v:Array Value) (w:World) (F:aH w w.heap.size 1 R (.slice A xs.length j) xs) (M:∀(w1:World),Below w.heap.size w w1->∀(x : α) (cs:List Value),x∈xs->R cs x->Calls prog l (cs.toArray++v) w1 (aM (.bool (p x)) w1)) : Calls prog 187 #[.slice A xs.length j,.func (.func l) #[] v] w (aM (.int .i64 (jU p xs)) w):=by
 have O:=hI F;have P:=hI M;have hl:xs.length<=j/\j<=maxLen:=by obtain⟨A',c',e,S,V,-⟩:=F;injection e with _ _ Y;subst Y;exact⟨S,V⟩
 obtain⟨a0,I⟩:=hl;unfold maxLen at I;clear F M;go_enter func187,ntmps187;go_wp2_with fail;go_loopw [8] (λk wr=>∃d:Nat,k=.int .i64 d/\d<=xs.length/\Hid (∀i x,i<d->xs[i]? = some x->p x=false)/\Hid (Below w.heap.size w wr)) (λk _=>xs.length - (RowKit.intOf k).toNat);case atStart=>exact⟨0,rfl,by omega,λi x hi _=>by omega,Below.refl _ _⟩
 case round=>
  obtain⟨d,rfl,hk,E,g⟩:=hrel
  by_cases N:d<xs.length
  ·obtain⟨b,J,x,cs,rfl,hb,q,K,L,C⟩:=O.o.at_ N
   match cs,K with
   | [c0],_=>
    have Z:(d:Int)<xs.length:=by omega
    have G:wr.cell? ⟨b,J+d,none⟩=some c0:=(g.o.cell hb).trans (by simpa using C 0 _ rfl)
    have z:=hI (P.o wr g.o x _ (lM q) L)
    have H:=hI q
    clear q C L
    cases f:p x
    ·have m:=hI f
     rw[f] at z
     clear f
     go_wp2_with fail
     refine z.o.mono ?_
     rintro e X ⟨rfl,r⟩
     have D:=hI (Below.trans g.o (r.mono g.o.size))
     clear r G
     go_wp2_with fail
     go_roundw
     case rel=>exact⟨d+1,by go_num,by omega,λi y hi s=>by
      rcases Nat.lt_or_ge i d with h | h
      ·exact E.o i y h s
      ·have:i=d:=by omega
       subst this
       rw[H.o] at s
       injection s with s
       subst s
       exact m.o,D⟩
     case measure=>simp[RowKit.intOf];omega
    ·have m:=hI (fU E.o H.o f)
     rw[f] at z
     clear f
     go_wp2_with fail
     refine z.o.mono ?_
     rintro e X ⟨rfl,r⟩
     have D:=hI (Below.trans g.o (r.mono g.o.size))
     clear r G
     go_wp2_with fail
     go_ret
     exact⟨by rw[m.o];rfl,D.o⟩
  ·have m:=hI (e8 (p:=p) (xs:=xs) (λi x hi=>E.o i x (by have:=(lE hi).1;omega) hi))
   go_wp2_with fail
   go_ret
   exact⟨by rw[m.o];rfl,g.o⟩
theorem oO {α : Type} (R:List Value->α->Prop) (p : α->Bool) (A:Option Addr) (h:Nat) (xs:List α) (d:FuncId) (i:∀g W,(callFunc d g).run prog W=.ok (.enter d g) W) (f:Array Value) (w:World) (l:aH w w.heap.size 1 R (.slice A xs.length h) xs) (m:∀(w1:World),Below w.heap.size w w1->∀(x : α) (cs:List Value),x∈xs->R cs x->Calls prog d (cs.toArray++f) w1 (aM (.bool (p x)) w1)) : Calls prog 180 #[.slice A xs.length h,.func (.func d) #[] f] w (aM (.bool (xs.any p)) w):=by have q:=hI (rW R p A h xs d i f w l m);have r:=hI (fV p xs);clear l m i;go_enter func180,ntmps180;go_wp2_with fail;refine q.o.mono ?_;rintro e w1 ⟨rfl,j⟩;have s:=hI j;clear j;go_wp2_with fail;go_ret;exact⟨by rw[r.o];rfl,s.o⟩
end
section
open Go.RowKit
def jS (x:bG):List Value:=[.int .i64 x.op,.int .i64 x.a,.int .i64 x.b,.int .i64 x.c,.int .i64 x.n,.int .i64 x.exit,.int .i64 x.k.kind,.int .i64 x.k.n]
def acY (x:bG):Value:=.agg #[.int .i64 x.op,.int .i64 x.a,.int .i64 x.b,.int .i64 x.c,.int .i64 x.n,.int .i64 x.exit,.int .i64 x.k.kind,.int .i64 x.k.n]
def uD (x:bG):Prop:=wfi x.op/\wfi x.a/\wfi x.b/\wfi x.c/\wfi x.n/\wfi x.exit/\wfi x.k.kind/\wfi x.k.n
theorem uW:(prog.info? 3).map (λi=>(i.zero,i.size,i.bytes))=some (some (.int .i64 0),1,8):=by kernel_rfl
theorem zQ (op:Int):0<=(cF op).asks/\(cF op).asks<=3/\((lU op)=false->(cF op).asks=0):=by
 by_cases h:lU op=true;·rcases nU h with h | h | h | h | h | h | h | h | h | h | h | h | h | h | h | h | h | h | h <;> subst h <;> decide
 ·have d:lU op=false:=by simpa using h
  have:=rY op (λe=>by simp only[lU,decide_eq_false_iff_not] at d;omega);rw[this];simp
def mW (xs:List Int) (w:World) (e:Ending) (w':World):Prop:=∃v,e=.returned v/\aH w' w'.heap.size 1 hY v xs/\Below w.heap.size w w'
theorem ab2 {W:World} {g:Nat} {a b c:Int} {t:TypeId} {e:Nat×Nat} {k:Nat} (h:W.heap[g]? = some (.cells #[.int .i64 a,.int .i64 b,.int .i64 c] t e)) : ∀j u,(([a,b,c].take k).map (Value.int .i64))[j]? = some u->W.cell? ((⟨g,0,none⟩:Addr).add j)=some u:=by
 intro j u d;rw[List.map_take,List.getElem?_take] at d;split at d
 ·have hl:j<3:=by have:=(lE d).1;simpa using this
  match j,hl with
  | 0,_=>simpa [Addr.add,World.cell?,h] using d
  | 1,_=>simpa [Addr.add,World.cell?,h] using d
  | 2,_=>simpa [Addr.add,World.cell?,h] using d
 ·cases d
theorem aa2 {a b c:Int} {k:Nat} (d:k<=3):(([a,b,c].take k).map (Value.int .i64)).length=k*1:=by simp;omega
theorem cQ (w:World) (o p:Obj):((w.alloc o).alloc p).heap[w.heap.size+1]? = some p:=by show((w.heap.push o).push p)[w.heap.size+1]? = _;rw[Array.getElem?_push,if_pos (by simp)]
theorem acW (xs:List Int):∀u∈xs.map (Value.int .i64),u.oneCell'=true:=by intro u d;obtain⟨x,_,rfl⟩:=List.mem_map.1 d;rfl
theorem aaE {n:Nat} (h:n<=1000000):n<=maxLen:=by unfold maxLen;omega
theorem vO {n:Nat} (h:n<=1000000):n*8<=140737488355328:=by omega
theorem wM {w d:World} (h:w.heap.size<d.heap.size) (o p:Obj):w.heap.size<=((d.alloc o).alloc p).heap.size:=by simp;omega
theorem abT {w d:World} {e:Obj} (h:Below (w.alloc e).heap.size (w.alloc e) d) (f:w.heap.size<d.heap.size) (o p:Obj):Below w.heap.size w ((d.alloc o).alloc p):= Below.alloc (Below.alloc ((Below.alloc (Below.refl _ _) (Nat.le_refl _) e).trans (h.mono (by simp))) (by omega) o) (by simp;omega) p
theorem abV (x:bG) (h:(cF x.op).asks=0):iU x=[]:=by simp[iU,h]
theorem asks_c (x:bG) (W:uD x) (w:World):Calls prog 32 #[acY x] w (mW (iU x) w):=by
 obtain⟨op,a,b,c,n,y,⟨z,A⟩⟩:=x;obtain⟨w1,O,P,R,_⟩:=W;simp only at O P R;unfold acY;dsimp only;obtain⟨C,D,r⟩:=zQ op;obtain⟨S,hi,E,F,G⟩:=info_parts uW;by_cases g:lU op=true
 ·have m:iU ⟨op,a,b,c,n,y,⟨z,A⟩⟩=[a,b,c].take (cF op).asks.toNat:=rfl;have I:=hI m;clear m r;obtain⟨k,s⟩:∃k:Nat,(cF op).asks=k:=⟨(cF op).asks.toNat,by omega⟩;have u:k<=3:=by omega
  have J:(k:Int)<=3:=by omega
  have K:=hI s;go_enter func32,ntmps32;go_wp2_with fail;refine(of_c op _).mono ?_;rintro e h ⟨rfl,d⟩;have X:h.cell? ⟨w.heap.size,1,none⟩=some (.int .i64 a):=(d.cell (p:=⟨w.heap.size,1,none⟩) (by simp)).trans (World.cell?_alloc_at _ _ _ _ rfl);have Y:h.cell? ⟨w.heap.size,2,none⟩=some (.int .i64 b):=(d.cell (p:=⟨w.heap.size,2,none⟩) (by simp)).trans (World.cell?_alloc_at _ _ _ _ rfl);have Z:h.cell? ⟨w.heap.size,3,none⟩=some (.int .i64 c):=(d.cell (p:=⟨w.heap.size,3,none⟩) (by simp)).trans (World.cell?_alloc_at _ _ _ _ rfl);have l:=hI d;have i:w.heap.size<h.heap.size:=by have:=d.size;simp at this;omega
  clear d;unfold lR;rw[g,s];clear s g C D;go_wp2_with (at_builtin;refine wpList_append_own _ rfl _ _ 89 rfl w.heap.size 3 S (.int .i64 0) 1 8 underlying89 hi E F G rfl (by decide) (.slice none 0 0) 0 [] rfl (World.ownsRow_nil _ _ _ _) ⟨h.heap.size+1,0,none⟩ k 3 (([a,b,c].take k).map (Value.int .i64)) rfl (aa2 u) (ab2 (cQ _ _ _)) (acW _) (aaE (by omega)) (vO (by omega)) (wM i _ _) ?_);intro v w6 j H _;have L:=hI j;have M:=hI H;clear j H;go_wp2_with fail;go_ret;refine⟨v,rfl,?_,?_⟩
  ·rw[I.o,K.o];have:=L.o;have q:([a,b,c].take k).length=k:=(by simp;omega);refine sS (base:=w.heap.size) (e:=3) (xs:=[a,b,c].take k) ?_ ?_;·rw[q];simpa using this
   ·intro x V;have:=List.mem_of_mem_take V;simp at this;rcases this with rfl | rfl | rfl <;> assumption
  ·have hb:=M.o;exact Below.grown (abT l.o i _ _) hb (wM i _ _) (by simp[Value.ownBlock])
 ·have f:lU op=false:=by simpa using g
  have N:=hI (abV ⟨op,a,b,c,n,y,⟨z,A⟩⟩ (r f));clear r g C D;go_enter func32,ntmps32;go_wp2_with fail;refine(of_c op _).mono ?_;rintro e h ⟨rfl,d⟩;have l:=hI d;clear d;unfold lR;rw[f];clear f;go_wp2_with fail;go_ret;refine⟨_,rfl,?_,?_⟩;·rw[N.o];exact aH.nil _ _ _ _
  ·refine Below.alloc ((Below.alloc (Below.refl _ _) (Nat.le_refl _) _).trans (l.o.mono (by simp))) ?_ _;have:=l.o.size;simp at this;omega
end
section
open Go.RowKit
theorem aH.below {α : Type} {w w':World} {size:Nat} {R:List Value->α->Prop} {v:Value} {xs:List α} (h:aH w w.heap.size size R v xs) (hb:Below w.heap.size w w'):aH w' w'.heap.size size R v xs:= h.keep hb.size (λ_ d=>hb.cell d) (λ_ _ h=>h)
theorem ab6 (w:World) (t:TypeId):aH (w.alloc (.cells #[.int .i64 4,.int .i64 5,.int .i64 6] t)) (w.heap.size+1) 1 hY (.slice (some ⟨w.heap.size,0,none⟩) 3 3) [4,5,6]:=by
 refine⟨_,3,rfl,by simp,by decide,λ_=>⟨w.heap.size,0,rfl,by omega,λi x hi=>⟨[.int .i64 x],rfl,⟨rfl,?_⟩,λj v d=>?_⟩⟩⟩;·have:=lM hi;simp at this;rcases this with rfl | rfl | rfl <;> exact⟨by decide,by decide⟩
 ·have e:j=0:=by have:=(lE d).1;simp at this;omega
  subst e;simp at d;subst d;have f:i<3:=by have:=(lE hi).1;simpa using this
  rw[World.cell?_alloc_at _ _ _ _ rfl];match i,f with
  | 0,_=>simpa using hi
  | 1,_=>simpa using hi
  | 2,_=>simpa using hi
def Irred (w:World) (e:Ending) (w':World):Prop:=e=.returned (.bool true)/\Below w.heap.size w w'
theorem irred_c (w:World):Calls prog 14 #[] w (Irred w):=by
 have d:=λw'=>uK 13 w';have f:=λw'=>uK 11 w';have g:iC 13=true:=by decide
 have i:iC 11=false:=by decide
 rw[g] at d;rw[i] at f;have x:=hI d;have y:=hI f;clear g i d f;go_enter func14,ntmps14;go_wp2_with fail;refine(asks_c ⟨14,4,5,6,0,0,⟨0,0⟩⟩ (by unfold uD wfi;decide) _).mono ?_;rintro e w1 ⟨v,rfl,r,b1⟩;have z:=hI r;have j:=hI b1;clear r b1;go_wp2_with fail;refine(abA v _ (iU ⟨14,4,5,6,0,0,⟨0,0⟩⟩) [4,5,6] _ _ (z.o.keep (Nat.le_succ _) (λp C=>World.cell?_alloc_lt _ _ _ C) (λ_ _ h=>h)) (ab6 w1 _)).mono ?_;rw[show decide (iU ⟨14,4,5,6,0,0,⟨0,0⟩⟩=[4,5,6])=true from by decide];rintro e D ⟨rfl,rfl⟩;go_wp2_with fail;refine(x.o _).mono ?_;rintro e E ⟨rfl,s⟩;have l:=hI s;clear s;go_wp2_with fail;refine(y.o _).mono ?_;rintro e F ⟨rfl,u⟩;have A:=hI u;clear u;go_wp2_with fail;go_ret;refine⟨rfl,?_⟩;have m:=j.o.size;have q:=l.o.size;simp at q;exact((j.o.alloc m _).trans (l.o.mono (by simp;omega))).trans (A.o.mono (by omega))
end
section
open Go.RowKit
def wR (cs:List Value) (x:bG):Prop:=cs=jS x/\uD x
theorem rN {w:World} {B:Nat} {A:Option Addr} {n e:Nat} {xs:List bG} (h:aH w B 8 wR (.slice A n e) xs) {i:Nat} (hi:i<xs.length) : ∃b d x,A=some ⟨b,d,none⟩/\b<B/\xs[i]? = some x/\uD x/\hJ w b (d+i*8) (jS x):=by obtain⟨b,d,x,cs,f,g,j,_,⟨rfl,l⟩,m⟩:=h.at_ hi;exact⟨b,d,x,f,g,j,l,m⟩
end
section
open Go.ChangeShapes Go.WideShapes Go.ChangeAt Go.RowKit
def SetR (cs:List Value) (x:pS):Prop:=cs=[.int .i64 x.reg,.int .i64 x.val]/\wfi x.reg/\wfi x.val
def sM (w:World) (B:Nat) (cs:List Value) (m:fZ):Prop:=∃v,cs=[.int .i64 m.cell,.int .i64 m.kind,.int .i64 m.num,v]/\aH w B 1 hY v m.vals/\wfi m.cell/\wfi m.kind/\wfi m.num
def gF (w:World) (B:Nat) (cs:List Value) (x:cW):Prop:=∃s m,cs=[.int .i64 x.at_,.int .i64 x.steps,s,m]/\aH w B 2 SetR s x.sets/\aH w B 4 (sM w B) m x.makes/\wfi x.at_/\wfi x.steps
def cT (w:World) (B:Nat) (cs:List Value) (t:aN):Prop:=
 ∃i e ct cb,cs=[.int .i64 t.fn,.int .i64 t.at_,.int .i64 t.loop,i,e]++ct++cb/\aH w B 8 wR i t.ins/\aH w B 4 (gF w B) e t.exits/\gF w B ct t.turn/\gF w B cb t.back/\wfi t.fn/\wfi t.at_/\wfi t.loop
theorem sM.keep {w w':World} {B B':Nat} {cs:List Value} {m:fZ} (h:sM w B cs m) (hB:B<=B') (g:∀p:Addr,p.block<B->w'.cell? p=w.cell? p):sM w' B' cs m:=by obtain⟨v,d,e,f⟩:=h;exact⟨v,d,e.keep hB g (λ_ _ h=>h),f⟩
theorem gF.keep {w w':World} {B B':Nat} {cs:List Value} {x:cW} (h:gF w B cs x) (hB:B<=B') (d:∀p:Addr,p.block<B->w'.cell? p=w.cell? p):gF w' B' cs x:=by obtain⟨s,m,e,f,g,i⟩:=h;exact⟨s,m,e,f.keep hB d (λ_ _ h=>h),g.keep hB d (λ_ _ h=>h.keep hB d),i⟩
theorem cT.keep {w w':World} {B B':Nat} {cs:List Value} {t:aN} (h:cT w B cs t) (hB:B<=B') (d:∀p:Addr,p.block<B->w'.cell? p=w.cell? p):cT w' B' cs t:=by obtain⟨i,e,f,cb,g,j,l,m,q,r⟩:=h;exact⟨i,e,f,cb,g,j.keep hB d (λ_ _ h=>h),l.keep hB d (λ_ _ h=>h.keep hB d),m.keep hB d,q.keep hB d,r⟩
theorem cT.below {w w':World} {cs:List Value} {t:aN} (h:cT w w.heap.size cs t) (hb:Below w.heap.size w w'):cT w' w'.heap.size cs t:= h.keep hb.size (λ_ d=>hb.cell d)
section
variable {H:Type} {enc:TypeId×Value->H} {w:World} {spare:Nat->Bool} {held:Bool}
theorem tC:prog.cellsOf 3=1:=by kernel_rfl
theorem cVal:prog.cellsOf 48=2:=by kernel_rfl
theorem cIns:prog.cellsOf 92=8:=by kernel_rfl
theorem cSet:prog.cellsOf 66=2:=by kernel_rfl
theorem cMake:prog.cellsOf 181=4:=by kernel_rfl
theorem ad1:prog.cellsOf 32=4:=by kernel_rfl
theorem cTrace:prog.cellsOf 34=13:=by kernel_rfl
theorem adY:prog.cellsOf 89=1:=by kernel_rfl
theorem cSIns:prog.cellsOf 27=1:=by kernel_rfl
theorem cSSet:prog.cellsOf 29=1:=by kernel_rfl
theorem adX:prog.cellsOf 30=1:=by kernel_rfl
theorem adZ:prog.cellsOf 28=1:=by kernel_rfl
theorem eT:eQ enc prog w spare held 3 hY:=aaT underlying3 tC
theorem xJ:eQ enc prog w spare held 89 (λcs (xs:List Int)=>∃v,cs=[v]/\aH w w.heap.size 1 hY v xs):=eB underlying89 tC (by decide) adY eT
def hU (cs:List Value) (x:Val):Prop:=cs=[.int .i64 x.kind,.int .i64 x.n]/\wfi x.kind/\wfi x.n
theorem o_val:eQ enc prog w spare held 48 hU:=by
 intro f cs x h
 have hl:=fT underlying48 h
 refine⟨hl,?_⟩
 rw[cVal] at hl
 obtain⟨a,d⟩:=aS underlying48 h 0 _ rfl eT
 obtain⟨b,hb⟩:=aS underlying48 h 1 _ rfl eT
 match cs,hl with
 | [c0,c1],_=>
  simp only[List.getElem_toArray,List.getElem_cons_zero,List.getElem_cons_succ,tC,hY,List.drop_zero,List.take_succ_cons,List.take_zero,List.drop_succ_cons,List.cons.injEq,and_true] at d hb
  obtain⟨rfl,e⟩:=d
  obtain⟨rfl,wb⟩:=hb
  exact⟨⟨a,b⟩,rfl,e,wb⟩
theorem o_set:eQ enc prog w spare held 66 SetR:=by
 intro f cs x h
 have hl:=fT underlying66 h
 refine⟨hl,?_⟩
 rw[cSet] at hl
 obtain⟨a,d⟩:=aS underlying66 h 0 _ rfl eT
 obtain⟨b,hb⟩:=aS underlying66 h 1 _ rfl eT
 match cs,hl with
 | [c0,c1],_=>
  simp only[List.getElem_toArray,List.getElem_cons_zero,List.getElem_cons_succ,tC,hY,List.drop_zero,List.take_succ_cons,List.take_zero,List.drop_succ_cons,List.cons.injEq,and_true] at d hb
  obtain⟨rfl,e⟩:=d
  obtain⟨rfl,wb⟩:=hb
  exact⟨⟨a,b⟩,rfl,e,wb⟩
theorem o_ins:eQ enc prog w spare held 92 wR:=by
 intro F cs x h
 have hl:=fT underlying92 h
 refine⟨hl,?_⟩
 rw[cIns] at hl
 obtain⟨m,d⟩:=aS underlying92 h 0 _ rfl eT
 obtain⟨p,e⟩:=aS underlying92 h 1 _ rfl eT
 obtain⟨q,f⟩:=aS underlying92 h 2 _ rfl eT
 obtain⟨r,g⟩:=aS underlying92 h 3 _ rfl eT
 obtain⟨s,i⟩:=aS underlying92 h 4 _ rfl eT
 obtain⟨u,j⟩:=aS underlying92 h 5 _ rfl eT
 obtain⟨k,l⟩:=aS underlying92 h 6 _ rfl o_val
 match cs,hl with
 | [c0,c1,c2,c3,c4,c5,c6,c7],_=>
  simp only[List.getElem_toArray,List.getElem_cons_zero,List.getElem_cons_succ,tC,cVal,hY,hU,List.drop_zero,List.take_succ_cons,List.take_zero,List.drop_succ_cons,List.cons.injEq,and_true] at d e f g i j l
  obtain⟨rfl,v⟩:=d
  obtain⟨rfl,w1⟩:=e
  obtain⟨rfl,y⟩:=f
  obtain⟨rfl,z⟩:=g
  obtain⟨rfl,A⟩:=i
  obtain⟨rfl,C⟩:=j
  obtain⟨⟨rfl,rfl⟩,D,E⟩:=l
  exact⟨⟨m,p,q,r,s,u,k⟩,rfl,v,w1,y,z,A,C,D,E⟩
theorem o_sets:eQ enc prog w spare held 29 (λcs (xs:List pS)=>∃v,cs=[v]/\aH w w.heap.size 2 SetR v xs):=eB underlying29 cSet (by decide) cSSet o_set
theorem o_inss:eQ enc prog w spare held 27 (λcs (xs:List bG)=>∃v,cs=[v]/\aH w w.heap.size 8 wR v xs):=eB underlying27 cIns (by decide) cSIns o_ins
theorem o_make:eQ enc prog w spare held 181 (sM w w.heap.size):=by
 intro s cs x h
 have hl:=fT underlying181 h
 refine⟨hl,?_⟩
 rw[cMake] at hl
 obtain⟨i,d⟩:=aS underlying181 h 0 _ rfl eT
 obtain⟨j,e⟩:=aS underlying181 h 1 _ rfl eT
 obtain⟨l,f⟩:=aS underlying181 h 2 _ rfl eT
 obtain⟨m,v,g,p⟩:=aS underlying181 h 3 _ rfl xJ
 match cs,hl with
 | [c0,c1,c2,c3],_=>
  simp only[List.getElem_toArray,List.getElem_cons_zero,List.getElem_cons_succ,tC,adY,hY,List.drop_zero,List.take_succ_cons,List.take_zero,List.drop_succ_cons,List.cons.injEq,and_true] at d e f g
  obtain⟨rfl,q⟩:=d
  obtain⟨rfl,w1⟩:=e
  obtain⟨rfl,r⟩:=f
  subst g
  exact⟨⟨i,j,l,m⟩,_,rfl,p,q,w1,r⟩
theorem o_makes:eQ enc prog w spare held 30 (λcs (xs:List fZ)=>∃v,cs=[v]/\aH w w.heap.size 4 (sM w w.heap.size) v xs):=eB underlying30 cMake (by decide) adX o_make
theorem xK:eQ enc prog w spare held 32 (gF w w.heap.size):=by
 intro s cs x h
 have hl:=fT underlying32 h
 refine⟨hl,?_⟩
 rw[ad1] at hl
 obtain⟨i,d⟩:=aS underlying32 h 0 _ rfl eT
 obtain⟨j,e⟩:=aS underlying32 h 1 _ rfl eT
 obtain⟨l,v,f,m⟩:=aS underlying32 h 2 _ rfl o_sets
 obtain⟨p,u,g,q⟩:=aS underlying32 h 3 _ rfl o_makes
 match cs,hl with
 | [c0,c1,c2,c3],_=>
  simp only[List.getElem_toArray,List.getElem_cons_zero,List.getElem_cons_succ,tC,cSSet,adX,hY,List.drop_zero,List.take_succ_cons,List.take_zero,List.drop_succ_cons,List.cons.injEq,and_true] at d e f g
  obtain⟨rfl,r⟩:=d
  obtain⟨rfl,w1⟩:=e
  subst f;subst g
  exact⟨⟨i,j,l,p⟩,_,_,rfl,m,q,r,w1⟩
theorem o_exits:eQ enc prog w spare held 28 (λcs (xs:List cW)=>∃v,cs=[v]/\aH w w.heap.size 4 (gF w w.heap.size) v xs):=eB underlying28 ad1 (by decide) adZ xK
theorem o_trace:eQ enc prog w spare held 34 (cT w w.heap.size):=by
 intro F cs x h
 have hl:=fT underlying34 h
 refine⟨hl,?_⟩
 rw[cTrace] at hl
 obtain⟨m,d⟩:=aS underlying34 h 0 _ rfl eT
 obtain⟨p,e⟩:=aS underlying34 h 1 _ rfl eT
 obtain⟨q,f⟩:=aS underlying34 h 2 _ rfl eT
 obtain⟨r,v,g,s⟩:=aS underlying34 h 3 _ rfl o_inss
 obtain⟨y,u,i,z⟩:=aS underlying34 h 4 _ rfl o_exits
 obtain⟨A,j⟩:=aS underlying34 h 5 _ rfl xK
 obtain⟨C,l⟩:=aS underlying34 h 6 _ rfl xK
 match cs,hl with
 | [c0,c1,c2,c3,c4,c5,c6,c7,c8,c9,c10,c11,c12],_=>
  simp only[List.getElem_toArray,List.getElem_cons_zero,List.getElem_cons_succ,tC,cSIns,adZ,ad1,hY,List.drop_zero,List.take_succ_cons,List.take_zero,List.drop_succ_cons,List.cons.injEq,and_true] at d e f g i j l
  obtain⟨rfl,D⟩:=d
  obtain⟨rfl,w1⟩:=e
  obtain⟨rfl,E⟩:=f
  subst g;subst i
  exact⟨⟨m,p,q,r,y,A,C⟩,_,_,_,_,rfl,s,z,j,l,D,w1,E⟩
theorem open_trace {v:Value} {d:DataW H} {f:List MemPlace} {r:Reach} {g:Nat} (i:Value.okWide prog w r g 34 v) (h:DataW.Trod enc prog w 0 spare held 34 v d f):∃cs t,v=.agg ⟨cs⟩/\cT w w.heap.size cs t:=by obtain⟨cs,rfl,_⟩:=okWide_struct underlying34 i;obtain⟨e,hf⟩:=h;obtain⟨_,t,ht⟩:=o_trace _ _ _ hf;exact⟨cs.toList,t,rfl,ht⟩
end
end
section
open Go.RowKit
def iA (cs:List Value) (x:fE):Prop:=cs=[.int .i64 x.op,.int .i64 x.a,.int .i64 x.b,.int .i64 x.c,.int .i64 x.line]/\wfi x.op/\wfi x.a/\wfi x.b/\wfi x.c/\wfi x.line
def FnR (w:World) (B:Nat) (cs:List Value) (f:CFn):Prop:=
 ∃A n C m,cs=[.int .i64 f.params,.int .i64 f.regs,.bool f.gen,.slice A f.caught.length n,.slice C f.code.length m]/\aH w B 1 hY (.slice A f.caught.length n) f.caught/\aH w B 5 iA (.slice C f.code.length m) f.code/\wfi f.params/\wfi f.regs
def eL (w:World) (B:Nat) (cs:List Value) (p:aW):Prop:=
 ∃A n C m D k,cs=[.slice A p.fns.length n,.slice C p.consts.length m,.slice D p.texts.length k]/\aH w B 5 (FnR w B) (.slice A p.fns.length n) p.fns/\aH w B 2 hU (.slice C p.consts.length m) p.consts/\aH w B 1 lV (.slice D p.texts.length k) p.texts
def fC (w:World) (B:Nat) (cs:List Value) (p:aW) (f:CFn):Prop:=∃pc fc,cs=pc++fc/\eL w B pc p/\FnR w B fc f
theorem FnR.keep {w w':World} {B B':Nat} {cs:List Value} {f:CFn} (h:FnR w B cs f) (hB:B<=B') (d:∀p:Addr,p.block<B->w'.cell? p=w.cell? p):FnR w' B' cs f:=by obtain⟨A,n,C,m,e,g,i,j⟩:=h;exact⟨A,n,C,m,e,g.keep hB d (λ_ _ h=>h),i.keep hB d (λ_ _ h=>h),j⟩
theorem eL.keep {w w':World} {B B':Nat} {cs:List Value} {p:aW} (h:eL w B cs p) (hB:B<=B') (d:∀p:Addr,p.block<B->w'.cell? p=w.cell? p):eL w' B' cs p:=by obtain⟨A,n,C,m,D,k,e,f,g,i⟩:=h;exact⟨A,n,C,m,D,k,e,f.keep hB d (λ_ _ h=>h.keep hB d),g.keep hB d (λ_ _ h=>h),i.keep hB d (λ_ _ h=>h)⟩
theorem fC.keep {w w':World} {B B':Nat} {cs:List Value} {p:aW} {f:CFn} (h:fC w B cs p f) (hB:B<=B') (d:∀p:Addr,p.block<B->w'.cell? p=w.cell? p):fC w' B' cs p f:=by obtain⟨e,g,i,j,l⟩:=h;exact⟨e,g,i,j.keep hB d,l.keep hB d⟩
theorem aP {α : Type} {w:World} {B size:Nat} {R:List Value->α->Prop} {A:Option Addr} {n d:Nat} {xs:List α} (h:aH w B size R (.slice A n d) xs):n<=9223372036854775807:=by obtain⟨f,g,e⟩:=h.len;unfold maxLen at e;omega
theorem dR (n g hi:Int) (w:World):Calls prog 156 #[.int .i64 n,.int .i64 g,.int .i64 hi] w λe w'=>e=.returned (.bool (aK n g hi))/\w=w':=by
 unfold aK;obtain⟨r,f⟩:∃r:Bool,(decide (g<=n) && decide (n<=hi))=r:=⟨_,rfl⟩;rw[f];by_cases h:g<=n
 ·have d:decide (n<=hi)=r:=by rw[<-f];simp[h]
  have i:=hI d;clear f d;go_enter func156,ntmps156;go_wp2;go_ret;exact⟨by rw[<-i.o];rfl,rfl⟩
 ·have d:false=r:=by rw[<-f];simp[h]
  subst d;have j:decide (g<=n)=false:=by simpa using h
  clear f;go_enter func156,ntmps156;go_wp2;go_ret;exact⟨rfl,rfl⟩
theorem xO (cs:List Value) (p:aW) (f:CFn) (n:Int) (w:World) (h:fC w w.heap.size cs p f) (z:1<=f.regs) : Calls prog 158 #[.agg ⟨cs⟩,.int .i64 n] w (aM (.bool (uO f n)) w):=by obtain⟨d,g,rfl,⟨i,j,l,m,q,r,rfl,-⟩,⟨s,u,v,x,rfl,-,-,-,w1,y⟩⟩:=h;unfold uO;go_enter func158,ntmps158;go_wp2_with fail;refine(dR _ _ _ _).mono ?_;rintro e w' ⟨rfl,rfl⟩;go_wp2_with fail;go_ret;exact⟨rfl,aB w _⟩
theorem lat_c (cs:List Value) (p:aW) (f:CFn) (n:Int) (w:World) (h:fC w w.heap.size cs p f) : Calls prog 179 #[.agg ⟨cs⟩,.int .i64 n] w (aM (.bool (aK n 0 ((f.code.length:Int) - 1))) w):=by obtain⟨g,i,rfl,⟨j,l,m,q,r,s,rfl,-⟩,⟨u,v,x,y,rfl,-,d,-⟩⟩:=h;have hl:=aP d;clear d;go_enter func179,ntmps179;go_wp2_with fail;refine(dR _ _ _ _).mono ?_;rintro e w' ⟨rfl,rfl⟩;go_wp2_with fail;go_ret;exact⟨rfl,aB w _⟩
theorem ltext_c (cs:List Value) (p:aW) (f:CFn) (n:Int) (w:World) (h:fC w w.heap.size cs p f) : Calls prog 178 #[.agg ⟨cs⟩,.int .i64 n] w (aM (.bool (aK n 0 ((p.texts.length:Int) - 1))) w):=by obtain⟨g,i,rfl,⟨j,l,m,q,r,s,rfl,-,-,d⟩,⟨u,v,x,y,rfl,-⟩⟩:=h;have hl:=aP d;clear d;go_enter func178,ntmps178;go_wp2_with fail;refine(dR _ _ _ _).mono ?_;rintro e w' ⟨rfl,rfl⟩;go_wp2_with fail;go_ret;exact⟨rfl,aB w _⟩
end
section
open Go.RowKit
theorem rkZ{w w':World}{g:Nat}{o:Obj}(h:Hid (w.heap[g]? = some o))(k:Below w.heap.size w w'):Hid (w'.heap[g]? = some o):=(k.block _ (Array.getElem?_eq_some_iff.1 h.o).1).trans h.o
theorem btZ{a b c:World}(h:Hid (Below a.heap.size a b))(k:Below b.heap.size b c):Hid (Below a.heap.size a c):=h.o.trans (k.mono h.o.size)
theorem crZ{w:World}{g:Nat}{cs:List Value}{t:TypeId}{v:Value}(h:Hid (w.heap[g]? = some (.cells ⟨cs⟩ t (0,0))))(i:Nat)(d:cs[i]? = some v):w.cell? ⟨g,i,none⟩ = some v:=by rw[cell_of_row w g i _ _ _ h.o];simpa using d
theorem fzZ{w:World}{g:Nat}{cs:Array Value}{t:TypeId}(h:Hid (w.heap[g]? = some (.cells cs t (0,0))))(i:Nat):w.frozen? ⟨g,i,none⟩ = false:=frozen_of_row w g i _ _ h.o
theorem rrZ{w:World}{g:Nat}{cs:List Value}{t:TypeId}(h:Hid (w.heap[g]? = some (.cells ⟨cs⟩ t (0,0)))):Hid (w.rangeAt g 0 cs):=λj v d=>by rw[Nat.zero_add];exact crZ h j d
theorem soZ{w w':World}{g k:Nat}{c:Array Value}{o:Obj}(d:w.setRow g c=w')(h:Hid (w.heap[k]? = some o))(e:k≠g):Hid (w'.heap[k]? = some o):=by rw[<-d];exact(setRow_other _ _ _ _ e).trans h.o
theorem shZ{w w':World}{g:Nat}{cs old:Array Value}{t:TypeId}{f:Nat×Nat}(d:w.setRow g cs=w')(h:Hid (w.heap[g]? = some (.cells old t f))):Hid (w'.heap[g]? = some (.cells cs t f)):=by rw[<-d];exact setRow_heap _ _ _ _ _ _ h.o
theorem ecZ{w:World}{a:Addr}{v:Value}(h:w.cell? a = some v):∀E:Up w,E.to.cell? a = some v:=λE=>E.cell h
end
end Go.Proofs.YtjaphgpkkfdaaaaGreatDoor
