/- A part of the walk. -/
import Derived.Test.YtjaphgpkkfdaaaaGreatDoorZF
import Derived.Laws.Externs
import Derived.Maps.OwnOps
import Derived.Maps.Views
set_option maxHeartbeats 16000000
set_option maxRecDepth 100000
set_option linter.all false
namespace Go.Proofs.YtjaphgpkkfdaaaaGreatDoor
open Tryz
section
open Go.RowKit
theorem rV {α : Type} (R:List Value->α->Prop) (p : α->Bool) (A:Option Addr) (j:Nat) (xs:List α) (l:FuncId) (a1:∀u W,(callFunc l u).run prog W=.ok (.enter l u) W) (v:Array Value) (w:World) (F:aH w w.heap.size 1 R (.slice A xs.length j) xs) (M:∀(w1:World),Below w.heap.size w w1->∀(x : α) (cs:List Value),x∈xs->R cs x->Calls prog l (cs.toArray++v) w1 (aM (.bool (p x)) w1)) : Calls prog 153 #[.slice A xs.length j,.func (.func l) #[] v] w (aM (.int .i64 (jU p xs)) w):=by
 have O:=hI F;have P:=hI M;have hl:xs.length<=j/\j<=maxLen:=by obtain⟨A',c',e,S,V,-⟩:=F;injection e with _ _ Y;subst Y;exact⟨S,V⟩
 obtain⟨a0,I⟩:=hl;unfold maxLen at I;clear F M;go_enter func153,ntmps153;go_wp2_with fail;go_loopw [8] (λk wr=>∃d:Nat,k=.int .i64 d/\d<=xs.length/\Hid (∀i x,i<d->xs[i]? = some x->p x=false)/\Hid (Below w.heap.size w wr)) (λk _=>xs.length - (RowKit.intOf k).toNat);case atStart=>exact⟨0,rfl,by omega,λi x hi _=>by omega,Below.refl _ _⟩
 case round=>
  obtain⟨d,rfl,hk,E,g⟩:=hrel
  by_cases N:d<xs.length
  ·obtain⟨b,J,x,cs,rfl,hb,q,K,L,C⟩:=O.o.at_ N
   match cs,K with
   | [c0],_=>
    have Z:(d:Int)<xs.length:=by omega
    have G:wr.cell? ⟨b,J+d,none⟩=some c0:=(g.o.cell hb).trans (by simpa using C 0 _ rfl)
    have z:=hI (P.o wr g.o x _ (lM q) L)
    have H:=hI q
    clear q C L
    cases f:p x
    ·have m:=hI f
     rw[f] at z
     clear f
     go_wp2_with fail
     refine z.o.mono ?_
     rintro e X ⟨rfl,r⟩
     have D:=hI (Below.trans g.o (r.mono g.o.size))
     clear r G
     go_wp2_with fail
     go_roundw
     case rel=>exact⟨d+1,by go_num,by omega,λi y hi s=>by
      rcases Nat.lt_or_ge i d with h | h
      ·exact E.o i y h s
      ·have:i=d:=by omega
       subst this
       rw[H.o] at s
       injection s with s
       subst s
       exact m.o,D⟩
     case measure=>simp[RowKit.intOf];omega
    ·have m:=hI (fU E.o H.o f)
     rw[f] at z
     clear f
     go_wp2_with fail
     refine z.o.mono ?_
     rintro e X ⟨rfl,r⟩
     have D:=hI (Below.trans g.o (r.mono g.o.size))
     clear r G
     go_wp2_with fail
     go_ret
     exact⟨by rw[m.o];rfl,D.o⟩
  ·have m:=hI (e8 (p:=p) (xs:=xs) (λi x hi=>E.o i x (by have:=(lE hi).1;omega) hi))
   go_wp2_with fail
   go_ret
   exact⟨by rw[m.o];rfl,g.o⟩
theorem kC {α : Type} (R:List Value->α->Prop) (p : α->Bool) (A:Option Addr) (h:Nat) (xs:List α) (d:FuncId) (i:∀g W,(callFunc d g).run prog W=.ok (.enter d g) W) (f:Array Value) (w:World) (l:aH w w.heap.size 1 R (.slice A xs.length h) xs) (m:∀(w1:World),Below w.heap.size w w1->∀(x : α) (cs:List Value),x∈xs->R cs x->Calls prog d (cs.toArray++f) w1 (aM (.bool (p x)) w1)) : Calls prog 109 #[.slice A xs.length h,.func (.func d) #[] f] w (aM (.bool (xs.any p)) w):=by have q:=hI (rV R p A h xs d i f w l m);have r:=hI (fV p xs);clear l m i;go_enter func109,ntmps109;go_wp2_with fail;refine q.o.mono ?_;rintro e w1 ⟨rfl,j⟩;have s:=hI j;clear j;go_wp2_with fail;go_ret;exact⟨by rw[r.o];rfl,s.o⟩
theorem sY {α : Type} (R:List Value->α->Prop) (p : α->Bool) (A:Option Addr) (m:Nat) (xs:List α) (q:FuncId) (a5:∀z W,(callFunc q z).run prog W=.ok (.enter q z) W) (C:Array Value) (w:World) (G:aH w w.heap.size 5 R (.slice A xs.length m) xs) (S:∀(w1:World),Below w.heap.size w w1->∀(x : α) (cs:List Value),x∈xs->R cs x->Calls prog q (#[.agg ⟨cs⟩]++C) w1 (aM (.bool (p x)) w1)) : Calls prog 114 #[.slice A xs.length m,.func (.func q) #[] C] w (aM (.int .i64 (jU p xs)) w):=by
 have X:=hI G;have Y:=hI S;have hl:xs.length<=m/\m<=maxLen:=by obtain⟨A',c',e,Z,e2,-⟩:=G;injection e with _ _ e3;subst e3;exact⟨Z,e2⟩
 obtain⟨a4,N⟩:=hl;unfold maxLen at N;clear G S;go_enter func114,ntmps114;go_wp2_with fail;go_loopw [8] (λk wr=>∃d:Nat,k=.int .i64 d/\d<=xs.length/\Hid (∀i x,i<d->xs[i]? = some x->p x=false)/\Hid (Below w.heap.size w wr)) (λk _=>xs.length - (RowKit.intOf k).toNat);case atStart=>exact⟨0,rfl,by omega,λi x hi _=>by omega,Below.refl _ _⟩
 case round=>
  obtain⟨d,rfl,hk,F,f⟩:=hrel
  by_cases V:d<xs.length
  ·obtain⟨b,l,x,cs,rfl,hb,s,O,P,g⟩:=X.o.at_ V
   match cs,O with
   | [c0,c1,c2,c3,c4],_=>
    have a3:(d:Int)<xs.length:=by omega
    have H:wr.cell? ⟨b,l+d*5,none⟩=some c0:=(f.o.cell hb).trans (g 0 _ rfl)
    have I:wr.cell? ⟨b,l+d*5+1,none⟩=some c1:=(f.o.cell hb).trans (g 1 _ rfl)
    have J:wr.cell? ⟨b,l+d*5+2,none⟩=some c2:=(f.o.cell hb).trans (g 2 _ rfl)
    have K:wr.cell? ⟨b,l+d*5+3,none⟩=some c3:=(f.o.cell hb).trans (g 3 _ rfl)
    have L:wr.cell? ⟨b,l+d*5+4,none⟩=some c4:=(f.o.cell hb).trans (g 4 _ rfl)
    have D:=hI (Y.o wr f.o x _ (lM s) P)
    have M:=hI s
    clear s g P
    cases j:p x
    ·have r:=hI j
     rw[j] at D
     clear j
     go_wp2_with fail
     refine D.o.mono ?_
     rintro e w2 ⟨rfl,u⟩
     have E:=hI (Below.trans f.o (u.mono f.o.size))
     clear u H I J K L
     go_wp2_with fail
     go_roundw
     case rel=>exact⟨d+1,by go_num,by omega,λi y hi v=>by
      rcases Nat.lt_or_ge i d with h | h
      ·exact F.o i y h v
      ·have:i=d:=by omega
       subst this
       rw[M.o] at v
       injection v with v
       subst v
       exact r.o,E⟩
     case measure=>simp[RowKit.intOf];omega
    ·have r:=hI (fU F.o M.o j)
     rw[j] at D
     clear j
     go_wp2_with fail
     refine D.o.mono ?_
     rintro e w2 ⟨rfl,u⟩
     have E:=hI (Below.trans f.o (u.mono f.o.size))
     clear u H I J K L
     go_wp2_with fail
     go_ret
     exact⟨by rw[r.o];rfl,E.o⟩
  ·have r:=hI (e8 (p:=p) (xs:=xs) (λi x hi=>F.o i x (by have:=(lE hi).1;omega) hi))
   go_wp2_with fail
   go_ret
   exact⟨by rw[r.o];rfl,f.o⟩
theorem kO {α : Type} (R:List Value->α->Prop) (p : α->Bool) (A:Option Addr) (h:Nat) (xs:List α) (d:FuncId) (i:∀g W,(callFunc d g).run prog W=.ok (.enter d g) W) (f:Array Value) (w:World) (l:aH w w.heap.size 5 R (.slice A xs.length h) xs) (m:∀(w1:World),Below w.heap.size w w1->∀(x : α) (cs:List Value),x∈xs->R cs x->Calls prog d (#[.agg ⟨cs⟩]++f) w1 (aM (.bool (p x)) w1)) : Calls prog 75 #[.slice A xs.length h,.func (.func d) #[] f] w (aM (.bool (xs.any p)) w):=by have q:=hI (sY R p A h xs d i f w l m);have r:=hI (fV p xs);clear l m i;go_enter func75,ntmps75;go_wp2_with fail;refine q.o.mono ?_;rintro e w1 ⟨rfl,j⟩;have s:=hI j;clear j;go_wp2_with fail;go_ret;exact⟨by rw[r.o];rfl,s.o⟩
theorem rU {α : Type} (R:List Value->α->Prop) (p : α->Bool) (A:Option Addr) (j:Nat) (xs:List α) (l:FuncId) (a2:∀v W,(callFunc l v).run prog W=.ok (.enter l v) W) (z:Array Value) (w:World) (G:aH w w.heap.size 2 R (.slice A xs.length j) xs) (N:∀(w1:World),Below w.heap.size w w1->∀(x : α) (cs:List Value),x∈xs->R cs x->Calls prog l (#[.agg ⟨cs⟩]++z) w1 (aM (.bool (p x)) w1)) : Calls prog 128 #[.slice A xs.length j,.func (.func l) #[] z] w (aM (.int .i64 (jU p xs)) w):=by
 have P:=hI G;have S:=hI N;have hl:xs.length<=j/\j<=maxLen:=by obtain⟨A',c',e,V,X,-⟩:=G;injection e with _ _ Z;subst Z;exact⟨V,X⟩
 obtain⟨a1,K⟩:=hl;unfold maxLen at K;clear G N;go_enter func128,ntmps128;go_wp2_with fail;go_loopw [8] (λk wr=>∃d:Nat,k=.int .i64 d/\d<=xs.length/\Hid (∀i x,i<d->xs[i]? = some x->p x=false)/\Hid (Below w.heap.size w wr)) (λk _=>xs.length - (RowKit.intOf k).toNat);case atStart=>exact⟨0,rfl,by omega,λi x hi _=>by omega,Below.refl _ _⟩
 case round=>
  obtain⟨d,rfl,hk,F,g⟩:=hrel
  by_cases O:d<xs.length
  ·obtain⟨b,D,x,cs,rfl,hb,q,L,M,r⟩:=P.o.at_ O
   match cs,L with
   | [c0,c1],_=>
    have a0:(d:Int)<xs.length:=by omega
    have H:wr.cell? ⟨b,D+d*2,none⟩=some c0:=(g.o.cell hb).trans (r 0 _ rfl)
    have I:wr.cell? ⟨b,D+d*2+1,none⟩=some c1:=(g.o.cell hb).trans (r 1 _ rfl)
    have C:=hI (S.o wr g.o x _ (lM q) M)
    have J:=hI q
    clear q r M
    cases f:p x
    ·have m:=hI f
     rw[f] at C
     clear f
     go_wp2_with fail
     refine C.o.mono ?_
     rintro e Y ⟨rfl,s⟩
     have E:=hI (Below.trans g.o (s.mono g.o.size))
     clear s H I
     go_wp2_with fail
     go_roundw
     case rel=>exact⟨d+1,by go_num,by omega,λi y hi u=>by
      rcases Nat.lt_or_ge i d with h | h
      ·exact F.o i y h u
      ·have:i=d:=by omega
       subst this
       rw[J.o] at u
       injection u with u
       subst u
       exact m.o,E⟩
     case measure=>simp[RowKit.intOf];omega
    ·have m:=hI (fU F.o J.o f)
     rw[f] at C
     clear f
     go_wp2_with fail
     refine C.o.mono ?_
     rintro e Y ⟨rfl,s⟩
     have E:=hI (Below.trans g.o (s.mono g.o.size))
     clear s H I
     go_wp2_with fail
     go_ret
     exact⟨by rw[m.o];rfl,E.o⟩
  ·have m:=hI (e8 (p:=p) (xs:=xs) (λi x hi=>F.o i x (by have:=(lE hi).1;omega) hi))
   go_wp2_with fail
   go_ret
   exact⟨by rw[m.o];rfl,g.o⟩
theorem eE {α : Type} (R:List Value->α->Prop) (p : α->Bool) (A:Option Addr) (h:Nat) (xs:List α) (d:FuncId) (i:∀g W,(callFunc d g).run prog W=.ok (.enter d g) W) (f:Array Value) (w:World) (l:aH w w.heap.size 2 R (.slice A xs.length h) xs) (m:∀(w1:World),Below w.heap.size w w1->∀(x : α) (cs:List Value),x∈xs->R cs x->Calls prog d (#[.agg ⟨cs⟩]++f) w1 (aM (.bool (p x)) w1)) : Calls prog 86 #[.slice A xs.length h,.func (.func d) #[] f] w (aM (.bool (xs.any p)) w):=by have q:=hI (rU R p A h xs d i f w l m);have r:=hI (fV p xs);clear l m i;go_enter func86,ntmps86;go_wp2_with fail;refine q.o.mono ?_;rintro e w1 ⟨rfl,j⟩;have s:=hI j;clear j;go_wp2_with fail;go_ret;exact⟨by rw[r.o];rfl,s.o⟩
theorem abD:∀d W,(callFunc 110 d).run prog W=.ok (.enter 110 d) W:=enters_of func110 (by kernel_rfl) rfl
theorem abC:∀d W,(callFunc 111 d).run prog W=.ok (.enter 111 d) W:=enters_of func111 (by kernel_rfl) rfl
theorem acQ (s:ByteArray) (f:s.size<=9223372036854775807) (w:World):Calls prog 110 #[.string s] w (aM (.bool (decide (200<s.size))) w):=by
 obtain⟨r,d⟩:∃r,decide (200<s.size)=r:=⟨_,rfl⟩;rw[d];have e:Hid (decide ((200:Int)<s.size)=r):=by rw[<-d];show decide _=decide _;congr 1;rw[eq_iff_iff];omega
 clear d;go_enter func110,ntmps110;go_wp2;go_ret;exact⟨by rw[<-e.o];rfl,Below.refl _ _⟩
theorem acP (cs:List Value) (f:CFn) (B:Nat) (l w:World) (h:FnR l B cs f):Calls prog 111 #[.agg ⟨cs⟩] w (aM (.bool (decide (600<f.code.length) || decide (60<f.regs))) w):=by
 obtain⟨p,q,s,u,rfl,-⟩:=h;by_cases g:(600:Int)<f.code.length
 ·have e:(decide (600<f.code.length) || decide (60<f.regs))=true:=by have i:600<f.code.length:=(by omega);rw[decide_eq_true i,Bool.true_or]
  rw[e];go_enter func111,ntmps111;go_wp2;go_ret;exact⟨rfl,aB w _⟩
 ·obtain⟨r,d⟩:∃r,(decide (600<f.code.length) || decide (60<f.regs))=r:=⟨_,rfl⟩;rw[d];have j:Hid (decide (60<f.regs)=r):=by
   rw[<-d];have:¬ 600<f.code.length:=by omega
   simp[this,Hid]
  have m:decide ((600:Int)<f.code.length)=false:=by simpa using g
  clear d g;go_enter func111,ntmps111;go_wp2;go_ret;exact⟨by rw[<-j.o];rfl,aB w _⟩
theorem large_c (G:List Value) (p:aW) (w:World) (R:eL w w.heap.size G p):Calls prog 73 #[.agg ⟨G⟩] w (aM (.bool (lB p)) w):=by
 obtain⟨r,j⟩:∃r,lB p=r:=⟨_,rfl⟩;rw[j];unfold lB at j;have HP:=hI R;obtain⟨C,D,L,M,H,I,rfl,q1,Y,N⟩:=R;obtain⟨l,q⟩:∃l,l=w.alloc (.cells #[.slice C p.fns.length D,.slice L p.consts.length M,.slice H p.texts.length I] 26):=⟨_,rfl⟩;have g:Hid (Below w.heap.size w l):=by rw[q];exact aB w _
 have S:Hid (∀i,l.cell? ⟨w.heap.size,i,none⟩=(#[.slice C p.fns.length D,.slice L p.consts.length M,.slice H p.texts.length I]:Array Value)[i]?):=by rw[q];exact bL _ _ _
 have hz:w.heap.size<l.heap.size:=by rw[q];simp
 have v:=hI q;have z:=hI (kC lV (λt=>decide (200<t.size)) H I p.texts 110 abD #[] l (N.keep g.o.size (λ_ h=>g.o.cell h) (λ_ _ h=>h)) (λw1 k x cs hx K=>by obtain⟨rfl,Z⟩:=K;exact acQ x (by unfold maxLen at Z;omega) w1));have V:Hid (∀w1,Below l.heap.size l w1->_):=λw1 (P:Below l.heap.size l w1)=>kO (FnR w w.heap.size) (λf=>decide (600<f.code.length) || decide (60<f.regs)) C D p.fns 111 abC #[] w1 (q1.keep (Nat.le_trans g.o.size P.size) (λ_ h=>(P.cell (Nat.lt_of_lt_of_le h g.o.size)).trans (g.o.cell h)) (λ_ _ h=>h)) (λw2 k x cs hx K=>acP cs x _ _ w2 K);clear q1 Y N q;by_cases u:60<p.fns.length
 ·have hi:(60:Int)<p.fns.length:=by omega
  have m:Hid (true=r):=by rw[<-j];simp[u,Hid]
  clear j u;go_enter func73,ntmps73;go_wp2_with fail;go_ret;rw[<-v.o];exact⟨by rw[<-m.o];rfl,g.o⟩
 have i1:decide ((60:Int)<p.fns.length)=false:=by simp;omega
 by_cases y:200<p.consts.length
 ·have hi:(200:Int)<p.consts.length:=by omega
  have m:Hid (true=r):=by rw[<-j];simp[y,Hid]
  clear j u y;go_enter func73,ntmps73;go_wp2_with fail;go_ret;rw[<-v.o];exact⟨by rw[<-m.o];rfl,g.o⟩
 have i2:decide ((200:Int)<p.consts.length)=false:=by simp;omega
 by_cases E:200<p.texts.length
 ·have hi:(200:Int)<p.texts.length:=by omega
  have m:Hid (true=r):=by rw[<-j];simp[E,Hid]
  clear j u y E;go_enter func73,ntmps73;go_wp2_with fail;go_ret;rw[<-v.o];exact⟨by rw[<-m.o];rfl,g.o⟩
 have i3:decide ((200:Int)<p.texts.length)=false:=by simp;omega
 have d:(p.texts.any (λt=>decide (200<t.size)) || p.fns.any (λf=>decide (600<f.code.length) || decide (60<f.regs)))=r:=by rw[<-j];simp only[u,y,E,decide_false,Bool.false_or]
 clear j u y E;cases F:p.texts.any (λt=>decide (200<t.size))
 ·rw[F] at z d;have m:Hid (p.fns.any (λf=>decide (600<f.code.length) || decide (60<f.regs))=r):=by rw[Bool.false_or] at d;exact d
  clear d F;go_enter func73,ntmps73;go_wp2_with fail;rw[<-v.o];refine z.o.mono ?_;rintro e J ⟨rfl,s⟩;have A:=hI s;have W:J.cell? ⟨w.heap.size,0,none⟩=some (.slice C p.fns.length D):=aC s (S.o 0);clear s;go_wp2_with fail;refine(V.o J A.o).mono ?_;rintro e w4 ⟨rfl,O⟩;have X:=hI (g.o.trans ((Below.next A.o O).mono g.o.size));clear O W;go_wp2_with fail;go_ret;exact⟨by rw[<-m.o];rfl,X.o⟩
 ·rw[F] at z d;have m:Hid (true=r):=by rw[Bool.true_or] at d;exact d
  clear d F;go_enter func73,ntmps73;go_wp2_with fail;rw[<-v.o];refine z.o.mono ?_;rintro e J ⟨rfl,s⟩;have A:=btZ g s;clear s;go_wp2_with fail;go_ret;exact⟨by rw[<-m.o];rfl,A.o⟩
end
section
open Go.RowKit
def nI (n:Int):Nat:=(IntKind.u64.wrap n).toNat
def isNum (n:Int):Bool:=FloatKind.f64.format.order (nI n) (nI n) == some .eq
def aG (v:Val):Bool:=
 if v.kind=0 then v.n == 0
 else if v.kind=1 then decide (0<=v.n) && decide (v.n<=1)
 else if v.kind=2 then decide (-2147483648<=v.n) && decide (v.n<=2147483647)
 else if v.kind=3 then isNum v.n || v.n == 9221120237041090561
 else if v.kind=4\/v.kind=5 then decide (0<=v.n)
 else if v.kind=6 then decide (0<=v.n) && decide (v.n<=15)
 else false
theorem qQ (k n:Int) (w:World):Calls prog 141 #[.agg #[.int .i64 k,.int .i64 n]] w (aM (.float .f64 (nI n)) w):=by go_enter func141,ntmps141;go_wp2;rw[run_callFunc_extern func167 (by kernel_rfl) (by kernel_rfl) (by kernel_rfl) (e:=Extern.MathFloatBits.float64frombits) (by kernel_rfl)];rw[show ∀(m:Int) (W:World),(Extern.MathFloatBits.float64frombits #[.int .u64 m]).run prog W=.ok (.float .f64 m.toNat) W from λ_ _=>rfl];simp only[Result.andThen];rw[Oper.upon_value];go_wp2;go_ret;exact⟨rfl,aB w _⟩
theorem kL (n g hi:Int) (w:World):Calls prog 140 #[.int .i64 n,.int .i64 g,.int .i64 hi] w λe w'=>e=.returned (.bool (aK n g hi))/\w=w':=by
 unfold aK;obtain⟨r,f⟩:∃r:Bool,(decide (g<=n) && decide (n<=hi))=r:=⟨_,rfl⟩;rw[f];by_cases h:g<=n
 ·have d:decide (n<=hi)=r:=by rw[<-f];simp[h]
  have i:=hI d;clear f d;go_enter func140,ntmps140;go_wp2;go_ret;exact⟨by rw[<-i.o];rfl,rfl⟩
 ·have d:false=r:=by rw[<-f];simp[h]
  subst d;have j:decide (g<=n)=false:=by simpa using h
  clear f;go_enter func140,ntmps140;go_wp2;go_ret;exact⟨rfl,rfl⟩
theorem qO (v:Val) (w:World):Calls prog 104 #[.agg #[.int .i64 v.kind,.int .i64 v.n]] w (aM (.bool (aG v)) w):=by
 obtain⟨k,n⟩:=v;obtain⟨r,d⟩:∃r,aG ⟨k,n⟩=r:=⟨_,rfl⟩;rw[d];unfold aG at d;dsimp only at d ⊢;by_cases g:k=0;·rw[if_pos g] at d;subst g;have f:=hI d;clear d;go_enter func104,ntmps104;go_wp2;go_ret;exact⟨by rw[<-f.o];rfl,aB w _⟩
 rw[if_neg g] at d;by_cases h:k=1;·rw[if_pos h] at d;have f:Hid (aK n 0 1=r):=d;subst h;clear d g;go_enter func104,ntmps104;go_wp2_with fail;refine(kL _ _ _ _).mono ?_;rintro e w' ⟨rfl,rfl⟩;go_wp2_with fail;go_ret;exact⟨by rw[<-f.o];rfl,aB w _⟩
 rw[if_neg h] at d;by_cases j:k=2;·rw[if_pos j] at d;have f:Hid (aK n (-2147483648) 2147483647=r):=d;subst j;clear d g h;go_enter func104,ntmps104;go_wp2_with fail;refine(kL _ _ _ _).mono ?_;rintro e w' ⟨rfl,rfl⟩;go_wp2_with fail;go_ret;exact⟨by rw[<-f.o];rfl,aB w _⟩
 rw[if_neg j] at d;by_cases p:k=3
 ·rw[if_pos p] at d;subst p;have f:=hI d;obtain⟨q,i⟩:∃q,q=w.alloc (.cells #[.int .i64 3,.int .i64 n] 48):=⟨_,rfl⟩;have A:∀E:Up q,E.to.cell? ⟨w.heap.size,0,none⟩=some (.int .i64 3):=λE=>E.cell (by rw[i];exact bL _ _ _ _);have C:∀E:Up q,E.to.cell? ⟨w.heap.size,1,none⟩=some (.int .i64 n):=λE=>E.cell (by rw[i];exact bL _ _ _ _);have D:Hid (Below w.heap.size w q):=by rw[i];exact aB w _
  have F:=hI i;obtain⟨m,u⟩:∃m,nI n=m:=⟨_,rfl⟩;have G:Hid (∀E:Up q,Calls prog 141 #[.agg #[.int .i64 3,.int .i64 n]] E.to (aM (.float .f64 m) E.to)):=λE=>by rw[<-u];exact qQ 3 n E.to
  have y:Hid (((FloatKind.f64.format.order m m == some .eq) || n == 9221120237041090561)=r):=by rw[<-u];exact d
  clear d g h j i u;cases H:(FloatKind.f64.format.order m m == some .eq)
  ·have s:Hid ((n == 9221120237041090561)=r):=(by have:=y.o;rw[H,Bool.false_or] at this;exact this);go_enter func104,ntmps104;go_wp2_with fail;rw[<-F.o];refine aD (by kernel_rfl) (by kernel_rfl) ?_;repeat (go_big_quiet_step ((go_at_call 141;with_reducible exact Calls.up (G.o _))))
   refine wpQuiet_nil ?_;rintro _ ⟨E,rfl⟩;have z:=btZ D E.below;clear A C;go_wp2_with fail;go_ret;exact⟨by rw[<-s.o];rfl,z.o⟩
  ·have s:Hid (true=r):=(by have:=y.o;rw[H,Bool.true_or] at this;exact this);go_enter func104,ntmps104;go_wp2_with fail;rw[<-F.o];refine aD (by kernel_rfl) (by kernel_rfl) ?_;repeat (go_big_quiet_step ((go_at_call 141;with_reducible exact Calls.up (G.o _))))
   refine wpQuiet_nil ?_;rintro _ ⟨E,rfl⟩;have z:=btZ D E.below;clear A C;go_wp2_with fail;go_ret;exact⟨by rw[<-s.o];rfl,z.o⟩
 rw[if_neg p] at d;by_cases l:k=4\/k=5;·rw[if_pos l] at d;have f:=hI d;clear d g h j p;rcases l with rfl | rfl;all_goals go_enter func104,ntmps104;go_wp2;go_ret;exact⟨by rw[<-f.o];rfl,aB w _⟩
 rw[if_neg l] at d;by_cases x:k=6;·rw[if_pos x] at d;have f:Hid (aK n 0 15=r):=d;subst x;clear d g h j p l;go_enter func104,ntmps104;go_wp2_with fail;refine(kL _ _ _ _).mono ?_;rintro e w' ⟨rfl,rfl⟩;go_wp2_with fail;go_ret;exact⟨by rw[<-f.o];rfl,aB w _⟩
 rw[if_neg x] at d;have I:(k == 0)=false:=by simpa using g
 have J:(k == 1)=false:=by simpa using h
 have K:(k == 2)=false:=by simpa using j
 have L:(k == 3)=false:=by simpa using p
 have M:(k == 4)=false:=by simp;omega
 have N:(k == 5)=false:=by simp;omega
 have O:(k == 6)=false:=by simpa using x
 have f:=hI d;clear d g h j p l x;go_enter func104,ntmps104;go_wp2;go_ret;exact⟨by rw[<-f.o];rfl,aB w _⟩
end
section
open Go.RowKit Go.Maps
def abU (len:Nat) (v:Val):Bool:=!aG v || v.kind == 5 || (v.kind == 4 && decide ((len:Int)<=v.n))
def mN (p:aW):Bool:=decide (19<=p.texts.length) && decide (p.texts.take 19=cC) && decide p.texts.Nodup && !p.consts.any (abU p.texts.length)
def mD (l:List ByteArray):DataW Unit:=l.foldl (λd t=>d.put (.string t.data.toList) (.lit (.int .i64 1))) (.map [])
theorem nN (l:List ByteArray) (t:ByteArray):mD (l++[t])=(mD l).put (.string t.data.toList) (.lit (.int .i64 1)):=by simp[mD,List.foldl_append]
theorem rD (t:ByteArray) (z:DataW Unit):∀(l:List ByteArray) (D:DataW Unit),IsMap D->
  (t∈l->(l.foldl (λd t=>d.put (.string t.data.toList) (.lit (.int .i64 1))) D).atKey (.string t.data.toList) z=.lit (.int .i64 1))/\
  (t∉l->(l.foldl (λd t=>d.put (.string t.data.toList) (.lit (.int .i64 1))) D).atKey (.string t.data.toList) z=D.atKey (.string t.data.toList) z)
 | [],D,_=>⟨λh=>by simp at h,λ_=>rfl⟩
 | x::l,D,h=>by
  rw[List.foldl_cons]
  obtain⟨j,i⟩:=rD t z l _ (h.put (.string x.data.toList) (.lit (.int .i64 1)))
  refine⟨λf=>?_,λf=>?_⟩
  ·by_cases g:t∈l
   ·exact j g
   ·rw[i g]
    rcases List.mem_cons.1 f with h2 | h2
    ·subst h2
     exact atKey_put_same h (show WideAt.IsKeyLit (.string _) from trivial) _ _
    ·exact absurd h2 g
  ·rw[i (λh=>f (List.mem_cons_of_mem _ h))]
   refine atKey_put_other (λe=>f ?_) _ _
   injection e with e
   have:x=t:=by cases t with | mk a=>cases x with | mk b=>cases a;cases b;simp_all
   exact this ▸ List.mem_cons_self
theorem tJ {t:ByteArray} {l:List ByteArray} (h:t∈l):(mD l).atKey (.string t.data.toList) (.lit (.int .i64 0))=.lit (.int .i64 1):=(rD t _ l _ isMap_empty).1 h
theorem rC {t:ByteArray} {l:List ByteArray} (h:t∉l):(mD l).atKey (.string t.data.toList) (.lit (.int .i64 0))=.lit (.int .i64 0):=(rD t _ l _ isMap_empty).2 h
theorem j7 {c d:Int} (h:(DataW.lit (.int .i64 c):DataW Unit)=.lit (.int .i64 d)):c=d:=by injection h with h;injection h
theorem aaD (v:Val) (x:Nat) (A:Option Addr) (len p:Nat) (w:World) (F:w.cell? ⟨x,2,none⟩=some (.slice A len p)) : Calls prog 113 #[.agg #[.int .i64 v.kind,.int .i64 v.n],.pointer (some ⟨x,0,none⟩)] w (aM (.bool (abU len v)) w):=by
 obtain⟨k,n⟩:=v;obtain⟨r,f⟩:∃r,abU len ⟨k,n⟩=r:=⟨_,rfl⟩;rw[f];unfold abU at f;obtain⟨q,u⟩:∃q,aG ⟨k,n⟩=q:=⟨_,rfl⟩;obtain⟨h,g⟩:∃h,h=w.alloc (.cells #[.int .i64 k,.int .i64 n] 48):=⟨_,rfl⟩;have C:Hid (Calls prog 104 #[.agg #[.int .i64 k,.int .i64 n]] h (aM (.bool q) h)):=by rw[<-u];exact qO ⟨k,n⟩ h
 have y:h.cell? ⟨w.heap.size,0,none⟩=some (.int .i64 k):=by rw[g];exact bL _ _ _ _
 have z:h.cell? ⟨w.heap.size,1,none⟩=some (.int .i64 n):=by rw[g];exact bL _ _ _ _
 have D:h.cell? ⟨x,2,none⟩=some (.slice A len p):=by rw[g];exact iM F _
 have s:=hI y;have H:=hI z;have I:=hI D;have j:Hid (Below w.heap.size w h):=by rw[g];exact aB w _
 have l:=hI g;rw[u] at f;clear y z D g u F;cases q
 ·have i:Hid (true=r):=by rw[<-f];rfl
  clear f;go_enter func113,ntmps113;go_wp2_with fail;rw[<-l.o];refine C.o.mono ?_;rintro e w1 ⟨rfl,d⟩;have K:=btZ j d;clear d;go_wp2_with fail;go_ret;exact⟨by rw[<-i.o];rfl,K.o⟩
 by_cases m:k=5
 ·subst m;have i:Hid (true=r):=by rw[<-f];rfl
  clear f;go_enter func113,ntmps113;go_wp2_with fail;rw[<-l.o];refine C.o.mono ?_;rintro e w1 ⟨rfl,d⟩;have E:=aC d s.o;have K:=btZ j d;clear d;go_wp2_with fail;go_ret;exact⟨by rw[<-i.o];rfl,K.o⟩
 by_cases G:k=4
 ·subst G;have i:Hid (decide ((len:Int)<=n)=r):=by rw[<-f];rfl
  clear f m;go_enter func113,ntmps113;go_wp2_with fail;rw[<-l.o];refine C.o.mono ?_;rintro e w1 ⟨rfl,d⟩;have E:=aC d s.o;have J:=aC d H.o;have L:=aC d I.o;have K:=btZ j d;clear d;go_wp2_with fail;go_ret;exact⟨by rw[<-i.o];rfl,K.o⟩
 have i:Hid (false=r):=by rw[<-f];show false=(false || k == 5 || (k == 4 && decide ((len:Int)<=n)));rw[bF m,bF G];rfl
 clear f;go_enter func113,ntmps113;go_wp2_with fail;rw[<-l.o];refine C.o.mono ?_;rintro e w1 ⟨rfl,d⟩;have E:=aC d s.o;have K:=btZ j d;clear d;go_wp2_with fail;go_ret;refine⟨?_,K.o⟩;show Ending.returned (.bool (k == 5))=_;rw[bF m,<-i.o]
theorem r9:∀d W,(callFunc 113 d).run prog W=.ok (.enter 113 d) W:=enters_of func113 (by kernel_rfl) rfl
end
section
open Go.RowKit Go.Maps Go.WideMaps
theorem pI:Keyed prog 9:=string_keyed underlying9
theorem yP (w:World):(zeroValue 3).run prog w=.ok (.int .i64 0) w:=by kernel_rfl
theorem pW (w:World):aH (w.alloc (.cells (cC.map Value.string).toArray 9)) (w.heap.size+1) 1 lV (.slice (some ⟨w.heap.size,0,none⟩) 19 19) cC:=by
 refine⟨some ⟨w.heap.size,0,none⟩,19,by rw[jK],by rw[jK];decide,by decide,λ_=>⟨w.heap.size,0,rfl,by omega,λi x e=>⟨[.string x],rfl,⟨rfl,?_⟩,λj v d=>?_⟩⟩⟩
 ·have f:=lM e
  have:cC.all (λt=>decide (t.size<=200))=true:=by kernel_rfl
  have:=List.all_eq_true.1 this x f
  simp at this
  unfold maxLen
  omega
 ·match j,d with
  | 0,d=>
   simp only[List.getElem?_cons_zero,Option.some.injEq] at d
   subst d
   rw[bL]
   simp[e]
theorem jM {xs:List ByteArray} {k:Nat} {x:ByteArray} (d:xs[k]? = some x):xs.take (k+1)=xs.take k++[x]:=by rw[List.take_add_one,d];rfl
theorem nR {xs:List ByteArray} {k:Nat} {x:ByteArray} (h:(xs.take k).Nodup) (f:xs[k]? = some x) (g:x∉xs.take k):(xs.take (k+1)).Nodup:=by rw[jM f,List.nodup_append];exact⟨h,by simp,λa d b hb=>by rw[List.mem_singleton] at hb;subst hb;exact λe=>g (e ▸ d)⟩
theorem tK {xs:List ByteArray} {k:Nat} {x:ByteArray} (d:xs[k]? = some x) (e:x∈xs.take k):¬xs.Nodup:=by intro h;have:=(List.take_sublist (k+1) xs).nodup h;rw[jM d,List.nodup_append] at this;exact this.2.2 x e x (by simp) rfl
theorem ab4 (pcs:List Value) (p:aW) (w:World) (hp:eL w w.heap.size pcs p) (ht:Tab w) (h200:p.texts.length<=200):Calls prog 74 #[.agg ⟨pcs⟩] w (aM (.bool (mN p)) w):=by
 obtain⟨r,hr⟩:∃r,mN p=r:=⟨_,rfl⟩;rw[hr];unfold mN at hr;obtain⟨A1,n1,A2,n2,A3,n3,rfl,q1,q2,q3⟩:=hp;obtain⟨w0,hw0⟩:∃w0,w0=w.alloc (.cells #[.slice A1 p.fns.length n1,.slice A2 p.consts.length n2,.slice A3 p.texts.length n3] 26):=⟨_,rfl⟩;have k0:Hid (Below w.heap.size w w0):=by rw[hw0];exact aB w _
 have hz:w.heap.size<w0.heap.size:=by rw[hw0];simp
 have T0:Hid (Tab w0):=ht.below k0.o;obtain⟨w1,hw1⟩:∃w1,w1=w0.alloc (.cells (cC.map Value.string).toArray 9):=⟨_,rfl⟩;have k1:Hid (Below w0.heap.size w0 w1):=by rw[hw1];exact aB w0 _
 have k01:=btZ k0 k1.o;have c0:∀i,w1.cell? ⟨w.heap.size,i,none⟩=(#[.slice A1 p.fns.length n1,.slice A2 p.consts.length n2,.slice A3 p.texts.length n3]:Array Value)[i]?:=by rw[hw1,hw0];exact kK _ _ _ _
 have d1:w1.cell? ⟨w.heap.size,1,none⟩=some (.slice A2 p.consts.length n2):=c0 1;have d2:w1.cell? ⟨w.heap.size,2,none⟩=some (.slice A3 p.texts.length n3):=c0 2;have C0:Hid (Calls prog 112 #[] w0 λe w'=>e=.returned (.slice (some ⟨w0.heap.size,0,none⟩) 19 19)/\w'=w1):=by rw[hw1];exact yQ w0 T0.o
 have s1:Hid (aH w1 w1.heap.size 1 lV (.slice (some ⟨w0.heap.size,0,none⟩) 19 19) cC):=by
  have:=pW w0;rw[<-hw1] at this;have e:w1.heap.size=w0.heap.size+1:=by rw[hw1];simp
  rw[e];exact this
 have s3:Hid (aH w1 w1.heap.size 1 lV (.slice A3 p.texts.length n3) p.texts):=q3.below k01.o;have s2:Hid (aH w1 w1.heap.size 2 hU (.slice A2 p.consts.length n2) p.consts):=q2.below k01.o;have D1:=hI d1;have D2:=hI d2;have HW:=hI hw0;obtain⟨l1,l0⟩:p.texts.length<=n3/\n3<=maxLen:=(s3.o.len).2;unfold maxLen at l0;have hz1:w.heap.size<w1.heap.size:=Nat.lt_of_lt_of_le hz k1.o.size;clear q1 q2 q3 hw0 hw1 c0 ht d1;by_cases h19:p.texts.length<19
 ·have i19:(p.texts.length:Int)<19:=by omega
  have HR:Hid (false=r):=by rw[<-hr,decide_eq_false (by omega)];rfl
  clear hr h19;go_enter func74,ntmps74;go_wp2_with fail;rw[<-HW.o];refine C0.o.mono ?_;rintro e w' ⟨rfl,rfl⟩;go_wp2_with fail;go_ret;exact⟨by rw[<-HR.o];rfl,k01.o⟩
 have i19:decide ((p.texts.length:Int)<19)=false:=by simp;omega
 rw[decide_eq_true (by omega:19<=p.texts.length),Bool.true_and] at hr;have C1:Hid (Calls prog 42 #[.slice A3 19 n3,.slice (some ⟨w0.heap.size,0,none⟩) 19 19] w1 (aM (.bool (decide (p.texts.take 19=cC))) w1)):=by refine qG _ _ _ _ w1 ?_ s1.o;exact s3.o.take (by omega)
 have h19':19<=p.texts.length:=by omega
 obtain⟨q,hq⟩:∃q,decide (p.texts.take 19=cC)=q:=⟨_,rfl⟩;rw[hq] at C1 hr;clear hq;cases q
 ·have HR:Hid (false=r):=by rw[<-hr];rfl
  clear hr h19;go_enter func74,ntmps74;go_wp2_with fail;rw[<-HW.o];refine C0.o.mono ?_;rintro e w' ⟨rfl,rfl⟩;go_wp2_with fail;refine C1.o.mono ?_;rintro e w2 ⟨rfl,k2⟩;have K:=btZ k01 k2;clear k2;go_wp2_with fail;go_ret;exact⟨by rw[<-HR.o];rfl,K.o⟩
 rw[Bool.true_and] at hr;have HR:=hI hr;clear hr h19;have hmm:=@run_makeMap prog;go_enter func74,ntmps74;go_wp2_with fail;rw[<-HW.o];refine C0.o.mono ?_;rintro e w' ⟨rfl,rfl⟩;go_wp2_with fail;refine C1.o.mono ?_;rintro e w2 ⟨rfl,k2⟩;have K:=btZ k01 k2;have E1:=hI (aC k2 D1.o);have E2:=hI (aC k2 D2.o);have e1:=E1.o;have e2:=E2.o;have S2:=hI (s2.o.below k2);have S3:=hI (s3.o.below k2);have hz2:w.heap.size<w2.heap.size:=Nat.lt_of_lt_of_le hz1 k2.size;clear k2 d2;go_wp2_with fail;go_loopw [28] (λk wr=>∃kn:Nat,k=.int .i64 kn/\kn<=p.texts.length/\Hid ((p.texts.take kn).Nodup)/\Hid (wr.ownsMap prog 9 (plainElem prog 3) w2.heap.size kn (mD (p.texts.take kn)))/\Hid (Below w2.heap.size w2 wr)) (λk _=>p.texts.length - (RowKit.intOf k).toNat);case atStart=>exact⟨0,rfl,by omega,by show(p.texts.take 0).Nodup;simp,World.ownsMap_made _ _ _ _,aB w2 _⟩
 case round=>
  obtain⟨kn,rfl,hk,KD,KO,KW⟩:=hrel
  clear e1 e2
  by_cases hlt:kn<p.texts.length
  ·obtain⟨b,off,x,cs,rfl,hb,hx0,hcl,hR,hat⟩:=S3.o.at_ hlt
   obtain⟨rfl,hxs⟩:=hR
   have hi1:(kn:Int)<p.texts.length:=by omega
   have g0:wr.cell? ⟨b,off+kn,none⟩=some (.string x):=(KW.o.cell hb).trans (by have:=hat 0 _ rfl;simpa using this)
   have HX:=hI hx0
   have hkey:=hI (keyOf_string_mk (P:=prog) (k:=9) underlying9 hxs)
   clear hx0 hat hcl
   by_cases hm:x∈p.texts.take kn
   ·have HM:=hI (tJ hm)
    have HN:Hid (false=r):=by rw[<-HR.o,decide_eq_false (tK HX.o hm)];rfl
    clear hm
    go_wp2_with (first
     | (at_lookup;refine wpList_lookup_own_int _ rfl _ _ 188 rfl 9 3 .i64 pI underlying188 underlying3 (yP _) w2.heap.size kn _ rfl KO.o _ _ rfl hkey.o ?_;intro c hc hwc;obtain rfl:c=1:=j7 (hc.symm.trans HM.o);clear hc hwc)
     | fail)
    go_ret
    exact⟨by rw[<-HN.o];rfl,K.o.trans (KW.o.mono (Nat.le_of_lt hz2))⟩
   ·have HM:=hI (rC hm)
    have HN:=hI hm
    clear hm
    go_wp2_with (first
     | (at_lookup;refine wpList_lookup_own_int _ rfl _ _ 188 rfl 9 3 .i64 pI underlying188 underlying3 (yP _) w2.heap.size kn _ rfl KO.o _ _ rfl hkey.o ?_;intro c hc hwc;obtain rfl:c=0:=j7 (hc.symm.trans HM.o);clear hc hwc)
     | (at_mapUpdate;refine wpList_mapUpdate_own _ rfl _ _ _ 188 rfl 9 3 pI underlying188 _ w2.heap.size kn _ rfl KO.o (by unfold maxLen;omega) _ _ _ rfl rfl hkey.o _ [] (plainElem_int underlying3 (by decide)) ?_;intro w3 hown1 hgrow1)
     | fail)
    have R1:Hid (w3.ownsMap prog 9 (plainElem prog 3) w2.heap.size (kn+1) (mD (p.texts.take (kn+1)))):=by rw[jM HX.o,nN];exact hown1
    have R2:=hI (KW.o.grown hgrow1 KW.o.size (λj hj=>by cases hj;exact Nat.le_refl _))
    clear hown1 hgrow1 g0
    go_wp2_with fail
    go_roundw
    case rel=>exact⟨kn+1,by go_num,by omega,nR KD.o HX.o HN.o,R1,R2⟩
    case measure=>simp[RowKit.intOf];omega
  ·have hke:kn=p.texts.length:=by omega
   have HN:Hid ((!p.consts.any (abU p.texts.length))=r):=by
    have:=KD.o
    rw[hke,List.take_length] at this
    rw[<-HR.o,decide_eq_true this,Bool.true_and]
    exact rfl
   have g1:=aC KW.o E1.o
   have G2:=hI (aC KW.o E2.o)
   have CF:=hI (eE hU (abU p.texts.length) A2 n2 p.consts 113 r9 #[.pointer (some ⟨w.heap.size,0,none⟩)] wr (S2.o.below KW.o) (λw4 k4 x cs hx hR=>by
    obtain⟨rfl,-,-⟩:=hR
    exact aaD x w.heap.size A3 p.texts.length n3 w4 (aC k4 G2.o)))
   have KZ:=hI (K.o.trans (KW.o.mono (Nat.le_of_lt hz2)))
   have hz3:w.heap.size<=wr.heap.size:=KZ.o.size
   clear hke
   go_wp2_with fail
   refine CF.o.mono ?_
   rintro e w5 ⟨rfl,k5⟩
   have KY:=hI (KZ.o.trans (k5.mono hz3))
   clear k5 g1
   go_wp2_with fail
   go_ret
   exact⟨by rw[<-HN.o];rfl,KY.o⟩
end
section
open Go.RowKit
def tS (p:aW):Bool:=match p.fns with
 | []=>true
 | f::_=>decide (f.params≠0) || decide (0<f.caught.length) || f.gen
def bH (p:aW):Int:=
 if lB p then 2 else if !mN p || tS p then 3 else if p.fns.any (λf=>!dF p f) then 3 else 0
theorem v8 {p:aW} (h:lB p=false):p.texts.length<=200/\∀f∈p.fns,f.code.length<=600/\f.regs<=60:=by unfold lB at h;simp only[Bool.or_eq_false_iff,decide_eq_false_iff_not,List.any_eq_false] at h;obtain⟨⟨⟨⟨h1,h2⟩,h3⟩,h4⟩,h5⟩:=h;refine⟨by omega,λf hf=>?_⟩;have:=h5 f hf;simp only[Bool.or_eq_true,decide_eq_true_eq,not_or] at this;omega
theorem adS (l d:List Value) (p:aW) (f:CFn) (g:Nat) (w:World) (v:eL w w.heap.size l p) (hf:FnR w w.heap.size d f) (I:f.code.length<=600) (x:f.regs<=60) (q:aA w g l) : Calls prog 76 #[.agg ⟨d⟩,.pointer (some ⟨g,0,none⟩)] w (aM (.bool (!dF p f)) w):=by
 obtain⟨r,s⟩:∃r,dF p f=r:=⟨_,rfl⟩;obtain⟨m,j⟩:∃m,m=w.alloc (.cells ⟨d⟩ 99):=⟨_,rfl⟩;have i:Hid (Below w.heap.size w m):=by rw[j];exact aB w _
 have C:=hI (xX l d p f m (v.keep i.o.size (λ_ h=>i.o.cell h)) (hf.keep i.o.size (λ_ h=>i.o.cell h)) I x);rw[s] at C ⊢;have y:=hI j;clear s j;obtain⟨A,D,E,F,G,H,rfl,-⟩:=v;obtain⟨N,O,P,R,rfl,-⟩:=hf;have z:=q 0 _ rfl;have L:=q 1 _ rfl;have M:=q 2 _ rfl;have J:g<w.heap.size:=dP z;clear q;go_enter func76,ntmps76;go_wp2_with fail;rw[<-y.o];refine C.o.mono ?_;rintro e w1 ⟨rfl,u⟩;have K:=btZ i u;clear u;go_wp2_with fail;go_ret;exact⟨rfl,K.o⟩
theorem s7:∀d W,(callFunc 76 d).run prog W=.ok (.enter 76 d) W:=enters_of func76 (by kernel_rfl) rfl
end
section
open Go.RowKit
theorem qH (J:List Value) (p:aW) (w:World) (hp:eL w w.heap.size J p) (ht:Tab w):Calls prog 46 #[.agg ⟨J⟩] w (aM (.int .i64 (bH p)) w):=by
 obtain⟨r,l⟩:∃r,bH p=r:=⟨_,rfl⟩;rw[l];unfold bH at l;have HP:=hI hp;obtain⟨A1,F,O,P,R,S,d6,q1,q2,q3⟩:=hp;obtain⟨D,V⟩:∃D,D=w.alloc (.cells ⟨J⟩ 26):=⟨_,rfl⟩;have E:Hid (Below w.heap.size w D):=by rw[V];exact aB w _
 have T0:Hid (Tab D):=ht.below E.o;have hz:w.heap.size<D.heap.size:=by rw[V];simp
 have s:Hid (aA D w.heap.size J):=by rw[V];exact ad5 _ _ _
 have P0:Hid (eL D D.heap.size J p):=HP.o.keep E.o.size (λ_ h=>E.o.cell h);have H:=hI (large_c J p D P0.o);have l1:p.fns.length<=9223372036854775807:=aP q1;have S1:Hid (aH w w.heap.size 5 (FnR w w.heap.size) (.slice A1 p.fns.length F) p.fns):=q1;subst d6;have L:=hI V;clear q1 q2 q3 V ht;obtain⟨q,W⟩:∃q,lB p=q:=⟨_,rfl⟩;rw[W] at H l;cases q
 case true=>
  have y:Hid (2=r):=by rw[<-l];rfl
  clear l W;go_enter func46,ntmps46;go_wp2_with fail;rw[<-L.o];refine H.o.mono ?_;rintro e w' ⟨rfl,d⟩;have K:=btZ E d;clear d;go_wp2_with fail;go_ret;exact⟨by rw[<-y.o];rfl,K.o⟩
 rw[if_neg (by simp)] at l;have HL:=hI (v8 W);have M:Hid (∀w1,Below D.heap.size D w1->Calls prog 74 #[.agg #[.slice A1 p.fns.length F,.slice O p.consts.length P,.slice R p.texts.length S]] w1 (aM (.bool (mN p)) w1)):=λw1 d=> ab4 _ p w1 (P0.o.keep d.size (λ_ h=>d.cell h)) (T0.o.below d) HL.o.1;obtain⟨q,c8⟩:∃q,mN p=q:=⟨_,rfl⟩;rw[c8] at M l;clear W c8;cases q
 case false=>
  have y:Hid (3=r):=by rw[<-l];rfl
  clear l;go_enter func46,ntmps46;go_wp2_with fail;rw[<-L.o];refine H.o.mono ?_;rintro e w1 ⟨rfl,d⟩;have v:=aC d (s.o 0 _ rfl);have z:=aC d (s.o 1 _ rfl);have A:=aC d (s.o 2 _ rfl);have K:=btZ E d;have C:=hI (M.o w1 d);clear d;go_wp2_with fail;refine C.o.mono ?_;rintro e u ⟨rfl,j⟩;have m:=btZ K j;clear j v z A;go_wp2_with fail;go_ret;exact⟨by rw[<-y.o];rfl,m.o⟩
 rw[Bool.not_true,Bool.false_or] at l;obtain⟨fl,G⟩:∃fl,p.fns=fl:=⟨_,rfl⟩;cases fl with
 | nil=>
  have hh:tS p=true:=by unfold tS;rw[G]
  rw[hh] at l
  have y:Hid (3=r):=by rw[<-l];rfl
  have z1:p.fns.length=0:=by rw[G];rfl
  rw[z1] at M L s
  clear l G hh
  rw[z1]
  go_enter func46,ntmps46
  go_wp2_with fail
  rw[<-L.o]
  rw[z1] at H
  refine H.o.mono ?_
  rintro e w1 ⟨rfl,d⟩
  have v:=aC d (s.o 0 _ rfl)
  have z:=aC d (s.o 1 _ rfl)
  have A:=aC d (s.o 2 _ rfl)
  have K:=btZ E d
  have C:=hI (M.o w1 d)
  have I:=hI d
  clear d
  go_wp2_with fail
  refine C.o.mono ?_
  rintro e u ⟨rfl,j⟩
  have b0:=aC j v
  have m:=btZ K j
  clear j v z A
  go_wp2_with fail
  go_ret
  exact⟨by rw[<-y.o];rfl,m.o⟩
 | cons f fs=>
  have hh:tS p=(decide (f.params≠0) || decide (0<f.caught.length) || f.gen):=by unfold tS;rw[G]
  rw[hh] at l
  have h0:p.fns[0]? = some f:=by rw[G];rfl
  have d2:0<p.fns.length:=by rw[G];simp
  have f2:(0:Int)<p.fns.length:=by omega
  have z1:((p.fns.length:Int) == 0)=false:=by rw[beq_eq_false_iff_ne];omega
  have z2:¬(p.fns.length:Int)=0:=by omega
  obtain⟨b,i,x,cs,hA,hb,Y,e3,hR,c9⟩:=S1.o.at_ d2
  rw[h0] at Y
  injection Y with Y
  subst Y
  subst hA
  obtain⟨A4,n4,A5,n5,rfl,q4,q5,v1,v2⟩:=hR
  have l4:=aP q4
  have N:=hI c9
  clear G h0 e3 c9 q4 q5 hh
  have CF:Hid (∀w1,Below D.heap.size D w1->Calls prog 75 #[.slice (some ⟨b,i,none⟩) p.fns.length F,.func (.func 76) #[] #[.pointer (some ⟨w.heap.size,0,none⟩)]] w1 (aM (.bool (p.fns.any (λf=>!dF p f))) w1)):=λw1 d=>by
   have P1:=P0.o.keep d.size (λ_ h=>d.cell h)
   refine kO (FnR w1 w1.heap.size) (λf=>!dF p f) _ F p.fns 76 s7 _ w1 ?_ (λw4 k4 x cs hx hR=>?_)
   ·have X:=btZ E d
    exact S1.o.keep X.size (λ_ h=>X.cell h) (λ_ _ h=>h.keep X.size (λ_ h=>X.cell h))
   ·exact adS _ cs p x w.heap.size w4 (P1.keep k4.size (λ_ h=>k4.cell h)) (hR.keep k4.size (λ_ h=>k4.cell h)) (HL.o.2 x hx).1 (HL.o.2 x hx).2 ((s.o.on d).on k4)
  have Z:Hid (w.cell? ⟨b,i,none⟩=some (.int .i64 f.params)):=by have:=N.o 0 _ rfl;simpa [Hid] using this
  have D2:Hid (w.cell? ⟨b,i+2,none⟩=some (.bool f.gen)):=by have:=N.o 2 _ rfl;simpa [Hid] using this
  have D3:Hid (w.cell? ⟨b,i+3,none⟩=some (.slice A4 f.caught.length n4)):=by have:=N.o 3 _ rfl;simpa [Hid] using this
  clear N
  by_cases h1:f.params=0
  case neg=>
   have g3:(f.params != 0)=true:=by simpa using h1
   have y:Hid (3=r):=by rw[<-l,decide_eq_true h1];rfl
   clear l
   go_enter func46,ntmps46
   go_wp2_with fail
   rw[<-L.o]
   refine H.o.mono ?_
   rintro e w1 ⟨rfl,d⟩
   have v:=aC d (s.o 0 _ rfl)
   have z:=aC d (s.o 1 _ rfl)
   have A:=aC d (s.o 2 _ rfl)
   have K:=btZ E d
   have C:=hI (M.o w1 d)
   have I:=hI d
   clear d
   go_wp2_with fail
   refine C.o.mono ?_
   rintro e u ⟨rfl,j⟩
   have b0:=aC j v
   have m:=btZ K j
   have K3:=btZ I j
   clear j v z A
   have c0:u.cell? ⟨b,i,none⟩=some (.int .i64 f.params):=(m.o.cell hb).trans Z.o
   have c2:u.cell? ⟨b,i+2,none⟩=some (.bool f.gen):=(m.o.cell hb).trans D2.o
   have c3:u.cell? ⟨b,i+3,none⟩=some (.slice A4 f.caught.length n4):=(m.o.cell hb).trans D3.o
   go_wp2_with fail
   go_ret
   exact⟨by rw[<-y.o];rfl,m.o⟩
  rw[h1] at Z
  rw[decide_eq_false (by simp[h1]:¬f.params≠0),Bool.false_or] at l
  by_cases h2:0<f.caught.length
  case pos=>
   have e2:(0:Int)<f.caught.length:=by omega
   have y:Hid (3=r):=by rw[<-l,decide_eq_true h2];rfl
   clear l
   go_enter func46,ntmps46
   go_wp2_with fail
   rw[<-L.o]
   refine H.o.mono ?_
   rintro e w1 ⟨rfl,d⟩
   have v:=aC d (s.o 0 _ rfl)
   have z:=aC d (s.o 1 _ rfl)
   have A:=aC d (s.o 2 _ rfl)
   have K:=btZ E d
   have C:=hI (M.o w1 d)
   have I:=hI d
   clear d
   go_wp2_with fail
   refine C.o.mono ?_
   rintro e u ⟨rfl,j⟩
   have b0:=aC j v
   have m:=btZ K j
   have K3:=btZ I j
   clear j v z A
   have c0:u.cell? ⟨b,i,none⟩=some (.int .i64 0):=(m.o.cell hb).trans Z.o
   have c2:u.cell? ⟨b,i+2,none⟩=some (.bool f.gen):=(m.o.cell hb).trans D2.o
   have c3:u.cell? ⟨b,i+3,none⟩=some (.slice A4 f.caught.length n4):=(m.o.cell hb).trans D3.o
   go_wp2_with fail
   go_ret
   exact⟨by rw[<-y.o];rfl,m.o⟩
  have e2:decide ((0:Int)<f.caught.length)=false:=decide_eq_false (by omega)
  rw[decide_eq_false h2,Bool.false_or] at l
  obtain⟨g,hg⟩:∃g,f.gen=g:=⟨_,rfl⟩
  rw[hg] at l D2
  cases g
  case true=>
   have y:Hid (3=r):=by rw[<-l];rfl
   clear l
   go_enter func46,ntmps46
   go_wp2_with fail
   rw[<-L.o]
   refine H.o.mono ?_
   rintro e w1 ⟨rfl,d⟩
   have v:=aC d (s.o 0 _ rfl)
   have z:=aC d (s.o 1 _ rfl)
   have A:=aC d (s.o 2 _ rfl)
   have K:=btZ E d
   have C:=hI (M.o w1 d)
   have I:=hI d
   clear d
   go_wp2_with fail
   refine C.o.mono ?_
   rintro e u ⟨rfl,j⟩
   have b0:=aC j v
   have m:=btZ K j
   have K3:=btZ I j
   clear j v z A
   have c0:u.cell? ⟨b,i,none⟩=some (.int .i64 0):=(m.o.cell hb).trans Z.o
   have c2:u.cell? ⟨b,i+2,none⟩=some (.bool true):=(m.o.cell hb).trans D2.o
   have c3:u.cell? ⟨b,i+3,none⟩=some (.slice A4 f.caught.length n4):=(m.o.cell hb).trans D3.o
   go_wp2_with fail
   go_ret
   exact⟨by rw[<-y.o];rfl,m.o⟩
  rw[if_neg (by simp)] at l
  clear hg
  obtain⟨q,W⟩:∃q,p.fns.any (λf=>!dF p f)=q:=⟨_,rfl⟩
  rw[W] at l CF
  clear W
  cases q
  case true=>
   have y:Hid (3=r):=by rw[<-l];rfl
   clear l
   go_enter func46,ntmps46
   go_wp2_with fail
   rw[<-L.o]
   refine H.o.mono ?_
   rintro e w1 ⟨rfl,d⟩
   have v:=aC d (s.o 0 _ rfl)
   have z:=aC d (s.o 1 _ rfl)
   have A:=aC d (s.o 2 _ rfl)
   have K:=btZ E d
   have C:=hI (M.o w1 d)
   have I:=hI d
   clear d
   go_wp2_with fail
   refine C.o.mono ?_
   rintro e u ⟨rfl,j⟩
   have b0:=aC j v
   have m:=btZ K j
   have K3:=btZ I j
   clear j v z A
   have c0:u.cell? ⟨b,i,none⟩=some (.int .i64 0):=(m.o.cell hb).trans Z.o
   have c2:u.cell? ⟨b,i+2,none⟩=some (.bool false):=(m.o.cell hb).trans D2.o
   have c3:u.cell? ⟨b,i+3,none⟩=some (.slice A4 f.caught.length n4):=(m.o.cell hb).trans D3.o
   have CG:=hI (CF.o u K3.o)
   go_wp2_with fail
   refine CG.o.mono ?_
   rintro e w3 ⟨rfl,k3⟩
   have K4:=btZ m k3
   clear k3
   go_wp2_with fail
   go_ret
   exact⟨by rw[<-y.o];rfl,K4.o⟩
  case false=>
   have y:Hid (0=r):=by rw[<-l];rfl
   clear l
   go_enter func46,ntmps46
   go_wp2_with fail
   rw[<-L.o]
   refine H.o.mono ?_
   rintro e w1 ⟨rfl,d⟩
   have v:=aC d (s.o 0 _ rfl)
   have z:=aC d (s.o 1 _ rfl)
   have A:=aC d (s.o 2 _ rfl)
   have K:=btZ E d
   have C:=hI (M.o w1 d)
   have I:=hI d
   clear d
   go_wp2_with fail
   refine C.o.mono ?_
   rintro e u ⟨rfl,j⟩
   have b0:=aC j v
   have m:=btZ K j
   have K3:=btZ I j
   clear j v z A
   have c0:u.cell? ⟨b,i,none⟩=some (.int .i64 0):=(m.o.cell hb).trans Z.o
   have c2:u.cell? ⟨b,i+2,none⟩=some (.bool false):=(m.o.cell hb).trans D2.o
   have c3:u.cell? ⟨b,i+3,none⟩=some (.slice A4 f.caught.length n4):=(m.o.cell hb).trans D3.o
   have CG:=hI (CF.o u K3.o)
   go_wp2_with fail
   refine CG.o.mono ?_
   rintro e w3 ⟨rfl,k3⟩
   have K4:=btZ m k3
   clear k3
   go_wp2_with fail
   go_ret
   exact⟨by rw[<-y.o];rfl,K4.o⟩
end
end Go.Proofs.YtjaphgpkkfdaaaaGreatDoor
