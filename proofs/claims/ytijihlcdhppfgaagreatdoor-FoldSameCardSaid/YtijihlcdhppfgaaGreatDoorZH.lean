/- A part of the walk. -/
import Derived.Test.YtijihlcdhppfgaaGreatDoorZF
import Derived.Laws.Externs
import Derived.Maps.OwnOps
import Derived.Maps.Views
set_option maxHeartbeats 16000000
set_option maxRecDepth 100000
set_option linter.all false
namespace Go.Proofs.YtijihlcdhppfgaaGreatDoor
open Tryz
section
open Go.RowKit
theorem wT {α : Type} (R:List Value->α->Prop) (p : α->Bool) (A:Option Addr) (j:Nat) (xs:List α) (l:FuncId) (a2:∀args W,(callFunc l args).run prog W=.ok (.enter l args) W) (v:Array Value) (w:World) (G:aB w w.heap.size 1 R (.slice A xs.length j) xs) (N:∀(w1:World),Below w.heap.size w w1->∀(x : α) (cs:List Value),x∈xs->R cs x->Calls prog l (cs.toArray++v) w1 (aK (.bool (p x)) w1)) : Calls prog 180 #[.slice A xs.length j,.func (.func l) #[] v] w (aK (.int .i64 (l7 p xs)) w):=by
 have P:=hI G;have S:=hI N;have hl:xs.length<=j/\j<=maxLen:=by obtain⟨A',c',e,V,X,-⟩:=G;injection e with _ _ Z;subst Z;exact⟨V,X⟩
 obtain⟨a1,J⟩:=hl;unfold maxLen at J;clear G N;go_enter func180,ntmps180;go_wp2_with fail;go_loopw [8] (λk wr=>∃d:Nat,k=.int .i64 d/\d<=xs.length/\Hid (∀i x,i<d->xs[i]? = some x->p x=false)/\Hid (Below w.heap.size w wr)) (λk _=>xs.length - (RowKit.intOf k).toNat);case atStart=>exact⟨0,rfl,by omega,λi x hi _=>by omega,Below.refl _ _⟩
 case round=>
  obtain⟨d,rfl,hk,F,g⟩:=hrel
  by_cases O:d<xs.length
  ·obtain⟨b,K,x,cs,rfl,hb,r,L,M,D⟩:=P.o.at_ O
   match cs,L with
   | [c0],_=>
    have a0:(d:Int)<xs.length:=by omega
    have H:wr.cell? ⟨b,K+d,none⟩=some c0:=(g.o.cell hb).trans (by simpa using D 0 _ rfl)
    have z:=hI (S.o wr g.o x _ (lM r) M)
    have I:=hI r
    clear r D M
    cases f:p x
    ·have q:=hI f
     rw[f] at z
     clear f
     go_wp2_with fail
     refine z.o.mono ?_
     rintro e Y ⟨rfl,s⟩
     have E:=hI (Below.trans g.o (s.mono g.o.size))
     clear s H
     go_wp2_with fail
     go_roundw
     case rel=>exact⟨d+1,by go_num,by omega,λi y hi u=>by
      rcases Nat.lt_or_ge i d with h | h
      ·exact F.o i y h u
      ·have:i=d:=by omega
       subst this
       rw[I.o] at u
       injection u with u
       subst u
       exact q.o,E⟩
     case measure=>simp[RowKit.intOf];omega
    ·have q:=hI (iM F.o I.o f)
     rw[f] at z
     clear f
     go_wp2_with fail
     refine z.o.mono ?_
     rintro e Y ⟨rfl,s⟩
     have E:=hI (Below.trans g.o (s.mono g.o.size))
     clear s H
     go_wp2_with fail
     go_ret
     exact⟨by rw[q.o];rfl,E.o⟩
  ·have q:=hI (gV (p:=p) (xs:=xs) (λi x hi=>F.o i x (by have:=(lE hi).1;omega) hi))
   go_wp2_with fail
   go_ret
   exact⟨by rw[q.o];rfl,g.o⟩
theorem mK {α : Type} (R:List Value->α->Prop) (p : α->Bool) (A:Option Addr) (g:Nat) (xs:List α) (d:FuncId) (h:∀args W,(callFunc d args).run prog W=.ok (.enter d args) W) (f:Array Value) (w:World) (l:aB w w.heap.size 1 R (.slice A xs.length g) xs) (q:∀(w1:World),Below w.heap.size w w1->∀(x : α) (cs:List Value),x∈xs->R cs x->Calls prog d (cs.toArray++f) w1 (aK (.bool (p x)) w1)) : Calls prog 109 #[.slice A xs.length g,.func (.func d) #[] f] w (aK (.bool (xs.any p)) w):=by have r:=hI (wT R p A g xs d h f w l q);have s:=hI (iN p xs);clear l q h;go_enter func109,ntmps109;go_wp2_with fail;refine r.o.mono ?_;rintro e w1 ⟨rfl,j⟩;have u:=hI j;clear j;go_wp2_with fail;go_ret;exact⟨by rw[s.o];rfl,u.o⟩
theorem yE {α : Type} (R:List Value->α->Prop) (p : α->Bool) (A:Option Addr) (q:Nat) (xs:List α) (r:FuncId) (a6:∀args W,(callFunc r args).run prog W=.ok (.enter r args) W) (D:Array Value) (w:World) (H:aB w w.heap.size 5 R (.slice A xs.length q) xs) (V:∀(w1:World),Below w.heap.size w w1->∀(x : α) (cs:List Value),x∈xs->R cs x->Calls prog r (#[.agg ⟨cs⟩]++D) w1 (aK (.bool (p x)) w1)) : Calls prog 115 #[.slice A xs.length q,.func (.func r) #[] D] w (aK (.int .i64 (l7 p xs)) w):=by
 have Y:=hI H;have Z:=hI V;have hl:xs.length<=q/\q<=maxLen:=by obtain⟨A',c',e,e1,e2,-⟩:=H;injection e with _ _ e3;subst e3;exact⟨e1,e2⟩
 obtain⟨a5,O⟩:=hl;unfold maxLen at O;clear H V;go_enter func115,ntmps115;go_wp2_with fail;go_loopw [8] (λk wr=>∃d:Nat,k=.int .i64 d/\d<=xs.length/\Hid (∀i x,i<d->xs[i]? = some x->p x=false)/\Hid (Below w.heap.size w wr)) (λk _=>xs.length - (RowKit.intOf k).toNat);case atStart=>exact⟨0,rfl,by omega,λi x hi _=>by omega,Below.refl _ _⟩
 case round=>
  obtain⟨d,rfl,hk,G,f⟩:=hrel
  by_cases X:d<xs.length
  ·obtain⟨b,l,x,cs,rfl,hb,u,P,S,g⟩:=Y.o.at_ X
   match cs,P with
   | [c0,c1,c2,c3,c4],_=>
    have a4:(d:Int)<xs.length:=by omega
    have I:wr.cell? ⟨b,l+d*5,none⟩=some c0:=(f.o.cell hb).trans (g 0 _ rfl)
    have J:wr.cell? ⟨b,l+d*5+1,none⟩=some c1:=(f.o.cell hb).trans (g 1 _ rfl)
    have K:wr.cell? ⟨b,l+d*5+2,none⟩=some c2:=(f.o.cell hb).trans (g 2 _ rfl)
    have L:wr.cell? ⟨b,l+d*5+3,none⟩=some c3:=(f.o.cell hb).trans (g 3 _ rfl)
    have M:wr.cell? ⟨b,l+d*5+4,none⟩=some c4:=(f.o.cell hb).trans (g 4 _ rfl)
    have E:=hI (Z.o wr f.o x _ (lM u) S)
    have N:=hI u
    clear u g S
    cases j:p x
    ·have s:=hI j
     rw[j] at E
     clear j
     go_wp2_with fail
     refine E.o.mono ?_
     rintro e w2 ⟨rfl,v⟩
     have F:=hI (Below.trans f.o (v.mono f.o.size))
     clear v I J K L M
     go_wp2_with fail
     go_roundw
     case rel=>exact⟨d+1,by go_num,by omega,λi y hi z=>by
      rcases Nat.lt_or_ge i d with h | h
      ·exact G.o i y h z
      ·have:i=d:=by omega
       subst this
       rw[N.o] at z
       injection z with z
       subst z
       exact s.o,F⟩
     case measure=>simp[RowKit.intOf];omega
    ·have s:=hI (iM G.o N.o j)
     rw[j] at E
     clear j
     go_wp2_with fail
     refine E.o.mono ?_
     rintro e w2 ⟨rfl,v⟩
     have F:=hI (Below.trans f.o (v.mono f.o.size))
     clear v I J K L M
     go_wp2_with fail
     go_ret
     exact⟨by rw[s.o];rfl,F.o⟩
  ·have s:=hI (gV (p:=p) (xs:=xs) (λi x hi=>G.o i x (by have:=(lE hi).1;omega) hi))
   go_wp2_with fail
   go_ret
   exact⟨by rw[s.o];rfl,f.o⟩
theorem nJ {α : Type} (R:List Value->α->Prop) (p : α->Bool) (A:Option Addr) (g:Nat) (xs:List α) (d:FuncId) (h:∀args W,(callFunc d args).run prog W=.ok (.enter d args) W) (f:Array Value) (w:World) (l:aB w w.heap.size 5 R (.slice A xs.length g) xs) (q:∀(w1:World),Below w.heap.size w w1->∀(x : α) (cs:List Value),x∈xs->R cs x->Calls prog d (#[.agg ⟨cs⟩]++f) w1 (aK (.bool (p x)) w1)) : Calls prog 60 #[.slice A xs.length g,.func (.func d) #[] f] w (aK (.bool (xs.any p)) w):=by have r:=hI (yE R p A g xs d h f w l q);have s:=hI (iN p xs);clear l q h;go_enter func60,ntmps60;go_wp2_with fail;refine r.o.mono ?_;rintro e w1 ⟨rfl,j⟩;have u:=hI j;clear j;go_wp2_with fail;go_ret;exact⟨by rw[s.o];rfl,u.o⟩
theorem wS {α : Type} (R:List Value->α->Prop) (p : α->Bool) (A:Option Addr) (j:Nat) (xs:List α) (l:FuncId) (a3:∀args W,(callFunc l args).run prog W=.ok (.enter l args) W) (z:Array Value) (w:World) (H:aB w w.heap.size 2 R (.slice A xs.length j) xs) (O:∀(w1:World),Below w.heap.size w w1->∀(x : α) (cs:List Value),x∈xs->R cs x->Calls prog l (#[.agg ⟨cs⟩]++z) w1 (aK (.bool (p x)) w1)) : Calls prog 182 #[.slice A xs.length j,.func (.func l) #[] z] w (aK (.int .i64 (l7 p xs)) w):=by
 have S:=hI H;have V:=hI O;have hl:xs.length<=j/\j<=maxLen:=by obtain⟨A',c',e,X,Y,-⟩:=H;injection e with _ _ e3;subst e3;exact⟨X,Y⟩
 obtain⟨a2,L⟩:=hl;unfold maxLen at L;clear H O;go_enter func182,ntmps182;go_wp2_with fail;go_loopw [8] (λk wr=>∃d:Nat,k=.int .i64 d/\d<=xs.length/\Hid (∀i x,i<d->xs[i]? = some x->p x=false)/\Hid (Below w.heap.size w wr)) (λk _=>xs.length - (RowKit.intOf k).toNat);case atStart=>exact⟨0,rfl,by omega,λi x hi _=>by omega,Below.refl _ _⟩
 case round=>
  obtain⟨d,rfl,hk,G,g⟩:=hrel
  by_cases P:d<xs.length
  ·obtain⟨b,E,x,cs,rfl,hb,r,M,N,s⟩:=S.o.at_ P
   match cs,M with
   | [c0,c1],_=>
    have a1:(d:Int)<xs.length:=by omega
    have I:wr.cell? ⟨b,E+d*2,none⟩=some c0:=(g.o.cell hb).trans (s 0 _ rfl)
    have J:wr.cell? ⟨b,E+d*2+1,none⟩=some c1:=(g.o.cell hb).trans (s 1 _ rfl)
    have D:=hI (V.o wr g.o x _ (lM r) N)
    have K:=hI r
    clear r s N
    cases f:p x
    ·have q:=hI f
     rw[f] at D
     clear f
     go_wp2_with fail
     refine D.o.mono ?_
     rintro e Z ⟨rfl,u⟩
     have F:=hI (Below.trans g.o (u.mono g.o.size))
     clear u I J
     go_wp2_with fail
     go_roundw
     case rel=>exact⟨d+1,by go_num,by omega,λi y hi v=>by
      rcases Nat.lt_or_ge i d with h | h
      ·exact G.o i y h v
      ·have:i=d:=by omega
       subst this
       rw[K.o] at v
       injection v with v
       subst v
       exact q.o,F⟩
     case measure=>simp[RowKit.intOf];omega
    ·have q:=hI (iM G.o K.o f)
     rw[f] at D
     clear f
     go_wp2_with fail
     refine D.o.mono ?_
     rintro e Z ⟨rfl,u⟩
     have F:=hI (Below.trans g.o (u.mono g.o.size))
     clear u I J
     go_wp2_with fail
     go_ret
     exact⟨by rw[q.o];rfl,F.o⟩
  ·have q:=hI (gV (p:=p) (xs:=xs) (λi x hi=>G.o i x (by have:=(lE hi).1;omega) hi))
   go_wp2_with fail
   go_ret
   exact⟨by rw[q.o];rfl,g.o⟩
theorem fY {α : Type} (R:List Value->α->Prop) (p : α->Bool) (A:Option Addr) (g:Nat) (xs:List α) (d:FuncId) (h:∀args W,(callFunc d args).run prog W=.ok (.enter d args) W) (f:Array Value) (w:World) (l:aB w w.heap.size 2 R (.slice A xs.length g) xs) (q:∀(w1:World),Below w.heap.size w w1->∀(x : α) (cs:List Value),x∈xs->R cs x->Calls prog d (#[.agg ⟨cs⟩]++f) w1 (aK (.bool (p x)) w1)) : Calls prog 113 #[.slice A xs.length g,.func (.func d) #[] f] w (aK (.bool (xs.any p)) w):=by have r:=hI (wS R p A g xs d h f w l q);have s:=hI (iN p xs);clear l q h;go_enter func113,ntmps113;go_wp2_with fail;refine r.o.mono ?_;rintro e w1 ⟨rfl,j⟩;have u:=hI j;clear j;go_wp2_with fail;go_ret;exact⟨by rw[s.o];rfl,u.o⟩
theorem agZ:∀args W,(callFunc 110 args).run prog W=.ok (.enter 110 args) W:=enters_of func110 (by kernel_rfl) rfl
theorem agY:∀args W,(callFunc 111 args).run prog W=.ok (.enter 111 args) W:=enters_of func111 (by kernel_rfl) rfl
theorem aiW (s:ByteArray) (g:s.size<=9223372036854775807) (w:World):Calls prog 110 #[.string s] w (aK (.bool (decide (200<s.size))) w):=by
 obtain⟨r,d⟩:∃r,decide (200<s.size)=r:=⟨_,rfl⟩;rw[d];have f:Hid (decide ((200:Int)<s.size)=r):=by rw[<-d];show decide _=decide _;congr 1;rw[eq_iff_iff];omega
 clear d;go_enter func110,ntmps110;go_wp2;go_ret;exact⟨by rw[<-f.o];rfl,Below.refl _ _⟩
theorem aiV (cs:List Value) (f:CFn) (B:Nat) (w0 w:World) (h:FnR w0 B cs f):Calls prog 111 #[.agg ⟨cs⟩] w (aK (.bool (decide (600<f.code.length) || decide (60<f.regs))) w):=by
 obtain⟨p,q,s,u,rfl,-⟩:=h;by_cases h1:(600:Int)<f.code.length
 ·have e:(decide (600<f.code.length) || decide (60<f.regs))=true:=by have g:600<f.code.length:=(by omega);rw[decide_eq_true g,Bool.true_or]
  rw[e];go_enter func111,ntmps111;go_wp2;go_ret;exact⟨rfl,aA w _⟩
 ·obtain⟨r,d⟩:∃r,(decide (600<f.code.length) || decide (60<f.regs))=r:=⟨_,rfl⟩;rw[d];have j:Hid (decide (60<f.regs)=r):=by
   rw[<-d];have:¬ 600<f.code.length:=by omega
   simp[this,Hid]
  have l:decide ((600:Int)<f.code.length)=false:=by simpa using h1
  clear d h1;go_enter func111,ntmps111;go_wp2;go_ret;exact⟨by rw[<-j.o];rfl,aA w _⟩
theorem large_c (G:List Value) (p:aZ) (w:World) (R:fL w w.heap.size G p):Calls prog 58 #[.agg ⟨G⟩] w (aK (.bool (oB p)) w):=by
 obtain⟨r,j⟩:∃r,oB p=r:=⟨_,rfl⟩;rw[j];unfold oB at j;have HP:=hI R;obtain⟨A,D,L,M,H,I,rfl,q1,Z,N⟩:=R;obtain⟨w0,q⟩:∃w0,w0=w.alloc (.cells #[.slice A p.fns.length D,.slice L p.consts.length M,.slice H p.texts.length I] 26):=⟨_,rfl⟩;have g:Hid (Below w.heap.size w w0):=by rw[q];exact aA w _
 have S:Hid (∀i,w0.cell? ⟨w.heap.size,i,none⟩=(#[.slice A p.fns.length D,.slice L p.consts.length M,.slice H p.texts.length I]:Array Value)[i]?):=by rw[q];exact cA _ _ _
 have hz:w.heap.size<w0.heap.size:=by rw[q];simp
 have u:=hI q;have y:=hI (mK nM (λt=>decide (200<t.size)) H I p.texts 110 agZ #[] w0 (N.keep g.o.size (λ_ h=>g.o.cell h) (λ_ _ h=>h)) (λw1 k x cs hx K=>by obtain⟨rfl,hs⟩:=K;exact aiW x (by unfold maxLen at hs;omega) w1));have V:Hid (∀w1,Below w0.heap.size w0 w1->_):=λw1 (P:Below w0.heap.size w0 w1)=>nJ (FnR w w.heap.size) (λf=>decide (600<f.code.length) || decide (60<f.regs)) A D p.fns 111 agY #[] w1 (q1.keep (Nat.le_trans g.o.size P.size) (λ_ h=>(P.cell (Nat.lt_of_lt_of_le h g.o.size)).trans (g.o.cell h)) (λ_ _ h=>h)) (λw2 k x cs hx K=>aiV cs x _ _ w2 K);clear q1 Z N q;by_cases h1:60<p.fns.length
 ·have hi:(60:Int)<p.fns.length:=by omega
  have l:Hid (true=r):=by rw[<-j];simp[h1,Hid]
  clear j h1;go_enter func58,ntmps58;go_wp2_with fail;go_ret;rw[<-u.o];exact⟨by rw[<-l.o];rfl,g.o⟩
 have i1:decide ((60:Int)<p.fns.length)=false:=by simp;omega
 by_cases v:200<p.consts.length
 ·have hi:(200:Int)<p.consts.length:=by omega
  have l:Hid (true=r):=by rw[<-j];simp[v,Hid]
  clear j h1 v;go_enter func58,ntmps58;go_wp2_with fail;go_ret;rw[<-u.o];exact⟨by rw[<-l.o];rfl,g.o⟩
 have i2:decide ((200:Int)<p.consts.length)=false:=by simp;omega
 by_cases E:200<p.texts.length
 ·have hi:(200:Int)<p.texts.length:=by omega
  have l:Hid (true=r):=by rw[<-j];simp[E,Hid]
  clear j h1 v E;go_enter func58,ntmps58;go_wp2_with fail;go_ret;rw[<-u.o];exact⟨by rw[<-l.o];rfl,g.o⟩
 have i3:decide ((200:Int)<p.texts.length)=false:=by simp;omega
 have d:(p.texts.any (λt=>decide (200<t.size)) || p.fns.any (λf=>decide (600<f.code.length) || decide (60<f.regs)))=r:=by rw[<-j];simp only[h1,v,E,decide_false,Bool.false_or]
 clear j h1 v E;cases F:p.texts.any (λt=>decide (200<t.size))
 ·rw[F] at y d;have l:Hid (p.fns.any (λf=>decide (600<f.code.length) || decide (60<f.regs))=r):=by rw[Bool.false_or] at d;exact d
  clear d F;go_enter func58,ntmps58;go_wp2_with fail;rw[<-u.o];refine y.o.mono ?_;rintro e J ⟨rfl,s⟩;have z:=hI s;have X:J.cell? ⟨w.heap.size,0,none⟩=some (.slice A p.fns.length D):=aC s (S.o 0);clear s;go_wp2_with fail;refine(V.o J z.o).mono ?_;rintro e w4 ⟨rfl,O⟩;have Y:=hI (g.o.trans ((Below.next z.o O).mono g.o.size));clear O X;go_wp2_with fail;go_ret;exact⟨by rw[<-l.o];rfl,Y.o⟩
 ·rw[F] at y d;have l:Hid (true=r):=by rw[Bool.true_or] at d;exact d
  clear d F;go_enter func58,ntmps58;go_wp2_with fail;rw[<-u.o];refine y.o.mono ?_;rintro e J ⟨rfl,s⟩;have z:=btZ g s;clear s;go_wp2_with fail;go_ret;exact⟨by rw[<-l.o];rfl,z.o⟩
end
section
open Go.RowKit
def pO (n:Int):Nat:=(IntKind.u64.wrap n).toNat
def isNum (n:Int):Bool:=FloatKind.f64.format.order (pO n) (pO n) == some .eq
def aF (v:Val):Bool:=
 if v.kind=0 then v.n == 0
 else if v.kind=1 then decide (0<=v.n) && decide (v.n<=1)
 else if v.kind=2 then decide (-2147483648<=v.n) && decide (v.n<=2147483647)
 else if v.kind=3 then isNum v.n || v.n == 9221120237041090561
 else if v.kind=4\/v.kind=5 then decide (0<=v.n)
 else if v.kind=6 then decide (0<=v.n) && decide (v.n<=15)
 else false
theorem aaQ (k n:Int) (w:World):Calls prog 119 #[.agg #[.int .i64 k,.int .i64 n]] w (aK (.float .f64 (pO n)) w):=by go_enter func119,ntmps119;go_wp2;rw[run_callFunc_extern func190 (by kernel_rfl) (by kernel_rfl) (by kernel_rfl) (e:=Extern.MathFloatBits.float64frombits) (by kernel_rfl)];rw[show ∀(m:Int) (W:World),(Extern.MathFloatBits.float64frombits #[.int .u64 m]).run prog W=.ok (.float .f64 m.toNat) W from λ_ _=>rfl];simp only[Result.andThen];rw[Oper.upon_value];go_wp2;go_ret;exact⟨rfl,aA w _⟩
theorem pW (n g hi:Int) (w:World):Calls prog 118 #[.int .i64 n,.int .i64 g,.int .i64 hi] w λe w'=>e=.returned (.bool (aL n g hi))/\w=w':=by
 unfold aL;obtain⟨r,f⟩:∃r:Bool,(decide (g<=n) && decide (n<=hi))=r:=⟨_,rfl⟩;rw[f];by_cases h:g<=n
 ·have d:decide (n<=hi)=r:=by rw[<-f];simp[h]
  have j:=hI d;clear f d;go_enter func118,ntmps118;go_wp2;go_ret;exact⟨by rw[<-j.o];rfl,rfl⟩
 ·have d:false=r:=by rw[<-f];simp[h]
  subst d;have l:decide (g<=n)=false:=by simpa using h
  clear f;go_enter func118,ntmps118;go_wp2;go_ret;exact⟨rfl,rfl⟩
theorem u9 (v:Val) (w:World):Calls prog 64 #[.agg #[.int .i64 v.kind,.int .i64 v.n]] w (aK (.bool (aF v)) w):=by
 obtain⟨k,n⟩:=v;obtain⟨r,d⟩:∃r,aF ⟨k,n⟩=r:=⟨_,rfl⟩;rw[d];unfold aF at d;dsimp only at d ⊢;by_cases g:k=0;·rw[if_pos g] at d;subst g;have f:=hI d;clear d;go_enter func64,ntmps64;go_wp2;go_ret;exact⟨by rw[<-f.o];rfl,aA w _⟩
 rw[if_neg g] at d;by_cases h1:k=1;·rw[if_pos h1] at d;have f:Hid (aL n 0 1=r):=d;subst h1;clear d g;go_enter func64,ntmps64;go_wp2_with fail;refine(pW _ _ _ _).mono ?_;rintro e w' ⟨rfl,rfl⟩;go_wp2_with fail;go_ret;exact⟨by rw[<-f.o];rfl,aA w _⟩
 rw[if_neg h1] at d;by_cases j:k=2;·rw[if_pos j] at d;have f:Hid (aL n (-2147483648) 2147483647=r):=d;subst j;clear d g h1;go_enter func64,ntmps64;go_wp2_with fail;refine(pW _ _ _ _).mono ?_;rintro e w' ⟨rfl,rfl⟩;go_wp2_with fail;go_ret;exact⟨by rw[<-f.o];rfl,aA w _⟩
 rw[if_neg j] at d;by_cases q:k=3
 ·rw[if_pos q] at d;subst q;have f:=hI d;obtain⟨w0,h⟩:∃w0,w0=w.alloc (.cells #[.int .i64 3,.int .i64 n] 51):=⟨_,rfl⟩;have A:∀E:Up w0,E.to.cell? ⟨w.heap.size,0,none⟩=some (.int .i64 3):=λE=>E.cell (by rw[h];exact cA _ _ _ _);have D:∀E:Up w0,E.to.cell? ⟨w.heap.size,1,none⟩=some (.int .i64 n):=λE=>E.cell (by rw[h];exact cA _ _ _ _);have F:Hid (Below w.heap.size w w0):=by rw[h];exact aA w _
  have G:=hI h;obtain⟨p,u⟩:∃p,pO n=p:=⟨_,rfl⟩;have H:Hid (∀E:Up w0,Calls prog 119 #[.agg #[.int .i64 3,.int .i64 n]] E.to (aK (.float .f64 p) E.to)):=λE=>by rw[<-u];exact aaQ 3 n E.to
  have y:Hid (((FloatKind.f64.format.order p p == some .eq) || n == 9221120237041090561)=r):=by rw[<-u];exact d
  clear d g h1 j h u;cases I:(FloatKind.f64.format.order p p == some .eq)
  ·have s:Hid ((n == 9221120237041090561)=r):=(by have:=y.o;rw[I,Bool.false_or] at this;exact this);go_enter func64,ntmps64;go_wp2_with fail;rw[<-G.o];refine aD (by kernel_rfl) (by kernel_rfl) ?_;repeat (go_big_quiet_step ((go_at_call 119;with_reducible exact Calls.up (H.o _))))
   refine wpQuiet_nil ?_;rintro _ ⟨E,rfl⟩;have z:=btZ F E.below;clear A D;go_wp2_with fail;go_ret;exact⟨by rw[<-s.o];rfl,z.o⟩
  ·have s:Hid (true=r):=(by have:=y.o;rw[I,Bool.true_or] at this;exact this);go_enter func64,ntmps64;go_wp2_with fail;rw[<-G.o];refine aD (by kernel_rfl) (by kernel_rfl) ?_;repeat (go_big_quiet_step ((go_at_call 119;with_reducible exact Calls.up (H.o _))))
   refine wpQuiet_nil ?_;rintro _ ⟨E,rfl⟩;have z:=btZ F E.below;clear A D;go_wp2_with fail;go_ret;exact⟨by rw[<-s.o];rfl,z.o⟩
 rw[if_neg q] at d;by_cases l:k=4\/k=5;·rw[if_pos l] at d;have f:=hI d;clear d g h1 j q;rcases l with rfl | rfl;all_goals go_enter func64,ntmps64;go_wp2;go_ret;exact⟨by rw[<-f.o];rfl,aA w _⟩
 rw[if_neg l] at d;by_cases x:k=6;·rw[if_pos x] at d;have f:Hid (aL n 0 15=r):=d;subst x;clear d g h1 j q l;go_enter func64,ntmps64;go_wp2_with fail;refine(pW _ _ _ _).mono ?_;rintro e w' ⟨rfl,rfl⟩;go_wp2_with fail;go_ret;exact⟨by rw[<-f.o];rfl,aA w _⟩
 rw[if_neg x] at d;have J:(k == 0)=false:=by simpa using g
 have K:(k == 1)=false:=by simpa using h1
 have L:(k == 2)=false:=by simpa using j
 have M:(k == 3)=false:=by simpa using q
 have N:(k == 4)=false:=by simp;omega
 have O:(k == 5)=false:=by simp;omega
 have P:(k == 6)=false:=by simpa using x
 have f:=hI d;clear d g h1 j q l x;go_enter func64,ntmps64;go_wp2;go_ret;exact⟨by rw[<-f.o];rfl,aA w _⟩
end
section
open Go.RowKit Go.Maps
def ahK (len:Nat) (v:Val):Bool:=!aF v || v.kind == 5 || (v.kind == 4 && decide ((len:Int)<=v.n))
def pU (p:aZ):Bool:=decide (19<=p.texts.length) && decide (p.texts.take 19=dI) && decide p.texts.Nodup && !p.consts.any (ahK p.texts.length)
def o6 (l:List ByteArray):DataW Unit:=l.foldl (λd t=>d.put (.string t.data.toList) (.lit (.int .i64 1))) (.map [])
theorem rB (l:List ByteArray) (t:ByteArray):o6 (l++[t])=(o6 l).put (.string t.data.toList) (.lit (.int .i64 1)):=by simp[o6,List.foldl_append]
theorem vW (t:ByteArray) (z:DataW Unit):∀(l:List ByteArray) (D:DataW Unit),IsMap D->
  (t∈l->(l.foldl (λd t=>d.put (.string t.data.toList) (.lit (.int .i64 1))) D).atKey (.string t.data.toList) z=.lit (.int .i64 1))/\
  (t∉l->(l.foldl (λd t=>d.put (.string t.data.toList) (.lit (.int .i64 1))) D).atKey (.string t.data.toList) z=D.atKey (.string t.data.toList) z)
 | [],D,_=>⟨λh=>by simp at h,λ_=>rfl⟩
 | x::l,D,h=>by
  rw[List.foldl_cons]
  obtain⟨j,g⟩:=vW t z l _ (h.put (.string x.data.toList) (.lit (.int .i64 1)))
  refine⟨λf=>?_,λf=>?_⟩
  ·by_cases h1:t∈l
   ·exact j h1
   ·rw[g h1]
    rcases List.mem_cons.1 f with h2 | h2
    ·subst h2
     exact atKey_put_same h (show WideAt.IsKeyLit (.string _) from trivial) _ _
    ·exact absurd h2 h1
  ·rw[g (λh=>f (List.mem_cons_of_mem _ h))]
   refine atKey_put_other (λe=>f ?_) _ _
   injection e with e
   have:x=t:=by cases t with | mk a=>cases x with | mk b=>cases a;cases b;simp_all
   exact this ▸ List.mem_cons_self
theorem yY {t:ByteArray} {l:List ByteArray} (h:t∈l):(o6 l).atKey (.string t.data.toList) (.lit (.int .i64 0))=.lit (.int .i64 1):=(vW t _ l _ isMap_empty).1 h
theorem vV {t:ByteArray} {l:List ByteArray} (h:t∉l):(o6 l).atKey (.string t.data.toList) (.lit (.int .i64 0))=.lit (.int .i64 0):=(vW t _ l _ isMap_empty).2 h
theorem lJ {c d:Int} (h:(DataW.lit (.int .i64 c):DataW Unit)=.lit (.int .i64 d)):c=d:=by injection h with h;injection h
theorem afO (v:Val) (y:Nat) (A:Option Addr) (len s:Nat) (w:World) (G:w.cell? ⟨y,2,none⟩=some (.slice A len s)) : Calls prog 114 #[.agg #[.int .i64 v.kind,.int .i64 v.n],.pointer (some ⟨y,0,none⟩)] w (aK (.bool (ahK len v)) w):=by
 obtain⟨k,n⟩:=v;obtain⟨r,f⟩:∃r,ahK len ⟨k,n⟩=r:=⟨_,rfl⟩;rw[f];unfold ahK at f;obtain⟨q,x⟩:∃q,aF ⟨k,n⟩=q:=⟨_,rfl⟩;obtain⟨w0,g⟩:∃w0,w0=w.alloc (.cells #[.int .i64 k,.int .i64 n] 51):=⟨_,rfl⟩;have C:Hid (Calls prog 64 #[.agg #[.int .i64 k,.int .i64 n]] w0 (aK (.bool q) w0)):=by rw[<-x];exact u9 ⟨k,n⟩ w0
 have z:w0.cell? ⟨w.heap.size,0,none⟩=some (.int .i64 k):=by rw[g];exact cA _ _ _ _
 have D:w0.cell? ⟨w.heap.size,1,none⟩=some (.int .i64 n):=by rw[g];exact cA _ _ _ _
 have E:w0.cell? ⟨y,2,none⟩=some (.slice A len s):=by rw[g];exact kL G _
 have u:=hI z;have I:=hI D;have J:=hI E;have j:Hid (Below w.heap.size w w0):=by rw[g];exact aA w _
 have l:=hI g;rw[x] at f;clear z D E g x G;cases q
 ·have h:Hid (true=r):=by rw[<-f];rfl
  clear f;go_enter func114,ntmps114;go_wp2_with fail;rw[<-l.o];refine C.o.mono ?_;rintro e w1 ⟨rfl,d⟩;have K:=btZ j d;clear d;go_wp2_with fail;go_ret;exact⟨by rw[<-h.o];rfl,K.o⟩
 by_cases p:k=5
 ·subst p;have h:Hid (true=r):=by rw[<-f];rfl
  clear f;go_enter func114,ntmps114;go_wp2_with fail;rw[<-l.o];refine C.o.mono ?_;rintro e w1 ⟨rfl,d⟩;have F:=aC d u.o;have K:=btZ j d;clear d;go_wp2_with fail;go_ret;exact⟨by rw[<-h.o];rfl,K.o⟩
 by_cases H:k=4
 ·subst H;have h:Hid (decide ((len:Int)<=n)=r):=by rw[<-f];rfl
  clear f p;go_enter func114,ntmps114;go_wp2_with fail;rw[<-l.o];refine C.o.mono ?_;rintro e w1 ⟨rfl,d⟩;have F:=aC d u.o;have L:=aC d I.o;have M:=aC d J.o;have K:=btZ j d;clear d;go_wp2_with fail;go_ret;exact⟨by rw[<-h.o];rfl,K.o⟩
 have h:Hid (false=r):=by rw[<-f];show false=(false || k == 5 || (k == 4 && decide ((len:Int)<=n)));rw[bF p,bF H];rfl
 clear f;go_enter func114,ntmps114;go_wp2_with fail;rw[<-l.o];refine C.o.mono ?_;rintro e w1 ⟨rfl,d⟩;have F:=aC d u.o;have K:=btZ j d;clear d;go_wp2_with fail;go_ret;refine⟨?_,K.o⟩;show Ending.returned (.bool (k == 5))=_;rw[bF p,<-h.o]
theorem xA:∀args W,(callFunc 114 args).run prog W=.ok (.enter 114 args) W:=enters_of func114 (by kernel_rfl) rfl
end
section
open Go.RowKit Go.Maps Go.WideMaps
theorem tK:Keyed prog 9:=string_keyed underlying9
theorem uY (w:World):(zeroValue 3).run prog w=.ok (.int .i64 0) w:=by kernel_rfl
theorem uC (w:World):aB (w.alloc (.cells (dI.map Value.string).toArray 9)) (w.heap.size+1) 1 nM (.slice (some ⟨w.heap.size,0,none⟩) 19 19) dI:=by
 refine⟨some ⟨w.heap.size,0,none⟩,19,by rw[lS],by rw[lS];decide,by decide,λ_=>⟨w.heap.size,0,rfl,by omega,λi x f=>⟨[.string x],rfl,⟨rfl,?_⟩,λj v d=>?_⟩⟩⟩
 ·have g:=lM f
  have:dI.all (λt=>decide (t.size<=200))=true:=by kernel_rfl
  have:=List.all_eq_true.1 this x g
  simp at this
  unfold maxLen
  omega
 ·match j,d with
  | 0,d=>
   simp only[List.getElem?_cons_zero,Option.some.injEq] at d
   subst d
   rw[cA]
   simp[f]
theorem lU {xs:List ByteArray} {k:Nat} {x:ByteArray} (d:xs[k]? = some x):xs.take (k+1)=xs.take k++[x]:=by rw[List.take_add_one,d];rfl
theorem rH {xs:List ByteArray} {k:Nat} {x:ByteArray} (h:(xs.take k).Nodup) (f:xs[k]? = some x) (g:x∉xs.take k):(xs.take (k+1)).Nodup:=by rw[lU f,List.nodup_append];exact⟨h,by simp,λa d b hb=>by rw[List.mem_singleton] at hb;subst hb;exact λe=>g (e ▸ d)⟩
theorem zA {xs:List ByteArray} {k:Nat} {x:ByteArray} (d:xs[k]? = some x) (f:x∈xs.take k):¬xs.Nodup:=by intro h;have:=(List.take_sublist (k+1) xs).nodup h;rw[lU d,List.nodup_append] at this;exact this.2.2 x f x (by simp) rfl
theorem ahX (pcs:List Value) (p:aZ) (w:World) (hp:fL w w.heap.size pcs p) (ht:Tab w) (h200:p.texts.length<=200):Calls prog 59 #[.agg ⟨pcs⟩] w (aK (.bool (pU p)) w):=by
 obtain⟨r,hr⟩:∃r,pU p=r:=⟨_,rfl⟩;rw[hr];unfold pU at hr;obtain⟨A1,n1,A2,n2,A3,n3,rfl,q1,q2,q3⟩:=hp;obtain⟨w0,hw0⟩:∃w0,w0=w.alloc (.cells #[.slice A1 p.fns.length n1,.slice A2 p.consts.length n2,.slice A3 p.texts.length n3] 26):=⟨_,rfl⟩;have k0:Hid (Below w.heap.size w w0):=by rw[hw0];exact aA w _
 have hz:w.heap.size<w0.heap.size:=by rw[hw0];simp
 have T0:Hid (Tab w0):=ht.below k0.o;obtain⟨w1,hw1⟩:∃w1,w1=w0.alloc (.cells (dI.map Value.string).toArray 9):=⟨_,rfl⟩;have k1:Hid (Below w0.heap.size w0 w1):=by rw[hw1];exact aA w0 _
 have k01:=btZ k0 k1.o;have c0:∀i,w1.cell? ⟨w.heap.size,i,none⟩=(#[.slice A1 p.fns.length n1,.slice A2 p.consts.length n2,.slice A3 p.texts.length n3]:Array Value)[i]?:=by rw[hw1,hw0];exact jI _ _ _ _
 have d1:w1.cell? ⟨w.heap.size,1,none⟩=some (.slice A2 p.consts.length n2):=c0 1;have d2:w1.cell? ⟨w.heap.size,2,none⟩=some (.slice A3 p.texts.length n3):=c0 2;have C0:Hid (Calls prog 112 #[] w0 λe w'=>e=.returned (.slice (some ⟨w0.heap.size,0,none⟩) 19 19)/\w'=w1):=by rw[hw1];exact ad8 w0 T0.o
 have s1:Hid (aB w1 w1.heap.size 1 nM (.slice (some ⟨w0.heap.size,0,none⟩) 19 19) dI):=by
  have:=uC w0;rw[<-hw1] at this;have e:w1.heap.size=w0.heap.size+1:=by rw[hw1];simp
  rw[e];exact this
 have s3:Hid (aB w1 w1.heap.size 1 nM (.slice A3 p.texts.length n3) p.texts):=q3.below k01.o;have s2:Hid (aB w1 w1.heap.size 2 hU (.slice A2 p.consts.length n2) p.consts):=q2.below k01.o;have D1:=hI d1;have D2:=hI d2;have HW:=hI hw0;obtain⟨l1,l0⟩:p.texts.length<=n3/\n3<=maxLen:=(s3.o.len).2;unfold maxLen at l0;have hz1:w.heap.size<w1.heap.size:=Nat.lt_of_lt_of_le hz k1.o.size;clear q1 q2 q3 hw0 hw1 c0 ht d1;by_cases h19:p.texts.length<19
 ·have i19:(p.texts.length:Int)<19:=by omega
  have HR:Hid (false=r):=by rw[<-hr,decide_eq_false (by omega)];rfl
  clear hr h19;go_enter func59,ntmps59;go_wp2_with fail;rw[<-HW.o];refine C0.o.mono ?_;rintro e w' ⟨rfl,rfl⟩;go_wp2_with fail;go_ret;exact⟨by rw[<-HR.o];rfl,k01.o⟩
 have i19:decide ((p.texts.length:Int)<19)=false:=by simp;omega
 rw[decide_eq_true (by omega:19<=p.texts.length),Bool.true_and] at hr;have C1:Hid (Calls prog 81 #[.slice A3 19 n3,.slice (some ⟨w0.heap.size,0,none⟩) 19 19] w1 (aK (.bool (decide (p.texts.take 19=dI))) w1)):=by refine uS _ _ _ _ w1 ?_ s1.o;exact s3.o.take (by omega)
 have h19':19<=p.texts.length:=by omega
 obtain⟨q,hq⟩:∃q,decide (p.texts.take 19=dI)=q:=⟨_,rfl⟩;rw[hq] at C1 hr;clear hq;cases q
 ·have HR:Hid (false=r):=by rw[<-hr];rfl
  clear hr h19;go_enter func59,ntmps59;go_wp2_with fail;rw[<-HW.o];refine C0.o.mono ?_;rintro e w' ⟨rfl,rfl⟩;go_wp2_with fail;refine C1.o.mono ?_;rintro e w2 ⟨rfl,k2⟩;have K:=btZ k01 k2;clear k2;go_wp2_with fail;go_ret;exact⟨by rw[<-HR.o];rfl,K.o⟩
 rw[Bool.true_and] at hr;have HR:=hI hr;clear hr h19;have hmm:=@run_makeMap prog;go_enter func59,ntmps59;go_wp2_with fail;rw[<-HW.o];refine C0.o.mono ?_;rintro e w' ⟨rfl,rfl⟩;go_wp2_with fail;refine C1.o.mono ?_;rintro e w2 ⟨rfl,k2⟩;have K:=btZ k01 k2;have E1:=hI (aC k2 D1.o);have E2:=hI (aC k2 D2.o);have e1:=E1.o;have e2:=E2.o;have S2:=hI (s2.o.below k2);have S3:=hI (s3.o.below k2);have hz2:w.heap.size<w2.heap.size:=Nat.lt_of_lt_of_le hz1 k2.size;clear k2 d2;go_wp2_with fail;go_loopw [28] (λk wr=>∃kn:Nat,k=.int .i64 kn/\kn<=p.texts.length/\Hid ((p.texts.take kn).Nodup)/\Hid (wr.ownsMap prog 9 (plainElem prog 3) w2.heap.size kn (o6 (p.texts.take kn)))/\Hid (Below w2.heap.size w2 wr)) (λk _=>p.texts.length - (RowKit.intOf k).toNat);case atStart=>exact⟨0,rfl,by omega,by show(p.texts.take 0).Nodup;simp,World.ownsMap_made _ _ _ _,aA w2 _⟩
 case round=>
  obtain⟨kn,rfl,hk,KD,KO,KW⟩:=hrel
  clear e1 e2
  by_cases hlt:kn<p.texts.length
  ·obtain⟨b,off,x,cs,rfl,hb,hx0,hcl,hR,hat⟩:=S3.o.at_ hlt
   obtain⟨rfl,hxs⟩:=hR
   have hi1:(kn:Int)<p.texts.length:=by omega
   have g0:wr.cell? ⟨b,off+kn,none⟩=some (.string x):=(KW.o.cell hb).trans (by have:=hat 0 _ rfl;simpa using this)
   have HX:=hI hx0
   have hkey:=hI (keyOf_string_mk (P:=prog) (k:=9) underlying9 hxs)
   clear hx0 hat hcl
   by_cases hm:x∈p.texts.take kn
   ·have HM:=hI (yY hm)
    have HN:Hid (false=r):=by rw[<-HR.o,decide_eq_false (zA HX.o hm)];rfl
    clear hm
    go_wp2_with (first
     | (at_lookup;refine wpList_lookup_own_int _ rfl _ _ 205 rfl 9 3 .i64 tK underlying205 underlying3 (uY _) w2.heap.size kn _ rfl KO.o _ _ rfl hkey.o ?_;intro c hc hwc;obtain rfl:c=1:=lJ (hc.symm.trans HM.o);clear hc hwc)
     | fail)
    go_ret
    exact⟨by rw[<-HN.o];rfl,K.o.trans (KW.o.mono (Nat.le_of_lt hz2))⟩
   ·have HM:=hI (vV hm)
    have HN:=hI hm
    clear hm
    go_wp2_with (first
     | (at_lookup;refine wpList_lookup_own_int _ rfl _ _ 205 rfl 9 3 .i64 tK underlying205 underlying3 (uY _) w2.heap.size kn _ rfl KO.o _ _ rfl hkey.o ?_;intro c hc hwc;obtain rfl:c=0:=lJ (hc.symm.trans HM.o);clear hc hwc)
     | (at_mapUpdate;refine wpList_mapUpdate_own _ rfl _ _ _ 205 rfl 9 3 tK underlying205 _ w2.heap.size kn _ rfl KO.o (by unfold maxLen;omega) _ _ _ rfl rfl hkey.o _ [] (plainElem_int underlying3 (by decide)) ?_;intro w3 hown1 hgrow1)
     | fail)
    have R1:Hid (w3.ownsMap prog 9 (plainElem prog 3) w2.heap.size (kn+1) (o6 (p.texts.take (kn+1)))):=by rw[lU HX.o,rB];exact hown1
    have R2:=hI (KW.o.grown hgrow1 KW.o.size (λj hj=>by cases hj;exact Nat.le_refl _))
    clear hown1 hgrow1 g0
    go_wp2_with fail
    go_roundw
    case rel=>exact⟨kn+1,by go_num,by omega,rH KD.o HX.o HN.o,R1,R2⟩
    case measure=>simp[RowKit.intOf];omega
  ·have hke:kn=p.texts.length:=by omega
   have HN:Hid ((!p.consts.any (ahK p.texts.length))=r):=by
    have:=KD.o
    rw[hke,List.take_length] at this
    rw[<-HR.o,decide_eq_true this,Bool.true_and]
    exact rfl
   have g1:=aC KW.o E1.o
   have G2:=hI (aC KW.o E2.o)
   have CF:=hI (fY hU (ahK p.texts.length) A2 n2 p.consts 114 xA #[.pointer (some ⟨w.heap.size,0,none⟩)] wr (S2.o.below KW.o) (λw4 k4 x cs hx hR=>by
    obtain⟨rfl,-,-⟩:=hR
    exact afO x w.heap.size A3 p.texts.length n3 w4 (aC k4 G2.o)))
   have KZ:=hI (K.o.trans (KW.o.mono (Nat.le_of_lt hz2)))
   have hz3:w.heap.size<=wr.heap.size:=KZ.o.size
   clear hke
   go_wp2_with fail
   refine CF.o.mono ?_
   rintro e w5 ⟨rfl,k5⟩
   have KY:=hI (KZ.o.trans (k5.mono hz3))
   clear k5 g1
   go_wp2_with fail
   go_ret
   exact⟨by rw[<-HN.o];rfl,KY.o⟩
end
section
open Go.RowKit
def zH (p:aZ):Bool:=match p.fns with
 | []=>true
 | f::_=>decide (f.params≠0) || decide (0<f.caught.length) || f.gen
def bH (p:aZ):Int:=
 if oB p then 2 else if !pU p || zH p then 3 else if p.fns.any (λf=>!eH p f) then 3 else 0
theorem wJ {p:aZ} (h:oB p=false):p.texts.length<=200/\∀f∈p.fns,f.code.length<=600/\f.regs<=60:=by unfold oB at h;simp only[Bool.or_eq_false_iff,decide_eq_false_iff_not,List.any_eq_false] at h;obtain⟨⟨⟨⟨h1,h2⟩,h3⟩,h4⟩,h5⟩:=h;refine⟨by omega,λf hf=>?_⟩;have:=h5 f hf;simp only[Bool.or_eq_true,decide_eq_true_eq,not_or] at this;omega
theorem aj9 (q d:List Value) (p:aZ) (f:CFn) (g:Nat) (w:World) (x:fL w w.heap.size q p) (hf:FnR w w.heap.size d f) (J:f.code.length<=600) (y:f.regs<=60) (s:aJ w g q) : Calls prog 61 #[.agg ⟨d⟩,.pointer (some ⟨g,0,none⟩)] w (aK (.bool (!eH p f)) w):=by
 obtain⟨r,u⟩:∃r,eH p f=r:=⟨_,rfl⟩;obtain⟨w0,l⟩:∃w0,w0=w.alloc (.cells ⟨d⟩ 72):=⟨_,rfl⟩;have j:Hid (Below w.heap.size w w0):=by rw[l];exact aA w _
 have C:=hI (adK q d p f w0 (x.keep j.o.size (λ_ h=>j.o.cell h)) (hf.keep j.o.size (λ_ h=>j.o.cell h)) J y);rw[u] at C ⊢;have z:=hI l;clear u l;obtain⟨D,E,F,G,H,I,rfl,-⟩:=x;obtain⟨O,P,R,S,rfl,-⟩:=hf;have A:=s 0 _ rfl;have M:=s 1 _ rfl;have N:=s 2 _ rfl;have L:g<w.heap.size:=eL A;clear s;go_enter func61,ntmps61;go_wp2_with fail;rw[<-z.o];refine C.o.mono ?_;rintro e w1 ⟨rfl,v⟩;have K:=btZ j v;clear v;go_wp2_with fail;go_ret;exact⟨rfl,K.o⟩
theorem yI:∀args W,(callFunc 61 args).run prog W=.ok (.enter 61 args) W:=enters_of func61 (by kernel_rfl) rfl
end
section
open Go.RowKit
theorem uU (M:List Value) (p:aZ) (w:World) (hp:fL w w.heap.size M p) (ht:Tab w):Calls prog 29 #[.agg ⟨M⟩] w (aK (.int .i64 (bH p)) w):=by
 obtain⟨r,s⟩:∃r,bH p=r:=⟨_,rfl⟩;rw[s];unfold bH at s;have HP:=hI hp;obtain⟨A1,H,R,S,V,X,d8,q1,q2,q3⟩:=hp;obtain⟨w0,Y⟩:∃w0,w0=w.alloc (.cells ⟨M⟩ 26):=⟨_,rfl⟩;have G:Hid (Below w.heap.size w w0):=by rw[Y];exact aA w _
 have T0:Hid (Tab w0):=ht.below G.o;have hz:w.heap.size<w0.heap.size:=by rw[Y];simp
 have v:Hid (aJ w0 w.heap.size M):=by rw[Y];exact akV _ _ _
 have P0:Hid (fL w0 w0.heap.size M p):=HP.o.keep G.o.size (λ_ h=>G.o.cell h);have J:=hI (large_c M p w0 P0.o);have l1:p.fns.length<=9223372036854775807:=aM q1;have S1:Hid (aB w w.heap.size 5 (FnR w w.heap.size) (.slice A1 p.fns.length H) p.fns):=q1;subst d8;have N:=hI Y;clear q1 q2 q3 Y ht;obtain⟨q,Z⟩:∃q,oB p=q:=⟨_,rfl⟩;rw[Z] at J s;cases q
 case true=>
  have A:Hid (2=r):=by rw[<-s];rfl
  clear s Z;go_enter func29,ntmps29;go_wp2_with fail;rw[<-N.o];refine J.o.mono ?_;rintro e w' ⟨rfl,d⟩;have K:=btZ G d;clear d;go_wp2_with fail;go_ret;exact⟨by rw[<-A.o];rfl,K.o⟩
 rw[if_neg (by simp)] at s;have HL:=hI (wJ Z);have O:Hid (∀w1,Below w0.heap.size w0 w1->Calls prog 59 #[.agg #[.slice A1 p.fns.length H,.slice R p.consts.length S,.slice V p.texts.length X]] w1 (aK (.bool (pU p)) w1)):=λw1 d=> ahX _ p w1 (P0.o.keep d.size (λ_ h=>d.cell h)) (T0.o.below d) HL.o.1;obtain⟨q,d0⟩:∃q,pU p=q:=⟨_,rfl⟩;rw[d0] at O s;clear Z d0;cases q
 case false=>
  have A:Hid (3=r):=by rw[<-s];rfl
  clear s;go_enter func29,ntmps29;go_wp2_with fail;rw[<-N.o];refine J.o.mono ?_;rintro e w1 ⟨rfl,d⟩;have z:=aC d (v.o 0 _ rfl);have D:=aC d (v.o 1 _ rfl);have E:=aC d (v.o 2 _ rfl);have K:=btZ G d;have F:=hI (O.o w1 d);clear d;go_wp2_with fail;refine F.o.mono ?_;rintro e y ⟨rfl,l⟩;have u:=btZ K l;clear l z D E;go_wp2_with fail;go_ret;exact⟨by rw[<-A.o];rfl,u.o⟩
 rw[Bool.not_true,Bool.false_or] at s;obtain⟨fl,I⟩:∃fl,p.fns=fl:=⟨_,rfl⟩;cases fl with
 | nil=>
  have hh:zH p=true:=by unfold zH;rw[I]
  rw[hh] at s
  have A:Hid (3=r):=by rw[<-s];rfl
  have z1:p.fns.length=0:=by rw[I];rfl
  rw[z1] at O N v
  clear s I hh
  rw[z1]
  go_enter func29,ntmps29
  go_wp2_with fail
  rw[<-N.o]
  rw[z1] at J
  refine J.o.mono ?_
  rintro e w1 ⟨rfl,d⟩
  have z:=aC d (v.o 0 _ rfl)
  have D:=aC d (v.o 1 _ rfl)
  have E:=aC d (v.o 2 _ rfl)
  have K:=btZ G d
  have F:=hI (O.o w1 d)
  have L:=hI d
  clear d
  go_wp2_with fail
  refine F.o.mono ?_
  rintro e y ⟨rfl,l⟩
  have b0:=aC l z
  have u:=btZ K l
  clear l z D E
  go_wp2_with fail
  go_ret
  exact⟨by rw[<-A.o];rfl,u.o⟩
 | cons f fs=>
  have hh:zH p=(decide (f.params≠0) || decide (0<f.caught.length) || f.gen):=by unfold zH;rw[I]
  rw[hh] at s
  have h0:p.fns[0]? = some f:=by rw[I];rfl
  have d4:0<p.fns.length:=by rw[I];simp
  have f3:(0:Int)<p.fns.length:=by omega
  have z1:((p.fns.length:Int) == 0)=false:=by rw[beq_eq_false_iff_ne];omega
  have z2:¬(p.fns.length:Int)=0:=by omega
  obtain⟨b,j,x,cs,hA,hb,a4,e4,hR,d1⟩:=S1.o.at_ d4
  rw[h0] at a4
  injection a4 with a4
  subst a4
  subst hA
  obtain⟨A4,n4,A5,n5,rfl,q4,q5,v1,v2⟩:=hR
  have l4:=aM q4
  have P:=hI d1
  clear I h0 e4 d1 q4 q5 hh
  have CF:Hid (∀w1,Below w0.heap.size w0 w1->Calls prog 60 #[.slice (some ⟨b,j,none⟩) p.fns.length H,.func (.func 61) #[] #[.pointer (some ⟨w.heap.size,0,none⟩)]] w1 (aK (.bool (p.fns.any (λf=>!eH p f))) w1)):=λw1 d=>by
   have P1:=P0.o.keep d.size (λ_ h=>d.cell h)
   refine nJ (FnR w1 w1.heap.size) (λf=>!eH p f) _ H p.fns 61 yI _ w1 ?_ (λw4 k4 x cs hx hR=>?_)
   ·have a3:=btZ G d
    exact S1.o.keep a3.size (λ_ h=>a3.cell h) (λ_ _ h=>h.keep a3.size (λ_ h=>a3.cell h))
   ·exact aj9 _ cs p x w.heap.size w4 (P1.keep k4.size (λ_ h=>k4.cell h)) (hR.keep k4.size (λ_ h=>k4.cell h)) (HL.o.2 x hx).1 (HL.o.2 x hx).2 ((v.o.on d).on k4)
  have D0:Hid (w.cell? ⟨b,j,none⟩=some (.int .i64 f.params)):=by have:=P.o 0 _ rfl;simpa [Hid] using this
  have D2:Hid (w.cell? ⟨b,j+2,none⟩=some (.bool f.gen)):=by have:=P.o 2 _ rfl;simpa [Hid] using this
  have D3:Hid (w.cell? ⟨b,j+3,none⟩=some (.slice A4 f.caught.length n4)):=by have:=P.o 3 _ rfl;simpa [Hid] using this
  clear P
  by_cases h1:f.params=0
  case neg=>
   have g4:(f.params != 0)=true:=by simpa using h1
   have A:Hid (3=r):=by rw[<-s,decide_eq_true h1];rfl
   clear s
   go_enter func29,ntmps29
   go_wp2_with fail
   rw[<-N.o]
   refine J.o.mono ?_
   rintro e w1 ⟨rfl,d⟩
   have z:=aC d (v.o 0 _ rfl)
   have D:=aC d (v.o 1 _ rfl)
   have E:=aC d (v.o 2 _ rfl)
   have K:=btZ G d
   have F:=hI (O.o w1 d)
   have L:=hI d
   clear d
   go_wp2_with fail
   refine F.o.mono ?_
   rintro e y ⟨rfl,l⟩
   have b0:=aC l z
   have u:=btZ K l
   have K3:=btZ L l
   clear l z D E
   have c0:y.cell? ⟨b,j,none⟩=some (.int .i64 f.params):=(u.o.cell hb).trans D0.o
   have c2:y.cell? ⟨b,j+2,none⟩=some (.bool f.gen):=(u.o.cell hb).trans D2.o
   have c3:y.cell? ⟨b,j+3,none⟩=some (.slice A4 f.caught.length n4):=(u.o.cell hb).trans D3.o
   go_wp2_with fail
   go_ret
   exact⟨by rw[<-A.o];rfl,u.o⟩
  rw[h1] at D0
  rw[decide_eq_false (by simp[h1]:¬f.params≠0),Bool.false_or] at s
  by_cases h2:0<f.caught.length
  case pos=>
   have e3:(0:Int)<f.caught.length:=by omega
   have A:Hid (3=r):=by rw[<-s,decide_eq_true h2];rfl
   clear s
   go_enter func29,ntmps29
   go_wp2_with fail
   rw[<-N.o]
   refine J.o.mono ?_
   rintro e w1 ⟨rfl,d⟩
   have z:=aC d (v.o 0 _ rfl)
   have D:=aC d (v.o 1 _ rfl)
   have E:=aC d (v.o 2 _ rfl)
   have K:=btZ G d
   have F:=hI (O.o w1 d)
   have L:=hI d
   clear d
   go_wp2_with fail
   refine F.o.mono ?_
   rintro e y ⟨rfl,l⟩
   have b0:=aC l z
   have u:=btZ K l
   have K3:=btZ L l
   clear l z D E
   have c0:y.cell? ⟨b,j,none⟩=some (.int .i64 0):=(u.o.cell hb).trans D0.o
   have c2:y.cell? ⟨b,j+2,none⟩=some (.bool f.gen):=(u.o.cell hb).trans D2.o
   have c3:y.cell? ⟨b,j+3,none⟩=some (.slice A4 f.caught.length n4):=(u.o.cell hb).trans D3.o
   go_wp2_with fail
   go_ret
   exact⟨by rw[<-A.o];rfl,u.o⟩
  have e3:decide ((0:Int)<f.caught.length)=false:=decide_eq_false (by omega)
  rw[decide_eq_false h2,Bool.false_or] at s
  obtain⟨g,hg⟩:∃g,f.gen=g:=⟨_,rfl⟩
  rw[hg] at s D2
  cases g
  case true=>
   have A:Hid (3=r):=by rw[<-s];rfl
   clear s
   go_enter func29,ntmps29
   go_wp2_with fail
   rw[<-N.o]
   refine J.o.mono ?_
   rintro e w1 ⟨rfl,d⟩
   have z:=aC d (v.o 0 _ rfl)
   have D:=aC d (v.o 1 _ rfl)
   have E:=aC d (v.o 2 _ rfl)
   have K:=btZ G d
   have F:=hI (O.o w1 d)
   have L:=hI d
   clear d
   go_wp2_with fail
   refine F.o.mono ?_
   rintro e y ⟨rfl,l⟩
   have b0:=aC l z
   have u:=btZ K l
   have K3:=btZ L l
   clear l z D E
   have c0:y.cell? ⟨b,j,none⟩=some (.int .i64 0):=(u.o.cell hb).trans D0.o
   have c2:y.cell? ⟨b,j+2,none⟩=some (.bool true):=(u.o.cell hb).trans D2.o
   have c3:y.cell? ⟨b,j+3,none⟩=some (.slice A4 f.caught.length n4):=(u.o.cell hb).trans D3.o
   go_wp2_with fail
   go_ret
   exact⟨by rw[<-A.o];rfl,u.o⟩
  rw[if_neg (by simp)] at s
  clear hg
  obtain⟨q,Z⟩:∃q,p.fns.any (λf=>!eH p f)=q:=⟨_,rfl⟩
  rw[Z] at s CF
  clear Z
  cases q
  case true=>
   have A:Hid (3=r):=by rw[<-s];rfl
   clear s
   go_enter func29,ntmps29
   go_wp2_with fail
   rw[<-N.o]
   refine J.o.mono ?_
   rintro e w1 ⟨rfl,d⟩
   have z:=aC d (v.o 0 _ rfl)
   have D:=aC d (v.o 1 _ rfl)
   have E:=aC d (v.o 2 _ rfl)
   have K:=btZ G d
   have F:=hI (O.o w1 d)
   have L:=hI d
   clear d
   go_wp2_with fail
   refine F.o.mono ?_
   rintro e y ⟨rfl,l⟩
   have b0:=aC l z
   have u:=btZ K l
   have K3:=btZ L l
   clear l z D E
   have c0:y.cell? ⟨b,j,none⟩=some (.int .i64 0):=(u.o.cell hb).trans D0.o
   have c2:y.cell? ⟨b,j+2,none⟩=some (.bool false):=(u.o.cell hb).trans D2.o
   have c3:y.cell? ⟨b,j+3,none⟩=some (.slice A4 f.caught.length n4):=(u.o.cell hb).trans D3.o
   have CG:=hI (CF.o y K3.o)
   go_wp2_with fail
   refine CG.o.mono ?_
   rintro e w3 ⟨rfl,k3⟩
   have K4:=btZ u k3
   clear k3
   go_wp2_with fail
   go_ret
   exact⟨by rw[<-A.o];rfl,K4.o⟩
  case false=>
   have A:Hid (0=r):=by rw[<-s];rfl
   clear s
   go_enter func29,ntmps29
   go_wp2_with fail
   rw[<-N.o]
   refine J.o.mono ?_
   rintro e w1 ⟨rfl,d⟩
   have z:=aC d (v.o 0 _ rfl)
   have D:=aC d (v.o 1 _ rfl)
   have E:=aC d (v.o 2 _ rfl)
   have K:=btZ G d
   have F:=hI (O.o w1 d)
   have L:=hI d
   clear d
   go_wp2_with fail
   refine F.o.mono ?_
   rintro e y ⟨rfl,l⟩
   have b0:=aC l z
   have u:=btZ K l
   have K3:=btZ L l
   clear l z D E
   have c0:y.cell? ⟨b,j,none⟩=some (.int .i64 0):=(u.o.cell hb).trans D0.o
   have c2:y.cell? ⟨b,j+2,none⟩=some (.bool false):=(u.o.cell hb).trans D2.o
   have c3:y.cell? ⟨b,j+3,none⟩=some (.slice A4 f.caught.length n4):=(u.o.cell hb).trans D3.o
   have CG:=hI (CF.o y K3.o)
   go_wp2_with fail
   refine CG.o.mono ?_
   rintro e w3 ⟨rfl,k3⟩
   have K4:=btZ u k3
   clear k3
   go_wp2_with fail
   go_ret
   exact⟨by rw[<-A.o];rfl,K4.o⟩
end
end Go.Proofs.YtijihlcdhppfgaaGreatDoor
