/- A part of the walk. -/
import Derived.Test.YtijihlcdhppfgaaGreatDoorZH
import Derived.Test.YtijihlcdhppfgaaGreatDoorZG
set_option maxHeartbeats 16000000
set_option maxRecDepth 100000
set_option linter.all false
namespace Go.Proofs.YtijihlcdhppfgaaGreatDoor
open Tryz
section
open Go.RowKit
theorem afZ (cs:List Value) (x:cD) (B:Nat) (w0 w:World) (h:eM w0 B cs x):Calls prog 72 #[.agg ⟨cs⟩] w (aK (.bool (decide (30<x.frames.length))) w):=by
 obtain⟨f,rfl,hf,-⟩:=h;obtain⟨A,n,rfl,-⟩:=id hf;obtain⟨r,d⟩:∃r,decide (30<x.frames.length)=r:=⟨_,rfl⟩;rw[d];have g:Hid (decide ((30:Int)<x.frames.length)=r):=by rw[<-d];show decide _=decide _;congr 1;rw[eq_iff_iff];omega
 clear d hf;go_enter func72,ntmps72;go_wp2;go_ret;exact⟨by rw[<-g.o];rfl,aA _ _⟩
theorem ad2:∀args W,(callFunc 193 args).run prog W=.ok (.enter 193 args) W:=enters_of func193 (by kernel_rfl) rfl
theorem ad1:∀args W,(callFunc 194 args).run prog W=.ok (.enter 194 args) W:=enters_of func194 (by kernel_rfl) rfl
theorem afW:∀args W,(callFunc 72 args).run prog W=.ok (.enter 72 args) W:=enters_of func72 (by kernel_rfl) rfl
theorem ahE (s:ByteArray) (g:s.size<=9223372036854775807) (w:World):Calls prog 193 #[.string s] w (aK (.bool (decide (200<s.size))) w):=by
 obtain⟨r,d⟩:∃r,decide (200<s.size)=r:=⟨_,rfl⟩;rw[d];have f:Hid (decide ((200:Int)<s.size)=r):=by rw[<-d];show decide _=decide _;congr 1;rw[eq_iff_iff];omega
 clear d;go_enter func193,ntmps193;go_wp2;go_ret;exact⟨by rw[<-f.o];rfl,Below.refl _ _⟩
theorem ahD (cs:List Value) (c:bJ) (B:Nat) (w0 w:World) (h:hM w0 B cs c):Calls prog 194 #[.agg ⟨cs⟩] w (aK (.bool (decide (100<c.vals.length) && (c.kind != 7 || decide (600<c.vals.length)))) w):=by
 obtain⟨v,f,rfl,g,-⟩:=h;obtain⟨A,n,rfl,-⟩:=id g;clear g;by_cases h1:(100:Int)<c.vals.length
 ·rw[decide_eq_true (show 100<c.vals.length by omega),Bool.true_and];by_cases j:c.kind=7;·obtain⟨r,d⟩:∃r,(c.kind != 7 || decide (600<c.vals.length))=r:=⟨_,rfl⟩;rw[d];have l:Hid (decide ((600:Int)<c.vals.length)=r):=(by rw[<-d,j,bne_self_eq_false,Bool.false_or];show decide _=decide _;congr 1;rw[eq_iff_iff];omega);clear d;go_enter func194,ntmps194;go_wp2;go_ret;exact⟨by rw[<-l.o];rfl,aA _ _⟩
  ·rw[show(c.kind != 7)=true from bne_iff_ne.2 j,Bool.true_or];go_enter func194,ntmps194;go_wp2;go_ret;exact⟨rfl,aA _ _⟩
 ·rw[decide_eq_false (show ¬ 100<c.vals.length by omega),Bool.false_and];go_enter func194,ntmps194;go_wp2;go_ret;exact⟨rfl,aA _ _⟩
end
section
open Go.RowKit
def kI (w:World) (sb:Nat) (S:aP):Prop:=∃cs,aJ w sb cs/\sb<w.heap.size/\eB w w.heap.size cs S
theorem kI.below {w w':World} {f:Nat} {S:aP} (h:kI w f S) (k:Below w.heap.size w w'):kI w' f S:=by obtain⟨cs,h1,d,g⟩:=h;exact⟨cs,λi v j=>(k.cell d).trans (h1 i v j),Nat.lt_of_lt_of_le d k.size,g.below k⟩
theorem kI.parts {w:World} {A:Nat} {S:aP} (h:kI w A S):∃d f j l p q r u v x y z,aJ w A [.slice d S.cells.length f,.slice j S.shapes.length l,.slice p S.texts.length q,.slice r S.threads.length u,.slice v S.ends.length x,.slice y S.said.length z,.int .i64 S.asked,.int .i64 S.steps]/\A<w.heap.size/\ aB w w.heap.size 4 (hM w w.heap.size) (.slice d S.cells.length f) S.cells/\aB w w.heap.size 2 jG (.slice j S.shapes.length l) S.shapes/\aB w w.heap.size 1 nM (.slice p S.texts.length q) S.texts/\ aB w w.heap.size 5 (eM w w.heap.size) (.slice r S.threads.length u) S.threads/\aB w w.heap.size 3 yM (.slice v S.ends.length x) S.ends/\aB w w.heap.size 2 hU (.slice y S.said.length z) S.said:=by obtain⟨cs,h1,J,c,s,t,g,e,a,rfl,D,E,F,G,H,I,-⟩:=h;obtain⟨d,f,rfl,-⟩:=id D;obtain⟨j,l,rfl,-⟩:=id E;obtain⟨p,q,rfl,-⟩:=id F;obtain⟨r,u,rfl,-⟩:=id G;obtain⟨v,x,rfl,-⟩:=id H;obtain⟨y,z,rfl,-⟩:=id I;exact⟨d,f,j,l,p,q,r,u,v,x,y,z,h1,J,D,E,F,G,H,I⟩
theorem kI.kind {w:World} {B:Nat} {j:Option Addr} {q:Nat} {l:List bJ} (h:aB w B 4 (hM w B) (.slice j l.length q) l) {m:Nat} (r:m<l.length) : ∃b d,j=some ⟨b,d,none⟩/\b<B/\w.cell? ⟨b,d+m*4,none⟩=some (.int .i64 (((l[m]?).map (·.kind)).getD 0)):=by obtain⟨b,d,x,cs,rfl,hb,p,-,⟨v,f,rfl,-⟩,g⟩:=h.at_ r;refine⟨b,d,rfl,hb,?_⟩;rw[p];have:=g 0 _ rfl;simpa using this
theorem wY (v:Val) (S:aP) (D:Nat) (w:World) (h:kI w D S):Calls prog 140 #[.pointer (some ⟨D,0,none⟩),.agg #[.int .i64 v.kind,.int .i64 v.n]] w (aK (.bool (eU aF S v)) w):=by
 obtain⟨k,n⟩:=v;obtain⟨r,f⟩:∃r,eU aF S ⟨k,n⟩=r:=⟨_,rfl⟩;rw[f];unfold eU at f;dsimp only at f;obtain⟨q,I⟩:∃q,aF ⟨k,n⟩=q:=⟨_,rfl⟩;rw[I] at f;obtain⟨A0,X,A1,n1,A2,n2,A3,n3,A4,n4,A5,n5,Y,hb,M,s1,Z,-⟩:=h.parts;have lc:=aM M;have lt:=aM Z;have L:=hI Y;have S0:=hI M;obtain⟨w0,l⟩:∃w0,w0=w.alloc (.cells #[.int .i64 k,.int .i64 n] 51):=⟨_,rfl⟩;have C:Hid (Calls prog 64 #[.agg #[.int .i64 k,.int .i64 n]] w0 (aK (.bool q) w0)):=by rw[<-I];exact u9 ⟨k,n⟩ w0
 have u:Hid (Below w.heap.size w w0):=by rw[l];exact aA w _
 have O:w0.cell? ⟨w.heap.size,0,none⟩=some (.int .i64 k):=by rw[l];exact cA _ _ _ _
 have P:w0.cell? ⟨w.heap.size,1,none⟩=some (.int .i64 n):=by rw[l];exact cA _ _ _ _
 have G:=hI O;have H:=hI P;have x:=hI l;have HQ:=hI I;clear l I Y M s1 Z h O P;cases q
 ·have g:Hid (false=r):=by rw[<-f];rfl
  clear f;go_enter func140,ntmps140;go_wp2_with fail;rw[<-x.o];refine C.o.mono ?_;rintro e w1 ⟨rfl,d⟩;have K:=btZ u d;clear d;go_wp2_with fail;go_ret;exact⟨by rw[<-g.o];rfl,K.o⟩
 rw[Bool.true_and] at f;by_cases p:k=4
 ·rw[if_pos p] at f;have g:Hid (decide (n<S.texts.length)=r):=f;subst p;clear f;go_enter func140,ntmps140;go_wp2_with fail;rw[<-x.o];refine C.o.mono ?_;rintro e w1 ⟨rfl,d⟩;have K:=btZ u d;have s:=aC d G.o;have g1:=aC d H.o;have y:∀E:Up w1,E.to.cell? ⟨w.heap.size,1,none⟩=some (.int .i64 n):=λE=>E.cell (aC d H.o);have z:∀E:Up w1,E.to.cell? ⟨D,2,none⟩=some (.slice A2 S.texts.length n2):=λE=>E.cell ((K.o.cell hb).trans (L.o 2 _ rfl));clear d;go_wp2_with fail;refine aD (by kernel_rfl) (by kernel_rfl) ?_;repeat (go_big_quiet_step (fail))
  refine wpQuiet_nil ?_;rintro _ ⟨E,rfl⟩;have A:=btZ K E.below;clear y z s g1;go_wp2_with fail;go_ret;exact⟨by rw[<-g.o];rfl,A.o⟩
 rw[if_neg p] at f;by_cases F:k=5
 ·rw[if_pos F] at f;subst F;have R:0<=n:=by have:=HQ.o;unfold aF at this;simpa using this
  obtain⟨m,rfl⟩:=Int.eq_ofNat_of_zero_le R;by_cases hm:m<S.cells.length
  ·have j:(m:Int)<S.cells.length:=(by omega);obtain⟨b,J,rfl,a0,N⟩:=kI.kind S0.o hm;have g:Hid ((oC S m != 0)=r):=(by rw[<-f];unfold Hid;rw[decide_eq_true j,Bool.true_and]);have V:(((S.cells[m]?).map (·.kind)).getD 0)=oC S m:=(by unfold oC;rw[Int.toNat_natCast]);rw[V] at N;have HC:=hI N;have hd:decide ((m:Int)<S.cells.length)=true:=decide_eq_true j;clear f p V N;go_enter func140,ntmps140;go_wp2_with fail;rw[<-x.o];refine C.o.mono ?_;rintro e w1 ⟨rfl,d⟩;have K:=btZ u d;have s:=aC d G.o;have y:∀E:Up w1,E.to.cell? ⟨w.heap.size,1,none⟩=some (.int .i64 m):=λE=>E.cell (aC d H.o);have z:∀E:Up w1,E.to.cell? ⟨D,0,none⟩=some (.slice (some ⟨b,J,none⟩) S.cells.length X):=λE=>E.cell ((K.o.cell hb).trans (L.o 0 _ rfl));have d3:∀E:Up w1,E.to.cell? ⟨b,J+m*4,none⟩=some (.int .i64 (oC S m)):=λE=>E.cell ((K.o.cell a0).trans HC.o);clear d;go_wp2_with fail;refine aD (by kernel_rfl) (by kernel_rfl) ?_;repeat (go_big_quiet_step (fail))
   refine wpQuiet_nil ?_;rintro _ ⟨E,rfl⟩;have A:=btZ K E.below;clear y z d3 s;go_wp2_with fail;go_ret;exact⟨by rw[<-g.o];rfl,A.o⟩
  ·have j:¬(m:Int)<S.cells.length:=(by omega);have g:Hid (false=r):=(by rw[<-f];unfold Hid;rw[decide_eq_false j,Bool.false_and]);have hd:decide ((m:Int)<S.cells.length)=false:=decide_eq_false j;clear f p;go_enter func140,ntmps140;go_wp2_with fail;rw[<-x.o];refine C.o.mono ?_;rintro e w1 ⟨rfl,d⟩;have K:=btZ u d;have s:=aC d G.o;have y:∀E:Up w1,E.to.cell? ⟨w.heap.size,1,none⟩=some (.int .i64 m):=λE=>E.cell (aC d H.o);have z:∀E:Up w1,E.to.cell? ⟨D,0,none⟩=some (.slice A0 S.cells.length X):=λE=>E.cell ((K.o.cell hb).trans (L.o 0 _ rfl));clear d;go_wp2_with fail;refine aD (by kernel_rfl) (by kernel_rfl) ?_;repeat (go_big_quiet_step (fail))
   refine wpQuiet_nil ?_;rintro _ ⟨E,rfl⟩;have A:=btZ K E.below;clear y z s;go_wp2_with fail;go_ret;exact⟨by rw[<-g.o];rfl,A.o⟩
 rw[if_neg F] at f;have g:Hid (true=r):=f;have n4:(k == 4)=false:=by simpa using p
 have n5:(k == 5)=false:=by simpa using F
 clear f p F;go_enter func140,ntmps140;go_wp2_with fail;rw[<-x.o];refine C.o.mono ?_;rintro e w1 ⟨rfl,d⟩;have K:=btZ u d;have s:=aC d G.o;clear d;go_wp2_with fail;go_ret;exact⟨by rw[<-g.o];rfl,K.o⟩
end
section
open Go.RowKit
theorem ae2 (v:Val) (S:aP) (f:Nat) (w:World) (h:kI w f S):Calls prog 206 #[.pointer (some ⟨f,0,none⟩),.agg #[.int .i64 v.kind,.int .i64 v.n]] w (aK (.bool (eU aF S v)) w):=by
 obtain⟨w0,d⟩:∃w0,w0=w.alloc (.cells #[.int .i64 v.kind,.int .i64 v.n] 51):=⟨_,rfl⟩;have g:Hid (Below w.heap.size w w0):=by rw[d];exact aA w _
 have C:=hI (wY v S f w0 (h.below g.o));have l:=hI d;clear d h;go_enter func206,ntmps206;go_wp2_with fail;rw[<-l.o];refine C.o.mono ?_;rintro e w1 ⟨rfl,j⟩;have K:=btZ g j;clear j;go_wp2_with fail;go_ret;exact⟨rfl,K.o⟩
theorem agQ {S:aP} {k n:Int} (h:eU aF S ⟨k,n⟩=true) (g:k=5):∃m:Nat,n=m/\m<S.cells.length:=by
 subst g;unfold eU at h;simp only[Bool.and_eq_true] at h;obtain⟨h1,f⟩:=h;unfold aF at h1;have j:0<=n:=by simpa using h1
 have d:=f;simp at d;exact⟨n.toNat,by omega,by omega⟩
theorem cis_c (v:Val) (kind:Int) (S:aP) (p:Nat) (w:World) (h:kI w p S):Calls prog 144 #[.pointer (some ⟨p,0,none⟩),.agg #[.int .i64 v.kind,.int .i64 v.n],.int .i64 kind] w (aK (.bool (sI aF S v kind)) w):=by
 obtain⟨k,n⟩:=v;obtain⟨r,j⟩:∃r,sI aF S ⟨k,n⟩ kind=r:=⟨_,rfl⟩;rw[j];unfold sI at j;obtain⟨q,s⟩:∃q,eU aF S ⟨k,n⟩=q:=⟨_,rfl⟩;rw[s] at j;obtain⟨N,O,Y,Z,A2,n2,A3,n3,A4,n4,A5,n5,A,hb,D,-⟩:=h.parts;have V:=aM D;have X:=hI A;have S0:=hI D;obtain⟨w0,d⟩:∃w0,w0=w.alloc (.cells #[.int .i64 k,.int .i64 n] 51):=⟨_,rfl⟩;have f:Hid (Below w.heap.size w w0):=by rw[d];exact aA w _
 have C:Hid (∀E:Up w0,Calls prog 140 #[.pointer (some ⟨p,0,none⟩),.agg #[.int .i64 k,.int .i64 n]] E.to (aK (.bool q) E.to)):=λE=>by rw[<-s];exact wY ⟨k,n⟩ S p E.to ((h.below f.o).below E.below)
 have u:∀E:Up w0,E.to.cell? ⟨w.heap.size,0,none⟩=some (.int .i64 k):=λE=>E.cell (by rw[d];exact cA _ _ _ _);have x:∀E:Up w0,E.to.cell? ⟨w.heap.size,1,none⟩=some (.int .i64 n):=λE=>E.cell (by rw[d];exact cA _ _ _ _);have y:∀E:Up w0,E.to.cell? ⟨p,0,none⟩=some (.slice N S.cells.length O):=λE=>E.cell ((f.o.cell hb).trans (A 0 _ rfl));have K:=hI d;have L:=hI s;have z:=hI j;clear d s A D h j;go_enter func144,ntmps144;go_wp2_with fail;rw[<-K.o];refine aD (by kernel_rfl) (by kernel_rfl) ?_;repeat (go_big_quiet_step ((go_at_call 140;with_reducible exact Calls.up (C.o _))))
 cases q
 case false=>
  repeat (go_big_quiet_step (fail))
  refine wpQuiet_nil ?_;rintro _ ⟨E,rfl⟩;have g:=btZ f E.below;clear u x y;go_wp2_with fail;go_ret;exact⟨by rw[<-z.o];rfl,g.o⟩
 repeat (go_big_quiet_step (fail))
 obtain⟨P,l⟩:∃b:Bool,(k == 5)=b:=⟨_,rfl⟩;rw[l];cases P
 case false=>
  repeat (go_big_quiet_step (fail))
  refine wpQuiet_nil ?_;rintro _ ⟨E,rfl⟩;have g:=btZ f E.below;clear u x y;go_wp2_with fail;go_ret;exact⟨by rw[<-z.o,l];rfl,g.o⟩
 obtain rfl:k=5:=by simpa using l
 obtain⟨m,rfl,H⟩:=agQ L.o rfl;obtain⟨b,I,rfl,J,F⟩:=kI.kind S0.o H;have G:(((S.cells[m]?).map (·.kind)).getD 0)=oC S m:=by unfold oC;rw[Int.toNat_natCast]
 rw[G] at F;have M:∀E:Up w0,E.to.cell? ⟨b,I+m*4,none⟩=some (.int .i64 (oC S m)):=λE=>E.cell ((f.o.cell J).trans F);have R:(m:Int)<S.cells.length:=by omega
 clear F G H;repeat (go_big_quiet_step (fail))
 refine wpQuiet_nil ?_;rintro _ ⟨E,rfl⟩;have g:=btZ f E.below;clear u x y M;go_wp2_with fail;go_ret;exact⟨by rw[<-z.o];rfl,g.o⟩
end
section
open Go.RowKit
theorem agX:∀args W,(callFunc 241 args).run prog W=.ok (.enter 241 args) W:=enters_of func241 (by kernel_rfl) rfl
theorem adQ:∀args W,(callFunc 199 args).run prog W=.ok (.enter 199 args) W:=enters_of func199 (by kernel_rfl) rfl
theorem adP:∀args W,(callFunc 203 args).run prog W=.ok (.enter 203 args) W:=enters_of func203 (by kernel_rfl) rfl
theorem ajV:∀args W,(callFunc 135 args).run prog W=.ok (.enter 135 args) W:=enters_of func135 (by kernel_rfl) rfl
theorem ajU:∀args W,(callFunc 137 args).run prog W=.ok (.enter 137 args) W:=enters_of func137 (by kernel_rfl) rfl
theorem ajT:∀args W,(callFunc 139 args).run prog W=.ok (.enter 139 args) W:=enters_of func139 (by kernel_rfl) rfl
theorem ajS:∀args W,(callFunc 142 args).run prog W=.ok (.enter 142 args) W:=enters_of func142 (by kernel_rfl) rfl
theorem all1_c (v:Val) (S:aP) (f g:Nat) (w:World) (h:kI w f S) (q:w.cell? ⟨g,0,none⟩=some (.pointer (some ⟨f,0,none⟩))) : Calls prog 241 #[.agg #[.int .i64 v.kind,.int .i64 v.n],.pointer (some ⟨g,0,none⟩)] w (aK (.bool (!eU aF S v)) w):=by
 obtain⟨w0,d⟩:∃w0,w0=w.alloc (.cells #[.int .i64 v.kind,.int .i64 v.n] 51):=⟨_,rfl⟩;have j:Hid (Below w.heap.size w w0):=by rw[d];exact aA w _
 have C:=hI (wY v S f w0 (h.below j.o));have l:=hI d;have hl:g<w.heap.size:=eL q;clear d h;go_enter func241,ntmps241;go_wp2_with fail;rw[<-l.o];refine C.o.mono ?_;rintro e w1 ⟨rfl,p⟩;have K:=btZ j p;go_wp2_with fail;go_ret;exact⟨rfl,K.o⟩
theorem akD (A:Option Addr) (f:Nat) (l:List Val) (S:aP) (j:Nat) (w:World) (h:kI w j S) (q:aB w w.heap.size 2 hU (.slice A l.length f) l) : Calls prog 201 #[.pointer (some ⟨j,0,none⟩),.slice A l.length f] w (aK (.bool (oK aF S l)) w):=by
 obtain⟨w0,d⟩:∃w0,w0=w.alloc (.cells #[.pointer (some ⟨j,0,none⟩)] 154):=⟨_,rfl⟩;have p:Hid (Below w.heap.size w w0):=by rw[d];exact aA w _
 have C:=hI (fY hU (λv=>!eU aF S v) A f l 241 agX #[.pointer (some ⟨w.heap.size,0,none⟩)] w0 (q.below p.o) (λw1 g x cs y u=>by obtain⟨rfl,-⟩:=u;exact all1_c x S j w.heap.size w1 ((h.below p.o).below g) (aC g (by rw[d];exact cA _ _ _ _))));have r:Hid ((!l.any λv=>!eU aF S v)=oK aF S l):=by unfold oK Hid;rw[List.all_eq_not_any_not]
 have s:=hI d;clear d h q;go_enter func201,ntmps201;go_wp2_with fail;rw[<-s.o];refine C.o.mono ?_;rintro e w1 ⟨rfl,g⟩;have K:=btZ p g;go_wp2_with fail;go_ret;exact⟨by rw[<-r.o];rfl,K.o⟩
theorem cell1_c (v:Val) (S:aP) (f g:Nat) (w:World) (h:kI w f S) (q:w.cell? ⟨g,0,none⟩=some (.pointer (some ⟨f,0,none⟩))) : Calls prog 199 #[.agg #[.int .i64 v.kind,.int .i64 v.n],.pointer (some ⟨g,0,none⟩)] w (aK (.bool (!sI aF S v 3)) w):=by
 obtain⟨w0,d⟩:∃w0,w0=w.alloc (.cells #[.int .i64 v.kind,.int .i64 v.n] 51):=⟨_,rfl⟩;have j:Hid (Below w.heap.size w w0):=by rw[d];exact aA w _
 have C:=hI (cis_c v 3 S f w0 (h.below j.o));have l:=hI d;have hl:g<w.heap.size:=eL q;clear d h;go_enter func199,ntmps199;go_wp2_with fail;rw[<-l.o];refine C.o.mono ?_;rintro e w1 ⟨rfl,p⟩;have K:=btZ j p;go_wp2_with fail;go_ret;exact⟨rfl,K.o⟩
theorem cell2_c (cs:List Value) (f:bC) (S:aP) (l u:Nat) (w:World) (hf:dD w w.heap.size cs f) (h:kI w l S) (I:w.cell? ⟨u,0,none⟩=some (.pointer (some ⟨l,0,none⟩))) : Calls prog 203 #[.agg ⟨cs⟩,.pointer (some ⟨u,0,none⟩)] w (aK (.bool (!jN aF S f)) w):=by
 obtain⟨rv,G,rfl,y,-⟩:=hf;obtain⟨r,d⟩:∃r,(!jN aF S f)=r:=⟨_,rfl⟩;rw[d];unfold jN at d;obtain⟨A,s,rfl,-⟩:=id y;obtain⟨w0,j⟩:∃w0,w0=w.alloc (.cells #[.int .i64 f.fn,.int .i64 f.at_,.int .i64 f.tos,.int .i64 f.gen,.int .i64 f.self.kind,.int .i64 f.self.n,.slice A f.regs.length s,G] 145):=⟨_,rfl⟩;have p:Hid (Below w.heap.size w w0):=by rw[j];exact aA w _
 have z:=hI (akD A s f.regs S l w0 (h.below p.o) (y.below p.o));have D:Hid (∀w1,Below w0.heap.size w0 w1->Calls prog 140 #[.pointer (some ⟨l,0,none⟩),.agg #[.int .i64 f.self.kind,.int .i64 f.self.n]] w1 (aK (.bool (eU aF S f.self)) w1)):=λw1 k=>wY f.self S l w1 ((h.below p.o).below k);obtain⟨q1,v⟩:∃q,oK aF S f.regs=q:=⟨_,rfl⟩;obtain⟨V,x⟩:∃q,eU aF S f.self=q:=⟨_,rfl⟩;rw[v] at z d;rw[x] at D d;have E:Hid (aJ w0 w.heap.size [.int .i64 f.fn,.int .i64 f.at_,.int .i64 f.tos,.int .i64 f.gen,.int .i64 f.self.kind,.int .i64 f.self.n,.slice A f.regs.length s,G]):=by rw[j];exact akV _ _ _
 have J:Hid (w0.cell? ⟨u,0,none⟩=some (.pointer (some ⟨l,0,none⟩))):=aC p.o I;have L:=hI j;have F:=hI d;have hl:u<w.heap.size:=eL I;clear j h y v x d;go_enter func203,ntmps203;go_wp2_with fail;rw[<-L.o];refine z.o.mono ?_;rintro e w1 ⟨rfl,g⟩;have M:=hI g;have K:=btZ p g;cases q1;case false=>clear g;go_wp2_with fail;go_ret;exact⟨by rw[<-F.o];rfl,K.o⟩
 have N:=(E.o.on g) 4 _ rfl;have O:=(E.o.on g) 5 _ rfl;have P:=aC g J.o;clear g;go_wp2_with fail;refine(D.o w1 M.o).mono ?_;rintro e X ⟨rfl,H⟩;have R:=btZ K H;clear H N O P;go_wp2_with fail;go_ret;exact⟨by rw[<-F.o];rfl,R.o⟩
theorem ck1_c (x:aO) (S:aP) (d:Nat) (w:World) (h:kI w d S) : Calls prog 135 #[.agg #[.int .i64 x.up,.int .i64 x.name],.pointer (some ⟨d,0,none⟩)] w (aK (.bool (decide ((S.texts.length:Int)<=x.name))) w):=by obtain⟨r,s,u,v,j,l,y,z,A,D,E,F,f,hb,p,s1,g,-⟩:=h.parts;have lt:=aM g;have q:=f 2 _ rfl;clear f h p s1 g;go_enter func135,ntmps135;go_wp2_with fail;go_ret;exact⟨rfl,aA _ _⟩
theorem ck3_c (v:Val) (S:aP) (j:Nat) (w:World) (h:kI w j S) : Calls prog 139 #[.agg #[.int .i64 v.kind,.int .i64 v.n],.pointer (some ⟨j,0,none⟩)] w (aK (.bool (v.kind != 4 || !eU aF S v)) w):=by
 obtain⟨r,d⟩:∃r,(v.kind != 4 || !eU aF S v)=r:=⟨_,rfl⟩;rw[d];obtain⟨w0,f⟩:∃w0,w0=w.alloc (.cells #[.int .i64 v.kind,.int .i64 v.n] 51):=⟨_,rfl⟩;have p:Hid (Below w.heap.size w w0):=by rw[f];exact aA w _
 have C:=hI (wY v S j w0 (h.below p.o));have q:=hI f;clear f h;by_cases l:v.kind=4;·rw[l] at q C d ⊢;have g:Hid ((!eU aF S v)=r):=d;clear d l;go_enter func139,ntmps139;go_wp2_with fail;rw[<-q.o];refine C.o.mono ?_;rintro e w1 ⟨rfl,s⟩;have K:=btZ p s;clear s;go_wp2_with fail;go_ret;exact⟨by rw[<-g.o];rfl,K.o⟩
 ·have g:Hid (true=r):=by rw[<-d];unfold Hid;rw[show(v.kind != 4)=true from bne_iff_ne.2 l];rfl
  clear d;go_enter func139,ntmps139;go_wp2_with fail;go_ret;exact⟨by rw[<-g.o];rfl,aA _ _⟩
theorem ck4_c (x:ad6) (S:aP) (j:Nat) (w:World) (h:kI w j S) : Calls prog 142 #[.agg #[.int .i64 x.cell,.int .i64 x.fn.kind,.int .i64 x.fn.n],.pointer (some ⟨j,0,none⟩)] w (aK (.bool (!adR aF S x)) w):=by
 obtain⟨r,d⟩:∃r,(!adR aF S x)=r:=⟨_,rfl⟩;rw[d];unfold adR at d;obtain⟨w0,f⟩:∃w0,w0=w.alloc (.cells #[.int .i64 x.cell,.int .i64 x.fn.kind,.int .i64 x.fn.n] 178):=⟨_,rfl⟩;have g:Hid (Below w.heap.size w w0):=by rw[f];exact aA w _
 obtain⟨I,J,M,N,O,P,R,V,X,Y,Z,n5,z,hb,A,-⟩:=h.parts;have K:=aM A;have p:=z 0 _ rfl;have C:=hI (cis_c x.fn 4 S j w0 (h.below g.o));obtain⟨q1,l⟩:∃q,aL x.cell 0 ((S.cells.length:Int) - 1)=q:=⟨_,rfl⟩;have s:=hI (qE x.cell 0 ((S.cells.length:Int) - 1) w0);rw[l] at s d;have E:=hI f;have u:=hI d;have v:=aC g.o p;have L:=hI v;have y:Hid (aJ w0 w.heap.size [.int .i64 x.cell,.int .i64 x.fn.kind,.int .i64 x.fn.n]):=by rw[f];exact akV _ _ _
 clear f h z A l d v;go_enter func142,ntmps142;go_wp2_with fail;rw[<-E.o];refine s.o.mono ?_;rintro e w1 ⟨rfl,rfl⟩;cases q1;case false=>go_wp2_with fail;go_ret;exact⟨by rw[<-u.o];rfl,g.o⟩
 have F:=y.o 1 _ rfl;have G:=y.o 2 _ rfl;clear p;go_wp2_with fail;refine C.o.mono ?_;rintro e w2 ⟨rfl,D⟩;have H:=btZ g D;clear D F G;go_wp2_with fail;go_ret;exact⟨by rw[<-u.o];rfl,H.o⟩
end
section
open Go.RowKit
section
variable {P:Program} {ops:Array Oper} {md:Region.Mode} {C:World->Prop} {Q:Exit->Act->World->Prop}
def mF (o:Oper):Bool:=match o.op with
 | .move _ | .assign _ | .pick _ _ _ | .build _ _ | .load _ _ | .binOp _ _ _ _ _ | .unOp _ _ _ | .convert _ _ _ | .fieldAddr _ _ _ | .field _ _ _ | .indexAddr _ _ _ | .index _ _ _ | .extract _ _ | .slice _ _ _ _ _ | .lookup _ _ _ _=>true
 | .nilCheck _=>true
 | .call c=>match c.callee with | .builtin .len=>true | .builtin .cap=>true | .builtin .min=>true | .builtin .max=>true | _=>false
 | _=>false
def dU (P:Program) (ops:Array Oper) (C:World->Prop) (o:Oper) (v:Value) (a:Act):Prop:=
 (Region.wanted o (yielded ops a.tmps)=true/\∀w,C w->(execOp a.eval o).run P w=.ok (.value v) w)\/(Region.wanted o (yielded ops a.tmps)=false/\v=undef)
theorem pB {α β : Type} {s:Sem α} {f : α->Sem β} {P:Program} {w w':World} {n : β} (h:(s >>= f).run P w=.ok n w'):∃u w1,s.run P w=.ok u w1/\(f u).run P w1=.ok n w':=by
 rw[Sem.run_bind] at h;cases d:s.run P w with
 | ok u w1=>rw[d] at h;exact⟨u,w1,rfl,h⟩
 | halt x w1=>rw[d] at h;cases h
theorem run_v {s:Sem Value} {P:Program} {w w':World} {n:Next} (h:((do pure (Next.value (<-s))):Sem Next).run P w=.ok n w'):∃u,n=.value u:=by
 simp only[Sem.run_bind,Sem.run_pure] at h;cases d:s.run P w with
 | ok u w1=>rw[d] at h;simp only[Result.andThen_ok] at h;injection h with h1 f;exact⟨u,h1.symm⟩
 | halt x w1=>rw[d] at h;cases h
theorem xZ {o:Oper} (d:mF o=true) {ρ : Operand->Value} {w w':World} {n:Next} (h:(execOp ρ o).run P w=.ok n w'):∃u,n=.value u:=by
 obtain⟨q,op,p,pos,j,l⟩:=o;cases op <;> simp only[mF] at d <;> (first | (cases d;done) | skip) <;> simp only[execOp] at h;case move=>simp only[Sem.run_pure] at h;injection h with h;exact⟨_,h.symm⟩
 case assign=>simp only[Sem.run_pure] at h;injection h with h;exact⟨_,h.symm⟩
 case pick c x y=>
  simp only[Sem.run_bind,Sem.run_pure] at h
  cases g:(asBool (ρ c)).run P w with
  | ok u w1=>rw[g] at h;simp only[Result.andThen_ok] at h;injection h with h1 E;exact⟨_,h1.symm⟩
  | halt x w1=>rw[g] at h;cases h
 case nilCheck x=>
  split at h;·exact absurd h (by simp[go_sem])
  ·exact absurd h (by simp[go_sem])
  ·exact absurd h (by simp[go_sem])
  ·split at h;·exact absurd h (by simp[go_sem])
   ·obtain⟨s,w1,-,h⟩:=pB h;obtain⟨v,z,-,h⟩:=pB h;split at h;·obtain⟨A,D,-,h⟩:=pB h;simp only[Sem.run_pure] at h;injection h with h;exact⟨_,h.symm⟩
    ·simp only[Sem.run_pure] at h;injection h with h;exact⟨_,h.symm⟩
   ·simp only[Sem.run_pure] at h;injection h with h;exact⟨_,h.symm⟩
  ·simp only[Sem.run_pure] at h;injection h with h;exact⟨_,h.symm⟩
 case call c=>
  obtain⟨callee,args,argTypes⟩:=c
  cases callee with
  | builtin b=>
   simp only[Sem.run_bind,resolve,Sem.run_pure,Result.andThen_ok,invoke] at h
   cases b <;> simp only[] at d <;> (first | (cases d;done) | exact run_v h)
  | value f=>simp only[] at d;cases d
  | invoke r m=>simp only[] at d;cases d
 all_goals exact run_v h
theorem dU.of_same {o:Oper} {v:Value} {a d:Act} (f:dU P ops C o v a) (g:execOp d.eval o=execOp a.eval o) (h:Region.wanted o (yielded ops d.tmps)=Region.wanted o (yielded ops a.tmps)):dU P ops C o v d:=by unfold dU at *;rw[g,h];exact f
theorem akX {o:Oper} {v:Value} {a:Act} (j:mF o=true) (l:YieldsIn P ops C o v a):dU P ops C o v a:=by
 rcases l with ⟨h1,p⟩ | h
 ·refine .inl ⟨h1,λw g=>?_⟩
  have d:=p w g
  unfold Oper.quietAt at d
  cases f:(execOp a.eval o).run P w with
  | ok n w'=>
   rw[f] at d
   obtain⟨u,rfl⟩:=xZ j f
   simp only[Oper.quietUpon] at d
   rw[d.1,d.2]
  | halt x w'=>rw[f] at d;exact d.elim
 ·exact .inr h
theorem dU.wpOp {i:Nat} {o:Oper} {v:Value} {a:Act} (hi:ops[i]? = some o) (f:dU P ops C o v a) {K:Act->World->Prop} {w:World} (g:C w) (h:K (a.put o.dst v) w):wpOp P ops Q i K a w:=by
 unfold Go.wpOp;simp only[hi];rcases f with ⟨d,j⟩ | ⟨d,rfl⟩;·simp only[d,if_true,Oper.wp,j w g,Oper.upon];exact .inl h
 ·simp only[d,Bool.false_eq_true,if_false];exact h
theorem sX {j:Nat} {g l:Oper} {v:Value} (M:ops[j]? = some l) (I:g.apart ops l=true) (J:∀cs b,g.op≠.select cs b) (D:∀cs b,l.op≠.select cs b) (L:∀c a w,Q (.panic c) (a.put g.dst v) w->Q (.panic c) a w) {K:Act->World->Prop} {a:Act} {w:World} (p:dU P ops C g v a) (h:wpOp P ops Q j K (a.put g.dst v) w) : wpOp P ops Q j (λG w'=>dU P ops C g v G/\K (G.put g.dst v) w') a w:=by
 obtain⟨h1,s,F⟩:=Oper.apart_spec I;have keep:∀(a:Act),dU P ops C g v a->∀u,dU P ops C g v (a.put l.dst u):=λa p u=> p.of_same (execOp_put g J a l.dst u F) (wanted_put g a l.dst u F);have z:∀d,dU P ops C g v { a with defers:=d::a.defers }:=λd=>p.of_same rfl rfl;unfold wpOp at *;simp only[M] at *;rw[wanted_put l a g.dst v h1] at h;split
 ·rename_i E;simp only[E,if_true] at h;rcases h with h | ⟨q,A⟩;case inr=>exact .inr ⟨by unfold Oper.asks at *;rw[execOp_put l D a g.dst v h1] at q;exact q,A⟩
  refine .inl ?_;unfold Oper.wp at *;rw[execOp_put l D a g.dst v h1] at h;generalize (execOp a.eval l).run P w=r at *;cases r with
  | ok n w'=>
   cases n <;> simp only[Oper.upon] at h ⊢
   case value u=>exact⟨keep a p u,by rw[<-Act.put_comm a v u s];exact h⟩
   case skip=>exact⟨keep a p _,by rw[<-Act.put_comm a v undef s];exact h⟩
   case defer d=>
    refine⟨keep _ (z d) _,?_⟩
    rw[<-Act.put_comm _ v undef s,<-Act.put_defers]
    exact h
   case enter f args=>
    refine Calls.mono h λe H y=>?_
    cases e with
    | returned u=>exact⟨keep a p u,by rw[<-Act.put_comm a v u s];exact y⟩
    | panicked c=>exact L _ _ _ y
    | outgrown=>exact y
   case row row args=>exact Rows.mono h λu H y=>⟨keep a p u,by rw[<-Act.put_comm a v u s];exact y⟩
  | halt x w'=>
   cases x <;> simp only[Oper.upon] at h ⊢
   case panic u=>exact L _ _ _ h
 ·rename_i E;simp only[E] at h;exact⟨keep a p _,by rw[<-Act.put_comm a v undef s];exact h⟩
def dH (P:Program) (md:Region.Mode) (ops:Array Oper) (C:World->Prop) (F:Nat->Bool) (Q:Exit->Act->World->Prop):Nat->Array Bool->Act->World->Prop
 | 0,listed,a,w=>Region.ready md ops listed=[]/\Q .normal a w
 | f+1,listed,a,w=>(Region.ready md ops listed=[]->Q .normal a w)/\
  ∀i∈Region.ready md ops listed,wpOp P ops Q i (λa' w'=>(F i=true->C w')/\dH P md ops C F Q f (listed.setIfInBounds i true) a' w') a w
theorem nP {F:Nat->Bool} : ∀(f:Nat) (d:Array Bool) (a:Act) (w:World),dH P md ops C F Q f d a w->wpAny P md ops Q f d a w
 | 0,_,_,_,h=>h
 | f+1,_,_,_,h=>⟨h.1,λi hi=>wpOp_mono (λg w' j=>nP f _ g w' j.2) (h.2 i hi)⟩
def jH (md:Region.Mode) (ops:Array Oper) (listed:Array Bool):Prop:=∀j oj,ops[j]? = some oj->listed.getD j false=true->∀e∈oj.after,Region.binds md e=true->listed.getD e.on false=true
theorem jH.set {d:Array Bool} {i:Nat} (h:jH md ops d) (hi:i∈Region.ready md ops d):jH md ops (d.setIfInBounds i true):=by
 intro j r p hl e q hb;obtain⟨_,s,f,l⟩:=mem_ready.1 hi;by_cases g:i=j
 ·subst g;rw[p] at f;injection f with f;subst f
  exact getD_set_true (l e q hb)
 ·rw[getD_set_ne false g] at hl;exact getD_set_true (h j r p hl e q hb)
def before (md:Region.Mode) (ops:Array Oper):Nat->Nat->List Nat
 | 0,_=>[]
 | f+1,j=>match ops[j]? with
  | none=>[]
  | some o=>o.after.toList.flatMap λe=>if Region.binds md e then e.on::before md ops f e.on else []
theorem qU {d:Array Bool} (s:jH md ops d):∀(f j:Nat),(∀g,ops[j]? = some g->∀e∈g.after,Region.binds md e=true->d.getD e.on false=true)->∀i∈before md ops f j,d.getD i false=true
 | 0,_,_,_,hi=>by cases hi
 | f+1,j,h,i,hi=>by
  unfold before at hi
  split at hi
  ·cases hi
  ·rename_i o w
   obtain⟨e,u,hie⟩:=List.mem_flatMap.1 hi
   split at hie
   ·rename_i hb
    have p:e∈o.after:=by simpa using u
    have h1:=h o w e p hb
    rcases List.mem_cons.1 hie with rfl | hie
    ·exact h1
    ·exact qU s f e.on (λg q v l r=>s e.on g q h1 v l r) i hie
   ·cases hie
def abS (md:Region.Mode) (ops:Array Oper) (F:Nat->Bool) (f:Nat) (qs:List Nat):Bool:=
 (List.range ops.size).all λj=>F j || qs.contains j || qs.all λi=>(match ops[j]? with | none=>false | some o=>o.after.any λe=>Region.binds md e && e.on == i) || (before md ops f j).contains i
theorem pZ {F:Nat->Bool} {f:Nat} {qs:List Nat} (h:abS md ops F f qs=true) {d:Array Bool} (w:jH md ops d) {i j:Nat} (hi:i∈qs) (u:d.getD i true=false) (x:j∈Region.ready md ops d) (v:j∉qs):F j=true:=by
 obtain⟨_,z,l,p⟩:=mem_ready.1 x;have s:j<ops.size:=(aE l).1;have q:d.getD i false=false:=by
  rcases Nat.lt_or_ge i d.size with h' | h';·simp[h'] at u ⊢;exact u
  ·simp[Array.getElem?_eq_none h']
 have h1:=List.all_eq_true.1 h j (List.mem_range.2 s);simp only[Bool.or_eq_true] at h1;rcases h1 with (h1 | h1) | h1;·exact h1
 ·exact absurd (by simpa using h1) v
 ·have h2:=List.all_eq_true.1 h1 i hi;simp only[l,Bool.or_eq_true] at h2;rcases h2 with h2 | h2;·obtain⟨e,r,hb⟩:=Array.any_eq_true'.1 h2;simp only[Bool.and_eq_true,beq_iff_eq] at hb;have:=p e r hb.1;rw[hb.2,q] at this;cases this
  ·have:=qU w f j (λy g e r hb=>by rw[l] at g;injection g with g;subst g;exact p e r hb) i (by simpa using h2);rw[q] at this;cases this
theorem rX {F:Nat->Bool} {i:Nat} {q:Oper} {v:Value} (hi:ops[i]? = some q) (D:∀(j:Nat) (o:Oper) cs b,ops[j]? = some o->o.op≠.select cs b) (hQ:∀c a w,Q (.panic c) (a.put q.dst v) w->Q (.panic c) a w) (I:∀d j,jH md ops d->d.getD i true=false->j∈Region.ready md ops d->F j=true) : ∀(g:Nat) (d:Array Bool) (a:Act) (w:World),jH md ops d->C w-> (∀j p,ops[j]? = some p->j≠i->d.getD j true=false->(∀e∈p.after,Region.binds md e=true->e.on≠i)->q.apart ops p=true)-> i∈Region.ready md ops d->dU P ops C q v a-> dH P md ops C F Q g (d.setIfInBounds i true) (a.put q.dst v) w->dH P md ops C F Q (g+1) d a w:=by
 intro g;induction g with
 | zero=>
  intro d a w _ z _ l E H
  refine⟨λh=>(by rw[h] at l;cases l),λj s=>?_⟩
  by_cases f:j=i
  ·subst f;exact E.wpOp hi z ⟨λ_=>z,H⟩
  ·have:=ready_mono s f
   rw[H.1] at this
   cases this
 | succ g ih=>
  intro d a w O z r l E H
  refine⟨λh=>(by rw[h] at l;cases l),λj s=>?_⟩
  by_cases f:j=i
  ·subst f;exact E.wpOp hi z ⟨λ_=>z,H⟩
  ·have h1:=H.2 j (ready_mono s f)
   obtain⟨x,p,y,M⟩:=mem_ready.1 s
   have L:∀e∈p.after,Region.binds md e=true->e.on≠i:=λe Z hb R=>by
    have h1:=M e Z hb
    have N:=(mem_ready.1 l).1
    rw[R] at h1
    rcases Nat.lt_or_ge i d.size with h' | h'
    ·simp[h'] at N h1;rw[N] at h1;cases h1
    ·simp[Array.getElem?_eq_none h'] at h1
   have X:=sX y (r j p y f x L) (λcs b=>D i q cs b hi) (λcs b=>D j p cs b y) hQ E h1
   have u:∀k A,ops[k]? = some A->k≠i->(d.setIfInBounds j true).getD k true=false->
     (∀e∈A.after,Region.binds md e=true->e.on≠i)->q.apart ops A=true:=λk A hk S J V=>by
    refine r k A hk S ?_ V
    by_cases K:j=k
    ·subst K;exact x
    ·rw[getD_set_ne true K] at J;exact J
   have Y:=I d j O (mem_ready.1 l).1 s
   refine wpOp_mono (λa' w' G=>⟨G.2.1,ih (d.setIfInBounds j true) a' w' (O.set s) (G.2.1 Y) u (ready_mono l (Ne.symm f)) G.1 ?_⟩) X
   rw[Array.setIfInBounds_comm _ _ f]
   exact G.2.2
def gT (P:Program) (ops:Array Oper) (C:World->Prop) (F:Nat->Bool) (Q:Exit->Act->World->Prop):List Nat->Act->World->Prop
 | [],a,w=>Q .normal a w
 | i::rest,a,w=>wpOp P ops Q i (λa' w'=>(F i=true->C w')/\gT P ops C F Q rest a' w') a w
def ah8 (md:Region.Mode) (ops:Array Oper):List Nat->Array Bool->Bool
 | [],listed=>(Region.ready md ops listed).isEmpty
 | i::rest,listed=>decide (Region.ready md ops listed=[i]) && ah8 md ops rest (listed.setIfInBounds i true)
theorem cT {F:Nat->Bool} : ∀(ms:List Nat) (d:Array Bool) (a:Act) (w:World),ah8 md ops ms d=true->gT P ops C F Q ms a w->dH P md ops C F Q ms.length d a w
 | [],d,a,w,hB,h=>⟨by simpa [ah8] using hB,h⟩
 | i::rest,d,a,w,hB,h=>by
  simp only[ah8,Bool.and_eq_true,decide_eq_true_eq] at hB
  refine⟨λh1=>(by rw[hB.1] at h1;cases h1),λj f=>?_⟩
  rw[hB.1] at f
  obtain rfl:j=i:=by simpa using f
  exact wpOp_mono (λl w' g=>⟨g.1,cT rest _ l w' hB.2 g.2⟩) h
def vZ (md:Region.Mode) (ops:Array Oper) (ms:List Nat):List Nat->Array Bool->Bool
 | [],listed=>ah8 md ops ms listed
 | i::rest,listed=>(Region.ready md ops listed).contains i && Region.free md ops listed i && ((ops[i]?).map mF).getD false && vZ md ops ms rest (listed.setIfInBounds i true)
def aj5 (md:Region.Mode) (ops:Array Oper) (qs ms fl:List Nat):Bool:=
 Region.noSelect ops && abS md ops (λj=>qs.contains j || fl.contains j) ops.size qs && vZ md ops ms qs (Array.replicate ops.size false) && decide (qs.length+ms.length=ops.size)
theorem uB {F:Nat->Bool} {ms qs0:List Nat} (q:Region.noSelect ops=true) (D:∀(c:_) (a:Act) (d:Option Tmp) (v:Value) (w:World),Q (.panic c) (a.put d v) w->Q (.panic c) a w)
  (p:∀f i j,i∈qs0->jH md ops f->f.getD i true=false->j∈Region.ready md ops f->F j=true) {w:World} (E:C w) :
  ∀(qs:List Nat) (f:Array Bool) (a:Act),(∀i∈qs,i∈qs0)->jH md ops f->vZ md ops ms qs f=true->
   wpQuiet P ops C (λu=>gT P ops C F Q ms u w) (qs.filterMap (ops[·]?)) a->dH P md ops C F Q (qs.length+ms.length) f a w
 | [],f,a,_,_,hB,h=>by
  rw[List.length_nil,Nat.zero_add]
  exact cT ms f a w hB h
 | i::rest,f,a,hsub,hc,hB,h=>by
  simp only[vZ,Bool.and_eq_true] at hB
  obtain⟨⟨⟨G,hf⟩,r⟩,z⟩:=hB
  have s:i∈Region.ready md ops f:=by simpa using G
  cases g:ops[i]? with
  | none=>rw[g] at r;cases r
  | some o=>
   rw[g] at r
   have x:mF o=true:=r
   simp only[List.filterMap_cons,g] at h
   have y:qOp P ops C i (wpQuiet P ops C (λu=>gT P ops C F Q ms u w) (rest.filterMap (ops[·]?))) a:=by unfold qOp;simp only[g];exact h
   obtain⟨v,H,I⟩:=yieldsIn_of_qOp g y
   rw[List.length_cons,show rest.length+1+ms.length=(rest.length+ms.length)+1 by omega]
   exact rX g (Region.noSelect_spec q) (λc a w=>D c a _ _ w) (λl j A J K=>p l i j (hsub i (by simp)) A J K) _ f a w hc E (Region.free_spec g hf) s (akX x H)
    (uB q D p E rest _ _ (λk L=>hsub k (by simp[L])) (hc.set s) z I)
theorem gL {id:Nat} {a:Act} {w:World} {l:List Oper} (C:World->Prop) (qs ms fl:List Nat) (A:P.follows .mixedOrders=true) (hB:aj5 .any l.toArray qs ms fl=true) (D:∀(c:_) (a:Act) (d:Option Tmp) (v:Value) (w:World),Q (.panic c) (a.put d v) w->Q (.panic c) a w) (E:C w.drew) (h:wpQuiet P l.toArray C (λu=>gT P l.toArray C (λj=>qs.contains j || fl.contains j) Q ms u w.drew) (qs.filterMap (l.toArray[·]?)) a):(Code.region id l.toArray true).wp P Q a w:=by
 simp only[aj5,Bool.and_eq_true,decide_eq_true_eq] at hB;obtain⟨⟨⟨q,f⟩,g⟩,r⟩:=hB;have H:=uB (md:=.any) (qs0:=qs) (ms:=ms) (F:=λj=>qs.contains j || fl.contains j) (Q:=Q) q D (λs i j hi x y z=>by
  by_cases p:j∈qs;·simp[p]
  ·exact pZ f x hi y z p) E qs (Array.replicate l.toArray.size false) a (λ_ h=>h) (by
  intro j G _ hl;rw[getD_replicate_false] at hl;cases hl) g h
 rw[r] at H;exact wp_region_any A (nP _ _ _ _ H)
theorem v7 (l:List Oper):∀n,n<=l.length->(List.range n).filterMap (l.toArray[·]?)=l.take n
 | 0,_=>rfl
 | n+1,h=>by
  have d:n<l.length:=by omega
  rw[List.range_succ,List.filterMap_append,v7 l n (by omega),List.take_succ_eq_append_getElem d]
  have e:l.toArray[n]? = some l[n]:=by rw[List.getElem?_toArray];exact lG d
  rw[List.filterMap_cons,e]
  rfl
theorem cE {id:Nat} {a:Act} {w:World} {l:List Oper} (C:World->Prop) (n:Nat) (ms fl:List Nat) (g:P.follows .mixedOrders=true) (p:n<=l.length) (hB:aj5 .any l.toArray (List.range n) ms fl=true) (q:∀(c:_) (a:Act) (d:Option Tmp) (v:Value) (w:World),Q (.panic c) (a.put d v) w->Q (.panic c) a w) (r:C w.drew) (h:wpQuiet P l.toArray C (λf=>gT P l.toArray C (λj=>(List.range n).contains j || fl.contains j) Q ms f w.drew) (l.take n) a):(Code.region id l.toArray true).wp P Q a w:= gL C (List.range n) ms fl g hB q r (by rw[v7 l n p];exact h)
def tG (md:Region.Mode) (ops:Array Oper) (last:Array Bool):List Nat->Array Bool->Bool
 | [],listed=>listed == last
 | i::rest,listed=>(Region.ready md ops listed).contains i && Region.free md ops listed i && ((ops[i]?).map mF).getD false && tG md ops last rest (listed.setIfInBounds i true)
def aj4 (md:Region.Mode) (ops:Array Oper) (qs fl:List Nat) (m:Nat) (last:Array Bool):Bool:=
 Region.noSelect ops && abS md ops (λj=>qs.contains j || fl.contains j) ops.size qs && tG md ops last qs (Array.replicate ops.size false) && decide (qs.length+m=ops.size)
theorem nQ {F:Nat->Bool} {qs0:List Nat} {m:Nat} {last:Array Bool} (q:Region.noSelect ops=true) (D:∀(c:_) (a:Act) (d:Option Tmp) (v:Value) (w:World),Q (.panic c) (a.put d v) w->Q (.panic c) a w)
  (p:∀f i j,i∈qs0->jH md ops f->f.getD i true=false->j∈Region.ready md ops f->F j=true) {w:World} (E:C w) :
  ∀(qs:List Nat) (f:Array Bool) (a:Act),(∀i∈qs,i∈qs0)->jH md ops f->tG md ops last qs f=true->
   wpQuiet P ops C (λu=>dH P md ops C F Q m last u w) (qs.filterMap (ops[·]?)) a->dH P md ops C F Q (qs.length+m) f a w
 | [],f,a,_,_,hB,h=>by
  rw[List.length_nil,Nat.zero_add]
  have e:f=last:=by simpa [tG] using hB
  rw[e]
  exact h
 | i::rest,f,a,hsub,hc,hB,h=>by
  simp only[tG,Bool.and_eq_true] at hB
  obtain⟨⟨⟨G,hf⟩,r⟩,z⟩:=hB
  have s:i∈Region.ready md ops f:=by simpa using G
  cases g:ops[i]? with
  | none=>rw[g] at r;cases r
  | some o=>
   rw[g] at r
   have x:mF o=true:=r
   simp only[List.filterMap_cons,g] at h
   have y:qOp P ops C i (wpQuiet P ops C (λu=>dH P md ops C F Q m last u w) (rest.filterMap (ops[·]?))) a:=by unfold qOp;simp only[g];exact h
   obtain⟨v,H,I⟩:=yieldsIn_of_qOp g y
   rw[List.length_cons,show rest.length+1+m=(rest.length+m)+1 by omega]
   exact rX g (Region.noSelect_spec q) (λc a w=>D c a _ _ w) (λl j A J K=>p l i j (hsub i (by simp)) A J K) _ f a w hc E (Region.free_spec g hf) s (akX x H)
    (nQ q D p E rest _ _ (λk L=>hsub k (by simp[L])) (hc.set s) z I)
theorem fS {id:Nat} {a:Act} {w:World} {l:List Oper} (C:World->Prop) (qs fl:List Nat) (m:Nat) (last:Array Bool) (lq:List Oper) (A:P.follows .mixedOrders=true) (hB:aj4 .any l.toArray qs fl m last=true) (D:qs.filterMap (l.toArray[·]?)=lq) (E:∀(c:_) (a:Act) (d:Option Tmp) (v:Value) (w:World),Q (.panic c) (a.put d v) w->Q (.panic c) a w) (G:C w.drew) (h:wpQuiet P l.toArray C (λu=>dH P .any l.toArray C (λj=>qs.contains j || fl.contains j) Q m last u w.drew) lq a):(Code.region id l.toArray true).wp P Q a w:=by
 subst D;simp only[aj4,Bool.and_eq_true,decide_eq_true_eq] at hB;obtain⟨⟨⟨q,f⟩,g⟩,r⟩:=hB;have H:=nQ (md:=.any) (qs0:=qs) (m:=m) (F:=λj=>qs.contains j || fl.contains j) (Q:=Q) q E (λs i j hi x y z=>by
  by_cases p:j∈qs;·simp[p]
  ·exact pZ f x hi y z p) G qs (Array.replicate l.toArray.size false) a (λ_ h=>h) (by
  intro j I _ hl;rw[getD_replicate_false] at hl;cases hl) g h
 rw[r] at H;exact wp_region_any A (nP _ _ _ _ H)
theorem lR {F:Nat->Bool} {f i k:Nat} {p q:Oper} {d:Array Bool} {a:Act} {w:World} (s:Region.ready md ops d=[i,k]) (hi:ops[i]? = some p) (u:ops[k]? = some q) (h1:∀K:Act->World->Prop,(∀a w,(F i=true->C w)->dH P md ops C F Q f (d.setIfInBounds i true) a w->K a w)->if Region.wanted p (yielded ops a.tmps) then p.wp P a w K Q else K (a.put p.dst undef) w) (l:∀K:Act->World->Prop,(∀a w,(F k=true->C w)->dH P md ops C F Q f (d.setIfInBounds k true) a w->K a w)->if Region.wanted q (yielded ops a.tmps) then q.wp P a w K Q else K (a.put q.dst undef) w) : dH P md ops C F Q (f+1) d a w:=by
 refine⟨λh=>(by rw[s] at h;cases h),λj hj=>?_⟩;rw[s] at hj;rcases List.mem_cons.1 hj with rfl | hj
 ·have:=h1 (λr w'=>(F j=true->C w')/\dH P md ops C F Q f (d.setIfInBounds j true) r w') (λ_ _ h1 l=>⟨h1,l⟩);unfold wpOp;simp only[hi];split;·rename_i g;rw[if_pos g] at this;exact .inl this
  ·rename_i g;rw[if_neg g] at this;exact this
 ·obtain rfl:j=k:=by simpa using hj
  have:=l (λr w'=>(F j=true->C w')/\dH P md ops C F Q f (d.setIfInBounds j true) r w') (λ_ _ h1 l=>⟨h1,l⟩);unfold wpOp;simp only[u];split;·rename_i g;rw[if_pos g] at this;exact .inl this
  ·rename_i g;rw[if_neg g] at this;exact this
theorem aR {F:Nat->Bool} {i:Nat} {o:Oper} {rest:List Nat} {a:Act} {w:World} (j:ops[i]? = some o) (h:∀K:Act->World->Prop,(∀a w,(F i=true->C w)->gT P ops C F Q rest a w->K a w)->if Region.wanted o (yielded ops a.tmps) then o.wp P a w K Q else K (a.put o.dst undef) w):gT P ops C F Q (i::rest) a w:=by
 have:=h (λd w'=>(F i=true->C w')/\gT P ops C F Q rest d w') (λ_ _ h1 g=>⟨h1,g⟩);show wpOp P ops Q i (λd w'=>(F i=true->C w')/\gT P ops C F Q rest d w') a w;unfold wpOp;simp only[j];split;·rename_i f;rw[if_pos f] at this;exact .inl this
 ·rename_i f;rw[if_neg f] at this;exact this
theorem bG {F:Nat->Bool} : ∀(ms:List Nat) (a:Act) (w:World),(ms.all λj=>!F j)=true->(ms.all λj=>(ops[j]?).isSome)=true->wpList P ops Q (ms.filterMap (ops[·]?)) a w->gT P ops C F Q ms a w
 | [],_,_,_,_,h=>h
 | i::rest,a,w,hF,hS,h=>by
  simp only[List.all_cons,Bool.and_eq_true,Bool.not_eq_true'] at hF hS
  cases f:ops[i]? with
  | none=>rw[f] at hS;cases hS.1
  | some o=>
   simp only[List.filterMap_cons,f] at h
   show wpOp P ops Q i _ a w
   unfold wpOp
   simp only[f]
   have d:if Region.wanted o (yielded ops a.tmps) then o.wp P a w (wpList P ops Q (rest.filterMap (ops[·]?))) Q\/(o.asks P a w/\LetsOut Q) else wpList P ops Q (rest.filterMap (ops[·]?)) (a.put o.dst undef) w:=h
   split
   ·rename_i g
    rw[if_pos g] at d
    exact d.imp (Oper.wp_mono λl w' p=>⟨λe=>(by rw[hF.1] at e;cases e),bG rest l w' hF.2 hS.2 p⟩) id
   ·rename_i g
    rw[if_neg g] at d
    exact⟨λe=>(by rw[hF.1] at e;cases e),bG rest _ _ hF.2 hS.2 d⟩
end
theorem akY {B b:Nat} (hB:B<=b) {w0:World} : ∀(vs:List Value) (o:Nat) (w:World),Below B w0 w->Below B w0 (w.setCells b o vs)
 | [],_,_,h=>h
 | v::r,o,w,h=>by
  rw[World.setCells]
  exact akY hB r (o+1) _ (h.setCell hB _)
theorem nU {w:World} {g:Nat} {cs:Array Value} {t:TypeId} {n:Nat} (h:w.heap[g]? = some (.cells cs t (0,0))) (f:n<=cs.size):w.there g 0 n:=λj d=>by
 rw[Nat.zero_add]
 refine⟨?_,frozen_of_row w g j _ _ h⟩
 rw[cell_of_row w g j _ _ _ h,Array.getElem?_eq_getElem (by omega)]
 rfl
theorem abX (w:World) (o:Obj):(w.alloc o).drew.heap[w.heap.size]? = some o:=by show(w.heap.push o)[w.heap.size]? = some o;exact Array.getElem?_push_size
end
section
open Go.RowKit
theorem aS (w:World) (o:Obj):(w.alloc o).heap[w.heap.size]? = some o:=by show(w.heap.push o)[w.heap.size]? = some o;exact Array.getElem?_push_size
theorem a8 {w:World} {k:Nat} {o:Obj} (h:w.heap[k]? = some o) (p:Obj):(w.alloc p).heap[k]? = some o:= ((aA w p).block k (aE h).1).trans h
theorem Below.set_row {B g:Nat} {w w':World} (h:Below B w w') (f:B<=g) (cs:Array Value):Below B w (w'.setRow g cs):= ⟨h.os,h.tape,h.output,by rw[size_setRow];exact h.size,λk d=>(setRow_other w' g k cs (by omega)).trans (h.block k d)⟩
end
end Go.Proofs.YtijihlcdhppfgaaGreatDoor
