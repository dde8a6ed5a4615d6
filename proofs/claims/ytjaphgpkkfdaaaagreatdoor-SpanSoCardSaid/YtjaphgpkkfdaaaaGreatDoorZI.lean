/- A part of the walk. -/
import Derived.Test.YtjaphgpkkfdaaaaGreatDoorZH
import Derived.Test.YtjaphgpkkfdaaaaGreatDoorZG
set_option maxHeartbeats 16000000
set_option maxRecDepth 100000
set_option linter.all false
namespace Go.Proofs.YtjaphgpkkfdaaaaGreatDoor
open Tryz
section
open Go.RowKit
theorem aaM (cs:List Value) (x:bW) (B:Nat) (g w:World) (h:g9 g B cs x):Calls prog 49 #[.agg ⟨cs⟩] w (aM (.bool (decide (30<x.frames.length))) w):=by
 obtain⟨f,rfl,hf,-⟩:=h;obtain⟨A,n,rfl,-⟩:=id hf;obtain⟨r,d⟩:∃r,decide (30<x.frames.length)=r:=⟨_,rfl⟩;rw[d];have e:Hid (decide ((30:Int)<x.frames.length)=r):=by rw[<-d];show decide _=decide _;congr 1;rw[eq_iff_iff];omega
 clear d hf;go_enter func49,ntmps49;go_wp2;go_ret;exact⟨by rw[<-e.o];rfl,aB _ _⟩
theorem yM:∀d W,(callFunc 116 d).run prog W=.ok (.enter 116 d) W:=enters_of func116 (by kernel_rfl) rfl
theorem yL:∀d W,(callFunc 117 d).run prog W=.ok (.enter 117 d) W:=enters_of func117 (by kernel_rfl) rfl
theorem aaJ:∀d W,(callFunc 49 d).run prog W=.ok (.enter 49 d) W:=enters_of func49 (by kernel_rfl) rfl
theorem abO (s:ByteArray) (f:s.size<=9223372036854775807) (w:World):Calls prog 116 #[.string s] w (aM (.bool (decide (200<s.size))) w):=by
 obtain⟨r,d⟩:∃r,decide (200<s.size)=r:=⟨_,rfl⟩;rw[d];have e:Hid (decide ((200:Int)<s.size)=r):=by rw[<-d];show decide _=decide _;congr 1;rw[eq_iff_iff];omega
 clear d;go_enter func116,ntmps116;go_wp2;go_ret;exact⟨by rw[<-e.o];rfl,Below.refl _ _⟩
theorem abN (cs:List Value) (c:bC) (B:Nat) (j w:World) (h:jY j B cs c):Calls prog 117 #[.agg ⟨cs⟩] w (aM (.bool (decide (100<c.vals.length) && (c.kind != 7 || decide (600<c.vals.length)))) w):=by
 obtain⟨v,f,rfl,e,-⟩:=h;obtain⟨A,n,rfl,-⟩:=id e;clear e;by_cases l:(100:Int)<c.vals.length
 ·rw[decide_eq_true (show 100<c.vals.length by omega),Bool.true_and];by_cases g:c.kind=7;·obtain⟨r,d⟩:∃r,(c.kind != 7 || decide (600<c.vals.length))=r:=⟨_,rfl⟩;rw[d];have i:Hid (decide ((600:Int)<c.vals.length)=r):=(by rw[<-d,g,bne_self_eq_false,Bool.false_or];show decide _=decide _;congr 1;rw[eq_iff_iff];omega);clear d;go_enter func117,ntmps117;go_wp2;go_ret;exact⟨by rw[<-i.o];rfl,aB _ _⟩
  ·rw[show(c.kind != 7)=true from bne_iff_ne.2 g,Bool.true_or];go_enter func117,ntmps117;go_wp2;go_ret;exact⟨rfl,aB _ _⟩
 ·rw[decide_eq_false (show ¬ 100<c.vals.length by omega),Bool.false_and];go_enter func117,ntmps117;go_wp2;go_ret;exact⟨rfl,aB _ _⟩
end
section
open Go.RowKit
def iJ (w:World) (sb:Nat) (S:aR):Prop:=∃cs,aA w sb cs/\sb<w.heap.size/\gK w w.heap.size cs S
theorem iJ.below {w w':World} {e:Nat} {S:aR} (h:iJ w e S) (k:Below w.heap.size w w'):iJ w' e S:=by obtain⟨cs,f,d,g⟩:=h;exact⟨cs,λi v j=>(k.cell d).trans (f i v j),Nat.lt_of_lt_of_le d k.size,g.below k⟩
theorem iJ.parts {w:World} {y:Nat} {S:aR} (h:iJ w y S):∃d f i j l m p q r u v x,aA w y [.slice d S.cells.length f,.slice i S.shapes.length j,.slice l S.texts.length m,.slice p S.threads.length q,.slice r S.ends.length u,.slice v S.said.length x,.int .i64 S.asked,.int .i64 S.steps]/\y<w.heap.size/\ aH w w.heap.size 4 (jY w w.heap.size) (.slice d S.cells.length f) S.cells/\aH w w.heap.size 2 jX (.slice i S.shapes.length j) S.shapes/\aH w w.heap.size 1 lV (.slice l S.texts.length m) S.texts/\ aH w w.heap.size 5 (g9 w w.heap.size) (.slice p S.threads.length q) S.threads/\aH w w.heap.size 3 abX (.slice r S.ends.length u) S.ends/\aH w w.heap.size 2 hU (.slice v S.said.length x) S.said:=by obtain⟨cs,G,H,c,s,t,g,e,a,rfl,z,A,C,D,E,F,-⟩:=h;obtain⟨d,f,rfl,-⟩:=id z;obtain⟨i,j,rfl,-⟩:=id A;obtain⟨l,m,rfl,-⟩:=id C;obtain⟨p,q,rfl,-⟩:=id D;obtain⟨r,u,rfl,-⟩:=id E;obtain⟨v,x,rfl,-⟩:=id F;exact⟨d,f,i,j,l,m,p,q,r,u,v,x,G,H,z,A,C,D,E,F⟩
theorem iJ.kind {w:World} {B:Nat} {g:Option Addr} {j:Nat} {l:List bC} (h:aH w B 4 (jY w B) (.slice g l.length j) l) {m:Nat} (p:m<l.length) : ∃b d,g=some ⟨b,d,none⟩/\b<B/\w.cell? ⟨b,d+m*4,none⟩=some (.int .i64 (((l[m]?).map (·.kind)).getD 0)):=by obtain⟨b,d,x,cs,rfl,hb,i,-,⟨v,f,rfl,-⟩,e⟩:=h.at_ p;refine⟨b,d,rfl,hb,?_⟩;rw[i];have:=e 0 _ rfl;simpa using this
theorem r8 (v:Val) (S:aR) (D:Nat) (w:World) (h:iJ w D S):Calls prog 88 #[.pointer (some ⟨D,0,none⟩),.agg #[.int .i64 v.kind,.int .i64 v.n]] w (aM (.bool (dJ aG S v)) w):=by
 obtain⟨k,n⟩:=v;obtain⟨r,f⟩:∃r,dJ aG S ⟨k,n⟩=r:=⟨_,rfl⟩;rw[f];unfold dJ at f;dsimp only at f;obtain⟨q,I⟩:∃q,aG ⟨k,n⟩=q:=⟨_,rfl⟩;rw[I] at f;obtain⟨A0,W,A1,n1,A2,n2,A3,n3,A4,n4,A5,n5,X,hb,M,s1,Y,-⟩:=h.parts;have lc:=aP M;have lt:=aP Y;have L:=hI X;have S0:=hI M;obtain⟨j,l⟩:∃j,j=w.alloc (.cells #[.int .i64 k,.int .i64 n] 48):=⟨_,rfl⟩;have C:Hid (Calls prog 104 #[.agg #[.int .i64 k,.int .i64 n]] j (aM (.bool q) j)):=by rw[<-I];exact qO ⟨k,n⟩ j
 have u:Hid (Below w.heap.size w j):=by rw[l];exact aB w _
 have O:j.cell? ⟨w.heap.size,0,none⟩=some (.int .i64 k):=by rw[l];exact bL _ _ _ _
 have P:j.cell? ⟨w.heap.size,1,none⟩=some (.int .i64 n):=by rw[l];exact bL _ _ _ _
 have G:=hI O;have H:=hI P;have x:=hI l;have HQ:=hI I;clear l I X M s1 Y h O P;cases q
 ·have g:Hid (false=r):=by rw[<-f];rfl
  clear f;go_enter func88,ntmps88;go_wp2_with fail;rw[<-x.o];refine C.o.mono ?_;rintro e w1 ⟨rfl,d⟩;have K:=btZ u d;clear d;go_wp2_with fail;go_ret;exact⟨by rw[<-g.o];rfl,K.o⟩
 rw[Bool.true_and] at f;by_cases p:k=4
 ·rw[if_pos p] at f;have g:Hid (decide (n<S.texts.length)=r):=f;subst p;clear f;go_enter func88,ntmps88;go_wp2_with fail;rw[<-x.o];refine C.o.mono ?_;rintro e w1 ⟨rfl,d⟩;have K:=btZ u d;have s:=aC d G.o;have g1:=aC d H.o;have y:∀E:Up w1,E.to.cell? ⟨w.heap.size,1,none⟩=some (.int .i64 n):=λE=>E.cell (aC d H.o);have z:∀E:Up w1,E.to.cell? ⟨D,2,none⟩=some (.slice A2 S.texts.length n2):=λE=>E.cell ((K.o.cell hb).trans (L.o 2 _ rfl));clear d;go_wp2_with fail;refine aD (by kernel_rfl) (by kernel_rfl) ?_;repeat (go_big_quiet_step (fail))
  refine wpQuiet_nil ?_;rintro _ ⟨E,rfl⟩;have A:=btZ K E.below;clear y z s g1;go_wp2_with fail;go_ret;exact⟨by rw[<-g.o];rfl,A.o⟩
 rw[if_neg p] at f;by_cases F:k=5
 ·rw[if_pos F] at f;subst F;have R:0<=n:=by have:=HQ.o;unfold aG at this;simpa using this
  obtain⟨m,rfl⟩:=Int.eq_ofNat_of_zero_le R;by_cases hm:m<S.cells.length
  ·have i:(m:Int)<S.cells.length:=(by omega);obtain⟨b,J,rfl,Z,N⟩:=iJ.kind S0.o hm;have g:Hid ((lD S m != 0)=r):=(by rw[<-f];unfold Hid;rw[decide_eq_true i,Bool.true_and]);have V:(((S.cells[m]?).map (·.kind)).getD 0)=lD S m:=(by unfold lD;rw[Int.toNat_natCast]);rw[V] at N;have HC:=hI N;have hd:decide ((m:Int)<S.cells.length)=true:=decide_eq_true i;clear f p V N;go_enter func88,ntmps88;go_wp2_with fail;rw[<-x.o];refine C.o.mono ?_;rintro e w1 ⟨rfl,d⟩;have K:=btZ u d;have s:=aC d G.o;have y:∀E:Up w1,E.to.cell? ⟨w.heap.size,1,none⟩=some (.int .i64 m):=λE=>E.cell (aC d H.o);have z:∀E:Up w1,E.to.cell? ⟨D,0,none⟩=some (.slice (some ⟨b,J,none⟩) S.cells.length W):=λE=>E.cell ((K.o.cell hb).trans (L.o 0 _ rfl));have d3:∀E:Up w1,E.to.cell? ⟨b,J+m*4,none⟩=some (.int .i64 (lD S m)):=λE=>E.cell ((K.o.cell Z).trans HC.o);clear d;go_wp2_with fail;refine aD (by kernel_rfl) (by kernel_rfl) ?_;repeat (go_big_quiet_step (fail))
   refine wpQuiet_nil ?_;rintro _ ⟨E,rfl⟩;have A:=btZ K E.below;clear y z d3 s;go_wp2_with fail;go_ret;exact⟨by rw[<-g.o];rfl,A.o⟩
  ·have i:¬(m:Int)<S.cells.length:=(by omega);have g:Hid (false=r):=(by rw[<-f];unfold Hid;rw[decide_eq_false i,Bool.false_and]);have hd:decide ((m:Int)<S.cells.length)=false:=decide_eq_false i;clear f p;go_enter func88,ntmps88;go_wp2_with fail;rw[<-x.o];refine C.o.mono ?_;rintro e w1 ⟨rfl,d⟩;have K:=btZ u d;have s:=aC d G.o;have y:∀E:Up w1,E.to.cell? ⟨w.heap.size,1,none⟩=some (.int .i64 m):=λE=>E.cell (aC d H.o);have z:∀E:Up w1,E.to.cell? ⟨D,0,none⟩=some (.slice A0 S.cells.length W):=λE=>E.cell ((K.o.cell hb).trans (L.o 0 _ rfl));clear d;go_wp2_with fail;refine aD (by kernel_rfl) (by kernel_rfl) ?_;repeat (go_big_quiet_step (fail))
   refine wpQuiet_nil ?_;rintro _ ⟨E,rfl⟩;have A:=btZ K E.below;clear y z s;go_wp2_with fail;go_ret;exact⟨by rw[<-g.o];rfl,A.o⟩
 rw[if_neg F] at f;have g:Hid (true=r):=f;have n4:(k == 4)=false:=by simpa using p
 have n5:(k == 5)=false:=by simpa using F
 clear f p F;go_enter func88,ntmps88;go_wp2_with fail;rw[<-x.o];refine C.o.mono ?_;rintro e w1 ⟨rfl,d⟩;have K:=btZ u d;have s:=aC d G.o;clear d;go_wp2_with fail;go_ret;exact⟨by rw[<-g.o];rfl,K.o⟩
end
section
open Go.RowKit
theorem zM (v:Val) (S:aR) (g:Nat) (w:World) (h:iJ w g S):Calls prog 133 #[.pointer (some ⟨g,0,none⟩),.agg #[.int .i64 v.kind,.int .i64 v.n]] w (aM (.bool (dJ aG S v)) w):=by
 obtain⟨f,d⟩:∃f,f=w.alloc (.cells #[.int .i64 v.kind,.int .i64 v.n] 48):=⟨_,rfl⟩;have i:Hid (Below w.heap.size w f):=by rw[d];exact aB w _
 have C:=hI (r8 v S g f (h.below i.o));have l:=hI d;clear d h;go_enter func133,ntmps133;go_wp2_with fail;rw[<-l.o];refine C.o.mono ?_;rintro e w1 ⟨rfl,j⟩;have K:=btZ i j;clear j;go_wp2_with fail;go_ret;exact⟨rfl,K.o⟩
theorem aa9 {S:aR} {k n:Int} (h:dJ aG S ⟨k,n⟩=true) (g:k=5):∃m:Nat,n=m/\m<S.cells.length:=by
 subst g;unfold dJ at h;simp only[Bool.and_eq_true] at h;obtain⟨e,f⟩:=h;unfold aG at e;have i:0<=n:=by simpa using e
 have d:=f;simp at d;exact⟨n.toNat,by omega,by omega⟩
theorem cis_c (v:Val) (kind:Int) (S:aR) (l:Nat) (w:World) (h:iJ w l S):Calls prog 92 #[.pointer (some ⟨l,0,none⟩),.agg #[.int .i64 v.kind,.int .i64 v.n],.int .i64 kind] w (aM (.bool (oL aG S v kind)) w):=by
 obtain⟨k,n⟩:=v;obtain⟨r,i⟩:∃r,oL aG S ⟨k,n⟩ kind=r:=⟨_,rfl⟩;rw[i];unfold oL at i;obtain⟨q,p⟩:∃q,dJ aG S ⟨k,n⟩=q:=⟨_,rfl⟩;rw[p] at i;obtain⟨N,O,X,Y,Z,n2,A3,n3,A4,n4,A5,n5,z,hb,A,-⟩:=h.parts;have V:=aP A;have W:=hI z;have J:=hI A;obtain⟨d,e⟩:∃d,d=w.alloc (.cells #[.int .i64 k,.int .i64 n] 48):=⟨_,rfl⟩;have f:Hid (Below w.heap.size w d):=by rw[e];exact aB w _
 have C:Hid (∀E:Up d,Calls prog 88 #[.pointer (some ⟨l,0,none⟩),.agg #[.int .i64 k,.int .i64 n]] E.to (aM (.bool q) E.to)):=λE=>by rw[<-p];exact r8 ⟨k,n⟩ S l E.to ((h.below f.o).below E.below)
 have s:∀E:Up d,E.to.cell? ⟨w.heap.size,0,none⟩=some (.int .i64 k):=λE=>E.cell (by rw[e];exact bL _ _ _ _);have u:∀E:Up d,E.to.cell? ⟨w.heap.size,1,none⟩=some (.int .i64 n):=λE=>E.cell (by rw[e];exact bL _ _ _ _);have x:∀E:Up d,E.to.cell? ⟨l,0,none⟩=some (.slice N S.cells.length O):=λE=>E.cell ((f.o.cell hb).trans (z 0 _ rfl));have K:=hI e;have L:=hI p;have y:=hI i;clear e p z A h i;go_enter func92,ntmps92;go_wp2_with fail;rw[<-K.o];refine aD (by kernel_rfl) (by kernel_rfl) ?_;repeat (go_big_quiet_step ((go_at_call 88;with_reducible exact Calls.up (C.o _))))
 cases q
 case false=>
  repeat (go_big_quiet_step (fail))
  refine wpQuiet_nil ?_;rintro _ ⟨E,rfl⟩;have g:=btZ f E.below;clear s u x;go_wp2_with fail;go_ret;exact⟨by rw[<-y.o];rfl,g.o⟩
 repeat (go_big_quiet_step (fail))
 obtain⟨P,j⟩:∃b:Bool,(k == 5)=b:=⟨_,rfl⟩;rw[j];cases P
 case false=>
  repeat (go_big_quiet_step (fail))
  refine wpQuiet_nil ?_;rintro _ ⟨E,rfl⟩;have g:=btZ f E.below;clear s u x;go_wp2_with fail;go_ret;exact⟨by rw[<-y.o,j];rfl,g.o⟩
 obtain rfl:k=5:=by simpa using j
 obtain⟨m,rfl,G⟩:=aa9 L.o rfl;obtain⟨b,H,rfl,I,D⟩:=iJ.kind J.o G;have F:(((S.cells[m]?).map (·.kind)).getD 0)=lD S m:=by unfold lD;rw[Int.toNat_natCast]
 rw[F] at D;have M:∀E:Up d,E.to.cell? ⟨b,H+m*4,none⟩=some (.int .i64 (lD S m)):=λE=>E.cell ((f.o.cell I).trans D);have R:(m:Int)<S.cells.length:=by omega
 clear D F G;repeat (go_big_quiet_step (fail))
 refine wpQuiet_nil ?_;rintro _ ⟨E,rfl⟩;have g:=btZ f E.below;clear s u x M;go_wp2_with fail;go_ret;exact⟨by rw[<-y.o];rfl,g.o⟩
end
section
open Go.RowKit
theorem abB:∀d W,(callFunc 162 d).run prog W=.ok (.enter 162 d) W:=enters_of func162 (by kernel_rfl) rfl
theorem x9:∀d W,(callFunc 123 d).run prog W=.ok (.enter 123 d) W:=enters_of func123 (by kernel_rfl) rfl
theorem x8:∀d W,(callFunc 127 d).run prog W=.ok (.enter 127 d) W:=enters_of func127 (by kernel_rfl) rfl
theorem adI:∀d W,(callFunc 82 d).run prog W=.ok (.enter 82 d) W:=enters_of func82 (by kernel_rfl) rfl
theorem adH:∀d W,(callFunc 84 d).run prog W=.ok (.enter 84 d) W:=enters_of func84 (by kernel_rfl) rfl
theorem adG:∀d W,(callFunc 87 d).run prog W=.ok (.enter 87 d) W:=enters_of func87 (by kernel_rfl) rfl
theorem adF:∀d W,(callFunc 90 d).run prog W=.ok (.enter 90 d) W:=enters_of func90 (by kernel_rfl) rfl
theorem all1_c (v:Val) (S:aR) (g i:Nat) (w:World) (h:iJ w g S) (p:w.cell? ⟨i,0,none⟩=some (.pointer (some ⟨g,0,none⟩))) : Calls prog 162 #[.agg #[.int .i64 v.kind,.int .i64 v.n],.pointer (some ⟨i,0,none⟩)] w (aM (.bool (!dJ aG S v)) w):=by
 obtain⟨f,d⟩:∃f,f=w.alloc (.cells #[.int .i64 v.kind,.int .i64 v.n] 48):=⟨_,rfl⟩;have j:Hid (Below w.heap.size w f):=by rw[d];exact aB w _
 have C:=hI (r8 v S g f (h.below j.o));have l:=hI d;have hl:i<w.heap.size:=dP p;clear d h;go_enter func162,ntmps162;go_wp2_with fail;rw[<-l.o];refine C.o.mono ?_;rintro e w1 ⟨rfl,m⟩;have K:=btZ j m;go_wp2_with fail;go_ret;exact⟨rfl,K.o⟩
theorem adW (A:Option Addr) (f:Nat) (l:List Val) (S:aR) (j:Nat) (w:World) (h:iJ w j S) (p:aH w w.heap.size 2 hU (.slice A l.length f) l) : Calls prog 125 #[.pointer (some ⟨j,0,none⟩),.slice A l.length f] w (aM (.bool (lL aG S l)) w):=by
 obtain⟨g,d⟩:∃g,g=w.alloc (.cells #[.pointer (some ⟨j,0,none⟩)] 113):=⟨_,rfl⟩;have m:Hid (Below w.heap.size w g):=by rw[d];exact aB w _
 have C:=hI (eE hU (λv=>!dJ aG S v) A f l 162 abB #[.pointer (some ⟨w.heap.size,0,none⟩)] g (p.below m.o) (λw1 i x cs u s=>by obtain⟨rfl,-⟩:=s;exact all1_c x S j w.heap.size w1 ((h.below m.o).below i) (aC i (by rw[d];exact bL _ _ _ _))));have q:Hid ((!l.any λv=>!dJ aG S v)=lL aG S l):=by unfold lL Hid;rw[List.all_eq_not_any_not]
 have r:=hI d;clear d h p;go_enter func125,ntmps125;go_wp2_with fail;rw[<-r.o];refine C.o.mono ?_;rintro e w1 ⟨rfl,i⟩;have K:=btZ m i;go_wp2_with fail;go_ret;exact⟨by rw[<-q.o];rfl,K.o⟩
theorem cell1_c (v:Val) (S:aR) (g i:Nat) (w:World) (h:iJ w g S) (p:w.cell? ⟨i,0,none⟩=some (.pointer (some ⟨g,0,none⟩))) : Calls prog 123 #[.agg #[.int .i64 v.kind,.int .i64 v.n],.pointer (some ⟨i,0,none⟩)] w (aM (.bool (!oL aG S v 3)) w):=by
 obtain⟨f,d⟩:∃f,f=w.alloc (.cells #[.int .i64 v.kind,.int .i64 v.n] 48):=⟨_,rfl⟩;have j:Hid (Below w.heap.size w f):=by rw[d];exact aB w _
 have C:=hI (cis_c v 3 S g f (h.below j.o));have l:=hI d;have hl:i<w.heap.size:=dP p;clear d h;go_enter func123,ntmps123;go_wp2_with fail;rw[<-l.o];refine C.o.mono ?_;rintro e w1 ⟨rfl,m⟩;have K:=btZ j m;go_wp2_with fail;go_ret;exact⟨rfl,K.o⟩
theorem cell2_c (cs:List Value) (f:a8) (S:aR) (l s:Nat) (w:World) (hf:eR w w.heap.size cs f) (h:iJ w l S) (G:w.cell? ⟨s,0,none⟩=some (.pointer (some ⟨l,0,none⟩))) : Calls prog 127 #[.agg ⟨cs⟩,.pointer (some ⟨s,0,none⟩)] w (aM (.bool (!gP aG S f)) w):=by
 obtain⟨rv,E,rfl,x,-⟩:=hf;obtain⟨r,d⟩:∃r,(!gP aG S f)=r:=⟨_,rfl⟩;rw[d];unfold gP at d;obtain⟨A,p,rfl,-⟩:=id x;obtain⟨g,j⟩:∃g,g=w.alloc (.cells #[.int .i64 f.fn,.int .i64 f.at_,.int .i64 f.tos,.int .i64 f.gen,.int .i64 f.self.kind,.int .i64 f.self.n,.slice A f.regs.length p,E] 61):=⟨_,rfl⟩;have m:Hid (Below w.heap.size w g):=by rw[j];exact aB w _
 have y:=hI (adW A p f.regs S l g (h.below m.o) (x.below m.o));have z:Hid (∀w1,Below g.heap.size g w1->Calls prog 88 #[.pointer (some ⟨l,0,none⟩),.agg #[.int .i64 f.self.kind,.int .i64 f.self.n]] w1 (aM (.bool (dJ aG S f.self)) w1)):=λw1 k=>r8 f.self S l w1 ((h.below m.o).below k);obtain⟨q1,u⟩:∃q,lL aG S f.regs=q:=⟨_,rfl⟩;obtain⟨P,v⟩:∃q,dJ aG S f.self=q:=⟨_,rfl⟩;rw[u] at y d;rw[v] at z d;have C:Hid (aA g w.heap.size [.int .i64 f.fn,.int .i64 f.at_,.int .i64 f.tos,.int .i64 f.gen,.int .i64 f.self.kind,.int .i64 f.self.n,.slice A f.regs.length p,E]):=by rw[j];exact ad5 _ _ _
 have H:Hid (g.cell? ⟨s,0,none⟩=some (.pointer (some ⟨l,0,none⟩))):=aC m.o G;have I:=hI j;have D:=hI d;have hl:s<w.heap.size:=dP G;clear j h x u v d;go_enter func127,ntmps127;go_wp2_with fail;rw[<-I.o];refine y.o.mono ?_;rintro e w1 ⟨rfl,i⟩;have J:=hI i;have K:=btZ m i;cases q1;case false=>clear i;go_wp2_with fail;go_ret;exact⟨by rw[<-D.o];rfl,K.o⟩
 have L:=(C.o.on i) 4 _ rfl;have M:=(C.o.on i) 5 _ rfl;have N:=aC i H.o;clear i;go_wp2_with fail;refine(z.o w1 J.o).mono ?_;rintro e R ⟨rfl,F⟩;have O:=btZ K F;clear F L M N;go_wp2_with fail;go_ret;exact⟨by rw[<-D.o];rfl,O.o⟩
theorem ck1_c (x:aT) (S:aR) (d:Nat) (w:World) (h:iJ w d S) : Calls prog 82 #[.agg #[.int .i64 x.up,.int .i64 x.name],.pointer (some ⟨d,0,none⟩)] w (aM (.bool (decide ((S.texts.length:Int)<=x.name))) w):=by obtain⟨p,q,r,s,g,i,u,v,y,z,A,C,e,hb,j,l,f,-⟩:=h.parts;have lt:=aP f;have m:=e 2 _ rfl;clear e h j l f;go_enter func82,ntmps82;go_wp2_with fail;go_ret;exact⟨rfl,aB _ _⟩
theorem ck3_c (v:Val) (S:aR) (j:Nat) (w:World) (h:iJ w j S) : Calls prog 87 #[.agg #[.int .i64 v.kind,.int .i64 v.n],.pointer (some ⟨j,0,none⟩)] w (aM (.bool (v.kind != 4 || !dJ aG S v)) w):=by
 obtain⟨r,d⟩:∃r,(v.kind != 4 || !dJ aG S v)=r:=⟨_,rfl⟩;rw[d];obtain⟨g,f⟩:∃g,g=w.alloc (.cells #[.int .i64 v.kind,.int .i64 v.n] 48):=⟨_,rfl⟩;have m:Hid (Below w.heap.size w g):=by rw[f];exact aB w _
 have C:=hI (r8 v S j g (h.below m.o));have p:=hI f;clear f h;by_cases l:v.kind=4;·rw[l] at p C d ⊢;have i:Hid ((!dJ aG S v)=r):=d;clear d l;go_enter func87,ntmps87;go_wp2_with fail;rw[<-p.o];refine C.o.mono ?_;rintro e w1 ⟨rfl,q⟩;have K:=btZ m q;clear q;go_wp2_with fail;go_ret;exact⟨by rw[<-i.o];rfl,K.o⟩
 ·have i:Hid (true=r):=by rw[<-d];unfold Hid;rw[show(v.kind != 4)=true from bne_iff_ne.2 l];rfl
  clear d;go_enter func87,ntmps87;go_wp2_with fail;go_ret;exact⟨by rw[<-i.o];rfl,aB _ _⟩
theorem ck4_c (x:ad4) (S:aR) (j:Nat) (w:World) (h:iJ w j S) : Calls prog 90 #[.agg #[.int .i64 x.cell,.int .i64 x.fn.kind,.int .i64 x.fn.n],.pointer (some ⟨j,0,none⟩)] w (aM (.bool (!yA aG S x)) w):=by
 obtain⟨r,d⟩:∃r,(!yA aG S x)=r:=⟨_,rfl⟩;rw[d];unfold yA at d;obtain⟨g,f⟩:∃g,g=w.alloc (.cells #[.int .i64 x.cell,.int .i64 x.fn.kind,.int .i64 x.fn.n] 107):=⟨_,rfl⟩;have i:Hid (Below w.heap.size w g):=by rw[f];exact aB w _
 obtain⟨H,I,L,M,N,O,P,R,V,W,X,Y,y,hb,z,-⟩:=h.parts;have J:=aP z;have m:=y 0 _ rfl;have C:=hI (cis_c x.fn 4 S j g (h.below i.o));obtain⟨q1,l⟩:∃q,aK x.cell 0 ((S.cells.length:Int) - 1)=q:=⟨_,rfl⟩;have p:=hI (mT x.cell 0 ((S.cells.length:Int) - 1) g);rw[l] at p d;have D:=hI f;have s:=hI d;have u:=aC i.o m;have K:=hI u;have v:Hid (aA g w.heap.size [.int .i64 x.cell,.int .i64 x.fn.kind,.int .i64 x.fn.n]):=by rw[f];exact ad5 _ _ _
 clear f h y z l d u;go_enter func90,ntmps90;go_wp2_with fail;rw[<-D.o];refine p.o.mono ?_;rintro e w1 ⟨rfl,rfl⟩;cases q1;case false=>go_wp2_with fail;go_ret;exact⟨by rw[<-s.o];rfl,i.o⟩
 have E:=v.o 1 _ rfl;have F:=v.o 2 _ rfl;clear m;go_wp2_with fail;refine C.o.mono ?_;rintro e Z ⟨rfl,A⟩;have G:=btZ i A;clear A E F;go_wp2_with fail;go_ret;exact⟨by rw[<-s.o];rfl,G.o⟩
end
section
open Go.RowKit
section
variable {P:Program} {ops:Array Oper} {md:Region.Mode} {C:World->Prop} {Q:Exit->Act->World->Prop}
def j6 (o:Oper):Bool:=match o.op with
 | .move _ | .assign _ | .pick _ _ _ | .build _ _ | .load _ _ | .binOp _ _ _ _ _ | .unOp _ _ _ | .convert _ _ _ | .fieldAddr _ _ _ | .field _ _ _ | .indexAddr _ _ _ | .index _ _ _ | .extract _ _ | .slice _ _ _ _ _ | .lookup _ _ _ _=>true
 | .nilCheck _=>true
 | .call c=>match c.callee with | .builtin .len=>true | .builtin .cap=>true | .builtin .min=>true | .builtin .max=>true | _=>false
 | _=>false
def cR (P:Program) (ops:Array Oper) (C:World->Prop) (o:Oper) (v:Value) (a:Act):Prop:=
 (Region.wanted o (yielded ops a.tmps)=true/\∀w,C w->(execOp a.eval o).run P w=.ok (.value v) w)\/(Region.wanted o (yielded ops a.tmps)=false/\v=undef)
theorem mE {α β : Type} {s:Sem α} {f : α->Sem β} {P:Program} {w w':World} {n : β} (h:(s >>= f).run P w=.ok n w'):∃u w1,s.run P w=.ok u w1/\(f u).run P w1=.ok n w':=by
 rw[Sem.run_bind] at h;cases d:s.run P w with
 | ok u w1=>rw[d] at h;exact⟨u,w1,rfl,h⟩
 | halt x w1=>rw[d] at h;cases h
theorem run_v {s:Sem Value} {P:Program} {w w':World} {n:Next} (h:((do pure (Next.value (<-s))):Sem Next).run P w=.ok n w'):∃u,n=.value u:=by
 simp only[Sem.run_bind,Sem.run_pure] at h;cases d:s.run P w with
 | ok u w1=>rw[d] at h;simp only[Result.andThen_ok] at h;injection h with e f;exact⟨u,e.symm⟩
 | halt x w1=>rw[d] at h;cases h
theorem sU {o:Oper} (d:j6 o=true) {ρ : Operand->Value} {w w':World} {n:Next} (h:(execOp ρ o).run P w=.ok n w'):∃u,n=.value u:=by
 obtain⟨v,op,p,z,j,l⟩:=o;cases op <;> simp only[j6] at d <;> (first | (cases d;done) | skip) <;> simp only[execOp] at h;case move=>simp only[Sem.run_pure] at h;injection h with h;exact⟨_,h.symm⟩
 case assign=>simp only[Sem.run_pure] at h;injection h with h;exact⟨_,h.symm⟩
 case pick c x y=>
  simp only[Sem.run_bind,Sem.run_pure] at h
  cases i:(asBool (ρ c)).run P w with
  | ok u w1=>rw[i] at h;simp only[Result.andThen_ok] at h;injection h with s G;exact⟨_,s.symm⟩
  | halt x w1=>rw[i] at h;cases h
 case nilCheck x=>
  split at h;·exact absurd h (by simp[go_sem])
  ·exact absurd h (by simp[go_sem])
  ·exact absurd h (by simp[go_sem])
  ·split at h;·exact absurd h (by simp[go_sem])
   ·obtain⟨A,w1,-,h⟩:=mE h;obtain⟨C,D,-,h⟩:=mE h;split at h;·obtain⟨E,F,-,h⟩:=mE h;simp only[Sem.run_pure] at h;injection h with h;exact⟨_,h.symm⟩
    ·simp only[Sem.run_pure] at h;injection h with h;exact⟨_,h.symm⟩
   ·simp only[Sem.run_pure] at h;injection h with h;exact⟨_,h.symm⟩
  ·simp only[Sem.run_pure] at h;injection h with h;exact⟨_,h.symm⟩
 case call c=>
  obtain⟨e,q,g⟩:=c
  cases e with
  | builtin b=>
   simp only[Sem.run_bind,resolve,Sem.run_pure,Result.andThen_ok,invoke] at h
   cases b <;> simp only[] at d <;> (first | (cases d;done) | exact run_v h)
  | value f=>simp only[] at d;cases d
  | invoke r m=>simp only[] at d;cases d
 all_goals exact run_v h
theorem cR.of_same {o:Oper} {v:Value} {a d:Act} (e:cR P ops C o v a) (f:execOp d.eval o=execOp a.eval o) (g:Region.wanted o (yielded ops d.tmps)=Region.wanted o (yielded ops a.tmps)):cR P ops C o v d:=by unfold cR at *;rw[f,g];exact e
theorem ad8 {o:Oper} {v:Value} {a:Act} (g:j6 o=true) (i:YieldsIn P ops C o v a):cR P ops C o v a:=by
 rcases i with ⟨j,l⟩ | h
 ·refine .inl ⟨j,λw f=>?_⟩
  have d:=l w f
  unfold Oper.quietAt at d
  cases e:(execOp a.eval o).run P w with
  | ok n w'=>
   rw[e] at d
   obtain⟨u,rfl⟩:=sU g e
   simp only[Oper.quietUpon] at d
   rw[d.1,d.2]
  | halt x w'=>rw[e] at d;exact d.elim
 ·exact .inr h
theorem cR.wpOp {i:Nat} {o:Oper} {v:Value} {a:Act} (hi:ops[i]? = some o) (e:cR P ops C o v a) {K:Act->World->Prop} {w:World} (f:C w) (h:K (a.put o.dst v) w):wpOp P ops Q i K a w:=by
 unfold Go.wpOp;simp only[hi];rcases e with ⟨d,g⟩ | ⟨d,rfl⟩;·simp only[d,if_true,Oper.wp,g w f,Oper.upon];exact .inl h
 ·simp only[d,Bool.false_eq_true,if_false];exact h
theorem oY {j:Nat} {g i:Oper} {v:Value} (L:ops[j]? = some i) (H:g.apart ops i=true) (I:∀cs b,g.op≠.select cs b) (z:∀cs b,i.op≠.select cs b) (J:∀c a w,Q (.panic c) (a.put g.dst v) w->Q (.panic c) a w) {K:Act->World->Prop} {a:Act} {w:World} (l:cR P ops C g v a) (h:wpOp P ops Q j K (a.put g.dst v) w) : wpOp P ops Q j (λF w'=>cR P ops C g v F/\K (F.put g.dst v) w') a w:=by
 obtain⟨A,p,E⟩:=Oper.apart_spec H;have keep:∀(a:Act),cR P ops C g v a->∀u,cR P ops C g v (a.put i.dst u):=λa l u=> l.of_same (execOp_put g I a i.dst u E) (wanted_put g a i.dst u E);have s:∀d,cR P ops C g v { a with defers:=d::a.defers }:=λd=>l.of_same rfl rfl;unfold wpOp at *;simp only[L] at *;rw[wanted_put i a g.dst v A] at h;split
 ·rename_i D;simp only[D,if_true] at h;rcases h with h | ⟨m,y⟩;case inr=>exact .inr ⟨by unfold Oper.asks at *;rw[execOp_put i z a g.dst v A] at m;exact m,y⟩
  refine .inl ?_;unfold Oper.wp at *;rw[execOp_put i z a g.dst v A] at h;generalize (execOp a.eval i).run P w=r at *;cases r with
  | ok n w'=>
   cases n <;> simp only[Oper.upon] at h ⊢
   case value u=>exact⟨keep a l u,by rw[<-Act.put_comm a v u p];exact h⟩
   case skip=>exact⟨keep a l _,by rw[<-Act.put_comm a v undef p];exact h⟩
   case defer d=>
    refine⟨keep _ (s d) _,?_⟩
    rw[<-Act.put_comm _ v undef p,<-Act.put_defers]
    exact h
   case enter f args=>
    refine Calls.mono h λe G q=>?_
    cases e with
    | returned u=>exact⟨keep a l u,by rw[<-Act.put_comm a v u p];exact q⟩
    | panicked c=>exact J _ _ _ q
    | outgrown=>exact q
   case row row args=>exact Rows.mono h λu G q=>⟨keep a l u,by rw[<-Act.put_comm a v u p];exact q⟩
  | halt x w'=>
   cases x <;> simp only[Oper.upon] at h ⊢
   case panic u=>exact J _ _ _ h
 ·rename_i D;simp only[D] at h;exact⟨keep a l _,by rw[<-Act.put_comm a v undef p];exact h⟩
def cN (P:Program) (md:Region.Mode) (ops:Array Oper) (C:World->Prop) (F:Nat->Bool) (Q:Exit->Act->World->Prop):Nat->Array Bool->Act->World->Prop
 | 0,listed,a,w=>Region.ready md ops listed=[]/\Q .normal a w
 | f+1,listed,a,w=>(Region.ready md ops listed=[]->Q .normal a w)/\
  ∀i∈Region.ready md ops listed,wpOp P ops Q i (λa' w'=>(F i=true->C w')/\cN P md ops C F Q f (listed.setIfInBounds i true) a' w') a w
theorem kS {F:Nat->Bool} : ∀(f:Nat) (d:Array Bool) (a:Act) (w:World),cN P md ops C F Q f d a w->wpAny P md ops Q f d a w
 | 0,_,_,_,h=>h
 | f+1,_,_,_,h=>⟨h.1,λi hi=>wpOp_mono (λe w' g=>kS f _ e w' g.2) (h.2 i hi)⟩
def gL (md:Region.Mode) (ops:Array Oper) (listed:Array Bool):Prop:=∀j oj,ops[j]? = some oj->listed.getD j false=true->∀e∈oj.after,Region.binds md e=true->listed.getD e.on false=true
theorem gL.set {d:Array Bool} {i:Nat} (h:gL md ops d) (hi:i∈Region.ready md ops d):gL md ops (d.setIfInBounds i true):=by
 intro j q m hl e p hb;obtain⟨_,r,f,l⟩:=mem_ready.1 hi;by_cases g:i=j
 ·subst g;rw[m] at f;injection f with f;subst f
  exact getD_set_true (l e p hb)
 ·rw[getD_set_ne false g] at hl;exact getD_set_true (h j q m hl e p hb)
def vC (md:Region.Mode) (ops:Array Oper):Nat->Nat->List Nat
 | 0,_=>[]
 | f+1,j=>match ops[j]? with
  | none=>[]
  | some o=>o.after.toList.flatMap λe=>if Region.binds md e then e.on::vC md ops f e.on else []
theorem nJ {d:Array Bool} (s:gL md ops d):∀(f j:Nat),(∀g,ops[j]? = some g->∀e∈g.after,Region.binds md e=true->d.getD e.on false=true)->∀i∈vC md ops f j,d.getD i false=true
 | 0,_,_,_,hi=>by cases hi
 | f+1,j,h,i,hi=>by
  unfold vC at hi
  split at hi
  ·cases hi
  ·rename_i o w
   obtain⟨e,u,hie⟩:=List.mem_flatMap.1 hi
   split at hie
   ·rename_i hb
    have m:e∈o.after:=by simpa using u
    have p:=h o w e m hb
    rcases List.mem_cons.1 hie with rfl | hie
    ·exact p
    ·exact nJ s f e.on (λg q v l r=>s e.on g q p v l r) i hie
   ·cases hie
def v7 (md:Region.Mode) (ops:Array Oper) (F:Nat->Bool) (f:Nat) (qs:List Nat):Bool:=
 (List.range ops.size).all λj=>F j || qs.contains j || qs.all λi=>(match ops[j]? with | none=>false | some o=>o.after.any λe=>Region.binds md e && e.on == i) || (vC md ops f j).contains i
theorem mQ {F:Nat->Bool} {f:Nat} {qs:List Nat} (h:v7 md ops F f qs=true) {d:Array Bool} (v:gL md ops d) {i j:Nat} (hi:i∈qs) (s:d.getD i true=false) (w:j∈Region.ready md ops d) (u:j∉qs):F j=true:=by
 obtain⟨_,y,l,m⟩:=mem_ready.1 w;have r:j<ops.size:=(aE l).1;have p:d.getD i false=false:=by
  rcases Nat.lt_or_ge i d.size with h' | h';·simp[h'] at s ⊢;exact s
  ·simp[Array.getElem?_eq_none h']
 have h1:=List.all_eq_true.1 h j (List.mem_range.2 r);simp only[Bool.or_eq_true] at h1;rcases h1 with (h1 | h1) | h1;·exact h1
 ·exact absurd (by simpa using h1) u
 ·have h2:=List.all_eq_true.1 h1 i hi;simp only[l,Bool.or_eq_true] at h2;rcases h2 with h2 | h2;·obtain⟨e,q,hb⟩:=Array.any_eq_true'.1 h2;simp only[Bool.and_eq_true,beq_iff_eq] at hb;have:=m e q hb.1;rw[hb.2,p] at this;cases this
  ·have:=nJ v f j (λx g e q hb=>by rw[l] at g;injection g with g;subst g;exact m e q hb) i (by simpa using h2);rw[p] at this;cases this
theorem oH {F:Nat->Bool} {i:Nat} {q:Oper} {v:Value} (hi:ops[i]? = some q) (D:∀(j:Nat) (o:Oper) cs b,ops[j]? = some o->o.op≠.select cs b) (hQ:∀c a w,Q (.panic c) (a.put q.dst v) w->Q (.panic c) a w) (I:∀d j,gL md ops d->d.getD i true=false->j∈Region.ready md ops d->F j=true) : ∀(g:Nat) (d:Array Bool) (a:Act) (w:World),gL md ops d->C w-> (∀j p,ops[j]? = some p->j≠i->d.getD j true=false->(∀e∈p.after,Region.binds md e=true->e.on≠i)->q.apart ops p=true)-> i∈Region.ready md ops d->cR P ops C q v a-> cN P md ops C F Q g (d.setIfInBounds i true) (a.put q.dst v) w->cN P md ops C F Q (g+1) d a w:=by
 intro g;induction g with
 | zero=>
  intro d a w _ z _ l E H
  refine⟨λh=>(by rw[h] at l;cases l),λj s=>?_⟩
  by_cases f:j=i
  ·subst f;exact E.wpOp hi z ⟨λ_=>z,H⟩
  ·have:=ready_mono s f
   rw[H.1] at this
   cases this
 | succ g ih=>
  intro d a w O z r l E H
  refine⟨λh=>(by rw[h] at l;cases l),λj s=>?_⟩
  by_cases f:j=i
  ·subst f;exact E.wpOp hi z ⟨λ_=>z,H⟩
  ·have m:=H.2 j (ready_mono s f)
   obtain⟨x,p,y,M⟩:=mem_ready.1 s
   have L:∀e∈p.after,Region.binds md e=true->e.on≠i:=λe Y hb R=>by
    have m:=M e Y hb
    have N:=(mem_ready.1 l).1
    rw[R] at m
    rcases Nat.lt_or_ge i d.size with h' | h'
    ·simp[h'] at N m;rw[N] at m;cases m
    ·simp[Array.getElem?_eq_none h'] at m
   have W:=oY y (r j p y f x L) (λcs b=>D i q cs b hi) (λcs b=>D j p cs b y) hQ E m
   have u:∀k A,ops[k]? = some A->k≠i->(d.setIfInBounds j true).getD k true=false->
     (∀e∈A.after,Region.binds md e=true->e.on≠i)->q.apart ops A=true:=λk A Z S J V=>by
    refine r k A Z S ?_ V
    by_cases K:j=k
    ·subst K;exact x
    ·rw[getD_set_ne true K] at J;exact J
   have X:=I d j O (mem_ready.1 l).1 s
   refine wpOp_mono (λa' w' G=>⟨G.2.1,ih (d.setIfInBounds j true) a' w' (O.set s) (G.2.1 X) u (ready_mono l (Ne.symm f)) G.1 ?_⟩) W
   rw[Array.setIfInBounds_comm _ _ f]
   exact G.2.2
def gA (P:Program) (ops:Array Oper) (C:World->Prop) (F:Nat->Bool) (Q:Exit->Act->World->Prop):List Nat->Act->World->Prop
 | [],a,w=>Q .normal a w
 | i::rest,a,w=>wpOp P ops Q i (λa' w'=>(F i=true->C w')/\gA P ops C F Q rest a' w') a w
def acC (md:Region.Mode) (ops:Array Oper):List Nat->Array Bool->Bool
 | [],listed=>(Region.ready md ops listed).isEmpty
 | i::rest,listed=>decide (Region.ready md ops listed=[i]) && acC md ops rest (listed.setIfInBounds i true)
theorem d9 {F:Nat->Bool} : ∀(ms:List Nat) (d:Array Bool) (a:Act) (w:World),acC md ops ms d=true->gA P ops C F Q ms a w->cN P md ops C F Q ms.length d a w
 | [],d,a,w,hB,h=>⟨by simpa [acC] using hB,h⟩
 | i::rest,d,a,w,hB,h=>by
  simp only[acC,Bool.and_eq_true,decide_eq_true_eq] at hB
  refine⟨λe=>(by rw[hB.1] at e;cases e),λj f=>?_⟩
  rw[hB.1] at f
  obtain rfl:j=i:=by simpa using f
  exact wpOp_mono (λl w' g=>⟨g.1,d9 rest _ l w' hB.2 g.2⟩) h
def rG (md:Region.Mode) (ops:Array Oper) (ms:List Nat):List Nat->Array Bool->Bool
 | [],listed=>acC md ops ms listed
 | i::rest,listed=>(Region.ready md ops listed).contains i && Region.free md ops listed i && ((ops[i]?).map j6).getD false && rG md ops ms rest (listed.setIfInBounds i true)
def adO (md:Region.Mode) (ops:Array Oper) (qs ms fl:List Nat):Bool:=
 Region.noSelect ops && v7 md ops (λj=>qs.contains j || fl.contains j) ops.size qs && rG md ops ms qs (Array.replicate ops.size false) && decide (qs.length+ms.length=ops.size)
theorem pV {F:Nat->Bool} {ms qs0:List Nat} (m:Region.noSelect ops=true) (z:∀(c:_) (a:Act) (d:Option Tmp) (v:Value) (w:World),Q (.panic c) (a.put d v) w->Q (.panic c) a w)
  (g:∀e i j,i∈qs0->gL md ops e->e.getD i true=false->j∈Region.ready md ops e->F j=true) {w:World} (A:C w) :
  ∀(qs:List Nat) (e:Array Bool) (a:Act),(∀i∈qs,i∈qs0)->gL md ops e->rG md ops ms qs e=true->
   wpQuiet P ops C (λr=>gA P ops C F Q ms r w) (qs.filterMap (ops[·]?)) a->cN P md ops C F Q (qs.length+ms.length) e a w
 | [],e,a,_,_,hB,h=>by
  rw[List.length_nil,Nat.zero_add]
  exact d9 ms e a w hB h
 | i::rest,e,a,hsub,hc,hB,h=>by
  simp only[rG,Bool.and_eq_true] at hB
  obtain⟨⟨⟨D,hf⟩,p⟩,x⟩:=hB
  have q:i∈Region.ready md ops e:=by simpa using D
  cases f:ops[i]? with
  | none=>rw[f] at p;cases p
  | some o=>
   rw[f] at p
   have s:j6 o=true:=p
   simp only[List.filterMap_cons,f] at h
   have u:qOp P ops C i (wpQuiet P ops C (λr=>gA P ops C F Q ms r w) (rest.filterMap (ops[·]?))) a:=by unfold qOp;simp only[f];exact h
   obtain⟨v,E,G⟩:=yieldsIn_of_qOp f u
   rw[List.length_cons,show rest.length+1+ms.length=(rest.length+ms.length)+1 by omega]
   exact oH f (Region.noSelect_spec m) (λc a w=>z c a _ _ w) (λl j y H I=>g l i j (hsub i (by simp)) y H I) _ e a w hc A (Region.free_spec f hf) q (ad8 s E)
    (pV m z g A rest _ _ (λk J=>hsub k (by simp[J])) (hc.set q) x G)
theorem fI {id:Nat} {a:Act} {w:World} {l:List Oper} (C:World->Prop) (qs ms q:List Nat) (z:P.follows .mixedOrders=true) (hB:adO .any l.toArray qs ms q=true) (A:∀(c:_) (a:Act) (d:Option Tmp) (v:Value) (w:World),Q (.panic c) (a.put d v) w->Q (.panic c) a w) (D:C w.drew) (h:wpQuiet P l.toArray C (λs=>gA P l.toArray C (λj=>qs.contains j || q.contains j) Q ms s w.drew) (qs.filterMap (l.toArray[·]?)) a):(Code.region id l.toArray true).wp P Q a w:=by
 simp only[adO,Bool.and_eq_true,decide_eq_true_eq] at hB;obtain⟨⟨⟨m,e⟩,f⟩,p⟩:=hB;have H:=pV (md:=.any) (qs0:=qs) (ms:=ms) (F:=λj=>qs.contains j || q.contains j) (Q:=Q) m A (λr i j hi u x y=>by
  by_cases g:j∈qs;·simp[g]
  ·exact mQ e u hi x y g) D qs (Array.replicate l.toArray.size false) a (λ_ h=>h) (by
  intro j E _ hl;rw[getD_replicate_false] at hl;cases hl) f h
 rw[p] at H;exact wp_region_any z (kS _ _ _ _ H)
theorem rH (l:List Oper):∀n,n<=l.length->(List.range n).filterMap (l.toArray[·]?)=l.take n
 | 0,_=>rfl
 | n+1,h=>by
  have d:n<l.length:=by omega
  rw[List.range_succ,List.filterMap_append,rH l n (by omega),List.take_succ_eq_append_getElem d]
  have e:l.toArray[n]? = some l[n]:=by rw[List.getElem?_toArray];exact lG d
  rw[List.filterMap_cons,e]
  rfl
theorem cV {id:Nat} {a:Act} {w:World} {l:List Oper} (C:World->Prop) (n:Nat) (ms e:List Nat) (g:P.follows .mixedOrders=true) (i:n<=l.length) (hB:adO .any l.toArray (List.range n) ms e=true) (m:∀(c:_) (a:Act) (d:Option Tmp) (v:Value) (w:World),Q (.panic c) (a.put d v) w->Q (.panic c) a w) (p:C w.drew) (h:wpQuiet P l.toArray C (λf=>gA P l.toArray C (λj=>(List.range n).contains j || e.contains j) Q ms f w.drew) (l.take n) a):(Code.region id l.toArray true).wp P Q a w:= fI C (List.range n) ms e g hB m p (by rw[rH l n i];exact h)
def pF (md:Region.Mode) (ops:Array Oper) (last:Array Bool):List Nat->Array Bool->Bool
 | [],listed=>listed == last
 | i::rest,listed=>(Region.ready md ops listed).contains i && Region.free md ops listed i && ((ops[i]?).map j6).getD false && pF md ops last rest (listed.setIfInBounds i true)
def adN (md:Region.Mode) (ops:Array Oper) (qs fl:List Nat) (m:Nat) (last:Array Bool):Bool:=
 Region.noSelect ops && v7 md ops (λj=>qs.contains j || fl.contains j) ops.size qs && pF md ops last qs (Array.replicate ops.size false) && decide (qs.length+m=ops.size)
theorem kT {F:Nat->Bool} {qs0:List Nat} {m:Nat} {last:Array Bool} (q:Region.noSelect ops=true) (D:∀(c:_) (a:Act) (d:Option Tmp) (v:Value) (w:World),Q (.panic c) (a.put d v) w->Q (.panic c) a w)
  (p:∀f i j,i∈qs0->gL md ops f->f.getD i true=false->j∈Region.ready md ops f->F j=true) {w:World} (E:C w) :
  ∀(qs:List Nat) (f:Array Bool) (a:Act),(∀i∈qs,i∈qs0)->gL md ops f->pF md ops last qs f=true->
   wpQuiet P ops C (λu=>cN P md ops C F Q m last u w) (qs.filterMap (ops[·]?)) a->cN P md ops C F Q (qs.length+m) f a w
 | [],f,a,_,_,hB,h=>by
  rw[List.length_nil,Nat.zero_add]
  have e:f=last:=by simpa [pF] using hB
  rw[e]
  exact h
 | i::rest,f,a,hsub,hc,hB,h=>by
  simp only[pF,Bool.and_eq_true] at hB
  obtain⟨⟨⟨G,hf⟩,r⟩,z⟩:=hB
  have s:i∈Region.ready md ops f:=by simpa using G
  cases g:ops[i]? with
  | none=>rw[g] at r;cases r
  | some o=>
   rw[g] at r
   have x:j6 o=true:=r
   simp only[List.filterMap_cons,g] at h
   have y:qOp P ops C i (wpQuiet P ops C (λu=>cN P md ops C F Q m last u w) (rest.filterMap (ops[·]?))) a:=by unfold qOp;simp only[g];exact h
   obtain⟨v,H,I⟩:=yieldsIn_of_qOp g y
   rw[List.length_cons,show rest.length+1+m=(rest.length+m)+1 by omega]
   exact oH g (Region.noSelect_spec q) (λc a w=>D c a _ _ w) (λl j A J K=>p l i j (hsub i (by simp)) A J K) _ f a w hc E (Region.free_spec g hf) s (ad8 x H)
    (kT q D p E rest _ _ (λk L=>hsub k (by simp[L])) (hc.set s) z I)
theorem gQ {id:Nat} {a:Act} {w:World} {l:List Oper} (C:World->Prop) (qs r:List Nat) (m:Nat) (last:Array Bool) (u:List Oper) (D:P.follows .mixedOrders=true) (hB:adN .any l.toArray qs r m last=true) (E:qs.filterMap (l.toArray[·]?)=u) (G:∀(c:_) (a:Act) (d:Option Tmp) (v:Value) (w:World),Q (.panic c) (a.put d v) w->Q (.panic c) a w) (I:C w.drew) (h:wpQuiet P l.toArray C (λx=>cN P .any l.toArray C (λj=>qs.contains j || r.contains j) Q m last x w.drew) u a):(Code.region id l.toArray true).wp P Q a w:=by
 subst E;simp only[adN,Bool.and_eq_true,decide_eq_true_eq] at hB;obtain⟨⟨⟨p,e⟩,f⟩,q⟩:=hB;have H:=kT (md:=.any) (qs0:=qs) (m:=m) (F:=λj=>qs.contains j || r.contains j) (Q:=Q) p G (λs i j hi y z A=>by
  by_cases g:j∈qs;·simp[g]
  ·exact mQ e y hi z A g) I qs (Array.replicate l.toArray.size false) a (λ_ h=>h) (by
  intro j J _ hl;rw[getD_replicate_false] at hl;cases hl) f h
 rw[q] at H;exact wp_region_any D (kS _ _ _ _ H)
theorem qU {F:Nat->Bool} {f i k:Nat} {m p:Oper} {d:Array Bool} {a:Act} {w:World} (r:Region.ready md ops d=[i,k]) (hi:ops[i]? = some m) (s:ops[k]? = some p) (g:∀K:Act->World->Prop,(∀a w,(F i=true->C w)->cN P md ops C F Q f (d.setIfInBounds i true) a w->K a w)->if Region.wanted m (yielded ops a.tmps) then m.wp P a w K Q else K (a.put m.dst undef) w) (l:∀K:Act->World->Prop,(∀a w,(F k=true->C w)->cN P md ops C F Q f (d.setIfInBounds k true) a w->K a w)->if Region.wanted p (yielded ops a.tmps) then p.wp P a w K Q else K (a.put p.dst undef) w) : cN P md ops C F Q (f+1) d a w:=by
 refine⟨λh=>(by rw[r] at h;cases h),λj hj=>?_⟩;rw[r] at hj;rcases List.mem_cons.1 hj with rfl | hj
 ·have:=g (λq w'=>(F j=true->C w')/\cN P md ops C F Q f (d.setIfInBounds j true) q w') (λ_ _ g l=>⟨g,l⟩);unfold wpOp;simp only[hi];split;·rename_i e;rw[if_pos e] at this;exact .inl this
  ·rename_i e;rw[if_neg e] at this;exact this
 ·obtain rfl:j=k:=by simpa using hj
  have:=l (λq w'=>(F j=true->C w')/\cN P md ops C F Q f (d.setIfInBounds j true) q w') (λ_ _ g l=>⟨g,l⟩);unfold wpOp;simp only[s];split;·rename_i e;rw[if_pos e] at this;exact .inl this
  ·rename_i e;rw[if_neg e] at this;exact this
theorem bA {F:Nat->Bool} {i:Nat} {o:Oper} {rest:List Nat} {a:Act} {w:World} (j:ops[i]? = some o) (h:∀K:Act->World->Prop,(∀a w,(F i=true->C w)->gA P ops C F Q rest a w->K a w)->if Region.wanted o (yielded ops a.tmps) then o.wp P a w K Q else K (a.put o.dst undef) w):gA P ops C F Q (i::rest) a w:=by
 have:=h (λd w'=>(F i=true->C w')/\gA P ops C F Q rest d w') (λ_ _ f g=>⟨f,g⟩);show wpOp P ops Q i (λd w'=>(F i=true->C w')/\gA P ops C F Q rest d w') a w;unfold wpOp;simp only[j];split;·rename_i e;rw[if_pos e] at this;exact .inl this
 ·rename_i e;rw[if_neg e] at this;exact this
theorem bP {F:Nat->Bool} : ∀(ms:List Nat) (a:Act) (w:World),(ms.all λj=>!F j)=true->(ms.all λj=>(ops[j]?).isSome)=true->wpList P ops Q (ms.filterMap (ops[·]?)) a w->gA P ops C F Q ms a w
 | [],_,_,_,_,h=>h
 | i::rest,a,w,hF,hS,h=>by
  simp only[List.all_cons,Bool.and_eq_true,Bool.not_eq_true'] at hF hS
  cases f:ops[i]? with
  | none=>rw[f] at hS;cases hS.1
  | some o=>
   simp only[List.filterMap_cons,f] at h
   show wpOp P ops Q i _ a w
   unfold wpOp
   simp only[f]
   have d:if Region.wanted o (yielded ops a.tmps) then o.wp P a w (wpList P ops Q (rest.filterMap (ops[·]?))) Q\/(o.asks P a w/\LetsOut Q) else wpList P ops Q (rest.filterMap (ops[·]?)) (a.put o.dst undef) w:=h
   split
   ·rename_i g
    rw[if_pos g] at d
    exact d.imp (Oper.wp_mono λl w' m=>⟨λe=>(by rw[hF.1] at e;cases e),bP rest l w' hF.2 hS.2 m⟩) id
   ·rename_i g
    rw[if_neg g] at d
    exact⟨λe=>(by rw[hF.1] at e;cases e),bP rest _ _ hF.2 hS.2 d⟩
end
theorem ad9 {B b:Nat} (hB:B<=b) {d:World} : ∀(vs:List Value) (o:Nat) (w:World),Below B d w->Below B d (w.setCells b o vs)
 | [],_,_,h=>h
 | v::r,o,w,h=>by
  rw[World.setCells]
  exact ad9 hB r (o+1) _ (h.setCell hB _)
theorem uJ {w:World} {g:Nat} {cs:Array Value} {t:TypeId} {n:Nat} (h:w.heap[g]? = some (.cells cs t (0,0))) (e:n<=cs.size):w.there g 0 n:=λj d=>by
 rw[Nat.zero_add]
 refine⟨?_,frozen_of_row w g j _ _ h⟩
 rw[cell_of_row w g j _ _ _ h,Array.getElem?_eq_getElem (by omega)]
 rfl
theorem wG (w:World) (o:Obj):(w.alloc o).drew.heap[w.heap.size]? = some o:=by show(w.heap.push o)[w.heap.size]? = some o;exact Array.getElem?_push_size
end
section
open Go.RowKit
theorem aJ (w:World) (o:Obj):(w.alloc o).heap[w.heap.size]? = some o:=by show(w.heap.push o)[w.heap.size]? = some o;exact Array.getElem?_push_size
theorem aY {w:World} {k:Nat} {o:Obj} (h:w.heap[k]? = some o) (p:Obj):(w.alloc p).heap[k]? = some o:= ((aB w p).block k (aE h).1).trans h
theorem Below.set_row {B g:Nat} {w w':World} (h:Below B w w') (e:B<=g) (cs:Array Value):Below B w (w'.setRow g cs):= ⟨h.os,h.tape,h.output,by rw[size_setRow];exact h.size,λk d=>(setRow_other w' g k cs (by omega)).trans (h.block k d)⟩
end
end Go.Proofs.YtjaphgpkkfdaaaaGreatDoor
