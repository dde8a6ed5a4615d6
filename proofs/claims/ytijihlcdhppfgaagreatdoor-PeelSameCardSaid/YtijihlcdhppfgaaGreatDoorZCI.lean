/- A part of the walk. -/
import Derived.Test.YtijihlcdhppfgaaGreatDoorZCE
import Derived.Test.YtijihlcdhppfgaaGreatDoorZDD
import Derived.Test.YtijihlcdhppfgaaGreatDoorZBX
set_option maxHeartbeats 16000000
set_option maxRecDepth 100000
set_option linter.all false
namespace Go.Proofs.YtijihlcdhppfgaaGreatDoor
open Tryz
section
open Go.RowKit
theorem cut_c2 (ca:List Value) (t:aH) (v:Value) (tl:List Int) (w:World) (ht:bI w w.heap.size ca t) (hv:aB w w.heap.size 1 gB v tl) (hsm:aa1 t):Calls prog 24 #[.agg ⟨ca⟩,v] w (jX t tl w):=
 (cut_b ca t v tl w ht hv hsm.ins hsm.exitsLen fun x h=>by
  rcases h with rfl | rfl | h
  ·exact hsm.back
  ·exact hsm.turn
  ·exact hsm.exits x h).mono fun _ _ ⟨cs,a,b,d⟩=>⟨cs,a,d _ (fun _ _ _=>rfl),b,d⟩
theorem cut_c (ca:List Value) (t:aH) (v:Value) (tl:List Int) (w:World) (ht:bI w w.heap.size ca t) (hv:aB w w.heap.size 1 gB v tl) (hsm:aa1 t):Calls prog 24 #[.agg ⟨ca⟩,v] w (sV t tl w):=
 (cut_c2 ca t v tl w ht hv hsm).mono fun _ _ h=>h.one
theorem bI.cells {w:World} {B:Nat} {cs:List Value} {t:aH} (h:bI w B cs t):∃d f g j l p q r s u v x,cs=[.int .i64 t.fn,.int .i64 t.at_,.int .i64 t.loop,.slice d t.ins.length f,.slice g t.exits.length j,.int .i64 t.turn.at_,.int .i64 t.turn.steps,.slice l t.turn.sets.length p,.slice q t.turn.makes.length r,.int .i64 t.back.at_,.int .i64 t.back.steps,.slice s t.back.sets.length u,.slice v t.back.makes.length x]/\t.ins.length<=maxLen:=by obtain⟨i,e,z,cb,rfl,⟨d,f,rfl,l1,y,-⟩,⟨g,j,rfl,-⟩,⟨s1,A,rfl,⟨l,p,rfl,-⟩,⟨q,r,rfl,-⟩,-⟩,⟨D,E,rfl,⟨s,u,rfl,-⟩,⟨v,x,rfl,-⟩,-⟩,-⟩:=h;exact⟨d,f,g,j,l,p,q,r,s,u,v,x,rfl,Nat.le_trans l1 y⟩
end
section
open Go.RowKit Go.Maps
end
section
open Go.RowKit
theorem agV (v u:Value) (xs g:List oL) (B:Nat) (w:World) (P:aB w B 2 uW v xs) (R:aB w B 2 uW u g) (hB:B<=w.heap.size) : Calls prog 56 #[v,u] w λe w'=>e=.returned (.bool (decide (xs=g)))/\Below w.heap.size w w':=by
 obtain⟨A,b6,rfl,c0,Y,-⟩:=id P;obtain⟨A',b0,rfl,b2,J,-⟩:=id R;unfold maxLen at Y J;have HX:=hI P;have HY:=hI R;clear P R;by_cases hl:xs.length=g.length
 ·have b4:xs.length<=g.length:=by omega
  have b5:g.length<=xs.length:=by omega
  have X:((xs.length:Int) != (g.length:Int))=false:=by simp;omega
  clear hl;go_enter func56,ntmps56;go_wp2_with fail;go_loopw [14] (λk wr=>∃d:Nat,k=.int .i64 d/\d<=xs.length/\Hid (xs.take d=g.take d)/\Below w.heap.size w wr) (λk _=>xs.length - (intOf k).toNat);case atStart=>exact⟨0,rfl,by omega,hI rfl,Below.refl _ _⟩
  case round=>
   obtain⟨d,rfl,hk,Z,G⟩:=hrel;have f:=hI G;clear G;by_cases a5:d<xs.length
   ·obtain⟨b,q,x,cs,rfl,hb,H,a0,hR,D⟩:=HX.o.at_ a5;obtain⟨b',h,y,c1,rfl,a1,I,K,a2,l⟩:=HY.o.at_ (i:=d) (by omega);obtain⟨L,M⟩:=x;obtain⟨N,O⟩:=y;obtain⟨rfl,_⟩:=hR;obtain⟨rfl,_⟩:=a2;have g0:wr.cell? ⟨b,q+d*2,none⟩=some (.int .i64 L):=(f.o.cell (p:=⟨b,q+d*2,none⟩) (by simp;omega)).trans (D 0 _ rfl);have g1:wr.cell? ⟨b,q+d*2+1,none⟩=some (.int .i64 M):=(f.o.cell (p:=⟨b,q+d*2+1,none⟩) (by simp;omega)).trans (D 1 _ rfl);have g2:wr.cell? ⟨b',h+d*2,none⟩=some (.int .i64 N):=(f.o.cell (p:=⟨b',h+d*2,none⟩) (by simp;omega)).trans (l 0 _ rfl);have g3:wr.cell? ⟨b',h+d*2+1,none⟩=some (.int .i64 O):=(f.o.cell (p:=⟨b',h+d*2+1,none⟩) (by simp;omega)).trans (l 1 _ rfl);have l0:b<wr.heap.size:=Nat.lt_of_lt_of_le hb (Nat.le_trans hB f.o.size);have l1:b'<wr.heap.size:=Nat.lt_of_lt_of_le a1 (Nat.le_trans hB f.o.size);have r:=hI H;have s:=hI I;clear H I D l a0 K;by_cases E:L=N
    ·by_cases F:M=O
     ·subst E F;go_wp2_with fail;refine wp_region_quiet_lit (by kernel_rfl) (by kernel_rfl) ?_;repeat (go_big_quiet_step (fail))
      refine wpQuiet_nil ?_;intro w6 j;obtain⟨nq,rfl⟩:=j;go_wp2_with fail;go_roundw;case rel=>exact⟨d+1,by go_num,by omega,hI (by rw[List.take_add_one,List.take_add_one,Z.o,r.o,s.o]),(f.o.alloc f.o.size _).trans ⟨rfl,rfl,rfl,Nat.le_refl _,λ_ _=>rfl⟩⟩
      case measure=>simp[intOf];omega
     ·have n1:(M == O)=false:=(by simpa using F);have z:=hI F;clear F;subst E;go_wp2_with fail;refine wp_region_quiet_lit (by kernel_rfl) (by kernel_rfl) ?_;repeat (go_big_quiet_step (fail))
      refine wpQuiet_nil ?_;intro w6 j;obtain⟨nq,rfl⟩:=j;go_wp2_with fail;go_ret;refine⟨?_,(f.o.alloc f.o.size _).trans ⟨rfl,rfl,rfl,Nat.le_refl _,λ_ _=>rfl⟩⟩;have:¬xs=g:=λe=>z.o (by have h1:=r.o;rw[e,s.o] at h1;injection h1 with h1;injection h1 with S V;first | exact S.symm | exact V.symm);simp[this]
    ·have n1:(L == N)=false:=(by simpa using E);have z:=hI E;clear E;go_wp2_with fail;refine wp_region_quiet_lit (by kernel_rfl) (by kernel_rfl) ?_;repeat (go_big_quiet_step (fail))
     refine wpQuiet_nil ?_;intro w6 j;obtain⟨nq,rfl⟩:=j;go_wp2_with fail;go_ret;refine⟨?_,(f.o.alloc f.o.size _).trans ⟨rfl,rfl,rfl,Nat.le_refl _,λ_ _=>rfl⟩⟩;have:¬xs=g:=λe=>z.o (by have h1:=r.o;rw[e,s.o] at h1;injection h1 with h1;injection h1 with S V;first | exact S.symm | exact V.symm);simp[this]
   ·go_wp2_with fail;go_ret;refine⟨?_,f.o⟩;have h1:xs=g:=(by have:=Z.o;rw[List.take_of_length_le (by omega),List.take_of_length_le (by omega)] at this;exact this);simp[h1]
 ·have X:((xs.length:Int) != (g.length:Int))=true:=by simp;omega
  have z:=hI hl;clear hl;go_enter func56,ntmps56;go_wp2_with fail;go_ret;refine⟨?_,Below.refl _ _⟩;have:¬xs=g:=λe=>z.o (by rw[e]);simp[this]
end
section
open Go.RowKit
theorem mO (w:World) (a b:Obj):Below w.heap.size w ((w.alloc a).alloc b):=((Below.refl w.heap.size w).alloc (Nat.le_refl _) a).alloc (by simp) b
theorem abG (j cb:List Value) (x y:dX) (w:World) (v:qW w w.heap.size j x) (z:qW w w.heap.size cb y) : Calls prog 57 #[.agg ⟨j⟩,.agg ⟨cb⟩] w λe w'=>e=.returned (.bool (decide (x=y)))/\Below w.heap.size w w':=by
 obtain⟨r,rfl,f,-⟩:=v;obtain⟨s,rfl,g,-⟩:=z;obtain⟨A,D,E,xs⟩:=x;obtain⟨F,G,H,u⟩:=y;have l:=hI f;have q:=hI g;clear f g;go_enter func57,ntmps57;go_wp2_with fail;·refine(zJ r s xs u w.heap.size _ (l.o.keep (Nat.le_refl _) (λp d=>(mO w _ _).cell d) (λ_ _ h=>h)) (q.o.keep (Nat.le_refl _) (λp d=>(mO w _ _).cell d) (λ_ _ h=>h))).mono ?_;rintro e I ⟨rfl,rfl⟩;go_wp2_with fail;go_ret;exact⟨by simp[*],mO w _ _⟩
 all_goals go_ret;exact⟨rfl,mO w _ _⟩
end
section
open Go.RowKit
theorem pA (ca cb:List Value) (x y:bX) (w:World) (hx:fM w w.heap.size ca x) (hy:fM w w.heap.size cb y) : Calls prog 28 #[.agg ⟨ca⟩,.agg ⟨cb⟩] w (aK (.bool (decide (x=y))) w):=by
 obtain⟨sa,ma,rfl,a1,a2,-⟩:=hx;obtain⟨sb,mb,rfl,b1,b2,-⟩:=hy;obtain⟨v,A,xs,f⟩:=x;obtain⟨H,K,D,j⟩:=y;obtain⟨M,Z,rfl,m1,m2,-⟩:=id a2;obtain⟨M',L,rfl,d4,d5,-⟩:=id b2;have A1:=hI a1;have A2:=hI a2;have B1:=hI b1;have B2:=hI b2;clear a1 a2 b1 b2;simp only at m1 d4;unfold maxLen at m2 d5;obtain⟨r,hr⟩:∃r:Bool,decide ((⟨v,A,xs,f⟩:bX)=⟨H,K,D,j⟩)=r:=⟨_,rfl⟩;rw[hr];have P:Hid (∀b:Bool,(v=H/\A=K/\xs=D->b=decide (f=j))->(¬(v=H/\A=K/\xs=D)->b=false)->r=b):=by
  intro b h1 h2;rw[<-hr];symm;by_cases h:v=H/\A=K/\xs=D;·obtain⟨rfl,rfl,rfl⟩:=h;rw[h1 ⟨rfl,rfl,rfl⟩];simp
  ·rw[h2 h];symm;rw[decide_eq_false_iff_not];intro e;injection e with R S e3 e4
   exact h ⟨R,S,e3⟩
 clear hr;by_cases h0:v=H/\A=K
 case neg=>
  have F:=hI (P.o false (λh=>absurd ⟨h.1,h.2.1⟩ h0) (λ_=>rfl));have hb:((v != H) || (A != K))=true:=by simp;omega
  clear P;by_cases h1:v=H;·have hn:(A != K)=true:=(by simp;omega);subst h1;clear h0 hb;go_enter func28,ntmps28;go_wp2_with fail;go_ret;exact⟨by rw[F.o];rfl,bV w _ _⟩
  ·have hn:(v != H)=true:=(by simp;omega);clear h0 hb h1;go_enter func28,ntmps28;go_wp2_with fail;go_ret;exact⟨by rw[F.o];rfl,bV w _ _⟩
 obtain⟨rfl,rfl⟩:=h0;obtain⟨w0,z⟩:∃w0,w0=(w.alloc (.cells #[.int .i64 v,.int .i64 A,sa,.slice M f.length Z] 32)).alloc (.cells #[.int .i64 v,.int .i64 A,sb,.slice M' j.length L] 32):=⟨_,rfl⟩;have l:Hid (Below w.heap.size w w0):=by rw[z];exact bV w _ _
 have ks:Hid (w.heap.size+2=w0.heap.size):=by rw[z];simp[Hid]
 have c0:Hid (w0.cell? ⟨w.heap.size,3,none⟩=some (.slice M f.length Z)):=by rw[z];exact jI _ _ _ _ _
 have c1:Hid (w0.cell? ⟨w.heap.size+1,3,none⟩=some (.slice M' j.length L)):=by rw[z];exact lN _ _ _ _ _
 have HW:=hI z;clear z;go_enter func28,ntmps28;go_wp2_with fail;rw[<-HW.o];have R:aB w0 w0.heap.size 2 uW sa xs:=A1.o.keep l.o.size (λp hp=>l.o.cell hp) (λ_ _ h=>h);have S:aB w0 w0.heap.size 2 uW sb D:=B1.o.keep l.o.size (λp hp=>l.o.cell hp) (λ_ _ h=>h);refine(agV sa sb xs D _ w0 R S (Nat.le_refl _)).mono ?_;clear R S;rintro e w1 ⟨rfl,b1⟩;have X:=hI b1;clear b1;have d0:w1.cell? ⟨w.heap.size,3,none⟩=some (.slice M f.length Z):=aC X.o c0.o;have d1:w1.cell? ⟨w.heap.size+1,3,none⟩=some (.slice M' j.length L):=aC X.o c1.o;by_cases V:xs=D
 case neg=>
  have F:=hI (P.o false (λh=>absurd h.2.2 V) (λ_=>rfl));have G:decide (xs=D)=false:=by simpa using V
  rw[G];clear V G;go_wp2_with fail;go_ret;exact⟨by rw[F.o];rfl,Below.then l.o X.o l.o.size⟩
 have G:decide (xs=D)=true:=by simpa using V
 rw[G];have HS:=hI V;clear V G;by_cases hl:f.length=j.length
 case neg=>
  have F:=hI (P.o false (λ_=>by symm;rw[decide_eq_false_iff_not];intro e;rw[e] at hl;exact hl rfl) (λ_=>rfl));have hn:((f.length:Int) != (j.length:Int))=true:=by simp;omega
  clear hl;go_wp2_with fail;go_ret;exact⟨by rw[F.o];rfl,Below.then l.o X.o l.o.size⟩
 have i6:f.length<=j.length:=by omega
 have i9:j.length<=f.length:=by omega
 have hn:((f.length:Int) != (j.length:Int))=false:=by simp;omega
 clear hl;go_wp2_with fail;go_loopw [38] (λk wr=>∃d:Nat,k=.int .i64 d/\d<=f.length/\Hid (f.take d=j.take d)/\Hid (Below w0.heap.size w0 wr)) (λk _=>f.length - (intOf k).toNat);case atStart=>exact⟨0,rfl,by omega,hI rfl,X⟩
 case round=>
  obtain⟨d,rfl,hk,he,Y⟩:=hrel;clear d0 d1;by_cases e6:d<f.length
  ·obtain⟨b,I,p,cs,rfl,hb,a5,d7,hR,J⟩:=A2.o.at_ e6;obtain⟨b',s,q,a6,rfl,N,a7,c6,a9,u⟩:=B2.o.at_ (i:=d) (by omega);have g:∀E:Up wr,Below w.heap.size w E.to:=λE=>Below.then l.o (jB Y.o E) l.o.size;have SM:Hid (∀E:Up wr,Calls prog 57 #[.agg ⟨cs⟩,.agg ⟨a6⟩] E.to λe w'=>e=.returned (.bool (decide (p=q)))/\Below E.to.heap.size E.to w'):=λE=> abG cs a6 p q E.to (hR.keep (g E).size (λ_ h=>(g E).cell h)) (a9.keep (g E).size (λ_ h=>(g E).cell h));obtain⟨pv,rfl,-⟩:=hR;obtain⟨qv,rfl,-⟩:=a9;have f0:∀E:Up wr,E.to.cell? ⟨w.heap.size,3,none⟩=some (.slice (some ⟨b,I,none⟩) f.length Z):=λE=>vE Y.o E c0.o;have f1:∀E:Up wr,E.to.cell? ⟨w.heap.size+1,3,none⟩=some (.slice (some ⟨b',s,none⟩) j.length L):=λE=>vE Y.o E c1.o;have g0:∀E:Up wr,E.to.cell? ⟨b,I+d*4,none⟩=some (.int .i64 p.cell):=λE=>((g E).cell hb).trans (J 0 _ rfl);have g1:∀E:Up wr,E.to.cell? ⟨b,I+d*4+1,none⟩=some (.int .i64 p.kind):=λE=>((g E).cell hb).trans (J 1 _ rfl);have g2:∀E:Up wr,E.to.cell? ⟨b,I+d*4+2,none⟩=some (.int .i64 p.num):=λE=>((g E).cell hb).trans (J 2 _ rfl);have g3:∀E:Up wr,E.to.cell? ⟨b,I+d*4+3,none⟩=some pv:=λE=>((g E).cell hb).trans (J 3 _ rfl);have e0:∀E:Up wr,E.to.cell? ⟨b',s+d*4,none⟩=some (.int .i64 q.cell):=λE=>((g E).cell N).trans (u 0 _ rfl);have R:∀E:Up wr,E.to.cell? ⟨b',s+d*4+1,none⟩=some (.int .i64 q.kind):=λE=>((g E).cell N).trans (u 1 _ rfl);have S:∀E:Up wr,E.to.cell? ⟨b',s+d*4+2,none⟩=some (.int .i64 q.num):=λE=>((g E).cell N).trans (u 2 _ rfl);have e3:∀E:Up wr,E.to.cell? ⟨b',s+d*4+3,none⟩=some qv:=λE=>((g E).cell N).trans (u 3 _ rfl);have a3:=hI a5;have a4:=hI a7;have d2:=hI g;have j0:(d:Int)<f.length:=(by omega);have j1:(d:Int)<j.length:=(by omega);clear a5 a7 J u d7 c6 g;go_wp2_with fail;refine aD (by kernel_rfl) (by kernel_rfl) ?_;repeat (go_big_quiet_step ((go_at_call 57;exact Calls.up (SM.o _))))
   refine wpQuiet_nil ?_;rintro _ ⟨E,rfl⟩;have HB:=hI (jB Y.o E);clear f0 f1 g0 g1 g2 g3 e0 R S e3;by_cases O:p=q
   ·subst O;simp only[decide_true];go_wp2_with fail;go_roundw;case rel=>exact⟨d+1,by go_num,by omega,hI (by rw[List.take_add_one,List.take_add_one,he.o,a3.o,a4.o]),HB⟩
    case measure=>simp[intOf];omega
   ·have G:decide (p=q)=false:=(by simpa using O);rw[G];have F:=hI O;clear O G;go_wp2_with fail;go_ret;refine⟨?_,d2.o E⟩;rw[P.o false (λ_=>?_) (λ_=>rfl)];·rfl
    symm;rw[decide_eq_false_iff_not];intro e;have h1:=a3.o;rw[e,a4.o] at h1;injection h1 with h1
    exact F.o h1.symm
  ·go_wp2_with fail;go_ret;refine⟨?_,Below.then l.o Y.o l.o.size⟩;rw[P.o true (λ_=>?_) (λh=>absurd ⟨by trivial,by trivial,HS.o⟩ h)];·rfl
   have h1:=he.o;rw[List.take_of_length_le (by omega),List.take_of_length_le (by omega)] at h1;simp[h1]
end
section
open Go.RowKit
theorem agW (v u:Value) (xs q:List aT) (B:Nat) (w:World) (hx:aB w B 8 xP v xs) (hy:aB w B 8 xP u q) (hB:B<=w.heap.size) : Calls prog 27 #[v,u] w λe w'=>e=.returned (.bool (decide (xs=q)))/\Below w.heap.size w w':=by
 obtain⟨A,d5,rfl,d6,c1,-⟩:=id hx;obtain⟨A',d0,rfl,d1,S,-⟩:=id hy;unfold maxLen at c1 S;have HX:=hI hx;have HY:=hI hy;clear hx hy;by_cases hl:xs.length=q.length
 ·have d3:xs.length<=q.length:=by omega
  have d4:q.length<=xs.length:=by omega
  have c0:((xs.length:Int) != (q.length:Int))=false:=by simp;omega
  clear hl;go_enter func27,ntmps27;go_wp2_with fail;go_loopw [14] (λk wr=>∃d:Nat,k=.int .i64 d/\d<=xs.length/\Hid (xs.take d=q.take d)/\Below w.heap.size w wr) (λk _=>xs.length - (intOf k).toNat);case atStart=>exact⟨0,rfl,by omega,hI rfl,Below.refl _ _⟩
  case round=>
   obtain⟨d,rfl,hk,he,O⟩:=hrel;have f:=hI O;clear O;by_cases c7:d<xs.length
   ·obtain⟨b,j,x,cs,rfl,hb,P,c3,hR,D⟩:=HX.o.at_ c7;obtain⟨b',g,y,d7,rfl,c5,R,V,c6,l⟩:=HY.o.at_ (i:=d) (by omega);obtain⟨X,Y,Z,xc,xn,xe,xk,xv⟩:=x;obtain⟨yo,ya,yb,yc,yn,ye,yk,yv⟩:=y;obtain⟨rfl,-⟩:=hR;obtain⟨rfl,-⟩:=c6;have g0:wr.cell? ⟨b,j+d*8,none⟩=some (.int .i64 X):=(f.o.cell (p:=⟨b,j+d*8,none⟩) (by simp;omega)).trans (D 0 _ rfl);have g1:wr.cell? ⟨b,j+d*8+1,none⟩=some (.int .i64 Y):=(f.o.cell (p:=⟨b,j+d*8+1,none⟩) (by simp;omega)).trans (D 1 _ rfl);have g2:wr.cell? ⟨b,j+d*8+2,none⟩=some (.int .i64 Z):=(f.o.cell (p:=⟨b,j+d*8+2,none⟩) (by simp;omega)).trans (D 2 _ rfl);have g3:wr.cell? ⟨b,j+d*8+3,none⟩=some (.int .i64 xc):=(f.o.cell (p:=⟨b,j+d*8+3,none⟩) (by simp;omega)).trans (D 3 _ rfl);have g4:wr.cell? ⟨b,j+d*8+4,none⟩=some (.int .i64 xn):=(f.o.cell (p:=⟨b,j+d*8+4,none⟩) (by simp;omega)).trans (D 4 _ rfl);have g5:wr.cell? ⟨b,j+d*8+5,none⟩=some (.int .i64 xe):=(f.o.cell (p:=⟨b,j+d*8+5,none⟩) (by simp;omega)).trans (D 5 _ rfl);have g6:wr.cell? ⟨b,j+d*8+6,none⟩=some (.int .i64 xk):=(f.o.cell (p:=⟨b,j+d*8+6,none⟩) (by simp;omega)).trans (D 6 _ rfl);have g7:wr.cell? ⟨b,j+d*8+7,none⟩=some (.int .i64 xv):=(f.o.cell (p:=⟨b,j+d*8+7,none⟩) (by simp;omega)).trans (D 7 _ rfl);have e0:wr.cell? ⟨b',g+d*8,none⟩=some (.int .i64 yo):=(f.o.cell (p:=⟨b',g+d*8,none⟩) (by simp;omega)).trans (l 0 _ rfl);have e1:wr.cell? ⟨b',g+d*8+1,none⟩=some (.int .i64 ya):=(f.o.cell (p:=⟨b',g+d*8+1,none⟩) (by simp;omega)).trans (l 1 _ rfl);have e2:wr.cell? ⟨b',g+d*8+2,none⟩=some (.int .i64 yb):=(f.o.cell (p:=⟨b',g+d*8+2,none⟩) (by simp;omega)).trans (l 2 _ rfl);have e3:wr.cell? ⟨b',g+d*8+3,none⟩=some (.int .i64 yc):=(f.o.cell (p:=⟨b',g+d*8+3,none⟩) (by simp;omega)).trans (l 3 _ rfl);have e4:wr.cell? ⟨b',g+d*8+4,none⟩=some (.int .i64 yn):=(f.o.cell (p:=⟨b',g+d*8+4,none⟩) (by simp;omega)).trans (l 4 _ rfl);have e5:wr.cell? ⟨b',g+d*8+5,none⟩=some (.int .i64 ye):=(f.o.cell (p:=⟨b',g+d*8+5,none⟩) (by simp;omega)).trans (l 5 _ rfl);have e6:wr.cell? ⟨b',g+d*8+6,none⟩=some (.int .i64 yk):=(f.o.cell (p:=⟨b',g+d*8+6,none⟩) (by simp;omega)).trans (l 6 _ rfl);have e7:wr.cell? ⟨b',g+d*8+7,none⟩=some (.int .i64 yv):=(f.o.cell (p:=⟨b',g+d*8+7,none⟩) (by simp;omega)).trans (l 7 _ rfl);have l0:b<wr.heap.size:=Nat.lt_of_lt_of_le hb (Nat.le_trans hB f.o.size);have l1:b'<wr.heap.size:=Nat.lt_of_lt_of_le c5 (Nat.le_trans hB f.o.size);have s:=hI P;have z:=hI R;clear P R D l c3 V;by_cases H:X=yo
    ·subst H;by_cases h1:Y=ya
     ·subst h1;by_cases I:Z=yb
      ·subst I;by_cases J:xc=yc
       ·subst J;by_cases K:xn=yn
        ·subst K;by_cases L:xe=ye
         ·subst L;by_cases M:xk=yk
          ·subst M;by_cases N:xv=yv
           ·subst N;go_wp2_with fail;refine wp_region_quiet_lit (by kernel_rfl) (by kernel_rfl) ?_;repeat (go_big_quiet_step (fail))
            refine wpQuiet_nil ?_;intro F h;obtain⟨E,rfl⟩:=h;go_wp2_with fail;go_roundw;case rel=>exact⟨d+1,by go_num,by omega,hI (by rw[List.take_add_one,List.take_add_one,he.o,s.o,z.o]),(f.o.alloc f.o.size _).trans ⟨rfl,rfl,rfl,Nat.le_refl _,λ_ _=>rfl⟩⟩
            case measure=>simp[intOf];omega
           ·have G:(xv == yv)=false:=(by simpa using N);have r:=hI N;clear N;go_wp2_with fail;refine wp_region_quiet_lit (by kernel_rfl) (by kernel_rfl) ?_;repeat (go_big_quiet_step (fail))
            refine wpQuiet_nil ?_;intro F h;obtain⟨E,rfl⟩:=h;go_wp2_with fail;go_ret;refine⟨?_,(f.o.alloc f.o.size _).trans ⟨rfl,rfl,rfl,Nat.le_refl _,λ_ _=>rfl⟩⟩;have:¬xs=q:=λe=>r.o (by have h1:=s.o;rw[e,z.o] at h1;simp only[Option.some.injEq,aT.mk.injEq,Val.mk.injEq] at h1;omega);simp[this]
          ·have G:(xk == yk)=false:=(by simpa using M);have r:=hI M;clear M;go_wp2_with fail;refine wp_region_quiet_lit (by kernel_rfl) (by kernel_rfl) ?_;repeat (go_big_quiet_step (fail))
           refine wpQuiet_nil ?_;intro F h;obtain⟨E,rfl⟩:=h;go_wp2_with fail;go_ret;refine⟨?_,(f.o.alloc f.o.size _).trans ⟨rfl,rfl,rfl,Nat.le_refl _,λ_ _=>rfl⟩⟩;have:¬xs=q:=λe=>r.o (by have h1:=s.o;rw[e,z.o] at h1;simp only[Option.some.injEq,aT.mk.injEq,Val.mk.injEq] at h1;omega);simp[this]
         ·have G:(xe == ye)=false:=(by simpa using L);have r:=hI L;clear L;go_wp2_with fail;refine wp_region_quiet_lit (by kernel_rfl) (by kernel_rfl) ?_;repeat (go_big_quiet_step (fail))
          refine wpQuiet_nil ?_;intro F h;obtain⟨E,rfl⟩:=h;go_wp2_with fail;go_ret;refine⟨?_,(f.o.alloc f.o.size _).trans ⟨rfl,rfl,rfl,Nat.le_refl _,λ_ _=>rfl⟩⟩;have:¬xs=q:=λe=>r.o (by have h1:=s.o;rw[e,z.o] at h1;simp only[Option.some.injEq,aT.mk.injEq,Val.mk.injEq] at h1;omega);simp[this]
        ·have G:(xn == yn)=false:=(by simpa using K);have r:=hI K;clear K;go_wp2_with fail;refine wp_region_quiet_lit (by kernel_rfl) (by kernel_rfl) ?_;repeat (go_big_quiet_step (fail))
         refine wpQuiet_nil ?_;intro F h;obtain⟨E,rfl⟩:=h;go_wp2_with fail;go_ret;refine⟨?_,(f.o.alloc f.o.size _).trans ⟨rfl,rfl,rfl,Nat.le_refl _,λ_ _=>rfl⟩⟩;have:¬xs=q:=λe=>r.o (by have h1:=s.o;rw[e,z.o] at h1;simp only[Option.some.injEq,aT.mk.injEq,Val.mk.injEq] at h1;omega);simp[this]
       ·have G:(xc == yc)=false:=(by simpa using J);have r:=hI J;clear J;go_wp2_with fail;refine wp_region_quiet_lit (by kernel_rfl) (by kernel_rfl) ?_;repeat (go_big_quiet_step (fail))
        refine wpQuiet_nil ?_;intro F h;obtain⟨E,rfl⟩:=h;go_wp2_with fail;go_ret;refine⟨?_,(f.o.alloc f.o.size _).trans ⟨rfl,rfl,rfl,Nat.le_refl _,λ_ _=>rfl⟩⟩;have:¬xs=q:=λe=>r.o (by have h1:=s.o;rw[e,z.o] at h1;simp only[Option.some.injEq,aT.mk.injEq,Val.mk.injEq] at h1;omega);simp[this]
      ·have G:(Z == yb)=false:=(by simpa using I);have r:=hI I;clear I;go_wp2_with fail;refine wp_region_quiet_lit (by kernel_rfl) (by kernel_rfl) ?_;repeat (go_big_quiet_step (fail))
       refine wpQuiet_nil ?_;intro F h;obtain⟨E,rfl⟩:=h;go_wp2_with fail;go_ret;refine⟨?_,(f.o.alloc f.o.size _).trans ⟨rfl,rfl,rfl,Nat.le_refl _,λ_ _=>rfl⟩⟩;have:¬xs=q:=λe=>r.o (by have h1:=s.o;rw[e,z.o] at h1;simp only[Option.some.injEq,aT.mk.injEq,Val.mk.injEq] at h1;omega);simp[this]
     ·have G:(Y == ya)=false:=(by simpa using h1);have r:=hI h1;clear h1;go_wp2_with fail;refine wp_region_quiet_lit (by kernel_rfl) (by kernel_rfl) ?_;repeat (go_big_quiet_step (fail))
      refine wpQuiet_nil ?_;intro F h;obtain⟨E,rfl⟩:=h;go_wp2_with fail;go_ret;refine⟨?_,(f.o.alloc f.o.size _).trans ⟨rfl,rfl,rfl,Nat.le_refl _,λ_ _=>rfl⟩⟩;have:¬xs=q:=λe=>r.o (by have h1:=s.o;rw[e,z.o] at h1;simp only[Option.some.injEq,aT.mk.injEq,Val.mk.injEq] at h1;omega);simp[this]
    ·have G:(X == yo)=false:=(by simpa using H);have r:=hI H;clear H;go_wp2_with fail;refine wp_region_quiet_lit (by kernel_rfl) (by kernel_rfl) ?_;repeat (go_big_quiet_step (fail))
     refine wpQuiet_nil ?_;intro F h;obtain⟨E,rfl⟩:=h;go_wp2_with fail;go_ret;refine⟨?_,(f.o.alloc f.o.size _).trans ⟨rfl,rfl,rfl,Nat.le_refl _,λ_ _=>rfl⟩⟩;have:¬xs=q:=λe=>r.o (by have h1:=s.o;rw[e,z.o] at h1;simp only[Option.some.injEq,aT.mk.injEq,Val.mk.injEq] at h1;omega);simp[this]
   ·go_wp2_with fail;go_ret;refine⟨?_,f.o⟩;have h1:xs=q:=(by have:=he.o;rw[List.take_of_length_le (by omega),List.take_of_length_le (by omega)] at this;exact this);simp[h1]
 ·have c0:((xs.length:Int) != (q.length:Int))=true:=by simp;omega
  have r:=hI hl;clear hl;go_enter func27,ntmps27;go_wp2_with fail;go_ret;refine⟨?_,Below.refl _ _⟩;have:¬xs=q:=λe=>r.o (by rw[e]);simp[this]
end
section
open Go.RowKit
theorem z8 (ca cb:List Value) (x y:aH) (w:World) (hx:bI w w.heap.size ca x) (hy:bI w w.heap.size cb y) : Calls prog 12 #[.agg ⟨ca⟩,.agg ⟨cb⟩] w (aK (.bool (decide (x=y))) w):=by
 obtain⟨J,K,S,xs,j,z,A⟩:=x;obtain⟨yf,ya,yl,V,H,D,F⟩:=y;obtain⟨iv,ev,ct,u7,rfl,a1,a2,a3,a4,-⟩:=hx;obtain⟨u8,v0,v1,r4,rfl,b1,b2,b3,b4,-⟩:=hy;obtain⟨r,hr⟩:∃r:Bool,decide ((⟨J,K,S,xs,j,z,A⟩:aH)=⟨yf,ya,yl,V,H,D,F⟩)=r:=⟨_,rfl⟩;rw[hr];have Z:Hid (∀b:Bool,((J=yf/\K=ya/\S=yl)/\xs=V/\z=D/\A=F->b=decide (j=H))->(¬((J=yf/\K=ya/\S=yl)/\xs=V/\z=D/\A=F)->b=false)->r=b):=by
  intro b h1 h2;rw[<-hr];symm;by_cases h:(J=yf/\K=ya/\S=yl)/\xs=V/\z=D/\A=F;·obtain⟨⟨rfl,rfl,rfl⟩,rfl,rfl,rfl⟩:=h;rw[h1 ⟨⟨rfl,rfl,rfl⟩,rfl,rfl,rfl⟩];simp
  ·rw[h2 h];symm;rw[decide_eq_false_iff_not];intro e;injection e with e1 e2 e3 e4 e5 e6 e7
   exact h ⟨⟨e1,e2,e3⟩,e4,e6,e7⟩
 clear hr;obtain⟨M,mc,rfl,m1,m2,-⟩:=id a1;obtain⟨M',h5,rfl,m8,n0,-⟩:=id b1;obtain⟨N,nc,rfl,n1,n2,-⟩:=id a2;obtain⟨N',a9,rfl,n3,n4,-⟩:=id b2;have A1:=hI a1;have A2:=hI a2;have A3:=hI a3;have A4:=hI a4;have B1:=hI b1;have B2:=hI b2;have B3:=hI b3;have B4:=hI b4;obtain⟨t1,t2,rfl,-⟩:=a3;obtain⟨t3,t4,rfl,-⟩:=a4;obtain⟨c7,c8,rfl,-⟩:=b3;obtain⟨c9,e9,rfl,-⟩:=b4;clear a1 a2 b1 b2;simp only at n1 n3 m1 m8;unfold maxLen at m2 n0 n2 n4;by_cases h0:J=yf/\K=ya/\S=yl
 case neg=>
  have G:=hI (Z.o false (λh=>absurd h.1 h0) (λ_=>rfl));clear Z;by_cases h1:J=yf
  ·subst h1;by_cases h2:K=ya;·subst h2;have hn:(S != yl)=true:=(by simp;intro e;exact h0 ⟨rfl,rfl,e⟩);clear h0;go_enter func12,ntmps12;go_wp2_with fail;go_ret;exact⟨by rw[G.o];rfl,bV w _ _⟩
   ·have hn:(K != ya)=true:=(by simpa using h2);clear h0 h2;go_enter func12,ntmps12;go_wp2_with fail;go_ret;exact⟨by rw[G.o];rfl,bV w _ _⟩
  ·have hn:(J != yf)=true:=(by simpa using h1);clear h0 h1;go_enter func12,ntmps12;go_wp2_with fail;go_ret;exact⟨by rw[G.o];rfl,bV w _ _⟩
 obtain⟨rfl,rfl,rfl⟩:=h0;obtain⟨c0,f2⟩:∃c0:Array Value,c0=#[.int .i64 J,.int .i64 K,.int .i64 S,.slice M xs.length mc,.slice N j.length nc,.int .i64 z.at_,.int .i64 z.steps,t1,t2,.int .i64 A.at_,.int .i64 A.steps,t3,t4]:=⟨_,rfl⟩;obtain⟨c1,f3⟩:∃c1:Array Value,c1=#[.int .i64 J,.int .i64 K,.int .i64 S,.slice M' V.length h5,.slice N' H.length a9,.int .i64 D.at_,.int .i64 D.steps,c7,c8,.int .i64 F.at_,.int .i64 F.steps,c9,e9]:=⟨_,rfl⟩;obtain⟨w0,X⟩:∃w0,w0=(w.alloc (.cells c0 34)).alloc (.cells c1 34):=⟨_,rfl⟩;have k0:Hid (Below w.heap.size w w0):=by rw[X];exact bV w _ _
 have f0:Hid (∀i,w0.cell? ⟨w.heap.size,i,none⟩=c0[i]?):=by rw[X];exact λi=>jI _ _ _ _ _
 have f1:Hid (∀i,w0.cell? ⟨w.heap.size+1,i,none⟩=c1[i]?):=by rw[X];exact λi=>lN _ _ _ _ _
 rw[f2,f3] at X;rw[f2] at f0;rw[f3] at f1;clear f2 f3;have HW:=hI X;clear X;have l:Hid (∀w1,Below w0.heap.size w0 w1->Below w.heap.size w w1):=λw1 k=>Below.then k0.o k k0.o.size;have I:Hid (∀w1,Below w0.heap.size w0 w1->∀i v,(#[.int .i64 J,.int .i64 K,.int .i64 S,.slice M xs.length mc,.slice N j.length nc,.int .i64 z.at_,.int .i64 z.steps,t1,t2,.int .i64 A.at_,.int .i64 A.steps,t3,t4]:Array Value)[i]? = some v->w1.cell? ⟨w.heap.size,i,none⟩=some v):=λw1 k i v hv=>aC k ((f0.o i).trans hv);have R:Hid (∀w1,Below w0.heap.size w0 w1->∀i v,(#[.int .i64 J,.int .i64 K,.int .i64 S,.slice M' V.length h5,.slice N' H.length a9,.int .i64 D.at_,.int .i64 D.steps,c7,c8,.int .i64 F.at_,.int .i64 F.steps,c9,e9]:Array Value)[i]? = some v->w1.cell? ⟨w.heap.size+1,i,none⟩=some v):=λw1 k i v hv=>aC k ((f1.o i).trans hv);have u2:Hid (Below w0.heap.size w0 w0):=Below.refl _ _;go_enter func12,ntmps12;go_wp2_with fail;rw[<-HW.o];refine(agW _ _ xs V w.heap.size w0 (A1.o.keep (Nat.le_refl _) (λp P=>k0.o.cell P) (λ_ _ h=>h)) (B1.o.keep (Nat.le_refl _) (λp P=>k0.o.cell P) (λ_ _ h=>h)) k0.o.size).mono ?_;rintro e w1 ⟨rfl,k1⟩;have g:=hI k1;clear k1;by_cases hs:xs=V
 case neg=>
  have G:=hI (Z.o false (λh=>absurd h.2.1 hs) (λ_=>rfl));have d:decide (xs=V)=false:=by simpa using hs
  rw[d];clear hs d;go_wp2_with fail;go_ret;exact⟨by rw[G.o];rfl,l.o _ g.o⟩
 have d:decide (xs=V)=true:=by simpa using hs
 rw[d];have HS:=hI hs;clear hs d;have d0:w1.cell? ⟨w.heap.size,4,none⟩=some (.slice N j.length nc):=I.o _ g.o 4 _ rfl;have d1:w1.cell? ⟨w.heap.size+1,4,none⟩=some (.slice N' H.length a9):=R.o _ g.o 4 _ rfl;by_cases hl:j.length=H.length
 case neg=>
  have G:=hI (Z.o false (λ_=>by symm;rw[decide_eq_false_iff_not];intro e;rw[e] at hl;exact hl rfl) (λ_=>rfl));have hn:((j.length:Int) != (H.length:Int))=true:=by simp;omega
  clear hl;go_wp2_with fail;go_ret;exact⟨by rw[G.o];rfl,l.o _ g.o⟩
 have u3:j.length<=H.length:=by omega
 have u4:H.length<=j.length:=by omega
 have hn:((j.length:Int) != (H.length:Int))=false:=by simp;omega
 have d2:w1.cell? ⟨w.heap.size,5,none⟩=some (.int .i64 z.at_):=I.o _ g.o 5 _ rfl;have d3:w1.cell? ⟨w.heap.size,6,none⟩=some (.int .i64 z.steps):=I.o _ g.o 6 _ rfl;have d4:w1.cell? ⟨w.heap.size,7,none⟩=some t1:=I.o _ g.o 7 _ rfl;have d5:w1.cell? ⟨w.heap.size,8,none⟩=some t2:=I.o _ g.o 8 _ rfl;have d6:w1.cell? ⟨w.heap.size+1,5,none⟩=some (.int .i64 D.at_):=R.o _ g.o 5 _ rfl;have d7:w1.cell? ⟨w.heap.size+1,6,none⟩=some (.int .i64 D.steps):=R.o _ g.o 6 _ rfl;have d8:w1.cell? ⟨w.heap.size+1,7,none⟩=some c7:=R.o _ g.o 7 _ rfl;have d9:w1.cell? ⟨w.heap.size+1,8,none⟩=some c8:=R.o _ g.o 8 _ rfl;clear hl;go_wp2_with fail;refine(pA _ _ z D w1 (A3.o.keep (l.o _ g.o).size (λp P=>(l.o _ g.o).cell P)) (B3.o.keep (l.o _ g.o).size (λp P=>(l.o _ g.o).cell P))).mono ?_;rintro e Y ⟨rfl,k2⟩;have s:=hI (Below.next g.o k2);clear k2 d0 d1 d2 d3 d4 d5 d6 d7 d8 d9;by_cases ht:z=D
 case neg=>
  have G:=hI (Z.o false (λh=>absurd h.2.2.1 ht) (λ_=>rfl));have d:decide (z=D)=false:=by simpa using ht
  rw[d];clear ht d;go_wp2_with fail;go_ret;exact⟨by rw[G.o];rfl,l.o _ s.o⟩
 have d:decide (z=D)=true:=by simpa using ht
 rw[d];have HT:=hI ht;clear ht d;have d2:Y.cell? ⟨w.heap.size,9,none⟩=some (.int .i64 A.at_):=I.o _ s.o 9 _ rfl;have d3:Y.cell? ⟨w.heap.size,10,none⟩=some (.int .i64 A.steps):=I.o _ s.o 10 _ rfl;have d4:Y.cell? ⟨w.heap.size,11,none⟩=some t3:=I.o _ s.o 11 _ rfl;have d5:Y.cell? ⟨w.heap.size,12,none⟩=some t4:=I.o _ s.o 12 _ rfl;have d6:Y.cell? ⟨w.heap.size+1,9,none⟩=some (.int .i64 F.at_):=R.o _ s.o 9 _ rfl;have d7:Y.cell? ⟨w.heap.size+1,10,none⟩=some (.int .i64 F.steps):=R.o _ s.o 10 _ rfl;have d8:Y.cell? ⟨w.heap.size+1,11,none⟩=some c9:=R.o _ s.o 11 _ rfl;have d9:Y.cell? ⟨w.heap.size+1,12,none⟩=some e9:=R.o _ s.o 12 _ rfl;go_wp2_with fail;refine(pA _ _ A F Y (A4.o.keep (l.o _ s.o).size (λp P=>(l.o _ s.o).cell P)) (B4.o.keep (l.o _ s.o).size (λp P=>(l.o _ s.o).cell P))).mono ?_;rintro e w3 ⟨rfl,k3⟩;have K3:=hI (Below.next s.o k3);clear k3 d2 d3 d4 d5 d6 d7 d8 d9;by_cases hb:A=F
 case neg=>
  have G:=hI (Z.o false (λh=>absurd h.2.2.2 hb) (λ_=>rfl));have d:decide (A=F)=false:=by simpa using hb
  rw[d];clear hb d;go_wp2_with fail;go_ret;exact⟨by rw[G.o];rfl,l.o _ K3.o⟩
 have d:decide (A=F)=true:=by simpa using hb
 rw[d];have HB:=hI hb;clear hb d;have d0:w3.cell? ⟨w.heap.size,4,none⟩=some (.slice N j.length nc):=I.o _ K3.o 4 _ rfl;go_wp2_with fail;go_loopw [61] (λk wr=>∃f:Nat,k=.int .i64 f/\f<=j.length/\Hid (j.take f=H.take f)/\Hid (Below w0.heap.size w0 wr)) (λk _=>j.length - (intOf k).toNat);case atStart=>exact⟨0,rfl,by omega,hI rfl,K3⟩
 case round=>
  obtain⟨f,rfl,hk,he,KW⟩:=hrel;clear d0;by_cases o2:f<j.length
  ·obtain⟨b,a0,p,cs,rfl,hb,h6,n6,hR,a5⟩:=A2.o.at_ o2;obtain⟨b',L,q,h7,rfl,b0,h8,l3,h9,O⟩:=B2.o.at_ (i:=f) (by omega);have u:∀E:Up wr,Below w.heap.size w E.to:=λE=>l.o _ (jB KW.o E);have SM:Hid (∀E:Up wr,Calls prog 28 #[.agg ⟨cs⟩,.agg ⟨h7⟩] E.to (aK (.bool (decide (p=q))) E.to)):=λE=> pA cs h7 p q E.to (hR.keep (u E).size (λ_ h=>(u E).cell h)) (h9.keep (u E).size (λ_ h=>(u E).cell h));obtain⟨p2,p3,rfl,-⟩:=hR;obtain⟨q2,q3,rfl,-⟩:=h9;have f0:∀E:Up wr,E.to.cell? ⟨w.heap.size,4,none⟩=some (.slice (some ⟨b,a0,none⟩) j.length nc):=λE=>I.o _ (jB KW.o E) 4 _ rfl;have f1:∀E:Up wr,E.to.cell? ⟨w.heap.size+1,4,none⟩=some (.slice (some ⟨b',L,none⟩) H.length a9):=λE=>R.o _ (jB KW.o E) 4 _ rfl;have g0:∀E:Up wr,E.to.cell? ⟨b,a0+f*4,none⟩=some (.int .i64 p.at_):=λE=>((u E).cell hb).trans (a5 0 _ rfl);have g1:∀E:Up wr,E.to.cell? ⟨b,a0+f*4+1,none⟩=some (.int .i64 p.steps):=λE=>((u E).cell hb).trans (a5 1 _ rfl);have g2:∀E:Up wr,E.to.cell? ⟨b,a0+f*4+2,none⟩=some p2:=λE=>((u E).cell hb).trans (a5 2 _ rfl);have g3:∀E:Up wr,E.to.cell? ⟨b,a0+f*4+3,none⟩=some p3:=λE=>((u E).cell hb).trans (a5 3 _ rfl);have e0:∀E:Up wr,E.to.cell? ⟨b',L+f*4,none⟩=some (.int .i64 q.at_):=λE=>((u E).cell b0).trans (O 0 _ rfl);have e1:∀E:Up wr,E.to.cell? ⟨b',L+f*4+1,none⟩=some (.int .i64 q.steps):=λE=>((u E).cell b0).trans (O 1 _ rfl);have e2:∀E:Up wr,E.to.cell? ⟨b',L+f*4+2,none⟩=some q2:=λE=>((u E).cell b0).trans (O 2 _ rfl);have e3:∀E:Up wr,E.to.cell? ⟨b',L+f*4+3,none⟩=some q3:=λE=>((u E).cell b0).trans (O 3 _ rfl);have h3:=hI h6;have h4:=hI h8;have l5:=hI u;have u5:(f:Int)<j.length:=(by omega);have u6:(f:Int)<H.length:=(by omega);clear h6 h8 a5 O n6 l3 u;go_wp2_with fail;refine aD (by kernel_rfl) (by kernel_rfl) ?_;repeat (go_big_quiet_step ((go_at_call 28;exact Calls.up (SM.o _))))
   refine wpQuiet_nil ?_;rintro _ ⟨E,rfl⟩;have l9:=hI (jB KW.o E);clear f0 f1 g0 g1 g2 g3 e0 e1 e2 e3;by_cases b5:p=q
   ·subst b5;simp only[decide_true];go_wp2_with fail;go_roundw;case rel=>exact⟨f+1,by go_num,by omega,hI (by rw[List.take_add_one,List.take_add_one,he.o,h3.o,h4.o]),l9⟩
    case measure=>simp[intOf];omega
   ·have d:decide (p=q)=false:=(by simpa using b5);rw[d];have G:=hI b5;clear b5 d;go_wp2_with fail;go_ret;refine⟨?_,l5.o E⟩;rw[Z.o false (λ_=>?_) (λ_=>rfl)];·rfl
    symm;rw[decide_eq_false_iff_not];intro e;have h1:=h3.o;rw[e,h4.o] at h1;injection h1 with h1
    exact G.o h1.symm
  ·go_wp2_with fail;go_ret;refine⟨?_,l.o _ KW.o⟩;rw[Z.o true (λ_=>?_) (λh=>absurd ⟨⟨by trivial,by trivial,by trivial⟩,HS.o,HT.o,HB.o⟩ h)];·rfl
   have h1:=he.o;rw[List.take_of_length_le (by omega),List.take_of_length_le (by omega)] at h1;simp[h1]
end
section
open Go.RowKit
namespace Bx
open Tryz
variable {P:Program} {ops:Array Oper} {rest:List Oper} {o:Oper} {a:Act} {w0 w:World} {Q:Exit->Act->World->Prop} {l l':List (Nat×List Value×TypeId)} {g:Nat} {cs:List Value} {t:TypeId}
theorem ldg {ty:TypeId} {x:Operand} {d:TypeDesc} (X:Bx w0 w l) (hi:(P.info? ty).map (·.size)=some cs.length) (h:wpList P ops Q rest (a.put o.dst (.agg cs.toArray)) w) (j:o.op=.load ty x:=by rfl) (f:Region.wanted o (yielded ops a.tmps)=true:=by first | rfl | simp[Region.wanted,yielded,Act.put, *]) (p:a.eval x=.pointer (some ⟨g,0,none⟩):=by rfl) (q:In3 g cs t l:=by repeat (first | exact .hd _ | apply In3.tl)) (r:P.underlying ty=some d:=by rfl) (s:d.isRow=true:=by rfl):wpList P ops Q (o::rest) a w:= ldr (X.rg q) h hi j f p r s
end Bx
end
end Go.Proofs.YtijihlcdhppfgaaGreatDoor
