/- A part of the walk. -/
import Derived.Test.YtijihlcdhppfgaaGreatDoorVE
set_option maxHeartbeats 16000000
set_option maxRecDepth 100000
set_option linter.all false
namespace Go.Proofs.YtijihlcdhppfgaaGreatDoor
open Go.Proofs.Tryz
section
open Go.RowKit
set_option maxHeartbeats 8000000
set_option maxRecDepth 100000
theorem arE {p:aZ} {t:aH} (h:(aoY (sO p t) t).2=0):sO p t=0/\aoY (sO p t) t=g9 (i9 t) (a9 t):=by
 have e:sO p t=0:=by
  unfold aoY at h;split at h;·exact h
  ·omega
 refine⟨e,?_⟩;unfold aoY;rw[if_neg (by omega)]
theorem deadSame_walk (f tcs z:List Value) (p:aZ) (t:aH) (S:aP) (th tu:Int) (w:World) (hp:fL w w.heap.size f p) (ht:bI w w.heap.size tcs t) (hs:eB w w.heap.size z S) (H:wfi th) (I:wfi tu) (J:Tab w) : Calls prog 4 #[.agg ⟨f⟩,.agg ⟨tcs⟩,.agg ⟨z⟩,.int .i64 th,.int .i64 tu] w (aK (.bool true) w):=by
 have HT:=hI ht;have A:=hI hp;have HS:=hI hs;have D:=hI J;have WT:=hI H;have WU:=hI I;have K:=hI hp.size3;have It:=hI ht.size13;have Is:=hI hs.size8;obtain⟨⟨u,e⟩,s⟩:∃r,aoY (sO p t) t=r:=⟨_,rfl⟩;have C1:Hid (∀W,Below w.heap.size w W->Calls prog 15 #[.agg ⟨f⟩,.agg ⟨tcs⟩] W λV w'=>∃cs,V=.returned (.tuple #[.agg ⟨cs⟩,.int .i64 e])/\bI w' w'.heap.size cs u/\Below W.heap.size W w'):=λW k=>by have h:=aqM f tcs p t W (A.o.below k) (HT.o.below k) (D.o.below k);unfold apB at h;rw[s] at h;exact h
 have F:Hid (e=0->sO p t=0/\sO p u=0/\aoY (sO p u) u=(u,0)/\∀(q:Int) x a n,mC cU 0 (rZ p S) t S th q=(x,a,n,0)->mC cU 0 (rZ p S) u S th q=(x,a,n,0)):=λy=>by
  subst y;obtain⟨h1,v⟩:=arE (p:=p) (t:=t) (by rw[s]);rw[v] at s;have L:(g9 (i9 t) (a9 t)).2=0:=by rw[s]
  have M:=aj8 h1;obtain⟨s1,s2⟩:=ap5 (E:=cU) (stc:=rZ p S) (S0:=S) (th:=th) (turns:=0) (out:=S) (exit:=0) (n:=0) h1 M L;have N:=aqS h1 M L;rw[s] at s1 N;dsimp only at s1 N;have G:sO p u=0:=s1;refine⟨h1,G,?_,λq x a n h=>?_⟩;·unfold aoY;rw[if_neg (by omega)];exact N
  ·have:=(ap5 (E:=cU) (stc:=rZ p S) (S0:=S) (th:=th) (turns:=q) (out:=x) (exit:=a) (n:=n) h1 M L).2 h;rw[s] at this;exact this
 clear hp ht hs J H I s;go_enter func4,ntmps4;go_upto_region 1 with fail;generalize h:World.alloc _ _=w1;have X:=Bx.of3 h;clear h;go_wp2_with (first | (refine X.ld (hi:=K.o) ?_) | (refine X.ld (hi:=It.o) ?_) | fail);refine(C1.o _ X.k).mono ?_;rintro V w2 ⟨j,rfl,Y,l⟩;have X:=X.on l;obtain⟨i1,l1,o1⟩:=Y.cs;have d:=hI Y;have O:=hI i1;have L1:=hI l1;have O1:=hI o1;clear Y l i1 l1 o1;go_upto_region 2 with (first | (refine X.sta (hi:=O.o) (hl:=L1.o) (h1:=O1.o) λ_ X l=>?_) | fail);(try dsimp only [Act.put]);replace d:=hI (d.o.below l);clear l C1;by_cases y:e=0;case neg=>have hb:(e != 0)=true:=bne_iff_ne.2 y;go_wp2_with (first | (go_at_call 11;refine X.call (aeS _) λ_ X=>?_) | fail);go_ret;exact⟨rfl,X.k⟩
 obtain⟨h1,v,h3,G⟩:=F.o y;subst y;have H1:=hI h1;have H2:=hI v;have H3:=hI h3;have H4:=hI G;clear h1 v h3 G F;go_wp2_with (first | (refine X.ld (hi:=K.o) ?_) | (refine X.ld (hi:=O.o) ?_) | fail);refine(aqM f j p u _ (A.o.below X.k) d.o (D.o.below X.k)).mono ?_;intro V w4 h;unfold apB at h;rw[H3.o] at h;obtain⟨vs,rfl,P,R⟩:=h;have X:=X.on R;replace d:=hI (d.o.below R);obtain⟨i2,l2,o2⟩:=P.cs;have g:=hI P;have I2:=hI i2;have L2:=hI l2;have O2:=hI o2;clear P R i2 l2 o2;go_upto_region 5 with (first | (refine X.sta (hi:=I2.o) (hl:=L2.o) (h1:=O2.o) λ_ X l=>?_) | fail);(try dsimp only [Act.put]);replace d:=hI (d.o.below l);replace g:=hI (g.o.below l);clear l;have CU:Hid (∀W,Below w.heap.size w W->bI W W.heap.size j u->Calls prog 13 #[.agg ⟨f⟩,.agg ⟨j⟩] W (aK (.int .i64 0) W)):=λW k Z=>by have h:=aaW f j p u W (A.o.below k) Z (D.o.below k);rw[show cQ aF (bH p) (p.fns.map gI) u=0 from H2.o] at h;exact h
 have SU:Hid (∀W,bI W W.heap.size j u->bI W W.heap.size vs u->Calls prog 12 #[.agg ⟨vs⟩,.agg ⟨j⟩] W (aK (.bool true) W)):=λW h1 v=>by have h:=z8 vs j u u W v h1;rw[decide_eq_true rfl] at h;exact h
 have SL:Hid (∀W,Below w.heap.size w W->bI W W.heap.size j u->Calls prog 14 #[.agg ⟨f⟩,.agg ⟨tcs⟩,.agg ⟨j⟩,.agg ⟨z⟩,.int .i64 th,.int .i64 tu,.bool false] W (aK (.bool true) W)):=λW k Z=> same_l (A.o.below k) (HT.o.below k) Z (HS.o.below k) WT.o WU.o (D.o.below k) λx a n h=>⟨a,by rw[show x9 p u=0 from H2.o];exact H4.o _ x a n (by rw[show x9 p t=0 from H1.o] at h;exact h),rfl⟩;go_wp2_with (first | (go_at_call 11;refine(aeS _).mono ?_;rintro _ _ ⟨rfl,k⟩;have X:=X.on k;replace d:=hI (d.o.below k);replace g:=hI (g.o.below k)) | (go_at_call 12;refine(SU.o _ d.o g.o).mono ?_;rintro _ _ ⟨rfl,k⟩;have X:=X.on k;replace d:=hI (d.o.below k);replace g:=hI (g.o.below k)) | (go_at_call 13;refine(CU.o _ X.k d.o).mono ?_;rintro _ _ ⟨rfl,k⟩;have X:=X.on k;replace d:=hI (d.o.below k);replace g:=hI (g.o.below k)) | (go_at_call 14;refine(SL.o _ X.k d.o).mono ?_;rintro _ _ ⟨rfl,k⟩;have X:=X.on k;replace d:=hI (d.o.below k);replace g:=hI (g.o.below k)) | (refine Bx.ldg X K.o ?_) | (refine Bx.ldg X It.o ?_) | (refine Bx.ldg X Is.o ?_) | (refine Bx.ldg X O.o ?_) | (refine Bx.ldg X I2.o ?_) | fail);go_ret;exact⟨rfl,X.k⟩
end
end Go.Proofs.YtijihlcdhppfgaaGreatDoor
