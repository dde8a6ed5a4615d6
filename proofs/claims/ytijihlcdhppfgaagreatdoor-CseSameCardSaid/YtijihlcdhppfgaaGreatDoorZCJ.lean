/- A part of the walk. -/
import Derived.Test.YtijihlcdhppfgaaGreatDoorRows
import Derived.SizedLaws
import Derived.Test.YtijihlcdhppfgaaGreatDoorZCA
import Derived.Test.YtijihlcdhppfgaaGreatDoorZCI
set_option maxHeartbeats 16000000
set_option maxRecDepth 100000
set_option linter.all false
namespace Go.Proofs.YtijihlcdhppfgaaGreatDoor
open Tryz
section
open Go.ChangeShapes Go.WideShapes Go.ChangeAt Go.RowKit
section
variable {H:Type} {enc:TypeId×Value->H} {P:Program}
theorem qM (hl:laidOutB P=true) {W s:World} (hb:Below W.heap.size W s):∀(f:List TypeId) (vs:List Value) (g:List (DataW H)) (j:List MemPlace),
  (∀t∈f,P.readableRec t=true/\t<P.types.size)->(∀x∈j,x.block<W.heap.size)->
  DataW.TrodAll enc P W 0 (λ_=>true) true f vs g j->DataW.TrodAll enc P s 0 (λb=>decide (b<W.heap.size)) true f vs g j
 | [],[],[],_,_,_,h=>h
 | t::f,v::vs,d::g,j,ht,hp,h=>by
  obtain⟨p,q,h1,u,rfl⟩:=h
  exact⟨p,q,Below.trod hl (ht t (by simp)).1 (ht t (by simp)).2 h1 hb (λx l=>hp x (by simp[l])),
   qM hl hb f vs g q (λt r=>ht t (by simp[r])) (λx l=>hp x (by simp[l])) u,rfl⟩
 | [],_::_,_,_,_,_,h=>by cases h
 | [],[],_::_,_,_,_,h=>by cases h
 | _::_,[],_,_,_,_,h=>by cases h
 | _::_,_::_,[],_,_,_,h=>by cases h
theorem law_post {f:Func} {s:ChangeSpec} {W v:World} {args:Array Value} {g j:List (DataW H)} {before:List MemPlace} {B:TypeId} (hl:laidOutB P=true) (w:s.vars=[]) (A:f.resultTypes=#[B]) (hB:P.underlying B=some .bool) (ht:∀t∈f.params.toList,P.readableRec t=true/\t<P.types.size) (y:DataW.Whole enc P f.params.toList s.vars false W args.toList g j before) (r:(s.fn H (g++j)).results=[.lit (.bool true)]/\(s.fn H (g++j)).args=g/\(s.fn H (g++j)).vars=[]) (hb:Below W.heap.size W v) : s.post enc P f false true false false W args (.bool true) v:=by
 have l:=y;obtain⟨p,q,z,hV,rfl,D,E⟩:=y;have u:∀x∈p++q,x.block<W.heap.size:=λx d=>by simpa using l.lt x d
 rw[w] at hV;obtain⟨rfl,rfl⟩:=trodVars_none hV;refine⟨g,[],p++[],[],p,[],l,?_,?_,?_,World.keptBut_mono (λx d=>⟨d,?_⟩) (hb.frame (·∈p++[])),λh=>by cases h⟩;·rw[r.1,A];exact trodAll_mk1 (shut_bool hB true)
 ·rw[r.2.1];exact qM hl hb _ _ _ _ ht (λx d=>u x (by simp[d])) z
 ·rw[w,r.2.2];rfl
 ·simp at d;exact .inr (.inl d)
end
end
section
open Go.RowKit
set_option maxHeartbeats 8000000
set_option maxRecDepth 100000
theorem bI.cs {w:World} {B:Nat} {cs:List Value} {t:aH} (h:bI w B cs t):(Tryz.prog.info? 34).map (·.size)=some cs.length∧13=cs.length∧cs.all (·.oneCell')=true:=by
 obtain⟨_,_,_,_,_,_,_,_,_,_,_,_,rfl,-⟩:=h.cells6
 exact⟨by kernel_rfl,rfl,rfl⟩
theorem aj8 {R:Val->Bool} {d:Int} {fns:List FnM} {t:aH} (h:cQ R d fns t=0):d=0:=by
 unfold cQ at h;split at h;·exact h
 ·omega
theorem cse_out {p:aZ} {t:aH} (h:(tU (sO p t) t).2=0):sO p t=0/\tU (sO p t) t=g9 t (bR t):=by
 have e:sO p t=0:=by
  unfold tU at h;split at h;·exact h
  ·omega
 refine⟨e,?_⟩;unfold tU;rw[if_neg (by omega)]
theorem cseSame_walk (pcs tcs scs:List Value) (p:aZ) (t:aH) (S:aP) (th tu:Int) (w:World) (hp:fL w w.heap.size pcs p) (ht:bI w w.heap.size tcs t) (hs:eB w w.heap.size scs S) (wth:wfi th) (wtu:wfi tu) (tab:Tab w) :
  Calls Tryz.prog 3 #[.agg ⟨pcs⟩,.agg ⟨tcs⟩,.agg ⟨scs⟩,.int .i64 th,.int .i64 tu] w (aK (.bool true) w):=by
 have HT:=hI ht
 have HP:=hI hp
 have HS:=hI hs
 have TB:=hI tab
 have WT:=hI wth
 have WU:=hI wtu
 have Ip:=hI hp.size3
 have It:=hI ht.size13
 have Is:=hI hs.size8
 obtain⟨⟨u,e⟩,hr⟩:∃r,tU (sO p t) t=r:=⟨_,rfl⟩
 have C1:Hid (∀W,Below w.heap.size w W→Calls Tryz.prog 10 #[.agg ⟨pcs⟩,.agg ⟨tcs⟩] W fun e1 w'=>∃cs,e1=.returned (.tuple #[.agg ⟨cs⟩,.int .i64 e])∧bI w' w'.heap.size cs u∧Below W.heap.size W w'):=fun W k=>by
  have h:=ae5 pcs tcs p t W (HP.out.below k) (HT.out.below k) (TB.out.below k)
  unfold vJ at h
  rw[hr] at h
  exact h
 have F:Hid (e=0→sO p t=0∧sO p u=0∧tU (sO p u) u=(u,0)∧∀(q:Int) x a n,mC cU 0 (rZ p S) t S th q=(x,a,n,0)→mC cU 0 (rZ p S) u S th q=(x,a,n,0)):=fun he=>by
  subst he
  obtain⟨h1,h2⟩:=cse_out (p:=p) (t:=t) (by rw[hr])
  rw[h2] at hr
  have hd:(g9 t (bR t)).2=0:=by rw[hr]
  have hc:=aj8 h1
  obtain⟨s1,s2⟩:=ab5 (E:=cU) ab8 (stc:=rZ p S) (S0:=S) (th:=th) (turns:=0) (out:=S) (exit:=0) (n:=0) h1 hc hd
  have s3:=ag3 h1 hc hd
  rw[hr] at s1 s3
  dsimp only at s1 s3
  have h4:sO p u=0:=s1
  refine⟨h1,h4,?_,fun q x a n h=>?_⟩
  ·unfold tU
   rw[if_neg (by omega)];exact s3
  ·have:=(ab5 (E:=cU) ab8 (stc:=rZ p S) (S0:=S) (th:=th) (turns:=q) (out:=x) (exit:=a) (n:=n) h1 hc hd).2 h
   rw[hr] at this;exact this
 clear hp ht hs tab wth wtu hr
 go_enter Tryz.func3,Tryz.ntmps3
 go_upto_region 1 with fail
 generalize h:World.alloc _ _=w1
 have X:=Bx.of3 h
 clear h
 go_wp2_with (first | (refine X.ld (hi:=Ip.out) ?_) | (refine X.ld (hi:=It.out) ?_) | fail)
 refine(C1.out _ X.k).mono ?_
 rintro e1 w2 ⟨us,rfl,ur,k2⟩
 have X:=X.on k2
 obtain⟨i1,l1,o1⟩:=ur.cs
 have UR:=hI ur
 have I1:=hI i1
 have L1:=hI l1
 have O1:=hI o1
 clear ur k2 i1 l1 o1
 go_upto_region 2 with (first | (refine X.sta (hi:=I1.out) (hl:=L1.out) (h1:=O1.out) fun _ X k2=>?_) | fail)
 (try dsimp only [Act.put])
 replace UR:=hI (UR.out.below k2)
 clear k2 C1
 by_cases he:e=0
 case neg=>
  have hb:(e != 0)=true:=bne_iff_ne.2 he
  go_wp2_with (first | (go_at_call 11;refine X.call (aeS _) fun _ X=>?_) | fail)
  go_ret
  exact⟨rfl,X.k⟩
 obtain⟨h1,h2,h3,h4⟩:=F.out he
 subst he
 have H1:=hI h1
 have H2:=hI h2
 have H3:=hI h3
 have H4:=hI h4
 clear h1 h2 h3 h4 F
 go_wp2_with (first | (refine X.ld (hi:=Ip.out) ?_) | (refine X.ld (hi:=I1.out) ?_) | fail)
 refine(ae5 pcs us p u _ (HP.out.below X.k) UR.out (TB.out.below X.k)).mono ?_
 intro e1 w4 h
 unfold vJ at h
 rw[H3.out] at h
 obtain⟨vs,rfl,vr,k4⟩:=h
 have X:=X.on k4
 replace UR:=hI (UR.out.below k4)
 obtain⟨i2,l2,o2⟩:=vr.cs
 have VR:=hI vr
 have I2:=hI i2
 have L2:=hI l2
 have O2:=hI o2
 clear vr k4 i2 l2 o2
 go_upto_region 5 with (first | (refine X.sta (hi:=I2.out) (hl:=L2.out) (h1:=O2.out) fun _ X k2=>?_) | fail)
 (try dsimp only [Act.put])
 replace UR:=hI (UR.out.below k2)
 replace VR:=hI (VR.out.below k2)
 clear k2
 have CU:Hid (∀W,Below w.heap.size w W→bI W W.heap.size us u→Calls Tryz.prog 13 #[.agg ⟨pcs⟩,.agg ⟨us⟩] W (aK (.int .i64 0) W)):=fun W k hu=>by
  have h:=aaW pcs us p u W (HP.out.below k) hu (TB.out.below k)
  rw[show cQ aF (bH p) (p.fns.map gI) u=0 from H2.out] at h
  exact h
 have SU:Hid (∀W,bI W W.heap.size us u→bI W W.heap.size vs u→Calls Tryz.prog 12 #[.agg ⟨vs⟩,.agg ⟨us⟩] W (aK (.bool true) W)):=fun W h1 h2=>by
  have h:=z8 vs us u u W h2 h1
  rw[decide_eq_true rfl] at h
  exact h
 have SL:Hid (∀W,Below w.heap.size w W→bI W W.heap.size us u→Calls Tryz.prog 14 #[.agg ⟨pcs⟩,.agg ⟨tcs⟩,.agg ⟨us⟩,.agg ⟨scs⟩,.int .i64 th,.int .i64 tu,.bool false] W (aK (.bool true) W)):=fun W k hu=>
  same_l (HP.out.below k) (HT.out.below k) hu (HS.out.below k) WT.out WU.out (TB.out.below k) fun x a n h=>⟨a,by rw[show x9 p u=0 from H2.out];exact H4.out _ x a n (by rw[show x9 p t=0 from H1.out] at h;exact h),rfl⟩
 go_wp2_with (first | (go_at_call 11;refine(aeS _).mono ?_;rintro _ _ ⟨rfl,k⟩;have X:=X.on k;replace UR:=hI (UR.out.below k);replace VR:=hI (VR.out.below k)) | (go_at_call 12;refine(SU.out _ UR.out VR.out).mono ?_;rintro _ _ ⟨rfl,k⟩;have X:=X.on k;replace UR:=hI (UR.out.below k);replace VR:=hI (VR.out.below k)) | (go_at_call 13;refine(CU.out _ X.k UR.out).mono ?_;rintro _ _ ⟨rfl,k⟩;have X:=X.on k;replace UR:=hI (UR.out.below k);replace VR:=hI (VR.out.below k)) | (go_at_call 14;refine(SL.out _ X.k UR.out).mono ?_;rintro _ _ ⟨rfl,k⟩;have X:=X.on k;replace UR:=hI (UR.out.below k);replace VR:=hI (VR.out.below k)) | (refine Bx.ldg X Ip.out ?_) | (refine Bx.ldg X It.out ?_) | (refine Bx.ldg X Is.out ?_) | (refine Bx.ldg X I1.out ?_) | (refine Bx.ldg X I2.out ?_) | fail)
 go_ret
 exact⟨rfl,X.k⟩
end
end Go.Proofs.YtijihlcdhppfgaaGreatDoor
