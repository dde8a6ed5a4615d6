/- Part of the walk of the given code: contracts, and plain laws. -/
import Derived.Test.YtijihlcdhppfgaaGreatDoorZCA
import Derived.Test.YtijihlcdhppfgaaGreatDoorXA
import Derived.Test.YtijihlcdhppfgaaGreatDoorXN
import Derived.Test.YtijihlcdhppfgaaGreatDoorXG
import Derived.Test.YtijihlcdhppfgaaGreatDoorXR
set_option maxHeartbeats 16000000
set_option maxRecDepth 100000
set_option linter.all false
namespace Go.Proofs.YtijihlcdhppfgaaGreatDoor
section
open Go.RowKit
set_option maxHeartbeats 8000000
set_option maxRecDepth 100000
theorem azC {p:aZ} {t:aH} (h:(aoU (ax3 t.ins) (alV p t) t).2=0):alV p t=0∧aoU (ax3 t.ins) (alV p t) t=g9 (aw6 (ax3 t.ins) t) (awG (ax3 t.ins) t.ins ⟨[],[]⟩).tl:=by
 have e:alV p t=0:=by
  unfold aoU at h
  split at h
  ·exact h
  ·omega
 refine⟨e,?_⟩
 unfold aoU
 rw[if_neg (by omega)]
theorem foldSame_walk (pcs tcs scs:List Value) (p:aZ) (t:aH) (S:aP) (th tu:Int) (w:World) (hp:fL w w.heap.size pcs p) (ht:bI w w.heap.size tcs t) (hs:eB w w.heap.size scs S) (wth:wfi th) (wtu:wfi tu) (tab:Tab w) :
  Calls Tryz.prog 8 #[.agg ⟨pcs⟩,.agg ⟨tcs⟩,.agg ⟨scs⟩,.int .i64 th,.int .i64 tu] w (aK (.bool true) w):=by
 have HT:=hI ht
 have HP:=hI hp
 have HS:=hI hs
 have TB:=hI tab
 have WT:=hI wth
 have WU:=hI wtu
 have Ip:=hI hp.size3
 have It:=hI ht.size13
 have Is:=hI hs.size8
 obtain⟨At,nt,t3,-⟩:=ht.at3
 have T3:=hI t3
 obtain⟨⟨u,e⟩,hr⟩:∃r,aoU (ax3 t.ins) (alV p t) t=r:=⟨_,rfl⟩
 have C1:Hid (∀W,Below w.heap.size w W→Calls Tryz.prog 20 #[.agg ⟨pcs⟩,.agg ⟨tcs⟩] W fun e1 w'=>∃cs,e1=.returned (.tuple #[.agg ⟨cs⟩,.int .i64 e])∧bI w' w'.heap.size cs u∧Below W.heap.size W w'):=fun W k=>by
  have h:=azD pcs tcs p t W (HP.out.below k) (HT.out.below k) (TB.out.below k)
  unfold ay5 at h
  rw[hr] at h
  exact h
 have F:Hid (e=0→alV p t=0∧alV p u=0∧u.ins.length≤t.ins.length∧∀(q:Int) x a n,mC cU 0 (rZ p S) t S th q=(x,a,n,0)→mC cU 0 (rZ p S) u S th q=(x,a,n,0)):=fun he=>by
  subst he
  obtain⟨h1,h2⟩:=azC (p:=p) (t:=t) (by rw[hr])
  rw[h2] at hr
  have hd:(g9 (aw6 (ax3 t.ins) t) (awG (ax3 t.ins) t.ins ⟨[],[]⟩).tl).2=0:=by rw[hr]
  have hl:(g9 (aw6 (ax3 t.ins) t) (awG (ax3 t.ins) t.ins ⟨[],[]⟩).tl).1.ins.length≤t.ins.length:=by
   rcases cutM_len (aw6 (ax3 t.ins) t) (awG (ax3 t.ins) t.ins ⟨[],[]⟩).tl with ⟨-,h⟩ | ⟨h,-⟩
   ·rwa [ax8.1] at h
   ·omega
  have key:=fun (q:Int) x a n=>azE (E:=cU) (F:=ax3 t.ins) fol_ok an6 amU rfl rfl (fun _=>rfl) (R:=aF) (fun _ h=>h) no_ref rfl (fun b=>by cases b <;> rfl) (stc:=rZ p S) (fun _ _=>rfl) (S0:=S) (th:=th) (turns:=q) (out:=x) (exit:=a) (n:=n) h1 (am9 h1) amR (aj8 h1) hd
  rw[hr] at hl key
  exact⟨h1,(key 0 S 0 0).1,hl,fun q x a n h=>(key q x a n).2 h⟩
 clear hp ht hs tab wth wtu hr t3
 go_enter Tryz.func8,Tryz.ntmps8
 go_upto_region 1 with fail
 generalize h:World.alloc _ _=w1
 have X:=Bx.of3 h
 clear h
 go_wp2_with (first | (refine X.Ld (hi:=Ip.out) ?_) | (refine X.Ld (hi:=It.out) ?_) | fail)
 refine(C1.out _ X.k).mono ?_
 rintro e1 w2 ⟨us,rfl,ur,k2⟩
 have X:=X.on k2
 obtain⟨i1,l1,o1⟩:=ur.cs
 obtain⟨Au,nu,u3,-⟩:=ur.at3
 have U3:=hI u3
 have UR:=hI ur
 have I1:=hI i1
 have L1:=hI l1
 have O1:=hI o1
 clear ur k2 i1 l1 o1 u3
 go_upto_region 2 with (first | (refine X.Sta (hi:=I1.out) (hl:=L1.out) (h1:=O1.out) fun _ X k2=>?_) | fail)
 (try dsimp only [Act.put])
 replace UR:=hI (UR.out.below k2)
 clear k2 C1
 by_cases he:e=0
 case neg=>
  have hb:(e != 0)=true:=bne_iff_ne.2 he
  go_wp2_with (first | (go_at_call 11;refine X.call (aeS _) fun _ X=>?_) | fail)
  go_ret
  exact⟨rfl,X.k⟩
 obtain⟨h1,h2,h3,h4⟩:=F.out he
 subst he
 have H1:=hI h1
 have H2:=hI h2
 have H4:=hI h4
 have h3':(u.ins.length:Int)≤t.ins.length:=by omega
 clear h1 h2 h3 h4 F
 have CU:Hid (∀W,Below w.heap.size w W→bI W W.heap.size us u→Calls Tryz.prog 13 #[.agg ⟨pcs⟩,.agg ⟨us⟩] W (aK (.int .i64 0) W)):=fun W k hu=>by
  have h:=aaW pcs us p u W (HP.out.below k) hu (TB.out.below k)
  rw[show cQ aF (bH p) (p.fns.map gI) u=0 from H2.out] at h
  exact h
 have SL:Hid (∀W,Below w.heap.size w W→bI W W.heap.size us u→Calls Tryz.prog 14 #[.agg ⟨pcs⟩,.agg ⟨tcs⟩,.agg ⟨us⟩,.agg ⟨scs⟩,.int .i64 th,.int .i64 tu,.bool false] W (aK (.bool true) W)):=fun W k hu=>
  same_l (HP.out.below k) (HT.out.below k) hu (HS.out.below k) WT.out WU.out (TB.out.below k) fun x a n h=>⟨a,by rw[show x9 p u=0 from H2.out];exact H4.out _ x a n (by rw[show x9 p t=0 from H1.out] at h;exact h),rfl⟩
 go_wp2_with (first | (go_at_call 11;refine(aeS _).mono ?_;rintro _ _ ⟨rfl,k⟩;have X:=X.on k;replace UR:=hI (UR.out.below k)) | (go_at_call 13;refine(CU.out _ X.k UR.out).mono ?_;rintro _ _ ⟨rfl,k⟩;have X:=X.on k;replace UR:=hI (UR.out.below k)) | (go_at_call 14;refine(SL.out _ X.k UR.out).mono ?_;rintro _ _ ⟨rfl,k⟩;have X:=X.on k;replace UR:=hI (UR.out.below k)) | (refine Bx.L1g X (hj:=U3.out) ?_) | (refine Bx.L1g X (hj:=T3.out) ?_) | (refine Bx.L1 X (hj:=U3.out) ?_) | (refine Bx.L1 X (hj:=T3.out) ?_) | (refine Bx.ldg X Ip.out ?_) | (refine Bx.ldg X It.out ?_) | (refine Bx.ldg X Is.out ?_) | (refine Bx.ldg X I1.out ?_) | fail)
 go_ret
 exact⟨rfl,X.k⟩
end
end Go.Proofs.YtijihlcdhppfgaaGreatDoor
