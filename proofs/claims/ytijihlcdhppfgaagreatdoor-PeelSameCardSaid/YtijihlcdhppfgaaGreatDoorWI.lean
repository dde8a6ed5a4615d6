/- A part of the walk. -/
import Derived.Test.YtijihlcdhppfgaaGreatDoorWH
import Derived.Test.YtijihlcdhppfgaaGreatDoorWF
set_option maxHeartbeats 16000000
set_option maxRecDepth 100000
set_option linter.all false
namespace Go.Proofs.YtijihlcdhppfgaaGreatDoor
section
open Go.RowKit
set_option maxHeartbeats 8000000
set_option maxRecDepth 100000
theorem auN (cs:List Value) (t:aH) (w:World) (ht:bI w w.heap.size cs t) (h0:0≤t.loop) (h1:t.loop≤t.ins.length) (h2:t.ins.length≤1000):Calls Tryz.prog 17 #[.agg ⟨cs⟩] w (aK (.int .i64 (atJ t)) w):=by
 obtain⟨A1,n1,A2,n2,A3,n3,A4,n4,A5,n5,A6,n6,rfl,hm⟩:=ht.cells
 have b0:¬t.loop<0:=by omega
 have b1:¬(t.ins.length:Int)<t.loop:=by omega
 have wr:wrap64 ((t.ins.length:Int) - t.loop)=(t.ins.length:Int) - t.loop:=by unfold wrap64;omega
 unfold atJ
 clear ht
 go_enter Tryz.func17,Tryz.ntmps17
 go_upto_region 1 with fail
 generalize h:World.alloc _ _=w1
 have X:=Bx.of1 h
 clear h
 go_wp2_with (first | (refine X.L1 ?_) | (refine X.L1g ?_) | fail)
 go_ret
 exact⟨rfl,X.k⟩
theorem peelSame_walk (pcs tcs scs:List Value) (p:aZ) (t:aH) (S:aP) (th tu:Int) (w:World) (hp:fL w w.heap.size pcs p) (ht:bI w w.heap.size tcs t) (hs:eB w w.heap.size scs S) (wth:wfi th) (wtu:wfi tu) (tab:Tab w) :
  Calls Tryz.prog 5 #[.agg ⟨pcs⟩,.agg ⟨tcs⟩,.agg ⟨scs⟩,.int .i64 th,.int .i64 tu] w (aK (.bool true) w):=by
 have HT:=hI ht
 have HP:=hI hp
 have HS:=hI hs
 have TB:=hI tab
 have WT:=hI wth
 have WU:=hI wtu
 have Ip:=hI hp.size3
 have It:=hI ht.size13
 have Is:=hI hs.size8
 obtain⟨⟨u,e⟩,hr⟩:∃r,asC (ceP p t) t=r:=⟨_,rfl⟩
 have C1:Hid (∀W,Below w.heap.size w W→Calls Tryz.prog 16 #[.agg ⟨pcs⟩,.agg ⟨tcs⟩] W fun e1 w'=>∃cs,e1=.returned (.tuple #[.agg ⟨cs⟩,.int .i64 e])∧bI w' w'.heap.size cs u∧Below W.heap.size W w'):=fun W k=>by
  have h:=auB pcs tcs p t W (HP.out.below k) (HT.out.below k) (TB.out.below k)
  unfold asR at h
  rw[hr] at h
  exact h
 have F:Hid (e=0→ceP p t=0∧ceP p u=0∧(∃v,asC (ceP p u) u=(v,0)∧(0<u.loop→v=u))∧(0≤u.loop∧u.loop≤u.ins.length∧u.ins.length≤300)∧(0≤t.loop∧t.loop≤t.ins.length∧t.ins.length≤300)∧atJ u≤atJ t∧
   ∀(q:Int) x a n,mC cU 0 (rZ p S) t S th q=(x,a,n,0)→∃b,mC cU 0 (rZ p S) u S th q=(x,b,n,0)∧decide (b<0)=decide (a<0)):=fun he=>by
  subst he
  have h1:ceP p t=0:=by
   unfold asC at hr
   split at hr
   ·(injection hr;try omega)
   ·omega
  have hc:=aj8 h1
  have h1':cQ aF 0 (p.fns.map gI) t=0:=by have h:=h1;unfold ceP at h;rwa [hc] at h
  rw[h1] at hr
  obtain⟨q1,q2,q3,q4,q5⟩:=au3 no_ref (stc:=rZ p S) (S0:=S) (th:=th) h1' auG hr
  have h4:ceP p u=0:=by unfold ceP;rw[hc];exact q1
  have at0:=xG h1'
  refine⟨h1,h4,by rw[h4];exact q2,⟨q3.1,q3.2,(fD q1).1⟩,⟨at0.2.2.1,at0.2.2.2,(fD h1').1⟩,q4,fun q x a n h=>q5 q x a n h⟩
 clear hp ht hs tab wth wtu hr
 go_enter Tryz.func5,Tryz.ntmps5
 go_upto_region 1 with fail
 generalize h:World.alloc _ _=w1
 have X:=Bx.of3 h
 clear h
 go_wp2_with (first | (refine X.ld (hi:=Ip.out) ?_) | (refine X.ld (hi:=It.out) ?_) | fail)
 refine(C1.out _ X.k).mono ?_
 rintro e1 w2 ⟨us,rfl,ur,k2⟩
 have X:=X.on k2
 obtain⟨i1,l1,o1⟩:=ur.cs
 obtain⟨-,-,u2,-,-,-⟩:=ur.at012
 have U2:=hI u2
 have UR:=hI ur
 have I1:=hI i1
 have L1:=hI l1
 have O1:=hI o1
 clear ur k2 i1 l1 o1 u2
 go_upto_region 2 with (first | (refine X.sta (hi:=I1.out) (hl:=L1.out) (h1:=O1.out) fun _ X k2=>?_) | fail)
 (try dsimp only [Act.put])
 replace UR:=hI (UR.out.below k2)
 clear k2 C1
 by_cases he:e=0
 case neg=>
  have hb:(e != 0)=true:=bne_iff_ne.2 he
  go_wp2_with (first | (go_at_call 11;refine X.call (aeS _) fun _ X=>?_) | fail)
  go_ret
  exact⟨rfl,X.k⟩
 obtain⟨h1,h2,⟨v,h3,h3'⟩,lu,lt,hsz,h4⟩:=F.out he
 subst he
 have H1:=hI h1
 have H2:=hI h2
 have H3:=hI h3
 have H3':=hI h3'
 have H4:=hI h4
 have LU:=hI lu
 have LT:=hI lt
 have hsz':¬atJ t<atJ u:=by omega
 clear h1 h2 h3 h3' h4 F lu lt hsz
 go_wp2_with (first | (refine X.ld (hi:=Ip.out) ?_) | (refine X.ld (hi:=I1.out) ?_) | fail)
 refine(auB pcs us p u _ (HP.out.below X.k) UR.out (TB.out.below X.k)).mono ?_
 intro e1 w4 h
 unfold asR at h
 rw[H3.out] at h
 obtain⟨vs,rfl,vr,k4⟩:=h
 have X:=X.on k4
 replace UR:=hI (UR.out.below k4)
 obtain⟨i2,l2,o2⟩:=vr.cs
 have VR:=hI vr
 have I2:=hI i2
 have L2:=hI l2
 have O2:=hI o2
 clear vr k4 i2 l2 o2
 go_upto_region 5 with (first | (refine X.sta (hi:=I2.out) (hl:=L2.out) (h1:=O2.out) fun w5 X k2=>?_) | fail)
 (try dsimp only [Act.put])
 replace UR:=hI (UR.out.below k2)
 replace VR:=hI (VR.out.below k2)
 clear k2
 have CU:Hid (∀W,Below w.heap.size w W→bI W W.heap.size us u→Calls Tryz.prog 13 #[.agg ⟨pcs⟩,.agg ⟨us⟩] W (aK (.int .i64 0) W)):=fun W k hu=>by
  have h:=aaW pcs us p u W (HP.out.below k) hu (TB.out.below k)
  rw[show cQ aF (bH p) (p.fns.map gI) u=0 from H2.out] at h
  exact h
 have SU:Hid (0<u.loop→∀W,bI W W.heap.size us u→bI W W.heap.size vs v→Calls Tryz.prog 12 #[.agg ⟨vs⟩,.agg ⟨us⟩] W (aK (.bool true) W)):=fun hl W h1 h2=>by
  rw[H3'.out hl] at h2
  have h:=z8 vs us u u W h2 h1
  rw[decide_eq_true rfl] at h
  exact h
 have ZU:Hid (∀W,bI W W.heap.size us u→Calls Tryz.prog 17 #[.agg ⟨us⟩] W (aK (.int .i64 (atJ u)) W)):=fun W h=>auN us u W h LU.out.1 LU.out.2.1 (by have:=LU.out.2.2;omega)
 have ZT:Hid (∀W,Below w.heap.size w W→Calls Tryz.prog 17 #[.agg ⟨tcs⟩] W (aK (.int .i64 (atJ t)) W)):=fun W k=>auN tcs t W (HT.out.below k) LT.out.1 LT.out.2.1 (by have:=LT.out.2.2;omega)
 have SL:Hid (∀W,Below w.heap.size w W→bI W W.heap.size us u→Calls Tryz.prog 14 #[.agg ⟨pcs⟩,.agg ⟨tcs⟩,.agg ⟨us⟩,.agg ⟨scs⟩,.int .i64 th,.int .i64 tu,.bool false] W (aK (.bool true) W)):=fun W k hu=>
  same_l (HP.out.below k) (HT.out.below k) hu (HS.out.below k) WT.out WU.out (TB.out.below k) fun x a n h=>by rw[show x9 p u=0 from H2.out];exact H4.out _ x a n (by rw[show x9 p t=0 from H1.out] at h;exact h)
 have f2:∀E:Up w5,E.to.cell? ⟨_,2,none⟩=some (.int .i64 u.loop):=fun E=>(X.on E.below).cl (by repeat (first | exact .hd _ | apply In3.tl)) U2.out
 have R1:Hid (∀E:Up w5,E.to.rangeAt _ 0 us):=fun E=>(X.on E.below).rg (by repeat (first | exact .hd _ | apply In3.tl))
 have R2:Hid (∀E:Up w5,E.to.rangeAt _ 0 vs):=fun E=>(X.on E.below).rg (by repeat (first | exact .hd _ | apply In3.tl))
 have R3:Hid (∀E:Up w5,E.to.rangeAt _ 0 tcs):=fun E=>(X.on E.below).rg (by repeat (first | exact .hd _ | apply In3.tl))
 have CU':Hid (∀E:Up w5,Calls Tryz.prog 17 #[.agg ⟨us⟩] E.to (aK (.int .i64 (atJ u)) E.to)):=fun E=>ZU.out _ (UR.out.below E.below)
 have CT':Hid (∀E:Up w5,Calls Tryz.prog 17 #[.agg ⟨tcs⟩] E.to (aK (.int .i64 (atJ t)) E.to)):=fun E=>ZT.out _ (X.on E.below).k
 have CS':Hid (0<u.loop→∀E:Up w5,Calls Tryz.prog 12 #[.agg ⟨vs⟩,.agg ⟨us⟩] E.to (aK (.bool true) E.to)):=fun h E=>SU.out h _ (UR.out.below E.below) (VR.out.below E.below)
 by_cases hl:0<u.loop
 all_goals
  refine aD (by kernel_rfl) (by kernel_rfl) ?_
  repeat (first
   | (refine dE 34 _ rfl rfl _ 0 rfl us _ R1.out Tryz.underlying34 rfl I1.out ?_;go_simp)
   | (refine dE 34 _ rfl rfl _ 0 rfl vs _ R2.out Tryz.underlying34 rfl I2.out ?_;go_simp)
   | (refine dE 34 _ rfl rfl _ 0 rfl tcs _ R3.out Tryz.underlying34 rfl It.out ?_;go_simp)
   | go_big_quiet_step (first | (go_at_call 17;with_reducible exact Calls.up (CU'.out _)) | (go_at_call 17;with_reducible exact Calls.up (CT'.out _)) | (go_at_call 12;with_reducible exact Calls.up (CS'.out hl _))))
  refine wpQuiet_nil ?_
  rintro ⟨w6,k6⟩
  replace X:=X.on k6
  replace UR:=hI (UR.out.below k6)
  dsimp only
  clear k6 f2 R1 R2 R3 CU' CT' CS'
  go_wp2_with (first | (go_at_call 11;refine(aeS _).mono ?_;rintro _ _ ⟨rfl,k⟩;have X:=X.on k;replace UR:=hI (UR.out.below k)) | (go_at_call 13;refine(CU.out _ X.k UR.out).mono ?_;rintro _ _ ⟨rfl,k⟩;have X:=X.on k;replace UR:=hI (UR.out.below k)) | (go_at_call 14;refine(SL.out _ X.k UR.out).mono ?_;rintro _ _ ⟨rfl,k⟩;have X:=X.on k;replace UR:=hI (UR.out.below k)) | (refine Bx.ldg X Ip.out ?_) | (refine Bx.ldg X It.out ?_) | (refine Bx.ldg X Is.out ?_) | (refine Bx.ldg X I1.out ?_) | fail)
  go_ret
  exact⟨rfl,X.k⟩
end
end Go.Proofs.YtijihlcdhppfgaaGreatDoor
