/- Part of the walk of the given code: contracts of the functions that irun.Run reaches, and plain laws on what it reckons. -/
import Derived.Test.YtjaphgpkkfdaaaaGreatDoorZLA
import Derived.Test.YtjaphgpkkfdaaaaGreatDoorZLS
set_option maxHeartbeats 16000000
set_option maxRecDepth 100000
set_option linter.all false
namespace Go.Proofs.YtjaphgpkkfdaaaaGreatDoor
section
open Go.RowKit
theorem aeN {w:World} {g:Nat} {cs:List Value} {A B:aR} (h:gK w g cs A) (e:A=B):gK w g cs B:=e ▸ h
theorem irunStays_walk (pcs tcs scs:List Value) (p:aW) (t:aN) (S:aR) (th tu:Int) (w:World) (hp:eL w w.heap.size pcs p) (ht:cT w w.heap.size tcs t) (hs:gK w w.heap.size scs S) (wth:wfi th) (wtu:wfi tu) (tab:Tab w) :
  Calls Tryz.prog 9 #[.agg ⟨pcs⟩,.agg ⟨tcs⟩,.agg ⟨scs⟩,.int .i64 th,.int .i64 tu] w (aM (.bool true) w):=by
 have HP0:=hI hp
 have HT0:=hI ht
 have HS0:=hI hs
 obtain⟨PA,pn,PB,pm,PD,pk,rfl,-⟩:=id hp
 obtain⟨B1,m1,B2,m2,B3,m3,B4,m4,B5,m5,B6,m6,rfl,-⟩:=ht.cells6
 obtain⟨c,s,x,tv,en,sa,rfl,hc,hsh,htx,hth',hen,hsa,wa,ws⟩:=id hs
 obtain⟨CA,cc,rfl,-⟩:=id hc
 obtain⟨SA,sc,rfl,-⟩:=id hsh
 obtain⟨XA,xc,rfl,-⟩:=id htx
 obtain⟨TA,tc,rfl,-⟩:=id hth'
 obtain⟨EA,ec,rfl,-⟩:=id hen
 obtain⟨AA,ac,rfl,-⟩:=id hsa
 obtain⟨w1,hw1⟩:∃w1,w1=((w.alloc (.cells #[.slice PA p.fns.length pn,.slice PB p.consts.length pm,.slice PD p.texts.length pk] 26)).alloc (.cells #[.int .i64 t.fn,.int .i64 t.at_,.int .i64 t.loop,.slice B1 t.ins.length m1,.slice B2 t.exits.length m2,.int .i64 t.turn.at_,.int .i64 t.turn.steps,.slice B3 t.turn.sets.length m3,.slice B4 t.turn.makes.length m4,.int .i64 t.back.at_,.int .i64 t.back.steps,.slice B5 t.back.sets.length m5,.slice B6 t.back.makes.length m6] 34)).alloc (.cells #[.slice CA S.cells.length cc,.slice SA S.shapes.length sc,.slice XA S.texts.length xc,.slice TA S.threads.length tc,.slice EA S.ends.length ec,.slice AA S.said.length ac,.int .i64 S.asked,.int .i64 S.steps] 40):=⟨_,rfl⟩
 have FB:=aeI w (.cells #[.slice PA p.fns.length pn,.slice PB p.consts.length pm,.slice PD p.texts.length pk] 26) (.cells #[.int .i64 t.fn,.int .i64 t.at_,.int .i64 t.loop,.slice B1 t.ins.length m1,.slice B2 t.exits.length m2,.int .i64 t.turn.at_,.int .i64 t.turn.steps,.slice B3 t.turn.sets.length m3,.slice B4 t.turn.makes.length m4,.int .i64 t.back.at_,.int .i64 t.back.steps,.slice B5 t.back.sets.length m5,.slice B6 t.back.makes.length m6] 34) (.cells #[.slice CA S.cells.length cc,.slice SA S.shapes.length sc,.slice XA S.texts.length xc,.slice TA S.threads.length tc,.slice EA S.ends.length ec,.slice AA S.said.length ac,.int .i64 S.asked,.int .i64 S.steps] 40)
 rw[←hw1] at FB
 obtain⟨f1,f2,f3,f5⟩:=FB
 have ROWP1:=hI f1
 have ROWT1:=hI f2
 have ROWS1:=hI f3
 have K1:=hI f5
 have HW1:=hI hw1
 have T0:=hI tab
 clear hp ht hs hc hsh htx hth' hen hsa wa ws hw1 f1 f2 f3 f5 tab
 have rb:=aeU tu 6 (by decide)
 obtain⟨n0,hn0⟩:∃n:Nat,aeH tu 6=(n:Int):=⟨(aeH tu 6).toNat,by omega⟩
 have RS:=hI (fun W=>afC tu 6 W (by decide) (by decide))
 rw[hn0] at RS rb
 clear hn0 wtu
 go_enter Tryz.func9,Tryz.ntmps9
 go_upto_region 1 with fail
 rw[←HW1.out]
 obtain⟨r,hr⟩:∃r,mY cJ (acT p t) (wZ p S) t S th 0=r:=⟨_,rfl⟩
 have RN:=hI (irun_c _ _ _ p t S th 0 w1 (HP0.out.below K1.out) (HT0.out.below K1.out) (HS0.out.below K1.out) wth (by unfold wfi;omega) (T0.out.below K1.out))
 rw[hr] at RN
 obtain⟨out,exit,n,err⟩:=r
 have HR:=hI hr
 unfold aeG at RN
 dsimp only at RN
 clear hr
 have RGP:=rrZ ROWP1
 have RGT:=rrZ ROWT1
 have RGS:=rrZ ROWS1
 go_wp2_with (first | (refine wpList_load_mid rfl 26 _ rfl w.heap.size 0 rfl [.slice PA p.fns.length pn,.slice PB p.consts.length pm,.slice PD p.texts.length pk] _ RGP.out Tryz.underlying26 rfl zF ?_) | (refine wpList_load_mid rfl 34 _ rfl (w.heap.size+1) 0 rfl [.int .i64 t.fn,.int .i64 t.at_,.int .i64 t.loop,.slice B1 t.ins.length m1,.slice B2 t.exits.length m2,.int .i64 t.turn.at_,.int .i64 t.turn.steps,.slice B3 t.turn.sets.length m3,.slice B4 t.turn.makes.length m4,.int .i64 t.back.at_,.int .i64 t.back.steps,.slice B5 t.back.sets.length m5,.slice B6 t.back.makes.length m6] _ RGT.out Tryz.underlying34 rfl rP ?_) | (refine wpList_load_mid rfl 40 _ rfl (w.heap.size+1+1) 0 rfl [.slice CA S.cells.length cc,.slice SA S.shapes.length sc,.slice XA S.texts.length xc,.slice TA S.threads.length tc,.slice EA S.ends.length ec,.slice AA S.said.length ac,.int .i64 S.asked,.int .i64 S.steps] _ RGS.out Tryz.underlying40 rfl eC ?_) | fail)
 clear RGP RGT RGS
 refine RN.out.mono ?_
 rintro e w2 ⟨ocs,rfl,hout',kk⟩
 have hout:=hout' w2 (fun _ _ _=>rfl) (Nat.le_refl _)
 have K2:=btZ K1 kk
 have KK:=hI kk
 have ROWP2:=rkZ ROWP1 kk
 have ROWT2:=rkZ ROWT1 kk
 have ROWS2:=rkZ ROWS1 kk
 obtain⟨c,s,x,tv,en,sa,rfl,hc,hsh,htx,hth',hen,hsa,-⟩:=id hout
 obtain⟨CO,co,rfl,-⟩:=id hc
 obtain⟨SO,so,rfl,-⟩:=id hsh
 obtain⟨XO,xo,rfl,-⟩:=id htx
 obtain⟨TO,uo,rfl,-⟩:=id hth'
 obtain⟨EO,eo,rfl,-⟩:=id hen
 obtain⟨AO,ao,rfl,-⟩:=id hsa
 have HTH:=hI hth'
 clear hc hsh htx hth' hen hsa
 have HOUT:=hI hout
 clear kk hout hout'
 obtain⟨w3,hw3⟩:∃ww,ww=w2.alloc (.cells #[.slice CO out.cells.length co,.slice SO out.shapes.length so,.slice XO out.texts.length xo,.slice TO out.threads.length uo,.slice EO out.ends.length eo,.slice AO out.said.length ao,.int .i64 out.asked,.int .i64 out.steps] 40):=⟨_,rfl⟩
 have KB:Hid (Below w2.heap.size w2 w3):=by rw[hw3];exact aB _ _
 have ROWO3:Hid (w3.heap[w2.heap.size]? = some (.cells #[.slice CO out.cells.length co,.slice SO out.shapes.length so,.slice XO out.texts.length xo,.slice TO out.threads.length uo,.slice EO out.ends.length eo,.slice AO out.said.length ao,.int .i64 out.asked,.int .i64 out.steps] 40 (0,0))):=by rw[hw3];exact aJ _ _
 have K3:=btZ K2 KB.out
 have ROWP3:=rkZ ROWP2 KB.out
 have ROWT3:=rkZ ROWT2 KB.out
 have ROWS3:=rkZ ROWS2 KB.out
 have HW3:=hI hw3
 clear hw3
 go_upto_region 2 with fail
 rw[←HW3.out]
 by_cases he:err=0
 case neg=>
  have hb:(err != 0)=true:=bne_iff_ne.2 he
  clear he
  go_wp2_with fail
  refine(irred_c w3).mono ?_
  rintro e w4 ⟨rfl,kk⟩
  have K4:=btZ K3 kk
  clear kk
  go_wp2_with fail
  go_ret
  exact⟨rfl,K4.out⟩
 subst he
 obtain⟨-,-,e3⟩:=irun_none HR.out
 have E3:=hI e3
 clear e3
 go_wp2_with fail
 refine(RS.out w3).mono ?_
 rintro e w4 ⟨rfl,kk⟩
 have K4:=btZ K3 kk
 have K24:=btZ KB kk
 have ROWP4:=rkZ ROWP3 kk
 have ROWT4:=rkZ ROWT3 kk
 have ROWS4:=rkZ ROWS3 kk
 have ROWO4:=rkZ ROWO3 kk
 clear kk
 obtain⟨r1,hr1⟩:∃r,mY cJ (acT p t) (wZ p S) t S th (n0:Int)=r:=⟨_,rfl⟩
 have RN1:=hI (irun_c _ _ _ p t S th (n0:Int) w4 (HP0.out.below K4.out) (HT0.out.below K4.out) (HS0.out.below K4.out) wth (by unfold wfi;omega) (T0.out.below K4.out))
 rw[hr1] at RN1
 obtain⟨out1,exit1,n1,err1⟩:=r1
 have HR1:=hI hr1
 unfold aeG at RN1
 dsimp only at RN1
 clear hr1
 have RGP:=rrZ ROWP4
 have RGT:=rrZ ROWT4
 have RGS:=rrZ ROWS4
 go_wp2_with (first | (refine wpList_load_mid rfl 26 _ rfl w.heap.size 0 rfl [.slice PA p.fns.length pn,.slice PB p.consts.length pm,.slice PD p.texts.length pk] _ RGP.out Tryz.underlying26 rfl zF ?_) | (refine wpList_load_mid rfl 34 _ rfl (w.heap.size+1) 0 rfl [.int .i64 t.fn,.int .i64 t.at_,.int .i64 t.loop,.slice B1 t.ins.length m1,.slice B2 t.exits.length m2,.int .i64 t.turn.at_,.int .i64 t.turn.steps,.slice B3 t.turn.sets.length m3,.slice B4 t.turn.makes.length m4,.int .i64 t.back.at_,.int .i64 t.back.steps,.slice B5 t.back.sets.length m5,.slice B6 t.back.makes.length m6] _ RGT.out Tryz.underlying34 rfl rP ?_) | (refine wpList_load_mid rfl 40 _ rfl (w.heap.size+1+1) 0 rfl [.slice CA S.cells.length cc,.slice SA S.shapes.length sc,.slice XA S.texts.length xc,.slice TA S.threads.length tc,.slice EA S.ends.length ec,.slice AA S.said.length ac,.int .i64 S.asked,.int .i64 S.steps] _ RGS.out Tryz.underlying40 rfl eC ?_) | fail)
 clear RGP RGT RGS
 refine RN1.out.mono ?_
 rintro e w5 ⟨ocs1,rfl,hout',kk⟩
 have hout1:=hout' w5 (fun _ _ _=>rfl) (Nat.le_refl _)
 have K5:=btZ K4 kk
 have KK1:=hI kk
 have ROWP5:=rkZ ROWP4 kk
 have ROWT5:=rkZ ROWT4 kk
 have ROWS5:=rkZ ROWS4 kk
 obtain⟨c,s,x,tv,en,sa,rfl,hc,hsh,htx,hth',hen,hsa,-⟩:=id hout1
 obtain⟨CO1,co1,rfl,-⟩:=id hc
 obtain⟨SO1,so1,rfl,-⟩:=id hsh
 obtain⟨XO1,xo1,rfl,-⟩:=id htx
 obtain⟨TO1,uo1,rfl,-⟩:=id hth'
 obtain⟨EO1,eo1,rfl,-⟩:=id hen
 obtain⟨AO1,ao1,rfl,-⟩:=id hsa
 have HTH1:=hI hth'
 clear hc hsh htx hth' hen hsa
 have HOUT1:=hI hout1
 clear kk hout1 hout'
 obtain⟨w6,hw6⟩:∃ww,ww=w5.alloc (.cells #[.slice CO1 out1.cells.length co1,.slice SO1 out1.shapes.length so1,.slice XO1 out1.texts.length xo1,.slice TO1 out1.threads.length uo1,.slice EO1 out1.ends.length eo1,.slice AO1 out1.said.length ao1,.int .i64 out1.asked,.int .i64 out1.steps] 40):=⟨_,rfl⟩
 have KB1:Hid (Below w5.heap.size w5 w6):=by rw[hw6];exact aB _ _
 have ROWO16:Hid (w6.heap[w5.heap.size]? = some (.cells #[.slice CO1 out1.cells.length co1,.slice SO1 out1.shapes.length so1,.slice XO1 out1.texts.length xo1,.slice TO1 out1.threads.length uo1,.slice EO1 out1.ends.length eo1,.slice AO1 out1.said.length ao1,.int .i64 out1.asked,.int .i64 out1.steps] 40 (0,0))):=by rw[hw6];exact aJ _ _
 have K6:=btZ K5 KB1.out
 have ROWP6:=rkZ ROWP5 KB1.out
 have ROWT6:=rkZ ROWT5 KB1.out
 have ROWS6:=rkZ ROWS5 KB1.out
 have HW6:=hI hw6
 clear hw6
 have K46:=btZ KK1 KB1.out
 have ROWO6:=rkZ ROWO4 K46.out
 go_upto_region 6 with fail
 rw[←HW6.out]
 obtain⟨r2,hr2⟩:∃r,mY cJ (acT p t) (wZ p S) t S th (n0:Int)=r:=⟨_,rfl⟩
 have RN2:=hI (irun_c _ _ _ p t S th (n0:Int) w6 (HP0.out.below K6.out) (HT0.out.below K6.out) (HS0.out.below K6.out) wth (by unfold wfi;omega) (T0.out.below K6.out))
 rw[hr2] at RN2
 obtain⟨out2,exit2,n2,err2⟩:=r2
 have HR2:=hI hr2
 unfold aeG at RN2
 dsimp only at RN2
 clear hr2
 have RGP:=rrZ ROWP6
 have RGT:=rrZ ROWT6
 have RGS:=rrZ ROWS6
 go_wp2_with (first | (refine wpList_load_mid rfl 26 _ rfl w.heap.size 0 rfl [.slice PA p.fns.length pn,.slice PB p.consts.length pm,.slice PD p.texts.length pk] _ RGP.out Tryz.underlying26 rfl zF ?_) | (refine wpList_load_mid rfl 34 _ rfl (w.heap.size+1) 0 rfl [.int .i64 t.fn,.int .i64 t.at_,.int .i64 t.loop,.slice B1 t.ins.length m1,.slice B2 t.exits.length m2,.int .i64 t.turn.at_,.int .i64 t.turn.steps,.slice B3 t.turn.sets.length m3,.slice B4 t.turn.makes.length m4,.int .i64 t.back.at_,.int .i64 t.back.steps,.slice B5 t.back.sets.length m5,.slice B6 t.back.makes.length m6] _ RGT.out Tryz.underlying34 rfl rP ?_) | (refine wpList_load_mid rfl 40 _ rfl (w.heap.size+1+1) 0 rfl [.slice CA S.cells.length cc,.slice SA S.shapes.length sc,.slice XA S.texts.length xc,.slice TA S.threads.length tc,.slice EA S.ends.length ec,.slice AA S.said.length ac,.int .i64 S.asked,.int .i64 S.steps] _ RGS.out Tryz.underlying40 rfl eC ?_) | fail)
 clear RGP RGT RGS
 refine RN2.out.mono ?_
 rintro e w7 ⟨ocs2,rfl,hout',kk⟩
 have hout2:=hout' w7 (fun _ _ _=>rfl) (Nat.le_refl _)
 have K7:=btZ K6 kk
 have KK2:=hI kk
 have ROWP7:=rkZ ROWP6 kk
 have ROWT7:=rkZ ROWT6 kk
 have ROWS7:=rkZ ROWS6 kk
 obtain⟨c,s,x,tv,en,sa,rfl,hc,hsh,htx,hth',hen,hsa,-⟩:=id hout2
 obtain⟨CO2,co2,rfl,-⟩:=id hc
 obtain⟨SO2,so2,rfl,-⟩:=id hsh
 obtain⟨XO2,xo2,rfl,-⟩:=id htx
 obtain⟨TO2,uo2,rfl,-⟩:=id hth'
 obtain⟨EO2,eo2,rfl,-⟩:=id hen
 obtain⟨AO2,ao2,rfl,-⟩:=id hsa
 have HTH2:=hI hth'
 clear hc hsh htx hth' hen hsa
 have HOUT2:=hI hout2
 clear kk hout2 hout'
 obtain⟨w8,hw8⟩:∃ww,ww=w7.alloc (.cells #[.slice CO2 out2.cells.length co2,.slice SO2 out2.shapes.length so2,.slice XO2 out2.texts.length xo2,.slice TO2 out2.threads.length uo2,.slice EO2 out2.ends.length eo2,.slice AO2 out2.said.length ao2,.int .i64 out2.asked,.int .i64 out2.steps] 40):=⟨_,rfl⟩
 have KB2:Hid (Below w7.heap.size w7 w8):=by rw[hw8];exact aB _ _
 have ROWO28:Hid (w8.heap[w7.heap.size]? = some (.cells #[.slice CO2 out2.cells.length co2,.slice SO2 out2.shapes.length so2,.slice XO2 out2.texts.length xo2,.slice TO2 out2.threads.length uo2,.slice EO2 out2.ends.length eo2,.slice AO2 out2.said.length ao2,.int .i64 out2.asked,.int .i64 out2.steps] 40 (0,0))):=by rw[hw8];exact aJ _ _
 have K8:=btZ K7 KB2.out
 have ROWP8:=rkZ ROWP7 KB2.out
 have ROWT8:=rkZ ROWT7 KB2.out
 have ROWS8:=rkZ ROWS7 KB2.out
 have HW8:=hI hw8
 clear hw8
 have hee:=HR1.out.symm.trans HR2.out
 injection hee with q1 hee
 injection hee with q2 hee
 injection hee with q3 q4
 have Q1:=hI q1
 clear q1
 have K68:=btZ KK2 KB2.out
 have K58:=btZ KB1 K68.out
 have K28:Hid (Below w2.heap.size w2 w8):=K24.out.trans ((K46.out.trans (K68.out.mono K46.out.size)).mono K24.out.size)
 have ROWO8:=rkZ ROWO6 K68.out
 have ROWO18:=rkZ ROWO16 K68.out
 subst q2 q3 q4
 go_upto_region 7 with fail
 rw[←HW8.out]
 go_wp2_with fail
 refine(irred_c w8).mono ?_
 rintro e w9 ⟨rfl,kk⟩
 have K9:=btZ K8 kk
 have K89:=hI kk
 have ROWS9:=rkZ ROWS8 kk
 have ROWO9:=rkZ ROWO8 kk
 have ROWO19:=rkZ ROWO18 kk
 have ROWO29:=rkZ ROWO28 kk
 clear kk
 have SAM:=hI (aeY _ _ _ w9 (aeN (HOUT1.out.below (K58.out.trans (K89.out.mono K58.out.size))) Q1.out) (HOUT2.out.below (KB2.out.trans (K89.out.mono KB2.out.size))))
 have RGO1:=rrZ ROWO19
 have RGO2:=rrZ ROWO29
 go_wp2_with (first | (refine b8 40 _ rfl rfl w5.heap.size 0 rfl [.slice CO1 out1.cells.length co1,.slice SO1 out1.shapes.length so1,.slice XO1 out1.texts.length xo1,.slice TO1 out1.threads.length uo1,.slice EO1 out1.ends.length eo1,.slice AO1 out1.said.length ao1,.int .i64 out1.asked,.int .i64 out1.steps] _ RGO1.out Tryz.underlying40 rfl eC ?_) | (refine b8 40 _ rfl rfl w7.heap.size 0 rfl [.slice CO2 out2.cells.length co2,.slice SO2 out2.shapes.length so2,.slice XO2 out2.texts.length xo2,.slice TO2 out2.threads.length uo2,.slice EO2 out2.ends.length eo2,.slice AO2 out2.said.length ao2,.int .i64 out2.asked,.int .i64 out2.steps] _ RGO2.out Tryz.underlying40 rfl eC ?_) | fail)
 refine SAM.out.mono ?_
 rintro e w10 ⟨rfl,kk⟩
 have K10:=btZ K9 kk
 have K2t:Hid (Below w2.heap.size w2 w10):=K28.out.trans ((K89.out.trans (kk.mono K89.out.size)).mono K28.out.size)
 have ROWS10:=rkZ ROWS9 kk
 have ROWO10:=rkZ ROWO9 kk
 clear kk RGO1 RGO2
 have RGS:=rrZ ROWS10
 have RGO:=rrZ ROWO10
 have SBM:=hI (aeY _ _ _ w10 (HS0.out.below K10.out) (aeN (HOUT.out.below K2t.out) E3.out))
 go_wp2_with (first | (refine b8 40 _ rfl rfl w2.heap.size 0 rfl [.slice CO out.cells.length co,.slice SO out.shapes.length so,.slice XO out.texts.length xo,.slice TO out.threads.length uo,.slice EO out.ends.length eo,.slice AO out.said.length ao,.int .i64 out.asked,.int .i64 out.steps] _ RGO.out Tryz.underlying40 rfl eC ?_) | (refine b8 40 _ rfl rfl (w.heap.size+1+1) 0 rfl [.slice CA S.cells.length cc,.slice SA S.shapes.length sc,.slice XA S.texts.length xc,.slice TA S.threads.length tc,.slice EA S.ends.length ec,.slice AA S.said.length ac,.int .i64 S.asked,.int .i64 S.steps] _ RGS.out Tryz.underlying40 rfl eC ?_) | fail)
 refine SBM.out.mono ?_
 rintro e w11 ⟨rfl,kk⟩
 have K11:=btZ K10 kk
 clear kk RGO RGS
 go_wp2_with fail
 go_ret
 exact⟨rfl,K11.out⟩
end
end Go.Proofs.YtjaphgpkkfdaaaaGreatDoor
