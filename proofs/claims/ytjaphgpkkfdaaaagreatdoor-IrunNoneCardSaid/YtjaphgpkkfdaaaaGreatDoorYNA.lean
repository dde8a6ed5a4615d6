/- Part of the walk of the given code: contracts of the functions that irun.Run reaches, and plain laws on what it reckons. -/
import Derived.Test.YtjaphgpkkfdaaaaGreatDoorZLA
import Derived.Test.YtjaphgpkkfdaaaaGreatDoorZLS
set_option maxHeartbeats 16000000
set_option maxRecDepth 100000
set_option linter.all false
namespace Go.Proofs.YtjaphgpkkfdaaaaGreatDoor
section
open Go.RowKit
theorem aeX {w:World} {g:Nat} {cs:List Value} {A B:aR} (h:gK w g cs A) (e:A=B):gK w g cs B:=e ▸ h
theorem irunNone_walk (pcs tcs scs:List Value) (p:aW) (t:aN) (S:aR) (th:Int) (w:World) (hp:eL w w.heap.size pcs p) (ht:cT w w.heap.size tcs t) (hs:gK w w.heap.size scs S) (wth:wfi th) (tab:Tab w) :
  Calls Tryz.prog 8 #[.agg ⟨pcs⟩,.agg ⟨tcs⟩,.agg ⟨scs⟩,.int .i64 th] w (aM (.bool true) w):=by
 have HP0:=hI hp
 have HT0:=hI ht
 have HS0:=hI hs
 obtain⟨PA,pn,PB,pm,PD,pk,rfl,-⟩:=id hp
 obtain⟨B1,m1,B2,m2,B3,m3,B4,m4,B5,m5,B6,m6,rfl,-⟩:=ht.cells6
 obtain⟨c,s,x,tv,en,sa,rfl,hc,hsh,htx,hth',hen,hsa,wa,ws⟩:=id hs
 obtain⟨CA,cc,rfl,-⟩:=id hc
 obtain⟨SA,sc,rfl,-⟩:=id hsh
 obtain⟨XA,xc,rfl,-⟩:=id htx
 obtain⟨TA,tc,rfl,-⟩:=id hth'
 obtain⟨EA,ec,rfl,-⟩:=id hen
 obtain⟨AA,ac,rfl,-⟩:=id hsa
 obtain⟨w1,hw1⟩:∃w1,w1=((w.alloc (.cells #[.slice PA p.fns.length pn,.slice PB p.consts.length pm,.slice PD p.texts.length pk] 26)).alloc (.cells #[.int .i64 t.fn,.int .i64 t.at_,.int .i64 t.loop,.slice B1 t.ins.length m1,.slice B2 t.exits.length m2,.int .i64 t.turn.at_,.int .i64 t.turn.steps,.slice B3 t.turn.sets.length m3,.slice B4 t.turn.makes.length m4,.int .i64 t.back.at_,.int .i64 t.back.steps,.slice B5 t.back.sets.length m5,.slice B6 t.back.makes.length m6] 34)).alloc (.cells #[.slice CA S.cells.length cc,.slice SA S.shapes.length sc,.slice XA S.texts.length xc,.slice TA S.threads.length tc,.slice EA S.ends.length ec,.slice AA S.said.length ac,.int .i64 S.asked,.int .i64 S.steps] 40):=⟨_,rfl⟩
 have FB:=aeI w (.cells #[.slice PA p.fns.length pn,.slice PB p.consts.length pm,.slice PD p.texts.length pk] 26) (.cells #[.int .i64 t.fn,.int .i64 t.at_,.int .i64 t.loop,.slice B1 t.ins.length m1,.slice B2 t.exits.length m2,.int .i64 t.turn.at_,.int .i64 t.turn.steps,.slice B3 t.turn.sets.length m3,.slice B4 t.turn.makes.length m4,.int .i64 t.back.at_,.int .i64 t.back.steps,.slice B5 t.back.sets.length m5,.slice B6 t.back.makes.length m6] 34) (.cells #[.slice CA S.cells.length cc,.slice SA S.shapes.length sc,.slice XA S.texts.length xc,.slice TA S.threads.length tc,.slice EA S.ends.length ec,.slice AA S.said.length ac,.int .i64 S.asked,.int .i64 S.steps] 40)
 rw[←hw1] at FB
 obtain⟨f1,f2,f3,f5⟩:=FB
 have ROWP1:=hI f1
 have ROWT1:=hI f2
 have ROWS1:=hI f3
 have K1:=hI f5
 have HW1:=hI hw1
 have T0:=hI tab
 clear hp ht hs hc hsh htx hth' hen hsa wa ws hw1 f1 f2 f3 f5 tab
 go_enter Tryz.func8,Tryz.ntmps8
 go_upto_region 1 with fail
 rw[←HW1.out]
 obtain⟨r,hr⟩:∃r,mY cJ (acT p t) (wZ p S) t S th 0=r:=⟨_,rfl⟩
 have RN:=hI (irun_c _ _ _ p t S th 0 w1 (HP0.out.below K1.out) (HT0.out.below K1.out) (HS0.out.below K1.out) wth (by unfold wfi;omega) (T0.out.below K1.out))
 rw[hr] at RN
 obtain⟨out,exit,n,err⟩:=r
 have HR:=hI hr
 unfold aeG at RN
 dsimp only at RN
 clear hr
 have RGP:=rrZ ROWP1
 have RGT:=rrZ ROWT1
 have RGS:=rrZ ROWS1
 go_wp2_with (first | (refine wpList_load_mid rfl 26 _ rfl w.heap.size 0 rfl [.slice PA p.fns.length pn,.slice PB p.consts.length pm,.slice PD p.texts.length pk] _ RGP.out Tryz.underlying26 rfl zF ?_) | (refine wpList_load_mid rfl 34 _ rfl (w.heap.size+1) 0 rfl [.int .i64 t.fn,.int .i64 t.at_,.int .i64 t.loop,.slice B1 t.ins.length m1,.slice B2 t.exits.length m2,.int .i64 t.turn.at_,.int .i64 t.turn.steps,.slice B3 t.turn.sets.length m3,.slice B4 t.turn.makes.length m4,.int .i64 t.back.at_,.int .i64 t.back.steps,.slice B5 t.back.sets.length m5,.slice B6 t.back.makes.length m6] _ RGT.out Tryz.underlying34 rfl rP ?_) | (refine wpList_load_mid rfl 40 _ rfl (w.heap.size+1+1) 0 rfl [.slice CA S.cells.length cc,.slice SA S.shapes.length sc,.slice XA S.texts.length xc,.slice TA S.threads.length tc,.slice EA S.ends.length ec,.slice AA S.said.length ac,.int .i64 S.asked,.int .i64 S.steps] _ RGS.out Tryz.underlying40 rfl eC ?_) | fail)
 clear RGP RGT RGS
 refine RN.out.mono ?_
 rintro e w2 ⟨ocs,rfl,hout',kk⟩
 have hout:=hout' w2 (fun _ _ _=>rfl) (Nat.le_refl _)
 have K2:=btZ K1 kk
 have KK:=hI kk
 have ROWP2:=rkZ ROWP1 kk
 have ROWT2:=rkZ ROWT1 kk
 have ROWS2:=rkZ ROWS1 kk
 obtain⟨c,s,x,tv,en,sa,rfl,hc,hsh,htx,hth',hen,hsa,-⟩:=id hout
 obtain⟨CO,co,rfl,-⟩:=id hc
 obtain⟨SO,so,rfl,-⟩:=id hsh
 obtain⟨XO,xo,rfl,-⟩:=id htx
 obtain⟨TO,uo,rfl,-⟩:=id hth'
 obtain⟨EO,eo,rfl,-⟩:=id hen
 obtain⟨AO,ao,rfl,-⟩:=id hsa
 have HTH:=hI hth'
 clear hc hsh htx hth' hen hsa
 have HOUT:=hI hout
 clear kk hout hout'
 obtain⟨w3,hw3⟩:∃ww,ww=w2.alloc (.cells #[.slice CO out.cells.length co,.slice SO out.shapes.length so,.slice XO out.texts.length xo,.slice TO out.threads.length uo,.slice EO out.ends.length eo,.slice AO out.said.length ao,.int .i64 out.asked,.int .i64 out.steps] 40):=⟨_,rfl⟩
 have KB:Hid (Below w2.heap.size w2 w3):=by rw[hw3];exact aB _ _
 have ROWO3:Hid (w3.heap[w2.heap.size]? = some (.cells #[.slice CO out.cells.length co,.slice SO out.shapes.length so,.slice XO out.texts.length xo,.slice TO out.threads.length uo,.slice EO out.ends.length eo,.slice AO out.said.length ao,.int .i64 out.asked,.int .i64 out.steps] 40 (0,0))):=by rw[hw3];exact aJ _ _
 have K3:=btZ K2 KB.out
 have ROWP3:=rkZ ROWP2 KB.out
 have ROWT3:=rkZ ROWT2 KB.out
 have ROWS3:=rkZ ROWS2 KB.out
 have HW3:=hI hw3
 clear hw3
 go_upto_region 2 with fail
 rw[←HW3.out]
 by_cases he:err=0
 case neg=>
  have hb:(err != 0)=true:=bne_iff_ne.2 he
  clear he
  go_wp2_with fail
  refine(irred_c w3).mono ?_
  rintro e w4 ⟨rfl,kk⟩
  have K4:=btZ K3 kk
  clear kk
  go_wp2_with fail
  go_ret
  exact⟨rfl,K4.out⟩
 subst he
 obtain⟨e1,e2,e3⟩:=irun_none HR.out
 have E3:=hI e3
 clear e3
 subst e1 e2
 go_wp2_with fail
 refine(irred_c w3).mono ?_
 rintro e w4 ⟨rfl,kk⟩
 have K4:=btZ K3 kk
 have K24:=btZ KB kk
 have ROWS4:=rkZ ROWS3 kk
 have ROWO4:=rkZ ROWO3 kk
 clear kk
 have SAM:=hI (aeY _ _ _ w4 (aeX (HOUT.out.below K24.out) E3.out) (HS0.out.below K4.out))
 have RGS:=rrZ ROWS4
 have RGO:=rrZ ROWO4
 go_wp2_with (first | (refine b8 40 _ rfl rfl w2.heap.size 0 rfl [.slice CO out.cells.length co,.slice SO out.shapes.length so,.slice XO out.texts.length xo,.slice TO out.threads.length uo,.slice EO out.ends.length eo,.slice AO out.said.length ao,.int .i64 out.asked,.int .i64 out.steps] _ RGO.out Tryz.underlying40 rfl eC ?_) | (refine b8 40 _ rfl rfl (w.heap.size+1+1) 0 rfl [.slice CA S.cells.length cc,.slice SA S.shapes.length sc,.slice XA S.texts.length xc,.slice TA S.threads.length tc,.slice EA S.ends.length ec,.slice AA S.said.length ac,.int .i64 S.asked,.int .i64 S.steps] _ RGS.out Tryz.underlying40 rfl eC ?_) | fail)
 refine SAM.out.mono ?_
 rintro e w5 ⟨rfl,kk⟩
 have K5:=btZ K4 kk
 clear kk RGO RGS
 go_wp2_with fail
 go_ret
 exact⟨rfl,K5.out⟩
end
end Go.Proofs.YtjaphgpkkfdaaaaGreatDoor
