/- A part of the walk. -/
import Derived.Test.YtjaphgpkkfdaaaaGreatDoorYQL
set_option maxHeartbeats 16000000
set_option maxRecDepth 100000
set_option linter.all false
namespace Go.Proofs.YtjaphgpkkfdaaaaGreatDoor
section
open Go.RowKit
def af8 (r:aR×Int×Int×Int) (w:World) (e:Ending) (w':World):Prop:=∃cs,e=.returned (.tuple #[.agg ⟨cs⟩,.int .i64 r.2.1,.int .i64 r.2.2.2])∧gK w' w'.heap.size cs r.1∧Below w.heap.size w w'
theorem iturn_c (pcs tcs scs:List Value) (p:aW) (t:aN) (S:aR) (th:Int) (w:World) (hp:eL w w.heap.size pcs p) (ht:cT w w.heap.size tcs t) (hs:gK w w.heap.size scs S) (wth:wfi th) (tab:Tab w) :
  Calls Tryz.prog 19 #[.agg ⟨pcs⟩,.agg ⟨tcs⟩,.agg ⟨scs⟩,.int .i64 th] w (af8 (mY cJ (acT p t) (wZ p S) t S th 1) w):=by
 have HP0:=hI hp
 have HT0:=hI ht
 have HS0:=hI hs
 obtain⟨PA,pn,PB,pm,PD,pk,rfl,-⟩:=id hp
 obtain⟨B1,m1,B2,m2,B3,m3,B4,m4,B5,m5,B6,m6,rfl,-⟩:=ht.cells6
 obtain⟨c,s,x,tv,en,sa,rfl,hc,hsh,htx,hth',hen,hsa,wa,ws⟩:=id hs
 obtain⟨CA,cc,rfl,-⟩:=id hc
 obtain⟨SA,sc,rfl,-⟩:=id hsh
 obtain⟨XA,xc,rfl,-⟩:=id htx
 obtain⟨TA,tc,rfl,-⟩:=id hth'
 obtain⟨EA,ec,rfl,-⟩:=id hen
 obtain⟨AA,ac,rfl,-⟩:=id hsa
 obtain⟨w1,hw1⟩:∃w1,w1=(((w.alloc (.cells #[.slice PA p.fns.length pn,.slice PB p.consts.length pm,.slice PD p.texts.length pk] 26)).alloc (.cells #[.int .i64 t.fn,.int .i64 t.at_,.int .i64 t.loop,.slice B1 t.ins.length m1,.slice B2 t.exits.length m2,.int .i64 t.turn.at_,.int .i64 t.turn.steps,.slice B3 t.turn.sets.length m3,.slice B4 t.turn.makes.length m4,.int .i64 t.back.at_,.int .i64 t.back.steps,.slice B5 t.back.sets.length m5,.slice B6 t.back.makes.length m6] 34)).alloc (.cells #[.slice CA S.cells.length cc,.slice SA S.shapes.length sc,.slice XA S.texts.length xc,.slice TA S.threads.length tc,.slice EA S.ends.length ec,.slice AA S.said.length ac,.int .i64 S.asked,.int .i64 S.steps] 40)).alloc (.cells #[.slice none 0 0,.slice none 0 0,.slice none 0 0,.slice none 0 0,.slice none 0 0,.slice none 0 0,.int .i64 0,.int .i64 0] 40):=⟨_,rfl⟩
 have FB:=xZ w (.cells #[.slice PA p.fns.length pn,.slice PB p.consts.length pm,.slice PD p.texts.length pk] 26) (.cells #[.int .i64 t.fn,.int .i64 t.at_,.int .i64 t.loop,.slice B1 t.ins.length m1,.slice B2 t.exits.length m2,.int .i64 t.turn.at_,.int .i64 t.turn.steps,.slice B3 t.turn.sets.length m3,.slice B4 t.turn.makes.length m4,.int .i64 t.back.at_,.int .i64 t.back.steps,.slice B5 t.back.sets.length m5,.slice B6 t.back.makes.length m6] 34) (.cells #[.slice CA S.cells.length cc,.slice SA S.shapes.length sc,.slice XA S.texts.length xc,.slice TA S.threads.length tc,.slice EA S.ends.length ec,.slice AA S.said.length ac,.int .i64 S.asked,.int .i64 S.steps] 40) (.cells #[.slice none 0 0,.slice none 0 0,.slice none 0 0,.slice none 0 0,.slice none 0 0,.slice none 0 0,.int .i64 0,.int .i64 0] 40)
 rw[←hw1] at FB
 obtain⟨f1,f2,f3,f4,f5⟩:=FB
 have ROWP1:=hI f1
 have ROWT1:=hI f2
 have ROWS1:=hI f3
 have ROWR1:=hI f4
 have HZ1:=hI f5
 have K1:Hid (Below w.heap.size w w1):=by
  rw[hw1]
  exact((((Below.refl _ w).alloc (Nat.le_refl _) _).alloc (by rw[World.size_alloc];omega) _).alloc (by rw[World.size_alloc,World.size_alloc];omega) _).alloc (by rw[World.size_alloc,World.size_alloc,World.size_alloc];omega) _
 have HW1:=hI hw1
 have T0:=hI tab
 clear hp ht hs hc hsh htx hth' hen hsa wa ws hw1 f1 f2 f3 f4 f5 tab
 obtain⟨r,hr⟩:∃r,mY cJ (acT p t) (wZ p S) t S th 1=r:=⟨_,rfl⟩
 have RN:=hI (irun_c _ _ _ p t S th 1 w1 (HP0.out.below K1.out) (HT0.out.below K1.out) (HS0.out.below K1.out) wth (by unfold wfi;omega) (T0.out.below K1.out))
 rw[hr] at RN ⊢
 obtain⟨out,exit,n,err⟩:=r
 unfold aeG at RN
 unfold af8
 dsimp only at RN ⊢
 clear hr
 go_enter Tryz.func19,Tryz.ntmps19
 go_upto_region 1 with fail
 rw[←HW1.out]
 have RGP:=rrZ ROWP1
 have RGT:=rrZ ROWT1
 have RGS:=rrZ ROWS1
 go_wp2_with (first | (refine wpList_load_mid rfl 26 _ rfl w.heap.size 0 rfl [.slice PA p.fns.length pn,.slice PB p.consts.length pm,.slice PD p.texts.length pk] _ RGP.out Tryz.underlying26 rfl zF ?_) | (refine wpList_load_mid rfl 34 _ rfl (w.heap.size+1) 0 rfl [.int .i64 t.fn,.int .i64 t.at_,.int .i64 t.loop,.slice B1 t.ins.length m1,.slice B2 t.exits.length m2,.int .i64 t.turn.at_,.int .i64 t.turn.steps,.slice B3 t.turn.sets.length m3,.slice B4 t.turn.makes.length m4,.int .i64 t.back.at_,.int .i64 t.back.steps,.slice B5 t.back.sets.length m5,.slice B6 t.back.makes.length m6] _ RGT.out Tryz.underlying34 rfl rP ?_) | (refine wpList_load_mid rfl 40 _ rfl (w.heap.size+1+1) 0 rfl [.slice CA S.cells.length cc,.slice SA S.shapes.length sc,.slice XA S.texts.length xc,.slice TA S.threads.length tc,.slice EA S.ends.length ec,.slice AA S.said.length ac,.int .i64 S.asked,.int .i64 S.steps] _ RGS.out Tryz.underlying40 rfl eC ?_) | fail)
 clear RGP RGT RGS
 refine RN.out.mono ?_
 rintro e w3 ⟨ocs,rfl,hout',k3⟩
 have hout:=hout' w3 (fun _ _ _=>rfl) (Nat.le_refl _)
 have HOU:=hI hout'
 clear hout'
 have K3:=btZ K1 k3
 have ROWR3:=rkZ ROWR1 k3
 obtain⟨c,s,x,tv,en,sa,rfl,hc,hsh,htx,hth',hen,hsa,-⟩:=id hout
 obtain⟨CO,co,rfl,-⟩:=id hc
 obtain⟨SO,so,rfl,-⟩:=id hsh
 obtain⟨XO,xo,rfl,-⟩:=id htx
 obtain⟨TO,uo,rfl,-⟩:=id hth'
 obtain⟨EO,eo,rfl,-⟩:=id hen
 obtain⟨AO,ao,rfl,-⟩:=id hsa
 have HTH:=hI hth'
 clear hc hsh htx hth' hen hsa
 have HOUT:=hI hout
 clear k3 hout
 obtain⟨w4,hw4⟩:∃w4,w4=w3.alloc (.cells #[.slice CO out.cells.length co,.slice SO out.shapes.length so,.slice XO out.texts.length xo,.slice TO out.threads.length uo,.slice EO out.ends.length eo,.slice AO out.said.length ao,.int .i64 out.asked,.int .i64 out.steps] 40):=⟨_,rfl⟩
 have K34:Hid (Below w3.heap.size w3 w4):=by rw[hw4];exact aB _ _
 have ROWO4:Hid (w4.heap[w3.heap.size]? = some (.cells #[.slice CO out.cells.length co,.slice SO out.shapes.length so,.slice XO out.texts.length xo,.slice TO out.threads.length uo,.slice EO out.ends.length eo,.slice AO out.said.length ao,.int .i64 out.asked,.int .i64 out.steps] 40 (0,0))):=by rw[hw4];exact aJ _ _
 have K4:=btZ K3 K34.out
 have ROWR4:=rkZ ROWR3 K34.out
 have HW4:=hI hw4
 clear hw4
 go_upto_region 2 with fail
 rw[←HW4.out]
 have RGO:=rrZ ROWO4
 go_wp2_with (first | (refine wpList_load_mid rfl 40 _ rfl w3.heap.size 0 rfl [.slice CO out.cells.length co,.slice SO out.shapes.length so,.slice XO out.texts.length xo,.slice TO out.threads.length uo,.slice EO out.ends.length eo,.slice AO out.said.length ao,.int .i64 out.asked,.int .i64 out.steps] _ RGO.out Tryz.underlying40 rfl eC ?_) | (refine wpList_store_row rfl 40 _ _ rfl (w.heap.size+1+1+1) #[.slice CO out.cells.length co,.slice SO out.shapes.length so,.slice XO out.texts.length xo,.slice TO out.threads.length uo,.slice EO out.ends.length eo,.slice AO out.said.length ao,.int .i64 out.asked,.int .i64 out.steps] rfl rfl 40 _ ROWR4.out eC rfl (oC (by simp[Value.oneCell'])) ?_) | fail)
 generalize hwz:World.setRow _ _ _=wz
 have QR:=shZ hwz ROWR4
 have KZ:Hid (Below w.heap.size w wz):=by rw[←hwz];exact Below.set_row K4.out (by omega) _
 have OZ:Hid (gK wz wz.heap.size [.slice CO out.cells.length co,.slice SO out.shapes.length so,.slice XO out.texts.length xo,.slice TO out.threads.length uo,.slice EO out.ends.length eo,.slice AO out.said.length ao,.int .i64 out.asked,.int .i64 out.steps] out):=by
  refine HOU.out wz (fun b hb hb2=>?_) (by rw[←hwz];simp;exact K34.out.size)
  rw[←hwz,setRow_other _ _ _ _ (by have:=HZ1.out;omega)]
  exact K34.out.block b hb2
 clear hwz RGO
 go_wp2_with fail
 have r0:=crZ QR 0 rfl
 have r1:=crZ QR 1 rfl
 have r2:=crZ QR 2 rfl
 have r3:=crZ QR 3 rfl
 have r4:=crZ QR 4 rfl
 have r5:=crZ QR 5 rfl
 have r6:=crZ QR 6 rfl
 have r7:=crZ QR 7 rfl
 refine bodyPost_ret (v:=.tuple #[.agg ⟨[.slice CO out.cells.length co,.slice SO out.shapes.length so,.slice XO out.texts.length xo,.slice TO out.threads.length uo,.slice EO out.ends.length eo,.slice AO out.said.length ao,.int .i64 out.asked,.int .i64 out.steps]⟩,.int .i64 exit,.int .i64 err]) (by simp[results,Tryz.results19,go_sem,r0,r1,r2,r3,r4,r5,r6,r7]) rfl ?_
 exact⟨_,rfl,OZ.out,KZ.out⟩
end
section
open Go.RowKit
def ag8 (r:aR×Int×Int×Int) (th:Int) (many:Nat) (w:World) (e:Ending) (w':World):Prop:=Below w.heap.size w w'∧
 ((∃hd f b off c,r.2.2.2=0∧r.2.1<0∧r.1.threads[th.toNat]? = some hd∧hd.frames.getLast? = some f∧many≤f.regs.length∧e=.returned (.tuple #[.slice (some ⟨b,off,none⟩) many c,.bool true])∧aH w' w'.heap.size 2 hU (.slice (some ⟨b,off,none⟩) f.regs.length c) f.regs)∨
 (¬(r.2.2.2=0∧r.2.1<0)∧e=.returned (.tuple #[.slice none 0 0,.bool false])))
theorem ag4 {α : Type} {l:List α} {x : α} (h:l.getLast? = some x):∃j,l.length=j+1:=by
 cases l with
 | nil=>cases h
 | cons a l=>exact⟨l.length,rfl⟩
theorem ahF (pcs tcs scs:List Value) (p:aW) (t:aN) (S:aR) (th:Int) (many:Nat) (w:World) (hp:eL w w.heap.size pcs p) (ht:cT w w.heap.size tcs t) (hs:gK w w.heap.size scs S) (wth:wfi th) (hm0:0<many) (hmany:∀out exit n hd f,mY cJ (acT p t) (wZ p S) t S th 1=(out,exit,n,0)→S.threads[th.toNat]? = some hd→hd.frames.getLast? = some f→many≤f.regs.length) (tab:Tab w) :
  Calls Tryz.prog 21 #[.agg ⟨pcs⟩,.agg ⟨tcs⟩,.agg ⟨scs⟩,.int .i64 th,.int .i64 many] w (ag8 (mY cJ (acT p t) (wZ p S) t S th 1) th many w):=by
 have HMANY:=hI hmany
 clear hmany
 have HP0:=hI hp
 have HT0:=hI ht
 have HS0:=hI hs
 obtain⟨PA,pn,PB,pm,PD,pk,rfl,-⟩:=id hp
 obtain⟨B1,m1,B2,m2,B3,m3,B4,m4,B5,m5,B6,m6,rfl,-⟩:=ht.cells6
 obtain⟨c,s,x,tv,en,sa,rfl,hc,hsh,htx,hth',hen,hsa,wa,ws⟩:=id hs
 obtain⟨CA,cc,rfl,-⟩:=id hc
 obtain⟨SA,sc,rfl,-⟩:=id hsh
 obtain⟨XA,xc,rfl,-⟩:=id htx
 obtain⟨TA,tc,rfl,-⟩:=id hth'
 obtain⟨EA,ec,rfl,-⟩:=id hen
 obtain⟨AA,ac,rfl,-⟩:=id hsa
 obtain⟨w1,hw1⟩:∃w1,w1=((w.alloc (.cells #[.slice PA p.fns.length pn,.slice PB p.consts.length pm,.slice PD p.texts.length pk] 26)).alloc (.cells #[.int .i64 t.fn,.int .i64 t.at_,.int .i64 t.loop,.slice B1 t.ins.length m1,.slice B2 t.exits.length m2,.int .i64 t.turn.at_,.int .i64 t.turn.steps,.slice B3 t.turn.sets.length m3,.slice B4 t.turn.makes.length m4,.int .i64 t.back.at_,.int .i64 t.back.steps,.slice B5 t.back.sets.length m5,.slice B6 t.back.makes.length m6] 34)).alloc (.cells #[.slice CA S.cells.length cc,.slice SA S.shapes.length sc,.slice XA S.texts.length xc,.slice TA S.threads.length tc,.slice EA S.ends.length ec,.slice AA S.said.length ac,.int .i64 S.asked,.int .i64 S.steps] 40):=⟨_,rfl⟩
 have FB:=aeI w (.cells #[.slice PA p.fns.length pn,.slice PB p.consts.length pm,.slice PD p.texts.length pk] 26) (.cells #[.int .i64 t.fn,.int .i64 t.at_,.int .i64 t.loop,.slice B1 t.ins.length m1,.slice B2 t.exits.length m2,.int .i64 t.turn.at_,.int .i64 t.turn.steps,.slice B3 t.turn.sets.length m3,.slice B4 t.turn.makes.length m4,.int .i64 t.back.at_,.int .i64 t.back.steps,.slice B5 t.back.sets.length m5,.slice B6 t.back.makes.length m6] 34) (.cells #[.slice CA S.cells.length cc,.slice SA S.shapes.length sc,.slice XA S.texts.length xc,.slice TA S.threads.length tc,.slice EA S.ends.length ec,.slice AA S.said.length ac,.int .i64 S.asked,.int .i64 S.steps] 40)
 rw[←hw1] at FB
 obtain⟨f1,f2,f3,f5⟩:=FB
 have ROWP1:=hI f1
 have ROWT1:=hI f2
 have ROWS1:=hI f3
 have K1:=hI f5
 have HW1:=hI hw1
 have T0:=hI tab
 clear hp ht hs hc hsh htx hth' hen hsa wa ws hw1 f1 f2 f3 f5 tab
 go_enter Tryz.func21,Tryz.ntmps21
 go_upto_region 1 with fail
 rw[←HW1.out]
 obtain⟨r,hr⟩:∃r,mY cJ (acT p t) (wZ p S) t S th 1=r:=⟨_,rfl⟩
 have RN:=hI (iturn_c _ _ _ p t S th w1 (HP0.out.below K1.out) (HT0.out.below K1.out) (HS0.out.below K1.out) wth (T0.out.below K1.out))
 rw[hr] at RN
 obtain⟨out,exit,n,err⟩:=r
 have HR:=hI hr
 unfold af8 at RN
 dsimp only at RN
 rw[hr]
 clear hr
 have RGP:=rrZ ROWP1
 have RGT:=rrZ ROWT1
 have RGS:=rrZ ROWS1
 go_wp2_with (first | (refine wpList_load_mid rfl 26 _ rfl w.heap.size 0 rfl _ _ RGP.out Tryz.underlying26 rfl zF ?_) | (refine wpList_load_mid rfl 34 _ rfl (w.heap.size+1) 0 rfl _ _ RGT.out Tryz.underlying34 rfl rP ?_) | (refine wpList_load_mid rfl 40 _ rfl (w.heap.size+1+1) 0 rfl _ _ RGS.out Tryz.underlying40 rfl eC ?_) | fail)
 clear RGP RGT RGS
 refine RN.out.mono ?_
 rintro e w3 ⟨ocs,rfl,hout,kk⟩
 have K3:=btZ K1 kk
 obtain⟨c,s,x,tv,en,sa,rfl,hc,hsh,htx,hth',hen,hsa,-⟩:=id hout
 obtain⟨CO,co,rfl,-⟩:=id hc
 obtain⟨SO,so,rfl,-⟩:=id hsh
 obtain⟨XO,xo,rfl,-⟩:=id htx
 obtain⟨TO,uo,rfl,-⟩:=id hth'
 obtain⟨EO,eo,rfl,-⟩:=id hen
 obtain⟨AO,ao,rfl,-⟩:=id hsa
 have HTH:=hI hth'
 clear hc hsh htx hth' hen hsa
 clear kk hout
 obtain⟨w4,hw4⟩:∃ww,ww=w3.alloc (.cells #[.slice CO out.cells.length co,.slice SO out.shapes.length so,.slice XO out.texts.length xo,.slice TO out.threads.length uo,.slice EO out.ends.length eo,.slice AO out.said.length ao,.int .i64 out.asked,.int .i64 out.steps] 40):=⟨_,rfl⟩
 have KB:Hid (Below w3.heap.size w3 w4):=by rw[hw4];exact aB _ _
 have ROWO4:Hid (w4.heap[w3.heap.size]? = some (.cells #[.slice CO out.cells.length co,.slice SO out.shapes.length so,.slice XO out.texts.length xo,.slice TO out.threads.length uo,.slice EO out.ends.length eo,.slice AO out.said.length ao,.int .i64 out.asked,.int .i64 out.steps] 40 (0,0))):=by rw[hw4];exact aJ _ _
 have K4:=btZ K3 KB.out
 have HW4:=hI hw4
 clear hw4
 go_upto_region 2 with fail
 rw[←HW4.out]
 by_cases he:err=0
 case neg=>
  have hb:(err != 0)=true:=bne_iff_ne.2 he
  have HE:=hI he
  clear he
  go_wp2_with fail
  refine bodyPost_ret (v:=.tuple #[.slice none 0 0,.bool false]) (by simp[results,Tryz.results21,go_sem]) rfl ⟨K4.out,by rw[HR.out];exact .inr ⟨fun h=>HE.out h.1,rfl⟩⟩
 subst he
 by_cases c:0≤exit
 ·obtain⟨q,rfl⟩:∃q:Nat,exit=(q:Int):=⟨exit.toNat,by omega⟩
  go_wp2_with fail
  refine bodyPost_ret (v:=.tuple #[.slice none 0 0,.bool false]) (by simp[results,Tryz.results21,go_sem]) rfl ⟨K4.out,by rw[HR.out];exact .inr ⟨fun h=>absurd h.2 (by show ¬(q:Int)<0;omega),rfl⟩⟩
 have cb:decide (0≤exit)=false:=decide_eq_false c
 obtain⟨hirc,-⟩:=uN HR.out
 obtain⟨h0,hex,hd,f,hd',f',e1,e2,e3,e4,e5,e6⟩:=irun_regs (qI hirc) (adR hirc) HR.out
 have hmf:many≤f'.regs.length:=by rw[e5];exact HMANY.out _ _ _ hd f HR.out e1 e2
 have E3:=hI e3
 have E4:=hI e4
 clear hirc e1 e2 e3 e4 e5 e6 hex hd f
 obtain⟨k,rfl⟩:∃k:Nat,th=(k:Int):=⟨th.toNat,by omega⟩
 have hthk':out.threads[k]? = some hd':=E3.out
 have hki':(k:Int)<out.threads.length:=by have:=(lE hthk').1;omega
 obtain⟨j',hj'⟩:=ag4 E4.out
 obtain⟨ub,uof,gb,go',gc,rr',tt',rfl,hub,hgb,p0,pat,pr,hjb'⟩:=last_at HTH.out hthk' hj' E4.out
 obtain⟨RA',rc',rfl,-⟩:=id pr
 obtain⟨b,off,_,_,rfl,-,-,-,-,-⟩:=pr.at_ (i:=0) (by omega)
 have hcap:=pr.len
 have PR:=hI pr
 have hwr3:wrap64 (j':Int)=(j':Int):=by unfold wrap64;omega
 have hjj':(j':Int)<(j':Int)+1:=by omega
 have hcm:(many:Int)≤(rc':Int):=by omega
 have o3:=crZ ROWO4 3 rfl
 have h0':w4.cell? ⟨ub,uof+k*5,none⟩=some (.slice (some ⟨gb,go',none⟩) (j'+1) gc):=(KB.out.cell hub).trans p0
 have hF:w4.cell? ⟨gb,go'+j'*8+6,none⟩=some (.slice (some ⟨b,off,none⟩) f'.regs.length rc'):=(KB.out.cell hgb).trans (pat 6 _ rfl)
 clear p0 pat pr hthk' hj'
 go_wp2_with fail
 refine bodyPost_ret (v:=.tuple #[.slice (some ⟨b,off,none⟩) many rc',.bool true]) (by simp[results,Tryz.results21,go_sem]) rfl ⟨K4.out,by rw[HR.out];exact .inl ⟨hd',f',b,off,rc',rfl,(by show exit<0;omega),E3.out,E4.out,hmf,rfl,PR.out.keep KB.out.size (fun _ hp=>KB.out.cell hp) (fun _ _ h=>h)⟩⟩
end
end Go.Proofs.YtjaphgpkkfdaaaaGreatDoor
