/- Part of the walk of the given code: contracts of the functions that irun.Run reaches, and plain laws on what it reckons. -/
import Derived.Test.YtjaphgpkkfdaaaaGreatDoorZLA
set_option maxHeartbeats 16000000
set_option maxRecDepth 100000
set_option linter.all false
namespace Go.Proofs.YtjaphgpkkfdaaaaGreatDoor
section
open Go.RowKit
theorem irunSteps_walk (pcs tcs scs:List Value) (p:aW) (t:aN) (S:aR) (th tu:Int) (w:World) (hp:eL w w.heap.size pcs p) (ht:cT w w.heap.size tcs t) (hs:gK w w.heap.size scs S) (wth:wfi th) (wtu:wfi tu) (tab:Tab w) :
  Calls Tryz.prog 4 #[.agg ⟨pcs⟩,.agg ⟨tcs⟩,.agg ⟨scs⟩,.int .i64 th,.int .i64 tu] w (aM (.bool true) w):=by
 have HP0:=hI hp
 have HT0:=hI ht
 have HS0:=hI hs
 obtain⟨PA,pn,PB,pm,PD,pk,rfl,-⟩:=id hp
 obtain⟨B1,m1,B2,m2,B3,m3,B4,m4,B5,m5,B6,m6,rfl,-⟩:=ht.cells6
 obtain⟨c,s,x,tv,en,sa,rfl,hc,hsh,htx,hth',hen,hsa,wa,ws⟩:=id hs
 obtain⟨CA,cc,rfl,-⟩:=id hc
 obtain⟨SA,sc,rfl,-⟩:=id hsh
 obtain⟨XA,xc,rfl,-⟩:=id htx
 obtain⟨TA,tc,rfl,-⟩:=id hth'
 obtain⟨EA,ec,rfl,-⟩:=id hen
 obtain⟨AA,ac,rfl,-⟩:=id hsa
 obtain⟨w1,hw1⟩:∃w1,w1=((w.alloc (.cells #[.slice PA p.fns.length pn,.slice PB p.consts.length pm,.slice PD p.texts.length pk] 26)).alloc (.cells #[.int .i64 t.fn,.int .i64 t.at_,.int .i64 t.loop,.slice B1 t.ins.length m1,.slice B2 t.exits.length m2,.int .i64 t.turn.at_,.int .i64 t.turn.steps,.slice B3 t.turn.sets.length m3,.slice B4 t.turn.makes.length m4,.int .i64 t.back.at_,.int .i64 t.back.steps,.slice B5 t.back.sets.length m5,.slice B6 t.back.makes.length m6] 34)).alloc (.cells #[.slice CA S.cells.length cc,.slice SA S.shapes.length sc,.slice XA S.texts.length xc,.slice TA S.threads.length tc,.slice EA S.ends.length ec,.slice AA S.said.length ac,.int .i64 S.asked,.int .i64 S.steps] 40):=⟨_,rfl⟩
 have FB:=aeI w (.cells #[.slice PA p.fns.length pn,.slice PB p.consts.length pm,.slice PD p.texts.length pk] 26) (.cells #[.int .i64 t.fn,.int .i64 t.at_,.int .i64 t.loop,.slice B1 t.ins.length m1,.slice B2 t.exits.length m2,.int .i64 t.turn.at_,.int .i64 t.turn.steps,.slice B3 t.turn.sets.length m3,.slice B4 t.turn.makes.length m4,.int .i64 t.back.at_,.int .i64 t.back.steps,.slice B5 t.back.sets.length m5,.slice B6 t.back.makes.length m6] 34) (.cells #[.slice CA S.cells.length cc,.slice SA S.shapes.length sc,.slice XA S.texts.length xc,.slice TA S.threads.length tc,.slice EA S.ends.length ec,.slice AA S.said.length ac,.int .i64 S.asked,.int .i64 S.steps] 40)
 rw[←hw1] at FB
 obtain⟨f1,f2,f3,f5⟩:=FB
 have ROWP1:=hI f1
 have ROWT1:=hI f2
 have ROWS1:=hI f3
 have K1:=hI f5
 have HW1:=hI hw1
 have T0:=hI tab
 clear hp ht hs hc hsh htx hth' hen hsa wa ws hw1 f1 f2 f3 f5 tab
 have rb:=aeU tu 8 (by decide)
 obtain⟨n0,hn0⟩:∃n:Nat,aeH tu 8=(n:Int):=⟨(aeH tu 8).toNat,by omega⟩
 have RS:=hI (afC tu 8 w1 (by decide) (by decide))
 rw[hn0] at RS rb
 clear hn0 wtu
 go_enter Tryz.func4,Tryz.ntmps4
 go_upto_region 1 with fail
 rw[←HW1.out]
 go_wp2_with fail
 refine RS.out.mono ?_
 rintro e w2 ⟨rfl,k2⟩
 have K2:=btZ K1 k2
 have ROWP2:=rkZ ROWP1 k2
 have ROWT2:=rkZ ROWT1 k2
 have ROWS2:=rkZ ROWS1 k2
 clear k2
 obtain⟨r,hr⟩:∃r,mY cJ (acT p t) (wZ p S) t S th (n0:Int)=r:=⟨_,rfl⟩
 have RN:=hI (irun_c _ _ _ p t S th (n0:Int) w2 (HP0.out.below K2.out) (HT0.out.below K2.out) (HS0.out.below K2.out) wth (by unfold wfi;omega) (T0.out.below K2.out))
 rw[hr] at RN
 obtain⟨out,exit,n,err⟩:=r
 have HR:=hI hr
 unfold aeG at RN
 dsimp only at RN
 clear hr
 have RGP:=rrZ ROWP2
 have RGT:=rrZ ROWT2
 have RGS:=rrZ ROWS2
 go_wp2_with (first | (refine wpList_load_mid rfl 26 _ rfl w.heap.size 0 rfl [.slice PA p.fns.length pn,.slice PB p.consts.length pm,.slice PD p.texts.length pk] _ RGP.out Tryz.underlying26 rfl zF ?_) | (refine wpList_load_mid rfl 34 _ rfl (w.heap.size+1) 0 rfl [.int .i64 t.fn,.int .i64 t.at_,.int .i64 t.loop,.slice B1 t.ins.length m1,.slice B2 t.exits.length m2,.int .i64 t.turn.at_,.int .i64 t.turn.steps,.slice B3 t.turn.sets.length m3,.slice B4 t.turn.makes.length m4,.int .i64 t.back.at_,.int .i64 t.back.steps,.slice B5 t.back.sets.length m5,.slice B6 t.back.makes.length m6] _ RGT.out Tryz.underlying34 rfl rP ?_) | (refine wpList_load_mid rfl 40 _ rfl (w.heap.size+1+1) 0 rfl [.slice CA S.cells.length cc,.slice SA S.shapes.length sc,.slice XA S.texts.length xc,.slice TA S.threads.length tc,.slice EA S.ends.length ec,.slice AA S.said.length ac,.int .i64 S.asked,.int .i64 S.steps] _ RGS.out Tryz.underlying40 rfl eC ?_) | fail)
 clear RGP RGT RGS
 refine RN.out.mono ?_
 rintro e w3 ⟨ocs,rfl,hout',k3⟩
 have hout:=hout' w3 (fun _ _ _=>rfl) (Nat.le_refl _)
 clear hout'
 have K3:=btZ K2 k3
 have ROWP3:=rkZ ROWP2 k3
 have ROWT3:=rkZ ROWT2 k3
 have ROWS3:=rkZ ROWS2 k3
 obtain⟨c,s,x,tv,en,sa,rfl,hc,hsh,htx,hth',hen,hsa,-⟩:=id hout
 obtain⟨CO,co,rfl,-⟩:=id hc
 obtain⟨SO,so,rfl,-⟩:=id hsh
 obtain⟨XO,xo,rfl,-⟩:=id htx
 obtain⟨TO,uo,rfl,-⟩:=id hth'
 obtain⟨EO,eo,rfl,-⟩:=id hen
 obtain⟨AO,ao,rfl,-⟩:=id hsa
 have HTH:=hI hth'
 clear hc hsh htx hth' hen hsa
 have HOUT:=hI hout
 clear k3 hout
 obtain⟨w4,hw4⟩:∃w4,w4=w3.alloc (.cells #[.slice CO out.cells.length co,.slice SO out.shapes.length so,.slice XO out.texts.length xo,.slice TO out.threads.length uo,.slice EO out.ends.length eo,.slice AO out.said.length ao,.int .i64 out.asked,.int .i64 out.steps] 40):=⟨_,rfl⟩
 have K34:Hid (Below w3.heap.size w3 w4):=by rw[hw4];exact aB _ _
 have ROWO4:Hid (w4.heap[w3.heap.size]? = some (.cells #[.slice CO out.cells.length co,.slice SO out.shapes.length so,.slice XO out.texts.length xo,.slice TO out.threads.length uo,.slice EO out.ends.length eo,.slice AO out.said.length ao,.int .i64 out.asked,.int .i64 out.steps] 40 (0,0))):=by rw[hw4];exact aJ _ _
 have K4:=btZ K3 K34.out
 have ROWT4:=rkZ ROWT3 K34.out
 have ROWS4:=rkZ ROWS3 K34.out
 have HW4:=hI hw4
 clear hw4
 go_upto_region 3 with fail
 rw[←HW4.out]
 by_cases he:err=0
 case neg=>
  have hb:(err != 0)=true:=bne_iff_ne.2 he
  clear he
  go_wp2_with fail
  refine(irred_c w4).mono ?_
  rintro e w5 ⟨rfl,k5⟩
  have K5:=btZ K4 k5
  clear k5
  go_wp2_with fail
  go_ret
  exact⟨rfl,K5.out⟩
 subst he
 obtain⟨hirc,hstc,-,-,-,hd0,f0,-⟩:=uN HR.out
 have hS9:=(oQ hstc).1
 have HS9:=hI hS9
 clear hS9 hstc
 have hst:=xP (qI hirc) (adR hirc) HR.out
 obtain⟨h0,m,hd,f,rfl,hth,hlast,hcase⟩:=hst
 obtain⟨fn,-,-,hfine⟩:=yK hirc
 have hstep:=fun k=>l7 hfine k 0
 obtain⟨c1,c2,c3⟩:=wK hirc
 have hstep2:=fun k=>qY c1 c2 k 0
 have hm7:(m:Int)≤n0:=by rcases hcase with h | ⟨x,h⟩ <;> omega
 have hlp:=(adR hirc).2.2
 have HST1:=hI hstep
 have HST2:=hI hstep2
 have HCASE:=hI hcase
 have HC3:=hI c3
 have HALL:=hI hfine.all
 have HTHR:=hI hth
 have HLAST:=hI hlast
 have HFT:=hI hfine.turn
 have HFB:=hI hfine.back
 have HC1:=hI c1
 have HC2:=hI c2
 clear hirc hth hlast hcase hfine hstep hstep2 c1 c2 c3
 go_upto_region 5 with fail
 have d1:=ecZ (crZ ROWT4 1 rfl)
 refine aD (by kernel_rfl) (by kernel_rfl) ?_
 repeat (go_big_quiet_step (fail))
 refine wpQuiet_nil ?_
 rintro _ ⟨E,rfl⟩
 obtain⟨w5,k5⟩:=E
 dsimp only
 have K5:=btZ K4 k5
 have K35:=btZ K34 k5
 have ROWT5:=rkZ ROWT4 k5
 have ROWS5:=rkZ ROWS4 k5
 have ROWO5:=rkZ ROWO4 k5
 clear k5 d1
 have l2:=crZ ROWT5 2 rfl
 have l6:=crZ ROWT5 6 rfl
 have l10:=crZ ROWT5 10 rfl
 go_wp2_with fail
 go_loopw [15,38] (fun s k wr=>∃i:Nat,k=.int .i64 i∧s=.int .i64 (dA t 0 i)∧i≤m∧w5=wr) (fun _ k _=>m - (RowKit.intOf k).toNat)
 case atStart=>exact⟨0,rfl,rfl,by omega,rfl⟩
 case round=>
  obtain⟨i,rfl,rfl,hi,rfl⟩:=hrel
  by_cases hlt:i<m
  ·have hii:(i:Int)<m:=by omega
   have hsn:=aeK (t:=t) i 0
   rw[Nat.zero_add] at hsn
   have b1:=HST1.out i
   have b2:=HST2.out i
   by_cases hi0:i=0
   ·subst hi0
    by_cases hl0:0<t.loop
    ·have hN:dA t 0 (0+1)=dA t 0 0+t.turn.steps:=by rw[hsn];unfold jV;rw[if_pos ⟨rfl,hl0⟩]
     have b3:=(HFT.out hl0).steps
     have b4:t.turn.steps≤200:=by rcases HC1.out with h | h <;> omega
     have HWR:Hid (wrap64 (dA t 0 0+t.turn.steps)=dA t 0 0+t.turn.steps):=by show _=_;unfold wrap64;omega
     clear hsn
     have HNN:=hI hN
     clear hN b1 b2
     go_wp2_with fail
     go_roundw
     case rel=>exact⟨0+1,by go_num,by rw[HNN.out];exact congrArg _ HWR.out,by omega,by first | rfl | trivial⟩
     case measure=>simp[RowKit.intOf];omega
    ·have hN:dA t 0 (0+1)=dA t 0 0+t.back.steps:=by rw[hsn];unfold jV;rw[if_neg (fun h=>hl0 h.2)]
     have b3:=HFB.out.steps
     have b4:=HC2.out
     have HWR:Hid (wrap64 (dA t 0 0+t.back.steps)=dA t 0 0+t.back.steps):=by show _=_;unfold wrap64;omega
     clear hsn
     have HNN:=hI hN
     clear hN b1 b2
     go_wp2_with fail
     go_roundw
     case rel=>exact⟨0+1,by go_num,by rw[HNN.out];exact congrArg _ HWR.out,by omega,by first | rfl | trivial⟩
     case measure=>simp[RowKit.intOf];omega
   ·have hib:((i:Int) == 0)=false:=by simpa using hi0
    have hN:dA t 0 (i+1)=dA t 0 i+t.back.steps:=by rw[hsn];unfold jV;rw[if_neg (fun h=>hi0 h.1)]
    have b3:=HFB.out.steps
    have b4:=HC2.out
    have HWR:Hid (wrap64 (dA t 0 i+t.back.steps)=dA t 0 i+t.back.steps):=by show _=_;unfold wrap64;omega
    clear hsn
    have HNN:=hI hN
    clear hN b1 b2
    go_wp2_with fail
    go_roundw
    case rel=>exact⟨i+1,by go_num,by rw[HNN.out];exact congrArg _ HWR.out,by omega,by first | rfl | trivial⟩
    case measure=>simp[RowKit.intOf];omega
  ·obtain rfl:i=m:=by omega
   have hni:¬(i:Int)<i:=by omega
   have b1:=HST1.out i
   have b2:=HST2.out i
   clear l2 l6 l10
   obtain⟨j,hj⟩:∃j,hd.frames.length=j+1:=by
    cases e:hd.frames.length with
    | zero=>have:=HLAST.out;rw[List.length_eq_zero_iff.1 e] at this;cases this
    | succ j=>exact⟨j,rfl⟩
   obtain⟨k,rfl⟩:∃k:Nat,th=(k:Int):=⟨th.toNat,by omega⟩
   have hthk:out.threads[k]? = some hd:=HTHR.out
   have hkl:k<out.threads.length:=(lE hthk).1
   have hki:(k:Int)<out.threads.length:=by omega
   obtain⟨tb,tof,fb,fo,fc,rr,tt,rfl,htb,hfb,q0,qat,-,hjb⟩:=last_at HTH.out hthk hj HLAST.out
   have hwr2:wrap64 (j:Int)=(j:Int):=by unfold wrap64;omega
   have hjj:(j:Int)<(j:Int)+1:=by omega
   have Q0:=hI q0
   have Q1:Hid (w3.cell? ⟨fb,fo+j*8+1,none⟩=some (.int .i64 f.at_)):=qat 1 _ rfl
   have o3:=crZ ROWO5 3 rfl
   have o7:=crZ ROWO5 7 rfl
   have s7:=crZ ROWS5 7 rfl
   have g0:w5.cell? ⟨tb,tof+k*5,none⟩=some (.slice (some ⟨fb,fo,none⟩) (j+1) fc):=(K35.out.cell htb).trans Q0.out
   have g1:w5.cell? ⟨fb,fo+j*8+1,none⟩=some (.int .i64 f.at_):=(K35.out.cell hfb).trans Q1.out
   have hS9:=HS9.out
   clear q0 qat hthk
   rcases HCASE.out with ⟨rfl,hmt,hos,hfa⟩ | ⟨x,hmt,hge,hlx,hx,hos,hfa⟩
   ·have hwr3:wrap64 (S.steps+dA t 0 i)=S.steps+dA t 0 i:=by unfold wrap64;omega
    rw[hfa] at g1
    rw[hos] at o7
    have hnn:(n0:Int)=i:=by omega
    have HNN:=hI hnn
    clear hos hfa hmt hnn
    rw[HNN.out]
    go_wp2_with fail
    refine(irred_c w5).mono ?_
    rintro e w6 ⟨rfl,k6⟩
    have K6:=btZ K5 k6
    have o7:=aC k6 o7
    have s7:=aC k6 s7
    have g1:=aC k6 g1
    clear k6
    go_wp2_with fail
    go_ret
    exact⟨rfl,K6.out⟩
   ·have b4:=(HALL.out x (List.mem_of_getElem? hx)).1
    have b5:=HC3.out x (List.mem_of_getElem? hx)
    obtain⟨q,rfl⟩:∃q:Nat,exit=(q:Int):=⟨exit.toNat,by omega⟩
    have hwr3:wrap64 (dA t 0 i+x.steps)=dA t 0 i+x.steps:=by unfold wrap64;omega
    have hwr4:wrap64 (S.steps+(dA t 0 i+x.steps))=S.steps+(dA t 0 i+x.steps):=by unfold wrap64;omega
    rw[hfa] at g1
    rw[hos,Int.add_assoc] at o7
    have hnn:((i:Int) == n0)=false:=by simp;omega
    obtain⟨eb,eof,ecs,rfl,heb,⟨sv,mv,rfl,-⟩,heat⟩:=HT0.out.exit rfl hx
    have x0:w5.cell? ⟨eb,eof+q*4,none⟩=some (.int .i64 x.at_):=(K5.out.cell heb).trans (heat 0 _ rfl)
    have x1:w5.cell? ⟨eb,eof+q*4+1,none⟩=some (.int .i64 x.steps):=(K5.out.cell heb).trans (heat 1 _ rfl)
    have x4:=crZ ROWT5 4 rfl
    have hlx2:¬(t.exits.length:Int)≤(q:Int):=by omega
    clear hos hfa hx heat hmt
    go_wp2_with fail
    refine(irred_c w5).mono ?_
    rintro e w6 ⟨rfl,k6⟩
    have K6:=btZ K5 k6
    have o7:=aC k6 o7
    have s7:=aC k6 s7
    have g1:=aC k6 g1
    clear k6 x0 x1 x4
    go_wp2_with fail
    go_ret
    exact⟨rfl,K6.out⟩
end
end Go.Proofs.YtjaphgpkkfdaaaaGreatDoor
