/- Part of the walk of the given code: contracts of the functions that irun.Run reaches, and plain laws on what it reckons. -/
import Derived.Test.YtjaphgpkkfdaaaaGreatDoorYRA
set_option maxHeartbeats 16000000
set_option maxRecDepth 100000
set_option linter.all false
namespace Go.Proofs.YtjaphgpkkfdaaaaGreatDoor
section
open Go.RowKit
theorem af9 {w:World} {g:Nat} {cs:List Value} {ty:TypeId} (h:w.heap[g]? = some (.cells ⟨cs⟩ ty (0,0))) (k:Nat) (l:List Value) (hl:∀j v,l[j]? = some v→cs[k+j]? = some v):w.rangeAt g k l:=fun j v hv=>by
 rw[cell_of_row w g (k+j) _ _ _ h];simpa using hl j v hv
def af7 (l:List pS) (r k:Nat):Bool:=(l.take k).any (fun s=>s.reg == (r:Int))
theorem agB {l:List pS} {r k:Nat} {s:pS} (h:l[k]? = some s):af7 l r (k+1)=(af7 l r k || (s.reg == (r:Int))):=by
 unfold af7;rw[List.take_add_one,h];simp
theorem agC {l:List pS} {r:Nat} (h:af7 l r l.length=false):∀s∈l,s.reg.toNat≠r∨s.reg<0:=fun s hs=>by
 unfold af7 at h;rw[List.take_length,List.any_eq_false] at h
 have:=h s hs
 by_cases c:s.reg<0
 ·exact .inr c
 ·left;intro e;apply this;simp;omega
theorem agE {l:List pS} {r:Nat} (h0:∀s∈l,0≤s.reg) (h:af7 l r l.length=false):∀s∈l,s.reg.toNat≠r:=fun s hs=>by
 rcases agC h s hs with h | h
 ·exact h
 ·have:=h0 s hs;omega
theorem agD {regs:Int} {t:aN} {exit:Int} (h:kQ regs t) (he:exit<t.exits.length):∀s∈(exitAt t exit).sets,0≤s.reg:=fun s hs=>by
 unfold exitAt at hs
 split at hs
 ·obtain⟨x,hx⟩:∃x,t.exits[exit.toNat]? = some x:=⟨_,lG (by omega)⟩
  rw[hx] at hs
  exact((h.all x (List.mem_of_getElem? hx)).2 s hs).1
 ·unfold jV at hs
  split at hs
  ·rename_i c;exact(h.turn c.2).sets s hs |>.1
  ·exact(h.back.sets s hs).1
theorem agA {α : Type} {l:List α} {x : α} (h:l.getLast? = some x):∃j,l.length=j+1:=by
 cases l with
 | nil=>cases h
 | cons a l=>exact⟨l.length,rfl⟩
theorem irunRegs_walk (pcs tcs scs:List Value) (p:aW) (t:aN) (S:aR) (th:Int) (w:World) (hp:eL w w.heap.size pcs p) (ht:cT w w.heap.size tcs t) (hs:gK w w.heap.size scs S) (wth:wfi th) (tab:Tab w) :
  Calls Tryz.prog 5 #[.agg ⟨pcs⟩,.agg ⟨tcs⟩,.agg ⟨scs⟩,.int .i64 th] w (aM (.bool true) w):=by
 have HP0:=hI hp
 have HT0:=hI ht
 have HS0:=hI hs
 obtain⟨PA,pn,PB,pm,PD,pk,rfl,-⟩:=id hp
 obtain⟨B1,m1,B2,m2,B3,m3,B4,m4,B5,m5,B6,m6,rfl,-⟩:=ht.cells6
 obtain⟨c,s,x,tv,en,sa,rfl,hc,hsh,htx,hth',hen,hsa,wa,ws⟩:=id hs
 obtain⟨CA,cc,rfl,-⟩:=id hc
 obtain⟨SA,sc,rfl,-⟩:=id hsh
 obtain⟨XA,xc,rfl,-⟩:=id htx
 obtain⟨TA,tc,rfl,-⟩:=id hth'
 obtain⟨EA,ec,rfl,-⟩:=id hen
 obtain⟨AA,ac,rfl,-⟩:=id hsa
 obtain⟨w1,hw1⟩:∃w1,w1=((w.alloc (.cells #[.slice PA p.fns.length pn,.slice PB p.consts.length pm,.slice PD p.texts.length pk] 26)).alloc (.cells #[.int .i64 t.fn,.int .i64 t.at_,.int .i64 t.loop,.slice B1 t.ins.length m1,.slice B2 t.exits.length m2,.int .i64 t.turn.at_,.int .i64 t.turn.steps,.slice B3 t.turn.sets.length m3,.slice B4 t.turn.makes.length m4,.int .i64 t.back.at_,.int .i64 t.back.steps,.slice B5 t.back.sets.length m5,.slice B6 t.back.makes.length m6] 34)).alloc (.cells #[.slice CA S.cells.length cc,.slice SA S.shapes.length sc,.slice XA S.texts.length xc,.slice TA S.threads.length tc,.slice EA S.ends.length ec,.slice AA S.said.length ac,.int .i64 S.asked,.int .i64 S.steps] 40):=⟨_,rfl⟩
 have FB:=aeI w (.cells #[.slice PA p.fns.length pn,.slice PB p.consts.length pm,.slice PD p.texts.length pk] 26) (.cells #[.int .i64 t.fn,.int .i64 t.at_,.int .i64 t.loop,.slice B1 t.ins.length m1,.slice B2 t.exits.length m2,.int .i64 t.turn.at_,.int .i64 t.turn.steps,.slice B3 t.turn.sets.length m3,.slice B4 t.turn.makes.length m4,.int .i64 t.back.at_,.int .i64 t.back.steps,.slice B5 t.back.sets.length m5,.slice B6 t.back.makes.length m6] 34) (.cells #[.slice CA S.cells.length cc,.slice SA S.shapes.length sc,.slice XA S.texts.length xc,.slice TA S.threads.length tc,.slice EA S.ends.length ec,.slice AA S.said.length ac,.int .i64 S.asked,.int .i64 S.steps] 40)
 rw[←hw1] at FB
 obtain⟨f1,f2,f3,f5⟩:=FB
 have ROWP1:=hI f1
 have ROWT1:=hI f2
 have ROWS1:=hI f3
 have K1:=hI f5
 have HW1:=hI hw1
 have T0:=hI tab
 clear hp ht hs hc hsh htx hth' hen hsa wa ws hw1 f1 f2 f3 f5 tab
 go_enter Tryz.func5,Tryz.ntmps5
 go_upto_region 1 with fail
 rw[←HW1.out]
 go_wp2_with fail
 refine(irred_c w1).mono ?_
 rintro e w2 ⟨rfl,kk⟩
 have K2:=btZ K1 kk
 have ROWP2:=rkZ ROWP1 kk
 have ROWT2:=rkZ ROWT1 kk
 have ROWS2:=rkZ ROWS1 kk
 clear kk
 obtain⟨r,hr⟩:∃r,mY cJ (acT p t) (wZ p S) t S th 1=r:=⟨_,rfl⟩
 have RN:=hI (iturn_c _ _ _ p t S th w2 (HP0.out.below K2.out) (HT0.out.below K2.out) (HS0.out.below K2.out) wth (T0.out.below K2.out))
 rw[hr] at RN
 obtain⟨out,exit,n,err⟩:=r
 have HR:=hI hr
 unfold af8 at RN
 dsimp only at RN
 clear hr
 have RGP:=rrZ ROWP2
 have RGT:=rrZ ROWT2
 have RGS:=rrZ ROWS2
 go_wp2_with (first | (refine wpList_load_mid rfl 26 _ rfl w.heap.size 0 rfl _ _ RGP.out Tryz.underlying26 rfl zF ?_) | (refine wpList_load_mid rfl 34 _ rfl (w.heap.size+1) 0 rfl _ _ RGT.out Tryz.underlying34 rfl rP ?_) | (refine wpList_load_mid rfl 40 _ rfl (w.heap.size+1+1) 0 rfl _ _ RGS.out Tryz.underlying40 rfl eC ?_) | fail)
 clear RGP RGT RGS
 refine RN.out.mono ?_
 rintro e w3 ⟨ocs,rfl,hout,kk⟩
 have K3:=btZ K2 kk
 have ROWT3:=rkZ ROWT2 kk
 have ROWS3:=rkZ ROWS2 kk
 obtain⟨c,s,x,tv,en,sa,rfl,hc,hsh,htx,hth',hen,hsa,-⟩:=id hout
 obtain⟨CO,co,rfl,-⟩:=id hc
 obtain⟨SO,so,rfl,-⟩:=id hsh
 obtain⟨XO,xo,rfl,-⟩:=id htx
 obtain⟨TO,uo,rfl,-⟩:=id hth'
 obtain⟨EO,eo,rfl,-⟩:=id hen
 obtain⟨AO,ao,rfl,-⟩:=id hsa
 have HTH:=hI hth'
 clear hc hsh htx hth' hen hsa
 clear kk hout
 obtain⟨w4,hw4⟩:∃ww,ww=w3.alloc (.cells #[.slice CO out.cells.length co,.slice SO out.shapes.length so,.slice XO out.texts.length xo,.slice TO out.threads.length uo,.slice EO out.ends.length eo,.slice AO out.said.length ao,.int .i64 out.asked,.int .i64 out.steps] 40):=⟨_,rfl⟩
 have KB:Hid (Below w3.heap.size w3 w4):=by rw[hw4];exact aB _ _
 have ROWO4:Hid (w4.heap[w3.heap.size]? = some (.cells #[.slice CO out.cells.length co,.slice SO out.shapes.length so,.slice XO out.texts.length xo,.slice TO out.threads.length uo,.slice EO out.ends.length eo,.slice AO out.said.length ao,.int .i64 out.asked,.int .i64 out.steps] 40 (0,0))):=by rw[hw4];exact aJ _ _
 have K4:=btZ K3 KB.out
 have ROWT4:=rkZ ROWT3 KB.out
 have ROWS4:=rkZ ROWS3 KB.out
 have HW4:=hI hw4
 clear hw4
 go_upto_region 4 with fail
 rw[←HW4.out]
 by_cases he:err=0
 case neg=>
  have hb:(err != 0)=true:=bne_iff_ne.2 he
  clear he
  go_wp2_with fail
  refine(irred_c w4).mono ?_
  rintro e w5 ⟨rfl,kk⟩
  have K5:=btZ K4 kk
  clear kk
  go_wp2_with fail
  go_ret
  exact⟨rfl,K5.out⟩
 subst he
 obtain⟨hirc,-⟩:=uN HR.out
 have HIRC:=hI hirc
 clear hirc
 obtain⟨h0,hex,hd,f,hd',f',e1,e2,e3,e4,e5,e6⟩:=irun_regs (qI HIRC.out) (adR HIRC.out) HR.out
 obtain⟨fn,-,-,hfine⟩:=yK HIRC.out
 have HRG:=hI (agD hfine hex)
 clear hfine
 have E1:=hI e1
 have E2:=hI e2
 have E3:=hI e3
 have E4:=hI e4
 have E5:=hI e5
 have E6:=hI e6
 clear e1 e2 e3 e4 e5 e6
 have RB:Hid (w4.rangeAt (w.heap.size+1) 9 [.int .i64 t.back.at_,.int .i64 t.back.steps,.slice B5 t.back.sets.length m5,.slice B6 t.back.makes.length m6]):=af9 ROWT4.out 9 _ (fun j v hv=>by rcases j with _ | _ | _ | _ | j <;> first | exact hv | cases hv)
 obtain⟨w5,hw5⟩:∃ww,ww=w4.alloc (.cells #[.int .i64 t.back.at_,.int .i64 t.back.steps,.slice B5 t.back.sets.length m5,.slice B6 t.back.makes.length m6] 32):=⟨_,rfl⟩
 have K45:Hid (Below w4.heap.size w4 w5):=by rw[hw5];exact aB _ _
 have ROWE5:Hid (w5.heap[w4.heap.size]? = some (.cells #[.int .i64 t.back.at_,.int .i64 t.back.steps,.slice B5 t.back.sets.length m5,.slice B6 t.back.makes.length m6] 32 (0,0))):=by rw[hw5];exact aJ _ _
 have HW5:=hI hw5
 clear hw5
 go_upto_region 7 with (first | (refine wpList_load_mid rfl 32 _ rfl (w.heap.size+1) 9 rfl _ _ RB.out Tryz.underlying32 rfl rT ?_) | fail)
 rw[←HW5.out]
 clear RB
 have K5:=btZ K4 K45.out
 have ROWT5:=hI ((K45.out.block _ (aV ROWT4.out)).trans ROWT4.out)
 have t2:=crZ ROWT5 2 rfl
 obtain⟨ct,cb,hct,hcb,xt,xb⟩:=HT0.out.at510
 have XT:=hI xt
 have XB:=hI xb
 have ect:ct=[.int .i64 t.turn.at_,.int .i64 t.turn.steps,.slice B3 t.turn.sets.length m3,.slice B4 t.turn.makes.length m4]:=by
  obtain⟨_,_,rfl,-⟩:=XT.out
  have h2:=hct 2 _ rfl
  have h3:=hct 3 _ rfl
  injection h2 with h2
  injection h3 with h3
  rw[h2,h3]
 have ecb:cb=[.int .i64 t.back.at_,.int .i64 t.back.steps,.slice B5 t.back.sets.length m5,.slice B6 t.back.makes.length m6]:=by
  obtain⟨_,_,rfl,-⟩:=XB.out
  have h2:=hcb 2 _ rfl
  have h3:=hcb 3 _ rfl
  injection h2 with h2
  injection h3 with h3
  rw[h2,h3]
 subst ect ecb
 clear hct hcb xt xb
 go_upto_if 38 with fail
 go_cut [12] (fun c wx=>c=.pointer (some ⟨w4.heap.size,0,none⟩)∧∃S1 n1 M1 o1,Hid (wx.heap[w4.heap.size]? = some (.cells #[.int .i64 (jV t 0).at_,.int .i64 (jV t 0).steps,.slice S1 (jV t 0).sets.length n1,.slice M1 (jV t 0).makes.length o1] 32 (0,0)))∧Hid (gF w w.heap.size [.int .i64 (jV t 0).at_,.int .i64 (jV t 0).steps,.slice S1 (jV t 0).sets.length n1,.slice M1 (jV t 0).makes.length o1] (jV t 0))∧Hid (Below w4.heap.size w4 wx))
 case first=>
  by_cases hl:0<t.loop
  ·have hfin:jV t 0=t.turn:=by unfold jV;rw[if_pos ⟨rfl,hl⟩]
   have RT:Hid (w5.rangeAt (w.heap.size+1) 5 [.int .i64 t.turn.at_,.int .i64 t.turn.steps,.slice B3 t.turn.sets.length m3,.slice B4 t.turn.makes.length m4]):=af9 ROWT5.out 5 _ (fun j v hv=>by rcases j with _ | _ | _ | _ | j <;> first | exact hv | cases hv)
   have HF:=hI hfin
   clear hfin
   go_wp2_with (first | (refine wpList_load_mid rfl 32 _ rfl (w.heap.size+1) 5 rfl _ _ RT.out Tryz.underlying32 rfl rT ?_) | (refine wpList_store_row rfl 32 _ _ rfl w4.heap.size #[.int .i64 t.turn.at_,.int .i64 t.turn.steps,.slice B3 t.turn.sets.length m3,.slice B4 t.turn.makes.length m4] rfl rfl 32 _ ROWE5.out rT rfl (all_oneCell_toArray (by simp[Value.oneCell'])) ?_) | fail)
   go_meet
   case rel=>rw[HF.out];exact⟨rfl,_,_,_,_,hI (setRow_heap _ _ _ _ _ _ ROWE5.out),XT,hI (Below.set_row K45.out (Nat.le_refl _) _)⟩
  ·have hfin:jV t 0=t.back:=by unfold jV;rw[if_neg (fun h=>hl h.2)]
   have HF:=hI hfin
   clear hfin
   go_wp2_with fail
   go_meet
   case rel=>rw[HF.out];exact⟨rfl,_,_,_,_,ROWE5,XB,K45⟩
 case rest=>
  obtain⟨w6,hw6⟩:∃wd,wd=wc:=⟨_,rfl⟩
  subst hw6
  obtain⟨rfl,S1,n1,M1,o1,ROWE6,XF,K46⟩:=hcut
  clear t2 ROWE5 ROWT5 K5 K45
  have K6:=btZ K4 K46.out
  have ROWT6:=hI ((K46.out.block _ (aV ROWT4.out)).trans ROWT4.out)
  go_upto_if 42 with fail
  go_cut [] (fun wx=>∃S2 n2 M2 o2,Hid (wx.heap[w4.heap.size]? = some (.cells #[.int .i64 (exitAt t exit).at_,.int .i64 (exitAt t exit).steps,.slice S2 (exitAt t exit).sets.length n2,.slice M2 (exitAt t exit).makes.length o2] 32 (0,0)))∧Hid (gF w w.heap.size [.int .i64 (exitAt t exit).at_,.int .i64 (exitAt t exit).steps,.slice S2 (exitAt t exit).sets.length n2,.slice M2 (exitAt t exit).makes.length o2] (exitAt t exit))∧Hid (Below w4.heap.size w4 wx))
  case first=>
   by_cases c:0≤exit
   ·obtain⟨q,rfl⟩:∃q:Nat,exit=(q:Int):=⟨exit.toNat,by omega⟩
    have hq:q<t.exits.length:=by omega
    obtain⟨x,hx⟩:∃x,t.exits[q]? = some x:=⟨_,lG hq⟩
    have hfin:exitAt t q=x:=by unfold exitAt;rw[if_pos (by omega),Int.toNat_natCast,hx];rfl
    obtain⟨b,off,ecs,rfl,hb,hR,hat⟩:=HT0.out.exit rfl hx
    have HXR:=hI hR
    obtain⟨sv,mv,rfl,⟨S2,n2,rfl,-⟩,⟨M2,o2,rfl,-⟩,-⟩:=hR
    have RX:Hid (w6.rangeAt b (off+q*4) [.int .i64 x.at_,.int .i64 x.steps,.slice S2 x.sets.length n2,.slice M2 x.makes.length o2]):=fun a v hv=>(K6.out.cell hb).trans (hat a v hv)
    have t4:=crZ ROWT6 4 rfl
    have hqi:(q:Int)<t.exits.length:=by omega
    have HF:=hI hfin
    clear hfin hat hx c hex
    go_wp2_with (first | (refine wpList_load_mid rfl 32 _ rfl b (off+q*4) rfl _ _ RX.out Tryz.underlying32 rfl rT ?_) | (refine wpList_store_row rfl 32 _ _ rfl w4.heap.size #[.int .i64 x.at_,.int .i64 x.steps,.slice S2 x.sets.length n2,.slice M2 x.makes.length o2] rfl rfl 32 _ ROWE6.out rT rfl (all_oneCell_toArray (by simp[Value.oneCell'])) ?_) | fail)
    go_meet
    case rel=>rw[HF.out];exact⟨_,_,_,_,hI (setRow_heap _ _ _ _ _ _ ROWE6.out),HXR,hI (Below.set_row K46.out (Nat.le_refl _) _)⟩
   ·have hfin:exitAt t exit=jV t 0:=by unfold exitAt;rw[if_neg c]
    have HF:=hI hfin
    have cb:decide (0≤exit)=false:=decide_eq_false c
    clear hfin
    go_wp2_with fail
    go_meet
    case rel=>rw[HF.out];exact⟨_,_,_,_,ROWE6,XF,K46⟩
  case rest=>
  obtain⟨w7,hw7⟩:∃wd,wd=wc:=⟨_,rfl⟩
  subst hw7
  obtain⟨S2,n2,M2,o2,ROWE7,XE,K47⟩:=hcut
  obtain⟨X,hX⟩:∃X,exitAt t exit=X:=⟨_,rfl⟩
  rw[hX] at ROWE7 XE E6 HRG
  clear hX ROWE6 XF K46 ROWT6 K6 hex
  have K7:=btZ K4 K47.out
  have K37:=btZ KB K47.out
  have ROWS7:=hI ((K47.out.block _ (aV ROWS4.out)).trans ROWS4.out)
  have ROWO7:=hI ((K47.out.block _ (aV ROWO4.out)).trans ROWO4.out)
  obtain⟨k,rfl⟩:∃k:Nat,th=(k:Int):=⟨th.toNat,by omega⟩
  have hthk:S.threads[k]? = some hd:=E1.out
  have hthk':out.threads[k]? = some hd':=E3.out
  have hki:(k:Int)<S.threads.length:=by have:=(lE hthk).1;omega
  have hki':(k:Int)<out.threads.length:=by have:=(lE hthk').1;omega
  obtain⟨j,hj⟩:=agA E2.out
  obtain⟨j',hj'⟩:=agA E4.out
  obtain⟨_,_,_,_,_,_,hq,-,-,-,hthS,-⟩:=HS0.out
  simp only[List.cons.injEq] at hq
  obtain⟨-,-,-,rfl,-⟩:=hq
  obtain⟨tb,tof,fb,fo,fc,rr,tt,rfl,htb,hfb,q0,qat,qr,hjb⟩:=last_at hthS hthk hj E2.out
  obtain⟨ub,uof,gb,go',gc,rr',tt',rfl,hub,hgb,p0,pat,pr,hjb'⟩:=last_at HTH.out hthk' hj' E4.out
  obtain⟨RA,rc,rfl,-⟩:=id qr
  obtain⟨RA',rc',rfl,-⟩:=id pr
  have QR:=hI qr
  have PR:=hI pr
  have ll:=aP qr
  have QF:Hid (w.cell? ⟨fb,fo+j*8+6,none⟩=some (.slice RA f.regs.length rc)):=qat 6 _ rfl
  have PF:Hid (w3.cell? ⟨gb,go'+j'*8+6,none⟩=some (.slice RA' f.regs.length rc')):=by rw[←E5.out];exact pat 6 _ rfl
  have hwr2:wrap64 (j:Int)=(j:Int):=by unfold wrap64;omega
  have hwr3:wrap64 (j':Int)=(j':Int):=by unfold wrap64;omega
  have hjj:(j:Int)<(j:Int)+1:=by omega
  have hjj':(j':Int)<(j':Int)+1:=by omega
  have s3:=ecZ (crZ ROWS7 3 rfl)
  have g0:∀E:Up w7,E.to.cell? ⟨tb,tof+k*5,none⟩=some (.slice (some ⟨fb,fo,none⟩) (j+1) fc):=fun E=>E.cell ((K7.out.cell htb).trans q0)
  have o3:=ecZ (crZ ROWO7 3 rfl)
  have h0':∀E:Up w7,E.to.cell? ⟨ub,uof+k*5,none⟩=some (.slice (some ⟨gb,go',none⟩) (j'+1) gc):=fun E=>E.cell ((K37.out.cell hub).trans p0)
  clear q0 qat qr p0 pat pr hthS hthk hthk' hj hj'
  go_upto_region 11 with fail
  refine aD (by kernel_rfl) (by kernel_rfl) ?_
  repeat (go_big_quiet_step (fail))
  refine wpQuiet_nil ?_
  rintro _ ⟨E,rfl⟩
  obtain⟨w8,k8⟩:=E
  dsimp only
  have K78:=hI k8
  clear k8 s3 g0 o3 h0'
  have gF:∀E:Up w8,E.to.cell? ⟨fb,fo+j*8+6,none⟩=some (.slice RA f.regs.length rc):=fun E=>E.cell ((K78.out.cell (Nat.lt_of_lt_of_le hfb K7.out.size)).trans ((K7.out.cell hfb).trans QF.out))
  have hF:∀E:Up w8,E.to.cell? ⟨gb,go'+j'*8+6,none⟩=some (.slice RA' f.regs.length rc'):=fun E=>E.cell ((K78.out.cell (Nat.lt_of_lt_of_le hgb K37.out.size)).trans ((K37.out.cell hgb).trans PF.out))
  go_upto_region 12 with fail
  refine aD (by kernel_rfl) (by kernel_rfl) ?_
  repeat (go_big_quiet_step (fail))
  refine wpQuiet_nil ?_
  rintro _ ⟨E,rfl⟩
  obtain⟨w9,k9⟩:=E
  dsimp only
  have K79:=btZ K78 k9
  clear k9 gF hF K78 hwr2 hwr3 hjj hjj'
  have K9:=btZ K7 K79.out
  have K39:=btZ K37 K79.out
  have ROWE9:=hI ((K79.out.block _ (aV ROWE7.out)).trans ROWE7.out)
  go_wp2_with fail
  go_loopw [81] (fun i wx=>∃a:Nat,i=.int .i64 a∧a≤f.regs.length∧Hid (Below w9.heap.size w9 wx)) (fun i _=>f.regs.length - (RowKit.intOf i).toNat)
  case atStart=>exact⟨0,rfl,by omega,Below.refl _ _⟩
  case round=>
   obtain⟨a,rfl,ha,KX⟩:=hrel
   obtain⟨wo,hwo⟩:∃ww,ww=wr:=⟨_,rfl⟩
   subst hwo
   have KO:=btZ K9 KX.out
   have KP:=btZ K39 KX.out
   by_cases hlt:a<f.regs.length
   ·have hai:(a:Int)<f.regs.length:=by omega
    have e2:wo.cell? ⟨w4.heap.size,2,none⟩=some (.slice S2 X.sets.length n2):=cell_of_row wo _ 2 _ _ _ ((KX.out.block _ (aV ROWE9.out)).trans ROWE9.out)
    obtain⟨_,_,hxq,hse,-⟩:=XE.out
    simp only[List.cons.injEq] at hxq
    obtain⟨-,-,rfl,-⟩:=hxq
    have SE:=hI hse
    have lx:=aP hse
    clear hse
    go_wp2_with fail
    go_loopw [18,87] (fun s kv wy=>∃c:Nat,kv=.int .i64 c∧s=.bool (af7 X.sets a c)∧c≤X.sets.length∧wo=wy) (fun _ kv _=>X.sets.length - (RowKit.intOf kv).toNat)
    case atStart=>exact⟨0,rfl,rfl,by omega,rfl⟩
    case round=>
     obtain⟨c,rfl,rfl,hc,rfl⟩:=hrel
     by_cases hlc:c<X.sets.length
     ·obtain⟨b,off,y,ys,rfl,hb,hy,-,⟨rfl,-⟩,hat⟩:=SE.out.at_ hlc
      have hci:(c:Int)<X.sets.length:=by omega
      have g0:wo.cell? ⟨b,off+c*2,none⟩=some (.int .i64 y.reg):=(KO.out.cell hb).trans (hat 0 _ rfl)
      have hsn:=hI (agB (r:=a) hy)
      clear hat hy
      obtain⟨d,hd2⟩:∃d,af7 X.sets a c=d:=⟨_,rfl⟩
      rw[hd2] at hsn ⊢
      clear hd2
      cases d
      case true=>
       go_wp2_with fail
       go_roundw
       case rel=>exact⟨c+1,by go_num,by rw[hsn.out];rfl,by omega,by first | rfl | trivial⟩
       case measure=>simp[RowKit.intOf];omega
      case false=>
       obtain⟨e,he⟩:∃e,(y.reg == (a:Int))=e:=⟨_,rfl⟩
       rw[he] at hsn
       go_wp2_with fail
       go_roundw
       case rel=>exact⟨c+1,by go_num,by rw[hsn.out];first | rfl | simp[he],by omega,by first | rfl | trivial⟩
       case measure=>simp[RowKit.intOf];omega
     ·obtain rfl:c=X.sets.length:=by omega
      have hnl:¬(X.sets.length:Int)<X.sets.length:=by omega
      clear e2
      obtain⟨d,hd2⟩:∃d,af7 X.sets a X.sets.length=d:=⟨_,rfl⟩
      rw[hd2]
      have HD:=hI hd2
      clear hd2
      cases d
      case true=>
       go_upto_region 24 with fail
       refine aD (by kernel_rfl) (by kernel_rfl) ?_
       repeat (go_big_quiet_step (fail))
       refine wpQuiet_nil ?_
       rintro _ ⟨E,rfl⟩
       have KE:=btZ KX E.below
       go_wp2_with fail
       go_roundw
       case rel=>exact⟨a+1,by go_num,by omega,KE⟩
       case measure=>simp[RowKit.intOf];omega
      case false=>
       have hee:=E6.out a (agE HRG.out HD.out)
       obtain⟨b1,of1,v,vs,rfl,hb1,hv,-,⟨rfl,-⟩,hat1⟩:=QR.out.at_ hlt
       obtain⟨b2,of2,v',vs',rfl,hb2,hv',-,⟨rfl,-⟩,hat2⟩:=PR.out.at_ (i:=a) (by rw[E5.out];exact hlt)
       rw[hv',hv] at hee;injection hee with hee;subst hee
       have a0:∀E:Up wo,E.to.cell? ⟨b1,of1+a*2,none⟩=some (.int .i64 v'.kind):=fun E=>E.cell ((KO.out.cell hb1).trans (hat1 0 _ rfl))
       have a1:∀E:Up wo,E.to.cell? ⟨b1,of1+a*2+1,none⟩=some (.int .i64 v'.n):=fun E=>E.cell ((KO.out.cell hb1).trans (hat1 1 _ rfl))
       have b0:∀E:Up wo,E.to.cell? ⟨b2,of2+a*2,none⟩=some (.int .i64 v'.kind):=fun E=>E.cell ((KP.out.cell hb2).trans (hat2 0 _ rfl))
       have b1':∀E:Up wo,E.to.cell? ⟨b2,of2+a*2+1,none⟩=some (.int .i64 v'.n):=fun E=>E.cell ((KP.out.cell hb2).trans (hat2 1 _ rfl))
       clear hat1 hat2 hv hv'
       go_upto_region 24 with fail
       refine aD (by kernel_rfl) (by kernel_rfl) ?_
       repeat (go_big_quiet_step (fail))
       refine wpQuiet_nil ?_
       rintro _ ⟨E,rfl⟩
       have KE:=btZ KX E.below
       clear a0 b0 a1 b1'
       go_wp2_with fail
       go_roundw
       case rel=>exact⟨a+1,by go_num,by omega,KE⟩
       case measure=>simp[RowKit.intOf];omega
   ·obtain rfl:a=f.regs.length:=by omega
    have hnl:¬(f.regs.length:Int)<f.regs.length:=by omega
    go_wp2_with fail
    refine(irred_c wo).mono ?_
    rintro e w10 ⟨rfl,kk⟩
    have K10:=btZ KO kk
    clear kk
    go_wp2_with fail
    go_ret
    exact⟨rfl,K10.out⟩
end
end Go.Proofs.YtjaphgpkkfdaaaaGreatDoor
