/- Part of the walk of the given code: what a turn tells, and plain laws on it. -/
import Derived.Test.YtjaphgpkkfdaaaaGreatDoorZM
import Derived.Test.YtjaphgpkkfdaaaaGreatDoorYKL
set_option maxHeartbeats 16000000
set_option maxRecDepth 100000
set_option linter.all false
namespace Go.Proofs.YtjaphgpkkfdaaaaGreatDoor
section
open Go.RowKit
theorem agU {ins:List bG} {v at_:Int} (h:v<0∨at_≤v∨(ins.length:Int)<at_):hZ ins v at_ = -1:=by
 rw[rK,if_pos]
 rcases h with h | h | h
 ·exact .inl h
 ·exact .inr (.inl h)
 ·exact .inr (.inr (.inl h))
theorem agT (ca:List Value) (t:aN) (v at_:Int) (w:World) (h:cT w w.heap.size ca t) (a1 : -9223372036854775808≤at_) (a2:at_≤9223372036854775807) (hb:v<0∨at_≤v∨(t.ins.length:Int)<at_) :
  Calls Tryz.prog 25 #[.agg ⟨ca⟩,.int .i64 v,.int .i64 at_] w (aM (.int .i64 (-1)) w):=by
 obtain⟨Ai,ni,p3,q⟩:=h.at3
 have ll:=aP q
 clear h q
 by_cases v0:v<0
 ·clear hb
  go_enter Tryz.func25,Tryz.ntmps25
  go_wp2_with fail
  go_ret
  exact⟨rfl,aB w _⟩
 by_cases v1:at_≤v
 ·clear hb
  go_enter Tryz.func25,Tryz.ntmps25
  go_wp2_with fail
  go_ret
  exact⟨rfl,aB w _⟩
 have v2:(t.ins.length:Int)<at_:=by omega
 clear hb
 go_enter Tryz.func25,Tryz.ntmps25
 go_wp2_with fail
 go_ret
 exact⟨rfl,aB w _⟩
theorem kind_c (ca:List Value) (t:aN):∀(n:Nat) (v at_:Int) (w:World),v<n→cT w w.heap.size ca t→-9223372036854775808≤at_→at_≤9223372036854775807→
  Calls Tryz.prog 25 #[.agg ⟨ca⟩,.int .i64 v,.int .i64 at_] w (aM (.int .i64 (hZ t.ins v at_)) w):=by
 intro n
 induction n with
 | zero=>
  intro v at_ w hv h a1 a2
  rw[agU (.inl (by omega))]
  exact agT ca t v at_ w h a1 a2 (.inl (by omega))
 | succ n ih=>
  intro v at_ w hv h a1 a2
  by_cases hbase:v<0∨at_≤v∨(t.ins.length:Int)<at_
  ·rw[agU hbase]
   exact agT ca t v at_ w h a1 a2 hbase
  obtain⟨r,hr⟩:∃r,hZ t.ins v at_=r:=⟨_,rfl⟩
  rw[hr]
  rw[rK] at hr
  have HI:=hI h.size13
  obtain⟨Ai,ni,p3,q⟩:=h.at3
  have ll:=aP q
  have HQ:=hI q
  obtain⟨k,rfl⟩:=Int.eq_ofNat_of_zero_le (show 0≤v by omega)
  obtain⟨m,rfl⟩:=Int.eq_ofNat_of_zero_le (show 0≤at_ by omega)
  have hkm:k<m:=by omega
  have hm:m≤t.ins.length:=by omega
  obtain⟨b,off,x,rfl,hb,hx,wx,hat⟩:=rN q (i:=k) (by omega)
  obtain⟨e1,e2⟩:=insAt_some hx
  rw[e1,e2] at hr
  have K0:Hid (Below w.heap.size w (w.alloc (.cells ⟨ca⟩ 34))):=aB w _
  have H0:Hid (aA (w.alloc (.cells ⟨ca⟩ 34)) w.heap.size ca):=ad5 w ca _
  have g0:=(acX hat hb K0.out).1
  have hz:w.heap.size<(w.alloc (.cells ⟨ca⟩ 34)).heap.size:=by simp
  have HH:=hI h
  have HO:Hid (∀W,Below w.heap.size w W→Calls Tryz.prog 52 #[.agg ⟨ca⟩,.int .i64 k] W (aM (.int .i64 (mG (hZ t.ins · k) x)) W)):=fun W kW=>by
   refine own_c ca t k x W (h.below kW) hx (fun w1 k1=>?_)
   rcases Int.lt_or_le x.a k with c | c
   ·exact ih x.a k w1 (by omega) (h.below (kW.trans (k1.mono kW.size))) (by omega) (by omega)
   ·rw[agU (.inr (.inl c))]
    exact agT ca t x.a k w1 (h.below (kW.trans (k1.mono kW.size))) (by omega) (by omega) (.inr (.inl c))
  have hr2:(if iC x.op=false then(-1:Int) else if 0≤mG (hZ t.ins · k) x then mG (hZ t.ins · k) x else iZ k ((t.ins.take m).drop (k+1)))=r:=by
   rw[←hr]
   by_cases c:iC x.op=false
   ·rw[if_pos c]
    exact(if_pos (.inr (.inr (.inr c)))).symm
   ·rw[if_neg c]
    refine Eq.trans ?_ (if_neg ?_).symm
    ·rfl
    ·rintro (c1 | c1 | c1 | c1)
     ·omega
     ·omega
     ·omega
     ·exact c c1
  obtain⟨k0,hk0⟩:∃k0,mG (hZ t.ins · k) x=k0:=⟨_,rfl⟩
  simp only[hk0] at hr2 HO
  obtain⟨tl,htl⟩:∃tl,iC x.op=tl:=⟨_,rfl⟩
  have TC:=hI (uK x.op (w.alloc (.cells ⟨ca⟩ 34)))
  simp only[htl] at hr2 TC
  have hkm':(k:Int)<m:=by omega
  have hm':(m:Int)≤t.ins.length:=by omega
  clear hr hk0 htl h q hat hx e1 e2 ih hv hbase
  go_enter Tryz.func25,Tryz.ntmps25
  go_wp2_with fail
  refine TC.out.mono ?_
  rintro e w1 ⟨rfl,k1⟩
  have K1:=btZ K0 k1
  have H1:=hI (H0.out.on k1)
  have hz1:w.heap.size<w1.heap.size:=Nat.lt_of_lt_of_le hz k1.size
  clear k1
  cases tl
  ·rw[if_pos rfl] at hr2
   have HR:=hI hr2
   clear hr2
   go_wp2_with fail
   go_ret
   exact⟨by rw[←HR.out];rfl,K1.out⟩
  rw[if_neg (by simp)] at hr2
  go_wp2_with (refine wpList_load_mid rfl 34 _ rfl w.heap.size 0 rfl ca _ H1.out.range Tryz.underlying34 rfl HI.out ?_)
  refine(HO.out w1 K1.out).mono ?_
  rintro e w2 ⟨rfl,k2⟩
  have K2:=btZ K1 k2
  have H2:=hI (H1.out.on k2)
  have hz2:w.heap.size<w2.heap.size:=Nat.lt_of_lt_of_le hz1 k2.size
  clear k2
  by_cases hk0:0≤k0
  ·rw[if_pos hk0] at hr2
   have HR:=hI hr2
   clear hr2
   go_wp2_with fail
   go_ret
   exact⟨by rw[←HR.out];rfl,K2.out⟩
  rw[if_neg hk0] at hr2
  have HR:=hI hr2
  clear hr2
  go_wp2_with fail
  go_loopw [8] (fun i wr=>∃j:Nat,i=.int .i64 j∧k+1≤j∧j≤m∧Hid (iZ k ((t.ins.take m).drop j)=r)∧Hid (Below w2.heap.size w2 wr)) (fun i _=>m - (RowKit.intOf i).toNat)
  case atStart=>exact⟨k+1,by go_num,by omega,by omega,HR.out,Below.refl _ _⟩
  case round=>
   obtain⟨j,rfl,j1,j2,KP,KW⟩:=hrel
   have d3:wr.cell? ⟨w.heap.size,3,none⟩=some (.slice (some ⟨b,off,none⟩) t.ins.length ni):=aC KW.out (H2.out 3 _ p3)
   have kk:=btZ K2 KW.out
   by_cases hlt:j<m
   ·obtain⟨b',off',y,hbo,hb',hy,wy,hat⟩:=rN HQ.out (i:=j) (by omega)
    have hbo2:b=b'∧off=off':=by injection hbo with hbo;injection hbo with h1 h2;exact⟨h1,h2⟩
    obtain⟨rfl,rfl⟩:=hbo2
    obtain⟨g0,g1,g2,g3,g4,g5,g6,g7⟩:=acX hat hb kk.out
    have hj:(j:Int)<t.ins.length:=by omega
    have hjm:(j:Int)<m:=by omega
    have hd:(t.ins.take m).drop j=y::(t.ins.take m).drop (j+1):=uZ (by rw[List.getElem?_take,if_pos hlt];exact hy)
    have e:=KP.out
    rw[hd] at e
    have hzr:w2.heap.size≤wr.heap.size:=KW.out.size
    have KW3:Hid (Below w2.heap.size w2 (wr.alloc (.cells ⟨jS y⟩ 92))):=KW.out.alloc KW.out.size _
    obtain⟨op,ya,yb,yc,yn,ye,⟨yk,ykn⟩⟩:=y
    dsimp only [iZ] at e g0 g1 g2 g3 g4 g5 g6 g7
    clear hat hy hd hbo
    by_cases c1:ya=k
    case neg=>
     have c1':(ya != (k:Int))=true:=by simpa using c1
     rw[if_pos c1] at e
     have E:=hI e
     clear e
     go_wp2_with fail
     go_roundw
     case rel=>exact⟨j+1,by go_num,by omega,by omega,E.out,KW3.out⟩
     case measure=>simp[RowKit.intOf];omega
    rw[if_neg (by omega)] at e
    subst c1
    by_cases c4:op=4
    ·rw[if_pos c4] at e
     have E:=hI e
     subst c4
     clear e
     go_wp2_with fail
     go_ret
     exact⟨by rw[←E.out];rfl,K2.out.trans (KW3.out.mono K2.out.size)⟩
    rw[if_neg c4] at e
    have c4':(op == 4)=false:=beq_eq_false_iff_ne.2 c4
    by_cases c6:op=6
    ·rw[if_pos c6] at e
     have E:=hI e
     subst c6
     clear e c4'
     go_wp2_with fail
     go_ret
     exact⟨by rw[←E.out];rfl,K2.out.trans (KW3.out.mono K2.out.size)⟩
    rw[if_neg c6] at e
    have c6':(op == 6)=false:=beq_eq_false_iff_ne.2 c6
    by_cases c9:op=9
    ·rw[if_pos c9] at e
     have E:=hI e
     subst c9
     clear e c4' c6'
     go_wp2_with fail
     go_ret
     exact⟨by rw[←E.out];rfl,K2.out.trans (KW3.out.mono K2.out.size)⟩
    rw[if_neg c9] at e
    have c9':(op == 9)=false:=beq_eq_false_iff_ne.2 c9
    have E:=hI e
    clear e
    go_wp2_with fail
    go_roundw
    case rel=>exact⟨j+1,by go_num,by omega,by omega,E.out,KW3.out⟩
    case measure=>simp[RowKit.intOf];omega
   ·have hj:(t.ins.take m).drop j=[]:=List.drop_eq_nil_of_le (by rw[List.length_take];omega)
    have e:=KP.out
    rw[hj] at e
    have E:=hI e
    have hjm:¬(j:Int)<m:=by omega
    clear e hj
    go_wp2_with fail
    go_ret
    exact⟨by rw[←E.out];rfl,kk.out⟩
end
section
open Go.RowKit
def af8 (r:aR×Int×Int×Int) (w:World) (e:Ending) (w':World):Prop:=∃cs,e=.returned (.tuple #[.agg ⟨cs⟩,.int .i64 r.2.1,.int .i64 r.2.2.2])∧gK w' w'.heap.size cs r.1∧Below w.heap.size w w'
theorem iturn_c (pcs tcs scs:List Value) (p:aW) (t:aN) (S:aR) (th:Int) (w:World) (hp:eL w w.heap.size pcs p) (ht:cT w w.heap.size tcs t) (hs:gK w w.heap.size scs S) (wth:wfi th) (tab:Tab w) :
  Calls Tryz.prog 19 #[.agg ⟨pcs⟩,.agg ⟨tcs⟩,.agg ⟨scs⟩,.int .i64 th] w (af8 (mY cJ (acT p t) (wZ p S) t S th 1) w):=by
 have HP0:=hI hp
 have HT0:=hI ht
 have HS0:=hI hs
 obtain⟨PA,pn,PB,pm,PD,pk,rfl,-⟩:=id hp
 obtain⟨B1,m1,B2,m2,B3,m3,B4,m4,B5,m5,B6,m6,rfl,-⟩:=ht.cells6
 obtain⟨c,s,x,tv,en,sa,rfl,hc,hsh,htx,hth',hen,hsa,wa,ws⟩:=id hs
 obtain⟨CA,cc,rfl,-⟩:=id hc
 obtain⟨SA,sc,rfl,-⟩:=id hsh
 obtain⟨XA,xc,rfl,-⟩:=id htx
 obtain⟨TA,tc,rfl,-⟩:=id hth'
 obtain⟨EA,ec,rfl,-⟩:=id hen
 obtain⟨AA,ac,rfl,-⟩:=id hsa
 obtain⟨w1,hw1⟩:∃w1,w1=(((w.alloc (.cells #[.slice PA p.fns.length pn,.slice PB p.consts.length pm,.slice PD p.texts.length pk] 26)).alloc (.cells #[.int .i64 t.fn,.int .i64 t.at_,.int .i64 t.loop,.slice B1 t.ins.length m1,.slice B2 t.exits.length m2,.int .i64 t.turn.at_,.int .i64 t.turn.steps,.slice B3 t.turn.sets.length m3,.slice B4 t.turn.makes.length m4,.int .i64 t.back.at_,.int .i64 t.back.steps,.slice B5 t.back.sets.length m5,.slice B6 t.back.makes.length m6] 34)).alloc (.cells #[.slice CA S.cells.length cc,.slice SA S.shapes.length sc,.slice XA S.texts.length xc,.slice TA S.threads.length tc,.slice EA S.ends.length ec,.slice AA S.said.length ac,.int .i64 S.asked,.int .i64 S.steps] 40)).alloc (.cells #[.slice none 0 0,.slice none 0 0,.slice none 0 0,.slice none 0 0,.slice none 0 0,.slice none 0 0,.int .i64 0,.int .i64 0] 40):=⟨_,rfl⟩
 have FB:=xZ w (.cells #[.slice PA p.fns.length pn,.slice PB p.consts.length pm,.slice PD p.texts.length pk] 26) (.cells #[.int .i64 t.fn,.int .i64 t.at_,.int .i64 t.loop,.slice B1 t.ins.length m1,.slice B2 t.exits.length m2,.int .i64 t.turn.at_,.int .i64 t.turn.steps,.slice B3 t.turn.sets.length m3,.slice B4 t.turn.makes.length m4,.int .i64 t.back.at_,.int .i64 t.back.steps,.slice B5 t.back.sets.length m5,.slice B6 t.back.makes.length m6] 34) (.cells #[.slice CA S.cells.length cc,.slice SA S.shapes.length sc,.slice XA S.texts.length xc,.slice TA S.threads.length tc,.slice EA S.ends.length ec,.slice AA S.said.length ac,.int .i64 S.asked,.int .i64 S.steps] 40) (.cells #[.slice none 0 0,.slice none 0 0,.slice none 0 0,.slice none 0 0,.slice none 0 0,.slice none 0 0,.int .i64 0,.int .i64 0] 40)
 rw[←hw1] at FB
 obtain⟨f1,f2,f3,f4,f5⟩:=FB
 have ROWP1:=hI f1
 have ROWT1:=hI f2
 have ROWS1:=hI f3
 have ROWR1:=hI f4
 have HZ1:=hI f5
 have K1:Hid (Below w.heap.size w w1):=by
  rw[hw1]
  exact((((Below.refl _ w).alloc (Nat.le_refl _) _).alloc (by rw[World.size_alloc];omega) _).alloc (by rw[World.size_alloc,World.size_alloc];omega) _).alloc (by rw[World.size_alloc,World.size_alloc,World.size_alloc];omega) _
 have HW1:=hI hw1
 have T0:=hI tab
 clear hp ht hs hc hsh htx hth' hen hsa wa ws hw1 f1 f2 f3 f4 f5 tab
 obtain⟨r,hr⟩:∃r,mY cJ (acT p t) (wZ p S) t S th 1=r:=⟨_,rfl⟩
 have RN:=hI (irun_c _ _ _ p t S th 1 w1 (HP0.out.below K1.out) (HT0.out.below K1.out) (HS0.out.below K1.out) wth (by unfold wfi;omega) (T0.out.below K1.out))
 rw[hr] at RN ⊢
 obtain⟨out,exit,n,err⟩:=r
 unfold aeG at RN
 unfold af8
 dsimp only at RN ⊢
 clear hr
 go_enter Tryz.func19,Tryz.ntmps19
 go_upto_region 1 with fail
 rw[←HW1.out]
 have RGP:=rrZ ROWP1
 have RGT:=rrZ ROWT1
 have RGS:=rrZ ROWS1
 go_wp2_with (first | (refine wpList_load_mid rfl 26 _ rfl w.heap.size 0 rfl [.slice PA p.fns.length pn,.slice PB p.consts.length pm,.slice PD p.texts.length pk] _ RGP.out Tryz.underlying26 rfl zF ?_) | (refine wpList_load_mid rfl 34 _ rfl (w.heap.size+1) 0 rfl [.int .i64 t.fn,.int .i64 t.at_,.int .i64 t.loop,.slice B1 t.ins.length m1,.slice B2 t.exits.length m2,.int .i64 t.turn.at_,.int .i64 t.turn.steps,.slice B3 t.turn.sets.length m3,.slice B4 t.turn.makes.length m4,.int .i64 t.back.at_,.int .i64 t.back.steps,.slice B5 t.back.sets.length m5,.slice B6 t.back.makes.length m6] _ RGT.out Tryz.underlying34 rfl rP ?_) | (refine wpList_load_mid rfl 40 _ rfl (w.heap.size+1+1) 0 rfl [.slice CA S.cells.length cc,.slice SA S.shapes.length sc,.slice XA S.texts.length xc,.slice TA S.threads.length tc,.slice EA S.ends.length ec,.slice AA S.said.length ac,.int .i64 S.asked,.int .i64 S.steps] _ RGS.out Tryz.underlying40 rfl eC ?_) | fail)
 clear RGP RGT RGS
 refine RN.out.mono ?_
 rintro e w3 ⟨ocs,rfl,hout',k3⟩
 have hout:=hout' w3 (fun _ _ _=>rfl) (Nat.le_refl _)
 have HOU:=hI hout'
 clear hout'
 have K3:=btZ K1 k3
 have ROWR3:=rkZ ROWR1 k3
 obtain⟨c,s,x,tv,en,sa,rfl,hc,hsh,htx,hth',hen,hsa,-⟩:=id hout
 obtain⟨CO,co,rfl,-⟩:=id hc
 obtain⟨SO,so,rfl,-⟩:=id hsh
 obtain⟨XO,xo,rfl,-⟩:=id htx
 obtain⟨TO,uo,rfl,-⟩:=id hth'
 obtain⟨EO,eo,rfl,-⟩:=id hen
 obtain⟨AO,ao,rfl,-⟩:=id hsa
 have HTH:=hI hth'
 clear hc hsh htx hth' hen hsa
 have HOUT:=hI hout
 clear k3 hout
 obtain⟨w4,hw4⟩:∃w4,w4=w3.alloc (.cells #[.slice CO out.cells.length co,.slice SO out.shapes.length so,.slice XO out.texts.length xo,.slice TO out.threads.length uo,.slice EO out.ends.length eo,.slice AO out.said.length ao,.int .i64 out.asked,.int .i64 out.steps] 40):=⟨_,rfl⟩
 have K34:Hid (Below w3.heap.size w3 w4):=by rw[hw4];exact aB _ _
 have ROWO4:Hid (w4.heap[w3.heap.size]? = some (.cells #[.slice CO out.cells.length co,.slice SO out.shapes.length so,.slice XO out.texts.length xo,.slice TO out.threads.length uo,.slice EO out.ends.length eo,.slice AO out.said.length ao,.int .i64 out.asked,.int .i64 out.steps] 40 (0,0))):=by rw[hw4];exact aJ _ _
 have K4:=btZ K3 K34.out
 have ROWR4:=rkZ ROWR3 K34.out
 have HW4:=hI hw4
 clear hw4
 go_upto_region 2 with fail
 rw[←HW4.out]
 have RGO:=rrZ ROWO4
 go_wp2_with (first | (refine wpList_load_mid rfl 40 _ rfl w3.heap.size 0 rfl [.slice CO out.cells.length co,.slice SO out.shapes.length so,.slice XO out.texts.length xo,.slice TO out.threads.length uo,.slice EO out.ends.length eo,.slice AO out.said.length ao,.int .i64 out.asked,.int .i64 out.steps] _ RGO.out Tryz.underlying40 rfl eC ?_) | (refine wpList_store_row rfl 40 _ _ rfl (w.heap.size+1+1+1) #[.slice CO out.cells.length co,.slice SO out.shapes.length so,.slice XO out.texts.length xo,.slice TO out.threads.length uo,.slice EO out.ends.length eo,.slice AO out.said.length ao,.int .i64 out.asked,.int .i64 out.steps] rfl rfl 40 _ ROWR4.out eC rfl (all_oneCell_toArray (by simp[Value.oneCell'])) ?_) | fail)
 generalize hwz:World.setRow _ _ _=wz
 have QR:=shZ hwz ROWR4
 have KZ:Hid (Below w.heap.size w wz):=by rw[←hwz];exact Below.set_row K4.out (by omega) _
 have OZ:Hid (gK wz wz.heap.size [.slice CO out.cells.length co,.slice SO out.shapes.length so,.slice XO out.texts.length xo,.slice TO out.threads.length uo,.slice EO out.ends.length eo,.slice AO out.said.length ao,.int .i64 out.asked,.int .i64 out.steps] out):=by
  refine HOU.out wz (fun b hb hb2=>?_) (by rw[←hwz];simp;exact K34.out.size)
  rw[←hwz,setRow_other _ _ _ _ (by have:=HZ1.out;omega)]
  exact K34.out.block b hb2
 clear hwz RGO
 go_wp2_with fail
 have r0:=crZ QR 0 rfl
 have r1:=crZ QR 1 rfl
 have r2:=crZ QR 2 rfl
 have r3:=crZ QR 3 rfl
 have r4:=crZ QR 4 rfl
 have r5:=crZ QR 5 rfl
 have r6:=crZ QR 6 rfl
 have r7:=crZ QR 7 rfl
 refine bodyPost_ret (v:=.tuple #[.agg ⟨[.slice CO out.cells.length co,.slice SO out.shapes.length so,.slice XO out.texts.length xo,.slice TO out.threads.length uo,.slice EO out.ends.length eo,.slice AO out.said.length ao,.int .i64 out.asked,.int .i64 out.steps]⟩,.int .i64 exit,.int .i64 err]) (by simp[results,Tryz.results19,go_sem,r0,r1,r2,r3,r4,r5,r6,r7]) rfl ?_
 exact⟨_,rfl,OZ.out,KZ.out⟩
end
section
open Go.RowKit
def ag8 (r:aR×Int×Int×Int) (th:Int) (many:Nat) (w:World) (e:Ending) (w':World):Prop:=Below w.heap.size w w'∧
 ((∃hd f b off c,r.2.2.2=0∧r.2.1<0∧r.1.threads[th.toNat]? = some hd∧hd.frames.getLast? = some f∧many≤f.regs.length∧e=.returned (.tuple #[.slice (some ⟨b,off,none⟩) many c,.bool true])∧aH w' w'.heap.size 2 hU (.slice (some ⟨b,off,none⟩) f.regs.length c) f.regs)∨
 (¬(r.2.2.2=0∧r.2.1<0)∧e=.returned (.tuple #[.slice none 0 0,.bool false])))
theorem ag4 {α : Type} {l:List α} {x : α} (h:l.getLast? = some x):∃j,l.length=j+1:=by
 cases l with
 | nil=>cases h
 | cons a l=>exact⟨l.length,rfl⟩
theorem ahF (pcs tcs scs:List Value) (p:aW) (t:aN) (S:aR) (th:Int) (many:Nat) (w:World) (hp:eL w w.heap.size pcs p) (ht:cT w w.heap.size tcs t) (hs:gK w w.heap.size scs S) (wth:wfi th) (hm0:0<many) (hmany:∀out exit n hd f,mY cJ (acT p t) (wZ p S) t S th 1=(out,exit,n,0)→S.threads[th.toNat]? = some hd→hd.frames.getLast? = some f→many≤f.regs.length) (tab:Tab w) :
  Calls Tryz.prog 21 #[.agg ⟨pcs⟩,.agg ⟨tcs⟩,.agg ⟨scs⟩,.int .i64 th,.int .i64 many] w (ag8 (mY cJ (acT p t) (wZ p S) t S th 1) th many w):=by
 have HMANY:=hI hmany
 clear hmany
 have HP0:=hI hp
 have HT0:=hI ht
 have HS0:=hI hs
 obtain⟨PA,pn,PB,pm,PD,pk,rfl,-⟩:=id hp
 obtain⟨B1,m1,B2,m2,B3,m3,B4,m4,B5,m5,B6,m6,rfl,-⟩:=ht.cells6
 obtain⟨c,s,x,tv,en,sa,rfl,hc,hsh,htx,hth',hen,hsa,wa,ws⟩:=id hs
 obtain⟨CA,cc,rfl,-⟩:=id hc
 obtain⟨SA,sc,rfl,-⟩:=id hsh
 obtain⟨XA,xc,rfl,-⟩:=id htx
 obtain⟨TA,tc,rfl,-⟩:=id hth'
 obtain⟨EA,ec,rfl,-⟩:=id hen
 obtain⟨AA,ac,rfl,-⟩:=id hsa
 obtain⟨w1,hw1⟩:∃w1,w1=((w.alloc (.cells #[.slice PA p.fns.length pn,.slice PB p.consts.length pm,.slice PD p.texts.length pk] 26)).alloc (.cells #[.int .i64 t.fn,.int .i64 t.at_,.int .i64 t.loop,.slice B1 t.ins.length m1,.slice B2 t.exits.length m2,.int .i64 t.turn.at_,.int .i64 t.turn.steps,.slice B3 t.turn.sets.length m3,.slice B4 t.turn.makes.length m4,.int .i64 t.back.at_,.int .i64 t.back.steps,.slice B5 t.back.sets.length m5,.slice B6 t.back.makes.length m6] 34)).alloc (.cells #[.slice CA S.cells.length cc,.slice SA S.shapes.length sc,.slice XA S.texts.length xc,.slice TA S.threads.length tc,.slice EA S.ends.length ec,.slice AA S.said.length ac,.int .i64 S.asked,.int .i64 S.steps] 40):=⟨_,rfl⟩
 have FB:=aeI w (.cells #[.slice PA p.fns.length pn,.slice PB p.consts.length pm,.slice PD p.texts.length pk] 26) (.cells #[.int .i64 t.fn,.int .i64 t.at_,.int .i64 t.loop,.slice B1 t.ins.length m1,.slice B2 t.exits.length m2,.int .i64 t.turn.at_,.int .i64 t.turn.steps,.slice B3 t.turn.sets.length m3,.slice B4 t.turn.makes.length m4,.int .i64 t.back.at_,.int .i64 t.back.steps,.slice B5 t.back.sets.length m5,.slice B6 t.back.makes.length m6] 34) (.cells #[.slice CA S.cells.length cc,.slice SA S.shapes.length sc,.slice XA S.texts.length xc,.slice TA S.threads.length tc,.slice EA S.ends.length ec,.slice AA S.said.length ac,.int .i64 S.asked,.int .i64 S.steps] 40)
 rw[←hw1] at FB
 obtain⟨f1,f2,f3,f5⟩:=FB
 have ROWP1:=hI f1
 have ROWT1:=hI f2
 have ROWS1:=hI f3
 have K1:=hI f5
 have HW1:=hI hw1
 have T0:=hI tab
 clear hp ht hs hc hsh htx hth' hen hsa wa ws hw1 f1 f2 f3 f5 tab
 go_enter Tryz.func21,Tryz.ntmps21
 go_upto_region 1 with fail
 rw[←HW1.out]
 obtain⟨r,hr⟩:∃r,mY cJ (acT p t) (wZ p S) t S th 1=r:=⟨_,rfl⟩
 have RN:=hI (iturn_c _ _ _ p t S th w1 (HP0.out.below K1.out) (HT0.out.below K1.out) (HS0.out.below K1.out) wth (T0.out.below K1.out))
 rw[hr] at RN
 obtain⟨out,exit,n,err⟩:=r
 have HR:=hI hr
 unfold af8 at RN
 dsimp only at RN
 rw[hr]
 clear hr
 have RGP:=rrZ ROWP1
 have RGT:=rrZ ROWT1
 have RGS:=rrZ ROWS1
 go_wp2_with (first | (refine wpList_load_mid rfl 26 _ rfl w.heap.size 0 rfl _ _ RGP.out Tryz.underlying26 rfl zF ?_) | (refine wpList_load_mid rfl 34 _ rfl (w.heap.size+1) 0 rfl _ _ RGT.out Tryz.underlying34 rfl rP ?_) | (refine wpList_load_mid rfl 40 _ rfl (w.heap.size+1+1) 0 rfl _ _ RGS.out Tryz.underlying40 rfl eC ?_) | fail)
 clear RGP RGT RGS
 refine RN.out.mono ?_
 rintro e w3 ⟨ocs,rfl,hout,kk⟩
 have K3:=btZ K1 kk
 obtain⟨c,s,x,tv,en,sa,rfl,hc,hsh,htx,hth',hen,hsa,-⟩:=id hout
 obtain⟨CO,co,rfl,-⟩:=id hc
 obtain⟨SO,so,rfl,-⟩:=id hsh
 obtain⟨XO,xo,rfl,-⟩:=id htx
 obtain⟨TO,uo,rfl,-⟩:=id hth'
 obtain⟨EO,eo,rfl,-⟩:=id hen
 obtain⟨AO,ao,rfl,-⟩:=id hsa
 have HTH:=hI hth'
 clear hc hsh htx hth' hen hsa
 clear kk hout
 obtain⟨w4,hw4⟩:∃ww,ww=w3.alloc (.cells #[.slice CO out.cells.length co,.slice SO out.shapes.length so,.slice XO out.texts.length xo,.slice TO out.threads.length uo,.slice EO out.ends.length eo,.slice AO out.said.length ao,.int .i64 out.asked,.int .i64 out.steps] 40):=⟨_,rfl⟩
 have KB:Hid (Below w3.heap.size w3 w4):=by rw[hw4];exact aB _ _
 have ROWO4:Hid (w4.heap[w3.heap.size]? = some (.cells #[.slice CO out.cells.length co,.slice SO out.shapes.length so,.slice XO out.texts.length xo,.slice TO out.threads.length uo,.slice EO out.ends.length eo,.slice AO out.said.length ao,.int .i64 out.asked,.int .i64 out.steps] 40 (0,0))):=by rw[hw4];exact aJ _ _
 have K4:=btZ K3 KB.out
 have HW4:=hI hw4
 clear hw4
 go_upto_region 2 with fail
 rw[←HW4.out]
 by_cases he:err=0
 case neg=>
  have hb:(err != 0)=true:=bne_iff_ne.2 he
  have HE:=hI he
  clear he
  go_wp2_with fail
  refine bodyPost_ret (v:=.tuple #[.slice none 0 0,.bool false]) (by simp[results,Tryz.results21,go_sem]) rfl ⟨K4.out,by rw[HR.out];exact .inr ⟨fun h=>HE.out h.1,rfl⟩⟩
 subst he
 by_cases c:0≤exit
 ·obtain⟨q,rfl⟩:∃q:Nat,exit=(q:Int):=⟨exit.toNat,by omega⟩
  go_wp2_with fail
  refine bodyPost_ret (v:=.tuple #[.slice none 0 0,.bool false]) (by simp[results,Tryz.results21,go_sem]) rfl ⟨K4.out,by rw[HR.out];exact .inr ⟨fun h=>absurd h.2 (by show ¬(q:Int)<0;omega),rfl⟩⟩
 have cb:decide (0≤exit)=false:=decide_eq_false c
 obtain⟨hirc,-⟩:=uN HR.out
 obtain⟨h0,hex,hd,f,hd',f',e1,e2,e3,e4,e5,e6⟩:=irun_regs (qI hirc) (adR hirc) HR.out
 have hmf:many≤f'.regs.length:=by rw[e5];exact HMANY.out _ _ _ hd f HR.out e1 e2
 have E3:=hI e3
 have E4:=hI e4
 clear hirc e1 e2 e3 e4 e5 e6 hex hd f
 obtain⟨k,rfl⟩:∃k:Nat,th=(k:Int):=⟨th.toNat,by omega⟩
 have hthk':out.threads[k]? = some hd':=E3.out
 have hki':(k:Int)<out.threads.length:=by have:=(lE hthk').1;omega
 obtain⟨j',hj'⟩:=ag4 E4.out
 obtain⟨ub,uof,gb,go',gc,rr',tt',rfl,hub,hgb,p0,pat,pr,hjb'⟩:=last_at HTH.out hthk' hj' E4.out
 obtain⟨RA',rc',rfl,-⟩:=id pr
 obtain⟨b,off,_,_,rfl,-,-,-,-,-⟩:=pr.at_ (i:=0) (by omega)
 have hcap:=pr.len
 have PR:=hI pr
 have hwr3:wrap64 (j':Int)=(j':Int):=by unfold wrap64;omega
 have hjj':(j':Int)<(j':Int)+1:=by omega
 have hcm:(many:Int)≤(rc':Int):=by omega
 have o3:=crZ ROWO4 3 rfl
 have h0':w4.cell? ⟨ub,uof+k*5,none⟩=some (.slice (some ⟨gb,go',none⟩) (j'+1) gc):=(KB.out.cell hub).trans p0
 have hF:w4.cell? ⟨gb,go'+j'*8+6,none⟩=some (.slice (some ⟨b,off,none⟩) f'.regs.length rc'):=(KB.out.cell hgb).trans (pat 6 _ rfl)
 clear p0 pat pr hthk' hj'
 go_wp2_with fail
 refine bodyPost_ret (v:=.tuple #[.slice (some ⟨b,off,none⟩) many rc',.bool true]) (by simp[results,Tryz.results21,go_sem]) rfl ⟨K4.out,by rw[HR.out];exact .inl ⟨hd',f',b,off,rc',rfl,(by show exit<0;omega),E3.out,E4.out,hmf,rfl,PR.out.keep KB.out.size (fun _ hp=>KB.out.cell hp) (fun _ _ h=>h)⟩⟩
end
end Go.Proofs.YtjaphgpkkfdaaaaGreatDoor
