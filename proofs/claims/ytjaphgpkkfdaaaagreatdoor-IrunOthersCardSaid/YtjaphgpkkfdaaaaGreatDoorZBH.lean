/- Part of the walk of the given code: contracts of the functions that irun.Run reaches, and plain laws on what it reckons. -/
import Derived.Test.YtjaphgpkkfdaaaaGreatDoorZBE
import Derived.Test.YtjaphgpkkfdaaaaGreatDoorZBF
import Derived.Test.YtjaphgpkkfdaaaaGreatDoorZBG
import Derived.Test.YtjaphgpkkfdaaaaGreatDoorZR
import Derived.Test.YtjaphgpkkfdaaaaGreatDoorZN
set_option maxHeartbeats 16000000
set_option maxRecDepth 100000
set_option linter.all false
namespace Go.Proofs.YtjaphgpkkfdaaaaGreatDoor
section
open Go.RowKit
theorem zF:(Tryz.prog.info? 26).map (·.size)=some 3:=by kernel_rfl
theorem rP:(Tryz.prog.info? 34).map (·.size)=some 13:=by kernel_rfl
def aeG (r:aR×Int×Int×Int) (w:World) (e:Ending) (w':World):Prop:=∃cs,e=.returned (.tuple #[.agg ⟨cs⟩,.int .i64 r.2.1,.int .i64 r.2.2.1,.int .i64 r.2.2.2])∧(∀w2:World,(∀b,w.heap.size≤b→b<w'.heap.size→w2.heap[b]? = w'.heap[b]?)→w'.heap.size≤w2.heap.size→gK w2 w2.heap.size cs r.1)∧Below w.heap.size w w'
theorem aeG.here {r:aR×Int×Int×Int} {w:World} {e:Ending} {w':World} (h:aeG r w e w'):∃cs,e=.returned (.tuple #[.agg ⟨cs⟩,.int .i64 r.2.1,.int .i64 r.2.2.1,.int .i64 r.2.2.2])∧gK w' w'.heap.size cs r.1∧Below w.heap.size w w':=by
 obtain⟨cs,h1,h2,h3⟩:=h
 exact⟨cs,h1,h2 w' (fun _ _ _=>rfl) (Nat.le_refl _),h3⟩
def acT (p:aW) (t:aN):Int:=fA aG (bH p) (p.fns.map eZ) t
def wZ (p:aW) (S:aR):Int:=dG aG p S cC (bH p)
theorem irun_c (pcs tcs scs:List Value) (p:aW) (t:aN) (S:aR) (th tu:Int) (w:World) (hp:eL w w.heap.size pcs p) (ht:cT w w.heap.size tcs t) (hs:gK w w.heap.size scs S) (wth:wfi th) (wtu:wfi tu) (tab:Tab w) :
  Calls Tryz.prog 12 #[.agg ⟨pcs⟩,.agg ⟨tcs⟩,.agg ⟨scs⟩,.int .i64 th,.int .i64 tu] w (aeG (mY cJ (acT p t) (wZ p S) t S th tu) w):=by
 have HP0:=hI hp
 have HT0:=hI ht
 have HS0:=hI hs
 obtain⟨PA,pn,PB,pm,PD,pk,rfl,-⟩:=id hp
 obtain⟨B1,m1,B2,m2,B3,m3,B4,m4,B5,m5,B6,m6,rfl,-⟩:=ht.cells6
 obtain⟨c,s,x,tv,en,sa,rfl,hc,hsh,htx,hth',hen,hsa,wa,ws⟩:=id hs
 obtain⟨CA,cc,rfl,-⟩:=id hc
 obtain⟨SA,sc,rfl,-⟩:=id hsh
 obtain⟨XA,xc,rfl,-⟩:=id htx
 obtain⟨TA,tc,rfl,-⟩:=id hth'
 obtain⟨EA,ec,rfl,-⟩:=id hen
 obtain⟨AA,ac,rfl,-⟩:=id hsa
 obtain⟨r,hr⟩:∃r,mY cJ (acT p t) (wZ p S) t S th tu=r:=⟨_,rfl⟩
 rw[hr]
 have HR:=hI hr
 have HWTH:=hI wth
 obtain⟨w1,hw1⟩:∃w1,w1=(((w.alloc (.cells #[.slice PA p.fns.length pn,.slice PB p.consts.length pm,.slice PD p.texts.length pk] 26)).alloc (.cells #[.int .i64 t.fn,.int .i64 t.at_,.int .i64 t.loop,.slice B1 t.ins.length m1,.slice B2 t.exits.length m2,.int .i64 t.turn.at_,.int .i64 t.turn.steps,.slice B3 t.turn.sets.length m3,.slice B4 t.turn.makes.length m4,.int .i64 t.back.at_,.int .i64 t.back.steps,.slice B5 t.back.sets.length m5,.slice B6 t.back.makes.length m6] 34)).alloc (.cells #[.slice CA S.cells.length cc,.slice SA S.shapes.length sc,.slice XA S.texts.length xc,.slice TA S.threads.length tc,.slice EA S.ends.length ec,.slice AA S.said.length ac,.int .i64 S.asked,.int .i64 S.steps] 40)).alloc (.cells #[.slice none 0 0,.slice none 0 0,.slice none 0 0,.slice none 0 0,.slice none 0 0,.slice none 0 0,.int .i64 0,.int .i64 0] 40):=⟨_,rfl⟩
 have FB:=xZ w (.cells #[.slice PA p.fns.length pn,.slice PB p.consts.length pm,.slice PD p.texts.length pk] 26) (.cells #[.int .i64 t.fn,.int .i64 t.at_,.int .i64 t.loop,.slice B1 t.ins.length m1,.slice B2 t.exits.length m2,.int .i64 t.turn.at_,.int .i64 t.turn.steps,.slice B3 t.turn.sets.length m3,.slice B4 t.turn.makes.length m4,.int .i64 t.back.at_,.int .i64 t.back.steps,.slice B5 t.back.sets.length m5,.slice B6 t.back.makes.length m6] 34) (.cells #[.slice CA S.cells.length cc,.slice SA S.shapes.length sc,.slice XA S.texts.length xc,.slice TA S.threads.length tc,.slice EA S.ends.length ec,.slice AA S.said.length ac,.int .i64 S.asked,.int .i64 S.steps] 40) (.cells #[.slice none 0 0,.slice none 0 0,.slice none 0 0,.slice none 0 0,.slice none 0 0,.slice none 0 0,.int .i64 0,.int .i64 0] 40)
 rw[←hw1] at FB
 obtain⟨f1,f2,f3,f4,f5⟩:=FB
 have ROWP1:=hI f1
 have ROWT1:=hI f2
 have ROWS1:=hI f3
 have ROWR1:=hI f4
 have K1:Hid (Below w.heap.size w w1):=by
  rw[hw1]
  exact((((Below.refl _ w).alloc (Nat.le_refl _) _).alloc (by rw[World.size_alloc];omega) _).alloc (by rw[World.size_alloc,World.size_alloc];omega) _).alloc (by rw[World.size_alloc,World.size_alloc,World.size_alloc];omega) _
 have HZ1:=hI f5
 have HW1:=hI hw1
 have T0:=hI tab
 have hirc:fA aG (bH p) (p.fns.map eZ) t=acT p t:=rfl
 have hstc:dG aG p S cC (bH p)=wZ p S:=rfl
 obtain⟨irc,hirc2⟩:∃q,acT p t=q:=⟨_,rfl⟩
 obtain⟨stc,hstc2⟩:∃q,wZ p S=q:=⟨_,rfl⟩
 have CK:=hI (check_c _ _ p t w1 (HP0.out.below K1.out) (ht.below K1.out) (tab.below K1.out))
 rw[hirc,hirc2] at CK
 have HIC:=hI hirc2
 have HSC:=hI hstc2
 clear hp ht hs hc hsh htx hth' hen hsa wa ws hw1 hr f1 f2 f3 f4 f5 tab wth hirc hstc hirc2 hstc2
 go_enter Tryz.func12,Tryz.ntmps12
 go_upto_region 1 with fail
 rw[←HW1.out]
 have RGP:=rrZ ROWP1
 have RGT:=rrZ ROWT1
 go_wp2_with (first | (refine wpList_load_mid rfl 26 _ rfl w.heap.size 0 rfl [.slice PA p.fns.length pn,.slice PB p.consts.length pm,.slice PD p.texts.length pk] _ RGP.out Tryz.underlying26 rfl zF ?_) | (refine wpList_load_mid rfl 34 _ rfl (w.heap.size+1) 0 rfl [.int .i64 t.fn,.int .i64 t.at_,.int .i64 t.loop,.slice B1 t.ins.length m1,.slice B2 t.exits.length m2,.int .i64 t.turn.at_,.int .i64 t.turn.steps,.slice B3 t.turn.sets.length m3,.slice B4 t.turn.makes.length m4,.int .i64 t.back.at_,.int .i64 t.back.steps,.slice B5 t.back.sets.length m5,.slice B6 t.back.makes.length m6] _ RGT.out Tryz.underlying34 rfl rP ?_) | fail)
 clear RGP RGT
 refine CK.out.mono ?_
 rintro e w2 ⟨rfl,k2⟩
 have K2:=btZ K1 k2
 have ROWP2:=rkZ ROWP1 k2
 have ROWT2:=rkZ ROWT1 k2
 have ROWS2:=rkZ ROWS1 k2
 have ROWR2:=rkZ ROWR1 k2
 clear k2
 by_cases h1:irc=0
 case neg=>
  have hb:(irc != 0)=true:=bne_iff_ne.2 h1
  have HN:Hid ((dL,(0:Int),(0:Int),(irc:Int))=r):=by
   show _=_
   rw[←HR.out];unfold mY
   rw[if_pos (by rw[HIC.out];exact h1),HIC.out]
  clear h1
  go_wp2_with (first | (refine wpList_store_row rfl 40 _ _ rfl (w.heap.size+1+1+1) #[.slice none 0 0,.slice none 0 0,.slice none 0 0,.slice none 0 0,.slice none 0 0,.slice none 0 0,.int .i64 0,.int .i64 0] rfl rfl 40 _ ROWR2.out eC rfl (all_oneCell_toArray (by simp[Value.oneCell'])) ?_) | fail)
  generalize hwz:World.setRow _ _ _=wz
  have QR:=shZ hwz ROWR2
  have KZ:Hid (Below w.heap.size w wz):=by rw[←hwz];exact Below.set_row K2.out (by omega) _
  clear hwz
  go_wp2_with fail
  have r0:=crZ QR 0 rfl
  have r1:=crZ QR 1 rfl
  have r2:=crZ QR 2 rfl
  have r3:=crZ QR 3 rfl
  have r4:=crZ QR 4 rfl
  have r5:=crZ QR 5 rfl
  have r6:=crZ QR 6 rfl
  have r7:=crZ QR 7 rfl
  refine bodyPost_ret (v:=.tuple #[.agg ⟨[.slice none 0 0,.slice none 0 0,.slice none 0 0,.slice none 0 0,.slice none 0 0,.slice none 0 0,.int .i64 0,.int .i64 0]⟩,.int .i64 0,.int .i64 0,.int .i64 irc]) (by simp[results,Tryz.results12,go_sem,r0,r1,r2,r3,r4,r5,r6,r7]) rfl ?_
  have hN:=HN.out
  subst hN
  exact⟨_,rfl,fun w2 _ _=>gU w2,KZ.out⟩
 subst h1
 have HIRC:Hid (acT p t=0):=HIC.out
 have SK:=hI (acD _ _ p S w2 (HP0.out.below K2.out) (HS0.out.below K2.out) (T0.out.below K2.out))
 have hstc:dG aG p S cC (bH p)=wZ p S:=rfl
 rw[hstc,HSC.out] at SK
 clear hstc
 have RGP:=rrZ ROWP2
 have RGS:=rrZ ROWS2
 go_wp2_with (first | (refine wpList_load_mid rfl 26 _ rfl w.heap.size 0 rfl [.slice PA p.fns.length pn,.slice PB p.consts.length pm,.slice PD p.texts.length pk] _ RGP.out Tryz.underlying26 rfl zF ?_) | (refine wpList_load_mid rfl 40 _ rfl (w.heap.size+1+1) 0 rfl [.slice CA S.cells.length cc,.slice SA S.shapes.length sc,.slice XA S.texts.length xc,.slice TA S.threads.length tc,.slice EA S.ends.length ec,.slice AA S.said.length ac,.int .i64 S.asked,.int .i64 S.steps] _ RGS.out Tryz.underlying40 rfl eC ?_) | fail)
 clear RGP RGS
 refine SK.out.mono ?_
 rintro e w3 ⟨rfl,k3⟩
 have K3:=btZ K2 k3
 have ROWP3:=rkZ ROWP2 k3
 have ROWT3:=rkZ ROWT2 k3
 have ROWS3:=rkZ ROWS2 k3
 have ROWR3:=rkZ ROWR2 k3
 clear k3
 by_cases h2:stc=0
 case neg=>
  have hb:(stc != 0)=true:=bne_iff_ne.2 h2
  have HN:Hid ((dL,(0:Int),(0:Int),(stc:Int))=r):=by
   show _=_
   rw[←HR.out];unfold mY
   rw[if_neg (fun h=>h HIRC.out)];rw[if_pos (by rw[HSC.out];exact h2),HSC.out]
  clear h2
  go_wp2_with (first | (refine wpList_store_row rfl 40 _ _ rfl (w.heap.size+1+1+1) #[.slice none 0 0,.slice none 0 0,.slice none 0 0,.slice none 0 0,.slice none 0 0,.slice none 0 0,.int .i64 0,.int .i64 0] rfl rfl 40 _ ROWR3.out eC rfl (all_oneCell_toArray (by simp[Value.oneCell'])) ?_) | fail)
  generalize hwz:World.setRow _ _ _=wz
  have QR:=shZ hwz ROWR3
  have KZ:Hid (Below w.heap.size w wz):=by rw[←hwz];exact Below.set_row K3.out (by omega) _
  clear hwz
  go_wp2_with fail
  have r0:=crZ QR 0 rfl
  have r1:=crZ QR 1 rfl
  have r2:=crZ QR 2 rfl
  have r3:=crZ QR 3 rfl
  have r4:=crZ QR 4 rfl
  have r5:=crZ QR 5 rfl
  have r6:=crZ QR 6 rfl
  have r7:=crZ QR 7 rfl
  refine bodyPost_ret (v:=.tuple #[.agg ⟨[.slice none 0 0,.slice none 0 0,.slice none 0 0,.slice none 0 0,.slice none 0 0,.slice none 0 0,.int .i64 0,.int .i64 0]⟩,.int .i64 0,.int .i64 0,.int .i64 stc]) (by simp[results,Tryz.results12,go_sem,r0,r1,r2,r3,r4,r5,r6,r7]) rfl ?_
  have hN:=HN.out
  subst hN
  exact⟨_,rfl,fun w2 _ _=>gU w2,KZ.out⟩
 subst h2
 have HSTC:Hid (wZ p S=0):=HSC.out
 by_cases ht0:th<0
 ·have HN:Hid ((dL,(0:Int),(0:Int),(5:Int))=r):=by
   show _=_
   rw[←HR.out];unfold mY
   rw[if_neg (fun h=>h HIRC.out)];rw[if_neg (fun h=>h HSTC.out)];rw[if_pos ht0]
  go_wp2_with (first | (refine wpList_store_row rfl 40 _ _ rfl (w.heap.size+1+1+1) #[.slice none 0 0,.slice none 0 0,.slice none 0 0,.slice none 0 0,.slice none 0 0,.slice none 0 0,.int .i64 0,.int .i64 0] rfl rfl 40 _ ROWR3.out eC rfl (all_oneCell_toArray (by simp[Value.oneCell'])) ?_) | fail)
  generalize hwz:World.setRow _ _ _=wz
  have QR:=shZ hwz ROWR3
  have KZ:Hid (Below w.heap.size w wz):=by rw[←hwz];exact Below.set_row K3.out (by omega) _
  clear hwz
  go_wp2_with fail
  have r0:=crZ QR 0 rfl
  have r1:=crZ QR 1 rfl
  have r2:=crZ QR 2 rfl
  have r3:=crZ QR 3 rfl
  have r4:=crZ QR 4 rfl
  have r5:=crZ QR 5 rfl
  have r6:=crZ QR 6 rfl
  have r7:=crZ QR 7 rfl
  refine bodyPost_ret (v:=.tuple #[.agg ⟨[.slice none 0 0,.slice none 0 0,.slice none 0 0,.slice none 0 0,.slice none 0 0,.slice none 0 0,.int .i64 0,.int .i64 0]⟩,.int .i64 0,.int .i64 0,.int .i64 5]) (by simp[results,Tryz.results12,go_sem,r0,r1,r2,r3,r4,r5,r6,r7]) rfl ?_
  have hN:=HN.out
  subst hN
  exact⟨_,rfl,fun w2 _ _=>gU w2,KZ.out⟩
 obtain⟨k,rfl⟩:∃k:Nat,th=(k:Int):=⟨th.toNat,by omega⟩
 clear ht0
 have s3:=crZ ROWS3 3 rfl
 by_cases hk:k<S.threads.length
 case neg=>
  have hki:¬(k:Int)<S.threads.length:=by omega
  have hki2:(S.threads.length:Int)≤(k:Int):=by omega
  have HN:Hid ((dL,(0:Int),(0:Int),(5:Int))=r):=by
   show _=_
   rw[←HR.out];unfold mY
   rw[if_neg (fun h=>h HIRC.out)];rw[if_neg (fun h=>h HSTC.out)];rw[if_neg (show ¬(k:Int)<0 by omega),Int.toNat_natCast,List.getElem?_eq_none (by omega)]
  go_wp2_with (first | (refine wpList_store_row rfl 40 _ _ rfl (w.heap.size+1+1+1) #[.slice none 0 0,.slice none 0 0,.slice none 0 0,.slice none 0 0,.slice none 0 0,.slice none 0 0,.int .i64 0,.int .i64 0] rfl rfl 40 _ ROWR3.out eC rfl (all_oneCell_toArray (by simp[Value.oneCell'])) ?_) | fail)
  generalize hwz:World.setRow _ _ _=wz
  have QR:=shZ hwz ROWR3
  have KZ:Hid (Below w.heap.size w wz):=by rw[←hwz];exact Below.set_row K3.out (by omega) _
  clear hwz
  go_wp2_with fail
  have r0:=crZ QR 0 rfl
  have r1:=crZ QR 1 rfl
  have r2:=crZ QR 2 rfl
  have r3:=crZ QR 3 rfl
  have r4:=crZ QR 4 rfl
  have r5:=crZ QR 5 rfl
  have r6:=crZ QR 6 rfl
  have r7:=crZ QR 7 rfl
  refine bodyPost_ret (v:=.tuple #[.agg ⟨[.slice none 0 0,.slice none 0 0,.slice none 0 0,.slice none 0 0,.slice none 0 0,.slice none 0 0,.int .i64 0,.int .i64 0]⟩,.int .i64 0,.int .i64 0,.int .i64 5]) (by simp[results,Tryz.results12,go_sem,r0,r1,r2,r3,r4,r5,r6,r7]) rfl ?_
  have hN:=HN.out
  subst hN
  exact⟨_,rfl,fun w2 _ _=>gU w2,KZ.out⟩
 obtain⟨h,hh⟩:∃h,S.threads[k]? = some h:=⟨_,lG hk⟩
 have HH:=hI hh
 have hki:(k:Int)<S.threads.length:=by omega
 have SM:Hid (yO S):=aaF (W:=cC) HSTC.out (aa3 HP0.out (by
  have h:=HSTC.out
  unfold wZ dG at h
  split at h
  ·exact absurd h (by assumption)
  ·rename_i c;omega))
 have ST:=hI (ab5 _ _ t S (k:Int) w3 (HT0.out.below K3.out) (HS0.out.below K3.out) HWTH.out SM.out.threads)
 obtain⟨sb,hsb⟩:∃b,gV t S (k:Int)=b:=⟨_,rfl⟩
 rw[hsb] at ST
 have HSB:=hI hsb
 clear hsb hh
 have RGT:=rrZ ROWT3
 have RGS:=rrZ ROWS3
 go_wp2_with (first | (refine wpList_load_mid rfl 34 _ rfl (w.heap.size+1) 0 rfl [.int .i64 t.fn,.int .i64 t.at_,.int .i64 t.loop,.slice B1 t.ins.length m1,.slice B2 t.exits.length m2,.int .i64 t.turn.at_,.int .i64 t.turn.steps,.slice B3 t.turn.sets.length m3,.slice B4 t.turn.makes.length m4,.int .i64 t.back.at_,.int .i64 t.back.steps,.slice B5 t.back.sets.length m5,.slice B6 t.back.makes.length m6] _ RGT.out Tryz.underlying34 rfl rP ?_) | (refine wpList_load_mid rfl 40 _ rfl (w.heap.size+1+1) 0 rfl [.slice CA S.cells.length cc,.slice SA S.shapes.length sc,.slice XA S.texts.length xc,.slice TA S.threads.length tc,.slice EA S.ends.length ec,.slice AA S.said.length ac,.int .i64 S.asked,.int .i64 S.steps] _ RGS.out Tryz.underlying40 rfl eC ?_) | fail)
 clear RGT RGS s3
 refine ST.out.mono ?_
 rintro e w4 ⟨rfl,k4⟩
 have K4:=btZ K3 k4
 have ROWP4:=rkZ ROWP3 k4
 have ROWT4:=rkZ ROWT3 k4
 have ROWS4:=rkZ ROWS3 k4
 have ROWR4:=rkZ ROWR3 k4
 have HZ4:Hid (w.heap.size+4≤w4.heap.size):=by
  have:=(k4.size:w3.heap.size≤w4.heap.size)
  have:=aV ROWR3.out
  show _≤_
  omega
 clear k4
 have HMT:Hid ((match if(k:Int)<0 then none else S.threads[(k:Int).toNat]? with | none=>(none:Option bW) | some h=>some h)=some h):=by
  show _=_
  rw[if_neg (show ¬(k:Int)<0 by omega),Int.toNat_natCast,HH.out]
 cases sb with
 | false=>
  have HN:Hid ((dL,(0:Int),(0:Int),(8:Int))=r):=by
   show _=_
   rw[←HR.out];unfold mY
   rw[if_neg (fun h=>h HIRC.out)];rw[if_neg (fun h=>h HSTC.out)];rw[if_neg (show ¬(k:Int)<0 by omega),Int.toNat_natCast,HH.out];dsimp only;rw[if_pos HSB.out]
  go_wp2_with (first | (refine wpList_store_row rfl 40 _ _ rfl (w.heap.size+1+1+1) #[.slice none 0 0,.slice none 0 0,.slice none 0 0,.slice none 0 0,.slice none 0 0,.slice none 0 0,.int .i64 0,.int .i64 0] rfl rfl 40 _ ROWR4.out eC rfl (all_oneCell_toArray (by simp[Value.oneCell'])) ?_) | fail)
  generalize hwz:World.setRow _ _ _=wz
  have QR:=shZ hwz ROWR4
  have KZ:Hid (Below w.heap.size w wz):=by rw[←hwz];exact Below.set_row K4.out (by omega) _
  clear hwz
  go_wp2_with fail
  have r0:=crZ QR 0 rfl
  have r1:=crZ QR 1 rfl
  have r2:=crZ QR 2 rfl
  have r3:=crZ QR 3 rfl
  have r4:=crZ QR 4 rfl
  have r5:=crZ QR 5 rfl
  have r6:=crZ QR 6 rfl
  have r7:=crZ QR 7 rfl
  refine bodyPost_ret (v:=.tuple #[.agg ⟨[.slice none 0 0,.slice none 0 0,.slice none 0 0,.slice none 0 0,.slice none 0 0,.slice none 0 0,.int .i64 0,.int .i64 0]⟩,.int .i64 0,.int .i64 0,.int .i64 8]) (by simp[results,Tryz.results12,go_sem,r0,r1,r2,r3,r4,r5,r6,r7]) rfl ?_
  have hN:=HN.out
  subst hN
  exact⟨_,rfl,fun w2 _ _=>gU w2,KZ.out⟩
 | true=>
  have HSB2:Hid (¬gV t S (k:Int)=false):=by show ¬_;rw[HSB.out];decide
  by_cases htu:tu<0
  ·have HN:Hid ((dL,(0:Int),(0:Int),(1:Int))=r):=by
    show _=_
    rw[←HR.out];unfold mY
    rw[if_neg (fun h=>h HIRC.out)];rw[if_neg (fun h=>h HSTC.out)];rw[if_neg (show ¬(k:Int)<0 by omega),Int.toNat_natCast,HH.out];dsimp only;rw[if_neg HSB2.out,if_pos (.inl htu)]
   go_wp2_with (first | (refine wpList_store_row rfl 40 _ _ rfl (w.heap.size+1+1+1) #[.slice none 0 0,.slice none 0 0,.slice none 0 0,.slice none 0 0,.slice none 0 0,.slice none 0 0,.int .i64 0,.int .i64 0] rfl rfl 40 _ ROWR4.out eC rfl (all_oneCell_toArray (by simp[Value.oneCell'])) ?_) | fail)
   generalize hwz:World.setRow _ _ _=wz
   have QR:=shZ hwz ROWR4
   have KZ:Hid (Below w.heap.size w wz):=by rw[←hwz];exact Below.set_row K4.out (by omega) _
   clear hwz
   go_wp2_with fail
   have r0:=crZ QR 0 rfl
   have r1:=crZ QR 1 rfl
   have r2:=crZ QR 2 rfl
   have r3:=crZ QR 3 rfl
   have r4:=crZ QR 4 rfl
   have r5:=crZ QR 5 rfl
   have r6:=crZ QR 6 rfl
   have r7:=crZ QR 7 rfl
   refine bodyPost_ret (v:=.tuple #[.agg ⟨[.slice none 0 0,.slice none 0 0,.slice none 0 0,.slice none 0 0,.slice none 0 0,.slice none 0 0,.int .i64 0,.int .i64 0]⟩,.int .i64 0,.int .i64 0,.int .i64 1]) (by simp[results,Tryz.results12,go_sem,r0,r1,r2,r3,r4,r5,r6,r7]) rfl ?_
   have hN:=HN.out
   subst hN
   exact⟨_,rfl,fun w2 _ _=>gU w2,KZ.out⟩
  obtain⟨n,rfl⟩:∃n:Nat,tu=(n:Int):=⟨tu.toNat,by omega⟩
  by_cases hn:n≤1000
  case neg=>
   have hni:(1000:Int)<(n:Int):=by omega
   have HN:Hid ((dL,(0:Int),(0:Int),(1:Int))=r):=by
    show _=_
    rw[←HR.out];unfold mY
    rw[if_neg (fun h=>h HIRC.out)];rw[if_neg (fun h=>h HSTC.out)];rw[if_neg (show ¬(k:Int)<0 by omega),Int.toNat_natCast,HH.out];dsimp only;rw[if_neg HSB2.out,if_pos (.inr hni)]
   go_wp2_with (first | (refine wpList_store_row rfl 40 _ _ rfl (w.heap.size+1+1+1) #[.slice none 0 0,.slice none 0 0,.slice none 0 0,.slice none 0 0,.slice none 0 0,.slice none 0 0,.int .i64 0,.int .i64 0] rfl rfl 40 _ ROWR4.out eC rfl (all_oneCell_toArray (by simp[Value.oneCell'])) ?_) | fail)
   generalize hwz:World.setRow _ _ _=wz
   have QR:=shZ hwz ROWR4
   have KZ:Hid (Below w.heap.size w wz):=by rw[←hwz];exact Below.set_row K4.out (by omega) _
   clear hwz
   go_wp2_with fail
   have r0:=crZ QR 0 rfl
   have r1:=crZ QR 1 rfl
   have r2:=crZ QR 2 rfl
   have r3:=crZ QR 3 rfl
   have r4:=crZ QR 4 rfl
   have r5:=crZ QR 5 rfl
   have r6:=crZ QR 6 rfl
   have r7:=crZ QR 7 rfl
   refine bodyPost_ret (v:=.tuple #[.agg ⟨[.slice none 0 0,.slice none 0 0,.slice none 0 0,.slice none 0 0,.slice none 0 0,.slice none 0 0,.int .i64 0,.int .i64 0]⟩,.int .i64 0,.int .i64 0,.int .i64 1]) (by simp[results,Tryz.results12,go_sem,r0,r1,r2,r3,r4,r5,r6,r7]) rfl ?_
   have hN:=HN.out
   subst hN
   exact⟨_,rfl,fun w2 _ _=>gU w2,KZ.out⟩
  have hni:¬(1000:Int)<(n:Int):=by omega
  obtain⟨f,hlast,hst0,hfn,hfat⟩:∃f,h.frames.getLast? = some f∧h.state=0∧f.fn=t.fn∧f.at_=t.at_:=by
   have hs:=HSB.out
   unfold gV at hs
   rw[if_neg (show ¬(k:Int)<0 by omega),Int.toNat_natCast,HH.out] at hs
   dsimp only at hs
   split at hs
   ·cases hs
   ·rename_i f e
    simp only[Bool.and_eq_true,beq_iff_eq] at hs
    exact⟨f,e,hs.1.1,hs.1.2,hs.2⟩
  have HFN:=hI hfn
  have HLAST:=hI hlast
  have HRR:Hid ((if(bQ cJ t f.self S.shapes n 0 (cL t S f)).2.2.2=2 then(dL,(0:Int),(0:Int),(8:Int)) else if 1000000000<S.steps+(bQ cJ t f.self S.shapes n 0 (cL t S f)).1.steps then(dL,0,0,2) else(gX S k (bQ cJ t f.self S.shapes n 0 (cL t S f)).1,(bQ cJ t f.self S.shapes n 0 (cL t S f)).2.1,(bQ cJ t f.self S.shapes n 0 (cL t S f)).2.2.1,0))=r):=by
   have h:=HR.out
   unfold mY at h
   rw[if_neg (fun h=>h HIRC.out),if_neg (fun h=>h HSTC.out),if_neg (show ¬(k:Int)<0 by omega),Int.toNat_natCast,HH.out] at h
   dsimp only at h
   rw[if_neg HSB2.out,if_neg (fun h=>h.elim htu hni),HLAST.out] at h
   exact h
  clear hlast hst0 hfn hfat HSB HR HMT
  have OC:=hI (xG _ S w4 (HS0.out.below K4.out) SM.out)
  have RGS:=rrZ ROWS4
  go_wp2_with (first | (refine wpList_load_mid rfl 40 _ rfl (w.heap.size+1+1) 0 rfl [.slice CA S.cells.length cc,.slice SA S.shapes.length sc,.slice XA S.texts.length xc,.slice TA S.threads.length tc,.slice EA S.ends.length ec,.slice AA S.said.length ac,.int .i64 S.asked,.int .i64 S.steps] _ RGS.out Tryz.underlying40 rfl eC ?_) | fail)
  clear RGS
  refine OC.out.mono ?_
  rintro e w5 ⟨cs',co,lo,cv,thv,rows,trows,shv,txv,env,sav,rfl,own5,k5⟩
  have K5:=btZ K4 k5
  have ROWP5:=rkZ ROWP4 k5
  have ROWT5:=rkZ ROWT4 k5
  have ROWS5:=rkZ ROWS4 k5
  have ROWR5:=rkZ ROWR4 k5
  have O5:=hI own5
  have HZ5:Hid (w4.heap.size≤w5.heap.size):=k5.size
  have hce:=own5.cells
  obtain⟨CG,cg,rfl⟩:=bV own5.crow
  obtain⟨TG,tg,rfl⟩:=bV own5.trow
  obtain⟨U5,c5,rfl,-⟩:=id own5.shapes
  obtain⟨U6,c6,rfl,-⟩:=id own5.texts
  obtain⟨U7,c7,rfl,-⟩:=id own5.ends
  obtain⟨U8,c8,rfl,-⟩:=id own5.said
  subst hce
  clear own5 k5
  go_upto_region 14 with (first | (refine wpList_store_row rfl 40 _ _ rfl (w.heap.size+1+1) #[.slice CG S.cells.length cg,.slice U5 S.shapes.length c5,.slice U6 S.texts.length c6,.slice TG S.threads.length tg,.slice U7 S.ends.length c7,.slice U8 S.said.length c8,.int .i64 S.asked,.int .i64 S.steps] rfl rfl 40 _ ROWS5.out eC rfl (all_oneCell_toArray (by simp[Value.oneCell'])) ?_) | fail)
  generalize hw6:World.setRow _ _ _=w6
  have K6:Hid (Below w.heap.size w w6):=by rw[←hw6];exact Below.set_row K5.out (by omega) _
  have ROWS6:=shZ hw6 ROWS5
  have ROWT6:=soZ hw6 ROWT5 (by omega)
  have ROWR6:=soZ hw6 ROWR5 (by omega)
  have hz6:w6.heap.size=w5.heap.size:=by rw[←hw6];simp
  have O6:Hid (sL w6 w4.heap.size [.slice CG S.cells.length cg,.slice U5 S.shapes.length c5,.slice U6 S.texts.length c6,.slice TG S.threads.length tg,.slice U7 S.ends.length c7,.slice U8 S.said.length c8,.int .i64 S.asked,.int .i64 S.steps] S co lo (.slice CG S.cells.length cg) (.slice TG S.threads.length tg) rows trows (.slice U5 S.shapes.length c5) (.slice U6 S.texts.length c6) (.slice U7 S.ends.length c7) (.slice U8 S.said.length c8)):=O5.out.kept (fun b hb _=>by rw[←hw6];exact setRow_other _ _ _ _ (by have:=HZ4.out;omega)) hz6
  have HZ6:Hid (w4.heap.size≤w6.heap.size):=by show _≤_;rw[hz6];exact HZ5.out
  clear hw6 hz6 O5
  (try dsimp only [Act.put])
  obtain⟨tf,htf,rs,ts,hfi⟩:=O6.out.tpart k h HH.out
  obtain⟨j,hj⟩:∃j,h.frames.length=j+1:=by
   cases e:h.frames.length with
   | zero=>have:=HLAST.out;rw[List.length_eq_zero_iff.1 e] at this;cases this
   | succ j=>exact⟨j,rfl⟩
  have hfj:h.frames[j]? = some f:=by have h2:=HLAST.out;rw[List.getLast?_eq_getElem?,hj] at h2;exact h2
  obtain⟨fb,fcap,htfe,-,hfb⟩:=hfi.at_.row.form (by omega)
  rw[hj] at htfe
  obtain⟨rv,hrv⟩:∃rv,rs[j]? = some rv:=⟨_,lG (by rw[hfi.at_.lr,hj];omega)⟩
  obtain⟨tgb,tgc,hTG,-,htgb⟩:=O6.out.trow.form (by omega)
  injection hTG with hTG _ hTc
  subst hTG
  subst hTc
  have s3:=crZ ROWS6 3 rfl
  have q0:w6.cell? ⟨tgb,k*5,none⟩=some (.slice (some ⟨fb,0,none⟩) (j+1) fcap):=by
   have h2:=O6.out.trow.cellAt (k*5+0) (by omega)
   rw[b9 _ k 0 _ O6.out.t5 htf (by decide)] at h2
   rw[←htfe]
   exact h2
  have HJ:=hI hj
  have HFJ:=hI hfj
  have HTF:=hI htf
  have HFI:=hI hfi
  have HTFE:=hI htfe
  have HRV:=hI hrv
  clear htf hfi hj hfj htfe hrv
  go_upto_region 15 with fail
  clear s3 q0
  have hjb:j+1≤30:=by have h2:=(SM.out.tframes h (List.mem_of_getElem? HH.out)).1;rw[HJ.out] at h2;exact h2
  have hwr:wrap64 (j:Int)=(j:Int):=by unfold wrap64;omega
  have hjj:(j:Int)<(j:Int)+1:=by omega
  have hil:t.ins.length≤300:=by obtain⟨h2,-⟩:=gZ HIRC.out;exact h2
  have RGU:Hid (∀E:Up w6,E.to.rangeAt (w.heap.size+1) 0 [.int .i64 t.fn,.int .i64 t.at_,.int .i64 t.loop,.slice B1 t.ins.length m1,.slice B2 t.exits.length m2,.int .i64 t.turn.at_,.int .i64 t.turn.steps,.slice B3 t.turn.sets.length m3,.slice B4 t.turn.makes.length m4,.int .i64 t.back.at_,.int .i64 t.back.steps,.slice B5 t.back.sets.length m5,.slice B6 t.back.makes.length m6]):=fun E=>(aeA ((E.below.block _ (aV ROWT6.out)).trans ROWT6.out)).range
  have d0:=ecZ (crZ ROWS6 0 rfl)
  have d1:=ecZ (crZ ROWS6 1 rfl)
  have d3:=ecZ (crZ ROWT6 3 rfl)
  refine cV (fun w'=>∃E:Up w6,w'=E.to) 13 [13,14,15,16] [13] (by kernel_rfl) (by decide) (by kernel_rfl) (fun _ _ d _ _ h=>by cases d <;> exact h) ⟨⟨_,(Below.refl _ w6).drew⟩,rfl⟩ ?_
  simp only[List.take_succ_cons,List.take_zero]
  generalize hqq:(fun a'=>gA _ _ _ _ _ _ a' _)=qq
  have HQQ:=hI hqq
  clear hqq
  repeat (first
   | (refine aO 34 _ rfl rfl (w.heap.size+1) 0 rfl [.int .i64 t.fn,.int .i64 t.at_,.int .i64 t.loop,.slice B1 t.ins.length m1,.slice B2 t.exits.length m2,.int .i64 t.turn.at_,.int .i64 t.turn.steps,.slice B3 t.turn.sets.length m3,.slice B4 t.turn.makes.length m4,.int .i64 t.back.at_,.int .i64 t.back.steps,.slice B5 t.back.sets.length m5,.slice B6 t.back.makes.length m6] _ RGU.out Tryz.underlying34 rfl rP ?_;go_simp)
   | go_big_quiet_step (fail))
  refine wpQuiet_nil ?_
  rw[←HQQ.out]
  clear HQQ qq d0 d1 d3 RGU
  have hmk:=fun W=>mk_vals t.ins.length (by omega) W
  refine bA rfl (fun K hK=>?_)
  go_simp
  obtain⟨wa,hwa⟩:∃wa,wa=(w6.alloc (.cells ⟨(List.replicate t.ins.length (⟨0,0⟩:Val)).flatMap aZ⟩ 48)).drew:=⟨_,rfl⟩
  have KA:Hid (Below w6.heap.size w6 wa):=by rw[hwa];exact((Below.refl _ w6).alloc (Nat.le_refl _) _).drew
  have BA:Hid (wa.heap[w6.heap.size]? = some (.cells ⟨(List.replicate t.ins.length (⟨0,0⟩:Val)).flatMap aZ⟩ 48 (0,0))):=by rw[hwa];exact aJ w6 _
  have HWA:=hI hwa
  clear hwa hmk
  refine hK _ _ (fun _=>⟨⟨wa,KA.out⟩,HWA.out.symm⟩) ?_
  clear hK K
  have hsz6:w6.drew.heap.size=w6.heap.size:=rfl
  (try rw[hsz6])
  rw[←HWA.out]
  clear hsz6
  refine bP [14,15,16] _ _ (by kernel_rfl) (by kernel_rfl) ?_
  simp only[List.filterMap_cons,List.filterMap_nil,List.getElem?_toArray,List.getElem?_cons_zero,List.getElem?_cons_succ]
  obtain⟨w8,hw8⟩:∃w8,w8=wa.alloc (.cells #[.int .i64 t.fn,.int .i64 t.at_,.int .i64 t.loop,.slice B1 t.ins.length m1,.slice B2 t.exits.length m2,.int .i64 t.turn.at_,.int .i64 t.turn.steps,.slice B3 t.turn.sets.length m3,.slice B4 t.turn.makes.length m4,.int .i64 t.back.at_,.int .i64 t.back.steps,.slice B5 t.back.sets.length m5,.slice B6 t.back.makes.length m6,.slice CG S.cells.length cg,.slice U5 S.shapes.length c5,.pointer (some ⟨fb,j*8,none⟩),.int .i64 0,.slice (some ⟨w6.heap.size,0,none⟩) t.ins.length t.ins.length] 85):=⟨_,rfl⟩
  have KA8:Hid (Below wa.heap.size wa w8):=by rw[hw8];exact aB _ _
  have B8:Hid (w8.heap[wa.heap.size]? = some (.cells #[.int .i64 t.fn,.int .i64 t.at_,.int .i64 t.loop,.slice B1 t.ins.length m1,.slice B2 t.exits.length m2,.int .i64 t.turn.at_,.int .i64 t.turn.steps,.slice B3 t.turn.sets.length m3,.slice B4 t.turn.makes.length m4,.int .i64 t.back.at_,.int .i64 t.back.steps,.slice B5 t.back.sets.length m5,.slice B6 t.back.makes.length m6,.slice CG S.cells.length cg,.slice U5 S.shapes.length c5,.pointer (some ⟨fb,j*8,none⟩),.int .i64 0,.slice (some ⟨w6.heap.size,0,none⟩) t.ins.length t.ins.length] 85 (0,0))):=by rw[hw8];exact aJ _ _
  have K68:=btZ KA KA8.out
  have K8:=btZ K6 K68.out
  have ROWS8:=rkZ ROWS6 K68.out
  have ROWR8:=rkZ ROWR6 K68.out
  have HW8:=hI hw8
  have HZ8:Hid (w6.heap.size<wa.heap.size):=aV BA.out
  clear hw8
  go_upto_region 16 with fail
  rw[←HW8.out]
  clear hwr hjj
  have VR:Hid (w8.ownsRow w6.heap.size 48 2 (.slice (some ⟨w6.heap.size,0,none⟩) t.ins.length t.ins.length) t.ins.length ((List.replicate t.ins.length (⟨0,0⟩:Val)).flatMap aZ)):=by
   have hl2:((List.replicate t.ins.length (⟨0,0⟩:Val)).flatMap aZ).length=t.ins.length*2:=by
    rw[←dI,vT (size:=2) _ (fun r hr=>by obtain⟨x,-,rfl⟩:=List.mem_map.1 hr;rfl),List.length_map,List.length_replicate]
   refine⟨hl2,.inr ⟨w6.heap.size,t.ins.length,_,rfl,Nat.le_refl _,(KA8.out.block _ HZ8.out).trans BA.out,Nat.le_refl _,by unfold maxLen;omega,hl2,?_⟩⟩
   show List.take _ ((List.replicate t.ins.length (⟨0,0⟩:Val)).flatMap aZ)=_
   rw[←hl2,List.take_length]
  have STT:Hid (cH w6 w8 w.heap.size w4.heap.size [.slice CG S.cells.length cg,.slice U5 S.shapes.length c5,.slice U6 S.texts.length c6,.slice (some ⟨tgb,0,none⟩) S.threads.length tg,.slice U7 S.ends.length c7,.slice U8 S.said.length c8,.int .i64 S.asked,.int .i64 S.steps] S co lo (.slice CG S.cells.length cg) (.slice (some ⟨tgb,0,none⟩) S.threads.length tg) rows trows (.slice U5 S.shapes.length c5) (.slice U6 S.texts.length c6) (.slice U7 S.ends.length c7) (.slice U8 S.said.length c8) k h f j fb fcap wa.heap.size tf rv (.slice (some ⟨w6.heap.size,0,none⟩) t.ins.length t.ins.length) rs ts [.int .i64 t.fn,.int .i64 t.at_,.int .i64 t.loop,.slice B1 t.ins.length m1,.slice B2 t.exits.length m2,.int .i64 t.turn.at_,.int .i64 t.turn.steps,.slice B3 t.turn.sets.length m3,.slice B4 t.turn.makes.length m4,.int .i64 t.back.at_,.int .i64 t.back.steps,.slice B5 t.back.sets.length m5,.slice B6 t.back.makes.length m6] t):=
   { own:=O6.out,hB:=by have:=HZ4.out;omega,hO:=HZ6.out,below:=K68.out,hth:=HH.out,hl:=HJ.out,hf:=HFJ.out,ht:=HTF.out,fin:=HFI.out,htf:=HTFE.out,hrv:=HRV.out,vrow:=VR.out,wrow:=B8.out,wnew:=Nat.le_of_lt HZ8.out,tl:=rfl,tr:=HT0.out.keep (Nat.le_refl _) (fun _ hp=>K8.out.cell hp) }
  obtain⟨fn,-,hfnn,hwf⟩:=yJ HIRC.out
  have hreg:(cL t S f).regs.length=fn.regs.toNat:=by
   have h2:=xY ((oQ HSTC.out).2 h (List.mem_of_getElem? HH.out) f (List.mem_of_getElem? HFJ.out))
   rw[HFN.out] at h2
   unfold gD at h2
   rw[List.getElem?_map] at hfnn
   obtain⟨g,hg,rfl⟩:=Option.map_eq_some_iff.1 hfnn
   rw[hg] at h2
   have h3:(f.regs.length:Int)=g.regs:=h2
   show f.regs.length=g.regs.toNat
   omega
  have LM:Lim t fn.regs.toNat (cL t S f):=⟨by simp[cL],SM.out.cells,hreg⟩
  have RC:=hI (run_c STT.out.fix STT.out.lay hwf (qI HIRC.out) LM hn rfl)
  have HSTEP:=hI (fun hw=>aaN HIRC.out cJ f.self S.shapes (turns:=n) hn (W:=cL t S f) rfl hw)
  have HS9:=(oQ HSTC.out).1
  obtain⟨D,ex,dn,how,hD⟩:∃D ex dn how,bQ cJ t f.self S.shapes n 0 (cL t S f)=(D,ex,dn,how):=⟨_,_,_,_,rfl⟩
  have hD2:bQ cJ (sD w8 w.heap.size w4.heap.size (.slice CG S.cells.length cg) rows (.slice U5 S.shapes.length c5) S f j fb wa.heap.size rv (.slice (some ⟨w6.heap.size,0,none⟩) t.ins.length t.ins.length) [.int .i64 t.fn,.int .i64 t.at_,.int .i64 t.loop,.slice B1 t.ins.length m1,.slice B2 t.exits.length m2,.int .i64 t.turn.at_,.int .i64 t.turn.steps,.slice B3 t.turn.sets.length m3,.slice B4 t.turn.makes.length m4,.int .i64 t.back.at_,.int .i64 t.back.steps,.slice B5 t.back.sets.length m5,.slice B6 t.back.makes.length m6] t).t (sD w8 w.heap.size w4.heap.size (.slice CG S.cells.length cg) rows (.slice U5 S.shapes.length c5) S f j fb wa.heap.size rv (.slice (some ⟨w6.heap.size,0,none⟩) t.ins.length t.ins.length) [.int .i64 t.fn,.int .i64 t.at_,.int .i64 t.loop,.slice B1 t.ins.length m1,.slice B2 t.exits.length m2,.int .i64 t.turn.at_,.int .i64 t.turn.steps,.slice B3 t.turn.sets.length m3,.slice B4 t.turn.makes.length m4,.int .i64 t.back.at_,.int .i64 t.back.steps,.slice B5 t.back.sets.length m5,.slice B6 t.back.makes.length m6] t).self (sD w8 w.heap.size w4.heap.size (.slice CG S.cells.length cg) rows (.slice U5 S.shapes.length c5) S f j fb wa.heap.size rv (.slice (some ⟨w6.heap.size,0,none⟩) t.ins.length t.ins.length) [.int .i64 t.fn,.int .i64 t.at_,.int .i64 t.loop,.slice B1 t.ins.length m1,.slice B2 t.exits.length m2,.int .i64 t.turn.at_,.int .i64 t.turn.steps,.slice B3 t.turn.sets.length m3,.slice B4 t.turn.makes.length m4,.int .i64 t.back.at_,.int .i64 t.back.steps,.slice B5 t.back.sets.length m5,.slice B6 t.back.makes.length m6] t).shapes n 0 (cL t S f)=(D,ex,dn,how):=hD
  rw[hD2] at RC
  rw[hD] at HSTEP HRR
  unfold RPost at RC
  dsimp only at RC HSTEP HRR
  clear hD hD2 hfnn hwf hreg LM hil hjb
  go_wp2_with fail
  refine RC.out.mono ?_
  rintro e w9 ⟨rfl,⟨cv9,vv9,vs9,fs9,L9'⟩,KW9'⟩
  have L9:=hI L9'
  have KW9:=hI KW9'
  have ROWS9:Hid (w9.heap[(w.heap.size+1+1)]? = some (.cells #[.slice CG S.cells.length cg,.slice U5 S.shapes.length c5,.slice U6 S.texts.length c6,.slice (some ⟨tgb,0,none⟩) S.threads.length tg,.slice U7 S.ends.length c7,.slice U8 S.said.length c8,.int .i64 S.asked,.int .i64 S.steps] 40 (0,0))):=(KW9'.block _ _ _ _ ROWS8.out (by decide) (by decide) (by decide) (by decide)).trans ROWS8.out
  have ROWR9:Hid (w9.heap[(w.heap.size+1+1+1)]? = some (.cells #[.slice none 0 0,.slice none 0 0,.slice none 0 0,.slice none 0 0,.slice none 0 0,.slice none 0 0,.int .i64 0,.int .i64 0] 40 (0,0))):=(KW9'.block _ _ _ _ ROWR8.out (by decide) (by decide) (by decide) (by decide)).trans ROWR8.out
  have K9:Hid (Below w.heap.size w w9):=⟨KW9'.os.trans K8.out.os,KW9'.tape.trans K8.out.tape,KW9'.output.trans K8.out.output,Nat.le_trans K8.out.size KW9'.size,fun b hb=>(L9'.fixed b (STT.out.q_old hb)).trans (K8.out.block b hb)⟩
  clear L9' KW9'
  by_cases h8:how=2
  ·have HN:Hid ((dL,(0:Int),(0:Int),(8:Int))=r):=by have h2:=HRR.out;rw[if_pos h8] at h2;exact h2
   subst h8
   go_wp2_with (first | (refine wpList_store_row rfl 40 _ _ rfl (w.heap.size+1+1+1) #[.slice none 0 0,.slice none 0 0,.slice none 0 0,.slice none 0 0,.slice none 0 0,.slice none 0 0,.int .i64 0,.int .i64 0] rfl rfl 40 _ ROWR9.out eC rfl (all_oneCell_toArray (by simp[Value.oneCell'])) ?_) | fail)
   generalize hwz:World.setRow _ _ _=wz
   have QR:=shZ hwz ROWR9
   have KZ:Hid (Below w.heap.size w wz):=by rw[←hwz];exact Below.set_row K9.out (by omega) _
   clear hwz
   go_wp2_with fail
   have r0:=crZ QR 0 rfl
   have r1:=crZ QR 1 rfl
   have r2:=crZ QR 2 rfl
   have r3:=crZ QR 3 rfl
   have r4:=crZ QR 4 rfl
   have r5:=crZ QR 5 rfl
   have r6:=crZ QR 6 rfl
   have r7:=crZ QR 7 rfl
   refine bodyPost_ret (v:=.tuple #[.agg ⟨[.slice none 0 0,.slice none 0 0,.slice none 0 0,.slice none 0 0,.slice none 0 0,.slice none 0 0,.int .i64 0,.int .i64 0]⟩,.int .i64 0,.int .i64 0,.int .i64 8]) (by simp[results,Tryz.results12,go_sem,r0,r1,r2,r3,r4,r5,r6,r7]) rfl ?_
   have hN:=HN.out
   subst hN
   exact⟨_,rfl,fun w2 _ _=>gU w2,KZ.out⟩
  obtain⟨hw0,hs1,hs2⟩:=HSTEP.out h8
  subst hw0
  have hadd:wrap64 (S.steps+D.steps)=S.steps+D.steps:=by unfold wrap64;omega
  have HRB:Hid ((if 1000000000<S.steps+D.steps then(dL,(0:Int),(0:Int),(2:Int)) else(gX S k D,ex,dn,0))=r):=by have h2:=HRR.out;rw[if_neg h8] at h2;exact h2
  clear h8
  obtain⟨CN,cn,rfl⟩:=bV L9.out.crow
  go_upto_region 19 with fail
  have d7:=ecZ (crZ ROWS9 7 rfl)
  have d16:∀E:Up w9,E.to.cell? ⟨wa.heap.size,16,none⟩=some (.int .i64 D.steps):=fun E=>E.cell (L9.out.own STT.out.fix 3)
  by_cases hbig:1000000000<S.steps+D.steps
  ·have HN:Hid ((dL,(0:Int),(0:Int),(2:Int))=r):=by have h2:=HRB.out;rw[if_pos hbig] at h2;exact h2
   refine aD (by kernel_rfl) (by kernel_rfl) ?_
   repeat (go_big_quiet_step (fail))
   refine wpQuiet_nil ?_
   rintro _ ⟨E,rfl⟩
   obtain⟨wA,kA⟩:=E
   dsimp only
   have KA9:=btZ K9 kA
   have ROWRA:=rkZ ROWR9 kA
   clear kA d7 d16
   go_wp2_with (first | (refine wpList_store_row rfl 40 _ _ rfl (w.heap.size+1+1+1) #[.slice none 0 0,.slice none 0 0,.slice none 0 0,.slice none 0 0,.slice none 0 0,.slice none 0 0,.int .i64 0,.int .i64 0] rfl rfl 40 _ ROWRA.out eC rfl (all_oneCell_toArray (by simp[Value.oneCell'])) ?_) | fail)
   generalize hwz:World.setRow _ _ _=wz
   have QR:=shZ hwz ROWRA
   have KZ:Hid (Below w.heap.size w wz):=by rw[←hwz];exact Below.set_row KA9.out (by omega) _
   clear hwz
   go_wp2_with fail
   have r0:=crZ QR 0 rfl
   have r1:=crZ QR 1 rfl
   have r2:=crZ QR 2 rfl
   have r3:=crZ QR 3 rfl
   have r4:=crZ QR 4 rfl
   have r5:=crZ QR 5 rfl
   have r6:=crZ QR 6 rfl
   have r7:=crZ QR 7 rfl
   refine bodyPost_ret (v:=.tuple #[.agg ⟨[.slice none 0 0,.slice none 0 0,.slice none 0 0,.slice none 0 0,.slice none 0 0,.slice none 0 0,.int .i64 0,.int .i64 0]⟩,.int .i64 0,.int .i64 0,.int .i64 2]) (by simp[results,Tryz.results12,go_sem,r0,r1,r2,r3,r4,r5,r6,r7]) rfl ?_
   have hN:=HN.out
   subst hN
   exact⟨_,rfl,fun w2 _ _=>gU w2,KZ.out⟩
  have HN:Hid ((gX S k D,ex,dn,(0:Int))=r):=by have h2:=HRB.out;rw[if_neg hbig] at h2;exact h2
  refine aD (by kernel_rfl) (by kernel_rfl) ?_
  repeat (go_big_quiet_step (fail))
  refine wpQuiet_nil ?_
  rintro _ ⟨E,rfl⟩
  obtain⟨wA,kA⟩:=E
  dsimp only
  have KA9:=btZ K9 kA
  have ROWRA:=rkZ ROWR9 kA
  have ROWSA:=rkZ ROWS9 kA
  have LA:=hI (L9.out.below STT.out.fix kA)
  clear kA d7 d16
  go_upto_region 21 with fail
  obtain⟨L,hL⟩:∃L:List (Addr×Value),L=[(⟨wa.heap.size,13,none⟩,.slice CN D.cells.length cn),(⟨wa.heap.size,16,none⟩,.int .i64 D.steps),(⟨(w.heap.size+1+1),7,none⟩,.int .i64 S.steps)]:=⟨_,rfl⟩
  have hne:(w.heap.size+1+1)≠wa.heap.size:=by have:=HZ6.out;have:=HZ4.out;have:=HZ8.out;omega
  have CAL:Hid (∀p∈L,wA.cell? p.1=some p.2∧p.1.block<wA.heap.size):=by
   show ∀p∈L,_
   rw[hL]
   intro p hp
   simp only[List.mem_cons,List.not_mem_nil,or_false] at hp
   rcases hp with rfl | rfl | rfl
   ·exact⟨LA.out.own STT.out.fix 0,aV LA.out.row⟩
   ·exact⟨LA.out.own STT.out.fix 3,aV LA.out.row⟩
   ·exact⟨cell_of_row wA _ 7 _ _ _ ROWSA.out,aV ROWSA.out⟩
  have CLS:Hid (∀W',Below wA.heap.size wA W'→∃E:cI L,W'=E.wd):=fun W' k=>⟨⟨W',fun p hp=>(k.cell (CAL.out p hp).2).trans (CAL.out p hp).1⟩,rfl⟩
  have CLT:Hid (∀W' u,Below wA.heap.size wA W'→∃E:cI L,W'.setCell ⟨(w.heap.size+1+1),0,none⟩ u=E.wd):=fun W' u k=>by
   have hrow:W'.heap[(w.heap.size+1+1)]? = some (.cells #[.slice CG S.cells.length cg,.slice U5 S.shapes.length c5,.slice U6 S.texts.length c6,.slice (some ⟨tgb,0,none⟩) S.threads.length tg,.slice U7 S.ends.length c7,.slice U8 S.said.length c8,.int .i64 S.asked,.int .i64 S.steps] 40 (0,0)):=(k.block _ (aV ROWSA.out)).trans ROWSA.out
   refine⟨⟨W'.setCell ⟨(w.heap.size+1+1),0,none⟩ u,fun p hp=>?_⟩,rfl⟩
   have h1:=(k.cell (CAL.out p hp).2).trans (CAL.out p hp).1
   rw[hL] at hp
   simp only[List.mem_cons,List.not_mem_nil,or_false] at hp
   rcases hp with rfl | rfl | rfl
   ·exact(World.cell?_of_block (heap_setCell_other _ _ _ _ (Ne.symm hne))).trans h1
   ·exact(World.cell?_of_block (heap_setCell_other _ _ _ _ (Ne.symm hne))).trans h1
   ·rw[cell_of_row _ _ 7 _ _ _ (heap_setCell_same _ _ _ _ _ _ hrow)];rfl
  have d13:∀E:cI L,E.wd.cell? ⟨wa.heap.size,13,none⟩=some (.slice CN D.cells.length cn):=fun E=>E.here (_,_) (by rw[hL];simp)
  have d16:∀E:cI L,E.wd.cell? ⟨wa.heap.size,16,none⟩=some (.int .i64 D.steps):=fun E=>E.here (_,_) (by rw[hL];simp)
  have d7:∀E:cI L,E.wd.cell? ⟨(w.heap.size+1+1),7,none⟩=some (.int .i64 S.steps):=fun E=>E.here (_,_) (by rw[hL];simp)
  clear hL
  haveI:Nonempty (cI L):=⟨(CLS.out wA (Below.refl _ _)).choose⟩
  refine cV (fun w'=>∃E:cI L,w'=E.wd) 12 [12,13,14] [12] (by kernel_rfl) (by decide) (by kernel_rfl) (fun _ _ d _ _ h=>by cases d <;> exact h) (CLS.out _ (Below.refl _ wA).drew) ?_
  simp only[List.take_succ_cons,List.take_zero]
  generalize hqq:(fun a'=>gA _ _ _ _ _ _ a' _)=qq
  have HQQ:=hI hqq
  clear hqq
  repeat (go_big_quiet_step (fail))
  refine wpQuiet_nil ?_
  rw[←HQQ.out]
  clear HQQ qq d7 d13 d16
  obtain⟨wd,hwd⟩:∃wd,wd=wA.drew:=⟨_,rfl⟩
  have KD:Hid (Below wA.heap.size wA wd):=by rw[hwd];exact(Below.refl _ wA).drew
  have ROWSD:Hid (wd.heap[(w.heap.size+1+1)]? = some (.cells #[.slice CG S.cells.length cg,.slice U5 S.shapes.length c5,.slice U6 S.texts.length c6,.slice (some ⟨tgb,0,none⟩) S.threads.length tg,.slice U7 S.ends.length c7,.slice U8 S.said.length c8,.int .i64 S.asked,.int .i64 S.steps] 40 (0,0))):=by rw[hwd];exact ROWSA.out
  have ROWRD:Hid (wd.heap[(w.heap.size+1+1+1)]? = some (.cells #[.slice none 0 0,.slice none 0 0,.slice none 0 0,.slice none 0 0,.slice none 0 0,.slice none 0 0,.int .i64 0,.int .i64 0] 40 (0,0))):=by rw[hwd];exact ROWRA.out
  rw[←hwd]
  clear hwd
  have e0:=crZ ROWSD 0 rfl
  have z0:wd.frozen? ⟨(w.heap.size+1+1),0,none⟩=false:=frozen_of_row wd _ _ _ _ ROWSD.out
  refine bA rfl (fun K hK=>?_)
  go_simp
  refine hK _ _ (fun _=>CLT.out wd _ KD.out) ?_
  clear hK K CLS CLT CAL e0 z0
  generalize hwB:World.setCell _ _ _=wB
  have hbs:¬QOf w8 w.heap.size w4.heap.size wa.heap.size fb rv (.slice (some ⟨w6.heap.size,0,none⟩) t.ins.length t.ins.length) (.slice CG S.cells.length cg) (hM rows) (w.heap.size+1+1):=fun hq=>by
   have h1:=hq.1.2
   have:=HZ4.out
   omega
  have hbr:¬QOf w8 w.heap.size w4.heap.size wa.heap.size fb rv (.slice (some ⟨w6.heap.size,0,none⟩) t.ins.length t.ins.length) (.slice CG S.cells.length cg) (hM rows) (w.heap.size+1+1+1):=fun hq=>by
   have h1:=hq.1.2
   have:=HZ4.out
   omega
  have HBR:=hI hbr
  have HBS:=hI hbs
  have ROWSB:Hid (wB.heap[(w.heap.size+1+1)]? = some (.cells #[.slice CN D.cells.length cn,.slice U5 S.shapes.length c5,.slice U6 S.texts.length c6,.slice (some ⟨tgb,0,none⟩) S.threads.length tg,.slice U7 S.ends.length c7,.slice U8 S.said.length c8,.int .i64 S.asked,.int .i64 S.steps] 40 (0,0))):=by
   rw[←hwB]
   exact(heap_setCell_same _ _ _ _ _ _ ROWSD.out).trans rfl
  have ROWRB:Hid (wB.heap[(w.heap.size+1+1+1)]? = some (.cells #[.slice none 0 0,.slice none 0 0,.slice none 0 0,.slice none 0 0,.slice none 0 0,.slice none 0 0,.int .i64 0,.int .i64 0] 40 (0,0))):=by rw[←hwB];exact(heap_setCell_other _ _ _ _ (by show(w.heap.size+1+1+1)≠(w.heap.size+1+1);omega)).trans ROWRD.out
  have LB:Hid (bO _ wB D (.slice CN D.cells.length cn) vv9 vs9 fs9):=aeE (LA.out.below STT.out.fix KD.out) ROWSD.out (fun k hk=>by rw[←hwB];exact heap_setCell_other _ _ _ _ hk) (by rw[←hwB];simp[World.setCell]) HBS.out
  have KB:Hid (Below w.heap.size w wB):=by rw[←hwB];exact(KA9.out.trans (KD.out.mono KA9.out.size)).setCell (by show w.heap.size≤(w.heap.size+1+1);omega) _
  clear hwB hbr hbs
  refine bP [13,14] _ _ (by kernel_rfl) (by kernel_rfl) ?_
  simp only[List.filterMap_cons,List.filterMap_nil,List.getElem?_toArray,List.getElem?_cons_zero,List.getElem?_cons_succ]
  have e7:=crZ ROWSB 7 rfl
  have z7:wB.frozen? ⟨(w.heap.size+1+1),7,none⟩=false:=frozen_of_row wB _ _ _ _ ROWSB.out
  go_upto_region 22 with fail
  generalize hwC:World.setCell _ _ _=wC
  have ROWSC:Hid (wC.heap[(w.heap.size+1+1)]? = some (.cells #[.slice CN D.cells.length cn,.slice U5 S.shapes.length c5,.slice U6 S.texts.length c6,.slice (some ⟨tgb,0,none⟩) S.threads.length tg,.slice U7 S.ends.length c7,.slice U8 S.said.length c8,.int .i64 S.asked,.int .i64 (S.steps+D.steps)] 40 (0,0))):=by
   rw[←hwC]
   exact(heap_setCell_same _ _ _ _ _ _ ROWSB.out).trans rfl
  have ROWRC:Hid (wC.heap[(w.heap.size+1+1+1)]? = some (.cells #[.slice none 0 0,.slice none 0 0,.slice none 0 0,.slice none 0 0,.slice none 0 0,.slice none 0 0,.int .i64 0,.int .i64 0] 40 (0,0))):=by rw[←hwC];exact(heap_setCell_other _ _ _ _ (by show(w.heap.size+1+1+1)≠(w.heap.size+1+1);omega)).trans ROWRB.out
  have LC:Hid (bO _ wC D (.slice CN D.cells.length cn) vv9 vs9 fs9):=aeE LB.out ROWSB.out (fun k hk=>by rw[←hwC];exact heap_setCell_other _ _ _ _ hk) (by rw[←hwC];simp[World.setCell]) HBS.out
  have KC:Hid (Below w.heap.size w wC):=by rw[←hwC];exact KB.out.setCell (by show w.heap.size≤(w.heap.size+1+1);omega) _
  clear hwC e7 z7
  (try dsimp only [Act.put])
  have RGS:=rrZ ROWSC
  go_wp2_with (first | (refine wpList_load_mid rfl 40 _ rfl (w.heap.size+1+1) 0 rfl [.slice CN D.cells.length cn,.slice U5 S.shapes.length c5,.slice U6 S.texts.length c6,.slice (some ⟨tgb,0,none⟩) S.threads.length tg,.slice U7 S.ends.length c7,.slice U8 S.said.length c8,.int .i64 S.asked,.int .i64 (S.steps+D.steps)] _ RGS.out Tryz.underlying40 rfl eC ?_) | (refine wpList_store_row rfl 40 _ _ rfl (w.heap.size+1+1+1) #[.slice CN D.cells.length cn,.slice U5 S.shapes.length c5,.slice U6 S.texts.length c6,.slice (some ⟨tgb,0,none⟩) S.threads.length tg,.slice U7 S.ends.length c7,.slice U8 S.said.length c8,.int .i64 S.asked,.int .i64 (S.steps+D.steps)] rfl rfl 40 _ ROWRC.out eC rfl (all_oneCell_toArray (by simp[Value.oneCell'])) ?_) | fail)
  generalize hwz:World.setRow _ _ _=wz
  have QR:=shZ hwz ROWRC
  have LZ:Hid (bO _ wz D (.slice CN D.cells.length cn) vv9 vs9 fs9):=aeE LC.out ROWRC.out (fun k hk=>by rw[←hwz];exact setRow_other _ _ _ _ hk) (by rw[←hwz];simp) HBR.out
  have KZ:Hid (Below w.heap.size w wz):=by rw[←hwz];exact Below.set_row KC.out (by omega) _
  clear hwz RGS
  go_wp2_with fail
  have r0:=crZ QR 0 rfl
  have r1:=crZ QR 1 rfl
  have r2:=crZ QR 2 rfl
  have r3:=crZ QR 3 rfl
  have r4:=crZ QR 4 rfl
  have r5:=crZ QR 5 rfl
  have r6:=crZ QR 6 rfl
  have r7:=crZ QR 7 rfl
  refine bodyPost_ret (v:=.tuple #[.agg ⟨[.slice CN D.cells.length cn,.slice U5 S.shapes.length c5,.slice U6 S.texts.length c6,.slice (some ⟨tgb,0,none⟩) S.threads.length tg,.slice U7 S.ends.length c7,.slice U8 S.said.length c8,.int .i64 S.asked,.int .i64 (S.steps+D.steps)]⟩,.int .i64 ex,.int .i64 dn,.int .i64 0]) (by simp[results,Tryz.results12,go_sem,r0,r1,r2,r3,r4,r5,r6,r7]) rfl ?_
  have hN:=HN.out
  subst hN
  exact⟨_,rfl,fun w2 g2 gz=>STT.out.out LZ.out (by unfold wfi;omega) g2 gz,KZ.out⟩
end
end Go.Proofs.YtjaphgpkkfdaaaaGreatDoor
