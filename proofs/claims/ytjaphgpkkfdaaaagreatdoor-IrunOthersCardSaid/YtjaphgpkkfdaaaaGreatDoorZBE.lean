/- Part of the walk of the given code: contracts of the functions that irun.Run reaches, and plain laws on what it reckons. -/
import Derived.Test.YtjaphgpkkfdaaaaGreatDoorZBD
import Derived.Test.YtjaphgpkkfdaaaaGreatDoorZT
import Derived.Test.YtjaphgpkkfdaaaaGreatDoorZR
import Derived.Test.YtjaphgpkkfdaaaaGreatDoorZQ
set_option maxHeartbeats 16000000
set_option maxRecDepth 100000
set_option linter.all false
namespace Go.Proofs.YtjaphgpkkfdaaaaGreatDoor
section
open Go.RowKit
section
variable {t:aN} {r:Nat}
theorem Lim.make {w:aI} (h:Lim t r w) (m:fZ):Lim t r (fP w m).1:=by
 unfold fP
 split
 ·exact h
 ·split
  ·exact h
  ·exact h.setCW _ _
theorem Lim.makes:∀(l:List fZ) (w:aI),Lim t r w→Lim t r (eK w l).1
 | [],_,h=>h
 | m::l,w,h=>by
  unfold eK
  split
  ·exact h.make m
  ·exact Lim.makes l _ (h.make m)
theorem Lim.sets:∀(l:List pS) (w:aI),Lim t r w→Lim t r (fN w l)
 | [],_,h=>h
 | s::l,w,h=>Lim.sets l _ (h.setReg s.reg.toNat (cX w s.val))
theorem Lim.end_ {w:aI} (h:Lim t r w) (x:cW):Lim t r (iG w x).1:=by
 unfold iG
 split
 ·exact Lim.makes _ _ h
 ·have h2:=Lim.sets x.sets _ (Lim.makes x.makes _ h)
  exact⟨h2.vals,h2.cells,h2.regs⟩
theorem Lim.turn (E:hV) (self:Val) (shapes:List aT) (fin:cW):∀(k i:Nat) (w:aI),Lim t r w→Lim t r (dM E t self shapes fin k i w).1
 | 0,_,w,h=>h.end_ fin
 | k+1,i,w,h=>by
  have hd:=h.do_ E self shapes i
  unfold dM
  split
  ·exact hd
  ·split
   ·split
    ·exact hd
    ·exact hd.end_ _
   ·exact Lim.turn E self shapes fin k (i+1) _ hd
end
theorem cT.cells6 {w:World} {B:Nat} {cs:List Value} {z:aN} (h:cT w B cs z):∃B1 m1 B2 m2 B3 m3 B4 m4 B5 m5 B6 m6,cs=[.int .i64 z.fn,.int .i64 z.at_,.int .i64 z.loop,.slice B1 z.ins.length m1,.slice B2 z.exits.length m2,.int .i64 z.turn.at_,.int .i64 z.turn.steps,.slice B3 z.turn.sets.length m3,.slice B4 z.turn.makes.length m4,.int .i64 z.back.at_,.int .i64 z.back.steps,.slice B5 z.back.sets.length m5,.slice B6 z.back.makes.length m6]∧
  gF w B [.int .i64 z.turn.at_,.int .i64 z.turn.steps,.slice B3 z.turn.sets.length m3,.slice B4 z.turn.makes.length m4] z.turn∧gF w B [.int .i64 z.back.at_,.int .i64 z.back.steps,.slice B5 z.back.sets.length m5,.slice B6 z.back.makes.length m6] z.back:=by
 obtain⟨i,e,ct,cb,rfl,⟨A1,n1,rfl,-⟩,⟨A2,n2,rfl,-⟩,h1,h2,-⟩:=h
 have g1:=h1
 have g2:=h2
 obtain⟨s1,k1,rfl,⟨A3,n3,rfl,-⟩,⟨A4,n4,rfl,-⟩,-⟩:=h1
 obtain⟨s2,k2,rfl,⟨A5,n5,rfl,-⟩,⟨A6,n6,rfl,-⟩,-⟩:=h2
 exact⟨A1,n1,A2,n2,A3,n3,A4,n4,A5,n5,A6,n6,rfl,g1,g2⟩
theorem tQ:(Tryz.prog.info? 32).map (·.size)=some 4:=by kernel_rfl
section
variable {Γ : kI} {w w':World} {W:aI} {cv vv:Value} {vs fs:List Value}
def RPost (Γ : kI) (r:aI×Int×Int×Int) (w:World) (e:Ending) (w':World):Prop:=e=.returned (.tuple #[.int .i64 r.2.1,.int .i64 r.2.2.1,.int .i64 r.2.2.2])∧(∃cv vv vs fs,bO Γ w' r.1 cv vv vs fs)∧aQ w w'
theorem run_c (K:hP Γ) (L:bO Γ w W cv vv vs fs) {R:Int} (F:sI R Γ.t) (hxo:jA Γ.t) (M:Lim Γ.t R.toNat W) {turns:Nat} (ht:turns≤1000) (hst:W.steps=0) :
  Calls Tryz.prog 30 #[.pointer (some ⟨Γ.wb,0,none⟩),.int .i64 (turns:Int)] w (RPost Γ (bQ cJ Γ.t Γ.self Γ.shapes turns 0 W) w):=by
 have HK:=hI K
 have HF:=hI F
 have HXO:=hI hxo
 have hlen:=F.len
 obtain⟨lp,hlp⟩:∃lp:Nat,Γ.t.loop=(lp:Int):=⟨Γ.t.loop.toNat,by have:=F.loop;omega⟩
 have hll:lp≤Γ.t.ins.length:=by have:=F.loop;omega
 have HLP:=hI hlp
 have HLL:=hI hll
 obtain⟨B1,m1,B2,m2,B3,m3,B4,m4,B5,m5,B6,m6,htcs,hxt,hxb⟩:=K.tr.cells6
 have HTCS:=hI htcs
 have HXT:=hI hxt
 have HXB:=hI hxb
 have HL0:=hI L
 have HS0:=hI hst
 obtain⟨r,hr⟩:∃r,bQ cJ Γ.t Γ.self Γ.shapes turns 0 W=r:=⟨_,rfl⟩
 rw[hr]
 have HR:=hI hr
 clear hr hlp htcs hxt hxb K F hxo L hst
 go_enter Tryz.func30,Tryz.ntmps30
 go_wp2_with fail
 go_loopw [5] (fun kk wr=>∃(d:Nat) (V:aI),kk=.int .i64 d∧d≤turns∧Hid (bQ cJ Γ.t Γ.self Γ.shapes (turns - d) d V=r)∧Hid (∃cv vv vs fs,bO Γ wr V cv vv vs fs)∧Hid (Lim Γ.t R.toNat V)∧Hid (0≤V.steps∧V.steps≤200*(d:Int))∧Hid (aQ w wr)) (fun kk _=>turns - (RowKit.intOf kk).toNat)
 case atStart=>exact⟨0,W,rfl,by omega,HR.out,⟨_,_,_,_,HL0.out⟩,M,by show _∧_;rw[HS0.out];omega,aQ.refl _⟩
 case round=>
  obtain⟨d,V,rfl,hd,HT,HL,HLM,HVS,KW⟩:=hrel
  obtain⟨cv2,vv2,vs2,fs2,L2⟩:=HL.out
  have LV:=hI L2
  clear L2 HL
  by_cases hlt:d<turns
  ·have hdi:(d:Int)<turns:=by omega
   go_upto_region 2 with fail
   have c2:∀E:Up wr,E.to.cell? ⟨Γ.wb,2,none⟩=some (.int .i64 lp):=fun E=>E.cell (by rw[LV.out.tr HK.out (by decide),HTCS.out,HLP.out];rfl)
   have c3:∀E:Up wr,E.to.cell? ⟨Γ.wb,3,none⟩=some (.slice B1 Γ.t.ins.length m1):=fun E=>E.cell (by rw[LV.out.tr HK.out (by decide),HTCS.out];rfl)
   have c9:∀E:Up wr,E.to.cell? ⟨Γ.wb,9,none⟩=some (.int .i64 Γ.t.back.at_):=fun E=>E.cell (by rw[LV.out.tr HK.out (by decide),HTCS.out];rfl)
   have c10:∀E:Up wr,E.to.cell? ⟨Γ.wb,10,none⟩=some (.int .i64 Γ.t.back.steps):=fun E=>E.cell (by rw[LV.out.tr HK.out (by decide),HTCS.out];rfl)
   have c11:∀E:Up wr,E.to.cell? ⟨Γ.wb,11,none⟩=some (.slice B5 Γ.t.back.sets.length m5):=fun E=>E.cell (by rw[LV.out.tr HK.out (by decide),HTCS.out];rfl)
   have c12:∀E:Up wr,E.to.cell? ⟨Γ.wb,12,none⟩=some (.slice B6 Γ.t.back.makes.length m6):=fun E=>E.cell (by rw[LV.out.tr HK.out (by decide),HTCS.out];rfl)
   refine cV (fun w'=>∃E:Up wr,w'=E.to) 16 [16,17,18,19] [16,17,18] (by kernel_rfl) (by decide) (by kernel_rfl) (fun _ _ d _ _ h=>by cases d <;> exact h) ⟨⟨_,(Below.refl _ wr).drew⟩,rfl⟩ ?_
   simp only[List.take_succ_cons,List.take_zero]
   generalize hqq:(fun a'=>gA _ _ _ _ _ _ a' _)=qq
   have HQQ:=hI hqq
   clear hqq
   repeat (go_big_quiet_step (fail))
   refine wpQuiet_nil ?_
   rw[←HQQ.out]
   clear HQQ qq c2 c3 c9 c10 c11 c12
   refine bA rfl (fun K hK=>?_)
   go_simp
   obtain⟨wa,hwa⟩:∃wa,wa=(wr.alloc (.cells #[.int .i64 0,.int .i64 0,.slice none 0 0,.slice none 0 0] 32)).drew:=⟨_,rfl⟩
   have KA:Hid (Below wr.heap.size wr wa):=by rw[hwa];exact((Below.refl _ wr).alloc (Nat.le_refl _) _).drew
   have ROWA:Hid (wa.heap[wr.heap.size]? = some (.cells #[.int .i64 0,.int .i64 0,.slice none 0 0,.slice none 0 0] 32 (0,0))):=by rw[hwa];exact aJ wr _
   have hsz3:wr.drew.heap.size=wr.heap.size:=rfl
   (try rw[hsz3])
   obtain⟨eb,heb⟩:∃o,o=wr.heap.size:=⟨_,rfl⟩
   have HEB:=hI heb
   rw[←hwa]
   rw[←heb] at ROWA
   rw[←heb]
   clear hwa heb hsz3
   refine hK _ _ (fun _=>⟨⟨wa,KA.out⟩,rfl⟩) ?_
   clear hK K
   refine bA rfl (fun K hK=>?_)
   go_simp
   refine hK _ _ (fun _=>⟨⟨wa,KA.out⟩,rfl⟩) ?_
   clear hK K
   refine bA rfl (fun K hK=>?_)
   go_simp
   refine hK _ _ (fun _=>⟨⟨wa,KA.out⟩,rfl⟩) ?_
   clear hK K
   refine bP [19] _ _ (by kernel_rfl) (by kernel_rfl) ?_
   simp only[List.filterMap_cons,List.filterMap_nil,List.getElem?_toArray,List.getElem?_cons_zero,List.getElem?_cons_succ]
   refine wpList_store_row rfl 32 _ _ rfl eb #[.int .i64 Γ.t.back.at_,.int .i64 Γ.t.back.steps,.slice B5 Γ.t.back.sets.length m5,.slice B6 Γ.t.back.makes.length m6] rfl rfl 32 _ ROWA.out tQ rfl (all_oneCell_toArray (by simp[Value.oneCell'])) ?_
   generalize hw4:World.setRow _ _ _=w4
   have K4:Hid (Below wr.heap.size wr w4):=by rw[←hw4];exact Below.set_row KA.out (by rw[HEB.out];exact Nat.le_refl _) _
   have ROW4:=shZ hw4 ROWA
   clear hw4
   (try dsimp only [Act.put])
   have l2:w4.cell? ⟨Γ.wb,2,none⟩=some (.int .i64 lp):=aC K4.out (by rw[LV.out.tr HK.out (by decide),HTCS.out,HLP.out];rfl)
   by_cases hd0:d=0
   ·subst hd0
    by_cases hl0:0<lp
    ·have hl0i:(0:Int)<(lp:Int):=by omega
     go_upto_region 4 with fail
     have c2:=ecZ l2
     have c5:∀E:Up w4,E.to.cell? ⟨Γ.wb,5,none⟩=some (.int .i64 Γ.t.turn.at_):=fun E=>E.cell (aC K4.out (by rw[LV.out.tr HK.out (by decide),HTCS.out];rfl))
     have c6:∀E:Up w4,E.to.cell? ⟨Γ.wb,6,none⟩=some (.int .i64 Γ.t.turn.steps):=fun E=>E.cell (aC K4.out (by rw[LV.out.tr HK.out (by decide),HTCS.out];rfl))
     have c7:∀E:Up w4,E.to.cell? ⟨Γ.wb,7,none⟩=some (.slice B3 Γ.t.turn.sets.length m3):=fun E=>E.cell (aC K4.out (by rw[LV.out.tr HK.out (by decide),HTCS.out];rfl))
     have c8:∀E:Up w4,E.to.cell? ⟨Γ.wb,8,none⟩=some (.slice B4 Γ.t.turn.makes.length m4):=fun E=>E.cell (aC K4.out (by rw[LV.out.tr HK.out (by decide),HTCS.out];rfl))
     refine cV (fun w'=>∃E:Up w4,w'=E.to) 10 [10,11,12] [10,11] (by kernel_rfl) (by decide) (by kernel_rfl) (fun _ _ d _ _ h=>by cases d <;> exact h) ⟨⟨_,(Below.refl _ w4).drew⟩,rfl⟩ ?_
     simp only[List.take_succ_cons,List.take_zero]
     generalize hqq:(fun a'=>gA _ _ _ _ _ _ a' _)=qq
     have HQQ:=hI hqq
     clear hqq
     repeat (go_big_quiet_step (fail))
     refine wpQuiet_nil ?_
     rw[←HQQ.out]
     clear HQQ qq c2 c5 c6 c7 c8 l2
     obtain⟨wd,hwd⟩:∃wd,wd=w4.drew:=⟨_,rfl⟩
     have KD:Hid (Below w4.heap.size w4 wd):=by rw[hwd];exact(Below.refl _ w4).drew
     have ROWD:Hid (wd.heap[eb]? = some (.cells #[.int .i64 Γ.t.back.at_,.int .i64 Γ.t.back.steps,.slice B5 Γ.t.back.sets.length m5,.slice B6 Γ.t.back.makes.length m6] 32 (0,0))):=by rw[hwd];exact ROW4.out
     rw[←hwd]
     clear hwd
     refine bA rfl (fun K hK=>?_)
     go_simp
     refine hK _ _ (fun _=>⟨⟨wd,KD.out⟩,rfl⟩) ?_
     clear hK K
     refine bA rfl (fun K hK=>?_)
     go_simp
     refine hK _ _ (fun _=>⟨⟨wd,KD.out⟩,rfl⟩) ?_
     clear hK K
     refine bP [12] _ _ (by kernel_rfl) (by kernel_rfl) ?_
     simp only[List.filterMap_cons,List.filterMap_nil,List.getElem?_toArray,List.getElem?_cons_zero,List.getElem?_cons_succ]
     refine wpList_store_row rfl 32 _ _ rfl eb #[.int .i64 Γ.t.turn.at_,.int .i64 Γ.t.turn.steps,.slice B3 Γ.t.turn.sets.length m3,.slice B4 Γ.t.turn.makes.length m4] rfl rfl 32 _ ROWD.out tQ rfl (all_oneCell_toArray (by simp[Value.oneCell'])) ?_
     generalize hw5:World.setRow _ _ _=w5
     have K5:Hid (Below wr.heap.size wr w5):=by rw[←hw5];exact Below.set_row (K4.out.trans (KD.out.mono K4.out.size)) (by rw[HEB.out];exact Nat.le_refl _) _
     have ROW5:=shZ hw5 ROWD
     clear hw5
     (try dsimp only [Act.put])
     go_upto_region 5 with fail
     have o0:=crZ ROW5 0 rfl
     have o1:=crZ ROW5 1 rfl
     have o2:=crZ ROW5 2 rfl
     have o3:=crZ ROW5 3 rfl
     have L5:=hI (LV.out.below HK.out K5.out)
     have TC:=wW HK.out L5.out HF.out HXO.out (from_:=0) (to_:=lp) (Nat.zero_le _) HLL.out HXT.out (by have h:=HF.out.turn (by rw[HLP.out];omega);rw[HLP.out,Int.toNat_natCast] at h;exact h) HLM.out (by have h1:=HVS.out;omega)
     obtain⟨D,ex,how,hD⟩:∃D ex how,dM cJ Γ.t Γ.self Γ.shapes Γ.t.turn (lp - 0) 0 V=(D,ex,how):=⟨_,_,_,rfl⟩
     have TF:=iB cJ HXO.out Γ.self Γ.shapes Γ.t.turn (lp - 0) 0 V (by omega)
     have TL:=Lim.turn cJ Γ.self Γ.shapes Γ.t.turn (lp - 0) 0 V HLM.out
     rw[hD] at TC TF TL
     unfold zU at TC
     dsimp only at TC TF TL
     have HT2:Hid ((if how=2∨0≤ex then(D,ex,((0:Nat):Int),how) else bQ cJ Γ.t Γ.self Γ.shapes (turns - (0+1)) (0+1) D)=r):=by
      have h:=HT.out
      rw[show turns - 0=(turns - (0+1))+1 by omega,bQ] at h
      have ho:dN cJ Γ.t Γ.self Γ.shapes 0 V=(D,ex,how):=by
       rw[←hD];unfold dN;rw[if_pos ⟨rfl,by rw[HLP.out];omega⟩,HLP.out,Int.toNat_natCast,Nat.sub_zero]
      rw[ho] at h
      exact h
     have HTC:=hI TC
     have HTF:=hI TF
     have HTL:=hI TL
     have HEF:=hI ((by have h:=HF.out.turn (by rw[HLP.out];omega);rw[HLP.out,Int.toNat_natCast] at h;exact h))
     clear TC TF TL hD HT
     go_wp2_with fail
     refine HTC.out.mono ?_
     rintro e w6 ⟨rfl,⟨cv6,vv6,vs6,fs6,L6⟩,K6⟩
     have LD:=hI L6
     have KW6:Hid (aQ w w6):=KW.out.trans ((aQ.of K5.out).trans K6)
     clear L6 K6 o0 o1 o2 o3
     by_cases h2:how=2
     ·have HN:Hid ((D,ex,((0:Nat):Int),how)=r):=by have h:=HT2.out;rw[if_pos (.inl h2)] at h;exact h
      rw[h2] at HN ⊢
      clear h2
      go_wp2_with fail
      refine bodyPost_ret (v:=.tuple #[.int .i64 ex,.int .i64 0,.int .i64 2]) (by simp[results,Tryz.results30,go_sem]) rfl ?_
      have hN:=HN.out
      subst hN
      exact⟨rfl,⟨_,_,_,_,LD.out⟩,KW6.out⟩
     ·obtain⟨fx,hfx,hw0,-,hst,-⟩:=HTF.out h2
      subst hw0
      clear h2
      rcases hfx with ⟨hm1,hfe⟩ | ⟨h0,-,-⟩
      ·subst hm1
       have HN:Hid (bQ cJ Γ.t Γ.self Γ.shapes (turns - (0+1)) (0+1) D=r):=by have h:=HT2.out;rw[if_neg (by decide)] at h;exact h
       have HDS:Hid (0≤D.steps∧D.steps≤200*((0+1:Nat):Int)):=by
        show _∧_
        have h1:=HVS.out
        have h3:=HEF.out.steps
        rw[hst,hfe];omega
       clear hst hfe
       go_wp2_with fail
       go_roundw
       case rel=>exact⟨0+1,D,by go_num,by omega,HN.out,⟨_,_,_,_,LD.out⟩,HTL.out,HDS.out,KW6.out⟩
       case measure=>simp[RowKit.intOf];omega
      ·have HN:Hid ((D,ex,((0:Nat):Int),(0:Int))=r):=by have h:=HT2.out;rw[if_pos (.inr h0)] at h;exact h
       clear hst
       go_wp2_with fail
       refine bodyPost_ret (v:=.tuple #[.int .i64 ex,.int .i64 0,.int .i64 0]) (by simp[results,Tryz.results30,go_sem]) rfl ?_
       have hN:=HN.out
       subst hN
       exact⟨rfl,⟨_,_,_,_,LD.out⟩,KW6.out⟩
    ·have hl0i:¬(0:Int)<(lp:Int):=by omega
     go_upto_region 5 with fail
     obtain⟨w5,hw5⟩:∃w5,w5=w4:=⟨_,rfl⟩
     subst hw5
     have K5:=K4
     have ROW5:=ROW4
     clear l2
     have o0:=crZ ROW5 0 rfl
     have o1:=crZ ROW5 1 rfl
     have o2:=crZ ROW5 2 rfl
     have o3:=crZ ROW5 3 rfl
     have L5:=hI (LV.out.below HK.out K5.out)
     have TC:=wW HK.out L5.out HF.out HXO.out (from_:=lp) (to_:=Γ.t.ins.length) HLL.out (Nat.le_refl _) HXB.out HF.out.back HLM.out (by have h1:=HVS.out;omega)
     obtain⟨D,ex,how,hD⟩:∃D ex how,dM cJ Γ.t Γ.self Γ.shapes Γ.t.back (Γ.t.ins.length - lp) lp V=(D,ex,how):=⟨_,_,_,rfl⟩
     have TF:=iB cJ HXO.out Γ.self Γ.shapes Γ.t.back (Γ.t.ins.length - lp) lp V (by omega)
     have TL:=Lim.turn cJ Γ.self Γ.shapes Γ.t.back (Γ.t.ins.length - lp) lp V HLM.out
     rw[hD] at TC TF TL
     unfold zU at TC
     dsimp only at TC TF TL
     have HT2:Hid ((if how=2∨0≤ex then(D,ex,((0:Nat):Int),how) else bQ cJ Γ.t Γ.self Γ.shapes (turns - (0+1)) (0+1) D)=r):=by
      have h:=HT.out
      rw[show turns - 0=(turns - (0+1))+1 by omega,bQ] at h
      have ho:dN cJ Γ.t Γ.self Γ.shapes 0 V=(D,ex,how):=by
       rw[←hD];unfold dN;rw[if_neg (fun h=>hl0 (by have h2:=h.2;rw[HLP.out] at h2;omega)),HLP.out,Int.toNat_natCast]
      rw[ho] at h
      exact h
     have HTC:=hI TC
     have HTF:=hI TF
     have HTL:=hI TL
     have HEF:=hI (HF.out.back)
     clear TC TF TL hD HT
     go_wp2_with fail
     refine HTC.out.mono ?_
     rintro e w6 ⟨rfl,⟨cv6,vv6,vs6,fs6,L6⟩,K6⟩
     have LD:=hI L6
     have KW6:Hid (aQ w w6):=KW.out.trans ((aQ.of K5.out).trans K6)
     clear L6 K6 o0 o1 o2 o3
     by_cases h2:how=2
     ·have HN:Hid ((D,ex,((0:Nat):Int),how)=r):=by have h:=HT2.out;rw[if_pos (.inl h2)] at h;exact h
      rw[h2] at HN ⊢
      clear h2
      go_wp2_with fail
      refine bodyPost_ret (v:=.tuple #[.int .i64 ex,.int .i64 0,.int .i64 2]) (by simp[results,Tryz.results30,go_sem]) rfl ?_
      have hN:=HN.out
      subst hN
      exact⟨rfl,⟨_,_,_,_,LD.out⟩,KW6.out⟩
     ·obtain⟨fx,hfx,hw0,-,hst,-⟩:=HTF.out h2
      subst hw0
      clear h2
      rcases hfx with ⟨hm1,hfe⟩ | ⟨h0,-,-⟩
      ·subst hm1
       have HN:Hid (bQ cJ Γ.t Γ.self Γ.shapes (turns - (0+1)) (0+1) D=r):=by have h:=HT2.out;rw[if_neg (by decide)] at h;exact h
       have HDS:Hid (0≤D.steps∧D.steps≤200*((0+1:Nat):Int)):=by
        show _∧_
        have h1:=HVS.out
        have h3:=HEF.out.steps
        rw[hst,hfe];omega
       clear hst hfe
       go_wp2_with fail
       go_roundw
       case rel=>exact⟨0+1,D,by go_num,by omega,HN.out,⟨_,_,_,_,LD.out⟩,HTL.out,HDS.out,KW6.out⟩
       case measure=>simp[RowKit.intOf];omega
      ·have HN:Hid ((D,ex,((0:Nat):Int),(0:Int))=r):=by have h:=HT2.out;rw[if_pos (.inr h0)] at h;exact h
       clear hst
       go_wp2_with fail
       refine bodyPost_ret (v:=.tuple #[.int .i64 ex,.int .i64 0,.int .i64 0]) (by simp[results,Tryz.results30,go_sem]) rfl ?_
       have hN:=HN.out
       subst hN
       exact⟨rfl,⟨_,_,_,_,LD.out⟩,KW6.out⟩
   ·have hd0i:((d:Int) == 0)=false:=by simpa using hd0
    go_upto_region 5 with fail
    obtain⟨w5,hw5⟩:∃w5,w5=w4:=⟨_,rfl⟩
    subst hw5
    have K5:=K4
    have ROW5:=ROW4
    clear l2
    have o0:=crZ ROW5 0 rfl
    have o1:=crZ ROW5 1 rfl
    have o2:=crZ ROW5 2 rfl
    have o3:=crZ ROW5 3 rfl
    have L5:=hI (LV.out.below HK.out K5.out)
    have TC:=wW HK.out L5.out HF.out HXO.out (from_:=lp) (to_:=Γ.t.ins.length) HLL.out (Nat.le_refl _) HXB.out HF.out.back HLM.out (by have h1:=HVS.out;omega)
    obtain⟨D,ex,how,hD⟩:∃D ex how,dM cJ Γ.t Γ.self Γ.shapes Γ.t.back (Γ.t.ins.length - lp) lp V=(D,ex,how):=⟨_,_,_,rfl⟩
    have TF:=iB cJ HXO.out Γ.self Γ.shapes Γ.t.back (Γ.t.ins.length - lp) lp V (by omega)
    have TL:=Lim.turn cJ Γ.self Γ.shapes Γ.t.back (Γ.t.ins.length - lp) lp V HLM.out
    rw[hD] at TC TF TL
    unfold zU at TC
    dsimp only at TC TF TL
    have HT2:Hid ((if how=2∨0≤ex then(D,ex,((d:Nat):Int),how) else bQ cJ Γ.t Γ.self Γ.shapes (turns - (d+1)) (d+1) D)=r):=by
     have h:=HT.out
     rw[show turns - d=(turns - (d+1))+1 by omega,bQ] at h
     have ho:dN cJ Γ.t Γ.self Γ.shapes d V=(D,ex,how):=by
      rw[←hD];unfold dN;rw[if_neg (fun h=>hd0 h.1),HLP.out,Int.toNat_natCast]
     rw[ho] at h
     exact h
    have HTC:=hI TC
    have HTF:=hI TF
    have HTL:=hI TL
    have HEF:=hI (HF.out.back)
    clear TC TF TL hD HT
    go_wp2_with fail
    refine HTC.out.mono ?_
    rintro e w6 ⟨rfl,⟨cv6,vv6,vs6,fs6,L6⟩,K6⟩
    have LD:=hI L6
    have KW6:Hid (aQ w w6):=KW.out.trans ((aQ.of K5.out).trans K6)
    clear L6 K6 o0 o1 o2 o3
    by_cases h2:how=2
    ·have HN:Hid ((D,ex,((d:Nat):Int),how)=r):=by have h:=HT2.out;rw[if_pos (.inl h2)] at h;exact h
     rw[h2] at HN ⊢
     clear h2
     go_wp2_with fail
     refine bodyPost_ret (v:=.tuple #[.int .i64 ex,.int .i64 d,.int .i64 2]) (by simp[results,Tryz.results30,go_sem]) rfl ?_
     have hN:=HN.out
     subst hN
     exact⟨rfl,⟨_,_,_,_,LD.out⟩,KW6.out⟩
    ·obtain⟨fx,hfx,hw0,-,hst,-⟩:=HTF.out h2
     subst hw0
     clear h2
     rcases hfx with ⟨hm1,hfe⟩ | ⟨h0,-,-⟩
     ·subst hm1
      have HN:Hid (bQ cJ Γ.t Γ.self Γ.shapes (turns - (d+1)) (d+1) D=r):=by have h:=HT2.out;rw[if_neg (by decide)] at h;exact h
      have HDS:Hid (0≤D.steps∧D.steps≤200*((d+1:Nat):Int)):=by
       show _∧_
       have h1:=HVS.out
       have h3:=HEF.out.steps
       rw[hst,hfe];omega
      clear hst hfe
      go_wp2_with fail
      go_roundw
      case rel=>exact⟨d+1,D,by go_num,by omega,HN.out,⟨_,_,_,_,LD.out⟩,HTL.out,HDS.out,KW6.out⟩
      case measure=>simp[RowKit.intOf];omega
     ·have HN:Hid ((D,ex,((d:Nat):Int),(0:Int))=r):=by have h:=HT2.out;rw[if_pos (.inr h0)] at h;exact h
      clear hst
      go_wp2_with fail
      refine bodyPost_ret (v:=.tuple #[.int .i64 ex,.int .i64 d,.int .i64 0]) (by simp[results,Tryz.results30,go_sem]) rfl ?_
      have hN:=HN.out
      subst hN
      exact⟨rfl,⟨_,_,_,_,LD.out⟩,KW6.out⟩
  ·obtain rfl:d=turns:=by omega
   have hnd:¬(d:Int)<d:=by omega
   have HN:Hid ((V,(-1:Int),(d:Int),(0:Int))=r):=by
    have h:=HT.out
    rw[Nat.sub_self] at h
    exact h
   clear HT
   go_wp2_with fail
   refine bodyPost_ret (v:=.tuple #[.int .i64 (-1),.int .i64 d,.int .i64 0]) (by simp[results,Tryz.results30,go_sem]) rfl ?_
   have hN:=HN.out
   subst hN
   exact⟨rfl,⟨_,_,_,_,LV.out⟩,KW.out⟩
end
end
section
open Go.RowKit
theorem gU (w:World):gK w w.heap.size [.slice none 0 0,.slice none 0 0,.slice none 0 0,.slice none 0 0,.slice none 0 0,.slice none 0 0,.int .i64 0,.int .i64 0] dL:=
 ⟨_,_,_,_,_,_,rfl,aH.nil _ _ _ _,aH.nil _ _ _ _,aH.nil _ _ _ _,aH.nil _ _ _ _,aH.nil _ _ _ _,aH.nil _ _ _ _,⟨by simp[dL],by simp[dL]⟩,⟨by simp[dL],by simp[dL]⟩⟩
theorem xZ (w:World) (a b c d:Obj):((((w.alloc a).alloc b).alloc c).alloc d).heap[w.heap.size]? = some a∧((((w.alloc a).alloc b).alloc c).alloc d).heap[w.heap.size+1]? = some b∧((((w.alloc a).alloc b).alloc c).alloc d).heap[w.heap.size+1+1]? = some c∧((((w.alloc a).alloc b).alloc c).alloc d).heap[w.heap.size+1+1+1]? = some d∧((((w.alloc a).alloc b).alloc c).alloc d).heap.size=w.heap.size+4:=by
 refine⟨aY (aY (aY (aJ _ _) _) _) _,?_,?_,?_,?_⟩
 ·have h:=aJ (w.alloc a) b
  rw[World.size_alloc] at h
  exact aY (aY h _) _
 ·have h:=aJ ((w.alloc a).alloc b) c
  rw[World.size_alloc,World.size_alloc] at h
  exact aY h _
 ·have h:=aJ (((w.alloc a).alloc b).alloc c) d
  rw[World.size_alloc,World.size_alloc,World.size_alloc] at h
  exact h
 ·rw[World.size_alloc,World.size_alloc,World.size_alloc,World.size_alloc]
theorem eH.kept {w w':World} {lo hi B:Nat} {fv:Value} {l:List a8} {rs ts:List Value} (h:eH w lo hi fv l rs ts) (hB:B≤lo) (hk:∀b,B≤b→b<w.heap.size→w'.heap[b]? = w.heap[b]?):eH w' lo hi fv l rs ts:=
 ⟨⟨h.at_.lr,h.at_.lt,fG h.at_.row (fun g hg=>hk g (Nat.le_trans hB (h.at_.row.lt g hg).1) (h.at_.row.lt g hg).2),fun i r f hr hf=>fG (h.at_.regs i r f hr hf) (fun g hg=>hk g (Nat.le_trans hB ((h.at_.regs i r f hr hf).lt g hg).1) ((h.at_.regs i r f hr hf).lt g hg).2),
  fun i r f hr hf=>fG (h.at_.tries i r f hr hf) (fun g hg=>hk g (Nat.le_trans hB ((h.at_.tries i r f hr hf).lt g hg).1) ((h.at_.tries i r f hr hf).lt g hg).2),h.at_.nodup,h.at_.wf⟩,h.fb,h.rb,h.tb⟩
theorem sL.kept {w w':World} {B:Nat} {cs:List Value} {S:aR} {co lo:Nat→Nat} {cv thv:Value} {rows trows:List (List Value)} {shv txv env sav:Value} (h:sL w B cs S co lo cv thv rows trows shv txv env sav) (hk:∀b,B≤b→b<w.heap.size→w'.heap[b]? = w.heap[b]?) (hs:w'.heap.size=w.heap.size) :
  sL w' B cs S co lo cv thv rows trows shv txv env sav:=by
 have hc:∀i,B≤co i:=fun i=>Nat.le_trans h.cb (dK h.cmono (Nat.zero_le i))
 have hl:∀i,B≤lo i:=fun i=>Nat.le_trans (hc S.cells.length) (Nat.le_trans h.tco (dK h.tmono (Nat.zero_le i)))
 have hq:∀ {α : Type} {size:Nat} {R:List Value→α→Prop} {v:Value} {xs:List α},bK w (fun b=>lo S.threads.length≤b∧b<w.heap.size) size R v xs→bK w' (fun b=>lo S.threads.length≤b∧b<w'.heap.size) size R v xs:=fun {α size R v xs} g=>
  g.far (fun b hb=>⟨hb.1,by rw[hs];exact hb.2⟩) (fun b hb=>hk b (Nat.le_trans (hl _) hb.1) hb.2)
 exact { h with
  crow:=fG h.crow (fun g hg=>hk g (h.crow.lt g hg).1 (h.crow.lt g hg).2)
  cpart:=fun i c hi=>by
   obtain⟨v,f,h1,m,rs,ts,h2,h3,h4,h5,h6⟩:=h.cpart i c hi
   exact⟨v,f,h1,m,rs,ts,h2,h3,fG h4 (fun g hg=>hk g (Nat.le_trans (hc i) (h4.lt g hg).1) (h4.lt g hg).2),h5,h6.kept (Nat.le_trans (hc i) h2) hk⟩
  trow:=fG h.trow (fun g hg=>hk g (Nat.le_trans (hc _) (h.trow.lt g hg).1) (h.trow.lt g hg).2)
  tpart:=fun i x hi=>by
   obtain⟨f,h1,rs,ts,h2⟩:=h.tpart i x hi
   exact⟨f,h1,rs,ts,h2.kept (hl i) hk⟩
  lend:=fun i=>by rw[hs];exact h.lend i
  shapes:=hq h.shapes
  texts:=hq h.texts
  ends:=hq h.ends
  said:=hq h.said }
theorem acZ:(Tryz.prog.info? 48).map (fun i=>(i.zero,i.size,i.bytes))=some (some (.agg #[.int .i64 0,.int .i64 0]),2,16):=by kernel_rfl
theorem acO (n:Nat):madeCells #[.int .i64 0,.int .i64 0] (n*2)=⟨(List.replicate n (⟨0,0⟩:Val)).flatMap aZ⟩:=by
 have e1:∀n:Nat,(List.replicate n (⟨0,0⟩:Val)).flatMap aZ=List.replicate (n*2) (Value.int .i64 0):=fun n=>by
  induction n with
  | zero=>rfl
  | succ n ih=>
   rw[List.replicate_succ,List.flatMap_cons,ih,show(n+1)*2=n*2+1+1 by omega,List.replicate_succ,List.replicate_succ]
   rfl
 rw[e1]
 apply Array.toList_inj.1
 apply List.ext_getElem
 ·simp[madeCells]
 ·intro i h1 h2
  rcases Nat.mod_two_eq_zero_or_one i with h | h <;> simp[madeCells,h]
theorem mk_vals (n:Nat) (hn:n≤600) (W:World):(Instr.makeSlice 23 (.int .i64 (n:Int)) (.int .i64 (n:Int))).run Tryz.prog W=.ok (.slice (some ⟨W.heap.size,0,none⟩) n n) (W.alloc (.cells ⟨(List.replicate n (⟨0,0⟩:Val)).flatMap aZ⟩ 48)):=by
 obtain⟨i0,hi,hz0,hz1,hz2⟩:=info_parts acZ
 have h:=run_make (P:=Tryz.prog) W 23 48 i0 (.agg #[.int .i64 0,.int .i64 0]) Tryz.underlying23 hi hz0 .i64 .i64 n n (by omega) (Int.le_refl _) (by rw[hz2];omega) (by omega)
 rw[Int.toNat_natCast,hz1] at h
 rw[h,show(Value.agg #[.int .i64 0,.int .i64 0]).cells=#[.int .i64 0,.int .i64 0] from rfl,acO]
theorem oQ {R:Val→Bool} {p:aW} {S:aR} {W:List ByteArray} {cc:Int} (h:dG R p S W cc=0):(0≤S.steps∧S.steps≤1000000000)∧∀x∈S.threads,∀f∈x.frames,dB R p S f=true:=by
 unfold dG at h
 split at h
 ·exact absurd h (by assumption)
 split at h
 ·exact absurd h (by assumption)
 split at h
 ·exact absurd h (by decide)
 split at h
 case isFalse=>exact absurd h (by decide)
 rename_i c2
 unfold mF at c2
 split at c2
 ·cases c2
 rename_i c3
 split at c2
 ·cases c2
 split at c2
 ·cases c2
 rename_i g e
 simp only[Bool.or_eq_true,Bool.not_eq_true',not_or,Bool.not_eq_false,aK,Bool.and_eq_true,decide_eq_true_eq] at c3
 exact⟨c3.1.1.2,fun x hx f hf=>iW _ _ _ e x hx f hf⟩
theorem xY {R:Val→Bool} {p:aW} {S:aR} {f:a8} (h:dB R p S f=true):(f.regs.length:Int)=(gD p f.fn).regs:=by
 unfold dB at h
 simp only[Bool.and_eq_true,decide_eq_true_eq] at h
 exact h.1.1.1.1.2
theorem aa3 {w:World} {B:Nat} {cs:List Value} {p:aW} (hp:eL w B cs p) (hc:bH p=0):∀g∈p.fns,iP g.code:=fun g hg=>by
 obtain⟨-,hfs⟩:=iO hc
 obtain⟨A,n,C,m,D,k,-,hf,-⟩:=hp
 obtain⟨cs,hR⟩:=hf.mem hg
 obtain⟨A',n',C',m',-,-,h2,-⟩:=hR
 exact wE (hfs g hg).1 h2
theorem qY {t:aN} (hT:t.turn.steps≤200∨t.loop≤0) (hB:t.back.steps≤200):∀(k done:Nat),dA t done k≤200*(k:Int)
 | 0,_=>by simp[dA]
 | k+1,done=>by
  have:=qY hT hB k (done+1)
  have h2:(jV t done).steps≤200:=by
   unfold jV
   split
   ·rename_i c
    rcases hT with h | h
    ·exact h
    ·omega
   ·exact hB
  simp only[dA];omega
theorem wK {aG:Val→Bool} {ce:Int} {fns:List FnM} {t:aN} (h:fA aG ce fns t=0):(t.turn.steps≤200∨t.loop≤0)∧t.back.steps≤200∧∀e∈t.exits,e.steps≤200:=by
 obtain⟨-,-,fn,-,-,hl,-,-,ht1,hb,hx⟩:=gZ h
 have hr:∀(e:cW) (k:Int),bR fn t.ins e k=true→e.steps≤200:=fun e k h=>by
  simp only[bR,Bool.and_eq_true,Bool.not_eq_true',Bool.or_eq_false_iff,decide_eq_false_iff_not] at h
  omega
 refine⟨?_,hr _ _ hb.2,fun e he=>hr _ _ (List.all_eq_true.1 hx e he)⟩
 rcases Int.lt_or_le 0 t.loop with c | c
 ·exact .inl (hr _ _ (ht1 c).2)
 ·exact .inr c
theorem aaN {aG:Val→Bool} {ce:Int} {fns:List FnM} {t:aN} (h:fA aG ce fns t=0) (E:hV) (self:Val) (shapes:List aT) {turns:Nat} (hT:turns≤1000) {W:aI} (h0:W.steps=0) (hw:(bQ E t self shapes turns 0 W).2.2.2≠2) :
  (bQ E t self shapes turns 0 W).2.2.2=0∧0≤(bQ E t self shapes turns 0 W).1.steps∧(bQ E t self shapes turns 0 W).1.steps≤1000000:=by
 obtain⟨fn,-,-,hf⟩:=yK h
 obtain⟨c1,c2,c3⟩:=wK h
 obtain⟨r1,-,m,-,r2⟩:=pB E (qI h) (adR h) self shapes turns 0 W hw
 have hp:=l7 hf m 0
 have hq:=qY c1 c2 m 0
 refine⟨r1,?_⟩
 rcases r2 with ⟨-,hm,hs,-⟩ | ⟨x,hm,-,-,hx,hs,-⟩
 ·rw[hs];omega
 ·have h1:=c3 x (List.mem_of_getElem? hx)
  have h2:=(hf.all x (List.mem_of_getElem? hx)).1
  rw[hs];omega
section
variable {Γ : kI} {w w':World} {W:aI} {cv vv:Value} {vs fs:List Value}
theorem aeE (L:bO Γ w W cv vv vs fs) {g:Nat} {cs:Array Value} (hg:w.heap[g]? = some (.cells cs 40 (0,0))) (hk:∀k,k≠g→w'.heap[k]? = w.heap[k]?) (hs:w'.heap.size=w.heap.size) (hq:¬ Γ.Q g):bO Γ w' W cv vv vs fs:=by
 obtain⟨cf,hf⟩:=L.frow
 have rfar:∀ {B n size:Nat} {e:TypeId} {v:Value} {xs:List Value},w.ownsRow B e size v n xs→e≠40→w'.ownsRow B e size v n xs:=fun {B n size e v xs} h hne=>
  fG h (fun k hk'=>hk k (by obtain⟨cs',h'⟩:=aX h hk';exact bJ h' hg hne))
 have h2:=hk Γ.fb (bJ hf hg (by decide))
 exact { L with
  row:=(hk Γ.wb (bJ L.row hg (by decide))).trans L.row
  frow:=⟨cf,h2.trans hf⟩
  fat:=(World.cell?_of_block h2).trans L.fat
  frest:=fun k hk=>(World.cell?_of_block h2).trans (L.frest k hk)
  crow:=rfar L.crow (by decide)
  vals:=rfar L.vals (by decide)
  regs:=rfar L.regs (by decide)
  cvals:=fun i v c hv hc=>rfar (L.cvals i v c hv hc) (by decide)
  fixed:=fun b hb=>(hk b (fun e=>hq (e ▸ hb))).trans (L.fixed b hb)
  size:=by rw[hs];exact L.size }
end
end
end Go.Proofs.YtjaphgpkkfdaaaaGreatDoor
