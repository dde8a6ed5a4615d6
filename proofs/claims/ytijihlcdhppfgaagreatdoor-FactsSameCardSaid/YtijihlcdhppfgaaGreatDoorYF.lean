/- Part of the walk of the given code: contracts, and plain laws. -/
import Derived.Test.YtijihlcdhppfgaaGreatDoorYE
import Derived.Test.YtijihlcdhppfgaaGreatDoorZN
import Derived.Test.YtijihlcdhppfgaaGreatDoorZCH
import Derived.Test.YtijihlcdhppfgaaGreatDoorZCJ
import Derived.Test.YtijihlcdhppfgaaGreatDoorZBA
import Derived.Test.YtijihlcdhppfgaaGreatDoorZCB
import Derived.Test.YtijihlcdhppfgaaGreatDoorYR
set_option maxHeartbeats 16000000
set_option maxRecDepth 100000
set_option linter.all false
namespace Go.Proofs.YtijihlcdhppfgaaGreatDoor
open Tryz
section
open Go.RowKit
set_option maxHeartbeats 1600000
set_option maxRecDepth 100000
def alV (p:aZ) (t:aH):Int:=cQ aF (bH p) (p.fns.map gI) t
def amE (p:aZ) (t:aH) (w:World) (e:Ending) (w':World):Prop:=
 ∃cs,e=.returned (.tuple #[.agg ⟨cs⟩,.int .i64 (alG (alV p t) t).2])/\bI w' w'.heap.size cs (alG (alV p t) t).1/\Below w.heap.size w w'
theorem anW (pcs ca:List Value) (p:aZ) (t:aH) (w:World) (hp:fL w w.heap.size pcs p) (ht:bI w w.heap.size ca t) (tab:Tab w) :
  Calls Tryz.prog 19 #[.agg ⟨pcs⟩,.agg ⟨ca⟩] w (amE p t w):=by
 have HT:=hI ht
 have Ip:=hI hp.size3
 obtain⟨A1,n1,A2,n2,A3,n3,A4,n4,A5,n5,A6,n6,rfl,hm⟩:=ht.cells
 have CK:Hid (∀w1,Below w.heap.size w w1→Calls Tryz.prog 13 #[.agg ⟨pcs⟩,_] w1 (aK (.int .i64 (alV p t)) w1)):=fun w1 K=>aaW pcs _ p t w1 (hp.below K) (ht.below K) (tab.below K)
 unfold amE
 obtain⟨ce,hce⟩:∃ce,alV p t=ce:=⟨_,rfl⟩
 rw[hce] at CK ⊢
 have HCE:=hI hce
 clear hp tab hce ht
 go_enter Tryz.func19,Tryz.ntmps19
 go_upto_region 1 with fail
 generalize h:World.alloc _ _=w1
 have X:=Bx.of3 h
 clear h
 go_wp2_with (first | (refine X.ld (hi:=Ip.out) ?_) | (refine X.Ld ?_) | fail)
 go_at_call 13
 refine X.call (CK.out _ X.k) fun w2 X=>?_
 by_cases hc:ce=0
 case neg=>
  have hc':(ce != 0)=true:=by simpa using hc
  have HN:Hid (alG ce t=(mT,ce)):=by unfold alG Hid;rw[if_pos hc]
  go_wp2_with (first | (refine X.St fun _ X=>?_) | fail)
  rw[HN.out]
  refine X.rt2 ⟨bY,rfl,fR _ _,X.k⟩
 subst hc
 have SM:=acC HCE.out
 have hlen:=SM.ins
 have HM:Hid (alG 0 t=g9 t (ak4 t)):=by unfold alG Hid;rw[if_neg (by simp)]
 have hmk:=fun W=>mk_ints t.ins.length (by omega) W
 have hmi:(t.ins.length:Int)≤300:=by omega
 go_upto_region 5 with (first | (refine X.L1 ?_) | fail)
 generalize hw:World.alloc _ _=w3
 have X:Bx w w3 ((w2.heap.size,iW ((ak4 t).take 0) t.ins.length,3)::_):=X.al1 (by rw[List.take_zero,acT];exact hw)
 clear hw hmk
 go_wp2_with fail
 go_loopw [22] (fun i wr=>∃j:Nat,i=.int .i64 j∧j≤t.ins.length∧Bx w wr ((w2.heap.size,iW ((ak4 t).take j) t.ins.length,3)::_)) (fun i _=>t.ins.length - (RowKit.intOf i).toNat)
 case atStart=>exact⟨0,rfl,by omega,X⟩
 case round=>
  obtain⟨j,rfl,hj,X⟩:=hrel
  by_cases hlt:j<t.ins.length
  ·have hji:(j:Int)<t.ins.length:=by omega
   obtain⟨x,hx⟩:∃x,t.ins[j]? = some x:=⟨_,lG hlt⟩
   have HX:=hI hx
   have tk:((ak4 t).take j).length=j:=by simp[ak4];omega
   have e1:(iW ((ak4 t).take j) t.ins.length).set j (.int .i64 j)=iW ((ak4 t).take j++[(j:Int)]) t.ins.length:=congrArg Array.toList ((Array.toList_inj.1 (Array.toList_setIfInBounds ..)).symm.trans (acU (by omega) tk.symm (j:Int)))
   go_upto_region 9 with (first | (refine X.S1s (v:=.int .i64 (j:Int)) (j:=j) (by rw[toRow_len (by omega)];exact hlt) fun _ X=>?_) | fail)
   rw[e1] at X
   have ah:=lK HCE.out hx
   have at0:=xG HCE.out
   have SC:Hid (∀w1,Below w.heap.size w w1→Calls Tryz.prog 49 _ w1 (aK (.bool (alF t j x)) w1)):=fun w1 K=>said_c _ t j x w1 (HT.out.below K) HX.out at0.2.2.1 at0.2.2.2 (fun c=>by
    have:=ah x.a (nL (k:=0) rfl (by rw[c];decide))
    exact⟨this.1,this.2.1⟩)
   clear e1 ah at0 hx
   go_wp2_with (first | (refine X.Ld ?_) | fail)
   go_at_call 49
   refine X.call (SC.out _ X.k) fun _ X=>?_
   have tn:(ak4 t).take (j+1)=(ak4 t).take j++[toG t j]:=by
    rw[List.take_succ]
    have:(ak4 t)[j]? = some (toG t j):=by
     unfold ak4
     rw[List.getElem?_map,List.getElem?_range hlt];rfl
    rw[this];rfl
   have tg:toG t j=if alF t j x then -1 else(j:Int):=by unfold toG;rw[(insAt_some HX.out).1]
   cases hs:alF t j x with
   | false=>
    rw[hs] at tg
    go_wp2_with fail
    exact⟨⟨j+1,by go_num,by omega,by rw[tn,tg];exact X⟩,by simp only[RowKit.intOf];omega⟩
   | true=>
    rw[hs] at tg
    have e2:(iW ((ak4 t).take j++[(j:Int)]) t.ins.length).set j (.int .i64 (-1))=iW ((ak4 t).take j++[-1]) t.ins.length:=congrArg Array.toList ((Array.toList_inj.1 (Array.toList_setIfInBounds ..)).symm.trans (aa8 (by omega) tk.symm (j:Int) (-1)))
    go_wp2_with (first | (refine X.S1s (v:=.int .i64 (-1)) (j:=j) (by rw[toRow_len (by simp[tk];omega)];exact hlt) fun _ X=>?_) | fail)
    rw[e2] at X
    exact⟨⟨j+1,by go_num,by omega,by rw[tn,tg];exact X⟩,by simp only[RowKit.intOf];omega⟩
  ·obtain rfl:j=t.ins.length:=by omega
   have hji:¬(t.ins.length:Int)<t.ins.length:=by omega
   have fl:(ak4 t).length=t.ins.length:=by simp[ak4]
   rw[List.take_of_length_le (by omega),acV fl] at X
   have wf:∀v∈ak4 t,wfi v:=fun v hv=>by
    obtain⟨k,hk,rfl⟩:=List.mem_map.1 hv
    have:=List.mem_range.1 hk
    unfold toG wfi
    split <;> omega
   have CC:Hid (∀w1,Below w.heap.size w w1→w1.heap[w2.heap.size]? = some (.cells ⟨(ak4 t).map (.int .i64)⟩ 3 (0,0))→Calls Tryz.prog 24 #[_,.slice (some ⟨w2.heap.size,0,none⟩) t.ins.length t.ins.length] w1 (sV t (ak4 t) w1)):=fun w1 K hg=>cut_c _ t _ (ak4 t) w1 (HT.out.below K) (by rw[←fl];exact xW hg wf (by unfold maxLen;omega)) SM
   clear wf
   go_wp2_with (first | (refine X.Ld ?_) | fail)
   go_at_call 24
   refine(CC.out _ X.k (X.at_ _ _ _ (.hd _)).2).mono ?_
   rintro _ w5 ⟨cs,rfl,R,k5,RS⟩
   have X5:=X.on k5
   obtain⟨i1,l1,o1⟩:=R.cs
   have I1:=hI i1
   have L1:=hI l1
   have O1:=hI o1
   have R9:=hI (RS (w.heap.size+1+1) ⟨cs⟩ (X.lt (.tl _ (.hd _))))
   clear RS R k5 i1 l1 o1 X CC
   go_wp2_with (first | (refine X5.StR (hi:=I1.out) (hl:=by exact L1.out) (h1:=O1.out) fun X=>?_) | fail)
   rw[HM.out]
   exact X.rt2 (hi:=I1.out) ⟨_,rfl,R9.out,X.k⟩
end
end Go.Proofs.YtijihlcdhppfgaaGreatDoor
