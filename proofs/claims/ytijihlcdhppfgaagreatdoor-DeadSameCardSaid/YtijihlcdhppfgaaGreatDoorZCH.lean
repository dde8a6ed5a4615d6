/- A part of the walk. -/
import Derived.Test.YtijihlcdhppfgaaGreatDoorZCG
set_option maxHeartbeats 16000000
set_option maxRecDepth 100000
set_option linter.all false
namespace Go.Proofs.YtijihlcdhppfgaaGreatDoor
open Tryz
section
open Go.RowKit Go.Maps
theorem mk_ints (n:Nat) (l:n<=600) (W:World):(Instr.makeSlice 55 (.int .i64 (n:Int)) (.int .i64 (n:Int))).run prog W=.ok (.slice (some ⟨W.heap.size,0,none⟩) n n) (W.alloc (.cells ⟨List.replicate n (.int .i64 0)⟩ 3)):=by obtain⟨j,hi,d,f,g⟩:=info_parts qC;have h:=run_make (P:=prog) W 55 3 j (.int .i64 0) underlying55 hi d .i64 .i64 n n (by omega) (Int.le_refl _) (by rw[g];omega) (by omega);rw[Int.toNat_natCast,f,Nat.mul_one] at h;rw[h,show(Value.int .i64 0).cells=#[.int .i64 0] from rfl,mU]
section
variable {H:Type} {P:Program} {k:TypeId} {R:Value->Option (DataW H×List MemPlace)} {b n:Nat} {D:DataW H} {w w':World}
theorem map_set (h:w.ownsMap P k R b n D) {g:Nat} (f:b≠g) (i:Nat) (u:Value):(w.setCell ⟨g,i,none⟩ u).ownsMap P k R b n D:= h.kept (row:=some g) ⟨rfl,rfl,rfl,by simp[World.setCell],λj _ d=>Below.heap_setCell _ _ _ _ (λe=>d (by rw[e]))⟩ (by simp;exact f)
end
theorem eY.below {a b B:Nat} {w w1:World} (h:eY a b w w1) (d:B<=a) (hb:B<=b) (hB:B<=w.heap.size):Below B w w1:= ⟨h.os,h.tape,h.output,h.size,λi hi=>h.block i (by omega) (by omega) (by omega)⟩
theorem xW {w:World} {g:Nat} {xs:List Int} (h:w.heap[g]? = some (.cells ⟨xs.map (.int .i64)⟩ 3 (0,0))) (f:∀x∈xs,wfi x) (hl:xs.length<=maxLen):aB w w.heap.size 1 gB (.slice (some ⟨g,0,none⟩) xs.length xs.length) xs:=by
 refine⟨some ⟨g,0,none⟩,xs.length,rfl,Nat.le_refl _,hl,λ_=>⟨g,0,rfl,(aE h).1,λi x hi=>⟨[.int .i64 x],rfl,⟨rfl,f x (lM hi)⟩,λj u d=>?_⟩⟩⟩;match j,d with
 | 0,d=>
  have:u=.int .i64 x:=by simpa using d.symm
  subst this
  rw[show 0+i*1+0=i by omega,cell_of_row w g i _ _ _ h]
  simp[hi]
end
section
open Go.RowKit
theorem cut_go2 (ca:List Value) (t:aH) (v:Value) (tl:List Int) (w:World) (ht:bI w w.heap.size ca t) (hv:aB w w.heap.size 1 gB v tl) (q6:tl.length=t.ins.length) (C6:aa1 t) : Calls prog 24 #[.agg ⟨ca⟩,v] w (jX t tl w):=by
 have HT:=hI ht;have HV:=hI hv;have h5:=hI C6;have T0:=C6.ins;clear C6;obtain⟨Ai,ni,p3,qi⟩:=ht.at3;obtain⟨p0,p1,p2,z5,z6,P7⟩:=ht.at012;have QI:=hI qi;have P0:=hI p0;have P1:=hI p1;have P2:=hI p2;have P3:=hI p3;obtain⟨V,cV,rfl,P8,P9,-⟩:=hv;unfold maxLen at P9;rw[q6] at P8;have x5:=hI q6;have HV:Hid (aB w w.heap.size 1 gB (.slice V t.ins.length cV) tl):=by rw[<-q6];exact HV.o
 rw[show(Value.slice V tl.length cV)=.slice V t.ins.length cV by rw[q6]];clear q6;have u7:(t.ins.length:Int)<=300:=by omega
 obtain⟨w1,h6⟩:∃w1,w1=(((w.alloc (.cells ⟨ca⟩ 34)).alloc (.cells ⟨bY⟩ 34)).alloc (.cells #[.slice none 0 0,.bool true] 119)).alloc (.cells #[.int .i64 t.fn,.int .i64 t.at_,.int .i64 0,.slice none 0 0,.slice none 0 0,.int .i64 0,.int .i64 0,.slice none 0 0,.slice none 0 0,.int .i64 0,.int .i64 0,.slice none 0 0,.slice none 0 0] 34):=⟨_,rfl⟩;have K1:Hid (Below w.heap.size w w1):=by rw[h6];exact((bV w _ _).alloc (by simp;omega) _).alloc (by simp;omega) _
 have D0:Hid (w1.heap[w.heap.size]? = some (.cells ⟨ca⟩ 34 (0,0))):=by rw[h6];exact a8 (a8 (a8 (aS w _) _) _) _
 have D1:Hid (w1.heap[w.heap.size+1]? = some (.cells ⟨bY⟩ 34 (0,0))):=by rw[h6];exact a8 (a8 (iZ _ _ _) _) _
 have D2:Hid (w1.heap[w.heap.size+1+1]? = some (.cells #[.slice none 0 0,.bool true] 119 (0,0))):=by rw[h6];exact a8 (oG _ _ _ _) _
 have D3:Hid (w1.heap[w.heap.size+1+1+1]? = some (.cells #[.int .i64 t.fn,.int .i64 t.at_,.int .i64 0,.slice none 0 0,.slice none 0 0,.int .i64 0,.int .i64 0,.slice none 0 0,.slice none 0 0,.int .i64 0,.int .i64 0,.slice none 0 0,.slice none 0 0] 34 (0,0))):=by rw[h6];exact agN _ _ _ _ _
 have hz:w.heap.size+1+1+1<w1.heap.size:=(aE D3.o).1;unfold bY at h6;have HW:=hI h6;clear ht qi z5 z6 P7 h6;go_enter func24,ntmps24;go_upto_region 5 with fail;rw[<-HW.o];have d3:w1.cell? ⟨w.heap.size,3,none⟩=some (.slice Ai t.ins.length ni):=by rw[cell_of_row w1 w.heap.size 3 _ _ _ D0.o];simpa using P3.o
 go_wp2_with fail;clear d3;obtain⟨S0,z7⟩:∃S0:mX,S0=⟨[],true,0,[]⟩:=⟨_,rfl⟩;go_loopw [30] (λi wr=>∃(j:Nat) (S:mX) (tv iv:Value),i=.int .i64 j/\j<=t.ins.length/\S.at_.length=j/\S.ins.length<=j/\(0<=S.loop/\S.loop<=300)/\Hid (iU t.loop (t.ins.drop j) (tl.drop j) S=iU t.loop t.ins tl S0)/\Hid (∀x∈S.ins,kX x)/\ Hid (cK wr (w.heap.size+1+1) tv S.at_ S.fine)/\Hid (wr.heap[w.heap.size]? = some (.cells ⟨ca⟩ 34 (0,0)))/\Hid (wr.heap[w.heap.size+1]? = some (.cells ⟨bY⟩ 34 (0,0)))/\ Hid (wr.heap[w.heap.size+1+1+1]? = some (.cells #[.int .i64 t.fn,.int .i64 t.at_,.int .i64 S.loop,iv,.slice none 0 0,.int .i64 0,.int .i64 0,.slice none 0 0,.slice none 0 0,.int .i64 0,.int .i64 0,.slice none 0 0,.slice none 0 0] 34 (0,0)))/\ Hid (wr.ownsRow (w.heap.size+1+1+1) 53 8 iv S.ins.length (S.ins.flatMap bA))/\Hid (Below w.heap.size w wr)) (λi _=>t.ins.length - (RowKit.intOf i).toNat);case atStart=>subst z7;exact⟨0,⟨[],true,0,[]⟩,_,_,rfl,by omega,rfl,by simp,⟨by simp,by simp⟩,rfl,λx hx=>by simp at hx,⟨D2.o,World.ownsRow_nil _ _ _ _,λa ha=>by simp at ha,by simp⟩,D0.o,D1.o,D3.o,World.ownsRow_nil _ _ _ _,K1.o⟩
 case round=>
  obtain⟨j,S,tv,iv,rfl,hj,hS,Z8,⟨Z9,Aa⟩,SR,SW,SC,R0,R1,M,OI,I⟩:=hrel
  obtain⟨A1,c1,rfl⟩:=aeN OI.o
  have L7:w.heap.size+1+1+1<wr.heap.size:=(aE M.o).1
  by_cases D4:j<t.ins.length
  ·obtain⟨b,o7,x,rfl,hb,hx,wx,h7⟩:=tN QI.o D4
   obtain⟨g0,g1,g2,g3,g4,g5,g6,g7⟩:=adD h7 hb I.o
   obtain⟨b2,m7,n,ns,rfl,o3,v2,-,⟨rfl,wn⟩,u1⟩:=HV.o.at_ (i:=j) (by have:=x5.o;omega)
   have n0:wr.cell? ⟨b2,m7+j,none⟩=some (.int .i64 n):=(I.o.cell o3).trans (by simpa using u1 0 _ rfl)
   have E7:w.heap.size<wr.heap.size:=by omega
   have n6:b2<wr.heap.size:=by omega
   have n7:w.heap.size+1<wr.heap.size:=by omega
   have L9:(j:Int)<t.ins.length:=by omega
   have HX:=hI hx
   have WX:=hI wx
   have HN:=hI v2
   have l2:=cell_of_row wr w.heap.size 2 _ _ _ R0.o
   have E8:wr.cell? ⟨w.heap.size,2,none⟩=some (.int .i64 t.loop):=by rw[l2];simpa using P2.o
   have x6:Hid (∀S',gK t.loop S x n=some S'->iU t.loop (t.ins.drop (j+1)) (tl.drop (j+1)) S'=iU t.loop t.ins tl S0):=λS' e=>by
    rw[<-SR.o,oI hx,oI v2]
    show _=(match gK t.loop S x n with | none=>none | some s'=>iU t.loop _ _ s')
    rw[e]
   have M1:Hid (gK t.loop S x n=none->iU t.loop t.ins tl S0=none):=λe=>by
    rw[<-SR.o,oI hx,oI v2]
    show(match gK t.loop S x n with | none=>none | some s'=>iU t.loop _ _ s')=none
    rw[e]
   have NW:=hI (show w.cell? ⟨b2,m7+j,none⟩=some (.int .i64 n) by simpa using u1 0 _ rfl)
   clear h7 u1 hx wx v2 wn l2
   obtain⟨L,d5⟩:∃L,L=wr.alloc (.cells ⟨bA x⟩ 53):=⟨_,rfl⟩
   have KA:Hid (Below wr.heap.size wr L):=by rw[d5];exact aA _ _
   have YA:Hid (L.heap[wr.heap.size]? = some (.cells ⟨bA x⟩ 53 (0,0))):=by rw[d5];exact aS _ _
   have o1:wr.heap.size<L.heap.size:=by rw[d5];simp
   have na:L.cell? ⟨b2,m7+j,none⟩=some (.int .i64 n):=(KA.o.cell n6).trans n0
   have la:L.cell? ⟨w.heap.size,2,none⟩=some (.int .i64 t.loop):=(KA.o.cell E7).trans E8
   unfold bA at d5
   have u8:=hI d5
   have CA:=hI (SC.o.below KA.o)
   have A0:=hI ((KA.o.block _ E7).trans R0.o)
   have o2:=hI ((KA.o.block _ n7).trans R1.o)
   have AO:=hI ((KA.o.block _ L7).trans M.o)
   have OA:Hid (L.ownsRow (w.heap.size+1+1+1) 53 8 (.slice A1 S.ins.length c1) S.ins.length (S.ins.flatMap bA)):=by rw[d5];exact OI.o.alloc _
   have BA:=btZ I KA.o
   clear d5
   obtain⟨lp,j4⟩:∃lp,lp=(if(j:Int)=t.loop then(S.ins.length:Int) else S.loop):=⟨_,rfl⟩
   go_upto_region 8 with fail
   rw[<-u8.o]
   clear n0 E8 g0 g1 g2 g3 g4 g5 g6 g7
   go_upto_if 38 with fail
   go_cut [] (λwx=>Hid (cK wx (w.heap.size+1+1) tv S.at_ S.fine)/\Hid (wx.heap[w.heap.size]? = some (.cells ⟨ca⟩ 34 (0,0)))/\Hid (wx.heap[w.heap.size+1]? = some (.cells ⟨bY⟩ 34 (0,0)))/\
    Hid (wx.heap[w.heap.size+1+1+1]? = some (.cells #[.int .i64 t.fn,.int .i64 t.at_,.int .i64 lp,.slice A1 S.ins.length c1,.slice none 0 0,.int .i64 0,.int .i64 0,.slice none 0 0,.slice none 0 0,.int .i64 0,.int .i64 0,.slice none 0 0,.slice none 0 0] 34 (0,0)))/\
    Hid (wx.ownsRow (w.heap.size+1+1+1) 53 8 (.slice A1 S.ins.length c1) S.ins.length (S.ins.flatMap bA))/\Hid (wx.heap[wr.heap.size]? = some (.cells ⟨bA x⟩ 53 (0,0)))/\Hid (wr.heap.size<wx.heap.size)/\Hid (Below w.heap.size w wx))
   case first=>
    have a3:=crZ AO 3 rfl
    have fz:=fzZ AO 2
    have cz:=crZ AO 2 rfl
    have y0:S.ins.length<=maxLen:=by unfold maxLen;omega
    unfold maxLen at y0
    by_cases cl:(j:Int)=t.loop
    ·have M5:((j:Int) == t.loop)=true:=beq_iff_eq.2 cl
     rw[if_pos cl] at j4
     subst j4
     go_wp2_with fail
     go_meet
     ·refine⟨?_,?_,?_,?_,cY OA.o AO.o (by decide) _ _,?_,?_,ak2 BA.o (by omega) _ _⟩
      ·refine⟨?_,cY CA.o.own AO.o (by decide) _ _,CA.o.bd,CA.o.few⟩
       rw[heap_setCell_other L _ _ _ (by show _≠w.heap.size+1+1+1;omega)];exact CA.o.here
      ·show _=_
       rw[heap_setCell_other L _ _ _ (by show _≠w.heap.size+1+1+1;omega)];exact A0.o
      ·show _=_
       rw[heap_setCell_other L _ _ _ (by show _≠w.heap.size+1+1+1;omega)];exact o2.o
      ·show _=_
       rw[heap_setCell_same L _ _ _ _ _ AO.o];rfl
      ·show _=_
       rw[heap_setCell_other L _ _ _ (by show _≠w.heap.size+1+1+1;omega)];exact YA.o
      ·show _<_
       simp[World.setCell];exact o1
    ·have M5:((j:Int) == t.loop)=false:=bF cl
     rw[if_neg cl] at j4
     subst j4
     go_wp2_with fail
     go_meet
     ·exact⟨CA.o,A0.o,o2.o,AO.o,OA.o,YA.o,o1,BA.o⟩
   case rest=>
    obtain⟨F,A4⟩:∃F,F=wc:=⟨_,rfl⟩
    subst A4
    obtain⟨CI,B0,B1,BO,OB,YB,y4,KI⟩:=hcut
    have nI:F.cell? ⟨b2,m7+j,none⟩=some (.int .i64 n):=(KI.o.cell o3).trans NW.o
    have Z0:wr.heap.size<F.heap.size:=y4.o
    have y0:S.ins.length<=300:=by omega
    have y1:S.at_.length+1<=300:=by omega
    have y2:=hI j4
    have M6:0<=lp/\lp<=300:=by rw[j4];split <;> omega
    obtain⟨u3,u4⟩:=M6
    clear CA A0 o2 AO OA YA BA KA u8 o1 y4 j4 na la
    obtain⟨q0,A7,B2,B3,B4⟩:=info_parts qC
    have h0:=cell_of_row F (w.heap.size+1+1) 0 _ _ _ CI.o.here
    by_cases cj:n=(j:Int)
    ·subst cj
     have st:Hid (gK t.loop S x (j:Int)=some ⟨S.at_++[(S.ins.length:Int)],S.fine && mJ (S.at_++[(S.ins.length:Int)]) x,lp,S.ins++[oE (S.at_++[(S.ins.length:Int)]) x]⟩):=by
      unfold gK Hid
      dsimp only
      rw[hS,if_pos rfl,<-y2.o]
     have h3:=crZ BO 3 rfl
     have e0:=ecZ h0
     have e3:=ecZ h3
     clear h0 h3
     go_upto_region 13 with fail
     clear nI
     refine fP (λw'=>∃E:Up F,w'=E.to) [0] [1,2,3,4,5,6,7] [8,9,10,11,12] [8] _ (by kernel_rfl) (by kernel_rfl) (by simp only[List.cons_append,List.nil_append,List.filterMap_cons,List.filterMap_nil,List.getElem?_toArray,List.getElem?_cons_zero,List.getElem?_cons_succ];rfl) (λ_ _ d _ _ h=>by cases d <;> exact h) ⟨⟨_,(Below.refl _ F).drew⟩,rfl⟩ ?_
     show wpQuiet _ _ _ _ [_,_,_,_,_,_,_,_] _
     generalize c0:(λa'=>gT _ _ _ _ _ _ a' _)=qq
     have b6:=hI c0
     clear c0
     repeat (go_big_quiet_step (fail))
     refine wpQuiet_nil ?_
     rw[<-b6.o]
     clear b6 qq e0 e3
     refine aR rfl (λK G=>?_)
     go_simp
     refine G _ _ (λ_=>⟨⟨_,(Below.refl _ F).drew.alloc (Nat.le_refl _) _⟩,rfl⟩) ?_
     clear G K
     refine bG [9,10,11,12] _ _ (by kernel_rfl) (by kernel_rfl) ?_
     simp only[List.filterMap_cons,List.filterMap_nil,List.getElem?_toArray,List.getElem?_cons_zero,List.getElem?_cons_succ]
     have KW:Hid (Below F.heap.size F (F.drew.alloc (.cells #[.int .i64 (S.ins.length:Int)] 3))):=(Below.refl _ F).drew.alloc (Nat.le_refl _) _
     have J:=hI (CI.o.below KW.o)
     refine wpList_append_own _ rfl _ _ 55 rfl (w.heap.size+1+1+1) 3 q0 (.int .i64 0) 1 8 underlying55 A7 B2 B3 B4 rfl (by decide) tv S.at_.length (S.at_.map (.int .i64)) rfl J.o.own ⟨F.heap.size,0,none⟩ 1 1 [.int .i64 (S.ins.length:Int)] rfl rfl ?c1 ?c2 ?c3 ?c4 ?c5 ?_
     case c1=>exact World.news_of_block (cs:=#[.int .i64 (S.ins.length:Int)]) (aS F.drew _)
     case c2=>intro u hu;simp at hu;subst hu;rfl
     case c3=>unfold maxLen;omega
     case c4=>omega
     case c5=>simp[World.drew];omega
     intro v' w6 D O _
     have O7:=hI D
     have KG:=hI O
     obtain⟨A',n',c',rfl⟩:=eI D
     have GC:=hI (cL J.o.own O J.o.here (by decide))
     have c7:=crZ GC 0 rfl
     have f7:=fzZ GC 0
     clear D O
     go_upto_region 14 with fail
     obtain⟨w7,f1⟩:∃w7,w7=w6.setCell ⟨w.heap.size+1+1,0,none⟩ (.slice A' n' c'):=⟨_,rfl⟩
     have C7:Hid (cK w7 (w.heap.size+1+1) (.slice A' n' c') (S.at_++[(S.ins.length:Int)]) S.fine):=by rw[f1];exact xC J.o O7.o KG.o ⟨by omega,by omega⟩ y1
     have S0:=hI (iX (v':=Value.slice A' n' c') J.o KG.o ((KW.o.block _ (by omega)).trans B0.o) (by decide) (by omega))
     rw[<-f1] at S0
     have S1:=hI (iX (v':=Value.slice A' n' c') J.o KG.o ((KW.o.block _ (by omega)).trans B1.o) (by decide) (by omega))
     rw[<-f1] at S1
     have SO:=hI (iX (v':=Value.slice A' n' c') J.o KG.o ((KW.o.block _ (by omega)).trans BO.o) (by decide) (by omega))
     rw[<-f1] at SO
     have SI:Hid (w7.ownsRow (w.heap.size+1+1+1) 53 8 (.slice A1 S.ins.length c1) S.ins.length (S.ins.flatMap bA)):=by rw[f1];exact wD J.o KG.o ((aV.of_below (bc:=w.heap.size) KW.o).own OB.o (by omega)) (by decide) (by decide)
     have SX:=hI (iX (v':=Value.slice A' n' c') J.o KG.o ((KW.o.block _ (by omega)).trans YB.o) (by decide) (by omega))
     rw[<-f1] at SX
     have K7:Hid (Below w.heap.size w w7):=by rw[f1];exact(KI.o.trans (KW.o.mono KI.o.size)).trans (rG J.o KG.o (by omega) (by have:=KI.o.size;have:=KW.o.size;omega))
     rw[<-f1]
     clear f1 c7 f7 GC O7 KG J KW CI B0 B1 BO OB YB
     have M9:wr.heap.size<w7.heap.size:=(aE SX.o).1
     obtain⟨i0,hi,Q1,Q2,Q3⟩:=info_parts ajE
     have t3:=crZ SO 3 rfl
     have e3:∀E:jW (w.heap.size+1+1) w7,E.wd.cell? ⟨w.heap.size+1+1+1,3,none⟩=some (.slice A1 S.ins.length c1):=λE=>E.cell t3 (by show w.heap.size+1+1+1≠w.heap.size+1+1;omega)
     have RX:Hid (∀E:jW (w.heap.size+1+1) w7,E.wd.rangeAt wr.heap.size 0 (bA x)):=λE a v hv=>E.cell ((ak3 SX.o).range a v hv) (by show wr.heap.size≠w.heap.size+1+1;omega)
     have LX:Hid ((prog.info? 53).map (·.size)=some (bA x).length):=pI
     clear t3
     refine cE (λw'=>∃E:jW (w.heap.size+1+1) w7,w'=E.wd) 4 [4,5,6,7,8] [4,5] (by kernel_rfl) (by decide) (by kernel_rfl) (λ_ _ d _ _ h=>by cases d <;> exact h) ⟨⟨_,(aV.refl _ w7).drew⟩,rfl⟩ ?_
     simp only[List.take_succ_cons,List.take_zero]
     generalize c0:(λa'=>gT _ _ _ _ _ _ a' _)=qq
     have b6:=hI c0
     clear c0
     repeat (first
      | (refine iI 53 _ rfl rfl wr.heap.size 0 rfl (bA x) _ RX.o underlying53 rfl LX.o ?_;go_simp)
      | go_big_quiet_step (fail))
     refine wpQuiet_nil ?_
     rw[<-b6.o]
     clear b6 qq e3
     obtain⟨y,hy⟩:∃y,oE (S.at_++[(S.ins.length:Int)]) x=y:=⟨_,rfl⟩
     obtain⟨fi,u7⟩:∃b,mJ (S.at_++[(S.ins.length:Int)]) x=b:=⟨_,rfl⟩
     have OC:Hid (Calls prog 54 #[.pointer (some ⟨w.heap.size+1+1,0,none⟩),.agg ⟨bA x⟩] w7.drew (λe w'=>e=.returned (.agg #[.int .i64 y.op,.int .i64 y.a,.int .i64 y.b,.int .i64 y.c,.int .i64 y.n,.int .i64 y.exit,.int .i64 y.k.kind,.int .i64 y.k.n])/\cK w' (w.heap.size+1+1) (.slice A' n' c') (S.at_++[(S.ins.length:Int)]) (S.fine && fi)/\aV (w.heap.size+1+1) w7.drew w')):=by
      rw[<-hy,<-u7]
      exact ins_c _ _ _ _ x w7.drew (C7.o.fined ((aV.refl _ w7).drew) rfl) WX.o
     have WY:Hid (kX y):=by rw[<-hy];exact insC_wf (C7.o.bd) WX.o
     have ST:Hid (gK t.loop S x (j:Int)=some ⟨(S.at_++[(S.ins.length:Int)]),S.fine && fi,lp,S.ins++[y]⟩):=by rw[<-hy,<-u7];exact st.o
     clear hy u7 st
     refine aR rfl (λK G=>?_)
     go_simp
     refine OC.o.mono ?_
     rintro e N ⟨rfl,c8,k8⟩
     have C8:=hI c8
     have A:Hid (aV (w.heap.size+1+1) w7 N):=(aV.refl _ w7).drew.trans k8
     have N1:wr.heap.size<N.heap.size:=Nat.lt_of_lt_of_le M9 A.o.size
     clear c8 k8
     refine G _ _ (λ_=>⟨⟨N,A.o⟩,rfl⟩) ?_
     clear G K
     refine aR rfl (λK G=>?_)
     go_simp
     have O8:Hid ((N.alloc (.cells #[.int .i64 y.op,.int .i64 y.a,.int .i64 y.b,.int .i64 y.c,.int .i64 y.n,.int .i64 y.exit,.int .i64 y.k.kind,.int .i64 y.k.n] 53)).ownsRow (w.heap.size+1+1+1) 53 8 (.slice A1 S.ins.length c1) S.ins.length (S.ins.flatMap bA)):=(A.o.own SI.o (by omega)).alloc _
     have U0:Hid ((N.alloc (.cells #[.int .i64 y.op,.int .i64 y.a,.int .i64 y.b,.int .i64 y.c,.int .i64 y.n,.int .i64 y.exit,.int .i64 y.k.kind,.int .i64 y.k.n] 53)).heap[w.heap.size]? = _):=a8 (A.o.row S0.o (by omega)) _
     have U1:Hid ((N.alloc (.cells #[.int .i64 y.op,.int .i64 y.a,.int .i64 y.b,.int .i64 y.c,.int .i64 y.n,.int .i64 y.exit,.int .i64 y.k.kind,.int .i64 y.k.n] 53)).heap[w.heap.size+1]? = _):=a8 (A.o.row S1.o (by omega)) _
     have UO:Hid ((N.alloc (.cells #[.int .i64 y.op,.int .i64 y.a,.int .i64 y.b,.int .i64 y.c,.int .i64 y.n,.int .i64 y.exit,.int .i64 y.k.kind,.int .i64 y.k.n] 53)).heap[w.heap.size+1+1+1]? = _):=a8 (A.o.row SO.o (by omega)) _
     have UC:=hI (C8.o.below (aA N (.cells #[.int .i64 y.op,.int .i64 y.a,.int .i64 y.b,.int .i64 y.c,.int .i64 y.n,.int .i64 y.exit,.int .i64 y.k.kind,.int .i64 y.k.n] 53)))
     refine G _ _ (λ_=>⟨⟨_,A.o.alloc _⟩,rfl⟩) ?_
     clear G K
     refine bG [6,7,8] _ _ (by kernel_rfl) (by kernel_rfl) ?_
     simp only[List.filterMap_cons,List.filterMap_nil,List.getElem?_toArray,List.getElem?_cons_zero,List.getElem?_cons_succ]
     refine wpList_append_own _ rfl _ _ 27 rfl (w.heap.size+1+1+1) 53 i0 (.agg #[.int .i64 0,.int .i64 0,.int .i64 0,.int .i64 0,.int .i64 0,.int .i64 0,.int .i64 0,.int .i64 0]) 8 64 underlying27 hi Q1 Q2 Q3 rfl (by decide) (.slice A1 S.ins.length c1) S.ins.length (S.ins.flatMap bA) rfl O8.o ⟨N.heap.size,0,none⟩ 1 1 [.int .i64 y.op,.int .i64 y.a,.int .i64 y.b,.int .i64 y.c,.int .i64 y.n,.int .i64 y.exit,.int .i64 y.k.kind,.int .i64 y.k.n] rfl rfl ?k1 ?k2 ?k3 ?k4 ?k5 ?_
     case k1=>exact World.news_of_block (cs:=#[.int .i64 y.op,.int .i64 y.a,.int .i64 y.b,.int .i64 y.c,.int .i64 y.n,.int .i64 y.exit,.int .i64 y.k.kind,.int .i64 y.k.n]) (aS N _)
     case k2=>exact ai9 y
     case k3=>unfold maxLen;omega
     case k4=>omega
     case k5=>simp;omega
     intro v' h8 D O _
     have O9:=hI D
     have V0:=hI (cL O8.o O U0.o (by decide))
     have V1:=hI (cL O8.o O U1.o (by decide))
     have VO:=hI (cL O8.o O UO.o (by decide))
     have VC:=hI (UC.o.grow_ O8.o O (by decide) (by decide))
     obtain⟨A2,n2,c2,rfl⟩:=eI D
     have KB:=hI (kE (B':=w.heap.size) O8.o O (by omega) (by simp;omega))
     have c9:=crZ VO 3 rfl
     have f9:=fzZ VO 3
     clear D O
     go_wp2_with fail
     go_roundw
     case rel=>
      refine⟨j+1,⟨(S.at_++[(S.ins.length:Int)]),S.fine && fi,lp,S.ins++[y]⟩,.slice A' n' c',.slice A2 n2 c2,by go_num,by omega,by simp[hS],by simp;omega,⟨u3,u4⟩,x6.o _ ST.o,?_,?_,?_,?_,?_,?_,?_⟩
      ·intro z hz
       rcases List.mem_append.1 hz with hz | hz
       ·exact SW.o z hz
       ·simp at hz;subst hz;exact WY.o
      ·exact VC.o.set_far VO.o (by omega) (by decide) _ _
      ·show _=_
       rw[heap_setCell_other h8 _ _ _ (by show _≠w.heap.size+1+1+1;omega)];exact V0.o
      ·show _=_
       rw[heap_setCell_other h8 _ _ _ (by show _≠w.heap.size+1+1+1;omega)];exact V1.o
      ·show _=_
       rw[heap_setCell_same h8 (w.heap.size+1+1+1) 3 _ _ _ VO.o];rfl
      ·have e8:(S.ins++[y]).flatMap bA=S.ins.flatMap bA++bA y:=by simp
       show World.ownsRow _ _ _ _ _ _ _
       rw[e8,List.length_append]
       exact cY O9.o VO.o (by decide) _ _
      ·exact ak2 (((K7.o.trans (A.o.under (by omega) (by have:=K7.o.size;omega))).alloc (by have:=K7.o.size;have:=A.o.size;omega) _).trans KB.o) (by omega) _ _
     case measure=>simp[RowKit.intOf];omega
    ·by_cases w3:n = -1
     ·subst w3
      have st:Hid (gK t.loop S x (-1)=some ⟨S.at_++[-1],S.fine,lp,S.ins⟩):=by
       unfold gK Hid
       dsimp only
       rw[hS,if_neg (by omega),if_pos rfl,<-y2.o]
      have cn:((-1:Int) == (j:Int))=false:=bF (by omega)
      have KW:Hid (Below F.heap.size F (F.alloc (.cells #[.int .i64 (-1)] 3))):=aA _ _
      have J:=hI (CI.o.below KW.o)
      have y3:Hid (-1<=(-1:Int)/\(-1:Int)<=300):=⟨by omega,by omega⟩
      go_wp2_with (at_builtin;refine wpList_append_own _ rfl _ _ 55 rfl (w.heap.size+1+1+1) 3 q0 (.int .i64 0) 1 8 underlying55 A7 B2 B3 B4 rfl (by decide) tv S.at_.length (S.at_.map (.int .i64)) rfl J.o.own ⟨F.heap.size,0,none⟩ 1 1 [.int .i64 (-1)] rfl rfl ?c1 ?c2 ?c3 ?c4 ?c5 ?_)
      case c1=>exact World.news_of_block (cs:=#[.int .i64 (-1)]) (aS F _)
      case c2=>intro u hu;simp at hu;subst hu;rfl
      case c3=>unfold maxLen;omega
      case c4=>omega
      case c5=>simp;omega
      intro v' w6 D O _
      have O7:Hid (w6.ownsRow (w.heap.size+1+1+1) 3 1 v' (S.at_.length+1) (S.at_.map (.int .i64)++[.int .i64 (-1)])):=by first | exact D | (rw[hS];exact D)
      have KG:=hI O
      obtain⟨A',n',c',rfl⟩:=eI D
      have GC:=hI (cL J.o.own O J.o.here (by decide))
      have c7:=crZ GC 0 rfl
      have f7:=fzZ GC 0
      clear D O
      go_wp2_with fail
      go_roundw
      case rel=>
       refine⟨j+1,⟨S.at_++[(-1)],S.fine,lp,S.ins⟩,.slice A' n' c',.slice A1 S.ins.length c1,by go_num,by omega,by simp[hS],by(show S.ins.length<=j+1);omega,⟨u3,u4⟩,x6.o _ st.o,SW.o,?_,?_,?_,?_,?_,?_⟩
       ·exact xC J.o O7.o KG.o y3.o y1
       ·exact iX J.o KG.o ((KW.o.block _ (by omega)).trans B0.o) (by decide) (by omega)
       ·exact iX J.o KG.o ((KW.o.block _ (by omega)).trans B1.o) (by decide) (by omega)
       ·exact iX J.o KG.o ((KW.o.block _ (by omega)).trans BO.o) (by decide) (by omega)
       ·exact wD J.o KG.o ((aV.of_below (bc:=w.heap.size) KW.o).own OB.o (by omega)) (by decide) (by decide)
       ·exact(KI.o.trans (KW.o.mono KI.o.size)).trans (rG J.o KG.o (by omega) (by have:=KI.o.size;have:=KW.o.size;omega))
      case measure=>simp[RowKit.intOf];omega
     ·by_cases D5:0<=n/\n<(j:Int)
      ·obtain⟨d0,d1⟩:=D5
       obtain⟨k,rfl⟩:=Int.eq_ofNat_of_zero_le d0
       have hk:k<S.at_.length:=by omega
       have hs:=CI.o.slice
       obtain⟨A5,L1,rfl,l1,l2,-⟩:=id hs
       unfold maxLen at l2
       obtain⟨b3,B5,a,Ab,rfl,Q4,ha,-,⟨rfl,Ac⟩,B7⟩:=hs.at_ (i:=k) hk
       have a5:F.cell? ⟨b3,B5+k,none⟩=some (.int .i64 a):=by simpa using B7 0 _ rfl
       have st:Hid (gK t.loop S x (k:Int)=some ⟨S.at_++[a],S.fine,lp,S.ins⟩):=by
        unfold gK Hid
        dsimp only
        rw[hS,if_neg (by omega),if_neg (by omega),if_pos (by omega),<-y2.o,Int.toNat_natCast,List.getD_eq_getElem?_getD,ha];rfl
       have y3:Hid (-1<=a/\a<=300):=CI.o.bd a (lM ha)
       have e0:=ecZ h0
       have e5:=ecZ a5
       have Z1:(k:Int)<S.at_.length:=by omega
       have cn:((k:Int) == (j:Int))=false:=bF cj
       have E9:((k:Int) == -1)=false:=bF w3
       have U6:b3<F.heap.size:=Q4
       clear hs B7 ha a5 h0
       go_upto_region 18 with fail
       clear nI cn E9
       refine fP (λw'=>∃E:Up F,w'=E.to) [0] [1,2,3,4,5,6,7,8,9,10,11] [12,13,14,15,16] [12] _ (by kernel_rfl) (by kernel_rfl) (by simp only[List.cons_append,List.nil_append,List.filterMap_cons,List.filterMap_nil,List.getElem?_toArray,List.getElem?_cons_zero,List.getElem?_cons_succ];rfl) (λ_ _ d _ _ h=>by cases d <;> exact h) ⟨⟨_,(Below.refl _ F).drew⟩,rfl⟩ ?_
       show wpQuiet _ _ _ _ [_,_,_,_,_,_,_,_,_,_,_,_] _
       generalize c0:(λa'=>gT _ _ _ _ _ _ a' _)=qq
       have b6:=hI c0
       clear c0
       repeat (go_big_quiet_step (fail))
       refine wpQuiet_nil ?_
       rw[<-b6.o]
       clear b6 qq e0 e5
       refine aR rfl (λK G=>?_)
       go_simp
       refine G _ _ (λ_=>⟨⟨_,(Below.refl _ F).drew.alloc (Nat.le_refl _) _⟩,rfl⟩) ?_
       clear G K
       refine bG [13,14,15,16] _ _ (by kernel_rfl) (by kernel_rfl) ?_
       simp only[List.filterMap_cons,List.filterMap_nil,List.getElem?_toArray,List.getElem?_cons_zero,List.getElem?_cons_succ]
       have KW:Hid (Below F.heap.size F (F.drew.alloc (.cells #[.int .i64 a] 3))):=(Below.refl _ F).drew.alloc (Nat.le_refl _) _
       have J:=hI (CI.o.below KW.o)
       refine wpList_append_own _ rfl _ _ 55 rfl (w.heap.size+1+1+1) 3 q0 (.int .i64 0) 1 8 underlying55 A7 B2 B3 B4 rfl (by decide) (.slice (some ⟨b3,B5,none⟩) S.at_.length L1) S.at_.length (S.at_.map (.int .i64)) (by first | rfl | (rw[hS];rfl)) J.o.own ⟨F.heap.size,0,none⟩ 1 1 [.int .i64 a] rfl rfl ?c1 ?c2 ?c3 ?c4 ?c5 ?_
       case c1=>exact World.news_of_block (cs:=#[.int .i64 a]) (aS F.drew _)
       case c2=>intro u hu;simp at hu;subst hu;rfl
       case c3=>unfold maxLen;omega
       case c4=>omega
       case c5=>simp[World.drew];omega
       intro v' w6 D O _
       have O7:Hid (w6.ownsRow (w.heap.size+1+1+1) 3 1 v' (S.at_.length+1) (S.at_.map (.int .i64)++[.int .i64 a])):=by first | exact D | (rw[hS];exact D)
       have KG:=hI O
       obtain⟨A',n',c',rfl⟩:=eI D
       have GC:=hI (cL J.o.own O J.o.here (by decide))
       have c7:=crZ GC 0 rfl
       have f7:=fzZ GC 0
       clear D O
       go_wp2_with fail
       go_roundw
       case rel=>
        refine⟨j+1,⟨S.at_++[a],S.fine,lp,S.ins⟩,.slice A' n' c',.slice A1 S.ins.length c1,by go_num,by omega,by simp[hS],by(show S.ins.length<=j+1);omega,⟨u3,u4⟩,x6.o _ st.o,SW.o,?_,?_,?_,?_,?_,?_⟩
        ·exact xC J.o O7.o KG.o y3.o y1
        ·exact iX J.o KG.o ((KW.o.block _ (by omega)).trans B0.o) (by decide) (by omega)
        ·exact iX J.o KG.o ((KW.o.block _ (by omega)).trans B1.o) (by decide) (by omega)
        ·exact iX J.o KG.o ((KW.o.block _ (by omega)).trans BO.o) (by decide) (by omega)
        ·exact wD J.o KG.o ((aV.of_below (bc:=w.heap.size) KW.o).own OB.o (by omega)) (by decide) (by decide)
        ·exact(KI.o.trans (KW.o.mono KI.o.size)).trans (rG J.o KG.o (by omega) (by have:=KI.o.size;have:=KW.o.size;omega))
       case measure=>simp[RowKit.intOf];omega
      ·have HN:Hid (g9 t tl=(mT,3)):=by
        have h1:=M1.o (by
         unfold gK
         dsimp only
         rw[hS,if_neg cj,if_neg w3,if_neg D5])
        rw[z7] at h1
        unfold g9 Hid
        rw[if_neg (λh=>h x5.o),h1]
       have cn:(n == (j:Int))=false:=bF cj
       have E9:(n == -1)=false:=bF w3
       clear h0
       by_cases d0:0<=n
       ·have d1:¬n<(j:Int):=λh=>D5 ⟨d0,h⟩
        have d2:(j:Int)<=n:=by omega
        go_wp2_with (refine wpList_store_row rfl 34 _ _ rfl (w.heap.size+1) #[.int .i64 0,.int .i64 0,.int .i64 0,.slice none 0 0,.slice none 0 0,.int .i64 0,.int .i64 0,.slice none 0 0,.slice none 0 0,.int .i64 0,.int .i64 0,.slice none 0 0,.slice none 0 0] rfl rfl 34 _ B1.o iG rfl (oCz (by simp[Value.oneCell'])) ?_)
        generalize a4:World.setRow _ _ _=w9
        have p:=shZ a4 B1
        have K9:Hid (Below w.heap.size w w9):=by rw[<-a4];exact Below.set_row KI.o (by omega) _
        clear a4
        go_wp2_with fail
        have r0:=crZ p 0 rfl
        have r1:=crZ p 1 rfl
        have r2:=crZ p 2 rfl
        have r3:=crZ p 3 rfl
        have r4:=crZ p 4 rfl
        have r5:=crZ p 5 rfl
        have r6:=crZ p 6 rfl
        have r7:=crZ p 7 rfl
        have r8:=crZ p 8 rfl
        have r9:=crZ p 9 rfl
        have j0:=crZ p 10 rfl
        have j1:=crZ p 11 rfl
        have j2:=crZ p 12 rfl
        unfold jX
        rw[HN.o]
        refine bodyPost_ret (v:=.tuple #[.agg ⟨bY⟩,.int .i64 3]) (by simp[results,results24,go_sem,bY,r0,r1,r2,r3,r4,r5,r6,r7,r8,r9,j0,j1,j2]) rfl ⟨_,rfl,fR _ _,K9.o,λ_ _=>fR _ _⟩
       ·have d1:n<0:=by omega
        go_wp2_with (refine wpList_store_row rfl 34 _ _ rfl (w.heap.size+1) #[.int .i64 0,.int .i64 0,.int .i64 0,.slice none 0 0,.slice none 0 0,.int .i64 0,.int .i64 0,.slice none 0 0,.slice none 0 0,.int .i64 0,.int .i64 0,.slice none 0 0,.slice none 0 0] rfl rfl 34 _ B1.o iG rfl (oCz (by simp[Value.oneCell'])) ?_)
        generalize a4:World.setRow _ _ _=w9
        have p:=shZ a4 B1
        have K9:Hid (Below w.heap.size w w9):=by rw[<-a4];exact Below.set_row KI.o (by omega) _
        clear a4
        go_wp2_with fail
        have r0:=crZ p 0 rfl
        have r1:=crZ p 1 rfl
        have r2:=crZ p 2 rfl
        have r3:=crZ p 3 rfl
        have r4:=crZ p 4 rfl
        have r5:=crZ p 5 rfl
        have r6:=crZ p 6 rfl
        have r7:=crZ p 7 rfl
        have r8:=crZ p 8 rfl
        have r9:=crZ p 9 rfl
        have j0:=crZ p 10 rfl
        have j1:=crZ p 11 rfl
        have j2:=crZ p 12 rfl
        unfold jX
        rw[HN.o]
        refine bodyPost_ret (v:=.tuple #[.agg ⟨bY⟩,.int .i64 3]) (by simp[results,results24,go_sem,bY,r0,r1,r2,r3,r4,r5,r6,r7,r8,r9,j0,j1,j2]) rfl ⟨_,rfl,fR _ _,K9.o,λ_ _=>fR _ _⟩
  ·obtain rfl:j=t.ins.length:=by omega
   have L9:¬(t.ins.length:Int)<t.ins.length:=by omega
   have HC:Hid (iU t.loop t.ins tl ⟨[],true,0,[]⟩=some S):=by
    have h1:=SR.o
    rw[List.drop_length,z7] at h1
    rw[show Hid _=_ from rfl,<-h1]
    cases tl.drop t.ins.length <;> rfl
   obtain⟨v3,u5⟩:∃x,x=(if(t.ins.length:Int)<=t.loop then(S.ins.length:Int) else S.loop):=⟨_,rfl⟩
   obtain⟨a9,u6⟩:∃x,x=(if t.loop<=0 then 0 else v3):=⟨_,rfl⟩
   have F0:=hI u5
   have F1:=hI u6
   have y0:S.ins.length<=300:=by omega
   have F2:0<=v3/\v3<=300:=by rw[u5];split <;> omega
   have o3:0<=a9/\a9<=300:=by rw[u6];split <;> omega
   have Z2:=hI F2
   have N4:=hI o3
   clear u5 u6 F2 o3 SR
   have l2:wr.cell? ⟨w.heap.size,2,none⟩=some (.int .i64 t.loop):=by rw[cell_of_row wr w.heap.size 2 _ _ _ R0.o];simpa using P2.o
   have l3:wr.cell? ⟨w.heap.size,3,none⟩=some (.slice Ai t.ins.length ni):=by rw[cell_of_row wr w.heap.size 3 _ _ _ R0.o];simpa using P3.o
   go_upto_if 114 with fail
   go_cut [] (λwx=>Hid (cK wx (w.heap.size+1+1) tv S.at_ S.fine)/\Hid (wx.heap[w.heap.size]? = some (.cells ⟨ca⟩ 34 (0,0)))/\Hid (wx.heap[w.heap.size+1]? = some (.cells ⟨bY⟩ 34 (0,0)))/\
    Hid (wx.heap[w.heap.size+1+1+1]? = some (.cells #[.int .i64 t.fn,.int .i64 t.at_,.int .i64 v3,.slice A1 S.ins.length c1,.slice none 0 0,.int .i64 0,.int .i64 0,.slice none 0 0,.slice none 0 0,.int .i64 0,.int .i64 0,.slice none 0 0,.slice none 0 0] 34 (0,0)))/\
    Hid (wx.ownsRow (w.heap.size+1+1+1) 53 8 (.slice A1 S.ins.length c1) S.ins.length (S.ins.flatMap bA))/\Hid (Below w.heap.size w wx))
   case first=>
    have a3:=crZ M 3 rfl
    have fz:=fzZ M 2
    have cz:=crZ M 2 rfl
    have h1:=F0.o
    by_cases b1:(t.ins.length:Int)<=t.loop
    ·rw[if_pos b1] at h1
     subst h1
     go_wp2_with fail
     go_meet
     ·refine⟨SC.o.set_far M.o (by omega) (by decide) _ _,?_,?_,?_,cY OI.o M.o (by decide) _ _,ak2 I.o (by omega) _ _⟩
      ·show _=_
       rw[heap_setCell_other wr _ _ _ (by show _≠w.heap.size+1+1+1;omega)];exact R0.o
      ·show _=_
       rw[heap_setCell_other wr _ _ _ (by show _≠w.heap.size+1+1+1;omega)];exact R1.o
      ·show _=_
       rw[heap_setCell_same wr _ _ _ _ _ M.o];rfl
    ·rw[if_neg b1] at h1
     subst h1
     go_wp2_with fail
     go_meet
     ·exact⟨SC.o,R0.o,R1.o,M.o,OI.o,I.o⟩
   case rest=>
    obtain⟨F,A4⟩:∃F,F=wc:=⟨_,rfl⟩
    subst A4
    clear l2 l3 R0 R1 M OI I SC
    obtain⟨SC,R0,R1,M,OI,I⟩:=hcut
    have y4:w.heap.size+1+1+1<F.heap.size:=(aE M.o).1
    have l2:F.cell? ⟨w.heap.size,2,none⟩=some (.int .i64 t.loop):=by rw[cell_of_row F w.heap.size 2 _ _ _ R0.o];simpa using P2.o
    go_upto_if 121 with fail
    go_cut [] (λwx=>Hid (cK wx (w.heap.size+1+1) tv S.at_ S.fine)/\Hid (wx.heap[w.heap.size]? = some (.cells ⟨ca⟩ 34 (0,0)))/\Hid (wx.heap[w.heap.size+1]? = some (.cells ⟨bY⟩ 34 (0,0)))/\
     Hid (wx.heap[w.heap.size+1+1+1]? = some (.cells #[.int .i64 t.fn,.int .i64 t.at_,.int .i64 a9,.slice A1 S.ins.length c1,.slice none 0 0,.int .i64 0,.int .i64 0,.slice none 0 0,.slice none 0 0,.int .i64 0,.int .i64 0,.slice none 0 0,.slice none 0 0] 34 (0,0)))/\
     Hid (wx.ownsRow (w.heap.size+1+1+1) 53 8 (.slice A1 S.ins.length c1) S.ins.length (S.ins.flatMap bA))/\Hid (Below w.heap.size w wx))
    case first=>
     have a3:=crZ M 3 rfl
     have fz:=fzZ M 2
     have cz:=crZ M 2 rfl
     have h1:=F1.o
     by_cases b1:t.loop<=0
     ·rw[if_pos b1] at h1
      subst h1
      go_wp2_with fail
      go_meet
      ·refine⟨SC.o.set_far M.o (by omega) (by decide) _ _,?_,?_,?_,cY OI.o M.o (by decide) _ _,ak2 I.o (by omega) _ _⟩
       ·show _=_
        rw[heap_setCell_other F _ _ _ (by show _≠w.heap.size+1+1+1;omega)];exact R0.o
       ·show _=_
        rw[heap_setCell_other F _ _ _ (by show _≠w.heap.size+1+1+1;omega)];exact R1.o
       ·show _=_
        rw[heap_setCell_same F _ _ _ _ _ M.o];rfl
     ·rw[if_neg b1] at h1
      subst h1
      go_wp2_with fail
      go_meet
      ·exact⟨SC.o,R0.o,R1.o,M.o,OI.o,I.o⟩
    case rest=>
     clear l2 R0 R1 M OI I SC
     obtain⟨wj,Q5⟩:∃wj,wj=wc:=⟨_,rfl⟩
     subst Q5
     obtain⟨SC,R0,R1,M,OI,I⟩:=hcut
     obtain⟨Ae,ne,p4,qe⟩:=HT.o.at4
     have QE:=hI qe
     have P4:=hI p4
     have Z3:=h5.o.exitsLen
     have l4:wj.cell? ⟨w.heap.size,4,none⟩=some (.slice Ae t.exits.length ne):=by rw[cell_of_row wj w.heap.size 4 _ _ _ R0.o];simpa using P4.o
     obtain⟨x0,Q8,Q9,R2,R3⟩:=info_parts infoEx
     clear qe p4
     go_wp2_with fail
     go_loopw [126] (λi wr=>∃(j:Nat) (xv:Value) (rows:List (List Value)),i=.int .i64 j/\j<=t.exits.length/\rows.length=j/\Hid (wr.heap[w.heap.size]? = some (.cells ⟨ca⟩ 34 (0,0)))/\Hid (wr.heap[w.heap.size+1]? = some (.cells ⟨bY⟩ 34 (0,0)))/\
      Hid (wr.heap[w.heap.size+1+1+1]? = some (.cells #[.int .i64 t.fn,.int .i64 t.at_,.int .i64 a9,.slice A1 S.ins.length c1,xv,.int .i64 0,.int .i64 0,.slice none 0 0,.slice none 0 0,.int .i64 0,.int .i64 0,.slice none 0 0,.slice none 0 0] 34 (0,0)))/\
      Hid (wr.ownsRow (w.heap.size+1+1+1) 53 8 (.slice A1 S.ins.length c1) S.ins.length (S.ins.flatMap bA))/\Hid (wr.ownsRow (w.heap.size+1+1+1) 32 4 xv j (rows.flatMap id))/\
      Hid (∀(i:Nat) x,(t.exits.take j)[i]? = some x->∃c,rows[i]? = some c/\c.length=4/\cR wr (w.heap.size+1+1+1) c (dM S.at_ x))/\
      Hid (cK wr (w.heap.size+1+1) tv S.at_ (S.fine && (t.exits.take j).all (dF S.at_)))/\Hid (Below w.heap.size w wr)) (λi _=>t.exits.length - (RowKit.intOf i).toNat)
     case atStart=>exact⟨0,_,[],rfl,by omega,rfl,R0.o,R1.o,M.o,OI.o,World.ownsRow_nil _ _ _ _,λi m hm=>by simp at hm,by rw[List.take_zero,List.all_nil,Bool.and_true];exact SC.o,I.o⟩
     case round=>
      clear R0 R1 M OI I SC l4
      obtain⟨j,xv,rows,rfl,hj,G4,R0,R1,M,OI,OX,XS,SC,I⟩:=hrel
      obtain⟨H,R4⟩:∃H,H=wr:=⟨_,rfl⟩
      subst R4
      have N6:w.heap.size+1+1+1<H.heap.size:=(aE M.o).1
      by_cases D4:j<t.exits.length
      ·have J7:(j:Int)<t.exits.length:=by omega
       obtain⟨b,o7,y,ys,rfl,hb,hy,-,⟨s,m,rfl,hs,hm,G5,G6⟩,h7⟩:=QE.o.at_ D4
       obtain⟨SS,cS,rfl,R5,R6,-⟩:=id hs
       obtain⟨MM,cM,rfl,R7,R8,-⟩:=id hm
       have XR:Hid (fM w w.heap.size [.int .i64 y.at_,.int .i64 y.steps,.slice SS y.sets.length cS,.slice MM y.makes.length cM] y):=⟨_,_,rfl,hs,hm,G5,G6⟩
       have g0:H.cell? ⟨b,o7+j*4,none⟩=some (.int .i64 y.at_):=(I.o.cell hb).trans (h7 0 _ rfl)
       have g1:H.cell? ⟨b,o7+j*4+1,none⟩=some (.int .i64 y.steps):=(I.o.cell hb).trans (h7 1 _ rfl)
       have g2:H.cell? ⟨b,o7+j*4+2,none⟩=some (.slice SS y.sets.length cS):=(I.o.cell hb).trans (h7 2 _ rfl)
       have g3:H.cell? ⟨b,o7+j*4+3,none⟩=some (.slice MM y.makes.length cM):=(I.o.cell hb).trans (h7 3 _ rfl)
       have HY:=hI hy
       have Z4:b<H.heap.size:=by omega
       have SM:=hI (h5.o.exits y (lM hy))
       obtain⟨L,d5⟩:∃L,L=H.alloc (.cells #[.int .i64 y.at_,.int .i64 y.steps,.slice SS y.sets.length cS,.slice MM y.makes.length cM] 32):=⟨_,rfl⟩
       have KA:Hid (Below H.heap.size H L):=by rw[d5];exact aA _ _
       have AX:Hid (L.heap[H.heap.size]? = some (.cells #[.int .i64 y.at_,.int .i64 y.steps,.slice SS y.sets.length cS,.slice MM y.makes.length cM] 32 (0,0))):=by rw[d5];exact aS _ _
       have o1:H.heap.size<L.heap.size:=(aE AX.o).1
       have A0:=hI ((KA.o.block _ (by omega)).trans R0.o)
       have o2:=hI ((KA.o.block _ (by omega)).trans R1.o)
       have AO:=hI ((KA.o.block _ N6).trans M.o)
       have AI:=hI ((aV.of_below (bc:=w.heap.size) KA.o).own OI.o (by omega))
       have AE:=hI ((aV.of_below (bc:=w.heap.size) KA.o).own OX.o (by omega))
       have AC:=hI (SC.o.below KA.o)
       have AB:=btZ I KA.o
       have AT:Hid (∀(i:Nat) x,(t.exits.take j)[i]? = some x->∃c,rows[i]? = some c/\c.length=4/\cR L (w.heap.size+1+1+1) c (dM S.at_ x)):=λi x hx=>by
        obtain⟨c,h1,h2,h3⟩:=XS.o i x hx
        exact⟨c,h1,h2,h3.below KA.o⟩
       have u8:=hI d5
       clear d5 h7 hy G5 G6 hs hm R5 R6 R7 R8 R0 R1 M OI OX XS SC I
       go_upto_region 27 with fail
       rw[<-u8.o]
       clear g0 g1 g2 g3
       have t4:=crZ AO 4 rfl
       have e4:∀E:jW (w.heap.size+1+1) L,E.wd.cell? ⟨w.heap.size+1+1+1,4,none⟩=some xv:=λE=>E.cell t4 (by show w.heap.size+1+1+1≠w.heap.size+1+1;omega)
       have RX:Hid (∀E:jW (w.heap.size+1+1) L,E.wd.rangeAt H.heap.size 0 [.int .i64 y.at_,.int .i64 y.steps,.slice SS y.sets.length cS,.slice MM y.makes.length cM]):=λE a v hv=>E.cell ((ak3 AX.o).range a v hv) (by show H.heap.size≠w.heap.size+1+1;omega)
       have LX:Hid ((prog.info? 32).map (·.size)=some ([.int .i64 y.at_,.int .i64 y.steps,.slice SS y.sets.length cS,.slice MM y.makes.length cM]:List Value).length):=mH
       clear t4
       refine cE (λw'=>∃E:jW (w.heap.size+1+1) L,w'=E.wd) 4 [4,5,6,7,8] [4,5] (by kernel_rfl) (by decide) (by kernel_rfl) (λ_ _ d _ _ h=>by cases d <;> exact h) ⟨⟨_,(aV.refl _ L).drew⟩,rfl⟩ ?_
       simp only[List.take_succ_cons,List.take_zero]
       generalize c0:(λa'=>gT _ _ _ _ _ _ a' _)=qq
       have b6:=hI c0
       clear c0
       repeat (first
        | (refine iI 32 _ rfl rfl H.heap.size 0 rfl [.int .i64 y.at_,.int .i64 y.steps,.slice SS y.sets.length cS,.slice MM y.makes.length cM] _ RX.o underlying32 rfl LX.o ?_;go_simp)
        | go_big_quiet_step (fail))
       refine wpQuiet_nil ?_
       rw[<-b6.o]
       clear b6 qq e4
       obtain⟨z,hz⟩:∃z,dM S.at_ y=z:=⟨_,rfl⟩
       have OC:Hid (Calls prog 55 #[.pointer (some ⟨w.heap.size+1+1,0,none⟩),.agg #[.int .i64 y.at_,.int .i64 y.steps,.slice SS y.sets.length cS,.slice MM y.makes.length cM]] L.drew (λe w'=>∃cs,e=.returned (.agg ⟨cs⟩)/\cR w' L.heap.size cs z/\cK w' (w.heap.size+1+1) tv S.at_ ((S.fine && (t.exits.take j).all (dF S.at_)) && dF S.at_ y)/\aV (w.heap.size+1+1) L.drew w')):=by
        rw[<-hz]
        exact adO _ _ _ _ _ y L.drew (AC.o.fined ((aV.refl _ L).drew) rfl) (XR.o.keep AB.o.size (λ_ hp=>AB.o.cell hp)) (by have:=SM.o.1;omega) (by have:=SM.o.2.1;omega) (λm hm=>by have:=SM.o.2.2 m hm;omega)
       have HZ:=hI hz
       clear hz
       refine aR rfl (λK G=>?_)
       go_simp
       refine OC.o.mono ?_
       rintro e N ⟨cs,rfl,xT,c8,k8⟩
       have XT:=hI xT
       obtain⟨s8,m8,rfl,B9,C0,-⟩:=xT
       obtain⟨A8,n8,rfl,-⟩:=B9
       obtain⟨A9,n9,rfl,-⟩:=C0
       have C8:=hI c8
       have A:Hid (aV (w.heap.size+1+1) L N):=(aV.refl _ L).drew.trans k8
       have N1:H.heap.size<N.heap.size:=Nat.lt_of_lt_of_le o1 A.o.size
       clear c8 k8
       refine G _ _ (λ_=>⟨⟨N,A.o⟩,rfl⟩) ?_
       clear G K
       refine aR rfl (λK G=>?_)
       go_simp
       have O8:Hid ((N.alloc (.cells #[.int .i64 z.at_,.int .i64 z.steps,.slice A8 z.sets.length n8,.slice A9 z.makes.length n9] 32)).ownsRow (w.heap.size+1+1+1) 32 4 xv j (rows.flatMap id)):=(A.o.own AE.o (by omega)).alloc _
       have U0:=hI (a8 (A.o.row A0.o (by omega)) (.cells #[.int .i64 z.at_,.int .i64 z.steps,.slice A8 z.sets.length n8,.slice A9 z.makes.length n9] 32))
       have U1:=hI (a8 (A.o.row o2.o (by omega)) (.cells #[.int .i64 z.at_,.int .i64 z.steps,.slice A8 z.sets.length n8,.slice A9 z.makes.length n9] 32))
       have UO:=hI (a8 (A.o.row AO.o (by omega)) (.cells #[.int .i64 z.at_,.int .i64 z.steps,.slice A8 z.sets.length n8,.slice A9 z.makes.length n9] 32))
       have UI:=hI ((A.o.own AI.o (by omega)).alloc (.cells #[.int .i64 z.at_,.int .i64 z.steps,.slice A8 z.sets.length n8,.slice A9 z.makes.length n9] 32))
       have UC:=hI (C8.o.below (aA N (.cells #[.int .i64 z.at_,.int .i64 z.steps,.slice A8 z.sets.length n8,.slice A9 z.makes.length n9] 32)))
       have UX:=hI (XT.o.below (aA N (.cells #[.int .i64 z.at_,.int .i64 z.steps,.slice A8 z.sets.length n8,.slice A9 z.makes.length n9] 32)))
       have UT:Hid (∀(i:Nat) x,(t.exits.take j)[i]? = some x->∃c,rows[i]? = some c/\c.length=4/\cR (N.alloc (.cells #[.int .i64 z.at_,.int .i64 z.steps,.slice A8 z.sets.length n8,.slice A9 z.makes.length n9] 32)) (w.heap.size+1+1+1) c (dM S.at_ x)):=λi x hx=>by
        obtain⟨c,h1,h2,h3⟩:=AT.o i x hx
        exact⟨c,h1,h2,(h3.fin A.o (by omega)).below (aA _ _)⟩
       refine G _ _ (λ_=>⟨⟨_,A.o.alloc _⟩,rfl⟩) ?_
       clear G K
       refine bG [6,7,8] _ _ (by kernel_rfl) (by kernel_rfl) ?_
       simp only[List.filterMap_cons,List.filterMap_nil,List.getElem?_toArray,List.getElem?_cons_zero,List.getElem?_cons_succ]
       refine wpList_append_own _ rfl _ _ 28 rfl (w.heap.size+1+1+1) 32 x0 (.agg #[.int .i64 0,.int .i64 0,.slice none 0 0,.slice none 0 0]) 4 64 underlying28 Q8 Q9 R2 R3 rfl (by decide) xv j (rows.flatMap id) rfl O8.o ⟨N.heap.size,0,none⟩ 1 1 [.int .i64 z.at_,.int .i64 z.steps,.slice A8 z.sets.length n8,.slice A9 z.makes.length n9] rfl rfl ?m1 ?m2 ?m3 ?m4 ?m5 ?_
       case m1=>exact World.news_of_block (cs:=#[.int .i64 z.at_,.int .i64 z.steps,.slice A8 z.sets.length n8,.slice A9 z.makes.length n9]) (aS N _)
       case m2=>intro u hu;simp at hu;rcases hu with rfl | rfl | rfl | rfl <;> rfl
       case m3=>unfold maxLen;omega
       case m4=>omega
       case m5=>simp;omega
       intro v' h8 D O _
       have O9:=hI D
       have V0:=hI (cL O8.o O U0.o (by decide))
       have V1:=hI (cL O8.o O U1.o (by decide))
       have VO:=hI (cL O8.o O UO.o (by decide))
       have VI:=hI (wE UI.o O8.o O (by decide))
       have VC:=hI (UC.o.grow_ O8.o O (by decide) (by decide))
       have VX:=hI (UX.o.grow O8.o O (by decide) (by decide) (by decide))
       have VT:Hid (∀(i:Nat) x,(t.exits.take j)[i]? = some x->∃c,rows[i]? = some c/\c.length=4/\cR h8 (w.heap.size+1+1+1) c (dM S.at_ x)):=λi x hx=>by
        obtain⟨c,h1,h2,h3⟩:=UT.o i x hx
        exact⟨c,h1,h2,h3.grow O8.o O (by decide) (by decide) (by decide)⟩
       obtain⟨A2,n2,c2,rfl⟩:=eI D
       have KB:=hI (kE (B':=w.heap.size) O8.o O (by omega) (by simp;omega))
       have c9:=crZ VO 4 rfl
       have f9:=fzZ VO 4
       clear D O
       go_wp2_with fail
       go_roundw
       case rel=>
        refine⟨j+1,.slice A2 n2 c2,rows++[[.int .i64 z.at_,.int .i64 z.steps,.slice A8 z.sets.length n8,.slice A9 z.makes.length n9]],by go_num,by omega,by simp;omega,?_,?_,?_,?_,?_,?_,?_,?_⟩
        ·show _=_
         rw[heap_setCell_other h8 _ _ _ (by show _≠w.heap.size+1+1+1;omega)];exact V0.o
        ·show _=_
         rw[heap_setCell_other h8 _ _ _ (by show _≠w.heap.size+1+1+1;omega)];exact V1.o
        ·show _=_
         rw[heap_setCell_same h8 (w.heap.size+1+1+1) 4 _ _ _ VO.o];rfl
        ·exact cY VI.o VO.o (by decide) _ _
        ·have e8:(rows++[([.int .i64 z.at_,.int .i64 z.steps,.slice A8 z.sets.length n8,.slice A9 z.makes.length n9]:List Value)]).flatMap id=rows.flatMap id++[.int .i64 z.at_,.int .i64 z.steps,.slice A8 z.sets.length n8,.slice A9 z.makes.length n9]:=by simp
         show World.ownsRow _ _ _ _ _ _ _
         rw[e8]
         exact cY O9.o VO.o (by decide) _ _
        ·intro i x hx
         rw[jJ HY.o] at hx
         have Z5:(t.exits.take j).length=j:=by rw[List.length_take];omega
         rcases Nat.lt_or_ge i j with hi | hi
         ·rw[List.getElem?_append_left (by omega)] at hx
          obtain⟨c,h1,h2,h3⟩:=VT.o i x hx
          exact⟨c,by rw[List.getElem?_append_left (by omega)];exact h1,h2,h3.set_ VO.o (by decide) (by decide) (by decide) _ _⟩
         ·rw[List.getElem?_append_right (by omega)] at hx
          have O0:i - (t.exits.take j).length=0:=by
           have:=(lE hx).1
           simp only[List.length_cons,List.length_nil] at this;omega
          rw[O0] at hx
          obtain rfl:y=x:=by simpa using hx
          refine⟨_,?_,rfl,by rw[HZ.o];exact(VX.o.more (by omega)).set_ VO.o (by decide) (by decide) (by decide) _ _⟩
          rw[List.getElem?_append_right (by omega),show i - rows.length=0 by omega];rfl
        ·have h9:=VC.o.set_far VO.o (by omega) (by decide) 4 (.slice A2 n2 c2)
         rw[jJ HY.o,List.all_append]
         exact hI (by simpa [Bool.and_assoc] using h9)
        ·exact ak2 (((AB.o.trans (A.o.under (by omega) (by have:=AB.o.size;omega))).alloc (by have:=AB.o.size;have:=A.o.size;omega) _).trans KB.o) (by omega) _ _
       case measure=>simp[RowKit.intOf];omega
      ·obtain rfl:j=t.exits.length:=by omega
       have J7:¬(t.exits.length:Int)<t.exits.length:=by omega
       obtain⟨A5,n5,rfl⟩:=aeN OX.o
       have FA:Hid (cK H (w.heap.size+1+1) tv S.at_ (S.fine && t.exits.all (dF S.at_))):=by
        have h1:=SC.o
        rw[fT (Nat.le_refl _)] at h1
        exact h1
       have F3:Hid (aW H (w.heap.size+1+1+1) 32 4 (cR H (w.heap.size+1+1+1)) (.slice A5 t.exits.length n5) (t.exits.map (dM S.at_))):=by
        have hm:=XS.o
        rw[fT (Nat.le_refl _)] at hm
        have v0:∀r∈rows,r.length=4:=λr hr=>by
         obtain⟨i,hi⟩:=List.getElem?_of_mem hr
         have Z6:=(lE hi).1
         obtain⟨c,h1,h2,_⟩:=hm i _ (lG (by omega))
         rw[hi] at h1;injection h1 with h1;rw[h1];exact h2
        refine akU (rows:=rows) (gM (f:=id) (by decide) v0 (λr hr=>⟨rfl,v0 r hr⟩) (by rw[G4];exact OX.o)) (by rw[List.length_map];exact G4) (λi m' H0=>?_)
        rw[List.getElem?_map] at H0
        obtain⟨m0,h0,rfl⟩:=Option.map_eq_some_iff.1 H0
        obtain⟨c,h1,_,h3⟩:=hm i m0 h0
        exact⟨c,h1,h3⟩
       obtain⟨ct,cb,G7,G8,et,eb⟩:=bI.at59 HT.o
       have ET:=hI et
       have EB:=hI eb
       obtain⟨s1,m1,rfl,S3,S4,-⟩:=et
       obtain⟨s2,m2,rfl,S5,S6,-⟩:=eb
       obtain⟨ST,v4,rfl,-⟩:=S3
       obtain⟨MT,v5,rfl,-⟩:=S4
       obtain⟨SB,v9,rfl,-⟩:=S5
       obtain⟨MB,w0,rfl,-⟩:=S6
       have F4:Hid (∀E:jW (w.heap.size+1+1) H,E.wd.rangeAt w.heap.size 5 [.int .i64 t.turn.at_,.int .i64 t.turn.steps,.slice ST t.turn.sets.length v4,.slice MT t.turn.makes.length v5]):=λE a v hv=>E.cell (ak3 R0.o (5+a) v (G7 a v hv)) (by show w.heap.size≠w.heap.size+1+1;omega)
       have F5:Hid (∀E:jW (w.heap.size+1+1) H,E.wd.rangeAt w.heap.size 9 [.int .i64 t.back.at_,.int .i64 t.back.steps,.slice SB t.back.sets.length v9,.slice MB t.back.makes.length w0]):=λE a v hv=>E.cell (ak3 R0.o (9+a) v (G8 a v hv)) (by show w.heap.size≠w.heap.size+1+1;omega)
       have F6:Hid ((prog.info? 32).map (·.size)=some ([.int .i64 t.turn.at_,.int .i64 t.turn.steps,.slice ST t.turn.sets.length v4,.slice MT t.turn.makes.length v5]:List Value).length):=mH
       have F7:Hid ((prog.info? 32).map (·.size)=some ([.int .i64 t.back.at_,.int .i64 t.back.steps,.slice SB t.back.sets.length v9,.slice MB t.back.makes.length w0]:List Value).length):=mH
       obtain⟨l,n6⟩:∃z,dM S.at_ t.turn=z:=⟨_,rfl⟩
       obtain⟨q,n7⟩:∃z,dM S.at_ t.back=z:=⟨_,rfl⟩
       have F8:=hI n6
       have F9:=hI n7
       have O1:Hid (Calls prog 55 #[.pointer (some ⟨w.heap.size+1+1,0,none⟩),.agg #[.int .i64 t.turn.at_,.int .i64 t.turn.steps,.slice ST t.turn.sets.length v4,.slice MT t.turn.makes.length v5]] H.drew (λe w'=>∃cs,e=.returned (.agg ⟨cs⟩)/\cR w' H.drew.heap.size cs l/\cK w' (w.heap.size+1+1) tv S.at_ (S.fine && t.exits.all (dF S.at_) && dF S.at_ t.turn)/\aV (w.heap.size+1+1) H.drew w')):=by
        rw[<-n6]
        exact adO _ _ _ _ _ t.turn H.drew (FA.o.fined ((aV.refl _ H).drew) rfl) (ET.o.keep I.o.size (λ_ hp=>I.o.cell hp)) (by have:=h5.o.turn.1;omega) (by have:=h5.o.turn.2.1;omega) (λm hm=>by have:=h5.o.turn.2.2 m hm;omega)
       have G0:Hid (∀W,Below w.heap.size w W->cK W (w.heap.size+1+1) tv S.at_ (S.fine && t.exits.all (dF S.at_) && dF S.at_ t.turn)->Calls prog 55 #[.pointer (some ⟨w.heap.size+1+1,0,none⟩),.agg #[.int .i64 t.back.at_,.int .i64 t.back.steps,.slice SB t.back.sets.length v9,.slice MB t.back.makes.length w0]] W (λe w'=>∃cs,e=.returned (.agg ⟨cs⟩)/\cR w' W.heap.size cs q/\cK w' (w.heap.size+1+1) tv S.at_ (S.fine && t.exits.all (dF S.at_) && dF S.at_ t.turn && dF S.at_ t.back)/\aV (w.heap.size+1+1) W w')):=λW hW hC=>by
        rw[<-n7]
        exact adO _ _ _ _ _ t.back W hC (EB.o.keep hW.size (λ_ hp=>hW.cell hp)) (by have:=h5.o.back.1;omega) (by have:=h5.o.back.2.1;omega) (λm hm=>by have:=h5.o.back.2.2 m hm;omega)
       clear G7 G8 n6 n7 OX XS SC QE
       go_upto_region 29 with fail
       go_cut [] (λwx=>∃P R X Y Z a0 a1 a2,Hid (sU w tv S t a9 A1 c1 A5 n5 [.int .i64 l.at_,.int .i64 l.steps,.slice P l.sets.length R,.slice X l.makes.length Y] [.int .i64 q.at_,.int .i64 q.steps,.slice Z q.sets.length a0,.slice a1 q.makes.length a2] l q wx))
       case first=>
        refine fS (λw'=>∃E:jW (w.heap.size+1+1) H,w'=E.wd) [0,1,2,4,5,6] [3,8] 6 #[true,true,true,false,true,true,true,false,false,false,false,false] _ (by kernel_rfl) (by kernel_rfl) (by simp only[List.filterMap_cons,List.filterMap_nil,List.getElem?_toArray,List.getElem?_cons_zero,List.getElem?_cons_succ];rfl) (λ_ _ d _ _ h=>by cases d <;> exact h) ⟨⟨_,(aV.refl _ H).drew⟩,rfl⟩ ?_
        generalize c0:(λa'=>dH _ _ _ _ _ _ _ _ a' _)=qq
        have b6:=hI c0
        clear c0
        show wpQuiet _ _ _ _ [_,_,_,_,_,_] _
        repeat (first
         | (refine iI 32 _ rfl rfl w.heap.size 5 rfl [.int .i64 t.turn.at_,.int .i64 t.turn.steps,.slice ST t.turn.sets.length v4,.slice MT t.turn.makes.length v5] _ F4.o underlying32 rfl F6.o ?_;go_simp)
         | (refine iI 32 _ rfl rfl w.heap.size 9 rfl [.int .i64 t.back.at_,.int .i64 t.back.steps,.slice SB t.back.sets.length v9,.slice MB t.back.makes.length w0] _ F5.o underlying32 rfl F7.o ?_;go_simp)
         | go_big_quiet_step (fail))
        refine wpQuiet_nil ?_
        rw[<-b6.o]
        clear b6 qq F4 F5 F6 F7
        refine j9 (i:=3) (by kernel_rfl) rfl (λK G=>?_)
        go_simp
        refine O1.o.mono ?_
        rintro e N ⟨Ad,rfl,G9,c8,k8⟩
        have G1:=hI G9
        obtain⟨s8,m8,rfl,B9,C0,-⟩:=G9
        obtain⟨P,R,rfl,-⟩:=B9
        obtain⟨X,Y,rfl,-⟩:=C0
        have C8:=hI c8
        have A:Hid (aV (w.heap.size+1+1) H N):=(aV.refl _ H).drew.trans k8
        clear c8 k8
        refine G _ _ (λ_=>⟨⟨N,A.o⟩,rfl⟩) ?_
        clear G K
        refine lR (i:=7) (k:=8) (by kernel_rfl) rfl rfl (λK G=>?_) (λK G=>?_)
        ·go_simp
         refine(G0.o N (I.o.trans (A.o.under (by omega) I.o.size)) C8.o).mono ?_
         rintro e w9 ⟨S8,rfl,q5,c9,k9⟩
         have y6:=hI q5
         obtain⟨s9,m9,rfl,v1,C1,-⟩:=q5
         obtain⟨Z,a0,rfl,-⟩:=v1
         obtain⟨a1,a2,rfl,-⟩:=C1
         have C9:=hI c9
         have K9:=hI k9
         clear c9 k9
         refine G _ _ (λh=>by cases h) ?_
         clear G K
         refine cT [8,9,10,11] _ _ _ (by kernel_rfl) ?_
         refine aR rfl (λK G=>?_)
         go_simp
         refine G _ _ (λ_=>⟨⟨w9,A.o.trans K9.o⟩,rfl⟩) ?_
         clear G K
         refine bG [9,10,11] _ _ (by kernel_rfl) (by kernel_rfl) ?_
         simp only[List.filterMap_cons,List.filterMap_nil,List.getElem?_toArray,List.getElem?_cons_zero,List.getElem?_cons_succ]
         have D0:=hI (K9.o.row (A.o.row M.o (by omega)) (by omega))
         have y7:=hI (rY (o:=5) (n:=4) D0.o (by simp))
         refine wpList_store_mid rfl 32 _ _ rfl (w.heap.size+1+1+1) 5 #[.int .i64 l.at_,.int .i64 l.steps,.slice P l.sets.length R,.slice X l.makes.length Y] rfl rfl y7.o mH (oCz (by simp[Value.oneCell'])) ?_
         have z0:=hI (rY (o:=9) (n:=4) (jR (g:=w.heap.size+1+1+1) [.int .i64 l.at_,.int .i64 l.steps,.slice P l.sets.length R,.slice X l.makes.length Y] 5 w9 _ D0.o) (by rw[o5];simp))
         refine wpList_plain rfl (λK G=>?_)
         go_simp
         refine G _ _ ?_
         clear G K
         refine wpList_store_mid rfl 32 _ _ rfl (w.heap.size+1+1+1) 9 #[.int .i64 q.at_,.int .i64 q.steps,.slice Z q.sets.length a0,.slice a1 q.makes.length a2] rfl rfl z0.o mH (oCz (by simp[Value.oneCell'])) ?_
         generalize q7:World.setCells _ _ _ _=wz
         have EN:Hid (sU w tv S t a9 A1 c1 A5 n5 [.int .i64 l.at_,.int .i64 l.steps,.slice P l.sets.length R,.slice X l.makes.length Y] [.int .i64 q.at_,.int .i64 q.steps,.slice Z q.sets.length a0,.slice a1 q.makes.length a2] l q wz):=by
          rw[<-q7]
          refine sU.make D0.o C9.o (K9.o.row (A.o.row R1.o (by omega)) (by omega)) (K9.o.own (A.o.own OI.o (by omega)) (by omega)) ((K9.o.ty (A.o.ty F3.o (by omega)) (by omega)).keep (λ_ _ _ _ _=>rfl) (λ_ _ h=>(h.fin A.o (by omega)).fin K9.o (by omega))) ((G1.o.fin K9.o (by have:=A.o.size;show _<H.heap.size;omega)).more (show w.heap.size+1+1+1<=H.heap.size by omega)) (y6.o.more (show w.heap.size+1+1+1<=N.heap.size by have:=A.o.size;omega)) ((I.o.trans (A.o.under (by omega) I.o.size)).trans (K9.o.under (by omega) (Nat.le_trans I.o.size A.o.size)))
         clear q7
         go_wp2_with fail
         go_meet
         case rel=>exact⟨P,R,X,Y,Z,a0,a1,a2,EN⟩
        ·go_simp
         refine G _ _ (λ_=>⟨⟨N,A.o⟩,rfl⟩) ?_
         clear G K
         refine cT [7,9,10,11] _ _ _ (by kernel_rfl) ?_
         refine aR rfl (λK G=>?_)
         go_simp
         refine(G0.o N (I.o.trans (A.o.under (by omega) I.o.size)) C8.o).mono ?_
         rintro e w9 ⟨S8,rfl,q5,c9,k9⟩
         have y6:=hI q5
         obtain⟨s9,m9,rfl,v1,C1,-⟩:=q5
         obtain⟨Z,a0,rfl,-⟩:=v1
         obtain⟨a1,a2,rfl,-⟩:=C1
         have C9:=hI c9
         have K9:=hI k9
         clear c9 k9
         refine G _ _ (λh=>by cases h) ?_
         clear G K
         refine bG [9,10,11] _ _ (by kernel_rfl) (by kernel_rfl) ?_
         simp only[List.filterMap_cons,List.filterMap_nil,List.getElem?_toArray,List.getElem?_cons_zero,List.getElem?_cons_succ]
         have D0:=hI (K9.o.row (A.o.row M.o (by omega)) (by omega))
         have y7:=hI (rY (o:=5) (n:=4) D0.o (by simp))
         refine wpList_store_mid rfl 32 _ _ rfl (w.heap.size+1+1+1) 5 #[.int .i64 l.at_,.int .i64 l.steps,.slice P l.sets.length R,.slice X l.makes.length Y] rfl rfl y7.o mH (oCz (by simp[Value.oneCell'])) ?_
         have z0:=hI (rY (o:=9) (n:=4) (jR (g:=w.heap.size+1+1+1) [.int .i64 l.at_,.int .i64 l.steps,.slice P l.sets.length R,.slice X l.makes.length Y] 5 w9 _ D0.o) (by rw[o5];simp))
         refine wpList_plain rfl (λK G=>?_)
         go_simp
         refine G _ _ ?_
         clear G K
         refine wpList_store_mid rfl 32 _ _ rfl (w.heap.size+1+1+1) 9 #[.int .i64 q.at_,.int .i64 q.steps,.slice Z q.sets.length a0,.slice a1 q.makes.length a2] rfl rfl z0.o mH (oCz (by simp[Value.oneCell'])) ?_
         generalize q7:World.setCells _ _ _ _=wz
         have EN:Hid (sU w tv S t a9 A1 c1 A5 n5 [.int .i64 l.at_,.int .i64 l.steps,.slice P l.sets.length R,.slice X l.makes.length Y] [.int .i64 q.at_,.int .i64 q.steps,.slice Z q.sets.length a0,.slice a1 q.makes.length a2] l q wz):=by
          rw[<-q7]
          refine sU.make D0.o C9.o (K9.o.row (A.o.row R1.o (by omega)) (by omega)) (K9.o.own (A.o.own OI.o (by omega)) (by omega)) ((K9.o.ty (A.o.ty F3.o (by omega)) (by omega)).keep (λ_ _ _ _ _=>rfl) (λ_ _ h=>(h.fin A.o (by omega)).fin K9.o (by omega))) ((G1.o.fin K9.o (by have:=A.o.size;show _<H.heap.size;omega)).more (show w.heap.size+1+1+1<=H.heap.size by omega)) (y6.o.more (show w.heap.size+1+1+1<=N.heap.size by have:=A.o.size;omega)) ((I.o.trans (A.o.under (by omega) I.o.size)).trans (K9.o.under (by omega) (Nat.le_trans I.o.size A.o.size)))
         clear q7
         go_wp2_with fail
         go_meet
         case rel=>exact⟨P,R,X,Y,Z,a0,a1,a2,EN⟩
       case rest=>
        obtain⟨we,S7⟩:∃we,we=wc:=⟨_,rfl⟩
        subst S7
        obtain⟨P,R,X,Y,Z,a0,a1,a2,EN⟩:=hcut
        obtain⟨fb,C2⟩:∃b,(S.fine && t.exits.all (dF S.at_) && dF S.at_ t.turn && dF S.at_ t.back)=b:=⟨_,rfl⟩
        have HM:Hid (g9 t tl=if fb then(bK t S,0) else(mT,3)):=by
         unfold g9 Hid
         rw[if_neg (λh=>h x5.o),HC.o,<-C2]
        have Z7:w.heap.size+1+1+1<we.heap.size:=(aE EN.o.row).1
        have fc:we.cell? ⟨w.heap.size+1+1,1,none⟩=some (.bool fb):=by rw[<-C2];exact cell_of_row we _ 1 _ _ _ EN.o.cut.here
        have z3:=hI EN.o.zero
        have KN:=hI EN.o.below
        have O4:Hid (we.heap[w.heap.size+1+1+1]? = some (.cells #[.int .i64 t.fn,.int .i64 t.at_,.int .i64 a9,.slice A1 S.ins.length c1,.slice A5 t.exits.length n5,.int .i64 l.at_,.int .i64 l.steps,.slice P l.sets.length R,.slice X l.makes.length Y,.int .i64 q.at_,.int .i64 q.steps,.slice Z q.sets.length a0,.slice a1 q.makes.length a2] 34 (0,0))):=EN.o.row
        clear C2 R0 R1 M OI I
        cases fb
        case false=>
         have HN:Hid (g9 t tl=(mT,3)):=HM.o
         have z4:Hid (we.heap[w.heap.size+1]? = some (.cells #[.int .i64 0,.int .i64 0,.int .i64 0,.slice none 0 0,.slice none 0 0,.int .i64 0,.int .i64 0,.slice none 0 0,.slice none 0 0,.int .i64 0,.int .i64 0,.slice none 0 0,.slice none 0 0] 34 (0,0))):=z3.o
         go_wp2_with (refine wpList_store_row rfl 34 _ _ rfl (w.heap.size+1) #[.int .i64 0,.int .i64 0,.int .i64 0,.slice none 0 0,.slice none 0 0,.int .i64 0,.int .i64 0,.slice none 0 0,.slice none 0 0,.int .i64 0,.int .i64 0,.slice none 0 0,.slice none 0 0] rfl rfl 34 _ z4.o iG rfl (oCz (by simp[Value.oneCell'])) ?_)
         generalize a4:World.setRow _ _ _=w9
         have p:Hid (w9.heap[w.heap.size+1]? = some (.cells #[.int .i64 0,.int .i64 0,.int .i64 0,.slice none 0 0,.slice none 0 0,.int .i64 0,.int .i64 0,.slice none 0 0,.slice none 0 0,.int .i64 0,.int .i64 0,.slice none 0 0,.slice none 0 0] 34 (0,0))):=by rw[<-a4];exact setRow_heap _ _ _ _ _ _ z4.o
         have K9:Hid (Below w.heap.size w w9):=by rw[<-a4];exact Below.set_row KN.o (by omega) _
         clear a4
         go_wp2_with fail
         have r0:=crZ p 0 rfl
         have r1:=crZ p 1 rfl
         have r2:=crZ p 2 rfl
         have r3:=crZ p 3 rfl
         have r4:=crZ p 4 rfl
         have r5:=crZ p 5 rfl
         have r6:=crZ p 6 rfl
         have r7:=crZ p 7 rfl
         have r8:=crZ p 8 rfl
         have r9:=crZ p 9 rfl
         have j0:=crZ p 10 rfl
         have j1:=crZ p 11 rfl
         have j2:=crZ p 12 rfl
         unfold jX
         rw[HN.o]
         refine bodyPost_ret (v:=.tuple #[.agg ⟨bY⟩,.int .i64 3]) (by simp[results,results24,go_sem,bY,r0,r1,r2,r3,r4,r5,r6,r7,r8,r9,j0,j1,j2]) rfl ⟨_,rfl,fR _ _,K9.o,λ_ _=>fR _ _⟩
        case true=>
         have HN:Hid (g9 t tl=(bK t S,0)):=HM.o
         have LT:Hid ((prog.info? 34).map (·.size)=some ([.int .i64 t.fn,.int .i64 t.at_,.int .i64 a9,.slice A1 S.ins.length c1,.slice A5 t.exits.length n5,.int .i64 l.at_,.int .i64 l.steps,.slice P l.sets.length R,.slice X l.makes.length Y,.int .i64 q.at_,.int .i64 q.steps,.slice Z q.sets.length a0,.slice a1 q.makes.length a2]:List Value).length):=iG
         have RG:=rrZ O4
         go_upto_region 32 with fail
         clear fc
         go_wp2_with (first
          | (refine wpList_load_mid rfl 34 _ rfl (w.heap.size+1+1+1) 0 rfl [.int .i64 t.fn,.int .i64 t.at_,.int .i64 a9,.slice A1 S.ins.length c1,.slice A5 t.exits.length n5,.int .i64 l.at_,.int .i64 l.steps,.slice P l.sets.length R,.slice X l.makes.length Y,.int .i64 q.at_,.int .i64 q.steps,.slice Z q.sets.length a0,.slice a1 q.makes.length a2] _ RG.o underlying34 rfl LT.o ?_)
          | (refine wpList_store_row rfl 34 _ _ rfl (w.heap.size+1) #[.int .i64 t.fn,.int .i64 t.at_,.int .i64 a9,.slice A1 S.ins.length c1,.slice A5 t.exits.length n5,.int .i64 l.at_,.int .i64 l.steps,.slice P l.sets.length R,.slice X l.makes.length Y,.int .i64 q.at_,.int .i64 q.steps,.slice Z q.sets.length a0,.slice a1 q.makes.length a2] rfl rfl 34 _ z3.o iG rfl (oCz (by simp[Value.oneCell'])) ?_)
          | fail)
         generalize a4:World.setRow _ _ _=w9
         have p:=shZ a4 z3
         have K9:Hid (Below w.heap.size w w9):=by rw[<-a4];exact Below.set_row KN.o (by omega) _
         have TR:Hid (bI w9 w9.heap.size [.int .i64 t.fn,.int .i64 t.at_,.int .i64 a9,.slice A1 S.ins.length c1,.slice A5 t.exits.length n5,.int .i64 l.at_,.int .i64 l.steps,.slice P l.sets.length R,.slice X l.makes.length Y,.int .i64 q.at_,.int .i64 q.steps,.slice Z q.sets.length a0,.slice a1 q.makes.length a2] (bK t S)/\∀w2:World,(∀k,w.heap.size<=k->k<w9.heap.size->w2.heap[k]? = w9.heap[k]?)->bI w2 w2.heap.size [.int .i64 t.fn,.int .i64 t.at_,.int .i64 a9,.slice A1 S.ins.length c1,.slice A5 t.exits.length n5,.int .i64 l.at_,.int .i64 l.steps,.slice P l.sets.length R,.slice X l.makes.length Y,.int .i64 q.at_,.int .i64 q.steps,.slice Z q.sets.length a0,.slice a1 q.makes.length a2] (bK t S)):=by
          have hl:(bK t S).loop=a9:=by unfold bK;dsimp only;rw[F1.o,F0.o]
          obtain⟨-,-,-,z5,z6,-⟩:=bI.at012 HT.o
          have G2:wfi t.fn/\wfi t.at_/\wfi a9:=⟨z5,z6,by have:=N4.o;unfold wfi;omega⟩
          have G3:∀k,w.heap.size+1+1+1<=k->w9.heap[k]? = we.heap[k]?:=λk hk=>by rw[<-a4];exact setRow_other _ _ _ _ (by omega)
          have v1:w9.heap.size=we.heap.size:=by rw[<-a4,size_setRow]
          exact⟨EN.o.trace SW.o F8.o F9.o hl G2 (λk hk _=>G3 k hk),λw2 h2=>EN.o.trace SW.o F8.o F9.o hl G2 (λk hk Af=>(h2 k (by omega) (by omega)).trans (G3 k hk))⟩
         clear a4
         go_wp2_with fail
         have r0:=crZ p 0 rfl
         have r1:=crZ p 1 rfl
         have r2:=crZ p 2 rfl
         have r3:=crZ p 3 rfl
         have r4:=crZ p 4 rfl
         have r5:=crZ p 5 rfl
         have r6:=crZ p 6 rfl
         have r7:=crZ p 7 rfl
         have r8:=crZ p 8 rfl
         have r9:=crZ p 9 rfl
         have j0:=crZ p 10 rfl
         have j1:=crZ p 11 rfl
         have j2:=crZ p 12 rfl
         unfold jX
         rw[HN.o]
         refine bodyPost_ret (v:=.tuple #[.agg ⟨[.int .i64 t.fn,.int .i64 t.at_,.int .i64 a9,.slice A1 S.ins.length c1,.slice A5 t.exits.length n5,.int .i64 l.at_,.int .i64 l.steps,.slice P l.sets.length R,.slice X l.makes.length Y,.int .i64 q.at_,.int .i64 q.steps,.slice Z q.sets.length a0,.slice a1 q.makes.length a2]⟩,.int .i64 0]) (by simp[results,results24,go_sem,r0,r1,r2,r3,r4,r5,r6,r7,r8,r9,j0,j1,j2]) rfl ⟨_,rfl,TR.o.1,K9.o,TR.o.2⟩
theorem cut_go (d:List Value) (t:aH) (v:Value) (tl:List Int) (w:World) (ht:bI w w.heap.size d t) (j:aB w w.heap.size 1 gB v tl) (f:tl.length=t.ins.length) (g:aa1 t) : Calls prog 24 #[.agg ⟨d⟩,v] w (sV t tl w):= (cut_go2 d t v tl w ht j f g).mono λ_ _ h=>h.one
end
end Go.Proofs.YtijihlcdhppfgaaGreatDoor
