/- Part of the walk of the given code: contracts, and plain laws. -/
import Derived.Test.YtijihlcdhppfgaaGreatDoorZCI
import Derived.Test.YtijihlcdhppfgaaGreatDoorXR
import Derived.Test.YtijihlcdhppfgaaGreatDoorXH
import Derived.Test.YtijihlcdhppfgaaGreatDoorXM
import Derived.Test.YtijihlcdhppfgaaGreatDoorZCJ
set_option maxHeartbeats 16000000
set_option maxRecDepth 100000
set_option linter.all false
namespace Go.Proofs.YtijihlcdhppfgaaGreatDoor
section
open Go.RowKit
namespace Bx
variable {P:Program} {ops:Array Oper} {rest:List Oper} {a:Act} {w0 w:World} {Q:Exit→Act→World→Prop} {l l':List (Nat×List Value×TypeId)} {g:Nat} {cs:List Value} {t:TypeId} {dst:Option Nat} {tt:TypeId} {ps:String} {af:Array Edge}
theorem Ld {ty:TypeId} {x:Operand} {d:TypeDesc} (X:Bx w0 w l) (h:wpList P ops Q rest (a.put dst (.agg cs.toArray)) w) (hx:a.eval x=.pointer (some ⟨g,0,none⟩):=by rfl)
  (hm:In3 g cs t l:=by repeat (first | exact .hd _ | apply In3.tl)) (hu:P.underlying ty=some d:=by rfl) (hd:d.isRow=true:=by rfl) (hi:(P.info? ty).map (·.size)=some cs.length:=by kernel_rfl):wpList P ops Q (⟨dst,.load ty x,tt,ps,af,none⟩::rest) a w:=
 ldr (X.rg hm) h hi rfl rfl hx hu hd
theorem L1 {ty:TypeId} {x:Operand} {d:TypeDesc} {v:Value} {j:Nat} (X:Bx w0 w l) (h:wpList P ops Q rest (a.put dst v) w) (hx:a.eval x=.pointer (some ⟨g,j,none⟩):=by rfl)
  (hu:P.underlying ty=some d:=by rfl) (hd:d.isRow=false:=by rfl) (hm:In3 g cs t l:=by repeat (first | exact .hd _ | apply In3.tl)) (hj:cs[j]? = some v:=by rfl):wpList P ops Q (⟨dst,.load ty x,tt,ps,af,none⟩::rest) a w:=
 l1 X h rfl rfl hx hu hd hm hj
theorem L1g {ty:TypeId} {x:Operand} {d:TypeDesc} {v:Value} {j:Nat} {gd} (X:Bx w0 w l) (h:wpList P ops Q rest (a.put dst v) w)
  (hgd:Region.wanted ⟨dst,.load ty x,tt,ps,af,some gd⟩ (yielded ops a.tmps)=true:=by first | rfl | simp[Region.wanted,yielded, *]) (hx:a.eval x=.pointer (some ⟨g,j,none⟩):=by rfl)
  (hu:P.underlying ty=some d:=by rfl) (hd:d.isRow=false:=by rfl) (hm:In3 g cs t l:=by repeat (first | exact .hd _ | apply In3.tl)) (hj:cs[j]? = some v:=by rfl):wpList P ops Q (⟨dst,.load ty x,tt,ps,af,some gd⟩::rest) a w:=
 l1g X h rfl hgd hx hu hd hm hj
theorem Sta {ty:TypeId} {x y:Operand} {cs':List Value} (X:Bx w0 w l) (h:∀w',Bx w0 w' ((w.heap.size,cs',t)::l)→Below w.heap.size w w'→wpList P ops Q rest (a.put dst undef) w')
  (hx:a.eval x=.pointer (some ⟨w.heap.size,0,none⟩):=by rfl) (hy:a.eval y=.agg ⟨cs'⟩:=by rfl)
  (hi:(P.info? ty).map (·.size)=some cs'.length:=by kernel_rfl) (hl:cs.length=cs'.length:=by rfl) (h1:cs'.all (·.oneCell')=true:=by simp[Value.oneCell']):wpList P ops Q (⟨dst,.store ty x y,tt,ps,af,none⟩::rest) a (w.alloc (.cells ⟨cs⟩ t)):=
 sta X h rfl rfl hx hy hi hl h1
theorem St {ty:TypeId} {x y:Operand} {cs':List Value} (X:Bx w0 w l) (h:∀w',Bx w0 w' l'→wpList P ops Q rest (a.put dst undef) w')
  (hx:a.eval x=.pointer (some ⟨g,0,none⟩):=by rfl) (hy:a.eval y=.agg ⟨cs'⟩:=by rfl)
  (hm:St3 g cs cs' t l l':=by repeat (first | exact .hd _ | apply St3.tl)) (hi:(P.info? ty).map (·.size)=some cs'.length:=by kernel_rfl) (hl:cs.length=cs'.length:=by rfl)
  (h1:cs'.all (·.oneCell')=true:=by simp[Value.oneCell']):wpList P ops Q (⟨dst,.store ty x y,tt,ps,af,none⟩::rest) a w:=
 st X h rfl rfl hx hy hm hi hl h1
theorem StR {ty:TypeId} {x y:Operand} {cs':List Value} (X:Bx w0 w l) (h:Bx w0 (w.setRow g ⟨cs'⟩) l'→wpList P ops Q rest (a.put dst undef) (w.setRow g ⟨cs'⟩))
  (hx:a.eval x=.pointer (some ⟨g,0,none⟩):=by rfl) (hy:a.eval y=.agg ⟨cs'⟩:=by rfl)
  (hm:St3 g cs cs' t l l':=by repeat (first | exact .hd _ | apply St3.tl)) (hi:(P.info? ty).map (·.size)=some cs'.length:=by kernel_rfl) (hl:cs.length=cs'.length:=by rfl)
  (h1:cs'.all (·.oneCell')=true:=by simp[Value.oneCell']):wpList P ops Q (⟨dst,.store ty x y,tt,ps,af,none⟩::rest) a w:=
 wpList_store_row rfl ty x y rfl g ⟨cs'⟩ hx hy t ⟨cs⟩ (X.at_ _ _ _ hm.i).2 hi hl (by simpa using h1)
  (h (X.set hm ⟨rfl,rfl,rfl,by simp[World.setRow]⟩ (setRow_heap _ _ _ _ _ _ (X.at_ _ _ _ hm.i).2) (fun q hq=>setRow_other _ _ _ _ hq)))
theorem S1 {ty:TypeId} {x y:Operand} {cs':List Value} {v:Value} {j:Nat} (X:Bx w0 w l) (h:∀w',Bx w0 w' l'→wpList P ops Q rest (a.put dst undef) w')
  (hx:a.eval x=.pointer (some ⟨g,j,none⟩):=by rfl) (hy:a.eval y=v:=by rfl)
  (hv:v.oneCell'=true:=by rfl) (hi:(P.info? ty).map (·.size)=some 1:=by kernel_rfl)
  (hc:In3 g cs t l:=by repeat (first | exact .hd _ | apply In3.tl)) (hs:St1 v j cs cs':=by repeat (first | exact .hd _ _ | apply St1.tl))
  (hm:St3 g cs cs' t l l':=by repeat (first | exact .hd _ | apply St3.tl)):wpList P ops Q (⟨dst,.store ty x y,tt,ps,af,none⟩::rest) a w:=
 s1 X h rfl rfl hx hy hv hi hc hs hm
end Bx
end
section
open Go.RowKit Go.Maps
set_option maxHeartbeats 8000000
set_option maxRecDepth 100000
theorem azA {v:Value} : ∀(cs:List Value) (j:Nat),j<cs.length→St1 v j cs (cs.set j v)
 | [],j,h=>absurd h (Nat.not_lt_zero _)
 | u::l,0,_=>.hd u l
 | u::l,j+1,h=>.tl u (azA l j (by simpa using h))
theorem azB {w0 W:World} {l:List (Nat×List Value×TypeId)} {A:Option Addr} {c:Nat} {j:Int} {uI:Value} {cur:List aT} {tl:List Int} (X:Bo w0 W l [⟨3,1,.slice A (tl.length+1) c,tl.length+1,(tl.flatMap fun x=>[.int .i64 x])++[.int .i64 j]⟩,OgJ uI cur]):Bo w0 W l (fos uI (.slice A (tl++[j]).length c) cur (tl++[j])):=by
 unfold fos OgI
 rw[List.length_append,List.flatMap_append]
 exact X
theorem ay4 {P:Program} (t ty e:TypeId) (i:TypeInfo) (ht:P.underlying t=some (.slice e)) (hi:P.info? e=some i) (c:Nat) (W:World) :
  (Builtin.append_ #[t,t] ty #[.slice none 0 0,.slice none 0 c]).run P W=.ok (.slice none 0 0) W:=by
 simp[Builtin.append_,run_underlying ht,sizeOf,typeInfo,hi,Builtin.lenOf,Builtin.firstCells]
theorem azD (pcs ca:List Value) (p:aZ) (t:aH) (w:World) (hp:fL w w.heap.size pcs p) (ht:bI w w.heap.size ca t) (tab:Tab w) :
  Calls Tryz.prog 20 #[.agg ⟨pcs⟩,.agg ⟨ca⟩] w (ay5 p t w):=by
 have HT:=hI ht
 have Ip:=hI hp.size3
 have It:=hI ht.size13
 obtain⟨A0,n0,p3,qi⟩:=ht.at3
 have QI:=hI qi
 have P3:=hI p3
 obtain⟨A1,n1,A2,n2,A3,n3,A4,n4,A5,n5,A6,n6,hca,hm⟩:=ht.cells
 have e3:(.slice A1 t.ins.length n1:Value)=.slice A0 t.ins.length n0:=by
  have:=p3;rw[hca] at this;simpa using this
 injection e3 with e3 _ e4
 subst e3 e4
 have HCA:=hI hca
 have CK:Hid (∀w1,Below w.heap.size w w1→Calls Tryz.prog 13 #[.agg ⟨pcs⟩,.agg ⟨ca⟩] w1 (aK (.int .i64 (alV p t)) w1)):=fun w1 K=>aaW pcs _ p t w1 (hp.below K) (ht.below K) (tab.below K)
 unfold ay5
 obtain⟨ce,hce⟩:∃ce,alV p t=ce:=⟨_,rfl⟩
 rw[hce] at CK ⊢
 have HCE:=hI hce
 clear hp tab hce ht qi p3 hca
 go_enter Tryz.func20,Tryz.ntmps20
 go_upto_region 1 with fail
 generalize h:World.alloc _ _=w1
 have X:=Bx.of3 h
 clear h
 go_wp2_with (first | (refine X.ld (hi:=Ip.out) ?_) | (refine X.ld (hi:=It.out) ?_) | fail)
 go_at_call 13
 refine X.call (CK.out _ X.k) fun w2 X=>?_
 by_cases hc:ce=0
 case neg=>
  have hc':(ce != 0)=true:=by simpa using hc
  have HN:Hid (aoU (ax3 t.ins) ce t=(mT,ce)):=by unfold aoU Hid;rw[if_pos hc]
  go_wp2_with (first | (refine X.St fun _ X=>?_) | fail)
  rw[HN.out]
  refine X.rt2 ⟨bY,rfl,fR _ _,X.k⟩
 subst hc
 have SM:=hI (acC HCE.out)
 have AK:=hI (ayE HCE.out)
 have hlen:=SM.out.ins
 have HM:Hid (aoU (ax3 t.ins) 0 t=g9 (aw6 (ax3 t.ins) t) (awG (ax3 t.ins) t.ins ⟨[],[]⟩).tl):=by unfold aoU Hid;rw[if_neg (by simp)]
 have WI:Hid (∀x∈t.ins,kX x):=fun x hx=>by
  obtain⟨_,h⟩:=QI.out.mem hx
  exact h.2
 have hmi:(t.ins.length:Int)≤300:=by omega
 rw[HCA.out] at X
 go_upto_region 5 with (first | (refine X.Ld ?_) | fail)
 generalize hw:World.alloc _ _=w3
 have X:=(Bo.of X).al1 hw
 rw[←HCA.out] at X
 clear hw CK
 go_cut [] (fun wx=>∃v,Bo w wx ((w2.heap.size,[.int .i64 t.fn,.int .i64 t.at_,.int .i64 t.loop,.slice A1 t.ins.length n1,.slice A2 t.exits.length n2,.int .i64 t.turn.at_,.int .i64 t.turn.steps,.slice A3 t.turn.sets.length n3,.slice A4 t.turn.makes.length n4,.int .i64 t.back.at_,.int .i64 t.back.steps,.slice A5 t.back.sets.length n5,.slice A6 t.back.makes.length n6,.int .i64 t.fn,.int .i64 t.at_,.int .i64 t.loop,v,.slice A2 t.exits.length n2,.int .i64 t.turn.at_,.int .i64 t.turn.steps,.slice A3 t.turn.sets.length n3,.slice A4 t.turn.makes.length n4,.int .i64 t.back.at_,.int .i64 t.back.steps,.slice A5 t.back.sets.length n5,.slice A6 t.back.makes.length n6,.slice none 0 0],108)::_) [OgJ v t.ins])
 case first=>
  cases A1 with
  | none=>
   have e0:t.ins=[]:=by
    rcases Nat.eq_zero_or_pos t.ins.length with h | h
    ·exact List.length_eq_zero_iff.1 h
    ·obtain⟨b,off,x,cs,h,_⟩:=QI.out.at_ (i:=0) h;cases h
   obtain⟨i0,hi0,-⟩:=info_parts av7
   have happ:∀W,(Builtin.append_ #[27,27] 27 #[.slice none 0 0,.slice none 0 n1]).run Tryz.prog W=.ok (.slice none 0 0) W:=fun W=>ay4 _ _ _ _ Tryz.underlying27 hi0 _ W
   have P0:Hid (ca[3]? = some (.slice none 0 n1)):=by have:=P3.out;rw[e0] at this;exact this
   have HN:Hid (OgJ (.slice none 0 0) t.ins=⟨53,8,.slice none 0 0,0,[]⟩):=by rw[e0];rfl
   clear e0
   go_wp2_with (first | (refine X.bx.lo (.tl _ (.tl _ (.hd _))) P0.out ?_) | (refine X.s1o (azA _ 16 (by simp)) (.hd _) fun _ X=>?_) | fail)
   go_meet
   exact⟨.slice none 0 0,by rw[HN.out];exact X.nw _ _⟩
  | some ad=>
   obtain⟨i0,hi0,hy0,hy1,hy2⟩:=info_parts av7
   go_wp2_with (first | (refine X.bx.lo (.tl _ (.tl _ (.hd _))) P3.out ?_) | (at_builtin;refine wpList_append_own _ rfl _ _ 27 rfl w3.heap.size 53 i0 (.agg #[.int .i64 0,.int .i64 0,.int .i64 0,.int .i64 0,.int .i64 0,.int .i64 0,.int .i64 0,.int .i64 0]) 8 64 Tryz.underlying27 hi0 hy0 hy1 hy2 rfl (by decide) (.slice none 0 0) 0 [] rfl (World.ownsRow_nil _ _ _ _) ad t.ins.length n1 (t.ins.flatMap bA) rfl (ayW _) (fun j u hj=>aC X.bx.k (ay8 QI.out j u hj)) ?k3 ?k4 ?k5 ?k6 ?_) | fail)
   case k3=>
    intro u hu
    obtain⟨x,hx,hu⟩:=List.mem_flatMap.1 hu
    exact ai9 x u hu
   case k4=>unfold maxLen;omega
   case k5=>omega
   case k6=>omega
   intro v' w6 hown hg _
   have X:=X.nr (OgJ v' t.ins) ⟨hg.os,hg.tape,hg.output,hg.size,fun k hk=>hg.block k hk (by simp[Value.ownBlock])⟩ (show w6.ownsRow w3.heap.size 53 8 v' t.ins.length (t.ins.flatMap bA) by simpa using hown)
   obtain⟨A',c',rfl⟩:=X.isv (.head _)
   clear hown hg
   go_wp2_with (first | (refine X.s1o (azA _ 16 (by simp)) (.hd _) fun _ X=>?_) | fail)
   go_meet
   exact⟨_,X⟩
 case rest=>
  obtain⟨v,X'⟩:=hcut
  obtain⟨A8,c8,rfl⟩:=X'.isv (.head _)
  have X:Bo w wc _ (fos (.slice A8 t.ins.length c8) (.slice none 0 0) t.ins []):=X'.nw 3 1
  go_wp2_with (first | (refine X.bx.l1 ?_) | fail)
  go_loopw [33] (fun i wr=>∃(j:Nat) (uT:Value) (fcs:List Value),i=.int .i64 j∧j≤t.ins.length∧Hid (fcs.length=27∧fcs.take 13=ca∧(fcs.drop 13).take 13=ca.set 3 (.slice A8 t.ins.length c8)∧fcs[16]? = some (.slice A8 t.ins.length c8)∧fcs[26]? = some uT)∧Bo w wr ((w2.heap.size,fcs,108)::_) (fos (.slice A8 t.ins.length c8) uT ((awG (ax3 t.ins) (t.ins.take j) ⟨[],[]⟩).ins++t.ins.drop j) (awG (ax3 t.ins) (t.ins.take j) ⟨[],[]⟩).tl)) (fun i _=>t.ins.length - (RowKit.intOf i).toNat)
  case atStart=>
   refine⟨0,_,_,rfl,by omega,?_,X⟩
   have HCB:=HCA.out
   exact⟨rfl,by rw[HCB];rfl,by rw[HCB];rfl,rfl,rfl⟩
  case round=>
   clear X X'
   obtain⟨j,uT,fcs,rfl,hj,FA,X⟩:=hrel
   have FI:=hI (axC (ax3 t.ins) AK.out j hj)
   have WS:=hI (ay7 t.ins AK.out hlen WI.out j hj)
   obtain⟨s,hs⟩:∃s,awG (ax3 t.ins) (t.ins.take j) ⟨[],[]⟩=s:=⟨_,rfl⟩
   rw[hs] at X FI WS
   have HS:=hI hs
   have hsl:s.tl.length≤300:=by have:=FI.out.len;omega
   have WT:Hid (∀v∈s.tl,wfi v):=fun v hv=>by
    obtain⟨k,hk⟩:=List.getElem?_of_mem hv
    have:=(lE hk).1
    have:=FI.out.idem k v hk
    unfold wfi;omega
   obtain⟨Au,cu,rfl⟩:=X.isv (.head _)
   obtain⟨f27,f13,fd,f16,f26⟩:=FA.out
   have F26:=hI f26
   have f27':=hI f27
   clear hs
   by_cases hlt:j<t.ins.length
   ·have hji:(j:Int)<t.ins.length:=by omega
    obtain⟨x,hx⟩:∃x,t.ins[j]? = some x:=⟨_,lG hlt⟩
    have WX:=hI (WI.out x (List.mem_of_getElem? hx))
    obtain⟨q1,q2,q3,q4,q5,q6,q7,q8⟩:=ay6 FI.out AK.out hx
    have ST:Hid (awG (ax3 t.ins) (t.ins.take (j+1)) ⟨[],[]⟩=awO (ax3 t.ins) s x):=by rw[←HS.out];exact axE hx _
    have WC:Hid (∀z∈s.ins++t.ins.drop j,kX z):=fun z hz=>(List.mem_append.1 hz).elim (WS.out z) fun h=>WI.out z (List.mem_of_mem_drop h)
    have lc:(s.ins++t.ins.drop j).length=t.ins.length:=by rw[List.length_append,List.length_drop,FI.out.lin];omega
    have WY:Hid (kX (aw5 s x)):=ayZ FI.out WX.out (by omega)
    have WL:Hid (∀v∈s.tl++[(j:Int)],wfi v):=fun v hv=>(List.mem_append.1 hv).elim (WT.out v) fun h=>by rw[List.mem_singleton.1 h];unfold wfi;omega
    have tle:(s.tl++[(j:Int)]).length=s.tl.length+1:=by simp
    generalize s.ins++t.ins.drop j=cur at X q1 q4 q6 q7 q8 WC lc
    generalize aw5 s x=y at q2 q4 q6 q7 q8 WY
    have Q1:=hI q1
    have Q4:=hI q4
    have Q6:=hI q6
    have Q7:=hI q7
    have LC:=hI lc
    have hjl:j<cur.length:=by omega
    have hc3:cur.length≤300:=by omega
    obtain⟨G,cG,e⟩:=X.at0 (.tail _ (.head _)) (show 0<cur.length by omega)
    injection e with e1 e2 e3
    clear e2
    subst e1 e3
    rw[←lc] at X f16 fd
    clear hx q1 q4 q6 q7 f26 lc hlt
    go_upto_region 10 with (first | (refine X.bx.lo (.hd _) F26.out ?_) | (at_builtin;refine X.app qC fun A' c' w6 X=>?_) | (refine X.s1o (azA fcs 26 (by rw[f27'.out];decide)) (.hd _) fun _ X=>?_) | fail)
    (try dsimp only [Act.put])
    rename_i A' c' _ _ _ _
    have X:Bo w _ ((_,fcs.set 26 (.slice A' (s.tl.length+1) c'),_)::_) _:=azB X
    have e26:(fcs.set 26 (.slice A' (s.tl.length+1) c'))[26]? = some (.slice A' (s.tl++[(j:Int)]).length c'):=by rw[List.getElem?_set_self (by rw[f27];decide),tle]
    have e16:(fcs.set 26 (.slice A' (s.tl.length+1) c'))[16]? = some (.slice (some ⟨G,0,none⟩) cur.length c8):=by rw[List.getElem?_set_ne (by decide)];exact f16
    have t13:(fcs.set 26 (.slice A' (s.tl.length+1) c')).take 13=ca:=by rw[List.take_set,List.set_eq_of_length_le (by rw[List.length_take];omega),f13]
    have d13:((fcs.set 26 (.slice A' (s.tl.length+1) c')).drop 13).take 13=ca.set 3 (.slice (some ⟨G,0,none⟩) cur.length c8):=by rw[List.drop_set,if_neg (by decide),List.take_set,List.set_eq_of_length_le (by rw[List.length_take];omega),fd]
    have l27:(fcs.set 26 (.slice A' (s.tl.length+1) c')).length=27:=by rw[List.length_set,f27]
    have hcl:ca.length=13:=by rw[HCA.out];rfl
    have F:Hid (∀l,FB w w2.heap.size ca t (.slice (some ⟨G,0,none⟩) cur.length c8) (.slice A' (s.tl++[(j:Int)]).length c') cur (_::l)):=fun l=>⟨⟨_,.hd l,by rw[hcl];exact t13,e16,e26⟩,HT.out,WC.out,by omega⟩
    have F':Hid (∀l,FB w w2.heap.size ca t (.slice (some ⟨G,0,none⟩) cur.length c8) (.slice A' (s.tl++[(j:Int)]).length c') (cur.set j y) (_::l)):=fun l=>⟨⟨_,.hd l,by rw[hcl];exact t13,e16,e26⟩,HT.out,fun z hz=>(List.mem_or_eq_of_mem_set hz).elim (WC.out z) fun h=>h ▸ WY.out,by rw[List.length_set];omega⟩
    have FF:=hI (And.intro l27 (And.intro t13 (And.intro d13 (And.intro e16 e26))))
    generalize fcs.set 26 (.slice A' (s.tl.length+1) c')=fcs at X F F' FF e26
    have Q2:Hid (∀W,aB W W.heap.size 1 gB (.slice A' (s.tl++[(j:Int)]).length c') (s.tl++[(j:Int)])→_):=fun W h=>fput_c x _ _ W WX.out h q3 (by have:=FI.out.len;omega)
    rw[q2] at Q2
    unfold yA at Q2
    have Q5:=hI q5
    have Q8:=hI q8
    have hjt:(j:Int)<(s.tl++[(j:Int)]).length:=by rw[tle,FI.out.len];omega
    have hjn:j<(s.tl++[(j:Int)]).length:=by omega
    generalize s.tl++[(j:Int)]=TL at X F F' FF Q2 Q5 Q8 WL hjt hjn e26
    have HJ:=hI (fos_j (G:=G) (c:=c8) (uT:=.slice A' TL.length c') (tl:=TL) hjl y)
    clear e16 t13 d13 l27 hcl q2 q3 q5 q8 tle f27 f13 fd f16
    have l16:∀E:Up _,E.to.cell? ⟨w2.heap.size,13+3,none⟩=some (.slice (some ⟨G,0,none⟩) cur.length c8):=fun E=>E.cell ((F.out _).fr X).cI
    have l26:∀E:Up _,E.to.cell? ⟨w2.heap.size,26,none⟩=some (.slice A' TL.length c'):=fun E=>E.cell (X.bx.cl (.hd _) e26)
    have RG:Hid (∀E:Up _,E.to.rangeAt G (j*8) _):=fun E a u hu=>E.cell (((F.out _).fr X).row Q1.out a u hu)
    have PC:Hid (∀E:Up _,_):=fun E=>Q2.out E.to ((X.ints (.head _) WL.out).below E.below)
    clear e26 Q2
    have hji2:(j:Int)<cur.length:=by omega
    refine aU 19 (by kernel_rfl) (by kernel_rfl) ?_
    simp only[List.take_succ_cons,List.take_zero,List.drop_succ_cons,List.drop_zero]
    repeat (first | (refine lqC (fun _ ⟨E,e⟩=>e ▸ RG.out E) ?_;go_simp) | go_big_quiet_step ((go_at_call 50;exact Calls.up (PC.out _))))
    refine wpQuiet_nil ?_
    (first | rintro _ ⟨⟨w5,k5⟩,rfl⟩ | rintro ⟨w5,k5⟩ | (rename_i E;obtain⟨w5,k5⟩:=E))
    (try dsimp only)
    have X:=X.on k5
    clear k5 l16 l26 RG PC
    go_upto_region 11 with (first | (refine X.so HJ.out (fun _ X=>?_) (by simp[bA];omega) (h1:=rfl)) | fail)
    (try dsimp only [Act.put])
    go_wp2_with (first | (go_at_call 51;refine avP (fone_b (F'.out _) X y Q4.out Q5.out Q6.out) fun _ X=>?_) | fail)
    rw[Q7.out,Q8.out] at X
    go_roundw
    case rel=>exact⟨j+1,_,fcs,by go_num,by omega,by rw[←LC.out];exact FF.out,by rw[←LC.out,ST.out];exact X⟩
    case measure=>simp[RowKit.intOf];omega
   ·obtain rfl:j=t.ins.length:=by omega
    have hji:¬(t.ins.length:Int)<t.ins.length:=by omega
    have hsf:awG (ax3 t.ins) t.ins ⟨[],[]⟩=s:=by have:=HS.out;rwa [List.take_length] at this
    rw[List.drop_length,List.append_nil] at X
    have lsi:=FI.out.lin
    have FT:aw6 (ax3 t.ins) t = { t with ins:=s.ins }:=by unfold aw6;rw[hsf]
    have SMZ:aa1 (aw6 (ax3 t.ins) t):=by
     rw[FT]
     exact⟨by show s.ins.length≤300;omega,SM.out.exitsLen,SM.out.exits,SM.out.turn,SM.out.back⟩
    have CC:Hid (∀W l,Bo w W l (fos (.slice A8 t.ins.length c8) (.slice Au s.tl.length cu) s.ins s.tl)→_):=fun W l X=>cut_c (ca.set 3 (.slice A8 t.ins.length c8)) (aw6 (ax3 t.ins) t) (.slice Au s.tl.length cu) s.tl W (by
     rw[FT]
     exact ay9 HT.out X.bx.k.size (fun pp hp'=>X.bx.k.cell hp') (avU (X.ow _ (.tail _ (.head _))) fun b hb=>⟨rfl,rfl,WS.out b hb⟩)) (X.ints (.head _) WT.out) SMZ
    rw[hsf] at HM
    unfold sV at CC
    generalize g9 (aw6 (ax3 t.ins) t) s.tl=zr at CC HM
    obtain⟨z,r⟩:=zr
    dsimp only at CC HM
    have LB:Hid ((Tryz.prog.info? 34).map (·.size)=some (ca.set 3 (.slice A8 t.ins.length c8)).length):=by rw[List.length_set];exact It.out
    have RB:=hI (X.bx.rm (.hd _) (j:=13) (vs:=ca.set 3 (.slice A8 t.ins.length c8)) (by rw[List.length_set,show ca.length=13 by rw[HCA.out];rfl];exact fd))
    generalize ca.set 3 (.slice A8 t.ins.length c8)=cf at CC LB RB fd
    clear FT SMZ hsf lsi fd f13 f16
    go_upto_region 13 with fail
    have RU:Hid (∀E:Up wr,E.to.rangeAt w2.heap.size 13 cf):=fun E a u hu=>E.cell (RB.out a u hu)
    have c26:∀E:Up wr,E.to.cell? ⟨w2.heap.size,26,none⟩=_:=fun E=>E.cell (X.bx.cl (.hd _) f26)
    refine fS (fun w'=>∃E:Up wr,w'=E.to) [0,1,2,3,4,5,6,7] [8,9,10] 5 #[true,true,true,true,true,true,true,true,false,false,false,false,false] _ (by kernel_rfl) (by kernel_rfl) (by simp only[List.filterMap_cons,List.filterMap_nil,List.getElem?_toArray,List.getElem?_cons_zero,List.getElem?_cons_succ];rfl) (fun _ _ d _ _ h=>by cases d <;> exact h) ⟨⟨_,(Below.refl _ wr).drew⟩,rfl⟩ ?_
    generalize hqq:(fun a'=>dH _ _ _ _ _ _ _ _ a' _)=qq
    have HQQ:=hI hqq
    clear hqq
    show wpQuiet _ _ _ _ [_,_,_,_,_,_,_,_] _
    repeat (first | (refine lqC (fun _ ⟨E,e⟩=>e ▸ RU.out E) ?_ (hi:=LB.out);go_simp) | go_big_quiet_step (fail))
    refine wpQuiet_nil ?_
    rw[←HQQ.out]
    clear HQQ qq RB RU c26 LB
    have X:=X.dr
    refine j9 (i:=8) (by kernel_rfl) rfl (fun K hK=>?_)
    go_simp
    refine(CC.out _ _ X).mono ?_
    rintro e w5 ⟨cs,rfl,R,k5,RS⟩
    refine hK _ _ (fun _=>⟨⟨w5,(Below.refl _ wr).drew.trans k5⟩,rfl⟩) ?_
    clear hK K
    have X5:=(X.on k5).bx
    obtain⟨i1,l1,o1⟩:=R.cs
    have I1:=hI i1
    have L1:=hI l1
    have O1:=hI o1
    have R9:=hI (RS (w.heap.size+1+1) ⟨cs⟩ (X.bx.lt (.tl _ (.hd _))))
    have K5:Up wr:=⟨w5,(Below.refl _ wr).drew.trans k5⟩
    refine iB [9,10] 2 #[true,true,true,true,true,true,true,true,true,true,true,false,false] _ (by kernel_rfl) rfl (by simp only[List.filterMap_cons,List.filterMap_nil,List.getElem?_toArray,List.getElem?_cons_zero,List.getElem?_cons_succ];rfl) (fun _ _ d _ _ h=>by cases d <;> exact h) ⟨⟨w5,(Below.refl _ wr).drew.trans k5⟩,rfl⟩ ?_
    clear RS R k5 i1 l1 o1 X CC K5
    generalize hqq:(fun a'=>dH _ _ _ _ _ _ _ _ a' _)=qq
    have HQQ:=hI hqq
    clear hqq
    show wpQuiet _ _ _ _ [_,_] _
    repeat (go_big_quiet_step (fail))
    refine wpQuiet_nil ?_
    rw[←HQQ.out]
    clear HQQ qq
    refine cT [11,12] _ _ _ (by kernel_rfl) ?_
    refine bG [11,12] _ _ (by kernel_rfl) (by kernel_rfl) ?_
    simp only[List.filterMap_cons,List.filterMap_nil,List.getElem?_toArray,List.getElem?_cons_zero,List.getElem?_cons_succ]
    show wpList _ _ _ [_,_] _ _
    go_wp2_with (first | (refine X5.StR (hi:=I1.out) (hl:=by exact L1.out) (h1:=O1.out) fun X=>?_) | fail)
    rw[HM.out]
    exact X.rt2 (hi:=I1.out) ⟨_,rfl,R9.out,X.k⟩
end
end Go.Proofs.YtijihlcdhppfgaaGreatDoor
