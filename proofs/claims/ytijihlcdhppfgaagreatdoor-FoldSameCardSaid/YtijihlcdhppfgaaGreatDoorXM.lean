/- Part of the walk of the given code: contracts, and plain laws. -/
import Derived.Test.YtijihlcdhppfgaaGreatDoorXF
import Derived.Test.YtijihlcdhppfgaaGreatDoorZV
import Derived.Test.YtijihlcdhppfgaaGreatDoorXR
set_option maxHeartbeats 16000000
set_option maxRecDepth 100000
set_option linter.all false
namespace Go.Proofs.YtijihlcdhppfgaaGreatDoor
section
open Go.RowKit Go.IntWalk
set_option maxHeartbeats 8000000
set_option maxRecDepth 100000
structure Bw (w0:World) (l:List (Nat×List Value×TypeId)) where
 wd:World
 os:List Og
 bo:Bo w0 wd l os
theorem Bw.cl {w0 w:World} {l:List (Nat×List Value×TypeId)} {os:List Og} {g j:Nat} {cs:List Value} {t:TypeId} {v:Value} (_:Bo w0 w l os) (hm:In3 g cs t l) (hj:cs[j]? = some v):∀E:Bw w0 l,E.wd.cell? ⟨g,j,none⟩=some v:=fun E=>E.bo.bx.cl hm hj
theorem Bw.was {w0 w:World} {l:List (Nat×List Value×TypeId)} {os:List Og} {fb:Nat} {ca:List Value} {t:aH} {uI uT:Value} {cur:List aT} (_:Bo w0 w l os) (F:FB w0 fb ca t uI uT cur l):∀E:Bw w0 l,E.wd.rangeAt fb 0 ca:=fun E=>F.was E.bo
theorem Bw.rg {w0 w:World} {l:List (Nat×List Value×TypeId)} {os:List Og} {g:Nat} {cs:List Value} {t:TypeId} (_:Bo w0 w l os) (hm:In3 g cs t l):∀E:Bw w0 l,E.wd.rangeAt g 0 cs:=fun E=>E.bo.bx.rg hm
section
variable {w0 w:World} {fb:Nat} {ca:List Value} {t:aH} {uI uT:Value} {cur:List aT} {tl:List Int} {l:List (Nat×List Value×TypeId)}
theorem fone_b (F:FB w0 fb ca t uI uT cur l) (X:Bo w0 w l (fos uI uT cur tl)) (x:aT) {i:Nat} (hx:cur[i]? = some x) (ht:tl[i]? = some (i:Int)) (ho:∀o∈bU x,0≤o∧o<cur.length) :
  Calls Tryz.prog 51 #[.pointer (some ⟨fb,0,none⟩),.int .i64 i] w (avL w0 (.tuple #[]) l (fos uI uT (cur.set i (awP (ax3 t.ins) cur x i).1) (tl.set i (awP (ax3 t.ins) cur x i).2))):=by
 have hi:=(lE hx).1
 have hl:=(lE ht).1
 obtain⟨T,cT,rfl⟩:=X.at0 (.head _) (show 0<tl.length by omega)
 obtain⟨G,cG,rfl⟩:=X.at0 (.tail _ (.head _)) (show 0<cur.length by omega)
 have few:=F.few
 have hii:(i:Int)<cur.length:=by omega
 have hil:(i:Int)<tl.length:=by omega
 obtain⟨fcs,i3,-,e16,e26⟩:=F.fc.in_
 have I3:=hI i3
 have E16:=hI e16
 have E26:=hI e26
 have FF:=hI F
 have HX:=hI hx
 have HH:=hI ht
 have SX:=hI (ayG hx)
 have ST:=hI (ayG ht)
 have HT:=hI (fos_t (G:=T) (c:=cT) (tl:=tl) (uI:=.slice (some ⟨G,0,none⟩) cur.length cG) (cur:=cur) (i:=i))
 obtain⟨r,hr⟩:∃r,awP (ax3 t.ins) cur x i=r:=⟨_,rfl⟩
 rw[hr]
 unfold awP at hr
 have HO:=hI ho
 clear i3 e16 e26 hx ht F ho
 go_enter Tryz.func51,Tryz.ntmps51
 go_upto_region 1 with (first | (refine X.bx.lo I3.out E16.out ?_) | (refine Bx.ldr ((FF.out.fr X).row HX.out) ?_) | (refine X.sta fun _ X=>?_) | fail)
 (try dsimp only [Act.put])
 by_cases c7:x.op=7
 ·have n7:(x.op == 7)=true:=beq_iff_eq.2 c7
  rw[if_pos c7] at hr
  have a1:=HO.out _ (awI (x:=x) (by rw[c7];decide))
  have a2:=HO.out _ (awU (x:=x) (by rw[c7];decide))
  obtain⟨na,ea⟩:=Int.eq_ofNat_of_zero_le a1.1
  obtain⟨nb,eb⟩:=Int.eq_ofNat_of_zero_le a2.1
  have HR:=hI hr
  have A1:Hid (na<cur.length):=by show na<_;omega
  have A2:Hid (nb<cur.length):=by show nb<_;omega
  have EA:=hI ea
  have EB:=hI eb
  have C7:=hI c7
  clear hr a1 a2 ea eb c7
  go_wp2_with (first | (refine X.bx.l1 ?_) | (refine X.bx.ld ?_) | (go_at_call 101;refine avP (two_b (FF.out.tl _) X x EA.out EB.out A1.out A2.out C7.out HX.out HH.out) fun _ X=>?_) | fail)
  exact bodyPost_ret (v:=.tuple #[]) (by simp[results,Tryz.results51,go_sem]) rfl ⟨rfl,by rw[←HR.out];exact X.tl1⟩
 have n7:(x.op == 7)=false:=beq_eq_false_iff_ne.2 c7
 rw[if_neg c7] at hr
 by_cases c8:x.op=8
 ·have n8:(x.op == 8)=true:=beq_iff_eq.2 c8
  rw[if_pos c8] at hr
  have a1:=HO.out _ (awI (x:=x) (by rw[c8];decide))
  obtain⟨na,ea⟩:=Int.eq_ofNat_of_zero_le a1.1
  have A1:Hid (na<cur.length):=by show na<_;omega
  have hna:(na:Int)<cur.length:=by omega
  obtain⟨y,hy⟩:∃y,cur[na]? = some y:=⟨_,lG A1.out⟩
  have iy:awE cur x.a=y:=by rw[ea];unfold awE;rw[show(na:Int).toNat=na from rfl,hy];rfl
  rw[iy] at hr
  have HY:=hI hy
  have EA:=hI ea
  have RK:Hid (∀w l,FB w0 fb ca t _ _ cur l→Bo w0 w l _→_):=fun w l F X=>ayN (w:=w) (l:=l) (tl:=tl) (uI:=.slice (some ⟨G,0,none⟩) cur.length cG) (uT:=.slice (some ⟨T,0,none⟩) tl.length cT) F X x ea A1.out (.inr c8) hi
  have KC:Hid (∀W,bI W W.heap.size ca t→_):=fun W hT=>an7 ca t (y.a.toNat+1) y.a i W (by omega) hT (by omega) (by omega)
  have It:=hI FF.out.tr.size13
  generalize awJ (ax3 t.ins) cur x=rk at RK hr
  rw[show(ax3 t.ins).K y.a i=kindM t.ins y.a i from rfl] at hr
  generalize kindM t.ins y.a i=kv at KC hr
  clear iy hy ea a1 c7 c8
  go_upto_region 5 with (first | (refine X.bx.l1 ?_) | fail)
  have l16:∀E:Up _,E.to.cell? ⟨fb,13+3,none⟩=_:=fun E=>E.cell ((FF.out.tl _).fr X).cI
  have x1:∀E:Up _,E.to.cell? ⟨w.heap.size,1,none⟩=some (.int .i64 (na:Int)):=fun E=>by rw[←EA.out];exact E.cell (X.bx.cl (.hd _) rfl)
  have RY:Hid (∀E:Up _,E.to.rangeAt G (na*8) _):=fun E a u hu=>E.cell (((FF.out.tl _).fr X).row HY.out a u hu)
  refine cE (fun w'=>∃E:Up _,w'=E.to) 9 [9,10] [9] (by kernel_rfl) (by decide) (by kernel_rfl) (fun _ _ d _ _ h=>by cases d <;> exact h) ⟨⟨_,(Below.refl _ _).drew⟩,rfl⟩ ?_
  simp only[List.take_succ_cons,List.take_zero]
  generalize hqq:(fun a'=>gT _ _ _ _ _ _ a' _)=qq
  have HQQ:=hI hqq
  clear hqq
  repeat (first | (refine lqC (fun _ ⟨E,e⟩=>e ▸ RY.out E) ?_;go_simp) | go_big_quiet_step (fail))
  refine wpQuiet_nil ?_
  rw[←HQQ.out]
  clear HQQ qq l16 x1 RY
  have X:=X.dr
  refine aR rfl (fun K hK=>?_)
  go_simp
  refine hK _ _ (fun _=>⟨⟨_,(Below.refl _ _).drew.alloc (Nat.le_refl _) _⟩,rfl⟩) ?_
  clear hK K
  refine bG [10] _ _ (by kernel_rfl) (by kernel_rfl) ?_
  simp only[List.filterMap_cons,List.filterMap_nil,List.getElem?_toArray,List.getElem?_cons_zero,List.getElem?_cons_succ]
  show wpList _ _ _ [_] _ _
  refine X.sta fun w2 X=>?_
  (try dsimp only [Act.put])
  dsimp only [World.drew] at X
  go_upto_region 6 with fail
  have NE:=Nonempty.intro (Bw.mk _ _ X)
  have RX:=hI (Bw.rg X (.tl _ (.hd _)))
  refine fS (fun w'=>∃E:Bw w0 _,w'=E.wd) [0,1,2] [3,4,5,6,7,8,9,10,11,12,13,14,15,16,17,18,19,20,21,22,23,24,25,26,27] 28 #[true,true,true,false,false,false,false,false,false,false,false,false,false,false,false,false,false,false,false,false,false,false,false,false,false,false,false,false,false,false,false] _ (by kernel_rfl) (by kernel_rfl) (by simp only[List.filterMap_cons,List.filterMap_nil,List.getElem?_toArray,List.getElem?_cons_zero,List.getElem?_cons_succ];rfl) (fun _ _ d _ _ h=>by cases d <;> exact h) ⟨⟨_,_,X.dr⟩,rfl⟩ ?_
  generalize hqq:(fun a'=>dH _ _ _ _ _ _ _ _ a' _)=qq
  have HQQ:=hI hqq
  clear hqq
  show wpQuiet _ _ _ _ [_,_,_] _
  repeat (first | (refine lqC (fun _ ⟨E,e⟩=>e ▸ RX.out E) ?_;go_simp) | go_big_quiet_step (fail))
  refine wpQuiet_nil ?_
  rw[←HQQ.out]
  clear HQQ qq RX
  have X:=X.dr
  generalize World.drew _=wd2 at X ⊢
  refine j9 (i:=3) (by kernel_rfl) rfl (fun K hK=>?_)
  go_simp
  refine avP (RK.out _ _ ((FF.out.tl _).tl _) X) fun w3 X=>?_
  refine hK _ _ (fun _=>⟨⟨_,_,X⟩,rfl⟩) ?_
  clear hK K RK
  have T6:(∃k,rk=some k∧r=(awH k,(i:Int)))∨(rk=none∧(x.n == 11)=false∧r=(x,(i:Int)))∨(rk=none∧(x.n == 11)=true∧(y.op == 8)=false∧r=(x,(i:Int)))∨(rk=none∧(x.n == 11)=true∧(y.op == 8)=true∧(y.n == 11)=false∧r=(x,(i:Int)))∨(rk=none∧(x.n == 11)=true∧(y.op == 8)=true∧(y.n == 11)=true∧(kv == 1)=false∧r=(x,(i:Int)))∨(rk=none∧(x.n == 11)=true∧(y.op == 8)=true∧(y.n == 11)=true∧(kv == 1)=true∧r=(x,y.a)):=by
   simp only[beq_iff_eq,beq_eq_false_iff_ne]
   cases rk with
   | some k=>exact .inl ⟨k,rfl,hr.symm⟩
   | none=>
    dsimp only at hr
    by_cases c1:x.n=11
    case neg=>rw[if_neg (fun h=>c1 h.1)] at hr;exact .inr (.inl ⟨rfl,c1,hr.symm⟩)
    by_cases c2:y.op=8
    case neg=>rw[if_neg (fun h=>c2 h.2.1)] at hr;exact .inr (.inr (.inl ⟨rfl,c1,c2,hr.symm⟩))
    by_cases c3:y.n=11
    case neg=>rw[if_neg (fun h=>c3 h.2.2.1)] at hr;exact .inr (.inr (.inr (.inl ⟨rfl,c1,c2,c3,hr.symm⟩)))
    by_cases c4:kv=1
    case neg=>rw[if_neg (fun h=>c4 h.2.2.2)] at hr;exact .inr (.inr (.inr (.inr (.inl ⟨rfl,c1,c2,c3,c4,hr.symm⟩))))
    rw[if_pos ⟨c1,c2,c3,c4⟩] at hr
    exact .inr (.inr (.inr (.inr (.inr ⟨rfl,c1,c2,c3,c4,hr.symm⟩))))
  clear hr
  rcases T6 with ⟨k,rfl,rfl⟩ | ⟨rfl,b1,rfl⟩ | ⟨rfl,b1,b2,rfl⟩ | ⟨rfl,b1,b2,b3,rfl⟩ | ⟨rfl,b1,b2,b3,b4,rfl⟩ | ⟨rfl,b1,b2,b3,b4,rfl⟩
  all_goals
   have x4:=Bw.cl (j:=4) (v:=.int .i64 x.n) X (.tl _ (.hd _)) rfl
   have y0:=Bw.cl (j:=0) (v:=.int .i64 y.op) X (.hd _) rfl
   have y1:=Bw.cl (j:=1) (v:=.int .i64 y.a) X (.hd _) rfl
   have y4:=Bw.cl (j:=4) (v:=.int .i64 y.n) X (.hd _) rfl
   have RR:=hI (Bw.was X ((FF.out.tl _).tl _))
   refine iB [4,5,6,7,8,9,10,11,12,13,14,15,16,17,18,19,20,21,22,23,24,25,26,27] 3 #[true,true,true,true,true,true,true,true,true,true,true,true,true,true,true,true,true,true,true,true,true,true,true,true,true,true,true,true,false,false,false] _ (by kernel_rfl) rfl (by simp only[List.filterMap_cons,List.filterMap_nil,List.getElem?_toArray,List.getElem?_cons_zero,List.getElem?_cons_succ];rfl) (fun _ _ d _ _ h=>by cases d <;> exact h) ⟨⟨_,_,X⟩,rfl⟩ ?_
   generalize hqq:(fun a'=>dH _ _ _ _ _ _ _ _ a' _)=qq
   have HQQ:=hI hqq
   clear hqq
   show wpQuiet _ _ _ _ [_,_,_,_,_,_,_,_,_,_,_,_,_,_,_,_,_,_,_,_,_,_,_,_] _
   repeat (first | go_big_quiet_step (fail) | (refine lqCg (fun _ ⟨E,e⟩=>e ▸ RR.out E) ?_ It.out;go_simp))
   refine wpQuiet_nil ?_
   rw[←HQQ.out]
   clear HQQ qq x4 y0 y1 y4 RR
   refine j9 (i:=28) (by kernel_rfl) rfl (fun K hK=>?_)
   go_simp
   (first | refine hK _ _ (fun hf=>by cases hf) ?_ | (refine X.call (KC.out _ (FB.trc X.bx FF.out)) fun w4 X=>?_;refine hK _ _ (fun hf=>by cases hf) ?_))
   clear hK K
   refine j9 (i:=29) (by kernel_rfl) rfl (fun K hK=>?_)
   go_simp
   refine hK _ _ (fun hf=>by cases hf) ?_
   clear hK K
   refine j9 (i:=30) (by kernel_rfl) rfl (fun K hK=>?_)
   go_simp
   refine hK _ _ (fun hf=>by cases hf) ?_
   clear hK K
   refine⟨by kernel_rfl,?_⟩
  ·go_wp2_with fail
   exact bodyPost_ret (v:=.tuple #[]) (by simp[results,Tryz.results51,go_sem]) rfl ⟨rfl,by(try dsimp only);rw[ST.out];exact X.tl1.tl1⟩
  iterate 4
   ·go_wp2_with fail
    exact bodyPost_ret (v:=.tuple #[]) (by simp[results,Tryz.results51,go_sem]) rfl ⟨rfl,by(try dsimp only);rw[ST.out,SX.out];exact X.tl1.tl1⟩
  go_upto_region 7 with fail
  have c26:∀E:Up _,E.to.cell? ⟨fb,26,none⟩=_:=fun E=>E.cell (X.bx.cl (.tl _ (.tl _ I3.out)) E26.out)
  have y1:∀E:Up _,_:=fun E=>E.cell (X.bx.cl (j:=1) (v:=.int .i64 y.a) (.hd _) rfl)
  refine aU 7 (by kernel_rfl) (by kernel_rfl) ?_
  simp only[List.take_succ_cons,List.take_zero,List.drop_succ_cons,List.drop_zero]
  repeat (go_big_quiet_step (fail))
  refine wpQuiet_nil ?_
  (first | rintro _ ⟨⟨w5,k5⟩,rfl⟩ | rintro ⟨w5,k5⟩ | (rename_i E;obtain⟨w5,k5⟩:=E))
  (try dsimp only)
  have X:=X.on k5
  clear k5 c26 y1
  go_wp2_with (first | (refine X.so1 (HT.out y.a) (fun _ X=>?_) (by omega)) | fail)
  exact bodyPost_ret (v:=.tuple #[]) (by simp[results,Tryz.results51,go_sem]) rfl ⟨rfl,by(try dsimp only);rw[SX.out];exact X.tl1.tl1⟩
 have n8:(x.op == 8)=false:=beq_eq_false_iff_ne.2 c8
 rw[if_neg c8] at hr
 by_cases c:x.op=4∨x.op=5∨x.op=6
 case neg=>
  rw[if_neg c] at hr
  subst hr
  have n4:(x.op == 4)=false:=beq_eq_false_iff_ne.2 fun h=>c (.inl h)
  have n5:(x.op == 5)=false:=beq_eq_false_iff_ne.2 fun h=>c (.inr (.inl h))
  have n6:(x.op == 6)=false:=beq_eq_false_iff_ne.2 fun h=>c (.inr (.inr h))
  clear c c8 c7
  go_wp2_with (first | (refine X.bx.l1 ?_) | fail)
  exact bodyPost_ret (v:=.tuple #[]) (by simp[results,Tryz.results51,go_sem]) rfl ⟨rfl,by(try dsimp only);rw[ST.out,SX.out];exact X.tl1⟩
 rw[if_pos c] at hr
 have a1:=HO.out _ (awI (x:=x) (by rcases c with c | c | c <;> rw[c] <;> decide))
 obtain⟨na,ea⟩:=Int.eq_ofNat_of_zero_le a1.1
 have A1:Hid (na<cur.length):=by show na<_;omega
 obtain⟨y,hy⟩:∃y,cur[na]? = some y:=⟨_,lG A1.out⟩
 have iy:awE cur x.a=y:=by rw[ea];unfold awE;rw[show(na:Int).toNat=na from rfl,hy];rfl
 unfold awN at hr
 rw[iy] at hr
 have CC:Hid (∀W,FR W fb ca t (.slice (some ⟨G,0,none⟩) cur.length cG) cur→Calls Tryz.prog 103 #[.pointer (some ⟨fb,0,none⟩),.int .i64 x.a] W (aK (.tuple #[.agg #[.int .i64 y.k.kind,.int .i64 y.k.n],.bool (y.op == 2)]) W)):=fun W h=>by rw[ea];exact ayT h hy
 have HC:Hid (∀W,_):=fun W=>ay3 t.ins x y.k W
 generalize aw9 (ax3 t.ins) x y.k=hb at HC hr
 generalize (y.op == 2)=cc at CC hr
 unfold yA at HC
 have n456:((x.op == 4)=true)∨((x.op == 4)=false∧(x.op == 5)=true)∨((x.op == 4)=false∧(x.op == 5)=false∧(x.op == 6)=true):=by
  simp only[beq_iff_eq,beq_eq_false_iff_ne];omega
 have T3:(cc=false∧r=(x,(i:Int)))∨(cc=true∧hb=false∧r=(x,(i:Int)))∨(cc=true∧hb=true∧r=(x,-1)):=by
  rw[←hr]
  cases cc <;> cases hb <;> simp
 clear hr iy hy ea a1 c c7 c8
 rcases T3 with ⟨rfl,rfl⟩ | T3
 ·rcases n456 with n4 | ⟨n4,n5⟩ | ⟨n4,n5,n6⟩
  all_goals
   go_wp2_with (first | (refine X.bx.l1 ?_) | (go_at_call 103;refine X.call (CC.out _ ((FF.out.tl _).fr X)) fun _ X=>?_) | (refine X.sta fun _ X=>?_) | fail)
   exact bodyPost_ret (v:=.tuple #[]) (by simp[results,Tryz.results51,go_sem]) rfl ⟨rfl,by(try dsimp only);rw[SX.out,ST.out];exact X.tl1.tl1⟩
 rcases T3 with ⟨rfl,rfl,rfl⟩ | ⟨rfl,rfl,rfl⟩
 all_goals
  rcases n456 with n4 | ⟨n4,n5⟩ | ⟨n4,n5,n6⟩
 all_goals
  go_wp2_with (first | (refine X.bx.l1 ?_) | (go_at_call 103;refine X.call (CC.out _ ((FF.out.tl _).fr X)) fun _ X=>?_) | (refine X.sta fun _ X=>?_) | (refine X.bx.lgd ?_) | (go_at_call 104;refine X.call (HC.out _) fun _ X=>?_) | (refine X.bx.lo (.tl _ (.tl _ I3.out)) E26.out ?_) | (refine X.so1 (HT.out (-1)) (fun _ X=>?_) (by omega)) | fail)
  exact bodyPost_ret (v:=.tuple #[]) (by simp[results,Tryz.results51,go_sem]) rfl ⟨rfl,by(try dsimp only);rw[SX.out];first | exact X.tl1.tl1 | (rw[ST.out];exact X.tl1.tl1)⟩
end
end
end Go.Proofs.YtijihlcdhppfgaaGreatDoor
