/- Part of the walk of the given code: contracts of the functions that irun.Run reaches, and plain laws on what it reckons. -/
import Derived.Test.YtjaphgpkkfdaaaaGreatDoorZV
import Derived.Test.YtjaphgpkkfdaaaaGreatDoorZW
import Derived.Test.YtjaphgpkkfdaaaaGreatDoorZY
import Derived.Test.YtjaphgpkkfdaaaaGreatDoorZZ
import Derived.Test.YtjaphgpkkfdaaaaGreatDoorZBB
set_option maxHeartbeats 16000000
set_option maxRecDepth 100000
set_option linter.all false
namespace Go.Proofs.YtjaphgpkkfdaaaaGreatDoor
section
open Go.RowKit
theorem eJ {n:Int} (h:(decide (-9223372036854775808≤n) && decide (n≤9223372036854775807))=true):wfi n:=by unfold wfi;simpa using h
theorem wf_wrap (n:Int):wfi (wrap64 n):=by unfold wfi wrap64;omega
theorem l6 (b:Bool):WfV (cP b):=by unfold cP;split <;> exact⟨eJ rfl,eJ rfl⟩
theorem of_wf (b:Nat):WfV (ofM b):=by
 unfold ofM
 split
 ·exact⟨eJ rfl,wf_wrap _⟩
 ·exact⟨eJ rfl,eJ rfl⟩
theorem uS (o:BinOp) (x y:Nat):WfV (ofB o x y):=by
 unfold ofB
 split
 ·exact of_wf _
 ·exact⟨eJ rfl,eJ rfl⟩
def WfR (r:Val×Int):Prop:=WfV r.1∧wfi r.2
theorem oC (n:Int) (h:wfi n):WfR (⟨0,0⟩,n):=⟨⟨eJ rfl,eJ rfl⟩,h⟩
theorem kJ (n:Int):WfR (dS n):=by
 unfold dS
 refine bU WfR (fun h=>?_) (fun _=>oC _ (eJ rfl))
 simp only[aK,Bool.and_eq_true,decide_eq_true_eq] at h
 exact⟨⟨eJ rfl,by unfold wfi;dsimp only;omega⟩,eJ rfl⟩
theorem rJ (op:Int) (a b:Bool):WfR (eA op a b):=by
 unfold eA
 refine bU WfR (fun _=>⟨l6 _,eJ rfl⟩) fun _=>?_
 exact bU WfR (fun _=>⟨l6 _,eJ rfl⟩) fun _=>oC _ (eJ rfl)
theorem zY (op a b:Int):WfR (gR op a b):=by
 unfold gR
 refine bU WfR (fun _=>kJ _) fun _=>?_
 refine bU WfR (fun _=>kJ _) fun _=>?_
 refine bU WfR (fun _=>kJ _) fun _=>?_
 refine bU WfR (fun _=>?_) fun _=>rJ _ _ _
 refine bU WfR (fun _=>oC _ (eJ rfl)) fun _=>?_
 exact bU WfR (fun _=>kJ _) fun _=>kJ _
theorem aa8 (op:Int) (x y:Nat):WfR (lI op x y):=by
 have m1:wfi (-1):=eJ rfl
 unfold lI
 refine bU WfR (fun _=>⟨uS _ _ _,m1⟩) fun _=>?_
 refine bU WfR (fun _=>⟨uS _ _ _,m1⟩) fun _=>?_
 refine bU WfR (fun _=>⟨uS _ _ _,m1⟩) fun _=>?_
 refine bU WfR (fun _=>⟨uS _ _ _,m1⟩) fun _=>?_
 exact bU WfR (fun _=>⟨l6 _,m1⟩) fun _=>rJ _ _ _
theorem ab0 (op:Int) (v:Val):WfR (o4 op v):=by
 have m1:wfi (-1):=eJ rfl
 unfold o4
 refine bU WfR (fun _=>⟨l6 _,m1⟩) fun _=>?_
 refine bU WfR (fun _=>kJ _) fun _=>?_
 exact bU WfR (fun _=>⟨of_wf _,m1⟩) fun _=>oC _ (eJ rfl)
theorem abS (op:Int) (u v:Val):WfR (mU op u v):=by
 have m1:wfi (-1):=eJ rfl
 unfold mU
 refine bU WfR (fun _=>aa8 _ _ _) fun _=>?_
 refine bU WfR (fun _=>⟨l6 _,m1⟩) fun _=>?_
 exact bU WfR (fun _=>zY _ _ _) fun _=>oC _ (eJ rfl)
section
variable {Γ : kI} {w w':World} {W:aI} {cv vv:Value} {vs fs:List Value}
theorem do_c (K:hP Γ) (L:bO Γ w W cv vv vs fs) {i:Nat} {x:bG} {R:Int} (hx : Γ.t.ins[i]? = some x) (F:zV R Γ.t i x) (M:Lim Γ.t R.toNat W) (ht : Γ.t.ins.length≤300) :
  Calls Tryz.prog 107 #[.pointer (some ⟨Γ.wb,0,none⟩),.int .i64 (i:Int)] w (sJ Γ (doW cJ Γ.t Γ.self Γ.shapes W i).1 (.int .i64 (doW cJ Γ.t Γ.self Γ.shapes W i).2) w):=by
 have hil:i < Γ.t.ins.length:=(lE hx).1
 have hiv:i<W.vals.length:=by rw[M.vals];exact hil
 have hvn:W.vals.length≤300:=by rw[M.vals];exact ht
 obtain⟨g,cap,hvv,-,hgl⟩:=L.vals.form (by omega)
 obtain⟨b,off,icap,c3,hc,hwf,hbl⟩:=L.insAt K hx
 have HWI:=hI hwf
 have HX:=hI hx
 have HV:=hI hvv
 have HK:=hI K
 have hlen:=ht
 have g0:w.cell? ⟨b,off+i*8,none⟩=some (.int .i64 x.op):=hc 0 _ rfl
 have g1:w.cell? ⟨b,off+i*8+1,none⟩=some (.int .i64 x.a):=hc 1 _ rfl
 have g2:w.cell? ⟨b,off+i*8+2,none⟩=some (.int .i64 x.b):=hc 2 _ rfl
 have g3:w.cell? ⟨b,off+i*8+3,none⟩=some (.int .i64 x.c):=hc 3 _ rfl
 have g4:w.cell? ⟨b,off+i*8+4,none⟩=some (.int .i64 x.n):=hc 4 _ rfl
 have g5:w.cell? ⟨b,off+i*8+5,none⟩=some (.int .i64 x.exit):=hc 5 _ rfl
 have g6:w.cell? ⟨b,off+i*8+6,none⟩=some (.int .i64 x.k.kind):=hc 6 _ rfl
 have g7:w.cell? ⟨b,off+i*8+7,none⟩=some (.int .i64 x.k.n):=hc 7 _ rfl
 have hji:(i:Int) < Γ.t.ins.length:=by omega
 have hjv:(i:Int)<W.vals.length:=by omega
 obtain⟨w1,hw1⟩:∃w1,w1=w.alloc (.cells #[.int .i64 x.op,.int .i64 x.a,.int .i64 x.b,.int .i64 x.c,.int .i64 x.n,.int .i64 x.exit,.int .i64 x.k.kind,.int .i64 x.k.n] 92):=⟨_,rfl⟩
 have K1:Hid (Below w.heap.size w w1):=by rw[hw1];exact aB _ _
 have HB1:Hid (aA w1 w.heap.size [.int .i64 x.op,.int .i64 x.a,.int .i64 x.b,.int .i64 x.c,.int .i64 x.n,.int .i64 x.exit,.int .i64 x.k.kind,.int .i64 x.k.n]):=by rw[hw1];exact ad5 _ _ _
 have HW1:=hI hw1
 have L1:=hI (L.below K K1.out)
 obtain⟨W',hW'⟩:∃W',(doW cJ Γ.t Γ.self Γ.shapes W i).1=W':=⟨_,rfl⟩
 obtain⟨q,hq⟩:∃q,(doW cJ Γ.t Γ.self Γ.shapes W i).2=q:=⟨_,rfl⟩
 rw[hW',hq]
 have HD:Hid (doI cJ Γ.self Γ.shapes W i x=(W',q)):=by
  show _=_
  rw[←hW',←hq]
  unfold doW jE
  rw[Int.toNat_natCast,hx];rfl
 clear hw1 hW' hq K L hvv hx hc hwf
 go_enter Tryz.func107,Tryz.ntmps107
 go_upto_region 2 with fail
 rw[←HW1.out]
 clear g0 g1 g2 g3 g4 g5 g6 g7 c3
 have x0:=HB1.out 0 _ rfl
 rcases nU (op:=x.op) (by have:=F.op;simpa [lU] using this) with h | h | h | h | h | h | h | h | h | h | h | h | h | h | h | h | h | h | h
 ·rw[h] at x0
  have HN:Hid ((fS W i (W.regs.getD x.n.toNat ⟨0,0⟩),(0:Int))=(W',q)):=by
   show _=_
   rw[←HD.out];unfold doI
   rw[if_pos h]
  have hn0:=F.n.1
  have hnr:=F.reg h
  rw[h] at hn0
  change (0:Int)≤x.n at hn0
  obtain⟨m,hm⟩:∃m:Nat,x.n=(m:Int):=⟨x.n.toNat,by omega⟩
  have hml:m<W.regs.length:=by rw[M.regs];omega
  have hmi:(m:Int)<W.regs.length:=by omega
  obtain⟨y2,hy2⟩:∃y,W.regs[m]? = some y:=⟨_,lG hml⟩
  obtain⟨rg,rc,hrv,-,hrg⟩:=L1.out.regs.form (by omega)
  have HRV:=hI hrv
  have HM:=hI hm
  have HY2:=hI hy2
  have HN:Hid ((fS W i y2,(0:Int))=(W',q)):=by
   have:=HN.out
   rw[hm,Int.toNat_natCast,List.getD_eq_getElem?_getD,hy2] at this
   exact this
  have OR:=hI L1.out.regs
  rw[HRV.out] at OR
  clear hn0 hnr hm hy2 hrv h
  go_upto_region 5 with fail
  have a0:∀E:Up w1,E.to.cell? ⟨Γ.wb,17,none⟩=some (.slice (some ⟨g,0,none⟩) W.vals.length cap):=fun E=>E.cell (by have h:=L1.out.own HK.out 4;rw[HV.out] at h;exact h)
  have a1:∀E:Up w1,E.to.cell? ⟨Γ.wb,15,none⟩=some (.pointer (some ⟨Γ.fb,Γ.fo,none⟩)):=fun E=>E.cell (L1.out.own HK.out 2)
  have a2:∀E:Up w1,E.to.cell? ⟨Γ.fb,Γ.fo+6,none⟩=some (.slice (some ⟨rg,0,none⟩) W.regs.length rc):=fun E=>E.cell (by rw[L1.out.frest (Γ.fo+6) (by omega),←HRV.out];exact HK.out.f6)
  have a3:∀E:Up w1,E.to.cell? ⟨w.heap.size,4,none⟩=some (.int .i64 m):=fun E=>E.cell (by rw[←HM.out];exact HB1.out 4 _ rfl)
  have a4:∀E:Up w1,E.to.cell? ⟨rg,m*2,none⟩=some (.int .i64 y2.kind):=fun E=>E.cell (by rw[OR.out.cellAt (m*2) (by omega)];exact bS HY2.out (k:=0) (by decide))
  have a5:∀E:Up w1,E.to.cell? ⟨rg,m*2+1,none⟩=some (.int .i64 y2.n):=fun E=>E.cell (by rw[OR.out.cellAt (m*2+1) (by omega)];exact bS HY2.out (k:=1) (by decide))
  clear x0
  refine aL 16 (by kernel_rfl) (by kernel_rfl) ?_
  simp only[List.take_succ_cons,List.take_zero]
  repeat (go_big_quiet_step (fail))
  refine wpQuiet_nil ?_
  intro w' hE
  obtain⟨E,rfl⟩:=hE
  obtain⟨wy,ky⟩:=E
  dsimp only
  have LY:=hI (L1.out.below HK.out ky)
  have KY:=btZ K1 ky
  clear ky a0 a1 a2 a3 a4 a5
  obtain⟨u,hu⟩:∃u,W.vals[i]? = some u:=⟨_,lG hiv⟩
  have TH:Hid (wy.there g (i*2) 2):=by
   have:=LY.out.vals
   rw[HV.out] at this
   exact dZ this (by omega)
  have hwf:WfV y2:=LY.out.wfr y2 (List.mem_of_getElem? HY2.out)
  have S9:Hid (bO Γ (wy.setCells g (i*2) [.int .i64 y2.kind,.int .i64 y2.n]) (fS W i y2) cv vv vs fs∧aQ wy (wy.setCells g (i*2) [.int .i64 y2.kind,.int .i64 y2.n])):=LY.out.setVal HK.out hu hwf HV.out
  clear hu hwf
  simp only[List.drop_succ_cons,List.drop_zero]
  go_upto_region 42 with (first | (refine wpList_store_mid rfl 48 _ _ rfl g (i*2) #[.int .i64 y2.kind,.int .i64 y2.n] rfl rfl TH.out aF (all_oneCell_toArray (by simp[Value.oneCell'])) ?_) | fail)
  generalize hw9:World.setCells _ _ _ _=w9
  rw[hw9] at S9
  clear hw9
  (try dsimp only [Act.put])
  go_wp2_with fail
  go_ret
  have e1:=congrArg Prod.fst HN.out
  have e2:=congrArg Prod.snd HN.out
  dsimp only at e1 e2
  subst e1;subst e2
  exact⟨rfl,⟨_,_,_,_,S9.out.1⟩,(aQ.of KY.out).trans S9.out.2⟩
 ·rw[h] at x0
  have HN:Hid ((fS W i x.k,(0:Int))=(W',q)):=by
   show _=_
   rw[←HD.out];unfold doI
   rw[if_neg (by omega)];rw[if_pos h]
  clear h
  go_upto_region 7 with fail
  have a0:∀E:Up w1,E.to.cell? ⟨Γ.wb,17,none⟩=some (.slice (some ⟨g,0,none⟩) W.vals.length cap):=fun E=>E.cell (by have h:=L1.out.own HK.out 4;rw[HV.out] at h;exact h)
  have a1:∀E:Up w1,E.to.cell? ⟨w.heap.size,6,none⟩=some (.int .i64 x.k.kind):=fun E=>E.cell (by exact HB1.out 6 _ rfl)
  have a2:∀E:Up w1,E.to.cell? ⟨w.heap.size,7,none⟩=some (.int .i64 x.k.n):=fun E=>E.cell (by exact HB1.out 7 _ rfl)
  clear x0
  refine aL 7 (by kernel_rfl) (by kernel_rfl) ?_
  simp only[List.take_succ_cons,List.take_zero]
  repeat (go_big_quiet_step (fail))
  refine wpQuiet_nil ?_
  intro w' hE
  obtain⟨E,rfl⟩:=hE
  obtain⟨wy,ky⟩:=E
  dsimp only
  have LY:=hI (L1.out.below HK.out ky)
  have KY:=btZ K1 ky
  clear ky a0 a1 a2
  obtain⟨u,hu⟩:∃u,W.vals[i]? = some u:=⟨_,lG hiv⟩
  have TH:Hid (wy.there g (i*2) 2):=by
   have:=LY.out.vals
   rw[HV.out] at this
   exact dZ this (by omega)
  have hwf:WfV x.k:=HWI.out.2.2.2.2.2.2
  have S9:Hid (bO Γ (wy.setCells g (i*2) [.int .i64 x.k.kind,.int .i64 x.k.n]) (fS W i x.k) cv vv vs fs∧aQ wy (wy.setCells g (i*2) [.int .i64 x.k.kind,.int .i64 x.k.n])):=LY.out.setVal HK.out hu hwf HV.out
  clear hu hwf
  simp only[List.drop_succ_cons,List.drop_zero]
  go_upto_region 42 with (first | (refine wpList_store_mid rfl 48 _ _ rfl g (i*2) #[.int .i64 x.k.kind,.int .i64 x.k.n] rfl rfl TH.out aF (all_oneCell_toArray (by simp[Value.oneCell'])) ?_) | fail)
  generalize hw9:World.setCells _ _ _ _=w9
  rw[hw9] at S9
  clear hw9
  (try dsimp only [Act.put])
  go_wp2_with fail
  go_ret
  have e1:=congrArg Prod.fst HN.out
  have e2:=congrArg Prod.snd HN.out
  dsimp only at e1 e2
  subst e1;subst e2
  exact⟨rfl,⟨_,_,_,_,S9.out.1⟩,(aQ.of KY.out).trans S9.out.2⟩
 ·rw[h] at x0
  have HN:Hid ((fS W i Γ.self,(0:Int))=(W',q)):=by
   show _=_
   rw[←HD.out];unfold doI
   rw[if_neg (by omega)];rw[if_neg (by omega)];rw[if_pos h]
  clear h
  go_upto_region 9 with fail
  have a0:∀E:Up w1,E.to.cell? ⟨Γ.wb,17,none⟩=some (.slice (some ⟨g,0,none⟩) W.vals.length cap):=fun E=>E.cell (by have h:=L1.out.own HK.out 4;rw[HV.out] at h;exact h)
  have a1:∀E:Up w1,E.to.cell? ⟨Γ.wb,15,none⟩=some (.pointer (some ⟨Γ.fb,Γ.fo,none⟩)):=fun E=>E.cell (L1.out.own HK.out 2)
  have a2:∀E:Up w1,E.to.cell? ⟨Γ.fb,Γ.fo+4,none⟩=some (.int .i64 Γ.self.kind):=fun E=>E.cell (by rw[L1.out.frest (Γ.fo+4) (by omega)];exact HK.out.f4)
  have a3:∀E:Up w1,E.to.cell? ⟨Γ.fb,Γ.fo+5,none⟩=some (.int .i64 Γ.self.n):=fun E=>E.cell (by rw[L1.out.frest (Γ.fo+5) (by omega)];exact HK.out.f5)
  clear x0
  refine aL 12 (by kernel_rfl) (by kernel_rfl) ?_
  simp only[List.take_succ_cons,List.take_zero]
  repeat (go_big_quiet_step (fail))
  refine wpQuiet_nil ?_
  intro w' hE
  obtain⟨E,rfl⟩:=hE
  obtain⟨wy,ky⟩:=E
  dsimp only
  have LY:=hI (L1.out.below HK.out ky)
  have KY:=btZ K1 ky
  clear ky a0 a1 a2 a3
  obtain⟨u,hu⟩:∃u,W.vals[i]? = some u:=⟨_,lG hiv⟩
  have TH:Hid (wy.there g (i*2) 2):=by
   have:=LY.out.vals
   rw[HV.out] at this
   exact dZ this (by omega)
  have hwf:WfV Γ.self:=HK.out.wfs
  have S9:Hid (bO Γ (wy.setCells g (i*2) [.int .i64 Γ.self.kind,.int .i64 Γ.self.n]) (fS W i Γ.self) cv vv vs fs∧aQ wy (wy.setCells g (i*2) [.int .i64 Γ.self.kind,.int .i64 Γ.self.n])):=LY.out.setVal HK.out hu hwf HV.out
  clear hu hwf
  simp only[List.drop_succ_cons,List.drop_zero]
  go_upto_region 42 with (first | (refine wpList_store_mid rfl 48 _ _ rfl g (i*2) #[.int .i64 Γ.self.kind,.int .i64 Γ.self.n] rfl rfl TH.out aF (all_oneCell_toArray (by simp[Value.oneCell'])) ?_) | fail)
  generalize hw9:World.setCells _ _ _ _=w9
  rw[hw9] at S9
  clear hw9
  (try dsimp only [Act.put])
  go_wp2_with fail
  go_ret
  have e1:=congrArg Prod.fst HN.out
  have e2:=congrArg Prod.snd HN.out
  dsimp only at e1 e2
  subst e1;subst e2
  exact⟨rfl,⟨_,_,_,_,S9.out.1⟩,(aQ.of KY.out).trans S9.out.2⟩
 ·have HN:Hid ((W,isW (iY cJ W x) 1)=(W',q)):=by
   show _=_
   rw[←HD.out];unfold doI
   rw[if_neg (by omega)];rw[if_neg (by omega)];rw[if_neg (by omega)];rw[if_pos (by omega)]
  rw[h] at x0
  have x1:=HB1.out 1 _ rfl
  have x2:=HB1.out 2 _ rfl
  have x3:=HB1.out 3 _ rfl
  have x4:=HB1.out 4 _ rfl
  have x5:=HB1.out 5 _ rfl
  have x6:=HB1.out 6 _ rfl
  have x7:=HB1.out 7 _ rfl
  have GC:=hI (qP HK.out L1.out hvn M.cells x ⟨(F.a (by rw[h];decide)).1,by have:=(F.a (by rw[h];decide)).2;rw[M.vals];omega⟩ (by exact .inl h))
  rw[h] at GC
  obtain⟨gb,hgb⟩:∃gb,iY cJ W x=gb:=⟨_,rfl⟩
  rw[hgb] at GC HN
  clear h hgb
  go_wp2_with fail
  refine GC.out.mono ?_
  rintro e w2 ⟨rfl,k2⟩
  have K2:=btZ K1 k2
  have L2:=hI (L1.out.below HK.out k2)
  clear k2 x0 x1 x2 x3 x4 x5 x6 x7
  go_wp2_with fail
  refine(uV _ _ w2).mono ?_
  rintro e w3 ⟨rfl,rfl⟩
  go_wp2_with fail
  go_ret
  have e1:=congrArg Prod.fst HN.out
  have e2:=congrArg Prod.snd HN.out
  dsimp only at e1 e2
  subst e1;subst e2
  exact⟨rfl,⟨_,_,_,_,L2.out⟩,aQ.of K2.out⟩
 ·have HN:Hid ((W,isW (iY cJ W x) 1)=(W',q)):=by
   show _=_
   rw[←HD.out];unfold doI
   rw[if_neg (by omega)];rw[if_neg (by omega)];rw[if_neg (by omega)];rw[if_pos (by omega)]
  rw[h] at x0
  have x1:=HB1.out 1 _ rfl
  have x2:=HB1.out 2 _ rfl
  have x3:=HB1.out 3 _ rfl
  have x4:=HB1.out 4 _ rfl
  have x5:=HB1.out 5 _ rfl
  have x6:=HB1.out 6 _ rfl
  have x7:=HB1.out 7 _ rfl
  have GC:=hI (qP HK.out L1.out hvn M.cells x ⟨(F.a (by rw[h];decide)).1,by have:=(F.a (by rw[h];decide)).2;rw[M.vals];omega⟩ (by exact .inr (.inl h)))
  rw[h] at GC
  obtain⟨gb,hgb⟩:∃gb,iY cJ W x=gb:=⟨_,rfl⟩
  rw[hgb] at GC HN
  clear h hgb
  go_wp2_with fail
  refine GC.out.mono ?_
  rintro e w2 ⟨rfl,k2⟩
  have K2:=btZ K1 k2
  have L2:=hI (L1.out.below HK.out k2)
  clear k2 x0 x1 x2 x3 x4 x5 x6 x7
  go_wp2_with fail
  refine(uV _ _ w2).mono ?_
  rintro e w3 ⟨rfl,rfl⟩
  go_wp2_with fail
  go_ret
  have e1:=congrArg Prod.fst HN.out
  have e2:=congrArg Prod.snd HN.out
  dsimp only at e1 e2
  subst e1;subst e2
  exact⟨rfl,⟨_,_,_,_,L2.out⟩,aQ.of K2.out⟩
 ·have HN:Hid ((W,isW (iY cJ W x) 1)=(W',q)):=by
   show _=_
   rw[←HD.out];unfold doI
   rw[if_neg (by omega)];rw[if_neg (by omega)];rw[if_neg (by omega)];rw[if_pos (by omega)]
  rw[h] at x0
  have x1:=HB1.out 1 _ rfl
  have x2:=HB1.out 2 _ rfl
  have x3:=HB1.out 3 _ rfl
  have x4:=HB1.out 4 _ rfl
  have x5:=HB1.out 5 _ rfl
  have x6:=HB1.out 6 _ rfl
  have x7:=HB1.out 7 _ rfl
  have GC:=hI (qP HK.out L1.out hvn M.cells x ⟨(F.a (by rw[h];decide)).1,by have:=(F.a (by rw[h];decide)).2;rw[M.vals];omega⟩ (by exact .inr (.inr (.inl h))))
  rw[h] at GC
  obtain⟨gb,hgb⟩:∃gb,iY cJ W x=gb:=⟨_,rfl⟩
  rw[hgb] at GC HN
  clear h hgb
  go_wp2_with fail
  refine GC.out.mono ?_
  rintro e w2 ⟨rfl,k2⟩
  have K2:=btZ K1 k2
  have L2:=hI (L1.out.below HK.out k2)
  clear k2 x0 x1 x2 x3 x4 x5 x6 x7
  go_wp2_with fail
  refine(uV _ _ w2).mono ?_
  rintro e w3 ⟨rfl,rfl⟩
  go_wp2_with fail
  go_ret
  have e1:=congrArg Prod.fst HN.out
  have e2:=congrArg Prod.snd HN.out
  dsimp only at e1 e2
  subst e1;subst e2
  exact⟨rfl,⟨_,_,_,_,L2.out⟩,aQ.of K2.out⟩
 ·have HN:Hid ((iQ W i x.exit (cJ.B x.n (cX W x.a) (cX W x.b)))=(W',q)):=by
   show _=_
   rw[←HD.out];unfold doI
   rw[if_neg (by omega)];rw[if_neg (by omega)];rw[if_neg (by omega)];rw[if_neg (by omega)];rw[if_pos h]
  rw[h] at x0
  have hask:=F.a (by rw[h];decide)
  obtain⟨ka,hka⟩:∃k:Nat,x.a=(k:Int):=⟨x.a.toNat,by omega⟩
  have hlka:ka<W.vals.length:=by rw[M.vals];omega
  have hika:(ka:Int)<W.vals.length:=by omega
  obtain⟨ya,hya⟩:∃y,W.vals[ka]? = some y:=⟨_,lG hlka⟩
  have Hka:=hI hka
  have HYa:=hI hya
  clear hask hka hya
  have hask:=F.b (by rw[h];decide)
  obtain⟨kb,hkb⟩:∃k:Nat,x.b=(k:Int):=⟨x.b.toNat,by omega⟩
  have hlkb:kb<W.vals.length:=by rw[M.vals];omega
  have hikb:(kb:Int)<W.vals.length:=by omega
  obtain⟨yb,hyb⟩:∃y,W.vals[kb]? = some y:=⟨_,lG hlkb⟩
  have Hkb:=hI hkb
  have HYb:=hI hyb
  clear hask hkb hyb
  obtain⟨rr,hrr⟩:∃rr,mU x.n ya yb=rr:=⟨_,rfl⟩
  have HWR:Hid (WfV rr.1∧wfi rr.2):=by rw[←hrr];exact abS x.n ya yb
  have BC:=hI (fun W2=>ad2 x.n ya yb W2)
  unfold bB at BC
  rw[hrr] at BC
  have HN:Hid (iQ W i x.exit rr=(W',q)):=by
   have:=HN.out
   rw[Hka.out,fR HYa.out] at this
   rw[Hkb.out,fR HYb.out] at this
   rw[←hrr];exact this
  have OW:=hI L1.out.vals
  rw[HV.out] at OW
  clear h hrr
  go_upto_region 16 with fail
  have a0:∀E:Up w1,E.to.cell? ⟨Γ.wb,17,none⟩=some (.slice (some ⟨g,0,none⟩) W.vals.length cap):=fun E=>E.cell (by have h:=L1.out.own HK.out 4;rw[HV.out] at h;exact h)
  have a1:∀E:Up w1,E.to.cell? ⟨w.heap.size,4,none⟩=some (.int .i64 x.n):=fun E=>E.cell (by exact HB1.out 4 _ rfl)
  have a2:∀E:Up w1,E.to.cell? ⟨w.heap.size,1,none⟩=some (.int .i64 ka):=fun E=>E.cell (by rw[←Hka.out];exact HB1.out 1 _ rfl)
  have a3:∀E:Up w1,E.to.cell? ⟨w.heap.size,2,none⟩=some (.int .i64 kb):=fun E=>E.cell (by rw[←Hkb.out];exact HB1.out 2 _ rfl)
  have a4:∀E:Up w1,E.to.cell? ⟨g,ka*2,none⟩=some (.int .i64 ya.kind):=fun E=>E.cell (by rw[OW.out.cellAt (ka*2) (by omega)];exact bS HYa.out (k:=0) (by decide))
  have a5:∀E:Up w1,E.to.cell? ⟨g,ka*2+1,none⟩=some (.int .i64 ya.n):=fun E=>E.cell (by rw[OW.out.cellAt (ka*2+1) (by omega)];exact bS HYa.out (k:=1) (by decide))
  have a6:∀E:Up w1,E.to.cell? ⟨g,kb*2,none⟩=some (.int .i64 yb.kind):=fun E=>E.cell (by rw[OW.out.cellAt (kb*2) (by omega)];exact bS HYb.out (k:=0) (by decide))
  have a7:∀E:Up w1,E.to.cell? ⟨g,kb*2+1,none⟩=some (.int .i64 yb.n):=fun E=>E.cell (by rw[OW.out.cellAt (kb*2+1) (by omega)];exact bS HYb.out (k:=1) (by decide))
  clear x0
  obtain⟨b0,hb0⟩:∃b0,b0=w1.heap.size:=⟨_,rfl⟩
  refine gQ (fun w'=>∃E:Up w1,w'=E.to) [0,1,2,3,4,5,6,7,8,9,10,11,12,13,14,15,16,17] [18,19,20,21,22,23] 7 #[true,true,true,true,true,true,true,true,true,true,true,true,true,true,true,true,true,true,false,false,false,false,false,false,false] _ (by kernel_rfl) (by kernel_rfl) (by simp only[List.filterMap_cons,List.filterMap_nil,List.getElem?_toArray,List.getElem?_cons_zero,List.getElem?_cons_succ];rfl) (fun _ _ d _ _ h=>by cases d <;> exact h) ⟨⟨_,(Below.refl _ w1).drew⟩,rfl⟩ ?_
  generalize hqq:(fun a'=>cN _ _ _ _ _ _ _ _ a' _)=qq
  have HQQ:=hI hqq
  clear hqq
  show wpQuiet _ _ _ _ [_,_,_,_,_,_,_,_,_,_,_,_,_,_,_,_,_,_] _
  repeat (go_big_quiet_step (fail))
  refine wpQuiet_nil ?_
  rw[←HQQ.out]
  clear HQQ qq hb0 b0 a0 a1 a2 a3 a4 a5 a6 a7
  obtain⟨wd,hwd⟩:∃wd,wd=w1.drew:=⟨_,rfl⟩
  have KD:Hid (Below w1.heap.size w1 wd):=by rw[hwd];exact(Below.refl _ w1).drew
  rw[←hwd]
  clear hwd
  refine qU (i:=18) (k:=22) (by kernel_rfl) rfl rfl (fun K hK=>?_) (fun K hK=>?_)
  ·go_simp
   refine(BC.out wd).mono ?_
   rintro e w3 ⟨rfl,kc⟩
   have K3:=btZ KD kc
   clear kc
   refine hK _ _ (fun _=>⟨⟨w3,K3.out⟩,rfl⟩) ?_
   clear hK K
   refine fJ [19,20,21] 3 #[true,true,true,true,true,true,true,true,true,true,true,true,true,true,true,true,true,true,true,true,true,true,false,false,false] _ (by kernel_rfl) rfl (by simp only[List.filterMap_cons,List.filterMap_nil,List.getElem?_toArray,List.getElem?_cons_zero,List.getElem?_cons_succ];rfl) (fun _ _ d _ _ h=>by cases d <;> exact h) ⟨⟨w3,K3.out⟩,rfl⟩ ?_
   show wpQuiet _ _ _ _ [_,_,_] _
   repeat (go_big_quiet_step (fail))
   refine wpQuiet_nil ?_
   refine jJ (i:=22) (by kernel_rfl) rfl (fun K hK=>?_)
   go_simp
   obtain⟨w4,hv'⟩:∃v',v'=w3.alloc (.cells #[.int .i64 0,.int .i64 0] 48):=⟨_,rfl⟩
   obtain⟨ob,hg'⟩:∃g',g'=w3.heap.size:=⟨_,rfl⟩
   have HOB:Hid (w1.heap.size≤ob):=by rw[hg'];exact K3.out.size
   have K4:Hid (Below w1.heap.size w1 w4):=by rw[hv'];exact K3.out.trans ((aB _ _).mono K3.out.size)
   have A4:Hid (w4.heap[ob]? = some (.cells #[.int .i64 0,.int .i64 0] 48 (0,0))):=by rw[hv',hg'];exact aJ _ _
   rw[←hv',←hg']
   refine hK _ _ (fun _=>⟨⟨w4,K4.out⟩,rfl⟩) ?_
   clear hK K hv' hg'
   refine d9 [23,24] _ _ _ (by kernel_rfl) ?_
   refine bA rfl (fun K hK=>?_)
   rw[if_pos (by rfl)]
   refine wp_store_row 48 _ _ rfl ob #[.int .i64 rr.1.kind,.int .i64 rr.1.n] rfl rfl 48 _ A4.out aF rfl (all_oneCell_toArray (by simp[Value.oneCell'])) ?_
   generalize hw5:World.setRow _ _ _=w5
   have K5:Hid (Below w1.heap.size w1 w5):=by rw[←hw5];exact Below.set_row K4.out HOB.out _
   have A5:=shZ hw5 A4
   clear hw5
   refine hK _ _ (fun _=>⟨⟨w5,K5.out⟩,rfl⟩) ?_
   clear hK K
   refine bP [24] _ _ (by kernel_rfl) (by kernel_rfl) ?_
   simp only[List.filterMap_cons,List.filterMap_nil,List.getElem?_toArray,List.getElem?_cons_zero,List.getElem?_cons_succ]
   (try dsimp only [Act.put])
   go_upto_region 17 with fail
   have o0:=crZ A5 0 rfl
   have o1:=crZ A5 1 rfl
   have L5:=hI (L1.out.below HK.out K5.out)
   have TC:=hI (uI HK.out L5.out HX.out hiv hlen rr.1 HWR.out.1 rr.2 HWR.out.2)
   go_wp2_with fail
   refine TC.out.mono ?_
   rintro e w6 ⟨rfl,⟨cv',vv',vs',fs',L6⟩,K6⟩
   have LL:=hI L6
   have KK:=hI K6
   clear L6 K6 o0 o1
   go_wp2_with fail
   go_ret
   have e1:=congrArg Prod.fst HN.out
   have e2:=congrArg Prod.snd HN.out
   dsimp only at e1 e2
   subst e1;subst e2
   exact⟨rfl,⟨_,_,_,_,LL.out⟩,(aQ.of (K1.out.trans (K5.out.mono K1.out.size))).trans KK.out⟩
  ·go_simp
   obtain⟨w3,hv'⟩:∃v',v'=wd.alloc (.cells #[.int .i64 0,.int .i64 0] 48):=⟨_,rfl⟩
   obtain⟨ob,hg'⟩:∃g',g'=wd.heap.size:=⟨_,rfl⟩
   have HOB:Hid (w1.heap.size≤ob):=by rw[hg'];exact KD.out.size
   have K3:Hid (Below w1.heap.size w1 w3):=by rw[hv'];exact KD.out.trans ((aB _ _).mono KD.out.size)
   have A3:Hid (w3.heap[ob]? = some (.cells #[.int .i64 0,.int .i64 0] 48 (0,0))):=by rw[hv',hg'];exact aJ _ _
   rw[←hv',←hg']
   refine hK _ _ (fun _=>⟨⟨w3,K3.out⟩,rfl⟩) ?_
   clear hK K hv' hg'
   refine jJ (i:=18) (by kernel_rfl) rfl (fun K hK=>?_)
   go_simp
   refine(BC.out w3).mono ?_
   rintro e w4 ⟨rfl,kc⟩
   have K4:=btZ K3 kc
   have A4:Hid (w4.heap[ob]? = some (.cells #[.int .i64 0,.int .i64 0] 48 (0,0))):=by
    show _=_
    rw[kc.block _ (aV A3.out)];exact A3.out
   clear kc
   refine hK _ _ (fun _=>⟨⟨w4,K4.out⟩,rfl⟩) ?_
   clear hK K
   refine fJ [19,20,21] 2 #[true,true,true,true,true,true,true,true,true,true,true,true,true,true,true,true,true,true,true,true,true,true,true,false,false] _ (by kernel_rfl) rfl (by simp only[List.filterMap_cons,List.filterMap_nil,List.getElem?_toArray,List.getElem?_cons_zero,List.getElem?_cons_succ];rfl) (fun _ _ d _ _ h=>by cases d <;> exact h) ⟨⟨w4,K4.out⟩,rfl⟩ ?_
   show wpQuiet _ _ _ _ [_,_,_] _
   repeat (go_big_quiet_step (fail))
   refine wpQuiet_nil ?_
   refine d9 [23,24] _ _ _ (by kernel_rfl) ?_
   refine bA rfl (fun K hK=>?_)
   rw[if_pos (by rfl)]
   refine wp_store_row 48 _ _ rfl ob #[.int .i64 rr.1.kind,.int .i64 rr.1.n] rfl rfl 48 _ A4.out aF rfl (all_oneCell_toArray (by simp[Value.oneCell'])) ?_
   generalize hw5:World.setRow _ _ _=w5
   have K5:Hid (Below w1.heap.size w1 w5):=by rw[←hw5];exact Below.set_row K4.out HOB.out _
   have A5:=shZ hw5 A4
   clear hw5
   refine hK _ _ (fun _=>⟨⟨w5,K5.out⟩,rfl⟩) ?_
   clear hK K
   refine bP [24] _ _ (by kernel_rfl) (by kernel_rfl) ?_
   simp only[List.filterMap_cons,List.filterMap_nil,List.getElem?_toArray,List.getElem?_cons_zero,List.getElem?_cons_succ]
   (try dsimp only [Act.put])
   go_upto_region 17 with fail
   have o0:=crZ A5 0 rfl
   have o1:=crZ A5 1 rfl
   have L5:=hI (L1.out.below HK.out K5.out)
   have TC:=hI (uI HK.out L5.out HX.out hiv hlen rr.1 HWR.out.1 rr.2 HWR.out.2)
   go_wp2_with fail
   refine TC.out.mono ?_
   rintro e w6 ⟨rfl,⟨cv',vv',vs',fs',L6⟩,K6⟩
   have LL:=hI L6
   have KK:=hI K6
   clear L6 K6 o0 o1
   go_wp2_with fail
   go_ret
   have e1:=congrArg Prod.fst HN.out
   have e2:=congrArg Prod.snd HN.out
   dsimp only at e1 e2
   subst e1;subst e2
   exact⟨rfl,⟨_,_,_,_,LL.out⟩,(aQ.of (K1.out.trans (K5.out.mono K1.out.size))).trans KK.out⟩
 ·have HN:Hid ((iQ W i x.exit (cJ.U x.n (cX W x.a)))=(W',q)):=by
   show _=_
   rw[←HD.out];unfold doI
   rw[if_neg (by omega)];rw[if_neg (by omega)];rw[if_neg (by omega)];rw[if_neg (by omega)];rw[if_neg (by omega)];rw[if_pos h]
  rw[h] at x0
  have hask:=F.a (by rw[h];decide)
  obtain⟨ka,hka⟩:∃k:Nat,x.a=(k:Int):=⟨x.a.toNat,by omega⟩
  have hlka:ka<W.vals.length:=by rw[M.vals];omega
  have hika:(ka:Int)<W.vals.length:=by omega
  obtain⟨ya,hya⟩:∃y,W.vals[ka]? = some y:=⟨_,lG hlka⟩
  have Hka:=hI hka
  have HYa:=hI hya
  clear hask hka hya
  obtain⟨rr,hrr⟩:∃rr,o4 x.n ya=rr:=⟨_,rfl⟩
  have HWR:Hid (WfV rr.1∧wfi rr.2):=by rw[←hrr];exact ab0 x.n ya
  have BC:=hI (fun W2=>unary_c x.n ya W2)
  unfold bB at BC
  rw[hrr] at BC
  have HN:Hid (iQ W i x.exit rr=(W',q)):=by
   have:=HN.out
   rw[Hka.out,fR HYa.out] at this
   rw[←hrr];exact this
  have OW:=hI L1.out.vals
  rw[HV.out] at OW
  clear h hrr
  go_upto_region 19 with fail
  have a0:∀E:Up w1,E.to.cell? ⟨Γ.wb,17,none⟩=some (.slice (some ⟨g,0,none⟩) W.vals.length cap):=fun E=>E.cell (by have h:=L1.out.own HK.out 4;rw[HV.out] at h;exact h)
  have a1:∀E:Up w1,E.to.cell? ⟨w.heap.size,4,none⟩=some (.int .i64 x.n):=fun E=>E.cell (by exact HB1.out 4 _ rfl)
  have a2:∀E:Up w1,E.to.cell? ⟨w.heap.size,1,none⟩=some (.int .i64 ka):=fun E=>E.cell (by rw[←Hka.out];exact HB1.out 1 _ rfl)
  have a3:∀E:Up w1,E.to.cell? ⟨g,ka*2,none⟩=some (.int .i64 ya.kind):=fun E=>E.cell (by rw[OW.out.cellAt (ka*2) (by omega)];exact bS HYa.out (k:=0) (by decide))
  have a4:∀E:Up w1,E.to.cell? ⟨g,ka*2+1,none⟩=some (.int .i64 ya.n):=fun E=>E.cell (by rw[OW.out.cellAt (ka*2+1) (by omega)];exact bS HYa.out (k:=1) (by decide))
  clear x0
  obtain⟨b0,hb0⟩:∃b0,b0=w1.heap.size:=⟨_,rfl⟩
  refine gQ (fun w'=>∃E:Up w1,w'=E.to) [0,1,2,3,4,5,6,7,8,9] [10,11,12,13,14,15] 7 #[true,true,true,true,true,true,true,true,true,true,false,false,false,false,false,false,false] _ (by kernel_rfl) (by kernel_rfl) (by simp only[List.filterMap_cons,List.filterMap_nil,List.getElem?_toArray,List.getElem?_cons_zero,List.getElem?_cons_succ];rfl) (fun _ _ d _ _ h=>by cases d <;> exact h) ⟨⟨_,(Below.refl _ w1).drew⟩,rfl⟩ ?_
  generalize hqq:(fun a'=>cN _ _ _ _ _ _ _ _ a' _)=qq
  have HQQ:=hI hqq
  clear hqq
  show wpQuiet _ _ _ _ [_,_,_,_,_,_,_,_,_,_] _
  repeat (go_big_quiet_step (fail))
  refine wpQuiet_nil ?_
  rw[←HQQ.out]
  clear HQQ qq hb0 b0 a0 a1 a2 a3 a4
  obtain⟨wd,hwd⟩:∃wd,wd=w1.drew:=⟨_,rfl⟩
  have KD:Hid (Below w1.heap.size w1 wd):=by rw[hwd];exact(Below.refl _ w1).drew
  rw[←hwd]
  clear hwd
  refine qU (i:=10) (k:=14) (by kernel_rfl) rfl rfl (fun K hK=>?_) (fun K hK=>?_)
  ·go_simp
   refine(BC.out wd).mono ?_
   rintro e w3 ⟨rfl,kc⟩
   have K3:=btZ KD kc
   clear kc
   refine hK _ _ (fun _=>⟨⟨w3,K3.out⟩,rfl⟩) ?_
   clear hK K
   refine fJ [11,12,13] 3 #[true,true,true,true,true,true,true,true,true,true,true,true,true,true,false,false,false] _ (by kernel_rfl) rfl (by simp only[List.filterMap_cons,List.filterMap_nil,List.getElem?_toArray,List.getElem?_cons_zero,List.getElem?_cons_succ];rfl) (fun _ _ d _ _ h=>by cases d <;> exact h) ⟨⟨w3,K3.out⟩,rfl⟩ ?_
   show wpQuiet _ _ _ _ [_,_,_] _
   repeat (go_big_quiet_step (fail))
   refine wpQuiet_nil ?_
   refine jJ (i:=14) (by kernel_rfl) rfl (fun K hK=>?_)
   go_simp
   obtain⟨w4,hv'⟩:∃v',v'=w3.alloc (.cells #[.int .i64 0,.int .i64 0] 48):=⟨_,rfl⟩
   obtain⟨ob,hg'⟩:∃g',g'=w3.heap.size:=⟨_,rfl⟩
   have HOB:Hid (w1.heap.size≤ob):=by rw[hg'];exact K3.out.size
   have K4:Hid (Below w1.heap.size w1 w4):=by rw[hv'];exact K3.out.trans ((aB _ _).mono K3.out.size)
   have A4:Hid (w4.heap[ob]? = some (.cells #[.int .i64 0,.int .i64 0] 48 (0,0))):=by rw[hv',hg'];exact aJ _ _
   rw[←hv',←hg']
   refine hK _ _ (fun _=>⟨⟨w4,K4.out⟩,rfl⟩) ?_
   clear hK K hv' hg'
   refine d9 [15,16] _ _ _ (by kernel_rfl) ?_
   refine bA rfl (fun K hK=>?_)
   rw[if_pos (by rfl)]
   refine wp_store_row 48 _ _ rfl ob #[.int .i64 rr.1.kind,.int .i64 rr.1.n] rfl rfl 48 _ A4.out aF rfl (all_oneCell_toArray (by simp[Value.oneCell'])) ?_
   generalize hw5:World.setRow _ _ _=w5
   have K5:Hid (Below w1.heap.size w1 w5):=by rw[←hw5];exact Below.set_row K4.out HOB.out _
   have A5:=shZ hw5 A4
   clear hw5
   refine hK _ _ (fun _=>⟨⟨w5,K5.out⟩,rfl⟩) ?_
   clear hK K
   refine bP [16] _ _ (by kernel_rfl) (by kernel_rfl) ?_
   simp only[List.filterMap_cons,List.filterMap_nil,List.getElem?_toArray,List.getElem?_cons_zero,List.getElem?_cons_succ]
   (try dsimp only [Act.put])
   go_upto_region 20 with fail
   have o0:=crZ A5 0 rfl
   have o1:=crZ A5 1 rfl
   have L5:=hI (L1.out.below HK.out K5.out)
   have TC:=hI (uI HK.out L5.out HX.out hiv hlen rr.1 HWR.out.1 rr.2 HWR.out.2)
   go_wp2_with fail
   refine TC.out.mono ?_
   rintro e w6 ⟨rfl,⟨cv',vv',vs',fs',L6⟩,K6⟩
   have LL:=hI L6
   have KK:=hI K6
   clear L6 K6 o0 o1
   go_wp2_with fail
   go_ret
   have e1:=congrArg Prod.fst HN.out
   have e2:=congrArg Prod.snd HN.out
   dsimp only at e1 e2
   subst e1;subst e2
   exact⟨rfl,⟨_,_,_,_,LL.out⟩,(aQ.of (K1.out.trans (K5.out.mono K1.out.size))).trans KK.out⟩
  ·go_simp
   obtain⟨w3,hv'⟩:∃v',v'=wd.alloc (.cells #[.int .i64 0,.int .i64 0] 48):=⟨_,rfl⟩
   obtain⟨ob,hg'⟩:∃g',g'=wd.heap.size:=⟨_,rfl⟩
   have HOB:Hid (w1.heap.size≤ob):=by rw[hg'];exact KD.out.size
   have K3:Hid (Below w1.heap.size w1 w3):=by rw[hv'];exact KD.out.trans ((aB _ _).mono KD.out.size)
   have A3:Hid (w3.heap[ob]? = some (.cells #[.int .i64 0,.int .i64 0] 48 (0,0))):=by rw[hv',hg'];exact aJ _ _
   rw[←hv',←hg']
   refine hK _ _ (fun _=>⟨⟨w3,K3.out⟩,rfl⟩) ?_
   clear hK K hv' hg'
   refine jJ (i:=10) (by kernel_rfl) rfl (fun K hK=>?_)
   go_simp
   refine(BC.out w3).mono ?_
   rintro e w4 ⟨rfl,kc⟩
   have K4:=btZ K3 kc
   have A4:Hid (w4.heap[ob]? = some (.cells #[.int .i64 0,.int .i64 0] 48 (0,0))):=by
    show _=_
    rw[kc.block _ (aV A3.out)];exact A3.out
   clear kc
   refine hK _ _ (fun _=>⟨⟨w4,K4.out⟩,rfl⟩) ?_
   clear hK K
   refine fJ [11,12,13] 2 #[true,true,true,true,true,true,true,true,true,true,true,true,true,true,true,false,false] _ (by kernel_rfl) rfl (by simp only[List.filterMap_cons,List.filterMap_nil,List.getElem?_toArray,List.getElem?_cons_zero,List.getElem?_cons_succ];rfl) (fun _ _ d _ _ h=>by cases d <;> exact h) ⟨⟨w4,K4.out⟩,rfl⟩ ?_
   show wpQuiet _ _ _ _ [_,_,_] _
   repeat (go_big_quiet_step (fail))
   refine wpQuiet_nil ?_
   refine d9 [15,16] _ _ _ (by kernel_rfl) ?_
   refine bA rfl (fun K hK=>?_)
   rw[if_pos (by rfl)]
   refine wp_store_row 48 _ _ rfl ob #[.int .i64 rr.1.kind,.int .i64 rr.1.n] rfl rfl 48 _ A4.out aF rfl (all_oneCell_toArray (by simp[Value.oneCell'])) ?_
   generalize hw5:World.setRow _ _ _=w5
   have K5:Hid (Below w1.heap.size w1 w5):=by rw[←hw5];exact Below.set_row K4.out HOB.out _
   have A5:=shZ hw5 A4
   clear hw5
   refine hK _ _ (fun _=>⟨⟨w5,K5.out⟩,rfl⟩) ?_
   clear hK K
   refine bP [16] _ _ (by kernel_rfl) (by kernel_rfl) ?_
   simp only[List.filterMap_cons,List.filterMap_nil,List.getElem?_toArray,List.getElem?_cons_zero,List.getElem?_cons_succ]
   (try dsimp only [Act.put])
   go_upto_region 20 with fail
   have o0:=crZ A5 0 rfl
   have o1:=crZ A5 1 rfl
   have L5:=hI (L1.out.below HK.out K5.out)
   have TC:=hI (uI HK.out L5.out HX.out hiv hlen rr.1 HWR.out.1 rr.2 HWR.out.2)
   go_wp2_with fail
   refine TC.out.mono ?_
   rintro e w6 ⟨rfl,⟨cv',vv',vs',fs',L6⟩,K6⟩
   have LL:=hI L6
   have KK:=hI K6
   clear L6 K6 o0 o1
   go_wp2_with fail
   go_ret
   have e1:=congrArg Prod.fst HN.out
   have e2:=congrArg Prod.snd HN.out
   dsimp only at e1 e2
   subst e1;subst e2
   exact⟨rfl,⟨_,_,_,_,LL.out⟩,(aQ.of (K1.out.trans (K5.out.mono K1.out.size))).trans KK.out⟩
 ·have HN:Hid ((W,isW (iY cJ W x) 1)=(W',q)):=by
   show _=_
   rw[←HD.out];unfold doI
   rw[if_neg (by omega)];rw[if_neg (by omega)];rw[if_neg (by omega)];rw[if_pos (by omega)]
  rw[h] at x0
  have x1:=HB1.out 1 _ rfl
  have x2:=HB1.out 2 _ rfl
  have x3:=HB1.out 3 _ rfl
  have x4:=HB1.out 4 _ rfl
  have x5:=HB1.out 5 _ rfl
  have x6:=HB1.out 6 _ rfl
  have x7:=HB1.out 7 _ rfl
  have GC:=hI (qP HK.out L1.out hvn M.cells x ⟨(F.a (by rw[h];decide)).1,by have:=(F.a (by rw[h];decide)).2;rw[M.vals];omega⟩ (by exact .inr (.inr (.inr h))))
  rw[h] at GC
  obtain⟨gb,hgb⟩:∃gb,iY cJ W x=gb:=⟨_,rfl⟩
  rw[hgb] at GC HN
  clear h hgb
  go_wp2_with fail
  refine GC.out.mono ?_
  rintro e w2 ⟨rfl,k2⟩
  have K2:=btZ K1 k2
  have L2:=hI (L1.out.below HK.out k2)
  clear k2 x0 x1 x2 x3 x4 x5 x6 x7
  go_wp2_with fail
  refine(uV _ _ w2).mono ?_
  rintro e w3 ⟨rfl,rfl⟩
  go_wp2_with fail
  go_ret
  have e1:=congrArg Prod.fst HN.out
  have e2:=congrArg Prod.snd HN.out
  dsimp only at e1 e2
  subst e1;subst e2
  exact⟨rfl,⟨_,_,_,_,L2.out⟩,aQ.of K2.out⟩
 ·have HN:Hid ((gW W i x)=(W',q)):=by
   show _=_
   rw[←HD.out];unfold doI
   rw[if_neg (by omega)];rw[if_neg (by omega)];rw[if_neg (by omega)];rw[if_neg (by omega)];rw[if_neg (by omega)];rw[if_neg (by omega)];rw[if_pos (by omega)]
  rw[h] at x0
  have x1:=HB1.out 1 _ rfl
  have x2:=HB1.out 2 _ rfl
  have x3:=HB1.out 3 _ rfl
  have x4:=HB1.out 4 _ rfl
  have x5:=HB1.out 5 _ rfl
  have x6:=HB1.out 6 _ rfl
  have x7:=HB1.out 7 _ rfl
  have CC:=hI (xB HK.out L1.out hiv hvn M.cells x ⟨(F.a (by rw[h];decide)).1,by have:=(F.a (by rw[h];decide)).2;rw[M.vals];omega⟩ (fun c=>absurd c (by omega)) (fun _=>by have:=F.n.1;rw[h] at this;exact this) (by omega) HWI.out.2.2.2.2.1)
  rw[h] at CC
  clear h
  go_wp2_with fail
  refine CC.out.mono ?_
  rintro e w5 ⟨rfl,⟨cv',vv',vs',fs',L5⟩,K5⟩
  have LL:=hI L5
  have KK:=hI K5
  clear L5 K5 x0 x1 x2 x3 x4 x5 x6 x7
  go_wp2_with fail
  go_ret
  have e1:=congrArg Prod.fst HN.out
  have e2:=congrArg Prod.snd HN.out
  dsimp only at e1 e2
  subst e1;subst e2
  exact⟨rfl,⟨_,_,_,_,LL.out⟩,(aQ.of K1.out).trans KK.out⟩
 ·have HN:Hid ((gW W i x)=(W',q)):=by
   show _=_
   rw[←HD.out];unfold doI
   rw[if_neg (by omega)];rw[if_neg (by omega)];rw[if_neg (by omega)];rw[if_neg (by omega)];rw[if_neg (by omega)];rw[if_neg (by omega)];rw[if_pos (by omega)]
  rw[h] at x0
  have x1:=HB1.out 1 _ rfl
  have x2:=HB1.out 2 _ rfl
  have x3:=HB1.out 3 _ rfl
  have x4:=HB1.out 4 _ rfl
  have x5:=HB1.out 5 _ rfl
  have x6:=HB1.out 6 _ rfl
  have x7:=HB1.out 7 _ rfl
  have CC:=hI (xB HK.out L1.out hiv hvn M.cells x ⟨(F.a (by rw[h];decide)).1,by have:=(F.a (by rw[h];decide)).2;rw[M.vals];omega⟩ (fun c=>⟨(F.b (by rw[h];decide)).1,by have:=(F.b (by rw[h];decide)).2;rw[M.vals];omega⟩) (fun _=>by have:=F.n.1;rw[h] at this;exact this) (by omega) HWI.out.2.2.2.2.1)
  rw[h] at CC
  clear h
  go_wp2_with fail
  refine CC.out.mono ?_
  rintro e w5 ⟨rfl,⟨cv',vv',vs',fs',L5⟩,K5⟩
  have LL:=hI L5
  have KK:=hI K5
  clear L5 K5 x0 x1 x2 x3 x4 x5 x6 x7
  go_wp2_with fail
  go_ret
  have e1:=congrArg Prod.fst HN.out
  have e2:=congrArg Prod.snd HN.out
  dsimp only at e1 e2
  subst e1;subst e2
  exact⟨rfl,⟨_,_,_,_,LL.out⟩,(aQ.of K1.out).trans KK.out⟩
 ·have HN:Hid ((jT Γ.shapes W x)=(W',q)):=by
   show _=_
   rw[←HD.out];unfold doI
   rw[if_neg (by omega)];rw[if_neg (by omega)];rw[if_neg (by omega)];rw[if_neg (by omega)];rw[if_neg (by omega)];rw[if_neg (by omega)];rw[if_neg (by omega)];rw[if_pos h]
  rw[h] at x0
  have x1:=HB1.out 1 _ rfl
  have x2:=HB1.out 2 _ rfl
  have x3:=HB1.out 3 _ rfl
  have x4:=HB1.out 4 _ rfl
  have x5:=HB1.out 5 _ rfl
  have x6:=HB1.out 6 _ rfl
  have x7:=HB1.out 7 _ rfl
  have CC:=hI (grow_c HK.out L1.out hvn M.cells x ⟨(F.a (by rw[h];decide)).1,by have:=(F.a (by rw[h];decide)).2;rw[M.vals];omega⟩ ⟨(F.b (by rw[h];decide)).1,by have:=(F.b (by rw[h];decide)).2;rw[M.vals];omega⟩ (by have:=F.n.1;rw[h] at this;exact Int.le_trans (by decide) this) HWI.out.2.2.2.2.1)
  rw[h] at CC
  clear h
  go_wp2_with fail
  refine CC.out.mono ?_
  rintro e w5 ⟨rfl,⟨cv',vv',vs',fs',L5⟩,K5⟩
  have LL:=hI L5
  have KK:=hI K5
  clear L5 K5 x0 x1 x2 x3 x4 x5 x6 x7
  go_wp2_with fail
  go_ret
  have e1:=congrArg Prod.fst HN.out
  have e2:=congrArg Prod.snd HN.out
  dsimp only at e1 e2
  subst e1;subst e2
  exact⟨rfl,⟨_,_,_,_,LL.out⟩,(aQ.of K1.out).trans KK.out⟩
 ·have HN:Hid ((lP W i x)=(W',q)):=by
   show _=_
   rw[←HD.out];unfold doI
   rw[if_neg (by omega)];rw[if_neg (by omega)];rw[if_neg (by omega)];rw[if_neg (by omega)];rw[if_neg (by omega)];rw[if_neg (by omega)];rw[if_neg (by omega)];rw[if_neg (by omega)];rw[if_pos (by omega)]
  rw[h] at x0
  have hask:=F.a (by rw[h];decide)
  obtain⟨ka,hka⟩:∃k:Nat,x.a=(k:Int):=⟨x.a.toNat,by omega⟩
  have hlka:ka<W.vals.length:=by rw[M.vals];omega
  have hika:(ka:Int)<W.vals.length:=by omega
  obtain⟨ya,hya⟩:∃y,W.vals[ka]? = some y:=⟨_,lG hlka⟩
  have Hka:=hI hka
  have HYa:=hI hya
  clear hask hka hya
  have hask:=F.b (by rw[h];decide)
  obtain⟨kb,hkb⟩:∃k:Nat,x.b=(k:Int):=⟨x.b.toNat,by omega⟩
  have hlkb:kb<W.vals.length:=by rw[M.vals];omega
  have hikb:(kb:Int)<W.vals.length:=by omega
  obtain⟨yb,hyb⟩:∃y,W.vals[kb]? = some y:=⟨_,lG hlkb⟩
  have Hkb:=hI hkb
  have HYb:=hI hyb
  clear hask hkb hyb
  have CC:=hI (nY HK.out L1.out HYa.out M.cells)
  rw[←Hka.out] at CC
  have HS:Hid ((match eF W x.a with | none=>(W,(2:Int)) | some (n,c)=>if c.kind≠2 then(W,2) else if ¬(yb.kind=2∧0≤yb.n∧yb.n<c.vals.length) then(W,1) else(fS W i (c.vals.getD yb.n.toNat ⟨0,0⟩),0))=(W',q)):=by
   have:=HN.out
   unfold lP at this
   rw[Hkb.out,fR HYb.out] at this
   simp only[if_pos h] at this
   exact this
  clear HN
  have x1:=HB1.out 1 _ rfl
  have HOP:=hI h
  clear h
  go_wp2_with fail
  refine CC.out.mono ?_
  rintro e w2 ⟨rfl,k2⟩
  have K12:=hI k2
  have K2:=btZ K1 k2
  have L2:=hI (L1.out.below HK.out k2)
  clear k2 x0 x1
  have IC:=hI (acS HK.out L2.out HYb.out hvn x.a)
  have x2:w2.cell? ⟨w.heap.size,2,none⟩=some (.int .i64 kb):=by rw[←Hkb.out];exact aC K12.out (HB1.out 2 _ rfl)
  go_wp2_with fail
  refine IC.out.mono ?_
  rintro e w3 ⟨m,how,rfl,k3,his⟩
  have K13:=btZ K12 k3
  have K3:=btZ K2 k3
  have L3:=hI (L2.out.below HK.out k3)
  clear k3 x2
  have x0:w3.cell? ⟨w.heap.size,0,none⟩=some (.int .i64 13):=by rw[←HOP.out];exact aC K13.out (HB1.out 0 _ rfl)
  cases hcell:eF W x.a with
  | none=>
   unfold eG at his
   rw[hcell] at his
   dsimp only at his
   subst his
   rw[eV hcell]
   have HN:Hid ((W,(2:Int))=(W',q)):=by show _=_;rw[←HS.out,hcell]
   clear hcell
   go_wp2_with fail
   go_ret
   have e1:=congrArg Prod.fst HN.out
   have e2:=congrArg Prod.snd HN.out
   dsimp only at e1 e2
   subst e1;subst e2
   exact⟨rfl,⟨_,_,_,_,L3.out⟩,aQ.of K3.out⟩
  | some p=>
   obtain⟨n,c⟩:=p
   obtain⟨gc,cc,v,f,vA,vc,hcv,hc,hv,hf,hvs,hpt,c0,c1,c2,c3,hgc⟩:=L3.out.atCell hcell
   rw[hpt]
   subst hvs
   have HC:=hI hc
   have HVN:=hI hv
   have HF:=hI hf
   have C2:=hI c2
   unfold eG at his
   rw[hcell] at his
   dsimp only at his
   have HT:Hid ((if c.kind≠2 then(W,(2:Int)) else if ¬(yb.kind=2∧0≤yb.n∧yb.n<c.vals.length) then(W,1) else(fS W i (c.vals.getD yb.n.toNat ⟨0,0⟩),0))=(W',q)):=by show _=_;rw[←HS.out,hcell]
   clear hcell c0 c1 c2 c3 hc hv hf hpt hcv HS
   by_cases hk2:c.kind=2
   ·rw[if_neg (fun h=>h hk2)] at his
    by_cases hin:yb.kind=2∧0≤yb.n∧yb.n<c.vals.length
    ·rw[if_neg (fun h=>h hin)] at his
     obtain⟨rfl,rfl⟩:=his
     obtain⟨j,hj⟩:∃j:Nat,yb.n=(j:Int):=⟨yb.n.toNat,by omega⟩
     have hjl:j<c.vals.length:=by omega
     have hji:(j:Int)<c.vals.length:=by omega
     obtain⟨y2,hy2⟩:∃y2,c.vals[j]? = some y2:=⟨_,lG hjl⟩
     have HJ:=hI hj
     have HY2:=hI hy2
     have HN:Hid ((fS W i y2,(0:Int))=(W',q)):=by
      show _=_
      rw[←HT.out,if_neg (fun h=>h hk2),if_neg (fun h=>h hin),hj,Int.toNat_natCast,List.getD_eq_getElem?_getD,hy2];rfl
     rw[hj]
     have OV:=hI (L3.out.cvals n _ c HVN.out HC.out)
     obtain⟨gv,vcap,hvA,-,hgv⟩:=OV.out.form (Nat.zero_lt_of_lt hjl)
     injection hvA with hvA _ _
     subst hvA
     have OW:=hI L3.out.vals
     rw[HV.out] at OW
     clear hk2 hin hj hy2
     go_upto_region 35 with fail
     have a0:∀E:Up w3,E.to.cell? ⟨Γ.wb,17,none⟩=some (.slice (some ⟨g,0,none⟩) W.vals.length cap):=fun E=>E.cell (by have h:=L3.out.own HK.out 4;rw[HV.out] at h;exact h)
     have a1:∀E:Up w3,E.to.cell? ⟨gc,n*4+2,none⟩=some (.slice (some ⟨gv,0,none⟩) c.vals.length vc):=fun E=>E.cell (C2.out)
     have a2:∀E:Up w3,E.to.cell? ⟨gv,j*2,none⟩=some (.int .i64 y2.kind):=fun E=>E.cell (by rw[OV.out.cellAt (j*2) (by omega)];exact bS HY2.out (k:=0) (by decide))
     have a3:∀E:Up w3,E.to.cell? ⟨gv,j*2+1,none⟩=some (.int .i64 y2.n):=fun E=>E.cell (by rw[OV.out.cellAt (j*2+1) (by omega)];exact bS HY2.out (k:=1) (by decide))
     clear x0
     refine aL 12 (by kernel_rfl) (by kernel_rfl) ?_
     simp only[List.take_succ_cons,List.take_zero]
     repeat (go_big_quiet_step (fail))
     refine wpQuiet_nil ?_
     intro w' hE
     obtain⟨E,rfl⟩:=hE
     obtain⟨wy,ky⟩:=E
     dsimp only
     have LY:=hI (L3.out.below HK.out ky)
     have KY:=btZ K3 ky
     clear ky a0 a1 a2 a3
     obtain⟨u,hu⟩:∃u,W.vals[i]? = some u:=⟨_,lG hiv⟩
     have TH:Hid (wy.there g (i*2) 2):=by
      have:=LY.out.vals
      rw[HV.out] at this
      exact dZ this (by omega)
     have hwf:WfV y2:=(LY.out.wfc c (List.mem_of_getElem? HC.out)).2.2 y2 (List.mem_of_getElem? HY2.out)
     have S9:Hid (bO Γ (wy.setCells g (i*2) [.int .i64 y2.kind,.int .i64 y2.n]) (fS W i y2) cv vv vs fs∧aQ wy (wy.setCells g (i*2) [.int .i64 y2.kind,.int .i64 y2.n])):=LY.out.setVal HK.out hu hwf HV.out
     clear hu hwf
     simp only[List.drop_succ_cons,List.drop_zero]
     go_upto_region 42 with (first | (refine wpList_store_mid rfl 48 _ _ rfl g (i*2) #[.int .i64 y2.kind,.int .i64 y2.n] rfl rfl TH.out aF (all_oneCell_toArray (by simp[Value.oneCell'])) ?_) | fail)
     generalize hw9:World.setCells _ _ _ _=w9
     rw[hw9] at S9
     clear hw9
     (try dsimp only [Act.put])
     go_wp2_with fail
     go_ret
     have e1:=congrArg Prod.fst HN.out
     have e2:=congrArg Prod.snd HN.out
     dsimp only at e1 e2
     subst e1;subst e2
     exact⟨rfl,⟨_,_,_,_,S9.out.1⟩,(aQ.of KY.out).trans S9.out.2⟩
    ·rw[if_pos hin] at his
     subst his
     have HN:Hid ((W,(1:Int))=(W',q)):=by show _=_;rw[←HT.out,if_neg (fun h=>h hk2),if_pos hin]
     clear hin hk2
     go_wp2_with fail
     go_ret
     have e1:=congrArg Prod.fst HN.out
     have e2:=congrArg Prod.snd HN.out
     dsimp only at e1 e2
     subst e1;subst e2
     exact⟨rfl,⟨_,_,_,_,L3.out⟩,aQ.of K3.out⟩
   ·rw[if_pos hk2] at his
    subst his
    have HN:Hid ((W,(2:Int))=(W',q)):=by show _=_;rw[←HT.out,if_pos hk2]
    clear hk2
    go_wp2_with fail
    go_ret
    have e1:=congrArg Prod.fst HN.out
    have e2:=congrArg Prod.snd HN.out
    dsimp only at e1 e2
    subst e1;subst e2
    exact⟨rfl,⟨_,_,_,_,L3.out⟩,aQ.of K3.out⟩
 ·have HN:Hid ((lP W i x)=(W',q)):=by
   show _=_
   rw[←HD.out];unfold doI
   rw[if_neg (by omega)];rw[if_neg (by omega)];rw[if_neg (by omega)];rw[if_neg (by omega)];rw[if_neg (by omega)];rw[if_neg (by omega)];rw[if_neg (by omega)];rw[if_neg (by omega)];rw[if_pos (by omega)]
  rw[h] at x0
  have hask:=F.a (by rw[h];decide)
  obtain⟨ka,hka⟩:∃k:Nat,x.a=(k:Int):=⟨x.a.toNat,by omega⟩
  have hlka:ka<W.vals.length:=by rw[M.vals];omega
  have hika:(ka:Int)<W.vals.length:=by omega
  obtain⟨ya,hya⟩:∃y,W.vals[ka]? = some y:=⟨_,lG hlka⟩
  have Hka:=hI hka
  have HYa:=hI hya
  clear hask hka hya
  have hask:=F.b (by rw[h];decide)
  obtain⟨kb,hkb⟩:∃k:Nat,x.b=(k:Int):=⟨x.b.toNat,by omega⟩
  have hlkb:kb<W.vals.length:=by rw[M.vals];omega
  have hikb:(kb:Int)<W.vals.length:=by omega
  obtain⟨yb,hyb⟩:∃y,W.vals[kb]? = some y:=⟨_,lG hlkb⟩
  have Hkb:=hI hkb
  have HYb:=hI hyb
  clear hask hkb hyb
  have hask:=F.c (by rw[h];decide)
  obtain⟨kc,hkc⟩:∃k:Nat,x.c=(k:Int):=⟨x.c.toNat,by omega⟩
  have hlkc:kc<W.vals.length:=by rw[M.vals];omega
  have hikc:(kc:Int)<W.vals.length:=by omega
  obtain⟨yc,hyc⟩:∃y,W.vals[kc]? = some y:=⟨_,lG hlkc⟩
  have Hkc:=hI hkc
  have HYc:=hI hyc
  clear hask hkc hyc
  have CC:=hI (nY HK.out L1.out HYa.out M.cells)
  rw[←Hka.out] at CC
  have HS:Hid ((match eF W x.a with | none=>(W,(2:Int)) | some (n,c)=>if c.kind≠2 then(W,2) else if ¬(yb.kind=2∧0≤yb.n∧yb.n<c.vals.length) then(W,1) else(setCW W n { c with vals:=c.vals.set yb.n.toNat yc },0))=(W',q)):=by
   have:=HN.out
   unfold lP at this
   rw[Hkb.out,fR HYb.out,Hkc.out,fR HYc.out] at this
   simp only[if_neg (show ¬x.op=13 by omega)] at this
   exact this
  clear HN
  have x1:=HB1.out 1 _ rfl
  have HOP:=hI h
  clear h
  go_wp2_with fail
  refine CC.out.mono ?_
  rintro e w2 ⟨rfl,k2⟩
  have K12:=hI k2
  have K2:=btZ K1 k2
  have L2:=hI (L1.out.below HK.out k2)
  clear k2 x0 x1
  have IC:=hI (acS HK.out L2.out HYb.out hvn x.a)
  have x2:w2.cell? ⟨w.heap.size,2,none⟩=some (.int .i64 kb):=by rw[←Hkb.out];exact aC K12.out (HB1.out 2 _ rfl)
  go_wp2_with fail
  refine IC.out.mono ?_
  rintro e w3 ⟨m,how,rfl,k3,his⟩
  have K13:=btZ K12 k3
  have K3:=btZ K2 k3
  have L3:=hI (L2.out.below HK.out k3)
  clear k3 x2
  have x0:w3.cell? ⟨w.heap.size,0,none⟩=some (.int .i64 14):=by rw[←HOP.out];exact aC K13.out (HB1.out 0 _ rfl)
  cases hcell:eF W x.a with
  | none=>
   unfold eG at his
   rw[hcell] at his
   dsimp only at his
   subst his
   rw[eV hcell]
   have HN:Hid ((W,(2:Int))=(W',q)):=by show _=_;rw[←HS.out,hcell]
   clear hcell
   go_wp2_with fail
   go_ret
   have e1:=congrArg Prod.fst HN.out
   have e2:=congrArg Prod.snd HN.out
   dsimp only at e1 e2
   subst e1;subst e2
   exact⟨rfl,⟨_,_,_,_,L3.out⟩,aQ.of K3.out⟩
  | some p=>
   obtain⟨n,c⟩:=p
   obtain⟨gc,cc,v,f,vA,vc,hcv,hc,hv,hf,hvs,hpt,c0,c1,c2,c3,hgc⟩:=L3.out.atCell hcell
   rw[hpt]
   subst hvs
   have HC:=hI hc
   have HVN:=hI hv
   have HF:=hI hf
   have C2:=hI c2
   unfold eG at his
   rw[hcell] at his
   dsimp only at his
   have HT:Hid ((if c.kind≠2 then(W,(2:Int)) else if ¬(yb.kind=2∧0≤yb.n∧yb.n<c.vals.length) then(W,1) else(setCW W n { c with vals:=c.vals.set yb.n.toNat yc },0))=(W',q)):=by show _=_;rw[←HS.out,hcell]
   clear hcell c0 c1 c2 c3 hc hv hf hpt hcv HS
   by_cases hk2:c.kind=2
   ·rw[if_neg (fun h=>h hk2)] at his
    by_cases hin:yb.kind=2∧0≤yb.n∧yb.n<c.vals.length
    ·rw[if_neg (fun h=>h hin)] at his
     obtain⟨rfl,rfl⟩:=his
     obtain⟨j,hj⟩:∃j:Nat,yb.n=(j:Int):=⟨yb.n.toNat,by omega⟩
     have hjl:j<c.vals.length:=by omega
     have hji:(j:Int)<c.vals.length:=by omega
     obtain⟨y2,hy2⟩:∃y2,c.vals[j]? = some y2:=⟨_,lG hjl⟩
     have HJ:=hI hj
     have HY2:=hI hy2
     have HN:Hid ((setCW W n { c with vals:=c.vals.set j yc },(0:Int))=(W',q)):=by
      show _=_
      rw[←HT.out,if_neg (fun h=>h hk2),if_neg (fun h=>h hin),hj,Int.toNat_natCast]
     rw[hj]
     have OV:=hI (L3.out.cvals n _ c HVN.out HC.out)
     obtain⟨gv,vcap,hvA,-,hgv⟩:=OV.out.form (Nat.zero_lt_of_lt hjl)
     injection hvA with hvA _ _
     subst hvA
     have OW:=hI L3.out.vals
     rw[HV.out] at OW
     clear hk2 hin hj hy2
     go_upto_region 31 with fail
     have a0:∀E:Up w3,E.to.cell? ⟨Γ.wb,17,none⟩=some (.slice (some ⟨g,0,none⟩) W.vals.length cap):=fun E=>E.cell (by have h:=L3.out.own HK.out 4;rw[HV.out] at h;exact h)
     have a1:∀E:Up w3,E.to.cell? ⟨gc,n*4+2,none⟩=some (.slice (some ⟨gv,0,none⟩) c.vals.length vc):=fun E=>E.cell (C2.out)
     have a2:∀E:Up w3,E.to.cell? ⟨w.heap.size,3,none⟩=some (.int .i64 kc):=fun E=>E.cell (by rw[←Hkc.out];exact aC K13.out (HB1.out 3 _ rfl))
     have a3:∀E:Up w3,E.to.cell? ⟨g,kc*2,none⟩=some (.int .i64 yc.kind):=fun E=>E.cell (by rw[OW.out.cellAt (kc*2) (by omega)];exact bS HYc.out (k:=0) (by decide))
     have a4:∀E:Up w3,E.to.cell? ⟨g,kc*2+1,none⟩=some (.int .i64 yc.n):=fun E=>E.cell (by rw[OW.out.cellAt (kc*2+1) (by omega)];exact bS HYc.out (k:=1) (by decide))
     clear x0
     refine aL 13 (by kernel_rfl) (by kernel_rfl) ?_
     simp only[List.take_succ_cons,List.take_zero]
     repeat (go_big_quiet_step (fail))
     refine wpQuiet_nil ?_
     intro w' hE
     obtain⟨E,rfl⟩:=hE
     obtain⟨wy,ky⟩:=E
     dsimp only
     have LY:=hI (L3.out.below HK.out ky)
     have KY:=btZ K3 ky
     clear ky a0 a1 a2 a3 a4
     have TH:Hid (wy.there gv (j*2) 2):=dZ (LY.out.cvals n _ c HVN.out HC.out) (by omega)
     have S9:Hid ((∃vs' fs',bO Γ (wy.setCells gv (j*2) [.int .i64 yc.kind,.int .i64 yc.n]) (setCW W n { c with vals:=c.vals.set j yc }) cv vv vs' fs')∧aQ wy (wy.setCells gv (j*2) [.int .i64 yc.kind,.int .i64 yc.n])):=LY.out.setCV HK.out HC.out HVN.out HF.out HY2.out (LY.out.wfv yc (List.mem_of_getElem? HYc.out)) rfl
     simp only[List.drop_succ_cons,List.drop_zero]
     go_upto_region 42 with (first | (refine wpList_store_mid rfl 48 _ _ rfl gv (j*2) #[.int .i64 yc.kind,.int .i64 yc.n] rfl rfl TH.out aF (all_oneCell_toArray (by simp[Value.oneCell'])) ?_) | fail)
     generalize hw9:World.setCells _ _ _ _=w9
     rw[hw9] at S9
     clear hw9
     (try dsimp only [Act.put])
     go_wp2_with fail
     go_ret
     have e1:=congrArg Prod.fst HN.out
     have e2:=congrArg Prod.snd HN.out
     dsimp only at e1 e2
     subst e1;subst e2
     obtain⟨⟨vs',fs',L9⟩,K9⟩:=S9.out
     exact⟨rfl,⟨_,_,_,_,L9⟩,(aQ.of KY.out).trans K9⟩
    ·rw[if_pos hin] at his
     subst his
     have HN:Hid ((W,(1:Int))=(W',q)):=by show _=_;rw[←HT.out,if_neg (fun h=>h hk2),if_pos hin]
     clear hin hk2
     go_wp2_with fail
     go_ret
     have e1:=congrArg Prod.fst HN.out
     have e2:=congrArg Prod.snd HN.out
     dsimp only at e1 e2
     subst e1;subst e2
     exact⟨rfl,⟨_,_,_,_,L3.out⟩,aQ.of K3.out⟩
   ·rw[if_pos hk2] at his
    subst his
    have HN:Hid ((W,(2:Int))=(W',q)):=by show _=_;rw[←HT.out,if_pos hk2]
    clear hk2
    go_wp2_with fail
    go_ret
    have e1:=congrArg Prod.fst HN.out
    have e2:=congrArg Prod.snd HN.out
    dsimp only at e1 e2
    subst e1;subst e2
    exact⟨rfl,⟨_,_,_,_,L3.out⟩,aQ.of K3.out⟩
 ·have HN:Hid ((gW W i x)=(W',q)):=by
   show _=_
   rw[←HD.out];unfold doI
   rw[if_neg (by omega)];rw[if_neg (by omega)];rw[if_neg (by omega)];rw[if_neg (by omega)];rw[if_neg (by omega)];rw[if_neg (by omega)];rw[if_pos (by omega)]
  rw[h] at x0
  have x1:=HB1.out 1 _ rfl
  have x2:=HB1.out 2 _ rfl
  have x3:=HB1.out 3 _ rfl
  have x4:=HB1.out 4 _ rfl
  have x5:=HB1.out 5 _ rfl
  have x6:=HB1.out 6 _ rfl
  have x7:=HB1.out 7 _ rfl
  have CC:=hI (xB HK.out L1.out hiv hvn M.cells x ⟨(F.a (by rw[h];decide)).1,by have:=(F.a (by rw[h];decide)).2;rw[M.vals];omega⟩ (fun c=>absurd c (by omega)) (fun _=>by have:=F.n.1;rw[h] at this;exact this) (by omega) HWI.out.2.2.2.2.1)
  rw[h] at CC
  clear h
  go_wp2_with fail
  refine CC.out.mono ?_
  rintro e w5 ⟨rfl,⟨cv',vv',vs',fs',L5⟩,K5⟩
  have LL:=hI L5
  have KK:=hI K5
  clear L5 K5 x0 x1 x2 x3 x4 x5 x6 x7
  go_wp2_with fail
  go_ret
  have e1:=congrArg Prod.fst HN.out
  have e2:=congrArg Prod.snd HN.out
  dsimp only at e1 e2
  subst e1;subst e2
  exact⟨rfl,⟨_,_,_,_,LL.out⟩,(aQ.of K1.out).trans KK.out⟩
 ·have HN:Hid ((dX W i x.n)=(W',q)):=by
   show _=_
   rw[←HD.out];unfold doI
   rw[if_neg (by omega)];rw[if_neg (by omega)];rw[if_neg (by omega)];rw[if_neg (by omega)];rw[if_neg (by omega)];rw[if_neg (by omega)];rw[if_neg (by omega)];rw[if_neg (by omega)];rw[if_neg (by omega)];rw[if_pos h]
  rw[h] at x0
  have x1:=HB1.out 1 _ rfl
  have x2:=HB1.out 2 _ rfl
  have x3:=HB1.out 3 _ rfl
  have x4:=HB1.out 4 _ rfl
  have x5:=HB1.out 5 _ rfl
  have x6:=HB1.out 6 _ rfl
  have x7:=HB1.out 7 _ rfl
  have CC:=hI (zK HK.out L1.out hiv hvn M.cells x.n HWI.out.2.2.2.2.1)
  clear h
  go_wp2_with fail
  refine CC.out.mono ?_
  rintro e w5 ⟨rfl,⟨cv',vv',vs',fs',L5⟩,K5⟩
  have LL:=hI L5
  have KK:=hI K5
  clear L5 K5 x0 x1 x2 x3 x4 x5 x6 x7
  go_wp2_with fail
  go_ret
  have e1:=congrArg Prod.fst HN.out
  have e2:=congrArg Prod.snd HN.out
  dsimp only at e1 e2
  subst e1;subst e2
  exact⟨rfl,⟨_,_,_,_,LL.out⟩,(aQ.of K1.out).trans KK.out⟩
 ·have HN:Hid ((iT W x)=(W',q)):=by
   show _=_
   rw[←HD.out];unfold doI
   rw[if_neg (by omega)];rw[if_neg (by omega)];rw[if_neg (by omega)];rw[if_neg (by omega)];rw[if_neg (by omega)];rw[if_neg (by omega)];rw[if_neg (by omega)];rw[if_neg (by omega)];rw[if_neg (by omega)];rw[if_neg (by omega)];rw[if_pos h]
  rw[h] at x0
  have x1:=HB1.out 1 _ rfl
  have x2:=HB1.out 2 _ rfl
  have x3:=HB1.out 3 _ rfl
  have x4:=HB1.out 4 _ rfl
  have x5:=HB1.out 5 _ rfl
  have x6:=HB1.out 6 _ rfl
  have x7:=HB1.out 7 _ rfl
  have CC:=hI (push_c HK.out L1.out hvn M.cells x ⟨(F.a (by rw[h];decide)).1,by have:=(F.a (by rw[h];decide)).2;rw[M.vals];omega⟩ ⟨(F.b (by rw[h];decide)).1,by have:=(F.b (by rw[h];decide)).2;rw[M.vals];omega⟩)
  rw[h] at CC
  clear h
  go_wp2_with fail
  refine CC.out.mono ?_
  rintro e w5 ⟨rfl,⟨cv',vv',vs',fs',L5⟩,K5⟩
  have LL:=hI L5
  have KK:=hI K5
  clear L5 K5 x0 x1 x2 x3 x4 x5 x6 x7
  go_wp2_with fail
  go_ret
  have e1:=congrArg Prod.fst HN.out
  have e2:=congrArg Prod.snd HN.out
  dsimp only at e1 e2
  subst e1;subst e2
  exact⟨rfl,⟨_,_,_,_,LL.out⟩,(aQ.of K1.out).trans KK.out⟩
 ·have HN:Hid ((dX W i 0)=(W',q)):=by
   show _=_
   rw[←HD.out];unfold doI
   rw[if_neg (by omega)];rw[if_neg (by omega)];rw[if_neg (by omega)];rw[if_neg (by omega)];rw[if_neg (by omega)];rw[if_neg (by omega)];rw[if_neg (by omega)];rw[if_neg (by omega)];rw[if_neg (by omega)];rw[if_neg (by omega)];rw[if_neg (by omega)];rw[if_neg (by omega)]
  rw[h] at x0
  have x1:=HB1.out 1 _ rfl
  have x2:=HB1.out 2 _ rfl
  have x3:=HB1.out 3 _ rfl
  have x4:=HB1.out 4 _ rfl
  have x5:=HB1.out 5 _ rfl
  have x6:=HB1.out 6 _ rfl
  have x7:=HB1.out 7 _ rfl
  have CC:=hI (zK HK.out L1.out hiv hvn M.cells 0 (by unfold wfi;omega))
  clear h
  go_wp2_with fail
  refine CC.out.mono ?_
  rintro e w5 ⟨rfl,⟨cv',vv',vs',fs',L5⟩,K5⟩
  have LL:=hI L5
  have KK:=hI K5
  clear L5 K5 x0 x1 x2 x3 x4 x5 x6 x7
  go_wp2_with fail
  go_ret
  have e1:=congrArg Prod.fst HN.out
  have e2:=congrArg Prod.snd HN.out
  dsimp only at e1 e2
  subst e1;subst e2
  exact⟨rfl,⟨_,_,_,_,LL.out⟩,(aQ.of K1.out).trans KK.out⟩
 ·have HN:Hid ((W,isW (match Γ.shapes[x.n.toNat]? with | none=>false | some s=>s.up == x.b) 1)=(W',q)):=by
   show _=_
   rw[←HD.out];unfold doI
   rw[if_neg (by omega)];rw[if_neg (by omega)];rw[if_neg (by omega)];rw[if_neg (by omega)];rw[if_neg (by omega)];rw[if_neg (by omega)];rw[if_neg (by omega)];rw[if_neg (by omega)];rw[if_neg (by omega)];rw[if_neg (by omega)];rw[if_neg (by omega)];rw[if_pos h];rfl
  rw[h] at x0
  have hn0:=F.n.1
  rw[h] at hn0
  have hn0:0≤x.n:=Int.le_trans (by decide) hn0
  obtain⟨m,hm⟩:∃m:Nat,x.n=(m:Int):=⟨x.n.toNat,by omega⟩
  have HM:=hI hm
  obtain⟨SA,sc,hsv,-,-,hsh⟩:=HK.out.sh
  have HSV:=hI hsv
  have HS:Hid ((W,isW (match Γ.shapes[m]? with | none=>false | some s=>s.up == x.b) 1)=(W',q)):=by
   have:=HN.out
   rw[hm,Int.toNat_natCast] at this
   exact this
  have his:∀(b:Bool) (W1:World),Calls Tryz.prog 142 #[.bool b,.int .i64 1] W1 fun e w'=>e=.returned (.int .i64 (isW b 1))∧W1=w':=fun b W1=>uV b 1 W1
  have HIS:=hI his
  clear his HN hm hn0 h hsv
  go_upto_region 41 with fail
  have a0:∀E:Up w1,E.to.cell? ⟨w.heap.size,4,none⟩=some (.int .i64 m):=fun E=>E.cell (by rw[←HM.out];exact HB1.out 4 _ rfl)
  have a1:∀E:Up w1,E.to.cell? ⟨Γ.wb,14,none⟩=some (.slice SA Γ.shapes.length sc):=fun E=>E.cell (by rw[←HSV.out];exact L1.out.own HK.out 1)
  clear x0
  by_cases hmS:m < Γ.shapes.length
  ·obtain⟨sb,soff,hSA,hsq,hsr⟩:=hsh (by omega)
   subst hSA
   obtain⟨s,hs⟩:∃s,Γ.shapes[m]? = some s:=⟨_,lG hmS⟩
   obtain⟨scs,-,⟨rfl,-,-⟩,hsat⟩:=hsr m s hs
   have hmi:(m:Int) < Γ.shapes.length:=by omega
   have HN:Hid ((W,isW (s.up == x.b) 1)=(W',q)):=by show _=_;rw[←HS.out,hs]
   clear hs hsr hsh
   have a2:∀E:Up w1,E.to.cell? ⟨sb,soff+m*2,none⟩=some (.int .i64 s.up):=fun E=>E.cell ((L1.out.held ⟨sb,_,none⟩ hsq).trans (hsat 0 _ rfl))
   have a3:=ecZ (HB1.out 2 _ rfl)
   clear hsat hsq
   refine aD (by kernel_rfl) (by kernel_rfl) ?_
   repeat (go_big_quiet_step ((go_at_call 142;with_reducible exact ad6 (HIS.out _ _))))
   refine wpQuiet_nil ?_
   rintro _ ⟨E,rfl⟩
   have KE:=btZ K1 E.below
   have LE:=hI (L1.out.below HK.out E.below)
   clear a0 a1 a2 a3
   go_wp2_with fail
   go_ret
   have e1:=congrArg Prod.fst HN.out
   have e2:=congrArg Prod.snd HN.out
   dsimp only at e1 e2
   subst e1;subst e2
   exact⟨rfl,⟨_,_,_,_,LE.out⟩,aQ.of KE.out⟩
  ·have hmn : Γ.shapes.length≤m:=by omega
   have HN:Hid ((W,isW false 1)=(W',q)):=by show _=_;rw[←HS.out,List.getElem?_eq_none hmn]
   clear hsh
   refine aD (by kernel_rfl) (by kernel_rfl) ?_
   repeat (go_big_quiet_step ((go_at_call 142;with_reducible exact ad6 (HIS.out _ _))))
   refine wpQuiet_nil ?_
   rintro _ ⟨E,rfl⟩
   have KE:=btZ K1 E.below
   have LE:=hI (L1.out.below HK.out E.below)
   clear a0 a1
   go_wp2_with fail
   go_ret
   have e1:=congrArg Prod.fst HN.out
   have e2:=congrArg Prod.snd HN.out
   dsimp only at e1 e2
   subst e1;subst e2
   exact⟨rfl,⟨_,_,_,_,LE.out⟩,aQ.of KE.out⟩
end
end
end Go.Proofs.YtjaphgpkkfdaaaaGreatDoor
