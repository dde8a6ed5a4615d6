/- A part of the walk. -/
import Derived.Test.YtijihlcdhppfgaaGreatDoorZY
import Derived.Test.YtijihlcdhppfgaaGreatDoorZBB
set_option maxHeartbeats 16000000
set_option maxRecDepth 100000
set_option linter.all false
namespace Go.Proofs.YtijihlcdhppfgaaGreatDoor
open Tryz
section
open Go.RowKit
theorem gE {n:Int} (h:(decide (-9223372036854775808<=n) && decide (n<=9223372036854775807))=true):wfi n:=by unfold wfi;simpa using h
theorem wf_wrap (n:Int):wfi (wrap64 n):=by unfold wfi wrap64;omega
theorem oW (b:Bool):WfV (mS b):=by unfold mS;split <;> exact⟨gE rfl,gE rfl⟩
theorem of_wf (b:Nat):WfV (ofM b):=by
 unfold ofM;split;·exact⟨gE rfl,wf_wrap _⟩
 ·exact⟨gE rfl,gE rfl⟩
theorem aaH (o:BinOp) (x y:Nat):WfV (ofB o x y):=by
 unfold ofB;split;·exact of_wf _
 ·exact⟨gE rfl,gE rfl⟩
def WfR (r:Val×Int):Prop:=WfV r.1/\wfi r.2
theorem rS (n:Int) (h:wfi n):WfR (⟨0,0⟩,n):=⟨⟨gE rfl,gE rfl⟩,h⟩
theorem mY (n:Int):WfR (mR n):=by unfold mR;refine cI WfR (λh=>?_) (λ_=>rS _ (gE rfl));simp only[aL,Bool.and_eq_true,decide_eq_true_eq] at h;exact⟨⟨gE rfl,by unfold wfi;dsimp only;omega⟩,gE rfl⟩
theorem wF (op:Int) (a b:Bool):WfR (kR op a b):=by unfold kR;refine cI WfR (λ_=>⟨oW _,gE rfl⟩) λ_=>?_;exact cI WfR (λ_=>⟨oW _,gE rfl⟩) λ_=>rS _ (gE rfl)
theorem afI (op a b:Int):WfR (pR op a b):=by unfold pR;refine cI WfR (λ_=>mY _) λ_=>?_;refine cI WfR (λ_=>mY _) λ_=>?_;refine cI WfR (λ_=>mY _) λ_=>?_;refine cI WfR (λ_=>?_) λ_=>wF _ _ _;refine cI WfR (λ_=>rS _ (gE rfl)) λ_=>?_;exact cI WfR (λ_=>mY _) λ_=>mY _
theorem agP (op:Int) (x y:Nat):WfR (oH op x y):=by have d:wfi (-1):=gE rfl;unfold oH;refine cI WfR (λ_=>⟨aaH _ _ _,d⟩) λ_=>?_;refine cI WfR (λ_=>⟨aaH _ _ _,d⟩) λ_=>?_;refine cI WfR (λ_=>⟨aaH _ _ _,d⟩) λ_=>?_;refine cI WfR (λ_=>⟨aaH _ _ _,d⟩) λ_=>?_;exact cI WfR (λ_=>⟨oW _,d⟩) λ_=>wF _ _ _
theorem ahR (op:Int) (v:Val):WfR (qY op v):=by have d:wfi (-1):=gE rfl;unfold qY;refine cI WfR (λ_=>⟨oW _,d⟩) λ_=>?_;refine cI WfR (λ_=>mY _) λ_=>?_;exact cI WfR (λ_=>⟨of_wf _,d⟩) λ_=>rS _ (gE rfl)
theorem ahI (op:Int) (u v:Val):WfR (jV op u v):=by have d:wfi (-1):=gE rfl;unfold jV;refine cI WfR (λ_=>agP _ _ _) λ_=>?_;refine cI WfR (λ_=>⟨oW _,d⟩) λ_=>?_;exact cI WfR (λ_=>afI _ _ _) λ_=>rS _ (gE rfl)
section
variable {Γ : mW} {w w':World} {W:aG} {cv vv:Value} {vs fs:List Value}
theorem do_c (K:jZ Γ) (L:cC Γ w W cv vv vs fs) {i:Nat} {x:aT} {R:Int} (hx : Γ.t.ins[i]? = some x) (F:afF R Γ.t i x) (M:Lim Γ.t R.toNat W) (ht : Γ.t.ins.length<=300) : Calls prog 191 #[.pointer (some ⟨Γ.wb,0,none⟩),.int .i64 (i:Int)] w (xL Γ (doW cU Γ.t Γ.self Γ.shapes W i).1 (.int .i64 (doW cU Γ.t Γ.self Γ.shapes W i).2) w):=by
 have y5:i < Γ.t.ins.length:=(lE hx).1;have e4:i<W.vals.length:=by rw[M.vals];exact y5
 have e5:W.vals.length<=300:=by rw[M.vals];exact ht
 obtain⟨g,m0,t6,-,C7⟩:=L.vals.form (by omega);obtain⟨b,k8,B7,c3,hc,d2,C8⟩:=L.insAt K hx;have n0:=hI d2;have HX:=hI hx;have HV:=hI t6;have D:=hI K;have n1:=ht;have g0:w.cell? ⟨b,k8+i*8,none⟩=some (.int .i64 x.op):=hc 0 _ rfl;have g1:w.cell? ⟨b,k8+i*8+1,none⟩=some (.int .i64 x.a):=hc 1 _ rfl;have g2:w.cell? ⟨b,k8+i*8+2,none⟩=some (.int .i64 x.b):=hc 2 _ rfl;have g3:w.cell? ⟨b,k8+i*8+3,none⟩=some (.int .i64 x.c):=hc 3 _ rfl;have g4:w.cell? ⟨b,k8+i*8+4,none⟩=some (.int .i64 x.n):=hc 4 _ rfl;have g5:w.cell? ⟨b,k8+i*8+5,none⟩=some (.int .i64 x.exit):=hc 5 _ rfl;have g6:w.cell? ⟨b,k8+i*8+6,none⟩=some (.int .i64 x.k.kind):=hc 6 _ rfl;have g7:w.cell? ⟨b,k8+i*8+7,none⟩=some (.int .i64 x.k.n):=hc 7 _ rfl;have t1:(i:Int) < Γ.t.ins.length:=by omega
 have C6:(i:Int)<W.vals.length:=by omega
 obtain⟨w1,q6⟩:∃w1,w1=w.alloc (.cells #[.int .i64 x.op,.int .i64 x.a,.int .i64 x.b,.int .i64 x.c,.int .i64 x.n,.int .i64 x.exit,.int .i64 x.k.kind,.int .i64 x.k.n] 53):=⟨_,rfl⟩;have K1:Hid (Below w.heap.size w w1):=by rw[q6];exact aA _ _
 have l:Hid (aJ w1 w.heap.size [.int .i64 x.op,.int .i64 x.a,.int .i64 x.b,.int .i64 x.c,.int .i64 x.n,.int .i64 x.exit,.int .i64 x.k.kind,.int .i64 x.k.n]):=by rw[q6];exact akV _ _ _
 have y6:=hI q6;have H:=hI (L.below K K1.o);obtain⟨N,r4⟩:∃N,(doW cU Γ.t Γ.self Γ.shapes W i).1=N:=⟨_,rfl⟩;obtain⟨q,hq⟩:∃q,(doW cU Γ.t Γ.self Γ.shapes W i).2=q:=⟨_,rfl⟩;rw[r4,hq];have HD:Hid (doI cU Γ.self Γ.shapes W i x=(N,q)):=by show _=_;rw[<-r4,<-hq];unfold doW bT;rw[Int.toNat_natCast,hx];rfl
 clear q6 r4 hq K L t6 hx hc d2;go_enter func191,ntmps191;go_upto_region 2 with fail;rw[<-y6.o];clear g0 g1 g2 g3 g4 g5 g6 g7 c3;have J:=l.o 0 _ rfl;rcases rK (op:=x.op) (by have:=F.op;simpa [mD] using this) with h | h | h | h | h | h | h | h | h | h | h | h | h | h | h | h | h | h | h
 ·rw[h] at J;have r:Hid ((setV W i (W.regs.getD x.n.toNat ⟨0,0⟩),(0:Int))=(N,q)):=by show _=_;rw[<-HD.o];unfold doI;rw[if_pos h]
  have k6:=F.n.1;have y7:=F.reg h;rw[h] at k6;change (0:Int)<=x.n at k6;obtain⟨m,hm⟩:∃m:Nat,x.n=(m:Int):=⟨x.n.toNat,by omega⟩;have z0:m<W.regs.length:=by rw[M.regs];omega
  have z1:(m:Int)<W.regs.length:=by omega
  obtain⟨Y,h8⟩:∃y,W.regs[m]? = some y:=⟨_,lG z0⟩;obtain⟨rg,rc,hrv,-,C9⟩:=H.o.regs.form (by omega);have t2:=hI hrv;have HM:=hI hm;have i9:=hI h8;have r:Hid ((setV W i Y,(0:Int))=(N,q)):=by have:=r.o;rw[hm,Int.toNat_natCast,List.getD_eq_getElem?_getD,h8] at this;exact this
  have OR:=hI H.o.regs;rw[t2.o] at OR;clear k6 y7 hm h8 hrv h;go_upto_region 5 with fail;have a0:∀E:Up w1,E.to.cell? ⟨Γ.wb,17,none⟩=some (.slice (some ⟨g,0,none⟩) W.vals.length m0):=λE=>E.cell (by have h:=H.o.own D.o 4;rw[HV.o] at h;exact h);have a1:∀E:Up w1,E.to.cell? ⟨Γ.wb,15,none⟩=some (.pointer (some ⟨Γ.fb,Γ.fo,none⟩)):=λE=>E.cell (H.o.own D.o 2);have a2:∀E:Up w1,E.to.cell? ⟨Γ.fb,Γ.fo+6,none⟩=some (.slice (some ⟨rg,0,none⟩) W.regs.length rc):=λE=>E.cell (by rw[H.o.frest (Γ.fo+6) (by omega),<-t2.o];exact D.o.f6);have a3:∀E:Up w1,E.to.cell? ⟨w.heap.size,4,none⟩=some (.int .i64 m):=λE=>E.cell (by rw[<-HM.o];exact l.o 4 _ rfl);have a4:∀E:Up w1,E.to.cell? ⟨rg,m*2,none⟩=some (.int .i64 Y.kind):=λE=>E.cell (by rw[OR.o.cellAt (m*2) (by omega)];exact cF i9.o (k:=0) (by decide));have a5:∀E:Up w1,E.to.cell? ⟨rg,m*2+1,none⟩=some (.int .i64 Y.n):=λE=>E.cell (by rw[OR.o.cellAt (m*2+1) (by omega)];exact cF i9.o (k:=1) (by decide));clear J;refine aU 16 (by kernel_rfl) (by kernel_rfl) ?_;simp only[List.take_succ_cons,List.take_zero];repeat (go_big_quiet_step (fail))
  refine wpQuiet_nil ?_;intro w' hE;obtain⟨E,rfl⟩:=hE;obtain⟨wy,ky⟩:=E;dsimp only;have LY:=hI (H.o.below D.o ky);have KY:=btZ K1 ky;clear ky a0 a1 a2 a3 a4 a5;obtain⟨u,hu⟩:∃u,W.vals[i]? = some u:=⟨_,lG e4⟩;have TH:Hid (wy.there g (i*2) 2):=by have:=LY.o.vals;rw[HV.o] at this;exact fQ this (by omega)
  have d2:WfV Y:=LY.o.wfr Y (lM i9.o);have S9:Hid (cC Γ (wy.setCells g (i*2) [.int .i64 Y.kind,.int .i64 Y.n]) (setV W i Y) cv vv vs fs/\aQ wy (wy.setCells g (i*2) [.int .i64 Y.kind,.int .i64 Y.n])):=LY.o.setVal D.o hu d2 HV.o;clear hu d2;simp only[List.drop_succ_cons,List.drop_zero];go_upto_region 42 with (first | (refine wpList_store_mid rfl 51 _ _ rfl g (i*2) #[.int .i64 Y.kind,.int .i64 Y.n] rfl rfl TH.o fB (oCz (by simp[Value.oneCell'])) ?_) | fail);generalize d3:World.setCells _ _ _ _=w9;rw[d3] at S9;clear d3;(try dsimp only [Act.put]);go_wp2_with fail;go_ret;have z:=congrArg Prod.fst r.o;have A:=congrArg Prod.snd r.o;dsimp only at z A;subst z;subst A;exact⟨rfl,⟨_,_,_,_,S9.o.1⟩,(aQ.of KY.o).trans S9.o.2⟩
 ·rw[h] at J;have r:Hid ((setV W i x.k,(0:Int))=(N,q)):=by show _=_;rw[<-HD.o];unfold doI;rw[if_neg (by omega)];rw[if_pos h]
  clear h;go_upto_region 7 with fail;have a0:∀E:Up w1,E.to.cell? ⟨Γ.wb,17,none⟩=some (.slice (some ⟨g,0,none⟩) W.vals.length m0):=λE=>E.cell (by have h:=H.o.own D.o 4;rw[HV.o] at h;exact h);have a1:∀E:Up w1,E.to.cell? ⟨w.heap.size,6,none⟩=some (.int .i64 x.k.kind):=λE=>E.cell (by exact l.o 6 _ rfl);have a2:∀E:Up w1,E.to.cell? ⟨w.heap.size,7,none⟩=some (.int .i64 x.k.n):=λE=>E.cell (by exact l.o 7 _ rfl);clear J;refine aU 7 (by kernel_rfl) (by kernel_rfl) ?_;simp only[List.take_succ_cons,List.take_zero];repeat (go_big_quiet_step (fail))
  refine wpQuiet_nil ?_;intro w' hE;obtain⟨E,rfl⟩:=hE;obtain⟨wy,ky⟩:=E;dsimp only;have LY:=hI (H.o.below D.o ky);have KY:=btZ K1 ky;clear ky a0 a1 a2;obtain⟨u,hu⟩:∃u,W.vals[i]? = some u:=⟨_,lG e4⟩;have TH:Hid (wy.there g (i*2) 2):=by have:=LY.o.vals;rw[HV.o] at this;exact fQ this (by omega)
  have d2:WfV x.k:=n0.o.2.2.2.2.2.2;have S9:Hid (cC Γ (wy.setCells g (i*2) [.int .i64 x.k.kind,.int .i64 x.k.n]) (setV W i x.k) cv vv vs fs/\aQ wy (wy.setCells g (i*2) [.int .i64 x.k.kind,.int .i64 x.k.n])):=LY.o.setVal D.o hu d2 HV.o;clear hu d2;simp only[List.drop_succ_cons,List.drop_zero];go_upto_region 42 with (first | (refine wpList_store_mid rfl 51 _ _ rfl g (i*2) #[.int .i64 x.k.kind,.int .i64 x.k.n] rfl rfl TH.o fB (oCz (by simp[Value.oneCell'])) ?_) | fail);generalize d3:World.setCells _ _ _ _=w9;rw[d3] at S9;clear d3;(try dsimp only [Act.put]);go_wp2_with fail;go_ret;have z:=congrArg Prod.fst r.o;have A:=congrArg Prod.snd r.o;dsimp only at z A;subst z;subst A;exact⟨rfl,⟨_,_,_,_,S9.o.1⟩,(aQ.of KY.o).trans S9.o.2⟩
 ·rw[h] at J;have r:Hid ((setV W i Γ.self,(0:Int))=(N,q)):=by show _=_;rw[<-HD.o];unfold doI;(iterate 2 rw[if_neg (by omega)]);rw[if_pos h]
  clear h;go_upto_region 9 with fail;have a0:∀E:Up w1,E.to.cell? ⟨Γ.wb,17,none⟩=some (.slice (some ⟨g,0,none⟩) W.vals.length m0):=λE=>E.cell (by have h:=H.o.own D.o 4;rw[HV.o] at h;exact h);have a1:∀E:Up w1,E.to.cell? ⟨Γ.wb,15,none⟩=some (.pointer (some ⟨Γ.fb,Γ.fo,none⟩)):=λE=>E.cell (H.o.own D.o 2);have a2:∀E:Up w1,E.to.cell? ⟨Γ.fb,Γ.fo+4,none⟩=some (.int .i64 Γ.self.kind):=λE=>E.cell (by rw[H.o.frest (Γ.fo+4) (by omega)];exact D.o.f4);have a3:∀E:Up w1,E.to.cell? ⟨Γ.fb,Γ.fo+5,none⟩=some (.int .i64 Γ.self.n):=λE=>E.cell (by rw[H.o.frest (Γ.fo+5) (by omega)];exact D.o.f5);clear J;refine aU 12 (by kernel_rfl) (by kernel_rfl) ?_;simp only[List.take_succ_cons,List.take_zero];repeat (go_big_quiet_step (fail))
  refine wpQuiet_nil ?_;intro w' hE;obtain⟨E,rfl⟩:=hE;obtain⟨wy,ky⟩:=E;dsimp only;have LY:=hI (H.o.below D.o ky);have KY:=btZ K1 ky;clear ky a0 a1 a2 a3;obtain⟨u,hu⟩:∃u,W.vals[i]? = some u:=⟨_,lG e4⟩;have TH:Hid (wy.there g (i*2) 2):=by have:=LY.o.vals;rw[HV.o] at this;exact fQ this (by omega)
  have d2:WfV Γ.self:=D.o.wfs;have S9:Hid (cC Γ (wy.setCells g (i*2) [.int .i64 Γ.self.kind,.int .i64 Γ.self.n]) (setV W i Γ.self) cv vv vs fs/\aQ wy (wy.setCells g (i*2) [.int .i64 Γ.self.kind,.int .i64 Γ.self.n])):=LY.o.setVal D.o hu d2 HV.o;clear hu d2;simp only[List.drop_succ_cons,List.drop_zero];go_upto_region 42 with (first | (refine wpList_store_mid rfl 51 _ _ rfl g (i*2) #[.int .i64 Γ.self.kind,.int .i64 Γ.self.n] rfl rfl TH.o fB (oCz (by simp[Value.oneCell'])) ?_) | fail);generalize d3:World.setCells _ _ _ _=w9;rw[d3] at S9;clear d3;(try dsimp only [Act.put]);go_wp2_with fail;go_ret;have z:=congrArg Prod.fst r.o;have A:=congrArg Prod.snd r.o;dsimp only at z A;subst z;subst A;exact⟨rfl,⟨_,_,_,_,S9.o.1⟩,(aQ.of KY.o).trans S9.o.2⟩
 ·have r:Hid ((W,isW (jF cU W x) 1)=(N,q)):=by show _=_;rw[<-HD.o];unfold doI;(iterate 3 rw[if_neg (by omega)]);rw[if_pos (by omega)]
  rw[h] at J;have x1:=l.o 1 _ rfl;have x2:=l.o 2 _ rfl;have x3:=l.o 3 _ rfl;have x4:=l.o 4 _ rfl;have x5:=l.o 5 _ rfl;have x6:=l.o 6 _ rfl;have x7:=l.o 7 _ rfl;have GC:=hI (vC D.o H.o e5 M.cells x ⟨(F.a (by rw[h];decide)).1,by have:=(F.a (by rw[h];decide)).2;rw[M.vals];omega⟩ (by exact .inl h));rw[h] at GC;obtain⟨gb,h2⟩:∃gb,jF cU W x=gb:=⟨_,rfl⟩;rw[h2] at GC r;clear h h2;go_wp2_with fail;refine GC.o.mono ?_;rintro e w2 ⟨rfl,k2⟩;have K2:=btZ K1 k2;have L2:=hI (H.o.below D.o k2);clear k2 J x1 x2 x3 x4 x5 x6 x7;go_wp2_with fail;refine(aaM _ _ w2).mono ?_;rintro e P ⟨rfl,rfl⟩;go_wp2_with fail;go_ret;have z:=congrArg Prod.fst r.o;have A:=congrArg Prod.snd r.o;dsimp only at z A;subst z;subst A;exact⟨rfl,⟨_,_,_,_,L2.o⟩,aQ.of K2.o⟩
 ·have r:Hid ((W,isW (jF cU W x) 1)=(N,q)):=by show _=_;rw[<-HD.o];unfold doI;(iterate 3 rw[if_neg (by omega)]);rw[if_pos (by omega)]
  rw[h] at J;have x1:=l.o 1 _ rfl;have x2:=l.o 2 _ rfl;have x3:=l.o 3 _ rfl;have x4:=l.o 4 _ rfl;have x5:=l.o 5 _ rfl;have x6:=l.o 6 _ rfl;have x7:=l.o 7 _ rfl;have GC:=hI (vC D.o H.o e5 M.cells x ⟨(F.a (by rw[h];decide)).1,by have:=(F.a (by rw[h];decide)).2;rw[M.vals];omega⟩ (by exact .inr (.inl h)));rw[h] at GC;obtain⟨gb,h2⟩:∃gb,jF cU W x=gb:=⟨_,rfl⟩;rw[h2] at GC r;clear h h2;go_wp2_with fail;refine GC.o.mono ?_;rintro e w2 ⟨rfl,k2⟩;have K2:=btZ K1 k2;have L2:=hI (H.o.below D.o k2);clear k2 J x1 x2 x3 x4 x5 x6 x7;go_wp2_with fail;refine(aaM _ _ w2).mono ?_;rintro e P ⟨rfl,rfl⟩;go_wp2_with fail;go_ret;have z:=congrArg Prod.fst r.o;have A:=congrArg Prod.snd r.o;dsimp only at z A;subst z;subst A;exact⟨rfl,⟨_,_,_,_,L2.o⟩,aQ.of K2.o⟩
 ·have r:Hid ((W,isW (jF cU W x) 1)=(N,q)):=by show _=_;rw[<-HD.o];unfold doI;(iterate 3 rw[if_neg (by omega)]);rw[if_pos (by omega)]
  rw[h] at J;have x1:=l.o 1 _ rfl;have x2:=l.o 2 _ rfl;have x3:=l.o 3 _ rfl;have x4:=l.o 4 _ rfl;have x5:=l.o 5 _ rfl;have x6:=l.o 6 _ rfl;have x7:=l.o 7 _ rfl;have GC:=hI (vC D.o H.o e5 M.cells x ⟨(F.a (by rw[h];decide)).1,by have:=(F.a (by rw[h];decide)).2;rw[M.vals];omega⟩ (by exact .inr (.inr (.inl h))));rw[h] at GC;obtain⟨gb,h2⟩:∃gb,jF cU W x=gb:=⟨_,rfl⟩;rw[h2] at GC r;clear h h2;go_wp2_with fail;refine GC.o.mono ?_;rintro e w2 ⟨rfl,k2⟩;have K2:=btZ K1 k2;have L2:=hI (H.o.below D.o k2);clear k2 J x1 x2 x3 x4 x5 x6 x7;go_wp2_with fail;refine(aaM _ _ w2).mono ?_;rintro e P ⟨rfl,rfl⟩;go_wp2_with fail;go_ret;have z:=congrArg Prod.fst r.o;have A:=congrArg Prod.snd r.o;dsimp only at z A;subst z;subst A;exact⟨rfl,⟨_,_,_,_,L2.o⟩,aQ.of K2.o⟩
 ·have r:Hid ((gX W i x.exit (cU.B x.n (bL W x.a) (bL W x.b)))=(N,q)):=by show _=_;rw[<-HD.o];unfold doI;(iterate 4 rw[if_neg (by omega)]);rw[if_pos h]
  rw[h] at J;have X:=F.a (by rw[h];decide);obtain⟨ka,h3⟩:∃k:Nat,x.a=(k:Int):=⟨x.a.toNat,by omega⟩;have i3:ka<W.vals.length:=by rw[M.vals];omega
  have p2:(ka:Int)<W.vals.length:=by omega
  obtain⟨ya,h4⟩:∃y,W.vals[ka]? = some y:=⟨_,lG i3⟩;have j0:=hI h3;have h0:=hI h4;clear X h3 h4;have X:=F.b (by rw[h];decide);obtain⟨kb,k9⟩:∃k:Nat,x.b=(k:Int):=⟨x.b.toNat,by omega⟩;have l3:kb<W.vals.length:=by rw[M.vals];omega
  have q8:(kb:Int)<W.vals.length:=by omega
  obtain⟨V,l0⟩:∃y,W.vals[kb]? = some y:=⟨_,lG l3⟩;have k7:=hI k9;have j1:=hI l0;clear X k9 l0;obtain⟨rr,j3⟩:∃rr,jV x.n ya V=rr:=⟨_,rfl⟩;have j2:Hid (WfV rr.1/\wfi rr.2):=by rw[<-j3];exact ahI x.n ya V
  have BC:=hI (λW2=>akN x.n ya V W2);unfold mA at BC;rw[j3] at BC;have r:Hid (gX W i x.exit rr=(N,q)):=by have:=r.o;rw[j0.o,iJ h0.o] at this;rw[k7.o,iJ j1.o] at this;rw[<-j3];exact this
  have OW:=hI H.o.vals;rw[HV.o] at OW;clear h j3;go_upto_region 16 with fail;have a0:∀E:Up w1,E.to.cell? ⟨Γ.wb,17,none⟩=some (.slice (some ⟨g,0,none⟩) W.vals.length m0):=λE=>E.cell (by have h:=H.o.own D.o 4;rw[HV.o] at h;exact h);have a1:∀E:Up w1,E.to.cell? ⟨w.heap.size,4,none⟩=some (.int .i64 x.n):=λE=>E.cell (by exact l.o 4 _ rfl);have a2:∀E:Up w1,E.to.cell? ⟨w.heap.size,1,none⟩=some (.int .i64 ka):=λE=>E.cell (by rw[<-j0.o];exact l.o 1 _ rfl);have a3:∀E:Up w1,E.to.cell? ⟨w.heap.size,2,none⟩=some (.int .i64 kb):=λE=>E.cell (by rw[<-k7.o];exact l.o 2 _ rfl);have a4:∀E:Up w1,E.to.cell? ⟨g,ka*2,none⟩=some (.int .i64 ya.kind):=λE=>E.cell (by rw[OW.o.cellAt (ka*2) (by omega)];exact cF h0.o (k:=0) (by decide));have a5:∀E:Up w1,E.to.cell? ⟨g,ka*2+1,none⟩=some (.int .i64 ya.n):=λE=>E.cell (by rw[OW.o.cellAt (ka*2+1) (by omega)];exact cF h0.o (k:=1) (by decide));have a6:∀E:Up w1,E.to.cell? ⟨g,kb*2,none⟩=some (.int .i64 V.kind):=λE=>E.cell (by rw[OW.o.cellAt (kb*2) (by omega)];exact cF j1.o (k:=0) (by decide));have a7:∀E:Up w1,E.to.cell? ⟨g,kb*2+1,none⟩=some (.int .i64 V.n):=λE=>E.cell (by rw[OW.o.cellAt (kb*2+1) (by omega)];exact cF j1.o (k:=1) (by decide));clear J;obtain⟨b0,r5⟩:∃b0,b0=w1.heap.size:=⟨_,rfl⟩;refine fS (λw'=>∃E:Up w1,w'=E.to) [0,1,2,3,4,5,6,7,8,9,10,11,12,13,14,15,16,17] [18,19,20,21,22,23] 7 #[true,true,true,true,true,true,true,true,true,true,true,true,true,true,true,true,true,true,false,false,false,false,false,false,false] _ (by kernel_rfl) (by kernel_rfl) (by simp only[List.filterMap_cons,List.filterMap_nil,List.getElem?_toArray,List.getElem?_cons_zero,List.getElem?_cons_succ];rfl) (λ_ _ d _ _ h=>by cases d <;> exact h) ⟨⟨_,(Below.refl _ w1).drew⟩,rfl⟩ ?_;generalize p0:(λa'=>dH _ _ _ _ _ _ _ _ a' _)=qq;have o2:=hI p0;clear p0;show wpQuiet _ _ _ _ [_,_,_,_,_,_,_,_,_,_,_,_,_,_,_,_,_,_] _;repeat (go_big_quiet_step (fail))
  refine wpQuiet_nil ?_;rw[<-o2.o];clear o2 qq r5 b0 a0 a1 a2 a3 a4 a5 a6 a7;obtain⟨wd,m3⟩:∃wd,wd=w1.drew:=⟨_,rfl⟩;have KD:Hid (Below w1.heap.size w1 wd):=by rw[m3];exact(Below.refl _ w1).drew
  rw[<-m3];clear m3;refine lR (i:=18) (k:=22) (by kernel_rfl) rfl rfl (λK S=>?_) (λK S=>?_)
  ·go_simp;refine(BC.o wd).mono ?_;rintro e P ⟨rfl,kc⟩;have K3:=btZ KD kc;clear kc;refine S _ _ (λ_=>⟨⟨P,K3.o⟩,rfl⟩) ?_;clear S K;refine iB [19,20,21] 3 #[true,true,true,true,true,true,true,true,true,true,true,true,true,true,true,true,true,true,true,true,true,true,false,false,false] _ (by kernel_rfl) rfl (by simp only[List.filterMap_cons,List.filterMap_nil,List.getElem?_toArray,List.getElem?_cons_zero,List.getElem?_cons_succ];rfl) (λ_ _ d _ _ h=>by cases d <;> exact h) ⟨⟨P,K3.o⟩,rfl⟩ ?_;show wpQuiet _ _ _ _ [_,_,_] _;repeat (go_big_quiet_step (fail))
   refine wpQuiet_nil ?_;refine j9 (i:=22) (by kernel_rfl) rfl (λK S=>?_);go_simp;obtain⟨w4,Z⟩:∃v',v'=P.alloc (.cells #[.int .i64 0,.int .i64 0] 51):=⟨_,rfl⟩;obtain⟨ob,a9⟩:∃g',g'=P.heap.size:=⟨_,rfl⟩;have l4:Hid (w1.heap.size<=ob):=(by rw[a9];exact K3.o.size);have K4:Hid (Below w1.heap.size w1 w4):=(by rw[Z];exact K3.o.trans ((aA _ _).mono K3.o.size));have A4:Hid (w4.heap[ob]? = some (.cells #[.int .i64 0,.int .i64 0] 51 (0,0))):=(by rw[Z,a9];exact aS _ _);rw[<-Z,<-a9];refine S _ _ (λ_=>⟨⟨w4,K4.o⟩,rfl⟩) ?_;clear S K Z a9;refine cT [23,24] _ _ _ (by kernel_rfl) ?_;refine aR rfl (λK S=>?_);rw[if_pos (by rfl)];refine wp_store_row 51 _ _ rfl ob #[.int .i64 rr.1.kind,.int .i64 rr.1.n] rfl rfl 51 _ A4.o fB rfl (oCz (by simp[Value.oneCell'])) ?_;generalize d0:World.setRow _ _ _=w5;have O:Hid (Below w1.heap.size w1 w5):=(by rw[<-d0];exact Below.set_row K4.o l4.o _);have A5:=shZ d0 A4;clear d0;refine S _ _ (λ_=>⟨⟨w5,O.o⟩,rfl⟩) ?_;clear S K;refine bG [24] _ _ (by kernel_rfl) (by kernel_rfl) ?_;simp only[List.filterMap_cons,List.filterMap_nil,List.getElem?_toArray,List.getElem?_cons_zero,List.getElem?_cons_succ];(try dsimp only [Act.put]);go_upto_region 17 with fail;have o0:=crZ A5 0 rfl;have o1:=crZ A5 1 rfl;have L5:=hI (H.o.below D.o O.o);have TC:=hI (zW D.o L5.o HX.o e4 n1 rr.1 j2.o.1 rr.2 j2.o.2);go_wp2_with fail;refine TC.o.mono ?_;rintro e w6 ⟨rfl,⟨h9,i0,e6,e7,L6⟩,K6⟩;have LL:=hI L6;have KK:=hI K6;clear L6 K6 o0 o1;go_wp2_with fail;go_ret;have z:=congrArg Prod.fst r.o;have A:=congrArg Prod.snd r.o;dsimp only at z A;subst z;subst A;exact⟨rfl,⟨_,_,_,_,LL.o⟩,(aQ.of (K1.o.trans (O.o.mono K1.o.size))).trans KK.o⟩
  ·go_simp;obtain⟨P,Z⟩:∃v',v'=wd.alloc (.cells #[.int .i64 0,.int .i64 0] 51):=⟨_,rfl⟩;obtain⟨ob,a9⟩:∃g',g'=wd.heap.size:=⟨_,rfl⟩;have l4:Hid (w1.heap.size<=ob):=(by rw[a9];exact KD.o.size);have K3:Hid (Below w1.heap.size w1 P):=(by rw[Z];exact KD.o.trans ((aA _ _).mono KD.o.size));have A3:Hid (P.heap[ob]? = some (.cells #[.int .i64 0,.int .i64 0] 51 (0,0))):=(by rw[Z,a9];exact aS _ _);rw[<-Z,<-a9];refine S _ _ (λ_=>⟨⟨P,K3.o⟩,rfl⟩) ?_;clear S K Z a9;refine j9 (i:=18) (by kernel_rfl) rfl (λK S=>?_);go_simp;refine(BC.o P).mono ?_;rintro e w4 ⟨rfl,kc⟩;have K4:=btZ K3 kc;have A4:Hid (w4.heap[ob]? = some (.cells #[.int .i64 0,.int .i64 0] 51 (0,0))):=(by show _=_;rw[kc.block _ (aY A3.o)];exact A3.o);clear kc;refine S _ _ (λ_=>⟨⟨w4,K4.o⟩,rfl⟩) ?_;clear S K;refine iB [19,20,21] 2 #[true,true,true,true,true,true,true,true,true,true,true,true,true,true,true,true,true,true,true,true,true,true,true,false,false] _ (by kernel_rfl) rfl (by simp only[List.filterMap_cons,List.filterMap_nil,List.getElem?_toArray,List.getElem?_cons_zero,List.getElem?_cons_succ];rfl) (λ_ _ d _ _ h=>by cases d <;> exact h) ⟨⟨w4,K4.o⟩,rfl⟩ ?_;show wpQuiet _ _ _ _ [_,_,_] _;repeat (go_big_quiet_step (fail))
   refine wpQuiet_nil ?_;refine cT [23,24] _ _ _ (by kernel_rfl) ?_;refine aR rfl (λK S=>?_);rw[if_pos (by rfl)];refine wp_store_row 51 _ _ rfl ob #[.int .i64 rr.1.kind,.int .i64 rr.1.n] rfl rfl 51 _ A4.o fB rfl (oCz (by simp[Value.oneCell'])) ?_;generalize d0:World.setRow _ _ _=w5;have O:Hid (Below w1.heap.size w1 w5):=(by rw[<-d0];exact Below.set_row K4.o l4.o _);have A5:=shZ d0 A4;clear d0;refine S _ _ (λ_=>⟨⟨w5,O.o⟩,rfl⟩) ?_;clear S K;refine bG [24] _ _ (by kernel_rfl) (by kernel_rfl) ?_;simp only[List.filterMap_cons,List.filterMap_nil,List.getElem?_toArray,List.getElem?_cons_zero,List.getElem?_cons_succ];(try dsimp only [Act.put]);go_upto_region 17 with fail;have o0:=crZ A5 0 rfl;have o1:=crZ A5 1 rfl;have L5:=hI (H.o.below D.o O.o);have TC:=hI (zW D.o L5.o HX.o e4 n1 rr.1 j2.o.1 rr.2 j2.o.2);go_wp2_with fail;refine TC.o.mono ?_;rintro e w6 ⟨rfl,⟨h9,i0,e6,e7,L6⟩,K6⟩;have LL:=hI L6;have KK:=hI K6;clear L6 K6 o0 o1;go_wp2_with fail;go_ret;have z:=congrArg Prod.fst r.o;have A:=congrArg Prod.snd r.o;dsimp only at z A;subst z;subst A;exact⟨rfl,⟨_,_,_,_,LL.o⟩,(aQ.of (K1.o.trans (O.o.mono K1.o.size))).trans KK.o⟩
 ·have r:Hid ((gX W i x.exit (cU.U x.n (bL W x.a)))=(N,q)):=by show _=_;rw[<-HD.o];unfold doI;(iterate 5 rw[if_neg (by omega)]);rw[if_pos h]
  rw[h] at J;have X:=F.a (by rw[h];decide);obtain⟨ka,h3⟩:∃k:Nat,x.a=(k:Int):=⟨x.a.toNat,by omega⟩;have i3:ka<W.vals.length:=by rw[M.vals];omega
  have p2:(ka:Int)<W.vals.length:=by omega
  obtain⟨ya,h4⟩:∃y,W.vals[ka]? = some y:=⟨_,lG i3⟩;have j0:=hI h3;have h0:=hI h4;clear X h3 h4;obtain⟨rr,j3⟩:∃rr,qY x.n ya=rr:=⟨_,rfl⟩;have j2:Hid (WfV rr.1/\wfi rr.2):=by rw[<-j3];exact ahR x.n ya
  have BC:=hI (λW2=>unary_c x.n ya W2);unfold mA at BC;rw[j3] at BC;have r:Hid (gX W i x.exit rr=(N,q)):=by have:=r.o;rw[j0.o,iJ h0.o] at this;rw[<-j3];exact this
  have OW:=hI H.o.vals;rw[HV.o] at OW;clear h j3;go_upto_region 19 with fail;have a0:∀E:Up w1,E.to.cell? ⟨Γ.wb,17,none⟩=some (.slice (some ⟨g,0,none⟩) W.vals.length m0):=λE=>E.cell (by have h:=H.o.own D.o 4;rw[HV.o] at h;exact h);have a1:∀E:Up w1,E.to.cell? ⟨w.heap.size,4,none⟩=some (.int .i64 x.n):=λE=>E.cell (by exact l.o 4 _ rfl);have a2:∀E:Up w1,E.to.cell? ⟨w.heap.size,1,none⟩=some (.int .i64 ka):=λE=>E.cell (by rw[<-j0.o];exact l.o 1 _ rfl);have a3:∀E:Up w1,E.to.cell? ⟨g,ka*2,none⟩=some (.int .i64 ya.kind):=λE=>E.cell (by rw[OW.o.cellAt (ka*2) (by omega)];exact cF h0.o (k:=0) (by decide));have a4:∀E:Up w1,E.to.cell? ⟨g,ka*2+1,none⟩=some (.int .i64 ya.n):=λE=>E.cell (by rw[OW.o.cellAt (ka*2+1) (by omega)];exact cF h0.o (k:=1) (by decide));clear J;obtain⟨b0,r5⟩:∃b0,b0=w1.heap.size:=⟨_,rfl⟩;refine fS (λw'=>∃E:Up w1,w'=E.to) [0,1,2,3,4,5,6,7,8,9] [10,11,12,13,14,15] 7 #[true,true,true,true,true,true,true,true,true,true,false,false,false,false,false,false,false] _ (by kernel_rfl) (by kernel_rfl) (by simp only[List.filterMap_cons,List.filterMap_nil,List.getElem?_toArray,List.getElem?_cons_zero,List.getElem?_cons_succ];rfl) (λ_ _ d _ _ h=>by cases d <;> exact h) ⟨⟨_,(Below.refl _ w1).drew⟩,rfl⟩ ?_;generalize p0:(λa'=>dH _ _ _ _ _ _ _ _ a' _)=qq;have o2:=hI p0;clear p0;show wpQuiet _ _ _ _ [_,_,_,_,_,_,_,_,_,_] _;repeat (go_big_quiet_step (fail))
  refine wpQuiet_nil ?_;rw[<-o2.o];clear o2 qq r5 b0 a0 a1 a2 a3 a4;obtain⟨wd,m3⟩:∃wd,wd=w1.drew:=⟨_,rfl⟩;have KD:Hid (Below w1.heap.size w1 wd):=by rw[m3];exact(Below.refl _ w1).drew
  rw[<-m3];clear m3;refine lR (i:=10) (k:=14) (by kernel_rfl) rfl rfl (λK S=>?_) (λK S=>?_)
  ·go_simp;refine(BC.o wd).mono ?_;rintro e P ⟨rfl,kc⟩;have K3:=btZ KD kc;clear kc;refine S _ _ (λ_=>⟨⟨P,K3.o⟩,rfl⟩) ?_;clear S K;refine iB [11,12,13] 3 #[true,true,true,true,true,true,true,true,true,true,true,true,true,true,false,false,false] _ (by kernel_rfl) rfl (by simp only[List.filterMap_cons,List.filterMap_nil,List.getElem?_toArray,List.getElem?_cons_zero,List.getElem?_cons_succ];rfl) (λ_ _ d _ _ h=>by cases d <;> exact h) ⟨⟨P,K3.o⟩,rfl⟩ ?_;show wpQuiet _ _ _ _ [_,_,_] _;repeat (go_big_quiet_step (fail))
   refine wpQuiet_nil ?_;refine j9 (i:=14) (by kernel_rfl) rfl (λK S=>?_);go_simp;obtain⟨w4,Z⟩:∃v',v'=P.alloc (.cells #[.int .i64 0,.int .i64 0] 51):=⟨_,rfl⟩;obtain⟨ob,a9⟩:∃g',g'=P.heap.size:=⟨_,rfl⟩;have l4:Hid (w1.heap.size<=ob):=(by rw[a9];exact K3.o.size);have K4:Hid (Below w1.heap.size w1 w4):=(by rw[Z];exact K3.o.trans ((aA _ _).mono K3.o.size));have A4:Hid (w4.heap[ob]? = some (.cells #[.int .i64 0,.int .i64 0] 51 (0,0))):=(by rw[Z,a9];exact aS _ _);rw[<-Z,<-a9];refine S _ _ (λ_=>⟨⟨w4,K4.o⟩,rfl⟩) ?_;clear S K Z a9;refine cT [15,16] _ _ _ (by kernel_rfl) ?_;refine aR rfl (λK S=>?_);rw[if_pos (by rfl)];refine wp_store_row 51 _ _ rfl ob #[.int .i64 rr.1.kind,.int .i64 rr.1.n] rfl rfl 51 _ A4.o fB rfl (oCz (by simp[Value.oneCell'])) ?_;generalize d0:World.setRow _ _ _=w5;have O:Hid (Below w1.heap.size w1 w5):=(by rw[<-d0];exact Below.set_row K4.o l4.o _);have A5:=shZ d0 A4;clear d0;refine S _ _ (λ_=>⟨⟨w5,O.o⟩,rfl⟩) ?_;clear S K;refine bG [16] _ _ (by kernel_rfl) (by kernel_rfl) ?_;simp only[List.filterMap_cons,List.filterMap_nil,List.getElem?_toArray,List.getElem?_cons_zero,List.getElem?_cons_succ];(try dsimp only [Act.put]);go_upto_region 20 with fail;have o0:=crZ A5 0 rfl;have o1:=crZ A5 1 rfl;have L5:=hI (H.o.below D.o O.o);have TC:=hI (zW D.o L5.o HX.o e4 n1 rr.1 j2.o.1 rr.2 j2.o.2);go_wp2_with fail;refine TC.o.mono ?_;rintro e w6 ⟨rfl,⟨h9,i0,e6,e7,L6⟩,K6⟩;have LL:=hI L6;have KK:=hI K6;clear L6 K6 o0 o1;go_wp2_with fail;go_ret;have z:=congrArg Prod.fst r.o;have A:=congrArg Prod.snd r.o;dsimp only at z A;subst z;subst A;exact⟨rfl,⟨_,_,_,_,LL.o⟩,(aQ.of (K1.o.trans (O.o.mono K1.o.size))).trans KK.o⟩
  ·go_simp;obtain⟨P,Z⟩:∃v',v'=wd.alloc (.cells #[.int .i64 0,.int .i64 0] 51):=⟨_,rfl⟩;obtain⟨ob,a9⟩:∃g',g'=wd.heap.size:=⟨_,rfl⟩;have l4:Hid (w1.heap.size<=ob):=(by rw[a9];exact KD.o.size);have K3:Hid (Below w1.heap.size w1 P):=(by rw[Z];exact KD.o.trans ((aA _ _).mono KD.o.size));have A3:Hid (P.heap[ob]? = some (.cells #[.int .i64 0,.int .i64 0] 51 (0,0))):=(by rw[Z,a9];exact aS _ _);rw[<-Z,<-a9];refine S _ _ (λ_=>⟨⟨P,K3.o⟩,rfl⟩) ?_;clear S K Z a9;refine j9 (i:=10) (by kernel_rfl) rfl (λK S=>?_);go_simp;refine(BC.o P).mono ?_;rintro e w4 ⟨rfl,kc⟩;have K4:=btZ K3 kc;have A4:Hid (w4.heap[ob]? = some (.cells #[.int .i64 0,.int .i64 0] 51 (0,0))):=(by show _=_;rw[kc.block _ (aY A3.o)];exact A3.o);clear kc;refine S _ _ (λ_=>⟨⟨w4,K4.o⟩,rfl⟩) ?_;clear S K;refine iB [11,12,13] 2 #[true,true,true,true,true,true,true,true,true,true,true,true,true,true,true,false,false] _ (by kernel_rfl) rfl (by simp only[List.filterMap_cons,List.filterMap_nil,List.getElem?_toArray,List.getElem?_cons_zero,List.getElem?_cons_succ];rfl) (λ_ _ d _ _ h=>by cases d <;> exact h) ⟨⟨w4,K4.o⟩,rfl⟩ ?_;show wpQuiet _ _ _ _ [_,_,_] _;repeat (go_big_quiet_step (fail))
   refine wpQuiet_nil ?_;refine cT [15,16] _ _ _ (by kernel_rfl) ?_;refine aR rfl (λK S=>?_);rw[if_pos (by rfl)];refine wp_store_row 51 _ _ rfl ob #[.int .i64 rr.1.kind,.int .i64 rr.1.n] rfl rfl 51 _ A4.o fB rfl (oCz (by simp[Value.oneCell'])) ?_;generalize d0:World.setRow _ _ _=w5;have O:Hid (Below w1.heap.size w1 w5):=(by rw[<-d0];exact Below.set_row K4.o l4.o _);have A5:=shZ d0 A4;clear d0;refine S _ _ (λ_=>⟨⟨w5,O.o⟩,rfl⟩) ?_;clear S K;refine bG [16] _ _ (by kernel_rfl) (by kernel_rfl) ?_;simp only[List.filterMap_cons,List.filterMap_nil,List.getElem?_toArray,List.getElem?_cons_zero,List.getElem?_cons_succ];(try dsimp only [Act.put]);go_upto_region 20 with fail;have o0:=crZ A5 0 rfl;have o1:=crZ A5 1 rfl;have L5:=hI (H.o.below D.o O.o);have TC:=hI (zW D.o L5.o HX.o e4 n1 rr.1 j2.o.1 rr.2 j2.o.2);go_wp2_with fail;refine TC.o.mono ?_;rintro e w6 ⟨rfl,⟨h9,i0,e6,e7,L6⟩,K6⟩;have LL:=hI L6;have KK:=hI K6;clear L6 K6 o0 o1;go_wp2_with fail;go_ret;have z:=congrArg Prod.fst r.o;have A:=congrArg Prod.snd r.o;dsimp only at z A;subst z;subst A;exact⟨rfl,⟨_,_,_,_,LL.o⟩,(aQ.of (K1.o.trans (O.o.mono K1.o.size))).trans KK.o⟩
 ·have r:Hid ((W,isW (jF cU W x) 1)=(N,q)):=by show _=_;rw[<-HD.o];unfold doI;(iterate 3 rw[if_neg (by omega)]);rw[if_pos (by omega)]
  rw[h] at J;have x1:=l.o 1 _ rfl;have x2:=l.o 2 _ rfl;have x3:=l.o 3 _ rfl;have x4:=l.o 4 _ rfl;have x5:=l.o 5 _ rfl;have x6:=l.o 6 _ rfl;have x7:=l.o 7 _ rfl;have GC:=hI (vC D.o H.o e5 M.cells x ⟨(F.a (by rw[h];decide)).1,by have:=(F.a (by rw[h];decide)).2;rw[M.vals];omega⟩ (by exact .inr (.inr (.inr h))));rw[h] at GC;obtain⟨gb,h2⟩:∃gb,jF cU W x=gb:=⟨_,rfl⟩;rw[h2] at GC r;clear h h2;go_wp2_with fail;refine GC.o.mono ?_;rintro e w2 ⟨rfl,k2⟩;have K2:=btZ K1 k2;have L2:=hI (H.o.below D.o k2);clear k2 J x1 x2 x3 x4 x5 x6 x7;go_wp2_with fail;refine(aaM _ _ w2).mono ?_;rintro e P ⟨rfl,rfl⟩;go_wp2_with fail;go_ret;have z:=congrArg Prod.fst r.o;have A:=congrArg Prod.snd r.o;dsimp only at z A;subst z;subst A;exact⟨rfl,⟨_,_,_,_,L2.o⟩,aQ.of K2.o⟩
 ·have r:Hid ((jK W i x)=(N,q)):=by show _=_;rw[<-HD.o];unfold doI;(iterate 6 rw[if_neg (by omega)]);rw[if_pos (by omega)]
  rw[h] at J;have x1:=l.o 1 _ rfl;have x2:=l.o 2 _ rfl;have x3:=l.o 3 _ rfl;have x4:=l.o 4 _ rfl;have x5:=l.o 5 _ rfl;have x6:=l.o 6 _ rfl;have x7:=l.o 7 _ rfl;have CC:=hI (acY D.o H.o e4 e5 M.cells x ⟨(F.a (by rw[h];decide)).1,by have:=(F.a (by rw[h];decide)).2;rw[M.vals];omega⟩ (λc=>absurd c (by omega)) (λ_=>by have:=F.n.1;rw[h] at this;exact this) (by omega) n0.o.2.2.2.2.1);rw[h] at CC;clear h;go_wp2_with fail;refine CC.o.mono ?_;rintro e w5 ⟨rfl,⟨h9,i0,e6,e7,L5⟩,O⟩;have LL:=hI L5;have KK:=hI O;clear L5 O J x1 x2 x3 x4 x5 x6 x7;go_wp2_with fail;go_ret;have z:=congrArg Prod.fst r.o;have A:=congrArg Prod.snd r.o;dsimp only at z A;subst z;subst A;exact⟨rfl,⟨_,_,_,_,LL.o⟩,(aQ.of K1.o).trans KK.o⟩
 ·have r:Hid ((jK W i x)=(N,q)):=by show _=_;rw[<-HD.o];unfold doI;(iterate 6 rw[if_neg (by omega)]);rw[if_pos (by omega)]
  rw[h] at J;have x1:=l.o 1 _ rfl;have x2:=l.o 2 _ rfl;have x3:=l.o 3 _ rfl;have x4:=l.o 4 _ rfl;have x5:=l.o 5 _ rfl;have x6:=l.o 6 _ rfl;have x7:=l.o 7 _ rfl;have CC:=hI (acY D.o H.o e4 e5 M.cells x ⟨(F.a (by rw[h];decide)).1,by have:=(F.a (by rw[h];decide)).2;rw[M.vals];omega⟩ (λc=>⟨(F.b (by rw[h];decide)).1,by have:=(F.b (by rw[h];decide)).2;rw[M.vals];omega⟩) (λ_=>by have:=F.n.1;rw[h] at this;exact this) (by omega) n0.o.2.2.2.2.1);rw[h] at CC;clear h;go_wp2_with fail;refine CC.o.mono ?_;rintro e w5 ⟨rfl,⟨h9,i0,e6,e7,L5⟩,O⟩;have LL:=hI L5;have KK:=hI O;clear L5 O J x1 x2 x3 x4 x5 x6 x7;go_wp2_with fail;go_ret;have z:=congrArg Prod.fst r.o;have A:=congrArg Prod.snd r.o;dsimp only at z A;subst z;subst A;exact⟨rfl,⟨_,_,_,_,LL.o⟩,(aQ.of K1.o).trans KK.o⟩
 ·have r:Hid ((lH Γ.shapes W x)=(N,q)):=by show _=_;rw[<-HD.o];unfold doI;(iterate 7 rw[if_neg (by omega)]);rw[if_pos h]
  rw[h] at J;have x1:=l.o 1 _ rfl;have x2:=l.o 2 _ rfl;have x3:=l.o 3 _ rfl;have x4:=l.o 4 _ rfl;have x5:=l.o 5 _ rfl;have x6:=l.o 6 _ rfl;have x7:=l.o 7 _ rfl;have CC:=hI (grow_c D.o H.o e5 M.cells x ⟨(F.a (by rw[h];decide)).1,by have:=(F.a (by rw[h];decide)).2;rw[M.vals];omega⟩ ⟨(F.b (by rw[h];decide)).1,by have:=(F.b (by rw[h];decide)).2;rw[M.vals];omega⟩ (by have:=F.n.1;rw[h] at this;exact Int.le_trans (by decide) this) n0.o.2.2.2.2.1);rw[h] at CC;clear h;go_wp2_with fail;refine CC.o.mono ?_;rintro e w5 ⟨rfl,⟨h9,i0,e6,e7,L5⟩,O⟩;have LL:=hI L5;have KK:=hI O;clear L5 O J x1 x2 x3 x4 x5 x6 x7;go_wp2_with fail;go_ret;have z:=congrArg Prod.fst r.o;have A:=congrArg Prod.snd r.o;dsimp only at z A;subst z;subst A;exact⟨rfl,⟨_,_,_,_,LL.o⟩,(aQ.of K1.o).trans KK.o⟩
 ·have r:Hid ((nE W i x)=(N,q)):=by show _=_;rw[<-HD.o];unfold doI;(iterate 8 rw[if_neg (by omega)]);rw[if_pos (by omega)]
  rw[h] at J;have X:=F.a (by rw[h];decide);obtain⟨ka,h3⟩:∃k:Nat,x.a=(k:Int):=⟨x.a.toNat,by omega⟩;have i3:ka<W.vals.length:=by rw[M.vals];omega
  have p2:(ka:Int)<W.vals.length:=by omega
  obtain⟨ya,h4⟩:∃y,W.vals[ka]? = some y:=⟨_,lG i3⟩;have j0:=hI h3;have h0:=hI h4;clear X h3 h4;have X:=F.b (by rw[h];decide);obtain⟨kb,k9⟩:∃k:Nat,x.b=(k:Int):=⟨x.b.toNat,by omega⟩;have l3:kb<W.vals.length:=by rw[M.vals];omega
  have q8:(kb:Int)<W.vals.length:=by omega
  obtain⟨V,l0⟩:∃y,W.vals[kb]? = some y:=⟨_,lG l3⟩;have k7:=hI k9;have j1:=hI l0;clear X k9 l0;have CC:=hI (rN D.o H.o h0.o M.cells);rw[<-j0.o] at CC;have HS:Hid ((match dG W x.a with | none=>(W,(2:Int)) | some (n,c)=>if c.kind≠2 then(W,2) else if ¬(V.kind=2/\0<=V.n/\V.n<c.vals.length) then(W,1) else(setV W i (c.vals.getD V.n.toNat ⟨0,0⟩),0))=(N,q)):=by
   have:=r.o
   unfold nE at this
   rw[k7.o,iJ j1.o] at this
   simp only[if_pos h] at this
   exact this
  clear r;have x1:=l.o 1 _ rfl;have r1:=hI h;clear h;go_wp2_with fail;refine CC.o.mono ?_;rintro e w2 ⟨rfl,k2⟩;have o3:=hI k2;have K2:=btZ K1 k2;have L2:=hI (H.o.below D.o k2);clear k2 J x1;have IC:=hI (ai5 D.o L2.o j1.o e5 x.a);have x2:w2.cell? ⟨w.heap.size,2,none⟩=some (.int .i64 kb):=by rw[<-k7.o];exact aC o3.o (l.o 2 _ rfl)
  go_wp2_with fail;refine IC.o.mono ?_;rintro e P ⟨m,how,rfl,k3,G⟩;have q4:=btZ o3 k3;have K3:=btZ K2 k3;have L3:=hI (L2.o.below D.o k3);clear k3 x2;have J:P.cell? ⟨w.heap.size,0,none⟩=some (.int .i64 13):=by rw[<-r1.o];exact aC q4.o (l.o 0 _ rfl)
  cases I:dG W x.a with
  | none=>
   unfold gA at G
   rw[I] at G
   dsimp only at G
   subst G
   rw[gS I]
   have r:Hid ((W,(2:Int))=(N,q)):=by show _=_;rw[<-HS.o,I]
   clear I
   go_wp2_with fail
   go_ret
   have z:=congrArg Prod.fst r.o
   have A:=congrArg Prod.snd r.o
   dsimp only at z A
   subst z;subst A
   exact⟨rfl,⟨_,_,_,_,L3.o⟩,aQ.of K3.o⟩
  | some p=>
   obtain⟨n,c⟩:=p
   obtain⟨gc,cc,v,f,vA,vc,r6,hc,hv,hf,s0,o9,c0,c1,c2,c3,z5⟩:=L3.o.atCell I
   rw[o9]
   subst s0
   have HC:=hI hc
   have o7:=hI hv
   have HF:=hI hf
   have C2:=hI c2
   unfold gA at G
   rw[I] at G
   dsimp only at G
   have HT:Hid ((if c.kind≠2 then(W,(2:Int)) else if ¬(V.kind=2/\0<=V.n/\V.n<c.vals.length) then(W,1) else(setV W i (c.vals.getD V.n.toNat ⟨0,0⟩),0))=(N,q)):=by show _=_;rw[<-HS.o,I]
   clear I c0 c1 c2 c3 hc hv hf o9 r6 HS
   by_cases b6:c.kind=2
   ·rw[if_neg (λh=>h b6)] at G
    by_cases e9:V.kind=2/\0<=V.n/\V.n<c.vals.length
    ·rw[if_neg (λh=>h e9)] at G
     obtain⟨rfl,rfl⟩:=G
     obtain⟨j,hj⟩:∃j:Nat,V.n=(j:Int):=⟨V.n.toNat,by omega⟩
     have o8:j<c.vals.length:=by omega
     have t1:(j:Int)<c.vals.length:=by omega
     obtain⟨Y,h8⟩:∃Y,c.vals[j]? = some Y:=⟨_,lG o8⟩
     have HJ:=hI hj
     have i9:=hI h8
     have r:Hid ((setV W i Y,(0:Int))=(N,q)):=by
      show _=_
      rw[<-HT.o,if_neg (λh=>h b6),if_neg (λh=>h e9),hj,Int.toNat_natCast,List.getD_eq_getElem?_getD,h8];rfl
     rw[hj]
     have OV:=hI (L3.o.cvals n _ c o7.o HC.o)
     obtain⟨gv,w7,m4,-,z6⟩:=OV.o.form (Nat.zero_lt_of_lt o8)
     injection m4 with m4 _ _
     subst m4
     have OW:=hI L3.o.vals
     rw[HV.o] at OW
     clear b6 e9 hj h8
     go_upto_region 35 with fail
     have a0:∀E:Up P,E.to.cell? ⟨Γ.wb,17,none⟩=some (.slice (some ⟨g,0,none⟩) W.vals.length m0):=λE=>E.cell (by have h:=L3.o.own D.o 4;rw[HV.o] at h;exact h)
     have a1:∀E:Up P,E.to.cell? ⟨gc,n*4+2,none⟩=some (.slice (some ⟨gv,0,none⟩) c.vals.length vc):=λE=>E.cell (C2.o)
     have a2:∀E:Up P,E.to.cell? ⟨gv,j*2,none⟩=some (.int .i64 Y.kind):=λE=>E.cell (by rw[OV.o.cellAt (j*2) (by omega)];exact cF i9.o (k:=0) (by decide))
     have a3:∀E:Up P,E.to.cell? ⟨gv,j*2+1,none⟩=some (.int .i64 Y.n):=λE=>E.cell (by rw[OV.o.cellAt (j*2+1) (by omega)];exact cF i9.o (k:=1) (by decide))
     clear J
     refine aU 12 (by kernel_rfl) (by kernel_rfl) ?_
     simp only[List.take_succ_cons,List.take_zero]
     repeat (go_big_quiet_step (fail))
     refine wpQuiet_nil ?_
     intro w' hE
     obtain⟨E,rfl⟩:=hE
     obtain⟨wy,ky⟩:=E
     dsimp only
     have LY:=hI (L3.o.below D.o ky)
     have KY:=btZ K3 ky
     clear ky a0 a1 a2 a3
     obtain⟨u,hu⟩:∃u,W.vals[i]? = some u:=⟨_,lG e4⟩
     have TH:Hid (wy.there g (i*2) 2):=by
      have:=LY.o.vals
      rw[HV.o] at this
      exact fQ this (by omega)
     have d2:WfV Y:=(LY.o.wfc c (lM HC.o)).2.2 Y (lM i9.o)
     have S9:Hid (cC Γ (wy.setCells g (i*2) [.int .i64 Y.kind,.int .i64 Y.n]) (setV W i Y) cv vv vs fs/\aQ wy (wy.setCells g (i*2) [.int .i64 Y.kind,.int .i64 Y.n])):=LY.o.setVal D.o hu d2 HV.o
     clear hu d2
     simp only[List.drop_succ_cons,List.drop_zero]
     go_upto_region 42 with (first | (refine wpList_store_mid rfl 51 _ _ rfl g (i*2) #[.int .i64 Y.kind,.int .i64 Y.n] rfl rfl TH.o fB (oCz (by simp[Value.oneCell'])) ?_) | fail)
     generalize d3:World.setCells _ _ _ _=w9
     rw[d3] at S9
     clear d3
     (try dsimp only [Act.put])
     go_wp2_with fail
     go_ret
     have z:=congrArg Prod.fst r.o
     have A:=congrArg Prod.snd r.o
     dsimp only at z A
     subst z;subst A
     exact⟨rfl,⟨_,_,_,_,S9.o.1⟩,(aQ.of KY.o).trans S9.o.2⟩
    ·rw[if_pos e9] at G
     subst G
     have r:Hid ((W,(1:Int))=(N,q)):=by show _=_;rw[<-HT.o,if_neg (λh=>h b6),if_pos e9]
     clear e9 b6
     go_wp2_with fail
     go_ret
     have z:=congrArg Prod.fst r.o
     have A:=congrArg Prod.snd r.o
     dsimp only at z A
     subst z;subst A
     exact⟨rfl,⟨_,_,_,_,L3.o⟩,aQ.of K3.o⟩
   ·rw[if_pos b6] at G
    subst G
    have r:Hid ((W,(2:Int))=(N,q)):=by show _=_;rw[<-HT.o,if_pos b6]
    clear b6
    go_wp2_with fail
    go_ret
    have z:=congrArg Prod.fst r.o
    have A:=congrArg Prod.snd r.o
    dsimp only at z A
    subst z;subst A
    exact⟨rfl,⟨_,_,_,_,L3.o⟩,aQ.of K3.o⟩
 ·have r:Hid ((nE W i x)=(N,q)):=by show _=_;rw[<-HD.o];unfold doI;(iterate 8 rw[if_neg (by omega)]);rw[if_pos (by omega)]
  rw[h] at J;have X:=F.a (by rw[h];decide);obtain⟨ka,h3⟩:∃k:Nat,x.a=(k:Int):=⟨x.a.toNat,by omega⟩;have i3:ka<W.vals.length:=by rw[M.vals];omega
  have p2:(ka:Int)<W.vals.length:=by omega
  obtain⟨ya,h4⟩:∃y,W.vals[ka]? = some y:=⟨_,lG i3⟩;have j0:=hI h3;have h0:=hI h4;clear X h3 h4;have X:=F.b (by rw[h];decide);obtain⟨kb,k9⟩:∃k:Nat,x.b=(k:Int):=⟨x.b.toNat,by omega⟩;have l3:kb<W.vals.length:=by rw[M.vals];omega
  have q8:(kb:Int)<W.vals.length:=by omega
  obtain⟨V,l0⟩:∃y,W.vals[kb]? = some y:=⟨_,lG l3⟩;have k7:=hI k9;have j1:=hI l0;clear X k9 l0;have X:=F.c (by rw[h];decide);obtain⟨kc,t7⟩:∃k:Nat,x.c=(k:Int):=⟨x.c.toNat,by omega⟩;have v0:kc<W.vals.length:=by rw[M.vals];omega
  have B6:(kc:Int)<W.vals.length:=by omega
  obtain⟨yc,t9⟩:∃y,W.vals[kc]? = some y:=⟨_,lG v0⟩;have t3:=hI t7;have q5:=hI t9;clear X t7 t9;have CC:=hI (rN D.o H.o h0.o M.cells);rw[<-j0.o] at CC;have HS:Hid ((match dG W x.a with | none=>(W,(2:Int)) | some (n,c)=>if c.kind≠2 then(W,2) else if ¬(V.kind=2/\0<=V.n/\V.n<c.vals.length) then(W,1) else(setCW W n { c with vals:=c.vals.set V.n.toNat yc },0))=(N,q)):=by
   have:=r.o
   unfold nE at this
   rw[k7.o,iJ j1.o,t3.o,iJ q5.o] at this
   simp only[if_neg (show ¬x.op=13 by omega)] at this
   exact this
  clear r;have x1:=l.o 1 _ rfl;have r1:=hI h;clear h;go_wp2_with fail;refine CC.o.mono ?_;rintro e w2 ⟨rfl,k2⟩;have o3:=hI k2;have K2:=btZ K1 k2;have L2:=hI (H.o.below D.o k2);clear k2 J x1;have IC:=hI (ai5 D.o L2.o j1.o e5 x.a);have x2:w2.cell? ⟨w.heap.size,2,none⟩=some (.int .i64 kb):=by rw[<-k7.o];exact aC o3.o (l.o 2 _ rfl)
  go_wp2_with fail;refine IC.o.mono ?_;rintro e P ⟨m,how,rfl,k3,G⟩;have q4:=btZ o3 k3;have K3:=btZ K2 k3;have L3:=hI (L2.o.below D.o k3);clear k3 x2;have J:P.cell? ⟨w.heap.size,0,none⟩=some (.int .i64 14):=by rw[<-r1.o];exact aC q4.o (l.o 0 _ rfl)
  cases I:dG W x.a with
  | none=>
   unfold gA at G
   rw[I] at G
   dsimp only at G
   subst G
   rw[gS I]
   have r:Hid ((W,(2:Int))=(N,q)):=by show _=_;rw[<-HS.o,I]
   clear I
   go_wp2_with fail
   go_ret
   have z:=congrArg Prod.fst r.o
   have A:=congrArg Prod.snd r.o
   dsimp only at z A
   subst z;subst A
   exact⟨rfl,⟨_,_,_,_,L3.o⟩,aQ.of K3.o⟩
  | some p=>
   obtain⟨n,c⟩:=p
   obtain⟨gc,cc,v,f,vA,vc,r6,hc,hv,hf,s0,o9,c0,c1,c2,c3,z5⟩:=L3.o.atCell I
   rw[o9]
   subst s0
   have HC:=hI hc
   have o7:=hI hv
   have HF:=hI hf
   have C2:=hI c2
   unfold gA at G
   rw[I] at G
   dsimp only at G
   have HT:Hid ((if c.kind≠2 then(W,(2:Int)) else if ¬(V.kind=2/\0<=V.n/\V.n<c.vals.length) then(W,1) else(setCW W n { c with vals:=c.vals.set V.n.toNat yc },0))=(N,q)):=by show _=_;rw[<-HS.o,I]
   clear I c0 c1 c2 c3 hc hv hf o9 r6 HS
   by_cases b6:c.kind=2
   ·rw[if_neg (λh=>h b6)] at G
    by_cases e9:V.kind=2/\0<=V.n/\V.n<c.vals.length
    ·rw[if_neg (λh=>h e9)] at G
     obtain⟨rfl,rfl⟩:=G
     obtain⟨j,hj⟩:∃j:Nat,V.n=(j:Int):=⟨V.n.toNat,by omega⟩
     have o8:j<c.vals.length:=by omega
     have t1:(j:Int)<c.vals.length:=by omega
     obtain⟨Y,h8⟩:∃Y,c.vals[j]? = some Y:=⟨_,lG o8⟩
     have HJ:=hI hj
     have i9:=hI h8
     have r:Hid ((setCW W n { c with vals:=c.vals.set j yc },(0:Int))=(N,q)):=by
      show _=_
      rw[<-HT.o,if_neg (λh=>h b6),if_neg (λh=>h e9),hj,Int.toNat_natCast]
     rw[hj]
     have OV:=hI (L3.o.cvals n _ c o7.o HC.o)
     obtain⟨gv,w7,m4,-,z6⟩:=OV.o.form (Nat.zero_lt_of_lt o8)
     injection m4 with m4 _ _
     subst m4
     have OW:=hI L3.o.vals
     rw[HV.o] at OW
     clear b6 e9 hj h8
     go_upto_region 31 with fail
     have a0:∀E:Up P,E.to.cell? ⟨Γ.wb,17,none⟩=some (.slice (some ⟨g,0,none⟩) W.vals.length m0):=λE=>E.cell (by have h:=L3.o.own D.o 4;rw[HV.o] at h;exact h)
     have a1:∀E:Up P,E.to.cell? ⟨gc,n*4+2,none⟩=some (.slice (some ⟨gv,0,none⟩) c.vals.length vc):=λE=>E.cell (C2.o)
     have a2:∀E:Up P,E.to.cell? ⟨w.heap.size,3,none⟩=some (.int .i64 kc):=λE=>E.cell (by rw[<-t3.o];exact aC q4.o (l.o 3 _ rfl))
     have a3:∀E:Up P,E.to.cell? ⟨g,kc*2,none⟩=some (.int .i64 yc.kind):=λE=>E.cell (by rw[OW.o.cellAt (kc*2) (by omega)];exact cF q5.o (k:=0) (by decide))
     have a4:∀E:Up P,E.to.cell? ⟨g,kc*2+1,none⟩=some (.int .i64 yc.n):=λE=>E.cell (by rw[OW.o.cellAt (kc*2+1) (by omega)];exact cF q5.o (k:=1) (by decide))
     clear J
     refine aU 13 (by kernel_rfl) (by kernel_rfl) ?_
     simp only[List.take_succ_cons,List.take_zero]
     repeat (go_big_quiet_step (fail))
     refine wpQuiet_nil ?_
     intro w' hE
     obtain⟨E,rfl⟩:=hE
     obtain⟨wy,ky⟩:=E
     dsimp only
     have LY:=hI (L3.o.below D.o ky)
     have KY:=btZ K3 ky
     clear ky a0 a1 a2 a3 a4
     have TH:Hid (wy.there gv (j*2) 2):=fQ (LY.o.cvals n _ c o7.o HC.o) (by omega)
     have S9:Hid ((∃e6 e7,cC Γ (wy.setCells gv (j*2) [.int .i64 yc.kind,.int .i64 yc.n]) (setCW W n { c with vals:=c.vals.set j yc }) cv vv e6 e7)/\aQ wy (wy.setCells gv (j*2) [.int .i64 yc.kind,.int .i64 yc.n])):=LY.o.setCV D.o HC.o o7.o HF.o i9.o (LY.o.wfv yc (lM q5.o)) rfl
     simp only[List.drop_succ_cons,List.drop_zero]
     go_upto_region 42 with (first | (refine wpList_store_mid rfl 51 _ _ rfl gv (j*2) #[.int .i64 yc.kind,.int .i64 yc.n] rfl rfl TH.o fB (oCz (by simp[Value.oneCell'])) ?_) | fail)
     generalize d3:World.setCells _ _ _ _=w9
     rw[d3] at S9
     clear d3
     (try dsimp only [Act.put])
     go_wp2_with fail
     go_ret
     have z:=congrArg Prod.fst r.o
     have A:=congrArg Prod.snd r.o
     dsimp only at z A
     subst z;subst A
     obtain⟨⟨e6,e7,L9⟩,K9⟩:=S9.o
     exact⟨rfl,⟨_,_,_,_,L9⟩,(aQ.of KY.o).trans K9⟩
    ·rw[if_pos e9] at G
     subst G
     have r:Hid ((W,(1:Int))=(N,q)):=by show _=_;rw[<-HT.o,if_neg (λh=>h b6),if_pos e9]
     clear e9 b6
     go_wp2_with fail
     go_ret
     have z:=congrArg Prod.fst r.o
     have A:=congrArg Prod.snd r.o
     dsimp only at z A
     subst z;subst A
     exact⟨rfl,⟨_,_,_,_,L3.o⟩,aQ.of K3.o⟩
   ·rw[if_pos b6] at G
    subst G
    have r:Hid ((W,(2:Int))=(N,q)):=by show _=_;rw[<-HT.o,if_pos b6]
    clear b6
    go_wp2_with fail
    go_ret
    have z:=congrArg Prod.fst r.o
    have A:=congrArg Prod.snd r.o
    dsimp only at z A
    subst z;subst A
    exact⟨rfl,⟨_,_,_,_,L3.o⟩,aQ.of K3.o⟩
 ·have r:Hid ((jK W i x)=(N,q)):=by show _=_;rw[<-HD.o];unfold doI;(iterate 6 rw[if_neg (by omega)]);rw[if_pos (by omega)]
  rw[h] at J;have x1:=l.o 1 _ rfl;have x2:=l.o 2 _ rfl;have x3:=l.o 3 _ rfl;have x4:=l.o 4 _ rfl;have x5:=l.o 5 _ rfl;have x6:=l.o 6 _ rfl;have x7:=l.o 7 _ rfl;have CC:=hI (acY D.o H.o e4 e5 M.cells x ⟨(F.a (by rw[h];decide)).1,by have:=(F.a (by rw[h];decide)).2;rw[M.vals];omega⟩ (λc=>absurd c (by omega)) (λ_=>by have:=F.n.1;rw[h] at this;exact this) (by omega) n0.o.2.2.2.2.1);rw[h] at CC;clear h;go_wp2_with fail;refine CC.o.mono ?_;rintro e w5 ⟨rfl,⟨h9,i0,e6,e7,L5⟩,O⟩;have LL:=hI L5;have KK:=hI O;clear L5 O J x1 x2 x3 x4 x5 x6 x7;go_wp2_with fail;go_ret;have z:=congrArg Prod.fst r.o;have A:=congrArg Prod.snd r.o;dsimp only at z A;subst z;subst A;exact⟨rfl,⟨_,_,_,_,LL.o⟩,(aQ.of K1.o).trans KK.o⟩
 ·have r:Hid ((eP W i x.n)=(N,q)):=by show _=_;rw[<-HD.o];unfold doI;(iterate 9 rw[if_neg (by omega)]);rw[if_pos h]
  rw[h] at J;have x1:=l.o 1 _ rfl;have x2:=l.o 2 _ rfl;have x3:=l.o 3 _ rfl;have x4:=l.o 4 _ rfl;have x5:=l.o 5 _ rfl;have x6:=l.o 6 _ rfl;have x7:=l.o 7 _ rfl;have CC:=hI (ae0 D.o H.o e4 e5 M.cells x.n n0.o.2.2.2.2.1);clear h;go_wp2_with fail;refine CC.o.mono ?_;rintro e w5 ⟨rfl,⟨h9,i0,e6,e7,L5⟩,O⟩;have LL:=hI L5;have KK:=hI O;clear L5 O J x1 x2 x3 x4 x5 x6 x7;go_wp2_with fail;go_ret;have z:=congrArg Prod.fst r.o;have A:=congrArg Prod.snd r.o;dsimp only at z A;subst z;subst A;exact⟨rfl,⟨_,_,_,_,LL.o⟩,(aQ.of K1.o).trans KK.o⟩
 ·have r:Hid ((j6 W x)=(N,q)):=by show _=_;rw[<-HD.o];unfold doI;(iterate 10 rw[if_neg (by omega)]);rw[if_pos h]
  rw[h] at J;have x1:=l.o 1 _ rfl;have x2:=l.o 2 _ rfl;have x3:=l.o 3 _ rfl;have x4:=l.o 4 _ rfl;have x5:=l.o 5 _ rfl;have x6:=l.o 6 _ rfl;have x7:=l.o 7 _ rfl;have CC:=hI (push_c D.o H.o e5 M.cells x ⟨(F.a (by rw[h];decide)).1,by have:=(F.a (by rw[h];decide)).2;rw[M.vals];omega⟩ ⟨(F.b (by rw[h];decide)).1,by have:=(F.b (by rw[h];decide)).2;rw[M.vals];omega⟩);rw[h] at CC;clear h;go_wp2_with fail;refine CC.o.mono ?_;rintro e w5 ⟨rfl,⟨h9,i0,e6,e7,L5⟩,O⟩;have LL:=hI L5;have KK:=hI O;clear L5 O J x1 x2 x3 x4 x5 x6 x7;go_wp2_with fail;go_ret;have z:=congrArg Prod.fst r.o;have A:=congrArg Prod.snd r.o;dsimp only at z A;subst z;subst A;exact⟨rfl,⟨_,_,_,_,LL.o⟩,(aQ.of K1.o).trans KK.o⟩
 ·have r:Hid ((eP W i 0)=(N,q)):=by show _=_;rw[<-HD.o];unfold doI;(iterate 11 rw[if_neg (by omega)]);rw[if_neg (by omega)]
  rw[h] at J;have x1:=l.o 1 _ rfl;have x2:=l.o 2 _ rfl;have x3:=l.o 3 _ rfl;have x4:=l.o 4 _ rfl;have x5:=l.o 5 _ rfl;have x6:=l.o 6 _ rfl;have x7:=l.o 7 _ rfl;have CC:=hI (ae0 D.o H.o e4 e5 M.cells 0 (by unfold wfi;omega));clear h;go_wp2_with fail;refine CC.o.mono ?_;rintro e w5 ⟨rfl,⟨h9,i0,e6,e7,L5⟩,O⟩;have LL:=hI L5;have KK:=hI O;clear L5 O J x1 x2 x3 x4 x5 x6 x7;go_wp2_with fail;go_ret;have z:=congrArg Prod.fst r.o;have A:=congrArg Prod.snd r.o;dsimp only at z A;subst z;subst A;exact⟨rfl,⟨_,_,_,_,LL.o⟩,(aQ.of K1.o).trans KK.o⟩
 ·have r:Hid ((W,isW (match Γ.shapes[x.n.toNat]? with | none=>false | some s=>s.up == x.b) 1)=(N,q)):=by
   show _=_
   rw[<-HD.o];unfold doI
   (iterate 11 rw[if_neg (by omega)]);rw[if_pos h];rfl
  rw[h] at J;have k6:=F.n.1;rw[h] at k6;have k6:0<=x.n:=Int.le_trans (by decide) k6;obtain⟨m,hm⟩:∃m:Nat,x.n=(m:Int):=⟨x.n.toNat,by omega⟩;have HM:=hI hm;obtain⟨SA,sc,u1,-,-,s3⟩:=D.o.sh;have z3:=hI u1;have HS:Hid ((W,isW (match Γ.shapes[m]? with | none=>false | some s=>s.up == x.b) 1)=(N,q)):=by
   have:=r.o
   rw[hm,Int.toNat_natCast] at this
   exact this
  have G:∀(b:Bool) (W1:World),Calls prog 231 #[.bool b,.int .i64 1] W1 λe w'=>e=.returned (.int .i64 (isW b 1))/\W1=w':=λb W1=>aaM b 1 W1;have t4:=hI G;clear G r hm k6 h u1;go_upto_region 41 with fail;have a0:∀E:Up w1,E.to.cell? ⟨w.heap.size,4,none⟩=some (.int .i64 m):=λE=>E.cell (by rw[<-HM.o];exact l.o 4 _ rfl);have a1:∀E:Up w1,E.to.cell? ⟨Γ.wb,14,none⟩=some (.slice SA Γ.shapes.length sc):=λE=>E.cell (by rw[<-z3.o];exact H.o.own D.o 1);clear J;by_cases A0:m < Γ.shapes.length
  ·obtain⟨sb,w8,z9,u2,u3⟩:=s3 (by omega);subst z9;obtain⟨s,hs⟩:∃s,Γ.shapes[m]? = some s:=⟨_,lG A0⟩;obtain⟨D0,-,⟨rfl,-,-⟩,s4⟩:=u3 m s hs;have z1:(m:Int) < Γ.shapes.length:=(by omega);have r:Hid ((W,isW (s.up == x.b) 1)=(N,q)):=(by show _=_;rw[<-HS.o,hs]);clear hs u3 s3;have a2:∀E:Up w1,E.to.cell? ⟨sb,w8+m*2,none⟩=some (.int .i64 s.up):=λE=>E.cell ((H.o.held ⟨sb,_,none⟩ u2).trans (s4 0 _ rfl));have a3:=ecZ (l.o 2 _ rfl);clear s4 u2;refine aD (by kernel_rfl) (by kernel_rfl) ?_;repeat (go_big_quiet_step ((go_at_call 231;with_reducible exact akW (t4.o _ _))))
   refine wpQuiet_nil ?_;rintro _ ⟨E,rfl⟩;have KE:=btZ K1 E.below;have LE:=hI (H.o.below D.o E.below);clear a0 a1 a2 a3;go_wp2_with fail;go_ret;have z:=congrArg Prod.fst r.o;have A:=congrArg Prod.snd r.o;dsimp only at z A;subst z;subst A;exact⟨rfl,⟨_,_,_,_,LE.o⟩,aQ.of KE.o⟩
  ·have z4 : Γ.shapes.length<=m:=(by omega);have r:Hid ((W,isW false 1)=(N,q)):=(by show _=_;rw[<-HS.o,List.getElem?_eq_none z4]);clear s3;refine aD (by kernel_rfl) (by kernel_rfl) ?_;repeat (go_big_quiet_step ((go_at_call 231;with_reducible exact akW (t4.o _ _))))
   refine wpQuiet_nil ?_;rintro _ ⟨E,rfl⟩;have KE:=btZ K1 E.below;have LE:=hI (H.o.below D.o E.below);clear a0 a1;go_wp2_with fail;go_ret;have z:=congrArg Prod.fst r.o;have A:=congrArg Prod.snd r.o;dsimp only at z A;subst z;subst A;exact⟨rfl,⟨_,_,_,_,LE.o⟩,aQ.of KE.o⟩
end
end
end Go.Proofs.YtijihlcdhppfgaaGreatDoor
