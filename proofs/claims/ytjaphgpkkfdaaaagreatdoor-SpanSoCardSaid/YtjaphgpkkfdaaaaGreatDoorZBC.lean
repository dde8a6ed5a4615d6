/- A part of the walk. -/
import Derived.Test.YtjaphgpkkfdaaaaGreatDoorZW
import Derived.Test.YtjaphgpkkfdaaaaGreatDoorZY
import Derived.Test.YtjaphgpkkfdaaaaGreatDoorZZ
import Derived.Test.YtjaphgpkkfdaaaaGreatDoorZBB
set_option maxHeartbeats 16000000
set_option maxRecDepth 100000
set_option linter.all false
namespace Go.Proofs.YtjaphgpkkfdaaaaGreatDoor
open Tryz
section
open Go.RowKit
theorem eJ {n:Int} (h:(decide (-9223372036854775808<=n) && decide (n<=9223372036854775807))=true):wfi n:=by unfold wfi;simpa using h
theorem wf_wrap (n:Int):wfi (wrap64 n):=by unfold wfi wrap64;omega
theorem l6 (b:Bool):WfV (cP b):=by unfold cP;split <;> exact⟨eJ rfl,eJ rfl⟩
theorem of_wf (b:Nat):WfV (ofM b):=by
 unfold ofM;split;·exact⟨eJ rfl,wf_wrap _⟩
 ·exact⟨eJ rfl,eJ rfl⟩
theorem uS (o:BinOp) (x y:Nat):WfV (ofB o x y):=by
 unfold ofB;split;·exact of_wf _
 ·exact⟨eJ rfl,eJ rfl⟩
def WfR (r:Val×Int):Prop:=WfV r.1/\wfi r.2
theorem oCb (n:Int) (h:wfi n):WfR (⟨0,0⟩,n):=⟨⟨eJ rfl,eJ rfl⟩,h⟩
theorem kJ (n:Int):WfR (dS n):=by unfold dS;refine bU WfR (λh=>?_) (λ_=>oCb _ (eJ rfl));simp only[aK,Bool.and_eq_true,decide_eq_true_eq] at h;exact⟨⟨eJ rfl,by unfold wfi;dsimp only;omega⟩,eJ rfl⟩
theorem rJ (op:Int) (a b:Bool):WfR (eA op a b):=by unfold eA;refine bU WfR (λ_=>⟨l6 _,eJ rfl⟩) λ_=>?_;exact bU WfR (λ_=>⟨l6 _,eJ rfl⟩) λ_=>oCb _ (eJ rfl)
theorem zY (op a b:Int):WfR (gR op a b):=by unfold gR;refine bU WfR (λ_=>kJ _) λ_=>?_;refine bU WfR (λ_=>kJ _) λ_=>?_;refine bU WfR (λ_=>kJ _) λ_=>?_;refine bU WfR (λ_=>?_) λ_=>rJ _ _ _;refine bU WfR (λ_=>oCb _ (eJ rfl)) λ_=>?_;exact bU WfR (λ_=>kJ _) λ_=>kJ _
theorem aa8 (op:Int) (x y:Nat):WfR (lI op x y):=by have d:wfi (-1):=eJ rfl;unfold lI;refine bU WfR (λ_=>⟨uS _ _ _,d⟩) λ_=>?_;refine bU WfR (λ_=>⟨uS _ _ _,d⟩) λ_=>?_;refine bU WfR (λ_=>⟨uS _ _ _,d⟩) λ_=>?_;refine bU WfR (λ_=>⟨uS _ _ _,d⟩) λ_=>?_;exact bU WfR (λ_=>⟨l6 _,d⟩) λ_=>rJ _ _ _
theorem ab0 (op:Int) (v:Val):WfR (o4 op v):=by have d:wfi (-1):=eJ rfl;unfold o4;refine bU WfR (λ_=>⟨l6 _,d⟩) λ_=>?_;refine bU WfR (λ_=>kJ _) λ_=>?_;exact bU WfR (λ_=>⟨of_wf _,d⟩) λ_=>oCb _ (eJ rfl)
theorem abS (op:Int) (u v:Val):WfR (mU op u v):=by have d:wfi (-1):=eJ rfl;unfold mU;refine bU WfR (λ_=>aa8 _ _ _) λ_=>?_;refine bU WfR (λ_=>⟨l6 _,d⟩) λ_=>?_;exact bU WfR (λ_=>zY _ _ _) λ_=>oCb _ (eJ rfl)
section
variable {Γ : kI} {w w':World} {W:aI} {cv vv:Value} {vs fs:List Value}
theorem do_c (K:hP Γ) (L:bO Γ w W cv vv vs fs) {i:Nat} {x:bG} {R:Int} (hx : Γ.t.ins[i]? = some x) (F:zV R Γ.t i x) (M:Lim Γ.t R.toNat W) (ht : Γ.t.ins.length<=300) : Calls prog 107 #[.pointer (some ⟨Γ.wb,0,none⟩),.int .i64 (i:Int)] w (sJ Γ (doW cJ Γ.t Γ.self Γ.shapes W i).1 (.int .i64 (doW cJ Γ.t Γ.self Γ.shapes W i).2) w):=by
 have y3:i < Γ.t.ins.length:=(lE hx).1;have e3:i<W.vals.length:=by rw[M.vals];exact y3
 have e4:W.vals.length<=300:=by rw[M.vals];exact ht
 obtain⟨g,l5,t2,-,C5⟩:=L.vals.form (by omega);obtain⟨b,k7,B5,c3,hc,d1,C6⟩:=L.insAt K hx;have m7:=hI d1;have HX:=hI hx;have HV:=hI t2;have C:=hI K;have m8:=ht;have g0:w.cell? ⟨b,k7+i*8,none⟩=some (.int .i64 x.op):=hc 0 _ rfl;have g1:w.cell? ⟨b,k7+i*8+1,none⟩=some (.int .i64 x.a):=hc 1 _ rfl;have g2:w.cell? ⟨b,k7+i*8+2,none⟩=some (.int .i64 x.b):=hc 2 _ rfl;have g3:w.cell? ⟨b,k7+i*8+3,none⟩=some (.int .i64 x.c):=hc 3 _ rfl;have g4:w.cell? ⟨b,k7+i*8+4,none⟩=some (.int .i64 x.n):=hc 4 _ rfl;have g5:w.cell? ⟨b,k7+i*8+5,none⟩=some (.int .i64 x.exit):=hc 5 _ rfl;have g6:w.cell? ⟨b,k7+i*8+6,none⟩=some (.int .i64 x.k.kind):=hc 6 _ rfl;have g7:w.cell? ⟨b,k7+i*8+7,none⟩=some (.int .i64 x.k.n):=hc 7 _ rfl;have s5:(i:Int) < Γ.t.ins.length:=by omega
 have C4:(i:Int)<W.vals.length:=by omega
 obtain⟨w1,q4⟩:∃w1,w1=w.alloc (.cells #[.int .i64 x.op,.int .i64 x.a,.int .i64 x.b,.int .i64 x.c,.int .i64 x.n,.int .i64 x.exit,.int .i64 x.k.kind,.int .i64 x.k.n] 92):=⟨_,rfl⟩;have K1:Hid (Below w.heap.size w w1):=by rw[q4];exact aB _ _
 have l:Hid (aA w1 w.heap.size [.int .i64 x.op,.int .i64 x.a,.int .i64 x.b,.int .i64 x.c,.int .i64 x.n,.int .i64 x.exit,.int .i64 x.k.kind,.int .i64 x.k.n]):=by rw[q4];exact ad5 _ _ _
 have y4:=hI q4;have G:=hI (L.below K K1.o);obtain⟨J,r2⟩:∃J,(doW cJ Γ.t Γ.self Γ.shapes W i).1=J:=⟨_,rfl⟩;obtain⟨q,hq⟩:∃q,(doW cJ Γ.t Γ.self Γ.shapes W i).2=q:=⟨_,rfl⟩;rw[r2,hq];have HD:Hid (doI cJ Γ.self Γ.shapes W i x=(J,q)):=by show _=_;rw[<-r2,<-hq];unfold doW jE;rw[Int.toNat_natCast,hx];rfl
 clear q4 r2 hq K L t2 hx hc d1;go_enter func107,ntmps107;go_upto_region 2 with fail;rw[<-y4.o];clear g0 g1 g2 g3 g4 g5 g6 g7 c3;have I:=l.o 0 _ rfl;rcases nU (op:=x.op) (by have:=F.op;simpa [lU] using this) with h | h | h | h | h | h | h | h | h | h | h | h | h | h | h | h | h | h | h
 ·rw[h] at I;have r:Hid ((fS W i (W.regs.getD x.n.toNat ⟨0,0⟩),(0:Int))=(J,q)):=by show _=_;rw[<-HD.o];unfold doI;rw[if_pos h]
  have k5:=F.n.1;have y5:=F.reg h;rw[h] at k5;change (0:Int)<=x.n at k5;obtain⟨m,hm⟩:∃m:Nat,x.n=(m:Int):=⟨x.n.toNat,by omega⟩;have y6:m<W.regs.length:=by rw[M.regs];omega
  have y7:(m:Int)<W.regs.length:=by omega
  obtain⟨X,h7⟩:∃y,W.regs[m]? = some y:=⟨_,lG y6⟩;obtain⟨rg,rc,hrv,-,C7⟩:=G.o.regs.form (by omega);have s6:=hI hrv;have HM:=hI hm;have i6:=hI h7;have r:Hid ((fS W i X,(0:Int))=(J,q)):=by have:=r.o;rw[hm,Int.toNat_natCast,List.getD_eq_getElem?_getD,h7] at this;exact this
  have OR:=hI G.o.regs;rw[s6.o] at OR;clear k5 y5 hm h7 hrv h;go_upto_region 5 with fail;have a0:∀E:Up w1,E.to.cell? ⟨Γ.wb,17,none⟩=some (.slice (some ⟨g,0,none⟩) W.vals.length l5):=λE=>E.cell (by have h:=G.o.own C.o 4;rw[HV.o] at h;exact h);have a1:∀E:Up w1,E.to.cell? ⟨Γ.wb,15,none⟩=some (.pointer (some ⟨Γ.fb,Γ.fo,none⟩)):=λE=>E.cell (G.o.own C.o 2);have a2:∀E:Up w1,E.to.cell? ⟨Γ.fb,Γ.fo+6,none⟩=some (.slice (some ⟨rg,0,none⟩) W.regs.length rc):=λE=>E.cell (by rw[G.o.frest (Γ.fo+6) (by omega),<-s6.o];exact C.o.f6);have a3:∀E:Up w1,E.to.cell? ⟨w.heap.size,4,none⟩=some (.int .i64 m):=λE=>E.cell (by rw[<-HM.o];exact l.o 4 _ rfl);have a4:∀E:Up w1,E.to.cell? ⟨rg,m*2,none⟩=some (.int .i64 X.kind):=λE=>E.cell (by rw[OR.o.cellAt (m*2) (by omega)];exact bS i6.o (k:=0) (by decide));have a5:∀E:Up w1,E.to.cell? ⟨rg,m*2+1,none⟩=some (.int .i64 X.n):=λE=>E.cell (by rw[OR.o.cellAt (m*2+1) (by omega)];exact bS i6.o (k:=1) (by decide));clear I;refine aL 16 (by kernel_rfl) (by kernel_rfl) ?_;simp only[List.take_succ_cons,List.take_zero];repeat (go_big_quiet_step (fail))
  refine wpQuiet_nil ?_;intro w' hE;obtain⟨E,rfl⟩:=hE;obtain⟨wy,ky⟩:=E;dsimp only;have LY:=hI (G.o.below C.o ky);have KY:=btZ K1 ky;clear ky a0 a1 a2 a3 a4 a5;obtain⟨u,hu⟩:∃u,W.vals[i]? = some u:=⟨_,lG e3⟩;have TH:Hid (wy.there g (i*2) 2):=by have:=LY.o.vals;rw[HV.o] at this;exact dZ this (by omega)
  have d1:WfV X:=LY.o.wfr X (lM i6.o);have S9:Hid (bO Γ (wy.setCells g (i*2) [.int .i64 X.kind,.int .i64 X.n]) (fS W i X) cv vv vs fs/\aQ wy (wy.setCells g (i*2) [.int .i64 X.kind,.int .i64 X.n])):=LY.o.setVal C.o hu d1 HV.o;clear hu d1;simp only[List.drop_succ_cons,List.drop_zero];go_upto_region 42 with (first | (refine wpList_store_mid rfl 48 _ _ rfl g (i*2) #[.int .i64 X.kind,.int .i64 X.n] rfl rfl TH.o aF (oC (by simp[Value.oneCell'])) ?_) | fail);generalize d2:World.setCells _ _ _ _=w9;rw[d2] at S9;clear d2;(try dsimp only [Act.put]);go_wp2_with fail;go_ret;have z:=congrArg Prod.fst r.o;have A:=congrArg Prod.snd r.o;dsimp only at z A;subst z;subst A;exact⟨rfl,⟨_,_,_,_,S9.o.1⟩,(aQ.of KY.o).trans S9.o.2⟩
 ·rw[h] at I;have r:Hid ((fS W i x.k,(0:Int))=(J,q)):=by show _=_;rw[<-HD.o];unfold doI;rw[if_neg (by omega)];rw[if_pos h]
  clear h;go_upto_region 7 with fail;have a0:∀E:Up w1,E.to.cell? ⟨Γ.wb,17,none⟩=some (.slice (some ⟨g,0,none⟩) W.vals.length l5):=λE=>E.cell (by have h:=G.o.own C.o 4;rw[HV.o] at h;exact h);have a1:∀E:Up w1,E.to.cell? ⟨w.heap.size,6,none⟩=some (.int .i64 x.k.kind):=λE=>E.cell (by exact l.o 6 _ rfl);have a2:∀E:Up w1,E.to.cell? ⟨w.heap.size,7,none⟩=some (.int .i64 x.k.n):=λE=>E.cell (by exact l.o 7 _ rfl);clear I;refine aL 7 (by kernel_rfl) (by kernel_rfl) ?_;simp only[List.take_succ_cons,List.take_zero];repeat (go_big_quiet_step (fail))
  refine wpQuiet_nil ?_;intro w' hE;obtain⟨E,rfl⟩:=hE;obtain⟨wy,ky⟩:=E;dsimp only;have LY:=hI (G.o.below C.o ky);have KY:=btZ K1 ky;clear ky a0 a1 a2;obtain⟨u,hu⟩:∃u,W.vals[i]? = some u:=⟨_,lG e3⟩;have TH:Hid (wy.there g (i*2) 2):=by have:=LY.o.vals;rw[HV.o] at this;exact dZ this (by omega)
  have d1:WfV x.k:=m7.o.2.2.2.2.2.2;have S9:Hid (bO Γ (wy.setCells g (i*2) [.int .i64 x.k.kind,.int .i64 x.k.n]) (fS W i x.k) cv vv vs fs/\aQ wy (wy.setCells g (i*2) [.int .i64 x.k.kind,.int .i64 x.k.n])):=LY.o.setVal C.o hu d1 HV.o;clear hu d1;simp only[List.drop_succ_cons,List.drop_zero];go_upto_region 42 with (first | (refine wpList_store_mid rfl 48 _ _ rfl g (i*2) #[.int .i64 x.k.kind,.int .i64 x.k.n] rfl rfl TH.o aF (oC (by simp[Value.oneCell'])) ?_) | fail);generalize d2:World.setCells _ _ _ _=w9;rw[d2] at S9;clear d2;(try dsimp only [Act.put]);go_wp2_with fail;go_ret;have z:=congrArg Prod.fst r.o;have A:=congrArg Prod.snd r.o;dsimp only at z A;subst z;subst A;exact⟨rfl,⟨_,_,_,_,S9.o.1⟩,(aQ.of KY.o).trans S9.o.2⟩
 ·rw[h] at I;have r:Hid ((fS W i Γ.self,(0:Int))=(J,q)):=by show _=_;rw[<-HD.o];unfold doI;rw[if_neg (by omega)];rw[if_neg (by omega)];rw[if_pos h]
  clear h;go_upto_region 9 with fail;have a0:∀E:Up w1,E.to.cell? ⟨Γ.wb,17,none⟩=some (.slice (some ⟨g,0,none⟩) W.vals.length l5):=λE=>E.cell (by have h:=G.o.own C.o 4;rw[HV.o] at h;exact h);have a1:∀E:Up w1,E.to.cell? ⟨Γ.wb,15,none⟩=some (.pointer (some ⟨Γ.fb,Γ.fo,none⟩)):=λE=>E.cell (G.o.own C.o 2);have a2:∀E:Up w1,E.to.cell? ⟨Γ.fb,Γ.fo+4,none⟩=some (.int .i64 Γ.self.kind):=λE=>E.cell (by rw[G.o.frest (Γ.fo+4) (by omega)];exact C.o.f4);have a3:∀E:Up w1,E.to.cell? ⟨Γ.fb,Γ.fo+5,none⟩=some (.int .i64 Γ.self.n):=λE=>E.cell (by rw[G.o.frest (Γ.fo+5) (by omega)];exact C.o.f5);clear I;refine aL 12 (by kernel_rfl) (by kernel_rfl) ?_;simp only[List.take_succ_cons,List.take_zero];repeat (go_big_quiet_step (fail))
  refine wpQuiet_nil ?_;intro w' hE;obtain⟨E,rfl⟩:=hE;obtain⟨wy,ky⟩:=E;dsimp only;have LY:=hI (G.o.below C.o ky);have KY:=btZ K1 ky;clear ky a0 a1 a2 a3;obtain⟨u,hu⟩:∃u,W.vals[i]? = some u:=⟨_,lG e3⟩;have TH:Hid (wy.there g (i*2) 2):=by have:=LY.o.vals;rw[HV.o] at this;exact dZ this (by omega)
  have d1:WfV Γ.self:=C.o.wfs;have S9:Hid (bO Γ (wy.setCells g (i*2) [.int .i64 Γ.self.kind,.int .i64 Γ.self.n]) (fS W i Γ.self) cv vv vs fs/\aQ wy (wy.setCells g (i*2) [.int .i64 Γ.self.kind,.int .i64 Γ.self.n])):=LY.o.setVal C.o hu d1 HV.o;clear hu d1;simp only[List.drop_succ_cons,List.drop_zero];go_upto_region 42 with (first | (refine wpList_store_mid rfl 48 _ _ rfl g (i*2) #[.int .i64 Γ.self.kind,.int .i64 Γ.self.n] rfl rfl TH.o aF (oC (by simp[Value.oneCell'])) ?_) | fail);generalize d2:World.setCells _ _ _ _=w9;rw[d2] at S9;clear d2;(try dsimp only [Act.put]);go_wp2_with fail;go_ret;have z:=congrArg Prod.fst r.o;have A:=congrArg Prod.snd r.o;dsimp only at z A;subst z;subst A;exact⟨rfl,⟨_,_,_,_,S9.o.1⟩,(aQ.of KY.o).trans S9.o.2⟩
 ·have r:Hid ((W,isW (iY cJ W x) 1)=(J,q)):=by show _=_;rw[<-HD.o];unfold doI;rw[if_neg (by omega)];rw[if_neg (by omega)];rw[if_neg (by omega)];rw[if_pos (by omega)]
  rw[h] at I;have x1:=l.o 1 _ rfl;have x2:=l.o 2 _ rfl;have x3:=l.o 3 _ rfl;have x4:=l.o 4 _ rfl;have x5:=l.o 5 _ rfl;have x6:=l.o 6 _ rfl;have x7:=l.o 7 _ rfl;have GC:=hI (qP C.o G.o e4 M.cells x ⟨(F.a (by rw[h];decide)).1,by have:=(F.a (by rw[h];decide)).2;rw[M.vals];omega⟩ (by exact .inl h));rw[h] at GC;obtain⟨gb,h1⟩:∃gb,iY cJ W x=gb:=⟨_,rfl⟩;rw[h1] at GC r;clear h h1;go_wp2_with fail;refine GC.o.mono ?_;rintro e w2 ⟨rfl,k2⟩;have K2:=btZ K1 k2;have L2:=hI (G.o.below C.o k2);clear k2 I x1 x2 x3 x4 x5 x6 x7;go_wp2_with fail;refine(uV _ _ w2).mono ?_;rintro e O ⟨rfl,rfl⟩;go_wp2_with fail;go_ret;have z:=congrArg Prod.fst r.o;have A:=congrArg Prod.snd r.o;dsimp only at z A;subst z;subst A;exact⟨rfl,⟨_,_,_,_,L2.o⟩,aQ.of K2.o⟩
 ·have r:Hid ((W,isW (iY cJ W x) 1)=(J,q)):=by show _=_;rw[<-HD.o];unfold doI;rw[if_neg (by omega)];rw[if_neg (by omega)];rw[if_neg (by omega)];rw[if_pos (by omega)]
  rw[h] at I;have x1:=l.o 1 _ rfl;have x2:=l.o 2 _ rfl;have x3:=l.o 3 _ rfl;have x4:=l.o 4 _ rfl;have x5:=l.o 5 _ rfl;have x6:=l.o 6 _ rfl;have x7:=l.o 7 _ rfl;have GC:=hI (qP C.o G.o e4 M.cells x ⟨(F.a (by rw[h];decide)).1,by have:=(F.a (by rw[h];decide)).2;rw[M.vals];omega⟩ (by exact .inr (.inl h)));rw[h] at GC;obtain⟨gb,h1⟩:∃gb,iY cJ W x=gb:=⟨_,rfl⟩;rw[h1] at GC r;clear h h1;go_wp2_with fail;refine GC.o.mono ?_;rintro e w2 ⟨rfl,k2⟩;have K2:=btZ K1 k2;have L2:=hI (G.o.below C.o k2);clear k2 I x1 x2 x3 x4 x5 x6 x7;go_wp2_with fail;refine(uV _ _ w2).mono ?_;rintro e O ⟨rfl,rfl⟩;go_wp2_with fail;go_ret;have z:=congrArg Prod.fst r.o;have A:=congrArg Prod.snd r.o;dsimp only at z A;subst z;subst A;exact⟨rfl,⟨_,_,_,_,L2.o⟩,aQ.of K2.o⟩
 ·have r:Hid ((W,isW (iY cJ W x) 1)=(J,q)):=by show _=_;rw[<-HD.o];unfold doI;rw[if_neg (by omega)];rw[if_neg (by omega)];rw[if_neg (by omega)];rw[if_pos (by omega)]
  rw[h] at I;have x1:=l.o 1 _ rfl;have x2:=l.o 2 _ rfl;have x3:=l.o 3 _ rfl;have x4:=l.o 4 _ rfl;have x5:=l.o 5 _ rfl;have x6:=l.o 6 _ rfl;have x7:=l.o 7 _ rfl;have GC:=hI (qP C.o G.o e4 M.cells x ⟨(F.a (by rw[h];decide)).1,by have:=(F.a (by rw[h];decide)).2;rw[M.vals];omega⟩ (by exact .inr (.inr (.inl h))));rw[h] at GC;obtain⟨gb,h1⟩:∃gb,iY cJ W x=gb:=⟨_,rfl⟩;rw[h1] at GC r;clear h h1;go_wp2_with fail;refine GC.o.mono ?_;rintro e w2 ⟨rfl,k2⟩;have K2:=btZ K1 k2;have L2:=hI (G.o.below C.o k2);clear k2 I x1 x2 x3 x4 x5 x6 x7;go_wp2_with fail;refine(uV _ _ w2).mono ?_;rintro e O ⟨rfl,rfl⟩;go_wp2_with fail;go_ret;have z:=congrArg Prod.fst r.o;have A:=congrArg Prod.snd r.o;dsimp only at z A;subst z;subst A;exact⟨rfl,⟨_,_,_,_,L2.o⟩,aQ.of K2.o⟩
 ·have r:Hid ((iQ W i x.exit (cJ.B x.n (cX W x.a) (cX W x.b)))=(J,q)):=by show _=_;rw[<-HD.o];unfold doI;rw[if_neg (by omega)];rw[if_neg (by omega)];rw[if_neg (by omega)];rw[if_neg (by omega)];rw[if_pos h]
  rw[h] at I;have V:=F.a (by rw[h];decide);obtain⟨ka,h2⟩:∃k:Nat,x.a=(k:Int):=⟨x.a.toNat,by omega⟩;have i2:ka<W.vals.length:=by rw[M.vals];omega
  have p0:(ka:Int)<W.vals.length:=by omega
  obtain⟨ya,h3⟩:∃y,W.vals[ka]? = some y:=⟨_,lG i2⟩;have i9:=hI h2;have f9:=hI h3;clear V h2 h3;have V:=F.b (by rw[h];decide);obtain⟨kb,k8⟩:∃k:Nat,x.b=(k:Int):=⟨x.b.toNat,by omega⟩;have l1:kb<W.vals.length:=by rw[M.vals];omega
  have q6:(kb:Int)<W.vals.length:=by omega
  obtain⟨S,k9⟩:∃y,W.vals[kb]? = some y:=⟨_,lG l1⟩;have k6:=hI k8;have j0:=hI k9;clear V k8 k9;obtain⟨rr,j2⟩:∃rr,mU x.n ya S=rr:=⟨_,rfl⟩;have j1:Hid (WfV rr.1/\wfi rr.2):=by rw[<-j2];exact abS x.n ya S
  have BC:=hI (λW2=>ad2 x.n ya S W2);unfold bB at BC;rw[j2] at BC;have r:Hid (iQ W i x.exit rr=(J,q)):=by have:=r.o;rw[i9.o,fR f9.o] at this;rw[k6.o,fR j0.o] at this;rw[<-j2];exact this
  have OW:=hI G.o.vals;rw[HV.o] at OW;clear h j2;go_upto_region 16 with fail;have a0:∀E:Up w1,E.to.cell? ⟨Γ.wb,17,none⟩=some (.slice (some ⟨g,0,none⟩) W.vals.length l5):=λE=>E.cell (by have h:=G.o.own C.o 4;rw[HV.o] at h;exact h);have a1:∀E:Up w1,E.to.cell? ⟨w.heap.size,4,none⟩=some (.int .i64 x.n):=λE=>E.cell (by exact l.o 4 _ rfl);have a2:∀E:Up w1,E.to.cell? ⟨w.heap.size,1,none⟩=some (.int .i64 ka):=λE=>E.cell (by rw[<-i9.o];exact l.o 1 _ rfl);have a3:∀E:Up w1,E.to.cell? ⟨w.heap.size,2,none⟩=some (.int .i64 kb):=λE=>E.cell (by rw[<-k6.o];exact l.o 2 _ rfl);have a4:∀E:Up w1,E.to.cell? ⟨g,ka*2,none⟩=some (.int .i64 ya.kind):=λE=>E.cell (by rw[OW.o.cellAt (ka*2) (by omega)];exact bS f9.o (k:=0) (by decide));have a5:∀E:Up w1,E.to.cell? ⟨g,ka*2+1,none⟩=some (.int .i64 ya.n):=λE=>E.cell (by rw[OW.o.cellAt (ka*2+1) (by omega)];exact bS f9.o (k:=1) (by decide));have a6:∀E:Up w1,E.to.cell? ⟨g,kb*2,none⟩=some (.int .i64 S.kind):=λE=>E.cell (by rw[OW.o.cellAt (kb*2) (by omega)];exact bS j0.o (k:=0) (by decide));have a7:∀E:Up w1,E.to.cell? ⟨g,kb*2+1,none⟩=some (.int .i64 S.n):=λE=>E.cell (by rw[OW.o.cellAt (kb*2+1) (by omega)];exact bS j0.o (k:=1) (by decide));clear I;obtain⟨b0,r3⟩:∃b0,b0=w1.heap.size:=⟨_,rfl⟩;refine gQ (λw'=>∃E:Up w1,w'=E.to) [0,1,2,3,4,5,6,7,8,9,10,11,12,13,14,15,16,17] [18,19,20,21,22,23] 7 #[true,true,true,true,true,true,true,true,true,true,true,true,true,true,true,true,true,true,false,false,false,false,false,false,false] _ (by kernel_rfl) (by kernel_rfl) (by simp only[List.filterMap_cons,List.filterMap_nil,List.getElem?_toArray,List.getElem?_cons_zero,List.getElem?_cons_succ];rfl) (λ_ _ d _ _ h=>by cases d <;> exact h) ⟨⟨_,(Below.refl _ w1).drew⟩,rfl⟩ ?_;generalize o8:(λa'=>cN _ _ _ _ _ _ _ _ a' _)=qq;have n8:=hI o8;clear o8;show wpQuiet _ _ _ _ [_,_,_,_,_,_,_,_,_,_,_,_,_,_,_,_,_,_] _;repeat (go_big_quiet_step (fail))
  refine wpQuiet_nil ?_;rw[<-n8.o];clear n8 qq r3 b0 a0 a1 a2 a3 a4 a5 a6 a7;obtain⟨wd,m1⟩:∃wd,wd=w1.drew:=⟨_,rfl⟩;have KD:Hid (Below w1.heap.size w1 wd):=by rw[m1];exact(Below.refl _ w1).drew
  rw[<-m1];clear m1;refine qU (i:=18) (k:=22) (by kernel_rfl) rfl rfl (λK P=>?_) (λK P=>?_)
  ·go_simp;refine(BC.o wd).mono ?_;rintro e O ⟨rfl,kc⟩;have K3:=btZ KD kc;clear kc;refine P _ _ (λ_=>⟨⟨O,K3.o⟩,rfl⟩) ?_;clear P K;refine fJ [19,20,21] 3 #[true,true,true,true,true,true,true,true,true,true,true,true,true,true,true,true,true,true,true,true,true,true,false,false,false] _ (by kernel_rfl) rfl (by simp only[List.filterMap_cons,List.filterMap_nil,List.getElem?_toArray,List.getElem?_cons_zero,List.getElem?_cons_succ];rfl) (λ_ _ d _ _ h=>by cases d <;> exact h) ⟨⟨O,K3.o⟩,rfl⟩ ?_;show wpQuiet _ _ _ _ [_,_,_] _;repeat (go_big_quiet_step (fail))
   refine wpQuiet_nil ?_;refine jJ (i:=22) (by kernel_rfl) rfl (λK P=>?_);go_simp;obtain⟨w4,Y⟩:∃v',v'=O.alloc (.cells #[.int .i64 0,.int .i64 0] 48):=⟨_,rfl⟩;obtain⟨ob,Z⟩:∃g',g'=O.heap.size:=⟨_,rfl⟩;have l2:Hid (w1.heap.size<=ob):=(by rw[Z];exact K3.o.size);have K4:Hid (Below w1.heap.size w1 w4):=(by rw[Y];exact K3.o.trans ((aB _ _).mono K3.o.size));have A4:Hid (w4.heap[ob]? = some (.cells #[.int .i64 0,.int .i64 0] 48 (0,0))):=(by rw[Y,Z];exact aJ _ _);rw[<-Y,<-Z];refine P _ _ (λ_=>⟨⟨w4,K4.o⟩,rfl⟩) ?_;clear P K Y Z;refine d9 [23,24] _ _ _ (by kernel_rfl) ?_;refine bA rfl (λK P=>?_);rw[if_pos (by rfl)];refine wp_store_row 48 _ _ rfl ob #[.int .i64 rr.1.kind,.int .i64 rr.1.n] rfl rfl 48 _ A4.o aF rfl (oC (by simp[Value.oneCell'])) ?_;generalize c9:World.setRow _ _ _=w5;have N:Hid (Below w1.heap.size w1 w5):=(by rw[<-c9];exact Below.set_row K4.o l2.o _);have A5:=shZ c9 A4;clear c9;refine P _ _ (λ_=>⟨⟨w5,N.o⟩,rfl⟩) ?_;clear P K;refine bP [24] _ _ (by kernel_rfl) (by kernel_rfl) ?_;simp only[List.filterMap_cons,List.filterMap_nil,List.getElem?_toArray,List.getElem?_cons_zero,List.getElem?_cons_succ];(try dsimp only [Act.put]);go_upto_region 17 with fail;have o0:=crZ A5 0 rfl;have o1:=crZ A5 1 rfl;have L5:=hI (G.o.below C.o N.o);have TC:=hI (uI C.o L5.o HX.o e3 m8 rr.1 j1.o.1 rr.2 j1.o.2);go_wp2_with fail;refine TC.o.mono ?_;rintro e w6 ⟨rfl,⟨h8,h9,e5,e6,L6⟩,K6⟩;have LL:=hI L6;have KK:=hI K6;clear L6 K6 o0 o1;go_wp2_with fail;go_ret;have z:=congrArg Prod.fst r.o;have A:=congrArg Prod.snd r.o;dsimp only at z A;subst z;subst A;exact⟨rfl,⟨_,_,_,_,LL.o⟩,(aQ.of (K1.o.trans (N.o.mono K1.o.size))).trans KK.o⟩
  ·go_simp;obtain⟨O,Y⟩:∃v',v'=wd.alloc (.cells #[.int .i64 0,.int .i64 0] 48):=⟨_,rfl⟩;obtain⟨ob,Z⟩:∃g',g'=wd.heap.size:=⟨_,rfl⟩;have l2:Hid (w1.heap.size<=ob):=(by rw[Z];exact KD.o.size);have K3:Hid (Below w1.heap.size w1 O):=(by rw[Y];exact KD.o.trans ((aB _ _).mono KD.o.size));have A3:Hid (O.heap[ob]? = some (.cells #[.int .i64 0,.int .i64 0] 48 (0,0))):=(by rw[Y,Z];exact aJ _ _);rw[<-Y,<-Z];refine P _ _ (λ_=>⟨⟨O,K3.o⟩,rfl⟩) ?_;clear P K Y Z;refine jJ (i:=18) (by kernel_rfl) rfl (λK P=>?_);go_simp;refine(BC.o O).mono ?_;rintro e w4 ⟨rfl,kc⟩;have K4:=btZ K3 kc;have A4:Hid (w4.heap[ob]? = some (.cells #[.int .i64 0,.int .i64 0] 48 (0,0))):=(by show _=_;rw[kc.block _ (aV A3.o)];exact A3.o);clear kc;refine P _ _ (λ_=>⟨⟨w4,K4.o⟩,rfl⟩) ?_;clear P K;refine fJ [19,20,21] 2 #[true,true,true,true,true,true,true,true,true,true,true,true,true,true,true,true,true,true,true,true,true,true,true,false,false] _ (by kernel_rfl) rfl (by simp only[List.filterMap_cons,List.filterMap_nil,List.getElem?_toArray,List.getElem?_cons_zero,List.getElem?_cons_succ];rfl) (λ_ _ d _ _ h=>by cases d <;> exact h) ⟨⟨w4,K4.o⟩,rfl⟩ ?_;show wpQuiet _ _ _ _ [_,_,_] _;repeat (go_big_quiet_step (fail))
   refine wpQuiet_nil ?_;refine d9 [23,24] _ _ _ (by kernel_rfl) ?_;refine bA rfl (λK P=>?_);rw[if_pos (by rfl)];refine wp_store_row 48 _ _ rfl ob #[.int .i64 rr.1.kind,.int .i64 rr.1.n] rfl rfl 48 _ A4.o aF rfl (oC (by simp[Value.oneCell'])) ?_;generalize c9:World.setRow _ _ _=w5;have N:Hid (Below w1.heap.size w1 w5):=(by rw[<-c9];exact Below.set_row K4.o l2.o _);have A5:=shZ c9 A4;clear c9;refine P _ _ (λ_=>⟨⟨w5,N.o⟩,rfl⟩) ?_;clear P K;refine bP [24] _ _ (by kernel_rfl) (by kernel_rfl) ?_;simp only[List.filterMap_cons,List.filterMap_nil,List.getElem?_toArray,List.getElem?_cons_zero,List.getElem?_cons_succ];(try dsimp only [Act.put]);go_upto_region 17 with fail;have o0:=crZ A5 0 rfl;have o1:=crZ A5 1 rfl;have L5:=hI (G.o.below C.o N.o);have TC:=hI (uI C.o L5.o HX.o e3 m8 rr.1 j1.o.1 rr.2 j1.o.2);go_wp2_with fail;refine TC.o.mono ?_;rintro e w6 ⟨rfl,⟨h8,h9,e5,e6,L6⟩,K6⟩;have LL:=hI L6;have KK:=hI K6;clear L6 K6 o0 o1;go_wp2_with fail;go_ret;have z:=congrArg Prod.fst r.o;have A:=congrArg Prod.snd r.o;dsimp only at z A;subst z;subst A;exact⟨rfl,⟨_,_,_,_,LL.o⟩,(aQ.of (K1.o.trans (N.o.mono K1.o.size))).trans KK.o⟩
 ·have r:Hid ((iQ W i x.exit (cJ.U x.n (cX W x.a)))=(J,q)):=by show _=_;rw[<-HD.o];unfold doI;rw[if_neg (by omega)];rw[if_neg (by omega)];rw[if_neg (by omega)];rw[if_neg (by omega)];rw[if_neg (by omega)];rw[if_pos h]
  rw[h] at I;have V:=F.a (by rw[h];decide);obtain⟨ka,h2⟩:∃k:Nat,x.a=(k:Int):=⟨x.a.toNat,by omega⟩;have i2:ka<W.vals.length:=by rw[M.vals];omega
  have p0:(ka:Int)<W.vals.length:=by omega
  obtain⟨ya,h3⟩:∃y,W.vals[ka]? = some y:=⟨_,lG i2⟩;have i9:=hI h2;have f9:=hI h3;clear V h2 h3;obtain⟨rr,j2⟩:∃rr,o4 x.n ya=rr:=⟨_,rfl⟩;have j1:Hid (WfV rr.1/\wfi rr.2):=by rw[<-j2];exact ab0 x.n ya
  have BC:=hI (λW2=>unary_c x.n ya W2);unfold bB at BC;rw[j2] at BC;have r:Hid (iQ W i x.exit rr=(J,q)):=by have:=r.o;rw[i9.o,fR f9.o] at this;rw[<-j2];exact this
  have OW:=hI G.o.vals;rw[HV.o] at OW;clear h j2;go_upto_region 19 with fail;have a0:∀E:Up w1,E.to.cell? ⟨Γ.wb,17,none⟩=some (.slice (some ⟨g,0,none⟩) W.vals.length l5):=λE=>E.cell (by have h:=G.o.own C.o 4;rw[HV.o] at h;exact h);have a1:∀E:Up w1,E.to.cell? ⟨w.heap.size,4,none⟩=some (.int .i64 x.n):=λE=>E.cell (by exact l.o 4 _ rfl);have a2:∀E:Up w1,E.to.cell? ⟨w.heap.size,1,none⟩=some (.int .i64 ka):=λE=>E.cell (by rw[<-i9.o];exact l.o 1 _ rfl);have a3:∀E:Up w1,E.to.cell? ⟨g,ka*2,none⟩=some (.int .i64 ya.kind):=λE=>E.cell (by rw[OW.o.cellAt (ka*2) (by omega)];exact bS f9.o (k:=0) (by decide));have a4:∀E:Up w1,E.to.cell? ⟨g,ka*2+1,none⟩=some (.int .i64 ya.n):=λE=>E.cell (by rw[OW.o.cellAt (ka*2+1) (by omega)];exact bS f9.o (k:=1) (by decide));clear I;obtain⟨b0,r3⟩:∃b0,b0=w1.heap.size:=⟨_,rfl⟩;refine gQ (λw'=>∃E:Up w1,w'=E.to) [0,1,2,3,4,5,6,7,8,9] [10,11,12,13,14,15] 7 #[true,true,true,true,true,true,true,true,true,true,false,false,false,false,false,false,false] _ (by kernel_rfl) (by kernel_rfl) (by simp only[List.filterMap_cons,List.filterMap_nil,List.getElem?_toArray,List.getElem?_cons_zero,List.getElem?_cons_succ];rfl) (λ_ _ d _ _ h=>by cases d <;> exact h) ⟨⟨_,(Below.refl _ w1).drew⟩,rfl⟩ ?_;generalize o8:(λa'=>cN _ _ _ _ _ _ _ _ a' _)=qq;have n8:=hI o8;clear o8;show wpQuiet _ _ _ _ [_,_,_,_,_,_,_,_,_,_] _;repeat (go_big_quiet_step (fail))
  refine wpQuiet_nil ?_;rw[<-n8.o];clear n8 qq r3 b0 a0 a1 a2 a3 a4;obtain⟨wd,m1⟩:∃wd,wd=w1.drew:=⟨_,rfl⟩;have KD:Hid (Below w1.heap.size w1 wd):=by rw[m1];exact(Below.refl _ w1).drew
  rw[<-m1];clear m1;refine qU (i:=10) (k:=14) (by kernel_rfl) rfl rfl (λK P=>?_) (λK P=>?_)
  ·go_simp;refine(BC.o wd).mono ?_;rintro e O ⟨rfl,kc⟩;have K3:=btZ KD kc;clear kc;refine P _ _ (λ_=>⟨⟨O,K3.o⟩,rfl⟩) ?_;clear P K;refine fJ [11,12,13] 3 #[true,true,true,true,true,true,true,true,true,true,true,true,true,true,false,false,false] _ (by kernel_rfl) rfl (by simp only[List.filterMap_cons,List.filterMap_nil,List.getElem?_toArray,List.getElem?_cons_zero,List.getElem?_cons_succ];rfl) (λ_ _ d _ _ h=>by cases d <;> exact h) ⟨⟨O,K3.o⟩,rfl⟩ ?_;show wpQuiet _ _ _ _ [_,_,_] _;repeat (go_big_quiet_step (fail))
   refine wpQuiet_nil ?_;refine jJ (i:=14) (by kernel_rfl) rfl (λK P=>?_);go_simp;obtain⟨w4,Y⟩:∃v',v'=O.alloc (.cells #[.int .i64 0,.int .i64 0] 48):=⟨_,rfl⟩;obtain⟨ob,Z⟩:∃g',g'=O.heap.size:=⟨_,rfl⟩;have l2:Hid (w1.heap.size<=ob):=(by rw[Z];exact K3.o.size);have K4:Hid (Below w1.heap.size w1 w4):=(by rw[Y];exact K3.o.trans ((aB _ _).mono K3.o.size));have A4:Hid (w4.heap[ob]? = some (.cells #[.int .i64 0,.int .i64 0] 48 (0,0))):=(by rw[Y,Z];exact aJ _ _);rw[<-Y,<-Z];refine P _ _ (λ_=>⟨⟨w4,K4.o⟩,rfl⟩) ?_;clear P K Y Z;refine d9 [15,16] _ _ _ (by kernel_rfl) ?_;refine bA rfl (λK P=>?_);rw[if_pos (by rfl)];refine wp_store_row 48 _ _ rfl ob #[.int .i64 rr.1.kind,.int .i64 rr.1.n] rfl rfl 48 _ A4.o aF rfl (oC (by simp[Value.oneCell'])) ?_;generalize c9:World.setRow _ _ _=w5;have N:Hid (Below w1.heap.size w1 w5):=(by rw[<-c9];exact Below.set_row K4.o l2.o _);have A5:=shZ c9 A4;clear c9;refine P _ _ (λ_=>⟨⟨w5,N.o⟩,rfl⟩) ?_;clear P K;refine bP [16] _ _ (by kernel_rfl) (by kernel_rfl) ?_;simp only[List.filterMap_cons,List.filterMap_nil,List.getElem?_toArray,List.getElem?_cons_zero,List.getElem?_cons_succ];(try dsimp only [Act.put]);go_upto_region 20 with fail;have o0:=crZ A5 0 rfl;have o1:=crZ A5 1 rfl;have L5:=hI (G.o.below C.o N.o);have TC:=hI (uI C.o L5.o HX.o e3 m8 rr.1 j1.o.1 rr.2 j1.o.2);go_wp2_with fail;refine TC.o.mono ?_;rintro e w6 ⟨rfl,⟨h8,h9,e5,e6,L6⟩,K6⟩;have LL:=hI L6;have KK:=hI K6;clear L6 K6 o0 o1;go_wp2_with fail;go_ret;have z:=congrArg Prod.fst r.o;have A:=congrArg Prod.snd r.o;dsimp only at z A;subst z;subst A;exact⟨rfl,⟨_,_,_,_,LL.o⟩,(aQ.of (K1.o.trans (N.o.mono K1.o.size))).trans KK.o⟩
  ·go_simp;obtain⟨O,Y⟩:∃v',v'=wd.alloc (.cells #[.int .i64 0,.int .i64 0] 48):=⟨_,rfl⟩;obtain⟨ob,Z⟩:∃g',g'=wd.heap.size:=⟨_,rfl⟩;have l2:Hid (w1.heap.size<=ob):=(by rw[Z];exact KD.o.size);have K3:Hid (Below w1.heap.size w1 O):=(by rw[Y];exact KD.o.trans ((aB _ _).mono KD.o.size));have A3:Hid (O.heap[ob]? = some (.cells #[.int .i64 0,.int .i64 0] 48 (0,0))):=(by rw[Y,Z];exact aJ _ _);rw[<-Y,<-Z];refine P _ _ (λ_=>⟨⟨O,K3.o⟩,rfl⟩) ?_;clear P K Y Z;refine jJ (i:=10) (by kernel_rfl) rfl (λK P=>?_);go_simp;refine(BC.o O).mono ?_;rintro e w4 ⟨rfl,kc⟩;have K4:=btZ K3 kc;have A4:Hid (w4.heap[ob]? = some (.cells #[.int .i64 0,.int .i64 0] 48 (0,0))):=(by show _=_;rw[kc.block _ (aV A3.o)];exact A3.o);clear kc;refine P _ _ (λ_=>⟨⟨w4,K4.o⟩,rfl⟩) ?_;clear P K;refine fJ [11,12,13] 2 #[true,true,true,true,true,true,true,true,true,true,true,true,true,true,true,false,false] _ (by kernel_rfl) rfl (by simp only[List.filterMap_cons,List.filterMap_nil,List.getElem?_toArray,List.getElem?_cons_zero,List.getElem?_cons_succ];rfl) (λ_ _ d _ _ h=>by cases d <;> exact h) ⟨⟨w4,K4.o⟩,rfl⟩ ?_;show wpQuiet _ _ _ _ [_,_,_] _;repeat (go_big_quiet_step (fail))
   refine wpQuiet_nil ?_;refine d9 [15,16] _ _ _ (by kernel_rfl) ?_;refine bA rfl (λK P=>?_);rw[if_pos (by rfl)];refine wp_store_row 48 _ _ rfl ob #[.int .i64 rr.1.kind,.int .i64 rr.1.n] rfl rfl 48 _ A4.o aF rfl (oC (by simp[Value.oneCell'])) ?_;generalize c9:World.setRow _ _ _=w5;have N:Hid (Below w1.heap.size w1 w5):=(by rw[<-c9];exact Below.set_row K4.o l2.o _);have A5:=shZ c9 A4;clear c9;refine P _ _ (λ_=>⟨⟨w5,N.o⟩,rfl⟩) ?_;clear P K;refine bP [16] _ _ (by kernel_rfl) (by kernel_rfl) ?_;simp only[List.filterMap_cons,List.filterMap_nil,List.getElem?_toArray,List.getElem?_cons_zero,List.getElem?_cons_succ];(try dsimp only [Act.put]);go_upto_region 20 with fail;have o0:=crZ A5 0 rfl;have o1:=crZ A5 1 rfl;have L5:=hI (G.o.below C.o N.o);have TC:=hI (uI C.o L5.o HX.o e3 m8 rr.1 j1.o.1 rr.2 j1.o.2);go_wp2_with fail;refine TC.o.mono ?_;rintro e w6 ⟨rfl,⟨h8,h9,e5,e6,L6⟩,K6⟩;have LL:=hI L6;have KK:=hI K6;clear L6 K6 o0 o1;go_wp2_with fail;go_ret;have z:=congrArg Prod.fst r.o;have A:=congrArg Prod.snd r.o;dsimp only at z A;subst z;subst A;exact⟨rfl,⟨_,_,_,_,LL.o⟩,(aQ.of (K1.o.trans (N.o.mono K1.o.size))).trans KK.o⟩
 ·have r:Hid ((W,isW (iY cJ W x) 1)=(J,q)):=by show _=_;rw[<-HD.o];unfold doI;rw[if_neg (by omega)];rw[if_neg (by omega)];rw[if_neg (by omega)];rw[if_pos (by omega)]
  rw[h] at I;have x1:=l.o 1 _ rfl;have x2:=l.o 2 _ rfl;have x3:=l.o 3 _ rfl;have x4:=l.o 4 _ rfl;have x5:=l.o 5 _ rfl;have x6:=l.o 6 _ rfl;have x7:=l.o 7 _ rfl;have GC:=hI (qP C.o G.o e4 M.cells x ⟨(F.a (by rw[h];decide)).1,by have:=(F.a (by rw[h];decide)).2;rw[M.vals];omega⟩ (by exact .inr (.inr (.inr h))));rw[h] at GC;obtain⟨gb,h1⟩:∃gb,iY cJ W x=gb:=⟨_,rfl⟩;rw[h1] at GC r;clear h h1;go_wp2_with fail;refine GC.o.mono ?_;rintro e w2 ⟨rfl,k2⟩;have K2:=btZ K1 k2;have L2:=hI (G.o.below C.o k2);clear k2 I x1 x2 x3 x4 x5 x6 x7;go_wp2_with fail;refine(uV _ _ w2).mono ?_;rintro e O ⟨rfl,rfl⟩;go_wp2_with fail;go_ret;have z:=congrArg Prod.fst r.o;have A:=congrArg Prod.snd r.o;dsimp only at z A;subst z;subst A;exact⟨rfl,⟨_,_,_,_,L2.o⟩,aQ.of K2.o⟩
 ·have r:Hid ((gW W i x)=(J,q)):=by show _=_;rw[<-HD.o];unfold doI;rw[if_neg (by omega)];rw[if_neg (by omega)];rw[if_neg (by omega)];rw[if_neg (by omega)];rw[if_neg (by omega)];rw[if_neg (by omega)];rw[if_pos (by omega)]
  rw[h] at I;have x1:=l.o 1 _ rfl;have x2:=l.o 2 _ rfl;have x3:=l.o 3 _ rfl;have x4:=l.o 4 _ rfl;have x5:=l.o 5 _ rfl;have x6:=l.o 6 _ rfl;have x7:=l.o 7 _ rfl;have CC:=hI (xB C.o G.o e3 e4 M.cells x ⟨(F.a (by rw[h];decide)).1,by have:=(F.a (by rw[h];decide)).2;rw[M.vals];omega⟩ (λc=>absurd c (by omega)) (λ_=>by have:=F.n.1;rw[h] at this;exact this) (by omega) m7.o.2.2.2.2.1);rw[h] at CC;clear h;go_wp2_with fail;refine CC.o.mono ?_;rintro e w5 ⟨rfl,⟨h8,h9,e5,e6,L5⟩,N⟩;have LL:=hI L5;have KK:=hI N;clear L5 N I x1 x2 x3 x4 x5 x6 x7;go_wp2_with fail;go_ret;have z:=congrArg Prod.fst r.o;have A:=congrArg Prod.snd r.o;dsimp only at z A;subst z;subst A;exact⟨rfl,⟨_,_,_,_,LL.o⟩,(aQ.of K1.o).trans KK.o⟩
 ·have r:Hid ((gW W i x)=(J,q)):=by show _=_;rw[<-HD.o];unfold doI;rw[if_neg (by omega)];rw[if_neg (by omega)];rw[if_neg (by omega)];rw[if_neg (by omega)];rw[if_neg (by omega)];rw[if_neg (by omega)];rw[if_pos (by omega)]
  rw[h] at I;have x1:=l.o 1 _ rfl;have x2:=l.o 2 _ rfl;have x3:=l.o 3 _ rfl;have x4:=l.o 4 _ rfl;have x5:=l.o 5 _ rfl;have x6:=l.o 6 _ rfl;have x7:=l.o 7 _ rfl;have CC:=hI (xB C.o G.o e3 e4 M.cells x ⟨(F.a (by rw[h];decide)).1,by have:=(F.a (by rw[h];decide)).2;rw[M.vals];omega⟩ (λc=>⟨(F.b (by rw[h];decide)).1,by have:=(F.b (by rw[h];decide)).2;rw[M.vals];omega⟩) (λ_=>by have:=F.n.1;rw[h] at this;exact this) (by omega) m7.o.2.2.2.2.1);rw[h] at CC;clear h;go_wp2_with fail;refine CC.o.mono ?_;rintro e w5 ⟨rfl,⟨h8,h9,e5,e6,L5⟩,N⟩;have LL:=hI L5;have KK:=hI N;clear L5 N I x1 x2 x3 x4 x5 x6 x7;go_wp2_with fail;go_ret;have z:=congrArg Prod.fst r.o;have A:=congrArg Prod.snd r.o;dsimp only at z A;subst z;subst A;exact⟨rfl,⟨_,_,_,_,LL.o⟩,(aQ.of K1.o).trans KK.o⟩
 ·have r:Hid ((jT Γ.shapes W x)=(J,q)):=by show _=_;rw[<-HD.o];unfold doI;rw[if_neg (by omega)];rw[if_neg (by omega)];rw[if_neg (by omega)];rw[if_neg (by omega)];rw[if_neg (by omega)];rw[if_neg (by omega)];rw[if_neg (by omega)];rw[if_pos h]
  rw[h] at I;have x1:=l.o 1 _ rfl;have x2:=l.o 2 _ rfl;have x3:=l.o 3 _ rfl;have x4:=l.o 4 _ rfl;have x5:=l.o 5 _ rfl;have x6:=l.o 6 _ rfl;have x7:=l.o 7 _ rfl;have CC:=hI (grow_c C.o G.o e4 M.cells x ⟨(F.a (by rw[h];decide)).1,by have:=(F.a (by rw[h];decide)).2;rw[M.vals];omega⟩ ⟨(F.b (by rw[h];decide)).1,by have:=(F.b (by rw[h];decide)).2;rw[M.vals];omega⟩ (by have:=F.n.1;rw[h] at this;exact Int.le_trans (by decide) this) m7.o.2.2.2.2.1);rw[h] at CC;clear h;go_wp2_with fail;refine CC.o.mono ?_;rintro e w5 ⟨rfl,⟨h8,h9,e5,e6,L5⟩,N⟩;have LL:=hI L5;have KK:=hI N;clear L5 N I x1 x2 x3 x4 x5 x6 x7;go_wp2_with fail;go_ret;have z:=congrArg Prod.fst r.o;have A:=congrArg Prod.snd r.o;dsimp only at z A;subst z;subst A;exact⟨rfl,⟨_,_,_,_,LL.o⟩,(aQ.of K1.o).trans KK.o⟩
 ·have r:Hid ((lP W i x)=(J,q)):=by show _=_;rw[<-HD.o];unfold doI;rw[if_neg (by omega)];rw[if_neg (by omega)];rw[if_neg (by omega)];rw[if_neg (by omega)];rw[if_neg (by omega)];rw[if_neg (by omega)];rw[if_neg (by omega)];rw[if_neg (by omega)];rw[if_pos (by omega)]
  rw[h] at I;have V:=F.a (by rw[h];decide);obtain⟨ka,h2⟩:∃k:Nat,x.a=(k:Int):=⟨x.a.toNat,by omega⟩;have i2:ka<W.vals.length:=by rw[M.vals];omega
  have p0:(ka:Int)<W.vals.length:=by omega
  obtain⟨ya,h3⟩:∃y,W.vals[ka]? = some y:=⟨_,lG i2⟩;have i9:=hI h2;have f9:=hI h3;clear V h2 h3;have V:=F.b (by rw[h];decide);obtain⟨kb,k8⟩:∃k:Nat,x.b=(k:Int):=⟨x.b.toNat,by omega⟩;have l1:kb<W.vals.length:=by rw[M.vals];omega
  have q6:(kb:Int)<W.vals.length:=by omega
  obtain⟨S,k9⟩:∃y,W.vals[kb]? = some y:=⟨_,lG l1⟩;have k6:=hI k8;have j0:=hI k9;clear V k8 k9;have CC:=hI (nY C.o G.o f9.o M.cells);rw[<-i9.o] at CC;have HS:Hid ((match eF W x.a with | none=>(W,(2:Int)) | some (n,c)=>if c.kind≠2 then(W,2) else if ¬(S.kind=2/\0<=S.n/\S.n<c.vals.length) then(W,1) else(fS W i (c.vals.getD S.n.toNat ⟨0,0⟩),0))=(J,q)):=by
   have:=r.o
   unfold lP at this
   rw[k6.o,fR j0.o] at this
   simp only[if_pos h] at this
   exact this
  clear r;have x1:=l.o 1 _ rfl;have q8:=hI h;clear h;go_wp2_with fail;refine CC.o.mono ?_;rintro e w2 ⟨rfl,k2⟩;have n9:=hI k2;have K2:=btZ K1 k2;have L2:=hI (G.o.below C.o k2);clear k2 I x1;have IC:=hI (acS C.o L2.o j0.o e4 x.a);have x2:w2.cell? ⟨w.heap.size,2,none⟩=some (.int .i64 kb):=by rw[<-k6.o];exact aC n9.o (l.o 2 _ rfl)
  go_wp2_with fail;refine IC.o.mono ?_;rintro e O ⟨m,how,rfl,k3,D⟩;have q2:=btZ n9 k3;have K3:=btZ K2 k3;have L3:=hI (L2.o.below C.o k3);clear k3 x2;have I:O.cell? ⟨w.heap.size,0,none⟩=some (.int .i64 13):=by rw[<-q8.o];exact aC q2.o (l.o 0 _ rfl)
  cases H:eF W x.a with
  | none=>
   unfold eG at D
   rw[H] at D
   dsimp only at D
   subst D
   rw[eV H]
   have r:Hid ((W,(2:Int))=(J,q)):=by show _=_;rw[<-HS.o,H]
   clear H
   go_wp2_with fail
   go_ret
   have z:=congrArg Prod.fst r.o
   have A:=congrArg Prod.snd r.o
   dsimp only at z A
   subst z;subst A
   exact⟨rfl,⟨_,_,_,_,L3.o⟩,aQ.of K3.o⟩
  | some p=>
   obtain⟨n,c⟩:=p
   obtain⟨gc,cc,v,f,vA,vc,r4,hc,hv,hf,r6,o7,c0,c1,c2,c3,z3⟩:=L3.o.atCell H
   rw[o7]
   subst r6
   have HC:=hI hc
   have o2:=hI hv
   have HF:=hI hf
   have C2:=hI c2
   unfold eG at D
   rw[H] at D
   dsimp only at D
   have HT:Hid ((if c.kind≠2 then(W,(2:Int)) else if ¬(S.kind=2/\0<=S.n/\S.n<c.vals.length) then(W,1) else(fS W i (c.vals.getD S.n.toNat ⟨0,0⟩),0))=(J,q)):=by show _=_;rw[<-HS.o,H]
   clear H c0 c1 c2 c3 hc hv hf o7 r4 HS
   by_cases b5:c.kind=2
   ·rw[if_neg (λh=>h b5)] at D
    by_cases e7:S.kind=2/\0<=S.n/\S.n<c.vals.length
    ·rw[if_neg (λh=>h e7)] at D
     obtain⟨rfl,rfl⟩:=D
     obtain⟨j,hj⟩:∃j:Nat,S.n=(j:Int):=⟨S.n.toNat,by omega⟩
     have o3:j<c.vals.length:=by omega
     have s5:(j:Int)<c.vals.length:=by omega
     obtain⟨X,h7⟩:∃X,c.vals[j]? = some X:=⟨_,lG o3⟩
     have HJ:=hI hj
     have i6:=hI h7
     have r:Hid ((fS W i X,(0:Int))=(J,q)):=by
      show _=_
      rw[<-HT.o,if_neg (λh=>h b5),if_neg (λh=>h e7),hj,Int.toNat_natCast,List.getD_eq_getElem?_getD,h7];rfl
     rw[hj]
     have OV:=hI (L3.o.cvals n _ c o2.o HC.o)
     obtain⟨gv,v9,m2,-,z4⟩:=OV.o.form (Nat.zero_lt_of_lt o3)
     injection m2 with m2 _ _
     subst m2
     have OW:=hI L3.o.vals
     rw[HV.o] at OW
     clear b5 e7 hj h7
     go_upto_region 35 with fail
     have a0:∀E:Up O,E.to.cell? ⟨Γ.wb,17,none⟩=some (.slice (some ⟨g,0,none⟩) W.vals.length l5):=λE=>E.cell (by have h:=L3.o.own C.o 4;rw[HV.o] at h;exact h)
     have a1:∀E:Up O,E.to.cell? ⟨gc,n*4+2,none⟩=some (.slice (some ⟨gv,0,none⟩) c.vals.length vc):=λE=>E.cell (C2.o)
     have a2:∀E:Up O,E.to.cell? ⟨gv,j*2,none⟩=some (.int .i64 X.kind):=λE=>E.cell (by rw[OV.o.cellAt (j*2) (by omega)];exact bS i6.o (k:=0) (by decide))
     have a3:∀E:Up O,E.to.cell? ⟨gv,j*2+1,none⟩=some (.int .i64 X.n):=λE=>E.cell (by rw[OV.o.cellAt (j*2+1) (by omega)];exact bS i6.o (k:=1) (by decide))
     clear I
     refine aL 12 (by kernel_rfl) (by kernel_rfl) ?_
     simp only[List.take_succ_cons,List.take_zero]
     repeat (go_big_quiet_step (fail))
     refine wpQuiet_nil ?_
     intro w' hE
     obtain⟨E,rfl⟩:=hE
     obtain⟨wy,ky⟩:=E
     dsimp only
     have LY:=hI (L3.o.below C.o ky)
     have KY:=btZ K3 ky
     clear ky a0 a1 a2 a3
     obtain⟨u,hu⟩:∃u,W.vals[i]? = some u:=⟨_,lG e3⟩
     have TH:Hid (wy.there g (i*2) 2):=by
      have:=LY.o.vals
      rw[HV.o] at this
      exact dZ this (by omega)
     have d1:WfV X:=(LY.o.wfc c (lM HC.o)).2.2 X (lM i6.o)
     have S9:Hid (bO Γ (wy.setCells g (i*2) [.int .i64 X.kind,.int .i64 X.n]) (fS W i X) cv vv vs fs/\aQ wy (wy.setCells g (i*2) [.int .i64 X.kind,.int .i64 X.n])):=LY.o.setVal C.o hu d1 HV.o
     clear hu d1
     simp only[List.drop_succ_cons,List.drop_zero]
     go_upto_region 42 with (first | (refine wpList_store_mid rfl 48 _ _ rfl g (i*2) #[.int .i64 X.kind,.int .i64 X.n] rfl rfl TH.o aF (oC (by simp[Value.oneCell'])) ?_) | fail)
     generalize d2:World.setCells _ _ _ _=w9
     rw[d2] at S9
     clear d2
     (try dsimp only [Act.put])
     go_wp2_with fail
     go_ret
     have z:=congrArg Prod.fst r.o
     have A:=congrArg Prod.snd r.o
     dsimp only at z A
     subst z;subst A
     exact⟨rfl,⟨_,_,_,_,S9.o.1⟩,(aQ.of KY.o).trans S9.o.2⟩
    ·rw[if_pos e7] at D
     subst D
     have r:Hid ((W,(1:Int))=(J,q)):=by show _=_;rw[<-HT.o,if_neg (λh=>h b5),if_pos e7]
     clear e7 b5
     go_wp2_with fail
     go_ret
     have z:=congrArg Prod.fst r.o
     have A:=congrArg Prod.snd r.o
     dsimp only at z A
     subst z;subst A
     exact⟨rfl,⟨_,_,_,_,L3.o⟩,aQ.of K3.o⟩
   ·rw[if_pos b5] at D
    subst D
    have r:Hid ((W,(2:Int))=(J,q)):=by show _=_;rw[<-HT.o,if_pos b5]
    clear b5
    go_wp2_with fail
    go_ret
    have z:=congrArg Prod.fst r.o
    have A:=congrArg Prod.snd r.o
    dsimp only at z A
    subst z;subst A
    exact⟨rfl,⟨_,_,_,_,L3.o⟩,aQ.of K3.o⟩
 ·have r:Hid ((lP W i x)=(J,q)):=by show _=_;rw[<-HD.o];unfold doI;rw[if_neg (by omega)];rw[if_neg (by omega)];rw[if_neg (by omega)];rw[if_neg (by omega)];rw[if_neg (by omega)];rw[if_neg (by omega)];rw[if_neg (by omega)];rw[if_neg (by omega)];rw[if_pos (by omega)]
  rw[h] at I;have V:=F.a (by rw[h];decide);obtain⟨ka,h2⟩:∃k:Nat,x.a=(k:Int):=⟨x.a.toNat,by omega⟩;have i2:ka<W.vals.length:=by rw[M.vals];omega
  have p0:(ka:Int)<W.vals.length:=by omega
  obtain⟨ya,h3⟩:∃y,W.vals[ka]? = some y:=⟨_,lG i2⟩;have i9:=hI h2;have f9:=hI h3;clear V h2 h3;have V:=F.b (by rw[h];decide);obtain⟨kb,k8⟩:∃k:Nat,x.b=(k:Int):=⟨x.b.toNat,by omega⟩;have l1:kb<W.vals.length:=by rw[M.vals];omega
  have q6:(kb:Int)<W.vals.length:=by omega
  obtain⟨S,k9⟩:∃y,W.vals[kb]? = some y:=⟨_,lG l1⟩;have k6:=hI k8;have j0:=hI k9;clear V k8 k9;have V:=F.c (by rw[h];decide);obtain⟨kc,t3⟩:∃k:Nat,x.c=(k:Int):=⟨x.c.toNat,by omega⟩;have u6:kc<W.vals.length:=by rw[M.vals];omega
  have B4:(kc:Int)<W.vals.length:=by omega
  obtain⟨yc,t4⟩:∃y,W.vals[kc]? = some y:=⟨_,lG u6⟩;have t0:=hI t3;have q3:=hI t4;clear V t3 t4;have CC:=hI (nY C.o G.o f9.o M.cells);rw[<-i9.o] at CC;have HS:Hid ((match eF W x.a with | none=>(W,(2:Int)) | some (n,c)=>if c.kind≠2 then(W,2) else if ¬(S.kind=2/\0<=S.n/\S.n<c.vals.length) then(W,1) else(setCW W n { c with vals:=c.vals.set S.n.toNat yc },0))=(J,q)):=by
   have:=r.o
   unfold lP at this
   rw[k6.o,fR j0.o,t0.o,fR q3.o] at this
   simp only[if_neg (show ¬x.op=13 by omega)] at this
   exact this
  clear r;have x1:=l.o 1 _ rfl;have q8:=hI h;clear h;go_wp2_with fail;refine CC.o.mono ?_;rintro e w2 ⟨rfl,k2⟩;have n9:=hI k2;have K2:=btZ K1 k2;have L2:=hI (G.o.below C.o k2);clear k2 I x1;have IC:=hI (acS C.o L2.o j0.o e4 x.a);have x2:w2.cell? ⟨w.heap.size,2,none⟩=some (.int .i64 kb):=by rw[<-k6.o];exact aC n9.o (l.o 2 _ rfl)
  go_wp2_with fail;refine IC.o.mono ?_;rintro e O ⟨m,how,rfl,k3,D⟩;have q2:=btZ n9 k3;have K3:=btZ K2 k3;have L3:=hI (L2.o.below C.o k3);clear k3 x2;have I:O.cell? ⟨w.heap.size,0,none⟩=some (.int .i64 14):=by rw[<-q8.o];exact aC q2.o (l.o 0 _ rfl)
  cases H:eF W x.a with
  | none=>
   unfold eG at D
   rw[H] at D
   dsimp only at D
   subst D
   rw[eV H]
   have r:Hid ((W,(2:Int))=(J,q)):=by show _=_;rw[<-HS.o,H]
   clear H
   go_wp2_with fail
   go_ret
   have z:=congrArg Prod.fst r.o
   have A:=congrArg Prod.snd r.o
   dsimp only at z A
   subst z;subst A
   exact⟨rfl,⟨_,_,_,_,L3.o⟩,aQ.of K3.o⟩
  | some p=>
   obtain⟨n,c⟩:=p
   obtain⟨gc,cc,v,f,vA,vc,r4,hc,hv,hf,r6,o7,c0,c1,c2,c3,z3⟩:=L3.o.atCell H
   rw[o7]
   subst r6
   have HC:=hI hc
   have o2:=hI hv
   have HF:=hI hf
   have C2:=hI c2
   unfold eG at D
   rw[H] at D
   dsimp only at D
   have HT:Hid ((if c.kind≠2 then(W,(2:Int)) else if ¬(S.kind=2/\0<=S.n/\S.n<c.vals.length) then(W,1) else(setCW W n { c with vals:=c.vals.set S.n.toNat yc },0))=(J,q)):=by show _=_;rw[<-HS.o,H]
   clear H c0 c1 c2 c3 hc hv hf o7 r4 HS
   by_cases b5:c.kind=2
   ·rw[if_neg (λh=>h b5)] at D
    by_cases e7:S.kind=2/\0<=S.n/\S.n<c.vals.length
    ·rw[if_neg (λh=>h e7)] at D
     obtain⟨rfl,rfl⟩:=D
     obtain⟨j,hj⟩:∃j:Nat,S.n=(j:Int):=⟨S.n.toNat,by omega⟩
     have o3:j<c.vals.length:=by omega
     have s5:(j:Int)<c.vals.length:=by omega
     obtain⟨X,h7⟩:∃X,c.vals[j]? = some X:=⟨_,lG o3⟩
     have HJ:=hI hj
     have i6:=hI h7
     have r:Hid ((setCW W n { c with vals:=c.vals.set j yc },(0:Int))=(J,q)):=by
      show _=_
      rw[<-HT.o,if_neg (λh=>h b5),if_neg (λh=>h e7),hj,Int.toNat_natCast]
     rw[hj]
     have OV:=hI (L3.o.cvals n _ c o2.o HC.o)
     obtain⟨gv,v9,m2,-,z4⟩:=OV.o.form (Nat.zero_lt_of_lt o3)
     injection m2 with m2 _ _
     subst m2
     have OW:=hI L3.o.vals
     rw[HV.o] at OW
     clear b5 e7 hj h7
     go_upto_region 31 with fail
     have a0:∀E:Up O,E.to.cell? ⟨Γ.wb,17,none⟩=some (.slice (some ⟨g,0,none⟩) W.vals.length l5):=λE=>E.cell (by have h:=L3.o.own C.o 4;rw[HV.o] at h;exact h)
     have a1:∀E:Up O,E.to.cell? ⟨gc,n*4+2,none⟩=some (.slice (some ⟨gv,0,none⟩) c.vals.length vc):=λE=>E.cell (C2.o)
     have a2:∀E:Up O,E.to.cell? ⟨w.heap.size,3,none⟩=some (.int .i64 kc):=λE=>E.cell (by rw[<-t0.o];exact aC q2.o (l.o 3 _ rfl))
     have a3:∀E:Up O,E.to.cell? ⟨g,kc*2,none⟩=some (.int .i64 yc.kind):=λE=>E.cell (by rw[OW.o.cellAt (kc*2) (by omega)];exact bS q3.o (k:=0) (by decide))
     have a4:∀E:Up O,E.to.cell? ⟨g,kc*2+1,none⟩=some (.int .i64 yc.n):=λE=>E.cell (by rw[OW.o.cellAt (kc*2+1) (by omega)];exact bS q3.o (k:=1) (by decide))
     clear I
     refine aL 13 (by kernel_rfl) (by kernel_rfl) ?_
     simp only[List.take_succ_cons,List.take_zero]
     repeat (go_big_quiet_step (fail))
     refine wpQuiet_nil ?_
     intro w' hE
     obtain⟨E,rfl⟩:=hE
     obtain⟨wy,ky⟩:=E
     dsimp only
     have LY:=hI (L3.o.below C.o ky)
     have KY:=btZ K3 ky
     clear ky a0 a1 a2 a3 a4
     have TH:Hid (wy.there gv (j*2) 2):=dZ (LY.o.cvals n _ c o2.o HC.o) (by omega)
     have S9:Hid ((∃e5 e6,bO Γ (wy.setCells gv (j*2) [.int .i64 yc.kind,.int .i64 yc.n]) (setCW W n { c with vals:=c.vals.set j yc }) cv vv e5 e6)/\aQ wy (wy.setCells gv (j*2) [.int .i64 yc.kind,.int .i64 yc.n])):=LY.o.setCV C.o HC.o o2.o HF.o i6.o (LY.o.wfv yc (lM q3.o)) rfl
     simp only[List.drop_succ_cons,List.drop_zero]
     go_upto_region 42 with (first | (refine wpList_store_mid rfl 48 _ _ rfl gv (j*2) #[.int .i64 yc.kind,.int .i64 yc.n] rfl rfl TH.o aF (oC (by simp[Value.oneCell'])) ?_) | fail)
     generalize d2:World.setCells _ _ _ _=w9
     rw[d2] at S9
     clear d2
     (try dsimp only [Act.put])
     go_wp2_with fail
     go_ret
     have z:=congrArg Prod.fst r.o
     have A:=congrArg Prod.snd r.o
     dsimp only at z A
     subst z;subst A
     obtain⟨⟨e5,e6,L9⟩,K9⟩:=S9.o
     exact⟨rfl,⟨_,_,_,_,L9⟩,(aQ.of KY.o).trans K9⟩
    ·rw[if_pos e7] at D
     subst D
     have r:Hid ((W,(1:Int))=(J,q)):=by show _=_;rw[<-HT.o,if_neg (λh=>h b5),if_pos e7]
     clear e7 b5
     go_wp2_with fail
     go_ret
     have z:=congrArg Prod.fst r.o
     have A:=congrArg Prod.snd r.o
     dsimp only at z A
     subst z;subst A
     exact⟨rfl,⟨_,_,_,_,L3.o⟩,aQ.of K3.o⟩
   ·rw[if_pos b5] at D
    subst D
    have r:Hid ((W,(2:Int))=(J,q)):=by show _=_;rw[<-HT.o,if_pos b5]
    clear b5
    go_wp2_with fail
    go_ret
    have z:=congrArg Prod.fst r.o
    have A:=congrArg Prod.snd r.o
    dsimp only at z A
    subst z;subst A
    exact⟨rfl,⟨_,_,_,_,L3.o⟩,aQ.of K3.o⟩
 ·have r:Hid ((gW W i x)=(J,q)):=by show _=_;rw[<-HD.o];unfold doI;rw[if_neg (by omega)];rw[if_neg (by omega)];rw[if_neg (by omega)];rw[if_neg (by omega)];rw[if_neg (by omega)];rw[if_neg (by omega)];rw[if_pos (by omega)]
  rw[h] at I;have x1:=l.o 1 _ rfl;have x2:=l.o 2 _ rfl;have x3:=l.o 3 _ rfl;have x4:=l.o 4 _ rfl;have x5:=l.o 5 _ rfl;have x6:=l.o 6 _ rfl;have x7:=l.o 7 _ rfl;have CC:=hI (xB C.o G.o e3 e4 M.cells x ⟨(F.a (by rw[h];decide)).1,by have:=(F.a (by rw[h];decide)).2;rw[M.vals];omega⟩ (λc=>absurd c (by omega)) (λ_=>by have:=F.n.1;rw[h] at this;exact this) (by omega) m7.o.2.2.2.2.1);rw[h] at CC;clear h;go_wp2_with fail;refine CC.o.mono ?_;rintro e w5 ⟨rfl,⟨h8,h9,e5,e6,L5⟩,N⟩;have LL:=hI L5;have KK:=hI N;clear L5 N I x1 x2 x3 x4 x5 x6 x7;go_wp2_with fail;go_ret;have z:=congrArg Prod.fst r.o;have A:=congrArg Prod.snd r.o;dsimp only at z A;subst z;subst A;exact⟨rfl,⟨_,_,_,_,LL.o⟩,(aQ.of K1.o).trans KK.o⟩
 ·have r:Hid ((dX W i x.n)=(J,q)):=by show _=_;rw[<-HD.o];unfold doI;rw[if_neg (by omega)];rw[if_neg (by omega)];rw[if_neg (by omega)];rw[if_neg (by omega)];rw[if_neg (by omega)];rw[if_neg (by omega)];rw[if_neg (by omega)];rw[if_neg (by omega)];rw[if_neg (by omega)];rw[if_pos h]
  rw[h] at I;have x1:=l.o 1 _ rfl;have x2:=l.o 2 _ rfl;have x3:=l.o 3 _ rfl;have x4:=l.o 4 _ rfl;have x5:=l.o 5 _ rfl;have x6:=l.o 6 _ rfl;have x7:=l.o 7 _ rfl;have CC:=hI (zK C.o G.o e3 e4 M.cells x.n m7.o.2.2.2.2.1);clear h;go_wp2_with fail;refine CC.o.mono ?_;rintro e w5 ⟨rfl,⟨h8,h9,e5,e6,L5⟩,N⟩;have LL:=hI L5;have KK:=hI N;clear L5 N I x1 x2 x3 x4 x5 x6 x7;go_wp2_with fail;go_ret;have z:=congrArg Prod.fst r.o;have A:=congrArg Prod.snd r.o;dsimp only at z A;subst z;subst A;exact⟨rfl,⟨_,_,_,_,LL.o⟩,(aQ.of K1.o).trans KK.o⟩
 ·have r:Hid ((iT W x)=(J,q)):=by show _=_;rw[<-HD.o];unfold doI;rw[if_neg (by omega)];rw[if_neg (by omega)];rw[if_neg (by omega)];rw[if_neg (by omega)];rw[if_neg (by omega)];rw[if_neg (by omega)];rw[if_neg (by omega)];rw[if_neg (by omega)];rw[if_neg (by omega)];rw[if_neg (by omega)];rw[if_pos h]
  rw[h] at I;have x1:=l.o 1 _ rfl;have x2:=l.o 2 _ rfl;have x3:=l.o 3 _ rfl;have x4:=l.o 4 _ rfl;have x5:=l.o 5 _ rfl;have x6:=l.o 6 _ rfl;have x7:=l.o 7 _ rfl;have CC:=hI (push_c C.o G.o e4 M.cells x ⟨(F.a (by rw[h];decide)).1,by have:=(F.a (by rw[h];decide)).2;rw[M.vals];omega⟩ ⟨(F.b (by rw[h];decide)).1,by have:=(F.b (by rw[h];decide)).2;rw[M.vals];omega⟩);rw[h] at CC;clear h;go_wp2_with fail;refine CC.o.mono ?_;rintro e w5 ⟨rfl,⟨h8,h9,e5,e6,L5⟩,N⟩;have LL:=hI L5;have KK:=hI N;clear L5 N I x1 x2 x3 x4 x5 x6 x7;go_wp2_with fail;go_ret;have z:=congrArg Prod.fst r.o;have A:=congrArg Prod.snd r.o;dsimp only at z A;subst z;subst A;exact⟨rfl,⟨_,_,_,_,LL.o⟩,(aQ.of K1.o).trans KK.o⟩
 ·have r:Hid ((dX W i 0)=(J,q)):=by show _=_;rw[<-HD.o];unfold doI;rw[if_neg (by omega)];rw[if_neg (by omega)];rw[if_neg (by omega)];rw[if_neg (by omega)];rw[if_neg (by omega)];rw[if_neg (by omega)];rw[if_neg (by omega)];rw[if_neg (by omega)];rw[if_neg (by omega)];rw[if_neg (by omega)];rw[if_neg (by omega)];rw[if_neg (by omega)]
  rw[h] at I;have x1:=l.o 1 _ rfl;have x2:=l.o 2 _ rfl;have x3:=l.o 3 _ rfl;have x4:=l.o 4 _ rfl;have x5:=l.o 5 _ rfl;have x6:=l.o 6 _ rfl;have x7:=l.o 7 _ rfl;have CC:=hI (zK C.o G.o e3 e4 M.cells 0 (by unfold wfi;omega));clear h;go_wp2_with fail;refine CC.o.mono ?_;rintro e w5 ⟨rfl,⟨h8,h9,e5,e6,L5⟩,N⟩;have LL:=hI L5;have KK:=hI N;clear L5 N I x1 x2 x3 x4 x5 x6 x7;go_wp2_with fail;go_ret;have z:=congrArg Prod.fst r.o;have A:=congrArg Prod.snd r.o;dsimp only at z A;subst z;subst A;exact⟨rfl,⟨_,_,_,_,LL.o⟩,(aQ.of K1.o).trans KK.o⟩
 ·have r:Hid ((W,isW (match Γ.shapes[x.n.toNat]? with | none=>false | some s=>s.up == x.b) 1)=(J,q)):=by
   show _=_
   rw[<-HD.o];unfold doI
   rw[if_neg (by omega)];rw[if_neg (by omega)];rw[if_neg (by omega)];rw[if_neg (by omega)];rw[if_neg (by omega)];rw[if_neg (by omega)];rw[if_neg (by omega)];rw[if_neg (by omega)];rw[if_neg (by omega)];rw[if_neg (by omega)];rw[if_neg (by omega)];rw[if_pos h];rfl
  rw[h] at I;have k5:=F.n.1;rw[h] at k5;have k5:0<=x.n:=Int.le_trans (by decide) k5;obtain⟨m,hm⟩:∃m:Nat,x.n=(m:Int):=⟨x.n.toNat,by omega⟩;have HM:=hI hm;obtain⟨SA,sc,t6,-,-,s0⟩:=C.o.sh;have z1:=hI t6;have HS:Hid ((W,isW (match Γ.shapes[m]? with | none=>false | some s=>s.up == x.b) 1)=(J,q)):=by
   have:=r.o
   rw[hm,Int.toNat_natCast] at this
   exact this
  have D:∀(b:Bool) (W1:World),Calls prog 142 #[.bool b,.int .i64 1] W1 λe w'=>e=.returned (.int .i64 (isW b 1))/\W1=w':=λb W1=>uV b 1 W1;have t1:=hI D;clear D r hm k5 h t6;go_upto_region 41 with fail;have a0:∀E:Up w1,E.to.cell? ⟨w.heap.size,4,none⟩=some (.int .i64 m):=λE=>E.cell (by rw[<-HM.o];exact l.o 4 _ rfl);have a1:∀E:Up w1,E.to.cell? ⟨Γ.wb,14,none⟩=some (.slice SA Γ.shapes.length sc):=λE=>E.cell (by rw[<-z1.o];exact G.o.own C.o 1);clear I;by_cases z7:m < Γ.shapes.length
  ·obtain⟨sb,w0,z6,t7,t9⟩:=s0 (by omega);subst z6;obtain⟨s,hs⟩:∃s,Γ.shapes[m]? = some s:=⟨_,lG z7⟩;obtain⟨C8,-,⟨rfl,-,-⟩,s1⟩:=t9 m s hs;have y7:(m:Int) < Γ.shapes.length:=(by omega);have r:Hid ((W,isW (s.up == x.b) 1)=(J,q)):=(by show _=_;rw[<-HS.o,hs]);clear hs t9 s0;have a2:∀E:Up w1,E.to.cell? ⟨sb,w0+m*2,none⟩=some (.int .i64 s.up):=λE=>E.cell ((G.o.held ⟨sb,_,none⟩ t7).trans (s1 0 _ rfl));have a3:=ecZ (l.o 2 _ rfl);clear s1 t7;refine aD (by kernel_rfl) (by kernel_rfl) ?_;repeat (go_big_quiet_step ((go_at_call 142;with_reducible exact ad6 (t1.o _ _))))
   refine wpQuiet_nil ?_;rintro _ ⟨E,rfl⟩;have KE:=btZ K1 E.below;have LE:=hI (G.o.below C.o E.below);clear a0 a1 a2 a3;go_wp2_with fail;go_ret;have z:=congrArg Prod.fst r.o;have A:=congrArg Prod.snd r.o;dsimp only at z A;subst z;subst A;exact⟨rfl,⟨_,_,_,_,LE.o⟩,aQ.of KE.o⟩
  ·have z2 : Γ.shapes.length<=m:=(by omega);have r:Hid ((W,isW false 1)=(J,q)):=(by show _=_;rw[<-HS.o,List.getElem?_eq_none z2]);clear s0;refine aD (by kernel_rfl) (by kernel_rfl) ?_;repeat (go_big_quiet_step ((go_at_call 142;with_reducible exact ad6 (t1.o _ _))))
   refine wpQuiet_nil ?_;rintro _ ⟨E,rfl⟩;have KE:=btZ K1 E.below;have LE:=hI (G.o.below C.o E.below);clear a0 a1;go_wp2_with fail;go_ret;have z:=congrArg Prod.fst r.o;have A:=congrArg Prod.snd r.o;dsimp only at z A;subst z;subst A;exact⟨rfl,⟨_,_,_,_,LE.o⟩,aQ.of KE.o⟩
end
end
end Go.Proofs.YtjaphgpkkfdaaaaGreatDoor
