/- A part of the walk. -/
import Derived.Test.YtijihlcdhppfgaaGreatDoorZBD
set_option maxHeartbeats 16000000
set_option maxRecDepth 100000
set_option linter.all false
namespace Go.Proofs.YtijihlcdhppfgaaGreatDoor
open Tryz
section
open Go.RowKit
section
variable {t:aH} {r:Nat}
theorem Lim.make {w:aG} (h:Lim t r w) (m:dX):Lim t r (gF w m).1:=by
 unfold gF;split;·exact h
 ·split;·exact h
  ·exact h.setCW _ _
theorem Lim.makes:∀(l:List dX) (w:aG),Lim t r w->Lim t r (eO w l).1
 | [],_,h=>h
 | m::l,w,h=>by
  unfold eO
  split
  ·exact h.make m
  ·exact Lim.makes l _ (h.make m)
theorem Lim.sets:∀(l:List oL) (w:aG),Lim t r w->Lim t r (gY w l)
 | [],_,h=>h
 | s::l,w,h=>Lim.sets l _ (h.setReg s.reg.toNat (bL w s.val))
theorem Lim.end_ {w:aG} (h:Lim t r w) (x:bX):Lim t r (g8 w x).1:=by
 unfold g8;split;·exact Lim.makes _ _ h
 ·have d:=Lim.sets x.sets _ (Lim.makes x.makes _ h);exact⟨d.vals,d.cells,d.regs⟩
theorem Lim.turn (E:iH) (self:Val) (shapes:List aO) (fin:bX):∀(k i:Nat) (w:aG),Lim t r w->Lim t r (dA E t self shapes fin k i w).1
 | 0,_,w,h=>h.end_ fin
 | k+1,i,w,h=>by
  have d:=h.do_ E self shapes i
  unfold dA
  split
  ·exact d
  ·split
   ·split
    ·exact d
    ·exact d.end_ _
   ·exact Lim.turn E self shapes fin k (i+1) _ d
end
theorem bI.cells6 {w:World} {B:Nat} {cs:List Value} {z:aH} (h:bI w B cs z):∃M N O P f g j l p q r s,cs=[.int .i64 z.fn,.int .i64 z.at_,.int .i64 z.loop,.slice M z.ins.length N,.slice O z.exits.length P,.int .i64 z.turn.at_,.int .i64 z.turn.steps,.slice f z.turn.sets.length g,.slice j z.turn.makes.length l,.int .i64 z.back.at_,.int .i64 z.back.steps,.slice p z.back.sets.length q,.slice r z.back.makes.length s]/\ fM w B [.int .i64 z.turn.at_,.int .i64 z.turn.steps,.slice f z.turn.sets.length g,.slice j z.turn.makes.length l] z.turn/\fM w B [.int .i64 z.back.at_,.int .i64 z.back.steps,.slice p z.back.sets.length q,.slice r z.back.makes.length s] z.back:=by obtain⟨i,e,R,cb,rfl,⟨x,y,rfl,-⟩,⟨A,D,rfl,-⟩,h1,d,-⟩:=h;have u:=h1;have v:=d;obtain⟨s1,S,rfl,⟨E,F,rfl,-⟩,⟨G,H,rfl,-⟩,-⟩:=h1;obtain⟨V,X,rfl,⟨I,J,rfl,-⟩,⟨K,L,rfl,-⟩,-⟩:=d;exact⟨x,y,A,D,E,F,G,H,I,J,K,L,rfl,u,v⟩
theorem zF:(prog.info? 32).map (·.size)=some 4:=by kernel_rfl
section
variable {Γ : mW} {w w':World} {W:aG} {cv vv:Value} {vs fs:List Value}
def RPost (Γ : mW) (r:aG×Int×Int×Int) (w:World) (e:Ending) (w':World):Prop:=e=.returned (.tuple #[.int .i64 r.2.1,.int .i64 r.2.2.1,.int .i64 r.2.2.2])/\(∃cv vv vs fs,cC Γ w' r.1 cv vv vs fs)/\aQ w w'
theorem run_c (K:jZ Γ) (L:cC Γ w W cv vv vs fs) {R:Int} (F:xK R Γ.t) (h4:mB Γ.t) (M:Lim Γ.t R.toNat W) {turns:Nat} (ht:turns<=1000) (q:W.steps=0) : Calls prog 69 #[.pointer (some ⟨Γ.wb,0,none⟩),.int .i64 (turns:Int)] w (RPost Γ (cH cU Γ.t Γ.self Γ.shapes turns 0 W) w):=by
 have u:=hI K;have HF:=hI F;have Y:=hI h4;have l4:=F.len;obtain⟨j,g1⟩:∃j:Nat,Γ.t.loop=(j:Int):=⟨Γ.t.loop.toNat,by have:=F.loop;omega⟩;have i6:j<=Γ.t.ins.length:=by have:=F.loop;omega
 have x:=hI g1;have d7:=hI i6;obtain⟨B1,m1,B2,m2,B3,m3,B4,m4,B5,m5,B6,m6,e7,g2,g3⟩:=K.tr.cells6;have l:=hI e7;have i9:=hI g2;have f9:=hI g3;have j0:=hI L;have j1:=hI q;obtain⟨r,hr⟩:∃r,cH cU Γ.t Γ.self Γ.shapes turns 0 W=r:=⟨_,rfl⟩;rw[hr];have HR:=hI hr;clear hr g1 e7 g2 g3 K F h4 L q;go_enter func69,ntmps69;go_wp2_with fail;go_loopw [5] (λkk wr=>∃(d:Nat) (V:aG),kk=.int .i64 d/\d<=turns/\Hid (cH cU Γ.t Γ.self Γ.shapes (turns - d) d V=r)/\Hid (∃cv vv vs fs,cC Γ wr V cv vv vs fs)/\Hid (Lim Γ.t R.toNat V)/\Hid (0<=V.steps/\V.steps<=200*(d:Int))/\Hid (aQ w wr)) (λkk _=>turns - (RowKit.intOf kk).toNat);case atStart=>exact⟨0,W,rfl,by omega,HR.o,⟨_,_,_,_,j0.o⟩,M,by show _/\_;rw[j1.o];omega,aQ.refl _⟩
 case round=>
  obtain⟨d,V,rfl,hd,HT,HL,Z,a0,KW⟩:=hrel;obtain⟨n7,n8,n9,o7,L2⟩:=HL.o;have G:=hI L2;clear L2 HL;by_cases o8:d<turns
  ·have n5:(d:Int)<turns:=(by omega);go_upto_region 2 with fail;have c2:∀E:Up wr,E.to.cell? ⟨Γ.wb,2,none⟩=some (.int .i64 j):=λE=>E.cell (by rw[G.o.tr u.o (by decide),l.o,x.o];rfl);have c3:∀E:Up wr,E.to.cell? ⟨Γ.wb,3,none⟩=some (.slice B1 Γ.t.ins.length m1):=λE=>E.cell (by rw[G.o.tr u.o (by decide),l.o];rfl);have c9:∀E:Up wr,E.to.cell? ⟨Γ.wb,9,none⟩=some (.int .i64 Γ.t.back.at_):=λE=>E.cell (by rw[G.o.tr u.o (by decide),l.o];rfl);have j2:∀E:Up wr,E.to.cell? ⟨Γ.wb,10,none⟩=some (.int .i64 Γ.t.back.steps):=λE=>E.cell (by rw[G.o.tr u.o (by decide),l.o];rfl);have j3:∀E:Up wr,E.to.cell? ⟨Γ.wb,11,none⟩=some (.slice B5 Γ.t.back.sets.length m5):=λE=>E.cell (by rw[G.o.tr u.o (by decide),l.o];rfl);have j4:∀E:Up wr,E.to.cell? ⟨Γ.wb,12,none⟩=some (.slice B6 Γ.t.back.makes.length m6):=λE=>E.cell (by rw[G.o.tr u.o (by decide),l.o];rfl);refine cE (λw'=>∃E:Up wr,w'=E.to) 16 [16,17,18,19] [16,17,18] (by kernel_rfl) (by decide) (by kernel_rfl) (λ_ _ d _ _ h=>by cases d <;> exact h) ⟨⟨_,(Below.refl _ wr).drew⟩,rfl⟩ ?_;simp only[List.take_succ_cons,List.take_zero];generalize c0:(λa'=>gT _ _ _ _ _ _ a' _)=qq;have a3:=hI c0;clear c0;repeat (go_big_quiet_step (fail))
   refine wpQuiet_nil ?_;rw[<-a3.o];clear a3 qq c2 c3 c9 j2 j3 j4;refine aR rfl (λK J=>?_);go_simp;obtain⟨wa,d4⟩:∃wa,wa=(wr.alloc (.cells #[.int .i64 0,.int .i64 0,.slice none 0 0,.slice none 0 0] 32)).drew:=⟨_,rfl⟩;have KA:Hid (Below wr.heap.size wr wa):=(by rw[d4];exact((Below.refl _ wr).alloc (Nat.le_refl _) _).drew);have d0:Hid (wa.heap[wr.heap.size]? = some (.cells #[.int .i64 0,.int .i64 0,.slice none 0 0,.slice none 0 0] 32 (0,0))):=(by rw[d4];exact aS wr _);have d8:wr.drew.heap.size=wr.heap.size:=rfl;(try rw[d8]);obtain⟨eb,d5⟩:∃o,o=wr.heap.size:=⟨_,rfl⟩;have g0:=hI d5;rw[<-d4];rw[<-d5] at d0;rw[<-d5];clear d4 d5 d8;refine J _ _ (λ_=>⟨⟨wa,KA.o⟩,rfl⟩) ?_;clear J K;refine aR rfl (λK J=>?_);go_simp;refine J _ _ (λ_=>⟨⟨wa,KA.o⟩,rfl⟩) ?_;clear J K;refine aR rfl (λK J=>?_);go_simp;refine J _ _ (λ_=>⟨⟨wa,KA.o⟩,rfl⟩) ?_;clear J K;refine bG [19] _ _ (by kernel_rfl) (by kernel_rfl) ?_;simp only[List.filterMap_cons,List.filterMap_nil,List.getElem?_toArray,List.getElem?_cons_zero,List.getElem?_cons_succ];refine wpList_store_row rfl 32 _ _ rfl eb #[.int .i64 Γ.t.back.at_,.int .i64 Γ.t.back.steps,.slice B5 Γ.t.back.sets.length m5,.slice B6 Γ.t.back.makes.length m6] rfl rfl 32 _ d0.o zF rfl (oCz (by simp[Value.oneCell'])) ?_;generalize f1:World.setRow _ _ _=w4;have K4:Hid (Below wr.heap.size wr w4):=(by rw[<-f1];exact Below.set_row KA.o (by rw[g0.o];exact Nat.le_refl _) _);have d1:=shZ f1 d0;clear f1;(try dsimp only [Act.put]);have l2:w4.cell? ⟨Γ.wb,2,none⟩=some (.int .i64 j):=aC K4.o (by rw[G.o.tr u.o (by decide),l.o,x.o];rfl);by_cases f0:d=0
   ·subst f0;by_cases l3:0<j
    ·have h6:(0:Int)<(j:Int):=(by omega);go_upto_region 4 with fail;have c2:=ecZ l2;have c5:∀E:Up w4,E.to.cell? ⟨Γ.wb,5,none⟩=some (.int .i64 Γ.t.turn.at_):=λE=>E.cell (aC K4.o (by rw[G.o.tr u.o (by decide),l.o];rfl));have c6:∀E:Up w4,E.to.cell? ⟨Γ.wb,6,none⟩=some (.int .i64 Γ.t.turn.steps):=λE=>E.cell (aC K4.o (by rw[G.o.tr u.o (by decide),l.o];rfl));have c7:∀E:Up w4,E.to.cell? ⟨Γ.wb,7,none⟩=some (.slice B3 Γ.t.turn.sets.length m3):=λE=>E.cell (aC K4.o (by rw[G.o.tr u.o (by decide),l.o];rfl));have c8:∀E:Up w4,E.to.cell? ⟨Γ.wb,8,none⟩=some (.slice B4 Γ.t.turn.makes.length m4):=λE=>E.cell (aC K4.o (by rw[G.o.tr u.o (by decide),l.o];rfl));refine cE (λw'=>∃E:Up w4,w'=E.to) 10 [10,11,12] [10,11] (by kernel_rfl) (by decide) (by kernel_rfl) (λ_ _ d _ _ h=>by cases d <;> exact h) ⟨⟨_,(Below.refl _ w4).drew⟩,rfl⟩ ?_;simp only[List.take_succ_cons,List.take_zero];generalize c0:(λa'=>gT _ _ _ _ _ _ a' _)=qq;have a3:=hI c0;clear c0;repeat (go_big_quiet_step (fail))
     refine wpQuiet_nil ?_;rw[<-a3.o];clear a3 qq c2 c5 c6 c7 c8 l2;obtain⟨wd,d6⟩:∃wd,wd=w4.drew:=⟨_,rfl⟩;have KD:Hid (Below w4.heap.size w4 wd):=(by rw[d6];exact(Below.refl _ w4).drew);have e0:Hid (wd.heap[eb]? = some (.cells #[.int .i64 Γ.t.back.at_,.int .i64 Γ.t.back.steps,.slice B5 Γ.t.back.sets.length m5,.slice B6 Γ.t.back.makes.length m6] 32 (0,0))):=(by rw[d6];exact d1.o);rw[<-d6];clear d6;refine aR rfl (λK J=>?_);go_simp;refine J _ _ (λ_=>⟨⟨wd,KD.o⟩,rfl⟩) ?_;clear J K;refine aR rfl (λK J=>?_);go_simp;refine J _ _ (λ_=>⟨⟨wd,KD.o⟩,rfl⟩) ?_;clear J K;refine bG [12] _ _ (by kernel_rfl) (by kernel_rfl) ?_;simp only[List.filterMap_cons,List.filterMap_nil,List.getElem?_toArray,List.getElem?_cons_zero,List.getElem?_cons_succ];refine wpList_store_row rfl 32 _ _ rfl eb #[.int .i64 Γ.t.turn.at_,.int .i64 Γ.t.turn.steps,.slice B3 Γ.t.turn.sets.length m3,.slice B4 Γ.t.turn.makes.length m4] rfl rfl 32 _ e0.o zF rfl (oCz (by simp[Value.oneCell'])) ?_;generalize X:World.setRow _ _ _=w5;have K5:Hid (Below wr.heap.size wr w5):=(by rw[<-X];exact Below.set_row (K4.o.trans (KD.o.mono K4.o.size)) (by rw[g0.o];exact Nat.le_refl _) _);have f:=shZ X e0;clear X;(try dsimp only [Act.put]);go_upto_region 5 with fail;have o0:=crZ f 0 rfl;have o1:=crZ f 1 rfl;have o2:=crZ f 2 rfl;have o3:=crZ f 3 rfl;have L5:=hI (G.o.below u.o K5.o);have y:=acS u.o L5.o HF.o Y.o (from_:=0) (to_:=j) (Nat.zero_le _) d7.o i9.o (by have h:=HF.o.turn (by rw[x.o];omega);rw[x.o,Int.toNat_natCast] at h;exact h) Z.o (by have h1:=a0.o;omega);obtain⟨D,g,how,S⟩:∃D g how,dA cU Γ.t Γ.self Γ.shapes Γ.t.turn (j - 0) 0 V=(D,g,how):=⟨_,_,_,rfl⟩;have H:=kB cU Y.o Γ.self Γ.shapes Γ.t.turn (j - 0) 0 V (by omega);have I:=Lim.turn cU Γ.self Γ.shapes Γ.t.turn (j - 0) 0 V Z.o;rw[S] at y H I;unfold afD at y;dsimp only at y H I;have z:Hid ((if how=2\/0<=g then(D,g,((0:Nat):Int),how) else cH cU Γ.t Γ.self Γ.shapes (turns - (0+1)) (0+1) D)=r):=(by have h:=HT.o;rw[show turns - 0=(turns - (0+1))+1 by omega,cH] at h;have ho:eW cU Γ.t Γ.self Γ.shapes 0 V=(D,g,how):=(by rw[<-S];unfold eW;rw[if_pos ⟨rfl,by rw[x.o];omega⟩,x.o,Int.toNat_natCast,Nat.sub_zero]);rw[ho] at h;exact h);have a5:=hI y;have a6:=hI H;have a7:=hI I;have a9:=hI ((by have h:=HF.o.turn (by rw[x.o];omega);rw[x.o,Int.toNat_natCast] at h;exact h));clear y H I S HT;go_wp2_with fail;refine a5.o.mono ?_;rintro e w6 ⟨rfl,⟨g4,g5,g6,g7,L6⟩,K6⟩;have P:=hI L6;have A:Hid (aQ w w6):=KW.o.trans ((aQ.of K5.o).trans K6);clear L6 K6 o0 o1 o2 o3;by_cases s:how=2;·have p:Hid ((D,g,((0:Nat):Int),how)=r):=(by have h:=z.o;rw[if_pos (.inl s)] at h;exact h);rw[s] at p ⊢;clear s;go_wp2_with fail;refine bodyPost_ret (v:=.tuple #[.int .i64 g,.int .i64 0,.int .i64 2]) (by simp[results,results69,go_sem]) rfl ?_;have N:=p.o;subst N;exact⟨rfl,⟨_,_,_,_,P.o⟩,A.o⟩
     ·obtain⟨fx,b3,b4,-,q,-⟩:=a6.o s;subst b4;clear s;rcases b3 with ⟨c1,O⟩ | ⟨h0,-,-⟩
      ·subst c1;have p:Hid (cH cU Γ.t Γ.self Γ.shapes (turns - (0+1)) (0+1) D=r):=(by have h:=z.o;rw[if_neg (by decide)] at h;exact h);have b0:Hid (0<=D.steps/\D.steps<=200*((0+1:Nat):Int)):=(by show _/\_;have h1:=a0.o;have h3:=a9.o.steps;rw[q,O];omega);clear q O;go_wp2_with fail;go_roundw;case rel=>exact⟨0+1,D,by go_num,by omega,p.o,⟨_,_,_,_,P.o⟩,a7.o,b0.o,A.o⟩
       case measure=>simp[RowKit.intOf];omega
      ·have p:Hid ((D,g,((0:Nat):Int),(0:Int))=r):=(by have h:=z.o;rw[if_pos (.inr h0)] at h;exact h);clear q;go_wp2_with fail;refine bodyPost_ret (v:=.tuple #[.int .i64 g,.int .i64 0,.int .i64 0]) (by simp[results,results69,go_sem]) rfl ?_;have N:=p.o;subst N;exact⟨rfl,⟨_,_,_,_,P.o⟩,A.o⟩
    ·have h6:¬(0:Int)<(j:Int):=(by omega);go_upto_region 5 with fail;obtain⟨w5,X⟩:∃w5,w5=w4:=⟨_,rfl⟩;subst X;have K5:=K4;have f:=d1;clear l2;have o0:=crZ f 0 rfl;have o1:=crZ f 1 rfl;have o2:=crZ f 2 rfl;have o3:=crZ f 3 rfl;have L5:=hI (G.o.below u.o K5.o);have y:=acS u.o L5.o HF.o Y.o (from_:=j) (to_:=Γ.t.ins.length) d7.o (Nat.le_refl _) f9.o HF.o.back Z.o (by have h1:=a0.o;omega);obtain⟨D,g,how,S⟩:∃D g how,dA cU Γ.t Γ.self Γ.shapes Γ.t.back (Γ.t.ins.length - j) j V=(D,g,how):=⟨_,_,_,rfl⟩;have H:=kB cU Y.o Γ.self Γ.shapes Γ.t.back (Γ.t.ins.length - j) j V (by omega);have I:=Lim.turn cU Γ.self Γ.shapes Γ.t.back (Γ.t.ins.length - j) j V Z.o;rw[S] at y H I;unfold afD at y;dsimp only at y H I;have z:Hid ((if how=2\/0<=g then(D,g,((0:Nat):Int),how) else cH cU Γ.t Γ.self Γ.shapes (turns - (0+1)) (0+1) D)=r):=(by have h:=HT.o;rw[show turns - 0=(turns - (0+1))+1 by omega,cH] at h;have ho:eW cU Γ.t Γ.self Γ.shapes 0 V=(D,g,how):=(by rw[<-S];unfold eW;rw[if_neg (λh=>l3 (by have s:=h.2;rw[x.o] at s;omega)),x.o,Int.toNat_natCast]);rw[ho] at h;exact h);have a5:=hI y;have a6:=hI H;have a7:=hI I;have a9:=hI (HF.o.back);clear y H I S HT;go_wp2_with fail;refine a5.o.mono ?_;rintro e w6 ⟨rfl,⟨g4,g5,g6,g7,L6⟩,K6⟩;have P:=hI L6;have A:Hid (aQ w w6):=KW.o.trans ((aQ.of K5.o).trans K6);clear L6 K6 o0 o1 o2 o3;by_cases s:how=2;·have p:Hid ((D,g,((0:Nat):Int),how)=r):=(by have h:=z.o;rw[if_pos (.inl s)] at h;exact h);rw[s] at p ⊢;clear s;go_wp2_with fail;refine bodyPost_ret (v:=.tuple #[.int .i64 g,.int .i64 0,.int .i64 2]) (by simp[results,results69,go_sem]) rfl ?_;have N:=p.o;subst N;exact⟨rfl,⟨_,_,_,_,P.o⟩,A.o⟩
     ·obtain⟨fx,b3,b4,-,q,-⟩:=a6.o s;subst b4;clear s;rcases b3 with ⟨c1,O⟩ | ⟨h0,-,-⟩
      ·subst c1;have p:Hid (cH cU Γ.t Γ.self Γ.shapes (turns - (0+1)) (0+1) D=r):=(by have h:=z.o;rw[if_neg (by decide)] at h;exact h);have b0:Hid (0<=D.steps/\D.steps<=200*((0+1:Nat):Int)):=(by show _/\_;have h1:=a0.o;have h3:=a9.o.steps;rw[q,O];omega);clear q O;go_wp2_with fail;go_roundw;case rel=>exact⟨0+1,D,by go_num,by omega,p.o,⟨_,_,_,_,P.o⟩,a7.o,b0.o,A.o⟩
       case measure=>simp[RowKit.intOf];omega
      ·have p:Hid ((D,g,((0:Nat):Int),(0:Int))=r):=(by have h:=z.o;rw[if_pos (.inr h0)] at h;exact h);clear q;go_wp2_with fail;refine bodyPost_ret (v:=.tuple #[.int .i64 g,.int .i64 0,.int .i64 0]) (by simp[results,results69,go_sem]) rfl ?_;have N:=p.o;subst N;exact⟨rfl,⟨_,_,_,_,P.o⟩,A.o⟩
   ·have n2:((d:Int) == 0)=false:=(by simpa using f0);go_upto_region 5 with fail;obtain⟨w5,X⟩:∃w5,w5=w4:=⟨_,rfl⟩;subst X;have K5:=K4;have f:=d1;clear l2;have o0:=crZ f 0 rfl;have o1:=crZ f 1 rfl;have o2:=crZ f 2 rfl;have o3:=crZ f 3 rfl;have L5:=hI (G.o.below u.o K5.o);have y:=acS u.o L5.o HF.o Y.o (from_:=j) (to_:=Γ.t.ins.length) d7.o (Nat.le_refl _) f9.o HF.o.back Z.o (by have h1:=a0.o;omega);obtain⟨D,g,how,S⟩:∃D g how,dA cU Γ.t Γ.self Γ.shapes Γ.t.back (Γ.t.ins.length - j) j V=(D,g,how):=⟨_,_,_,rfl⟩;have H:=kB cU Y.o Γ.self Γ.shapes Γ.t.back (Γ.t.ins.length - j) j V (by omega);have I:=Lim.turn cU Γ.self Γ.shapes Γ.t.back (Γ.t.ins.length - j) j V Z.o;rw[S] at y H I;unfold afD at y;dsimp only at y H I;have z:Hid ((if how=2\/0<=g then(D,g,((d:Nat):Int),how) else cH cU Γ.t Γ.self Γ.shapes (turns - (d+1)) (d+1) D)=r):=(by have h:=HT.o;rw[show turns - d=(turns - (d+1))+1 by omega,cH] at h;have ho:eW cU Γ.t Γ.self Γ.shapes d V=(D,g,how):=(by rw[<-S];unfold eW;rw[if_neg (λh=>f0 h.1),x.o,Int.toNat_natCast]);rw[ho] at h;exact h);have a5:=hI y;have a6:=hI H;have a7:=hI I;have a9:=hI (HF.o.back);clear y H I S HT;go_wp2_with fail;refine a5.o.mono ?_;rintro e w6 ⟨rfl,⟨g4,g5,g6,g7,L6⟩,K6⟩;have P:=hI L6;have A:Hid (aQ w w6):=KW.o.trans ((aQ.of K5.o).trans K6);clear L6 K6 o0 o1 o2 o3;by_cases s:how=2;·have p:Hid ((D,g,((d:Nat):Int),how)=r):=(by have h:=z.o;rw[if_pos (.inl s)] at h;exact h);rw[s] at p ⊢;clear s;go_wp2_with fail;refine bodyPost_ret (v:=.tuple #[.int .i64 g,.int .i64 d,.int .i64 2]) (by simp[results,results69,go_sem]) rfl ?_;have N:=p.o;subst N;exact⟨rfl,⟨_,_,_,_,P.o⟩,A.o⟩
    ·obtain⟨fx,b3,b4,-,q,-⟩:=a6.o s;subst b4;clear s;rcases b3 with ⟨c1,O⟩ | ⟨h0,-,-⟩
     ·subst c1;have p:Hid (cH cU Γ.t Γ.self Γ.shapes (turns - (d+1)) (d+1) D=r):=(by have h:=z.o;rw[if_neg (by decide)] at h;exact h);have b0:Hid (0<=D.steps/\D.steps<=200*((d+1:Nat):Int)):=(by show _/\_;have h1:=a0.o;have h3:=a9.o.steps;rw[q,O];omega);clear q O;go_wp2_with fail;go_roundw;case rel=>exact⟨d+1,D,by go_num,by omega,p.o,⟨_,_,_,_,P.o⟩,a7.o,b0.o,A.o⟩
      case measure=>simp[RowKit.intOf];omega
     ·have p:Hid ((D,g,((d:Nat):Int),(0:Int))=r):=(by have h:=z.o;rw[if_pos (.inr h0)] at h;exact h);clear q;go_wp2_with fail;refine bodyPost_ret (v:=.tuple #[.int .i64 g,.int .i64 d,.int .i64 0]) (by simp[results,results69,go_sem]) rfl ?_;have N:=p.o;subst N;exact⟨rfl,⟨_,_,_,_,P.o⟩,A.o⟩
  ·obtain rfl:d=turns:=by omega
   have n6:¬(d:Int)<d:=(by omega);have p:Hid ((V,(-1:Int),(d:Int),(0:Int))=r):=(by have h:=HT.o;rw[Nat.sub_self] at h;exact h);clear HT;go_wp2_with fail;refine bodyPost_ret (v:=.tuple #[.int .i64 (-1),.int .i64 d,.int .i64 0]) (by simp[results,results69,go_sem]) rfl ?_;have N:=p.o;subst N;exact⟨rfl,⟨_,_,_,_,G.o⟩,KW.o⟩
end
end
section
open Go.RowKit
theorem jQ (w:World):eB w w.heap.size [.slice none 0 0,.slice none 0 0,.slice none 0 0,.slice none 0 0,.slice none 0 0,.slice none 0 0,.int .i64 0,.int .i64 0] fA:= ⟨_,_,_,_,_,_,rfl,aB.nil _ _ _ _,aB.nil _ _ _ _,aB.nil _ _ _ _,aB.nil _ _ _ _,aB.nil _ _ _ _,aB.nil _ _ _ _,⟨by simp[fA],by simp[fA]⟩,⟨by simp[fA],by simp[fA]⟩⟩
theorem gC.kept {w w':World} {p hi B:Nat} {s:Value} {l:List bC} {rs u:List Value} (h:gC w p hi s l rs u) (hB:B<=p) (q:∀b,B<=b->b<w.heap.size->w'.heap[b]? = w.heap[b]?):gC w' p hi s l rs u:= ⟨⟨h.at_.lr,h.at_.lt,gN h.at_.row (λg d=>q g (Nat.le_trans hB (h.at_.row.lt g d).1) (h.at_.row.lt g d).2),λi r f j hf=>gN (h.at_.regs i r f j hf) (λg d=>q g (Nat.le_trans hB ((h.at_.regs i r f j hf).lt g d).1) ((h.at_.regs i r f j hf).lt g d).2),λi r f j hf=>gN (h.at_.tries i r f j hf) (λg d=>q g (Nat.le_trans hB ((h.at_.tries i r f j hf).lt g d).1) ((h.at_.tries i r f j hf).lt g d).2),h.at_.nodup,h.at_.wf⟩,h.fb,h.rb,h.tb⟩
theorem xO.kept {w w':World} {B:Nat} {cs:List Value} {S:aP} {F p:Nat->Nat} {G u:Value} {rows j:List (List Value)} {shv y z A:Value} (h:xO w B cs S F p G u rows j shv y z A) (l:∀b,B<=b->b<w.heap.size->w'.heap[b]? = w.heap[b]?) (H:w'.heap.size=w.heap.size) : xO w' B cs S F p G u rows j shv y z A:=by
 have q:∀i,B<=F i:=λi=>Nat.le_trans h.cb (eX h.cmono (Nat.zero_le i));have hl:∀i,B<=p i:=λi=>Nat.le_trans (q S.cells.length) (Nat.le_trans h.tco (eX h.tmono (Nat.zero_le i)));have r:∀ {α : Type} {size:Nat} {R:List Value->α->Prop} {v:Value} {xs:List α},bW w (λb=>p S.threads.length<=b/\b<w.heap.size) size R v xs->bW w' (λb=>p S.threads.length<=b/\b<w'.heap.size) size R v xs:=λ{α size R v xs} g=> g.far (λb hb=>⟨hb.1,by rw[H];exact hb.2⟩) (λb hb=>l b (Nat.le_trans (hl _) hb.1) hb.2);exact { h with
  crow:=gN h.crow (λg d=>l g (h.crow.lt g d).1 (h.crow.lt g d).2)
  cpart:=λi c hi=>by
   obtain⟨v,f,h1,m,rs,D,s,I,E,J,K⟩:=h.cpart i c hi
   exact⟨v,f,h1,m,rs,D,s,I,gN E (λg d=>l g (Nat.le_trans (q i) (E.lt g d).1) (E.lt g d).2),J,K.kept (Nat.le_trans (q i) s) l⟩
  trow:=gN h.trow (λg d=>l g (Nat.le_trans (q _) (h.trow.lt g d).1) (h.trow.lt g d).2)
  tpart:=λi x hi=>by
   obtain⟨f,h1,rs,D,s⟩:=h.tpart i x hi
   exact⟨f,h1,rs,D,s.kept (hl i) l⟩
  lend:=λi=>by rw[H];exact h.lend i
  shapes:=r h.shapes
  texts:=r h.texts
  ends:=r h.ends
  said:=r h.said }
theorem ajA:(prog.info? 51).map (λi=>(i.zero,i.size,i.bytes))=some (some (.agg #[.int .i64 0,.int .i64 0]),2,16):=by kernel_rfl
theorem aiT (n:Nat):madeCells #[.int .i64 0,.int .i64 0] (n*2)=⟨(List.replicate n (⟨0,0⟩:Val)).flatMap bE⟩:=by
 have d:∀n:Nat,(List.replicate n (⟨0,0⟩:Val)).flatMap bE=List.replicate (n*2) (Value.int .i64 0):=λn=>by
  induction n with
  | zero=>rfl
  | succ n ih=>
   rw[List.replicate_succ,List.flatMap_cons,ih,show(n+1)*2=n*2+1+1 by omega,List.replicate_succ,List.replicate_succ]
   rfl
 rw[d];apply Array.toList_inj.1;apply List.ext_getElem;·simp[madeCells]
 ·intro i h1 f;rcases Nat.mod_two_eq_zero_or_one i with h | h <;> simp[madeCells,h]
theorem mk_vals (n:Nat) (l:n<=600) (W:World):(Instr.makeSlice 23 (.int .i64 (n:Int)) (.int .i64 (n:Int))).run prog W=.ok (.slice (some ⟨W.heap.size,0,none⟩) n n) (W.alloc (.cells ⟨(List.replicate n (⟨0,0⟩:Val)).flatMap bE⟩ 51)):=by obtain⟨j,hi,d,f,g⟩:=info_parts ajA;have h:=run_make (P:=prog) W 23 51 j (.agg #[.int .i64 0,.int .i64 0]) underlying23 hi d .i64 .i64 n n (by omega) (Int.le_refl _) (by rw[g];omega) (by omega);rw[Int.toNat_natCast,f] at h;rw[h,show(Value.agg #[.int .i64 0,.int .i64 0]).cells=#[.int .i64 0,.int .i64 0] from rfl,aiT]
theorem sN {R:Val->Bool} {p:aZ} {S:aP} {W:List ByteArray} {q:Int} (h:eN R p S W q=0):(0<=S.steps/\S.steps<=1000000000)/\∀x∈S.threads,∀f∈x.frames,eC R p S f=true:=by
 unfold eN at h;split at h;·exact absurd h (by assumption)
 split at h;·exact absurd h (by assumption)
 split at h;·exact absurd h (by decide)
 split at h;case isFalse=>exact absurd h (by decide)
 rename_i d;unfold pC at d;split at d;·cases d
 rename_i j;split at d;·cases d
 split at d;·cases d
 rename_i g e;simp only[Bool.or_eq_true,Bool.not_eq_true',not_or,Bool.not_eq_false,aL,Bool.and_eq_true,decide_eq_true_eq] at j;exact⟨j.1.1.2,λx l f hf=>kZ _ _ _ e x l f hf⟩
theorem adL {R:Val->Bool} {p:aZ} {S:aP} {f:bC} (h:eC R p S f=true):(f.regs.length:Int)=(i8 p f.fn).regs:=by unfold eC at h;simp only[Bool.and_eq_true,decide_eq_true_eq] at h;exact h.1.1.1.1.2
theorem agK {w:World} {B:Nat} {cs:List Value} {p:aZ} (l:fL w B cs p) (q:bH p=0):∀g∈p.fns,kN g.code:=λg f=>by
 obtain⟨-,d⟩:=kM q
 obtain⟨A,n,C,m,D,k,-,hf,-⟩:=l
 obtain⟨cs,h⟩:=hf.mem f
 obtain⟨r,s,u,v,-,-,j,-⟩:=h
 exact abV (d g f).1 j
theorem vR {t:aH} (f:t.turn.steps<=200\/t.loop<=0) (hB:t.back.steps<=200):∀(k d:Nat),iK t d k<=200*(k:Int)
 | 0,_=>by simp[iK]
 | k+1,d=>by
  have:=vR f hB k (d+1)
  have g:(pJ t d).steps<=200:=by
   unfold pJ
   split
   ·rename_i c
    rcases f with h | h
    ·exact h
    ·omega
   ·exact hB
  simp only[iK];omega
theorem acB {aF:Val->Bool} {l:Int} {fns:List FnM} {t:aH} (h:cQ aF l fns t=0):(t.turn.steps<=200\/t.loop<=0)/\t.back.steps<=200/\∀e∈t.exits,e.steps<=200:=by
 obtain⟨-,-,fn,-,-,hl,-,-,f,hb,g⟩:=fD h;have d:∀(e:bX) (k:Int),bN fn t.ins e k=true->e.steps<=200:=λe k h=>by simp only[bN,Bool.and_eq_true,Bool.not_eq_true',Bool.or_eq_false_iff,decide_eq_false_iff_not] at h;omega
 refine⟨?_,d _ _ hb.2,λe j=>d _ _ (List.all_eq_true.1 g e j)⟩;rcases Int.lt_or_le 0 t.loop with c | c;·exact .inl (d _ _ (f c).2)
 ·exact .inr c
theorem af0 {aF:Val->Bool} {r:Int} {fns:List FnM} {t:aH} (h:cQ aF r fns t=0) (E:iH) (self:Val) (shapes:List aO) {turns:Nat} (z:turns<=1000) {W:aG} (A:W.steps=0) (s:(cH E t self shapes turns 0 W).2.2.2≠2) : (cH E t self shapes turns 0 W).2.2.2=0/\0<=(cH E t self shapes turns 0 W).1.steps/\(cH E t self shapes turns 0 W).1.steps<=1000000:=by
 obtain⟨fn,-,-,hf⟩:=ad0 h;obtain⟨g,j,l⟩:=acB h;obtain⟨p,-,m,-,q⟩:=yZ E (pM h) (xG h) self shapes turns 0 W s;have v:=uH hf m 0;have w:=vR g j m 0;refine⟨p,?_⟩;rcases q with ⟨-,u,d,-⟩ | ⟨x,u,-,-,f,d,-⟩;·rw[d];omega
 ·have h1:=l x (lM f);have y:=(hf.all x (lM f)).1;rw[d];omega
section
variable {Γ : mW} {w w':World} {W:aG} {cv vv:Value} {vs fs:List Value}
theorem ak1 (L:cC Γ w W cv vv vs fs) {g:Nat} {cs:Array Value} (l:w.heap[g]? = some (.cells cs 40 (0,0))) (f:∀k,k≠g->w'.heap[k]? = w.heap[k]?) (x:w'.heap.size=w.heap.size) (y:¬ Γ.Q g):cC Γ w' W cv vv vs fs:=by
 obtain⟨q,hf⟩:=L.frow;have d:∀ {B n size:Nat} {e:TypeId} {v:Value} {xs:List Value},w.ownsRow B e size v n xs->e≠40->w'.ownsRow B e size v n xs:=λ{B n size e v xs} h hne=> gN h (λk p=>f k (by obtain⟨z,r⟩:=bB h p;exact bS r l hne));have j:=f Γ.fb (bS hf l (by decide));exact { L with
  row:=(f Γ.wb (bS L.row l (by decide))).trans L.row
  frow:=⟨q,j.trans hf⟩
  fat:=(World.cell?_of_block j).trans L.fat
  frest:=λk f=>(World.cell?_of_block j).trans (L.frest k f)
  crow:=d L.crow (by decide)
  vals:=d L.vals (by decide)
  regs:=d L.regs (by decide)
  cvals:=λi v c s u=>d (L.cvals i v c s u) (by decide)
  fixed:=λb hb=>(f b (λe=>y (e ▸ hb))).trans (L.fixed b hb)
  size:=by rw[x];exact L.size }
end
end
end Go.Proofs.YtijihlcdhppfgaaGreatDoor
