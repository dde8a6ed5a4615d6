/- A part of the walk. -/
import Derived.Test.YtjaphgpkkfdaaaaGreatDoorZBD
set_option maxHeartbeats 16000000
set_option maxRecDepth 100000
set_option linter.all false
namespace Go.Proofs.YtjaphgpkkfdaaaaGreatDoor
open Tryz
section
open Go.RowKit
section
variable {t:aN} {r:Nat}
theorem Lim.make {w:aI} (h:Lim t r w) (m:fZ):Lim t r (fP w m).1:=by
 unfold fP;split;·exact h
 ·split;·exact h
  ·exact h.setCW _ _
theorem Lim.makes:∀(l:List fZ) (w:aI),Lim t r w->Lim t r (eK w l).1
 | [],_,h=>h
 | m::l,w,h=>by
  unfold eK
  split
  ·exact h.make m
  ·exact Lim.makes l _ (h.make m)
theorem Lim.sets:∀(l:List pS) (w:aI),Lim t r w->Lim t r (fN w l)
 | [],_,h=>h
 | s::l,w,h=>Lim.sets l _ (h.setReg s.reg.toNat (cX w s.val))
theorem Lim.end_ {w:aI} (h:Lim t r w) (x:cW):Lim t r (iG w x).1:=by
 unfold iG;split;·exact Lim.makes _ _ h
 ·have d:=Lim.sets x.sets _ (Lim.makes x.makes _ h);exact⟨d.vals,d.cells,d.regs⟩
theorem Lim.turn (E:hV) (self:Val) (shapes:List aT) (fin:cW):∀(k i:Nat) (w:aI),Lim t r w->Lim t r (dM E t self shapes fin k i w).1
 | 0,_,w,h=>h.end_ fin
 | k+1,i,w,h=>by
  have d:=h.do_ E self shapes i
  unfold dM
  split
  ·exact d
  ·split
   ·split
    ·exact d
    ·exact d.end_ _
   ·exact Lim.turn E self shapes fin k (i+1) _ d
end
theorem cT.cells6 {w:World} {B:Nat} {cs:List Value} {z:aN} (h:cT w B cs z):∃L M N O g j l m p q r s,cs=[.int .i64 z.fn,.int .i64 z.at_,.int .i64 z.loop,.slice L z.ins.length M,.slice N z.exits.length O,.int .i64 z.turn.at_,.int .i64 z.turn.steps,.slice g z.turn.sets.length j,.slice l z.turn.makes.length m,.int .i64 z.back.at_,.int .i64 z.back.steps,.slice p z.back.sets.length q,.slice r z.back.makes.length s]/\ gF w B [.int .i64 z.turn.at_,.int .i64 z.turn.steps,.slice g z.turn.sets.length j,.slice l z.turn.makes.length m] z.turn/\gF w B [.int .i64 z.back.at_,.int .i64 z.back.steps,.slice p z.back.sets.length q,.slice r z.back.makes.length s] z.back:=by obtain⟨i,e,P,cb,rfl,⟨x,y,rfl,-⟩,⟨A,C,rfl,-⟩,d,f,-⟩:=h;have u:=d;have v:=f;obtain⟨R,S,rfl,⟨D,E,rfl,-⟩,⟨F,G,rfl,-⟩,-⟩:=d;obtain⟨V,W,rfl,⟨H,I,rfl,-⟩,⟨J,K,rfl,-⟩,-⟩:=f;exact⟨x,y,A,C,D,E,F,G,H,I,J,K,rfl,u,v⟩
theorem tQ:(prog.info? 32).map (·.size)=some 4:=by kernel_rfl
section
variable {Γ : kI} {w w':World} {W:aI} {cv vv:Value} {vs fs:List Value}
def RPost (Γ : kI) (r:aI×Int×Int×Int) (w:World) (e:Ending) (w':World):Prop:=e=.returned (.tuple #[.int .i64 r.2.1,.int .i64 r.2.2.1,.int .i64 r.2.2.2])/\(∃cv vv vs fs,bO Γ w' r.1 cv vv vs fs)/\aQ w w'
theorem run_c (K:hP Γ) (L:bO Γ w W cv vv vs fs) {R:Int} (F:sI R Γ.t) (g6:jA Γ.t) (M:Lim Γ.t R.toNat W) {turns:Nat} (ht:turns<=1000) (m:W.steps=0) : Calls prog 30 #[.pointer (some ⟨Γ.wb,0,none⟩),.int .i64 (turns:Int)] w (RPost Γ (bQ cJ Γ.t Γ.self Γ.shapes turns 0 W) w):=by
 have q:=hI K;have Y:=hI F;have P:=hI g6;have l0:=F.len;obtain⟨i,f9⟩:∃i:Nat,Γ.t.loop=(i:Int):=⟨Γ.t.loop.toNat,by have:=F.loop;omega⟩;have i4:i<=Γ.t.ins.length:=by have:=F.loop;omega
 have s:=hI f9;have d4:=hI i4;obtain⟨B1,m1,B2,m2,B3,m3,B4,m4,B5,m5,B6,m6,e5,g0,g1⟩:=K.tr.cells6;have j:=hI e5;have i5:=hI g0;have f7:=hI g1;have i6:=hI L;have i9:=hI m;obtain⟨r,hr⟩:∃r,bQ cJ Γ.t Γ.self Γ.shapes turns 0 W=r:=⟨_,rfl⟩;rw[hr];have HR:=hI hr;clear hr f9 e5 g0 g1 K F g6 L m;go_enter func30,ntmps30;go_wp2_with fail;go_loopw [5] (λkk wr=>∃(d:Nat) (V:aI),kk=.int .i64 d/\d<=turns/\Hid (bQ cJ Γ.t Γ.self Γ.shapes (turns - d) d V=r)/\Hid (∃cv vv vs fs,bO Γ wr V cv vv vs fs)/\Hid (Lim Γ.t R.toNat V)/\Hid (0<=V.steps/\V.steps<=200*(d:Int))/\Hid (aQ w wr)) (λkk _=>turns - (RowKit.intOf kk).toNat);case atStart=>exact⟨0,W,rfl,by omega,HR.o,⟨_,_,_,_,i6.o⟩,M,by show _/\_;rw[i9.o];omega,aQ.refl _⟩
 case round=>
  obtain⟨d,V,rfl,hd,HT,HL,S,X,KW⟩:=hrel;obtain⟨n4,n5,n6,n7,L2⟩:=HL.o;have z:=hI L2;clear L2 HL;by_cases n8:d<turns
  ·have n2:(d:Int)<turns:=(by omega);go_upto_region 2 with fail;have c2:∀E:Up wr,E.to.cell? ⟨Γ.wb,2,none⟩=some (.int .i64 i):=λE=>E.cell (by rw[z.o.tr q.o (by decide),j.o,s.o];rfl);have c3:∀E:Up wr,E.to.cell? ⟨Γ.wb,3,none⟩=some (.slice B1 Γ.t.ins.length m1):=λE=>E.cell (by rw[z.o.tr q.o (by decide),j.o];rfl);have c9:∀E:Up wr,E.to.cell? ⟨Γ.wb,9,none⟩=some (.int .i64 Γ.t.back.at_):=λE=>E.cell (by rw[z.o.tr q.o (by decide),j.o];rfl);have j0:∀E:Up wr,E.to.cell? ⟨Γ.wb,10,none⟩=some (.int .i64 Γ.t.back.steps):=λE=>E.cell (by rw[z.o.tr q.o (by decide),j.o];rfl);have j1:∀E:Up wr,E.to.cell? ⟨Γ.wb,11,none⟩=some (.slice B5 Γ.t.back.sets.length m5):=λE=>E.cell (by rw[z.o.tr q.o (by decide),j.o];rfl);have j2:∀E:Up wr,E.to.cell? ⟨Γ.wb,12,none⟩=some (.slice B6 Γ.t.back.makes.length m6):=λE=>E.cell (by rw[z.o.tr q.o (by decide),j.o];rfl);refine cV (λw'=>∃E:Up wr,w'=E.to) 16 [16,17,18,19] [16,17,18] (by kernel_rfl) (by decide) (by kernel_rfl) (λ_ _ d _ _ h=>by cases d <;> exact h) ⟨⟨_,(Below.refl _ wr).drew⟩,rfl⟩ ?_;simp only[List.take_succ_cons,List.take_zero];generalize b4:(λa'=>gA _ _ _ _ _ _ a' _)=qq;have a0:=hI b4;clear b4;repeat (go_big_quiet_step (fail))
   refine wpQuiet_nil ?_;rw[<-a0.o];clear a0 qq c2 c3 c9 j0 j1 j2;refine bA rfl (λK G=>?_);go_simp;obtain⟨wa,d1⟩:∃wa,wa=(wr.alloc (.cells #[.int .i64 0,.int .i64 0,.slice none 0 0,.slice none 0 0] 32)).drew:=⟨_,rfl⟩;have KA:Hid (Below wr.heap.size wr wa):=(by rw[d1];exact((Below.refl _ wr).alloc (Nat.le_refl _) _).drew);have b6:Hid (wa.heap[wr.heap.size]? = some (.cells #[.int .i64 0,.int .i64 0,.slice none 0 0,.slice none 0 0] 32 (0,0))):=(by rw[d1];exact aJ wr _);have d5:wr.drew.heap.size=wr.heap.size:=rfl;(try rw[d5]);obtain⟨eb,d2⟩:∃o,o=wr.heap.size:=⟨_,rfl⟩;have f8:=hI d2;rw[<-d1];rw[<-d2] at b6;rw[<-d2];clear d1 d2 d5;refine G _ _ (λ_=>⟨⟨wa,KA.o⟩,rfl⟩) ?_;clear G K;refine bA rfl (λK G=>?_);go_simp;refine G _ _ (λ_=>⟨⟨wa,KA.o⟩,rfl⟩) ?_;clear G K;refine bA rfl (λK G=>?_);go_simp;refine G _ _ (λ_=>⟨⟨wa,KA.o⟩,rfl⟩) ?_;clear G K;refine bP [19] _ _ (by kernel_rfl) (by kernel_rfl) ?_;simp only[List.filterMap_cons,List.filterMap_nil,List.getElem?_toArray,List.getElem?_cons_zero,List.getElem?_cons_succ];refine wpList_store_row rfl 32 _ _ rfl eb #[.int .i64 Γ.t.back.at_,.int .i64 Γ.t.back.steps,.slice B5 Γ.t.back.sets.length m5,.slice B6 Γ.t.back.makes.length m6] rfl rfl 32 _ b6.o tQ rfl (oC (by simp[Value.oneCell'])) ?_;generalize e9:World.setRow _ _ _=w4;have Z:Hid (Below wr.heap.size wr w4):=(by rw[<-e9];exact Below.set_row KA.o (by rw[f8.o];exact Nat.le_refl _) _);have c0:=shZ e9 b6;clear e9;(try dsimp only [Act.put]);have l2:w4.cell? ⟨Γ.wb,2,none⟩=some (.int .i64 i):=aC Z.o (by rw[z.o.tr q.o (by decide),j.o,s.o];rfl);by_cases e7:d=0
   ·subst e7;by_cases k9:0<i
    ·have h4:(0:Int)<(i:Int):=(by omega);go_upto_region 4 with fail;have c2:=ecZ l2;have c5:∀E:Up w4,E.to.cell? ⟨Γ.wb,5,none⟩=some (.int .i64 Γ.t.turn.at_):=λE=>E.cell (aC Z.o (by rw[z.o.tr q.o (by decide),j.o];rfl));have c6:∀E:Up w4,E.to.cell? ⟨Γ.wb,6,none⟩=some (.int .i64 Γ.t.turn.steps):=λE=>E.cell (aC Z.o (by rw[z.o.tr q.o (by decide),j.o];rfl));have c7:∀E:Up w4,E.to.cell? ⟨Γ.wb,7,none⟩=some (.slice B3 Γ.t.turn.sets.length m3):=λE=>E.cell (aC Z.o (by rw[z.o.tr q.o (by decide),j.o];rfl));have c8:∀E:Up w4,E.to.cell? ⟨Γ.wb,8,none⟩=some (.slice B4 Γ.t.turn.makes.length m4):=λE=>E.cell (aC Z.o (by rw[z.o.tr q.o (by decide),j.o];rfl));refine cV (λw'=>∃E:Up w4,w'=E.to) 10 [10,11,12] [10,11] (by kernel_rfl) (by decide) (by kernel_rfl) (λ_ _ d _ _ h=>by cases d <;> exact h) ⟨⟨_,(Below.refl _ w4).drew⟩,rfl⟩ ?_;simp only[List.take_succ_cons,List.take_zero];generalize b4:(λa'=>gA _ _ _ _ _ _ a' _)=qq;have a0:=hI b4;clear b4;repeat (go_big_quiet_step (fail))
     refine wpQuiet_nil ?_;rw[<-a0.o];clear a0 qq c2 c5 c6 c7 c8 l2;obtain⟨wd,d3⟩:∃wd,wd=w4.drew:=⟨_,rfl⟩;have KD:Hid (Below w4.heap.size w4 wd):=(by rw[d3];exact(Below.refl _ w4).drew);have d6:Hid (wd.heap[eb]? = some (.cells #[.int .i64 Γ.t.back.at_,.int .i64 Γ.t.back.steps,.slice B5 Γ.t.back.sets.length m5,.slice B6 Γ.t.back.makes.length m6] 32 (0,0))):=(by rw[d3];exact c0.o);rw[<-d3];clear d3;refine bA rfl (λK G=>?_);go_simp;refine G _ _ (λ_=>⟨⟨wd,KD.o⟩,rfl⟩) ?_;clear G K;refine bA rfl (λK G=>?_);go_simp;refine G _ _ (λ_=>⟨⟨wd,KD.o⟩,rfl⟩) ?_;clear G K;refine bP [12] _ _ (by kernel_rfl) (by kernel_rfl) ?_;simp only[List.filterMap_cons,List.filterMap_nil,List.getElem?_toArray,List.getElem?_cons_zero,List.getElem?_cons_succ];refine wpList_store_row rfl 32 _ _ rfl eb #[.int .i64 Γ.t.turn.at_,.int .i64 Γ.t.turn.steps,.slice B3 Γ.t.turn.sets.length m3,.slice B4 Γ.t.turn.makes.length m4] rfl rfl 32 _ d6.o tQ rfl (oC (by simp[Value.oneCell'])) ?_;generalize O:World.setRow _ _ _=w5;have K5:Hid (Below wr.heap.size wr w5):=(by rw[<-O];exact Below.set_row (Z.o.trans (KD.o.mono Z.o.size)) (by rw[f8.o];exact Nat.le_refl _) _);have f:=shZ O d6;clear O;(try dsimp only [Act.put]);go_upto_region 5 with fail;have o0:=crZ f 0 rfl;have o1:=crZ f 1 rfl;have o2:=crZ f 2 rfl;have o3:=crZ f 3 rfl;have L5:=hI (z.o.below q.o K5.o);have u:=wW q.o L5.o Y.o P.o (from_:=0) (to_:=i) (Nat.zero_le _) d4.o i5.o (by have h:=Y.o.turn (by rw[s.o];omega);rw[s.o,Int.toNat_natCast] at h;exact h) S.o (by have h1:=X.o;omega);obtain⟨D,g,how,N⟩:∃D g how,dM cJ Γ.t Γ.self Γ.shapes Γ.t.turn (i - 0) 0 V=(D,g,how):=⟨_,_,_,rfl⟩;have A:=iB cJ P.o Γ.self Γ.shapes Γ.t.turn (i - 0) 0 V (by omega);have C:=Lim.turn cJ Γ.self Γ.shapes Γ.t.turn (i - 0) 0 V S.o;rw[N] at u A C;unfold zU at u;dsimp only at u A C;have x:Hid ((if how=2\/0<=g then(D,g,((0:Nat):Int),how) else bQ cJ Γ.t Γ.self Γ.shapes (turns - (0+1)) (0+1) D)=r):=(by have h:=HT.o;rw[show turns - 0=(turns - (0+1))+1 by omega,bQ] at h;have ho:dN cJ Γ.t Γ.self Γ.shapes 0 V=(D,g,how):=(by rw[<-N];unfold dN;rw[if_pos ⟨rfl,by rw[s.o];omega⟩,s.o,Int.toNat_natCast,Nat.sub_zero]);rw[ho] at h;exact h);have a2:=hI u;have a3:=hI A;have a4:=hI C;have a5:=hI ((by have h:=Y.o.turn (by rw[s.o];omega);rw[s.o,Int.toNat_natCast] at h;exact h));clear u A C N HT;go_wp2_with fail;refine a2.o.mono ?_;rintro e w6 ⟨rfl,⟨g2,g3,g4,g5,L6⟩,K6⟩;have J:=hI L6;have y:Hid (aQ w w6):=KW.o.trans ((aQ.of K5.o).trans K6);clear L6 K6 o0 o1 o2 o3;by_cases p:how=2;·have l:Hid ((D,g,((0:Nat):Int),how)=r):=(by have h:=x.o;rw[if_pos (.inl p)] at h;exact h);rw[p] at l ⊢;clear p;go_wp2_with fail;refine bodyPost_ret (v:=.tuple #[.int .i64 g,.int .i64 0,.int .i64 2]) (by simp[results,results30,go_sem]) rfl ?_;have H:=l.o;subst H;exact⟨rfl,⟨_,_,_,_,J.o⟩,y.o⟩
     ·obtain⟨fx,a9,b0,-,m,-⟩:=a3.o p;subst b0;clear p;rcases a9 with ⟨b5,I⟩ | ⟨h0,-,-⟩
      ·subst b5;have l:Hid (bQ cJ Γ.t Γ.self Γ.shapes (turns - (0+1)) (0+1) D=r):=(by have h:=x.o;rw[if_neg (by decide)] at h;exact h);have a6:Hid (0<=D.steps/\D.steps<=200*((0+1:Nat):Int)):=(by show _/\_;have h1:=X.o;have h3:=a5.o.steps;rw[m,I];omega);clear m I;go_wp2_with fail;go_roundw;case rel=>exact⟨0+1,D,by go_num,by omega,l.o,⟨_,_,_,_,J.o⟩,a4.o,a6.o,y.o⟩
       case measure=>simp[RowKit.intOf];omega
      ·have l:Hid ((D,g,((0:Nat):Int),(0:Int))=r):=(by have h:=x.o;rw[if_pos (.inr h0)] at h;exact h);clear m;go_wp2_with fail;refine bodyPost_ret (v:=.tuple #[.int .i64 g,.int .i64 0,.int .i64 0]) (by simp[results,results30,go_sem]) rfl ?_;have H:=l.o;subst H;exact⟨rfl,⟨_,_,_,_,J.o⟩,y.o⟩
    ·have h4:¬(0:Int)<(i:Int):=(by omega);go_upto_region 5 with fail;obtain⟨w5,O⟩:∃w5,w5=w4:=⟨_,rfl⟩;subst O;have K5:=Z;have f:=c0;clear l2;have o0:=crZ f 0 rfl;have o1:=crZ f 1 rfl;have o2:=crZ f 2 rfl;have o3:=crZ f 3 rfl;have L5:=hI (z.o.below q.o K5.o);have u:=wW q.o L5.o Y.o P.o (from_:=i) (to_:=Γ.t.ins.length) d4.o (Nat.le_refl _) f7.o Y.o.back S.o (by have h1:=X.o;omega);obtain⟨D,g,how,N⟩:∃D g how,dM cJ Γ.t Γ.self Γ.shapes Γ.t.back (Γ.t.ins.length - i) i V=(D,g,how):=⟨_,_,_,rfl⟩;have A:=iB cJ P.o Γ.self Γ.shapes Γ.t.back (Γ.t.ins.length - i) i V (by omega);have C:=Lim.turn cJ Γ.self Γ.shapes Γ.t.back (Γ.t.ins.length - i) i V S.o;rw[N] at u A C;unfold zU at u;dsimp only at u A C;have x:Hid ((if how=2\/0<=g then(D,g,((0:Nat):Int),how) else bQ cJ Γ.t Γ.self Γ.shapes (turns - (0+1)) (0+1) D)=r):=(by have h:=HT.o;rw[show turns - 0=(turns - (0+1))+1 by omega,bQ] at h;have ho:dN cJ Γ.t Γ.self Γ.shapes 0 V=(D,g,how):=(by rw[<-N];unfold dN;rw[if_neg (λh=>k9 (by have p:=h.2;rw[s.o] at p;omega)),s.o,Int.toNat_natCast]);rw[ho] at h;exact h);have a2:=hI u;have a3:=hI A;have a4:=hI C;have a5:=hI (Y.o.back);clear u A C N HT;go_wp2_with fail;refine a2.o.mono ?_;rintro e w6 ⟨rfl,⟨g2,g3,g4,g5,L6⟩,K6⟩;have J:=hI L6;have y:Hid (aQ w w6):=KW.o.trans ((aQ.of K5.o).trans K6);clear L6 K6 o0 o1 o2 o3;by_cases p:how=2;·have l:Hid ((D,g,((0:Nat):Int),how)=r):=(by have h:=x.o;rw[if_pos (.inl p)] at h;exact h);rw[p] at l ⊢;clear p;go_wp2_with fail;refine bodyPost_ret (v:=.tuple #[.int .i64 g,.int .i64 0,.int .i64 2]) (by simp[results,results30,go_sem]) rfl ?_;have H:=l.o;subst H;exact⟨rfl,⟨_,_,_,_,J.o⟩,y.o⟩
     ·obtain⟨fx,a9,b0,-,m,-⟩:=a3.o p;subst b0;clear p;rcases a9 with ⟨b5,I⟩ | ⟨h0,-,-⟩
      ·subst b5;have l:Hid (bQ cJ Γ.t Γ.self Γ.shapes (turns - (0+1)) (0+1) D=r):=(by have h:=x.o;rw[if_neg (by decide)] at h;exact h);have a6:Hid (0<=D.steps/\D.steps<=200*((0+1:Nat):Int)):=(by show _/\_;have h1:=X.o;have h3:=a5.o.steps;rw[m,I];omega);clear m I;go_wp2_with fail;go_roundw;case rel=>exact⟨0+1,D,by go_num,by omega,l.o,⟨_,_,_,_,J.o⟩,a4.o,a6.o,y.o⟩
       case measure=>simp[RowKit.intOf];omega
      ·have l:Hid ((D,g,((0:Nat):Int),(0:Int))=r):=(by have h:=x.o;rw[if_pos (.inr h0)] at h;exact h);clear m;go_wp2_with fail;refine bodyPost_ret (v:=.tuple #[.int .i64 g,.int .i64 0,.int .i64 0]) (by simp[results,results30,go_sem]) rfl ?_;have H:=l.o;subst H;exact⟨rfl,⟨_,_,_,_,J.o⟩,y.o⟩
   ·have m8:((d:Int) == 0)=false:=(by simpa using e7);go_upto_region 5 with fail;obtain⟨w5,O⟩:∃w5,w5=w4:=⟨_,rfl⟩;subst O;have K5:=Z;have f:=c0;clear l2;have o0:=crZ f 0 rfl;have o1:=crZ f 1 rfl;have o2:=crZ f 2 rfl;have o3:=crZ f 3 rfl;have L5:=hI (z.o.below q.o K5.o);have u:=wW q.o L5.o Y.o P.o (from_:=i) (to_:=Γ.t.ins.length) d4.o (Nat.le_refl _) f7.o Y.o.back S.o (by have h1:=X.o;omega);obtain⟨D,g,how,N⟩:∃D g how,dM cJ Γ.t Γ.self Γ.shapes Γ.t.back (Γ.t.ins.length - i) i V=(D,g,how):=⟨_,_,_,rfl⟩;have A:=iB cJ P.o Γ.self Γ.shapes Γ.t.back (Γ.t.ins.length - i) i V (by omega);have C:=Lim.turn cJ Γ.self Γ.shapes Γ.t.back (Γ.t.ins.length - i) i V S.o;rw[N] at u A C;unfold zU at u;dsimp only at u A C;have x:Hid ((if how=2\/0<=g then(D,g,((d:Nat):Int),how) else bQ cJ Γ.t Γ.self Γ.shapes (turns - (d+1)) (d+1) D)=r):=(by have h:=HT.o;rw[show turns - d=(turns - (d+1))+1 by omega,bQ] at h;have ho:dN cJ Γ.t Γ.self Γ.shapes d V=(D,g,how):=(by rw[<-N];unfold dN;rw[if_neg (λh=>e7 h.1),s.o,Int.toNat_natCast]);rw[ho] at h;exact h);have a2:=hI u;have a3:=hI A;have a4:=hI C;have a5:=hI (Y.o.back);clear u A C N HT;go_wp2_with fail;refine a2.o.mono ?_;rintro e w6 ⟨rfl,⟨g2,g3,g4,g5,L6⟩,K6⟩;have J:=hI L6;have y:Hid (aQ w w6):=KW.o.trans ((aQ.of K5.o).trans K6);clear L6 K6 o0 o1 o2 o3;by_cases p:how=2;·have l:Hid ((D,g,((d:Nat):Int),how)=r):=(by have h:=x.o;rw[if_pos (.inl p)] at h;exact h);rw[p] at l ⊢;clear p;go_wp2_with fail;refine bodyPost_ret (v:=.tuple #[.int .i64 g,.int .i64 d,.int .i64 2]) (by simp[results,results30,go_sem]) rfl ?_;have H:=l.o;subst H;exact⟨rfl,⟨_,_,_,_,J.o⟩,y.o⟩
    ·obtain⟨fx,a9,b0,-,m,-⟩:=a3.o p;subst b0;clear p;rcases a9 with ⟨b5,I⟩ | ⟨h0,-,-⟩
     ·subst b5;have l:Hid (bQ cJ Γ.t Γ.self Γ.shapes (turns - (d+1)) (d+1) D=r):=(by have h:=x.o;rw[if_neg (by decide)] at h;exact h);have a6:Hid (0<=D.steps/\D.steps<=200*((d+1:Nat):Int)):=(by show _/\_;have h1:=X.o;have h3:=a5.o.steps;rw[m,I];omega);clear m I;go_wp2_with fail;go_roundw;case rel=>exact⟨d+1,D,by go_num,by omega,l.o,⟨_,_,_,_,J.o⟩,a4.o,a6.o,y.o⟩
      case measure=>simp[RowKit.intOf];omega
     ·have l:Hid ((D,g,((d:Nat):Int),(0:Int))=r):=(by have h:=x.o;rw[if_pos (.inr h0)] at h;exact h);clear m;go_wp2_with fail;refine bodyPost_ret (v:=.tuple #[.int .i64 g,.int .i64 d,.int .i64 0]) (by simp[results,results30,go_sem]) rfl ?_;have H:=l.o;subst H;exact⟨rfl,⟨_,_,_,_,J.o⟩,y.o⟩
  ·obtain rfl:d=turns:=by omega
   have n3:¬(d:Int)<d:=(by omega);have l:Hid ((V,(-1:Int),(d:Int),(0:Int))=r):=(by have h:=HT.o;rw[Nat.sub_self] at h;exact h);clear HT;go_wp2_with fail;refine bodyPost_ret (v:=.tuple #[.int .i64 (-1),.int .i64 d,.int .i64 0]) (by simp[results,results30,go_sem]) rfl ?_;have H:=l.o;subst H;exact⟨rfl,⟨_,_,_,_,z.o⟩,KW.o⟩
end
end
section
open Go.RowKit
theorem gU (w:World):gK w w.heap.size [.slice none 0 0,.slice none 0 0,.slice none 0 0,.slice none 0 0,.slice none 0 0,.slice none 0 0,.int .i64 0,.int .i64 0] dL:= ⟨_,_,_,_,_,_,rfl,aH.nil _ _ _ _,aH.nil _ _ _ _,aH.nil _ _ _ _,aH.nil _ _ _ _,aH.nil _ _ _ _,aH.nil _ _ _ _,⟨by simp[dL],by simp[dL]⟩,⟨by simp[dL],by simp[dL]⟩⟩
theorem xZ (w:World) (a b c d:Obj):((((w.alloc a).alloc b).alloc c).alloc d).heap[w.heap.size]? = some a/\((((w.alloc a).alloc b).alloc c).alloc d).heap[w.heap.size+1]? = some b/\((((w.alloc a).alloc b).alloc c).alloc d).heap[w.heap.size+1+1]? = some c/\((((w.alloc a).alloc b).alloc c).alloc d).heap[w.heap.size+1+1+1]? = some d/\((((w.alloc a).alloc b).alloc c).alloc d).heap.size=w.heap.size+4:=by
 refine⟨aY (aY (aY (aJ _ _) _) _) _,?_,?_,?_,?_⟩;·have h:=aJ (w.alloc a) b;rw[World.size_alloc] at h;exact aY (aY h _) _
 ·have h:=aJ ((w.alloc a).alloc b) c;rw[World.size_alloc,World.size_alloc] at h;exact aY h _
 ·have h:=aJ (((w.alloc a).alloc b).alloc c) d;rw[World.size_alloc,World.size_alloc,World.size_alloc] at h;exact h
 ·rw[World.size_alloc,World.size_alloc,World.size_alloc,World.size_alloc]
theorem eH.kept {w w':World} {j hi B:Nat} {p:Value} {l:List a8} {rs q:List Value} (h:eH w j hi p l rs q) (hB:B<=j) (m:∀b,B<=b->b<w.heap.size->w'.heap[b]? = w.heap[b]?):eH w' j hi p l rs q:= ⟨⟨h.at_.lr,h.at_.lt,fG h.at_.row (λg d=>m g (Nat.le_trans hB (h.at_.row.lt g d).1) (h.at_.row.lt g d).2),λi r f e hf=>fG (h.at_.regs i r f e hf) (λg d=>m g (Nat.le_trans hB ((h.at_.regs i r f e hf).lt g d).1) ((h.at_.regs i r f e hf).lt g d).2),λi r f e hf=>fG (h.at_.tries i r f e hf) (λg d=>m g (Nat.le_trans hB ((h.at_.tries i r f e hf).lt g d).1) ((h.at_.tries i r f e hf).lt g d).2),h.at_.nodup,h.at_.wf⟩,h.fb,h.rb,h.tb⟩
theorem sL.kept {w w':World} {B:Nat} {cs:List Value} {S:aR} {E l:Nat->Nat} {F s:Value} {rows e:List (List Value)} {shv u y z:Value} (h:sL w B cs S E l F s rows e shv u y z) (j:∀b,B<=b->b<w.heap.size->w'.heap[b]? = w.heap[b]?) (G:w'.heap.size=w.heap.size) : sL w' B cs S E l F s rows e shv u y z:=by
 have p:∀i,B<=E i:=λi=>Nat.le_trans h.cb (dK h.cmono (Nat.zero_le i));have hl:∀i,B<=l i:=λi=>Nat.le_trans (p S.cells.length) (Nat.le_trans h.tco (dK h.tmono (Nat.zero_le i)));have q:∀ {α : Type} {size:Nat} {R:List Value->α->Prop} {v:Value} {xs:List α},bK w (λb=>l S.threads.length<=b/\b<w.heap.size) size R v xs->bK w' (λb=>l S.threads.length<=b/\b<w'.heap.size) size R v xs:=λ{α size R v xs} g=> g.far (λb hb=>⟨hb.1,by rw[G];exact hb.2⟩) (λb hb=>j b (Nat.le_trans (hl _) hb.1) hb.2);exact { h with
  crow:=fG h.crow (λg d=>j g (h.crow.lt g d).1 (h.crow.lt g d).2)
  cpart:=λi c hi=>by
   obtain⟨v,f,A,m,rs,C,r,H,D,I,J⟩:=h.cpart i c hi
   exact⟨v,f,A,m,rs,C,r,H,fG D (λg d=>j g (Nat.le_trans (p i) (D.lt g d).1) (D.lt g d).2),I,J.kept (Nat.le_trans (p i) r) j⟩
  trow:=fG h.trow (λg d=>j g (Nat.le_trans (p _) (h.trow.lt g d).1) (h.trow.lt g d).2)
  tpart:=λi x hi=>by
   obtain⟨f,A,rs,C,r⟩:=h.tpart i x hi
   exact⟨f,A,rs,C,r.kept (hl i) j⟩
  lend:=λi=>by rw[G];exact h.lend i
  shapes:=q h.shapes
  texts:=q h.texts
  ends:=q h.ends
  said:=q h.said }
theorem acZ:(prog.info? 48).map (λi=>(i.zero,i.size,i.bytes))=some (some (.agg #[.int .i64 0,.int .i64 0]),2,16):=by kernel_rfl
theorem acO (n:Nat):madeCells #[.int .i64 0,.int .i64 0] (n*2)=⟨(List.replicate n (⟨0,0⟩:Val)).flatMap aZ⟩:=by
 have d:∀n:Nat,(List.replicate n (⟨0,0⟩:Val)).flatMap aZ=List.replicate (n*2) (Value.int .i64 0):=λn=>by
  induction n with
  | zero=>rfl
  | succ n ih=>
   rw[List.replicate_succ,List.flatMap_cons,ih,show(n+1)*2=n*2+1+1 by omega,List.replicate_succ,List.replicate_succ]
   rfl
 rw[d];apply Array.toList_inj.1;apply List.ext_getElem;·simp[madeCells]
 ·intro i e f;rcases Nat.mod_two_eq_zero_or_one i with h | h <;> simp[madeCells,h]
theorem mk_vals (n:Nat) (i:n<=600) (W:World):(Instr.makeSlice 23 (.int .i64 (n:Int)) (.int .i64 (n:Int))).run prog W=.ok (.slice (some ⟨W.heap.size,0,none⟩) n n) (W.alloc (.cells ⟨(List.replicate n (⟨0,0⟩:Val)).flatMap aZ⟩ 48)):=by obtain⟨g,hi,d,e,f⟩:=info_parts acZ;have h:=run_make (P:=prog) W 23 48 g (.agg #[.int .i64 0,.int .i64 0]) underlying23 hi d .i64 .i64 n n (by omega) (Int.le_refl _) (by rw[f];omega) (by omega);rw[Int.toNat_natCast,e] at h;rw[h,show(Value.agg #[.int .i64 0,.int .i64 0]).cells=#[.int .i64 0,.int .i64 0] from rfl,acO]
theorem oQ {R:Val->Bool} {p:aW} {S:aR} {W:List ByteArray} {l:Int} (h:dG R p S W l=0):(0<=S.steps/\S.steps<=1000000000)/\∀x∈S.threads,∀f∈x.frames,dB R p S f=true:=by
 unfold dG at h;split at h;·exact absurd h (by assumption)
 split at h;·exact absurd h (by assumption)
 split at h;·exact absurd h (by decide)
 split at h;case isFalse=>exact absurd h (by decide)
 rename_i d;unfold mF at d;split at d;·cases d
 rename_i i;split at d;·cases d
 split at d;·cases d
 rename_i g e;simp only[Bool.or_eq_true,Bool.not_eq_true',not_or,Bool.not_eq_false,aK,Bool.and_eq_true,decide_eq_true_eq] at i;exact⟨i.1.1.2,λx j f hf=>iW _ _ _ e x j f hf⟩
theorem xY {R:Val->Bool} {p:aW} {S:aR} {f:a8} (h:dB R p S f=true):(f.regs.length:Int)=(gD p f.fn).regs:=by unfold dB at h;simp only[Bool.and_eq_true,decide_eq_true_eq] at h;exact h.1.1.1.1.2
theorem aa3 {w:World} {B:Nat} {cs:List Value} {p:aW} (i:eL w B cs p) (j:bH p=0):∀g∈p.fns,iP g.code:=λg e=>by
 obtain⟨-,d⟩:=iO j
 obtain⟨A,n,C,m,D,k,-,hf,-⟩:=i
 obtain⟨cs,f⟩:=hf.mem e
 obtain⟨l,q,r,s,-,-,h,-⟩:=f
 exact wE (d g e).1 h
theorem qY {t:aN} (e:t.turn.steps<=200\/t.loop<=0) (hB:t.back.steps<=200):∀(k d:Nat),dA t d k<=200*(k:Int)
 | 0,_=>by simp[dA]
 | k+1,d=>by
  have:=qY e hB k (d+1)
  have f:(jV t d).steps<=200:=by
   unfold jV
   split
   ·rename_i c
    rcases e with h | h
    ·exact h
    ·omega
   ·exact hB
  simp only[dA];omega
theorem wK {aG:Val->Bool} {j:Int} {fns:List FnM} {t:aN} (h:fA aG j fns t=0):(t.turn.steps<=200\/t.loop<=0)/\t.back.steps<=200/\∀e∈t.exits,e.steps<=200:=by
 obtain⟨-,-,fn,-,-,hl,-,-,f,hb,g⟩:=gZ h;have d:∀(e:cW) (k:Int),bR fn t.ins e k=true->e.steps<=200:=λe k h=>by simp only[bR,Bool.and_eq_true,Bool.not_eq_true',Bool.or_eq_false_iff,decide_eq_false_iff_not] at h;omega
 refine⟨?_,d _ _ hb.2,λe i=>d _ _ (List.all_eq_true.1 g e i)⟩;rcases Int.lt_or_le 0 t.loop with c | c;·exact .inl (d _ _ (f c).2)
 ·exact .inr c
theorem aaN {aG:Val->Bool} {p:Int} {fns:List FnM} {t:aN} (h:fA aG p fns t=0) (E:hV) (self:Val) (shapes:List aT) {turns:Nat} (y:turns<=1000) {W:aI} (z:W.steps=0) (q:(bQ E t self shapes turns 0 W).2.2.2≠2) : (bQ E t self shapes turns 0 W).2.2.2=0/\0<=(bQ E t self shapes turns 0 W).1.steps/\(bQ E t self shapes turns 0 W).1.steps<=1000000:=by
 obtain⟨fn,-,-,hf⟩:=yK h;obtain⟨f,g,i⟩:=wK h;obtain⟨j,-,m,-,l⟩:=pB E (qI h) (adR h) self shapes turns 0 W q;have s:=l7 hf m 0;have u:=qY f g m 0;refine⟨j,?_⟩;rcases l with ⟨-,r,d,-⟩ | ⟨x,r,-,-,e,d,-⟩;·rw[d];omega
 ·have v:=i x (lM e);have w:=(hf.all x (lM e)).1;rw[d];omega
section
variable {Γ : kI} {w w':World} {W:aI} {cv vv:Value} {vs fs:List Value}
theorem aeE (L:bO Γ w W cv vv vs fs) {g:Nat} {cs:Array Value} (l:w.heap[g]? = some (.cells cs 40 (0,0))) (f:∀k,k≠g->w'.heap[k]? = w.heap[k]?) (u:w'.heap.size=w.heap.size) (x:¬ Γ.Q g):bO Γ w' W cv vv vs fs:=by
 obtain⟨p,hf⟩:=L.frow;have d:∀ {B n size:Nat} {e:TypeId} {v:Value} {xs:List Value},w.ownsRow B e size v n xs->e≠40->w'.ownsRow B e size v n xs:=λ{B n size e v xs} h hne=> fG h (λk m=>f k (by obtain⟨y,q⟩:=aX h m;exact bJ q l hne));have j:=f Γ.fb (bJ hf l (by decide));exact { L with
  row:=(f Γ.wb (bJ L.row l (by decide))).trans L.row
  frow:=⟨p,j.trans hf⟩
  fat:=(World.cell?_of_block j).trans L.fat
  frest:=λk f=>(World.cell?_of_block j).trans (L.frest k f)
  crow:=d L.crow (by decide)
  vals:=d L.vals (by decide)
  regs:=d L.regs (by decide)
  cvals:=λi v c r s=>d (L.cvals i v c r s) (by decide)
  fixed:=λb hb=>(f b (λe=>x (e ▸ hb))).trans (L.fixed b hb)
  size:=by rw[u];exact L.size }
end
end
end Go.Proofs.YtjaphgpkkfdaaaaGreatDoor
