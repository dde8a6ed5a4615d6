/- A part of the walk. -/
import Derived.Test.YtijihlcdhppfgaaGreatDoorZM
set_option maxHeartbeats 16000000
set_option maxRecDepth 100000
set_option linter.all false
namespace Go.Proofs.YtijihlcdhppfgaaGreatDoor
open Tryz
section
open Go.RowKit
theorem adI:(prog.info? 72).map (·.size)=some 5:=by kernel_rfl
theorem ajC:(prog.info? 26).map (·.size)=some 3:=by kernel_rfl
theorem fL.size3 {w:World} {B:Nat} {cs:List Value} {p:aZ} (h:fL w B cs p):(prog.info? 26).map (·.size)=some cs.length:=by obtain⟨A,n,C,m,D,k,rfl,-⟩:=h;exact ajC
theorem fL.at0 {w:World} {B:Nat} {cs:List Value} {p:aZ} (h:fL w B cs p):∃A n,cs[0]? = some (.slice A p.fns.length n)/\aB w B 5 (FnR w B) (.slice A p.fns.length n) p.fns:=by obtain⟨A,n,C,m,D,k,rfl,h,-⟩:=h;exact⟨A,n,rfl,h⟩
theorem fL.below {w w':World} {cs:List Value} {p:aZ} (h:fL w w.heap.size cs p) (k:Below w.heap.size w w'):fL w' w'.heap.size cs p:=h.keep k.size (λ_ h=>k.cell h)
theorem bI.at510 {w:World} {B:Nat} {cs:List Value} {t:aH} (h:bI w B cs t):∃d cb,(∀i v,d[i]? = some v->cs[5+i]? = some v)/\(∀i v,cb[i]? = some v->cs[9+i]? = some v)/\fM w B d t.turn/\fM w B cb t.back:=by
 obtain⟨i,e,d,cb,rfl,-,-,ht,hb,-⟩:=h;have l1:d.length=4:=by obtain⟨_,_,rfl,-⟩:=ht;rfl
 refine⟨d,cb,λi v f=>?_,λi v f=>?_,ht,hb⟩;·have hi:=(lE f).1;rw[List.append_assoc,List.getElem?_append_right (by simp),show 5+i - ([.int .i64 t.fn,.int .i64 t.at_,.int .i64 t.loop,_,_]:List Value).length=i by simp,List.getElem?_append_left (by omega)];exact f
 ·rw[List.getElem?_append_right (by simp;omega)];simp only[List.length_append,List.length_cons,List.length_nil,l1];rw[show 9+i - (0+1+1+1+1+1+4)=i by omega];exact f
theorem aaW (V F:List Value) (p:aZ) (t:aH) (w:World) (hp:fL w w.heap.size V p) (ht:bI w w.heap.size F t) (G8:Tab w) : Calls prog 13 #[.agg ⟨V⟩,.agg ⟨F⟩] w (aK (.int .i64 (cQ aF (bH p) (p.fns.map gI) t)) w):=by
 obtain⟨r,l⟩:∃r,cQ aF (bH p) (p.fns.map gI) t=r:=⟨_,rfl⟩;rw[l];unfold cQ at l;have HP:=hI hp;have HT:=hI ht;have x1:=hI hp.size3;have M3:=hI ht.size13;obtain⟨Af,nf,pf,qf⟩:=hp.at0;obtain⟨Ai,ni,p3,qi⟩:=ht.at3;obtain⟨Ae,ne,p4,qe⟩:=ht.at4;obtain⟨p0,p1,p2,N2,N3,N4⟩:=ht.at012;have lf:=aM qf;have li:=aM qi;have le:=aM qe;have QF:=hI qf;have QI:=hI qi;have QE:=hI qe;have P0:=hI p0;have P1:=hI p1;have P2:=hI p2;have P3:=hI p3;have P4:=hI p4;have PF:=hI pf;have n8:V.length=3:=by obtain⟨_,_,_,_,_,_,rfl,-⟩:=hp;rfl
 have n9:F.length=13:=by obtain⟨_,_,_,_,rfl,-,-,⟨_,_,rfl,-⟩,⟨_,_,rfl,-⟩,-⟩:=ht;rfl
 have M4:=hI n8;have M5:=hI n9;obtain⟨ce,h9⟩:∃ce,bH p=ce:=⟨_,rfl⟩;rw[h9] at l;obtain⟨w0,i0⟩:∃w0,w0=(w.alloc (.cells ⟨V⟩ 26)).alloc (.cells ⟨F⟩ 34):=⟨_,rfl⟩;have TB:=nR w V F 26 34;rw[<-i0] at TB;obtain⟨t1,t2,t3⟩:=TB;have H1:=hI t1;have H2:=hI t2;have K0:=hI t3;have HW:=hI i0;have R1:=hI H1.o.range;have CE:=hI (uU V p w0 (hp.below K0.o) (G8.below K0.o));rw[h9] at CE;clear hp ht i0 t1 t2 t3 qf qi qe h9 pf p3 p4 p0 p1 p2 n8 n9;go_enter func13,ntmps13;go_wp2_with (first | (refine wpList_load_mid rfl 26 _ rfl w.heap.size 0 rfl V _ (by rw[<-HW.o];exact R1.o) underlying26 rfl x1.o ?_) | fail);rw[<-HW.o];refine CE.o.mono ?_;rintro e w1 ⟨rfl,k1⟩;have M:=btZ K0 k1;have G1:=hI (H1.o.on k1);have G2:=hI (H2.o.on k1);clear k1;by_cases hc:ce=0
 case neg=>
  rw[if_pos hc] at l;have M6:(ce != 0)=true:=by simpa using hc
  have A:=hI l;clear l;go_wp2_with fail;go_ret;exact⟨by rw[<-A.o];first | done | rfl,M.o⟩
 rw[if_neg (by simp[hc])] at l;subst hc;have e3:=G2.o 3 _ P3.o;have e4:=G2.o 4 _ P4.o;by_cases l1:300<t.ins.length
 ·have z0:(300:Int)<t.ins.length:=by omega
  rw[if_pos (.inl l1)] at l;have A:=hI l;clear l;go_wp2_with fail;go_ret;exact⟨by rw[<-A.o];first | done | rfl,M.o⟩
 have z0:¬(300:Int)<t.ins.length:=by omega
 by_cases l2:200<t.exits.length
 ·have z1:(200:Int)<t.exits.length:=by omega
  rw[if_pos (.inr l2)] at l;have A:=hI l;clear l;go_wp2_with fail;go_ret;exact⟨by rw[<-A.o];first | done | rfl,M.o⟩
 have z1:¬(200:Int)<t.exits.length:=by omega
 rw[if_neg (by omega)] at l;clear li le;have M7:(t.ins.length:Int)<=300:=by omega
 have M8:(t.exits.length:Int)<=200:=by omega
 go_upto_region 6 with fail;have a0:∀E:Up w1,E.to.cell? ⟨w.heap.size+1,0,none⟩=some (.int .i64 t.fn):=λE=>E.cell (G2.o 0 _ P0.o);have a1:∀E:Up w1,E.to.cell? ⟨w.heap.size+1,1,none⟩=some (.int .i64 t.at_):=λE=>E.cell (G2.o 1 _ P1.o);have a2:∀E:Up w1,E.to.cell? ⟨w.heap.size+1,2,none⟩=some (.int .i64 t.loop):=λE=>E.cell (G2.o 2 _ P2.o);have a3:∀E:Up w1,E.to.cell? ⟨w.heap.size+1,3,none⟩=some (.slice Ai t.ins.length ni):=λE=>E.cell (G2.o 3 _ P3.o);have b0:∀E:Up w1,E.to.cell? ⟨w.heap.size,0,none⟩=some (.slice Af p.fns.length nf):=λE=>E.cell (G1.o 0 _ PF.o);clear e3 e4;by_cases f0:t.fn<0
 ·rw[if_pos f0] at l;dsimp only at l;have z3:decide (t.fn<0)=true:=decide_eq_true f0;have A:=hI l;clear l;refine aD (by kernel_rfl) (by kernel_rfl) ?_;repeat (go_big_quiet_step (fail))
  refine wpQuiet_nil ?_;intro s L;obtain⟨E,rfl⟩:=L;obtain⟨s,u⟩:=E;have I:=btZ M u;dsimp only;clear u;go_wp2_with fail;go_ret;exact⟨by rw[<-A.o];first | done | rfl,I.o⟩
 rw[if_neg f0] at l;obtain⟨k,hk⟩:=Int.eq_ofNat_of_zero_le (Int.not_lt.1 f0);rw[hk,Int.toNat_natCast] at l;have z3:decide ((k:Int)<0)=false:=decide_eq_false (by omega);rw[hk] at a0;have z4:=hI hk;clear hk f0;by_cases f1:p.fns.length<=k
 ·rw[List.getElem?_eq_none (by simpa using f1)] at l;dsimp only at l;have o0:(p.fns.length:Int)<=k:=by omega
  have s3:decide ((p.fns.length:Int)<=(k:Int))=true:=decide_eq_true o0;have z5:decide (p.fns.length<=k)=true:=decide_eq_true f1;have A:=hI l;clear l;refine aD (by kernel_rfl) (by kernel_rfl) ?_;repeat (go_big_quiet_step (fail))
  refine wpQuiet_nil ?_;intro s L;obtain⟨E,rfl⟩:=L;obtain⟨s,u⟩:=E;have I:=btZ M u;dsimp only;clear u;go_wp2_with fail;go_ret;exact⟨by rw[<-A.o];first | done | rfl,I.o⟩
 obtain⟨b,Y,f,z,rfl,hb,hf,N5,i1,q6⟩:=QF.o.at_ (i:=k) (by omega);rw[List.getElem?_map,hf] at l;dsimp only [Option.map_some,gI] at l;obtain⟨A4,n4,A5,n5,i2,-,q5,-⟩:=id i1;have l5:=aM q5;have RF:Hid (w1.rangeAt b (Y+k*5) z):=λj v X=>(M.o.cell hb).trans (q6 j v X);have e4:z[4]? = some (.slice A5 f.code.length n5):=by rw[i2];rfl
 have FR:=hI i1;have c4:∀E:Up w1,E.to.cell? ⟨b,Y+k*5+4,none⟩=some (.slice A5 f.code.length n5):=λE=>E.cell (RF.o 4 _ e4);have o0:(k:Int)<p.fns.length:=by omega
 have s3:decide ((p.fns.length:Int)<=(k:Int))=false:=decide_eq_false (by omega);have z5:decide (p.fns.length<=k)=false:=decide_eq_false f1;clear q5 i1 q6 i2 e4 f1;by_cases g1:t.at_<0
 ·rw[if_pos (.inl g1)] at l;have z6:decide (t.at_<0)=true:=decide_eq_true g1;have A:=hI l;clear l;refine aD (by kernel_rfl) (by kernel_rfl) ?_;repeat (go_big_quiet_step (fail))
  refine wpQuiet_nil ?_;intro s L;obtain⟨E,rfl⟩:=L;obtain⟨s,u⟩:=E;have I:=btZ M u;dsimp only;clear u;go_wp2_with fail;go_ret;exact⟨by rw[<-A.o];first | done | rfl,I.o⟩
 have z6:decide (t.at_<0)=false:=decide_eq_false g1;by_cases g2:(f.code.length:Int)<=t.at_
 ·rw[if_pos (.inr (.inl g2))] at l;have z7:decide ((f.code.length:Int)<=t.at_)=true:=decide_eq_true g2;have A:=hI l;clear l;refine aD (by kernel_rfl) (by kernel_rfl) ?_;repeat (go_big_quiet_step (fail))
  refine wpQuiet_nil ?_;intro s L;obtain⟨E,rfl⟩:=L;obtain⟨s,u⟩:=E;have I:=btZ M u;dsimp only;clear u;go_wp2_with fail;go_ret;exact⟨by rw[<-A.o];first | done | rfl,I.o⟩
 have z7:decide ((f.code.length:Int)<=t.at_)=false:=decide_eq_false g2;by_cases g3:t.loop<0
 ·rw[if_pos (.inr (.inr (.inl g3)))] at l;have z9:decide (t.loop<0)=true:=decide_eq_true g3;have A:=hI l;clear l;refine aD (by kernel_rfl) (by kernel_rfl) ?_;repeat (go_big_quiet_step (fail))
  refine wpQuiet_nil ?_;intro s L;obtain⟨E,rfl⟩:=L;obtain⟨s,u⟩:=E;have I:=btZ M u;dsimp only;clear u;go_wp2_with fail;go_ret;exact⟨by rw[<-A.o];first | done | rfl,I.o⟩
 have z9:decide (t.loop<0)=false:=decide_eq_false g3;by_cases g4:(t.ins.length:Int)<t.loop
 ·rw[if_pos (.inr (.inr (.inr g4)))] at l;have A0:decide ((t.ins.length:Int)<t.loop)=true:=decide_eq_true g4;have A:=hI l;clear l;refine aD (by kernel_rfl) (by kernel_rfl) ?_;repeat (go_big_quiet_step (fail))
  refine wpQuiet_nil ?_;intro s L;obtain⟨E,rfl⟩:=L;obtain⟨s,u⟩:=E;have I:=btZ M u;dsimp only;clear u;go_wp2_with fail;go_ret;exact⟨by rw[<-A.o];first | done | rfl,I.o⟩
 have A0:decide ((t.ins.length:Int)<t.loop)=false:=decide_eq_false g4;rw[if_neg (by omega)] at l;refine aD (by kernel_rfl) (by kernel_rfl) ?_;repeat (go_big_quiet_step (fail))
 refine wpQuiet_nil ?_;intro s L;obtain⟨E,rfl⟩:=L;obtain⟨s,u⟩:=E;have I:=btZ M u;have D1:=hI (G1.o.on u);have D2:=hI (G2.o.on u);have A1:Hid (s.rangeAt b (Y+k*5) z):=λj v X=>(u.cell (Nat.lt_of_lt_of_le hb M.o.size)).trans (RF.o j v X);dsimp only;clear u a0 a1 a2 a3 b0 c4 G1 G2 RF;go_upto_region 8 with fail;go_cut [6] (λs6 wx=>∃g:Nat,s6=.pointer (some ⟨g,0,none⟩)/\s.heap.size<=g/\Hid (aJ wx g (z++F))/\Hid (Below s.heap.size s wx))
 case first=>
  obtain⟨A4,n4,i3,i4,rfl,-⟩:=FR.o
  obtain⟨fi,fe,ct,cb,rfl,-,-,⟨s1,m1,rfl,⟨S1,n1,rfl,-⟩,⟨M1,o1,rfl,-⟩,-⟩,⟨s2,m2,rfl,⟨S2,n2,rfl,-⟩,⟨M2,o2,rfl,-⟩,-⟩,-⟩:=HT.o
  obtain rfl:fi=.slice Ai t.ins.length ni:=by have:=P3.o;injection this
  obtain rfl:fe=.slice Ae t.exits.length ne:=by have:=P4.o;injection this
  have RA:Hid (∀E:Up s,E.to.rangeAt (w.heap.size+1) 0 ([.int .i64 t.fn,.int .i64 t.at_,.int .i64 t.loop,.slice Ai t.ins.length ni,.slice Ae t.exits.length ne]++[.int .i64 t.turn.at_,.int .i64 t.turn.steps,.slice S1 t.turn.sets.length n1,.slice M1 t.turn.makes.length o1]++[.int .i64 t.back.at_,.int .i64 t.back.steps,.slice S2 t.back.sets.length n2,.slice M2 t.back.makes.length o2])):=λE=>(D2.o.on E.below).range
  have RB:Hid (∀E:Up s,E.to.rangeAt b (Y+k*5) [.int .i64 f.params,.int .i64 f.regs,.bool f.gen,.slice A4 f.caught.length n4,.slice i3 f.code.length i4]):=λE j v X=>E.cell (A1.o j v X)
  have a0:∀E:Up s,E.to.cell? ⟨w.heap.size+1,0,none⟩=some (.int .i64 k):=λE=>E.cell (by have:=D2.o 0 _ rfl;rw[z4.o] at this;exact this)
  have b0:∀E:Up s,E.to.cell? ⟨w.heap.size,0,none⟩=some (.slice (some ⟨b,Y,none⟩) p.fns.length nf):=λE=>E.cell (D1.o 0 _ PF.o)
  have LA:Hid ((prog.info? 34).map (·.size)=some 13):=zE
  have LF:Hid ((prog.info? 72).map (·.size)=some 5):=adI
  refine cE (λw'=>∃E:Up s,w'=E.to) 8 [8,9] [8] (by kernel_rfl) (by decide) (by kernel_rfl) (λ_ _ d _ _ h=>by cases d <;> exact h) ⟨⟨_,(Below.refl _ s).drew⟩,rfl⟩ ?_
  simp only[List.take_succ_cons,List.take_zero]
  generalize r1:(λa'=>gT _ _ _ _ _ _ a' _)=qq
  have A2:=hI r1
  clear r1
  repeat (first
   | (refine dE 34 _ rfl rfl (w.heap.size+1) 0 rfl _ _ RA.o underlying34 rfl LA.o ?_;go_simp)
   | (refine dE 72 _ rfl rfl b (Y+k*5) rfl _ _ RB.o underlying72 rfl LF.o ?_;go_simp)
   | go_big_quiet_step (fail))
  refine wpQuiet_nil ?_
  rw[<-A2.o]
  refine aR rfl (λK hK=>?_)
  go_simp
  refine hK _ _ (λ_=>⟨⟨_,((Below.refl _ s).alloc (Nat.le_refl _) _).drew⟩,rfl⟩) ?_
  clear hK K
  refine bG [9] _ _ (by kernel_rfl) (by kernel_rfl) ?_
  simp only[List.filterMap_cons,List.filterMap_nil,List.getElem?_toArray,List.getElem?_cons_zero,List.getElem?_cons_succ]
  have TH:(s.alloc (.cells #[.int .i64 0,.int .i64 0,.bool false,.slice none 0 0,.slice none 0 0,.int .i64 0,.int .i64 0,.int .i64 0,.slice none 0 0,.slice none 0 0,.int .i64 0,.int .i64 0,.slice none 0 0,.slice none 0 0,.int .i64 0,.int .i64 0,.slice none 0 0,.slice none 0 0] 74)).drew.there s.heap.size 0 18:=nU (abX _ _) (by decide)
  refine wpList_store_mid rfl 74 _ _ rfl s.heap.size 0 _ rfl rfl TH zG (oCz (by simp[Value.oneCell'])) ?_
  have RW:=World.rangeAt_setCells_same _ _ _ ([.int .i64 f.params,.int .i64 f.regs,.bool f.gen,.slice A4 f.caught.length n4,.slice i3 f.code.length i4,.int .i64 t.fn,.int .i64 t.at_,.int .i64 t.loop,.slice Ai t.ins.length ni,.slice Ae t.exits.length ne,.int .i64 t.turn.at_,.int .i64 t.turn.steps,.slice S1 t.turn.sets.length n1,.slice M1 t.turn.makes.length o1,.int .i64 t.back.at_,.int .i64 t.back.steps,.slice S2 t.back.sets.length n2,.slice M2 t.back.makes.length o2]:List Value) TH
  have G:=akY (B:=s.heap.size) (Nat.le_refl _) ([.int .i64 f.params,.int .i64 f.regs,.bool f.gen,.slice A4 f.caught.length n4,.slice i3 f.code.length i4,.int .i64 t.fn,.int .i64 t.at_,.int .i64 t.loop,.slice Ai t.ins.length ni,.slice Ae t.exits.length ne,.int .i64 t.turn.at_,.int .i64 t.turn.steps,.slice S1 t.turn.sets.length n1,.slice M1 t.turn.makes.length o1,.int .i64 t.back.at_,.int .i64 t.back.steps,.slice S2 t.back.sets.length n2,.slice M2 t.back.makes.length o2]:List Value) 0 _ ((aA s (.cells #[.int .i64 0,.int .i64 0,.bool false,.slice none 0 0,.slice none 0 0,.int .i64 0,.int .i64 0,.int .i64 0,.slice none 0 0,.slice none 0 0,.int .i64 0,.int .i64 0,.slice none 0 0,.slice none 0 0,.int .i64 0,.int .i64 0,.slice none 0 0,.slice none 0 0] 74)).drew)
  generalize k7:World.setCells _ _ _ _=w9
  have RW:=hI (show w9.rangeAt s.heap.size 0 _ by rw[<-k7];exact RW)
  have G:=hI (show Below s.heap.size s w9 by rw[<-k7];exact G)
  clear k7
  go_wp2_with fail
  go_meet
  case rel=>exact⟨s.heap.size,rfl,Nat.le_refl _,λj v X=>by have:=RW.o j v X;rw[Nat.zero_add] at this;exact this,G.o⟩
 case rest=>
  obtain⟨w3,F0⟩:∃w3,w3=wc:=⟨_,rfl⟩;subst F0;obtain⟨g,rfl,hg,HC,K3⟩:=hcut;have KK:=btZ I K3.o;have CR:Hid (fO w3 w3.heap.size (z++F) f t):=⟨z,F,rfl,FR.o.keep KK.o.size (λ_ h=>KK.o.cell h),HT.o.below KK.o⟩;have HI:=hI CR.o.len;have F2:=hI (D2.o.on K3.o);have hz:g<w3.heap.size:=by obtain⟨_,_,_,_,F7,-⟩:=FR.o;refine eL (HC.o 0 (.int .i64 f.params) ?_);rw[F7];rfl
  have A7:w.heap.size+1<w3.heap.size:=eL (F2.o 0 _ P0.o);clear hg;have e3:=F2.o 3 _ P3.o;go_wp2_with fail;clear e3;obtain⟨P,i5⟩:∃P,sJ aF (gI f) t 0 t.ins=P:=⟨_,rfl⟩;have o3:(if P≠0 then P else if(t.loop=0/\kV t.turn=false)\/(0<t.loop/\(t.turn.at_≠t.at_\/bN (gI f) t.ins t.turn t.loop=false)) then 3 else if t.back.at_≠t.at_\/bN (gI f) t.ins t.back t.ins.length=false then 3 else if t.exits.all (bN (gI f) t.ins · t.ins.length) then 0 else 3)=r:=by rw[<-l,<-i5];rfl
  have A:=hI o3;have o7:=hI i5;clear l o3 i5;go_loopw [83] (λi wr=>∃j:Nat,i=.int .i64 j/\j<=t.ins.length/\Hid (sJ aF (gI f) t j (t.ins.drop j)=P)/\Hid (Below w3.heap.size w3 wr)) (λi _=>t.ins.length - (RowKit.intOf i).toNat);case atStart=>exact⟨0,rfl,by omega,o7.o,Below.refl _ _⟩
  case round=>
   obtain⟨j,rfl,X,KP,G⟩:=hrel;have kk:=btZ KK G.o;by_cases d6:j<t.ins.length
   ·obtain⟨b',d3,y,rfl,i6,hy,wy,R⟩:=tN QI.o d6;obtain⟨g0,g1,g2,g3,g4,g5,g6,g7⟩:=adD R i6 kk.o;have f9:(j:Int)<t.ins.length:=(by omega);have e:=KP.o;rw[oI hy] at e;have E:Hid ((if !mD y.op then 7 else if !eJ aF (gI f) t y j then 3 else sJ aF (gI f) t (j+1) (t.ins.drop (j+1)))=P):=(by rw[<-e];rfl);have o8:g<wr.heap.size:=Nat.lt_of_lt_of_le hz G.o.size;have h0:=hI (HC.o.on G.o);have WY:=hI wy;obtain⟨D,S⟩:∃D,D=wr.alloc (.cells ⟨bA y⟩ 53):=⟨_,rfl⟩;have KA:Hid (Below wr.heap.size wr D):=(by rw[S];exact aA _ _);have YA:Hid (aJ D wr.heap.size (bA y)):=(by rw[S];exact akV _ _ _);have o9:=hI S;have h1:wr.heap.size<D.heap.size:=(by rw[S];simp);unfold bA at o9;clear R hy e S;go_wp2_with fail;rw[<-o9.o];refine(aiH y.op D).mono ?_;rintro e w4 ⟨rfl,k4⟩;have K4:=btZ KA k4;have YB:=hI (YA.o.on k4);obtain⟨is,q7⟩:∃is,mD y.op=is:=⟨_,rfl⟩;have E1:=E.o;rw[q7] at E1 ⊢;have A8:=hI ((h0.o.on KA.o).on k4);have M9:wr.heap.size<w4.heap.size:=Nat.lt_of_lt_of_le h1 k4.size;have N0:g<w4.heap.size:=(by omega);have y0:=YB.o 0 _ rfl;have y1:=YB.o 1 _ rfl;have y2:=YB.o 2 _ rfl;have y3:=YB.o 3 _ rfl;have y4:=YB.o 4 _ rfl;have y5:=YB.o 5 _ rfl;have y6:=YB.o 6 _ rfl;have y7:=YB.o 7 _ rfl;clear q7 g0 g1 g2 g3 g4 g5 g6 g7 k4;unfold nH;have KB:Hid (Below w4.heap.size w4 (w4.alloc (.cells #[.int .i64 (bP y.op).asks,.int .i64 (bP y.op).low,.int .i64 (bP y.op).high,.bool (bP y.op).k,.bool (bP y.op).tells,.int .i64 (bP y.op).exit] 76))):=aA _ _;cases is;case false=>have E2:Hid (7=P):=(by rw[<-E1];exact rfl);have J:Hid (7=r):=(by have e:=A.o;rw[<-E2.o,if_pos (by decide)] at e;exact e);clear E1;go_wp2_with fail;go_ret;exact⟨by rw[<-J.o];first | done | rfl,kk.o.trans ((K4.o.trans (KB.o.mono K4.o.size)).mono kk.o.size)⟩
    have E2:Hid ((if !eJ aF (gI f) t y j then 3 else sJ aF (gI f) t (j+1) (t.ins.drop (j+1)))=P):=(by rw[<-E1];exact rfl);clear E1;have KD:=hI (G.o.trans ((K4.o.trans (KB.o.mono K4.o.size)).mono G.o.size));have FC:=hI (ajN (z++F) f t y j _ (CR.o.below KD.o) WY.o);unfold nH yA at FC;obtain⟨fo,q8⟩:∃fo,eJ aF (gI f) t y j=fo:=⟨_,rfl⟩;have E3:=E2.o;rw[q8] at E3 FC;have A9:=hI (A8.o.on KB.o);clear q8 E2;go_wp2_with (refine wpList_load_mid rfl 74 _ rfl g 0 rfl (z++F) _ A9.o.range underlying74 rfl HI.o ?_);refine FC.o.mono ?_;rintro e w5 ⟨rfl,H⟩;have KE:=btZ KD H;clear H y0 y1 y2 y3 y4 y5 y6 y7;cases fo;case false=>have E4:Hid (3=P):=(by rw[<-E3];exact rfl);have J:Hid (3=r):=(by have e:=A.o;rw[<-E4.o,if_pos (by decide)] at e;exact e);clear E3;go_wp2_with fail;go_ret;exact⟨by rw[<-J.o];first | done | rfl,KK.o.trans (KE.o.mono KK.o.size)⟩
    have E4:Hid (sJ aF (gI f) t (j+1) (t.ins.drop (j+1))=P):=(by rw[<-E3];exact rfl);clear E3;go_wp2_with fail;go_roundw;case rel=>exact⟨j+1,by go_num,by omega,E4.o,KE.o⟩
    case measure=>simp[RowKit.intOf];omega
   ·have hd:t.ins.drop j=[]:=List.drop_eq_nil_of_le (by omega);have e:=KP.o;rw[hd] at e;have p8:P=0:=(by rw[<-e];rfl);have f9:¬(j:Int)<t.ins.length:=(by omega);have e:=A.o;rw[if_neg (by rw[p8];simp)] at e;have p9:=hI e;have h5:=hI (F2.o.on G.o);have h0:=hI (HC.o.on G.o);have o8:g<wr.heap.size:=Nat.lt_of_lt_of_le hz G.o.size;have u2:w.heap.size+1<wr.heap.size:=Nat.lt_of_lt_of_le A7 G.o.size;obtain⟨ct,cb,p5,r0,xt,xb⟩:=HT.o.at510;have XT:=hI xt;have XB:=hI xb;have P5:=hI p5;have B3:=hI r0;clear e p8 hd KP d6 X o7 p5 r0 xt xb;have kw:=btZ KK G.o;have LT:Hid ((prog.info? 32).map (·.size)=some ct.length):=(by obtain⟨_,_,rfl,-⟩:=XT.o;exact wR);have LB:Hid ((prog.info? 32).map (·.size)=some cb.length):=(by obtain⟨_,_,rfl,-⟩:=XB.o;exact wR);obtain⟨bt,j1⟩:∃b,(decide (t.loop=0) && !kV t.turn)=b:=⟨_,rfl⟩;obtain⟨bu,j2⟩:∃b,(decide (0<t.loop) && (t.turn.at_ != t.at_ || !bN (gI f) t.ins t.turn t.loop))=b:=⟨_,rfl⟩;obtain⟨bv,j3⟩:∃b,(t.back.at_ != t.at_ || !bN (gI f) t.ins t.back t.ins.length)=b:=⟨_,rfl⟩;have d5:Hid ((if bt=true then 3 else if bu=true then 3 else if bv=true then 3 else if t.exits.all (bN (gI f) t.ins · t.ins.length) then 0 else 3)=r):=(by rw[<-p9.o,<-j1,<-j2,<-j3];cases kV t.turn <;> cases bN (gI f) t.ins t.turn t.loop <;> cases bN (gI f) t.ins t.back t.ins.length <;> by_cases c1:t.loop=0 <;> by_cases c2:0<t.loop <;> by_cases c3:t.turn.at_=t.at_ <;> by_cases c4:t.back.at_=t.at_ <;> simp[c1,c2,c3,c4,Hid]);have B5:=hI j1;have B6:=hI j2;have B7:=hI j3;clear j1 j2 j3 p9;go_upto_region 18 with fail;go_cut [103] (λc wx=>c=.bool bt/\Hid (Below wr.heap.size wr wx))
    case first=>
     have e2:=h5.o 2 _ P2.o;have RT:Hid (wr.rangeAt (w.heap.size+1) 5 ct):=λa v hv=>h5.o _ _ (P5.o a v hv);have O:=hI (bare_c ct t.turn wr w.heap.size w XT.o);obtain⟨q,N⟩:∃q,kV t.turn=q:=⟨_,rfl⟩;have e:=B5.o;rw[N] at O e;have E:=hI e;clear N e;by_cases c:t.loop=0;·have e:=E.o;rw[decide_eq_true c,Bool.true_and] at e;have E:=hI e;rw[c] at e2;clear e c;go_wp2_with (refine cZ 32 _ rfl rfl (w.heap.size+1) 5 rfl ct _ RT.o underlying32 rfl LT.o ?_);refine O.o.mono ?_;rintro e w5 ⟨rfl,H⟩;have K5:=hI H;clear H e2;go_wp2_with fail;go_meet;case rel=>exact⟨by rw[<-E.o];first | done | rfl,K5.o⟩
     ·have c':(t.loop == 0)=false:=bF c;have e:=E.o;rw[decide_eq_false c,Bool.false_and] at e;have E:=hI e;clear e;go_wp2_with fail;go_meet;case rel=>exact⟨by rw[<-E.o];first | done | rfl,Below.refl _ _⟩
    case rest=>
    obtain⟨D,S⟩:∃D,D=wc:=⟨_,rfl⟩;subst S;obtain⟨rfl,ka⟩:=hcut;have KA:=btZ kw ka.o;have F3:=hI (h5.o.on ka.o);have q2:=hI (h0.o.on ka.o);have h1:g<D.heap.size:=Nat.lt_of_lt_of_le o8 ka.o.size;have u4:w.heap.size+1<D.heap.size:=Nat.lt_of_lt_of_le u2 ka.o.size;have KC:=btZ G ka.o;cases bt;case true=>have J:Hid (3=r):=(by rw[<-d5.o];rfl);go_wp2_with fail;go_ret;exact⟨by rw[<-J.o];first | done | rfl,KA.o⟩
    go_upto_region 19 with fail;go_cut [103] (λc wx=>c=.bool bu/\Hid (Below D.heap.size D wx))
    case first=>
     have e2:=F3.o 2 _ P2.o;have e1:=F3.o 1 _ P1.o;have RT:Hid (D.rangeAt (w.heap.size+1) 5 ct):=λa v hv=>F3.o _ _ (P5.o a v hv);have e5:D.cell? ⟨w.heap.size+1,5,none⟩=some (.int .i64 t.turn.at_):=(by obtain⟨_,_,j4,-⟩:=XT.o;exact RT.o 0 _ (by rw[j4];rfl));have O:=hI (u0 (z++F) ct f t t.turn t.loop D (CR.o.below KC.o) (XT.o.keep KA.o.size (λ_ h=>KA.o.cell h)));obtain⟨q,N⟩:∃q,bN (gI f) t.ins t.turn t.loop=q:=⟨_,rfl⟩;have e:=B6.o;rw[N] at O e;have E:=hI e;clear N e;by_cases c:0<t.loop
     ·have e:=E.o;rw[decide_eq_true c,Bool.true_and] at e;have E:=hI e;have c':decide (0<t.loop)=true:=decide_eq_true c;clear e;by_cases d:t.turn.at_=t.at_;·have Z:(t.turn.at_ != t.at_)=false:=(by simp[d]);have e:=E.o;rw[Z,Bool.false_or] at e;have E:=hI e;rw[d] at e5;clear e d Z;go_wp2_with (first | (refine cZ 74 _ rfl rfl g 0 rfl (z++F) _ q2.o.range underlying74 rfl HI.o ?_) | (refine cZ 32 _ rfl rfl (w.heap.size+1) 5 rfl ct _ RT.o underlying32 rfl LT.o ?_));refine O.o.mono ?_;rintro e w5 ⟨rfl,H⟩;have K5:=hI H;clear H e2 e1 e5;go_wp2_with fail;go_meet;case rel=>exact⟨by rw[<-E.o];first | done | rfl,K5.o⟩
      ·have Z:(t.turn.at_ != t.at_)=true:=(by simp[d]);have e:=E.o;rw[Z,Bool.true_or] at e;have E:=hI e;clear e;go_wp2_with fail;go_meet;case rel=>exact⟨by rw[<-E.o];first | done | rfl,Below.refl _ _⟩
     ·have c':decide (0<t.loop)=false:=decide_eq_false c;have e:=E.o;rw[c',Bool.false_and] at e;have E:=hI e;clear e;go_wp2_with fail;go_meet;case rel=>exact⟨by rw[<-E.o];first | done | rfl,Below.refl _ _⟩
    case rest=>
    obtain⟨wb,G3⟩:∃wb,wb=wc:=⟨_,rfl⟩;subst G3;obtain⟨rfl,kb⟩:=hcut;have KB:=btZ KA kb.o;have F4:=hI (F3.o.on kb.o);have q3:=hI (q2.o.on kb.o);have C0:g<wb.heap.size:=Nat.lt_of_lt_of_le h1 kb.o.size;have u6:w.heap.size+1<wb.heap.size:=Nat.lt_of_lt_of_le u4 kb.o.size;have KD:=btZ KC kb.o;cases bu;case true=>have J:Hid (3=r):=(by rw[<-d5.o];rfl);go_wp2_with fail;go_ret;exact⟨by rw[<-J.o];first | done | rfl,KB.o⟩
    go_upto_region 21 with fail;go_cut [133] (λc wx=>c=.bool bv/\Hid (Below wb.heap.size wb wx))
    case first=>
     have e3:=F4.o 3 _ P3.o;have e1:=F4.o 1 _ P1.o;have RT:Hid (wb.rangeAt (w.heap.size+1) 9 cb):=λa v hv=>F4.o _ _ (B3.o a v hv);have e9:wb.cell? ⟨w.heap.size+1,9,none⟩=some (.int .i64 t.back.at_):=(by obtain⟨_,_,j4,-⟩:=XB.o;exact RT.o 0 _ (by rw[j4];rfl));have O:=hI (u0 (z++F) cb f t t.back t.ins.length wb (CR.o.below KD.o) (XB.o.keep KB.o.size (λ_ h=>KB.o.cell h)));obtain⟨q,N⟩:∃q,bN (gI f) t.ins t.back t.ins.length=q:=⟨_,rfl⟩;have e:=B7.o;rw[N] at O e;have E:=hI e;clear N e;by_cases d:t.back.at_=t.at_;·have Z:(t.back.at_ != t.at_)=false:=(by simp[d]);have e:=E.o;rw[Z,Bool.false_or] at e;have E:=hI e;rw[d] at e9;clear e d Z;go_wp2_with (first | (refine cZ 74 _ rfl rfl g 0 rfl (z++F) _ q3.o.range underlying74 rfl HI.o ?_) | (refine cZ 32 _ rfl rfl (w.heap.size+1) 9 rfl cb _ RT.o underlying32 rfl LB.o ?_));refine O.o.mono ?_;rintro e w5 ⟨rfl,H⟩;have K5:=hI H;clear H e3 e1 e9;go_wp2_with fail;go_meet;case rel=>exact⟨by rw[<-E.o];first | done | rfl,K5.o⟩
     ·have Z:(t.back.at_ != t.at_)=true:=(by simp[d]);have e:=E.o;rw[Z,Bool.true_or] at e;have E:=hI e;clear e;go_wp2_with fail;go_meet;case rel=>exact⟨by rw[<-E.o];first | done | rfl,Below.refl _ _⟩
    case rest=>
    obtain⟨wd,G4⟩:∃wd,wd=wc:=⟨_,rfl⟩;subst G4;obtain⟨rfl,kd⟩:=hcut;have KE:=btZ KB kd.o;have F5:=hI (F4.o.on kd.o);have C3:=hI (q3.o.on kd.o);have C4:g<wd.heap.size:=Nat.lt_of_lt_of_le C0 kd.o.size;have u7:w.heap.size+1<wd.heap.size:=Nat.lt_of_lt_of_le u6 kd.o.size;have KF:=btZ KD kd.o;cases bv;case true=>have J:Hid (3=r):=(by rw[<-d5.o];rfl);go_wp2_with fail;go_ret;exact⟨by rw[<-J.o];first | done | rfl,KE.o⟩
    have q4:Hid ((if t.exits.all (bN (gI f) t.ins · t.ins.length) then 0 else 3)=r):=(by rw[<-d5.o];rfl);have e4:=F5.o 4 _ P4.o;go_wp2_with fail;clear e4;go_loopw [153] (λi wx=>∃j:Nat,i=.int .i64 j/\j<=t.exits.length/\Hid (∀i x,i<j->t.exits[i]? = some x->bN (gI f) t.ins x t.ins.length=true)/\Hid (Below wd.heap.size wd wx)) (λi _=>t.exits.length - (RowKit.intOf i).toNat);case atStart=>exact⟨0,rfl,by omega,λi x hi _=>by omega,Below.refl _ _⟩
    case round=>
     obtain⟨j,rfl,X,KP,KX⟩:=hrel;have kx:=btZ KE KX.o;have KG:=btZ KF KX.o;have F6:=hI (F5.o.on KX.o);have C6:=hI (C3.o.on KX.o);have N1:g<wr.heap.size:=Nat.lt_of_lt_of_le C4 KX.o.size;have J9:w.heap.size+1<wr.heap.size:=Nat.lt_of_lt_of_le u7 KX.o.size;by_cases d6:j<t.exits.length
     ·obtain⟨b',d3,y,ys,rfl,i6,hy,G5,hR,R⟩:=QE.o.at_ d6;have f9:(j:Int)<t.exits.length:=(by omega);have HY:=hI hR;obtain⟨s1,m1,rfl,⟨S1,n1,rfl,-⟩,⟨M1,o1,rfl,-⟩,-⟩:=hR;have RY:Hid (wr.rangeAt b' (d3+j*4) [.int .i64 y.at_,.int .i64 y.steps,.slice S1 y.sets.length n1,.slice M1 y.makes.length o1]):=λa v hv=>(kx.o.cell i6).trans (R a v hv);have g0:wr.cell? ⟨b',d3+j*4,none⟩=some (.int .i64 y.at_):=RY.o 0 _ rfl;have g1:=RY.o 1 _ rfl;have g2:=RY.o 2 _ rfl;have g3:=RY.o 3 _ rfl;have HX:=hI hy;have KY:Hid (Below wr.heap.size wr (wr.alloc (.cells #[.int .i64 y.at_,.int .i64 y.steps,.slice S1 y.sets.length n1,.slice M1 y.makes.length o1] 32))):=aA _ _;have KZ:=btZ kx KY.o;have O:=hI (u0 (z++F) _ f t y t.ins.length (wr.alloc (.cells #[.int .i64 y.at_,.int .i64 y.steps,.slice S1 y.sets.length n1,.slice M1 y.makes.length o1] 32)) (CR.o.below (KG.o.trans (KY.o.mono KG.o.size))) (HY.o.keep KZ.o.size (λ_ h=>KZ.o.cell h)));have C9:=hI (C6.o.on KY.o);have e3:=F6.o 3 _ P3.o;obtain⟨q,N⟩:∃q,bN (gI f) t.ins y t.ins.length=q:=⟨_,rfl⟩;rw[N] at O;have HQ:=hI N;clear R hy G5 N;go_wp2_with (refine wpList_load_mid rfl 74 _ rfl g 0 rfl (z++F) _ C9.o.range underlying74 rfl HI.o ?_);refine O.o.mono ?_;rintro e w5 ⟨rfl,H⟩;have K5:=hI (KX.o.trans ((KY.o.trans (H.mono KY.o.size)).mono KX.o.size));clear H g0 g1 g2 g3 e3;cases q;case false=>have J:Hid (3=r):=(by rw[<-q4.o,afB HX.o HQ.o];exact rfl);go_wp2_with fail;go_ret;exact⟨by rw[<-J.o];first | done | rfl,KE.o.trans (K5.o.mono KE.o.size)⟩
      go_wp2_with fail;go_roundw;case rel=>exact⟨j+1,by go_num,by omega,yO KP.o HX.o HQ.o,K5.o⟩
      case measure=>simp[RowKit.intOf];omega
     ·have f9:¬(j:Int)<t.exits.length:=(by omega);have J:Hid (0=r):=(by rw[<-q4.o,afA (p:=λx=>bN (gI f) t.ins x t.ins.length) (k:=j) (by omega) KP.o];exact rfl);go_wp2_with fail;go_ret;exact⟨by rw[<-J.o];first | done | rfl,kx.o⟩
end
end Go.Proofs.YtijihlcdhppfgaaGreatDoor
