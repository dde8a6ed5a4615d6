/- A part of the walk. -/
import Derived.Test.YtjaphgpkkfdaaaaGreatDoorZM
set_option maxHeartbeats 16000000
set_option maxRecDepth 100000
set_option linter.all false
namespace Go.Proofs.YtjaphgpkkfdaaaaGreatDoor
open Tryz
section
open Go.RowKit
theorem xV:(prog.info? 99).map (·.size)=some 5:=by kernel_rfl
theorem ac1:(prog.info? 26).map (·.size)=some 3:=by kernel_rfl
theorem eL.size3 {w:World} {B:Nat} {cs:List Value} {p:aW} (h:eL w B cs p):(prog.info? 26).map (·.size)=some cs.length:=by obtain⟨A,n,C,m,D,k,rfl,-⟩:=h;exact ac1
theorem eL.at0 {w:World} {B:Nat} {cs:List Value} {p:aW} (h:eL w B cs p):∃A n,cs[0]? = some (.slice A p.fns.length n)/\aH w B 5 (FnR w B) (.slice A p.fns.length n) p.fns:=by obtain⟨A,n,C,m,D,k,rfl,h,-⟩:=h;exact⟨A,n,rfl,h⟩
theorem eL.below {w w':World} {cs:List Value} {p:aW} (h:eL w w.heap.size cs p) (k:Below w.heap.size w w'):eL w' w'.heap.size cs p:=h.keep k.size (λ_ h=>k.cell h)
theorem cT.at510 {w:World} {B:Nat} {cs:List Value} {t:aN} (h:cT w B cs t):∃d cb,(∀i v,d[i]? = some v->cs[5+i]? = some v)/\(∀i v,cb[i]? = some v->cs[9+i]? = some v)/\gF w B d t.turn/\gF w B cb t.back:=by
 obtain⟨i,e,d,cb,rfl,-,-,ht,hb,-⟩:=h;have g:d.length=4:=by obtain⟨_,_,rfl,-⟩:=ht;rfl
 refine⟨d,cb,λi v f=>?_,λi v f=>?_,ht,hb⟩;·have hi:=(lE f).1;rw[List.append_assoc,List.getElem?_append_right (by simp),show 5+i - ([.int .i64 t.fn,.int .i64 t.at_,.int .i64 t.loop,_,_]:List Value).length=i by simp,List.getElem?_append_left (by omega)];exact f
 ·rw[List.getElem?_append_right (by simp;omega)];simp only[List.length_append,List.length_cons,List.length_nil,g];rw[show 9+i - (0+1+1+1+1+1+4)=i by omega];exact f
theorem check_c (pcs ca:List Value) (p:aW) (t:aN) (w:World) (hp:eL w w.heap.size pcs p) (ht:cT w w.heap.size ca t) (tab:Tab w) : Calls prog 27 #[.agg ⟨pcs⟩,.agg ⟨ca⟩] w (aM (.int .i64 (fA aG (bH p) (p.fns.map eZ) t)) w):=by
 obtain⟨r,hr⟩:∃r,fA aG (bH p) (p.fns.map eZ) t=r:=⟨_,rfl⟩;rw[hr];unfold fA at hr;have HP:=hI hp;have HT:=hI ht;have HIp:=hI hp.size3;have HIt:=hI ht.size13;obtain⟨Af,nf,pf,qf⟩:=hp.at0;obtain⟨Ai,ni,p3,qi⟩:=ht.at3;obtain⟨Ae,ne,p4,qe⟩:=ht.at4;obtain⟨p0,p1,p2,wf0,wf1,wf2⟩:=ht.at012;have lf:=aP qf;have li:=aP qi;have le:=aP qe;have QF:=hI qf;have QI:=hI qi;have QE:=hI qe;have P0:=hI p0;have P1:=hI p1;have P2:=hI p2;have P3:=hI p3;have P4:=hI p4;have PF:=hI pf;have hpz:pcs.length=3:=by obtain⟨_,_,_,_,_,_,rfl,-⟩:=hp;rfl
 have htz:ca.length=13:=by obtain⟨_,_,_,_,rfl,-,-,⟨_,_,rfl,-⟩,⟨_,_,rfl,-⟩,-⟩:=ht;rfl
 have HPZ:=hI hpz;have HTZ:=hI htz;obtain⟨ce,hce⟩:∃ce,bH p=ce:=⟨_,rfl⟩;rw[hce] at hr;obtain⟨w0,hw0⟩:∃w0,w0=(w.alloc (.cells ⟨pcs⟩ 26)).alloc (.cells ⟨ca⟩ 34):=⟨_,rfl⟩;have TB:=jZ w pcs ca 26 34;rw[<-hw0] at TB;obtain⟨t1,t2,t3⟩:=TB;have H1:=hI t1;have H2:=hI t2;have K0:=hI t3;have HW:=hI hw0;have R1:=hI H1.o.range;have CE:=hI (qH pcs p w0 (hp.below K0.o) (tab.below K0.o));rw[hce] at CE;clear hp ht hw0 t1 t2 t3 qf qi qe hce pf p3 p4 p0 p1 p2 hpz htz;go_enter func27,ntmps27;go_wp2_with (first | (refine wpList_load_mid rfl 26 _ rfl w.heap.size 0 rfl pcs _ (by rw[<-HW.o];exact R1.o) underlying26 rfl HIp.o ?_) | fail);rw[<-HW.o];refine CE.o.mono ?_;rintro e w1 ⟨rfl,k1⟩;have K1:=btZ K0 k1;have G1:=hI (H1.o.on k1);have G2:=hI (H2.o.on k1);clear k1;by_cases hc:ce=0
 case neg=>
  rw[if_pos hc] at hr;have hc':(ce != 0)=true:=by simpa using hc
  have HR:=hI hr;clear hr;go_wp2_with fail;go_ret;exact⟨by rw[<-HR.o];first | done | rfl,K1.o⟩
 rw[if_neg (by simp[hc])] at hr;subst hc;have e3:=G2.o 3 _ P3.o;have e4:=G2.o 4 _ P4.o;by_cases l1:300<t.ins.length
 ·have l1':(300:Int)<t.ins.length:=by omega
  rw[if_pos (.inl l1)] at hr;have HR:=hI hr;clear hr;go_wp2_with fail;go_ret;exact⟨by rw[<-HR.o];first | done | rfl,K1.o⟩
 have l1':¬(300:Int)<t.ins.length:=by omega
 by_cases l2:200<t.exits.length
 ·have l2':(200:Int)<t.exits.length:=by omega
  rw[if_pos (.inr l2)] at hr;have HR:=hI hr;clear hr;go_wp2_with fail;go_ret;exact⟨by rw[<-HR.o];first | done | rfl,K1.o⟩
 have l2':¬(200:Int)<t.exits.length:=by omega
 rw[if_neg (by omega)] at hr;clear li le;have l1i:(t.ins.length:Int)<=300:=by omega
 have l2i:(t.exits.length:Int)<=200:=by omega
 go_upto_region 6 with fail;have a0:∀E:Up w1,E.to.cell? ⟨w.heap.size+1,0,none⟩=some (.int .i64 t.fn):=λE=>E.cell (G2.o 0 _ P0.o);have a1:∀E:Up w1,E.to.cell? ⟨w.heap.size+1,1,none⟩=some (.int .i64 t.at_):=λE=>E.cell (G2.o 1 _ P1.o);have a2:∀E:Up w1,E.to.cell? ⟨w.heap.size+1,2,none⟩=some (.int .i64 t.loop):=λE=>E.cell (G2.o 2 _ P2.o);have a3:∀E:Up w1,E.to.cell? ⟨w.heap.size+1,3,none⟩=some (.slice Ai t.ins.length ni):=λE=>E.cell (G2.o 3 _ P3.o);have b0:∀E:Up w1,E.to.cell? ⟨w.heap.size,0,none⟩=some (.slice Af p.fns.length nf):=λE=>E.cell (G1.o 0 _ PF.o);clear e3 e4;by_cases f0:t.fn<0
 ·rw[if_pos f0] at hr;dsimp only at hr;have f0':decide (t.fn<0)=true:=decide_eq_true f0;have HR:=hI hr;clear hr;refine aD (by kernel_rfl) (by kernel_rfl) ?_;repeat (go_big_quiet_step (fail))
  refine wpQuiet_nil ?_;intro w2 hE;obtain⟨E,rfl⟩:=hE;obtain⟨w2,k2⟩:=E;have K2:=btZ K1 k2;dsimp only;clear k2;go_wp2_with fail;go_ret;exact⟨by rw[<-HR.o];first | done | rfl,K2.o⟩
 rw[if_neg f0] at hr;obtain⟨k,hk⟩:=Int.eq_ofNat_of_zero_le (Int.not_lt.1 f0);rw[hk,Int.toNat_natCast] at hr;have f0':decide ((k:Int)<0)=false:=decide_eq_false (by omega);rw[hk] at a0;have HKF:=hI hk;clear hk f0;by_cases f1:p.fns.length<=k
 ·rw[List.getElem?_eq_none (by simpa using f1)] at hr;dsimp only at hr;have f1':(p.fns.length:Int)<=k:=by omega
  have f1'':decide ((p.fns.length:Int)<=(k:Int))=true:=decide_eq_true f1';have f1n:decide (p.fns.length<=k)=true:=decide_eq_true f1;have HR:=hI hr;clear hr;refine aD (by kernel_rfl) (by kernel_rfl) ?_;repeat (go_big_quiet_step (fail))
  refine wpQuiet_nil ?_;intro w2 hE;obtain⟨E,rfl⟩:=hE;obtain⟨w2,k2⟩:=E;have K2:=btZ K1 k2;dsimp only;clear k2;go_wp2_with fail;go_ret;exact⟨by rw[<-HR.o];first | done | rfl,K2.o⟩
 obtain⟨b,off,f,fcs,rfl,hb,hf,hfl,hFR,hat⟩:=QF.o.at_ (i:=k) (by omega);rw[List.getElem?_map,hf] at hr;dsimp only [Option.map_some,eZ] at hr;obtain⟨A4,n4,A5,n5,hfcs,-,q5,-⟩:=id hFR;have l5:=aP q5;have RF:Hid (w1.rangeAt b (off+k*5) fcs):=λj v hj=>(K1.o.cell hb).trans (hat j v hj);have e4:fcs[4]? = some (.slice A5 f.code.length n5):=by rw[hfcs];rfl
 have FR:=hI hFR;have c4:∀E:Up w1,E.to.cell? ⟨b,off+k*5+4,none⟩=some (.slice A5 f.code.length n5):=λE=>E.cell (RF.o 4 _ e4);have f1':(k:Int)<p.fns.length:=by omega
 have f1'':decide ((p.fns.length:Int)<=(k:Int))=false:=decide_eq_false (by omega);have f1n:decide (p.fns.length<=k)=false:=decide_eq_false f1;clear q5 hFR hat hfcs e4 f1;by_cases g1:t.at_<0
 ·rw[if_pos (.inl g1)] at hr;have g1':decide (t.at_<0)=true:=decide_eq_true g1;have HR:=hI hr;clear hr;refine aD (by kernel_rfl) (by kernel_rfl) ?_;repeat (go_big_quiet_step (fail))
  refine wpQuiet_nil ?_;intro w2 hE;obtain⟨E,rfl⟩:=hE;obtain⟨w2,k2⟩:=E;have K2:=btZ K1 k2;dsimp only;clear k2;go_wp2_with fail;go_ret;exact⟨by rw[<-HR.o];first | done | rfl,K2.o⟩
 have g1':decide (t.at_<0)=false:=decide_eq_false g1;by_cases g2:(f.code.length:Int)<=t.at_
 ·rw[if_pos (.inr (.inl g2))] at hr;have g2':decide ((f.code.length:Int)<=t.at_)=true:=decide_eq_true g2;have HR:=hI hr;clear hr;refine aD (by kernel_rfl) (by kernel_rfl) ?_;repeat (go_big_quiet_step (fail))
  refine wpQuiet_nil ?_;intro w2 hE;obtain⟨E,rfl⟩:=hE;obtain⟨w2,k2⟩:=E;have K2:=btZ K1 k2;dsimp only;clear k2;go_wp2_with fail;go_ret;exact⟨by rw[<-HR.o];first | done | rfl,K2.o⟩
 have g2':decide ((f.code.length:Int)<=t.at_)=false:=decide_eq_false g2;by_cases g3:t.loop<0
 ·rw[if_pos (.inr (.inr (.inl g3)))] at hr;have g3':decide (t.loop<0)=true:=decide_eq_true g3;have HR:=hI hr;clear hr;refine aD (by kernel_rfl) (by kernel_rfl) ?_;repeat (go_big_quiet_step (fail))
  refine wpQuiet_nil ?_;intro w2 hE;obtain⟨E,rfl⟩:=hE;obtain⟨w2,k2⟩:=E;have K2:=btZ K1 k2;dsimp only;clear k2;go_wp2_with fail;go_ret;exact⟨by rw[<-HR.o];first | done | rfl,K2.o⟩
 have g3':decide (t.loop<0)=false:=decide_eq_false g3;by_cases g4:(t.ins.length:Int)<t.loop
 ·rw[if_pos (.inr (.inr (.inr g4)))] at hr;have g4':decide ((t.ins.length:Int)<t.loop)=true:=decide_eq_true g4;have HR:=hI hr;clear hr;refine aD (by kernel_rfl) (by kernel_rfl) ?_;repeat (go_big_quiet_step (fail))
  refine wpQuiet_nil ?_;intro w2 hE;obtain⟨E,rfl⟩:=hE;obtain⟨w2,k2⟩:=E;have K2:=btZ K1 k2;dsimp only;clear k2;go_wp2_with fail;go_ret;exact⟨by rw[<-HR.o];first | done | rfl,K2.o⟩
 have g4':decide ((t.ins.length:Int)<t.loop)=false:=decide_eq_false g4;rw[if_neg (by omega)] at hr;refine aD (by kernel_rfl) (by kernel_rfl) ?_;repeat (go_big_quiet_step (fail))
 refine wpQuiet_nil ?_;intro w2 hE;obtain⟨E,rfl⟩:=hE;obtain⟨w2,k2⟩:=E;have K2:=btZ K1 k2;have D1:=hI (G1.o.on k2);have D2:=hI (G2.o.on k2);have RF2:Hid (w2.rangeAt b (off+k*5) fcs):=λj v hj=>(k2.cell (Nat.lt_of_lt_of_le hb K1.o.size)).trans (RF.o j v hj);dsimp only;clear k2 a0 a1 a2 a3 b0 c4 G1 G2 RF;go_upto_region 8 with fail;go_cut [6] (λs6 wx=>∃g:Nat,s6=.pointer (some ⟨g,0,none⟩)/\w2.heap.size<=g/\Hid (aA wx g (fcs++ca))/\Hid (Below w2.heap.size w2 wx))
 case first=>
  obtain⟨A4,n4,A5',n5',rfl,-⟩:=FR.o
  obtain⟨fi,fe,ct,cb,rfl,-,-,⟨s1,m1,rfl,⟨S1,n1,rfl,-⟩,⟨M1,o1,rfl,-⟩,-⟩,⟨s2,m2,rfl,⟨S2,n2,rfl,-⟩,⟨M2,o2,rfl,-⟩,-⟩,-⟩:=HT.o
  obtain rfl:fi=.slice Ai t.ins.length ni:=by have:=P3.o;injection this
  obtain rfl:fe=.slice Ae t.exits.length ne:=by have:=P4.o;injection this
  have RA:Hid (∀E:Up w2,E.to.rangeAt (w.heap.size+1) 0 ([.int .i64 t.fn,.int .i64 t.at_,.int .i64 t.loop,.slice Ai t.ins.length ni,.slice Ae t.exits.length ne]++[.int .i64 t.turn.at_,.int .i64 t.turn.steps,.slice S1 t.turn.sets.length n1,.slice M1 t.turn.makes.length o1]++[.int .i64 t.back.at_,.int .i64 t.back.steps,.slice S2 t.back.sets.length n2,.slice M2 t.back.makes.length o2])):=λE=>(D2.o.on E.below).range
  have RB:Hid (∀E:Up w2,E.to.rangeAt b (off+k*5) [.int .i64 f.params,.int .i64 f.regs,.bool f.gen,.slice A4 f.caught.length n4,.slice A5' f.code.length n5']):=λE j v hj=>E.cell (RF2.o j v hj)
  have a0:∀E:Up w2,E.to.cell? ⟨w.heap.size+1,0,none⟩=some (.int .i64 k):=λE=>E.cell (by have:=D2.o 0 _ rfl;rw[HKF.o] at this;exact this)
  have b0:∀E:Up w2,E.to.cell? ⟨w.heap.size,0,none⟩=some (.slice (some ⟨b,off,none⟩) p.fns.length nf):=λE=>E.cell (D1.o 0 _ PF.o)
  have LA:Hid ((prog.info? 34).map (·.size)=some 13):=tP
  have LF:Hid ((prog.info? 99).map (·.size)=some 5):=xV
  refine cV (λw'=>∃E:Up w2,w'=E.to) 8 [8,9] [8] (by kernel_rfl) (by decide) (by kernel_rfl) (λ_ _ d _ _ h=>by cases d <;> exact h) ⟨⟨_,(Below.refl _ w2).drew⟩,rfl⟩ ?_
  simp only[List.take_succ_cons,List.take_zero]
  generalize hqq:(λa'=>gA _ _ _ _ _ _ a' _)=qq
  have HQQ:=hI hqq
  clear hqq
  repeat (first
   | (refine aO 34 _ rfl rfl (w.heap.size+1) 0 rfl _ _ RA.o underlying34 rfl LA.o ?_;go_simp)
   | (refine aO 99 _ rfl rfl b (off+k*5) rfl _ _ RB.o underlying99 rfl LF.o ?_;go_simp)
   | go_big_quiet_step (fail))
  refine wpQuiet_nil ?_
  rw[<-HQQ.o]
  refine bA rfl (λK hK=>?_)
  go_simp
  refine hK _ _ (λ_=>⟨⟨_,((Below.refl _ w2).alloc (Nat.le_refl _) _).drew⟩,rfl⟩) ?_
  clear hK K
  refine bP [9] _ _ (by kernel_rfl) (by kernel_rfl) ?_
  simp only[List.filterMap_cons,List.filterMap_nil,List.getElem?_toArray,List.getElem?_cons_zero,List.getElem?_cons_succ]
  have TH:(w2.alloc (.cells #[.int .i64 0,.int .i64 0,.bool false,.slice none 0 0,.slice none 0 0,.int .i64 0,.int .i64 0,.int .i64 0,.slice none 0 0,.slice none 0 0,.int .i64 0,.int .i64 0,.slice none 0 0,.slice none 0 0,.int .i64 0,.int .i64 0,.slice none 0 0,.slice none 0 0] 131)).drew.there w2.heap.size 0 18:=uJ (wG _ _) (by decide)
  refine wpList_store_mid rfl 131 _ _ rfl w2.heap.size 0 _ rfl rfl TH tR (oC (by simp[Value.oneCell'])) ?_
  have RW:=World.rangeAt_setCells_same _ _ _ ([.int .i64 f.params,.int .i64 f.regs,.bool f.gen,.slice A4 f.caught.length n4,.slice A5' f.code.length n5',.int .i64 t.fn,.int .i64 t.at_,.int .i64 t.loop,.slice Ai t.ins.length ni,.slice Ae t.exits.length ne,.int .i64 t.turn.at_,.int .i64 t.turn.steps,.slice S1 t.turn.sets.length n1,.slice M1 t.turn.makes.length o1,.int .i64 t.back.at_,.int .i64 t.back.steps,.slice S2 t.back.sets.length n2,.slice M2 t.back.makes.length o2]:List Value) TH
  have KW:=ad9 (B:=w2.heap.size) (Nat.le_refl _) ([.int .i64 f.params,.int .i64 f.regs,.bool f.gen,.slice A4 f.caught.length n4,.slice A5' f.code.length n5',.int .i64 t.fn,.int .i64 t.at_,.int .i64 t.loop,.slice Ai t.ins.length ni,.slice Ae t.exits.length ne,.int .i64 t.turn.at_,.int .i64 t.turn.steps,.slice S1 t.turn.sets.length n1,.slice M1 t.turn.makes.length o1,.int .i64 t.back.at_,.int .i64 t.back.steps,.slice S2 t.back.sets.length n2,.slice M2 t.back.makes.length o2]:List Value) 0 _ ((aB w2 (.cells #[.int .i64 0,.int .i64 0,.bool false,.slice none 0 0,.slice none 0 0,.int .i64 0,.int .i64 0,.int .i64 0,.slice none 0 0,.slice none 0 0,.int .i64 0,.int .i64 0,.slice none 0 0,.slice none 0 0,.int .i64 0,.int .i64 0,.slice none 0 0,.slice none 0 0] 131)).drew)
  generalize hw9:World.setCells _ _ _ _=w9
  have RW:=hI (show w9.rangeAt w2.heap.size 0 _ by rw[<-hw9];exact RW)
  have KW:=hI (show Below w2.heap.size w2 w9 by rw[<-hw9];exact KW)
  clear hw9
  go_wp2_with fail
  go_meet
  case rel=>exact⟨w2.heap.size,rfl,Nat.le_refl _,λj v hj=>by have:=RW.o j v hj;rw[Nat.zero_add] at this;exact this,KW.o⟩
 case rest=>
  obtain⟨w3,hw3⟩:∃w3,w3=wc:=⟨_,rfl⟩;subst hw3;obtain⟨g,rfl,hg,HC,K3⟩:=hcut;have KK:=btZ K2 K3.o;have CR:Hid (dY w3 w3.heap.size (fcs++ca) f t):=⟨fcs,ca,rfl,FR.o.keep KK.o.size (λ_ h=>KK.o.cell h),HT.o.below KK.o⟩;have HI:=hI CR.o.len;have F2:=hI (D2.o.on K3.o);have hz:g<w3.heap.size:=by obtain⟨_,_,_,_,hfc,-⟩:=FR.o;refine dP (HC.o 0 (.int .i64 f.params) ?_);rw[hfc];rfl
  have hz2:w.heap.size+1<w3.heap.size:=dP (F2.o 0 _ P0.o);clear hg;have e3:=F2.o 3 _ P3.o;go_wp2_with fail;clear e3;obtain⟨e0,he0⟩:∃e0,rO aG (eZ f) t 0 t.ins=e0:=⟨_,rfl⟩;have hr1:(if e0≠0 then e0 else if(t.loop=0/\lT t.turn=false)\/(0<t.loop/\(t.turn.at_≠t.at_\/bR (eZ f) t.ins t.turn t.loop=false)) then 3 else if t.back.at_≠t.at_\/bR (eZ f) t.ins t.back t.ins.length=false then 3 else if t.exits.all (bR (eZ f) t.ins · t.ins.length) then 0 else 3)=r:=by rw[<-hr,<-he0];rfl
  have HR:=hI hr1;have HE0:=hI he0;clear hr hr1 he0;go_loopw [83] (λi wr=>∃j:Nat,i=.int .i64 j/\j<=t.ins.length/\Hid (rO aG (eZ f) t j (t.ins.drop j)=e0)/\Hid (Below w3.heap.size w3 wr)) (λi _=>t.ins.length - (RowKit.intOf i).toNat);case atStart=>exact⟨0,rfl,by omega,HE0.o,Below.refl _ _⟩
  case round=>
   obtain⟨j,rfl,hj,KP,KW⟩:=hrel;have kk:=btZ KK KW.o;by_cases hlt:j<t.ins.length
   ·obtain⟨b',off',y,rfl,hb',hy,wy,hat'⟩:=rN QI.o hlt;obtain⟨g0,g1,g2,g3,g4,g5,g6,g7⟩:=acX hat' hb' kk.o;have hji:(j:Int)<t.ins.length:=(by omega);have e:=KP.o;rw[uZ hy] at e;have E:Hid ((if !lU y.op then 7 else if !eY aG (eZ f) t y j then 3 else rO aG (eZ f) t (j+1) (t.ins.drop (j+1)))=e0):=(by rw[<-e];rfl);have hzr:g<wr.heap.size:=Nat.lt_of_lt_of_le hz KW.o.size;have HCr:=hI (HC.o.on KW.o);have WY:=hI wy;obtain⟨wa,hwa⟩:∃wa,wa=wr.alloc (.cells ⟨jS y⟩ 92):=⟨_,rfl⟩;have KA:Hid (Below wr.heap.size wr wa):=(by rw[hwa];exact aB _ _);have YA:Hid (aA wa wr.heap.size (jS y)):=(by rw[hwa];exact ad5 _ _ _);have HWA:=hI hwa;have hza:wr.heap.size<wa.heap.size:=(by rw[hwa];simp);unfold jS at HWA;clear hat' hy e hwa;go_wp2_with fail;rw[<-HWA.o];refine(of_c y.op wa).mono ?_;rintro e w4 ⟨rfl,k4⟩;have K4:=btZ KA k4;have YB:=hI (YA.o.on k4);obtain⟨is,his⟩:∃is,lU y.op=is:=⟨_,rfl⟩;have E1:=E.o;rw[his] at E1 ⊢;have HCs:=hI ((HCr.o.on KA.o).on k4);have hz4:wr.heap.size<w4.heap.size:=Nat.lt_of_lt_of_le hza k4.size;have hg4:g<w4.heap.size:=(by omega);have y0:=YB.o 0 _ rfl;have y1:=YB.o 1 _ rfl;have y2:=YB.o 2 _ rfl;have y3:=YB.o 3 _ rfl;have y4:=YB.o 4 _ rfl;have y5:=YB.o 5 _ rfl;have y6:=YB.o 6 _ rfl;have y7:=YB.o 7 _ rfl;clear his g0 g1 g2 g3 g4 g5 g6 g7 k4;unfold lR;have KB:Hid (Below w4.heap.size w4 (w4.alloc (.cells #[.int .i64 (cF y.op).asks,.int .i64 (cF y.op).low,.int .i64 (cF y.op).high,.bool (cF y.op).k,.bool (cF y.op).tells,.int .i64 (cF y.op).exit] 133))):=aB _ _;cases is;case false=>have E2:Hid (7=e0):=(by rw[<-E1];exact rfl);have HN:Hid (7=r):=(by have e:=HR.o;rw[<-E2.o,if_pos (by decide)] at e;exact e);clear E1;go_wp2_with fail;go_ret;exact⟨by rw[<-HN.o];first | done | rfl,kk.o.trans ((K4.o.trans (KB.o.mono K4.o.size)).mono kk.o.size)⟩
    have E2:Hid ((if !eY aG (eZ f) t y j then 3 else rO aG (eZ f) t (j+1) (t.ins.drop (j+1)))=e0):=(by rw[<-E1];exact rfl);clear E1;have KD:=hI (KW.o.trans ((K4.o.trans (KB.o.mono K4.o.size)).mono KW.o.size));have FC:=hI (adA (fcs++ca) f t y j _ (CR.o.below KD.o) WY.o);unfold lR acY at FC;obtain⟨fo,hfo⟩:∃fo,eY aG (eZ f) t y j=fo:=⟨_,rfl⟩;have E3:=E2.o;rw[hfo] at E3 FC;have HCb:=hI (HCs.o.on KB.o);clear hfo E2;go_wp2_with (refine wpList_load_mid rfl 131 _ rfl g 0 rfl (fcs++ca) _ HCb.o.range underlying131 rfl HI.o ?_);refine FC.o.mono ?_;rintro e w5 ⟨rfl,k5⟩;have KE:=btZ KD k5;clear k5 y0 y1 y2 y3 y4 y5 y6 y7;cases fo;case false=>have E4:Hid (3=e0):=(by rw[<-E3];exact rfl);have HN:Hid (3=r):=(by have e:=HR.o;rw[<-E4.o,if_pos (by decide)] at e;exact e);clear E3;go_wp2_with fail;go_ret;exact⟨by rw[<-HN.o];first | done | rfl,KK.o.trans (KE.o.mono KK.o.size)⟩
    have E4:Hid (rO aG (eZ f) t (j+1) (t.ins.drop (j+1))=e0):=(by rw[<-E3];exact rfl);clear E3;go_wp2_with fail;go_roundw;case rel=>exact⟨j+1,by go_num,by omega,E4.o,KE.o⟩
    case measure=>simp[RowKit.intOf];omega
   ·have hd:t.ins.drop j=[]:=List.drop_eq_nil_of_le (by omega);have e:=KP.o;rw[hd] at e;have e00:e0=0:=(by rw[<-e];rfl);have hji:¬(j:Int)<t.ins.length:=(by omega);have e:=HR.o;rw[if_neg (by rw[e00];simp)] at e;have HR1:=hI e;have F2r:=hI (F2.o.on KW.o);have HCr:=hI (HC.o.on KW.o);have hzr:g<wr.heap.size:=Nat.lt_of_lt_of_le hz KW.o.size;have hzr2:w.heap.size+1<wr.heap.size:=Nat.lt_of_lt_of_le hz2 KW.o.size;obtain⟨ct,cb,p5,p10,xt,xb⟩:=HT.o.at510;have XT:=hI xt;have XB:=hI xb;have P5:=hI p5;have P10:=hI p10;clear e e00 hd KP hlt hj HE0 p5 p10 xt xb;have kw:=btZ KK KW.o;have LT:Hid ((prog.info? 32).map (·.size)=some ct.length):=(by obtain⟨_,_,rfl,-⟩:=XT.o;exact rT);have LB:Hid ((prog.info? 32).map (·.size)=some cb.length):=(by obtain⟨_,_,rfl,-⟩:=XB.o;exact rT);obtain⟨bt,hbt⟩:∃b,(decide (t.loop=0) && !lT t.turn)=b:=⟨_,rfl⟩;obtain⟨bu,hbu⟩:∃b,(decide (0<t.loop) && (t.turn.at_ != t.at_ || !bR (eZ f) t.ins t.turn t.loop))=b:=⟨_,rfl⟩;obtain⟨bv,hbv⟩:∃b,(t.back.at_ != t.at_ || !bR (eZ f) t.ins t.back t.ins.length)=b:=⟨_,rfl⟩;have HR2:Hid ((if bt=true then 3 else if bu=true then 3 else if bv=true then 3 else if t.exits.all (bR (eZ f) t.ins · t.ins.length) then 0 else 3)=r):=(by rw[<-HR1.o,<-hbt,<-hbu,<-hbv];cases lT t.turn <;> cases bR (eZ f) t.ins t.turn t.loop <;> cases bR (eZ f) t.ins t.back t.ins.length <;> by_cases c1:t.loop=0 <;> by_cases c2:0<t.loop <;> by_cases c3:t.turn.at_=t.at_ <;> by_cases c4:t.back.at_=t.at_ <;> simp[c1,c2,c3,c4,Hid]);have HBT:=hI hbt;have HBU:=hI hbu;have HBV:=hI hbv;clear hbt hbu hbv HR1;go_upto_region 18 with fail;go_cut [103] (λc wx=>c=.bool bt/\Hid (Below wr.heap.size wr wx))
    case first=>
     have e2:=F2r.o 2 _ P2.o;have RT:Hid (wr.rangeAt (w.heap.size+1) 5 ct):=λa v hv=>F2r.o _ _ (P5.o a v hv);have BC:=hI (bare_c ct t.turn wr w.heap.size w XT.o);obtain⟨q,hq⟩:∃q,lT t.turn=q:=⟨_,rfl⟩;have e:=HBT.o;rw[hq] at BC e;have E:=hI e;clear hq e;by_cases c:t.loop=0;·have e:=E.o;rw[decide_eq_true c,Bool.true_and] at e;have E:=hI e;rw[c] at e2;clear e c;go_wp2_with (refine b8 32 _ rfl rfl (w.heap.size+1) 5 rfl ct _ RT.o underlying32 rfl LT.o ?_);refine BC.o.mono ?_;rintro e w5 ⟨rfl,k5⟩;have K5:=hI k5;clear k5 e2;go_wp2_with fail;go_meet;case rel=>exact⟨by rw[<-E.o];first | done | rfl,K5.o⟩
     ·have c':(t.loop == 0)=false:=bF c;have e:=E.o;rw[decide_eq_false c,Bool.false_and] at e;have E:=hI e;clear e;go_wp2_with fail;go_meet;case rel=>exact⟨by rw[<-E.o];first | done | rfl,Below.refl _ _⟩
    case rest=>
    obtain⟨wa,hwa⟩:∃wa,wa=wc:=⟨_,rfl⟩;subst hwa;obtain⟨rfl,ka⟩:=hcut;have KA:=btZ kw ka.o;have F3:=hI (F2r.o.on ka.o);have HC3:=hI (HCr.o.on ka.o);have hza:g<wa.heap.size:=Nat.lt_of_lt_of_le hzr ka.o.size;have hza2:w.heap.size+1<wa.heap.size:=Nat.lt_of_lt_of_le hzr2 ka.o.size;have KC:=btZ KW ka.o;cases bt;case true=>have HN:Hid (3=r):=(by rw[<-HR2.o];rfl);go_wp2_with fail;go_ret;exact⟨by rw[<-HN.o];first | done | rfl,KA.o⟩
    go_upto_region 19 with fail;go_cut [103] (λc wx=>c=.bool bu/\Hid (Below wa.heap.size wa wx))
    case first=>
     have e2:=F3.o 2 _ P2.o;have e1:=F3.o 1 _ P1.o;have RT:Hid (wa.rangeAt (w.heap.size+1) 5 ct):=λa v hv=>F3.o _ _ (P5.o a v hv);have e5:wa.cell? ⟨w.heap.size+1,5,none⟩=some (.int .i64 t.turn.at_):=(by obtain⟨_,_,hct,-⟩:=XT.o;exact RT.o 0 _ (by rw[hct];rfl));have BC:=hI (qN (fcs++ca) ct f t t.turn t.loop wa (CR.o.below KC.o) (XT.o.keep KA.o.size (λ_ h=>KA.o.cell h)));obtain⟨q,hq⟩:∃q,bR (eZ f) t.ins t.turn t.loop=q:=⟨_,rfl⟩;have e:=HBU.o;rw[hq] at BC e;have E:=hI e;clear hq e;by_cases c:0<t.loop
     ·have e:=E.o;rw[decide_eq_true c,Bool.true_and] at e;have E:=hI e;have c':decide (0<t.loop)=true:=decide_eq_true c;clear e;by_cases d:t.turn.at_=t.at_;·have d':(t.turn.at_ != t.at_)=false:=(by simp[d]);have e:=E.o;rw[d',Bool.false_or] at e;have E:=hI e;rw[d] at e5;clear e d d';go_wp2_with (first | (refine b8 131 _ rfl rfl g 0 rfl (fcs++ca) _ HC3.o.range underlying131 rfl HI.o ?_) | (refine b8 32 _ rfl rfl (w.heap.size+1) 5 rfl ct _ RT.o underlying32 rfl LT.o ?_));refine BC.o.mono ?_;rintro e w5 ⟨rfl,k5⟩;have K5:=hI k5;clear k5 e2 e1 e5;go_wp2_with fail;go_meet;case rel=>exact⟨by rw[<-E.o];first | done | rfl,K5.o⟩
      ·have d':(t.turn.at_ != t.at_)=true:=(by simp[d]);have e:=E.o;rw[d',Bool.true_or] at e;have E:=hI e;clear e;go_wp2_with fail;go_meet;case rel=>exact⟨by rw[<-E.o];first | done | rfl,Below.refl _ _⟩
     ·have c':decide (0<t.loop)=false:=decide_eq_false c;have e:=E.o;rw[c',Bool.false_and] at e;have E:=hI e;clear e;go_wp2_with fail;go_meet;case rel=>exact⟨by rw[<-E.o];first | done | rfl,Below.refl _ _⟩
    case rest=>
    obtain⟨wb,hwb⟩:∃wb,wb=wc:=⟨_,rfl⟩;subst hwb;obtain⟨rfl,kb⟩:=hcut;have KB:=btZ KA kb.o;have F4:=hI (F3.o.on kb.o);have HC4:=hI (HC3.o.on kb.o);have hzb:g<wb.heap.size:=Nat.lt_of_lt_of_le hza kb.o.size;have hzb2:w.heap.size+1<wb.heap.size:=Nat.lt_of_lt_of_le hza2 kb.o.size;have KD:=btZ KC kb.o;cases bu;case true=>have HN:Hid (3=r):=(by rw[<-HR2.o];rfl);go_wp2_with fail;go_ret;exact⟨by rw[<-HN.o];first | done | rfl,KB.o⟩
    go_upto_region 21 with fail;go_cut [133] (λc wx=>c=.bool bv/\Hid (Below wb.heap.size wb wx))
    case first=>
     have e3:=F4.o 3 _ P3.o;have e1:=F4.o 1 _ P1.o;have RT:Hid (wb.rangeAt (w.heap.size+1) 9 cb):=λa v hv=>F4.o _ _ (P10.o a v hv);have e9:wb.cell? ⟨w.heap.size+1,9,none⟩=some (.int .i64 t.back.at_):=(by obtain⟨_,_,hct,-⟩:=XB.o;exact RT.o 0 _ (by rw[hct];rfl));have BC:=hI (qN (fcs++ca) cb f t t.back t.ins.length wb (CR.o.below KD.o) (XB.o.keep KB.o.size (λ_ h=>KB.o.cell h)));obtain⟨q,hq⟩:∃q,bR (eZ f) t.ins t.back t.ins.length=q:=⟨_,rfl⟩;have e:=HBV.o;rw[hq] at BC e;have E:=hI e;clear hq e;by_cases d:t.back.at_=t.at_;·have d':(t.back.at_ != t.at_)=false:=(by simp[d]);have e:=E.o;rw[d',Bool.false_or] at e;have E:=hI e;rw[d] at e9;clear e d d';go_wp2_with (first | (refine b8 131 _ rfl rfl g 0 rfl (fcs++ca) _ HC4.o.range underlying131 rfl HI.o ?_) | (refine b8 32 _ rfl rfl (w.heap.size+1) 9 rfl cb _ RT.o underlying32 rfl LB.o ?_));refine BC.o.mono ?_;rintro e w5 ⟨rfl,k5⟩;have K5:=hI k5;clear k5 e3 e1 e9;go_wp2_with fail;go_meet;case rel=>exact⟨by rw[<-E.o];first | done | rfl,K5.o⟩
     ·have d':(t.back.at_ != t.at_)=true:=(by simp[d]);have e:=E.o;rw[d',Bool.true_or] at e;have E:=hI e;clear e;go_wp2_with fail;go_meet;case rel=>exact⟨by rw[<-E.o];first | done | rfl,Below.refl _ _⟩
    case rest=>
    obtain⟨wd,hwd⟩:∃wd,wd=wc:=⟨_,rfl⟩;subst hwd;obtain⟨rfl,kd⟩:=hcut;have KE:=btZ KB kd.o;have F5:=hI (F4.o.on kd.o);have HC5:=hI (HC4.o.on kd.o);have hzd:g<wd.heap.size:=Nat.lt_of_lt_of_le hzb kd.o.size;have hzd2:w.heap.size+1<wd.heap.size:=Nat.lt_of_lt_of_le hzb2 kd.o.size;have KF:=btZ KD kd.o;cases bv;case true=>have HN:Hid (3=r):=(by rw[<-HR2.o];rfl);go_wp2_with fail;go_ret;exact⟨by rw[<-HN.o];first | done | rfl,KE.o⟩
    have HR3:Hid ((if t.exits.all (bR (eZ f) t.ins · t.ins.length) then 0 else 3)=r):=(by rw[<-HR2.o];rfl);have e4:=F5.o 4 _ P4.o;go_wp2_with fail;clear e4;go_loopw [153] (λi wx=>∃j:Nat,i=.int .i64 j/\j<=t.exits.length/\Hid (∀i x,i<j->t.exits[i]? = some x->bR (eZ f) t.ins x t.ins.length=true)/\Hid (Below wd.heap.size wd wx)) (λi _=>t.exits.length - (RowKit.intOf i).toNat);case atStart=>exact⟨0,rfl,by omega,λi x hi _=>by omega,Below.refl _ _⟩
    case round=>
     obtain⟨j,rfl,hj,KP,KX⟩:=hrel;have kx:=btZ KE KX.o;have KG:=btZ KF KX.o;have F6:=hI (F5.o.on KX.o);have HC6:=hI (HC5.o.on KX.o);have hzx:g<wr.heap.size:=Nat.lt_of_lt_of_le hzd KX.o.size;have hzx2:w.heap.size+1<wr.heap.size:=Nat.lt_of_lt_of_le hzd2 KX.o.size;by_cases hlt:j<t.exits.length
     ·obtain⟨b',off',y,ys,rfl,hb',hy,hyl,hR,hat'⟩:=QE.o.at_ hlt;have hji:(j:Int)<t.exits.length:=(by omega);have HY:=hI hR;obtain⟨s1,m1,rfl,⟨S1,n1,rfl,-⟩,⟨M1,o1,rfl,-⟩,-⟩:=hR;have RY:Hid (wr.rangeAt b' (off'+j*4) [.int .i64 y.at_,.int .i64 y.steps,.slice S1 y.sets.length n1,.slice M1 y.makes.length o1]):=λa v hv=>(kx.o.cell hb').trans (hat' a v hv);have g0:wr.cell? ⟨b',off'+j*4,none⟩=some (.int .i64 y.at_):=RY.o 0 _ rfl;have g1:=RY.o 1 _ rfl;have g2:=RY.o 2 _ rfl;have g3:=RY.o 3 _ rfl;have HX:=hI hy;have KY:Hid (Below wr.heap.size wr (wr.alloc (.cells #[.int .i64 y.at_,.int .i64 y.steps,.slice S1 y.sets.length n1,.slice M1 y.makes.length o1] 32))):=aB _ _;have KZ:=btZ kx KY.o;have BC:=hI (qN (fcs++ca) _ f t y t.ins.length (wr.alloc (.cells #[.int .i64 y.at_,.int .i64 y.steps,.slice S1 y.sets.length n1,.slice M1 y.makes.length o1] 32)) (CR.o.below (KG.o.trans (KY.o.mono KG.o.size))) (HY.o.keep KZ.o.size (λ_ h=>KZ.o.cell h)));have HCy:=hI (HC6.o.on KY.o);have e3:=F6.o 3 _ P3.o;obtain⟨q,hq⟩:∃q,bR (eZ f) t.ins y t.ins.length=q:=⟨_,rfl⟩;rw[hq] at BC;have HQ:=hI hq;clear hat' hy hyl hq;go_wp2_with (refine wpList_load_mid rfl 131 _ rfl g 0 rfl (fcs++ca) _ HCy.o.range underlying131 rfl HI.o ?_);refine BC.o.mono ?_;rintro e w5 ⟨rfl,k5⟩;have K5:=hI (KX.o.trans ((KY.o.trans (k5.mono KY.o.size)).mono KX.o.size));clear k5 g0 g1 g2 g3 e3;cases q;case false=>have HN:Hid (3=r):=(by rw[<-HR3.o,zS HX.o HQ.o];exact rfl);go_wp2_with fail;go_ret;exact⟨by rw[<-HN.o];first | done | rfl,KE.o.trans (K5.o.mono KE.o.size)⟩
      go_wp2_with fail;go_roundw;case rel=>exact⟨j+1,by go_num,by omega,tE KP.o HX.o HQ.o,K5.o⟩
      case measure=>simp[RowKit.intOf];omega
     ·have hji:¬(j:Int)<t.exits.length:=(by omega);have HN:Hid (0=r):=(by rw[<-HR3.o,zR (p:=λx=>bR (eZ f) t.ins x t.ins.length) (k:=j) (by omega) KP.o];exact rfl);go_wp2_with fail;go_ret;exact⟨by rw[<-HN.o];first | done | rfl,kx.o⟩
end
end Go.Proofs.YtjaphgpkkfdaaaaGreatDoor
