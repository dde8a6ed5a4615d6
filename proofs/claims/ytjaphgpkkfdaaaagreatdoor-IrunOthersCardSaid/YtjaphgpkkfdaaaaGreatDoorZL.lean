/- Part of the walk of the given code: contracts of the functions that irun.Run reaches, and plain laws on what it reckons. -/
import Derived.Test.YtjaphgpkkfdaaaaGreatDoorZK
import Derived.Deep.DeepCutAuto
import Derived.Deep.CutBlock
import Derived.Laws.Rows
set_option maxHeartbeats 16000000
set_option maxRecDepth 100000
set_option linter.all false
namespace Go.Proofs.YtjaphgpkkfdaaaaGreatDoor
section
open Go.RowKit
def cU (S:aR) (c:bC):Option (Bool×Bool×Int):=
 if c.kind=0 then some (c.num == 0,(c.vals.length:Int) == 0,0)
 else if c.kind=1 then some (aK c.num 0 ((S.shapes.length:Int) - 1),aK c.num 0 ((S.shapes.length:Int) - 1) && (c.vals.length:Int) == ((fM S.shapes c.num).length:Int),0)
 else if c.kind=2 then some (c.num == 0,true,0)
 else if c.kind=3 then some (c.num == 0,(c.vals.length:Int) == 1,0)
 else if c.kind=4 then some (decide (0≤c.num),!c.vals.any (fun v=>!oL aG S v 3),0)
 else if c.kind=5 then some (aK c.num 0 2,(c.vals.length:Int) == 0,if c.num=0 then 1 else 0)
 else if c.kind=6 then some (aK c.num (-1) 4,(c.vals.length:Int) == 0,0)
 else if c.kind=7 then some (c.num == 0,gS [] c.vals,0)
 else none
theorem uT (n m:Nat):((n:Int) == (m:Int))=decide (n=m):=by
 by_cases h:n=m
 ·subst h;simp
 ·rw[decide_eq_false h];exact beq_eq_false_iff_ne.2 (by omega)
theorem gY {α : Type} (l:List α):((l.length:Int) == 0)=l.isEmpty:=by
 cases l with
 | nil=>rfl
 | cons x t=>exact beq_eq_false_iff_ne.2 (by simp;omega)
theorem y8 {α : Type} (l:List α):((l.length:Int) == 1)=decide (l.length=1):=uT l.length 1
theorem kD (S:aR) (c:bC):kE aG S c=match cU S c with
  | none=>false
  | some (a,b,n)=>a && b && ((c.frames.length:Int) == n) && lL aG S c.vals && c.frames.all (gP aG S):=by
 unfold kE cU
 by_cases k0:c.kind=0
 ·rw[if_pos k0,if_pos k0];simp only[gY]
 rw[if_neg k0,if_neg k0]
 by_cases k1:c.kind=1
 ·rw[if_pos k1,if_pos k1]
  simp only[gY,uT]
  cases aK c.num 0 ((S.shapes.length:Int) - 1) <;> simp
 rw[if_neg k1,if_neg k1]
 by_cases k2:c.kind=2
 ·rw[if_pos k2,if_pos k2];simp only[gY,Bool.and_true]
 rw[if_neg k2,if_neg k2]
 by_cases k3:c.kind=3
 ·rw[if_pos k3,if_pos k3];simp only[gY,y8]
 rw[if_neg k3,if_neg k3]
 by_cases k4:c.kind=4
 ·rw[if_pos k4,if_pos k4]
  simp only[gY]
  rw[List.all_eq_not_any_not]
 rw[if_neg k4,if_neg k4]
 by_cases k5:c.kind=5
 ·rw[if_pos k5,if_pos k5]
  simp only[gY]
  by_cases n0:c.num=0
  ·rw[if_pos n0,if_pos n0];simp only[y8]
  ·rw[if_neg n0,if_neg n0];simp only[gY];cases c.frames <;> simp
 rw[if_neg k5,if_neg k5]
 by_cases k6:c.kind=6
 ·rw[if_pos k6,if_pos k6];simp only[gY]
 rw[if_neg k6,if_neg k6]
 by_cases k7:c.kind=7
 ·rw[if_pos k7,if_pos k7];simp only[gY]
 rw[if_neg k7,if_neg k7]
 rfl
theorem ccell_c (cs:List Value) (c:bC) (S:aR) (sb:Nat) (w:World) (hc:jY w w.heap.size cs c) (h:iJ w sb S) (h600:c.vals.length≤600) :
  Calls Tryz.prog 85 #[.pointer (some ⟨sb,0,none⟩),.agg ⟨cs⟩] w (aM (.bool (kE aG S c)) w):=by
 obtain⟨kd,nm,vals,frames⟩:=c
 obtain⟨r,hr⟩:∃r,kE aG S ⟨kd,nm,vals,frames⟩=r:=⟨_,rfl⟩
 rw[hr]
 rw[kD] at hr
 obtain⟨vv,fv,rfl,hv,hf,wk,wn⟩:=hc
 dsimp only at hv hf wk wn h600 hr ⊢
 obtain⟨V,cv,rfl,-⟩:=id hv
 obtain⟨F,cf,rfl,-⟩:=id hf
 have lv:=aP hv
 have lf:=aP hf
 have HV:=hI hv
 have HF:=hI hf
 have HST:=hI h
 obtain⟨A0,n0,A1,n1,A2,n2,A3,n3,A4,n4,A5,n5,hh,hb,s0,s1,-⟩:=h.parts
 have ls:=aP s1
 have S1:=hI s1
 have h1:w.cell? ⟨sb,1,none⟩=some (.slice A1 S.shapes.length n1):=hh 1 _ rfl
 obtain⟨w0,hw0⟩:∃w0,w0=(w.alloc (.cells #[.pointer (some ⟨sb,0,none⟩)] 113)).alloc (.cells #[.int .i64 kd,.int .i64 nm,.slice V vals.length cv,.slice F frames.length cf] 55):=⟨_,rfl⟩
 have TB:=jZ w [.pointer (some ⟨sb,0,none⟩)] [.int .i64 kd,.int .i64 nm,.slice V vals.length cv,.slice F frames.length cf] 113 55
 rw[←hw0] at TB
 obtain⟨t1,t2,t3⟩:=TB
 have P1:=hI t1
 have P2:=hI t2
 have k0:=hI t3
 have g1:∀E:Up w0,E.to.cell? ⟨w.heap.size+1,1,none⟩=some (.int .i64 nm):=fun E=>E.cell (t2 1 _ rfl)
 have g2:∀E:Up w0,E.to.cell? ⟨w.heap.size+1,2,none⟩=some (.slice V vals.length cv):=fun E=>E.cell (t2 2 _ rfl)
 have HW:=hI hw0
 have G1:=hI h1
 have HR:=hI hr
 have hz:w.heap.size+1<w0.heap.size:=dP (t2 1 _ rfl)
 clear hw0 hr hh s0 s1 h hv hf t1 t2 t3 h1
 go_enter Tryz.func85,Tryz.ntmps85
 go_upto_region 1 with fail
 rw[←HW.out]
 refine aD (by kernel_rfl) (by kernel_rfl) ?_
 repeat (go_big_quiet_step (fail))
 refine wpQuiet_nil ?_
 rintro _ ⟨E,rfl⟩
 obtain⟨w1,k1⟩:=E
 dsimp only
 have K1:=btZ k0 k1
 have D1:=hI (P1.out.on k1)
 have D2:=hI (P2.out.on k1)
 have hz1:w.heap.size+1<w1.heap.size:=Nat.lt_of_lt_of_le hz k1.size
 have ST1:=hI (HST.out.below K1.out)
 have V1:=hI (HV.out.below K1.out)
 have F1:=hI (HF.out.below K1.out)
 have SH1:=hI (S1.out.below K1.out)
 have G11:Hid (w1.cell? ⟨sb,1,none⟩=some (.slice A1 S.shapes.length n1)):=(K1.out.cell hb).trans G1.out
 have hbw:sb<w1.heap.size:=Nat.lt_of_lt_of_le hb K1.out.size
 clear g1 g2 k1
 have e0:=D2.out 0 _ rfl
 go_upto_block 0 with fail
 clear e0
 go_cut [5,6,7] (fun a b d wx=>∃(nb vb:Bool) (fr:Int),a=.bool nb∧b=.bool vb∧d=.int .i64 fr∧Hid (cU S ⟨kd,nm,vals,frames⟩=some (nb,vb,fr))∧Hid (Below w1.heap.size w1 wx))
 case first=>
  have SELF:=iI w1
  have d1:=D2.out 1 _ rfl
  have d2:=D2.out 2 _ rfl
  have d3:=D2.out 3 _ rfl
  by_cases k0:kd=0
  ·subst k0
   go_wp2_with fail
   go_meet
   case rel=>exact⟨_,_,_,rfl,rfl,rfl,rfl,SELF⟩
  have m0:(kd == 0)=false:=beq_eq_false_iff_ne.2 k0
  by_cases k1:kd=1
  ·subst k1
   have CW:Hid (∀W,Calls Tryz.prog 91 #[.int .i64 nm,.int .i64 0,.int .i64 ((S.shapes.length:Int) - 1)] W fun e w'=>e=.returned (.bool (aK nm 0 ((S.shapes.length:Int) - 1)))∧W=w'):=fun W=>mT _ _ _ W
   obtain⟨q,hq⟩:∃q,aK nm 0 ((S.shapes.length:Int) - 1)=q:=⟨_,rfl⟩
   rw[hq] at CW
   have HQ:=hI hq
   have f0:=ecZ (D1.out 0 _ rfl)
   have f1:=ecZ (D2.out 1 _ rfl)
   have f2:=ecZ G11.out
   have f3:=ecZ (D2.out 2 _ rfl)
   clear hq d1 d2 d3
   go_upto_region 6 with fail
   refine aD (by kernel_rfl) (by kernel_rfl) ?_
   repeat (go_big_quiet_step ((go_at_call 91;with_reducible exact ad6 (CW.out _))))
   refine wpQuiet_nil ?_
   rintro _ ⟨E,rfl⟩
   obtain⟨w2,k2⟩:=E
   dsimp only
   have K2:=hI k2
   have f0:∀E:Up w2,E.to.cell? ⟨w.heap.size,0,none⟩=some (.pointer (some ⟨sb,0,none⟩)):=fun E=>E.cell (f0 ⟨w2,K2.out⟩)
   have f1:∀E:Up w2,E.to.cell? ⟨w.heap.size+1,1,none⟩=some (.int .i64 nm):=fun E=>E.cell (f1 ⟨w2,K2.out⟩)
   have f2:∀E:Up w2,E.to.cell? ⟨sb,1,none⟩=some (.slice A1 S.shapes.length n1):=fun E=>E.cell (f2 ⟨w2,K2.out⟩)
   have f3:∀E:Up w2,E.to.cell? ⟨w.heap.size+1,2,none⟩=some (.slice V vals.length cv):=fun E=>E.cell (f3 ⟨w2,K2.out⟩)
   have SH2:=hI (SH1.out.below K2.out)
   clear k2
   cases q
   case false=>
    go_upto_region 7 with fail
    refine aD (by kernel_rfl) (by kernel_rfl) ?_
    repeat (go_big_quiet_step (fail))
    refine wpQuiet_nil ?_
    rintro _ ⟨E,rfl⟩
    have KE:=btZ K2 E.below
    clear f0 f1 f2 f3
    go_wp2_with fail
    go_meet
    case rel=>exact⟨_,_,_,rfl,rfl,rfl,by show cU S ⟨1,nm,vals,frames⟩=_;have:cU S ⟨1,nm,vals,frames⟩=some (aK nm 0 ((S.shapes.length:Int) - 1),aK nm 0 ((S.shapes.length:Int) - 1) && (vals.length:Int) == ((fM S.shapes nm).length:Int),0):=rfl;rw[this,HQ.out];rfl,KE⟩
   go_upto_region 7 with fail
   refine fI (fun w'=>∃E:Up w2,w'=E.to) [0,1,2,3,4,5,6,7,8,9,10] [11,12,13,14,15] [11,12] (by kernel_rfl) (by kernel_rfl) (fun _ _ d _ _ h=>by cases d <;> exact h) ⟨⟨_,(Below.refl _ w2).drew⟩,rfl⟩ ?_
   simp only[List.filterMap_cons,List.filterMap_nil,List.getElem?_toArray,List.getElem?_cons_zero,List.getElem?_cons_succ]
   generalize hqq:(fun a'=>gA _ _ _ _ _ _ a' _)=qq
   have HQQ:=hI hqq
   clear hqq
   show wpQuiet _ _ _ _ [_,_,_,_,_,_,_,_,_,_,_] _
   repeat (go_big_quiet_step (fail))
   refine wpQuiet_nil ?_
   rw[←HQQ.out]
   clear HQQ qq
   refine bA rfl (fun K hK=>?_)
   go_simp
   refine(aaG A1 n1 S.shapes nm w2.drew (SH2.out.below ((Below.refl _ w2).drew))).mono ?_
   rintro e w5 ⟨v,rfl,sv,k5⟩
   obtain⟨N1,cn,rfl,-⟩:=id sv
   have ln:=aP sv
   have K5:Hid (Below w2.heap.size w2 w5):=(Below.refl _ w2).drew.trans k5
   have KE:=btZ K2 K5.out
   clear k5 sv f0 f1 f2 f3
   refine hK _ _ (fun _=>⟨⟨w5,K5.out⟩,rfl⟩) ?_
   clear hK K
   refine bA rfl (fun K hK=>?_)
   go_simp
   refine hK _ _ (fun _=>⟨⟨w5,K5.out⟩,rfl⟩) ?_
   clear hK K
   refine bP [13,14,15] _ _ (by kernel_rfl) (by kernel_rfl) ?_
   simp only[List.filterMap_cons,List.filterMap_nil,List.getElem?_toArray,List.getElem?_cons_zero,List.getElem?_cons_succ]
   go_wp2_with fail
   go_meet
   case rel=>exact⟨_,_,_,rfl,rfl,rfl,by show cU S ⟨1,nm,vals,frames⟩=_;have:cU S ⟨1,nm,vals,frames⟩=some (aK nm 0 ((S.shapes.length:Int) - 1),aK nm 0 ((S.shapes.length:Int) - 1) && (vals.length:Int) == ((fM S.shapes nm).length:Int),0):=rfl;rw[this,HQ.out];rfl,KE⟩
  have m1:(kd == 1)=false:=beq_eq_false_iff_ne.2 k1
  by_cases k2:kd=2
  ·subst k2
   go_wp2_with fail
   go_meet
   case rel=>exact⟨_,_,_,rfl,rfl,rfl,rfl,SELF⟩
  have m2:(kd == 2)=false:=beq_eq_false_iff_ne.2 k2
  by_cases k3:kd=3
  ·subst k3
   go_wp2_with fail
   go_meet
   case rel=>exact⟨_,_,_,rfl,rfl,rfl,rfl,SELF⟩
  have m3:(kd == 3)=false:=beq_eq_false_iff_ne.2 k3
  by_cases k4:kd=4
  ·subst k4
   have C:=hI (eE hU (fun v=>!oL aG S v 3) V cv vals 123 x9 #[.pointer (some ⟨w.heap.size,0,none⟩)] w1 V1.out (fun w2 k2 x cs hx hR=>by
    obtain⟨rfl,-⟩:=hR
    exact cell1_c x S sb w.heap.size w2 (ST1.out.below k2) (aC k2 (D1.out 0 _ rfl))))
   go_wp2_with fail
   refine C.out.mono ?_
   rintro e w2 ⟨rfl,k2⟩
   have K2:=hI k2
   clear k2 d1 d2 d3
   go_wp2_with fail
   go_meet
   case rel=>exact⟨_,_,_,rfl,rfl,rfl,rfl,K2⟩
  have m4:(kd == 4)=false:=beq_eq_false_iff_ne.2 k4
  by_cases k5:kd=5
  ·subst k5
   have C:=hI (mT nm 0 2 w1)
   obtain⟨q,hq⟩:∃q,aK nm 0 2=q:=⟨_,rfl⟩
   rw[hq] at C
   have HQ:=hI hq
   clear hq
   by_cases n0:nm=0
   ·subst n0
    go_wp2_with fail
    refine C.out.mono ?_
    rintro e w2 ⟨rfl,rfl⟩
    go_wp2_with fail
    go_meet
    case rel=>exact⟨_,_,_,rfl,rfl,rfl,by rw[←HQ.out];rfl,SELF⟩
   ·have b0:(nm == 0)=false:=beq_eq_false_iff_ne.2 n0
    go_wp2_with fail
    refine C.out.mono ?_
    rintro e w2 ⟨rfl,rfl⟩
    go_wp2_with fail
    go_meet
    case rel=>exact⟨_,_,_,rfl,rfl,rfl,by rw[←HQ.out];show cU S ⟨5,nm,vals,frames⟩=_;have:cU S ⟨5,nm,vals,frames⟩=some (aK nm 0 2,(vals.length:Int) == 0,if nm=0 then 1 else 0):=rfl;rw[this,if_neg n0],SELF⟩
  have m5:(kd == 5)=false:=beq_eq_false_iff_ne.2 k5
  by_cases k6:kd=6
  ·subst k6
   have C:=hI (mT nm (-1) 4 w1)
   obtain⟨q,hq⟩:∃q,aK nm (-1) 4=q:=⟨_,rfl⟩
   rw[hq] at C
   have HQ:=hI hq
   clear hq
   go_wp2_with fail
   refine C.out.mono ?_
   rintro e w2 ⟨rfl,rfl⟩
   go_wp2_with fail
   go_meet
   case rel=>exact⟨_,_,_,rfl,rfl,rfl,by rw[←HQ.out];rfl,SELF⟩
  have m6:(kd == 6)=false:=beq_eq_false_iff_ne.2 k6
  by_cases k7:kd=7
  ·subst k7
   have C:=hI (weak_c V cv vals (.pointer (some ⟨sb,0,none⟩)) w1 V1.out h600)
   have e0:=D1.out 0 _ rfl
   obtain⟨q,hq⟩:∃q,gS [] vals=q:=⟨_,rfl⟩
   rw[hq] at C
   have HQ:=hI hq
   clear hq
   go_wp2_with fail
   refine C.out.mono ?_
   rintro e w2 ⟨rfl,k2⟩
   have K2:=hI k2
   clear k2 d1 d2 d3 e0
   go_wp2_with fail
   go_meet
   case rel=>exact⟨_,_,_,rfl,rfl,rfl,by rw[←HQ.out];rfl,K2⟩
  have m7:(kd == 7)=false:=beq_eq_false_iff_ne.2 k7
  have HN:Hid (false=r):=by
   rw[←HR.out];unfold cU;simp only[k0,k1,k2,k3,k4,k5,k6,k7,if_false];trivial
  go_wp2_with fail
  go_ret
  exact⟨by rw[←HN.out];rfl,K1.out⟩
 case rest=>
  obtain⟨w2,hw2⟩:∃w2,w2=wc:=⟨_,rfl⟩
  subst hw2
  obtain⟨nb,vb,fr,rfl,rfl,rfl,HP,KC⟩:=hcut
  have K2:=btZ K1 KC.out
  have HR2:Hid ((nb && vb && ((frames.length:Int) == fr) && lL aG S vals && frames.all (gP aG S))=r):=by
   rw[←HR.out,HP.out];rfl
  have e0:w2.cell? ⟨w.heap.size,0,none⟩=some (.pointer (some ⟨sb,0,none⟩)):=(D1.out.on KC.out) 0 _ rfl
  have e2:w2.cell? ⟨w.heap.size+1,2,none⟩=some (.slice V vals.length cv):=(D2.out.on KC.out) 2 _ rfl
  have e3:w2.cell? ⟨w.heap.size+1,3,none⟩=some (.slice F frames.length cf):=(D2.out.on KC.out) 3 _ rfl
  have E3:=hI e3
  have E0:=hI e0
  have ST2:=hI (ST1.out.below KC.out)
  have CA:=hI (adW V cv vals S sb w2 ST2.out (V1.out.below KC.out))
  have F2:=hI (F1.out.below KC.out)
  obtain⟨q,hq⟩:∃q,lL aG S vals=q:=⟨_,rfl⟩
  rw[hq] at CA HR2
  clear hq
  cases nb
  case false=>
   have HN:Hid (false=r):=by rw[←HR2.out];rfl
   go_wp2_with fail
   go_ret
   exact⟨by rw[←HN.out];rfl,K2.out⟩
  cases vb
  case false=>
   have HN:Hid (false=r):=by rw[←HR2.out];rfl
   go_wp2_with fail
   go_ret
   exact⟨by rw[←HN.out];rfl,K2.out⟩
  obtain⟨fb,hfb⟩:∃b,((frames.length:Int) == fr)=b:=⟨_,rfl⟩
  rw[hfb] at HR2
  cases fb
  case false=>
   have HN:Hid (false=r):=by rw[←HR2.out];rfl
   have hfb2:((frames.length:Int) != fr)=true:=by rw[bne,hfb];rfl
   go_wp2_with fail
   go_ret
   exact⟨by rw[←HN.out];rfl,K2.out⟩
  obtain rfl:fr=(frames.length:Int):=(beq_iff_eq.1 hfb).symm
  clear hfb
  go_wp2_with fail
  refine CA.out.mono ?_
  rintro e w3 ⟨rfl,k3⟩
  have K3:=btZ K2 k3
  cases q
  case false=>
   have HN:Hid (false=r):=by rw[←HR2.out];rfl
   clear k3 e0 e2 e3
   go_wp2_with fail
   go_ret
   exact⟨by rw[←HN.out];rfl,K3.out⟩
  have e3':=aC k3 E3.out
  have e0':=aC k3 E0.out
  have E0':=hI e0'
  have ST3:=hI (ST2.out.below k3)
  have F3:=hI (F2.out.below k3)
  have CF:=hI (pQ (eR w w.heap.size) (fun f=>!gP aG S f) F cf frames 127 x8 #[.pointer (some ⟨w.heap.size,0,none⟩)] w3 F3.out (fun w4 k4 x cs hx hR=>
   cell2_c cs x S sb w.heap.size w4 (hR.keep (Nat.le_trans K3.out.size k4.size) (fun _ hp=>(K3.out.trans (k4.mono K3.out.size)).cell hp)) (ST3.out.below k4) (aC k4 E0'.out)))
  have HN:Hid ((!frames.any fun f=>!gP aG S f)=r):=by rw[←HR2.out,Bool.true_and,Bool.true_and,Bool.true_and,Bool.true_and,List.all_eq_not_any_not];rfl
  clear k3 e0 e2 e3
  go_wp2_with fail
  refine CF.out.mono ?_
  rintro e w4 ⟨rfl,k4⟩
  have K4:=btZ K3 k4
  clear k4 e3' e0'
  go_wp2_with fail
  go_ret
  exact⟨by rw[←HN.out];rfl,K4.out⟩
end
section
open Go.RowKit
theorem tN {S:aR} (h:nS S=false):S.texts.length≤300∧S.cells.length≤300∧S.said.length≤200∧S.ends.length≤100∧∀c∈S.cells,c.vals.length≤600:=by
 unfold nS at h
 simp only[Bool.or_eq_false_iff,decide_eq_false_iff_not,List.any_eq_false] at h
 obtain⟨⟨⟨⟨⟨h1,h2⟩,h3⟩,h4⟩,h5⟩,h6⟩:=h
 refine⟨by omega,by omega,by omega,by omega,fun c hc=>?_⟩
 have:=h6 c hc
 rcases Nat.lt_or_ge 600 c.vals.length with h | h
 ·exfalso
  apply this
  rw[decide_eq_true (show 100<c.vals.length by omega),decide_eq_true h]
  simp
 ·exact h
theorem ck2_c (cs:List Value) (c:bC) (S:aR) (sb:Nat) (w:World) (hc:jY w w.heap.size cs c) (h:iJ w sb S) (h600:c.vals.length≤600) :
  Calls Tryz.prog 84 #[.agg ⟨cs⟩,.pointer (some ⟨sb,0,none⟩)] w (aM (.bool (!kE aG S c)) w):=by
 obtain⟨w0,hw0⟩:∃w0,w0=w.alloc (.cells ⟨cs⟩ 55):=⟨_,rfl⟩
 have k0:Hid (Below w.heap.size w w0):=by rw[hw0];exact aB w _
 have C:=hI (ccell_c cs c S sb w0 (hc.keep k0.out.size (fun _ hp=>k0.out.cell hp)) (h.below k0.out) h600)
 obtain⟨v,f,rfl,-⟩:=hc
 have HW:=hI hw0
 clear hw0 h
 go_enter Tryz.func84,Tryz.ntmps84
 go_wp2_with fail
 rw[←HW.out]
 refine C.out.mono ?_
 rintro e w1 ⟨rfl,k1⟩
 have K:=btZ k0 k1
 go_wp2_with fail
 go_ret
 exact⟨rfl,K.out⟩
theorem adU (cs:List Value) (S:aR) (w:World) (h:gK w w.heap.size cs S) (ht:Tab w):Calls Tryz.prog 47 #[.agg ⟨cs⟩] w (aM (.int .i64 (cG aG S cC)) w):=by
 obtain⟨r,hr⟩:∃r,cG aG S cC=r:=⟨_,rfl⟩
 rw[hr]
 unfold cG at hr
 obtain⟨w0,hw0⟩:∃w0,w0=w.alloc (.cells ⟨cs⟩ 40):=⟨_,rfl⟩
 have k0:Hid (Below w.heap.size w w0):=by rw[hw0];exact aB w _
 have ST:Hid (iJ w0 w.heap.size S):=⟨cs,by rw[hw0];exact ad5 _ _ _,by rw[hw0];simp,h.below k0.out⟩
 obtain⟨A0,n0,A1,n1,A2,n2,A3,n3,A4,n4,A5,n5,hh,hb,s0,s1,s2,s3,s4,s5⟩:=ST.out.parts
 have HH:=hI hh
 have S0:=hI s0
 have S1:=hI s1
 have S2:=hI s2
 have S4:=hI s4
 have S5:=hI s5
 have T0:=hI (ht.below k0.out)
 have CL:=hI (ab7 S w.heap.size w0 ST.out)
 have HW:=hI hw0
 obtain⟨q1,hq1⟩:∃q,nS S=q:=⟨_,rfl⟩
 rw[hq1] at CL hr
 have HQ1:=hI hq1
 have hcs:Hid (∃c s t g e a,cs=[c,s,t,g,e,a,.int .i64 S.asked,.int .i64 S.steps]):=by
  obtain⟨c,s,t,g,e,a,rfl,-⟩:=h
  exact⟨c,s,t,g,e,a,rfl⟩
 obtain⟨c,s,t,g,e,a,rfl⟩:=hcs.out
 clear hw0 h hh s0 s1 s2 s3 s4 s5 ht hq1
 cases q1
 case true=>
  have HR:Hid ((2:Int)=r):=hr
  clear hr
  go_enter Tryz.func47,Tryz.ntmps47
  go_wp2_with fail
  rw[←HW.out]
  refine CL.out.mono ?_
  rintro e w1 ⟨rfl,k1⟩
  have K:=btZ k0 k1
  clear k1
  go_wp2_with fail
  go_ret
  exact⟨by rw[←HR.out];rfl,K.out⟩
 obtain⟨l1,l2,l3,l4,l5⟩:=tN HQ1.out
 have L5:=hI l5
 have hr2:(if bT S.shapes≠0 then bT S.shapes
  else if !jL cC S.texts || S.shapes.any (fun x=>decide ((S.texts.length:Int)≤x.name)) || S.cells.any (fun c=>!kE aG S c) then 3
  else if S.said.any (fun v=>v.kind != 4 || !dJ aG S v) then 3
  else if S.ends.any (fun e=>!yA aG S e) then(3:Int)
  else 0)=r:=hr
 clear hr l5 l2 l3 l4
 obtain⟨q2,hq2⟩:∃q,bT S.shapes=q:=⟨_,rfl⟩
 have CS:Hid (∀W,Below w0.heap.size w0 W→Calls Tryz.prog 79 #[.slice A1 S.shapes.length n1] W (aM (.int .i64 q2) W)):=fun W k=>by rw[←hq2];exact tG A1 n1 S.shapes W (S1.out.below k)
 rw[hq2] at hr2
 clear hq2
 go_enter Tryz.func47,Tryz.ntmps47
 go_wp2_with fail
 rw[←HW.out]
 refine CL.out.mono ?_
 rintro e w1 ⟨rfl,k1⟩
 have K1:=hI k1
 have KK1:=btZ k0 k1
 have d1:=(HH.out.on k1) 1 _ rfl
 clear k1
 go_wp2_with fail
 refine(CS.out w1 K1.out).mono ?_
 rintro e w2 ⟨rfl,k2⟩
 have K2:=btZ K1 k2
 have KK2:=btZ KK1 k2
 clear k2 d1
 by_cases hq0:q2=0
 case neg=>
  rw[if_pos hq0] at hr2
  have HR:=hI hr2
  have hb0:(q2 == 0)=false:=beq_eq_false_iff_ne.2 hq0
  have hb1:(q2 != 0)=true:=bne_iff_ne.2 hq0
  clear hr2
  go_wp2_with fail
  go_ret
  exact⟨by rw[←HR.out];rfl,KK2.out⟩
 subst hq0
 rw[if_neg (by simp)] at hr2
 have CT:Hid (Calls Tryz.prog 80 #[.slice A2 S.texts.length n2] w2 (aM (.bool (jL cC S.texts)) w2)):=texts_c A2 n2 S.texts w2 (T0.out.below K2.out) (S2.out.below K2.out) l1
 obtain⟨q3,hq3⟩:∃q,jL cC S.texts=q:=⟨_,rfl⟩
 rw[hq3] at CT hr2
 clear hq3
 have d2:=(HH.out.on K2.out) 2 _ rfl
 go_wp2_with fail
 refine CT.out.mono ?_
 rintro e w3 ⟨rfl,k3⟩
 have K3:=btZ K2 k3
 have KK3:=btZ KK2 k3
 clear k3 d2
 cases q3
 case false=>
  have HR:Hid ((3:Int)=r):=hr2
  clear hr2
  go_wp2_with fail
  go_ret
  exact⟨by rw[←HR.out];rfl,KK3.out⟩
 rw[Bool.not_true,Bool.false_or] at hr2
 have d1:=(HH.out.on K3.out) 1 _ rfl
 have C1:=hI (pP jX (fun x=>decide ((S.texts.length:Int)≤x.name)) A1 n1 S.shapes 82 adI #[.pointer (some ⟨w.heap.size,0,none⟩)] w3 (S1.out.below K3.out) (fun w4 k4 x cs hx hR=>by
  obtain⟨rfl,-⟩:=hR
  exact ck1_c x S w.heap.size w4 ((ST.out.below K3.out).below k4)))
 obtain⟨q4,hq4⟩:∃q,S.shapes.any (fun x=>decide ((S.texts.length:Int)≤x.name))=q:=⟨_,rfl⟩
 rw[hq4] at C1 hr2
 clear hq4
 go_wp2_with fail
 refine C1.out.mono ?_
 rintro e w4 ⟨rfl,k4⟩
 have K4:=btZ K3 k4
 have KK4:=btZ KK3 k4
 clear k4 d1
 cases q4
 case true=>
  have HR:Hid ((3:Int)=r):=hr2
  clear hr2
  go_wp2_with fail
  go_ret
  exact⟨by rw[←HR.out];rfl,KK4.out⟩
 rw[Bool.false_or] at hr2
 have d0:=(HH.out.on K4.out) 0 _ rfl
 have C2:=hI (iH (jY w0 w0.heap.size) (fun c=>!kE aG S c) A0 n0 S.cells 84 adH #[.pointer (some ⟨w.heap.size,0,none⟩)] w4 (S0.out.below K4.out) (fun w5 k5 x cs hx hR=>
  ck2_c cs x S w.heap.size w5 (hR.keep (Nat.le_trans K4.out.size k5.size) (fun _ hp=>(K4.out.trans (k5.mono K4.out.size)).cell hp)) ((ST.out.below K4.out).below k5) (L5.out x hx)))
 obtain⟨q5,hq5⟩:∃q,S.cells.any (fun c=>!kE aG S c)=q:=⟨_,rfl⟩
 rw[hq5] at C2 hr2
 clear hq5
 go_wp2_with fail
 refine C2.out.mono ?_
 rintro e w5 ⟨rfl,k5⟩
 have K5:=btZ K4 k5
 have KK5:=btZ KK4 k5
 clear k5 d0
 cases q5
 case true=>
  have HR:Hid ((3:Int)=r):=hr2
  clear hr2
  go_wp2_with fail
  go_ret
  exact⟨by rw[←HR.out];rfl,KK5.out⟩
 rw[if_neg (by simp)] at hr2
 have d5:=(HH.out.on K5.out) 5 _ rfl
 have C3:=hI (eE hU (fun v=>v.kind != 4 || !dJ aG S v) A5 n5 S.said 87 adG #[.pointer (some ⟨w.heap.size,0,none⟩)] w5 (S5.out.below K5.out) (fun w6 k6 x cs hx hR=>by
  obtain⟨rfl,-⟩:=hR
  exact ck3_c x S w.heap.size w6 ((ST.out.below K5.out).below k6)))
 obtain⟨q6,hq6⟩:∃q,S.said.any (fun v=>v.kind != 4 || !dJ aG S v)=q:=⟨_,rfl⟩
 rw[hq6] at C3 hr2
 clear hq6
 go_wp2_with fail
 refine C3.out.mono ?_
 rintro e w6 ⟨rfl,k6⟩
 have K6:=btZ K5 k6
 have KK6:=btZ KK5 k6
 clear k6 d5
 cases q6
 case true=>
  have HR:Hid ((3:Int)=r):=hr2
  clear hr2
  go_wp2_with fail
  go_ret
  exact⟨by rw[←HR.out];rfl,KK6.out⟩
 rw[if_neg (by simp)] at hr2
 have d4:=(HH.out.on K6.out) 4 _ rfl
 have C4:=hI (oP abX (fun e=>!yA aG S e) A4 n4 S.ends 90 adF #[.pointer (some ⟨w.heap.size,0,none⟩)] w6 (S4.out.below K6.out) (fun w7 k7 x cs hx hR=>by
  obtain⟨rfl,-⟩:=hR
  exact ck4_c x S w.heap.size w7 ((ST.out.below K6.out).below k7)))
 obtain⟨q7,hq7⟩:∃q,S.ends.any (fun e=>!yA aG S e)=q:=⟨_,rfl⟩
 rw[hq7] at C4 hr2
 clear hq7
 go_wp2_with fail
 refine C4.out.mono ?_
 rintro e w7 ⟨rfl,k7⟩
 have KK7:=btZ KK6 k7
 clear k7 d4
 cases q7
 case true=>
  have HR:Hid ((3:Int)=r):=hr2
  clear hr2
  go_wp2_with fail
  go_ret
  exact⟨by rw[←HR.out];rfl,KK7.out⟩
 have HR:Hid ((0:Int)=r):=hr2
 clear hr2
 go_wp2_with fail
 go_ret
 exact⟨by rw[←HR.out];rfl,KK7.out⟩
end
section
open Go.RowKit
structure pT (w:World) (lb:Nat) (p:aW) (S:aR) (sb mb:Nat) (tv yv:Value):Prop where
 here:∃a b c,aA w lb [a,b,c,.pointer (some ⟨sb,0,none⟩),tv,yv,.map (some mb)]∧eL w w.heap.size [a,b,c] p
 size:lb<w.heap.size
 st:iJ w sb S
theorem eL.below {w w':World} {cs:List Value} {p:aW} (h:eL w w.heap.size cs p) (hk:Below w.heap.size w w'):eL w' w'.heap.size cs p:=h.keep hk.size (fun _ hp=>hk.cell hp)
theorem pT.below {w w':World} {lb:Nat} {p:aW} {S:aR} {sb mb:Nat} {tv yv:Value} (h:pT w lb p S sb mb tv yv) (hk:Below w.heap.size w w'):pT w' lb p S sb mb tv yv:=by
 obtain⟨⟨a,b,c,h1,h2⟩,h3,h4⟩:=h
 exact⟨⟨a,b,c,fun i v hv=>(hk.cell h3).trans (h1 i v hv),h2.below hk⟩,Nat.lt_of_lt_of_le h3 hk.size,h4.below hk⟩
theorem jG:(Tryz.prog.info? 55).map (·.size)=some 4:=by kernel_rfl
def oK (v:Value):Prop:=∃A n c,v=.slice A n c
def uE (S:aR) (v:Val) (kind:Int) (w:World) (e:Ending) (w':World):Prop:=
 ∃(k n:Int) (vv fv:Value) (b:Bool),e=.returned (.tuple #[.agg #[.int .i64 k,.int .i64 n,vv,fv],.bool b])∧oK vv∧oK fv∧b=(bM S v kind).isSome∧(∀c,bM S v kind=some c→n=c.num)∧Below w.heap.size w w'
theorem uU (v:Val) (kind:Int) (p:aW) (S:aR) (lb sb mb:Nat) (tv yv:Value) (w:World) (h:pT w lb p S sb mb tv yv) :
  Calls Tryz.prog 134 #[.pointer (some ⟨lb,0,none⟩),.agg #[.int .i64 v.kind,.int .i64 v.n],.int .i64 kind] w (uE S v kind w):=by
 obtain⟨k,n⟩:=v
 unfold uE
 obtain⟨⟨pa,pb,pc,hl,-⟩,hlb,hst⟩:=h
 obtain⟨A0,n0,A1,n1,A2,n2,A3,n3,A4,n4,A5,n5,hh,hb,s0,-⟩:=hst.parts
 have lc:=aP s0
 have S0:=hI s0
 obtain⟨w0,hw0⟩:∃w0,w0=(w.alloc (.cells #[.int .i64 k,.int .i64 n] 48)).alloc (.cells #[.int .i64 0,.int .i64 0,.slice none 0 0,.slice none 0 0] 55):=⟨_,rfl⟩
 have k0:Hid (Below w.heap.size w w0):=by rw[hw0];exact bE w _ _
 have ROW:Hid (w0.heap[w.heap.size+1]? = some (.cells #[.int .i64 0,.int .i64 0,.slice none 0 0,.slice none 0 0] 55 (0,0))):=by rw[hw0];have:=aJ (w.alloc (.cells #[.int .i64 k,.int .i64 n] 48)) (.cells #[.int .i64 0,.int .i64 0,.slice none 0 0,.slice none 0 0] 55);rwa [World.size_alloc] at this
 have hz:w.heap.size+1<w0.heap.size:=(aE ROW.out).1
 have f0:∀E:Up w0,E.to.cell? ⟨w.heap.size,0,none⟩=some (.int .i64 k):=fun E=>E.cell (by rw[hw0];exact kK _ _ _ _ _)
 have f1:∀E:Up w0,E.to.cell? ⟨w.heap.size,1,none⟩=some (.int .i64 n):=fun E=>E.cell (by rw[hw0];exact kK _ _ _ _ _)
 have f2:∀E:Up w0,E.to.cell? ⟨lb,3,none⟩=some (.pointer (some ⟨sb,0,none⟩)):=fun E=>E.cell ((k0.out.cell hlb).trans (hl 3 _ rfl))
 have f3:∀E:Up w0,E.to.cell? ⟨sb,0,none⟩=some (.slice A0 S.cells.length n0):=fun E=>E.cell ((k0.out.cell hb).trans (hh 0 _ rfl))
 have F0:=hI f0
 have F1:=hI f1
 have F2:=hI f2
 have F3:=hI f3
 have HW:=hI hw0
 clear hw0 hl hh s0 hst
 go_enter Tryz.func134,Tryz.ntmps134
 go_wp2_with fail
 rw[←HW.out]
 refine aD (by kernel_rfl) (by kernel_rfl) ?_
 repeat (go_big_quiet_step (fail))
 obtain⟨b1,hb1⟩:∃b:Bool,(k != 5)=b:=⟨_,rfl⟩
 rw[hb1]
 cases b1
 case true=>
  have HN:Hid (bM S ⟨k,n⟩ kind=none):=by unfold bM;exact if_pos (.inl (bne_iff_ne.1 hb1))
  repeat (go_big_quiet_step (fail))
  refine wpQuiet_nil ?_
  rintro _ ⟨E,rfl⟩
  obtain⟨w1,k1⟩:=E
  dsimp only
  have HRW:Hid (w1.heap[w.heap.size+1]? = some (.cells #[.int .i64 0,.int .i64 0,.slice none 0 0,.slice none 0 0] 55 (0,0))):=(k1.block _ hz).trans ROW.out
  have K1:=btZ k0 k1
  clear f0 f1 f2 f3 k1
  go_wp2_with (first | (refine wpList_store_row rfl 55 _ _ rfl (w.heap.size+1) #[.int .i64 0,.int .i64 0,.slice none 0 0,.slice none 0 0] rfl rfl 55 _ HRW.out jG rfl (all_oneCell_toArray (by simp[Value.oneCell'])) ?_) | fail)
  generalize hw9:World.setRow _ _ _=w9
  have HR9:=shZ hw9 HRW
  have K9:Hid (Below w.heap.size w w9):=by rw[←hw9];exact Below.set_row K1.out (by omega) _
  have r0:=crZ HR9 0 rfl
  have r1:=crZ HR9 1 rfl
  have r2:=crZ HR9 2 rfl
  have r3:=crZ HR9 3 rfl
  clear hw9
  go_wp2_with fail
  refine bodyPost_ret (v:=.tuple #[.agg #[.int .i64 0,.int .i64 0,.slice none 0 0,.slice none 0 0],.bool false]) (by simp[results,Tryz.results134,go_sem,r0,r1,r2,r3]) rfl ⟨0,0,_,_,false,rfl,⟨none,0,0,rfl⟩,⟨none,0,0,rfl⟩,by rw[HN.out];rfl,(fun c hc=>by rw[HN.out] at hc;cases hc),K9.out⟩
 repeat (go_big_quiet_step (fail))
 obtain⟨b2,hb2⟩:∃b:Bool,(decide (n<0))=b:=⟨_,rfl⟩
 rw[hb2]
 cases b2
 case true=>
  have HN:Hid (bM S ⟨k,n⟩ kind=none):=by unfold bM;exact if_pos (.inr (.inl (of_decide_eq_true hb2)))
  repeat (go_big_quiet_step (fail))
  refine wpQuiet_nil ?_
  rintro _ ⟨E,rfl⟩
  obtain⟨w1,k1⟩:=E
  dsimp only
  have HRW:Hid (w1.heap[w.heap.size+1]? = some (.cells #[.int .i64 0,.int .i64 0,.slice none 0 0,.slice none 0 0] 55 (0,0))):=(k1.block _ hz).trans ROW.out
  have K1:=btZ k0 k1
  clear f0 f1 f2 f3 k1
  go_wp2_with (first | (refine wpList_store_row rfl 55 _ _ rfl (w.heap.size+1) #[.int .i64 0,.int .i64 0,.slice none 0 0,.slice none 0 0] rfl rfl 55 _ HRW.out jG rfl (all_oneCell_toArray (by simp[Value.oneCell'])) ?_) | fail)
  generalize hw9:World.setRow _ _ _=w9
  have HR9:=shZ hw9 HRW
  have K9:Hid (Below w.heap.size w w9):=by rw[←hw9];exact Below.set_row K1.out (by omega) _
  have r0:=crZ HR9 0 rfl
  have r1:=crZ HR9 1 rfl
  have r2:=crZ HR9 2 rfl
  have r3:=crZ HR9 3 rfl
  clear hw9
  go_wp2_with fail
  refine bodyPost_ret (v:=.tuple #[.agg #[.int .i64 0,.int .i64 0,.slice none 0 0,.slice none 0 0],.bool false]) (by simp[results,Tryz.results134,go_sem,r0,r1,r2,r3]) rfl ⟨0,0,_,_,false,rfl,⟨none,0,0,rfl⟩,⟨none,0,0,rfl⟩,by rw[HN.out];rfl,(fun c hc=>by rw[HN.out] at hc;cases hc),K9.out⟩
 repeat (go_big_quiet_step (fail))
 obtain⟨b3,hb3⟩:∃b:Bool,(decide ((S.cells.length:Int)≤n))=b:=⟨_,rfl⟩
 rw[hb3]
 cases b3
 case true=>
  have HN:Hid (bM S ⟨k,n⟩ kind=none):=by unfold bM;exact if_pos (.inr (.inr (of_decide_eq_true hb3)))
  repeat (go_big_quiet_step (fail))
  refine wpQuiet_nil ?_
  rintro _ ⟨E,rfl⟩
  obtain⟨w1,k1⟩:=E
  dsimp only
  have HRW:Hid (w1.heap[w.heap.size+1]? = some (.cells #[.int .i64 0,.int .i64 0,.slice none 0 0,.slice none 0 0] 55 (0,0))):=(k1.block _ hz).trans ROW.out
  have K1:=btZ k0 k1
  clear f0 f1 f2 f3 k1
  go_wp2_with (first | (refine wpList_store_row rfl 55 _ _ rfl (w.heap.size+1) #[.int .i64 0,.int .i64 0,.slice none 0 0,.slice none 0 0] rfl rfl 55 _ HRW.out jG rfl (all_oneCell_toArray (by simp[Value.oneCell'])) ?_) | fail)
  generalize hw9:World.setRow _ _ _=w9
  have HR9:=shZ hw9 HRW
  have K9:Hid (Below w.heap.size w w9):=by rw[←hw9];exact Below.set_row K1.out (by omega) _
  have r0:=crZ HR9 0 rfl
  have r1:=crZ HR9 1 rfl
  have r2:=crZ HR9 2 rfl
  have r3:=crZ HR9 3 rfl
  clear hw9
  go_wp2_with fail
  refine bodyPost_ret (v:=.tuple #[.agg #[.int .i64 0,.int .i64 0,.slice none 0 0,.slice none 0 0],.bool false]) (by simp[results,Tryz.results134,go_sem,r0,r1,r2,r3]) rfl ⟨0,0,_,_,false,rfl,⟨none,0,0,rfl⟩,⟨none,0,0,rfl⟩,by rw[HN.out];rfl,(fun c hc=>by rw[HN.out] at hc;cases hc),K9.out⟩
 have q1:k=5:=by simpa using hb1
 have q2:¬n<0:=of_decide_eq_false hb2
 have q3:¬(S.cells.length:Int)≤n:=of_decide_eq_false hb3
 obtain⟨m,rfl⟩:=Int.eq_ofNat_of_zero_le (show 0≤n by omega)
 have hm:m<S.cells.length:=by omega
 obtain⟨b,off,c,cs,rfl,hbb,hx,-,⟨VV,FV,rfl,hvv,hfv,-⟩,hat⟩:=S0.out.at_ hm
 have HVV:Hid (oK VV):=by obtain⟨A,cp,h,-⟩:=hvv;exact⟨_,_,_,h⟩
 have HFV:Hid (oK FV):=by obtain⟨A,cp,h,-⟩:=hfv;exact⟨_,_,_,h⟩
 have hb0:b<w0.heap.size:=Nat.lt_of_lt_of_le hbb k0.out.size
 have HRG:Hid (w0.rangeAt b (off+m*4) [.int .i64 c.kind,.int .i64 c.num,VV,FV]):=fun j v hv=>(k0.out.cell hbb).trans (hat j v hv)
 have f4:∀E:Up w0,E.to.cell? ⟨b,off+m*4,none⟩=some (.int .i64 c.kind):=fun E=>E.cell (by have:=HRG.out 0 _ rfl;simpa using this)
 have HL:Hid (bM S ⟨k,(m:Int)⟩ kind=if c.kind=kind then some c else none):=by
  unfold bM
  refine Eq.trans (if_neg ?_) ?_
  ·rintro (h | h | h)
   ·exact h q1
   ·exact q2 h
   ·exact q3 h
  ·show(match S.cells[((m:Int)).toNat]? with | none=>none | some c=>if c.kind=kind then some c else none)=_
   rw[Int.toNat_natCast,hx]
 have hm1:(m:Int)<S.cells.length:=by omega
 clear hat hx hvv hfv q1 q2 q3
 repeat (go_big_quiet_step (fail))
 obtain⟨b4,hb4⟩:∃b:Bool,(c.kind != kind)=b:=⟨_,rfl⟩
 rw[hb4]
 cases b4
 case true=>
  have HN:Hid (bM S ⟨k,(m:Int)⟩ kind=none):=by rw[HL.out];exact if_neg (bne_iff_ne.1 hb4)
  clear f4
  repeat (go_big_quiet_step (fail))
  refine wpQuiet_nil ?_
  rintro _ ⟨E,rfl⟩
  obtain⟨w1,k1⟩:=E
  dsimp only
  have HRW:Hid (w1.heap[w.heap.size+1]? = some (.cells #[.int .i64 0,.int .i64 0,.slice none 0 0,.slice none 0 0] 55 (0,0))):=(k1.block _ hz).trans ROW.out
  have K1:=btZ k0 k1
  clear f0 f1 f2 f3 k1
  go_wp2_with (first | (refine wpList_store_row rfl 55 _ _ rfl (w.heap.size+1) #[.int .i64 0,.int .i64 0,.slice none 0 0,.slice none 0 0] rfl rfl 55 _ HRW.out jG rfl (all_oneCell_toArray (by simp[Value.oneCell'])) ?_) | fail)
  generalize hw9:World.setRow _ _ _=w9
  have HR9:=shZ hw9 HRW
  have K9:Hid (Below w.heap.size w w9):=by rw[←hw9];exact Below.set_row K1.out (by omega) _
  have r0:=crZ HR9 0 rfl
  have r1:=crZ HR9 1 rfl
  have r2:=crZ HR9 2 rfl
  have r3:=crZ HR9 3 rfl
  clear hw9
  go_wp2_with fail
  refine bodyPost_ret (v:=.tuple #[.agg #[.int .i64 0,.int .i64 0,.slice none 0 0,.slice none 0 0],.bool false]) (by simp[results,Tryz.results134,go_sem,r0,r1,r2,r3]) rfl ⟨0,0,_,_,false,rfl,⟨none,0,0,rfl⟩,⟨none,0,0,rfl⟩,by rw[HN.out];rfl,(fun c hc=>by rw[HN.out] at hc;cases hc),K9.out⟩
 have HS:Hid (bM S ⟨k,(m:Int)⟩ kind=some c):=by rw[HL.out];exact if_pos (by simpa using hb4)
 repeat (go_big_quiet_step (fail))
 refine wpQuiet_nil ?_
 rintro _ ⟨E,rfl⟩
 obtain⟨w1,k1⟩:=E
 dsimp only
 have HRW:Hid (w1.heap[w.heap.size+1]? = some (.cells #[.int .i64 0,.int .i64 0,.slice none 0 0,.slice none 0 0] 55 (0,0))):=(k1.block _ hz).trans ROW.out
 have K1:=btZ k0 k1
 have e1:∀E:Up w1,E.to.cell? ⟨w.heap.size,1,none⟩=some (.int .i64 m):=fun E=>E.cell (F1.out ⟨w1,k1⟩)
 have e2:∀E:Up w1,E.to.cell? ⟨lb,3,none⟩=some (.pointer (some ⟨sb,0,none⟩)):=fun E=>E.cell (F2.out ⟨w1,k1⟩)
 have e3:∀E:Up w1,E.to.cell? ⟨sb,0,none⟩=some (.slice (some ⟨b,off,none⟩) S.cells.length n0):=fun E=>E.cell (F3.out ⟨w1,k1⟩)
 have HRE:Hid (∀E:Up w1,E.to.rangeAt b (off+m*4) [.int .i64 c.kind,.int .i64 c.num,VV,FV]):=fun E j v hv=>E.cell ((k1.cell hb0).trans (HRG.out j v hv))
 have hz1:w.heap.size+1<w1.heap.size:=Nat.lt_of_lt_of_le hz k1.size
 clear f0 f1 f2 f3 f4 k1
 go_upto_region 3 with fail
 refine aL 11 (by kernel_rfl) (by kernel_rfl) ?_
 simp only[List.take_succ_cons,List.take_zero,List.drop_succ_cons,List.drop_zero]
 repeat (first
  | (refine aO 55 _ rfl rfl b (off+m*4) rfl _ _ HRE.out Tryz.underlying55 rfl jG ?_;go_simp)
  | go_big_quiet_step (fail))
 refine wpQuiet_nil ?_
 intro E
 obtain⟨w2,k2⟩:=E
 dsimp only
 have HRW2:Hid (w2.heap[w.heap.size+1]? = some (.cells #[.int .i64 0,.int .i64 0,.slice none 0 0,.slice none 0 0] 55 (0,0))):=(k2.block _ hz1).trans HRW.out
 have K2:=btZ K1 k2
 clear e1 e2 e3 k2
 obtain⟨VA,VN,VC,rfl⟩:=HVV.out
 obtain⟨FA,FN,FC,rfl⟩:=HFV.out
 go_wp2_with (first | (refine wpList_store_row rfl 55 _ _ rfl (w.heap.size+1) #[.int .i64 c.kind,.int .i64 c.num,.slice VA VN VC,.slice FA FN FC] rfl rfl 55 _ HRW2.out jG rfl (all_oneCell_toArray (by simp[Value.oneCell'])) ?_) | fail)
 generalize hw9:World.setRow _ _ _=w9
 have HR9:=shZ hw9 HRW2
 have K9:Hid (Below w.heap.size w w9):=by rw[←hw9];exact Below.set_row K2.out (by omega) _
 have r0:=crZ HR9 0 rfl
 have r1:=crZ HR9 1 rfl
 have r2:=crZ HR9 2 rfl
 have r3:=crZ HR9 3 rfl
 clear hw9
 go_wp2_with fail
 refine bodyPost_ret (v:=.tuple #[.agg #[.int .i64 c.kind,.int .i64 c.num,.slice VA VN VC,.slice FA FN FC],.bool true]) (by simp[results,Tryz.results134,go_sem,r0,r1,r2,r3]) rfl ⟨_,_,_,_,true,rfl,⟨_,_,_,rfl⟩,⟨_,_,_,rfl⟩,by rw[HS.out];rfl,(fun c' hc=>by rw[HS.out] at hc;injection hc with hc;rw[hc]),K9.out⟩
end
end Go.Proofs.YtjaphgpkkfdaaaaGreatDoor
