/- Part of the walk of the given code: contracts of the functions that irun.Run reaches, and plain laws on what it reckons. -/
import Derived.Test.YtjaphgpkkfdaaaaGreatDoorZL
import Derived.Test.YtjaphgpkkfdaaaaGreatDoorZN
set_option maxHeartbeats 16000000
set_option maxRecDepth 100000
set_option linter.all false
namespace Go.Proofs.YtjaphgpkkfdaaaaGreatDoor
section
open Go.RowKit
def sK (w:World) (B:Nat) (tv:Value) (p:aW):Prop:=aH w B 1 (fun cs (o:List (List gM))=>∃v,cs=[v]∧aH w B 1 (fun cs t=>∃v,cs=[v]∧aH w B 2 jW v t) v o) tv (p.fns.map fun f=>(cY f.code).out)
def wN (w:World) (B:Nat) (yv:Value) (p:aW):Prop:=aH w B 1 (fun cs (o:List Bool)=>∃v,cs=[v]∧aH w B 1 sP v o) yv (p.fns.map fun f=>(cY f.code).seen)
theorem sK.keep {w w':World} {B B':Nat} {tv:Value} {p:aW} (h:sK w B tv p) (hB:B≤B') (hk:∀p:Addr,p.block<B→w'.cell? p=w.cell? p):sK w' B' tv p:=
 aH.keep h hB hk (fun _ _ ⟨v,e,h⟩=>⟨v,e,h.keep hB hk (fun _ _ ⟨v,e,h⟩=>⟨v,e,h.keep hB hk (fun _ _ h=>h)⟩)⟩)
theorem wN.keep {w w':World} {B B':Nat} {tv:Value} {p:aW} (h:wN w B tv p) (hB:B≤B') (hk:∀p:Addr,p.block<B→w'.cell? p=w.cell? p):wN w' B' tv p:=
 aH.keep h hB hk (fun _ _ ⟨v,e,h⟩=>⟨v,e,h.keep hB hk (fun _ _ h=>h)⟩)
def i8 (p:aW):Prop:=∀f∈p.fns,(cY f.code).out.length=f.code.length∧(cY f.code).seen.length=f.code.length
structure iV (w:World) (lb:Nat) (p:aW) (S:aR) (sb mb:Nat) (tv yv:Value):Prop where
 look:pT w lb p S sb mb tv yv
 tries:sK w w.heap.size tv p
 ways:wN w w.heap.size yv p
theorem iV.below {w w':World} {lb:Nat} {p:aW} {S:aR} {sb mb:Nat} {tv yv:Value} (h:iV w lb p S sb mb tv yv) (hk:Below w.heap.size w w'):iV w' lb p S sb mb tv yv:=
 ⟨h.look.below hk,h.tries.keep hk.size (fun _ hp=>hk.cell hp),h.ways.keep hk.size (fun _ hp=>hk.cell hp)⟩
theorem adE:∀args W,(callFunc 182 args).run Tryz.prog W=.ok (.enter 182 args) W:=enters_of Tryz.func182 (by kernel_rfl) rfl
theorem ac8 (v:Val) (p:aW) (S:aR) (lb sb mb pb:Nat) (tv yv:Value) (w:World) (h:pT w lb p S sb mb tv yv) (hp:w.cell? ⟨pb,0,none⟩=some (.pointer (some ⟨lb,0,none⟩))) :
  Calls Tryz.prog 182 #[.agg #[.int .i64 v.kind,.int .i64 v.n],.pointer (some ⟨pb,0,none⟩)] w (aM (.bool (!dJ aG S v)) w):=by
 obtain⟨w0,hw0⟩:∃w0,w0=w.alloc (.cells #[.int .i64 v.kind,.int .i64 v.n] 48):=⟨_,rfl⟩
 have k0:Hid (Below w.heap.size w w0):=by rw[hw0];exact aB w _
 obtain⟨⟨pa,pb',pc,hl,-⟩,hlb,hst⟩:=h
 have C:Hid (∀E:Up w0,Calls Tryz.prog 133 #[.pointer (some ⟨sb,0,none⟩),.agg #[.int .i64 v.kind,.int .i64 v.n]] E.to (aM (.bool (dJ aG S v)) E.to)):=fun E=>zM v S sb E.to ((hst.below k0.out).below E.below)
 have f0:∀E:Up w0,E.to.cell? ⟨pb,0,none⟩=some (.pointer (some ⟨lb,0,none⟩)):=fun E=>E.cell (aC k0.out hp)
 have f1:∀E:Up w0,E.to.cell? ⟨lb,3,none⟩=some (.pointer (some ⟨sb,0,none⟩)):=fun E=>E.cell ((k0.out.cell hlb).trans (hl 3 _ rfl))
 have f2:∀E:Up w0,E.to.cell? ⟨w.heap.size,0,none⟩=some (.int .i64 v.kind):=fun E=>E.cell (by rw[hw0];exact bL _ _ _ _)
 have f3:∀E:Up w0,E.to.cell? ⟨w.heap.size,1,none⟩=some (.int .i64 v.n):=fun E=>E.cell (by rw[hw0];exact bL _ _ _ _)
 have HW:=hI hw0
 clear hw0 hl hst hp
 go_enter Tryz.func182,Tryz.ntmps182
 go_upto_region 1 with fail
 rw[←HW.out]
 refine aD (by kernel_rfl) (by kernel_rfl) ?_
 repeat (go_big_quiet_step ((go_at_call 133;with_reducible exact Calls.up (C.out _))))
 refine wpQuiet_nil ?_
 rintro _ ⟨E,rfl⟩
 have KE:=btZ k0 E.below
 clear f0 f1 f2 f3
 go_wp2_with fail
 go_ret
 exact⟨rfl,KE.out⟩
theorem zL (fcs:List Value) (f:a8) (p:aW) (S:aR) (lb sb mb:Nat) (tv yv:Value) (w:World) (hf:eR w w.heap.size fcs f) (h:iV w lb p S sb mb tv yv) (hlens:i8 p) :
  Calls Tryz.prog 164 #[.pointer (some ⟨lb,0,none⟩),.agg ⟨fcs⟩] w (aM (.bool (dB aG p S f)) w):=by
 obtain⟨fn,at_,tos,gen,⟨sk,sn⟩,regs,tries⟩:=f
 obtain⟨r,hr⟩:∃r,dB aG p S ⟨fn,at_,tos,gen,⟨sk,sn⟩,regs,tries⟩=r:=⟨_,rfl⟩
 rw[hr]
 unfold dB at hr
 dsimp only at hr
 obtain⟨rv,tv0,rfl,hrg,htr,wf,wa,-⟩:=hf
 dsimp only at hrg htr wf wa ⊢
 obtain⟨RA,rc,rfl,-⟩:=id hrg
 obtain⟨TA,tc,rfl,-⟩:=id htr
 have lr:=aP hrg
 have HRG:=hI hrg
 have HTR:=hI htr
 have LT:=hI h
 obtain⟨pa,pb,pc,hl,hpr⟩:=h.look.here
 obtain⟨PA1,pn1,PA2,pn2,PA3,pn3,hpe,hpf,-⟩:=id hpr
 simp only[List.cons.injEq,and_true] at hpe
 obtain⟨rfl,rfl,rfl⟩:=hpe
 have lf:=aP hpf
 have HPF:=hI hpf
 have hlb:=h.look.size
 have HLN:=hI hlens
 obtain⟨YA,yc,hye,-⟩:=id h.ways
 rw[List.length_map] at hye
 obtain⟨ZA,zc,hze,-⟩:=id h.tries
 rw[List.length_map] at hze
 subst hye;subst hze
 have HWY:=hI h.ways
 have HTY:=hI h.tries
 obtain⟨w0,hw0⟩:∃w0,w0=(w.alloc (.cells #[.pointer (some ⟨lb,0,none⟩)] 112)).alloc (.cells #[.int .i64 fn,.int .i64 at_,.int .i64 tos,.int .i64 gen,.int .i64 sk,.int .i64 sn,.slice RA regs.length rc,.slice TA tries.length tc] 61):=⟨_,rfl⟩
 have TB:=jZ w [.pointer (some ⟨lb,0,none⟩)] [.int .i64 fn,.int .i64 at_,.int .i64 tos,.int .i64 gen,.int .i64 sk,.int .i64 sn,.slice RA regs.length rc,.slice TA tries.length tc] 112 61
 rw[←hw0] at TB
 obtain⟨t1,t2,t3⟩:=TB
 have P1:=hI t1
 have P2:=hI t2
 have k0:=hI t3
 have HL:=hI hl
 have hz:w.heap.size+1<w0.heap.size:=dP (t2 0 _ rfl)
 have CW:Hid (∀W,Calls Tryz.prog 95 #[.int .i64 fn,.int .i64 0,.int .i64 ((p.fns.length:Int) - 1)] W fun e w'=>e=.returned (.bool (aK fn 0 ((p.fns.length:Int) - 1)))∧W=w'):=fun W=>iD _ _ _ W
 obtain⟨q1,hq1⟩:∃q,aK fn 0 ((p.fns.length:Int) - 1)=q:=⟨_,rfl⟩
 rw[hq1] at CW hr
 have HQ1:=hI hq1
 have HR:=hI hr
 have a0:∀E:Up w0,E.to.cell? ⟨w.heap.size,0,none⟩=some (.pointer (some ⟨lb,0,none⟩)):=fun E=>E.cell (t1 0 _ rfl)
 have a1:∀E:Up w0,E.to.cell? ⟨w.heap.size+1,0,none⟩=some (.int .i64 fn):=fun E=>E.cell (t2 0 _ rfl)
 have a2:∀E:Up w0,E.to.cell? ⟨lb,0,none⟩=some (.slice PA1 p.fns.length pn1):=fun E=>E.cell ((k0.out.cell hlb).trans (hl 0 _ rfl))
 have HW:=hI hw0
 clear hw0 hr hq1 t1 t2 t3 hl hpr hpf h hrg htr hlens
 go_enter Tryz.func164,Tryz.ntmps164
 go_upto_region 1 with fail
 rw[←HW.out]
 refine aD (by kernel_rfl) (by kernel_rfl) ?_
 repeat (go_big_quiet_step ((go_at_call 95;with_reducible exact ad6 (CW.out _))))
 refine wpQuiet_nil ?_
 rintro _ ⟨E,rfl⟩
 obtain⟨w1,k1⟩:=E
 dsimp only
 have K01:=hI k1
 have K1:=btZ k0 k1
 clear a0 a1 a2 k1
 cases q1
 case false=>
  have HN:Hid (false=r):=by rw[←HR.out];rfl
  clear wf wa
  go_wp2_with fail
  go_ret
  exact⟨by rw[←HN.out];rfl,K1.out⟩
 obtain⟨u1,u2⟩:=eS.1 HQ1.out
 obtain⟨k,rfl⟩:=Int.eq_ofNat_of_zero_le u1
 have hk:k<p.fns.length:=by omega
 have hk1:(k:Int)<p.fns.length:=by omega
 obtain⟨b,off,F,cs,rfl,hbb,hx,-,⟨CA,cn,OA,on_,rfl,-,hcode,-⟩,hat⟩:=HPF.out.at_ hk
 have lcode:=aP hcode
 have HFA:Hid (gD p (k:Int)=F):=by show _=_;unfold gD;rw[Int.toNat_natCast,hx];rfl
 have HFM:Hid (F∈p.fns):=List.mem_of_getElem? hx
 have HX:=hI hx
 have P11:=hI (P1.out.on K01.out)
 have P21:=hI (P2.out.on K01.out)
 have b0:=ecZ (P11.out 0 _ rfl)
 have b1:∀E:Up w1,E.to.cell? ⟨w.heap.size+1,0,none⟩=some (.int .i64 k):=fun E=>E.cell (P21.out 0 _ rfl)
 have b2:∀E:Up w1,E.to.cell? ⟨lb,0,none⟩=some (.slice (some ⟨b,off,none⟩) p.fns.length pn1):=fun E=>E.cell ((K1.out.cell hlb).trans (HL.out 0 _ rfl))
 have RB:Hid (∀E:Up w1,E.to.rangeAt b (off+k*5) [.int .i64 F.params,.int .i64 F.regs,.bool F.gen,.slice CA F.caught.length cn,.slice OA F.code.length on_]):=fun E j v hv=>E.cell ((K1.out.cell hbb).trans (hat j v hv))
 clear hat hx hcode u1 u2
 go_upto_region 3 with fail
 refine cV (fun w'=>∃E:Up w1,w'=E.to) 9 [9,10] [9] (by kernel_rfl) (by decide) (by kernel_rfl) (fun _ _ d _ _ h=>by cases d <;> exact h) ⟨⟨_,(Below.refl _ w1).drew⟩,rfl⟩ ?_
 simp only[List.take_succ_cons,List.take_zero]
 generalize hqq:(fun a'=>gA _ _ _ _ _ _ a' _)=qq
 have HQQ:=hI hqq
 clear hqq
 repeat (first
  | (refine aO 99 _ rfl rfl b (off+k*5) rfl _ _ RB.out Tryz.underlying99 rfl xV ?_;go_simp)
  | go_big_quiet_step (fail))
 refine wpQuiet_nil ?_
 rw[←HQQ.out]
 clear HQQ qq
 refine bA rfl (fun K hK=>?_)
 go_simp
 refine hK _ _ (fun _=>⟨⟨_,((Below.refl _ w1).alloc (Nat.le_refl _) _).drew⟩,rfl⟩) ?_
 clear hK K
 refine bP [10] _ _ (by kernel_rfl) (by kernel_rfl) ?_
 simp only[List.filterMap_cons,List.filterMap_nil,List.getElem?_toArray,List.getElem?_cons_zero,List.getElem?_cons_succ]
 have HRW:Hid ((w1.alloc (.cells #[.int .i64 0,.int .i64 0,.bool false,.slice none 0 0,.slice none 0 0] 99)).drew.heap[w1.heap.size]? = some (.cells #[.int .i64 0,.int .i64 0,.bool false,.slice none 0 0,.slice none 0 0] 99 (0,0))):=wG _ _
 clear b0 b1 b2
 go_upto_region 4 with (first | (refine wpList_store_row rfl 99 _ _ rfl w1.heap.size #[.int .i64 F.params,.int .i64 F.regs,.bool F.gen,.slice CA F.caught.length cn,.slice OA F.code.length on_] rfl rfl 99 _ HRW.out xV rfl (all_oneCell_toArray (by simp[Value.oneCell'])) ?_) | fail)
 generalize hw2:World.setRow _ _ _=w2
 have FROW:=shZ hw2 HRW
 have K12:Hid (Below w1.heap.size w1 w2):=by rw[←hw2];exact Below.set_row (((Below.refl _ w1).alloc (Nat.le_refl _) _).drew) (by omega) _
 have K2:=btZ K1 K12.out
 clear hw2 HRW
 (try dsimp only [Act.put])
 have hz2:w1.heap.size<w2.heap.size:=(aE FROW.out).1
 have P12:=hI (P1.out.on (K01.out.trans (K12.out.mono K01.out.size)))
 have P22:=hI (P2.out.on (K01.out.trans (K12.out.mono K01.out.size)))
 have CL:=hI (uU ⟨sk,sn⟩ 4 p S lb sb mb _ _ w2 (LT.out.below K2.out).look)
 have c0:=P12.out 0 _ rfl
 have c4:=P22.out 4 _ rfl
 have c5:=P22.out 5 _ rfl
 go_wp2_with fail
 refine CL.out.mono ?_
 rintro e w3 ⟨ck,cnum,vv,fv,isb,rfl,⟨VA,VN,VC,rfl⟩,⟨FA,FN,FC,rfl⟩,hib,hcn,k3⟩
 have HIB:=hI hib
 have HCN:=hI hcn
 have K3:=btZ K2 k3
 have P13:=hI (P12.out.on k3)
 have P23:=hI (P22.out.on k3)
 have FROW3:Hid (w3.heap[w1.heap.size]? = some (.cells #[.int .i64 F.params,.int .i64 F.regs,.bool F.gen,.slice CA F.caught.length cn,.slice OA F.code.length on_] 99 (0,0))):=(k3.block _ hz2).trans FROW.out
 have hz3:w1.heap.size<w3.heap.size:=Nat.lt_of_lt_of_le hz2 k3.size
 clear c0 c4 c5 hib hcn k3
 go_upto_region 5 with fail
 obtain⟨w4,hw4⟩:∃w4,w4=w3.alloc (.cells #[.int .i64 ck,.int .i64 cnum,.slice VA VN VC,.slice FA FN FC] 55):=⟨_,rfl⟩
 have K34:Hid (Below w3.heap.size w3 w4):=by rw[hw4];exact aB _ _
 have K4:=btZ K3 K34.out
 have P14:=hI (P13.out.on K34.out)
 have P24:=hI (P23.out.on K34.out)
 have FROW4:Hid (w4.heap[w1.heap.size]? = some (.cells #[.int .i64 F.params,.int .i64 F.regs,.bool F.gen,.slice CA F.caught.length cn,.slice OA F.code.length on_] 99 (0,0))):=(K34.out.block _ hz3).trans FROW3.out
 have CNUM:Hid (w4.cell? ⟨w3.heap.size,1,none⟩=some (.int .i64 cnum)):=by rw[hw4];exact bL _ _ _ _
 have HW4:=hI hw4
 clear hw4
 rw[←HW4.out]
 obtain⟨m1,hm1⟩:∃m,(match bM S ⟨sk,sn⟩ 4 with | none=>false | some c=>c.num == (k:Int))=m:=⟨_,rfl⟩
 obtain⟨m2,hm2⟩:∃m,decide ((regs.length:Int)=(gD p (k:Int)).regs)=m:=⟨_,rfl⟩
 obtain⟨m3,hm3⟩:∃m,aK at_ 0 (((gD p (k:Int)).code.length:Int) - 1)=m:=⟨_,rfl⟩
 obtain⟨m4,hm4⟩:∃m,(cY (gD p (k:Int)).code).seen.getD at_.toNat false=m:=⟨_,rfl⟩
 obtain⟨m5,hm5⟩:∃m,decide (tries=(cY (gD p (k:Int)).code).out.getD at_.toNat [])=m:=⟨_,rfl⟩
 obtain⟨m6,hm6⟩:∃m,regs.all (dJ aG S)=m:=⟨_,rfl⟩
 have HR2:Hid ((true && m1 && m2 && m3 && m4 && m5 && m6)=r):=by
  rw[←HR.out,←hm1,←hm2,←hm3,←hm4,←hm5,←hm6];rfl
 rw[HFA.out] at hm2 hm3 hm4 hm5
 have HM1:=hI hm1
 have HM2:=hI hm2
 have HM3:=hI hm3
 have HM4:=hI hm4
 have HM5:=hI hm5
 have HM6:=hI hm6
 have CW2:Hid (∀W,Calls Tryz.prog 95 #[.int .i64 at_,.int .i64 0,.int .i64 ((F.code.length:Int) - 1)] W fun e w'=>e=.returned (.bool m3)∧W=w'):=fun W=>by rw[←HM3.out];exact iD _ _ _ W
 have a0:=ecZ (P14.out 0 _ rfl)
 have a1:∀E:Up w4,E.to.cell? ⟨w.heap.size+1,0,none⟩=some (.int .i64 k):=fun E=>E.cell (P24.out 0 _ rfl)
 have a2:=ecZ (P24.out 1 _ rfl)
 have a3:=ecZ (P24.out 6 _ rfl)
 have a4:=ecZ (crZ FROW4 1 rfl)
 have a5:=ecZ (crZ FROW4 4 rfl)
 have a6:=ecZ CNUM.out
 have a7:∀E:Up w4,E.to.cell? ⟨lb,5,none⟩=some (.slice YA p.fns.length yc):=fun E=>E.cell ((K4.out.cell hlb).trans (HL.out 5 _ rfl))
 clear hm1 hm2 hm3 hm4 hm5 hm6
 refine aD (by kernel_rfl) (by kernel_rfl) ?_
 repeat (go_big_quiet_step (fail))
 obtain⟨nb1,hnb1⟩:∃b:Bool,(!isb)=b:=⟨_,rfl⟩
 rw[hnb1]
 cases nb1
 case true=>
  obtain rfl:isb=false:=by simpa using hnb1
  have HN:Hid (false=r):=by
   have:m1=false:=by
    rw[←HM1.out]
    cases hq:bM S ⟨sk,sn⟩ 4 with
    | none=>rfl
    | some c=>have:=HIB.out;rw[hq] at this;cases this
   rw[←HR2.out,this];simp[Hid]
  repeat (go_big_quiet_step (fail))
  refine wpQuiet_nil ?_
  rintro _ ⟨E,rfl⟩
  have KE:=btZ K4 E.below
  clear a0 a1 a2 a3 a4 a5 a6 a7
  go_wp2_with fail
  go_ret
  exact⟨by rw[←HN.out];rfl,KE.out⟩
 obtain rfl:isb=true:=by simpa using hnb1
 obtain⟨c,hc⟩:∃c,bM S ⟨sk,sn⟩ 4=some c:=by
  cases hq:bM S ⟨sk,sn⟩ 4 with
  | none=>have:=HIB.out;rw[hq] at this;cases this
  | some c=>exact⟨c,rfl⟩
 have HCC:Hid ((cnum == (k:Int))=m1):=by show _=_;rw[←HM1.out,hc,HCN.out c hc]
 clear hc
 repeat (go_big_quiet_step (fail))
 obtain⟨b2,hb2⟩:∃b:Bool,(cnum != (k:Int))=b:=⟨_,rfl⟩
 rw[hb2]
 cases b2
 case true=>
  have HN:Hid (false=r):=by
   have:m1=false:=by rw[←HCC.out];simpa using hb2
   rw[←HR2.out,this];simp[Hid]
  repeat (go_big_quiet_step (fail))
  refine wpQuiet_nil ?_
  rintro _ ⟨E,rfl⟩
  have KE:=btZ K4 E.below
  clear a0 a1 a2 a3 a4 a5 a6 a7
  go_wp2_with fail
  go_ret
  exact⟨by rw[←HN.out];rfl,KE.out⟩
 have M1:Hid (m1=true):=by show _=_;rw[←HCC.out];simpa using hb2
 repeat (go_big_quiet_step (fail))
 obtain⟨b3,hb3⟩:∃b:Bool,((regs.length:Int) != F.regs)=b:=⟨_,rfl⟩
 rw[hb3]
 cases b3
 case true=>
  have HN:Hid (false=r):=by
   have:m2=false:=by rw[←HM2.out];exact decide_eq_false (by simpa using hb3)
   rw[←HR2.out,this];simp[Hid]
  repeat (go_big_quiet_step (fail))
  refine wpQuiet_nil ?_
  rintro _ ⟨E,rfl⟩
  have KE:=btZ K4 E.below
  clear a0 a1 a2 a3 a4 a5 a6 a7
  go_wp2_with fail
  go_ret
  exact⟨by rw[←HN.out];rfl,KE.out⟩
 have M2:Hid (m2=true):=by show _=_;rw[←HM2.out];exact decide_eq_true (by simpa using hb3)
 repeat (go_big_quiet_step ((go_at_call 95;with_reducible exact ad6 (CW2.out _))))
 obtain⟨nb3,hnb3⟩:∃b:Bool,(!m3)=b:=⟨_,rfl⟩
 rw[hnb3]
 cases nb3
 case true=>
  obtain rfl:m3=false:=by simpa using hnb3
  have HN:Hid (false=r):=by rw[←HR2.out];simp[Hid]
  repeat (go_big_quiet_step (fail))
  refine wpQuiet_nil ?_
  rintro _ ⟨E,rfl⟩
  have KE:=btZ K4 E.below
  clear a0 a1 a2 a3 a4 a5 a6 a7
  go_wp2_with fail
  go_ret
  exact⟨by rw[←HN.out];rfl,KE.out⟩
 obtain rfl:m3=true:=by simpa using hnb3
 obtain⟨v1,v2⟩:=eS.1 HM3.out
 obtain⟨m,rfl⟩:=Int.eq_ofNat_of_zero_le v1
 have hm:m<F.code.length:=by omega
 have hmi:(m:Int)<F.code.length:=by omega
 obtain⟨LO,LS⟩:=HLN.out F HFM.out
 obtain⟨yb,yo,ys,ycs,rfl,hyb,hyx,-,⟨yv1,rfl,hyr⟩,hyat⟩:=HWY.out.at_ (i:=k) (by rw[List.length_map];exact hk)
 obtain rfl:ys=(cY F.code).seen:=by rw[List.getElem?_map,HX.out] at hyx;injection hyx with hyx;exact hyx.symm
 obtain⟨XA,xc,rfl,-⟩:=id hyr
 obtain⟨xb,xo,sm,xcs,rfl,hxb,hxx,-,hxe,hxat⟩:=hyr.at_ (i:=m) (by rw[LS];exact hm)
 have hxe':xcs=[.bool sm]:=hxe
 subst hxe'
 have c1:∀E:Up w4,E.to.cell? ⟨yb,yo+k,none⟩=some (.slice (some ⟨xb,xo,none⟩) F.code.length xc):=fun E=>E.cell ((K4.out.cell hyb).trans (by have:=hyat 0 _ rfl;rw[←LS];simpa using this))
 have c2:∀E:Up w4,E.to.cell? ⟨xb,xo+m,none⟩=some (.bool sm):=fun E=>E.cell ((K4.out.cell hxb).trans (by have:=hxat 0 _ rfl;simpa using this))
 have HM4':Hid (sm=m4):=by show _=_;rw[←HM4.out,Int.toNat_natCast,List.getD_eq_getElem?_getD,hxx];rfl
 clear hxe hxat hyat hyr hyx hxx v1 v2
 repeat (go_big_quiet_step (fail))
 obtain⟨nb4,hnb4⟩:∃b:Bool,(!sm)=b:=⟨_,rfl⟩
 rw[hnb4]
 cases nb4
 case true=>
  obtain rfl:sm=false:=by simpa using hnb4
  have HN:Hid (false=r):=by rw[←HR2.out,←HM4'.out];simp[Hid]
  repeat (go_big_quiet_step (fail))
  refine wpQuiet_nil ?_
  rintro _ ⟨E,rfl⟩
  have KE:=btZ K4 E.below
  clear a0 a1 a2 a3 a4 a5 a6 a7 c1 c2
  go_wp2_with fail
  go_ret
  exact⟨by rw[←HN.out];rfl,KE.out⟩
 obtain rfl:sm=true:=by simpa using hnb4
 repeat (go_big_quiet_step (fail))
 refine wpQuiet_nil ?_
 rintro _ ⟨E,rfl⟩
 obtain⟨w5,k5⟩:=E
 dsimp only
 have K45:=hI k5
 have K5:=btZ K4 k5
 have P15:=hI (P14.out.on k5)
 have P25:=hI (P24.out.on k5)
 clear a0 a1 a2 a3 a4 a5 a6 a7 c1 c2 k5
 obtain⟨zb,zo,zs,zcs,rfl,hzb,hzx,-,⟨zv1,rfl,hzr⟩,hzat⟩:=HTY.out.at_ (i:=k) (by rw[List.length_map];exact hk)
 obtain rfl:zs=(cY F.code).out:=by rw[List.getElem?_map,HX.out] at hzx;injection hzx with hzx;exact hzx.symm
 obtain⟨TA2,tc2,rfl,-⟩:=id hzr
 obtain⟨ub,uo,om,ucs,rfl,hub,hux,-,⟨uv,rfl,hur⟩,huat⟩:=hzr.at_ (i:=m) (by rw[LO];exact hm)
 obtain⟨UA,uc,rfl,-⟩:=id hur
 have HM5':Hid (decide (tries=om)=m5):=by
  show _=_
  have:(cY F.code).out.getD (m:Int).toNat []=om:=by rw[Int.toNat_natCast,List.getD_eq_getElem?_getD,hux];rfl
  rw[←HM5.out,this]
 have CE:Hid (∀E:Up w5,Calls Tryz.prog 72 #[.slice TA tries.length tc,.slice UA om.length uc] E.to (aM (.bool m5) E.to)):=fun E=>by
  have KE:=btZ K5 E.below
  rw[←HM5'.out];exact qF _ _ _ _ E.to (HTR.out.below KE) (hur.below KE)
 have CF:Hid (∀E:Up w5,Calls Tryz.prog 86 #[.slice RA regs.length rc,.func (.func 182) #[] #[.pointer (some ⟨w.heap.size,0,none⟩)]] E.to (aM (.bool (regs.any fun v=>!dJ aG S v)) E.to)):=fun E=>by
  have KE:=btZ K5 E.below
  exact eE hU (fun v=>!dJ aG S v) RA rc regs 182 adE #[.pointer (some ⟨w.heap.size,0,none⟩)] E.to (HRG.out.below KE) (fun w6 k6 x cs hx hR=>by
   obtain⟨rfl,-⟩:=hR
   exact ac8 x p S lb sb mb w.heap.size _ _ w6 ((LT.out.below KE).below k6).look (aC k6 (E.cell (P15.out 0 _ rfl))))
 have a0:=ecZ (P15.out 0 _ rfl)
 have a1:∀E:Up w5,E.to.cell? ⟨w.heap.size+1,0,none⟩=some (.int .i64 k):=fun E=>E.cell (P25.out 0 _ rfl)
 have a2:=ecZ (P25.out 1 _ rfl)
 have a3:=ecZ (P25.out 6 _ rfl)
 have a4:=ecZ (P25.out 7 _ rfl)
 have a5:∀E:Up w5,E.to.cell? ⟨lb,4,none⟩=some (.slice (some ⟨zb,zo,none⟩) p.fns.length zc):=fun E=>E.cell ((K5.out.cell hlb).trans (HL.out 4 _ rfl))
 have a6:∀E:Up w5,E.to.cell? ⟨zb,zo+k,none⟩=some (.slice (some ⟨ub,uo,none⟩) F.code.length tc2):=fun E=>E.cell ((K5.out.cell hzb).trans (by have:=hzat 0 _ rfl;rw[←LO];simpa using this))
 have a7:∀E:Up w5,E.to.cell? ⟨ub,uo+m,none⟩=some (.slice UA om.length uc):=fun E=>E.cell ((K5.out.cell hub).trans (by have:=huat 0 _ rfl;simpa using this))
 have HMA:Hid ((!regs.any fun v=>!dJ aG S v)=m6):=by show _=_;rw[←HM6.out,List.all_eq_not_any_not]
 clear hzat hzr hzx hux huat hur
 go_upto_region 7 with fail
 refine aD (by kernel_rfl) (by kernel_rfl) ?_
 repeat (go_big_quiet_step ((first | (go_at_call 72;with_reducible exact Calls.up (CE.out _)) | (go_at_call 86;with_reducible exact Calls.up (CF.out _)))))
 cases m5
 case false=>
  have HN:Hid (false=r):=by rw[←HR2.out];simp[Hid]
  repeat (go_big_quiet_step (fail))
  refine wpQuiet_nil ?_
  rintro _ ⟨E,rfl⟩
  have KE:=btZ K5 E.below
  clear a0 a1 a2 a3 a4 a5 a6 a7
  go_wp2_with fail
  go_ret
  exact⟨by rw[←HN.out];rfl,KE.out⟩
 have HN:Hid ((!regs.any fun v=>!dJ aG S v)=r):=by show _=_;rw[HMA.out,←HR2.out,M1.out,M2.out,←HM4'.out];simp
 repeat (go_big_quiet_step ((first | (go_at_call 72;with_reducible exact Calls.up (CE.out _)) | (go_at_call 86;with_reducible exact Calls.up (CF.out _)))))
 refine wpQuiet_nil ?_
 rintro _ ⟨E,rfl⟩
 have KE:=btZ K5 E.below
 clear a0 a1 a2 a3 a4 a5 a6 a7
 go_wp2_with fail
 go_ret
 exact⟨by rw[←HN.out];rfl,KE.out⟩
end
section
open Go.RowKit
theorem rS:(Tryz.prog.info? 61).map (·.size)=some 8:=by kernel_rfl
theorem nH {p:aW} {S:aR} {f:a8} (h:dB aG p S f=true):(∃k:Nat,f.fn=k∧k<p.fns.length)∧(∃m:Nat,f.at_=m∧m<(gD p f.fn).code.length)∧(f.regs.length:Int)=(gD p f.fn).regs:=by
 unfold dB at h
 simp only[Bool.and_eq_true] at h
 obtain⟨⟨⟨⟨⟨⟨h1,h2⟩,h3⟩,h4⟩,h5⟩,h6⟩,h7⟩:=h
 obtain⟨u1,u2⟩:=eS.1 h1
 obtain⟨v1,v2⟩:=eS.1 h4
 exact⟨⟨f.fn.toNat,by omega,by omega⟩,⟨f.at_.toNat,by omega,by omega⟩,of_decide_eq_true h3⟩
theorem saved_c (fcs:List Value) (f:a8) (p:aW) (S:aR) (lb sb mb:Nat) (tv yv:Value) (w:World) (hf:eR w w.heap.size fcs f) (h:iV w lb p S sb mb tv yv) (hlens:i8 p) :
  Calls Tryz.prog 132 #[.pointer (some ⟨lb,0,none⟩),.agg ⟨fcs⟩] w (aM (.bool (nO aG p S f)) w):=by
 obtain⟨w0,hw0⟩:∃w0,w0=w.alloc (.cells ⟨fcs⟩ 61):=⟨_,rfl⟩
 have k0:Hid (Below w.heap.size w w0):=by rw[hw0];exact aB w _
 have HB:Hid (aA w0 w.heap.size fcs):=by rw[hw0];exact ad5 _ _ _
 have CFR:Hid (∀E:Up w0,Calls Tryz.prog 164 #[.pointer (some ⟨lb,0,none⟩),.agg ⟨fcs⟩] E.to (aM (.bool (dB aG p S f)) E.to)):=fun E=>by
  have KE:=btZ k0 E.below
  exact zL fcs f p S lb sb mb _ _ E.to (hf.keep KE.size (fun _ hp=>KE.cell hp)) (h.below KE) hlens
 obtain⟨q,hq⟩:∃q,dB aG p S f=q:=⟨_,rfl⟩
 rw[hq] at CFR
 obtain⟨r,hr⟩:∃r,nO aG p S f=r:=⟨_,rfl⟩
 rw[hr]
 unfold nO at hr
 rw[hq] at hr
 have HQ:=hI hq
 obtain⟨fn,at_,tos,gen,⟨sk,sn⟩,regs,tries⟩:=f
 dsimp only at hr
 obtain⟨rv,tv0,rfl,hrg,htr,wf,wa,wt,wg,-⟩:=hf
 dsimp only at hrg htr wf wa wt wg hw0 HB CFR ⊢
 obtain⟨RA,rc,rfl,-⟩:=id hrg
 obtain⟨TA,tc,rfl,-⟩:=id htr
 obtain⟨pa,pb,pc,hl,hpr⟩:=h.look.here
 obtain⟨PA1,pn1,PA2,pn2,PA3,pn3,hpe,hpf,-⟩:=id hpr
 simp only[List.cons.injEq,and_true] at hpe
 obtain⟨rfl,rfl,rfl⟩:=hpe
 have HPF:=hI hpf
 have hlb:=h.look.size
 have RNG:Hid (∀E:Up w0,E.to.rangeAt w.heap.size 0 [.int .i64 fn,.int .i64 at_,.int .i64 tos,.int .i64 gen,.int .i64 sk,.int .i64 sn,.slice RA regs.length rc,.slice TA tries.length tc]):=fun E=>(HB.out.on E.below).range
 have a0:=ecZ (HB.out 0 _ rfl)
 have a1:=ecZ (HB.out 2 _ rfl)
 have a2:=ecZ (HB.out 3 _ rfl)
 have a3:∀E:Up w0,E.to.cell? ⟨lb,0,none⟩=some (.slice PA1 p.fns.length pn1):=fun E=>E.cell ((k0.out.cell hlb).trans (hl 0 _ rfl))
 have HR:=hI hr
 have HL:=hI hl
 have HW:=hI hw0
 clear hw0 hr hq hl hpr hpf h hrg htr hlens
 go_enter Tryz.func132,Tryz.ntmps132
 go_upto_region 1 with fail
 rw[←HW.out]
 refine aD (by kernel_rfl) (by kernel_rfl) ?_
 repeat (first
  | (refine aO 61 _ rfl rfl (w.heap.size) 0 rfl _ _ RNG.out Tryz.underlying61 rfl rS ?_;go_simp)
  | go_big_quiet_step ((go_at_call 164;with_reducible exact Calls.up (CFR.out _))))
 obtain⟨nq,hnq⟩:∃b:Bool,(!q)=b:=⟨_,rfl⟩
 rw[hnq]
 cases nq
 case true=>
  obtain rfl:q=false:=by simpa using hnq
  have HN:Hid (false=r):=by rw[←HR.out];rfl
  repeat (go_big_quiet_step (fail))
  refine wpQuiet_nil ?_
  (first | rintro _ ⟨E,rfl⟩ | intro E)
  have KE:=btZ k0 E.below
  clear a0 a1 a2 a3
  go_wp2_with fail
  go_ret
  exact⟨by rw[←HN.out];rfl,KE.out⟩
 obtain rfl:q=true:=by simpa using hnq
 repeat (go_big_quiet_step (fail))
 obtain⟨b2,hb2⟩:∃b:Bool,(tos != -1)=b:=⟨_,rfl⟩
 rw[hb2]
 cases b2
 case true=>
  have HN:Hid (false=r):=by rw[←HR.out,show(tos == -1)=false by simpa using hb2];rfl
  repeat (go_big_quiet_step (fail))
  refine wpQuiet_nil ?_
  (first | rintro _ ⟨E,rfl⟩ | intro E)
  have KE:=btZ k0 E.below
  clear a0 a1 a2 a3
  go_wp2_with fail
  go_ret
  exact⟨by rw[←HN.out];rfl,KE.out⟩
 have T2:Hid ((tos == -1)=true):=by simpa [Hid] using hb2
 repeat (go_big_quiet_step (fail))
 obtain⟨b3,hb3⟩:∃b:Bool,(gen != -1)=b:=⟨_,rfl⟩
 rw[hb3]
 cases b3
 case true=>
  have HN:Hid (false=r):=by rw[←HR.out,show(gen == -1)=false by simpa using hb3,Bool.and_false];rfl
  repeat (go_big_quiet_step (fail))
  refine wpQuiet_nil ?_
  (first | rintro _ ⟨E,rfl⟩ | intro E)
  have KE:=btZ k0 E.below
  clear a0 a1 a2 a3
  go_wp2_with fail
  go_ret
  exact⟨by rw[←HN.out];rfl,KE.out⟩
 have T3:Hid ((gen == -1)=true):=by simpa [Hid] using hb3
 obtain⟨⟨k,hke,hk⟩,⟨m,hme,hm⟩,-⟩:=nH HQ.out
 dsimp only at hke hme hm
 subst hke;subst hme
 have hk1:(k:Int)<p.fns.length:=by omega
 obtain⟨b,off,F,cs,rfl,hbb,hx,-,⟨CA,cn,OA,on_,rfl,-,hcode,-⟩,hat⟩:=HPF.out.at_ hk
 have HCD:=hI hcode
 have lcode:=aP hcode
 have HFA:Hid (gD p (k:Int)=F):=by show _=_;unfold gD;rw[Int.toNat_natCast,hx];rfl
 rw[HFA.out] at HR hm
 have hbg:Hid (w.cell? ⟨b,off+k*5+2,none⟩=some (.bool F.gen)):=hat 2 _ rfl
 have hbo:Hid (w.cell? ⟨b,off+k*5+4,none⟩=some (.slice OA F.code.length on_)):=hat 4 _ rfl
 have a4:∀E:Up w0,E.to.cell? ⟨b,off+k*5+2,none⟩=some (.bool F.gen):=fun E=>E.cell ((k0.out.cell hbb).trans hbg.out)
 clear hat hx hcode
 repeat (go_big_quiet_step (fail))
 obtain⟨ng,hng⟩:∃b:Bool,(!F.gen)=b:=⟨_,rfl⟩
 rw[hng]
 cases ng
 case true=>
  have HN:Hid (false=r):=by rw[←HR.out,show F.gen=false by simpa using hng,Bool.and_false];rfl
  repeat (go_big_quiet_step (fail))
  refine wpQuiet_nil ?_
  (first | rintro _ ⟨E,rfl⟩ | intro E)
  have KE:=btZ k0 E.below
  clear a0 a1 a2 a3 a4
  go_wp2_with fail
  go_ret
  exact⟨by rw[←HN.out];rfl,KE.out⟩
 have T4:Hid (F.gen=true):=by simpa [Hid] using hng
 repeat (go_big_quiet_step (fail))
 refine wpQuiet_nil ?_
 (first | rintro _ ⟨E,rfl⟩ | intro E)
 obtain⟨w1,k1⟩:=E
 dsimp only
 have K1:=btZ k0 k1
 have HB1:=hI (HB.out.on k1)
 have HR3:Hid (((m:Int) == 0 || ((F.code[((m:Int) - 1).toNat]?).map (·.op)).getD 0 == 32)=r):=by
  show _=_
  rw[←HR.out,T2.out,T3.out,T4.out];rfl
 have b1:=ecZ (HB1.out 1 _ rfl)
 have b0:=ecZ (HB1.out 0 _ rfl)
 have b2:∀E:Up w1,E.to.cell? ⟨lb,0,none⟩=some (.slice (some ⟨b,off,none⟩) p.fns.length pn1):=fun E=>E.cell ((K1.out.cell hlb).trans (HL.out 0 _ rfl))
 have b3:∀E:Up w1,E.to.cell? ⟨b,off+k*5+4,none⟩=some (.slice OA F.code.length on_):=fun E=>E.cell ((K1.out.cell hbb).trans hbo.out)
 clear a0 a1 a2 a3 a4 k1
 go_upto_region 3 with fail
 refine aD (by kernel_rfl) (by kernel_rfl) ?_
 rcases Nat.eq_zero_or_pos m with hm0 | hm0
 ·subst hm0
  have HN:Hid (true=r):=by rw[←HR3.out];rfl
  repeat (go_big_quiet_step (fail))
  refine wpQuiet_nil ?_
  (first | rintro _ ⟨E,rfl⟩ | intro E)
  have KE:=btZ K1 E.below
  clear b0 b1 b2 b3
  go_wp2_with fail
  go_ret
  exact⟨by rw[←HN.out];rfl,KE.out⟩
 ·obtain⟨m',rfl⟩:∃m',m=m'+1:=⟨m - 1,by omega⟩
  have hm':m'<F.code.length:=by omega
  have hmi:(m':Int)<F.code.length:=by omega
  obtain⟨cb,co,ci,ccs,rfl,hcb,hcx,-,⟨rfl,-⟩,hcat⟩:=HCD.out.at_ hm'
  have b4:∀E:Up w1,E.to.cell? ⟨cb,co+m'*5,none⟩=some (.int .i64 ci.op):=fun E=>E.cell ((K1.out.cell hcb).trans (by have:=hcat 0 _ rfl;simpa using this))
  have hz0:(((m'+1:Nat):Int) == 0)=false:=beq_eq_false_iff_ne.2 (by omega)
  have hsub:(((m'+1:Nat):Int) - 1)=m':=by omega
  have HN:Hid ((ci.op == 32)=r):=by
   show _=_
   rw[←HR3.out,hz0,Bool.false_or,hsub,Int.toNat_natCast,hcx];rfl
  clear hcat hcx
  have hz1:((m':Int)+1 == 0)=false:=beq_eq_false_iff_ne.2 (by omega)
  have hs1:((m':Int)+1 - 1)=m':=by omega
  simp only[Int.natCast_add,Int.cast_ofNat_Int] at b1
  repeat (go_big_quiet_step (fail))
  refine wpQuiet_nil ?_
  (first | rintro _ ⟨E,rfl⟩ | intro E)
  have KE:=btZ K1 E.below
  clear b0 b1 b2 b3 b4
  go_wp2_with fail
  go_ret
  exact⟨by rw[←HN.out];rfl,KE.out⟩
theorem lheap_c (cs:List Value) (c:bC) (p:aW) (S:aR) (lb sb mb:Nat) (tv yv:Value) (w:World) (hc:jY w w.heap.size cs c) (h:iV w lb p S sb mb tv yv) (hlens:i8 p) (hok:kE aG S c=true) :
  Calls Tryz.prog 97 #[.pointer (some ⟨lb,0,none⟩),.agg ⟨cs⟩] w (aM (.bool (lQ aG p S c)) w):=by
 obtain⟨r,hr⟩:∃r,lQ aG p S c=r:=⟨_,rfl⟩
 rw[hr]
 unfold lQ at hr
 have HOK:=hI hok
 obtain⟨kd,nm,vals,frames⟩:=c
 dsimp only at hr
 obtain⟨vv,fv,rfl,hv,hf,-,wn⟩:=hc
 dsimp only at hv hf wn ⊢
 obtain⟨V,cv,rfl,-⟩:=id hv
 obtain⟨F,cf,rfl,-⟩:=id hf
 have lv:=aP hv
 have HF:=hI hf
 have LT:=hI h
 obtain⟨pa,pb,pc,hl,hpr⟩:=h.look.here
 obtain⟨PA1,pn1,PA2,pn2,PA3,pn3,hpe,hpf,-⟩:=id hpr
 simp only[List.cons.injEq,and_true] at hpe
 obtain⟨rfl,rfl,rfl⟩:=hpe
 have lpf:=aP hpf
 have HPF:=hI hpf
 have hlb:=h.look.size
 have h0:w.cell? ⟨lb,0,none⟩=some (.slice PA1 p.fns.length pn1):=hl 0 _ rfl
 have H0:=hI h0
 have HR:=hI hr
 clear hr hl hpr hpf h hv hf hok h0
 by_cases k4:kd=4
 ·subst k4
  have hn0:0≤nm:=by
   have:=HOK.out
   rw[kD] at this
   have e:cU S ⟨4,nm,vals,frames⟩=some (decide (0≤nm),!vals.any (fun v=>!oL aG S v 3),0):=rfl
   rw[e] at this
   simp only[Bool.and_eq_true] at this
   exact of_decide_eq_true this.1.1.1.1
  obtain⟨k,rfl⟩:=Int.eq_ofNat_of_zero_le hn0
  obtain⟨w0,hw0⟩:∃w0,w0=w.alloc (.cells #[.int .i64 4,.int .i64 k,.slice V vals.length cv,.slice F frames.length cf] 55):=⟨_,rfl⟩
  have k0:Hid (Below w.heap.size w w0):=by rw[hw0];exact aB w _
  have HB:Hid (aA w0 w.heap.size [.int .i64 4,.int .i64 k,.slice V vals.length cv,.slice F frames.length cf]):=by rw[hw0];exact ad5 _ _ _
  have a0:=ecZ (HB.out 1 _ rfl)
  have a1:=ecZ (HB.out 2 _ rfl)
  have a2:∀E:Up w0,E.to.cell? ⟨lb,0,none⟩=some (.slice PA1 p.fns.length pn1):=fun E=>E.cell ((k0.out.cell hlb).trans H0.out)
  have HW:=hI hw0
  have HR2:Hid ((decide ((k:Int)<p.fns.length) && decide (vals.length=(gD p (k:Int)).caught.length))=r):=HR.out
  clear hw0
  go_enter Tryz.func97,Tryz.ntmps97
  go_upto_region 3 with fail
  rw[←HW.out]
  refine aD (by kernel_rfl) (by kernel_rfl) ?_
  repeat (go_big_quiet_step (fail))
  obtain⟨b1,hb1⟩:∃b:Bool,(decide (k<p.fns.length))=b:=⟨_,rfl⟩
  rw[hb1]
  cases b1
  case false=>
   have HN:Hid (false=r):=by rw[←HR2.out,decide_eq_false (by have:=of_decide_eq_false hb1;omega)];rfl
   repeat (go_big_quiet_step (fail))
   refine wpQuiet_nil ?_
   (first | rintro _ ⟨E,rfl⟩ | intro E)
   have KE:=btZ k0 E.below
   clear a0 a1 a2
   go_wp2_with fail
   go_ret
   exact⟨by rw[←HN.out];rfl,KE.out⟩
  have hk:k<p.fns.length:=of_decide_eq_true hb1
  have hk1:(k:Int)<p.fns.length:=by omega
  obtain⟨b,off,G,cs,rfl,hbb,hx,-,⟨CA,cn,OA,on_,rfl,hca,-⟩,hat⟩:=HPF.out.at_ hk
  have lca:=aP hca
  have HFA:Hid (gD p (k:Int)=G):=by show _=_;unfold gD;rw[Int.toNat_natCast,hx];rfl
  have a3:∀E:Up w0,E.to.cell? ⟨b,off+k*5+3,none⟩=some (.slice CA G.caught.length cn):=fun E=>E.cell ((k0.out.cell hbb).trans (hat 3 _ rfl))
  have HN:Hid (((vals.length:Int) == (G.caught.length:Int))=r):=by show _=_;rw[←HR2.out,decide_eq_true hk1,Bool.true_and,uT,HFA.out]
  clear hat hx hca
  repeat (go_big_quiet_step (fail))
  refine wpQuiet_nil ?_
  (first | rintro _ ⟨E,rfl⟩ | intro E)
  have KE:=btZ k0 E.below
  clear a0 a1 a2 a3
  go_wp2_with fail
  go_ret
  exact⟨by rw[←HN.out];rfl,KE.out⟩
 have n4:(kd == 4)=false:=beq_eq_false_iff_ne.2 k4
 rw[if_neg k4] at HR
 by_cases k5:kd=5
 ·subst k5
  rw[if_pos rfl] at HR
  by_cases n0:nm=0
  ·subst n0
   obtain⟨f0,ft,rfl⟩:∃f0 ft,frames=f0::ft:=by
    have:=HOK.out
    rw[kD] at this
    have e:cU S ⟨5,0,vals,frames⟩=some (aK 0 0 2,(vals.length:Int) == 0,1):=rfl
    rw[e] at this
    simp only[Bool.and_eq_true] at this
    have h1:=this.1.1.2
    cases frames with
    | nil=>cases h1
    | cons a b=>exact⟨a,b,rfl⟩
   obtain⟨b,off,x,cs,rfl,hbb,hx,hcl,hR,hat⟩:=HF.out.at_ (i:=0) (by simp)
   obtain rfl:f0=x:=by simpa using hx
   obtain⟨w0,hw0⟩:∃w0,w0=w.alloc (.cells #[.int .i64 5,.int .i64 0,.slice V vals.length cv,.slice (some ⟨b,off,none⟩) (f0::ft).length cf] 55):=⟨_,rfl⟩
   have k0:Hid (Below w.heap.size w w0):=by rw[hw0];exact aB w _
   have C:=hI (saved_c cs f0 p S lb sb mb _ _ w0 (hR.keep k0.out.size (fun _ hp=>k0.out.cell hp)) (LT.out.below k0.out) hlens)
   have HRG:Hid (w0.rangeAt b off cs):=fun j v hv=>by have:=(k0.out.cell hbb).trans (hat j v hv);simpa using this
   have HI:Hid ((Tryz.prog.info? 61).map (·.size)=some cs.length):=by rw[hcl];exact rS
   have HW:=hI hw0
   have HN:Hid (nO aG p S f0=r):=HR.out
   clear hw0 hat hR hx
   simp only[List.length_cons] at HW ⊢
   go_enter Tryz.func97,Tryz.ntmps97
   go_wp2_with (first | (refine b8 61 _ rfl rfl b off rfl cs _ (by rw[←HW.out];exact HRG.out) Tryz.underlying61 rfl HI.out ?_) | fail)
   rw[←HW.out]
   refine C.out.mono ?_
   rintro e w1 ⟨rfl,k1⟩
   have K:=btZ k0 k1
   clear k1
   go_wp2_with fail
   go_ret
   exact⟨by rw[←HN.out];rfl,K.out⟩
  ·have HN:Hid (true=r):=by rw[←HR.out,show(nm != 0)=true from bne_iff_ne.2 n0];rfl
   have b0:(nm == 0)=false:=beq_eq_false_iff_ne.2 n0
   have b1:(nm != 0)=true:=bne_iff_ne.2 n0
   go_enter Tryz.func97,Tryz.ntmps97
   go_wp2_with fail
   go_ret
   exact⟨by rw[←HN.out];rfl,aB _ _⟩
 ·have n5:(kd == 5)=false:=beq_eq_false_iff_ne.2 k5
  have HN:Hid (true=r):=by rw[←HR.out,if_neg k5];rfl
  go_enter Tryz.func97,Tryz.ntmps97
  go_wp2_with fail
  go_ret
  exact⟨by rw[←HN.out];rfl,aB _ _⟩
theorem adD:∀args W,(callFunc 96 args).run Tryz.prog W=.ok (.enter 96 args) W:=enters_of Tryz.func96 (by kernel_rfl) rfl
theorem acF (cs:List Value) (c:bC) (p:aW) (S:aR) (lb sb mb pb:Nat) (tv yv:Value) (w:World) (hc:jY w w.heap.size cs c) (h:iV w lb p S sb mb tv yv) (hlens:i8 p) (hok:kE aG S c=true) (hp:w.cell? ⟨pb,0,none⟩=some (.pointer (some ⟨lb,0,none⟩))) :
  Calls Tryz.prog 96 #[.agg ⟨cs⟩,.pointer (some ⟨pb,0,none⟩)] w (aM (.bool (!lQ aG p S c)) w):=by
 obtain⟨w0,hw0⟩:∃w0,w0=w.alloc (.cells ⟨cs⟩ 55):=⟨_,rfl⟩
 have k0:Hid (Below w.heap.size w w0):=by rw[hw0];exact aB w _
 have C:=hI (lheap_c cs c p S lb sb mb _ _ w0 (hc.keep k0.out.size (fun _ hp=>k0.out.cell hp)) (h.below k0.out) hlens hok)
 obtain⟨v,f,rfl,-⟩:=hc
 have HW:=hI hw0
 have hl:pb<w.heap.size:=dP hp
 clear hw0 h
 go_enter Tryz.func96,Tryz.ntmps96
 go_wp2_with fail
 rw[←HW.out]
 refine C.out.mono ?_
 rintro e w1 ⟨rfl,k1⟩
 have K:=btZ k0 k1
 go_wp2_with fail
 go_ret
 exact⟨rfl,K.out⟩
end
end Go.Proofs.YtjaphgpkkfdaaaaGreatDoor
