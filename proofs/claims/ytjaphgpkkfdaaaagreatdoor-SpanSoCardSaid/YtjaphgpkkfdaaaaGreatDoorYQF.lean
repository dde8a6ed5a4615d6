/- A part of the walk. -/
import Derived.Test.YtjaphgpkkfdaaaaGreatDoorYQE
set_option maxHeartbeats 16000000
set_option maxRecDepth 100000
set_option linter.all false
namespace Go.Proofs.YtjaphgpkkfdaaaaGreatDoor
section
open Go.RowKit Go.Maps
def akW (ins:List bG):Prop:=∀(k:Nat) (y:bG),ins[k]? = some y→∀u∈iU y,0≤u∧u<(k:Int)
theorem asks7 {y:bG} (h:y.op=7):iU y=[y.a,y.b]:=by unfold iU;rw[h];rfl
theorem asks5 {y:bG} (h:y.op=5):iU y=[y.a]:=by unfold iU;rw[h];rfl
theorem St.next {W w w':World} {B fb mb:Nat} {ca:List Value} {t:aN} {i:Nat} {L:List (Nat×Nat)} {xb rb:Nat} {x:bG} (s:St W B fb mb ca t i L xb rb x w) (hx:xb≠mb) (hr:rb≠mb) (k:ai1 mb w w') (hm:∃L2,ai5 w' mb t.ins L2∧∀q∈L2,q∈L∨q.2≤i):St W B fb mb ca t i L xb rb x w':=
 ⟨s.find.fined k,hm,s.fin.trans k,k.row s.xr hx,k.row s.rr hr⟩
theorem St.reck {W w:World} {B fb mb:Nat} {ca:List Value} {t:aN} {i:Nat} {L:List (Nat×Nat)} {xb rb:Nat} {x:bG} (s:St W B fb mb ca t i L xb rb x w) (ih:akD B fb mb ca t i) (hc:ajD t.ins) (hxm:xb≠mb) (hrm:rb≠mb) (hl:t.ins.length≤300)
  (hx:t.ins[i]? = some x) (p q:Nat) (hp:x.a=(p:Int)) (hp2:p<i) (hq:x.b=(q:Int)) (hq2:q<i) :
  Calls Tryz.prog 137 #[.pointer (some ⟨fb,0,none⟩),.int .i64 (i:Int)] w (fun e w'=>e=.returned (.tuple #[.agg #[.int .i64 (ajS (ai0 t.ins · i) x).1.1,.int .i64 (ajS (ai0 t.ins · i) x).1.2],.bool (ajS (ai0 t.ins · i) x).2])∧St W B fb mb ca t i L xb rb x w'):=by
 obtain⟨L',h1,h2⟩:=s.map
 refine(alA ih hc s.find h1 hl hx p q hp hp2 hq hq2).mono ?_
 rintro e w' ⟨rfl,k,L2,m2,hL2⟩
 exact⟨rfl,s.next hxm hrm k ⟨L2,m2,fun q hq=>(hL2 q hq).elim (fun h=>h2 q h) .inr⟩⟩
theorem amE (a b:Int) (W:World):(Instr.field 128 (.agg #[.int .i64 a,.int .i64 b]) 0).run Tryz.prog W=.ok (.int .i64 a) W:=by kernel_rfl
theorem al8 {B fb mb:Nat} {ca:List Value} {t:aN} {v:Nat} (ih:akD B fb mb ca t v) (hc:ajD t.ins) (hfi:akW t.ins) {W:World} {L:List (Nat×Nat)} (hf:ajC W B fb mb ca t) (hm:ai5 W mb t.ins L) (hl:t.ins.length≤300) (hin:v<t.ins.length) :
  Calls Tryz.prog 100 #[.pointer (some ⟨fb,0,none⟩),.int .i64 (v:Int)] W (akL mb t.ins (ai4 t.ins (ai0 t.ins · v) v) v L W):=by
 have hii:(v:Int)<t.ins.length:=by omega
 have hil:(t.ins.length:Int)≤300:=by omega
 have hile:v≤t.ins.length:=by omega
 have IH:=hI ih
 have hmW:=hm.lt
 have hfW:=hf.lt
 obtain⟨Ai,ni,p3,qi⟩:=hf.tr.at3
 obtain⟨b,off,y,rfl,hb,hy,wx,hat⟩:=rN qi hin
 have HY:=hI hy
 have HV:Hid (insAt t.ins v=y):=(insAt_some hy).1
 have HAS:=hI (hfi v y hy)
 have hbz:b<W.heap.size:=by have:=hf.hB;omega
 have hkn:y.op=2→y.k.kind=2→-2147483648≤y.k.n∧y.k.n≤2147483647:=hc y (lM hy)
 obtain⟨w0,hw0⟩:∃w0,w0=W.alloc (.cells #[.int .i64 0,.int .i64 0] 128):=⟨_,rfl⟩
 have K0:Hid (Below W.heap.size W w0):=by rw[hw0];exact aB _ _
 have l3:=aC K0.out (hf.head 3 _ p3)
 obtain⟨g0,g1,g2,g3,g4,g5,g6,g7⟩:=acX hat (Nat.lt_of_lt_of_le hb (Nat.le_trans hf.hB (Nat.le_of_lt hfW))) K0.out
 obtain⟨w1,hw1⟩:∃w1,w1=w0.alloc (.cells #[.int .i64 y.op,.int .i64 y.a,.int .i64 y.b,.int .i64 y.c,.int .i64 y.n,.int .i64 y.exit,.int .i64 y.k.kind,.int .i64 y.k.n] 92):=⟨_,rfl⟩
 have hz0:w0.heap.size=W.heap.size+1:=by rw[hw0];simp
 have K1:Hid (Below W.heap.size W w1):=by rw[hw1];exact K0.out.alloc K0.out.size _
 have S1:Hid (St W B fb mb ca t v L (W.heap.size+1) W.heap.size y w1):=by
  refine⟨hf.below K1.out,⟨L,hm.below K1.out,fun k hk=>.inl hk⟩,.of_below K1.out,?_,?_⟩
  ·rw[hw1,←hz0];exact aJ _ _
  ·rw[hw1,hw0];exact aY (aJ W _) _
 have hz1:W.heap.size+1<w1.heap.size:=(aE S1.out.xr).1
 have HW0:=hI hw0
 have HW1:=hI hw1
 have HZ0:=hI hz0
 clear hz0
 clear hw0 hw1 ih hf hm hat hy wx p3 qi
 go_enter Tryz.func100,Tryz.ntmps100
 go_upto_region 1 with fail
 rw[←HW0.out]
 go_upto_region 2 with fail
 rw[←HW1.out]
 rw[HZ0.out]
 clear g0 g1 g2 g3 g4 g5 g6 g7 l3 HW0 HW1
 have x0:=amH S1.out.xr 0 (.int .i64 y.op) rfl
 by_cases o2:y.op=2
 ·have b2:(y.op == 2)=true:=beq_iff_eq.2 o2
  have b15:(y.op == 15)=false:=bF (by omega)
  have b7:(y.op == 7)=false:=bF (by omega)
  have b7n:(y.op != 7)=true:=by simp;omega
  have x6:=amH S1.out.xr 6 (.int .i64 y.k.kind) rfl
  by_cases k2:y.k.kind=2
  ·have bk:(y.k.kind == 2)=true:=beq_iff_eq.2 k2
   have hr:ai4 t.ins (ai0 t.ins · v) v=(y.k.n,y.k.n):=by unfold ai4;rw[HV.out,if_pos ⟨o2,k2⟩]
   have HR:=hI hr
   have x7:=amH S1.out.xr 7 (.int .i64 y.k.n) rfl
   clear hr k2 o2 hkn
   have r0:=amH S1.out.rr 0 (.int .i64 0) rfl
   have r1:=amH S1.out.rr 1 (.int .i64 0) rfl
   have y0:=frozen_of_row w1 W.heap.size 0 _ _ S1.out.rr
   have y1:=frozen_of_row w1 W.heap.size 1 _ _ S1.out.rr
   have hz:=S1.out.done (Nat.le_refl _) hmW (.int .i64 (y.k.n)) (.int .i64 (y.k.n))
   obtain⟨wz,hwz⟩:∃wz,wz=(w1.setCell ⟨W.heap.size,0,none⟩ (.int .i64 (y.k.n))).setCell ⟨W.heap.size,1,none⟩ (.int .i64 (y.k.n)):=⟨_,rfl⟩
   rw[←hwz] at hz
   obtain⟨z1,z2,z3⟩:=hz
   have HN0:=hI (cell_of_row wz W.heap.size 0 _ _ _ z1)
   have HN1:=hI (cell_of_row wz W.heap.size 1 _ _ _ z1)
   have HZ2:=hI z2
   have HZ3:=hI z3
   have HWZ:=hI hwz
   clear z1 z2 z3 hwz
   go_wp2_with fail
   rw[←HWZ.out]
   have n0:=HN0.out
   have n1:=HN1.out
   rw[HR.out]
   exact bodyPost_ret (v:=.agg #[.int .i64 (y.k.n),.int .i64 (y.k.n)]) (by simp[results,Tryz.results100,go_sem,n0,n1]) rfl ⟨rfl,HZ2.out,HZ3.out⟩
  ·have bk:(y.k.kind == 2)=false:=bF k2
   have hr:ai4 t.ins (ai0 t.ins · v) v=(-2147483648,2147483647):=by unfold ai4;rw[HV.out,if_neg (fun h=>k2 h.2),if_neg (by omega),if_pos (.inl (by omega))];rfl
   have HR:=hI hr
   clear hr k2 o2 hkn
   have AL:=ajN w1
   unfold ai7 at AL
   have HAL:=hI AL
   clear AL
   go_wp2_with fail
   refine HAL.out.mono ?_
   rintro e wa ⟨rfl,ka⟩
   have TA:Hid (St W B fb mb ca t v L (W.heap.size+1) W.heap.size y wa):=S1.out.below ka
   clear ka HAL
   have r0:=amH TA.out.rr 0 (.int .i64 0) rfl
   have r1:=amH TA.out.rr 1 (.int .i64 0) rfl
   have y0:=frozen_of_row wa W.heap.size 0 _ _ TA.out.rr
   have y1:=frozen_of_row wa W.heap.size 1 _ _ TA.out.rr
   have hz:=TA.out.done (Nat.le_refl _) hmW (.int .i64 (-2147483648)) (.int .i64 (2147483647))
   obtain⟨wz,hwz⟩:∃wz,wz=(wa.setCell ⟨W.heap.size,0,none⟩ (.int .i64 (-2147483648))).setCell ⟨W.heap.size,1,none⟩ (.int .i64 (2147483647)):=⟨_,rfl⟩
   rw[←hwz] at hz
   obtain⟨z1,z2,z3⟩:=hz
   have HN0:=hI (cell_of_row wz W.heap.size 0 _ _ _ z1)
   have HN1:=hI (cell_of_row wz W.heap.size 1 _ _ _ z1)
   have HZ2:=hI z2
   have HZ3:=hI z3
   have HWZ:=hI hwz
   clear z1 z2 z3 hwz
   go_wp2_with fail
   rw[←HWZ.out]
   have n0:=HN0.out
   have n1:=HN1.out
   rw[HR.out]
   exact bodyPost_ret (v:=.agg #[.int .i64 (-2147483648),.int .i64 (2147483647)]) (by simp[results,Tryz.results100,go_sem,n0,n1]) rfl ⟨rfl,HZ2.out,HZ3.out⟩
 have b2:(y.op == 2)=false:=bF o2
 by_cases o15:y.op=15
 ·have b15:(y.op == 15)=true:=beq_iff_eq.2 o15
  have hr:ai4 t.ins (ai0 t.ins · v) v=(0,600):=by unfold ai4;rw[HV.out,if_neg (fun h=>o2 h.1),if_pos o15]
  have HR:=hI hr
  clear hr o2 o15 hkn
  have r0:=amH S1.out.rr 0 (.int .i64 0) rfl
  have r1:=amH S1.out.rr 1 (.int .i64 0) rfl
  have y0:=frozen_of_row w1 W.heap.size 0 _ _ S1.out.rr
  have y1:=frozen_of_row w1 W.heap.size 1 _ _ S1.out.rr
  have hz:=S1.out.done (Nat.le_refl _) hmW (.int .i64 (0)) (.int .i64 (600))
  obtain⟨wz,hwz⟩:∃wz,wz=(w1.setCell ⟨W.heap.size,0,none⟩ (.int .i64 (0))).setCell ⟨W.heap.size,1,none⟩ (.int .i64 (600)):=⟨_,rfl⟩
  rw[←hwz] at hz
  obtain⟨z1,z2,z3⟩:=hz
  have HN0:=hI (cell_of_row wz W.heap.size 0 _ _ _ z1)
  have HN1:=hI (cell_of_row wz W.heap.size 1 _ _ _ z1)
  have HZ2:=hI z2
  have HZ3:=hI z3
  have HWZ:=hI hwz
  clear z1 z2 z3 hwz
  go_wp2_with fail
  rw[←HWZ.out]
  have n0:=HN0.out
  have n1:=HN1.out
  rw[HR.out]
  exact bodyPost_ret (v:=.agg #[.int .i64 (0),.int .i64 (600)]) (by simp[results,Tryz.results100,go_sem,n0,n1]) rfl ⟨rfl,HZ2.out,HZ3.out⟩
 have b15:(y.op == 15)=false:=bF o15
 by_cases o7:y.op=7
 case neg=>
  have b7:(y.op == 7)=false:=bF o7
  have b7n:(y.op != 7)=true:=by simpa using o7
  have hr:ai4 t.ins (ai0 t.ins · v) v=(-2147483648,2147483647):=by unfold ai4;rw[HV.out,if_neg (fun h=>o2 h.1),if_neg o15,if_pos (.inl o7)];rfl
  have HR:=hI hr
  clear hr o2 o15 o7 hkn
  have AL:=ajN w1
  unfold ai7 at AL
  have HAL:=hI AL
  clear AL
  go_wp2_with fail
  refine HAL.out.mono ?_
  rintro e wa ⟨rfl,ka⟩
  have TA:Hid (St W B fb mb ca t v L (W.heap.size+1) W.heap.size y wa):=S1.out.below ka
  clear ka HAL
  have r0:=amH TA.out.rr 0 (.int .i64 0) rfl
  have r1:=amH TA.out.rr 1 (.int .i64 0) rfl
  have y0:=frozen_of_row wa W.heap.size 0 _ _ TA.out.rr
  have y1:=frozen_of_row wa W.heap.size 1 _ _ TA.out.rr
  have hz:=TA.out.done (Nat.le_refl _) hmW (.int .i64 (-2147483648)) (.int .i64 (2147483647))
  obtain⟨wz,hwz⟩:∃wz,wz=(wa.setCell ⟨W.heap.size,0,none⟩ (.int .i64 (-2147483648))).setCell ⟨W.heap.size,1,none⟩ (.int .i64 (2147483647)):=⟨_,rfl⟩
  rw[←hwz] at hz
  obtain⟨z1,z2,z3⟩:=hz
  have HN0:=hI (cell_of_row wz W.heap.size 0 _ _ _ z1)
  have HN1:=hI (cell_of_row wz W.heap.size 1 _ _ _ z1)
  have HZ2:=hI z2
  have HZ3:=hI z3
  have HWZ:=hI hwz
  clear z1 z2 z3 hwz
  go_wp2_with fail
  rw[←HWZ.out]
  have n0:=HN0.out
  have n1:=HN1.out
  rw[HR.out]
  exact bodyPost_ret (v:=.agg #[.int .i64 (-2147483648),.int .i64 (2147483647)]) (by simp[results,Tryz.results100,go_sem,n0,n1]) rfl ⟨rfl,HZ2.out,HZ3.out⟩
 have b7:(y.op == 7)=true:=beq_iff_eq.2 o7
 have b7n:(y.op != 7)=false:=by simp[o7]
 obtain⟨ib,hib⟩:∃ib,ajU t.ins v=ib:=⟨_,rfl⟩
 have IC:=al9 S1.out.find HY.out hl
 rw[hib] at IC
 have HIC:=hI IC
 have hr1:ai4 t.ins (ai0 t.ins · v) v=if ib=false then(-2147483648,2147483647) else(match aj5 (ai0 t.ins · v) y with
  | some b=>(ajP b.1,ajP b.2)
  | none=>if y.n=7∧1≤(ai0 t.ins y.b v).1 then
    (if 0≤(ai0 t.ins y.a v).1 then(0,(ai0 t.ins y.b v).2 - 1) else(-((ai0 t.ins y.b v).2 - 1),(ai0 t.ins y.b v).2 - 1))
   else(-2147483648,2147483647)):=by
  unfold ai4
  rw[HV.out,if_neg (fun h=>o2 h.1),if_neg o15,hib]
  cases ib
  ·rw[if_pos (.inr rfl),if_pos rfl];rfl
  ·rw[if_neg (by rintro (h | h);exact h o7;cases h),if_neg (show ¬(true=false) by simp)];rfl
 have HAQ:=HAS.out
 rw[asks7 o7] at HAQ
 obtain⟨pa1,pa2⟩:=HAQ y.a (by simp)
 obtain⟨pb1,pb2⟩:=HAQ y.b (by simp)
 obtain⟨p,hp⟩:=Int.eq_ofNat_of_zero_le pa1
 obtain⟨q,hq⟩:=Int.eq_ofNat_of_zero_le pb1
 have hp2:p<v:=by omega
 have hq2:q<v:=by omega
 have HP:=hI hp
 have HQ:=hI hq
 have HR1:=hI hr1
 clear IC hib hr1 HAQ o2 o15 o7 hkn pa1 pa2 pb1 pb2 hp hq
 go_wp2_with fail
 refine HIC.out.mono ?_
 rintro e w2 ⟨rfl,k2⟩
 have T2:Hid (St W B fb mb ca t v L (W.heap.size+1) W.heap.size y w2):=S1.out.below k2
 clear k2 HIC x0
 cases ib
 case false=>
  have hr:=HR1.out
  rw[if_pos rfl] at hr
  have HR:=hI hr
  clear hr HR1
  have AL:=ajN w2
  unfold ai7 at AL
  have HAL:=hI AL
  clear AL
  go_wp2_with fail
  refine HAL.out.mono ?_
  rintro e wa ⟨rfl,ka⟩
  have TA:Hid (St W B fb mb ca t v L (W.heap.size+1) W.heap.size y wa):=T2.out.below ka
  clear ka HAL
  have r0:=amH TA.out.rr 0 (.int .i64 0) rfl
  have r1:=amH TA.out.rr 1 (.int .i64 0) rfl
  have y0:=frozen_of_row wa W.heap.size 0 _ _ TA.out.rr
  have y1:=frozen_of_row wa W.heap.size 1 _ _ TA.out.rr
  have hz:=TA.out.done (Nat.le_refl _) hmW (.int .i64 (-2147483648)) (.int .i64 (2147483647))
  obtain⟨wz,hwz⟩:∃wz,wz=(wa.setCell ⟨W.heap.size,0,none⟩ (.int .i64 (-2147483648))).setCell ⟨W.heap.size,1,none⟩ (.int .i64 (2147483647)):=⟨_,rfl⟩
  rw[←hwz] at hz
  obtain⟨z1,z2,z3⟩:=hz
  have HN0:=hI (cell_of_row wz W.heap.size 0 _ _ _ z1)
  have HN1:=hI (cell_of_row wz W.heap.size 1 _ _ _ z1)
  have HZ2:=hI z2
  have HZ3:=hI z3
  have HWZ:=hI hwz
  clear z1 z2 z3 hwz
  go_wp2_with fail
  rw[←HWZ.out]
  have n0:=HN0.out
  have n1:=HN1.out
  rw[HR.out]
  exact bodyPost_ret (v:=.agg #[.int .i64 (-2147483648),.int .i64 (2147483647)]) (by simp[results,Tryz.results100,go_sem,n0,n1]) rfl ⟨rfl,HZ2.out,HZ3.out⟩
 case true=>
 have hr2:=HR1.out
 rw[if_neg (by simp)] at hr2
 have RC:=T2.out.reck IH.out hc (by omega) (by omega) hl HY.out p q HP.out hp2 HQ.out hq2
 obtain⟨⟨⟨rl,rh⟩,rb⟩,hrv⟩:∃r,ajS (ai0 t.ins · v) y=r:=⟨_,rfl⟩
 rw[hrv] at RC
 dsimp only at RC
 have HRC:=hI RC
 have HRV:=hI hrv
 have HR2:=hI hr2
 clear RC hrv hr2 HR1
 go_wp2_with fail
 refine HRC.out.mono ?_
 rintro e w3 ⟨rfl,s3⟩
 have T3:=hI s3
 clear s3 HRC
 obtain⟨w4,hw4⟩:∃w4,w4=w3.alloc (.cells #[.int .i64 rl,.int .i64 rh] 128):=⟨_,rfl⟩
 have T4:Hid (St W B fb mb ca t v L (W.heap.size+1) W.heap.size y w4):=by rw[hw4];exact T3.out.below (aB _ _)
 have Q4:Hid (w4.heap[w3.heap.size]? = some (.cells ⟨[.int .i64 rl,.int .i64 rh]⟩ 128 (0,0))):=by rw[hw4];exact aJ _ _
 have hz4:W.heap.size+1<w4.heap.size:=(aE T4.out.xr).1
 have HW4:=hI hw4
 clear hw4
 go_upto_region 9 with fail
 rw[←HW4.out]
 cases rb
 case true=>
  have hr:=HR2.out
  have hrm:aj5 (ai0 t.ins · v) y=some (rl,rh):=by
   have h:=HRV.out
   unfold ajS at h
   split at h
   ·rename_i c hc;rw[hc];injection h with h _;rw[h]
   ·injection h with _ h;cases h
  rw[hrm] at hr
  dsimp only at hr
  have HR:=hI hr
  clear hr hrm HR2 HRV
  go_upto_region 10 with fail
  have e0:∀E:Up w4,E.to.cell? ⟨w3.heap.size,0,none⟩=some (.int .i64 rl):=fun E=>E.cell (amH Q4.out 0 _ rfl)
  have e1:∀E:Up w4,E.to.cell? ⟨w3.heap.size,1,none⟩=some (.int .i64 rh):=fun E=>E.cell (amH Q4.out 1 _ rfl)
  have hz34:w3.heap.size<w4.heap.size:=(aE Q4.out).1
  refine gG (fun w'=>∃E:Up w4,w'=E.to) [] [0,1,3,4] [2,5,6,7] [2] _ (by kernel_rfl) (by kernel_rfl) (by simp only[List.cons_append,List.nil_append,List.filterMap_cons,List.filterMap_nil,List.getElem?_toArray,List.getElem?_cons_zero,List.getElem?_cons_succ];rfl) (fun _ _ d _ _ h=>by cases d <;> exact h) ⟨⟨_,(Below.refl _ w4).drew⟩,rfl⟩ ?_
  show wpQuiet _ _ _ _ [_,_,_,_] _
  generalize hqq:(fun a'=>gA _ _ _ _ _ _ a' _)=qq
  have HQQ:=hI hqq
  clear hqq
  repeat (go_big_quiet_step (fail))
  refine wpQuiet_nil ?_
  rw[←HQQ.out]
  clear HQQ qq e0 e1
  obtain⟨w5,hw5⟩:∃w5,w5=w4.drew:=⟨_,rfl⟩
  have L5:Hid (Below w4.heap.size w4 w5):=by rw[hw5];exact(Below.refl _ w4).drew
  have T5:Hid (St W B fb mb ca t v L (W.heap.size+1) W.heap.size y w5):=T4.out.below L5.out
  rw[←hw5]
  clear hw5
  have C1:=hI (akR rl w5)
  have C2:=hI (akR rh w5)
  refine bA rfl (fun K hK=>?_)
  go_simp
  refine C1.out.mono ?_
  rintro e w6 ⟨rfl,rfl⟩
  refine hK _ _ (fun _=>⟨⟨w6,L5.out⟩,rfl⟩) ?_
  clear hK K
  refine bP [5,6,7] _ _ (by kernel_rfl) (by kernel_rfl) ?_
  simp only[List.filterMap_cons,List.filterMap_nil,List.getElem?_toArray,List.getElem?_cons_zero,List.getElem?_cons_succ]
  go_wp2_with fail
  refine C2.out.mono ?_
  rintro e w7 ⟨rfl,rfl⟩
  have r0:=amH T5.out.rr 0 (.int .i64 0) rfl
  have r1:=amH T5.out.rr 1 (.int .i64 0) rfl
  have y0:=frozen_of_row w7 W.heap.size 0 _ _ T5.out.rr
  have y1:=frozen_of_row w7 W.heap.size 1 _ _ T5.out.rr
  have hz:=T5.out.done (Nat.le_refl _) hmW (.int .i64 (ajP rl)) (.int .i64 (ajP rh))
  obtain⟨wz,hwz⟩:∃wz,wz=(w7.setCell ⟨W.heap.size,0,none⟩ (.int .i64 (ajP rl))).setCell ⟨W.heap.size,1,none⟩ (.int .i64 (ajP rh)):=⟨_,rfl⟩
  rw[←hwz] at hz
  obtain⟨z1,z2,z3⟩:=hz
  have HN0:=hI (cell_of_row wz W.heap.size 0 _ _ _ z1)
  have HN1:=hI (cell_of_row wz W.heap.size 1 _ _ _ z1)
  have HZ2:=hI z2
  have HZ3:=hI z3
  have HWZ:=hI hwz
  clear z1 z2 z3 hwz
  go_wp2_with fail
  rw[←HWZ.out]
  have n0:=HN0.out
  have n1:=HN1.out
  rw[HR.out]
  exact bodyPost_ret (v:=.agg #[.int .i64 (ajP rl),.int .i64 (ajP rh)]) (by simp[results,Tryz.results100,go_sem,n0,n1]) rfl ⟨rfl,HZ2.out,HZ3.out⟩
 case false=>
  have hrm:aj5 (ai0 t.ins · v) y=none:=by
   have h:=HRV.out
   unfold ajS at h
   split at h
   ·injection h with _ h;cases h
   ·assumption
  have hr:=HR2.out
  rw[hrm] at hr
  dsimp only at hr
  rw[HP.out,HQ.out] at hr
  obtain⟨al,ah,hps⟩:∃al ah,ai0 t.ins p v=(al,ah):=⟨_,_,rfl⟩
  obtain⟨bl,bh,hqs⟩:∃bl bh,ai0 t.ins q v=(bl,bh):=⟨_,_,rfl⟩
  obtain⟨a1,a2,a3⟩:okS (al,ah):=by rw[←hps];exact ajK hc _ _
  obtain⟨c1,c2,c3⟩:okS (bl,bh):=by rw[←hqs];exact ajK hc _ _
  dsimp only at a1 a2 a3 c1 c2 c3
  rw[hps,hqs] at hr
  dsimp only at hr
  have HR3:=hI hr
  have HPS:=hI hps
  have HQS:=hI hqs
  have x2:=amH T4.out.xr 2 (.int .i64 (q:Int)) (by show some (Value.int .i64 y.b)=_;rw[HQ.out])
  have SC:=T4.out.span IH.out (by omega) (by omega) hile q hq2
  rw[HQS.out] at SC
  have HSC:=hI SC
  clear hr hrm HR2 HRV hps hqs SC
  go_wp2_with fail
  refine HSC.out.mono ?_
  rintro e w5 ⟨rfl,s5,-⟩
  have T5:=hI s5
  clear s5 HSC x2
  obtain⟨w6,hw6⟩:∃w6,w6=w5.alloc (.cells #[.int .i64 bl,.int .i64 bh] 128):=⟨_,rfl⟩
  have T6:Hid (St W B fb mb ca t v L (W.heap.size+1) W.heap.size y w6):=by rw[hw6];exact T5.out.below (aB _ _)
  have Q6:Hid (w6.heap[w5.heap.size]? = some (.cells ⟨[.int .i64 bl,.int .i64 bh]⟩ 128 (0,0))):=by rw[hw6];exact aJ _ _
  have HW6:=hI hw6
  have hz6:W.heap.size+1<w6.heap.size:=(aE T6.out.xr).1
  have hz56:w5.heap.size<w6.heap.size:=(aE Q6.out).1
  clear hw6
  go_upto_region 12 with fail
  rw[←HW6.out]
  have x4:=amH T6.out.xr 4 (.int .i64 y.n) rfl
  have c60:=amH Q6.out 0 (.int .i64 bl) rfl
  have c61:=amH Q6.out 1 (.int .i64 bh) rfl
  by_cases n7:y.n=7
  case neg=>
   have bn:(y.n == 7)=false:=bF n7
   have hr:=HR3.out
   rw[if_neg (fun h=>n7 h.1)] at hr
   have HR:=hI hr
   clear hr HR3 n7
   have AL:=ajN w6
   unfold ai7 at AL
   have HAL:=hI AL
   clear AL
   go_wp2_with fail
   refine HAL.out.mono ?_
   rintro e wa ⟨rfl,ka⟩
   have TA:Hid (St W B fb mb ca t v L (W.heap.size+1) W.heap.size y wa):=T6.out.below ka
   clear ka HAL
   have r0:=amH TA.out.rr 0 (.int .i64 0) rfl
   have r1:=amH TA.out.rr 1 (.int .i64 0) rfl
   have y0:=frozen_of_row wa W.heap.size 0 _ _ TA.out.rr
   have y1:=frozen_of_row wa W.heap.size 1 _ _ TA.out.rr
   have hz:=TA.out.done (Nat.le_refl _) hmW (.int .i64 (-2147483648)) (.int .i64 (2147483647))
   obtain⟨wz,hwz⟩:∃wz,wz=(wa.setCell ⟨W.heap.size,0,none⟩ (.int .i64 (-2147483648))).setCell ⟨W.heap.size,1,none⟩ (.int .i64 (2147483647)):=⟨_,rfl⟩
   rw[←hwz] at hz
   obtain⟨z1,z2,z3⟩:=hz
   have HN0:=hI (cell_of_row wz W.heap.size 0 _ _ _ z1)
   have HN1:=hI (cell_of_row wz W.heap.size 1 _ _ _ z1)
   have HZ2:=hI z2
   have HZ3:=hI z3
   have HWZ:=hI hwz
   clear z1 z2 z3 hwz
   go_wp2_with fail
   rw[←HWZ.out]
   have n0:=HN0.out
   have n1:=HN1.out
   rw[HR.out]
   exact bodyPost_ret (v:=.agg #[.int .i64 (-2147483648),.int .i64 (2147483647)]) (by simp[results,Tryz.results100,go_sem,n0,n1]) rfl ⟨rfl,HZ2.out,HZ3.out⟩
  have bn:(y.n == 7)=true:=beq_iff_eq.2 n7
  by_cases l1:1≤bl
  case neg=>
   have hr:=HR3.out
   rw[if_neg (fun h=>l1 h.2)] at hr
   have HR:=hI hr
   clear hr HR3 n7
   have AL:=ajN w6
   unfold ai7 at AL
   have HAL:=hI AL
   clear AL
   go_wp2_with fail
   refine HAL.out.mono ?_
   rintro e wa ⟨rfl,ka⟩
   have TA:Hid (St W B fb mb ca t v L (W.heap.size+1) W.heap.size y wa):=T6.out.below ka
   clear ka HAL
   have r0:=amH TA.out.rr 0 (.int .i64 0) rfl
   have r1:=amH TA.out.rr 1 (.int .i64 0) rfl
   have y0:=frozen_of_row wa W.heap.size 0 _ _ TA.out.rr
   have y1:=frozen_of_row wa W.heap.size 1 _ _ TA.out.rr
   have hz:=TA.out.done (Nat.le_refl _) hmW (.int .i64 (-2147483648)) (.int .i64 (2147483647))
   obtain⟨wz,hwz⟩:∃wz,wz=(wa.setCell ⟨W.heap.size,0,none⟩ (.int .i64 (-2147483648))).setCell ⟨W.heap.size,1,none⟩ (.int .i64 (2147483647)):=⟨_,rfl⟩
   rw[←hwz] at hz
   obtain⟨z1,z2,z3⟩:=hz
   have HN0:=hI (cell_of_row wz W.heap.size 0 _ _ _ z1)
   have HN1:=hI (cell_of_row wz W.heap.size 1 _ _ _ z1)
   have HZ2:=hI z2
   have HZ3:=hI z3
   have HWZ:=hI hwz
   clear z1 z2 z3 hwz
   go_wp2_with fail
   rw[←HWZ.out]
   have n0:=HN0.out
   have n1:=HN1.out
   rw[HR.out]
   exact bodyPost_ret (v:=.agg #[.int .i64 (-2147483648),.int .i64 (2147483647)]) (by simp[results,Tryz.results100,go_sem,n0,n1]) rfl ⟨rfl,HZ2.out,HZ3.out⟩
  have hr:=HR3.out
  rw[if_pos ⟨n7,l1⟩] at hr
  have HR4:=hI hr
  have u1:IntKind.i64.wrap (bh - 1)=bh - 1:=IntWalk.i64_in _ (by omega)
  have x1:=amH T6.out.xr 1 (.int .i64 (p:Int)) (by show some (Value.int .i64 y.a)=_;rw[HP.out])
  have SC:=T6.out.span IH.out (by omega) (by omega) hile p hp2
  rw[HPS.out] at SC
  have HSC:=hI SC
  clear hr HR3 n7 SC
  go_wp2_with fail
  refine HSC.out.mono ?_
  rintro e w7 ⟨rfl,s7,-⟩
  have T7:=hI s7
  have hF:=amE al ah w7
  clear s7 HSC x1 x4 c60 c61
  by_cases l0:0≤al
  ·have hr:=HR4.out
   rw[if_pos l0] at hr
   have HR:=hI hr
   clear hr HR4
   have r0:=amH T7.out.rr 0 (.int .i64 0) rfl
   have r1:=amH T7.out.rr 1 (.int .i64 0) rfl
   have y0:=frozen_of_row w7 W.heap.size 0 _ _ T7.out.rr
   have y1:=frozen_of_row w7 W.heap.size 1 _ _ T7.out.rr
   have hz:=T7.out.done (Nat.le_refl _) hmW (.int .i64 (0)) (.int .i64 (bh - 1))
   obtain⟨wz,hwz⟩:∃wz,wz=(w7.setCell ⟨W.heap.size,0,none⟩ (.int .i64 (0))).setCell ⟨W.heap.size,1,none⟩ (.int .i64 (bh - 1)):=⟨_,rfl⟩
   rw[←hwz] at hz
   obtain⟨z1,z2,z3⟩:=hz
   have HN0:=hI (cell_of_row wz W.heap.size 0 _ _ _ z1)
   have HN1:=hI (cell_of_row wz W.heap.size 1 _ _ _ z1)
   have HZ2:=hI z2
   have HZ3:=hI z3
   have HWZ:=hI hwz
   clear z1 z2 z3 hwz
   go_wp2_with fail
   rw[←HWZ.out]
   have n0:=HN0.out
   have n1:=HN1.out
   rw[HR.out]
   exact bodyPost_ret (v:=.agg #[.int .i64 (0),.int .i64 (bh - 1)]) (by simp[results,Tryz.results100,go_sem,n0,n1]) rfl ⟨rfl,HZ2.out,HZ3.out⟩
  ·have hr:=HR4.out
   rw[if_neg l0] at hr
   have HR:=hI hr
   have u2:IntKind.i64.wrap (-(bh - 1)) = -(bh - 1):=IntWalk.i64_in _ (by omega)
   clear hr HR4
   have r0:=amH T7.out.rr 0 (.int .i64 0) rfl
   have r1:=amH T7.out.rr 1 (.int .i64 0) rfl
   have y0:=frozen_of_row w7 W.heap.size 0 _ _ T7.out.rr
   have y1:=frozen_of_row w7 W.heap.size 1 _ _ T7.out.rr
   have hz:=T7.out.done (Nat.le_refl _) hmW (.int .i64 (-(bh - 1))) (.int .i64 (bh - 1))
   obtain⟨wz,hwz⟩:∃wz,wz=(w7.setCell ⟨W.heap.size,0,none⟩ (.int .i64 (-(bh - 1)))).setCell ⟨W.heap.size,1,none⟩ (.int .i64 (bh - 1)):=⟨_,rfl⟩
   rw[←hwz] at hz
   obtain⟨z1,z2,z3⟩:=hz
   have HN0:=hI (cell_of_row wz W.heap.size 0 _ _ _ z1)
   have HN1:=hI (cell_of_row wz W.heap.size 1 _ _ _ z1)
   have HZ2:=hI z2
   have HZ3:=hI z3
   have HWZ:=hI hwz
   clear z1 z2 z3 hwz
   go_wp2_with fail
   rw[←HWZ.out]
   have n0:=HN0.out
   have n1:=HN1.out
   rw[HR.out]
   exact bodyPost_ret (v:=.agg #[.int .i64 (-(bh - 1)),.int .i64 (bh - 1)]) (by simp[results,Tryz.results100,go_sem,n0,n1]) rfl ⟨rfl,HZ2.out,HZ3.out⟩
end
end Go.Proofs.YtjaphgpkkfdaaaaGreatDoor
