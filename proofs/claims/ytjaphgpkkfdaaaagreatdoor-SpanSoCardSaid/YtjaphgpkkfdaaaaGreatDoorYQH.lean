/- A part of the walk. -/
import Derived.Test.YtjaphgpkkfdaaaaGreatDoorYQG
set_option maxHeartbeats 16000000
set_option maxRecDepth 100000
set_option linter.all false
namespace Go.Proofs.YtjaphgpkkfdaaaaGreatDoor
section
open Go.RowKit Go.Maps
theorem fine_c (ca:List Value) (t:aN) (w:World) (ht:cT w w.heap.size ca t) (hl:t.ins.length≤300) (hfi:akW t.ins):Calls Tryz.prog 53 #[.agg ⟨ca⟩] w (aM (.bool true) w):=by
 obtain⟨Ai,ni,p3,qi⟩:=ht.at3
 have QI:=hI qi
 have hil:(t.ins.length:Int)≤300:=by omega
 obtain⟨w1,hw1⟩:∃w1,w1=w.alloc (.cells ⟨ca⟩ 34):=⟨_,rfl⟩
 have K1:Hid (Below w.heap.size w w1):=by rw[hw1];exact aB _ _
 have D1:Hid (w1.heap[w.heap.size]? = some (.cells ⟨ca⟩ 34 (0,0))):=by rw[hw1];exact aJ _ _
 have hz1:w.heap.size<w1.heap.size:=(aE D1.out).1
 have l3:=amH D1.out 3 _ p3
 have HW1:=hI hw1
 clear hw1 ht qi p3
 go_enter Tryz.func53,Tryz.ntmps53
 go_upto_region 1 with fail
 rw[←HW1.out]
 go_wp2_with fail
 clear l3
 go_loopw [10] (fun i wr=>∃j:Nat,i=.int .i64 j∧j≤t.ins.length∧Hid (Below w1.heap.size w1 wr)) (fun i _=>t.ins.length - (RowKit.intOf i).toNat)
 case atStart=>exact⟨0,rfl,by omega,Below.refl _ _⟩
 case round=>
  obtain⟨j,rfl,hj,KW⟩:=hrel
  obtain⟨wo,hwo⟩:∃wo,wo=wr:=⟨_,rfl⟩
  subst hwo
  have kk:=btZ K1 KW.out
  by_cases hlt:j<t.ins.length
  ·obtain⟨b,off,x,rfl,hb,hx,wx,hat⟩:=rN QI.out hlt
   have hji:(j:Int)<t.ins.length:=by omega
   obtain⟨g0,g1,g2,g3,g4,g5,g6,g7⟩:=acX hat hb kk.out
   have hbz:b<wo.heap.size:=Nat.lt_of_lt_of_le hb kk.out.size
   have AH:=hI (hfi j x hx)
   obtain⟨wa,hwa⟩:∃wa,wa=wo.alloc (.cells #[.int .i64 x.op,.int .i64 x.a,.int .i64 x.b,.int .i64 x.c,.int .i64 x.n,.int .i64 x.exit,.int .i64 x.k.kind,.int .i64 x.k.n] 92):=⟨_,rfl⟩
   have LA:Hid (Below wo.heap.size wo wa):=by rw[hwa];exact aB _ _
   have XA:Hid (wa.heap[wo.heap.size]? = some (.cells ⟨jS x⟩ 92 (0,0))):=by rw[hwa];exact aJ _ _
   have hza:wo.heap.size<wa.heap.size:=(aE XA.out).1
   have RX:=rrZ XA
   have LX:Hid ((Tryz.prog.info? 92).map (·.size)=some (jS x).length):=akJ
   have AC:=hI (asks_c x wx wa)
   have KA:=btZ KW LA.out
   have HWA:=hI hwa
   clear hwa hat hx wx
   go_upto_region 4 with fail
   rw[←HWA.out]
   clear g0 g1 g2 g3 g4 g5 g6 g7
   go_wp2_with (refine wpList_load_mid rfl 92 _ rfl wo.heap.size 0 rfl (jS x) _ RX.out Tryz.underlying92 rfl LX.out ?_)
   refine AC.out.mono ?_
   rintro e w2 ⟨v,rfl,hv,k2⟩
   have HV:=hI hv
   obtain⟨A,cap,rfl,lv,lc,-⟩:=hv
   unfold maxLen at lc
   have K2:=btZ KA k2
   clear k2
   go_wp2_with fail
   go_loopw [18] (fun i wr=>∃m:Nat,i=.int .i64 m∧m≤(iU x).length∧Hid (Below w2.heap.size w2 wr)) (fun i _=>(iU x).length - (RowKit.intOf i).toNat)
   case atStart=>exact⟨0,rfl,by omega,Below.refl _ _⟩
   case round=>
    obtain⟨m,rfl,hm,KX⟩:=hrel
    have KY:=btZ K2 KX.out
    by_cases hlm:m<(iU x).length
    ·obtain⟨b2,off2,y,ys,rfl,hb2,hy,-,⟨rfl,wy⟩,hat⟩:=HV.out.at_ hlm
     have hmi:(m:Int)<(iU x).length:=by omega
     obtain⟨a1,a2⟩:=AH.out y (lM hy)
     have f2:wr.cell? ⟨b2,off2+m,none⟩=some (.int .i64 y):=(KX.out.cell hb2).trans (by simpa using hat 0 _ rfl)
     have hbz2:b2<wr.heap.size:=Nat.lt_of_lt_of_le hb2 KX.out.size
     have d1:¬y<0:=by omega
     have d2:¬(j:Int)≤y:=by omega
     clear hat hy wy
     go_wp2_with fail
     go_roundw
     case rel=>exact⟨m+1,by go_num,by omega,KX.out⟩
     case measure=>simp[RowKit.intOf];omega
    ·have hmi:¬(m:Int)<(iU x).length:=by omega
     go_wp2_with fail
     go_roundw
     case rel=>exact⟨j+1,by go_num,by omega,KY.out⟩
     case measure=>simp[RowKit.intOf];omega
  ·have hji:¬(j:Int)<t.ins.length:=by omega
   go_wp2_with fail
   go_ret
   exact⟨rfl,kk.out⟩
theorem cT.cellsS {w:World} {B:Nat} {cs:List Value} {z:aN} (h:cT w B cs z):∃B1 m1 B2 m2 B3 m3 B4 m4 B5 m5 B6 m6,cs=[.int .i64 z.fn,.int .i64 z.at_,.int .i64 z.loop,.slice B1 z.ins.length m1,.slice B2 z.exits.length m2,.int .i64 z.turn.at_,.int .i64 z.turn.steps,.slice B3 z.turn.sets.length m3,.slice B4 z.turn.makes.length m4,.int .i64 z.back.at_,.int .i64 z.back.steps,.slice B5 z.back.sets.length m5,.slice B6 z.back.makes.length m6]∧aH w B 8 wR (.slice B1 z.ins.length m1) z.ins:=by
 obtain⟨i,e,ct,cb,rfl,hi,⟨A2,n2,rfl,-⟩,⟨s1,m1,rfl,⟨A3,n3,rfl,-⟩,⟨A4,n4,rfl,-⟩,-⟩,⟨s2,m2,rfl,⟨A5,n5,rfl,-⟩,⟨A6,n6,rfl,-⟩,-⟩,-⟩:=h
 obtain⟨A1,n1,rfl,-⟩:=id hi
 exact⟨A1,n1,A2,n2,A3,n3,A4,n4,A5,n5,A6,n6,rfl,hi⟩
noncomputable def al3 (ins:List bG) (v a:Int):Int×Int:=if iC (nQ ins v) then ai0 ins v a else(0,0)
theorem al2 (ca:List Value) (t:aN) (v a:Nat) (w:World) (ht:cT w w.heap.size ca t) (hc:ajD t.ins) (hl:t.ins.length≤300) (hfi:akW t.ins) (hv:v<a) (ha:a≤t.ins.length) :
  Calls Tryz.prog 26 #[.agg ⟨ca⟩,.int .i64 (v:Int),.int .i64 (a:Int)] w (fun e w'=>e=.returned (.tuple #[.int .i64 (al3 t.ins v a).1,.int .i64 (al3 t.ins v a).2])∧Below w.heap.size w w'):=by
 obtain⟨Ai,ni,B2,m2,B3,m3,B4,m4,B5,m5,B6,m6,rfl,qi⟩:=ht.cellsS
 obtain⟨b,off,y,rfl,hb,hy,wy,hat⟩:=rN qi (i:=v) (by omega)
 obtain⟨ca,hca⟩:∃ca:List Value,ca=[.int .i64 t.fn,.int .i64 t.at_,.int .i64 t.loop,.slice (some ⟨b,off,none⟩) t.ins.length ni,.slice B2 t.exits.length m2,.int .i64 t.turn.at_,.int .i64 t.turn.steps,.slice B3 t.turn.sets.length m3,.slice B4 t.turn.makes.length m4,.int .i64 t.back.at_,.int .i64 t.back.steps,.slice B5 t.back.sets.length m5,.slice B6 t.back.makes.length m6]:=⟨_,rfl⟩
 have p3:ca[3]? = some (.slice (some ⟨b,off,none⟩) t.ins.length ni):=by rw[hca];rfl
 rw[←hca] at ht
 have HCA:=hI hca
 obtain⟨tb,htb⟩:∃tb,iC y.op=tb:=⟨_,rfl⟩
 have hop:nQ t.ins (v:Int)=y.op:=(insAt_some hy).2
 have hil:(t.ins.length:Int)≤300:=by omega
 have hai:(a:Int)≤t.ins.length:=by omega
 have hva:(v:Int)<a:=by omega
 have hvl:(v:Int)<t.ins.length:=by omega
 have HIt:=hI ht.size13
 obtain⟨w1,hw1⟩:∃w1,w1=w.alloc (.cells ⟨ca⟩ 34):=⟨_,rfl⟩
 have K1:Hid (Below w.heap.size w w1):=by rw[hw1];exact aB _ _
 have D1:Hid (w1.heap[w.heap.size]? = some (.cells ⟨ca⟩ 34 (0,0))):=by rw[hw1];exact aJ _ _
 have hz1:w.heap.size<w1.heap.size:=(aE D1.out).1
 have P3:=hI p3
 have l3:=amH D1.out 3 _ p3
 have HT:=hI (ht.below K1.out)
 have FC:=hI (fine_c ca t w1 HT.out hl hfi)
 have c0:w.cell? ⟨b,off+v*8,none⟩=some (.int .i64 y.op):=hat 0 _ rfl
 have HC0:=hI c0
 have RT:=rrZ D1
 have HW1:=hI hw1
 have q1:¬(v:Int)<0:=by omega
 have q2:¬(a:Int)≤v:=by omega
 have q3:¬(t.ins.length:Int)<a:=by omega
 have q4:¬(300:Int)<t.ins.length:=by omega
 unfold al3
 rw[hop,htb]
 rw[←hca]
 clear hw1 ht hca p3 qi hat hy wy c0 hop
 go_enter Tryz.func26,Tryz.ntmps26
 go_upto_region 1 with fail
 rw[←HW1.out]
 go_wp2_with (refine b8 34 _ rfl rfl w.heap.size 0 rfl ca _ RT.out Tryz.underlying34 rfl HIt.out ?_)
 refine FC.out.mono ?_
 rintro e w2 ⟨rfl,k2⟩
 have K2:=btZ K1 k2
 have L12:=hI k2
 have D2:=hI ((k2.block _ hz1).trans D1.out)
 have hz2:w.heap.size<w2.heap.size:=Nat.lt_of_lt_of_le hz1 k2.size
 have l3:=amH D2.out 3 _ P3.out
 have c0:=(K2.out.cell (p:=⟨b,off+v*8,none⟩) hb).trans HC0.out
 have hbz:b<w2.heap.size:=Nat.lt_of_lt_of_le hb K2.out.size
 have TC:=uK y.op w2
 rw[htb] at TC
 have HTC:=hI TC
 clear k2 TC htb FC RT
 go_wp2_with fail
 refine HTC.out.mono ?_
 rintro e w3 ⟨rfl,k3⟩
 have K3:=btZ K2 k3
 have L13:=btZ L12 k3
 have D3:=hI ((k3.block _ hz2).trans D2.out)
 have hz3:w.heap.size<w3.heap.size:=Nat.lt_of_lt_of_le hz2 k3.size
 clear k3 HTC l3 c0
 cases tb
 case false=>
  go_wp2_with fail
  go_ret2
  exact⟨rfl,K3.out⟩
 case true=>
 have hmm:=@run_makeMap Tryz.prog
 rw[HCA.out] at D3
 have l0:=amH D3.out 0 _ rfl
 have l1:=amH D3.out 1 _ rfl
 have l2:=amH D3.out 2 _ rfl
 have l3:=amH D3.out 3 _ rfl
 have l4:=amH D3.out 4 _ rfl
 have l5:=amH D3.out 5 _ rfl
 have l6:=amH D3.out 6 _ rfl
 have l7:=amH D3.out 7 _ rfl
 have l8:=amH D3.out 8 _ rfl
 have l9:=amH D3.out 9 _ rfl
 have l10:=amH D3.out 10 _ rfl
 have l11:=amH D3.out 11 _ rfl
 have l12:=amH D3.out 12 _ rfl
 obtain⟨w4,hw4⟩:∃w4,w4=(w3.alloc (.map #[] 0)).alloc (.cells #[.int .i64 t.fn,.int .i64 t.at_,.int .i64 t.loop,.slice (some ⟨b,off,none⟩) t.ins.length ni,.slice B2 t.exits.length m2,.int .i64 t.turn.at_,.int .i64 t.turn.steps,.slice B3 t.turn.sets.length m3,.slice B4 t.turn.makes.length m4,.int .i64 t.back.at_,.int .i64 t.back.steps,.slice B5 t.back.sets.length m5,.slice B6 t.back.makes.length m6,.map (some w3.heap.size)] 126):=⟨_,rfl⟩
 have L34:Hid (Below w3.heap.size w3 w4):=by rw[hw4];exact bE w3 _ _
 have M4:Hid (ai5 w4 w3.heap.size t.ins []):=by
  rw[hw4];exact⟨(World.ownsMap_made _ _ _ _).alloc _,List.nodup_nil,fun k hk=>by cases hk⟩
 have F4:Hid (ajC w4 w3.heap.size (w3.heap.size+1) w3.heap.size ca t):=by
  refine⟨by rw[hw4,HCA.out];exact cQ _ _ _,?_,by omega,Nat.le_refl _,by omega⟩
  have k14:=btZ L13 L34.out
  exact HT.out.keep L13.out.size (fun p hp=>k14.cell hp)
 have SC:=al1 hc hfi hl a v w4 [] hv ha F4.out M4.out
 obtain⟨⟨lo,hi⟩,hlh⟩:∃r,ai0 t.ins v a=r:=⟨_,rfl⟩
 rw[hlh] at SC
 have HSC:=hI SC
 have HLH:=hI hlh
 have HW4:=hI hw4
 clear hw4 SC hlh F4 M4
 go_upto_region 4 with fail
 rw[←HW4.out]
 clear l0 l1 l2 l3 l4 l5 l6 l7 l8 l9 l10 l11 l12 hmm
 go_wp2_with fail
 refine HSC.out.mono ?_
 rintro e w5 ⟨rfl,k5,-⟩
 have K5:Hid (Below w.heap.size w w5):=(K3.out.trans (L34.out.mono K3.out.size)).trans (k5.under K3.out.size (by have:=L34.out.size;have:=K3.out.size;omega))
 obtain⟨w6,hw6⟩:∃w6,w6=w5.alloc (.cells #[.int .i64 lo,.int .i64 hi] 128):=⟨_,rfl⟩
 have K6:Hid (Below w.heap.size w w6):=by rw[hw6];exact K5.out.alloc K5.out.size _
 have Q6:Hid (w6.heap[w5.heap.size]? = some (.cells ⟨[.int .i64 lo,.int .i64 hi]⟩ 128 (0,0))):=by rw[hw6];exact aJ _ _
 have hz6:w5.heap.size<w6.heap.size:=(aE Q6.out).1
 have HW6:=hI hw6
 clear hw6 k5 HSC
 go_upto_region 5 with fail
 rw[←HW6.out]
 have e0:∀E:Up w6,E.to.cell? ⟨w5.heap.size,0,none⟩=some (.int .i64 lo):=fun E=>E.cell (amH Q6.out 0 _ rfl)
 have e1:∀E:Up w6,E.to.cell? ⟨w5.heap.size,1,none⟩=some (.int .i64 hi):=fun E=>E.cell (amH Q6.out 1 _ rfl)
 refine cV (fun w'=>∃E:Up w6,w'=E.to) 4 [4,5] [4] (by kernel_rfl) (by decide) (by kernel_rfl) (fun _ _ d _ _ h=>by cases d <;> exact h) ⟨⟨_,(Below.refl _ w6).drew⟩,rfl⟩ ?_
 simp only[List.take_succ_cons,List.take_zero]
 generalize hqq:(fun a'=>gA _ _ _ _ _ _ a' _)=qq
 have HQQ:=hI hqq
 clear hqq
 repeat (go_big_quiet_step (fail))
 refine wpQuiet_nil ?_
 rw[←HQQ.out]
 clear HQQ qq e0 e1
 refine bA rfl (fun K hK=>?_)
 go_simp
 refine hK _ _ (fun _=>⟨⟨_,(Below.refl _ w6).drew⟩,rfl⟩) ?_
 clear hK K
 refine bP [5] _ _ (by kernel_rfl) (by kernel_rfl) ?_
 simp only[List.filterMap_cons,List.filterMap_nil,List.getElem?_toArray,List.getElem?_cons_zero,List.getElem?_cons_succ]
 go_wp2_with fail
 rw[HLH.out]
 go_ret2
 exact⟨rfl,K6.out.drew⟩
end
section
open Go.RowKit
theorem ak9 {k:Val} (h:aG k=true) (h2:k.kind=2) : -2147483648≤k.n∧k.n≤2147483647:=by
 unfold aG at h
 rw[if_neg (by omega),if_neg (by omega),if_pos h2] at h
 simp only[Bool.and_eq_true,decide_eq_true_eq] at h
 exact h
theorem amF {p:aW} {t:aN} (h:fA aG (bH p) (p.fns.map eZ) t=0):ajD t.ins:=by
 intro x hx hop hk
 obtain⟨i,hi⟩:=List.getElem?_of_mem hx
 obtain⟨_,fn,h1⟩:=nX h
 obtain⟨_,h2⟩:=fQ t.ins 0 h1 i x hi
 simp only[eY,Bool.and_eq_true] at h2
 have h3:=h2.1.2
 have hf:(cF x.op).k=true:=by rw[hop];rfl
 refine ak9 ?_ hk
 cases hr:aG x.k with
 | true=>rfl
 | false=>simp[hf,hr] at h3
theorem fine_ok {p:aW} {t:aN} (h:fA aG (bH p) (p.fns.map eZ) t=0):akW t.ins:=fun k y hy u hu=>by
 have:=oS h hy u hu
 exact⟨this.1,this.2.1⟩
end
end Go.Proofs.YtjaphgpkkfdaaaaGreatDoor
