/- Part of the walk of the given code: contracts of the functions that irun.Run reaches, and plain laws on what it reckons. -/
import Derived.Test.YtjaphgpkkfdaaaaGreatDoorZV
import Derived.Test.YtjaphgpkkfdaaaaGreatDoorZR
import Derived.Test.YtjaphgpkkfdaaaaGreatDoorZX
set_option maxHeartbeats 16000000
set_option maxRecDepth 100000
set_option linter.all false
namespace Go.Proofs.YtjaphgpkkfdaaaaGreatDoor
section
open Go.RowKit
def cJ:hV:=⟨o4,mU,lF⟩
section
variable {Γ : kI} {w w':World} {W:aI} {cv vv:Value} {vs fs:List Value}
theorem qP (K:hP Γ) (L:bO Γ w W cv vv vs fs) (hn:W.vals.length≤300) (hl:W.cells.length≤300) (x:bG) (ha:0≤x.a∧x.a<W.vals.length) (hop:x.op=4∨x.op=5∨x.op=6∨x.op=9) :
  Calls Tryz.prog 143 #[.pointer (some ⟨Γ.wb,0,none⟩),.agg #[.int .i64 x.op,.int .i64 x.a,.int .i64 x.b,.int .i64 x.c,.int .i64 x.n,.int .i64 x.exit,.int .i64 x.k.kind,.int .i64 x.k.n]] w fun e w'=>e=.returned (.bool (iY cJ W x))∧Below w.heap.size w w':=by
 obtain⟨g,cap,hvv,-,hgl⟩:=L.vals.form (by omega)
 obtain⟨ka,hka⟩:∃ka:Nat,x.a=(ka:Int):=⟨x.a.toNat,by omega⟩
 have hkl:ka<W.vals.length:=by omega
 have hki:(ka:Int)<W.vals.length:=by omega
 obtain⟨y,hy⟩:∃y,W.vals[ka]? = some y:=⟨_,lG hkl⟩
 have HKA:=hI hka
 have HY:=hI hy
 obtain⟨w1,hw1⟩:∃w1,w1=w.alloc (.cells #[.int .i64 x.op,.int .i64 x.a,.int .i64 x.b,.int .i64 x.c,.int .i64 x.n,.int .i64 x.exit,.int .i64 x.k.kind,.int .i64 x.k.n] 92):=⟨_,rfl⟩
 have K1:Hid (Below w.heap.size w w1):=by rw[hw1];exact aB _ _
 have HB1:Hid (aA w1 w.heap.size [.int .i64 x.op,.int .i64 x.a,.int .i64 x.b,.int .i64 x.c,.int .i64 x.n,.int .i64 x.exit,.int .i64 x.k.kind,.int .i64 x.k.n]):=by rw[hw1];exact ad5 _ _ _
 have hz1:w1.heap.size=w.heap.size+1:=by rw[hw1];exact Array.size_push _
 have HZ1:=hI hz1
 have HK:=hI K
 have L1:=hI (L.below K K1.out)
 have HV:=hI hvv
 have HW1:=hI hw1
 obtain⟨r,hr⟩:∃r,iY cJ W x=r:=⟨_,rfl⟩
 rw[hr]
 have HG:Hid ((if x.op=4 then y.kind == x.n else if x.op=5 then lF y == (x.n == 1) else if x.op=6 then decide (y=x.k) else match eF W x.a with | none=>false | some (_,c)=>c.kind == x.n && (x.n != 1 || c.num == x.b))=r):=by
  show _=_
  rw[←hr];unfold iY;rw[HKA.out,fR hy];rfl
 clear hka hy hz1 hw1 hr hvv ha L K
 have OW:=hI (L1.out.vals)
 rw[HV.out] at OW
 have b0:∀E:Up w1,E.to.cell? ⟨Γ.wb,17,none⟩=some (.slice (some ⟨g,0,none⟩) W.vals.length cap):=fun E=>E.cell (by have h:=L1.out.own HK.out 4;rw[HV.out] at h;exact h)
 have b1:∀E:Up w1,E.to.cell? ⟨w.heap.size,1,none⟩=some (.int .i64 ka):=fun E=>E.cell (by rw[←HKA.out];exact HB1.out 1 _ rfl)
 have b2:∀E:Up w1,E.to.cell? ⟨g,ka*2,none⟩=some (.int .i64 y.kind):=fun E=>E.cell (by rw[OW.out.cellAt (ka*2) (by omega)];exact bS HY.out (k:=0) (by decide))
 have b3:∀E:Up w1,E.to.cell? ⟨g,ka*2+1,none⟩=some (.int .i64 y.n):=fun E=>E.cell (by rw[OW.out.cellAt (ka*2+1) (by omega)];exact bS HY.out (k:=1) (by decide))
 go_enter Tryz.func143,Tryz.ntmps143
 go_upto_region 1 with fail
 rw[←HW1.out]
 refine cV (fun w'=>∃E:Up w1,w'=E.to) 8 [8,9] [8] (by kernel_rfl) (by decide) (by kernel_rfl) (fun _ _ d _ _ h=>by cases d <;> exact h) ⟨⟨_,(Below.refl _ w1).drew⟩,rfl⟩ ?_
 simp only[List.take_succ_cons,List.take_zero]
 generalize hqq:(fun a'=>gA _ _ _ _ _ _ a' _)=qq
 have HQQ:=hI hqq
 clear hqq
 repeat (go_big_quiet_step (fail))
 refine wpQuiet_nil ?_
 rw[←HQQ.out]
 clear HQQ qq b0 b1 b2 b3
 refine bA rfl (fun K hK=>?_)
 go_simp
 refine hK _ _ (fun _=>⟨⟨_,(Below.refl _ w1).drew.alloc (Nat.le_refl _) _⟩,rfl⟩) ?_
 clear hK K
 refine bP [9] _ _ (by kernel_rfl) (by kernel_rfl) ?_
 simp only[List.filterMap_cons,List.filterMap_nil,List.getElem?_toArray,List.getElem?_cons_zero,List.getElem?_cons_succ]
 refine wpList_store_row rfl 48 _ _ rfl w1.heap.size #[.int .i64 y.kind,.int .i64 y.n] rfl rfl 48 _ (aJ w1.drew _) aF rfl (all_oneCell_toArray (by simp[Value.oneCell'])) ?_
 generalize hw3:World.setRow _ _ _=w3
 have K13:Hid (Below w1.heap.size w1 w3):=by rw[←hw3];exact(Below.refl _ w1).drew.trans (jF w1.drew _ _)
 have A3:Hid (w3.heap[w1.heap.size]? = some (.cells #[.int .i64 y.kind,.int .i64 y.n] 48 (0,0))):=by rw[←hw3];exact setRow_heap _ _ _ _ _ _ (aJ w1.drew _)
 have K3:=btZ K1 K13.out
 have L3:=hI (L1.out.below HK.out K13.out)
 obtain⟨ob,hob⟩:∃o,o=w1.heap.size:=⟨_,rfl⟩
 have HOB:Hid (ob=w.heap.size+1):=by rw[hob];exact HZ1.out
 rw[←hob] at A3
 rw[←hob]
 clear hob hw3
 (try dsimp only [Act.put])
 have o0:=crZ A3 0 rfl
 have o1:=crZ A3 1 rfl
 have x0:w3.cell? ⟨w.heap.size,0,none⟩=some (.int .i64 x.op):=aC K13.out (HB1.out 0 _ rfl)
 have x4:w3.cell? ⟨w.heap.size,4,none⟩=some (.int .i64 x.n):=aC K13.out (HB1.out 4 _ rfl)
 rcases hop with h | h | h | h
 ·have HR:Hid ((y.kind == x.n)=r):=by show _=_;rw[←HG.out,if_pos h]
  rw[h] at x0
  clear h
  go_wp2_with fail
  go_ret
  exact⟨by rw[←HR.out];rfl,K3.out⟩
 ·have HR:Hid ((lF y == (x.n == 1))=r):=by show _=_;rw[←HG.out,if_neg (by omega),if_pos h]
  rw[h] at x0
  clear h
  go_upto_region 6 with fail
  have a0:=ecZ o0
  have a1:=ecZ o1
  have a2:=ecZ x4
  have TC:=hI (fun W'=>tru_c y W')
  clear x0 x4 o0 o1
  refine aD (by kernel_rfl) (by kernel_rfl) ?_
  repeat (go_big_quiet_step ((go_at_call 168;with_reducible exact Calls.up (TC.out _))))
  refine wpQuiet_nil ?_
  rintro _ ⟨E,rfl⟩
  have KE:=btZ K3 E.below
  clear a0 a1 a2
  go_wp2_with fail
  go_ret
  exact⟨by rw[←HR.out];rfl,KE.out⟩
 ·rw[h] at x0
  have x6:w3.cell? ⟨w.heap.size,6,none⟩=some (.int .i64 x.k.kind):=aC K13.out (HB1.out 6 _ rfl)
  have x7:w3.cell? ⟨w.heap.size,7,none⟩=some (.int .i64 x.k.n):=aC K13.out (HB1.out 7 _ rfl)
  have HR0:Hid ((decide (y=x.k))=r):=by show _=_;rw[←HG.out,if_neg (by omega),if_neg (by omega),if_pos h]
  obtain⟨xk,hxk⟩:∃xk,x.k=xk:=⟨_,rfl⟩
  rw[hxk] at x6 x7
  have HR1:Hid (decide (y=xk)=r):=by show _=_;rw[←hxk];exact HR0.out
  clear h HR0
  by_cases hk:y.kind=xk.kind
  ·rw[←hk] at x6
   by_cases hyn:y.n=xk.n
   ·rw[←hyn] at x7
    have HR:Hid (true=r):=by
     show _=_
     rw[←HR1.out,eq_comm,decide_eq_true_iff]
     cases y;cases xk
     dsimp only at hk hyn
     rw[hk,hyn]
    clear hk hyn
    go_wp2_with fail
    go_ret
    exact⟨by rw[←HR.out];rfl,K3.out⟩
   ·have HR:Hid (false=r):=by
     show _=_
     rw[←HR1.out,eq_comm,decide_eq_false_iff_not]
     intro e;rw[e] at hyn;exact hyn rfl
    clear hk
    go_wp2_with fail
    go_ret
    exact⟨by rw[←HR.out];rfl,K3.out⟩
  ·have HR:Hid (false=r):=by
    show _=_
    rw[←HR1.out,eq_comm,decide_eq_false_iff_not]
    intro e;rw[e] at hk;exact hk rfl
   go_wp2_with fail
   go_ret
   exact⟨by rw[←HR.out];rfl,K3.out⟩
 ·have HS:Hid ((match eF W x.a with | none=>false | some (_,c)=>c.kind == x.n && (x.n != 1 || c.num == x.b))=r):=by show _=_;rw[←HG.out,if_neg (by omega),if_neg (by omega),if_neg (by omega)]
  rw[h] at x0
  clear h
  have CC:=hI (nY HK.out L3.out HY.out hl)
  rw[←HKA.out] at CC
  have x1:w3.cell? ⟨w.heap.size,1,none⟩=some (.int .i64 x.a):=aC K13.out (HB1.out 1 _ rfl)
  go_wp2_with fail
  refine CC.out.mono ?_
  rintro e w4 ⟨rfl,k4⟩
  have K34:=hI k4
  have K4:=btZ K3 k4
  have K14:=btZ K13 k4
  have L4:=hI (L3.out.below HK.out k4)
  clear k4 x1 x0 x4 o0 o1
  cases hcell:eF W x.a with
  | none=>
   rw[eV hcell]
   have HR:Hid (false=r):=by show _=_;rw[←HS.out,hcell]
   clear hcell
   go_upto_region 10 with fail
   refine aD (by kernel_rfl) (by kernel_rfl) ?_
   repeat (go_big_quiet_step (fail))
   refine wpQuiet_nil ?_
   rintro _ ⟨E,rfl⟩
   have KE:=btZ K4 E.below
   go_wp2_with fail
   go_ret
   exact⟨by rw[←HR.out];rfl,KE.out⟩
  | some p=>
   obtain⟨n,c⟩:=p
   obtain⟨gc,cc,v,f,vA,vc,hcv,hc,hv,hf,hvs,hpt,c0,c1,c2,c3,hgc⟩:=L4.out.atCell hcell
   rw[hpt]
   have HT:Hid ((c.kind == x.n && (x.n != 1 || c.num == x.b))=r):=by show _=_;rw[←HS.out,hcell]
   clear hcell c2 c3 hc hv hf hpt hcv hvs
   by_cases hk:c.kind=x.n
   ·by_cases h1:x.n=1
    ·have HX1:=hI h1
     rw[hk,h1] at c0
     have HR:Hid ((c.num == x.b)=r):=by show _=_;rw[←HT.out,hk,h1];simp
     clear hk h1
     have a0:∀E:Up w4,E.to.cell? ⟨w.heap.size,4,none⟩=some (.int .i64 1):=fun E=>E.cell (by rw[←HX1.out];exact aC K14.out (HB1.out 4 _ rfl))
     have a1:=ecZ c0
     have a2:=ecZ c1
     have a3:∀E:Up w4,E.to.cell? ⟨w.heap.size,2,none⟩=some (.int .i64 x.b):=fun E=>E.cell (aC K14.out (HB1.out 2 _ rfl))
     clear c0 c1
     go_upto_region 10 with fail
     refine aD (by kernel_rfl) (by kernel_rfl) ?_
     repeat (go_big_quiet_step (fail))
     refine wpQuiet_nil ?_
     rintro _ ⟨E,rfl⟩
     have KE:=btZ K4 E.below
     clear a0 a1 a2 a3
     go_wp2_with fail
     go_ret
     exact⟨by rw[←HR.out];rfl,KE.out⟩
    ·rw[hk] at c0
     have HR:Hid (true=r):=by show _=_;rw[←HT.out,hk];simp[h1]
     have hb1:(x.n != 1)=true:=by simpa using h1
     clear hk h1
     have a0:∀E:Up w4,E.to.cell? ⟨w.heap.size,4,none⟩=some (.int .i64 x.n):=fun E=>E.cell (by exact aC K14.out (HB1.out 4 _ rfl))
     have a1:=ecZ c0
     have a2:=ecZ c1
     have a3:∀E:Up w4,E.to.cell? ⟨w.heap.size,2,none⟩=some (.int .i64 x.b):=fun E=>E.cell (aC K14.out (HB1.out 2 _ rfl))
     clear c0 c1
     go_upto_region 10 with fail
     refine aD (by kernel_rfl) (by kernel_rfl) ?_
     repeat (go_big_quiet_step (fail))
     refine wpQuiet_nil ?_
     rintro _ ⟨E,rfl⟩
     have KE:=btZ K4 E.below
     clear a0 a1 a2 a3
     go_wp2_with fail
     go_ret
     exact⟨by rw[←HR.out];rfl,KE.out⟩
   ·have hb0:(c.kind == x.n)=false:=by simpa using hk
    have HR:Hid (false=r):=by show _=_;rw[←HT.out,hb0];rfl
    clear hk
    have a0:∀E:Up w4,E.to.cell? ⟨w.heap.size,4,none⟩=some (.int .i64 x.n):=fun E=>E.cell (by exact aC K14.out (HB1.out 4 _ rfl))
    have a1:=ecZ c0
    have a2:=ecZ c1
    have a3:∀E:Up w4,E.to.cell? ⟨w.heap.size,2,none⟩=some (.int .i64 x.b):=fun E=>E.cell (aC K14.out (HB1.out 2 _ rfl))
    clear c0 c1
    go_upto_region 10 with fail
    refine aD (by kernel_rfl) (by kernel_rfl) ?_
    repeat (go_big_quiet_step (fail))
    refine wpQuiet_nil ?_
    rintro _ ⟨E,rfl⟩
    have KE:=btZ K4 E.below
    clear a0 a1 a2 a3
    go_wp2_with fail
    go_ret
    exact⟨by rw[←HR.out];rfl,KE.out⟩
end
end
end Go.Proofs.YtjaphgpkkfdaaaaGreatDoor
