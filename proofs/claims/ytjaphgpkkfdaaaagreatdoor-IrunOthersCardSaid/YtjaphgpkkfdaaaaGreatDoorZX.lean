/- Part of the walk of the given code: contracts of the functions that irun.Run reaches, and plain laws on what it reckons. -/
import Derived.Test.YtjaphgpkkfdaaaaGreatDoorZU
import Derived.Test.YtjaphgpkkfdaaaaGreatDoorZR
set_option maxHeartbeats 16000000
set_option maxRecDepth 100000
set_option linter.all false
namespace Go.Proofs.YtjaphgpkkfdaaaaGreatDoor
section
open Go.RowKit Go.IntWalk
theorem aeD {w:World} {g:Nat} {cs:List Value} {t:TypeId} (h:w.heap[g]? = some (.cells ⟨cs⟩ t (0,0))):aA w g cs:=fun i v hv=>by
 rw[cell_of_row w g i _ _ _ h];simpa using hv
theorem qL (v:Val) (w:World):Calls Tryz.prog 169 #[.agg #[.int .i64 v.kind,.int .i64 v.n]] w (aM (.agg #[.int .i64 (dD v).kind,.int .i64 (dD v).n]) w):=by
 obtain⟨k,n⟩:=v
 unfold dD
 have RC:=hI (qO ⟨k,n⟩)
 cases h:aG ⟨k,n⟩
 ·simp only[↓reduceIte,Bool.false_eq_true]
  rw[h] at RC
  clear h
  obtain⟨w0,hw0⟩:∃w0,w0=(w.alloc (.cells #[.int .i64 k,.int .i64 n] 48)).alloc (.cells #[.int .i64 0,.int .i64 0] 48):=⟨_,rfl⟩
  have K0:Hid (Below w.heap.size w w0):=by rw[hw0];exact bE _ _ _
  have B0:Hid (w0.heap[w.heap.size]? = some (.cells #[.int .i64 k,.int .i64 n] 48 (0,0))):=by rw[hw0];exact aY (aJ _ _) _
  have B1:Hid (w0.heap[w.heap.size+1]? = some (.cells #[.int .i64 0,.int .i64 0] 48 (0,0))):=by rw[hw0];exact cQ _ _ _
  have hz:w.heap.size+1<w0.heap.size:=(aE B1.out).1
  have R0:=rrZ B0
  have R1:=rrZ B1
  have HW:=hI hw0
  clear hw0
  go_enter Tryz.func169,Tryz.ntmps169
  go_upto_region 1 with fail
  rw[←HW.out]
  go_wp2_with (first | (refine wpList_load_mid rfl 48 _ rfl (w.heap.size) 0 rfl [.int .i64 k,.int .i64 n] _ R0.out Tryz.underlying48 rfl aF ?_) | fail)
  refine(RC.out _).mono ?_
  rintro e w5 ⟨rfl,k5⟩
  have K5:=btZ K0 k5
  have B05:=rkZ B0 k5
  have R05:=rrZ B05
  have B15:=rkZ B1 k5
  have R15:=rrZ B15
  clear k5
  go_wp2_with (first | (refine wpList_store_row rfl 48 _ _ rfl (w.heap.size+1) #[.int .i64 0,.int .i64 0] rfl rfl 48 _ B15.out aF rfl (all_oneCell_toArray (by simp[Value.oneCell'])) ?_))
  generalize hw9:World.setRow _ _ _=w9
  have QR:=shZ hw9 B15
  have K9:Hid (Below w.heap.size w w9):=by rw[←hw9];exact Below.set_row K5.out (by omega) _
  clear hw9
  go_wp2_with fail
  have q0:=crZ QR 0 rfl
  have q1:=crZ QR 1 rfl
  refine bodyPost_ret (v:=(.agg #[.int .i64 0,.int .i64 0])) (by simp[results,Tryz.results169,go_sem,q0,q1]) rfl ⟨rfl,K9.out⟩
 ·simp only[↓reduceIte,Bool.false_eq_true]
  rw[h] at RC
  clear h
  obtain⟨w0,hw0⟩:∃w0,w0=(w.alloc (.cells #[.int .i64 k,.int .i64 n] 48)).alloc (.cells #[.int .i64 0,.int .i64 0] 48):=⟨_,rfl⟩
  have K0:Hid (Below w.heap.size w w0):=by rw[hw0];exact bE _ _ _
  have B0:Hid (w0.heap[w.heap.size]? = some (.cells #[.int .i64 k,.int .i64 n] 48 (0,0))):=by rw[hw0];exact aY (aJ _ _) _
  have B1:Hid (w0.heap[w.heap.size+1]? = some (.cells #[.int .i64 0,.int .i64 0] 48 (0,0))):=by rw[hw0];exact cQ _ _ _
  have hz:w.heap.size+1<w0.heap.size:=(aE B1.out).1
  have R0:=rrZ B0
  have R1:=rrZ B1
  have HW:=hI hw0
  clear hw0
  go_enter Tryz.func169,Tryz.ntmps169
  go_upto_region 1 with fail
  rw[←HW.out]
  go_wp2_with (first | (refine wpList_load_mid rfl 48 _ rfl (w.heap.size) 0 rfl [.int .i64 k,.int .i64 n] _ R0.out Tryz.underlying48 rfl aF ?_) | fail)
  refine(RC.out _).mono ?_
  rintro e w5 ⟨rfl,k5⟩
  have K5:=btZ K0 k5
  have B05:=rkZ B0 k5
  have R05:=rrZ B05
  have B15:=rkZ B1 k5
  have R15:=rrZ B15
  clear k5
  go_wp2_with (first | (refine wpList_load_mid rfl 48 _ rfl (w.heap.size) 0 rfl [.int .i64 k,.int .i64 n] _ R05.out Tryz.underlying48 rfl aF ?_) | (refine wpList_store_row rfl 48 _ _ rfl (w.heap.size+1) #[.int .i64 k,.int .i64 n] rfl rfl 48 _ B15.out aF rfl (all_oneCell_toArray (by simp[Value.oneCell'])) ?_))
  generalize hw9:World.setRow _ _ _=w9
  have QR:=shZ hw9 B15
  have K9:Hid (Below w.heap.size w w9):=by rw[←hw9];exact Below.set_row K5.out (by omega) _
  clear hw9
  go_wp2_with fail
  have q0:=crZ QR 0 rfl
  have q1:=crZ QR 1 rfl
  refine bodyPost_ret (v:=(.agg #[.int .i64 k,.int .i64 n])) (by simp[results,Tryz.results169,go_sem,q0,q1]) rfl ⟨rfl,K9.out⟩
theorem tru_c (v:Val) (w:World):Calls Tryz.prog 168 #[.agg #[.int .i64 v.kind,.int .i64 v.n]] w (aM (.bool (lF v)) w):=by
 obtain⟨r,hr⟩:∃r,dD v=r:=⟨_,rfl⟩
 have TC:=qL v
 unfold lF
 rw[hr] at TC
 rw[hr]
 clear hr
 obtain⟨k,n⟩:=v
 obtain⟨rk,rn⟩:=r
 have HTC:=hI TC
 clear TC
 dsimp only
 have FC:Hid (∀W,Calls Tryz.prog 171 #[.bool false] W (aM (.agg #[.int .i64 1,.int .i64 0]) W)):=fun W=>fO false W
 by_cases hk:rk=0
 ·skip
  subst hk
  obtain⟨w0,hw0⟩:∃w0,w0=w.alloc (.cells #[.int .i64 k,.int .i64 n] 48):=⟨_,rfl⟩
  have K0:Hid (Below w.heap.size w w0):=by rw[hw0];exact aB _ _
  have B0:Hid (w0.heap[w.heap.size]? = some (.cells #[.int .i64 k,.int .i64 n] 48 (0,0))):=by rw[hw0];exact aJ _ _
  have hz:w.heap.size<w0.heap.size:=(aE B0.out).1
  have R0:=rrZ B0
  have HW:=hI hw0
  clear hw0
  go_enter Tryz.func168,Tryz.ntmps168
  go_upto_region 1 with fail
  rw[←HW.out]
  go_wp2_with (first | (refine wpList_load_mid rfl 48 _ rfl (w.heap.size) 0 rfl [.int .i64 k,.int .i64 n] _ R0.out Tryz.underlying48 rfl aF ?_) | fail)
  refine(HTC.out _).mono ?_
  rintro e w5 ⟨rfl,k5⟩
  have K5:=btZ K0 k5
  have B05:=rkZ B0 k5
  have R05:=rrZ B05
  clear k5
  go_wp2_with (first | (refine wpList_store_row rfl 48 _ _ rfl (w.heap.size) #[.int .i64 0,.int .i64 rn] rfl rfl 48 _ B05.out aF rfl (all_oneCell_toArray (by simp[Value.oneCell'])) ?_) | fail)
  generalize h6:World.setRow _ _ _=w6
  have K6:Hid (Below w.heap.size w w6):=by rw[←h6];exact Below.set_row K5.out (by omega) _
  have B06:=shZ h6 B05
  have R06:=rrZ B06
  clear h6
  have x0:∀E:Up w6,E.to.cell? ⟨w.heap.size,0,none⟩=some (.int .i64 0):=fun E=>E.cell (cell_of_row w6 w.heap.size 0 _ _ _ B06.out)
  go_upto_region 2 with fail
  dsimp only [Act.put]
  refine aD (by kernel_rfl) (by kernel_rfl) ?_
  repeat (go_big_quiet_step (fail))
  refine wpQuiet_nil ?_
  first | (rintro _ ⟨E,rfl⟩) | (intro E) | (rename_i E)
  go_wp2_with fail
  go_ret
  exact⟨by first | rfl | simp,K6.out.trans (E.below.mono K6.out.size)⟩
 ·skip
  have nk:(rk != 0)=true:=bne_iff_ne.2 hk
  by_cases h1:rk=1
  ·subst h1
   by_cases h2:rn=0
   ·subst h2
    clear hk nk
    obtain⟨w0,hw0⟩:∃w0,w0=w.alloc (.cells #[.int .i64 k,.int .i64 n] 48):=⟨_,rfl⟩
    have K0:Hid (Below w.heap.size w w0):=by rw[hw0];exact aB _ _
    have B0:Hid (w0.heap[w.heap.size]? = some (.cells #[.int .i64 k,.int .i64 n] 48 (0,0))):=by rw[hw0];exact aJ _ _
    have hz:w.heap.size<w0.heap.size:=(aE B0.out).1
    have R0:=rrZ B0
    have HW:=hI hw0
    clear hw0
    go_enter Tryz.func168,Tryz.ntmps168
    go_upto_region 1 with fail
    rw[←HW.out]
    go_wp2_with (first | (refine wpList_load_mid rfl 48 _ rfl (w.heap.size) 0 rfl [.int .i64 k,.int .i64 n] _ R0.out Tryz.underlying48 rfl aF ?_) | fail)
    refine(HTC.out _).mono ?_
    rintro e w5 ⟨rfl,k5⟩
    have K5:=btZ K0 k5
    have B05:=rkZ B0 k5
    have R05:=rrZ B05
    clear k5
    go_wp2_with (first | (refine wpList_store_row rfl 48 _ _ rfl (w.heap.size) #[.int .i64 1,.int .i64 0] rfl rfl 48 _ B05.out aF rfl (all_oneCell_toArray (by simp[Value.oneCell'])) ?_) | fail)
    generalize h6:World.setRow _ _ _=w6
    have K6:Hid (Below w.heap.size w w6):=by rw[←h6];exact Below.set_row K5.out (by omega) _
    have B06:=shZ h6 B05
    have R06:=rrZ B06
    clear h6
    have x0:∀E:Up w6,E.to.cell? ⟨w.heap.size,0,none⟩=some (.int .i64 1):=fun E=>E.cell (cell_of_row w6 w.heap.size 0 _ _ _ B06.out)
    have RX:Hid (∀E:Up w6,E.to.rangeAt w.heap.size 0 [.int .i64 1,.int .i64 0]):=fun E a u hu=>E.cell (R06.out a u hu)
    go_upto_region 2 with fail
    dsimp only [Act.put]
    refine aD (by kernel_rfl) (by kernel_rfl) ?_
    repeat (first
     | (refine aO 48 _ rfl rfl w.heap.size 0 rfl [.int .i64 1,.int .i64 0] _ RX.out Tryz.underlying48 rfl aF ?_;go_simp)
     | go_big_quiet_step ((go_at_call 171;exact Calls.up (FC.out _))))
    refine wpQuiet_nil ?_
    first | (rintro _ ⟨E,rfl⟩) | (intro E) | (rename_i E)
    go_wp2_with fail
    go_ret
    exact⟨by simp,K6.out.trans (E.below.mono K6.out.size)⟩
   ·have n2:(rn == 0)=false:=beq_eq_false_iff_ne.2 h2
    clear hk h2 nk
    obtain⟨w0,hw0⟩:∃w0,w0=w.alloc (.cells #[.int .i64 k,.int .i64 n] 48):=⟨_,rfl⟩
    have K0:Hid (Below w.heap.size w w0):=by rw[hw0];exact aB _ _
    have B0:Hid (w0.heap[w.heap.size]? = some (.cells #[.int .i64 k,.int .i64 n] 48 (0,0))):=by rw[hw0];exact aJ _ _
    have hz:w.heap.size<w0.heap.size:=(aE B0.out).1
    have R0:=rrZ B0
    have HW:=hI hw0
    clear hw0
    go_enter Tryz.func168,Tryz.ntmps168
    go_upto_region 1 with fail
    rw[←HW.out]
    go_wp2_with (first | (refine wpList_load_mid rfl 48 _ rfl (w.heap.size) 0 rfl [.int .i64 k,.int .i64 n] _ R0.out Tryz.underlying48 rfl aF ?_) | fail)
    refine(HTC.out _).mono ?_
    rintro e w5 ⟨rfl,k5⟩
    have K5:=btZ K0 k5
    have B05:=rkZ B0 k5
    have R05:=rrZ B05
    clear k5
    go_wp2_with (first | (refine wpList_store_row rfl 48 _ _ rfl (w.heap.size) #[.int .i64 1,.int .i64 rn] rfl rfl 48 _ B05.out aF rfl (all_oneCell_toArray (by simp[Value.oneCell'])) ?_) | fail)
    generalize h6:World.setRow _ _ _=w6
    have K6:Hid (Below w.heap.size w w6):=by rw[←h6];exact Below.set_row K5.out (by omega) _
    have B06:=shZ h6 B05
    have R06:=rrZ B06
    clear h6
    have x0:∀E:Up w6,E.to.cell? ⟨w.heap.size,0,none⟩=some (.int .i64 1):=fun E=>E.cell (cell_of_row w6 w.heap.size 0 _ _ _ B06.out)
    have RX:Hid (∀E:Up w6,E.to.rangeAt w.heap.size 0 [.int .i64 1,.int .i64 rn]):=fun E a u hu=>E.cell (R06.out a u hu)
    go_upto_region 2 with fail
    dsimp only [Act.put]
    refine aD (by kernel_rfl) (by kernel_rfl) ?_
    repeat (first
     | (refine aO 48 _ rfl rfl w.heap.size 0 rfl [.int .i64 1,.int .i64 rn] _ RX.out Tryz.underlying48 rfl aF ?_;go_simp)
     | go_big_quiet_step ((go_at_call 171;exact Calls.up (FC.out _))))
    refine wpQuiet_nil ?_
    first | (rintro _ ⟨E,rfl⟩) | (intro E) | (rename_i E)
    go_wp2_with fail
    go_ret
    exact⟨by rw[n2];rfl,K6.out.trans (E.below.mono K6.out.size)⟩
  ·have n1:(rk == 1)=false:=beq_eq_false_iff_ne.2 h1
   clear hk h1
   obtain⟨w0,hw0⟩:∃w0,w0=w.alloc (.cells #[.int .i64 k,.int .i64 n] 48):=⟨_,rfl⟩
   have K0:Hid (Below w.heap.size w w0):=by rw[hw0];exact aB _ _
   have B0:Hid (w0.heap[w.heap.size]? = some (.cells #[.int .i64 k,.int .i64 n] 48 (0,0))):=by rw[hw0];exact aJ _ _
   have hz:w.heap.size<w0.heap.size:=(aE B0.out).1
   have R0:=rrZ B0
   have HW:=hI hw0
   clear hw0
   go_enter Tryz.func168,Tryz.ntmps168
   go_upto_region 1 with fail
   rw[←HW.out]
   go_wp2_with (first | (refine wpList_load_mid rfl 48 _ rfl (w.heap.size) 0 rfl [.int .i64 k,.int .i64 n] _ R0.out Tryz.underlying48 rfl aF ?_) | fail)
   refine(HTC.out _).mono ?_
   rintro e w5 ⟨rfl,k5⟩
   have K5:=btZ K0 k5
   have B05:=rkZ B0 k5
   have R05:=rrZ B05
   clear k5
   go_wp2_with (first | (refine wpList_store_row rfl 48 _ _ rfl (w.heap.size) #[.int .i64 rk,.int .i64 rn] rfl rfl 48 _ B05.out aF rfl (all_oneCell_toArray (by simp[Value.oneCell'])) ?_) | fail)
   generalize h6:World.setRow _ _ _=w6
   have K6:Hid (Below w.heap.size w w6):=by rw[←h6];exact Below.set_row K5.out (by omega) _
   have B06:=shZ h6 B05
   have R06:=rrZ B06
   clear h6
   have x0:∀E:Up w6,E.to.cell? ⟨w.heap.size,0,none⟩=some (.int .i64 rk):=fun E=>E.cell (cell_of_row w6 w.heap.size 0 _ _ _ B06.out)
   have RX:Hid (∀E:Up w6,E.to.rangeAt w.heap.size 0 [.int .i64 rk,.int .i64 rn]):=fun E a u hu=>E.cell (R06.out a u hu)
   go_upto_region 2 with fail
   dsimp only [Act.put]
   refine aD (by kernel_rfl) (by kernel_rfl) ?_
   repeat (first
    | (refine aO 48 _ rfl rfl w.heap.size 0 rfl [.int .i64 rk,.int .i64 rn] _ RX.out Tryz.underlying48 rfl aF ?_;go_simp)
    | go_big_quiet_step ((go_at_call 171;exact Calls.up (FC.out _))))
   refine wpQuiet_nil ?_
   first | (rintro _ ⟨E,rfl⟩) | (intro E) | (rename_i E)
   go_wp2_with fail
   go_ret
   exact⟨by rw[nk,n1];rfl,K6.out.trans (E.below.mono K6.out.size)⟩
theorem abY (op a b:Int) (w:World):Calls Tryz.prog 172 #[.int .i64 op,.int .i64 a,.int .i64 b] w (bB (gR op a b) w):=by
 by_cases c3:op=3
 ·subst c3
  obtain⟨r,hr⟩:∃r,dS (wrap64 (a+b))=r:=⟨_,rfl⟩
  have RC:=kM (wrap64 (a+b))
  rw[hr] at RC
  show Calls _ _ _ _ (bB (dS (wrap64 (a+b))) w)
  rw[hr]
  clear hr
  obtain⟨⟨rk,rn⟩,th⟩:=r
  have HRC:=hI RC
  clear RC
  unfold bB at HRC ⊢
  dsimp only at HRC ⊢
  obtain⟨w0,hw0⟩:∃w0,w0=w.alloc (.cells #[.int .i64 0,.int .i64 0] 48):=⟨_,rfl⟩
  have K0:Hid (Below w.heap.size w w0):=by rw[hw0];exact aB _ _
  have B0:Hid (w0.heap[w.heap.size]? = some (.cells #[.int .i64 0,.int .i64 0] 48 (0,0))):=by rw[hw0];exact aJ _ _
  have hz:w.heap.size<w0.heap.size:=(aE B0.out).1
  have R0:=rrZ B0
  have HW:=hI hw0
  clear hw0
  go_enter Tryz.func172,Tryz.ntmps172
  go_upto_region 1 with fail
  rw[←HW.out]
  go_wp2_with (first | fail)
  refine(HRC.out _).mono ?_
  rintro e w5 ⟨rfl,k5⟩
  have K5:=btZ K0 k5
  have B05:=rkZ B0 k5
  have R05:=rrZ B05
  clear k5
  go_wp2_with (first | (refine wpList_store_row rfl 48 _ _ rfl (w.heap.size) #[.int .i64 rk,.int .i64 rn] rfl rfl 48 _ B05.out aF rfl (all_oneCell_toArray (by simp[Value.oneCell'])) ?_))
  generalize hw9:World.setRow _ _ _=w9
  have QR:=shZ hw9 B05
  have K9:Hid (Below w.heap.size w w9):=by rw[←hw9];exact Below.set_row K5.out (by omega) _
  clear hw9
  go_wp2_with fail
  have q0:=crZ QR 0 rfl
  have q1:=crZ QR 1 rfl
  refine bodyPost_ret (v:=(.tuple #[.agg #[.int .i64 rk,.int .i64 rn],.int .i64 th])) (by simp[results,Tryz.results172,go_sem,q0,q1]) rfl ⟨rfl,K9.out⟩
 by_cases c4:op=4
 ·subst c4
  clear c3
  obtain⟨r,hr⟩:∃r,dS (wrap64 (a - b))=r:=⟨_,rfl⟩
  have RC:=kM (wrap64 (a - b))
  rw[hr] at RC
  show Calls _ _ _ _ (bB (dS (wrap64 (a - b))) w)
  rw[hr]
  clear hr
  obtain⟨⟨rk,rn⟩,th⟩:=r
  have HRC:=hI RC
  clear RC
  unfold bB at HRC ⊢
  dsimp only at HRC ⊢
  obtain⟨w0,hw0⟩:∃w0,w0=w.alloc (.cells #[.int .i64 0,.int .i64 0] 48):=⟨_,rfl⟩
  have K0:Hid (Below w.heap.size w w0):=by rw[hw0];exact aB _ _
  have B0:Hid (w0.heap[w.heap.size]? = some (.cells #[.int .i64 0,.int .i64 0] 48 (0,0))):=by rw[hw0];exact aJ _ _
  have hz:w.heap.size<w0.heap.size:=(aE B0.out).1
  have R0:=rrZ B0
  have HW:=hI hw0
  clear hw0
  go_enter Tryz.func172,Tryz.ntmps172
  go_upto_region 1 with fail
  rw[←HW.out]
  go_wp2_with (first | fail)
  refine(HRC.out _).mono ?_
  rintro e w5 ⟨rfl,k5⟩
  have K5:=btZ K0 k5
  have B05:=rkZ B0 k5
  have R05:=rrZ B05
  clear k5
  go_wp2_with (first | (refine wpList_store_row rfl 48 _ _ rfl (w.heap.size) #[.int .i64 rk,.int .i64 rn] rfl rfl 48 _ B05.out aF rfl (all_oneCell_toArray (by simp[Value.oneCell'])) ?_))
  generalize hw9:World.setRow _ _ _=w9
  have QR:=shZ hw9 B05
  have K9:Hid (Below w.heap.size w w9):=by rw[←hw9];exact Below.set_row K5.out (by omega) _
  clear hw9
  go_wp2_with fail
  have q0:=crZ QR 0 rfl
  have q1:=crZ QR 1 rfl
  refine bodyPost_ret (v:=(.tuple #[.agg #[.int .i64 rk,.int .i64 rn],.int .i64 th])) (by simp[results,Tryz.results172,go_sem,q0,q1]) rfl ⟨rfl,K9.out⟩
 by_cases c5:op=5
 ·subst c5
  clear c3
  clear c4
  obtain⟨r,hr⟩:∃r,dS (wrap64 (a*b))=r:=⟨_,rfl⟩
  have RC:=kM (wrap64 (a*b))
  rw[hr] at RC
  show Calls _ _ _ _ (bB (dS (wrap64 (a*b))) w)
  rw[hr]
  clear hr
  obtain⟨⟨rk,rn⟩,th⟩:=r
  have HRC:=hI RC
  clear RC
  unfold bB at HRC ⊢
  dsimp only at HRC ⊢
  obtain⟨w0,hw0⟩:∃w0,w0=w.alloc (.cells #[.int .i64 0,.int .i64 0] 48):=⟨_,rfl⟩
  have K0:Hid (Below w.heap.size w w0):=by rw[hw0];exact aB _ _
  have B0:Hid (w0.heap[w.heap.size]? = some (.cells #[.int .i64 0,.int .i64 0] 48 (0,0))):=by rw[hw0];exact aJ _ _
  have hz:w.heap.size<w0.heap.size:=(aE B0.out).1
  have R0:=rrZ B0
  have HW:=hI hw0
  clear hw0
  go_enter Tryz.func172,Tryz.ntmps172
  go_upto_region 1 with fail
  rw[←HW.out]
  go_wp2_with (first | fail)
  refine(HRC.out _).mono ?_
  rintro e w5 ⟨rfl,k5⟩
  have K5:=btZ K0 k5
  have B05:=rkZ B0 k5
  have R05:=rrZ B05
  clear k5
  go_wp2_with (first | (refine wpList_store_row rfl 48 _ _ rfl (w.heap.size) #[.int .i64 rk,.int .i64 rn] rfl rfl 48 _ B05.out aF rfl (all_oneCell_toArray (by simp[Value.oneCell'])) ?_))
  generalize hw9:World.setRow _ _ _=w9
  have QR:=shZ hw9 B05
  have K9:Hid (Below w.heap.size w w9):=by rw[←hw9];exact Below.set_row K5.out (by omega) _
  clear hw9
  go_wp2_with fail
  have q0:=crZ QR 0 rfl
  have q1:=crZ QR 1 rfl
  refine bodyPost_ret (v:=(.tuple #[.agg #[.int .i64 rk,.int .i64 rn],.int .i64 th])) (by simp[results,Tryz.results172,go_sem,q0,q1]) rfl ⟨rfl,K9.out⟩
 by_cases c6:op=6
 ·subst c6
  clear c3
  clear c4
  clear c5
  by_cases hb:b=0
  ·subst hb
   show Calls _ _ _ _ (bB (⟨0,0⟩,2) w)
   have HRC:=hI (iN 2)
   unfold bB at HRC ⊢
   dsimp only at HRC ⊢
   obtain⟨w0,hw0⟩:∃w0,w0=w.alloc (.cells #[.int .i64 0,.int .i64 0] 48):=⟨_,rfl⟩
   have K0:Hid (Below w.heap.size w w0):=by rw[hw0];exact aB _ _
   have B0:Hid (w0.heap[w.heap.size]? = some (.cells #[.int .i64 0,.int .i64 0] 48 (0,0))):=by rw[hw0];exact aJ _ _
   have hz:w.heap.size<w0.heap.size:=(aE B0.out).1
   have R0:=rrZ B0
   have HW:=hI hw0
   clear hw0
   go_enter Tryz.func172,Tryz.ntmps172
   go_upto_region 1 with fail
   rw[←HW.out]
   go_wp2_with (first | fail)
   refine(HRC.out _).mono ?_
   rintro e w5 ⟨rfl,k5⟩
   have K5:=btZ K0 k5
   have B05:=rkZ B0 k5
   have R05:=rrZ B05
   clear k5
   go_wp2_with (first | (refine wpList_store_row rfl 48 _ _ rfl (w.heap.size) #[.int .i64 0,.int .i64 0] rfl rfl 48 _ B05.out aF rfl (all_oneCell_toArray (by simp[Value.oneCell'])) ?_))
   generalize hw9:World.setRow _ _ _=w9
   have QR:=shZ hw9 B05
   have K9:Hid (Below w.heap.size w w9):=by rw[←hw9];exact Below.set_row K5.out (by omega) _
   clear hw9
   go_wp2_with fail
   have q0:=crZ QR 0 rfl
   have q1:=crZ QR 1 rfl
   refine bodyPost_ret (v:=(.tuple #[.agg #[.int .i64 0,.int .i64 0],.int .i64 2])) (by simp[results,Tryz.results172,go_sem,q0,q1]) rfl ⟨rfl,K9.out⟩
  ·have n0:(b == 0)=false:=beq_eq_false_iff_ne.2 hb
   rw[show gR 6 a b=dS (wrap64 (a.tdiv b)) from by unfold gR;rw[if_neg (by decide),if_neg (by decide),if_neg (by decide),if_pos (by decide),if_neg hb,if_pos rfl]]
   obtain⟨r,hr⟩:∃r,dS (wrap64 (a.tdiv b))=r:=⟨_,rfl⟩
   have RC:=kM (wrap64 (a.tdiv b))
   rw[hr] at RC
   show Calls _ _ _ _ (bB (dS (wrap64 (a.tdiv b))) w)
   rw[hr]
   clear hr
   obtain⟨⟨rk,rn⟩,th⟩:=r
   have HRC:=hI RC
   clear RC
   unfold bB at HRC ⊢
   dsimp only at HRC ⊢
   obtain⟨w0,hw0⟩:∃w0,w0=w.alloc (.cells #[.int .i64 0,.int .i64 0] 48):=⟨_,rfl⟩
   have K0:Hid (Below w.heap.size w w0):=by rw[hw0];exact aB _ _
   have B0:Hid (w0.heap[w.heap.size]? = some (.cells #[.int .i64 0,.int .i64 0] 48 (0,0))):=by rw[hw0];exact aJ _ _
   have hz:w.heap.size<w0.heap.size:=(aE B0.out).1
   have R0:=rrZ B0
   have HW:=hI hw0
   clear hw0
   go_enter Tryz.func172,Tryz.ntmps172
   go_upto_region 1 with fail
   rw[←HW.out]
   go_wp2_with (first | fail)
   refine(HRC.out _).mono ?_
   rintro e w5 ⟨rfl,k5⟩
   have K5:=btZ K0 k5
   have B05:=rkZ B0 k5
   have R05:=rrZ B05
   clear k5
   go_wp2_with (first | (refine wpList_store_row rfl 48 _ _ rfl (w.heap.size) #[.int .i64 rk,.int .i64 rn] rfl rfl 48 _ B05.out aF rfl (all_oneCell_toArray (by simp[Value.oneCell'])) ?_))
   generalize hw9:World.setRow _ _ _=w9
   have QR:=shZ hw9 B05
   have K9:Hid (Below w.heap.size w w9):=by rw[←hw9];exact Below.set_row K5.out (by omega) _
   clear hw9
   go_wp2_with fail
   have q0:=crZ QR 0 rfl
   have q1:=crZ QR 1 rfl
   refine bodyPost_ret (v:=(.tuple #[.agg #[.int .i64 rk,.int .i64 rn],.int .i64 th])) (by simp[results,Tryz.results172,go_sem,q0,q1]) rfl ⟨rfl,K9.out⟩
 by_cases c7:op=7
 ·subst c7
  clear c3
  clear c4
  clear c5
  clear c6
  by_cases hb:b=0
  ·subst hb
   show Calls _ _ _ _ (bB (⟨0,0⟩,2) w)
   have HRC:=hI (iN 2)
   unfold bB at HRC ⊢
   dsimp only at HRC ⊢
   obtain⟨w0,hw0⟩:∃w0,w0=w.alloc (.cells #[.int .i64 0,.int .i64 0] 48):=⟨_,rfl⟩
   have K0:Hid (Below w.heap.size w w0):=by rw[hw0];exact aB _ _
   have B0:Hid (w0.heap[w.heap.size]? = some (.cells #[.int .i64 0,.int .i64 0] 48 (0,0))):=by rw[hw0];exact aJ _ _
   have hz:w.heap.size<w0.heap.size:=(aE B0.out).1
   have R0:=rrZ B0
   have HW:=hI hw0
   clear hw0
   go_enter Tryz.func172,Tryz.ntmps172
   go_upto_region 1 with fail
   rw[←HW.out]
   go_wp2_with (first | fail)
   refine(HRC.out _).mono ?_
   rintro e w5 ⟨rfl,k5⟩
   have K5:=btZ K0 k5
   have B05:=rkZ B0 k5
   have R05:=rrZ B05
   clear k5
   go_wp2_with (first | (refine wpList_store_row rfl 48 _ _ rfl (w.heap.size) #[.int .i64 0,.int .i64 0] rfl rfl 48 _ B05.out aF rfl (all_oneCell_toArray (by simp[Value.oneCell'])) ?_))
   generalize hw9:World.setRow _ _ _=w9
   have QR:=shZ hw9 B05
   have K9:Hid (Below w.heap.size w w9):=by rw[←hw9];exact Below.set_row K5.out (by omega) _
   clear hw9
   go_wp2_with fail
   have q0:=crZ QR 0 rfl
   have q1:=crZ QR 1 rfl
   refine bodyPost_ret (v:=(.tuple #[.agg #[.int .i64 0,.int .i64 0],.int .i64 2])) (by simp[results,Tryz.results172,go_sem,q0,q1]) rfl ⟨rfl,K9.out⟩
  ·have n0:(b == 0)=false:=beq_eq_false_iff_ne.2 hb
   rw[show gR 7 a b=dS (a.tmod b) from by unfold gR;rw[if_neg (by decide),if_neg (by decide),if_neg (by decide),if_pos (by decide),if_neg hb,if_neg (by decide)]]
   obtain⟨r,hr⟩:∃r,dS (a.tmod b)=r:=⟨_,rfl⟩
   have RC:=kM (a.tmod b)
   rw[hr] at RC
   show Calls _ _ _ _ (bB (dS (a.tmod b)) w)
   rw[hr]
   clear hr
   obtain⟨⟨rk,rn⟩,th⟩:=r
   have HRC:=hI RC
   clear RC
   unfold bB at HRC ⊢
   dsimp only at HRC ⊢
   obtain⟨w0,hw0⟩:∃w0,w0=w.alloc (.cells #[.int .i64 0,.int .i64 0] 48):=⟨_,rfl⟩
   have K0:Hid (Below w.heap.size w w0):=by rw[hw0];exact aB _ _
   have B0:Hid (w0.heap[w.heap.size]? = some (.cells #[.int .i64 0,.int .i64 0] 48 (0,0))):=by rw[hw0];exact aJ _ _
   have hz:w.heap.size<w0.heap.size:=(aE B0.out).1
   have R0:=rrZ B0
   have HW:=hI hw0
   clear hw0
   go_enter Tryz.func172,Tryz.ntmps172
   go_upto_region 1 with fail
   rw[←HW.out]
   go_wp2_with (first | fail)
   refine(HRC.out _).mono ?_
   rintro e w5 ⟨rfl,k5⟩
   have K5:=btZ K0 k5
   have B05:=rkZ B0 k5
   have R05:=rrZ B05
   clear k5
   go_wp2_with (first | (refine wpList_store_row rfl 48 _ _ rfl (w.heap.size) #[.int .i64 rk,.int .i64 rn] rfl rfl 48 _ B05.out aF rfl (all_oneCell_toArray (by simp[Value.oneCell'])) ?_))
   generalize hw9:World.setRow _ _ _=w9
   have QR:=shZ hw9 B05
   have K9:Hid (Below w.heap.size w w9):=by rw[←hw9];exact Below.set_row K5.out (by omega) _
   clear hw9
   go_wp2_with fail
   have q0:=crZ QR 0 rfl
   have q1:=crZ QR 1 rfl
   refine bodyPost_ret (v:=(.tuple #[.agg #[.int .i64 rk,.int .i64 rn],.int .i64 th])) (by simp[results,Tryz.results172,go_sem,q0,q1]) rfl ⟨rfl,K9.out⟩
 rw[show gR op a b=eA op (decide (a<b)) (decide (a≤b)) from by unfold gR;rw[if_neg c3,if_neg c4,if_neg c5,if_neg (by omega)]]
 have n3:(op == 3)=false:=beq_eq_false_iff_ne.2 c3
 clear c3
 have n4:(op == 4)=false:=beq_eq_false_iff_ne.2 c4
 clear c4
 have n5:(op == 5)=false:=beq_eq_false_iff_ne.2 c5
 clear c5
 have n6:(op == 6)=false:=beq_eq_false_iff_ne.2 c6
 clear c6
 have n7:(op == 7)=false:=beq_eq_false_iff_ne.2 c7
 clear c7
 obtain⟨r,hr⟩:∃r,eA op (decide (a<b)) (decide (a≤b))=r:=⟨_,rfl⟩
 have RC:=aaR op a b
 rw[hr] at RC
 show Calls _ _ _ _ (bB (eA op (decide (a<b)) (decide (a≤b))) w)
 rw[hr]
 clear hr
 obtain⟨⟨rk,rn⟩,th⟩:=r
 have HRC:=hI RC
 clear RC
 unfold bB at HRC ⊢
 dsimp only at HRC ⊢
 obtain⟨w0,hw0⟩:∃w0,w0=w.alloc (.cells #[.int .i64 0,.int .i64 0] 48):=⟨_,rfl⟩
 have K0:Hid (Below w.heap.size w w0):=by rw[hw0];exact aB _ _
 have B0:Hid (w0.heap[w.heap.size]? = some (.cells #[.int .i64 0,.int .i64 0] 48 (0,0))):=by rw[hw0];exact aJ _ _
 have hz:w.heap.size<w0.heap.size:=(aE B0.out).1
 have R0:=rrZ B0
 have HW:=hI hw0
 clear hw0
 go_enter Tryz.func172,Tryz.ntmps172
 go_upto_region 1 with fail
 rw[←HW.out]
 go_wp2_with (first | fail)
 refine(HRC.out _).mono ?_
 rintro e w5 ⟨rfl,k5⟩
 have K5:=btZ K0 k5
 have B05:=rkZ B0 k5
 have R05:=rrZ B05
 clear k5
 go_wp2_with (first | (refine wpList_store_row rfl 48 _ _ rfl (w.heap.size) #[.int .i64 rk,.int .i64 rn] rfl rfl 48 _ B05.out aF rfl (all_oneCell_toArray (by simp[Value.oneCell'])) ?_))
 generalize hw9:World.setRow _ _ _=w9
 have QR:=shZ hw9 B05
 have K9:Hid (Below w.heap.size w w9):=by rw[←hw9];exact Below.set_row K5.out (by omega) _
 clear hw9
 go_wp2_with fail
 have q0:=crZ QR 0 rfl
 have q1:=crZ QR 1 rfl
 refine bodyPost_ret (v:=(.tuple #[.agg #[.int .i64 rk,.int .i64 rn],.int .i64 th])) (by simp[results,Tryz.results172,go_sem,q0,q1]) rfl ⟨rfl,K9.out⟩
theorem adB (op:Int) (x y:Nat) (w:World):Calls Tryz.prog 170 #[.int .i64 op,.float .f64 x,.float .f64 y] w (bB (lI op x y) w):=by
 by_cases c3:op=3
 ·subst c3
  show Calls _ _ _ _ (bB (ofB .add x y,-1) w)
  unfold ofB
  cases h:floatBits .add .f64 x y with
  | some q=>
   have hb:∀W,(binOp .add 214 (.float .f64 x) (.float .f64 y)).run Tryz.prog W=.ok (.float .f64 q) W:=fun W=>run_float_arith W .add 214 .f64 x y q h
   dsimp only
   obtain⟨r,hr⟩:∃r,ofM q=r:=⟨_,rfl⟩
   have RC:=oN q
   rw[hr] at RC
   rw[hr]
   clear hr h
   obtain⟨rk,rn⟩:=r
   have HRC:=hI RC
   clear RC
   unfold bB
   dsimp only at HRC ⊢
   obtain⟨w0,hw0⟩:∃w0,w0=w.alloc (.cells #[.int .i64 0,.int .i64 0] 48):=⟨_,rfl⟩
   have K0:Hid (Below w.heap.size w w0):=by rw[hw0];exact aB _ _
   have B0:Hid (w0.heap[w.heap.size]? = some (.cells #[.int .i64 0,.int .i64 0] 48 (0,0))):=by rw[hw0];exact aJ _ _
   have hz:w.heap.size<w0.heap.size:=(aE B0.out).1
   have R0:=rrZ B0
   have HW:=hI hw0
   clear hw0
   go_enter Tryz.func170,Tryz.ntmps170
   go_upto_region 1 with fail
   rw[←HW.out]
   go_wp2_with (first | fail)
   refine(HRC.out _).mono ?_
   rintro e w5 ⟨rfl,k5⟩
   have K5:=btZ K0 k5
   have B05:=rkZ B0 k5
   have R05:=rrZ B05
   clear k5
   go_wp2_with (first | (refine wpList_store_row rfl 48 _ _ rfl (w.heap.size) #[.int .i64 rk,.int .i64 rn] rfl rfl 48 _ B05.out aF rfl (all_oneCell_toArray (by simp[Value.oneCell'])) ?_))
   generalize hw9:World.setRow _ _ _=w9
   have QR:=shZ hw9 B05
   have K9:Hid (Below w.heap.size w w9):=by rw[←hw9];exact Below.set_row K5.out (by omega) _
   clear hw9
   go_wp2_with fail
   have q0:=crZ QR 0 rfl
   have q1:=crZ QR 1 rfl
   refine bodyPost_ret (v:=(.tuple #[.agg #[.int .i64 rk,.int .i64 rn],.int .i64 (-1)])) (by simp[results,Tryz.results170,go_sem,q0,q1]) rfl ⟨rfl,K9.out⟩
  | none=>
   dsimp only
   have H:=hI h
   clear h
   unfold bB
   dsimp only
   obtain⟨w0,hw0⟩:∃w0,w0=w.alloc (.cells #[.int .i64 0,.int .i64 0] 48):=⟨_,rfl⟩
   have K0:Hid (Below w.heap.size w w0):=by rw[hw0];exact aB _ _
   have B0:Hid (w0.heap[w.heap.size]? = some (.cells #[.int .i64 0,.int .i64 0] 48 (0,0))):=by rw[hw0];exact aJ _ _
   have hz:w.heap.size<w0.heap.size:=(aE B0.out).1
   have R0:=rrZ B0
   have HW:=hI hw0
   clear hw0
   go_enter Tryz.func170,Tryz.ntmps170
   go_upto_region 1 with fail
   rw[←HW.out]
   obtain⟨b,ho,hb⟩:∃b,(FloatKind.f64.format.order b b == some .eq)=false∧(binOp .add 214 (.float .f64 x) (.float .f64 y)).run Tryz.prog w0=.ok (.float .f64 b) w0.drew:=by
    rcases iL (P:=Tryz.prog) .add 214 x y (by simp) w0 with ⟨r,h1,_⟩ | ⟨_,h2⟩
    ·rw[H.out] at h1;cases h1
    ·exact h2
   have RC:=oN b w0.drew
   rw[show ofM b=⟨3,kZ⟩ from by unfold ofM;rw[ho];rfl] at RC
   have HRC:=hI RC
   clear RC ho
   dsimp only at HRC
   go_wp2_with fail
   refine HRC.out.mono ?_
   rintro e w5 ⟨rfl,k6⟩
   have k5:Below w0.heap.size w0 w5:=((Below.refl _ w0).drew).trans k6
   clear k6
   have K5:=btZ K0 k5
   have B05:=rkZ B0 k5
   have R05:=rrZ B05
   clear k5
   go_wp2_with (first | (refine wpList_store_row rfl 48 _ _ rfl (w.heap.size) #[.int .i64 3,.int .i64 kZ] rfl rfl 48 _ B05.out aF rfl (all_oneCell_toArray (by simp[Value.oneCell'])) ?_))
   generalize hw9:World.setRow _ _ _=w9
   have QR:=shZ hw9 B05
   have K9:Hid (Below w.heap.size w w9):=by rw[←hw9];exact Below.set_row K5.out (by omega) _
   clear hw9
   go_wp2_with fail
   have q0:=crZ QR 0 rfl
   have q1:=crZ QR 1 rfl
   refine bodyPost_ret (v:=(.tuple #[.agg #[.int .i64 3,.int .i64 kZ],.int .i64 (-1)])) (by simp[results,Tryz.results170,go_sem,q0,q1]) rfl ⟨rfl,K9.out⟩
 by_cases c4:op=4
 ·subst c4
  clear c3
  show Calls _ _ _ _ (bB (ofB .sub x y,-1) w)
  unfold ofB
  cases h:floatBits .sub .f64 x y with
  | some q=>
   have hb:∀W,(binOp .sub 214 (.float .f64 x) (.float .f64 y)).run Tryz.prog W=.ok (.float .f64 q) W:=fun W=>run_float_arith W .sub 214 .f64 x y q h
   dsimp only
   obtain⟨r,hr⟩:∃r,ofM q=r:=⟨_,rfl⟩
   have RC:=oN q
   rw[hr] at RC
   rw[hr]
   clear hr h
   obtain⟨rk,rn⟩:=r
   have HRC:=hI RC
   clear RC
   unfold bB
   dsimp only at HRC ⊢
   obtain⟨w0,hw0⟩:∃w0,w0=w.alloc (.cells #[.int .i64 0,.int .i64 0] 48):=⟨_,rfl⟩
   have K0:Hid (Below w.heap.size w w0):=by rw[hw0];exact aB _ _
   have B0:Hid (w0.heap[w.heap.size]? = some (.cells #[.int .i64 0,.int .i64 0] 48 (0,0))):=by rw[hw0];exact aJ _ _
   have hz:w.heap.size<w0.heap.size:=(aE B0.out).1
   have R0:=rrZ B0
   have HW:=hI hw0
   clear hw0
   go_enter Tryz.func170,Tryz.ntmps170
   go_upto_region 1 with fail
   rw[←HW.out]
   go_wp2_with (first | fail)
   refine(HRC.out _).mono ?_
   rintro e w5 ⟨rfl,k5⟩
   have K5:=btZ K0 k5
   have B05:=rkZ B0 k5
   have R05:=rrZ B05
   clear k5
   go_wp2_with (first | (refine wpList_store_row rfl 48 _ _ rfl (w.heap.size) #[.int .i64 rk,.int .i64 rn] rfl rfl 48 _ B05.out aF rfl (all_oneCell_toArray (by simp[Value.oneCell'])) ?_))
   generalize hw9:World.setRow _ _ _=w9
   have QR:=shZ hw9 B05
   have K9:Hid (Below w.heap.size w w9):=by rw[←hw9];exact Below.set_row K5.out (by omega) _
   clear hw9
   go_wp2_with fail
   have q0:=crZ QR 0 rfl
   have q1:=crZ QR 1 rfl
   refine bodyPost_ret (v:=(.tuple #[.agg #[.int .i64 rk,.int .i64 rn],.int .i64 (-1)])) (by simp[results,Tryz.results170,go_sem,q0,q1]) rfl ⟨rfl,K9.out⟩
  | none=>
   dsimp only
   have H:=hI h
   clear h
   unfold bB
   dsimp only
   obtain⟨w0,hw0⟩:∃w0,w0=w.alloc (.cells #[.int .i64 0,.int .i64 0] 48):=⟨_,rfl⟩
   have K0:Hid (Below w.heap.size w w0):=by rw[hw0];exact aB _ _
   have B0:Hid (w0.heap[w.heap.size]? = some (.cells #[.int .i64 0,.int .i64 0] 48 (0,0))):=by rw[hw0];exact aJ _ _
   have hz:w.heap.size<w0.heap.size:=(aE B0.out).1
   have R0:=rrZ B0
   have HW:=hI hw0
   clear hw0
   go_enter Tryz.func170,Tryz.ntmps170
   go_upto_region 1 with fail
   rw[←HW.out]
   obtain⟨b,ho,hb⟩:∃b,(FloatKind.f64.format.order b b == some .eq)=false∧(binOp .sub 214 (.float .f64 x) (.float .f64 y)).run Tryz.prog w0=.ok (.float .f64 b) w0.drew:=by
    rcases iL (P:=Tryz.prog) .sub 214 x y (by simp) w0 with ⟨r,h1,_⟩ | ⟨_,h2⟩
    ·rw[H.out] at h1;cases h1
    ·exact h2
   have RC:=oN b w0.drew
   rw[show ofM b=⟨3,kZ⟩ from by unfold ofM;rw[ho];rfl] at RC
   have HRC:=hI RC
   clear RC ho
   dsimp only at HRC
   go_wp2_with fail
   refine HRC.out.mono ?_
   rintro e w5 ⟨rfl,k6⟩
   have k5:Below w0.heap.size w0 w5:=((Below.refl _ w0).drew).trans k6
   clear k6
   have K5:=btZ K0 k5
   have B05:=rkZ B0 k5
   have R05:=rrZ B05
   clear k5
   go_wp2_with (first | (refine wpList_store_row rfl 48 _ _ rfl (w.heap.size) #[.int .i64 3,.int .i64 kZ] rfl rfl 48 _ B05.out aF rfl (all_oneCell_toArray (by simp[Value.oneCell'])) ?_))
   generalize hw9:World.setRow _ _ _=w9
   have QR:=shZ hw9 B05
   have K9:Hid (Below w.heap.size w w9):=by rw[←hw9];exact Below.set_row K5.out (by omega) _
   clear hw9
   go_wp2_with fail
   have q0:=crZ QR 0 rfl
   have q1:=crZ QR 1 rfl
   refine bodyPost_ret (v:=(.tuple #[.agg #[.int .i64 3,.int .i64 kZ],.int .i64 (-1)])) (by simp[results,Tryz.results170,go_sem,q0,q1]) rfl ⟨rfl,K9.out⟩
 by_cases c5:op=5
 ·subst c5
  clear c3
  clear c4
  show Calls _ _ _ _ (bB (ofB .mul x y,-1) w)
  unfold ofB
  cases h:floatBits .mul .f64 x y with
  | some q=>
   have hb:∀W,(binOp .mul 214 (.float .f64 x) (.float .f64 y)).run Tryz.prog W=.ok (.float .f64 q) W:=fun W=>run_float_arith W .mul 214 .f64 x y q h
   dsimp only
   obtain⟨r,hr⟩:∃r,ofM q=r:=⟨_,rfl⟩
   have RC:=oN q
   rw[hr] at RC
   rw[hr]
   clear hr h
   obtain⟨rk,rn⟩:=r
   have HRC:=hI RC
   clear RC
   unfold bB
   dsimp only at HRC ⊢
   obtain⟨w0,hw0⟩:∃w0,w0=w.alloc (.cells #[.int .i64 0,.int .i64 0] 48):=⟨_,rfl⟩
   have K0:Hid (Below w.heap.size w w0):=by rw[hw0];exact aB _ _
   have B0:Hid (w0.heap[w.heap.size]? = some (.cells #[.int .i64 0,.int .i64 0] 48 (0,0))):=by rw[hw0];exact aJ _ _
   have hz:w.heap.size<w0.heap.size:=(aE B0.out).1
   have R0:=rrZ B0
   have HW:=hI hw0
   clear hw0
   go_enter Tryz.func170,Tryz.ntmps170
   go_upto_region 1 with fail
   rw[←HW.out]
   go_wp2_with (first | fail)
   refine(HRC.out _).mono ?_
   rintro e w5 ⟨rfl,k5⟩
   have K5:=btZ K0 k5
   have B05:=rkZ B0 k5
   have R05:=rrZ B05
   clear k5
   go_wp2_with (first | (refine wpList_store_row rfl 48 _ _ rfl (w.heap.size) #[.int .i64 rk,.int .i64 rn] rfl rfl 48 _ B05.out aF rfl (all_oneCell_toArray (by simp[Value.oneCell'])) ?_))
   generalize hw9:World.setRow _ _ _=w9
   have QR:=shZ hw9 B05
   have K9:Hid (Below w.heap.size w w9):=by rw[←hw9];exact Below.set_row K5.out (by omega) _
   clear hw9
   go_wp2_with fail
   have q0:=crZ QR 0 rfl
   have q1:=crZ QR 1 rfl
   refine bodyPost_ret (v:=(.tuple #[.agg #[.int .i64 rk,.int .i64 rn],.int .i64 (-1)])) (by simp[results,Tryz.results170,go_sem,q0,q1]) rfl ⟨rfl,K9.out⟩
  | none=>
   dsimp only
   have H:=hI h
   clear h
   unfold bB
   dsimp only
   obtain⟨w0,hw0⟩:∃w0,w0=w.alloc (.cells #[.int .i64 0,.int .i64 0] 48):=⟨_,rfl⟩
   have K0:Hid (Below w.heap.size w w0):=by rw[hw0];exact aB _ _
   have B0:Hid (w0.heap[w.heap.size]? = some (.cells #[.int .i64 0,.int .i64 0] 48 (0,0))):=by rw[hw0];exact aJ _ _
   have hz:w.heap.size<w0.heap.size:=(aE B0.out).1
   have R0:=rrZ B0
   have HW:=hI hw0
   clear hw0
   go_enter Tryz.func170,Tryz.ntmps170
   go_upto_region 1 with fail
   rw[←HW.out]
   obtain⟨b,ho,hb⟩:∃b,(FloatKind.f64.format.order b b == some .eq)=false∧(binOp .mul 214 (.float .f64 x) (.float .f64 y)).run Tryz.prog w0=.ok (.float .f64 b) w0.drew:=by
    rcases iL (P:=Tryz.prog) .mul 214 x y (by simp) w0 with ⟨r,h1,_⟩ | ⟨_,h2⟩
    ·rw[H.out] at h1;cases h1
    ·exact h2
   have RC:=oN b w0.drew
   rw[show ofM b=⟨3,kZ⟩ from by unfold ofM;rw[ho];rfl] at RC
   have HRC:=hI RC
   clear RC ho
   dsimp only at HRC
   go_wp2_with fail
   refine HRC.out.mono ?_
   rintro e w5 ⟨rfl,k6⟩
   have k5:Below w0.heap.size w0 w5:=((Below.refl _ w0).drew).trans k6
   clear k6
   have K5:=btZ K0 k5
   have B05:=rkZ B0 k5
   have R05:=rrZ B05
   clear k5
   go_wp2_with (first | (refine wpList_store_row rfl 48 _ _ rfl (w.heap.size) #[.int .i64 3,.int .i64 kZ] rfl rfl 48 _ B05.out aF rfl (all_oneCell_toArray (by simp[Value.oneCell'])) ?_))
   generalize hw9:World.setRow _ _ _=w9
   have QR:=shZ hw9 B05
   have K9:Hid (Below w.heap.size w w9):=by rw[←hw9];exact Below.set_row K5.out (by omega) _
   clear hw9
   go_wp2_with fail
   have q0:=crZ QR 0 rfl
   have q1:=crZ QR 1 rfl
   refine bodyPost_ret (v:=(.tuple #[.agg #[.int .i64 3,.int .i64 kZ],.int .i64 (-1)])) (by simp[results,Tryz.results170,go_sem,q0,q1]) rfl ⟨rfl,K9.out⟩
 by_cases c6:op=6
 ·subst c6
  clear c3
  clear c4
  clear c5
  show Calls _ _ _ _ (bB (ofB .quo x y,-1) w)
  unfold ofB
  cases h:floatBits .quo .f64 x y with
  | some q=>
   have hb:∀W,(binOp .quo 214 (.float .f64 x) (.float .f64 y)).run Tryz.prog W=.ok (.float .f64 q) W:=fun W=>run_float_arith W .quo 214 .f64 x y q h
   dsimp only
   obtain⟨r,hr⟩:∃r,ofM q=r:=⟨_,rfl⟩
   have RC:=oN q
   rw[hr] at RC
   rw[hr]
   clear hr h
   obtain⟨rk,rn⟩:=r
   have HRC:=hI RC
   clear RC
   unfold bB
   dsimp only at HRC ⊢
   obtain⟨w0,hw0⟩:∃w0,w0=w.alloc (.cells #[.int .i64 0,.int .i64 0] 48):=⟨_,rfl⟩
   have K0:Hid (Below w.heap.size w w0):=by rw[hw0];exact aB _ _
   have B0:Hid (w0.heap[w.heap.size]? = some (.cells #[.int .i64 0,.int .i64 0] 48 (0,0))):=by rw[hw0];exact aJ _ _
   have hz:w.heap.size<w0.heap.size:=(aE B0.out).1
   have R0:=rrZ B0
   have HW:=hI hw0
   clear hw0
   go_enter Tryz.func170,Tryz.ntmps170
   go_upto_region 1 with fail
   rw[←HW.out]
   go_wp2_with (first | fail)
   refine(HRC.out _).mono ?_
   rintro e w5 ⟨rfl,k5⟩
   have K5:=btZ K0 k5
   have B05:=rkZ B0 k5
   have R05:=rrZ B05
   clear k5
   go_wp2_with (first | (refine wpList_store_row rfl 48 _ _ rfl (w.heap.size) #[.int .i64 rk,.int .i64 rn] rfl rfl 48 _ B05.out aF rfl (all_oneCell_toArray (by simp[Value.oneCell'])) ?_))
   generalize hw9:World.setRow _ _ _=w9
   have QR:=shZ hw9 B05
   have K9:Hid (Below w.heap.size w w9):=by rw[←hw9];exact Below.set_row K5.out (by omega) _
   clear hw9
   go_wp2_with fail
   have q0:=crZ QR 0 rfl
   have q1:=crZ QR 1 rfl
   refine bodyPost_ret (v:=(.tuple #[.agg #[.int .i64 rk,.int .i64 rn],.int .i64 (-1)])) (by simp[results,Tryz.results170,go_sem,q0,q1]) rfl ⟨rfl,K9.out⟩
  | none=>
   dsimp only
   have H:=hI h
   clear h
   unfold bB
   dsimp only
   obtain⟨w0,hw0⟩:∃w0,w0=w.alloc (.cells #[.int .i64 0,.int .i64 0] 48):=⟨_,rfl⟩
   have K0:Hid (Below w.heap.size w w0):=by rw[hw0];exact aB _ _
   have B0:Hid (w0.heap[w.heap.size]? = some (.cells #[.int .i64 0,.int .i64 0] 48 (0,0))):=by rw[hw0];exact aJ _ _
   have hz:w.heap.size<w0.heap.size:=(aE B0.out).1
   have R0:=rrZ B0
   have HW:=hI hw0
   clear hw0
   go_enter Tryz.func170,Tryz.ntmps170
   go_upto_region 1 with fail
   rw[←HW.out]
   obtain⟨b,ho,hb⟩:∃b,(FloatKind.f64.format.order b b == some .eq)=false∧(binOp .quo 214 (.float .f64 x) (.float .f64 y)).run Tryz.prog w0=.ok (.float .f64 b) w0.drew:=by
    rcases iL (P:=Tryz.prog) .quo 214 x y (by simp) w0 with ⟨r,h1,_⟩ | ⟨_,h2⟩
    ·rw[H.out] at h1;cases h1
    ·exact h2
   have RC:=oN b w0.drew
   rw[show ofM b=⟨3,kZ⟩ from by unfold ofM;rw[ho];rfl] at RC
   have HRC:=hI RC
   clear RC ho
   dsimp only at HRC
   go_wp2_with fail
   refine HRC.out.mono ?_
   rintro e w5 ⟨rfl,k6⟩
   have k5:Below w0.heap.size w0 w5:=((Below.refl _ w0).drew).trans k6
   clear k6
   have K5:=btZ K0 k5
   have B05:=rkZ B0 k5
   have R05:=rrZ B05
   clear k5
   go_wp2_with (first | (refine wpList_store_row rfl 48 _ _ rfl (w.heap.size) #[.int .i64 3,.int .i64 kZ] rfl rfl 48 _ B05.out aF rfl (all_oneCell_toArray (by simp[Value.oneCell'])) ?_))
   generalize hw9:World.setRow _ _ _=w9
   have QR:=shZ hw9 B05
   have K9:Hid (Below w.heap.size w w9):=by rw[←hw9];exact Below.set_row K5.out (by omega) _
   clear hw9
   go_wp2_with fail
   have q0:=crZ QR 0 rfl
   have q1:=crZ QR 1 rfl
   refine bodyPost_ret (v:=(.tuple #[.agg #[.int .i64 3,.int .i64 kZ],.int .i64 (-1)])) (by simp[results,Tryz.results170,go_sem,q0,q1]) rfl ⟨rfl,K9.out⟩
 by_cases c8:op=8
 ·subst c8
  clear c3 c4 c5 c6
  show Calls _ _ _ _ (bB (cP (FloatKind.f64.format.order x y == some .eq),-1) w)
  obtain⟨r,hr⟩:∃r,cP (FloatKind.f64.format.order x y == some .eq)=r:=⟨_,rfl⟩
  have RC:=fO (FloatKind.f64.format.order x y == some .eq)
  rw[hr] at RC
  rw[hr]
  clear hr
  obtain⟨rk,rn⟩:=r
  have HRC:=hI RC
  clear RC
  unfold bB
  dsimp only at HRC ⊢
  obtain⟨w0,hw0⟩:∃w0,w0=w.alloc (.cells #[.int .i64 0,.int .i64 0] 48):=⟨_,rfl⟩
  have K0:Hid (Below w.heap.size w w0):=by rw[hw0];exact aB _ _
  have B0:Hid (w0.heap[w.heap.size]? = some (.cells #[.int .i64 0,.int .i64 0] 48 (0,0))):=by rw[hw0];exact aJ _ _
  have hz:w.heap.size<w0.heap.size:=(aE B0.out).1
  have R0:=rrZ B0
  have HW:=hI hw0
  clear hw0
  go_enter Tryz.func170,Tryz.ntmps170
  go_upto_region 1 with fail
  rw[←HW.out]
  go_wp2_with (first | fail)
  refine(HRC.out _).mono ?_
  rintro e w5 ⟨rfl,k5⟩
  have K5:=btZ K0 k5
  have B05:=rkZ B0 k5
  have R05:=rrZ B05
  clear k5
  go_wp2_with (first | (refine wpList_store_row rfl 48 _ _ rfl (w.heap.size) #[.int .i64 rk,.int .i64 rn] rfl rfl 48 _ B05.out aF rfl (all_oneCell_toArray (by simp[Value.oneCell'])) ?_))
  generalize hw9:World.setRow _ _ _=w9
  have QR:=shZ hw9 B05
  have K9:Hid (Below w.heap.size w w9):=by rw[←hw9];exact Below.set_row K5.out (by omega) _
  clear hw9
  go_wp2_with fail
  have q0:=crZ QR 0 rfl
  have q1:=crZ QR 1 rfl
  refine bodyPost_ret (v:=(.tuple #[.agg #[.int .i64 rk,.int .i64 rn],.int .i64 (-1)])) (by simp[results,Tryz.results170,go_sem,q0,q1]) rfl ⟨rfl,K9.out⟩
 rw[show lI op x y=eA op (ltF x y) (ltF x y || eqF x y) from by unfold lI;rw[if_neg c3,if_neg c4,if_neg c5,if_neg c6,if_neg c8]]
 have n3:(op == 3)=false:=beq_eq_false_iff_ne.2 c3
 clear c3
 have n4:(op == 4)=false:=beq_eq_false_iff_ne.2 c4
 clear c4
 have n5:(op == 5)=false:=beq_eq_false_iff_ne.2 c5
 clear c5
 have n6:(op == 6)=false:=beq_eq_false_iff_ne.2 c6
 clear c6
 have n8:(op == 8)=false:=beq_eq_false_iff_ne.2 c8
 clear c8
 obtain⟨r,hr⟩:∃r,eA op (ltF x y) (ltF x y || eqF x y)=r:=⟨_,rfl⟩
 have RC:=aaS op x y
 rw[hr] at RC
 show Calls _ _ _ _ (bB (eA op (ltF x y) (ltF x y || eqF x y)) w)
 rw[hr]
 clear hr
 obtain⟨⟨rk,rn⟩,th⟩:=r
 have HRC:=hI RC
 clear RC
 unfold bB at HRC ⊢
 dsimp only at HRC ⊢
 obtain⟨w0,hw0⟩:∃w0,w0=w.alloc (.cells #[.int .i64 0,.int .i64 0] 48):=⟨_,rfl⟩
 have K0:Hid (Below w.heap.size w w0):=by rw[hw0];exact aB _ _
 have B0:Hid (w0.heap[w.heap.size]? = some (.cells #[.int .i64 0,.int .i64 0] 48 (0,0))):=by rw[hw0];exact aJ _ _
 have hz:w.heap.size<w0.heap.size:=(aE B0.out).1
 have R0:=rrZ B0
 have HW:=hI hw0
 clear hw0
 go_enter Tryz.func170,Tryz.ntmps170
 go_upto_region 1 with fail
 rw[←HW.out]
 go_wp2_with (first | fail)
 refine(HRC.out _).mono ?_
 rintro e w5 ⟨rfl,k5⟩
 have K5:=btZ K0 k5
 have B05:=rkZ B0 k5
 have R05:=rrZ B05
 clear k5
 go_wp2_with (first | (refine wpList_store_row rfl 48 _ _ rfl (w.heap.size) #[.int .i64 rk,.int .i64 rn] rfl rfl 48 _ B05.out aF rfl (all_oneCell_toArray (by simp[Value.oneCell'])) ?_))
 generalize hw9:World.setRow _ _ _=w9
 have QR:=shZ hw9 B05
 have K9:Hid (Below w.heap.size w w9):=by rw[←hw9];exact Below.set_row K5.out (by omega) _
 clear hw9
 go_wp2_with fail
 have q0:=crZ QR 0 rfl
 have q1:=crZ QR 1 rfl
 refine bodyPost_ret (v:=(.tuple #[.agg #[.int .i64 rk,.int .i64 rn],.int .i64 th])) (by simp[results,Tryz.results170,go_sem,q0,q1]) rfl ⟨rfl,K9.out⟩
end
end Go.Proofs.YtjaphgpkkfdaaaaGreatDoor
