/- Part of the walk of the given code: contracts of the functions that irun.Run reaches, and plain laws on what it reckons. -/
import Derived.Test.YtjaphgpkkfdaaaaGreatDoorZX
set_option maxHeartbeats 16000000
set_option maxRecDepth 100000
set_option linter.all false
namespace Go.Proofs.YtjaphgpkkfdaaaaGreatDoor
section
open Go.RowKit Go.IntWalk
theorem eD (w:World) (o p q:Obj):(((w.alloc o).alloc p).alloc q).heap[w.heap.size+1+1]? = some q:=by
 show(((w.heap.push o).push p).push q)[w.heap.size+1+1]? = _
 rw[Array.getElem?_push,if_pos (by simp)]
theorem unary_c (op:Int) (v:Val) (w:World):Calls Tryz.prog 146 #[.int .i64 op,.agg #[.int .i64 v.kind,.int .i64 v.n]] w (bB (o4 op v) w):=by
 obtain⟨r,hr⟩:∃r,dD v=r:=⟨_,rfl⟩
 have TC:=qL v
 unfold o4
 rw[hr] at TC
 rw[hr]
 clear hr
 obtain⟨k,n⟩:=v
 obtain⟨rk,rn⟩:=r
 have HTC:=hI TC
 clear TC
 dsimp only at HTC ⊢
 by_cases c11:op=11
 ·subst c11
  rw[if_pos rfl]
  have TR:=tru_c ⟨rk,rn⟩
  obtain⟨tb,htb⟩:∃tb,lF ⟨rk,rn⟩=tb:=⟨_,rfl⟩
  rw[htb] at TR ⊢
  clear htb
  have OT:=fO (!tb)
  obtain⟨r,hr⟩:∃r,cP (!tb)=r:=⟨_,rfl⟩
  rw[hr] at OT ⊢
  clear hr
  obtain⟨qk,qn⟩:=r
  have HTR:=hI TR
  have HOT:=hI OT
  clear TR OT
  unfold bB
  dsimp only at HTR HOT ⊢
  obtain⟨w0,hw0⟩:∃w0,w0=(w.alloc (.cells #[.int .i64 k,.int .i64 n] 48)).alloc (.cells #[.int .i64 0,.int .i64 0] 48):=⟨_,rfl⟩
  have K0:Hid (Below w.heap.size w w0):=by rw[hw0];exact bE _ _ _
  have B0:Hid (w0.heap[w.heap.size]? = some (.cells #[.int .i64 k,.int .i64 n] 48 (0,0))):=by rw[hw0];exact aY (aJ _ _) _
  have B1:Hid (w0.heap[w.heap.size+1]? = some (.cells #[.int .i64 0,.int .i64 0] 48 (0,0))):=by rw[hw0];exact cQ _ _ _
  have hz:w.heap.size+1<w0.heap.size:=(aE B1.out).1
  have R0:=rrZ B0
  have R1:=rrZ B1
  have HW:=hI hw0
  clear hw0
  go_enter Tryz.func146,Tryz.ntmps146
  go_upto_region 1 with fail
  rw[←HW.out]
  go_wp2_with (first | (refine wpList_load_mid rfl 48 _ rfl (w.heap.size) 0 rfl [.int .i64 k,.int .i64 n] _ R0.out Tryz.underlying48 rfl aF ?_) | fail)
  refine(HTC.out _).mono ?_
  rintro e w5 ⟨rfl,k5⟩
  have K5:=btZ K0 k5
  have B05:=rkZ B0 k5
  have R05:=rrZ B05
  have B15:=rkZ B1 k5
  have R15:=rrZ B15
  clear k5
  go_upto_region 2 with (first | (refine wpList_store_row rfl 48 _ _ rfl (w.heap.size) #[.int .i64 rk,.int .i64 rn] rfl rfl 48 _ B05.out aF rfl (all_oneCell_toArray (by simp[Value.oneCell'])) ?_) | fail)
  generalize h6:World.setRow _ _ _=w6
  have K6:Hid (Below w.heap.size w w6):=by rw[←h6];exact Below.set_row K5.out (by omega) _
  have B06:=shZ h6 B05
  have R06:=rrZ B06
  have B16:=soZ h6 B15 (by omega)
  have R16:=rrZ B16
  clear h6
  (try dsimp only [Act.put])
  have x0:=crZ B06 0 rfl
  have x1:=crZ B06 1 rfl
  go_wp2_with (first | (refine wpList_load_mid rfl 48 _ rfl (w.heap.size) 0 rfl [.int .i64 rk,.int .i64 rn] _ R06.out Tryz.underlying48 rfl aF ?_) | fail)
  refine(HTR.out _).mono ?_
  rintro e w7 ⟨rfl,k7⟩
  have K7:=btZ K6 k7
  have B07:=rkZ B06 k7
  have R07:=rrZ B07
  have B17:=rkZ B16 k7
  have R17:=rrZ B17
  clear k7
  go_wp2_with (first | fail)
  refine(HOT.out _).mono ?_
  rintro e w8 ⟨rfl,k8⟩
  have K8:=btZ K7 k8
  have B08:=rkZ B07 k8
  have R08:=rrZ B08
  have B18:=rkZ B17 k8
  have R18:=rrZ B18
  clear k8
  go_wp2_with (first | (refine wpList_store_row rfl 48 _ _ rfl (w.heap.size+1) #[.int .i64 qk,.int .i64 qn] rfl rfl 48 _ B18.out aF rfl (all_oneCell_toArray (by simp[Value.oneCell'])) ?_))
  generalize hw9:World.setRow _ _ _=w9
  have QR:=shZ hw9 B18
  have K9:Hid (Below w.heap.size w w9):=by rw[←hw9];exact Below.set_row K8.out (by omega) _
  clear hw9
  go_wp2_with fail
  have q0:=crZ QR 0 rfl
  have q1:=crZ QR 1 rfl
  refine bodyPost_ret (v:=(.tuple #[.agg #[.int .i64 qk,.int .i64 qn],.int .i64 (-1)])) (by simp[results,Tryz.results146,go_sem,q0,q1]) rfl ⟨rfl,K9.out⟩
 rw[if_neg c11]
 have n11:(op == 11)=false:=beq_eq_false_iff_ne.2 c11
 clear c11
 by_cases c12:op=12
 ·subst c12
  by_cases c2:rk=2
  ·subst c2
   rw[if_pos ⟨rfl,rfl⟩]
   have RC:=kM (wrap64 (-rn))
   obtain⟨r,hr⟩:∃r,dS (wrap64 (-rn))=r:=⟨_,rfl⟩
   rw[hr] at RC ⊢
   clear hr
   obtain⟨⟨qk,qn⟩,th⟩:=r
   have HRC:=hI RC
   clear RC n11
   unfold bB at HRC ⊢
   dsimp only at HRC ⊢
   obtain⟨w0,hw0⟩:∃w0,w0=(w.alloc (.cells #[.int .i64 k,.int .i64 n] 48)).alloc (.cells #[.int .i64 0,.int .i64 0] 48):=⟨_,rfl⟩
   have K0:Hid (Below w.heap.size w w0):=by rw[hw0];exact bE _ _ _
   have B0:Hid (w0.heap[w.heap.size]? = some (.cells #[.int .i64 k,.int .i64 n] 48 (0,0))):=by rw[hw0];exact aY (aJ _ _) _
   have B1:Hid (w0.heap[w.heap.size+1]? = some (.cells #[.int .i64 0,.int .i64 0] 48 (0,0))):=by rw[hw0];exact cQ _ _ _
   have hz:w.heap.size+1<w0.heap.size:=(aE B1.out).1
   have R0:=rrZ B0
   have R1:=rrZ B1
   have HW:=hI hw0
   clear hw0
   go_enter Tryz.func146,Tryz.ntmps146
   go_upto_region 1 with fail
   rw[←HW.out]
   go_wp2_with (first | (refine wpList_load_mid rfl 48 _ rfl (w.heap.size) 0 rfl [.int .i64 k,.int .i64 n] _ R0.out Tryz.underlying48 rfl aF ?_) | fail)
   refine(HTC.out _).mono ?_
   rintro e w5 ⟨rfl,k5⟩
   have K5:=btZ K0 k5
   have B05:=rkZ B0 k5
   have R05:=rrZ B05
   have B15:=rkZ B1 k5
   have R15:=rrZ B15
   clear k5
   go_upto_region 2 with (first | (refine wpList_store_row rfl 48 _ _ rfl (w.heap.size) #[.int .i64 2,.int .i64 rn] rfl rfl 48 _ B05.out aF rfl (all_oneCell_toArray (by simp[Value.oneCell'])) ?_) | fail)
   generalize h6:World.setRow _ _ _=w6
   have K6:Hid (Below w.heap.size w w6):=by rw[←h6];exact Below.set_row K5.out (by omega) _
   have B06:=shZ h6 B05
   have R06:=rrZ B06
   have B16:=soZ h6 B15 (by omega)
   have R16:=rrZ B16
   clear h6
   (try dsimp only [Act.put])
   have x0:=crZ B06 0 rfl
   have x1:=crZ B06 1 rfl
   go_wp2_with (first | fail)
   refine(HRC.out _).mono ?_
   rintro e w7 ⟨rfl,k7⟩
   have K7:=btZ K6 k7
   have B07:=rkZ B06 k7
   have R07:=rrZ B07
   have B17:=rkZ B16 k7
   have R17:=rrZ B17
   clear k7
   go_wp2_with (first | (refine wpList_store_row rfl 48 _ _ rfl (w.heap.size+1) #[.int .i64 qk,.int .i64 qn] rfl rfl 48 _ B17.out aF rfl (all_oneCell_toArray (by simp[Value.oneCell'])) ?_))
   generalize hw9:World.setRow _ _ _=w9
   have QR:=shZ hw9 B17
   have K9:Hid (Below w.heap.size w w9):=by rw[←hw9];exact Below.set_row K7.out (by omega) _
   clear hw9
   go_wp2_with fail
   have q0:=crZ QR 0 rfl
   have q1:=crZ QR 1 rfl
   refine bodyPost_ret (v:=(.tuple #[.agg #[.int .i64 qk,.int .i64 qn],.int .i64 th])) (by simp[results,Tryz.results146,go_sem,q0,q1]) rfl ⟨rfl,K9.out⟩
  rw[if_neg (fun h=>c2 h.2)]
  have n2:(rk == 2)=false:=beq_eq_false_iff_ne.2 c2
  clear c2
  by_cases c3:rk=3
  ·subst c3
   rw[if_pos ⟨rfl,rfl⟩]
   have FC:=qQ 3 rn
   obtain⟨bb,hbb⟩:∃b,nI rn=b:=⟨_,rfl⟩
   rw[hbb] at FC ⊢
   clear hbb
   have RC:=oN (Op.negFloat .f64 bb)
   obtain⟨r,hr⟩:∃r,ofM (Op.negFloat .f64 bb)=r:=⟨_,rfl⟩
   rw[hr] at RC ⊢
   clear hr n2 n11
   obtain⟨qk,qn⟩:=r
   have HRC:=hI RC
   have HFC:=hI FC
   clear RC FC
   unfold bB
   dsimp only at HRC ⊢
   obtain⟨w0,hw0⟩:∃w0,w0=(w.alloc (.cells #[.int .i64 k,.int .i64 n] 48)).alloc (.cells #[.int .i64 0,.int .i64 0] 48):=⟨_,rfl⟩
   have K0:Hid (Below w.heap.size w w0):=by rw[hw0];exact bE _ _ _
   have B0:Hid (w0.heap[w.heap.size]? = some (.cells #[.int .i64 k,.int .i64 n] 48 (0,0))):=by rw[hw0];exact aY (aJ _ _) _
   have B1:Hid (w0.heap[w.heap.size+1]? = some (.cells #[.int .i64 0,.int .i64 0] 48 (0,0))):=by rw[hw0];exact cQ _ _ _
   have hz:w.heap.size+1<w0.heap.size:=(aE B1.out).1
   have R0:=rrZ B0
   have R1:=rrZ B1
   have HW:=hI hw0
   clear hw0
   go_enter Tryz.func146,Tryz.ntmps146
   go_upto_region 1 with fail
   rw[←HW.out]
   go_wp2_with (first | (refine wpList_load_mid rfl 48 _ rfl (w.heap.size) 0 rfl [.int .i64 k,.int .i64 n] _ R0.out Tryz.underlying48 rfl aF ?_) | fail)
   refine(HTC.out _).mono ?_
   rintro e w5 ⟨rfl,k5⟩
   have K5:=btZ K0 k5
   have B05:=rkZ B0 k5
   have R05:=rrZ B05
   have B15:=rkZ B1 k5
   have R15:=rrZ B15
   clear k5
   go_upto_region 2 with (first | (refine wpList_store_row rfl 48 _ _ rfl (w.heap.size) #[.int .i64 3,.int .i64 rn] rfl rfl 48 _ B05.out aF rfl (all_oneCell_toArray (by simp[Value.oneCell'])) ?_) | fail)
   generalize h6:World.setRow _ _ _=w6
   have K6:Hid (Below w.heap.size w w6):=by rw[←h6];exact Below.set_row K5.out (by omega) _
   have B06:=shZ h6 B05
   have R06:=rrZ B06
   have B16:=soZ h6 B15 (by omega)
   have R16:=rrZ B16
   clear h6
   (try dsimp only [Act.put])
   have x0:=crZ B06 0 rfl
   have x1:=crZ B06 1 rfl
   have hng:∀W,(Op.unary .neg (.float .f64 bb)).run Tryz.prog W=.ok (.float .f64 (Op.negFloat .f64 bb)) W:=fun W=>by first | rfl | simp[Op.unary]
   go_wp2_with (first | (refine wpList_load_mid rfl 48 _ rfl (w.heap.size) 0 rfl [.int .i64 3,.int .i64 rn] _ R06.out Tryz.underlying48 rfl aF ?_) | fail)
   refine(HFC.out _).mono ?_
   rintro e w7 ⟨rfl,k7⟩
   have K7:=btZ K6 k7
   have B07:=rkZ B06 k7
   have R07:=rrZ B07
   have B17:=rkZ B16 k7
   have R17:=rrZ B17
   clear k7
   go_wp2_with (first | fail)
   refine(HRC.out _).mono ?_
   rintro e w8 ⟨rfl,k8⟩
   have K8:=btZ K7 k8
   have B08:=rkZ B07 k8
   have R08:=rrZ B08
   have B18:=rkZ B17 k8
   have R18:=rrZ B18
   clear k8
   go_wp2_with (first | (refine wpList_store_row rfl 48 _ _ rfl (w.heap.size+1) #[.int .i64 qk,.int .i64 qn] rfl rfl 48 _ B18.out aF rfl (all_oneCell_toArray (by simp[Value.oneCell'])) ?_))
   generalize hw9:World.setRow _ _ _=w9
   have QR:=shZ hw9 B18
   have K9:Hid (Below w.heap.size w w9):=by rw[←hw9];exact Below.set_row K8.out (by omega) _
   clear hw9
   go_wp2_with fail
   have q0:=crZ QR 0 rfl
   have q1:=crZ QR 1 rfl
   refine bodyPost_ret (v:=(.tuple #[.agg #[.int .i64 qk,.int .i64 qn],.int .i64 (-1)])) (by simp[results,Tryz.results146,go_sem,q0,q1]) rfl ⟨rfl,K9.out⟩
  rw[if_neg (fun h=>c3 h.2)]
  have n3:(rk == 3)=false:=beq_eq_false_iff_ne.2 c3
  clear c3 n11
  have HRC:=hI (iN 0)
  unfold bB at HRC ⊢
  dsimp only at HRC ⊢
  obtain⟨w0,hw0⟩:∃w0,w0=(w.alloc (.cells #[.int .i64 k,.int .i64 n] 48)).alloc (.cells #[.int .i64 0,.int .i64 0] 48):=⟨_,rfl⟩
  have K0:Hid (Below w.heap.size w w0):=by rw[hw0];exact bE _ _ _
  have B0:Hid (w0.heap[w.heap.size]? = some (.cells #[.int .i64 k,.int .i64 n] 48 (0,0))):=by rw[hw0];exact aY (aJ _ _) _
  have B1:Hid (w0.heap[w.heap.size+1]? = some (.cells #[.int .i64 0,.int .i64 0] 48 (0,0))):=by rw[hw0];exact cQ _ _ _
  have hz:w.heap.size+1<w0.heap.size:=(aE B1.out).1
  have R0:=rrZ B0
  have R1:=rrZ B1
  have HW:=hI hw0
  clear hw0
  go_enter Tryz.func146,Tryz.ntmps146
  go_upto_region 1 with fail
  rw[←HW.out]
  go_wp2_with (first | (refine wpList_load_mid rfl 48 _ rfl (w.heap.size) 0 rfl [.int .i64 k,.int .i64 n] _ R0.out Tryz.underlying48 rfl aF ?_) | fail)
  refine(HTC.out _).mono ?_
  rintro e w5 ⟨rfl,k5⟩
  have K5:=btZ K0 k5
  have B05:=rkZ B0 k5
  have R05:=rrZ B05
  have B15:=rkZ B1 k5
  have R15:=rrZ B15
  clear k5
  go_upto_region 2 with (first | (refine wpList_store_row rfl 48 _ _ rfl (w.heap.size) #[.int .i64 rk,.int .i64 rn] rfl rfl 48 _ B05.out aF rfl (all_oneCell_toArray (by simp[Value.oneCell'])) ?_) | fail)
  generalize h6:World.setRow _ _ _=w6
  have K6:Hid (Below w.heap.size w w6):=by rw[←h6];exact Below.set_row K5.out (by omega) _
  have B06:=shZ h6 B05
  have R06:=rrZ B06
  have B16:=soZ h6 B15 (by omega)
  have R16:=rrZ B16
  clear h6
  (try dsimp only [Act.put])
  have x0:=crZ B06 0 rfl
  have x1:=crZ B06 1 rfl
  go_wp2_with (first | fail)
  refine(HRC.out _).mono ?_
  rintro e w7 ⟨rfl,k7⟩
  have K7:=btZ K6 k7
  have B07:=rkZ B06 k7
  have R07:=rrZ B07
  have B17:=rkZ B16 k7
  have R17:=rrZ B17
  clear k7
  go_wp2_with (first | (refine wpList_store_row rfl 48 _ _ rfl (w.heap.size+1) #[.int .i64 0,.int .i64 0] rfl rfl 48 _ B17.out aF rfl (all_oneCell_toArray (by simp[Value.oneCell'])) ?_))
  generalize hw9:World.setRow _ _ _=w9
  have QR:=shZ hw9 B17
  have K9:Hid (Below w.heap.size w w9):=by rw[←hw9];exact Below.set_row K7.out (by omega) _
  clear hw9
  go_wp2_with fail
  have q0:=crZ QR 0 rfl
  have q1:=crZ QR 1 rfl
  refine bodyPost_ret (v:=(.tuple #[.agg #[.int .i64 0,.int .i64 0],.int .i64 0])) (by simp[results,Tryz.results146,go_sem,q0,q1]) rfl ⟨rfl,K9.out⟩
 rw[if_neg (fun h=>c12 h.1),if_neg (fun h=>c12 h.1)]
 have n12:(op == 12)=false:=beq_eq_false_iff_ne.2 c12
 clear c12
 have HRC:=hI (iN 0)
 unfold bB at HRC ⊢
 dsimp only at HRC ⊢
 obtain⟨w0,hw0⟩:∃w0,w0=(w.alloc (.cells #[.int .i64 k,.int .i64 n] 48)).alloc (.cells #[.int .i64 0,.int .i64 0] 48):=⟨_,rfl⟩
 have K0:Hid (Below w.heap.size w w0):=by rw[hw0];exact bE _ _ _
 have B0:Hid (w0.heap[w.heap.size]? = some (.cells #[.int .i64 k,.int .i64 n] 48 (0,0))):=by rw[hw0];exact aY (aJ _ _) _
 have B1:Hid (w0.heap[w.heap.size+1]? = some (.cells #[.int .i64 0,.int .i64 0] 48 (0,0))):=by rw[hw0];exact cQ _ _ _
 have hz:w.heap.size+1<w0.heap.size:=(aE B1.out).1
 have R0:=rrZ B0
 have R1:=rrZ B1
 have HW:=hI hw0
 clear hw0
 go_enter Tryz.func146,Tryz.ntmps146
 go_upto_region 1 with fail
 rw[←HW.out]
 go_wp2_with (first | (refine wpList_load_mid rfl 48 _ rfl (w.heap.size) 0 rfl [.int .i64 k,.int .i64 n] _ R0.out Tryz.underlying48 rfl aF ?_) | fail)
 refine(HTC.out _).mono ?_
 rintro e w5 ⟨rfl,k5⟩
 have K5:=btZ K0 k5
 have B05:=rkZ B0 k5
 have R05:=rrZ B05
 have B15:=rkZ B1 k5
 have R15:=rrZ B15
 clear k5
 go_upto_region 2 with (first | (refine wpList_store_row rfl 48 _ _ rfl (w.heap.size) #[.int .i64 rk,.int .i64 rn] rfl rfl 48 _ B05.out aF rfl (all_oneCell_toArray (by simp[Value.oneCell'])) ?_) | fail)
 generalize h6:World.setRow _ _ _=w6
 have K6:Hid (Below w.heap.size w w6):=by rw[←h6];exact Below.set_row K5.out (by omega) _
 have B06:=shZ h6 B05
 have R06:=rrZ B06
 have B16:=soZ h6 B15 (by omega)
 have R16:=rrZ B16
 clear h6
 (try dsimp only [Act.put])
 have x0:=crZ B06 0 rfl
 have x1:=crZ B06 1 rfl
 go_wp2_with (first | fail)
 refine(HRC.out _).mono ?_
 rintro e w7 ⟨rfl,k7⟩
 have K7:=btZ K6 k7
 have B07:=rkZ B06 k7
 have R07:=rrZ B07
 have B17:=rkZ B16 k7
 have R17:=rrZ B17
 clear k7
 go_wp2_with (first | (refine wpList_store_row rfl 48 _ _ rfl (w.heap.size+1) #[.int .i64 0,.int .i64 0] rfl rfl 48 _ B17.out aF rfl (all_oneCell_toArray (by simp[Value.oneCell'])) ?_))
 generalize hw9:World.setRow _ _ _=w9
 have QR:=shZ hw9 B17
 have K9:Hid (Below w.heap.size w w9):=by rw[←hw9];exact Below.set_row K7.out (by omega) _
 clear hw9
 go_wp2_with fail
 have q0:=crZ QR 0 rfl
 have q1:=crZ QR 1 rfl
 refine bodyPost_ret (v:=(.tuple #[.agg #[.int .i64 0,.int .i64 0],.int .i64 0])) (by simp[results,Tryz.results146,go_sem,q0,q1]) rfl ⟨rfl,K9.out⟩
theorem ad2 (op:Int) (u v:Val) (w:World):Calls Tryz.prog 144 #[.int .i64 op,.agg #[.int .i64 u.kind,.int .i64 u.n],.agg #[.int .i64 v.kind,.int .i64 v.n]] w (bB (mU op u v) w):=by
 obtain⟨r,hr⟩:∃r,dD u=r:=⟨_,rfl⟩
 obtain⟨s,hs⟩:∃s,dD v=s:=⟨_,rfl⟩
 have TA:=qL u
 have TB:=qL v
 unfold mU
 rw[hr] at TA
 rw[hs] at TB
 rw[hr,hs]
 clear hr hs
 obtain⟨ka,na⟩:=u
 obtain⟨kb,nb⟩:=v
 obtain⟨pk,pn⟩:=r
 obtain⟨qk,qn⟩:=s
 have HTA:=hI TA
 have HTB:=hI TB
 clear TA TB
 dsimp only at HTA HTB ⊢
 by_cases p3:pk=3
 ·subst p3
  by_cases q3:qk=3
  ·subst q3
   rw[if_pos ⟨rfl,rfl⟩]
   have FA:=qQ 3 pn
   have FB:=qQ 3 qn
   obtain⟨xb,hxb⟩:∃b,nI pn=b:=⟨_,rfl⟩
   obtain⟨yb,hyb⟩:∃b,nI qn=b:=⟨_,rfl⟩
   rw[hxb] at FA ⊢
   rw[hyb] at FB ⊢
   clear hxb hyb
   have RC:=adB op xb yb
   obtain⟨r,hr⟩:∃r,lI op xb yb=r:=⟨_,rfl⟩
   rw[hr] at RC ⊢
   clear hr
   obtain⟨⟨rk,rn⟩,th⟩:=r
   have HRC:=hI RC
   have HFA:=hI FA
   have HFB:=hI FB
   clear RC FA FB
   unfold bB at HRC ⊢
   dsimp only at HRC ⊢
   obtain⟨w0,hw0⟩:∃w0,w0=((w.alloc (.cells #[.int .i64 ka,.int .i64 na] 48)).alloc (.cells #[.int .i64 kb,.int .i64 nb] 48)).alloc (.cells #[.int .i64 0,.int .i64 0] 48):=⟨_,rfl⟩
   have K0:Hid (Below w.heap.size w w0):=by rw[hw0];exact(bE w _ _).alloc (by simp;omega) _
   have B0:Hid (w0.heap[w.heap.size]? = some (.cells #[.int .i64 ka,.int .i64 na] 48 (0,0))):=by rw[hw0];exact aY (aY (aJ w _) _) _
   have B1:Hid (w0.heap[w.heap.size+1]? = some (.cells #[.int .i64 kb,.int .i64 nb] 48 (0,0))):=by rw[hw0];exact aY (cQ _ _ _) _
   have B2:Hid (w0.heap[w.heap.size+1+1]? = some (.cells #[.int .i64 0,.int .i64 0] 48 (0,0))):=by rw[hw0];exact eD _ _ _ _
   have hz:w.heap.size+1+1<w0.heap.size:=(aE B2.out).1
   have R0:=rrZ B0
   have R1:=rrZ B1
   have R2:=rrZ B2
   have HW:=hI hw0
   clear hw0
   go_enter Tryz.func144,Tryz.ntmps144
   go_upto_region 1 with fail
   rw[←HW.out]
   have RU:Hid (∀E:Up w0,E.to.rangeAt w.heap.size 0 [.int .i64 ka,.int .i64 na]):=fun E a u hu=>E.cell (R0.out a u hu)
   have RV:Hid (∀E:Up w0,E.to.rangeAt (w.heap.size+1) 0 [.int .i64 kb,.int .i64 nb]):=fun E a u hu=>E.cell (R1.out a u hu)
   refine aL 4 (by kernel_rfl) (by kernel_rfl) ?_
   simp only[List.take_succ_cons,List.take_zero,List.drop_succ_cons,List.drop_zero]
   repeat (first
    | (refine aO 48 _ rfl rfl w.heap.size 0 rfl [.int .i64 ka,.int .i64 na] _ RU.out Tryz.underlying48 rfl aF ?_;go_simp)
    | (refine aO 48 _ rfl rfl (w.heap.size+1) 0 rfl [.int .i64 kb,.int .i64 nb] _ RV.out Tryz.underlying48 rfl aF ?_;go_simp)
    | go_big_quiet_step ((go_at_call 169;first | exact Calls.up (HTA.out _) | exact Calls.up (HTB.out _))))
   refine wpQuiet_nil ?_
   first | (rintro _ ⟨E,rfl⟩) | (intro E) | (rename_i E)
   obtain⟨w5,k5⟩:=E
   dsimp only
   have K5:=btZ K0 k5
   have B05:=rkZ B0 k5
   have R05:=rrZ B05
   have B15:=rkZ B1 k5
   have R15:=rrZ B15
   have B25:=rkZ B2 k5
   have R25:=rrZ B25
   clear k5 RU RV
   refine wpList_store_row rfl 48 _ _ rfl (w.heap.size) #[.int .i64 3,.int .i64 pn] rfl rfl 48 _ B05.out aF rfl (all_oneCell_toArray (by simp[Value.oneCell'])) ?_
   generalize ha:World.setRow _ _ _=wa
   have Ka:Hid (Below w.heap.size w wa):=by rw[←ha];exact Below.set_row K5.out (by omega) _
   have B0a:=shZ ha B05
   have R0a:=rrZ B0a
   have B1a:=soZ ha B15 (by omega)
   have R1a:=rrZ B1a
   have B2a:=soZ ha B25 (by omega)
   have R2a:=rrZ B2a
   clear ha
   refine wpList_store_row rfl 48 _ _ rfl (w.heap.size+1) #[.int .i64 3,.int .i64 qn] rfl rfl 48 _ B1a.out aF rfl (all_oneCell_toArray (by simp[Value.oneCell'])) ?_
   generalize h6:World.setRow _ _ _=w6
   have K6:Hid (Below w.heap.size w w6):=by rw[←h6];exact Below.set_row Ka.out (by omega) _
   have B06:=soZ h6 B0a (by omega)
   have R06:=rrZ B06
   have B16:=shZ h6 B1a
   have R16:=rrZ B16
   have B26:=soZ h6 B2a (by omega)
   have R26:=rrZ B26
   clear h6
   dsimp only [Act.put]
   have x0:=crZ B06 0 rfl
   have x1:=crZ B06 1 rfl
   have y0:=crZ B16 0 rfl
   have y1:=crZ B16 1 rfl
   go_upto_region 3 with fail
   clear x0 x1 y0 y1
   have RU:Hid (∀E:Up w6,E.to.rangeAt w.heap.size 0 [.int .i64 3,.int .i64 pn]):=fun E a u hu=>E.cell (R06.out a u hu)
   have RV:Hid (∀E:Up w6,E.to.rangeAt (w.heap.size+1) 0 [.int .i64 3,.int .i64 qn]):=fun E a u hu=>E.cell (R16.out a u hu)
   refine aL 8 (by kernel_rfl) (by kernel_rfl) ?_
   simp only[List.take_succ_cons,List.take_zero,List.drop_succ_cons,List.drop_zero]
   repeat (first
    | (refine aO 48 _ rfl rfl w.heap.size 0 rfl [.int .i64 3,.int .i64 pn] _ RU.out Tryz.underlying48 rfl aF ?_;go_simp)
    | (refine aO 48 _ rfl rfl (w.heap.size+1) 0 rfl [.int .i64 3,.int .i64 qn] _ RV.out Tryz.underlying48 rfl aF ?_;go_simp)
    | go_big_quiet_step ((go_at_call 141;first | exact Calls.up (HFA.out _) | exact Calls.up (HFB.out _)))
    | go_big_quiet_step ((go_at_call 170;exact Calls.up (HRC.out _))))
   refine wpQuiet_nil ?_
   first | (rintro _ ⟨E,rfl⟩) | (intro E) | (rename_i E)
   obtain⟨w8,k8⟩:=E
   dsimp only
   have K8:=btZ K6 k8
   have B08:=rkZ B06 k8
   have R08:=rrZ B08
   have B18:=rkZ B16 k8
   have R18:=rrZ B18
   have B28:=rkZ B26 k8
   have R28:=rrZ B28
   clear k8 RU RV
   go_wp2_with (first | (refine wpList_store_row rfl 48 _ _ rfl (w.heap.size+1+1) #[.int .i64 rk,.int .i64 rn] rfl rfl 48 _ B28.out aF rfl (all_oneCell_toArray (by simp[Value.oneCell'])) ?_))
   generalize hw9:World.setRow _ _ _=w9
   have QR:=shZ hw9 B28
   have K9:Hid (Below w.heap.size w w9):=by rw[←hw9];exact Below.set_row K8.out (by omega) _
   clear hw9
   go_wp2_with fail
   have q0:=crZ QR 0 rfl
   have q1:=crZ QR 1 rfl
   refine bodyPost_ret (v:=(.tuple #[.agg #[.int .i64 rk,.int .i64 rn],.int .i64 th])) (by simp[results,Tryz.results144,go_sem,q0,q1]) rfl ⟨rfl,K9.out⟩
  rw[if_neg (fun h=>q3 h.2)]
  have nq3:(qk == 3)=false:=beq_eq_false_iff_ne.2 q3
  by_cases c8:op=8
  ·subst c8
   rw[if_pos rfl,show((3:Int) == qk && pn == qn)=false from by rw[beq_eq_false_iff_ne.2 (Ne.symm q3)];rfl]
   have ne:((3:Int) == qk)=false:=beq_eq_false_iff_ne.2 (Ne.symm q3)
   clear q3
   have RC:=fO false
   obtain⟨r,hr⟩:∃r,cP false=r:=⟨_,rfl⟩
   rw[hr] at RC ⊢
   clear hr
   obtain⟨rk,rn⟩:=r
   have HRC:=hI RC
   clear RC
   unfold bB
   dsimp only at HRC ⊢
   obtain⟨w0,hw0⟩:∃w0,w0=((w.alloc (.cells #[.int .i64 ka,.int .i64 na] 48)).alloc (.cells #[.int .i64 kb,.int .i64 nb] 48)).alloc (.cells #[.int .i64 0,.int .i64 0] 48):=⟨_,rfl⟩
   have K0:Hid (Below w.heap.size w w0):=by rw[hw0];exact(bE w _ _).alloc (by simp;omega) _
   have B0:Hid (w0.heap[w.heap.size]? = some (.cells #[.int .i64 ka,.int .i64 na] 48 (0,0))):=by rw[hw0];exact aY (aY (aJ w _) _) _
   have B1:Hid (w0.heap[w.heap.size+1]? = some (.cells #[.int .i64 kb,.int .i64 nb] 48 (0,0))):=by rw[hw0];exact aY (cQ _ _ _) _
   have B2:Hid (w0.heap[w.heap.size+1+1]? = some (.cells #[.int .i64 0,.int .i64 0] 48 (0,0))):=by rw[hw0];exact eD _ _ _ _
   have hz:w.heap.size+1+1<w0.heap.size:=(aE B2.out).1
   have R0:=rrZ B0
   have R1:=rrZ B1
   have R2:=rrZ B2
   have HW:=hI hw0
   clear hw0
   go_enter Tryz.func144,Tryz.ntmps144
   go_upto_region 1 with fail
   rw[←HW.out]
   have RU:Hid (∀E:Up w0,E.to.rangeAt w.heap.size 0 [.int .i64 ka,.int .i64 na]):=fun E a u hu=>E.cell (R0.out a u hu)
   have RV:Hid (∀E:Up w0,E.to.rangeAt (w.heap.size+1) 0 [.int .i64 kb,.int .i64 nb]):=fun E a u hu=>E.cell (R1.out a u hu)
   refine aL 4 (by kernel_rfl) (by kernel_rfl) ?_
   simp only[List.take_succ_cons,List.take_zero,List.drop_succ_cons,List.drop_zero]
   repeat (first
    | (refine aO 48 _ rfl rfl w.heap.size 0 rfl [.int .i64 ka,.int .i64 na] _ RU.out Tryz.underlying48 rfl aF ?_;go_simp)
    | (refine aO 48 _ rfl rfl (w.heap.size+1) 0 rfl [.int .i64 kb,.int .i64 nb] _ RV.out Tryz.underlying48 rfl aF ?_;go_simp)
    | go_big_quiet_step ((go_at_call 169;first | exact Calls.up (HTA.out _) | exact Calls.up (HTB.out _))))
   refine wpQuiet_nil ?_
   first | (rintro _ ⟨E,rfl⟩) | (intro E) | (rename_i E)
   obtain⟨w5,k5⟩:=E
   dsimp only
   have K5:=btZ K0 k5
   have B05:=rkZ B0 k5
   have R05:=rrZ B05
   have B15:=rkZ B1 k5
   have R15:=rrZ B15
   have B25:=rkZ B2 k5
   have R25:=rrZ B25
   clear k5 RU RV
   refine wpList_store_row rfl 48 _ _ rfl (w.heap.size) #[.int .i64 3,.int .i64 pn] rfl rfl 48 _ B05.out aF rfl (all_oneCell_toArray (by simp[Value.oneCell'])) ?_
   generalize ha:World.setRow _ _ _=wa
   have Ka:Hid (Below w.heap.size w wa):=by rw[←ha];exact Below.set_row K5.out (by omega) _
   have B0a:=shZ ha B05
   have R0a:=rrZ B0a
   have B1a:=soZ ha B15 (by omega)
   have R1a:=rrZ B1a
   have B2a:=soZ ha B25 (by omega)
   have R2a:=rrZ B2a
   clear ha
   refine wpList_store_row rfl 48 _ _ rfl (w.heap.size+1) #[.int .i64 qk,.int .i64 qn] rfl rfl 48 _ B1a.out aF rfl (all_oneCell_toArray (by simp[Value.oneCell'])) ?_
   generalize h6:World.setRow _ _ _=w6
   have K6:Hid (Below w.heap.size w w6):=by rw[←h6];exact Below.set_row Ka.out (by omega) _
   have B06:=soZ h6 B0a (by omega)
   have R06:=rrZ B06
   have B16:=shZ h6 B1a
   have R16:=rrZ B16
   have B26:=soZ h6 B2a (by omega)
   have R26:=rrZ B26
   clear h6
   dsimp only [Act.put]
   have x0:=crZ B06 0 rfl
   have x1:=crZ B06 1 rfl
   have y0:=crZ B16 0 rfl
   have y1:=crZ B16 1 rfl
   go_wp2_with (first | (refine wpList_load_mid rfl 48 _ rfl (w.heap.size) 0 rfl [.int .i64 3,.int .i64 pn] _ R06.out Tryz.underlying48 rfl aF ?_) | (refine wpList_load_mid rfl 48 _ rfl (w.heap.size+1) 0 rfl [.int .i64 qk,.int .i64 qn] _ R16.out Tryz.underlying48 rfl aF ?_) | fail)
   refine(HRC.out _).mono ?_
   rintro e w7 ⟨rfl,k7⟩
   have K7:=btZ K6 k7
   have B07:=rkZ B06 k7
   have R07:=rrZ B07
   have B17:=rkZ B16 k7
   have R17:=rrZ B17
   have B27:=rkZ B26 k7
   have R27:=rrZ B27
   clear k7
   go_wp2_with (first | (refine wpList_store_row rfl 48 _ _ rfl (w.heap.size+1+1) #[.int .i64 rk,.int .i64 rn] rfl rfl 48 _ B27.out aF rfl (all_oneCell_toArray (by simp[Value.oneCell'])) ?_))
   generalize hw9:World.setRow _ _ _=w9
   have QR:=shZ hw9 B27
   have K9:Hid (Below w.heap.size w w9):=by rw[←hw9];exact Below.set_row K7.out (by omega) _
   clear hw9
   go_wp2_with fail
   have q0:=crZ QR 0 rfl
   have q1:=crZ QR 1 rfl
   refine bodyPost_ret (v:=(.tuple #[.agg #[.int .i64 rk,.int .i64 rn],.int .i64 (-1)])) (by simp[results,Tryz.results144,go_sem,q0,q1]) rfl ⟨rfl,K9.out⟩
  rw[if_neg c8,if_neg (fun h=>absurd h.1 (by decide))]
  have n8:(op == 8)=false:=beq_eq_false_iff_ne.2 c8
  clear c8 q3
  have HRC:=hI (iN 0)
  unfold bB at HRC ⊢
  dsimp only at HRC ⊢
  obtain⟨w0,hw0⟩:∃w0,w0=((w.alloc (.cells #[.int .i64 ka,.int .i64 na] 48)).alloc (.cells #[.int .i64 kb,.int .i64 nb] 48)).alloc (.cells #[.int .i64 0,.int .i64 0] 48):=⟨_,rfl⟩
  have K0:Hid (Below w.heap.size w w0):=by rw[hw0];exact(bE w _ _).alloc (by simp;omega) _
  have B0:Hid (w0.heap[w.heap.size]? = some (.cells #[.int .i64 ka,.int .i64 na] 48 (0,0))):=by rw[hw0];exact aY (aY (aJ w _) _) _
  have B1:Hid (w0.heap[w.heap.size+1]? = some (.cells #[.int .i64 kb,.int .i64 nb] 48 (0,0))):=by rw[hw0];exact aY (cQ _ _ _) _
  have B2:Hid (w0.heap[w.heap.size+1+1]? = some (.cells #[.int .i64 0,.int .i64 0] 48 (0,0))):=by rw[hw0];exact eD _ _ _ _
  have hz:w.heap.size+1+1<w0.heap.size:=(aE B2.out).1
  have R0:=rrZ B0
  have R1:=rrZ B1
  have R2:=rrZ B2
  have HW:=hI hw0
  clear hw0
  go_enter Tryz.func144,Tryz.ntmps144
  go_upto_region 1 with fail
  rw[←HW.out]
  have RU:Hid (∀E:Up w0,E.to.rangeAt w.heap.size 0 [.int .i64 ka,.int .i64 na]):=fun E a u hu=>E.cell (R0.out a u hu)
  have RV:Hid (∀E:Up w0,E.to.rangeAt (w.heap.size+1) 0 [.int .i64 kb,.int .i64 nb]):=fun E a u hu=>E.cell (R1.out a u hu)
  refine aL 4 (by kernel_rfl) (by kernel_rfl) ?_
  simp only[List.take_succ_cons,List.take_zero,List.drop_succ_cons,List.drop_zero]
  repeat (first
   | (refine aO 48 _ rfl rfl w.heap.size 0 rfl [.int .i64 ka,.int .i64 na] _ RU.out Tryz.underlying48 rfl aF ?_;go_simp)
   | (refine aO 48 _ rfl rfl (w.heap.size+1) 0 rfl [.int .i64 kb,.int .i64 nb] _ RV.out Tryz.underlying48 rfl aF ?_;go_simp)
   | go_big_quiet_step ((go_at_call 169;first | exact Calls.up (HTA.out _) | exact Calls.up (HTB.out _))))
  refine wpQuiet_nil ?_
  first | (rintro _ ⟨E,rfl⟩) | (intro E) | (rename_i E)
  obtain⟨w5,k5⟩:=E
  dsimp only
  have K5:=btZ K0 k5
  have B05:=rkZ B0 k5
  have R05:=rrZ B05
  have B15:=rkZ B1 k5
  have R15:=rrZ B15
  have B25:=rkZ B2 k5
  have R25:=rrZ B25
  clear k5 RU RV
  refine wpList_store_row rfl 48 _ _ rfl (w.heap.size) #[.int .i64 3,.int .i64 pn] rfl rfl 48 _ B05.out aF rfl (all_oneCell_toArray (by simp[Value.oneCell'])) ?_
  generalize ha:World.setRow _ _ _=wa
  have Ka:Hid (Below w.heap.size w wa):=by rw[←ha];exact Below.set_row K5.out (by omega) _
  have B0a:=shZ ha B05
  have R0a:=rrZ B0a
  have B1a:=soZ ha B15 (by omega)
  have R1a:=rrZ B1a
  have B2a:=soZ ha B25 (by omega)
  have R2a:=rrZ B2a
  clear ha
  refine wpList_store_row rfl 48 _ _ rfl (w.heap.size+1) #[.int .i64 qk,.int .i64 qn] rfl rfl 48 _ B1a.out aF rfl (all_oneCell_toArray (by simp[Value.oneCell'])) ?_
  generalize h6:World.setRow _ _ _=w6
  have K6:Hid (Below w.heap.size w w6):=by rw[←h6];exact Below.set_row Ka.out (by omega) _
  have B06:=soZ h6 B0a (by omega)
  have R06:=rrZ B06
  have B16:=shZ h6 B1a
  have R16:=rrZ B16
  have B26:=soZ h6 B2a (by omega)
  have R26:=rrZ B26
  clear h6
  dsimp only [Act.put]
  have x0:=crZ B06 0 rfl
  have x1:=crZ B06 1 rfl
  have y0:=crZ B16 0 rfl
  have y1:=crZ B16 1 rfl
  go_wp2_with (first | fail)
  refine(HRC.out _).mono ?_
  rintro e w7 ⟨rfl,k7⟩
  have K7:=btZ K6 k7
  have B07:=rkZ B06 k7
  have R07:=rrZ B07
  have B17:=rkZ B16 k7
  have R17:=rrZ B17
  have B27:=rkZ B26 k7
  have R27:=rrZ B27
  clear k7
  go_wp2_with (first | (refine wpList_store_row rfl 48 _ _ rfl (w.heap.size+1+1) #[.int .i64 0,.int .i64 0] rfl rfl 48 _ B27.out aF rfl (all_oneCell_toArray (by simp[Value.oneCell'])) ?_))
  generalize hw9:World.setRow _ _ _=w9
  have QR:=shZ hw9 B27
  have K9:Hid (Below w.heap.size w w9):=by rw[←hw9];exact Below.set_row K7.out (by omega) _
  clear hw9
  go_wp2_with fail
  have q0:=crZ QR 0 rfl
  have q1:=crZ QR 1 rfl
  refine bodyPost_ret (v:=(.tuple #[.agg #[.int .i64 0,.int .i64 0],.int .i64 0])) (by simp[results,Tryz.results144,go_sem,q0,q1]) rfl ⟨rfl,K9.out⟩
 rw[if_neg (fun h=>p3 h.1)]
 have np3:(pk == 3)=false:=beq_eq_false_iff_ne.2 p3
 clear p3
 by_cases c8:op=8
 ·subst c8
  rw[if_pos rfl]
  by_cases e1:pk=qk
  ·subst e1
   by_cases e2:pn=qn
   ·subst e2
    rw[show(pk == pk && pn == pn)=true from by simp]
    have RC:=fO true
    obtain⟨r,hr⟩:∃r,cP true=r:=⟨_,rfl⟩
    rw[hr] at RC ⊢
    clear hr
    obtain⟨rk,rn⟩:=r
    have HRC:=hI RC
    clear RC
    unfold bB
    dsimp only at HRC ⊢
    obtain⟨w0,hw0⟩:∃w0,w0=((w.alloc (.cells #[.int .i64 ka,.int .i64 na] 48)).alloc (.cells #[.int .i64 kb,.int .i64 nb] 48)).alloc (.cells #[.int .i64 0,.int .i64 0] 48):=⟨_,rfl⟩
    have K0:Hid (Below w.heap.size w w0):=by rw[hw0];exact(bE w _ _).alloc (by simp;omega) _
    have B0:Hid (w0.heap[w.heap.size]? = some (.cells #[.int .i64 ka,.int .i64 na] 48 (0,0))):=by rw[hw0];exact aY (aY (aJ w _) _) _
    have B1:Hid (w0.heap[w.heap.size+1]? = some (.cells #[.int .i64 kb,.int .i64 nb] 48 (0,0))):=by rw[hw0];exact aY (cQ _ _ _) _
    have B2:Hid (w0.heap[w.heap.size+1+1]? = some (.cells #[.int .i64 0,.int .i64 0] 48 (0,0))):=by rw[hw0];exact eD _ _ _ _
    have hz:w.heap.size+1+1<w0.heap.size:=(aE B2.out).1
    have R0:=rrZ B0
    have R1:=rrZ B1
    have R2:=rrZ B2
    have HW:=hI hw0
    clear hw0
    go_enter Tryz.func144,Tryz.ntmps144
    go_upto_region 1 with fail
    rw[←HW.out]
    have RU:Hid (∀E:Up w0,E.to.rangeAt w.heap.size 0 [.int .i64 ka,.int .i64 na]):=fun E a u hu=>E.cell (R0.out a u hu)
    have RV:Hid (∀E:Up w0,E.to.rangeAt (w.heap.size+1) 0 [.int .i64 kb,.int .i64 nb]):=fun E a u hu=>E.cell (R1.out a u hu)
    refine aL 4 (by kernel_rfl) (by kernel_rfl) ?_
    simp only[List.take_succ_cons,List.take_zero,List.drop_succ_cons,List.drop_zero]
    repeat (first
     | (refine aO 48 _ rfl rfl w.heap.size 0 rfl [.int .i64 ka,.int .i64 na] _ RU.out Tryz.underlying48 rfl aF ?_;go_simp)
     | (refine aO 48 _ rfl rfl (w.heap.size+1) 0 rfl [.int .i64 kb,.int .i64 nb] _ RV.out Tryz.underlying48 rfl aF ?_;go_simp)
     | go_big_quiet_step ((go_at_call 169;first | exact Calls.up (HTA.out _) | exact Calls.up (HTB.out _))))
    refine wpQuiet_nil ?_
    first | (rintro _ ⟨E,rfl⟩) | (intro E) | (rename_i E)
    obtain⟨w5,k5⟩:=E
    dsimp only
    have K5:=btZ K0 k5
    have B05:=rkZ B0 k5
    have R05:=rrZ B05
    have B15:=rkZ B1 k5
    have R15:=rrZ B15
    have B25:=rkZ B2 k5
    have R25:=rrZ B25
    clear k5 RU RV
    refine wpList_store_row rfl 48 _ _ rfl (w.heap.size) #[.int .i64 pk,.int .i64 pn] rfl rfl 48 _ B05.out aF rfl (all_oneCell_toArray (by simp[Value.oneCell'])) ?_
    generalize ha:World.setRow _ _ _=wa
    have Ka:Hid (Below w.heap.size w wa):=by rw[←ha];exact Below.set_row K5.out (by omega) _
    have B0a:=shZ ha B05
    have R0a:=rrZ B0a
    have B1a:=soZ ha B15 (by omega)
    have R1a:=rrZ B1a
    have B2a:=soZ ha B25 (by omega)
    have R2a:=rrZ B2a
    clear ha
    refine wpList_store_row rfl 48 _ _ rfl (w.heap.size+1) #[.int .i64 pk,.int .i64 pn] rfl rfl 48 _ B1a.out aF rfl (all_oneCell_toArray (by simp[Value.oneCell'])) ?_
    generalize h6:World.setRow _ _ _=w6
    have K6:Hid (Below w.heap.size w w6):=by rw[←h6];exact Below.set_row Ka.out (by omega) _
    have B06:=soZ h6 B0a (by omega)
    have R06:=rrZ B06
    have B16:=shZ h6 B1a
    have R16:=rrZ B16
    have B26:=soZ h6 B2a (by omega)
    have R26:=rrZ B26
    clear h6
    dsimp only [Act.put]
    have x0:=crZ B06 0 rfl
    have x1:=crZ B06 1 rfl
    have y0:=crZ B16 0 rfl
    have y1:=crZ B16 1 rfl
    go_wp2_with (first | (refine wpList_load_mid rfl 48 _ rfl (w.heap.size) 0 rfl [.int .i64 pk,.int .i64 pn] _ R06.out Tryz.underlying48 rfl aF ?_) | (refine wpList_load_mid rfl 48 _ rfl (w.heap.size+1) 0 rfl [.int .i64 pk,.int .i64 pn] _ R16.out Tryz.underlying48 rfl aF ?_) | fail)
    refine(HRC.out _).mono ?_
    rintro e w7 ⟨rfl,k7⟩
    have K7:=btZ K6 k7
    have B07:=rkZ B06 k7
    have R07:=rrZ B07
    have B17:=rkZ B16 k7
    have R17:=rrZ B17
    have B27:=rkZ B26 k7
    have R27:=rrZ B27
    clear k7
    go_wp2_with (first | (refine wpList_store_row rfl 48 _ _ rfl (w.heap.size+1+1) #[.int .i64 rk,.int .i64 rn] rfl rfl 48 _ B27.out aF rfl (all_oneCell_toArray (by simp[Value.oneCell'])) ?_))
    generalize hw9:World.setRow _ _ _=w9
    have QR:=shZ hw9 B27
    have K9:Hid (Below w.heap.size w w9):=by rw[←hw9];exact Below.set_row K7.out (by omega) _
    clear hw9
    go_wp2_with fail
    have q0:=crZ QR 0 rfl
    have q1:=crZ QR 1 rfl
    refine bodyPost_ret (v:=(.tuple #[.agg #[.int .i64 rk,.int .i64 rn],.int .i64 (-1)])) (by simp[results,Tryz.results144,go_sem,q0,q1]) rfl ⟨rfl,K9.out⟩
   ·have ne:(pn == qn)=false:=beq_eq_false_iff_ne.2 e2
    rw[show(pk == pk && pn == qn)=false from by rw[ne];simp]
    clear e2
    have RC:=fO false
    obtain⟨r,hr⟩:∃r,cP false=r:=⟨_,rfl⟩
    rw[hr] at RC ⊢
    clear hr
    obtain⟨rk,rn⟩:=r
    have HRC:=hI RC
    clear RC
    unfold bB
    dsimp only at HRC ⊢
    obtain⟨w0,hw0⟩:∃w0,w0=((w.alloc (.cells #[.int .i64 ka,.int .i64 na] 48)).alloc (.cells #[.int .i64 kb,.int .i64 nb] 48)).alloc (.cells #[.int .i64 0,.int .i64 0] 48):=⟨_,rfl⟩
    have K0:Hid (Below w.heap.size w w0):=by rw[hw0];exact(bE w _ _).alloc (by simp;omega) _
    have B0:Hid (w0.heap[w.heap.size]? = some (.cells #[.int .i64 ka,.int .i64 na] 48 (0,0))):=by rw[hw0];exact aY (aY (aJ w _) _) _
    have B1:Hid (w0.heap[w.heap.size+1]? = some (.cells #[.int .i64 kb,.int .i64 nb] 48 (0,0))):=by rw[hw0];exact aY (cQ _ _ _) _
    have B2:Hid (w0.heap[w.heap.size+1+1]? = some (.cells #[.int .i64 0,.int .i64 0] 48 (0,0))):=by rw[hw0];exact eD _ _ _ _
    have hz:w.heap.size+1+1<w0.heap.size:=(aE B2.out).1
    have R0:=rrZ B0
    have R1:=rrZ B1
    have R2:=rrZ B2
    have HW:=hI hw0
    clear hw0
    go_enter Tryz.func144,Tryz.ntmps144
    go_upto_region 1 with fail
    rw[←HW.out]
    have RU:Hid (∀E:Up w0,E.to.rangeAt w.heap.size 0 [.int .i64 ka,.int .i64 na]):=fun E a u hu=>E.cell (R0.out a u hu)
    have RV:Hid (∀E:Up w0,E.to.rangeAt (w.heap.size+1) 0 [.int .i64 kb,.int .i64 nb]):=fun E a u hu=>E.cell (R1.out a u hu)
    refine aL 4 (by kernel_rfl) (by kernel_rfl) ?_
    simp only[List.take_succ_cons,List.take_zero,List.drop_succ_cons,List.drop_zero]
    repeat (first
     | (refine aO 48 _ rfl rfl w.heap.size 0 rfl [.int .i64 ka,.int .i64 na] _ RU.out Tryz.underlying48 rfl aF ?_;go_simp)
     | (refine aO 48 _ rfl rfl (w.heap.size+1) 0 rfl [.int .i64 kb,.int .i64 nb] _ RV.out Tryz.underlying48 rfl aF ?_;go_simp)
     | go_big_quiet_step ((go_at_call 169;first | exact Calls.up (HTA.out _) | exact Calls.up (HTB.out _))))
    refine wpQuiet_nil ?_
    first | (rintro _ ⟨E,rfl⟩) | (intro E) | (rename_i E)
    obtain⟨w5,k5⟩:=E
    dsimp only
    have K5:=btZ K0 k5
    have B05:=rkZ B0 k5
    have R05:=rrZ B05
    have B15:=rkZ B1 k5
    have R15:=rrZ B15
    have B25:=rkZ B2 k5
    have R25:=rrZ B25
    clear k5 RU RV
    refine wpList_store_row rfl 48 _ _ rfl (w.heap.size) #[.int .i64 pk,.int .i64 pn] rfl rfl 48 _ B05.out aF rfl (all_oneCell_toArray (by simp[Value.oneCell'])) ?_
    generalize ha:World.setRow _ _ _=wa
    have Ka:Hid (Below w.heap.size w wa):=by rw[←ha];exact Below.set_row K5.out (by omega) _
    have B0a:=shZ ha B05
    have R0a:=rrZ B0a
    have B1a:=soZ ha B15 (by omega)
    have R1a:=rrZ B1a
    have B2a:=soZ ha B25 (by omega)
    have R2a:=rrZ B2a
    clear ha
    refine wpList_store_row rfl 48 _ _ rfl (w.heap.size+1) #[.int .i64 pk,.int .i64 qn] rfl rfl 48 _ B1a.out aF rfl (all_oneCell_toArray (by simp[Value.oneCell'])) ?_
    generalize h6:World.setRow _ _ _=w6
    have K6:Hid (Below w.heap.size w w6):=by rw[←h6];exact Below.set_row Ka.out (by omega) _
    have B06:=soZ h6 B0a (by omega)
    have R06:=rrZ B06
    have B16:=shZ h6 B1a
    have R16:=rrZ B16
    have B26:=soZ h6 B2a (by omega)
    have R26:=rrZ B26
    clear h6
    dsimp only [Act.put]
    have x0:=crZ B06 0 rfl
    have x1:=crZ B06 1 rfl
    have y0:=crZ B16 0 rfl
    have y1:=crZ B16 1 rfl
    go_wp2_with (first | (refine wpList_load_mid rfl 48 _ rfl (w.heap.size) 0 rfl [.int .i64 pk,.int .i64 pn] _ R06.out Tryz.underlying48 rfl aF ?_) | (refine wpList_load_mid rfl 48 _ rfl (w.heap.size+1) 0 rfl [.int .i64 pk,.int .i64 qn] _ R16.out Tryz.underlying48 rfl aF ?_) | fail)
    refine(HRC.out _).mono ?_
    rintro e w7 ⟨rfl,k7⟩
    have K7:=btZ K6 k7
    have B07:=rkZ B06 k7
    have R07:=rrZ B07
    have B17:=rkZ B16 k7
    have R17:=rrZ B17
    have B27:=rkZ B26 k7
    have R27:=rrZ B27
    clear k7
    go_wp2_with (first | (refine wpList_store_row rfl 48 _ _ rfl (w.heap.size+1+1) #[.int .i64 rk,.int .i64 rn] rfl rfl 48 _ B27.out aF rfl (all_oneCell_toArray (by simp[Value.oneCell'])) ?_))
    generalize hw9:World.setRow _ _ _=w9
    have QR:=shZ hw9 B27
    have K9:Hid (Below w.heap.size w w9):=by rw[←hw9];exact Below.set_row K7.out (by omega) _
    clear hw9
    go_wp2_with fail
    have q0:=crZ QR 0 rfl
    have q1:=crZ QR 1 rfl
    refine bodyPost_ret (v:=(.tuple #[.agg #[.int .i64 rk,.int .i64 rn],.int .i64 (-1)])) (by simp[results,Tryz.results144,go_sem,q0,q1]) rfl ⟨rfl,K9.out⟩
  ·have ne:(pk == qk)=false:=beq_eq_false_iff_ne.2 e1
   rw[ne,Bool.false_and]
   clear e1
   have RC:=fO false
   obtain⟨r,hr⟩:∃r,cP false=r:=⟨_,rfl⟩
   rw[hr] at RC ⊢
   clear hr
   obtain⟨rk,rn⟩:=r
   have HRC:=hI RC
   clear RC
   unfold bB
   dsimp only at HRC ⊢
   obtain⟨w0,hw0⟩:∃w0,w0=((w.alloc (.cells #[.int .i64 ka,.int .i64 na] 48)).alloc (.cells #[.int .i64 kb,.int .i64 nb] 48)).alloc (.cells #[.int .i64 0,.int .i64 0] 48):=⟨_,rfl⟩
   have K0:Hid (Below w.heap.size w w0):=by rw[hw0];exact(bE w _ _).alloc (by simp;omega) _
   have B0:Hid (w0.heap[w.heap.size]? = some (.cells #[.int .i64 ka,.int .i64 na] 48 (0,0))):=by rw[hw0];exact aY (aY (aJ w _) _) _
   have B1:Hid (w0.heap[w.heap.size+1]? = some (.cells #[.int .i64 kb,.int .i64 nb] 48 (0,0))):=by rw[hw0];exact aY (cQ _ _ _) _
   have B2:Hid (w0.heap[w.heap.size+1+1]? = some (.cells #[.int .i64 0,.int .i64 0] 48 (0,0))):=by rw[hw0];exact eD _ _ _ _
   have hz:w.heap.size+1+1<w0.heap.size:=(aE B2.out).1
   have R0:=rrZ B0
   have R1:=rrZ B1
   have R2:=rrZ B2
   have HW:=hI hw0
   clear hw0
   go_enter Tryz.func144,Tryz.ntmps144
   go_upto_region 1 with fail
   rw[←HW.out]
   have RU:Hid (∀E:Up w0,E.to.rangeAt w.heap.size 0 [.int .i64 ka,.int .i64 na]):=fun E a u hu=>E.cell (R0.out a u hu)
   have RV:Hid (∀E:Up w0,E.to.rangeAt (w.heap.size+1) 0 [.int .i64 kb,.int .i64 nb]):=fun E a u hu=>E.cell (R1.out a u hu)
   refine aL 4 (by kernel_rfl) (by kernel_rfl) ?_
   simp only[List.take_succ_cons,List.take_zero,List.drop_succ_cons,List.drop_zero]
   repeat (first
    | (refine aO 48 _ rfl rfl w.heap.size 0 rfl [.int .i64 ka,.int .i64 na] _ RU.out Tryz.underlying48 rfl aF ?_;go_simp)
    | (refine aO 48 _ rfl rfl (w.heap.size+1) 0 rfl [.int .i64 kb,.int .i64 nb] _ RV.out Tryz.underlying48 rfl aF ?_;go_simp)
    | go_big_quiet_step ((go_at_call 169;first | exact Calls.up (HTA.out _) | exact Calls.up (HTB.out _))))
   refine wpQuiet_nil ?_
   first | (rintro _ ⟨E,rfl⟩) | (intro E) | (rename_i E)
   obtain⟨w5,k5⟩:=E
   dsimp only
   have K5:=btZ K0 k5
   have B05:=rkZ B0 k5
   have R05:=rrZ B05
   have B15:=rkZ B1 k5
   have R15:=rrZ B15
   have B25:=rkZ B2 k5
   have R25:=rrZ B25
   clear k5 RU RV
   refine wpList_store_row rfl 48 _ _ rfl (w.heap.size) #[.int .i64 pk,.int .i64 pn] rfl rfl 48 _ B05.out aF rfl (all_oneCell_toArray (by simp[Value.oneCell'])) ?_
   generalize ha:World.setRow _ _ _=wa
   have Ka:Hid (Below w.heap.size w wa):=by rw[←ha];exact Below.set_row K5.out (by omega) _
   have B0a:=shZ ha B05
   have R0a:=rrZ B0a
   have B1a:=soZ ha B15 (by omega)
   have R1a:=rrZ B1a
   have B2a:=soZ ha B25 (by omega)
   have R2a:=rrZ B2a
   clear ha
   refine wpList_store_row rfl 48 _ _ rfl (w.heap.size+1) #[.int .i64 qk,.int .i64 qn] rfl rfl 48 _ B1a.out aF rfl (all_oneCell_toArray (by simp[Value.oneCell'])) ?_
   generalize h6:World.setRow _ _ _=w6
   have K6:Hid (Below w.heap.size w w6):=by rw[←h6];exact Below.set_row Ka.out (by omega) _
   have B06:=soZ h6 B0a (by omega)
   have R06:=rrZ B06
   have B16:=shZ h6 B1a
   have R16:=rrZ B16
   have B26:=soZ h6 B2a (by omega)
   have R26:=rrZ B26
   clear h6
   dsimp only [Act.put]
   have x0:=crZ B06 0 rfl
   have x1:=crZ B06 1 rfl
   have y0:=crZ B16 0 rfl
   have y1:=crZ B16 1 rfl
   go_wp2_with (first | (refine wpList_load_mid rfl 48 _ rfl (w.heap.size) 0 rfl [.int .i64 pk,.int .i64 pn] _ R06.out Tryz.underlying48 rfl aF ?_) | (refine wpList_load_mid rfl 48 _ rfl (w.heap.size+1) 0 rfl [.int .i64 qk,.int .i64 qn] _ R16.out Tryz.underlying48 rfl aF ?_) | fail)
   refine(HRC.out _).mono ?_
   rintro e w7 ⟨rfl,k7⟩
   have K7:=btZ K6 k7
   have B07:=rkZ B06 k7
   have R07:=rrZ B07
   have B17:=rkZ B16 k7
   have R17:=rrZ B17
   have B27:=rkZ B26 k7
   have R27:=rrZ B27
   clear k7
   go_wp2_with (first | (refine wpList_store_row rfl 48 _ _ rfl (w.heap.size+1+1) #[.int .i64 rk,.int .i64 rn] rfl rfl 48 _ B27.out aF rfl (all_oneCell_toArray (by simp[Value.oneCell'])) ?_))
   generalize hw9:World.setRow _ _ _=w9
   have QR:=shZ hw9 B27
   have K9:Hid (Below w.heap.size w w9):=by rw[←hw9];exact Below.set_row K7.out (by omega) _
   clear hw9
   go_wp2_with fail
   have q0:=crZ QR 0 rfl
   have q1:=crZ QR 1 rfl
   refine bodyPost_ret (v:=(.tuple #[.agg #[.int .i64 rk,.int .i64 rn],.int .i64 (-1)])) (by simp[results,Tryz.results144,go_sem,q0,q1]) rfl ⟨rfl,K9.out⟩
 rw[if_neg c8]
 have n8:(op == 8)=false:=beq_eq_false_iff_ne.2 c8
 clear c8
 by_cases p2:pk=2
 ·subst p2
  clear np3
  by_cases q2:qk=2
  ·subst q2
   rw[if_pos ⟨rfl,rfl⟩]
   have RC:=abY op pn qn
   obtain⟨r,hr⟩:∃r,gR op pn qn=r:=⟨_,rfl⟩
   rw[hr] at RC ⊢
   clear hr
   obtain⟨⟨rk,rn⟩,th⟩:=r
   have HRC:=hI RC
   clear RC
   unfold bB at HRC ⊢
   dsimp only at HRC ⊢
   obtain⟨w0,hw0⟩:∃w0,w0=((w.alloc (.cells #[.int .i64 ka,.int .i64 na] 48)).alloc (.cells #[.int .i64 kb,.int .i64 nb] 48)).alloc (.cells #[.int .i64 0,.int .i64 0] 48):=⟨_,rfl⟩
   have K0:Hid (Below w.heap.size w w0):=by rw[hw0];exact(bE w _ _).alloc (by simp;omega) _
   have B0:Hid (w0.heap[w.heap.size]? = some (.cells #[.int .i64 ka,.int .i64 na] 48 (0,0))):=by rw[hw0];exact aY (aY (aJ w _) _) _
   have B1:Hid (w0.heap[w.heap.size+1]? = some (.cells #[.int .i64 kb,.int .i64 nb] 48 (0,0))):=by rw[hw0];exact aY (cQ _ _ _) _
   have B2:Hid (w0.heap[w.heap.size+1+1]? = some (.cells #[.int .i64 0,.int .i64 0] 48 (0,0))):=by rw[hw0];exact eD _ _ _ _
   have hz:w.heap.size+1+1<w0.heap.size:=(aE B2.out).1
   have R0:=rrZ B0
   have R1:=rrZ B1
   have R2:=rrZ B2
   have HW:=hI hw0
   clear hw0
   go_enter Tryz.func144,Tryz.ntmps144
   go_upto_region 1 with fail
   rw[←HW.out]
   have RU:Hid (∀E:Up w0,E.to.rangeAt w.heap.size 0 [.int .i64 ka,.int .i64 na]):=fun E a u hu=>E.cell (R0.out a u hu)
   have RV:Hid (∀E:Up w0,E.to.rangeAt (w.heap.size+1) 0 [.int .i64 kb,.int .i64 nb]):=fun E a u hu=>E.cell (R1.out a u hu)
   refine aL 4 (by kernel_rfl) (by kernel_rfl) ?_
   simp only[List.take_succ_cons,List.take_zero,List.drop_succ_cons,List.drop_zero]
   repeat (first
    | (refine aO 48 _ rfl rfl w.heap.size 0 rfl [.int .i64 ka,.int .i64 na] _ RU.out Tryz.underlying48 rfl aF ?_;go_simp)
    | (refine aO 48 _ rfl rfl (w.heap.size+1) 0 rfl [.int .i64 kb,.int .i64 nb] _ RV.out Tryz.underlying48 rfl aF ?_;go_simp)
    | go_big_quiet_step ((go_at_call 169;first | exact Calls.up (HTA.out _) | exact Calls.up (HTB.out _))))
   refine wpQuiet_nil ?_
   first | (rintro _ ⟨E,rfl⟩) | (intro E) | (rename_i E)
   obtain⟨w5,k5⟩:=E
   dsimp only
   have K5:=btZ K0 k5
   have B05:=rkZ B0 k5
   have R05:=rrZ B05
   have B15:=rkZ B1 k5
   have R15:=rrZ B15
   have B25:=rkZ B2 k5
   have R25:=rrZ B25
   clear k5 RU RV
   refine wpList_store_row rfl 48 _ _ rfl (w.heap.size) #[.int .i64 2,.int .i64 pn] rfl rfl 48 _ B05.out aF rfl (all_oneCell_toArray (by simp[Value.oneCell'])) ?_
   generalize ha:World.setRow _ _ _=wa
   have Ka:Hid (Below w.heap.size w wa):=by rw[←ha];exact Below.set_row K5.out (by omega) _
   have B0a:=shZ ha B05
   have R0a:=rrZ B0a
   have B1a:=soZ ha B15 (by omega)
   have R1a:=rrZ B1a
   have B2a:=soZ ha B25 (by omega)
   have R2a:=rrZ B2a
   clear ha
   refine wpList_store_row rfl 48 _ _ rfl (w.heap.size+1) #[.int .i64 2,.int .i64 qn] rfl rfl 48 _ B1a.out aF rfl (all_oneCell_toArray (by simp[Value.oneCell'])) ?_
   generalize h6:World.setRow _ _ _=w6
   have K6:Hid (Below w.heap.size w w6):=by rw[←h6];exact Below.set_row Ka.out (by omega) _
   have B06:=soZ h6 B0a (by omega)
   have R06:=rrZ B06
   have B16:=shZ h6 B1a
   have R16:=rrZ B16
   have B26:=soZ h6 B2a (by omega)
   have R26:=rrZ B26
   clear h6
   dsimp only [Act.put]
   have x0:=crZ B06 0 rfl
   have x1:=crZ B06 1 rfl
   have y0:=crZ B16 0 rfl
   have y1:=crZ B16 1 rfl
   go_wp2_with (first | fail)
   refine(HRC.out _).mono ?_
   rintro e w7 ⟨rfl,k7⟩
   have K7:=btZ K6 k7
   have B07:=rkZ B06 k7
   have R07:=rrZ B07
   have B17:=rkZ B16 k7
   have R17:=rrZ B17
   have B27:=rkZ B26 k7
   have R27:=rrZ B27
   clear k7
   go_wp2_with (first | (refine wpList_store_row rfl 48 _ _ rfl (w.heap.size+1+1) #[.int .i64 rk,.int .i64 rn] rfl rfl 48 _ B27.out aF rfl (all_oneCell_toArray (by simp[Value.oneCell'])) ?_))
   generalize hw9:World.setRow _ _ _=w9
   have QR:=shZ hw9 B27
   have K9:Hid (Below w.heap.size w w9):=by rw[←hw9];exact Below.set_row K7.out (by omega) _
   clear hw9
   go_wp2_with fail
   have q0:=crZ QR 0 rfl
   have q1:=crZ QR 1 rfl
   refine bodyPost_ret (v:=(.tuple #[.agg #[.int .i64 rk,.int .i64 rn],.int .i64 th])) (by simp[results,Tryz.results144,go_sem,q0,q1]) rfl ⟨rfl,K9.out⟩
  rw[if_neg (fun h=>q2 h.2)]
  have nq2:(qk == 2)=false:=beq_eq_false_iff_ne.2 q2
  clear q2
  have HRC:=hI (iN 0)
  unfold bB at HRC ⊢
  dsimp only at HRC ⊢
  obtain⟨w0,hw0⟩:∃w0,w0=((w.alloc (.cells #[.int .i64 ka,.int .i64 na] 48)).alloc (.cells #[.int .i64 kb,.int .i64 nb] 48)).alloc (.cells #[.int .i64 0,.int .i64 0] 48):=⟨_,rfl⟩
  have K0:Hid (Below w.heap.size w w0):=by rw[hw0];exact(bE w _ _).alloc (by simp;omega) _
  have B0:Hid (w0.heap[w.heap.size]? = some (.cells #[.int .i64 ka,.int .i64 na] 48 (0,0))):=by rw[hw0];exact aY (aY (aJ w _) _) _
  have B1:Hid (w0.heap[w.heap.size+1]? = some (.cells #[.int .i64 kb,.int .i64 nb] 48 (0,0))):=by rw[hw0];exact aY (cQ _ _ _) _
  have B2:Hid (w0.heap[w.heap.size+1+1]? = some (.cells #[.int .i64 0,.int .i64 0] 48 (0,0))):=by rw[hw0];exact eD _ _ _ _
  have hz:w.heap.size+1+1<w0.heap.size:=(aE B2.out).1
  have R0:=rrZ B0
  have R1:=rrZ B1
  have R2:=rrZ B2
  have HW:=hI hw0
  clear hw0
  go_enter Tryz.func144,Tryz.ntmps144
  go_upto_region 1 with fail
  rw[←HW.out]
  have RU:Hid (∀E:Up w0,E.to.rangeAt w.heap.size 0 [.int .i64 ka,.int .i64 na]):=fun E a u hu=>E.cell (R0.out a u hu)
  have RV:Hid (∀E:Up w0,E.to.rangeAt (w.heap.size+1) 0 [.int .i64 kb,.int .i64 nb]):=fun E a u hu=>E.cell (R1.out a u hu)
  refine aL 4 (by kernel_rfl) (by kernel_rfl) ?_
  simp only[List.take_succ_cons,List.take_zero,List.drop_succ_cons,List.drop_zero]
  repeat (first
   | (refine aO 48 _ rfl rfl w.heap.size 0 rfl [.int .i64 ka,.int .i64 na] _ RU.out Tryz.underlying48 rfl aF ?_;go_simp)
   | (refine aO 48 _ rfl rfl (w.heap.size+1) 0 rfl [.int .i64 kb,.int .i64 nb] _ RV.out Tryz.underlying48 rfl aF ?_;go_simp)
   | go_big_quiet_step ((go_at_call 169;first | exact Calls.up (HTA.out _) | exact Calls.up (HTB.out _))))
  refine wpQuiet_nil ?_
  first | (rintro _ ⟨E,rfl⟩) | (intro E) | (rename_i E)
  obtain⟨w5,k5⟩:=E
  dsimp only
  have K5:=btZ K0 k5
  have B05:=rkZ B0 k5
  have R05:=rrZ B05
  have B15:=rkZ B1 k5
  have R15:=rrZ B15
  have B25:=rkZ B2 k5
  have R25:=rrZ B25
  clear k5 RU RV
  refine wpList_store_row rfl 48 _ _ rfl (w.heap.size) #[.int .i64 2,.int .i64 pn] rfl rfl 48 _ B05.out aF rfl (all_oneCell_toArray (by simp[Value.oneCell'])) ?_
  generalize ha:World.setRow _ _ _=wa
  have Ka:Hid (Below w.heap.size w wa):=by rw[←ha];exact Below.set_row K5.out (by omega) _
  have B0a:=shZ ha B05
  have R0a:=rrZ B0a
  have B1a:=soZ ha B15 (by omega)
  have R1a:=rrZ B1a
  have B2a:=soZ ha B25 (by omega)
  have R2a:=rrZ B2a
  clear ha
  refine wpList_store_row rfl 48 _ _ rfl (w.heap.size+1) #[.int .i64 qk,.int .i64 qn] rfl rfl 48 _ B1a.out aF rfl (all_oneCell_toArray (by simp[Value.oneCell'])) ?_
  generalize h6:World.setRow _ _ _=w6
  have K6:Hid (Below w.heap.size w w6):=by rw[←h6];exact Below.set_row Ka.out (by omega) _
  have B06:=soZ h6 B0a (by omega)
  have R06:=rrZ B06
  have B16:=shZ h6 B1a
  have R16:=rrZ B16
  have B26:=soZ h6 B2a (by omega)
  have R26:=rrZ B26
  clear h6
  dsimp only [Act.put]
  have x0:=crZ B06 0 rfl
  have x1:=crZ B06 1 rfl
  have y0:=crZ B16 0 rfl
  have y1:=crZ B16 1 rfl
  go_wp2_with (first | fail)
  refine(HRC.out _).mono ?_
  rintro e w7 ⟨rfl,k7⟩
  have K7:=btZ K6 k7
  have B07:=rkZ B06 k7
  have R07:=rrZ B07
  have B17:=rkZ B16 k7
  have R17:=rrZ B17
  have B27:=rkZ B26 k7
  have R27:=rrZ B27
  clear k7
  go_wp2_with (first | (refine wpList_store_row rfl 48 _ _ rfl (w.heap.size+1+1) #[.int .i64 0,.int .i64 0] rfl rfl 48 _ B27.out aF rfl (all_oneCell_toArray (by simp[Value.oneCell'])) ?_))
  generalize hw9:World.setRow _ _ _=w9
  have QR:=shZ hw9 B27
  have K9:Hid (Below w.heap.size w w9):=by rw[←hw9];exact Below.set_row K7.out (by omega) _
  clear hw9
  go_wp2_with fail
  have q0:=crZ QR 0 rfl
  have q1:=crZ QR 1 rfl
  refine bodyPost_ret (v:=(.tuple #[.agg #[.int .i64 0,.int .i64 0],.int .i64 0])) (by simp[results,Tryz.results144,go_sem,q0,q1]) rfl ⟨rfl,K9.out⟩
 rw[if_neg (fun h=>p2 h.1)]
 have np2:(pk == 2)=false:=beq_eq_false_iff_ne.2 p2
 clear p2
 have HRC:=hI (iN 0)
 unfold bB at HRC ⊢
 dsimp only at HRC ⊢
 obtain⟨w0,hw0⟩:∃w0,w0=((w.alloc (.cells #[.int .i64 ka,.int .i64 na] 48)).alloc (.cells #[.int .i64 kb,.int .i64 nb] 48)).alloc (.cells #[.int .i64 0,.int .i64 0] 48):=⟨_,rfl⟩
 have K0:Hid (Below w.heap.size w w0):=by rw[hw0];exact(bE w _ _).alloc (by simp;omega) _
 have B0:Hid (w0.heap[w.heap.size]? = some (.cells #[.int .i64 ka,.int .i64 na] 48 (0,0))):=by rw[hw0];exact aY (aY (aJ w _) _) _
 have B1:Hid (w0.heap[w.heap.size+1]? = some (.cells #[.int .i64 kb,.int .i64 nb] 48 (0,0))):=by rw[hw0];exact aY (cQ _ _ _) _
 have B2:Hid (w0.heap[w.heap.size+1+1]? = some (.cells #[.int .i64 0,.int .i64 0] 48 (0,0))):=by rw[hw0];exact eD _ _ _ _
 have hz:w.heap.size+1+1<w0.heap.size:=(aE B2.out).1
 have R0:=rrZ B0
 have R1:=rrZ B1
 have R2:=rrZ B2
 have HW:=hI hw0
 clear hw0
 go_enter Tryz.func144,Tryz.ntmps144
 go_upto_region 1 with fail
 rw[←HW.out]
 have RU:Hid (∀E:Up w0,E.to.rangeAt w.heap.size 0 [.int .i64 ka,.int .i64 na]):=fun E a u hu=>E.cell (R0.out a u hu)
 have RV:Hid (∀E:Up w0,E.to.rangeAt (w.heap.size+1) 0 [.int .i64 kb,.int .i64 nb]):=fun E a u hu=>E.cell (R1.out a u hu)
 refine aL 4 (by kernel_rfl) (by kernel_rfl) ?_
 simp only[List.take_succ_cons,List.take_zero,List.drop_succ_cons,List.drop_zero]
 repeat (first
  | (refine aO 48 _ rfl rfl w.heap.size 0 rfl [.int .i64 ka,.int .i64 na] _ RU.out Tryz.underlying48 rfl aF ?_;go_simp)
  | (refine aO 48 _ rfl rfl (w.heap.size+1) 0 rfl [.int .i64 kb,.int .i64 nb] _ RV.out Tryz.underlying48 rfl aF ?_;go_simp)
  | go_big_quiet_step ((go_at_call 169;first | exact Calls.up (HTA.out _) | exact Calls.up (HTB.out _))))
 refine wpQuiet_nil ?_
 first | (rintro _ ⟨E,rfl⟩) | (intro E) | (rename_i E)
 obtain⟨w5,k5⟩:=E
 dsimp only
 have K5:=btZ K0 k5
 have B05:=rkZ B0 k5
 have R05:=rrZ B05
 have B15:=rkZ B1 k5
 have R15:=rrZ B15
 have B25:=rkZ B2 k5
 have R25:=rrZ B25
 clear k5 RU RV
 refine wpList_store_row rfl 48 _ _ rfl (w.heap.size) #[.int .i64 pk,.int .i64 pn] rfl rfl 48 _ B05.out aF rfl (all_oneCell_toArray (by simp[Value.oneCell'])) ?_
 generalize ha:World.setRow _ _ _=wa
 have Ka:Hid (Below w.heap.size w wa):=by rw[←ha];exact Below.set_row K5.out (by omega) _
 have B0a:=shZ ha B05
 have R0a:=rrZ B0a
 have B1a:=soZ ha B15 (by omega)
 have R1a:=rrZ B1a
 have B2a:=soZ ha B25 (by omega)
 have R2a:=rrZ B2a
 clear ha
 refine wpList_store_row rfl 48 _ _ rfl (w.heap.size+1) #[.int .i64 qk,.int .i64 qn] rfl rfl 48 _ B1a.out aF rfl (all_oneCell_toArray (by simp[Value.oneCell'])) ?_
 generalize h6:World.setRow _ _ _=w6
 have K6:Hid (Below w.heap.size w w6):=by rw[←h6];exact Below.set_row Ka.out (by omega) _
 have B06:=soZ h6 B0a (by omega)
 have R06:=rrZ B06
 have B16:=shZ h6 B1a
 have R16:=rrZ B16
 have B26:=soZ h6 B2a (by omega)
 have R26:=rrZ B26
 clear h6
 dsimp only [Act.put]
 have x0:=crZ B06 0 rfl
 have x1:=crZ B06 1 rfl
 have y0:=crZ B16 0 rfl
 have y1:=crZ B16 1 rfl
 go_wp2_with (first | fail)
 refine(HRC.out _).mono ?_
 rintro e w7 ⟨rfl,k7⟩
 have K7:=btZ K6 k7
 have B07:=rkZ B06 k7
 have R07:=rrZ B07
 have B17:=rkZ B16 k7
 have R17:=rrZ B17
 have B27:=rkZ B26 k7
 have R27:=rrZ B27
 clear k7
 go_wp2_with (first | (refine wpList_store_row rfl 48 _ _ rfl (w.heap.size+1+1) #[.int .i64 0,.int .i64 0] rfl rfl 48 _ B27.out aF rfl (all_oneCell_toArray (by simp[Value.oneCell'])) ?_))
 generalize hw9:World.setRow _ _ _=w9
 have QR:=shZ hw9 B27
 have K9:Hid (Below w.heap.size w w9):=by rw[←hw9];exact Below.set_row K7.out (by omega) _
 clear hw9
 go_wp2_with fail
 have q0:=crZ QR 0 rfl
 have q1:=crZ QR 1 rfl
 refine bodyPost_ret (v:=(.tuple #[.agg #[.int .i64 0,.int .i64 0],.int .i64 0])) (by simp[results,Tryz.results144,go_sem,q0,q1]) rfl ⟨rfl,K9.out⟩
end
end Go.Proofs.YtjaphgpkkfdaaaaGreatDoor
