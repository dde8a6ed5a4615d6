/- Part of the walk of the given code: contracts of the functions that irun.Run reaches, and plain laws on what it reckons. -/
import Derived.Test.YtjaphgpkkfdaaaaGreatDoorZT
import Derived.Test.YtjaphgpkkfdaaaaGreatDoorZM
import Derived.Test.YtjaphgpkkfdaaaaGreatDoorZI
import Derived.Laws.FloatArith
set_option maxHeartbeats 16000000
set_option maxRecDepth 100000
set_option linter.all false
namespace Go.Proofs.YtjaphgpkkfdaaaaGreatDoor
section
open Go.RowKit
def nZ (cv:Value) (W:aI) (i:Int):Option Addr:=(eF W i).bind fun p=>cv.ownBlock.map fun g=>⟨g,p.1*4,none⟩
theorem fR {W:aI} {i:Nat} {x:Val} (h:W.vals[i]? = some x):cX W i=x:=by
 unfold cX;rw[Int.toNat_natCast,h];rfl
theorem nY {Γ : kI} {w:World} {W:aI} {cv vv:Value} {vs fs:List Value} (K:hP Γ) (L:bO Γ w W cv vv vs fs) {i:Nat} {x:Val} (hx:W.vals[i]? = some x) (hl:W.cells.length≤300) :
  Calls Tryz.prog 149 #[.pointer (some ⟨Γ.wb,0,none⟩),.int .i64 (i:Int)] w fun e w'=>e=.returned (.pointer (nZ cv W i))∧Below w.heap.size w w':=by
 have hil:i<W.vals.length:=(lE hx).1
 obtain⟨g,cap,rfl,-,-⟩:=L.vals.form (by omega)
 have s17:w.cell? ⟨Γ.wb,17,none⟩=some (.slice (some ⟨g,0,none⟩) W.vals.length cap):=L.own K 4
 have s13:w.cell? ⟨Γ.wb,13,none⟩=some cv:=L.own K 0
 have hi2:i*2+2≤W.vals.length*2:=by omega
 have g0:w.cell? ⟨g,i*2,none⟩=some (.int .i64 x.kind):=by rw[L.vals.cellAt (i*2) (by omega)];exact bS hx (k:=0) (by decide)
 have g1:w.cell? ⟨g,i*2+1,none⟩=some (.int .i64 x.n):=by rw[L.vals.cellAt (i*2+1) (by omega)];exact bS hx (k:=1) (by decide)
 obtain⟨CA,cc,rfl⟩:=bV L.crow
 have hgl:=(L.vals.lt g rfl).2
 have hwl:=aV L.row
 have hji:(i:Int)<W.vals.length:=by omega
 obtain⟨w1,hw1⟩:∃w1,w1=w.alloc (.cells #[.int .i64 x.kind,.int .i64 x.n] 48):=⟨_,rfl⟩
 have K1:Hid (Below w.heap.size w w1):=by rw[hw1];exact aB _ _
 have HB1:Hid (aA w1 w.heap.size [.int .i64 x.kind,.int .i64 x.n]):=by rw[hw1];exact ad5 _ _ _
 have HW1:=hI hw1
 clear hw1
 unfold nZ eF
 rw[fR hx]
 obtain⟨r,hr⟩:∃r:Option Addr,((if x.kind=5∧0≤x.n then(W.cells[x.n.toNat]?).map (fun c=>(x.n.toNat,c)) else none).bind fun p=>(Value.slice CA W.cells.length cc).ownBlock.map fun g=>⟨g,p.1*4,none⟩)=r:=⟨_,rfl⟩
 rw[hr]
 have HR:=hI hr
 clear hr
 have HL:=hI L
 have HK:=hI K
 clear L K
 have a0:=ecZ (HB1.out 0 _ rfl)
 have a1:=ecZ (HB1.out 1 _ rfl)
 have a2:∀E:Up w1,E.to.cell? ⟨Γ.wb,13,none⟩=some (.slice CA W.cells.length cc):=fun E=>E.cell (aC K1.out s13)
 go_enter Tryz.func149,Tryz.ntmps149
 go_upto_region 2 with fail
 rw[←HW1.out]
 clear g0 g1
 refine aD (by kernel_rfl) (by kernel_rfl) ?_
 repeat (go_big_quiet_step (fail))
 obtain⟨b1,hb1⟩:∃b:Bool,(x.kind == 5)=b:=⟨_,rfl⟩
 rw[hb1]
 cases b1
 case false=>
  have HN:Hid (none=r):=by
   show _=_
   rw[←HR.out,if_neg (fun h=>by rw[h.1] at hb1;cases hb1)]
   rfl
  repeat (go_big_quiet_step (fail))
  refine wpQuiet_nil ?_
  rintro _ ⟨E,rfl⟩
  have KE:=btZ K1 E.below
  clear a0 a1 a2
  go_wp2_with fail
  go_ret
  exact⟨by rw[←HN.out];rfl,KE.out⟩
 have hk:x.kind=5:=by simpa using hb1
 repeat (go_big_quiet_step (fail))
 obtain⟨b2,hb2⟩:∃b:Bool,(decide (0≤x.n))=b:=⟨_,rfl⟩
 rw[hb2]
 cases b2
 case false=>
  have HN:Hid (none=r):=by
   show _=_
   rw[←HR.out,if_neg (fun h=>by rw[decide_eq_true h.2] at hb2;cases hb2)]
   rfl
  repeat (go_big_quiet_step (fail))
  refine wpQuiet_nil ?_
  rintro _ ⟨E,rfl⟩
  have KE:=btZ K1 E.below
  clear a0 a1 a2
  go_wp2_with fail
  go_ret
  exact⟨by rw[←HN.out];rfl,KE.out⟩
 have hn:0≤x.n:=of_decide_eq_true hb2
 obtain⟨n,hnn⟩:∃n:Nat,x.n=(n:Int):=⟨x.n.toNat,by omega⟩
 rw[hnn] at a1
 repeat (go_big_quiet_step (fail))
 obtain⟨b3,hb3⟩:∃b:Bool,(decide (n<W.cells.length))=b:=⟨_,rfl⟩
 rw[hb3]
 cases b3
 case false=>
  have HN:Hid (none=r):=by
   show _=_
   rw[←HR.out,if_pos ⟨hk,hn⟩,hnn,Int.toNat_natCast,List.getElem?_eq_none (Nat.le_of_not_lt (of_decide_eq_false hb3))]
   rfl
  repeat (go_big_quiet_step (fail))
  refine wpQuiet_nil ?_
  rintro _ ⟨E,rfl⟩
  have KE:=btZ K1 E.below
  clear a0 a1 a2
  go_wp2_with fail
  go_ret
  exact⟨by rw[←HN.out];rfl,KE.out⟩
 have hnl:n<W.cells.length:=of_decide_eq_true hb3
 obtain⟨gc,capc,hCA,-,hgc⟩:=HL.out.crow.form (by omega)
 injection hCA with e1 e2 e3
 subst e1
 have HY:Hid (some (⟨gc,n*4,none⟩:Addr)=r):=by
  show _=_
  rw[←HR.out,if_pos ⟨hk,hn⟩,hnn,Int.toNat_natCast,lG hnl]
  rfl
 have hnc:(n:Int)<W.cells.length:=by omega
 repeat (go_big_quiet_step (fail))
 refine wpQuiet_nil ?_
 rintro _ ⟨E,rfl⟩
 obtain⟨w2,k2⟩:=E
 dsimp only
 have K2:=btZ K1 k2
 have b1':∀E:Up w2,E.to.cell? ⟨w.heap.size,1,none⟩=some (.int .i64 n):=fun E=>E.cell (aC k2 (by rw[←hnn];exact HB1.out 1 _ rfl))
 have b2':∀E:Up w2,E.to.cell? ⟨Γ.wb,13,none⟩=some (.slice (some ⟨gc,0,none⟩) W.cells.length cc):=fun E=>E.cell (aC K2.out s13)
 clear a0 a1 a2 k2 hn hk hnn hb1 hb2 hb3
 go_upto_region 3 with fail
 refine aD (by kernel_rfl) (by kernel_rfl) ?_
 repeat (go_big_quiet_step (fail))
 refine wpQuiet_nil ?_
 rintro _ ⟨E,rfl⟩
 have KE:=btZ K2 E.below
 clear b1' b2'
 go_wp2_with fail
 go_ret
 exact⟨by rw[←HY.out];rfl,KE.out⟩
end
section
open Go.RowKit Go.IntWalk
def kZ:Int:=9221120237041090561
theorem aaU (x y t:Nat):(FloatKind.f64.format.order ((Question.nanBits .f64 x y).cut t) ((Question.nanBits .f64 x y).cut t) == some .eq)=false:=by
 have h:∃s f,FloatKind.f64.format.read ((Question.nanBits .f64 x y).cut t)=.nan s f:=by
  unfold Ieee.Format.read
  dsimp only
  have e1:FloatKind.f64.format.signWeight=2 ^ 63:=by kernel_rfl
  have e2:FloatKind.f64.format.infRung=0x7ff0000000000000:=by kernel_rfl
  have e3:FloatKind.f64.format.binade=2 ^ 52:=by kernel_rfl
  have e4:(Question.nanBits .f64 x y).cut t=(t % 2)*2 ^ 63+0x7ff0000000000000+1+(t / 2) % (2 ^ 52 - 1):=rfl
  rw[e1,e2,e3,e4]
  have hs:t % 2=0∨t % 2=1:=by omega
  have hu:(t / 2) % (2 ^ 52 - 1)<2 ^ 52 - 1:=Nat.mod_lt _ (by decide)
  generalize (t / 2) % (2 ^ 52 - 1)=u at hu
  rcases hs with e | e <;> rw[e,if_neg (by omega),if_neg (by omega),if_neg (by omega)] <;> exact⟨_,_,rfl⟩
 obtain⟨s,f,h⟩:=h
 unfold Ieee.Format.order
 rw[h]
 rfl
theorem iL {P:Program} (op:BinOp) (t:TypeId) (x y:Nat) (hop:op=.add∨op=.sub∨op=.mul∨op=.quo) (w:World) :
  (∃r,floatBits op .f64 x y=some r∧(binOp op t (.float .f64 x) (.float .f64 y)).run P w=.ok (.float .f64 r) w)∨
  (floatBits op .f64 x y=none∧∃b,(FloatKind.f64.format.order b b == some .eq)=false∧(binOp op t (.float .f64 x) (.float .f64 y)).run P w=.ok (.float .f64 b) w.drew):=by
 cases h:floatBits op .f64 x y with
 | some r=>exact .inl ⟨r,rfl,run_float_arith w op t .f64 x y r h⟩
 | none=>
  refine .inr ⟨rfl,(Question.nanBits .f64 x y).cut (w.tape w.drawn (Question.nanBits .f64 x y)),aaU x y _,?_⟩
  unfold floatBits at h
  rcases hop with rfl | rfl | rfl | rfl <;> simp only at h <;> simp[binOp,Op.floatArith,h] <;> (intro hf;cases hf)
def ofM (b:Nat):Val:=if FloatKind.f64.format.order b b == some .eq then⟨3,wrap64 b⟩ else⟨3,kZ⟩
def cP (b:Bool):Val:=if b then⟨1,1⟩ else⟨1,0⟩
def dD (v:Val):Val:=if aG v then v else⟨0,0⟩
def lF (v:Val):Bool:=(dD v).kind != 0 && !((dD v).kind == 1 && (dD v).n == 0)
def dS (n:Int):Val×Int:=if aK n (-2147483648) 2147483647 then(⟨2,n⟩,-1) else(⟨0,0⟩,1)
def eA (op:Int) (lt le:Bool):Val×Int:=if op=9 then(cP lt,-1) else if op=10 then(cP le,-1) else(⟨0,0⟩,0)
def gR (op a b:Int):Val×Int:=
 if op=3 then dS (wrap64 (a+b)) else if op=4 then dS (wrap64 (a - b)) else if op=5 then dS (wrap64 (a*b))
 else if op=6∨op=7 then(if b=0 then(⟨0,0⟩,2) else if op=6 then dS (wrap64 (a.tdiv b)) else dS (a.tmod b))
 else eA op (decide (a<b)) (decide (a≤b))
def ofB (op:BinOp) (x y:Nat):Val:=match floatBits op .f64 x y with | some r=>ofM r | none=>⟨3,kZ⟩
def ltF (x y:Nat):Bool:=FloatKind.f64.format.order x y == some .lt
def eqF (x y:Nat):Bool:=FloatKind.f64.format.order x y == some .eq
def lI (op:Int) (x y:Nat):Val×Int:=
 if op=3 then(ofB .add x y,-1) else if op=4 then(ofB .sub x y,-1) else if op=5 then(ofB .mul x y,-1) else if op=6 then(ofB .quo x y,-1)
 else if op=8 then(cP (eqF x y),-1) else eA op (ltF x y) (ltF x y || eqF x y)
def o4 (op:Int) (v:Val):Val×Int:=
 if op=11 then(cP (!lF (dD v)),-1)
 else if op=12∧(dD v).kind=2 then dS (wrap64 (-(dD v).n))
 else if op=12∧(dD v).kind=3 then(ofM (Op.negFloat .f64 (nI (dD v).n)),-1)
 else(⟨0,0⟩,0)
def mU (op:Int) (u v:Val):Val×Int:=
 if(dD u).kind=3∧(dD v).kind=3 then lI op (nI (dD u).n) (nI (dD v).n)
 else if op=8 then(cP ((dD u).kind == (dD v).kind && (dD u).n == (dD v).n),-1)
 else if(dD u).kind=2∧(dD v).kind=2 then gR op (dD u).n (dD v).n
 else(⟨0,0⟩,0)
def bB (r:Val×Int) (w:World):Ending→World→Prop:=aM (.tuple #[.agg #[.int .i64 r.1.kind,.int .i64 r.1.n],.int .i64 r.2]) w
theorem aF:(Tryz.prog.info? 48).map (·.size)=some 2:=by kernel_rfl
theorem fO (b:Bool) (w:World):Calls Tryz.prog 171 #[.bool b] w (aM (.agg #[.int .i64 (cP b).kind,.int .i64 (cP b).n]) w):=by
 unfold cP
 cases b
 ·simp only[↓reduceIte,Bool.false_eq_true]
  obtain⟨w0,hw0⟩:∃w0,w0=w.alloc (.cells #[.int .i64 0,.int .i64 0] 48):=⟨_,rfl⟩
  have K0:Hid (Below w.heap.size w w0):=by rw[hw0];exact aB _ _
  have Z0:Hid (w0.heap[w.heap.size]? = some (.cells #[.int .i64 0,.int .i64 0] 48 (0,0))):=by rw[hw0];exact aJ _ _
  have hz0:w.heap.size<w0.heap.size:=(aE Z0.out).1
  have HW:=hI hw0
  clear hw0
  go_enter Tryz.func171,Tryz.ntmps171
  go_upto_region 1 with fail
  rw[←HW.out]
  have K5:Hid (Below w0.heap.size w0 w0):=Below.refl _ _
  have ZX:=hI ((K5.out.block _ hz0).trans Z0.out)
  have KX:=btZ K0 K5.out
  go_wp2_with (refine wpList_store_row rfl 48 _ _ rfl (w.heap.size) #[.int .i64 1,.int .i64 0] rfl rfl 48 _ ZX.out aF rfl (all_oneCell_toArray (by simp[Value.oneCell'])) ?_)
  generalize hw9:World.setRow _ _ _=w9
  have QR:=shZ hw9 ZX
  have K9:Hid (Below w.heap.size w w9):=by rw[←hw9];exact Below.set_row KX.out (by omega) _
  clear hw9
  go_wp2_with fail
  have q0:=crZ QR 0 rfl
  have q1:=crZ QR 1 rfl
  refine bodyPost_ret (v:=(.agg #[.int .i64 1,.int .i64 0])) (by simp[results,Tryz.results171,go_sem,q0,q1]) rfl ⟨rfl,K9.out⟩
 ·simp only[↓reduceIte,Bool.false_eq_true]
  obtain⟨w0,hw0⟩:∃w0,w0=w.alloc (.cells #[.int .i64 0,.int .i64 0] 48):=⟨_,rfl⟩
  have K0:Hid (Below w.heap.size w w0):=by rw[hw0];exact aB _ _
  have Z0:Hid (w0.heap[w.heap.size]? = some (.cells #[.int .i64 0,.int .i64 0] 48 (0,0))):=by rw[hw0];exact aJ _ _
  have hz0:w.heap.size<w0.heap.size:=(aE Z0.out).1
  have HW:=hI hw0
  clear hw0
  go_enter Tryz.func171,Tryz.ntmps171
  go_upto_region 1 with fail
  rw[←HW.out]
  have K5:Hid (Below w0.heap.size w0 w0):=Below.refl _ _
  have ZX:=hI ((K5.out.block _ hz0).trans Z0.out)
  have KX:=btZ K0 K5.out
  go_wp2_with (refine wpList_store_row rfl 48 _ _ rfl (w.heap.size) #[.int .i64 1,.int .i64 1] rfl rfl 48 _ ZX.out aF rfl (all_oneCell_toArray (by simp[Value.oneCell'])) ?_)
  generalize hw9:World.setRow _ _ _=w9
  have QR:=shZ hw9 ZX
  have K9:Hid (Below w.heap.size w w9):=by rw[←hw9];exact Below.set_row KX.out (by omega) _
  clear hw9
  go_wp2_with fail
  have q0:=crZ QR 0 rfl
  have q1:=crZ QR 1 rfl
  refine bodyPost_ret (v:=(.agg #[.int .i64 1,.int .i64 1])) (by simp[results,Tryz.results171,go_sem,q0,q1]) rfl ⟨rfl,K9.out⟩
theorem iN (n:Int) (w:World):Calls Tryz.prog 173 #[.int .i64 n] w (bB (⟨0,0⟩,n) w):=by
 unfold bB
 try dsimp only
 obtain⟨w0,hw0⟩:∃w0,w0=w.alloc (.cells #[.int .i64 0,.int .i64 0] 48):=⟨_,rfl⟩
 have K0:Hid (Below w.heap.size w w0):=by rw[hw0];exact aB _ _
 have Z0:Hid (w0.heap[w.heap.size]? = some (.cells #[.int .i64 0,.int .i64 0] 48 (0,0))):=by rw[hw0];exact aJ _ _
 have hz0:w.heap.size<w0.heap.size:=(aE Z0.out).1
 have HW:=hI hw0
 clear hw0
 go_enter Tryz.func173,Tryz.ntmps173
 go_upto_region 1 with fail
 rw[←HW.out]
 have K5:Hid (Below w0.heap.size w0 w0):=Below.refl _ _
 have ZX:=hI ((K5.out.block _ hz0).trans Z0.out)
 have KX:=btZ K0 K5.out
 go_wp2_with (refine wpList_store_row rfl 48 _ _ rfl (w.heap.size) #[.int .i64 0,.int .i64 0] rfl rfl 48 _ ZX.out aF rfl (all_oneCell_toArray (by simp[Value.oneCell'])) ?_)
 generalize hw9:World.setRow _ _ _=w9
 have QR:=shZ hw9 ZX
 have K9:Hid (Below w.heap.size w w9):=by rw[←hw9];exact Below.set_row KX.out (by omega) _
 clear hw9
 go_wp2_with fail
 have q0:=crZ QR 0 rfl
 have q1:=crZ QR 1 rfl
 refine bodyPost_ret (v:=(.tuple #[.agg #[.int .i64 0,.int .i64 0],.int .i64 n])) (by simp[results,Tryz.results173,go_sem,q0,q1]) rfl ⟨rfl,K9.out⟩
theorem kM (n:Int) (w:World):Calls Tryz.prog 174 #[.int .i64 n] w (bB (dS n) w):=by
 unfold dS bB
 cases h:aK n (-2147483648) 2147483647
 ·simp only[↓reduceIte,Bool.false_eq_true]
  try dsimp only
  have H:=hI h
  obtain⟨w0,hw0⟩:∃w0,w0=w.alloc (.cells #[.int .i64 0,.int .i64 0] 48):=⟨_,rfl⟩
  have K0:Hid (Below w.heap.size w w0):=by rw[hw0];exact aB _ _
  have Z0:Hid (w0.heap[w.heap.size]? = some (.cells #[.int .i64 0,.int .i64 0] 48 (0,0))):=by rw[hw0];exact aJ _ _
  have hz0:w.heap.size<w0.heap.size:=(aE Z0.out).1
  have HW:=hI hw0
  clear hw0
  go_enter Tryz.func174,Tryz.ntmps174
  go_upto_region 1 with fail
  rw[←HW.out]
  go_wp2_with fail
  refine(kL _ _ _ _).mono ?_
  rw[H.out]
  rintro e w1 ⟨rfl,rfl⟩
  go_wp2_with fail
  refine(iN _ _).mono ?_
  rintro e w5 ⟨rfl,k5⟩
  have K5:=hI k5
  clear k5
  have ZX:=hI ((K5.out.block _ hz0).trans Z0.out)
  have KX:=btZ K0 K5.out
  go_wp2_with (refine wpList_store_row rfl 48 _ _ rfl (w.heap.size) #[.int .i64 0,.int .i64 0] rfl rfl 48 _ ZX.out aF rfl (all_oneCell_toArray (by simp[Value.oneCell'])) ?_)
  generalize hw9:World.setRow _ _ _=w9
  have QR:=shZ hw9 ZX
  have K9:Hid (Below w.heap.size w w9):=by rw[←hw9];exact Below.set_row KX.out (by omega) _
  clear hw9
  go_wp2_with fail
  have q0:=crZ QR 0 rfl
  have q1:=crZ QR 1 rfl
  refine bodyPost_ret (v:=(.tuple #[.agg #[.int .i64 0,.int .i64 0],.int .i64 1])) (by simp[results,Tryz.results174,go_sem,q0,q1]) rfl ⟨rfl,K9.out⟩
 ·simp only[↓reduceIte,Bool.false_eq_true]
  try dsimp only
  have H:=hI h
  obtain⟨w0,hw0⟩:∃w0,w0=w.alloc (.cells #[.int .i64 0,.int .i64 0] 48):=⟨_,rfl⟩
  have K0:Hid (Below w.heap.size w w0):=by rw[hw0];exact aB _ _
  have Z0:Hid (w0.heap[w.heap.size]? = some (.cells #[.int .i64 0,.int .i64 0] 48 (0,0))):=by rw[hw0];exact aJ _ _
  have hz0:w.heap.size<w0.heap.size:=(aE Z0.out).1
  have HW:=hI hw0
  clear hw0
  go_enter Tryz.func174,Tryz.ntmps174
  go_upto_region 1 with fail
  rw[←HW.out]
  go_wp2_with fail
  refine(kL _ _ _ _).mono ?_
  rw[H.out]
  rintro e w1 ⟨rfl,rfl⟩
  have K5:Hid (Below w0.heap.size w0 w0):=Below.refl _ _
  have ZX:=hI ((K5.out.block _ hz0).trans Z0.out)
  have KX:=btZ K0 K5.out
  go_wp2_with (refine wpList_store_row rfl 48 _ _ rfl (w.heap.size) #[.int .i64 2,.int .i64 n] rfl rfl 48 _ ZX.out aF rfl (all_oneCell_toArray (by simp[Value.oneCell'])) ?_)
  generalize hw9:World.setRow _ _ _=w9
  have QR:=shZ hw9 ZX
  have K9:Hid (Below w.heap.size w w9):=by rw[←hw9];exact Below.set_row KX.out (by omega) _
  clear hw9
  go_wp2_with fail
  have q0:=crZ QR 0 rfl
  have q1:=crZ QR 1 rfl
  refine bodyPost_ret (v:=(.tuple #[.agg #[.int .i64 2,.int .i64 n],.int .i64 (-1)])) (by simp[results,Tryz.results174,go_sem,q0,q1]) rfl ⟨rfl,K9.out⟩
theorem oN (b:Nat) (w:World):Calls Tryz.prog 175 #[.float .f64 b] w (aM (.agg #[.int .i64 (ofM b).kind,.int .i64 (ofM b).n]) w):=by
 unfold ofM kZ
 cases h:(FloatKind.f64.format.order b b == some .eq)
 ·simp only[↓reduceIte,Bool.false_eq_true]
  have h':(FloatKind.f64.format.order b b != some .eq)=true:=by unfold bne;rw[h];rfl
  obtain⟨w0,hw0⟩:∃w0,w0=w.alloc (.cells #[.int .i64 0,.int .i64 0] 48):=⟨_,rfl⟩
  have K0:Hid (Below w.heap.size w w0):=by rw[hw0];exact aB _ _
  have Z0:Hid (w0.heap[w.heap.size]? = some (.cells #[.int .i64 0,.int .i64 0] 48 (0,0))):=by rw[hw0];exact aJ _ _
  have hz0:w.heap.size<w0.heap.size:=(aE Z0.out).1
  have HW:=hI hw0
  clear hw0
  go_enter Tryz.func175,Tryz.ntmps175
  go_upto_region 1 with fail
  rw[←HW.out]
  have K5:Hid (Below w0.heap.size w0 w0):=Below.refl _ _
  have ZX:=hI ((K5.out.block _ hz0).trans Z0.out)
  have KX:=btZ K0 K5.out
  go_wp2_with (refine wpList_store_row rfl 48 _ _ rfl (w.heap.size) #[.int .i64 3,.int .i64 9221120237041090561] rfl rfl 48 _ ZX.out aF rfl (all_oneCell_toArray (by simp[Value.oneCell'])) ?_)
  generalize hw9:World.setRow _ _ _=w9
  have QR:=shZ hw9 ZX
  have K9:Hid (Below w.heap.size w w9):=by rw[←hw9];exact Below.set_row KX.out (by omega) _
  clear hw9
  go_wp2_with fail
  have q0:=crZ QR 0 rfl
  have q1:=crZ QR 1 rfl
  refine bodyPost_ret (v:=(.agg #[.int .i64 3,.int .i64 9221120237041090561])) (by simp[results,Tryz.results175,go_sem,q0,q1]) rfl ⟨rfl,K9.out⟩
 ·simp only[↓reduceIte]
  have h':(FloatKind.f64.format.order b b != some .eq)=false:=by unfold bne;rw[h];rfl
  go_enter Tryz.func175,Tryz.ntmps175
  go_wp2
  rw[run_callFunc_extern Tryz.func185 (by kernel_rfl) (by kernel_rfl) (by kernel_rfl) (e:=Extern.MathFloatBits.float64bits) (by kernel_rfl)]
  rw[show ∀(m:Nat) (W:World),(Extern.MathFloatBits.float64bits #[.float .f64 m]).run Tryz.prog W=.ok (.int .u64 m) W from fun _ _=>rfl]
  simp only[Result.andThen]
  rw[Oper.upon_value]
  go_wp2
  refine bodyPost_ret (v:=.agg #[.int .i64 3,.int .i64 (wrap64 b)]) (by simp[results,Tryz.results175,go_sem,bL]) rfl ⟨rfl,aB w _⟩
theorem aaS (op:Int) (x y:Nat) (w:World):Calls Tryz.prog 183 #[.int .i64 op,.float .f64 x,.float .f64 y] w (bB (eA op (ltF x y) ((ltF x y || eqF x y))) w):=by
 unfold ltF eqF
 unfold eA bB
 by_cases c9:op=9
 ·subst c9
  simp only[↓reduceIte,show ¬(10:Int)=9 from by decide]
  try dsimp only
  show Calls _ _ _ _ (aM (.tuple #[.agg #[.int .i64 (cP (FloatKind.f64.format.order x y == some .lt)).kind,.int .i64 (cP (FloatKind.f64.format.order x y == some .lt)).n],.int .i64 (-1)]) w)
  have TC:=fun W=>fO (FloatKind.f64.format.order x y == some .lt) W
  generalize cP (FloatKind.f64.format.order x y == some .lt)=r at TC ⊢
  obtain⟨r1,r2⟩:=r
  have HTC:=hI TC
  clear TC
  obtain⟨w0,hw0⟩:∃w0,w0=w.alloc (.cells #[.int .i64 0,.int .i64 0] 48):=⟨_,rfl⟩
  have K0:Hid (Below w.heap.size w w0):=by rw[hw0];exact aB _ _
  have Z0:Hid (w0.heap[w.heap.size]? = some (.cells #[.int .i64 0,.int .i64 0] 48 (0,0))):=by rw[hw0];exact aJ _ _
  have hz0:w.heap.size<w0.heap.size:=(aE Z0.out).1
  have HW:=hI hw0
  clear hw0
  go_enter Tryz.func183,Tryz.ntmps183
  go_upto_region 1 with fail
  rw[←HW.out]
  go_wp2_with fail
  refine(HTC.out _).mono ?_
  rintro e w5 ⟨rfl,k5⟩
  have K5:=hI k5
  clear k5
  have ZX:=hI ((K5.out.block _ hz0).trans Z0.out)
  have KX:=btZ K0 K5.out
  go_wp2_with (refine wpList_store_row rfl 48 _ _ rfl (w.heap.size) #[.int .i64 r1,.int .i64 r2] rfl rfl 48 _ ZX.out aF rfl (all_oneCell_toArray (by simp[Value.oneCell'])) ?_)
  generalize hw9:World.setRow _ _ _=w9
  have QR:=shZ hw9 ZX
  have K9:Hid (Below w.heap.size w w9):=by rw[←hw9];exact Below.set_row KX.out (by omega) _
  clear hw9
  go_wp2_with fail
  have q0:=crZ QR 0 rfl
  have q1:=crZ QR 1 rfl
  refine bodyPost_ret (v:=(.tuple #[.agg #[.int .i64 r1,.int .i64 r2],.int .i64 (-1)])) (by simp[results,Tryz.results183,go_sem,q0,q1]) rfl ⟨rfl,K9.out⟩
 by_cases c10:op=10
 ·subst c10
  clear c9
  simp only[↓reduceIte,show ¬(10:Int)=9 from by decide]
  try dsimp only
  show Calls _ _ _ _ (aM (.tuple #[.agg #[.int .i64 (cP ((FloatKind.f64.format.order x y == some .lt || FloatKind.f64.format.order x y == some .eq))).kind,.int .i64 (cP ((FloatKind.f64.format.order x y == some .lt || FloatKind.f64.format.order x y == some .eq))).n],.int .i64 (-1)]) w)
  have TC:=fun W=>fO ((FloatKind.f64.format.order x y == some .lt || FloatKind.f64.format.order x y == some .eq)) W
  generalize cP ((FloatKind.f64.format.order x y == some .lt || FloatKind.f64.format.order x y == some .eq))=r at TC ⊢
  obtain⟨r1,r2⟩:=r
  have HTC:=hI TC
  clear TC
  obtain⟨w0,hw0⟩:∃w0,w0=w.alloc (.cells #[.int .i64 0,.int .i64 0] 48):=⟨_,rfl⟩
  have K0:Hid (Below w.heap.size w w0):=by rw[hw0];exact aB _ _
  have Z0:Hid (w0.heap[w.heap.size]? = some (.cells #[.int .i64 0,.int .i64 0] 48 (0,0))):=by rw[hw0];exact aJ _ _
  have hz0:w.heap.size<w0.heap.size:=(aE Z0.out).1
  have HW:=hI hw0
  clear hw0
  go_enter Tryz.func183,Tryz.ntmps183
  go_upto_region 1 with fail
  rw[←HW.out]
  go_wp2_with fail
  refine(HTC.out _).mono ?_
  rintro e w5 ⟨rfl,k5⟩
  have K5:=hI k5
  clear k5
  have ZX:=hI ((K5.out.block _ hz0).trans Z0.out)
  have KX:=btZ K0 K5.out
  go_wp2_with (refine wpList_store_row rfl 48 _ _ rfl (w.heap.size) #[.int .i64 r1,.int .i64 r2] rfl rfl 48 _ ZX.out aF rfl (all_oneCell_toArray (by simp[Value.oneCell'])) ?_)
  generalize hw9:World.setRow _ _ _=w9
  have QR:=shZ hw9 ZX
  have K9:Hid (Below w.heap.size w w9):=by rw[←hw9];exact Below.set_row KX.out (by omega) _
  clear hw9
  go_wp2_with fail
  have q0:=crZ QR 0 rfl
  have q1:=crZ QR 1 rfl
  refine bodyPost_ret (v:=(.tuple #[.agg #[.int .i64 r1,.int .i64 r2],.int .i64 (-1)])) (by simp[results,Tryz.results183,go_sem,q0,q1]) rfl ⟨rfl,K9.out⟩
 rw[if_neg c9,if_neg c10]
 try dsimp only
 have n9:(op == 9)=false:=beq_eq_false_iff_ne.2 c9
 have n10:(op == 10)=false:=beq_eq_false_iff_ne.2 c10
 clear c9 c10
 obtain⟨w0,hw0⟩:∃w0,w0=w.alloc (.cells #[.int .i64 0,.int .i64 0] 48):=⟨_,rfl⟩
 have K0:Hid (Below w.heap.size w w0):=by rw[hw0];exact aB _ _
 have Z0:Hid (w0.heap[w.heap.size]? = some (.cells #[.int .i64 0,.int .i64 0] 48 (0,0))):=by rw[hw0];exact aJ _ _
 have hz0:w.heap.size<w0.heap.size:=(aE Z0.out).1
 have HW:=hI hw0
 clear hw0
 go_enter Tryz.func183,Tryz.ntmps183
 go_upto_region 1 with fail
 rw[←HW.out]
 go_wp2_with fail
 refine(iN _ _).mono ?_
 rintro e w5 ⟨rfl,k5⟩
 have K5:=hI k5
 clear k5
 have ZX:=hI ((K5.out.block _ hz0).trans Z0.out)
 have KX:=btZ K0 K5.out
 go_wp2_with (refine wpList_store_row rfl 48 _ _ rfl (w.heap.size) #[.int .i64 0,.int .i64 0] rfl rfl 48 _ ZX.out aF rfl (all_oneCell_toArray (by simp[Value.oneCell'])) ?_)
 generalize hw9:World.setRow _ _ _=w9
 have QR:=shZ hw9 ZX
 have K9:Hid (Below w.heap.size w w9):=by rw[←hw9];exact Below.set_row KX.out (by omega) _
 clear hw9
 go_wp2_with fail
 have q0:=crZ QR 0 rfl
 have q1:=crZ QR 1 rfl
 refine bodyPost_ret (v:=(.tuple #[.agg #[.int .i64 0,.int .i64 0],.int .i64 0])) (by simp[results,Tryz.results183,go_sem,q0,q1]) rfl ⟨rfl,K9.out⟩
theorem aaR (op:Int) (x y:Int) (w:World):Calls Tryz.prog 184 #[.int .i64 op,.int .i64 x,.int .i64 y] w (bB (eA op (decide (x<y)) (decide (x≤y))) w):=by
 unfold eA bB
 by_cases c9:op=9
 ·subst c9
  simp only[↓reduceIte,show ¬(10:Int)=9 from by decide]
  try dsimp only
  show Calls _ _ _ _ (aM (.tuple #[.agg #[.int .i64 (cP (decide (x<y))).kind,.int .i64 (cP (decide (x<y))).n],.int .i64 (-1)]) w)
  have TC:=fun W=>fO (decide (x<y)) W
  generalize cP (decide (x<y))=r at TC ⊢
  obtain⟨r1,r2⟩:=r
  have HTC:=hI TC
  clear TC
  obtain⟨w0,hw0⟩:∃w0,w0=w.alloc (.cells #[.int .i64 0,.int .i64 0] 48):=⟨_,rfl⟩
  have K0:Hid (Below w.heap.size w w0):=by rw[hw0];exact aB _ _
  have Z0:Hid (w0.heap[w.heap.size]? = some (.cells #[.int .i64 0,.int .i64 0] 48 (0,0))):=by rw[hw0];exact aJ _ _
  have hz0:w.heap.size<w0.heap.size:=(aE Z0.out).1
  have HW:=hI hw0
  clear hw0
  go_enter Tryz.func184,Tryz.ntmps184
  go_upto_region 1 with fail
  rw[←HW.out]
  go_wp2_with fail
  refine(HTC.out _).mono ?_
  rintro e w5 ⟨rfl,k5⟩
  have K5:=hI k5
  clear k5
  have ZX:=hI ((K5.out.block _ hz0).trans Z0.out)
  have KX:=btZ K0 K5.out
  go_wp2_with (refine wpList_store_row rfl 48 _ _ rfl (w.heap.size) #[.int .i64 r1,.int .i64 r2] rfl rfl 48 _ ZX.out aF rfl (all_oneCell_toArray (by simp[Value.oneCell'])) ?_)
  generalize hw9:World.setRow _ _ _=w9
  have QR:=shZ hw9 ZX
  have K9:Hid (Below w.heap.size w w9):=by rw[←hw9];exact Below.set_row KX.out (by omega) _
  clear hw9
  go_wp2_with fail
  have q0:=crZ QR 0 rfl
  have q1:=crZ QR 1 rfl
  refine bodyPost_ret (v:=(.tuple #[.agg #[.int .i64 r1,.int .i64 r2],.int .i64 (-1)])) (by simp[results,Tryz.results184,go_sem,q0,q1]) rfl ⟨rfl,K9.out⟩
 by_cases c10:op=10
 ·subst c10
  clear c9
  simp only[↓reduceIte,show ¬(10:Int)=9 from by decide]
  try dsimp only
  show Calls _ _ _ _ (aM (.tuple #[.agg #[.int .i64 (cP (decide (x≤y))).kind,.int .i64 (cP (decide (x≤y))).n],.int .i64 (-1)]) w)
  have TC:=fun W=>fO (decide (x≤y)) W
  generalize cP (decide (x≤y))=r at TC ⊢
  obtain⟨r1,r2⟩:=r
  have HTC:=hI TC
  clear TC
  obtain⟨w0,hw0⟩:∃w0,w0=w.alloc (.cells #[.int .i64 0,.int .i64 0] 48):=⟨_,rfl⟩
  have K0:Hid (Below w.heap.size w w0):=by rw[hw0];exact aB _ _
  have Z0:Hid (w0.heap[w.heap.size]? = some (.cells #[.int .i64 0,.int .i64 0] 48 (0,0))):=by rw[hw0];exact aJ _ _
  have hz0:w.heap.size<w0.heap.size:=(aE Z0.out).1
  have HW:=hI hw0
  clear hw0
  go_enter Tryz.func184,Tryz.ntmps184
  go_upto_region 1 with fail
  rw[←HW.out]
  go_wp2_with fail
  refine(HTC.out _).mono ?_
  rintro e w5 ⟨rfl,k5⟩
  have K5:=hI k5
  clear k5
  have ZX:=hI ((K5.out.block _ hz0).trans Z0.out)
  have KX:=btZ K0 K5.out
  go_wp2_with (refine wpList_store_row rfl 48 _ _ rfl (w.heap.size) #[.int .i64 r1,.int .i64 r2] rfl rfl 48 _ ZX.out aF rfl (all_oneCell_toArray (by simp[Value.oneCell'])) ?_)
  generalize hw9:World.setRow _ _ _=w9
  have QR:=shZ hw9 ZX
  have K9:Hid (Below w.heap.size w w9):=by rw[←hw9];exact Below.set_row KX.out (by omega) _
  clear hw9
  go_wp2_with fail
  have q0:=crZ QR 0 rfl
  have q1:=crZ QR 1 rfl
  refine bodyPost_ret (v:=(.tuple #[.agg #[.int .i64 r1,.int .i64 r2],.int .i64 (-1)])) (by simp[results,Tryz.results184,go_sem,q0,q1]) rfl ⟨rfl,K9.out⟩
 rw[if_neg c9,if_neg c10]
 try dsimp only
 have n9:(op == 9)=false:=beq_eq_false_iff_ne.2 c9
 have n10:(op == 10)=false:=beq_eq_false_iff_ne.2 c10
 clear c9 c10
 obtain⟨w0,hw0⟩:∃w0,w0=w.alloc (.cells #[.int .i64 0,.int .i64 0] 48):=⟨_,rfl⟩
 have K0:Hid (Below w.heap.size w w0):=by rw[hw0];exact aB _ _
 have Z0:Hid (w0.heap[w.heap.size]? = some (.cells #[.int .i64 0,.int .i64 0] 48 (0,0))):=by rw[hw0];exact aJ _ _
 have hz0:w.heap.size<w0.heap.size:=(aE Z0.out).1
 have HW:=hI hw0
 clear hw0
 go_enter Tryz.func184,Tryz.ntmps184
 go_upto_region 1 with fail
 rw[←HW.out]
 go_wp2_with fail
 refine(iN _ _).mono ?_
 rintro e w5 ⟨rfl,k5⟩
 have K5:=hI k5
 clear k5
 have ZX:=hI ((K5.out.block _ hz0).trans Z0.out)
 have KX:=btZ K0 K5.out
 go_wp2_with (refine wpList_store_row rfl 48 _ _ rfl (w.heap.size) #[.int .i64 0,.int .i64 0] rfl rfl 48 _ ZX.out aF rfl (all_oneCell_toArray (by simp[Value.oneCell'])) ?_)
 generalize hw9:World.setRow _ _ _=w9
 have QR:=shZ hw9 ZX
 have K9:Hid (Below w.heap.size w w9):=by rw[←hw9];exact Below.set_row KX.out (by omega) _
 clear hw9
 go_wp2_with fail
 have q0:=crZ QR 0 rfl
 have q1:=crZ QR 1 rfl
 refine bodyPost_ret (v:=(.tuple #[.agg #[.int .i64 0,.int .i64 0],.int .i64 0])) (by simp[results,Tryz.results184,go_sem,q0,q1]) rfl ⟨rfl,K9.out⟩
end
section
open Go.RowKit
structure aQ (w w':World):Prop where
 os:w'.os=w.os
 tape:w'.tape=w.tape
 output:w'.output=w.output
 size:w.heap.size≤w'.heap.size
 block:∀(k:Nat) (cs:Array Value) (e:TypeId) (fr:Nat×Nat),w.heap[k]? = some (.cells cs e fr)→e≠85→e≠61→e≠55→e≠48→w'.heap[k]? = w.heap[k]?
theorem aQ.refl (w:World):aQ w w:=⟨rfl,rfl,rfl,Nat.le_refl _,fun _ _ _ _ _ _ _ _ _=>rfl⟩
theorem aQ.trans {a b c:World} (h:aQ a b) (g:aQ b c):aQ a c:=
 ⟨g.os.trans h.os,g.tape.trans h.tape,g.output.trans h.output,Nat.le_trans h.size g.size,fun k cs e fr hk h1 h2 h3 h4=>by
  have:=h.block k cs e fr hk h1 h2 h3 h4
  exact(g.block k cs e fr (this.trans hk) h1 h2 h3 h4).trans this⟩
theorem aQ.of {w w':World} (h:Below w.heap.size w w'):aQ w w':=⟨h.os,h.tape,h.output,h.size,fun k cs e fr hk _ _ _ _=>h.block k (aV hk)⟩
theorem aeC {T:Nat→Prop} {w w':World} (h:cA T w w') (hT:∀k,k<w.heap.size→T k→∃cs e,w.heap[k]? = some (.cells cs e (0,0))∧(e=85∨e=61∨e=55∨e=48)):aQ w w':=
 ⟨h.os,h.tape,h.output,h.size,fun k cs e fr hk h1 h2 h3 h4=>h.block k (aV hk) (fun ht=>by
  obtain⟨cs',e',h5,h6⟩:=hT k (aV hk) ht
  rw[hk] at h5;injection h5 with h5;injection h5 with _ h5
  subst h5
  rcases h6 with h6 | h6 | h6 | h6
  ·exact h1 h6
  ·exact h2 h6
  ·exact h3 h6
  ·exact h4 h6)⟩
def sJ (Γ : kI) (W':aI) (r:Value) (w:World) (e:Ending) (w':World):Prop:=e=.returned r∧(∃cv vv vs fs,bO Γ w' W' cv vv vs fs)∧aQ w w'
theorem dZ {w:World} {B g n cap:Nat} {e:TypeId} {size:Nat} {xs:List Value} (h:w.ownsRow B e size (.slice (some ⟨g,0,none⟩) n cap) n xs) {o m:Nat} (hi:o+m≤n*size):w.there g o m:=fun j hj=>by
 refine⟨?_,h.frozenAt _⟩
 rw[h.cellAt (o+j) (by omega),lG (by rw[h.1];omega)];rfl
section
variable {Γ : kI} {w w':World} {W:aI} {cv vv:Value} {vs fs:List Value}
theorem bO.setVal (L:bO Γ w W cv vv vs fs) (K:hP Γ) {i:Nat} {v u:Val} (hi:W.vals[i]? = some u) (hv:WfV v) {g n cap:Nat} (hvv:vv=.slice (some ⟨g,0,none⟩) n cap) :
  bO Γ (w.setCells g (i*2) (aZ v)) (fS W i v) cv vv vs fs∧aQ w (w.setCells g (i*2) (aZ v)):=by
 subst hvv
 have hn:n=W.vals.length:=by
  rcases L.vals.2 with ⟨h,-⟩ | ⟨g',c',cur,h,-⟩
  ·cases h
  ·injection h with _ h
 subst hn
 have o:cA (fun k=>(Value.slice (some ⟨g,0,none⟩) W.vals.length cap).ownBlock=some k) w (w.setCells g (i*2) (aZ v)):=
  cA.set (T:=fun k=>(Value.slice (some ⟨g,0,none⟩) W.vals.length cap).ownBlock=some k) (cA.set (T:=fun k=>(Value.slice (some ⟨g,0,none⟩) W.vals.length cap).ownBlock=some k) cA.refl rfl _ _) rfl _ _
 refine⟨L.putVals K o ?_ (fun x hx=>?_),aeC o (fun k _ hk=>?_)⟩
 ·rw[List.length_set]
  exact uP L.vals hi
 ·rcases List.mem_or_eq_of_mem_set hx with h | h
  ·exact L.wfv x h
  ·rw[h];exact hv
 ·obtain⟨cs,h⟩:=aX L.vals hk
  exact⟨cs,_,h,.inr (.inr (.inr rfl))⟩
theorem bO.insAt (L:bO Γ w W cv vv vs fs) (K:hP Γ) {i:Nat} {x:bG} (hx : Γ.t.ins[i]? = some x) :
  ∃b off cap,w.cell? ⟨Γ.wb,3,none⟩=some (.slice (some ⟨b,off,none⟩) Γ.t.ins.length cap)∧hJ w b (off+i*8) (jS x)∧uD x∧b < Γ.w1.heap.size:=by
 obtain⟨iv,ev,ct,cb,e,h1,-⟩:=K.tr
 obtain⟨A,cap,rfl,-⟩:=id h1
 have hil:=(lE hx).1
 obtain⟨b,off,y,rfl,hb,hy,hw,hc⟩:=rN h1 hil
 rw[hx] at hy;injection hy with hy;subst hy
 have h3:=L.tr K (k:=3) (by decide)
 rw[e] at h3
 refine⟨b,off,cap,h3,fun j u hj=>?_,hw,K.q1 b (K.q0 b hb)⟩
 exact(L.held ⟨b,_,none⟩ (K.q0 b hb)).trans (hc j u hj)
theorem uI (K:hP Γ) (L:bO Γ w W cv vv vs fs) {i:Nat} {x:bG} (hx : Γ.t.ins[i]? = some x) (hi:i<W.vals.length) (hn : Γ.t.ins.length≤300) (v:Val) (hv:WfV v) (r:Int) (hr:wfi r) :
  Calls Tryz.prog 145 #[.pointer (some ⟨Γ.wb,0,none⟩),.int .i64 (i:Int),.agg #[.int .i64 v.kind,.int .i64 v.n],.int .i64 r] w (sJ Γ (iQ W i x.exit (v,r)).1 (.int .i64 (iQ W i x.exit (v,r)).2) w):=by
 have hil:i < Γ.t.ins.length:=(lE hx).1
 obtain⟨g,cap,hvv,-,hgl⟩:=L.vals.form (by omega)
 obtain⟨w1,hw1⟩:∃w1,w1=w.alloc (.cells #[.int .i64 v.kind,.int .i64 v.n] 48):=⟨_,rfl⟩
 have K1:Hid (Below w.heap.size w w1):=by rw[hw1];exact aB _ _
 have HB1:Hid (aA w1 w.heap.size [.int .i64 v.kind,.int .i64 v.n]):=by rw[hw1];exact ad5 _ _ _
 have HW1:=hI hw1
 have HK:=hI K
 have L1:=hI (L.below K K1.out)
 have HV:=hI hvv
 have s17:w1.cell? ⟨Γ.wb,17,none⟩=some (.slice (some ⟨g,0,none⟩) W.vals.length cap):=by rw[←hvv];exact L1.out.own K 4
 have a0:=ecZ (HB1.out 0 _ rfl)
 have a1:=ecZ (HB1.out 1 _ rfl)
 have a2:=ecZ s17
 obtain⟨q,hq⟩:∃q:Int,(iQ W i x.exit (v,r)).2=q:=⟨_,rfl⟩
 rw[hq]
 have HQ:Hid ((if r<0 then(0:Int) else if x.exit<0 then 2 else 1)=q):=hq
 have e1:(iQ W i x.exit (v,r)).1=fS W i v:=rfl
 rw[e1]
 have hji:(i:Int)<W.vals.length:=by omega
 have hjt:(i:Int) < Γ.t.ins.length:=by omega
 clear hw1 L K hvv s17 hq e1
 go_enter Tryz.func145,Tryz.ntmps145
 go_upto_region 1 with fail
 rw[←HW1.out]
 refine aL 6 (by kernel_rfl) (by kernel_rfl) ?_
 simp only[List.take_succ_cons,List.take_zero]
 repeat (go_big_quiet_step (fail))
 refine wpQuiet_nil ?_
 intro w' hE
 obtain⟨E,rfl⟩:=hE
 obtain⟨wy,ky⟩:=E
 dsimp only
 have LY:=hI (L1.out.below HK.out ky)
 have KY:=btZ K1 ky
 clear ky a0 a1 a2
 obtain⟨u,hu⟩:∃u,W.vals[i]? = some u:=⟨_,lG hi⟩
 have TH:Hid (wy.there g (i*2) 2):=by
  have:=LY.out.vals
  rw[HV.out] at this
  exact dZ this (by omega)
 have S9:=hI (LY.out.setVal HK.out hu hv HV.out)
 clear hu
 simp only[List.drop_succ_cons,List.drop_zero]
 go_upto_region 2 with (first | (refine wpList_store_mid rfl 48 _ _ rfl g (i*2) #[.int .i64 v.kind,.int .i64 v.n] rfl rfl TH.out aF (all_oneCell_toArray (by simp[Value.oneCell'])) ?_) | fail)
 generalize hw9:World.setCells _ _ _ _=w9
 have L9:Hid (bO Γ w9 (fS W i v) cv vv vs fs):=by rw[←hw9];exact S9.out.1
 have K9:Hid (aQ w w9):=by rw[←hw9];exact(aQ.of KY.out).trans S9.out.2
 clear hw9
 (try dsimp only [Act.put])
 obtain⟨b,off,icap,c3,hc,-⟩:=L9.out.insAt HK.out hx
 have c5:w9.cell? ⟨b,off+i*8+5,none⟩=some (.int .i64 x.exit):=hc 5 _ rfl
 by_cases hr0:r<0
 ·have HN:Hid ((0:Int)=q):=by show _=_;rw[←HQ.out,if_pos hr0]
  go_wp2_with fail
  go_ret
  exact⟨by rw[←HN.out];rfl,⟨_,_,_,_,L9.out⟩,K9.out⟩
 ·by_cases hx0:x.exit<0
  ·have HN:Hid ((2:Int)=q):=by show _=_;rw[←HQ.out,if_neg hr0,if_pos hx0]
   go_wp2_with fail
   go_ret
   exact⟨by rw[←HN.out];rfl,⟨_,_,_,_,L9.out⟩,K9.out⟩
  ·have HN:Hid ((1:Int)=q):=by show _=_;rw[←HQ.out,if_neg hr0,if_neg hx0]
   go_wp2_with fail
   go_ret
   exact⟨by rw[←HN.out];rfl,⟨_,_,_,_,L9.out⟩,K9.out⟩
end
end
section
open Go Go.RowKit
section
variable {P:Program} (w:World)
theorem rE (base:Nat) (t ty e:TypeId) (i:TypeInfo) (z:Value) (size bytes:Nat) (ht:P.underlying t=some (.slice e)) (hi:P.info? e=some i) (hz:i.zero=some z)
  (hsize:i.size=size) (hby:i.bytes=bytes) (hzs:z.cells.size=size) (hsz:0<size)
  (v:Value) (n:Nat) (xs:List Value) (hown:w.ownsRow base e size v n xs)
  (a:Addr) (m c:Nat) (news:List Value) (hl:news.length=m*size) (hnews:∀j u,news[j]? = some u→w.cell? (a.add j)=some u) (h1:∀u∈news,u.oneCell'=true)
  (h63:n+m≤maxLen) (hbytes:(n+m)*bytes≤140737488355328) (hbase:base≤w.heap.size) :
  ∃v' w',(Builtin.append_ #[t,t] ty #[v,.slice (some a) m c]).run P w=.ok v' w'∧w'.ownsRow base e size v' (n+m) (xs++news)∧w.grownBy w' v.ownBlock∧
   (∀g,v'.ownBlock=some g→v.ownBlock=some g∨w.heap.size≤g):=by
 rcases hown.2 with ⟨rfl,rfl⟩ | ⟨g,cap,cur,rfl,hbg,hg,hnc,hcm,hcs,htake⟩
 ·have hx:xs=[]:=List.eq_nil_of_length_eq_zero (by simpa using hown.1)
  subst hx
  obtain⟨v',w',hr,h2,h3,-⟩:=run_append_own (P:=P) w w.heap.size t ty e i z size bytes ht hi hz hsize hby hzs hsz _ 0 [] (World.ownsRow_nil w w.heap.size e size) a m c news hl hnews h1 h63 hbytes (Nat.le_refl _)
  exact⟨v',w',hr,dU h2 hbase,h3,fun g hg=>.inr (h2.lt g hg).1⟩
 ·obtain⟨v',w',hr,h2,h3,-⟩:=run_append_own (P:=P) w base t ty e i z size bytes ht hi hz hsize hby hzs hsz _ n xs hown a m c news hl hnews h1 h63 hbytes hbase
  refine⟨v',w',hr,h2,h3,fun k hk=>?_⟩
  subst hsize
  subst hby
  by_cases hroom:n+m≤cap
  ·have hfit:n*i.size+news.length≤cur.size:=by rw[hl,hcs,←Nat.add_mul];exact Nat.mul_le_mul_right _ hroom
   have hr2:=run_append_room (P:=P) w t ty e i ht hi g n cap cur hg a m c news hl hnews h1 hroom hfit
   rw[hr] at hr2
   injection hr2 with hr2
   rw[hr2] at hk
   exact .inl hk
  ·have holds:∀j u,xs[j]? = some u→w.cell? ((⟨g,0,none⟩:Addr).add j)=some u:=hown.cells (g:=g) rfl
   have hsmall:n+m≤9223372036854775807:=by simp only[maxLen] at h63;omega
   have hr2:=run_append_grow (P:=P) w t ty e i z ht hi hz ⟨g,0,none⟩ n cap xs hown.1 holds a m c news hl hnews (by omega) (by omega) (growslice_fits (by omega) hbytes)
   rw[hr] at hr2
   injection hr2 with hr2
   rw[hr2] at hk
   have hk':w.heap.size=k:=by simpa [Value.ownBlock] using hk
   exact .inr (by omega)
theorem iK {o:Oper} {a:Act} {K:Act→World→Prop} {Q:Exit→Act→World→Prop} (s x:Operand) (t:TypeId)
  (ho:o.op=.call { callee:=.builtin .append,args:=#[s,x],argTypes:=#[t,t] })
  (base:Nat) (e:TypeId) (i:TypeInfo) (z:Value) (size bytes:Nat) (ht:P.underlying t=some (.slice e)) (hi:P.info? e=some i) (hz:i.zero=some z)
  (hsize:i.size=size) (hby:i.bytes=bytes) (hzs:z.cells.size=size) (hsz:0<size)
  (v:Value) (n:Nat) (xs:List Value) (hs:a.eval s=v) (hown:w.ownsRow base e size v n xs)
  (ad:Addr) (m c:Nat) (news:List Value) (hx:a.eval x=.slice (some ad) m c) (hl:news.length=m*size) (hnews:∀j u,news[j]? = some u→w.cell? (ad.add j)=some u) (h1:∀u∈news,u.oneCell'=true)
  (h63:n+m≤maxLen) (hbytes:(n+m)*bytes≤140737488355328) (hbase:base≤w.heap.size)
  (h:∀v' w',w'.ownsRow base e size v' (n+m) (xs++news)→w.grownBy w' v.ownBlock→(∀g,v'.ownBlock=some g→v.ownBlock=some g∨w.heap.size≤g)→K (a.put o.dst v') w'):o.wp P a w K Q:=by
 obtain⟨v',w',hr,h2,h3,h4⟩:=rE (P:=P) w base t o.type e i z size bytes ht hi hz hsize hby hzs hsz v n xs hown ad m c news hl hnews h1 h63 hbytes hbase
 unfold Oper.wp execOp
 simp only[ho,resolve,invoke,builtin,Sem.run_bind,Sem.run_pure,Result.andThen_ok,List.map_toArray,List.map_cons,List.map_nil,hs,hx,hr]
 exact h v' w' h2 h3 h4
variable {w}
theorem oD {ops:Array Oper} {rest:List Oper} {o:Oper} {a:Act} {Q:Exit→Act→World→Prop} (hgd:o.guard=none) (s x:Operand) (t:TypeId)
  (ho:o.op=.call { callee:=.builtin .append,args:=#[s,x],argTypes:=#[t,t] })
  (base:Nat) (e:TypeId) (i:TypeInfo) (z:Value) (size bytes:Nat) (ht:P.underlying t=some (.slice e)) (hi:P.info? e=some i) (hz:i.zero=some z)
  (hsize:i.size=size) (hby:i.bytes=bytes) (hzs:z.cells.size=size) (hsz:0<size)
  (v:Value) (n:Nat) (xs:List Value) (hs:a.eval s=v) (hown:w.ownsRow base e size v n xs)
  (ad:Addr) (m c:Nat) (news:List Value) (hx:a.eval x=.slice (some ad) m c) (hl:news.length=m*size) (hnews:∀j u,news[j]? = some u→w.cell? (ad.add j)=some u) (h1:∀u∈news,u.oneCell'=true)
  (h63:n+m≤maxLen) (hbytes:(n+m)*bytes≤140737488355328) (hbase:base≤w.heap.size)
  (h:∀v' w',w'.ownsRow base e size v' (n+m) (xs++news)→w.grownBy w' v.ownBlock→(∀g,v'.ownBlock=some g→v.ownBlock=some g∨w.heap.size≤g)→wpList P ops Q rest (a.put o.dst v') w'):wpList P ops Q (o::rest) a w:=
 wpList_plain hgd fun _ hK=>iK w s x t ho base e i z size bytes ht hi hz hsize hby hzs hsz v n xs hs hown ad m c news hx hl hnews h1 h63 hbytes hbase fun v' w' h2 h3 h4=>hK _ _ (h v' w' h2 h3 h4)
end
end
section
open Go.RowKit
section
variable {Γ : kI} {w w':World} {W:aI} {cv vv:Value} {vs fs:List Value}
theorem abP {w:World} {B e size n:Nat} {A:Option Addr} {m c:Nat} {xs:List Value} (h:w.ownsRow B e size (.slice A m c) n xs):m=n:=by
 rcases h.2 with ⟨h,h0⟩ | ⟨g',c',cur,h,-⟩
 ·injection h with _ h;omega
 ·injection h with _ h
theorem zK (K:hP Γ) (L:bO Γ w W cv vv vs fs) {i:Nat} (hi:i<W.vals.length) (hn:W.vals.length≤300) (hl:W.cells.length≤300) (kind:Int) (hk:wfi kind) :
  Calls Tryz.prog 151 #[.pointer (some ⟨Γ.wb,0,none⟩),.int .i64 (i:Int),.int .i64 kind] w (sJ Γ (dX W i kind).1 (.int .i64 (dX W i kind).2) w):=by
 obtain⟨g,cap,hvv,-,hgl⟩:=L.vals.form (by omega)
 have HK:=hI K
 have HL:=hI L
 have HV:=hI hvv
 obtain⟨CA,cc,rfl⟩:=bV L.crow
 have s17:w.cell? ⟨Γ.wb,17,none⟩=some (.slice (some ⟨g,0,none⟩) W.vals.length cap):=by rw[←hvv];exact L.own K 4
 have s13:w.cell? ⟨Γ.wb,13,none⟩=some (.slice CA W.cells.length cc):=L.own K 0
 have hji:(i:Int)<W.vals.length:=by omega
 clear K L hvv
 by_cases h3:300≤W.cells.length
 ·have e1:dX W i kind=(W,1):=by unfold dX;rw[if_pos h3]
  rw[e1]
  go_enter Tryz.func151,Tryz.ntmps151
  go_wp2_with fail
  go_ret
  exact⟨rfl,⟨_,_,_,_,HL.out⟩,aQ.refl _⟩
 ·have e1:dX W i kind=({ fS W i ⟨5,(W.cells.length:Int)⟩ with cells:=(fS W i ⟨5,(W.cells.length:Int)⟩).cells++[⟨kind,0,[],[]⟩] },0):=by unfold dX;rw[if_neg h3];rfl
  rw[e1]
  obtain⟨u,hu⟩:∃u,W.vals[i]? = some u:=⟨_,lG hi⟩
  have hv5:WfV ⟨5,(W.cells.length:Int)⟩:=by unfold WfV wfi;constructor <;> (constructor <;> simp <;> omega)
  have HV5:=hI hv5
  have HU:=hI hu
  clear e1 hu hv5
  go_enter Tryz.func151,Tryz.ntmps151
  go_upto_region 3 with fail
  have a1:=ecZ s13
  have a2:=ecZ s17
  refine aL 11 (by kernel_rfl) (by kernel_rfl) ?_
  simp only[List.take_succ_cons,List.take_zero]
  repeat (go_big_quiet_step (fail))
  refine wpQuiet_nil ?_
  intro w' hE
  obtain⟨E,rfl⟩:=hE
  obtain⟨wy,ky⟩:=E
  dsimp only
  have LY:=hI (HL.out.below HK.out ky)
  have KY:=hI ky
  clear ky a1 a2 s13 s17
  have TH:Hid (wy.there g (i*2) 2):=by
   have:=LY.out.vals
   rw[HV.out] at this
   exact dZ this (by omega)
  have S9:=hI (LY.out.setVal HK.out HU.out HV5.out HV.out)
  simp only[List.drop_succ_cons,List.drop_zero]
  go_upto_region 4 with (first | (refine wpList_store_mid rfl 48 _ _ rfl g (i*2) #[.int .i64 5,.int .i64 (W.cells.length:Int)] rfl rfl TH.out aF (all_oneCell_toArray (by simp[Value.oneCell'])) ?_) | fail)
  generalize hw9:World.setCells _ _ _ _=w9
  have L9:Hid (bO Γ w9 (fS W i ⟨5,(W.cells.length:Int)⟩) (.slice CA W.cells.length cc) vv vs fs):=by rw[←hw9];exact S9.out.1
  have K9:Hid (aQ w w9):=by rw[←hw9];exact(aQ.of KY.out).trans S9.out.2
  clear hw9
  (try dsimp only [Act.put])
  have c13:w9.cell? ⟨Γ.wb,13,none⟩=some (.slice CA W.cells.length cc):=L9.out.own HK.out 0
  obtain⟨i0,hi0,hq⟩:=Option.map_eq_some_iff.1 rR
  simp only[Prod.mk.injEq] at hq
  obtain⟨hz,hz1,hz2⟩:=hq
  obtain⟨z,hz0,hz3⟩:=Option.map_eq_some_iff.1 hz
  have HI:=hI hi0
  have HZ:=hI hz0
  have HZ1:=hI hz1
  have HZ2:=hI hz2
  have HZ3:=hI hz3
  clear hi0 hz0 hz1 hz2 hz3 hz
  obtain⟨wa,hwa⟩:∃wa,wa=w9.alloc (.cells #[.int .i64 kind,.int .i64 0,.slice none 0 0,.slice none 0 0] 55):=⟨_,rfl⟩
  have KA:Hid (Below w9.heap.size w9 wa):=by rw[hwa];exact aB _ _
  have BA:Hid (wa.heap[w9.heap.size]? = some (.cells #[.int .i64 kind,.int .i64 0,.slice none 0 0,.slice none 0 0] 55 (0,0))):=by rw[hwa];exact aJ _ _
  have LA:=hI (L9.out.below HK.out KA.out)
  have HWA:=hI hwa
  obtain⟨xs,hxs⟩:∃xs,(cK W.cells vs fs).flatMap id=xs:=⟨_,rfl⟩
  have CR:Hid (wa.ownsRow Γ.B 55 4 (.slice CA W.cells.length cc) W.cells.length xs):=by rw[←hxs];exact LA.out.crow
  have HXS:=hI hxs
  clear hxs
  have hbz : Γ.B≤wa.heap.size:=Nat.le_trans HK.out.b1 LA.out.size
  clear hwa
  go_wp2_with (first | (at_builtin;rw[←HWA.out];refine oD rfl _ _ 35 rfl Γ.B 55 i0 z 4 64 Tryz.underlying35 HI.out HZ.out HZ1.out HZ2.out HZ3.out (by decide) (.slice CA W.cells.length cc) W.cells.length xs rfl CR.out ⟨w9.heap.size,0,none⟩ 1 1 [.int .i64 kind,.int .i64 0,.slice none 0 0,.slice none 0 0] rfl rfl (World.news_of_block (cs:=#[.int .i64 kind,.int .i64 0,.slice none 0 0,.slice none 0 0]) BA.out) ?k2 ?k3 ?k4 hbz ?_) | fail)
  case k2=>intro u hu;simp at hu;rcases hu with rfl | rfl | rfl <;> rfl
  case k3=>unfold maxLen;omega
  case k4=>omega
  intro v' w6 hown hg hbb0
  obtain⟨A',c',rfl⟩:=bV hown
  have HBB:=hI hbb0
  clear hbb0
  have hrow:w6.heap[Γ.wb]? = some (.cells ⟨Γ.tcs++[.slice CA W.cells.length cc,Γ.shv,.pointer (some ⟨Γ.fb,Γ.fo,none⟩),.int .i64 W.steps,vv]⟩ 85 (0,0)):=by
   refine(hg.block _ (aV LA.out.row) (fun e=>?_)).trans LA.out.row
   obtain⟨cs,h⟩:=aX LA.out.crow e.symm
   exact bJ LA.out.row h (by decide) rfl
  have HROW:=hI hrow
  have OWN:=hI hown
  have GR:=hI hg
  have t13:w6.cell? ⟨Γ.wb,13,none⟩=some (.slice CA W.cells.length cc):=by
   rw[cell_of_row w6 _ 13 _ _ _ hrow]
   refine(List.getElem?_toArray ..).trans ?_
   rw[List.getElem?_append_right (by rw[HK.out.tl];omega),HK.out.tl]
   rfl
  have f13:=frozen_of_row w6 _ 13 _ _ hrow
  clear hrow hown hg c13
  go_wp2_with fail
  generalize hw7:World.setCell _ _ _=w7
  have R7:Hid (w7.heap[Γ.wb]? = some (.cells ⟨Γ.tcs++[.slice A' (W.cells.length+1) c',Γ.shv,.pointer (some ⟨Γ.fb,Γ.fo,none⟩),.int .i64 W.steps,vv]⟩ 85 (0,0))):=by
   rw[←hw7,heap_setCell_same _ _ _ _ _ _ HROW.out]
   have:(Γ.tcs++[.slice CA W.cells.length cc,Γ.shv,.pointer (some ⟨Γ.fb,Γ.fo,none⟩),.int .i64 W.steps,vv]).set 13 (.slice A' (W.cells.length+1) c') = Γ.tcs++[.slice A' (W.cells.length+1) c',Γ.shv,.pointer (some ⟨Γ.fb,Γ.fo,none⟩),.int .i64 W.steps,vv]:=by
    rw[List.set_append_right _ _ (by rw[HK.out.tl];omega),HK.out.tl];rfl
   show some (Obj.cells ((_:Array Value).setIfInBounds 13 _) _ _)=_
   rw[←this]
   simp
  have ON:Hid (cA (fun k=>(Value.slice CA W.cells.length cc).ownBlock=some k∨k = Γ.wb) wa w7):=by
   rw[←hw7]
   exact(cA.grown cA.refl GR.out (fun k hk=>.inl hk)).set (.inr rfl) _ _
  have C7:Hid (w7.ownsRow Γ.B 55 4 (.slice A' (W.cells.length+1) c') (W.cells.length+1) ((cK W.cells vs fs).flatMap id++bD ⟨kind,0,[],[]⟩ (.slice none 0 0) (.slice none 0 0))):=by
   rw[←hw7,HXS.out]
   exact gI OWN.out HROW.out (by decide) _ _
  have hbb:Hid (∀g,(Value.slice A' (W.cells.length+1) c').ownBlock=some g→(Value.slice CA W.cells.length cc).ownBlock=some g∨wa.heap.size≤g):=fun q hq=>by
   exact HBB.out q hq
  have L7:=hI (LA.out.snoc HK.out ⟨hk,by unfold wfi;omega⟩ ON.out R7.out C7.out hbb.out)
  have K7:Hid (aQ w w7):=(K9.out.trans (aQ.of KA.out)).trans (aeC ON.out (fun k _ hk=>by
   rcases hk with hk | rfl
   ·obtain⟨cs,h⟩:=aX LA.out.crow hk
    exact⟨cs,_,h,.inr (.inr (.inl rfl))⟩
   ·exact⟨_,_,LA.out.row,.inl rfl⟩))
  clear hw7 t13 f13
  go_wp2_with fail
  go_ret
  exact⟨rfl,⟨_,_,_,_,L7.out⟩,K7.out⟩
end
end
end Go.Proofs.YtjaphgpkkfdaaaaGreatDoor
