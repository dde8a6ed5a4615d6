/- A part of the walk. -/
import Derived.Test.YtjaphgpkkfdaaaaGreatDoorZT
import Derived.Laws.FloatArith
set_option maxHeartbeats 16000000
set_option maxRecDepth 100000
set_option linter.all false
namespace Go.Proofs.YtjaphgpkkfdaaaaGreatDoor
open Tryz
section
open Go.RowKit
def nZ (cv:Value) (W:aI) (i:Int):Option Addr:=(eF W i).bind λp=>cv.ownBlock.map λg=>⟨g,p.1*4,none⟩
theorem fR {W:aI} {i:Nat} {x:Val} (h:W.vals[i]? = some x):cX W i=x:=by unfold cX;rw[Int.toNat_natCast,h];rfl
theorem nY {Γ : kI} {w:World} {W:aI} {N vv:Value} {vs fs:List Value} (K:hP Γ) (L:bO Γ w W N vv vs fs) {i:Nat} {x:Val} (D:W.vals[i]? = some x) (hl:W.cells.length<=300) : Calls prog 149 #[.pointer (some ⟨Γ.wb,0,none⟩),.int .i64 (i:Int)] w λe w'=>e=.returned (.pointer (nZ N W i))/\Below w.heap.size w w':=by
 have c2:i<W.vals.length:=(lE D).1;obtain⟨g,X,rfl,-,-⟩:=L.vals.form (by omega);have c3:w.cell? ⟨Γ.wb,17,none⟩=some (.slice (some ⟨g,0,none⟩) W.vals.length X):=L.own K 4;have F:w.cell? ⟨Γ.wb,13,none⟩=some N:=L.own K 0;have c5:i*2+2<=W.vals.length*2:=by omega
 have g0:w.cell? ⟨g,i*2,none⟩=some (.int .i64 x.kind):=by rw[L.vals.cellAt (i*2) (by omega)];exact bS D (k:=0) (by decide)
 have g1:w.cell? ⟨g,i*2+1,none⟩=some (.int .i64 x.n):=by rw[L.vals.cellAt (i*2+1) (by omega)];exact bS D (k:=1) (by decide)
 obtain⟨Y,I,rfl⟩:=bV L.crow;have c6:=(L.vals.lt g rfl).2;have c7:=aV L.row;have c8:(i:Int)<W.vals.length:=by omega
 obtain⟨w1,m⟩:∃w1,w1=w.alloc (.cells #[.int .i64 x.kind,.int .i64 x.n] 48):=⟨_,rfl⟩;have s:Hid (Below w.heap.size w w1):=by rw[m];exact aB _ _
 have u:Hid (aA w1 w.heap.size [.int .i64 x.kind,.int .i64 x.n]):=by rw[m];exact ad5 _ _ _
 have O:=hI m;clear m;unfold nZ eF;rw[fR D];obtain⟨r,J⟩:∃r:Option Addr,((if x.kind=5/\0<=x.n then(W.cells[x.n.toNat]?).map (λc=>(x.n.toNat,c)) else none).bind λp=>(Value.slice Y W.cells.length I).ownBlock.map λg=>⟨g,p.1*4,none⟩)=r:=⟨_,rfl⟩;rw[J];have z:=hI J;clear J;have HL:=hI L;have HK:=hI K;clear L K;have A:=ecZ (u.o 0 _ rfl);have v:=ecZ (u.o 1 _ rfl);have C:∀E:Up w1,E.to.cell? ⟨Γ.wb,13,none⟩=some (.slice Y W.cells.length I):=λE=>E.cell (aC s.o F);go_enter func149,ntmps149;go_upto_region 2 with fail;rw[<-O.o];clear g0 g1;refine aD (by kernel_rfl) (by kernel_rfl) ?_;repeat (go_big_quiet_step (fail))
 obtain⟨b1,d⟩:∃b:Bool,(x.kind == 5)=b:=⟨_,rfl⟩;rw[d];cases b1
 case false=>
  have y:Hid (none=r):=by show _=_;rw[<-z.o,if_neg (λh=>by rw[h.1] at d;cases d)];rfl
  repeat (go_big_quiet_step (fail))
  refine wpQuiet_nil ?_;rintro _ ⟨E,rfl⟩;have l:=btZ s E.below;clear A v C;go_wp2_with fail;go_ret;exact⟨by rw[<-y.o];rfl,l.o⟩
 have G:x.kind=5:=by simpa using d
 repeat (go_big_quiet_step (fail))
 obtain⟨b2,f⟩:∃b:Bool,(decide (0<=x.n))=b:=⟨_,rfl⟩;rw[f];cases b2
 case false=>
  have y:Hid (none=r):=by show _=_;rw[<-z.o,if_neg (λh=>by rw[decide_eq_true h.2] at f;cases f)];rfl
  repeat (go_big_quiet_step (fail))
  refine wpQuiet_nil ?_;rintro _ ⟨E,rfl⟩;have l:=btZ s E.below;clear A v C;go_wp2_with fail;go_ret;exact⟨by rw[<-y.o];rfl,l.o⟩
 have H:0<=x.n:=of_decide_eq_true f;obtain⟨n,j⟩:∃n:Nat,x.n=(n:Int):=⟨x.n.toNat,by omega⟩;rw[j] at v;repeat (go_big_quiet_step (fail))
 obtain⟨b3,q⟩:∃b:Bool,(decide (n<W.cells.length))=b:=⟨_,rfl⟩;rw[q];cases b3
 case false=>
  have y:Hid (none=r):=by show _=_;rw[<-z.o,if_pos ⟨G,H⟩,j,Int.toNat_natCast,List.getElem?_eq_none (Nat.le_of_not_lt (of_decide_eq_false q))];rfl
  repeat (go_big_quiet_step (fail))
  refine wpQuiet_nil ?_;rintro _ ⟨E,rfl⟩;have l:=btZ s E.below;clear A v C;go_wp2_with fail;go_ret;exact⟨by rw[<-y.o];rfl,l.o⟩
 have P:n<W.cells.length:=of_decide_eq_true q;obtain⟨Z,b5,a3,-,d0⟩:=HL.o.crow.form (by omega);injection a3 with e1 e2 e3
 subst e1;have HY:Hid (some (⟨Z,n*4,none⟩:Addr)=r):=by show _=_;rw[<-z.o,if_pos ⟨G,H⟩,j,Int.toNat_natCast,lG P];rfl
 have c9:(n:Int)<W.cells.length:=by omega
 repeat (go_big_quiet_step (fail))
 refine wpQuiet_nil ?_;rintro _ ⟨E,rfl⟩;obtain⟨w2,M⟩:=E;dsimp only;have R:=btZ s M;have S:∀E:Up w2,E.to.cell? ⟨w.heap.size,1,none⟩=some (.int .i64 n):=λE=>E.cell (aC M (by rw[<-j];exact u.o 1 _ rfl));have V:∀E:Up w2,E.to.cell? ⟨Γ.wb,13,none⟩=some (.slice (some ⟨Z,0,none⟩) W.cells.length I):=λE=>E.cell (aC R.o F);clear A v C M H G j d f q;go_upto_region 3 with fail;refine aD (by kernel_rfl) (by kernel_rfl) ?_;repeat (go_big_quiet_step (fail))
 refine wpQuiet_nil ?_;rintro _ ⟨E,rfl⟩;have l:=btZ R E.below;clear S V;go_wp2_with fail;go_ret;exact⟨by rw[<-HY.o];rfl,l.o⟩
end
section
open Go.RowKit Go.IntWalk
def kZ:Int:=9221120237041090561
theorem aaU (x y t:Nat):(FloatKind.f64.format.order ((Question.nanBits .f64 x y).cut t) ((Question.nanBits .f64 x y).cut t) == some .eq)=false:=by
 have h:∃s f,FloatKind.f64.format.read ((Question.nanBits .f64 x y).cut t)=.nan s f:=by
  unfold Ieee.Format.read;dsimp only;have d:FloatKind.f64.format.signWeight=2 ^ 63:=by kernel_rfl
  have g:FloatKind.f64.format.infRung=0x7ff0000000000000:=by kernel_rfl
  have i:FloatKind.f64.format.binade=2 ^ 52:=by kernel_rfl
  have j:(Question.nanBits .f64 x y).cut t=(t % 2)*2 ^ 63+0x7ff0000000000000+1+(t / 2) % (2 ^ 52 - 1):=rfl;rw[d,g,i,j];have l:t % 2=0\/t % 2=1:=by omega
  have m:(t / 2) % (2 ^ 52 - 1)<2 ^ 52 - 1:=Nat.mod_lt _ (by decide);generalize (t / 2) % (2 ^ 52 - 1)=u at m;rcases l with e | e <;> rw[e,if_neg (by omega),if_neg (by omega),if_neg (by omega)] <;> exact⟨_,_,rfl⟩
 obtain⟨s,f,h⟩:=h;unfold Ieee.Format.order;rw[h];rfl
theorem iL {P:Program} (op:BinOp) (t:TypeId) (x y:Nat) (d:op=.add\/op=.sub\/op=.mul\/op=.quo) (w:World) :
  (∃r,floatBits op .f64 x y=some r/\(binOp op t (.float .f64 x) (.float .f64 y)).run P w=.ok (.float .f64 r) w)\/
  (floatBits op .f64 x y=none/\∃b,(FloatKind.f64.format.order b b == some .eq)=false/\(binOp op t (.float .f64 x) (.float .f64 y)).run P w=.ok (.float .f64 b) w.drew):=by
 cases h:floatBits op .f64 x y with
 | some r=>exact .inl ⟨r,rfl,run_float_arith w op t .f64 x y r h⟩
 | none=>
  refine .inr ⟨rfl,(Question.nanBits .f64 x y).cut (w.tape w.drawn (Question.nanBits .f64 x y)),aaU x y _,?_⟩
  unfold floatBits at h
  rcases d with rfl | rfl | rfl | rfl <;> simp only at h <;> simp[binOp,Op.floatArith,h] <;> (intro hf;cases hf)
def ofM (b:Nat):Val:=if FloatKind.f64.format.order b b == some .eq then⟨3,wrap64 b⟩ else⟨3,kZ⟩
def cP (b:Bool):Val:=if b then⟨1,1⟩ else⟨1,0⟩
def dD (v:Val):Val:=if aG v then v else⟨0,0⟩
def lF (v:Val):Bool:=(dD v).kind != 0 && !((dD v).kind == 1 && (dD v).n == 0)
def dS (n:Int):Val×Int:=if aK n (-2147483648) 2147483647 then(⟨2,n⟩,-1) else(⟨0,0⟩,1)
def eA (op:Int) (lt le:Bool):Val×Int:=if op=9 then(cP lt,-1) else if op=10 then(cP le,-1) else(⟨0,0⟩,0)
def gR (op a b:Int):Val×Int:=
 if op=3 then dS (wrap64 (a+b)) else if op=4 then dS (wrap64 (a - b)) else if op=5 then dS (wrap64 (a*b))
 else if op=6\/op=7 then(if b=0 then(⟨0,0⟩,2) else if op=6 then dS (wrap64 (a.tdiv b)) else dS (a.tmod b))
 else eA op (decide (a<b)) (decide (a<=b))
def ofB (op:BinOp) (x y:Nat):Val:=match floatBits op .f64 x y with | some r=>ofM r | none=>⟨3,kZ⟩
def ltF (x y:Nat):Bool:=FloatKind.f64.format.order x y == some .lt
def eqF (x y:Nat):Bool:=FloatKind.f64.format.order x y == some .eq
def lI (op:Int) (x y:Nat):Val×Int:=
 if op=3 then(ofB .add x y,-1) else if op=4 then(ofB .sub x y,-1) else if op=5 then(ofB .mul x y,-1) else if op=6 then(ofB .quo x y,-1)
 else if op=8 then(cP (eqF x y),-1) else eA op (ltF x y) (ltF x y || eqF x y)
def o4 (op:Int) (v:Val):Val×Int:=
 if op=11 then(cP (!lF (dD v)),-1)
 else if op=12/\(dD v).kind=2 then dS (wrap64 (-(dD v).n))
 else if op=12/\(dD v).kind=3 then(ofM (Op.negFloat .f64 (nI (dD v).n)),-1)
 else(⟨0,0⟩,0)
def mU (op:Int) (u v:Val):Val×Int:=
 if(dD u).kind=3/\(dD v).kind=3 then lI op (nI (dD u).n) (nI (dD v).n)
 else if op=8 then(cP ((dD u).kind == (dD v).kind && (dD u).n == (dD v).n),-1)
 else if(dD u).kind=2/\(dD v).kind=2 then gR op (dD u).n (dD v).n
 else(⟨0,0⟩,0)
def bB (r:Val×Int) (w:World):Ending->World->Prop:=aM (.tuple #[.agg #[.int .i64 r.1.kind,.int .i64 r.1.n],.int .i64 r.2]) w
theorem aF:(prog.info? 48).map (·.size)=some 2:=by kernel_rfl
theorem fO (b:Bool) (w:World):Calls prog 171 #[.bool b] w (aM (.agg #[.int .i64 (cP b).kind,.int .i64 (cP b).n]) w):=by
 unfold cP;cases b
 ·simp only[↓reduceIte,Bool.false_eq_true];obtain⟨d,e⟩:∃d,d=w.alloc (.cells #[.int .i64 0,.int .i64 0] 48):=⟨_,rfl⟩;have m:Hid (Below w.heap.size w d):=by rw[e];exact aB _ _
  have g:Hid (d.heap[w.heap.size]? = some (.cells #[.int .i64 0,.int .i64 0] 48 (0,0))):=by rw[e];exact aJ _ _
  have h:w.heap.size<d.heap.size:=(aE g.o).1;have p:=hI e;clear e;go_enter func171,ntmps171;go_upto_region 1 with fail;rw[<-p.o];have i:Hid (Below d.heap.size d d):=Below.refl _ _;have j:=hI ((i.o.block _ h).trans g.o);have q:=btZ m i.o;go_wp2_with (refine wpList_store_row rfl 48 _ _ rfl (w.heap.size) #[.int .i64 1,.int .i64 0] rfl rfl 48 _ j.o aF rfl (oC (by simp[Value.oneCell'])) ?_);generalize f:World.setRow _ _ _=w9;have l:=shZ f j;have r:Hid (Below w.heap.size w w9):=by rw[<-f];exact Below.set_row q.o (by omega) _
  clear f;go_wp2_with fail;have q0:=crZ l 0 rfl;have q1:=crZ l 1 rfl;refine bodyPost_ret (v:=(.agg #[.int .i64 1,.int .i64 0])) (by simp[results,results171,go_sem,q0,q1]) rfl ⟨rfl,r.o⟩
 ·simp only[↓reduceIte,Bool.false_eq_true];obtain⟨d,e⟩:∃d,d=w.alloc (.cells #[.int .i64 0,.int .i64 0] 48):=⟨_,rfl⟩;have m:Hid (Below w.heap.size w d):=by rw[e];exact aB _ _
  have g:Hid (d.heap[w.heap.size]? = some (.cells #[.int .i64 0,.int .i64 0] 48 (0,0))):=by rw[e];exact aJ _ _
  have h:w.heap.size<d.heap.size:=(aE g.o).1;have p:=hI e;clear e;go_enter func171,ntmps171;go_upto_region 1 with fail;rw[<-p.o];have i:Hid (Below d.heap.size d d):=Below.refl _ _;have j:=hI ((i.o.block _ h).trans g.o);have q:=btZ m i.o;go_wp2_with (refine wpList_store_row rfl 48 _ _ rfl (w.heap.size) #[.int .i64 1,.int .i64 1] rfl rfl 48 _ j.o aF rfl (oC (by simp[Value.oneCell'])) ?_);generalize f:World.setRow _ _ _=w9;have l:=shZ f j;have r:Hid (Below w.heap.size w w9):=by rw[<-f];exact Below.set_row q.o (by omega) _
  clear f;go_wp2_with fail;have q0:=crZ l 0 rfl;have q1:=crZ l 1 rfl;refine bodyPost_ret (v:=(.agg #[.int .i64 1,.int .i64 1])) (by simp[results,results171,go_sem,q0,q1]) rfl ⟨rfl,r.o⟩
theorem iN (n:Int) (w:World):Calls prog 173 #[.int .i64 n] w (bB (⟨0,0⟩,n) w):=by
 unfold bB;try dsimp only
 obtain⟨d,e⟩:∃d,d=w.alloc (.cells #[.int .i64 0,.int .i64 0] 48):=⟨_,rfl⟩;have m:Hid (Below w.heap.size w d):=by rw[e];exact aB _ _
 have g:Hid (d.heap[w.heap.size]? = some (.cells #[.int .i64 0,.int .i64 0] 48 (0,0))):=by rw[e];exact aJ _ _
 have h:w.heap.size<d.heap.size:=(aE g.o).1;have p:=hI e;clear e;go_enter func173,ntmps173;go_upto_region 1 with fail;rw[<-p.o];have i:Hid (Below d.heap.size d d):=Below.refl _ _;have j:=hI ((i.o.block _ h).trans g.o);have q:=btZ m i.o;go_wp2_with (refine wpList_store_row rfl 48 _ _ rfl (w.heap.size) #[.int .i64 0,.int .i64 0] rfl rfl 48 _ j.o aF rfl (oC (by simp[Value.oneCell'])) ?_);generalize f:World.setRow _ _ _=w9;have l:=shZ f j;have r:Hid (Below w.heap.size w w9):=by rw[<-f];exact Below.set_row q.o (by omega) _
 clear f;go_wp2_with fail;have q0:=crZ l 0 rfl;have q1:=crZ l 1 rfl;refine bodyPost_ret (v:=(.tuple #[.agg #[.int .i64 0,.int .i64 0],.int .i64 n])) (by simp[results,results173,go_sem,q0,q1]) rfl ⟨rfl,r.o⟩
theorem kM (n:Int) (w:World):Calls prog 174 #[.int .i64 n] w (bB (dS n) w):=by
 unfold dS bB;cases h:aK n (-2147483648) 2147483647
 ·simp only[↓reduceIte,Bool.false_eq_true];try dsimp only
  have H:=hI h;obtain⟨d,f⟩:∃d,d=w.alloc (.cells #[.int .i64 0,.int .i64 0] 48):=⟨_,rfl⟩;have q:Hid (Below w.heap.size w d):=by rw[f];exact aB _ _
  have i:Hid (d.heap[w.heap.size]? = some (.cells #[.int .i64 0,.int .i64 0] 48 (0,0))):=by rw[f];exact aJ _ _
  have j:w.heap.size<d.heap.size:=(aE i.o).1;have r:=hI f;clear f;go_enter func174,ntmps174;go_upto_region 1 with fail;rw[<-r.o];go_wp2_with fail;refine(kL _ _ _ _).mono ?_;rw[H.o];rintro e w1 ⟨rfl,rfl⟩;go_wp2_with fail;refine(iN _ _).mono ?_;rintro e y ⟨rfl,x⟩;have l:=hI x;clear x;have m:=hI ((l.o.block _ j).trans i.o);have s:=btZ q l.o;go_wp2_with (refine wpList_store_row rfl 48 _ _ rfl (w.heap.size) #[.int .i64 0,.int .i64 0] rfl rfl 48 _ m.o aF rfl (oC (by simp[Value.oneCell'])) ?_);generalize g:World.setRow _ _ _=w9;have p:=shZ g m;have u:Hid (Below w.heap.size w w9):=by rw[<-g];exact Below.set_row s.o (by omega) _
  clear g;go_wp2_with fail;have q0:=crZ p 0 rfl;have q1:=crZ p 1 rfl;refine bodyPost_ret (v:=(.tuple #[.agg #[.int .i64 0,.int .i64 0],.int .i64 1])) (by simp[results,results174,go_sem,q0,q1]) rfl ⟨rfl,u.o⟩
 ·simp only[↓reduceIte,Bool.false_eq_true];try dsimp only
  have H:=hI h;obtain⟨d,f⟩:∃d,d=w.alloc (.cells #[.int .i64 0,.int .i64 0] 48):=⟨_,rfl⟩;have q:Hid (Below w.heap.size w d):=by rw[f];exact aB _ _
  have i:Hid (d.heap[w.heap.size]? = some (.cells #[.int .i64 0,.int .i64 0] 48 (0,0))):=by rw[f];exact aJ _ _
  have j:w.heap.size<d.heap.size:=(aE i.o).1;have r:=hI f;clear f;go_enter func174,ntmps174;go_upto_region 1 with fail;rw[<-r.o];go_wp2_with fail;refine(kL _ _ _ _).mono ?_;rw[H.o];rintro e w1 ⟨rfl,rfl⟩;have l:Hid (Below d.heap.size d d):=Below.refl _ _;have m:=hI ((l.o.block _ j).trans i.o);have s:=btZ q l.o;go_wp2_with (refine wpList_store_row rfl 48 _ _ rfl (w.heap.size) #[.int .i64 2,.int .i64 n] rfl rfl 48 _ m.o aF rfl (oC (by simp[Value.oneCell'])) ?_);generalize g:World.setRow _ _ _=w9;have p:=shZ g m;have u:Hid (Below w.heap.size w w9):=by rw[<-g];exact Below.set_row s.o (by omega) _
  clear g;go_wp2_with fail;have q0:=crZ p 0 rfl;have q1:=crZ p 1 rfl;refine bodyPost_ret (v:=(.tuple #[.agg #[.int .i64 2,.int .i64 n],.int .i64 (-1)])) (by simp[results,results174,go_sem,q0,q1]) rfl ⟨rfl,u.o⟩
theorem oN (b:Nat) (w:World):Calls prog 175 #[.float .f64 b] w (aM (.agg #[.int .i64 (ofM b).kind,.int .i64 (ofM b).n]) w):=by
 unfold ofM kZ;cases h:(FloatKind.f64.format.order b b == some .eq)
 ·simp only[↓reduceIte,Bool.false_eq_true];have r:(FloatKind.f64.format.order b b != some .eq)=true:=by unfold bne;rw[h];rfl
  obtain⟨d,f⟩:∃d,d=w.alloc (.cells #[.int .i64 0,.int .i64 0] 48):=⟨_,rfl⟩;have s:Hid (Below w.heap.size w d):=by rw[f];exact aB _ _
  have i:Hid (d.heap[w.heap.size]? = some (.cells #[.int .i64 0,.int .i64 0] 48 (0,0))):=by rw[f];exact aJ _ _
  have j:w.heap.size<d.heap.size:=(aE i.o).1;have u:=hI f;clear f;go_enter func175,ntmps175;go_upto_region 1 with fail;rw[<-u.o];have l:Hid (Below d.heap.size d d):=Below.refl _ _;have p:=hI ((l.o.block _ j).trans i.o);have x:=btZ s l.o;go_wp2_with (refine wpList_store_row rfl 48 _ _ rfl (w.heap.size) #[.int .i64 3,.int .i64 9221120237041090561] rfl rfl 48 _ p.o aF rfl (oC (by simp[Value.oneCell'])) ?_);generalize g:World.setRow _ _ _=w9;have q:=shZ g p;have y:Hid (Below w.heap.size w w9):=by rw[<-g];exact Below.set_row x.o (by omega) _
  clear g;go_wp2_with fail;have q0:=crZ q 0 rfl;have q1:=crZ q 1 rfl;refine bodyPost_ret (v:=(.agg #[.int .i64 3,.int .i64 9221120237041090561])) (by simp[results,results175,go_sem,q0,q1]) rfl ⟨rfl,y.o⟩
 ·simp only[↓reduceIte];have r:(FloatKind.f64.format.order b b != some .eq)=false:=by unfold bne;rw[h];rfl
  go_enter func175,ntmps175;go_wp2;rw[run_callFunc_extern func185 (by kernel_rfl) (by kernel_rfl) (by kernel_rfl) (e:=Extern.MathFloatBits.float64bits) (by kernel_rfl)];rw[show ∀(m:Nat) (W:World),(Extern.MathFloatBits.float64bits #[.float .f64 m]).run prog W=.ok (.int .u64 m) W from λ_ _=>rfl];simp only[Result.andThen];rw[Oper.upon_value];go_wp2;refine bodyPost_ret (v:=.agg #[.int .i64 3,.int .i64 (wrap64 b)]) (by simp[results,results175,go_sem,bL]) rfl ⟨rfl,aB w _⟩
theorem aaS (op:Int) (x y:Nat) (w:World):Calls prog 183 #[.int .i64 op,.float .f64 x,.float .f64 y] w (bB (eA op (ltF x y) ((ltF x y || eqF x y))) w):=by
 unfold ltF eqF;unfold eA bB;by_cases G:op=9
 ·subst G;simp only[↓reduceIte,show ¬(10:Int)=9 from by decide];try dsimp only
  show Calls _ _ _ _ (aM (.tuple #[.agg #[.int .i64 (cP (FloatKind.f64.format.order x y == some .lt)).kind,.int .i64 (cP (FloatKind.f64.format.order x y == some .lt)).n],.int .i64 (-1)]) w);have q:=λW=>fO (FloatKind.f64.format.order x y == some .lt) W;generalize cP (FloatKind.f64.format.order x y == some .lt)=r at q ⊢;obtain⟨E,F⟩:=r;have u:=hI q;clear q;obtain⟨f,d⟩:∃f,f=w.alloc (.cells #[.int .i64 0,.int .i64 0] 48):=⟨_,rfl⟩;have z:Hid (Below w.heap.size w f):=by rw[d];exact aB _ _
  have h:Hid (f.heap[w.heap.size]? = some (.cells #[.int .i64 0,.int .i64 0] 48 (0,0))):=by rw[d];exact aJ _ _
  have i:w.heap.size<f.heap.size:=(aE h.o).1;have A:=hI d;clear d;go_enter func183,ntmps183;go_upto_region 1 with fail;rw[<-A.o];go_wp2_with fail;refine(u.o _).mono ?_;rintro e H ⟨rfl,p⟩;have j:=hI p;clear p;have l:=hI ((j.o.block _ i).trans h.o);have C:=btZ z j.o;go_wp2_with (refine wpList_store_row rfl 48 _ _ rfl (w.heap.size) #[.int .i64 E,.int .i64 F] rfl rfl 48 _ l.o aF rfl (oC (by simp[Value.oneCell'])) ?_);generalize g:World.setRow _ _ _=w9;have m:=shZ g l;have D:Hid (Below w.heap.size w w9):=by rw[<-g];exact Below.set_row C.o (by omega) _
  clear g;go_wp2_with fail;have q0:=crZ m 0 rfl;have q1:=crZ m 1 rfl;refine bodyPost_ret (v:=(.tuple #[.agg #[.int .i64 E,.int .i64 F],.int .i64 (-1)])) (by simp[results,results183,go_sem,q0,q1]) rfl ⟨rfl,D.o⟩
 by_cases s:op=10
 ·subst s;clear G;simp only[↓reduceIte,show ¬(10:Int)=9 from by decide];try dsimp only
  show Calls _ _ _ _ (aM (.tuple #[.agg #[.int .i64 (cP ((FloatKind.f64.format.order x y == some .lt || FloatKind.f64.format.order x y == some .eq))).kind,.int .i64 (cP ((FloatKind.f64.format.order x y == some .lt || FloatKind.f64.format.order x y == some .eq))).n],.int .i64 (-1)]) w);have q:=λW=>fO ((FloatKind.f64.format.order x y == some .lt || FloatKind.f64.format.order x y == some .eq)) W;generalize cP ((FloatKind.f64.format.order x y == some .lt || FloatKind.f64.format.order x y == some .eq))=r at q ⊢;obtain⟨E,F⟩:=r;have u:=hI q;clear q;obtain⟨f,d⟩:∃f,f=w.alloc (.cells #[.int .i64 0,.int .i64 0] 48):=⟨_,rfl⟩;have z:Hid (Below w.heap.size w f):=by rw[d];exact aB _ _
  have h:Hid (f.heap[w.heap.size]? = some (.cells #[.int .i64 0,.int .i64 0] 48 (0,0))):=by rw[d];exact aJ _ _
  have i:w.heap.size<f.heap.size:=(aE h.o).1;have A:=hI d;clear d;go_enter func183,ntmps183;go_upto_region 1 with fail;rw[<-A.o];go_wp2_with fail;refine(u.o _).mono ?_;rintro e H ⟨rfl,p⟩;have j:=hI p;clear p;have l:=hI ((j.o.block _ i).trans h.o);have C:=btZ z j.o;go_wp2_with (refine wpList_store_row rfl 48 _ _ rfl (w.heap.size) #[.int .i64 E,.int .i64 F] rfl rfl 48 _ l.o aF rfl (oC (by simp[Value.oneCell'])) ?_);generalize g:World.setRow _ _ _=w9;have m:=shZ g l;have D:Hid (Below w.heap.size w w9):=by rw[<-g];exact Below.set_row C.o (by omega) _
  clear g;go_wp2_with fail;have q0:=crZ m 0 rfl;have q1:=crZ m 1 rfl;refine bodyPost_ret (v:=(.tuple #[.agg #[.int .i64 E,.int .i64 F],.int .i64 (-1)])) (by simp[results,results183,go_sem,q0,q1]) rfl ⟨rfl,D.o⟩
 rw[if_neg G,if_neg s];try dsimp only
 have J:(op == 9)=false:=bF G;have I:(op == 10)=false:=bF s;clear G s;obtain⟨f,d⟩:∃f,f=w.alloc (.cells #[.int .i64 0,.int .i64 0] 48):=⟨_,rfl⟩;have z:Hid (Below w.heap.size w f):=by rw[d];exact aB _ _
 have h:Hid (f.heap[w.heap.size]? = some (.cells #[.int .i64 0,.int .i64 0] 48 (0,0))):=by rw[d];exact aJ _ _
 have i:w.heap.size<f.heap.size:=(aE h.o).1;have A:=hI d;clear d;go_enter func183,ntmps183;go_upto_region 1 with fail;rw[<-A.o];go_wp2_with fail;refine(iN _ _).mono ?_;rintro e H ⟨rfl,p⟩;have j:=hI p;clear p;have l:=hI ((j.o.block _ i).trans h.o);have C:=btZ z j.o;go_wp2_with (refine wpList_store_row rfl 48 _ _ rfl (w.heap.size) #[.int .i64 0,.int .i64 0] rfl rfl 48 _ l.o aF rfl (oC (by simp[Value.oneCell'])) ?_);generalize g:World.setRow _ _ _=w9;have m:=shZ g l;have D:Hid (Below w.heap.size w w9):=by rw[<-g];exact Below.set_row C.o (by omega) _
 clear g;go_wp2_with fail;have q0:=crZ m 0 rfl;have q1:=crZ m 1 rfl;refine bodyPost_ret (v:=(.tuple #[.agg #[.int .i64 0,.int .i64 0],.int .i64 0])) (by simp[results,results183,go_sem,q0,q1]) rfl ⟨rfl,D.o⟩
theorem aaR (op:Int) (x y:Int) (w:World):Calls prog 184 #[.int .i64 op,.int .i64 x,.int .i64 y] w (bB (eA op (decide (x<y)) (decide (x<=y))) w):=by
 unfold eA bB;by_cases G:op=9
 ·subst G;simp only[↓reduceIte,show ¬(10:Int)=9 from by decide];try dsimp only
  show Calls _ _ _ _ (aM (.tuple #[.agg #[.int .i64 (cP (decide (x<y))).kind,.int .i64 (cP (decide (x<y))).n],.int .i64 (-1)]) w);have q:=λW=>fO (decide (x<y)) W;generalize cP (decide (x<y))=r at q ⊢;obtain⟨E,F⟩:=r;have u:=hI q;clear q;obtain⟨f,d⟩:∃f,f=w.alloc (.cells #[.int .i64 0,.int .i64 0] 48):=⟨_,rfl⟩;have z:Hid (Below w.heap.size w f):=by rw[d];exact aB _ _
  have h:Hid (f.heap[w.heap.size]? = some (.cells #[.int .i64 0,.int .i64 0] 48 (0,0))):=by rw[d];exact aJ _ _
  have i:w.heap.size<f.heap.size:=(aE h.o).1;have A:=hI d;clear d;go_enter func184,ntmps184;go_upto_region 1 with fail;rw[<-A.o];go_wp2_with fail;refine(u.o _).mono ?_;rintro e H ⟨rfl,p⟩;have j:=hI p;clear p;have l:=hI ((j.o.block _ i).trans h.o);have C:=btZ z j.o;go_wp2_with (refine wpList_store_row rfl 48 _ _ rfl (w.heap.size) #[.int .i64 E,.int .i64 F] rfl rfl 48 _ l.o aF rfl (oC (by simp[Value.oneCell'])) ?_);generalize g:World.setRow _ _ _=w9;have m:=shZ g l;have D:Hid (Below w.heap.size w w9):=by rw[<-g];exact Below.set_row C.o (by omega) _
  clear g;go_wp2_with fail;have q0:=crZ m 0 rfl;have q1:=crZ m 1 rfl;refine bodyPost_ret (v:=(.tuple #[.agg #[.int .i64 E,.int .i64 F],.int .i64 (-1)])) (by simp[results,results184,go_sem,q0,q1]) rfl ⟨rfl,D.o⟩
 by_cases s:op=10
 ·subst s;clear G;simp only[↓reduceIte,show ¬(10:Int)=9 from by decide];try dsimp only
  show Calls _ _ _ _ (aM (.tuple #[.agg #[.int .i64 (cP (decide (x<=y))).kind,.int .i64 (cP (decide (x<=y))).n],.int .i64 (-1)]) w);have q:=λW=>fO (decide (x<=y)) W;generalize cP (decide (x<=y))=r at q ⊢;obtain⟨E,F⟩:=r;have u:=hI q;clear q;obtain⟨f,d⟩:∃f,f=w.alloc (.cells #[.int .i64 0,.int .i64 0] 48):=⟨_,rfl⟩;have z:Hid (Below w.heap.size w f):=by rw[d];exact aB _ _
  have h:Hid (f.heap[w.heap.size]? = some (.cells #[.int .i64 0,.int .i64 0] 48 (0,0))):=by rw[d];exact aJ _ _
  have i:w.heap.size<f.heap.size:=(aE h.o).1;have A:=hI d;clear d;go_enter func184,ntmps184;go_upto_region 1 with fail;rw[<-A.o];go_wp2_with fail;refine(u.o _).mono ?_;rintro e H ⟨rfl,p⟩;have j:=hI p;clear p;have l:=hI ((j.o.block _ i).trans h.o);have C:=btZ z j.o;go_wp2_with (refine wpList_store_row rfl 48 _ _ rfl (w.heap.size) #[.int .i64 E,.int .i64 F] rfl rfl 48 _ l.o aF rfl (oC (by simp[Value.oneCell'])) ?_);generalize g:World.setRow _ _ _=w9;have m:=shZ g l;have D:Hid (Below w.heap.size w w9):=by rw[<-g];exact Below.set_row C.o (by omega) _
  clear g;go_wp2_with fail;have q0:=crZ m 0 rfl;have q1:=crZ m 1 rfl;refine bodyPost_ret (v:=(.tuple #[.agg #[.int .i64 E,.int .i64 F],.int .i64 (-1)])) (by simp[results,results184,go_sem,q0,q1]) rfl ⟨rfl,D.o⟩
 rw[if_neg G,if_neg s];try dsimp only
 have J:(op == 9)=false:=bF G;have I:(op == 10)=false:=bF s;clear G s;obtain⟨f,d⟩:∃f,f=w.alloc (.cells #[.int .i64 0,.int .i64 0] 48):=⟨_,rfl⟩;have z:Hid (Below w.heap.size w f):=by rw[d];exact aB _ _
 have h:Hid (f.heap[w.heap.size]? = some (.cells #[.int .i64 0,.int .i64 0] 48 (0,0))):=by rw[d];exact aJ _ _
 have i:w.heap.size<f.heap.size:=(aE h.o).1;have A:=hI d;clear d;go_enter func184,ntmps184;go_upto_region 1 with fail;rw[<-A.o];go_wp2_with fail;refine(iN _ _).mono ?_;rintro e H ⟨rfl,p⟩;have j:=hI p;clear p;have l:=hI ((j.o.block _ i).trans h.o);have C:=btZ z j.o;go_wp2_with (refine wpList_store_row rfl 48 _ _ rfl (w.heap.size) #[.int .i64 0,.int .i64 0] rfl rfl 48 _ l.o aF rfl (oC (by simp[Value.oneCell'])) ?_);generalize g:World.setRow _ _ _=w9;have m:=shZ g l;have D:Hid (Below w.heap.size w w9):=by rw[<-g];exact Below.set_row C.o (by omega) _
 clear g;go_wp2_with fail;have q0:=crZ m 0 rfl;have q1:=crZ m 1 rfl;refine bodyPost_ret (v:=(.tuple #[.agg #[.int .i64 0,.int .i64 0],.int .i64 0])) (by simp[results,results184,go_sem,q0,q1]) rfl ⟨rfl,D.o⟩
end
section
open Go.RowKit
structure aQ (w w':World):Prop where
 os:w'.os=w.os
 tape:w'.tape=w.tape
 output:w'.output=w.output
 size:w.heap.size<=w'.heap.size
 block:∀(k:Nat) (cs:Array Value) (e:TypeId) (fr:Nat×Nat),w.heap[k]? = some (.cells cs e fr)->e≠85->e≠61->e≠55->e≠48->w'.heap[k]? = w.heap[k]?
theorem aQ.refl (w:World):aQ w w:=⟨rfl,rfl,rfl,Nat.le_refl _,λ_ _ _ _ _ _ _ _ _=>rfl⟩
theorem aQ.trans {a b c:World} (h:aQ a b) (g:aQ b c):aQ a c:=
 ⟨g.os.trans h.os,g.tape.trans h.tape,g.output.trans h.output,Nat.le_trans h.size g.size,λk cs e d f i j l m=>by
  have:=h.block k cs e d f i j l m
  exact(g.block k cs e d (this.trans f) i j l m).trans this⟩
theorem aQ.of {w w':World} (h:Below w.heap.size w w'):aQ w w':=⟨h.os,h.tape,h.output,h.size,λk cs e f d _ _ _ _=>h.block k (aV d)⟩
theorem aeC {T:Nat->Prop} {w w':World} (h:cA T w w') (m:∀k,k<w.heap.size->T k->∃cs e,w.heap[k]? = some (.cells cs e (0,0))/\(e=85\/e=61\/e=55\/e=48)):aQ w w':=
 ⟨h.os,h.tape,h.output,h.size,λk cs e r f g i j l=>h.block k (aV f) (λht=>by
  obtain⟨p,q,d,h6⟩:=m k (aV f) ht
  rw[f] at d;injection d with d;injection d with _ d
  subst d
  rcases h6 with h6 | h6 | h6 | h6
  ·exact g h6
  ·exact i h6
  ·exact j h6
  ·exact l h6)⟩
def sJ (Γ : kI) (W':aI) (r:Value) (w:World) (e:Ending) (w':World):Prop:=e=.returned r/\(∃cv vv vs fs,bO Γ w' W' cv vv vs fs)/\aQ w w'
theorem dZ {w:World} {B g n d:Nat} {e:TypeId} {size:Nat} {xs:List Value} (h:w.ownsRow B e size (.slice (some ⟨g,0,none⟩) n d) n xs) {o m:Nat} (hi:o+m<=n*size):w.there g o m:=λj f=>by
 refine⟨?_,h.frozenAt _⟩
 rw[h.cellAt (o+j) (by omega),lG (by rw[h.1];omega)];rfl
section
variable {Γ : kI} {w w':World} {W:aI} {cv vv:Value} {vs fs:List Value}
theorem bO.setVal (L:bO Γ w W cv vv vs fs) (K:hP Γ) {i:Nat} {v u:Val} (hi:W.vals[i]? = some u) (m:WfV v) {g n d:Nat} (e:vv=.slice (some ⟨g,0,none⟩) n d) : bO Γ (w.setCells g (i*2) (aZ v)) (fS W i v) cv vv vs fs/\aQ w (w.setCells g (i*2) (aZ v)):=by
 subst e;have f:n=W.vals.length:=by
  rcases L.vals.2 with ⟨h,-⟩ | ⟨q,c',p,h,-⟩;·cases h
  ·injection h with _ h
 subst f;have o:cA (λk=>(Value.slice (some ⟨g,0,none⟩) W.vals.length d).ownBlock=some k) w (w.setCells g (i*2) (aZ v)):= cA.set (T:=λk=>(Value.slice (some ⟨g,0,none⟩) W.vals.length d).ownBlock=some k) (cA.set (T:=λk=>(Value.slice (some ⟨g,0,none⟩) W.vals.length d).ownBlock=some k) cA.refl rfl _ _) rfl _ _;refine⟨L.putVals K o ?_ (λx j=>?_),aeC o (λk _ l=>?_)⟩;·rw[List.length_set];exact uP L.vals hi
 ·rcases List.mem_or_eq_of_mem_set j with h | h;·exact L.wfv x h
  ·rw[h];exact m
 ·obtain⟨cs,h⟩:=aX L.vals l;exact⟨cs,_,h,.inr (.inr (.inr rfl))⟩
theorem bO.insAt (L:bO Γ w W cv vv vs fs) (K:hP Γ) {i:Nat} {x:bG} (p : Γ.t.ins[i]? = some x) : ∃b d f,w.cell? ⟨Γ.wb,3,none⟩=some (.slice (some ⟨b,d,none⟩) Γ.t.ins.length f)/\hJ w b (d+i*8) (jS x)/\uD x/\b < Γ.w1.heap.size:=by
 obtain⟨v,z,C,cb,e,m,-⟩:=K.tr;obtain⟨A,f,rfl,-⟩:=id m;have h:=(lE p).1;obtain⟨b,d,y,rfl,hb,g,q,r⟩:=rN m h;rw[p] at g;injection g with g;subst g
 have l:=L.tr K (k:=3) (by decide);rw[e] at l;refine⟨b,d,f,l,λj u s=>?_,q,K.q1 b (K.q0 b hb)⟩;exact(L.held ⟨b,_,none⟩ (K.q0 b hb)).trans (r j u s)
theorem uI (K:hP Γ) (L:bO Γ w W cv vv vs fs) {i:Nat} {x:bG} (S : Γ.t.ins[i]? = some x) (hi:i<W.vals.length) (hn : Γ.t.ins.length<=300) (v:Val) (hv:WfV v) (r:Int) (hr:wfi r) : Calls prog 145 #[.pointer (some ⟨Γ.wb,0,none⟩),.int .i64 (i:Int),.agg #[.int .i64 v.kind,.int .i64 v.n],.int .i64 r] w (sJ Γ (iQ W i x.exit (v,r)).1 (.int .i64 (iQ W i x.exit (v,r)).2) w):=by
 have a9:i < Γ.t.ins.length:=(lE S).1;obtain⟨g,O,f,-,b3⟩:=L.vals.form (by omega);obtain⟨w1,d⟩:∃w1,w1=w.alloc (.cells #[.int .i64 v.kind,.int .i64 v.n] 48):=⟨_,rfl⟩;have F:Hid (Below w.heap.size w w1):=by rw[d];exact aB _ _
 have m:Hid (aA w1 w.heap.size [.int .i64 v.kind,.int .i64 v.n]):=by rw[d];exact ad5 _ _ _
 have G:=hI d;have y:=hI K;have H:=hI (L.below K F.o);have I:=hI f;have p:w1.cell? ⟨Γ.wb,17,none⟩=some (.slice (some ⟨g,0,none⟩) W.vals.length O):=by rw[<-f];exact H.o.own K 4
 have V:=ecZ (m.o 0 _ rfl);have X:=ecZ (m.o 1 _ rfl);have Y:=ecZ p;obtain⟨q,C⟩:∃q:Int,(iQ W i x.exit (v,r)).2=q:=⟨_,rfl⟩;rw[C];have z:Hid ((if r<0 then(0:Int) else if x.exit<0 then 2 else 1)=q):=C;have J:(iQ W i x.exit (v,r)).1=fS W i v:=rfl;rw[J];have b0:(i:Int)<W.vals.length:=by omega
 have b2:(i:Int) < Γ.t.ins.length:=by omega
 clear d L K f p C J;go_enter func145,ntmps145;go_upto_region 1 with fail;rw[<-G.o];refine aL 6 (by kernel_rfl) (by kernel_rfl) ?_;simp only[List.take_succ_cons,List.take_zero];repeat (go_big_quiet_step (fail))
 refine wpQuiet_nil ?_;intro w' hE;obtain⟨E,rfl⟩:=hE;obtain⟨wy,D⟩:=E;dsimp only;have M:=hI (H.o.below y.o D);have Z:=btZ F D;clear D V X Y;obtain⟨u,P⟩:∃u,W.vals[i]? = some u:=⟨_,lG hi⟩;have TH:Hid (wy.there g (i*2) 2):=by have:=M.o.vals;rw[I.o] at this;exact dZ this (by omega)
 have N:=hI (M.o.setVal y.o P hv I.o);clear P;simp only[List.drop_succ_cons,List.drop_zero];go_upto_region 2 with (first | (refine wpList_store_mid rfl 48 _ _ rfl g (i*2) #[.int .i64 v.kind,.int .i64 v.n] rfl rfl TH.o aF (oC (by simp[Value.oneCell'])) ?_) | fail);generalize j:World.setCells _ _ _ _=w9;have l:Hid (bO Γ w9 (fS W i v) cv vv vs fs):=by rw[<-j];exact N.o.1
 have A:Hid (aQ w w9):=by rw[<-j];exact(aQ.of Z.o).trans N.o.2
 clear j;(try dsimp only [Act.put]);obtain⟨b,R,a4,c3,hc,-⟩:=l.o.insAt y.o S;have c5:w9.cell? ⟨b,R+i*8+5,none⟩=some (.int .i64 x.exit):=hc 5 _ rfl;by_cases h:r<0
 ·have e:Hid ((0:Int)=q):=by show _=_;rw[<-z.o,if_pos h]
  go_wp2_with fail;go_ret;exact⟨by rw[<-e.o];rfl,⟨_,_,_,_,l.o⟩,A.o⟩
 ·by_cases s:x.exit<0;·have e:Hid ((2:Int)=q):=(by show _=_;rw[<-z.o,if_neg h,if_pos s]);go_wp2_with fail;go_ret;exact⟨by rw[<-e.o];rfl,⟨_,_,_,_,l.o⟩,A.o⟩
  ·have e:Hid ((1:Int)=q):=(by show _=_;rw[<-z.o,if_neg h,if_neg s]);go_wp2_with fail;go_ret;exact⟨by rw[<-e.o];rfl,⟨_,_,_,_,l.o⟩,A.o⟩
end
end
section
open Go Go.RowKit
section
variable {P:Program} (w:World)
theorem rE (base:Nat) (t A e:TypeId) (i:TypeInfo) (z:Value) (size h:Nat) (ht:P.underlying t=some (.slice e)) (hi:P.info? e=some i) (O:i.zero=some z) (r:i.size=size) (C:i.bytes=h) (I:z.cells.size=size) (J:0<size) (v:Value) (n:Nat) (xs:List Value) (p:w.ownsRow base e size v n xs) (a:Addr) (m c:Nat) (d:List Value) (hl:d.length=m*size) (l:∀j u,d[j]? = some u->w.cell? (a.add j)=some u) (R:∀u∈d,u.oneCell'=true) (D:n+m<=maxLen) (q:(n+m)*h<=140737488355328) (s:base<=w.heap.size) : ∃v' w',(Builtin.append_ #[t,t] A #[v,.slice (some a) m c]).run P w=.ok v' w'/\w'.ownsRow base e size v' (n+m) (xs++d)/\w.grownBy w' v.ownBlock/\ (∀g,v'.ownBlock=some g->v.ownBlock=some g\/w.heap.size<=g):=by
 rcases p.2 with ⟨rfl,rfl⟩ | ⟨g,E,K,rfl,Z,N,a0,a1,V,W⟩;·have X:xs=[]:=List.eq_nil_of_length_eq_zero (by simpa using p.1);subst X;obtain⟨v',w',y,G,M,-⟩:=run_append_own (P:=P) w w.heap.size t A e i z size h ht hi O r C I J _ 0 [] (World.ownsRow_nil w w.heap.size e size) a m c d hl l R D q (Nat.le_refl _);exact⟨v',w',y,dU G s,M,λg N=>.inr (G.lt g N).1⟩
 ·obtain⟨v',w',y,G,M,-⟩:=run_append_own (P:=P) w base t A e i z size h ht hi O r C I J _ n xs p a m c d hl l R D q s;refine⟨v',w',y,G,M,λk H=>?_⟩;subst r;subst C;by_cases x:n+m<=E
  ·have L:n*i.size+d.length<=K.size:=(by rw[hl,V,<-Nat.add_mul];exact Nat.mul_le_mul_right _ x);have f:=run_append_room (P:=P) w t A e i ht hi g n E K N a m c d hl l R x L;rw[y] at f;injection f with f
   rw[f] at H;exact .inl H
  ·have F:∀j u,xs[j]? = some u->w.cell? ((⟨g,0,none⟩:Addr).add j)=some u:=p.cells (g:=g) rfl;have S:n+m<=9223372036854775807:=(by simp only[maxLen] at D;omega);have f:=run_append_grow (P:=P) w t A e i z ht hi O ⟨g,0,none⟩ n E xs p.1 F a m c d hl l (by omega) (by omega) (growslice_fits (by omega) q);rw[y] at f;injection f with f
   rw[f] at H;have Y:w.heap.size=k:=(by simpa [Value.ownBlock] using H);exact .inr (by omega)
theorem iK {o:Oper} {a:Act} {K:Act->World->Prop} {Q:Exit->Act->World->Prop} (s x:Operand) (t:TypeId) (L:o.op=.call { callee:=.builtin .append,args:=#[s,x],argTypes:=#[t,t] }) (base:Nat) (e:TypeId) (i:TypeInfo) (z:Value) (size f:Nat) (ht:P.underlying t=some (.slice e)) (hi:P.info? e=some i) (M:i.zero=some z) (p:i.size=size) (C:i.bytes=f) (D:z.cells.size=size) (E:0<size) (v:Value) (n:Nat) (xs:List Value) (N:a.eval s=v) (y:w.ownsRow base e size v n xs) (A:Addr) (m c:Nat) (d:List Value) (O:a.eval x=.slice (some A) m c) (hl:d.length=m*size) (q:∀j u,d[j]? = some u->w.cell? (A.add j)=some u) (R:∀u∈d,u.oneCell'=true) (F:n+m<=maxLen) (l:(n+m)*f<=140737488355328) (r:base<=w.heap.size) (h:∀v' w',w'.ownsRow base e size v' (n+m) (xs++d)->w.grownBy w' v.ownBlock->(∀g,v'.ownBlock=some g->v.ownBlock=some g\/w.heap.size<=g)->K (a.put o.dst v') w'):o.wp P a w K Q:=by obtain⟨v',w',G,H,I,J⟩:=rE (P:=P) w base t o.type e i z size f ht hi M p C D E v n xs y A m c d hl q R F l r;unfold Oper.wp execOp;simp only[L,resolve,invoke,builtin,Sem.run_bind,Sem.run_pure,Result.andThen_ok,List.map_toArray,List.map_cons,List.map_nil,N,O,G];exact h v' w' H I J
variable {w}
theorem oD {ops:Array Oper} {rest:List Oper} {o:Oper} {a:Act} {Q:Exit->Act->World->Prop} (C:o.guard=none) (s x:Operand) (t:TypeId) (L:o.op=.call { callee:=.builtin .append,args:=#[s,x],argTypes:=#[t,t] }) (base:Nat) (e:TypeId) (i:TypeInfo) (z:Value) (size f:Nat) (ht:P.underlying t=some (.slice e)) (hi:P.info? e=some i) (M:i.zero=some z) (p:i.size=size) (D:i.bytes=f) (E:z.cells.size=size) (F:0<size) (v:Value) (n:Nat) (xs:List Value) (N:a.eval s=v) (y:w.ownsRow base e size v n xs) (A:Addr) (m c:Nat) (d:List Value) (O:a.eval x=.slice (some A) m c) (hl:d.length=m*size) (q:∀j u,d[j]? = some u->w.cell? (A.add j)=some u) (R:∀u∈d,u.oneCell'=true) (G:n+m<=maxLen) (l:(n+m)*f<=140737488355328) (r:base<=w.heap.size) (h:∀v' w',w'.ownsRow base e size v' (n+m) (xs++d)->w.grownBy w' v.ownBlock->(∀g,v'.ownBlock=some g->v.ownBlock=some g\/w.heap.size<=g)->wpList P ops Q rest (a.put o.dst v') w'):wpList P ops Q (o::rest) a w:= wpList_plain C λ_ H=>iK w s x t L base e i z size f ht hi M p D E F v n xs N y A m c d O hl q R G l r λv' w' I J K=>H _ _ (h v' w' I J K)
end
end
section
open Go.RowKit
section
variable {Γ : kI} {w w':World} {W:aI} {cv vv:Value} {vs fs:List Value}
theorem abP {w:World} {B e size n:Nat} {A:Option Addr} {m c:Nat} {xs:List Value} (h:w.ownsRow B e size (.slice A m c) n xs):m=n:=by
 rcases h.2 with ⟨h,f⟩ | ⟨g,c',d,h,-⟩;·injection h with _ h;omega
 ·injection h with _ h
theorem zK (K:hP Γ) (L:bO Γ w W cv vv vs fs) {i:Nat} (hi:i<W.vals.length) (hn:W.vals.length<=300) (hl:W.cells.length<=300) (kind:Int) (s:wfi kind) : Calls prog 151 #[.pointer (some ⟨Γ.wb,0,none⟩),.int .i64 (i:Int),.int .i64 kind] w (sJ Γ (dX W i kind).1 (.int .i64 (dX W i kind).2) w):=by
 obtain⟨g,c9,A,-,f3⟩:=L.vals.form (by omega);have d:=hI K;have HL:=hI L;have HV:=hI A;obtain⟨f,j,rfl⟩:=bV L.crow;have N:w.cell? ⟨Γ.wb,17,none⟩=some (.slice (some ⟨g,0,none⟩) W.vals.length c9):=by rw[<-A];exact L.own K 4
 have O:w.cell? ⟨Γ.wb,13,none⟩=some (.slice f W.cells.length j):=L.own K 0;have f2:(i:Int)<W.vals.length:=by omega
 clear K L A;by_cases h3:300<=W.cells.length
 ·have I:dX W i kind=(W,1):=by unfold dX;rw[if_pos h3]
  rw[I];go_enter func151,ntmps151;go_wp2_with fail;go_ret;exact⟨rfl,⟨_,_,_,_,HL.o⟩,aQ.refl _⟩
 ·have I:dX W i kind=({ fS W i ⟨5,(W.cells.length:Int)⟩ with cells:=(fS W i ⟨5,(W.cells.length:Int)⟩).cells++[⟨kind,0,[],[]⟩] },0):=by unfold dX;rw[if_neg h3];rfl
  rw[I];obtain⟨u,C⟩:∃u,W.vals[i]? = some u:=⟨_,lG hi⟩;have P:WfV ⟨5,(W.cells.length:Int)⟩:=by unfold WfV wfi;constructor <;> (constructor <;> simp <;> omega)
  have a5:=hI P;have HU:=hI C;clear I C P;go_enter func151,ntmps151;go_upto_region 3 with fail;have a1:=ecZ O;have a2:=ecZ N;refine aL 11 (by kernel_rfl) (by kernel_rfl) ?_;simp only[List.take_succ_cons,List.take_zero];repeat (go_big_quiet_step (fail))
  refine wpQuiet_nil ?_;intro w' hE;obtain⟨E,rfl⟩:=hE;obtain⟨wy,Z⟩:=E;dsimp only;have LY:=hI (HL.o.below d.o Z);have KY:=hI Z;clear Z a1 a2 O N;have TH:Hid (wy.there g (i*2) 2):=by have:=LY.o.vals;rw[HV.o] at this;exact dZ this (by omega)
  have S9:=hI (LY.o.setVal d.o HU.o a5.o HV.o);simp only[List.drop_succ_cons,List.drop_zero];go_upto_region 4 with (first | (refine wpList_store_mid rfl 48 _ _ rfl g (i*2) #[.int .i64 5,.int .i64 (W.cells.length:Int)] rfl rfl TH.o aF (oC (by simp[Value.oneCell'])) ?_) | fail);generalize H:World.setCells _ _ _ _=w9;have L9:Hid (bO Γ w9 (fS W i ⟨5,(W.cells.length:Int)⟩) (.slice f W.cells.length j) vv vs fs):=by rw[<-H];exact S9.o.1
  have K9:Hid (aQ w w9):=by rw[<-H];exact(aQ.of KY.o).trans S9.o.2
  clear H;(try dsimp only [Act.put]);have b0:w9.cell? ⟨Γ.wb,13,none⟩=some (.slice f W.cells.length j):=L9.o.own d.o 0;obtain⟨i0,R,J⟩:=Option.map_eq_some_iff.1 rR;simp only[Prod.mk.injEq] at J;obtain⟨hz,S,V⟩:=J;obtain⟨z,X,Y⟩:=Option.map_eq_some_iff.1 hz;have HI:=hI R;have HZ:=hI X;have b2:=hI S;have b3:=hI V;have b4:=hI Y;clear R X S V Y hz;obtain⟨p,v⟩:∃p,p=w9.alloc (.cells #[.int .i64 kind,.int .i64 0,.slice none 0 0,.slice none 0 0] 55):=⟨_,rfl⟩;have KA:Hid (Below w9.heap.size w9 p):=by rw[v];exact aB _ _
  have BA:Hid (p.heap[w9.heap.size]? = some (.cells #[.int .i64 kind,.int .i64 0,.slice none 0 0,.slice none 0 0] 55 (0,0))):=by rw[v];exact aJ _ _
  have l:=hI (L9.o.below d.o KA.o);have b6:=hI v;obtain⟨xs,D⟩:∃xs,(cK W.cells vs fs).flatMap id=xs:=⟨_,rfl⟩;have CR:Hid (p.ownsRow Γ.B 55 4 (.slice f W.cells.length j) W.cells.length xs):=by rw[<-D];exact l.o.crow
  have c0:=hI D;clear D;have c1 : Γ.B<=p.heap.size:=Nat.le_trans d.o.b1 l.o.size;clear v;go_wp2_with (first | (at_builtin;rw[<-b6.o];refine oD rfl _ _ 35 rfl Γ.B 55 i0 z 4 64 underlying35 HI.o HZ.o b2.o b3.o b4.o (by decide) (.slice f W.cells.length j) W.cells.length xs rfl CR.o ⟨w9.heap.size,0,none⟩ 1 1 [.int .i64 kind,.int .i64 0,.slice none 0 0,.slice none 0 0] rfl rfl (World.news_of_block (cs:=#[.int .i64 kind,.int .i64 0,.slice none 0 0,.slice none 0 0]) BA.o) ?k2 ?k3 ?k4 c1 ?_) | fail);case k2=>intro u C;simp at C;rcases C with rfl | rfl | rfl <;> rfl
  case k3=>unfold maxLen;omega
  case k4=>omega
  intro v' M r hg G;obtain⟨F,c',rfl⟩:=bV r;have c2:=hI G;clear G;have m:M.heap[Γ.wb]? = some (.cells ⟨Γ.tcs++[.slice f W.cells.length j,Γ.shv,.pointer (some ⟨Γ.fb,Γ.fo,none⟩),.int .i64 W.steps,vv]⟩ 85 (0,0)):=by refine(hg.block _ (aV l.o.row) (λe=>?_)).trans l.o.row;obtain⟨cs,h⟩:=aX l.o.crow e.symm;exact bJ l.o.row h (by decide) rfl
  have y:=hI m;have c3:=hI r;have GR:=hI hg;have c5:M.cell? ⟨Γ.wb,13,none⟩=some (.slice f W.cells.length j):=by rw[cell_of_row M _ 13 _ _ _ m];refine(List.getElem?_toArray ..).trans ?_;rw[List.getElem?_append_right (by rw[d.o.tl];omega),d.o.tl];rfl
  have c6:=frozen_of_row M _ 13 _ _ m;clear m r hg b0;go_wp2_with fail;generalize x:World.setCell _ _ _=w7;have R7:Hid (w7.heap[Γ.wb]? = some (.cells ⟨Γ.tcs++[.slice F (W.cells.length+1) c',Γ.shv,.pointer (some ⟨Γ.fb,Γ.fo,none⟩),.int .i64 W.steps,vv]⟩ 85 (0,0))):=by
   rw[<-x,heap_setCell_same _ _ _ _ _ _ y.o];have:(Γ.tcs++[.slice f W.cells.length j,Γ.shv,.pointer (some ⟨Γ.fb,Γ.fo,none⟩),.int .i64 W.steps,vv]).set 13 (.slice F (W.cells.length+1) c') = Γ.tcs++[.slice F (W.cells.length+1) c',Γ.shv,.pointer (some ⟨Γ.fb,Γ.fo,none⟩),.int .i64 W.steps,vv]:=by rw[List.set_append_right _ _ (by rw[d.o.tl];omega),d.o.tl];rfl
   show some (Obj.cells ((_:Array Value).setIfInBounds 13 _) _ _)=_;rw[<-this];simp
  have ON:Hid (cA (λk=>(Value.slice f W.cells.length j).ownBlock=some k\/k = Γ.wb) p w7):=by rw[<-x];exact(cA.grown cA.refl GR.o (λk s=>.inl s)).set (.inr rfl) _ _
  have C7:Hid (w7.ownsRow Γ.B 55 4 (.slice F (W.cells.length+1) c') (W.cells.length+1) ((cK W.cells vs fs).flatMap id++bD ⟨kind,0,[],[]⟩ (.slice none 0 0) (.slice none 0 0))):=by rw[<-x,c0.o];exact gI c3.o y.o (by decide) _ _
  have c8:Hid (∀g,(Value.slice F (W.cells.length+1) c').ownBlock=some g->(Value.slice f W.cells.length j).ownBlock=some g\/p.heap.size<=g):=λq J=>by exact c2.o q J
  have L7:=hI (l.o.snoc d.o ⟨s,by unfold wfi;omega⟩ ON.o R7.o C7.o c8.o);have K7:Hid (aQ w w7):=(K9.o.trans (aQ.of KA.o)).trans (aeC ON.o (λk _ s=>by
   rcases s with s | rfl;·obtain⟨cs,h⟩:=aX l.o.crow s;exact⟨cs,_,h,.inr (.inr (.inl rfl))⟩
   ·exact⟨_,_,l.o.row,.inl rfl⟩))
  clear x c5 c6;go_wp2_with fail;go_ret;exact⟨rfl,⟨_,_,_,_,L7.o⟩,K7.o⟩
end
end
end Go.Proofs.YtjaphgpkkfdaaaaGreatDoor
