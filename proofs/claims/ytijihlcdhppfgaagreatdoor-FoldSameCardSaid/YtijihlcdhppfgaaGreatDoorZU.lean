/- A part of the walk. -/
import Derived.Test.YtijihlcdhppfgaaGreatDoorZT
import Derived.Test.YtijihlcdhppfgaaGreatDoorZBX
import Derived.Laws.FloatArith
set_option maxHeartbeats 16000000
set_option maxRecDepth 100000
set_option linter.all false
namespace Go.Proofs.YtijihlcdhppfgaaGreatDoor
open Tryz
section
open Go.RowKit
def rO (cv:Value) (W:aG) (i:Int):Option Addr:=(dG W i).bind λp=>cv.ownBlock.map λg=>⟨g,p.1*4,none⟩
theorem iJ {W:aG} {i:Nat} {x:Val} (h:W.vals[i]? = some x):bL W i=x:=by unfold bL;rw[Int.toNat_natCast,h];rfl
theorem rN {Γ : mW} {w:World} {W:aG} {P vv:Value} {vs fs:List Value} (K:jZ Γ) (L:cC Γ w W P vv vs fs) {i:Nat} {x:Val} (G:W.vals[i]? = some x) (hl:W.cells.length<=300) : Calls prog 236 #[.pointer (some ⟨Γ.wb,0,none⟩),.int .i64 (i:Int)] w λe w'=>e=.returned (.pointer (rO P W i))/\Below w.heap.size w w':=by
 have c5:i<W.vals.length:=(lE G).1;obtain⟨g,Z,rfl,-,-⟩:=L.vals.form (by omega);have c6:w.cell? ⟨Γ.wb,17,none⟩=some (.slice (some ⟨g,0,none⟩) W.vals.length Z):=L.own K 4;have H:w.cell? ⟨Γ.wb,13,none⟩=some P:=L.own K 0;have c7:i*2+2<=W.vals.length*2:=by omega
 have g0:w.cell? ⟨g,i*2,none⟩=some (.int .i64 x.kind):=by rw[L.vals.cellAt (i*2) (by omega)];exact cF G (k:=0) (by decide)
 have g1:w.cell? ⟨g,i*2+1,none⟩=some (.int .i64 x.n):=by rw[L.vals.cellAt (i*2+1) (by omega)];exact cF G (k:=1) (by decide)
 obtain⟨CA,M,rfl⟩:=cJ L.crow;have c8:=(L.vals.lt g rfl).2;have c9:=aY L.row;have d0:(i:Int)<W.vals.length:=by omega
 obtain⟨w1,q⟩:∃w1,w1=w.alloc (.cells #[.int .i64 x.kind,.int .i64 x.n] 51):=⟨_,rfl⟩;have u:Hid (Below w.heap.size w w1):=by rw[q];exact aA _ _
 have v:Hid (aJ w1 w.heap.size [.int .i64 x.kind,.int .i64 x.n]):=by rw[q];exact akV _ _ _
 have R:=hI q;clear q;unfold rO dG;rw[iJ G];obtain⟨r,N⟩:∃r:Option Addr,((if x.kind=5/\0<=x.n then(W.cells[x.n.toNat]?).map (λc=>(x.n.toNat,c)) else none).bind λp=>(Value.slice CA W.cells.length M).ownBlock.map λg=>⟨g,p.1*4,none⟩)=r:=⟨_,rfl⟩;rw[N];have A:=hI N;clear N;have HL:=hI L;have HK:=hI K;clear L K;have D:=ecZ (v.o 0 _ rfl);have y:=ecZ (v.o 1 _ rfl);have F:∀E:Up w1,E.to.cell? ⟨Γ.wb,13,none⟩=some (.slice CA W.cells.length M):=λE=>E.cell (aC u.o H);go_enter func236,ntmps236;go_upto_region 2 with fail;rw[<-R.o];clear g0 g1;refine aD (by kernel_rfl) (by kernel_rfl) ?_;repeat (go_big_quiet_step (fail))
 obtain⟨b1,d⟩:∃b:Bool,(x.kind == 5)=b:=⟨_,rfl⟩;rw[d];cases b1
 case false=>
  have z:Hid (none=r):=by show _=_;rw[<-A.o,if_neg (λh=>by rw[h.1] at d;cases d)];rfl
  repeat (go_big_quiet_step (fail))
  refine wpQuiet_nil ?_;rintro _ ⟨E,rfl⟩;have l:=btZ u E.below;clear D y F;go_wp2_with fail;go_ret;exact⟨by rw[<-z.o];rfl,l.o⟩
 have I:x.kind=5:=by simpa using d
 repeat (go_big_quiet_step (fail))
 obtain⟨b2,f⟩:∃b:Bool,(decide (0<=x.n))=b:=⟨_,rfl⟩;rw[f];cases b2
 case false=>
  have z:Hid (none=r):=by show _=_;rw[<-A.o,if_neg (λh=>by rw[decide_eq_true h.2] at f;cases f)];rfl
  repeat (go_big_quiet_step (fail))
  refine wpQuiet_nil ?_;rintro _ ⟨E,rfl⟩;have l:=btZ u E.below;clear D y F;go_wp2_with fail;go_ret;exact⟨by rw[<-z.o];rfl,l.o⟩
 have J:0<=x.n:=of_decide_eq_true f;obtain⟨n,j⟩:∃n:Nat,x.n=(n:Int):=⟨x.n.toNat,by omega⟩;rw[j] at y;repeat (go_big_quiet_step (fail))
 obtain⟨b3,s⟩:∃b:Bool,(decide (n<W.cells.length))=b:=⟨_,rfl⟩;rw[s];cases b3
 case false=>
  have z:Hid (none=r):=by show _=_;rw[<-A.o,if_pos ⟨I,J⟩,j,Int.toNat_natCast,List.getElem?_eq_none (Nat.le_of_not_lt (of_decide_eq_false s))];rfl
  repeat (go_big_quiet_step (fail))
  refine wpQuiet_nil ?_;rintro _ ⟨E,rfl⟩;have l:=btZ u E.below;clear D y F;go_wp2_with fail;go_ret;exact⟨by rw[<-z.o];rfl,l.o⟩
 have S:n<W.cells.length:=of_decide_eq_true s;obtain⟨gc,c0,a5,-,d2⟩:=HL.o.crow.form (by omega);injection a5 with e1 e2 e3
 subst e1;have HY:Hid (some (⟨gc,n*4,none⟩:Addr)=r):=by show _=_;rw[<-A.o,if_pos ⟨I,J⟩,j,Int.toNat_natCast,lG S];rfl
 have d1:(n:Int)<W.cells.length:=by omega
 repeat (go_big_quiet_step (fail))
 refine wpQuiet_nil ?_;rintro _ ⟨E,rfl⟩;obtain⟨w2,O⟩:=E;dsimp only;have V:=btZ u O;have X:∀E:Up w2,E.to.cell? ⟨w.heap.size,1,none⟩=some (.int .i64 n):=λE=>E.cell (aC O (by rw[<-j];exact v.o 1 _ rfl));have Y:∀E:Up w2,E.to.cell? ⟨Γ.wb,13,none⟩=some (.slice (some ⟨gc,0,none⟩) W.cells.length M):=λE=>E.cell (aC V.o H);clear D y F O J I j d f s;go_upto_region 3 with fail;refine aD (by kernel_rfl) (by kernel_rfl) ?_;repeat (go_big_quiet_step (fail))
 refine wpQuiet_nil ?_;rintro _ ⟨E,rfl⟩;have l:=btZ V E.below;clear X Y;go_wp2_with fail;go_ret;exact⟨by rw[<-HY.o];rfl,l.o⟩
end
section
open Go.RowKit Go.IntWalk
def nanM:Int:=9221120237041090561
theorem af9 (x y t:Nat):(FloatKind.f64.format.order ((Question.nanBits .f64 x y).cut t) ((Question.nanBits .f64 x y).cut t) == some .eq)=false:=by
 have h:∃s f,FloatKind.f64.format.read ((Question.nanBits .f64 x y).cut t)=.nan s f:=by
  unfold Ieee.Format.read;dsimp only;have d:FloatKind.f64.format.signWeight=2 ^ 63:=by kernel_rfl
  have g:FloatKind.f64.format.infRung=0x7ff0000000000000:=by kernel_rfl
  have j:FloatKind.f64.format.binade=2 ^ 52:=by kernel_rfl
  have l:(Question.nanBits .f64 x y).cut t=(t % 2)*2 ^ 63+0x7ff0000000000000+1+(t / 2) % (2 ^ 52 - 1):=rfl;rw[d,g,j,l];have p:t % 2=0\/t % 2=1:=by omega
  have q:(t / 2) % (2 ^ 52 - 1)<2 ^ 52 - 1:=Nat.mod_lt _ (by decide);generalize (t / 2) % (2 ^ 52 - 1)=u at q;rcases p with e | e <;> rw[e,if_neg (by omega),if_neg (by omega),if_neg (by omega)] <;> exact⟨_,_,rfl⟩
 obtain⟨s,f,h⟩:=h;unfold Ieee.Format.order;rw[h];rfl
theorem xY {P:Program} (op:BinOp) (t:TypeId) (x y:Nat) (d:op=.add\/op=.sub\/op=.mul\/op=.quo) (w:World) :
  (∃r,floatBits op .f64 x y=some r/\(binOp op t (.float .f64 x) (.float .f64 y)).run P w=.ok (.float .f64 r) w)\/
  (floatBits op .f64 x y=none/\∃b,(FloatKind.f64.format.order b b == some .eq)=false/\(binOp op t (.float .f64 x) (.float .f64 y)).run P w=.ok (.float .f64 b) w.drew):=by
 cases h:floatBits op .f64 x y with
 | some r=>exact .inl ⟨r,rfl,run_float_arith w op t .f64 x y r h⟩
 | none=>
  refine .inr ⟨rfl,(Question.nanBits .f64 x y).cut (w.tape w.drawn (Question.nanBits .f64 x y)),af9 x y _,?_⟩
  unfold floatBits at h
  rcases d with rfl | rfl | rfl | rfl <;> simp only at h <;> simp[binOp,Op.floatArith,h] <;> (intro hf;cases hf)
def ofM (b:Nat):Val:=if FloatKind.f64.format.order b b == some .eq then⟨3,wrap64 b⟩ else⟨3,nanM⟩
def mS (b:Bool):Val:=if b then⟨1,1⟩ else⟨1,0⟩
def dQ (v:Val):Val:=if aF v then v else⟨0,0⟩
def oD (v:Val):Bool:=(dQ v).kind != 0 && !((dQ v).kind == 1 && (dQ v).n == 0)
def mR (n:Int):Val×Int:=if aL n (-2147483648) 2147483647 then(⟨2,n⟩,-1) else(⟨0,0⟩,1)
def kR (op:Int) (lt le:Bool):Val×Int:=if op=9 then(mS lt,-1) else if op=10 then(mS le,-1) else(⟨0,0⟩,0)
def pR (op a b:Int):Val×Int:=
 if op=3 then mR (wrap64 (a+b)) else if op=4 then mR (wrap64 (a - b)) else if op=5 then mR (wrap64 (a*b))
 else if op=6\/op=7 then(if b=0 then(⟨0,0⟩,2) else if op=6 then mR (wrap64 (a.tdiv b)) else mR (a.tmod b))
 else kR op (decide (a<b)) (decide (a<=b))
def ofB (op:BinOp) (x y:Nat):Val:=match floatBits op .f64 x y with | some r=>ofM r | none=>⟨3,nanM⟩
def ltF (x y:Nat):Bool:=FloatKind.f64.format.order x y == some .lt
def eqF (x y:Nat):Bool:=FloatKind.f64.format.order x y == some .eq
def oH (op:Int) (x y:Nat):Val×Int:=
 if op=3 then(ofB .add x y,-1) else if op=4 then(ofB .sub x y,-1) else if op=5 then(ofB .mul x y,-1) else if op=6 then(ofB .quo x y,-1)
 else if op=8 then(mS (eqF x y),-1) else kR op (ltF x y) (ltF x y || eqF x y)
def qY (op:Int) (v:Val):Val×Int:=
 if op=11 then(mS (!oD (dQ v)),-1)
 else if op=12/\(dQ v).kind=2 then mR (wrap64 (-(dQ v).n))
 else if op=12/\(dQ v).kind=3 then(ofM (Op.negFloat .f64 (pO (dQ v).n)),-1)
 else(⟨0,0⟩,0)
def jV (op:Int) (u v:Val):Val×Int:=
 if(dQ u).kind=3/\(dQ v).kind=3 then oH op (pO (dQ u).n) (pO (dQ v).n)
 else if op=8 then(mS ((dQ u).kind == (dQ v).kind && (dQ u).n == (dQ v).n),-1)
 else if(dQ u).kind=2/\(dQ v).kind=2 then pR op (dQ u).n (dQ v).n
 else(⟨0,0⟩,0)
def mA (r:Val×Int) (w:World):Ending->World->Prop:=aK (.tuple #[.agg #[.int .i64 r.1.kind,.int .i64 r.1.n],.int .i64 r.2]) w
theorem fB:(prog.info? 51).map (·.size)=some 2:=by kernel_rfl
set_option maxHeartbeats 4000000
set_option maxRecDepth 100000
theorem mZ (b:Bool) (w:World):Calls prog 218 #[.bool b] w (aK (.agg #[.int .i64 (mS b).kind,.int .i64 (mS b).n]) w):=by go_enter func218,ntmps218;go_upto_region 1 with fail;generalize h:World.alloc _ _=w1;have X:=Bx.of1 h;go_wp2_with (first | (refine X.st λ_ X=>?_) | fail);all_goals (refine X.rt1 ⟨?_,X.k⟩;simp_all [mS])
theorem pX (n:Int) (w:World):Calls prog 221 #[.int .i64 n] w (mA (⟨0,0⟩,n) w):=by go_enter func221,ntmps221;go_upto_region 1 with fail;generalize h:World.alloc _ _=w1;have X:=Bx.of1 h;go_wp2_with (first | (refine X.st λ_ X=>?_) | fail);exact X.rt2 ⟨rfl,X.k⟩
theorem abN (n:Int) (w:World):Calls prog 219 #[.int .i64 n] w (mA (mR n) w):=by go_enter func219,ntmps219;go_upto_region 1 with fail;generalize h:World.alloc _ _=w1;have X:=Bx.of1 h;go_wp2_with (first | (go_at_call 118;refine(pW _ _ _ _).mono ?_;rintro _ _ ⟨rfl,rfl⟩) | (go_at_call 221;refine X.call (pX _ _) λ_ X=>?_) | (refine X.st λ_ X=>?_) | fail);all_goals (refine X.rt2 ⟨?_,X.k⟩;simp_all [mR])
theorem fof_c (b:Nat) (w:World):Calls prog 220 #[.float .f64 b] w (aK (.agg #[.int .i64 (ofM b).kind,.int .i64 (ofM b).n]) w):=by
 go_enter func220,ntmps220;go_upto_region 1 with fail;generalize h:World.alloc _ _=w1;have X:=Bx.of1 h;go_wp2_with (first | (refine X.st λ_ X=>?_) | fail);·refine X.rt1 ⟨?_,X.k⟩;simp_all [ofM,nanM]
 rw[run_callFunc_extern func248 (by kernel_rfl) (by kernel_rfl) (by kernel_rfl) (e:=Extern.MathFloatBits.float64bits) (by kernel_rfl)];rw[show ∀(m:Nat) (W:World),(Extern.MathFloatBits.float64bits #[.float .f64 m]).run prog W=.ok (.int .u64 m) W from λ_ _=>rfl];simp only[Result.andThen];rw[Oper.upon_value];go_wp2_with (first | (refine X.st λ_ X=>?_) | fail);refine X.rt1 ⟨?_,X.k⟩;simp_all [ofM]
theorem af5 (op:Int) (x y:Nat) (w:World):Calls prog 249 #[.int .i64 op,.float .f64 x,.float .f64 y] w (mA (kR op (ltF x y) (ltF x y || eqF x y)) w):=by go_enter func249,ntmps249;go_upto_region 1 with fail;generalize h:World.alloc _ _=w1;have X:=Bx.of1 h;go_wp2_with (first | (go_at_call 218;refine X.call (mZ _ _) λ_ X=>?_) | (go_at_call 221;refine X.call (pX _ _) λ_ X=>?_) | (refine X.st λ_ X=>?_) | fail);all_goals (refine X.rt2 ⟨?_,X.k⟩;simp_all [kR,ltF,eqF])
theorem af4 (op:Int) (x y:Int) (w:World):Calls prog 250 #[.int .i64 op,.int .i64 x,.int .i64 y] w (mA (kR op (decide (x<y)) (decide (x<=y))) w):=by go_enter func250,ntmps250;go_upto_region 1 with fail;generalize h:World.alloc _ _=w1;have X:=Bx.of1 h;go_wp2_with (first | (go_at_call 218;refine X.call (mZ _ _) λ_ X=>?_) | (go_at_call 221;refine X.call (pX _ _) λ_ X=>?_) | (refine X.st λ_ X=>?_) | fail);all_goals (refine X.rt2 ⟨?_,X.k⟩;simp_all [kR,ltF,eqF])
theorem zY (v:Val) (w:World):Calls prog 217 #[.agg #[.int .i64 v.kind,.int .i64 v.n]] w (aK (.agg #[.int .i64 (dQ v).kind,.int .i64 (dQ v).n]) w):=by go_enter func217,ntmps217;go_upto_region 1 with fail;generalize h:World.alloc _ _=w1;have X:=Bx.of2 h;go_wp2_with (first | (go_at_call 64;refine X.call (u9 _ _) λ_ X=>?_) | (refine X.ld ?_) | (refine X.st λ_ X=>?_) | fail);all_goals (refine X.rt1 ⟨?_,X.k⟩;simp_all [dQ])
theorem ahP (op a b:Int) (w:World):Calls prog 223 #[.int .i64 op,.int .i64 a,.int .i64 b] w (mA (pR op a b) w):=by go_enter func223,ntmps223;go_upto_region 1 with fail;generalize h:World.alloc _ _=w1;have X:=Bx.of1 h;go_wp2_with (first | (go_at_call 219;refine X.call (abN _ _) λ_ X=>?_) | (go_at_call 221;refine X.call (pX _ _) λ_ X=>?_) | (go_at_call 250;refine X.call (af4 _ _ _ _) λ_ X=>?_) | (refine X.st λ_ X=>?_) | fail);all_goals first | (refine X.rt2 ⟨?_,X.k⟩;simp_all [pR];done) | simp_all
theorem Bx.fl {P:Program} {ops:Array Oper} {rest:List Oper} {o:Oper} {a:Act} {w0 w:World} {Q:Exit->Act->World->Prop} {l:List (Nat×List Value×TypeId)} {op:BinOp} {T U:TypeId} {p q:Operand} {x y:Nat} (X:Bx w0 w l)
  (h:∀b w',Bx w0 w' l->ofM b=ofB op x y->wpList P ops Q rest (a.put o.dst (.float .f64 b)) w') (s:o.guard=none:=by rfl) (u:o.op=.binOp op T p q U:=by rfl) (v:a.eval p=.float .f64 x:=by rfl) (z:a.eval q=.float .f64 y:=by rfl)
  (d:op=.add\/op=.sub\/op=.mul\/op=.quo:=by decide):wpList P ops Q (o::rest) a w:=
 wpList_plain s λ_ j=>by
  unfold Oper.wp execOp
  have g:∀W,(eqGuard op T p q (.float .f64 x) (.float .f64 y)).run P W=.ok () W:=λW=>by rcases d with rfl | rfl | rfl | rfl <;> rfl
  simp only[u,v,z]
  rcases xY (P:=P) op T x y d w with ⟨r,e,f⟩ | ⟨e,b,hb,f⟩
  ·simp only[Sem.run_bind,g,f,Result.andThen_ok,Sem.run_pure]
   exact j _ _ (h r w X (by unfold ofB;rw[e]))
  ·simp only[Sem.run_bind,g,f,Result.andThen_ok,Sem.run_pure]
   exact j _ _ (h b _ X.dr (by unfold ofB ofM;rw[e,hb];rfl))
theorem ajO (op:Int) (x y:Nat) (w:World):Calls prog 222 #[.int .i64 op,.float .f64 x,.float .f64 y] w (mA (oH op x y) w):=by go_enter func222,ntmps222;go_upto_region 1 with fail;generalize h:World.alloc _ _=w1;have X:=Bx.of1 h;go_wp2_with (first | (go_at_call 220;refine X.call (fof_c _ _) λ_ X=>?_) | (go_at_call 218;refine X.call (mZ _ _) λ_ X=>?_) | (go_at_call 249;refine X.call (af5 _ _ _ _) λ_ X=>?_) | (refine X.st λ_ X=>?_) | (refine X.fl λ_ _ X _=>?_) | fail);all_goals (refine X.rt2 ⟨?_,X.k⟩;simp_all [oH,eqF])
theorem tru_c (v:Val) (w:World):Calls prog 174 #[.agg #[.int .i64 v.kind,.int .i64 v.n]] w (aK (.bool (oD v)) w):=by
 obtain⟨r,f⟩:∃r,dQ v=r:=⟨_,rfl⟩;have d:=zY v;unfold oD;rw[f] at d ⊢;clear f;go_enter func174,ntmps174;go_upto_region 1 with fail;generalize h:World.alloc _ _=w1;have X:=Bx.of1 h;go_upto_region 2 with (first | (go_at_call 217;refine X.call (d _) λ_ X=>?_) | (refine X.ld ?_) | (refine X.st λ_ X=>?_) | fail);dsimp only [Act.put];have q0:=Bx.clq (w0:=w) (g:=w.heap.size) (l:=[(w.heap.size,[.int .i64 r.kind,.int .i64 r.n],51)]) (j:=0);cases p:r.kind != 0 <;> cases q:r.kind == 1 <;> cases s:r.n == 0
 all_goals
  refine X.qq λ_=>?_;repeat (first | (refine Bx.lq ?_;go_simp) | go_big_quiet_step ((go_at_call 218;exact Bx.cq (show Calls _ _ _ _ (aK (.agg #[.int .i64 1,.int .i64 0]) _) from mZ false _))) | (refine Bx.lqg ?_;go_simp))
  refine wpQuiet_nil ?_;(first | rintro _ ⟨⟨_,X⟩,rfl⟩ | rintro ⟨_,X⟩);go_wp2_with fail;go_ret;exact⟨by simp_all,X.k⟩
theorem unary_c (op:Int) (v:Val) (w:World):Calls prog 172 #[.int .i64 op,.agg #[.int .i64 v.kind,.int .i64 v.n]] w (mA (qY op v) w):=by have d:∀b W,(Op.unary .neg (.float .f64 b)).run prog W=.ok (.float .f64 (Op.negFloat .f64 b)) W:=λ_ _=>rfl;go_enter func172,ntmps172;go_upto_region 1 with fail;generalize h:World.alloc _ _=w1;have X:=Bx.of2 h;go_wp2_with (first | (go_at_call 217;refine X.call (zY _ _) λ_ X=>?_) | (go_at_call 174;refine X.call (tru_c _ _) λ_ X=>?_) | (go_at_call 218;refine X.call (mZ _ _) λ_ X=>?_) | (go_at_call 219;refine X.call (abN _ _) λ_ X=>?_) | (go_at_call 220;refine X.call (fof_c _ _) λ_ X=>?_) | (go_at_call 119;refine X.call (aaQ _ _ _) λ_ X=>?_) | (go_at_call 221;refine X.call (pX _ _) λ_ X=>?_) | (refine X.ld ?_) | (refine X.st λ_ X=>?_) | (refine X.l1 ?_) | (refine X.l1g ?_) | fail);all_goals (refine X.rt2 ⟨?_,X.k⟩;simp_all [qY])
theorem akN (op:Int) (u v:Val) (w:World):Calls prog 173 #[.int .i64 op,.agg #[.int .i64 u.kind,.int .i64 u.n],.agg #[.int .i64 v.kind,.int .i64 v.n]] w (mA (jV op u v) w):=by
 go_enter func173,ntmps173;go_upto_region 1 with fail;generalize h:World.alloc _ _=w1;have X:=Bx.of3 h;refine X.dq (n:=4) λ_=>?_;simp only[List.take_succ_cons,List.take_zero,List.drop_succ_cons,List.drop_zero];repeat (first | (refine Bx.lq ?_;go_simp) | go_big_quiet_step ((go_at_call 217;exact Bx.cq (zY _ _))) | (refine Bx.lqg ?_;go_simp))
 refine wpQuiet_nil ?_;(first | rintro _ ⟨⟨_,X⟩,rfl⟩ | rintro ⟨_,X⟩);go_wp2_with (first | (go_at_call 218;refine X.call (mZ _ _) λ_ X=>?_) | (go_at_call 223;refine X.call (ahP _ _ _ _) λ_ X=>?_) | (go_at_call 221;refine X.call (pX _ _) λ_ X=>?_) | (refine X.ld ?_) | (refine X.st λ_ X=>?_) | (refine X.l1 ?_) | (refine X.l1g ?_) | fail);skip
 ·obtain⟨⟨⟨j,l⟩,p⟩,f⟩:∃r,oH op (pO (dQ u).n) (pO (dQ v).n)=r:=⟨_,rfl⟩;have d:=λW=>ajO op (pO (dQ u).n) (pO (dQ v).n) W;rw[f] at d;have g:=hI f;unfold mA at d;dsimp only at d;clear f;simp only[*] at X;refine X.dq (n:=8) λ_=>?_;simp only[List.take_succ_cons,List.take_zero,List.drop_succ_cons,List.drop_zero];repeat (first | (refine Bx.lq ?_;go_simp) | go_big_quiet_step ((go_at_call 119;exact Bx.cq (aaQ _ _ _))) | go_big_quiet_step ((go_at_call 222;exact Bx.cq (d _))) | (refine Bx.lqg ?_;go_simp))
  refine wpQuiet_nil ?_;(first | rintro _ ⟨⟨_,X⟩,rfl⟩ | rintro ⟨_,X⟩);go_wp2_with (first | (refine X.st λ_ X=>?_) | fail);replace g:=g.o;refine X.rt2 ⟨?_,X.k⟩;simp_all [jV]
 all_goals refine X.rt2 ⟨?_,X.k⟩;simp_all [jV,show ∀a b:Int,(a == b)=decide (a=b) from λ_ _=>rfl]
end
section
open Go.RowKit
structure aQ (w w':World):Prop where
 os:w'.os=w.os
 tape:w'.tape=w.tape
 output:w'.output=w.output
 size:w.heap.size<=w'.heap.size
 block:∀(k:Nat) (cs:Array Value) (e:TypeId) (fr:Nat×Nat),w.heap[k]? = some (.cells cs e fr)->e≠147->e≠145->e≠166->e≠51->w'.heap[k]? = w.heap[k]?
theorem aQ.refl (w:World):aQ w w:=⟨rfl,rfl,rfl,Nat.le_refl _,λ_ _ _ _ _ _ _ _ _=>rfl⟩
theorem aQ.trans {a b c:World} (h:aQ a b) (g:aQ b c):aQ a c:=
 ⟨g.os.trans h.os,g.tape.trans h.tape,g.output.trans h.output,Nat.le_trans h.size g.size,λk cs e d f h1 j l p=>by
  have:=h.block k cs e d f h1 j l p
  exact(g.block k cs e d (this.trans f) h1 j l p).trans this⟩
theorem aQ.of {w w':World} (h:Below w.heap.size w w'):aQ w w':=⟨h.os,h.tape,h.output,h.size,λk cs e f d _ _ _ _=>h.block k (aY d)⟩
theorem ak0 {T:Nat->Prop} {w w':World} (h:dC T w w') (p:∀k,k<w.heap.size->T k->∃cs e,w.heap[k]? = some (.cells cs e (0,0))/\(e=147\/e=145\/e=166\/e=51)):aQ w w':=
 ⟨h.os,h.tape,h.output,h.size,λk cs e s f h1 g j l=>h.block k (aY f) (λht=>by
  obtain⟨q,r,d,h6⟩:=p k (aY f) ht
  rw[f] at d;injection d with d;injection d with _ d
  subst d
  rcases h6 with h6 | h6 | h6 | h6
  ·exact h1 h6
  ·exact g h6
  ·exact j h6
  ·exact l h6)⟩
def xL (Γ : mW) (W':aG) (r:Value) (w:World) (e:Ending) (w':World):Prop:=e=.returned r/\(∃cv vv vs fs,cC Γ w' W' cv vv vs fs)/\aQ w w'
theorem fQ {w:World} {B g n d:Nat} {e:TypeId} {size:Nat} {xs:List Value} (h:w.ownsRow B e size (.slice (some ⟨g,0,none⟩) n d) n xs) {o m:Nat} (hi:o+m<=n*size):w.there g o m:=λj f=>by
 refine⟨?_,h.frozenAt _⟩
 rw[h.cellAt (o+j) (by omega),lG (by rw[h.1];omega)];rfl
section
variable {Γ : mW} {w w':World} {W:aG} {cv vv:Value} {vs fs:List Value}
theorem cC.setVal (L:cC Γ w W cv vv vs fs) (K:jZ Γ) {i:Nat} {v u:Val} (hi:W.vals[i]? = some u) (q:WfV v) {g n d:Nat} (f:vv=.slice (some ⟨g,0,none⟩) n d) : cC Γ (w.setCells g (i*2) (bE v)) (setV W i v) cv vv vs fs/\aQ w (w.setCells g (i*2) (bE v)):=by
 subst f;have j:n=W.vals.length:=by
  rcases L.vals.2 with ⟨h,-⟩ | ⟨s,c',r,h,-⟩;·cases h
  ·injection h with _ h
 subst j;have o:dC (λk=>(Value.slice (some ⟨g,0,none⟩) W.vals.length d).ownBlock=some k) w (w.setCells g (i*2) (bE v)):= dC.set (T:=λk=>(Value.slice (some ⟨g,0,none⟩) W.vals.length d).ownBlock=some k) (dC.set (T:=λk=>(Value.slice (some ⟨g,0,none⟩) W.vals.length d).ownBlock=some k) dC.refl rfl _ _) rfl _ _;refine⟨L.putVals K o ?_ (λx l=>?_),ak0 o (λk _ p=>?_)⟩;·rw[List.length_set];exact aaB L.vals hi
 ·rcases List.mem_or_eq_of_mem_set l with h | h;·exact L.wfv x h
  ·rw[h];exact q
 ·obtain⟨cs,h⟩:=bB L.vals p;exact⟨cs,_,h,.inr (.inr (.inr rfl))⟩
theorem cC.insAt (L:cC Γ w W cv vv vs fs) (K:jZ Γ) {i:Nat} {x:aT} (p : Γ.t.ins[i]? = some x) : ∃b d f,w.cell? ⟨Γ.wb,3,none⟩=some (.slice (some ⟨b,d,none⟩) Γ.t.ins.length f)/\jY w b (d+i*8) (bA x)/\kX x/\b < Γ.w1.heap.size:=by
 obtain⟨v,z,D,cb,e,h1,-⟩:=K.tr;obtain⟨A,f,rfl,-⟩:=id h1;have h:=(lE p).1;obtain⟨b,d,y,rfl,hb,g,q,r⟩:=tN h1 h;rw[p] at g;injection g with g;subst g
 have l:=L.tr K (k:=3) (by decide);rw[e] at l;refine⟨b,d,f,l,λj u s=>?_,q,K.q1 b (K.q0 b hb)⟩;exact(L.held ⟨b,_,none⟩ (K.q0 b hb)).trans (r j u s)
theorem zW (K:jZ Γ) (L:cC Γ w W cv vv vs fs) {i:Nat} {x:aT} (Y : Γ.t.ins[i]? = some x) (hi:i<W.vals.length) (hn : Γ.t.ins.length<=300) (v:Val) (hv:WfV v) (r:Int) (hr:wfi r) : Calls prog 233 #[.pointer (some ⟨Γ.wb,0,none⟩),.int .i64 (i:Int),.agg #[.int .i64 v.kind,.int .i64 v.n],.int .i64 r] w (xL Γ (gX W i x.exit (v,r)).1 (.int .i64 (gX W i x.exit (v,r)).2) w):=by
 have b3:i < Γ.t.ins.length:=(lE Y).1;obtain⟨g,S,h,-,b6⟩:=L.vals.form (by omega);obtain⟨w1,d⟩:∃w1,w1=w.alloc (.cells #[.int .i64 v.kind,.int .i64 v.n] 51):=⟨_,rfl⟩;have I:Hid (Below w.heap.size w w1):=by rw[d];exact aA _ _
 have s:Hid (aJ w1 w.heap.size [.int .i64 v.kind,.int .i64 v.n]):=by rw[d];exact akV _ _ _
 have J:=hI d;have A:=hI K;have M:=hI (L.below K I.o);have N:=hI h;have y:w1.cell? ⟨Γ.wb,17,none⟩=some (.slice (some ⟨g,0,none⟩) W.vals.length S):=by rw[<-h];exact M.o.own K 4
 have Z:=ecZ (s.o 0 _ rfl);have a1:=ecZ (s.o 1 _ rfl);have a2:=ecZ y;obtain⟨q,G⟩:∃q:Int,(gX W i x.exit (v,r)).2=q:=⟨_,rfl⟩;rw[G];have D:Hid ((if r<0 then(0:Int) else if x.exit<0 then 2 else 1)=q):=G;have O:(gX W i x.exit (v,r)).1=setV W i v:=rfl;rw[O];have b4:(i:Int)<W.vals.length:=by omega
 have b5:(i:Int) < Γ.t.ins.length:=by omega
 clear d L K h y G O;go_enter func233,ntmps233;go_upto_region 1 with fail;rw[<-J.o];refine aU 6 (by kernel_rfl) (by kernel_rfl) ?_;simp only[List.take_succ_cons,List.take_zero];repeat (go_big_quiet_step (fail))
 refine wpQuiet_nil ?_;intro w' hE;obtain⟨E,rfl⟩:=hE;obtain⟨wy,H⟩:=E;dsimp only;have P:=hI (M.o.below A.o H);have KY:=btZ I H;clear H Z a1 a2;obtain⟨u,V⟩:∃u,W.vals[i]? = some u:=⟨_,lG hi⟩;have TH:Hid (wy.there g (i*2) 2):=by have:=P.o.vals;rw[N.o] at this;exact fQ this (by omega)
 have R:=hI (P.o.setVal A.o V hv N.o);clear V;simp only[List.drop_succ_cons,List.drop_zero];go_upto_region 2 with (first | (refine wpList_store_mid rfl 51 _ _ rfl g (i*2) #[.int .i64 v.kind,.int .i64 v.n] rfl rfl TH.o fB (oCz (by simp[Value.oneCell'])) ?_) | fail);generalize l:World.setCells _ _ _ _=w9;have p:Hid (cC Γ w9 (setV W i v) cv vv vs fs):=by rw[<-l];exact R.o.1
 have F:Hid (aQ w w9):=by rw[<-l];exact(aQ.of KY.o).trans R.o.2
 clear l;(try dsimp only [Act.put]);obtain⟨b,X,a7,c3,hc,-⟩:=p.o.insAt A.o Y;have c5:w9.cell? ⟨b,X+i*8+5,none⟩=some (.int .i64 x.exit):=hc 5 _ rfl;by_cases j:r<0
 ·have f:Hid ((0:Int)=q):=by show _=_;rw[<-D.o,if_pos j]
  go_wp2_with fail;go_ret;exact⟨by rw[<-f.o];rfl,⟨_,_,_,_,p.o⟩,F.o⟩
 ·by_cases z:x.exit<0;·have f:Hid ((2:Int)=q):=(by show _=_;rw[<-D.o,if_neg j,if_pos z]);go_wp2_with fail;go_ret;exact⟨by rw[<-f.o];rfl,⟨_,_,_,_,p.o⟩,F.o⟩
  ·have f:Hid ((1:Int)=q):=(by show _=_;rw[<-D.o,if_neg j,if_neg z]);go_wp2_with fail;go_ret;exact⟨by rw[<-f.o];rfl,⟨_,_,_,_,p.o⟩,F.o⟩
end
end
section
open Go Go.RowKit
section
variable {P:Program} (w:World)
theorem vX (base:Nat) (t ty e:TypeId) (i:TypeInfo) (z:Value) (size h:Nat) (ht:P.underlying t=some (.slice e)) (hi:P.info? e=some i) (O:i.zero=some z) (r:i.size=size) (A:i.bytes=h) (I:z.cells.size=size) (J:0<size) (v:Value) (n:Nat) (xs:List Value) (p:w.ownsRow base e size v n xs) (a:Addr) (m c:Nat) (d:List Value) (hl:d.length=m*size) (l:∀j u,d[j]? = some u->w.cell? (a.add j)=some u) (h1:∀u∈d,u.oneCell'=true) (D:n+m<=maxLen) (q:(n+m)*h<=140737488355328) (s:base<=w.heap.size) : ∃v' w',(Builtin.append_ #[t,t] ty #[v,.slice (some a) m c]).run P w=.ok v' w'/\w'.ownsRow base e size v' (n+m) (xs++d)/\w.grownBy w' v.ownBlock/\ (∀g,v'.ownBlock=some g->v.ownBlock=some g\/w.heap.size<=g):=by
 rcases p.2 with ⟨rfl,rfl⟩ | ⟨g,E,K,rfl,Z,N,a0,a1,S,V⟩;·have X:xs=[]:=List.eq_nil_of_length_eq_zero (by simpa using p.1);subst X;obtain⟨v',w',y,G,M,-⟩:=run_append_own (P:=P) w w.heap.size t ty e i z size h ht hi O r A I J _ 0 [] (World.ownsRow_nil w w.heap.size e size) a m c d hl l h1 D q (Nat.le_refl _);exact⟨v',w',y,fH G s,M,λg N=>.inr (G.lt g N).1⟩
 ·obtain⟨v',w',y,G,M,-⟩:=run_append_own (P:=P) w base t ty e i z size h ht hi O r A I J _ n xs p a m c d hl l h1 D q s;refine⟨v',w',y,G,M,λk H=>?_⟩;subst r;subst A;by_cases x:n+m<=E
  ·have L:n*i.size+d.length<=K.size:=(by rw[hl,S,<-Nat.add_mul];exact Nat.mul_le_mul_right _ x);have f:=run_append_room (P:=P) w t ty e i ht hi g n E K N a m c d hl l h1 x L;rw[y] at f;injection f with f
   rw[f] at H;exact .inl H
  ·have F:∀j u,xs[j]? = some u->w.cell? ((⟨g,0,none⟩:Addr).add j)=some u:=p.cells (g:=g) rfl;have R:n+m<=9223372036854775807:=(by simp only[maxLen] at D;omega);have f:=run_append_grow (P:=P) w t ty e i z ht hi O ⟨g,0,none⟩ n E xs p.1 F a m c d hl l (by omega) (by omega) (growslice_fits (by omega) q);rw[y] at f;injection f with f
   rw[f] at H;have Y:w.heap.size=k:=(by simpa [Value.ownBlock] using H);exact .inr (by omega)
theorem kK {o:Oper} {a:Act} {K:Act->World->Prop} {Q:Exit->Act->World->Prop} (s x:Operand) (t:TypeId) (M:o.op=.call { callee:=.builtin .append,args:=#[s,x],argTypes:=#[t,t] }) (base:Nat) (e:TypeId) (i:TypeInfo) (z:Value) (size f:Nat) (ht:P.underlying t=some (.slice e)) (hi:P.info? e=some i) (N:i.zero=some z) (p:i.size=size) (D:i.bytes=f) (E:z.cells.size=size) (F:0<size) (v:Value) (n:Nat) (xs:List Value) (O:a.eval s=v) (y:w.ownsRow base e size v n xs) (A:Addr) (m c:Nat) (d:List Value) (R:a.eval x=.slice (some A) m c) (hl:d.length=m*size) (q:∀j u,d[j]? = some u->w.cell? (A.add j)=some u) (h1:∀u∈d,u.oneCell'=true) (G:n+m<=maxLen) (l:(n+m)*f<=140737488355328) (r:base<=w.heap.size) (h:∀v' w',w'.ownsRow base e size v' (n+m) (xs++d)->w.grownBy w' v.ownBlock->(∀g,v'.ownBlock=some g->v.ownBlock=some g\/w.heap.size<=g)->K (a.put o.dst v') w'):o.wp P a w K Q:=by obtain⟨v',w',H,I,J,L⟩:=vX (P:=P) w base t o.type e i z size f ht hi N p D E F v n xs y A m c d hl q h1 G l r;unfold Oper.wp execOp;simp only[M,resolve,invoke,builtin,Sem.run_bind,Sem.run_pure,Result.andThen_ok,List.map_toArray,List.map_cons,List.map_nil,O,R,H];exact h v' w' I J L
variable {w}
theorem rT {ops:Array Oper} {rest:List Oper} {o:Oper} {a:Act} {Q:Exit->Act->World->Prop} (D:o.guard=none) (s x:Operand) (t:TypeId) (M:o.op=.call { callee:=.builtin .append,args:=#[s,x],argTypes:=#[t,t] }) (base:Nat) (e:TypeId) (i:TypeInfo) (z:Value) (size f:Nat) (ht:P.underlying t=some (.slice e)) (hi:P.info? e=some i) (N:i.zero=some z) (p:i.size=size) (E:i.bytes=f) (F:z.cells.size=size) (G:0<size) (v:Value) (n:Nat) (xs:List Value) (O:a.eval s=v) (y:w.ownsRow base e size v n xs) (A:Addr) (m c:Nat) (d:List Value) (R:a.eval x=.slice (some A) m c) (hl:d.length=m*size) (q:∀j u,d[j]? = some u->w.cell? (A.add j)=some u) (h1:∀u∈d,u.oneCell'=true) (H:n+m<=maxLen) (l:(n+m)*f<=140737488355328) (r:base<=w.heap.size) (h:∀v' w',w'.ownsRow base e size v' (n+m) (xs++d)->w.grownBy w' v.ownBlock->(∀g,v'.ownBlock=some g->v.ownBlock=some g\/w.heap.size<=g)->wpList P ops Q rest (a.put o.dst v') w'):wpList P ops Q (o::rest) a w:= wpList_plain D λ_ I=>kK w s x t M base e i z size f ht hi N p E F G v n xs O y A m c d R hl q h1 H l r λv' w' J K L=>I _ _ (h v' w' J K L)
end
end
section
open Go.RowKit
section
variable {Γ : mW} {w w':World} {W:aG} {cv vv:Value} {vs fs:List Value}
theorem ahF {w:World} {B e size n:Nat} {A:Option Addr} {m c:Nat} {xs:List Value} (h:w.ownsRow B e size (.slice A m c) n xs):m=n:=by
 rcases h.2 with ⟨h,f⟩ | ⟨g,c',d,h,-⟩;·injection h with _ h;omega
 ·injection h with _ h
theorem ae0 (K:jZ Γ) (L:cC Γ w W cv vv vs fs) {i:Nat} (hi:i<W.vals.length) (hn:W.vals.length<=300) (hl:W.cells.length<=300) (kind:Int) (v:wfi kind) : Calls prog 238 #[.pointer (some ⟨Γ.wb,0,none⟩),.int .i64 (i:Int),.int .i64 kind] w (xL Γ (eP W i kind).1 (.int .i64 (eP W i kind).2) w):=by
 obtain⟨g,d1,D,-,f8⟩:=L.vals.form (by omega);have d:=hI K;have HL:=hI L;have HV:=hI D;obtain⟨f,j,rfl⟩:=cJ L.crow;have P:w.cell? ⟨Γ.wb,17,none⟩=some (.slice (some ⟨g,0,none⟩) W.vals.length d1):=by rw[<-D];exact L.own K 4
 have R:w.cell? ⟨Γ.wb,13,none⟩=some (.slice f W.cells.length j):=L.own K 0;have f7:(i:Int)<W.vals.length:=by omega
 clear K L D;by_cases h3:300<=W.cells.length
 ·have M:eP W i kind=(W,1):=by unfold eP;rw[if_pos h3]
  rw[M];go_enter func238,ntmps238;go_wp2_with fail;go_ret;exact⟨rfl,⟨_,_,_,_,HL.o⟩,aQ.refl _⟩
 ·have M:eP W i kind=({ setV W i ⟨5,(W.cells.length:Int)⟩ with cells:=(setV W i ⟨5,(W.cells.length:Int)⟩).cells++[⟨kind,0,[],[]⟩] },0):=by unfold eP;rw[if_neg h3];rfl
  rw[M];obtain⟨u,F⟩:∃u,W.vals[i]? = some u:=⟨_,lG hi⟩;have S:WfV ⟨5,(W.cells.length:Int)⟩:=by unfold WfV wfi;constructor <;> (constructor <;> simp <;> omega)
  have a7:=hI S;have HU:=hI F;clear M F S;go_enter func238,ntmps238;go_upto_region 3 with fail;have a1:=ecZ R;have a2:=ecZ P;refine aU 11 (by kernel_rfl) (by kernel_rfl) ?_;simp only[List.take_succ_cons,List.take_zero];repeat (go_big_quiet_step (fail))
  refine wpQuiet_nil ?_;intro w' hE;obtain⟨E,rfl⟩:=hE;obtain⟨wy,ky⟩:=E;dsimp only;have LY:=hI (HL.o.below d.o ky);have KY:=hI ky;clear ky a1 a2 R P;have TH:Hid (wy.there g (i*2) 2):=by have:=LY.o.vals;rw[HV.o] at this;exact fQ this (by omega)
  have S9:=hI (LY.o.setVal d.o HU.o a7.o HV.o);simp only[List.drop_succ_cons,List.drop_zero];go_upto_region 4 with (first | (refine wpList_store_mid rfl 51 _ _ rfl g (i*2) #[.int .i64 5,.int .i64 (W.cells.length:Int)] rfl rfl TH.o fB (oCz (by simp[Value.oneCell'])) ?_) | fail);generalize J:World.setCells _ _ _ _=w9;have L9:Hid (cC Γ w9 (setV W i ⟨5,(W.cells.length:Int)⟩) (.slice f W.cells.length j) vv vs fs):=by rw[<-J];exact S9.o.1
  have K9:Hid (aQ w w9):=by rw[<-J];exact(aQ.of KY.o).trans S9.o.2
  clear J;(try dsimp only [Act.put]);have b3:w9.cell? ⟨Γ.wb,13,none⟩=some (.slice f W.cells.length j):=L9.o.own d.o 0;obtain⟨i0,V,N⟩:=Option.map_eq_some_iff.1 wN;simp only[Prod.mk.injEq] at N;obtain⟨hz,X,Y⟩:=N;obtain⟨z,Z,a0⟩:=Option.map_eq_some_iff.1 hz;have HI:=hI V;have HZ:=hI Z;have b4:=hI X;have b5:=hI Y;have b6:=hI a0;clear V Z X Y a0 hz;obtain⟨r,x⟩:∃r,r=w9.alloc (.cells #[.int .i64 kind,.int .i64 0,.slice none 0 0,.slice none 0 0] 166):=⟨_,rfl⟩;have KA:Hid (Below w9.heap.size w9 r):=by rw[x];exact aA _ _
  have BA:Hid (r.heap[w9.heap.size]? = some (.cells #[.int .i64 kind,.int .i64 0,.slice none 0 0,.slice none 0 0] 166 (0,0))):=by rw[x];exact aS _ _
  have l:=hI (L9.o.below d.o KA.o);have c1:=hI x;obtain⟨xs,G⟩:∃xs,(dR W.cells vs fs).flatMap id=xs:=⟨_,rfl⟩;have CR:Hid (r.ownsRow Γ.B 166 4 (.slice f W.cells.length j) W.cells.length xs):=by rw[<-G];exact l.o.crow
  have c2:=hI G;clear G;have c3 : Γ.B<=r.heap.size:=Nat.le_trans d.o.b1 l.o.size;clear x;go_wp2_with (first | (at_builtin;rw[<-c1.o];refine rT rfl _ _ 35 rfl Γ.B 166 i0 z 4 64 underlying35 HI.o HZ.o b4.o b5.o b6.o (by decide) (.slice f W.cells.length j) W.cells.length xs rfl CR.o ⟨w9.heap.size,0,none⟩ 1 1 [.int .i64 kind,.int .i64 0,.slice none 0 0,.slice none 0 0] rfl rfl (World.news_of_block (cs:=#[.int .i64 kind,.int .i64 0,.slice none 0 0,.slice none 0 0]) BA.o) ?k2 ?k3 ?k4 c3 ?_) | fail);case k2=>intro u F;simp at F;rcases F with rfl | rfl | rfl <;> rfl
  case k3=>unfold maxLen;omega
  case k4=>omega
  intro v' O s hg I;obtain⟨H,c',rfl⟩:=cJ s;have c5:=hI I;clear I;have p:O.heap[Γ.wb]? = some (.cells ⟨Γ.tcs++[.slice f W.cells.length j,Γ.shv,.pointer (some ⟨Γ.fb,Γ.fo,none⟩),.int .i64 W.steps,vv]⟩ 147 (0,0)):=by refine(hg.block _ (aY l.o.row) (λe=>?_)).trans l.o.row;obtain⟨cs,h⟩:=bB l.o.crow e.symm;exact bS l.o.row h (by decide) rfl
  have A:=hI p;have c6:=hI s;have GR:=hI hg;have c7:O.cell? ⟨Γ.wb,13,none⟩=some (.slice f W.cells.length j):=by rw[cell_of_row O _ 13 _ _ _ p];refine(List.getElem?_toArray ..).trans ?_;rw[List.getElem?_append_right (by rw[d.o.tl];omega),d.o.tl];rfl
  have c8:=frozen_of_row O _ 13 _ _ p;clear p s hg b3;go_wp2_with fail;generalize y:World.setCell _ _ _=w7;have R7:Hid (w7.heap[Γ.wb]? = some (.cells ⟨Γ.tcs++[.slice H (W.cells.length+1) c',Γ.shv,.pointer (some ⟨Γ.fb,Γ.fo,none⟩),.int .i64 W.steps,vv]⟩ 147 (0,0))):=by
   rw[<-y,heap_setCell_same _ _ _ _ _ _ A.o];have:(Γ.tcs++[.slice f W.cells.length j,Γ.shv,.pointer (some ⟨Γ.fb,Γ.fo,none⟩),.int .i64 W.steps,vv]).set 13 (.slice H (W.cells.length+1) c') = Γ.tcs++[.slice H (W.cells.length+1) c',Γ.shv,.pointer (some ⟨Γ.fb,Γ.fo,none⟩),.int .i64 W.steps,vv]:=by rw[List.set_append_right _ _ (by rw[d.o.tl];omega),d.o.tl];rfl
   show some (Obj.cells ((_:Array Value).setIfInBounds 13 _) _ _)=_;rw[<-this];simp
  have ON:Hid (dC (λk=>(Value.slice f W.cells.length j).ownBlock=some k\/k = Γ.wb) r w7):=by rw[<-y];exact(dC.grown dC.refl GR.o (λk v=>.inl v)).set (.inr rfl) _ _
  have C7:Hid (w7.ownsRow Γ.B 166 4 (.slice H (W.cells.length+1) c') (W.cells.length+1) ((dR W.cells vs fs).flatMap id++bM ⟨kind,0,[],[]⟩ (.slice none 0 0) (.slice none 0 0))):=by rw[<-y,c2.o];exact cY c6.o A.o (by decide) _ _
  have d0:Hid (∀g,(Value.slice H (W.cells.length+1) c').ownBlock=some g->(Value.slice f W.cells.length j).ownBlock=some g\/r.heap.size<=g):=λq N=>by exact c5.o q N
  have L7:=hI (l.o.snoc d.o ⟨v,by unfold wfi;omega⟩ ON.o R7.o C7.o d0.o);have K7:Hid (aQ w w7):=(K9.o.trans (aQ.of KA.o)).trans (ak0 ON.o (λk _ v=>by
   rcases v with v | rfl;·obtain⟨cs,h⟩:=bB l.o.crow v;exact⟨cs,_,h,.inr (.inr (.inl rfl))⟩
   ·exact⟨_,_,l.o.row,.inl rfl⟩))
  clear y c7 c8;go_wp2_with fail;go_ret;exact⟨rfl,⟨_,_,_,_,L7.o⟩,K7.o⟩
end
end
end Go.Proofs.YtijihlcdhppfgaaGreatDoor
