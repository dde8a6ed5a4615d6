/- A part of the walk. -/
import Derived.Test.YtijihlcdhppfgaaGreatDoorWA
import Derived.Test.YtijihlcdhppfgaaGreatDoorZDA
import Derived.Test.YtijihlcdhppfgaaGreatDoorZCE
set_option maxHeartbeats 16000000
set_option maxRecDepth 100000
set_option linter.all false
namespace Go.Proofs.YtijihlcdhppfgaaGreatDoor
open Go.Proofs.Tryz
section
open Go.RowKit
def asM (n:Int) (s:oL):oL:=⟨s.reg,s.val+n⟩
def asD (n:Int) (m:dX):dX:=⟨m.cell+n,m.kind,m.num,m.vals.map (· + n)⟩
theorem av5 {w0 w:World} {l:List (Nat×List Value×TypeId)} {os:List Og} (X:Bo w0 w l os) (xs:List Value) (x:bX) (n:Int) (k:Nat) (hx:fM w0 w0.heap.size xs x) (I:tQ k x) (hk:k<=1000) (d4:0<=n) (d5:n<=1000) (h1:x.sets.length<=1000) (h2:x.makes.length<=1000) (h3:∀m∈x.makes,m.vals.length<=1000) : Calls prog 90 #[.agg ⟨xs⟩,.int .i64 n] w (av4 w0 l os (ar2 x n)):=by
 have Y:=hI I;have H3:=hI h3;obtain⟨s,m,rfl,hs,hm,L,ws⟩:=hx;have Z:=hI hs;have HM:=hI hm;obtain⟨S,cS,rfl,c9,a3,-⟩:=hs;obtain⟨M,cM,rfl,d0,a5,-⟩:=hm;unfold maxLen at a3 a5;clear L ws I h3;go_enter func90,ntmps90;go_upto_region 1 with fail;generalize h:World.alloc _ _=w1;have X:=X.al2 h;clear h;go_wp2_with (first | (refine X.bx.l1 ?_) | (refine X.sta λw2 X=>?_) | fail);have X:=X.nw 124 2;go_loopw [21] (λi wr=>∃(j:Nat) (v:Value),i=.int .i64 j/\j<=x.sets.length/\Bo w0 wr ((w1.heap.size,[.int .i64 x.at_,.int .i64 x.steps,v,.slice none 0 0],32)::(w.heap.size+1,[.int .i64 0,.int .i64 0,.slice none 0 0,.slice none 0 0],32)::(w.heap.size,[.int .i64 x.at_,.int .i64 x.steps,.slice S x.sets.length cS,.slice M x.makes.length cM],32)::l) (⟨124,2,v,j,(x.sets.take j).flatMap λs=>avR (asM n s)⟩::os)) (λi _=>x.sets.length - (RowKit.intOf i).toNat);case atStart=>exact⟨0,_,rfl,by omega,X⟩
 case round=>
  clear X;obtain⟨j,v,rfl,hj,X⟩:=hrel;by_cases g:j<x.sets.length
  ·have r:(j:Int)<x.sets.length:=(by omega);obtain⟨b,D,y,ys,rfl,hb,hy,-,⟨rfl,E,F⟩,d⟩:=Z.o.at_ g;have J:Hid (wr.rangeAt b (D+j*2) _):=λk u hk=>(X.bx.k.cell hb).trans (d k u hk);obtain⟨a6,a7⟩:=Y.o.1 y (lM hy);have K:=hI (avM (f:=λs=>avR (asM n s)) hy);clear d hy E F;go_wp2_with (first | (refine X.bx.l1 ?_) | (refine Bx.ldr J.o ?_) | (refine X.sta λwy X=>?_) | (at_builtin;refine X.app av9 λR c' w6 X=>?_) | (refine X.s1 λ_ X=>?_) | fail);go_roundw;case rel=>exact⟨j+1,_,by go_num,by omega,by rw[K.o];exact X.tl1⟩
   case measure=>simp[RowKit.intOf];omega
  ·obtain rfl:j=x.sets.length:=by omega
   have r:¬(x.sets.length:Int)<x.sets.length:=(by omega);rw[List.take_of_length_le (Nat.le_refl _)] at X;have X:=X.nw 127 4;clear Z g hj;go_wp2_with (first | (refine X.bx.l1 ?_) | fail);go_loopw [41] (λi wr=>∃(j:Nat) (u:Value) (rows:List (List Value)) (vs:List Og),i=.int .i64 j/\j<=x.makes.length/\Hid (avD (MkO vs) rows ((x.makes.take j).map (asD n)))/\Bo w0 wr ((w1.heap.size,[.int .i64 x.at_,.int .i64 x.steps,v,u],32)::(w.heap.size+1,[.int .i64 0,.int .i64 0,.slice none 0 0,.slice none 0 0],32)::(w.heap.size,[.int .i64 x.at_,.int .i64 x.steps,.slice S x.sets.length cS,.slice M x.makes.length cM],32)::l) (vs++⟨127,4,u,j,rows.flatten⟩::⟨124,2,v,x.sets.length,x.sets.flatMap λs=>avR (asM n s)⟩::os)) (λi _=>x.makes.length - (RowKit.intOf i).toNat);case atStart=>exact⟨0,_,[],[],rfl,by omega,.nil,X⟩
   case round=>
    clear X;obtain⟨j,u,rows,vs,rfl,hj,N,X⟩:=hrel;by_cases g:j<x.makes.length
    ·have r:(j:Int)<x.makes.length:=(by omega);obtain⟨b,D,y,ys,rfl,hb,hy,-,⟨vv,rfl,G,E,F,a9⟩,d⟩:=HM.o.at_ g;have HV:=hI G;obtain⟨V,cV,rfl,d1,b0,-⟩:=G;unfold maxLen at b0;have J:Hid (wr.rangeAt b (D+j*4) _):=λk u hk=>(X.bx.k.cell hb).trans (d k u hk);have c8:=H3.o y (lM hy);obtain⟨⟨d2,d3⟩,H⟩:=Y.o.2 y (lM hy);have a0:=hI H;have HY:=hI hy;clear d hy E F a9 H;go_upto_region 10 with (first | (refine Bx.ldr J.o ?_) | (refine X.sta λL X=>?_) | fail);(try dsimp only [Act.put]);go_wp2_with (first | (refine X.bx.l1 ?_) | (refine X.sta λwb X=>?_) | fail);have X:=X.nw 3 1;go_loopw [57] (λi P=>∃(q:Nat) (p:Value),i=.int .i64 q/\q<=y.vals.length/\Bo w0 P ((L.heap.size,[.int .i64 (y.cell+n),.int .i64 y.kind,.int .i64 y.num,p],127)::_) (⟨3,1,p,q,(y.vals.take q).flatMap λv=>[.int .i64 (v+n)]⟩::_)) (λi _=>y.vals.length - (RowKit.intOf i).toNat);case atStart=>exact⟨0,_,rfl,by omega,X⟩
     case round=>
      clear X;obtain⟨q,p,rfl,hq,X⟩:=hrel;by_cases b6:q<y.vals.length
      ·have a1:(q:Int)<y.vals.length:=(by omega);obtain⟨b3,c7,z,zs,rfl,b2,O,-,⟨rfl,P⟩,d⟩:=HV.o.at_ b6;have g0:=(X.bx.k.cell b2).trans (by simpa using d 0 _ rfl);obtain⟨a6,a7⟩:=a0.o z (lM O);have K:=hI (avM (f:=λv=>[Value.int .i64 (v+n)]) O);clear d O P;go_wp2_with (first | (refine X.bx.l1 ?_) | (at_builtin;refine X.app qC λR c' w6 X=>?_) | (refine X.s1 λ_ X=>?_) | fail);go_roundw;case rel=>exact⟨q+1,_,by go_num,by omega,by rw[K.o];exact X⟩
       case measure=>simp[RowKit.intOf];omega
      ·obtain rfl:q=y.vals.length:=by omega
       have a1:¬(y.vals.length:Int)<y.vals.length:=(by omega);rw[List.take_of_length_le (Nat.le_refl _)] at X;obtain⟨A,c,rfl⟩:∃A c,p=.slice A y.vals.length c:=X.isl List.mem_cons_self;go_wp2_with (first | (refine X.bx.ld ?_) | (refine X.bx.l1 ?_) | (at_builtin;refine X.app awA λR c' w6 X=>?_) | (refine X.s1 λ_ X=>?_) | fail);go_roundw;case rel=>refine⟨j+1,_,rows++[[.int .i64 (y.cell+n),.int .i64 y.kind,.int .i64 y.num,.slice A y.vals.length c]],⟨_,_,_,_,_⟩::vs,by go_num,by omega,?_,by rw[List.flatten_append];exact X.tl1.tl1⟩;rw[avQ HY.o];exact(N.o.imp λ_ _ _ h=>h.more λ_=>List.mem_cons_of_mem _).snoc ⟨_,rfl,by unfold OgI asD;simp[List.flatMap_map]⟩
       case measure=>simp[RowKit.intOf];omega
    ·obtain rfl:j=x.makes.length:=by omega
     have r:¬(x.makes.length:Int)<x.makes.length:=(by omega);obtain⟨A,c,rfl⟩:∃A c,u=.slice A x.makes.length c:=X.isl (q:=⟨_,_,u,_,_⟩) (List.mem_append_right _ List.mem_cons_self);obtain⟨R,c',rfl⟩:∃A c,v=.slice A x.sets.length c:=X.isl (q:=⟨_,_,v,_,_⟩) (List.mem_append_right _ (List.mem_cons_of_mem _ List.mem_cons_self));rw[List.take_of_length_le (Nat.le_refl _)] at N;go_wp2_with (first | (refine X.bx.ld ?_) | (refine X.st λ_ X=>?_) | fail);refine X.bx.rt1 ⟨_,vs++[?pa,?pb],rfl,⟨_,_,rows,rfl,?ps,?pm,?pv⟩,?py⟩;case py=>rw[List.append_assoc];exact X.tl1.tl1.tl1
     case ps=>rw[show(ar2 x n).sets.flatMap avR=x.sets.flatMap λs=>avR (asM n s) from by show(x.sets.map (asM n)).flatMap avR=_;rw[List.flatMap_map]];show(⟨_,_,_,(x.sets.map _).length,_⟩:Og)∈_;rw[List.length_map];exact List.mem_append_right _ (List.mem_cons_of_mem _ List.mem_cons_self)
     case pm=>show(⟨_,_,_,(x.makes.map _).length,_⟩:Og)∈_;rw[List.length_map];exact List.mem_append_right _ List.mem_cons_self
     case pv=>exact N.o.imp λ_ _ _ h=>h.more λ_=>List.mem_append_left _
end
section
open Go.RowKit
theorem asS:(prog.info? 53).map (λi=>(i.zero.map (·.cells.size),i.size,i.bytes))=some (some 8,8,64):=by kernel_rfl
theorem asX (v:Value) (rows:List (List Value)) (w:World) (hs:aB w w.heap.size 8 (Raw 8) v rows) (h1:∀r∈rows,∀u∈r,u.oneCell'=true) (F:rows.length*64<=140737488355328) : Calls prog 52 #[v] w λe w'=>∃u,e=.returned u/\w'.ownsRow w.heap.size 53 8 u rows.length (rows.flatMap id)/\Below w.heap.size w w':=by
 have d:∀x∈rows,x.length=8:=λx hx=>by obtain⟨cs,_,h⟩:=hs.mem hx;exact h
 obtain⟨A,p,rfl,a0,a1,l⟩:=id hs;cases A with
 | none=>
  have e:rows=[]:=by
   rcases Nat.eq_zero_or_pos rows.length with h | h
   ·exact List.length_eq_zero_iff.1 h
   ·obtain⟨b,J,h,_⟩:=l h;cases h
  subst e
  have hn:∀W,(binOp .eql 27 (.slice none 0 p) (.slice none 0 0)).run prog W=.ok (.bool true) W:=λW=>Lib.run_eql_slice_nil W _ _ _ _ _ _ _ underlying27
  clear l hs d h1
  simp only[List.length_nil] at *
  go_enter func52,ntmps52
  go_wp2_with fail
  go_ret
  exact⟨_,rfl,World.ownsRow_nil _ _ _ _,Below.refl _ _⟩
 | some ad=>
  have hn:∀W,(binOp .eql 27 (.slice (some ad) rows.length p) (.slice none 0 0)).run prog W=.ok (.bool false) W:=λW=>Lib.run_eql_slice_nil W _ _ _ _ _ _ _ underlying27
  have g:∀j u,(rows.flatMap id)[j]? = some u->w.cell? (ad.add j)=some u:=by
   rcases Nat.eq_zero_or_pos rows.length with h | h
   ·have e:rows=[]:=List.length_eq_zero_iff.1 h
    subst e;simp
   ·obtain⟨b,J,h,_⟩:=l h
    injection h with h
    subst h
    exact fE (by decide) d (λcs x h=>h.1) hs
  obtain⟨Z,hi,K⟩:=Option.map_eq_some_iff.1 asS
  simp only[Prod.mk.injEq] at K
  obtain⟨L,s,y⟩:=K
  obtain⟨z,D,E⟩:=Option.map_eq_some_iff.1 L
  have N:=hI g
  have O:=hI hi
  have P:=hI D
  have G:=hI s
  have H:=hI y
  have I:=hI E
  have hl:rows.length<=maxLen:=by unfold maxLen;omega
  have R:=hI hl
  have HR:=hI d
  have S:=hI (jM (f:=id) rows h1)
  have V:=hI (jA (f:=id) rows d)
  clear g hi D s y E L hl d h1 hs l
  go_enter func52,ntmps52
  go_wp2_with (at_builtin;refine wpList_append_own _ rfl _ _ 27 rfl w.heap.size 53 Z z 8 64 underlying27 O.o P.o G.o H.o I.o (by decide) (.slice (some ⟨w.heap.size,0,none⟩) 0 0) 0 [] rfl (jL _ _ _) ad rows.length p (rows.flatMap id) rfl V.o (λj u hj=>kL (N.o j u hj) _) S.o (by rw[Nat.zero_add];exact R.o) (by rw[Nat.zero_add];exact F) (by simp) ?_)
  intro v' w6 q M _
  have X:=hI M
  have Y:=hI q
  clear M q
  go_wp2_with fail
  go_ret
  refine⟨_,rfl,by simpa using Y.o,Below.grown (aA w _) X.o (by simp) (by simp[Value.ownBlock])⟩
theorem aqR:(prog.info? 32).map (λi=>(i.zero.map (·.cells.size),i.size,i.bytes))=some (some 4,4,64):=by kernel_rfl
theorem aq8 (v:Value) (rows:List (List Value)) (w:World) (hs:aB w w.heap.size 4 (Raw 4) v rows) (h1:∀r∈rows,∀u∈r,u.oneCell'=true) (F:rows.length*64<=140737488355328) : Calls prog 40 #[v] w λe w'=>∃u,e=.returned u/\w'.ownsRow w.heap.size 32 4 u rows.length (rows.flatMap id)/\Below w.heap.size w w':=by
 have d:∀x∈rows,x.length=4:=λx hx=>by obtain⟨cs,_,h⟩:=hs.mem hx;exact h
 obtain⟨A,p,rfl,a0,a1,l⟩:=id hs;cases A with
 | none=>
  have e:rows=[]:=by
   rcases Nat.eq_zero_or_pos rows.length with h | h
   ·exact List.length_eq_zero_iff.1 h
   ·obtain⟨b,J,h,_⟩:=l h;cases h
  subst e
  have hn:∀W,(binOp .eql 28 (.slice none 0 p) (.slice none 0 0)).run prog W=.ok (.bool true) W:=λW=>Lib.run_eql_slice_nil W _ _ _ _ _ _ _ underlying28
  clear l hs d h1
  simp only[List.length_nil] at *
  go_enter func40,ntmps40
  go_wp2_with fail
  go_ret
  exact⟨_,rfl,World.ownsRow_nil _ _ _ _,Below.refl _ _⟩
 | some ad=>
  have hn:∀W,(binOp .eql 28 (.slice (some ad) rows.length p) (.slice none 0 0)).run prog W=.ok (.bool false) W:=λW=>Lib.run_eql_slice_nil W _ _ _ _ _ _ _ underlying28
  have g:∀j u,(rows.flatMap id)[j]? = some u->w.cell? (ad.add j)=some u:=by
   rcases Nat.eq_zero_or_pos rows.length with h | h
   ·have e:rows=[]:=List.length_eq_zero_iff.1 h
    subst e;simp
   ·obtain⟨b,J,h,_⟩:=l h
    injection h with h
    subst h
    exact fE (by decide) d (λcs x h=>h.1) hs
  obtain⟨Z,hi,K⟩:=Option.map_eq_some_iff.1 aqR
  simp only[Prod.mk.injEq] at K
  obtain⟨L,s,y⟩:=K
  obtain⟨z,D,E⟩:=Option.map_eq_some_iff.1 L
  have N:=hI g
  have O:=hI hi
  have P:=hI D
  have G:=hI s
  have H:=hI y
  have I:=hI E
  have hl:rows.length<=maxLen:=by unfold maxLen;omega
  have R:=hI hl
  have HR:=hI d
  have S:=hI (jM (f:=id) rows h1)
  have V:=hI (jA (f:=id) rows d)
  clear g hi D s y E L hl d h1 hs l
  go_enter func40,ntmps40
  go_wp2_with (at_builtin;refine wpList_append_own _ rfl _ _ 28 rfl w.heap.size 32 Z z 4 64 underlying28 O.o P.o G.o H.o I.o (by decide) (.slice (some ⟨w.heap.size,0,none⟩) 0 0) 0 [] rfl (jL _ _ _) ad rows.length p (rows.flatMap id) rfl V.o (λj u hj=>kL (N.o j u hj) _) S.o (by rw[Nat.zero_add];exact R.o) (by rw[Nat.zero_add];exact F) (by simp) ?_)
  intro v' w6 q M _
  have X:=hI M
  have Y:=hI q
  clear M q
  go_wp2_with fail
  go_ret
  refine⟨_,rfl,by simpa using Y.o,Below.grown (aA w _) X.o (by simp) (by simp[Value.ownBlock])⟩
theorem asQ {op xa xb xc xn xe:Int} {k:Val} {d:Nat} (f:(bP op).asks=d) {j:Int} (hj:j<=300) (h:∀v∈bU ⟨op,xa,xb,xc,xn,xe,k⟩,0<=v/\v<j) : (0<d->0<=xa/\xa<=1000)/\(1<d->0<=xb/\xb<=1000)/\(2<d->0<=xc/\xc<=1000):=by
 have e:bU ⟨op,xa,xb,xc,xn,xe,k⟩=[xa,xb,xc].take d:=by unfold bU;dsimp only;rw[f,Int.toNat_natCast]
 rw[e] at h;refine⟨λc=>?_,λc=>?_,λc=>?_⟩;·have:=h xa (by obtain⟨m,rfl⟩:∃m,d=m+1:=⟨d - 1,by omega⟩;simp);omega
 ·have:=h xb (by obtain⟨m,rfl⟩:∃m,d=m+1+1:=⟨d - 2,by omega⟩;simp);omega
 ·have:=h xc (by obtain⟨m,rfl⟩:∃m,d=m+1+1+1:=⟨d - 3,by omega⟩;simp);omega
theorem asP {op xa xb xc xn xe:Int} {k:Val} {d:Nat} (f:(bP op).asks=d) (g:d<=3):(bU ⟨op,xa,xb,xc,xn,xe,k⟩).length=d:=by unfold bU;dsimp only;rw[f,Int.toNat_natCast,List.length_take];simp;omega
theorem asZ {n m:Int} {x:aT} {j:Int} (D:0<=n) (E:n<=300) (F:0<=m) (G:m<=200) (hj:j<=300) (h:∀v∈bU x,0<=v/\v<j) (I:x.exit<1000) (A:kX x):kX (ar3 n m x):=by
 obtain⟨op,xa,xb,xc,xn,xe,k⟩:=x;obtain⟨g,H,aN⟩:=vG op;obtain⟨f,d⟩:=Int.eq_ofNat_of_zero_le g;obtain⟨l,hb,hc⟩:=asQ d hj h;obtain⟨w1,q,r,s,u,w,y,z⟩:=A;have p:∀ {v:Int} {i:Nat},wfi v->(i<f->0<=v/\v<=1000)->wfi (avW (· + n) f i v):=λhv h=>by
  unfold avW;split;·rename_i c;have:=h c;unfold wfi;dsimp only;omega
  ·exact hv
 unfold ar3;rw[avZ _ op xa xb xc xn xe k f d];refine⟨w1,p q l,p r hb,p s hc,u,?_,y,z⟩;dsimp only at *;split;·unfold wfi at *;omega
 ·exact w
theorem awB {n:Int} {k:Nat} {w:World} {B:Nat} {cs:List Value} {x:bX} (d:tQ k x) (hx:fM w B cs x) (h:0<=n/\n<=1000/\k<=1000):wfX (ar2 x n):=by
 obtain⟨s,m,-,hs,hm,l,wb⟩:=hx;refine⟨l,wb,λs f=>?_,λm g=>?_⟩;·obtain⟨y,hy,rfl⟩:=List.mem_map.1 f;obtain⟨_,-,h1,-⟩:=hs.mem hy;have:=d.1 y hy;exact⟨h1,by unfold wfi;dsimp only;omega⟩
 ·obtain⟨y,hy,rfl⟩:=List.mem_map.1 g;obtain⟨_,_,-,-,-,h1,p⟩:=hm.mem hy;have j:=d.2 y hy;refine⟨⟨by unfold wfi;dsimp only;omega,h1,p⟩,λv hv=>?_⟩;obtain⟨u,hu,rfl⟩:=List.mem_map.1 hv;have:=j.2 u hu;unfold wfi;omega
def asG (t:aH) (w:World) (e:Ending) (w':World):Prop:=∃cs,e=.returned (.agg ⟨cs⟩)/\bI w' w'.heap.size cs (arY t)/\Below w.heap.size w w'
theorem infoX4:(prog.info? 32).map (·.size)=some 4:=by kernel_rfl
theorem twice_b (ca:List Value) (t:aH) (w:World) (ht:bI w w.heap.size ca t) (hc:Cuts t) (o0:t.ins.length<=300) (o3:t.exits.length<=200) (SX:∀x,x=t.back\/x∈t.exits->x.sets.length<=1000/\x.makes.length<=1000/\∀m∈x.makes,m.vals.length<=1000) (e9:∀(k:Nat) x,t.ins[k]? = some x->x.exit<1000) : Calls prog 46 #[.agg ⟨ca⟩] w (asG t w):=by
 have HC:=hI hc;have SM:=hI SX;have d8:=hI e9;have HT:=hI ht;obtain⟨i,e,ct,cb,rfl,hi,he,⟨s1,m1,rfl,-⟩,hb,wf⟩:=id ht;have HW:=hI wf;have QI:=hI hi;have QE:=hI he;have QB:=hI hb;obtain⟨Ai,ni,rfl,m4,g1,-⟩:=hi;obtain⟨Ae,ne,rfl,m6,g2,-⟩:=he;obtain⟨s,m,rfl,⟨S,cS,rfl,-⟩,⟨M,cM,rfl,-⟩,-⟩:=hb;unfold maxLen at g1 g2;obtain⟨rows,P,e6,e7⟩:=QE.o.raw;clear ht hc SX e9 wf;try dsimp only [List.cons_append,List.nil_append]
 go_enter func46,ntmps46;go_upto_region 1 with fail;generalize h:World.alloc _ _=w1;have X:=(Bo.of (Bx.nil w)).al2 h;clear h;have l3:=X.bx.qc (g:=w.heap.size) (j:=3);have l4:=X.bx.qc (g:=w.heap.size) (j:=4);refine X.bx.qq λ_=>?_;repeat (go_big_quiet_step (fail))
 refine wpQuiet_nil ?_;rintro z ⟨⟨_,X2⟩,rfl⟩;have X:=Bo.of X2;clear X2 l3 l4;try dsimp only
 have CI:Hid (∀W,Below w.heap.size w W->Calls prog 52 #[.slice Ai t.ins.length ni] W (λe w'=>∃u,e=.returned u/\w'.ownsRow W.heap.size 53 8 u t.ins.length (t.ins.flatMap bA)/\Below W.heap.size W w')):=λW k=>by
  obtain⟨d4,i5,i6,i9⟩:=QI.o.raw;obtain rfl:d4=t.ins.map bA:=by
   apply List.ext_getElem?;intro i;rw[List.getElem?_map];rcases Nat.lt_or_ge i t.ins.length with h | h;·obtain⟨c,h1,rfl,-⟩:=i9 i _ (lG h);rw[h1,lG h];rfl
   ·rw[List.getElem?_eq_none (by omega),List.getElem?_eq_none (by omega)];rfl
  have:=asX _ _ W (i6.keep k.size (λ_ hp=>k.cell hp) (λ_ _ h=>h)) (λr hr u hu=>by obtain⟨x,-,rfl⟩:=List.mem_map.1 hr;simp[bA] at hu;rcases hu with rfl | rfl | rfl | rfl | rfl | rfl | rfl | rfl <;> rfl) (by rw[i5];omega);rw[List.length_map,List.flatMap_map] at this;exact this
 have NX:Hid (avD (λc x=>c.length=4/\fM w w.heap.size c x) rows t.exits):=av6 P λi x hx=>by obtain⟨c,h1,h2⟩:=e7 i x hx;exact⟨c,h1,by obtain⟨_,_,rfl,-⟩:=h2;rfl,h2⟩
 have CX:Hid (∀W,Below w.heap.size w W->Calls prog 40 #[.slice Ae t.exits.length ne] W (λe w'=>∃u,e=.returned u/\w'.ownsRow W.heap.size 32 4 u t.exits.length (rows.flatten)/\Below W.heap.size W w')):=λW k=>by have:=aq8 _ _ W (e6.keep k.size (λ_ hp=>k.cell hp) (λ_ _ h=>h)) (λr hr u hu=>by obtain⟨x,-,-,_,_,rfl,⟨_,_,rfl,-⟩,⟨_,_,rfl,-⟩,-⟩:=NX.o.mem hr;simp at hu;rcases hu with rfl | rfl | rfl | rfl <;> rfl) (by rw[P];omega);rw[P,List.flatMap_id] at this;exact this
 clear P e6 e7;go_upto_region 2 with fail;go_cut [5] (λs5 wx=>∃(g:Nat) (A7:Option Addr) (c7:Nat) (A8:Option Addr) (c8:Nat) (bc:List Value) (G:List Og),s5=.pointer (some ⟨g,0,none⟩)/\Hid (ExO G bc (ar2 t.back t.ins.length))/\ Hid (Bo z wx [(g,[.int .i64 t.fn,.int .i64 t.at_,.int .i64 t.ins.length,.slice A7 t.ins.length c7,.slice A8 t.exits.length c8,.int .i64 t.back.at_,.int .i64 t.back.steps,.slice S t.back.sets.length cS,.slice M t.back.makes.length cM]++bc,34)] (G++[⟨32,4,.slice A8 t.exits.length c8,t.exits.length,rows.flatten⟩,⟨53,8,.slice A7 t.ins.length c7,t.ins.length,t.ins.flatMap bA⟩])))
 case first=>
  have HB:Hid (fM z z.heap.size _ t.back):=QB.o.keep X.bx.k.size (λ_ hp=>X.bx.k.cell hp)
  have CM:Hid (∀W l os,Bo z W l os->Calls prog 90 #[.agg ⟨[.int .i64 t.back.at_,.int .i64 t.back.steps,.slice S t.back.sets.length cS,.slice M t.back.makes.length cM]⟩,.int .i64 t.ins.length] W (av4 z l os (ar2 t.back t.ins.length))):=λW l os Y=>av5 Y _ t.back t.ins.length t.ins.length HB.o HC.o.back (by omega) (by omega) (by omega) (SM.o _ (.inl rfl)).1 (SM.o _ (.inl rfl)).2.1 (SM.o _ (.inl rfl)).2.2
  have q0:∀E:Up z,E.to.cell? ⟨w.heap.size,0,none⟩=_:=λE=>(X.bx.on E.below).cl (by repeat (first | exact .hd _ | apply In3.tl)) (by rfl)
  have q1:∀E:Up z,E.to.cell? ⟨w.heap.size,1,none⟩=_:=λE=>(X.bx.on E.below).cl (by repeat (first | exact .hd _ | apply In3.tl)) (by rfl)
  have q3:∀E:Up z,E.to.cell? ⟨w.heap.size,3,none⟩=_:=λE=>(X.bx.on E.below).cl (by repeat (first | exact .hd _ | apply In3.tl)) (by rfl)
  have q4:∀E:Up z,E.to.cell? ⟨w.heap.size,4,none⟩=_:=λE=>(X.bx.on E.below).cl (by repeat (first | exact .hd _ | apply In3.tl)) (by rfl)
  have RX:Hid (∀E:Up z,E.to.rangeAt w.heap.size 9 [.int .i64 t.back.at_,.int .i64 t.back.steps,.slice S t.back.sets.length cS,.slice M t.back.makes.length cM]):=λE=>(X.bx.on E.below).rm (by repeat (first | exact .hd _ | apply In3.tl)) (by rfl)
  refine fS (λw'=>∃E:Up z,w'=E.to) [0,1,2,3,4,5,6,8,9,11,12,13,14,15] [7,10,16,18] 6 #[true,true,true,true,true,true,true,false,true,true,false,true,true,true,true,true,false,false,false,false] _ (by kernel_rfl) (by kernel_rfl) (by simp only[List.filterMap_cons,List.filterMap_nil,List.getElem?_toArray,List.getElem?_cons_zero,List.getElem?_cons_succ];rfl) (λ_ _ d _ _ h=>by cases d <;> exact h) ⟨⟨_,(Below.refl _ _).drew⟩,rfl⟩ ?_
  generalize O:(λa'=>dH _ _ _ _ _ _ _ _ a' _)=qq
  have J:=hI O
  clear O
  show wpQuiet _ _ _ _ [_,_,_,_,_,_,_,_,_,_,_,_,_,_] _
  repeat (first
   | (refine dE 32 _ rfl rfl w.heap.size 9 rfl _ _ RX.o underlying32 rfl infoX4 ?_;go_simp)
   | go_big_quiet_step (fail))
  refine wpQuiet_nil ?_
  rw[<-J.o]
  clear J qq RX q0 q1 q3 q4
  have Y:=(Bo.of (Bx.nil z)).dr
  have HX:=hI X
  clear X
  generalize World.drew z=v0 at Y ⊢
  have KX:=hI HX.o.bx.k
  repeat' (first
   | (refine lR (i:=7) (k:=18) (by decide +kernel) rfl rfl (λK f=>?_) (λK f=>?_))
   | (refine lR (i:=10) (k:=18) (by decide +kernel) rfl rfl (λK f=>?_) (λK f=>?_))
   | (refine lR (i:=16) (k:=18) (by decide +kernel) rfl rfl (λK f=>?_) (λK f=>?_))
   | (refine lR (i:=17) (k:=18) (by decide +kernel) rfl rfl (λK f=>?_) (λK f=>?_))
   | (refine j9 (i:=18) (by decide +kernel) rfl (λK f=>?_))
   | (refine cT [17,19] _ _ _ (by decide +kernel) ?_;refine bG [17,19] _ _ (by kernel_rfl) (by kernel_rfl) ?_)
   | (refine cT [19] _ _ _ (by decide +kernel) ?_;refine bG [19] _ _ (by kernel_rfl) (by kernel_rfl) ?_)
   | (refine j9 (i:=7) (by decide +kernel) rfl (λK f=>?_))
   | (refine j9 (i:=10) (by decide +kernel) rfl (λK f=>?_))
   | (refine j9 (i:=16) (by decide +kernel) rfl (λK f=>?_))
   | (go_simp;refine Y.cln (CI.o _ (KX.o.trans (Y.bx.k.mono KX.o.size))) λA7 c7 v p=>?_;clear Y;have Y:=p;clear p;refine f _ _ (λ_=>⟨⟨v,Y.bx.k⟩,rfl⟩) ?_;clear f K)
   | (go_simp;refine Y.cln (CX.o _ (KX.o.trans (Y.bx.k.mono KX.o.size))) λA8 c8 v p=>?_;clear Y;have Y:=p;clear p;refine f _ _ (λ_=>⟨⟨v,Y.bx.k⟩,rfl⟩) ?_;clear f K)
   | (go_simp;refine(CM.o _ _ _ Y).mono ?_;rintro e v ⟨bc,G,rfl,A,p⟩;obtain⟨s9,m9,r9,rfl,D,F,e3⟩:=A;obtain⟨A9,c9,rfl⟩:=p.isv (List.mem_append_left _ D);obtain⟨A0,c0,rfl⟩:=p.isv (List.mem_append_left _ F);have A:ExO G _ (ar2 t.back t.ins.length):=⟨_,_,r9,rfl,D,F,e3⟩;clear D F e3 Y;have Y:=p;clear p;have A:=hI A;refine f _ _ (λ_=>⟨⟨v,Y.bx.k⟩,rfl⟩) ?_;clear f K)
   | (go_simp;generalize hv:World.alloc _ _=v;have p:=Y.al1 hv;clear hv Y;have Y:=p;clear p;refine f _ _ (λ_=>⟨⟨v,Y.bx.k⟩,rfl⟩) ?_;clear f K)
   | (go_simp;refine f _ _ (λh=>by cases h) ?_;clear f K))
  all_goals
   simp only[List.filterMap_cons,List.filterMap_nil,List.getElem?_toArray,List.getElem?_cons_zero,List.getElem?_cons_succ]
   (first | show wpList _ _ _ [_,_] _ _ | show wpList _ _ _ [_] _ _)
   go_wp2_with (first | (refine Y.st λ_ Y=>?_) | fail)
   go_meet
   exact⟨_,_,_,_,_,_,_,rfl,A.o,Y⟩
 case rest=>
  obtain⟨g,A7,c7,A8,c8,bc,G,rfl,A,Y⟩:=hcut;have Z:=X.tr Y.o;clear X Y;have X:=Z;clear Z;obtain⟨s9,m9,r9,rfl,-⟩:=id A.o;simp only[List.cons_append,List.nil_append,List.append_assoc,List.append_nil] at X;go_wp2_with (first | (refine X.bx.l1 ?_) | fail);go_loopw [39] (λi wr=>∃(j:Nat) (iv:Value),i=.int .i64 j/\j<=t.ins.length/\Bo w wr ((g,[.int .i64 t.fn,.int .i64 t.at_,.int .i64 t.ins.length,iv,.slice A8 t.exits.length c8,.int .i64 t.back.at_,.int .i64 t.back.steps,.slice S t.back.sets.length cS,.slice M t.back.makes.length cM,.int .i64 (ar2 t.back t.ins.length).at_,.int .i64 (ar2 t.back t.ins.length).steps,s9,m9],34)::_) (G++[⟨32,4,.slice A8 t.exits.length c8,t.exits.length,rows.flatten⟩,⟨53,8,iv,t.ins.length+j,(t.ins++(t.ins.take j).map (ar3 t.ins.length t.exits.length)).flatMap bA⟩])) (λi _=>t.ins.length - (RowKit.intOf i).toNat);case atStart=>exact⟨0,_,rfl,by omega,by rw[List.take_zero,List.map_nil,List.append_nil];exact X⟩
  case round=>
   clear X;obtain⟨j,iv,rfl,hj,X⟩:=hrel;by_cases V:j<t.ins.length
   ·have i0:(j:Int)<t.ins.length:=(by omega);obtain⟨b,b6,x,xs,rfl,hb,hx,-,⟨rfl,wx⟩,H⟩:=QI.o.at_ V;unfold bA at H;have i1:=d8.o j x hx;have b0:=HC.o.ins j x hx;have HX:=hI hx;obtain⟨op,xa,xb,xc,xn,xe,⟨kk,kn⟩⟩:=x;dsimp only at H i1;have RG:Hid (wr.rangeAt b (b6+j*8) _):=λk u hk=>(X.bx.k.cell hb).trans (H k u hk);obtain⟨a0,a3,aN⟩:=vG op;obtain⟨I,R⟩:=Int.eq_ofNat_of_zero_le a0;have f9:I<=3:=(by omega);have l2:(I:Int)<=3:=(by omega);obtain⟨ba,bb,j2⟩:=asQ R (by omega) b0;have e4:=hI (asP (xa:=xa) (xb:=xb) (xc:=xc) (xn:=xn) (xe:=xe) (k:=⟨kk,kn⟩) R f9);have i2:=hI (show ar3 t.ins.length t.exits.length ⟨op,xa,xb,xc,xn,xe,⟨kk,kn⟩⟩=⟨op,avW (· + (t.ins.length:Int)) I 0 xa,avW (· + (t.ins.length:Int)) I 1 xb,avW (· + (t.ins.length:Int)) I 2 xc,xn,if 0<=xe then xe+t.exits.length else xe,⟨kk,kn⟩⟩ by unfold ar3;rw[avZ _ op xa xb xc xn xe ⟨kk,kn⟩ I R]);have OA:=hI (akR ⟨op,xa,xb,xc,xn,xe,⟨kk,kn⟩⟩ wx);clear H hx wx b0 a0 a3 aN R;go_upto_region 7 with (first | (refine Bx.ldr RG.o ?_) | (refine X.sta λwa X=>?_) | fail);generalize h:World.alloc _ _=w3;have X:=X.al1 h;clear h;go_wp2_with (first | (refine X.bx.ld ?_) | (go_at_call 22;refine(OA.o _).mono ?_;rintro _ w4 ⟨u,rfl,⟨A5,c5,rfl,u1,u2,-⟩,k5⟩;rw[e4.o] at u1;rw[e4.o];unfold maxLen at u2;have X:=X.on k5;clear k5) | fail);go_loopw [50] (λi wx=>∃q:Nat,i=.int .i64 q/\q<=I/\Bo w wx ((_,[.pointer (some ⟨wr.heap.size,1,none⟩),.pointer (some ⟨wr.heap.size,2,none⟩),.pointer (some ⟨wr.heap.size,3,none⟩)],_)::(wr.heap.size,[.int .i64 op,.int .i64 (avW (· + (t.ins.length:Int)) q 0 xa),.int .i64 (avW (· + (t.ins.length:Int)) q 1 xb),.int .i64 (avW (· + (t.ins.length:Int)) q 2 xc),.int .i64 xn,.int .i64 xe,.int .i64 kk,.int .i64 kn],53)::_) _) (λi _=>I - (RowKit.intOf i).toNat);case atStart=>exact⟨0,rfl,by omega,X⟩
    case round=>
     clear X;obtain⟨q,rfl,hq,X⟩:=hrel;by_cases o7:q<I
     ·have i3:(q:Int)<I:=(by omega);have h3:q=0\/q=1\/q=2:=(by omega);rcases h3 with rfl | rfl | rfl;have E:=ba (by omega);rotate_left
      have E:=bb (by omega);rotate_left
      have E:=j2 (by omega);rotate_left
      all_goals
       obtain⟨D,F⟩:=E;simp only[avW,show ¬ 0<0 by decide,show ¬ 1<0 by decide,show ¬ 2<0 by decide,show ¬ 1<1 by decide,show ¬ 2<1 by decide,show ¬ 2<2 by decide,show 0<1 by decide,show 0<2 by decide,show 1<2 by decide,if_true,if_false] at X;go_wp2_with (first | (refine X.bx.l1 ?_) | (refine X.s1 λ_ X=>?_) | fail);go_roundw;case rel=>first | exact⟨0+1,rfl,by omega,X⟩ | exact⟨1+1,rfl,by omega,X⟩ | exact⟨2+1,rfl,by omega,X⟩
       case measure=>simp[RowKit.intOf];omega
     ·obtain rfl:q=I:=by omega
      have i3:¬(q:Int)<q:=(by omega);by_cases d2:0<=xe
      all_goals
       go_wp2_with (first | (refine X.bx.ld ?_) | (refine X.bx.l1 ?_) | (at_builtin;refine X.app av7 λA' c' w6 X=>?_) | (refine X.s1 λ_ X=>?_) | fail);go_roundw;case rel=>exact⟨j+1,_,by go_num,by omega,by rw[avQ HX.o,<-List.append_assoc,List.flatMap_append,i2.o];(first | rw[if_pos d2] | rw[if_neg d2]);exact X.tl1.tl1⟩
       case measure=>simp[RowKit.intOf];omega
   ·obtain rfl:j=t.ins.length:=by omega
    have i0:¬(t.ins.length:Int)<t.ins.length:=(by omega);rw[List.take_of_length_le (Nat.le_refl _)] at X;obtain⟨A1,c1,rfl⟩:=X.isv (List.mem_append_right _ (.tail _ List.mem_cons_self));go_wp2_with (first | (refine X.bx.l1 ?_) | fail);go_loopw [81] (λi wr=>∃(j:Nat) (ev:Value) (more:List (List Value)) (N:List Og),i=.int .i64 j/\j<=t.exits.length/\Hid (avD (ExO N) more ((t.exits.take j).map (ar2 · t.ins.length)))/\Bo w wr ((g,[.int .i64 t.fn,.int .i64 t.at_,.int .i64 t.ins.length,.slice A1 (t.ins.length+t.ins.length) c1,ev,.int .i64 t.back.at_,.int .i64 t.back.steps,.slice S t.back.sets.length cS,.slice M t.back.makes.length cM,.int .i64 (ar2 t.back t.ins.length).at_,.int .i64 (ar2 t.back t.ins.length).steps,s9,m9],34)::_) (N++(G++[⟨32,4,ev,t.exits.length+j,(rows++more).flatten⟩,⟨53,8,.slice A1 (t.ins.length+t.ins.length) c1,t.ins.length+t.ins.length,(t.ins++t.ins.map (ar3 t.ins.length t.exits.length)).flatMap bA⟩]))) (λi _=>t.exits.length - (RowKit.intOf i).toNat);case atStart=>exact⟨0,_,[],[],rfl,by omega,.nil,by rw[List.append_nil];exact X⟩
    case round=>
     clear X hj V;obtain⟨j,ev,more,N,rfl,hj,AL,X⟩:=hrel;by_cases V:j<t.exits.length
     ·have g0:(j:Int)<t.exits.length:=(by omega);obtain⟨b,b6,x,o2,rfl,hb,hx,-,c3,H⟩:=QE.o.at_ V;obtain⟨s,m,rfl,⟨S2,cS2,rfl,-⟩,⟨M2,j4,rfl,-⟩,-⟩:=id c3;have RG:Hid (wr.rangeAt b (b6+j*4) _):=λk u hk=>(X.bx.k.cell hb).trans (H k u hk);have HX:=hI hx;have L:=lM hx;have CM:Hid (∀W l os,Bo w W l os->Calls prog 90 #[.agg ⟨[.int .i64 x.at_,.int .i64 x.steps,.slice S2 x.sets.length cS2,.slice M2 x.makes.length j4]⟩,.int .i64 t.ins.length] W (av4 w l os (ar2 x t.ins.length))):=λW l os Y=>av5 Y _ x t.ins.length t.ins.length c3 (HC.o.exits x L) (by omega) (by omega) (by omega) (SM.o _ (.inr L)).1 (SM.o _ (.inr L)).2.1 (SM.o _ (.inr L)).2.2;clear H hx c3 L;go_upto_region 19 with (first | (refine Bx.ldr RG.o ?_) | (refine X.sta λwa X=>?_) | fail);(try dsimp only [Act.put]);have q4:=X.bx.qc (g:=g) (j:=4);have NK:Nonempty (Bx.W w _):=⟨⟨_,X.bx⟩⟩;refine cE (λw'=>∃E:Bx.W w _,w'=E.tq) 4 [4,5,6,7,8] [4,5] (by kernel_rfl) (by decide) (by kernel_rfl) (λ_ _ d _ _ h=>by cases d <;> exact h) ⟨⟨_,X.bx.dr⟩,rfl⟩ ?_;simp only[List.take_succ_cons,List.take_zero];generalize O:(λa'=>gT _ _ _ _ _ _ a' _)=qq;have J:=hI O;clear O;repeat (first | (refine Bx.lq ?_;go_simp) | go_big_quiet_step (fail))
      refine wpQuiet_nil ?_;rw[<-J.o];clear J qq q4;have X:=X.dr;generalize World.drew _=wd at X ⊢;refine aR rfl (λK f=>?_);go_simp;refine(CM.o _ _ _ X).mono ?_;rintro e v ⟨bc,d0,rfl,b2,X'⟩;obtain⟨s3,m3,r3,rfl,D,F,e3⟩:=b2;obtain⟨A9,c9,rfl⟩:=X'.isv (List.mem_append_left _ D);obtain⟨A0,c0,rfl⟩:=X'.isv (List.mem_append_left _ F);have b2:Hid (ExO d0 _ (ar2 x t.ins.length)):=⟨_,_,r3,rfl,D,F,e3⟩;clear D F e3;refine f _ _ (λ_=>⟨⟨v,X'.bx⟩,rfl⟩) ?_;clear f K X;refine aR rfl (λK f=>?_);go_simp;refine f _ _ (λ_=>⟨⟨_,(X'.al _ _).tl1.bx⟩,rfl⟩) ?_;clear f K;refine bG [6,7,8] _ _ (by kernel_rfl) (by kernel_rfl) ?_;simp only[List.filterMap_cons,List.filterMap_nil,List.getElem?_toArray,List.getElem?_cons_zero,List.getElem?_cons_succ];show wpList _ _ _ [_,_,_] _ _;go_wp2_with (first | (at_builtin;refine X'.app av8 λA' c' w6 X=>?_) | (refine X.s1 λ_ X=>?_) | fail);go_roundw;case rel=>refine⟨j+1,_,more++[[.int .i64 (ar2 x t.ins.length).at_,.int .i64 (ar2 x t.ins.length).steps,.slice A9 (ar2 x t.ins.length).sets.length c9,.slice A0 (ar2 x t.ins.length).makes.length c0]],d0++N,by go_num,by omega,?_,by rw[<-List.append_assoc rows,List.flatten_append,List.append_assoc d0];exact X.tl1⟩;rw[avQ HX.o];exact(AL.o.imp λ_ _ _ h=>h.more λ_=>List.mem_append_right _).snoc (b2.o.more λ_=>List.mem_append_left _)
      case measure=>simp[RowKit.intOf];omega
     ·obtain rfl:j=t.exits.length:=by omega
      have g0:¬(t.exits.length:Int)<t.exits.length:=(by omega);rw[List.take_of_length_le (Nat.le_refl _)] at AL;have A:=hI (A.o.more λq hq=>List.mem_append_right N (List.mem_append_left [⟨32,4,ev,t.exits.length+t.exits.length,(rows++more).flatten⟩,⟨53,8,.slice A1 (t.ins.length+t.ins.length) c1,t.ins.length+t.ins.length,(t.ins++t.ins.map (ar3 t.ins.length t.exits.length)).flatMap bA⟩] hq));obtain⟨_,_,_,e0,D,F,-⟩:=id A.o;obtain⟨rfl,rfl⟩:_/\_:=by simpa using e0
      obtain⟨A9,c9,rfl⟩:=X.isv D;obtain⟨A0,c0,rfl⟩:=X.isv F;obtain⟨A2,c2,rfl⟩:=X.isv (List.mem_append_right _ (List.mem_append_right _ List.mem_cons_self));clear e0 D F;go_wp2_with (first | (refine X.bx.ld ?_) | (refine X.st λ_ X=>?_) | fail);refine X.bx.rt1 ⟨_,rfl,?_,X.bx.k⟩;have e5:∀x∈t.ins,kX x:=λx hx=>by obtain⟨_,_,h⟩:=QI.o.mem hx;exact h
      have up:∀ {c:List Value} {x:bX},fM w w.heap.size c x->fM _ _ c x:=λh=>h.keep X.bx.k.size (λ_ hp=>X.bx.k.cell hp);refine awD (t:=arY t) (rows:=rows++more) X.ow ?_ (λx hx=>?_) ?_ ((NX.o.imp λc x _ h=>⟨h.1,up h.2⟩).app (AL.o.imp λc x hx h=>⟨h.len,(h.more λ_=>List.mem_append_left _).r X.ow ?_⟩)) (up QB.o) (A.o.r X.ow (awB HC.o.back QB.o (by omega))) ⟨HW.o.1,HW.o.2.1,by unfold wfi arY;dsimp only;omega⟩;·show(⟨_,_,_,(t.ins++t.ins.map _).length,_⟩:Og)∈_;rw[List.length_append,List.length_map];exact List.mem_append_right _ (List.mem_append_right _ (.tail _ List.mem_cons_self))
      ·rcases List.mem_append.1 hx with hx | hx;·exact e5 x hx
       ·obtain⟨y,hy,rfl⟩:=List.mem_map.1 hx;obtain⟨k,hk⟩:=List.getElem?_of_mem hy;have o1:=(lE hk).1;exact asZ (j:=(k:Int)) (by omega) (by omega) (by omega) (by omega) (by omega) (HC.o.ins k y hk) (d8.o k y hk) (e5 y hy)
      ·show(⟨_,_,_,(t.exits++t.exits.map _).length,_⟩:Og)∈_;rw[List.length_append,List.length_map];exact List.mem_append_right _ (List.mem_append_right _ List.mem_cons_self)
      ·obtain⟨y,hy,rfl⟩:=List.mem_map.1 hx;obtain⟨_,-,hr⟩:=NX.o.mem' hy;exact awB (HC.o.exits y hy) hr.2 (by omega)
end
section
theorem twice_c (ca:List Value) (t:aH) (w:World) (ht:bI w w.heap.size ca t) (hc:Cuts t) (d:aa1 t) (f:∀(k:Nat) x,t.ins[k]? = some x->x.exit<1000) :
  Calls prog 46 #[.agg ⟨ca⟩] w (asG t w):=
 twice_b ca t w ht hc d.ins d.exitsLen (λx h=>by
  rcases h with rfl | h
  ·exact d.back
  ·exact d.exits x h) f
end
end Go.Proofs.YtijihlcdhppfgaaGreatDoor
