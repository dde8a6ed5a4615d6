/- A part of the walk. -/
import Derived.Test.YtijihlcdhppfgaaGreatDoorVA
set_option maxHeartbeats 16000000
set_option maxRecDepth 100000
set_option linter.all false
namespace Go.Proofs.YtijihlcdhppfgaaGreatDoor
open Tryz
section
open Go.RowKit
section
variable {P:Program} {w:World}
theorem ao5 (base:Nat) (t ty e:TypeId) (i:TypeInfo) (size:Nat) (ht:P.underlying t=some (.slice e)) (hi:P.info? e=some i) (v:Value) (n:Nat) (xs:List Value) (d:w.ownsRow base e size v n xs) (c:Nat) : (Builtin.append_ #[t,t] ty #[v,.slice none 0 c]).run P w=.ok v w:=by
 rcases d.2 with ⟨rfl,rfl⟩ | ⟨g,h,j,rfl,_,_,f,_⟩;·simp[Builtin.append_,run_underlying ht,sizeOf,typeInfo,hi,Builtin.lenOf,Builtin.firstCells]
 ·simp[Builtin.append_,run_underlying ht,sizeOf,typeInfo,hi,Builtin.lenOf,Builtin.firstCells,f,storeCells]
theorem ao0 {ops:Array Oper} {rest:List Oper} {o:Oper} {a:Act} {Q:Exit->Act->World->Prop} (g:o.guard=none) (s x:Operand) (t:TypeId) (l:o.op=.call { callee:=.builtin .append,args:=#[s,x],argTypes:=#[t,t] }) (base:Nat) (e:TypeId) (i:TypeInfo) (size:Nat) (ht:P.underlying t=some (.slice e)) (hi:P.info? e=some i) (v:Value) (n:Nat) (xs:List Value) (p:a.eval s=v) (f:w.ownsRow base e size v n xs) (c:Nat) (q:a.eval x=.slice none 0 c) (h:wpList P ops Q rest (a.put o.dst v) w):wpList P ops Q (o::rest) a w:=by refine wpList_plain g λK j=>?_;have d:=ao5 (P:=P) (w:=w) base t o.type e i size ht hi v n xs f c;unfold Oper.wp;simp[execOp,l,resolve,invoke,builtin,p,q,d,Result.andThen];exact j _ _ h
end
theorem aq2 {w:World} {B c:Nat} {r:Addr} {xs:List Int} (h:aB w B 1 gB (.slice (some r) xs.length c) xs):∀j u,(xs.map (Value.int .i64))[j]? = some u->w.cell? (r.add j)=some u:=by
 intro j u q;rw[List.getElem?_map] at q;obtain⟨x,g,rfl⟩:=Option.map_eq_some_iff.1 q;have hj:=(lE g).1;obtain⟨b,l,y,cs,e,hb,d,-,⟨rfl,_⟩,p⟩:=h.at_ hj;injection e with e
 subst e;rw[g] at d;injection d with d;subst d
 have h1:w.cell? ⟨b,l+j,none⟩=some (.int .i64 x):=by simpa using p 0 _ rfl
 by_cases f:j=0;·subst f;simpa [Addr.add] using h1
 ·simpa [Addr.add,f] using h1
structure aq1 (g:Nat) (cs:List Value) where
 wd:World
 here:aJ wd g cs
def aoV (x:bX) (j:Nat):List Int:=x.sets.map (·.val)++(x.makes.take j).flatMap (λm=>m.cell::m.vals)
theorem ap7 {x:bX} {j:Nat} {m:dX} (h:x.makes[j]? = some m):aoV x (j+1)=(aoV x j++[m.cell])++m.vals:=by unfold aoV;rw[jJ h,List.flatMap_append];simp
theorem aqP {x:bX} (h:acK x):∀j,(aoV x j).length<=1000+j*1001
 | 0=>by unfold aoV;rw[List.take_zero,List.flatMap_nil,List.append_nil,List.length_map];have:=h.1;omega
 | j+1=>by
  have d:=aqP h j
  cases e:x.makes[j]? with
  | none=>
   have hj:=List.getElem?_eq_none_iff.1 e
   have:aoV x (j+1)=aoV x j:=by unfold aoV;rw[List.take_of_length_le (by omega),List.take_of_length_le (by omega)]
   rw[this];omega
  | some m=>
   have f:=h.2.2 m (lM e)
   rw[ap7 e,List.length_append,List.length_append]
   simp only[List.length_cons,List.length_nil]
   omega
theorem aqL {w:World} {B:Nat} {cs:List Value} {x:bX} (h:fM w B cs x):∀v∈v9 x,wfi v:=by
 obtain⟨s,m,rfl,f,g,-⟩:=h;intro v hv;rcases List.mem_append.1 hv with hv | hv;·obtain⟨y,d,rfl⟩:=List.mem_map.1 hv;obtain⟨_,-,-,h1⟩:=f.mem d;exact h1
 ·obtain⟨y,d,hv⟩:=List.mem_flatMap.1 hv;obtain⟨_,u,-,j,h1,-⟩:=g.mem d;rcases List.mem_cons.1 hv with rfl | hv;·exact h1
  ·obtain⟨_,-,l⟩:=j.mem hv;exact l
theorem apM (cs:List Value) (x:bX) (w:World) (hx:fM w w.heap.size cs x) (N:acK x):Calls prog 41 #[.agg ⟨cs⟩] w (qI (v9 x) w):=by
 have g4:=hI (aqL hx);have e4:=hI (aqP N);obtain⟨s,m,rfl,hs,hm,f,ws⟩:=hx;have HS:=hI hs;have HM:=hI hm;have SM:=hI N;obtain⟨S,cS,rfl,n2,i3,-⟩:=hs;obtain⟨M,cM,rfl,n3,i5,-⟩:=hm;unfold maxLen at i3 i5;have m6:=N.1;have m7:=N.2.1;obtain⟨w1,P⟩:∃w1,w1=w.alloc (.cells #[.int .i64 x.at_,.int .i64 x.steps,.slice S x.sets.length cS,.slice M x.makes.length cM] 32):=⟨_,rfl⟩;have K1:Hid (Below w.heap.size w w1):=by rw[P];exact aA _ _
 have D0:Hid (w1.heap[w.heap.size]? = some (.cells #[.int .i64 x.at_,.int .i64 x.steps,.slice S x.sets.length cS,.slice M x.makes.length cM] 32 (0,0))):=by rw[P];exact aS _ _
 have g5:w.heap.size<w1.heap.size:=(aE D0.o).1;have HW:=hI P;obtain⟨q0,R,a4,a5,a6⟩:=info_parts qC;clear P f ws N;go_enter func41,ntmps41;go_upto_region 2 with fail;rw[<-HW.o];have d2:=crZ D0 2 rfl;go_wp2_with fail;clear d2;go_loopw [3,11] (λa i wr=>∃j:Nat,i=.int .i64 j/\j<=x.sets.length/\Hid (wr.ownsRow w1.heap.size 3 1 a j (((x.sets.take j).map (·.val)).map (.int .i64)))/\Hid (Below w1.heap.size w1 wr)) (λ_ i _=>x.sets.length - (RowKit.intOf i).toNat);case atStart=>exact⟨0,rfl,by omega,World.ownsRow_nil _ _ _ _,Below.refl _ _⟩
 case round=>
  obtain⟨j,rfl,hj,p,r⟩:=hrel;obtain⟨A7,c7,rfl⟩:=aeN p.o;have c0:=r.o.size;have q:=btZ K1 r.o;by_cases X:j<x.sets.length
  ·obtain⟨b,v,y,ys,rfl,hb,Z,-,⟨rfl,a7,a9⟩,g⟩:=HS.o.at_ X;have c6:(j:Int)<x.sets.length:=(by omega);have g0:wr.cell? ⟨b,v+j*2,none⟩=some (.int .i64 y.reg):=(q.o.cell hb).trans (g 0 _ rfl);have g1:wr.cell? ⟨b,v+j*2+1,none⟩=some (.int .i64 y.val):=(q.o.cell hb).trans (g 1 _ rfl);have h0:b<wr.heap.size:=Nat.lt_of_lt_of_le hb q.o.size;have HY:=hI Z;obtain⟨L,I⟩:∃L,((x.sets.take j).map (·.val)).map (Value.int .i64)=L:=⟨_,rfl⟩;rw[I] at p;have HL:=hI I;clear g Z a7 a9 I;go_wp2_with (at_builtin;refine wpList_append_own _ rfl _ _ 55 rfl w1.heap.size 3 q0 (.int .i64 0) 1 8 underlying55 R a4 a5 a6 rfl (by decide) (.slice A7 j c7) j L rfl ((p.o.alloc _).alloc _) ⟨wr.heap.size+1,0,none⟩ 1 1 [.int .i64 y.val] rfl rfl ?c1 ?c2 ?c3 ?c4 ?c5 ?_);case c1=>exact World.news_of_block (cs:=#[.int .i64 y.val]) (by have:=aS (wr.alloc (.cells #[.int .i64 y.reg,.int .i64 y.val] 124)) (.cells #[.int .i64 y.val] 3);simpa using this)
   case c2=>intro u O;simp at O;subst O;rfl
   case c3=>unfold maxLen;omega
   case c4=>omega
   case c5=>simp;omega
   intro v' w6 l hg _;have Y:=hI l;have KB:=hI (kE (B':=w1.heap.size) ((p.o.alloc (.cells #[.int .i64 y.reg,.int .i64 y.val] 124)).alloc (.cells #[.int .i64 y.val] 3)) hg (Nat.le_refl _) (by simp;omega));clear l hg;go_wp2_with fail;go_roundw;case rel=>exact⟨j+1,by go_num,by omega,by rw[jJ HY.o,List.map_append,List.map_append,HL.o];exact Y.o,((r.o.alloc (by omega) _).alloc (by simp;omega) _).trans KB.o⟩
   case measure=>simp[RowKit.intOf];omega
  ·have c6:¬(j:Int)<x.sets.length:=(by omega);obtain rfl:j=x.sets.length:=by omega
   have OB:Hid (wr.ownsRow w1.heap.size 3 1 (.slice A7 x.sets.length c7) (aoV x 0).length ((aoV x 0).map (.int .i64))):=(by have:=p.o;rw[fT (Nat.le_refl _)] at this;exact hI (by unfold aoV;simpa using this));have d3:=aC r.o (cell_of_row w1 w.heap.size 3 _ _ _ D0.o);have h3:w.heap.size<wr.heap.size:=Nat.lt_of_lt_of_le g5 r.o.size;clear p hj X;go_wp2_with fail;clear d3;go_loopw [3,24] (λa i wx=>∃j:Nat,i=.int .i64 j/\j<=x.makes.length/\Hid (wx.ownsRow w1.heap.size 3 1 a (aoV x j).length ((aoV x j).map (.int .i64)))/\Hid (Below w1.heap.size w1 wx)) (λ_ i _=>x.makes.length - (RowKit.intOf i).toNat);case atStart=>exact⟨0,rfl,by omega,OB,r⟩
   case round=>
    clear OB r q c0 h3;obtain⟨j,rfl,hj,p,r⟩:=hrel;obtain⟨A8,c8,rfl⟩:=aeN p.o;have q:=btZ K1 r.o;have c0:=r.o.size;by_cases X:j<x.makes.length
    ·obtain⟨b,v,y,ys,rfl,hb,Z,-,⟨vv,rfl,b0,a7,a9,j0⟩,g⟩:=HM.o.at_ X;have HV:=hI b0;obtain⟨V,cV,rfl,n4,j1,-⟩:=id b0;unfold maxLen at j1;have c6:(j:Int)<x.makes.length:=(by omega);have g0:wr.cell? ⟨b,v+j*4,none⟩=some (.int .i64 y.cell):=(q.o.cell hb).trans (g 0 _ rfl);have g1:wr.cell? ⟨b,v+j*4+1,none⟩=some (.int .i64 y.kind):=(q.o.cell hb).trans (g 1 _ rfl);have g2:wr.cell? ⟨b,v+j*4+2,none⟩=some (.int .i64 y.num):=(q.o.cell hb).trans (g 2 _ rfl);have g3:wr.cell? ⟨b,v+j*4+3,none⟩=some (.slice V y.vals.length cV):=(q.o.cell hb).trans (g 3 _ rfl);have h0:b<wr.heap.size:=Nat.lt_of_lt_of_le hb q.o.size;have HY:=hI Z;have m8:=SM.o.2.2 y (lM Z);have h4:=e4.o j;obtain⟨A,D⟩:∃n,(aoV x j).length=n:=⟨_,rfl⟩;obtain⟨L,I⟩:∃L,(aoV x j).map (Value.int .i64)=L:=⟨_,rfl⟩;have n0:L.length=A:=(by rw[<-I,List.length_map,D]);rw[I,D] at p;rw[D] at h4;have HL:=hI I;have h5:=hI D;rw[D];obtain⟨f,J⟩:∃f,f=wr.alloc (.cells #[.int .i64 y.cell,.int .i64 y.kind,.int .i64 y.num,.slice V y.vals.length cV] 127):=⟨_,rfl⟩;have LA:Hid (Below wr.heap.size wr f):=(by rw[J];exact aA _ _);have AX:Hid (f.heap[wr.heap.size]? = some (.cells ⟨[.int .i64 y.cell,.int .i64 y.kind,.int .i64 y.num,.slice V y.vals.length cV]⟩ 127 (0,0))):=(by rw[J];exact aS _ _);have n1:wr.heap.size<f.heap.size:=(aE AX.o).1;have AO:Hid (f.ownsRow w1.heap.size 3 1 (.slice A8 A c8) A L):=(by rw[J];exact p.o.alloc _);have AK:=btZ r LA.o;have h7:=hI J;clear g Z a7 a9 j0 J I D b0 p;go_upto_region 10 with fail;rw[<-h7.o];clear g0 g1 g2 g3;haveI:Nonempty (aq1 wr.heap.size [.int .i64 y.cell,.int .i64 y.kind,.int .i64 y.num,.slice V y.vals.length cV]):=⟨⟨f,ak3 AX.o⟩⟩;have e0:∀E:aq1 wr.heap.size [.int .i64 y.cell,.int .i64 y.kind,.int .i64 y.num,.slice V y.vals.length cV],E.wd.cell? ⟨wr.heap.size,0,none⟩=some (.int .i64 y.cell):=λE=>E.here 0 _ rfl;have e3:∀E:aq1 wr.heap.size [.int .i64 y.cell,.int .i64 y.kind,.int .i64 y.num,.slice V y.vals.length cV],E.wd.cell? ⟨wr.heap.size,3,none⟩=some (.slice V y.vals.length cV):=λE=>E.here 3 _ rfl;refine fP (λw'=>∃E:aq1 wr.heap.size [.int .i64 y.cell,.int .i64 y.kind,.int .i64 y.num,.slice V y.vals.length cV],w'=E.wd) [0] [1,2,5,6] [3,4,7,8] [3,4] _ (by kernel_rfl) (by kernel_rfl) (by simp only[List.cons_append,List.nil_append,List.filterMap_cons,List.filterMap_nil,List.getElem?_toArray,List.getElem?_cons_zero,List.getElem?_cons_succ];rfl) (λ_ _ d _ _ h=>by cases d <;> exact h) ⟨⟨f.drew,ak3 AX.o⟩,rfl⟩ ?_;show wpQuiet _ _ _ _ [_,_,_,_,_] _;generalize e2:(λa'=>gT _ _ _ _ _ _ a' _)=qq;have d0:=hI e2;clear e2;repeat (go_big_quiet_step (fail))
     refine wpQuiet_nil ?_;rw[<-d0.o];clear d0 qq e0 e3;refine aR rfl (λK hK=>?_);go_simp;refine hK _ _ (λ_=>⟨⟨(f.alloc (.cells #[.int .i64 y.cell] 3)).drew,ak3 (a8 AX.o _)⟩,rfl⟩) ?_;clear hK K;obtain⟨wb,F⟩:∃wb,wb=(f.alloc (.cells #[.int .i64 y.cell] 3)).drew:=⟨_,rfl⟩;have BB:Hid (wb.heap[f.heap.size]? = some (.cells #[.int .i64 y.cell] 3 (0,0))):=(by rw[F];exact aS f _);have BX:Hid (wb.heap[wr.heap.size]? = some (.cells ⟨[.int .i64 y.cell,.int .i64 y.kind,.int .i64 y.num,.slice V y.vals.length cV]⟩ 127 (0,0))):=(by rw[F];exact a8 AX.o _);have BO:Hid (wb.ownsRow w1.heap.size 3 1 (.slice A8 A c8) A L):=(by rw[F];exact AO.o.alloc _);have BK:Hid (Below w1.heap.size w1 wb):=(by rw[F];exact(AK.o.alloc AK.o.size _).drew);have h8:=hI F;clear F;rw[<-h8.o];refine aR rfl (λK hK=>?_);refine Eq.mpr (if_pos ?hw) ?_;case hw=>rfl
     refine wp_append_own _ _ _ 55 rfl w1.heap.size 3 q0 (.int .i64 0) 1 8 underlying55 R a4 a5 a6 rfl (by decide) (.slice A8 A c8) A L rfl BO.o ⟨f.heap.size,0,none⟩ 1 1 [.int .i64 y.cell] rfl rfl ?d1 ?d2 ?d3 ?d4 ?d5 ?_;case d1=>exact World.news_of_block (cs:=#[.int .i64 y.cell]) BB.o
     case d2=>intro u O;simp at O;subst O;rfl
     case d3=>unfold maxLen;omega
     case d4=>omega
     case d5=>exact BK.o.size
     intro v' w6 l hg _;have Y:=hI l;have CX:=hI (cL BO.o hg BX.o (by decide));have CK:=hI (BK.o.trans (kE (B':=w1.heap.size) BO.o hg (Nat.le_refl _) BK.o.size));obtain⟨A',n',c',rfl⟩:=eI l;clear l hg;refine hK _ _ (λ_=>⟨⟨w6,ak3 CX.o⟩,rfl⟩) ?_;clear hK K;have d6:=btZ K1 CK.o;have d7:=hI (HV.o.keep (B':=w6.heap.size) d6.o.size (λ_ hp=>d6.o.cell hp) (λ_ _ h=>h));refine bG [7,8] _ _ (by kernel_rfl) (by kernel_rfl) ?_;simp only[List.filterMap_cons,List.filterMap_nil,List.getElem?_toArray,List.getElem?_cons_zero,List.getElem?_cons_succ];have G:Hid ((aoV x (j+1)).length=A+1+y.vals.length/\(aoV x (j+1)).map (Value.int .i64)=(L++[.int .i64 y.cell])++y.vals.map (.int .i64)):=(by rw[show Hid _=_ from rfl,ap7 HY.o,List.length_append,List.length_append,h5.o,List.map_append,List.map_append,HL.o];exact⟨rfl,rfl⟩);cases V
     case none=>
      have a3:y.vals.length=0:=by
       rcases Nat.eq_zero_or_pos y.vals.length with h | h;·exact h
       ·obtain⟨A9,c9,e9,-,-,h9⟩:=d7.o;obtain⟨b9,o9,h9,-⟩:=h9 h;injection e9 with e9
        rw[h9] at e9;cases e9
      have d8:y.vals=[]:=List.length_eq_zero_iff.1 a3;rw[a3];refine ao0 rfl _ _ 55 rfl w1.heap.size 3 q0 1 underlying55 R (.slice A' n' c') (A+1) (L++[.int .i64 y.cell]) rfl Y.o cV rfl ?_;have O8:Hid (w6.ownsRow w1.heap.size 3 1 (.slice A' n' c') (aoV x (j+1)).length ((aoV x (j+1)).map (.int .i64))):=(by rw[G.o.1,G.o.2,d8];exact hI (by simpa using Y.o));clear a3 d8;go_wp2_with fail;go_roundw;case rel=>exact⟨j+1,by go_num,by omega,O8,CK⟩
      case measure=>simp[RowKit.intOf];omega
     case some ad=>
      refine wpList_append_own _ rfl _ _ 55 rfl w1.heap.size 3 q0 (.int .i64 0) 1 8 underlying55 R a4 a5 a6 rfl (by decide) (.slice A' n' c') (A+1) (L++[.int .i64 y.cell]) rfl Y.o ad y.vals.length cV (y.vals.map (.int .i64)) rfl (by simp) (aq2 d7.o) (λu O=>by obtain⟨z,_,rfl⟩:=List.mem_map.1 O;rfl) (by unfold maxLen;omega) (by omega) CK.o.size ?_;intro v2 w7 H e1 _;have O8:Hid (w7.ownsRow w1.heap.size 3 1 v2 (aoV x (j+1)).length ((aoV x (j+1)).map (.int .i64))):=(by rw[G.o.1,G.o.2];exact H);have CL:=hI (CK.o.trans (kE (B':=w1.heap.size) Y.o e1 (Nat.le_refl _) CK.o.size));obtain⟨n5,n6,n7,rfl⟩:=eI H;clear H e1;go_wp2_with fail;go_roundw;case rel=>exact⟨j+1,by go_num,by omega,O8,CL⟩
      case measure=>simp[RowKit.intOf];omega
    ·obtain rfl:j=x.makes.length:=by omega
     have l5:¬(x.makes.length:Int)<x.makes.length:=(by omega);have SU:Hid (aB wr wr.heap.size 1 gB (.slice A8 (aoV x x.makes.length).length c8) (v9 x)):=(by have e:aoV x x.makes.length=v9 x:=(by unfold aoV v9;rw[List.take_length]);rw[e];have h1:=p.o;rw[e] at h1;exact qQ h1 g4.o);go_wp2_with fail;go_ret;exact⟨_,rfl,SU.o,q.o⟩
end
section
open Go.RowKit
def t9 (marks:List Int) (n:Nat):List Value:=(List.range n).map (λi:Nat=>Value.bool (marks.contains (i:Int)))
theorem aoQ {d:List Int} {n k:Nat} (h:k<n):(t9 d n)[k]? = some (.bool (d.contains (k:Int))):=by unfold t9;rw[List.getElem?_map,List.getElem?_range h];rfl
theorem apH {d:List Int} {n k:Nat} (h:k<n):(⟨t9 d n⟩:Array Value).setIfInBounds k (.bool true)=⟨t9 (d++[(k:Int)]) n⟩:=by
 apply Array.toList_inj.1;rw[Array.toList_setIfInBounds];show(t9 d n).set k _=t9 _ n;apply List.ext_getElem?;intro i;rcases Nat.lt_or_ge i n with hi | hi
 ·rw[aoQ hi];by_cases c:k=i;·subst c;rw[List.getElem?_set_self (by simp[t9];exact hi)];simp
  ·rw[List.getElem?_set_ne c,aoQ hi];have:(i:Int)≠(k:Int):=by omega
   simp[this]
 ·rw[List.getElem?_eq_none (by simp[t9];exact hi),List.getElem?_eq_none (by simp[t9];exact hi)]
theorem apI (n:Nat):t9 [] n=List.replicate n (.bool false):=by
 apply List.ext_getElem?;intro i;rcases Nat.lt_or_ge i n with hi | hi;·rw[aoQ hi,List.getElem?_replicate,if_pos hi];rfl
 ·rw[List.getElem?_eq_none (by simp[t9];exact hi),List.getElem?_eq_none (by simp;exact hi)]
theorem aqJ {d:List Int} {n:Nat} {v:Int} (h:v<0):t9 (d++[v]) n=t9 d n:=by
 unfold t9;refine List.map_congr_left (λi _=>?_);have:(i:Int)≠v:=by omega
 simp[this]
theorem aqN {aF:Val->Bool} {g:Int} {fns:List FnM} {t:aH} (h:cQ aF g fns t=0) {i:Nat} {x:aT} (j:t.ins[i]? = some x) : -1<=x.exit/\x.exit<t.exits.length:=by
 obtain⟨_,fn,h1⟩:=xH h;obtain⟨_,f⟩:=fW t.ins 0 h1 i x j;simp only[eJ,Bool.and_eq_true] at f;have d:=f.2;split at d
 ·have:x.exit = -1:=by simpa using d
  omega
 ·simp only[Bool.and_eq_true,decide_eq_true_eq] at d;omega
def arH (g n:Nat) (marks l:List Int) (w:World) (e:Ending) (w':World):Prop:=
 e=.returned (.tuple #[])/\w'.heap[g]? = some (.cells ⟨t9 (marks++l) n⟩ 4 (0,0))/\aV g w w'
theorem aqC (v:Value) (l p:List Int) (r g n:Nat) (w:World) (hn:n<=300) (hl:aB w w.heap.size 1 gB v l) (E:∀x∈l,0<=x/\x<(n:Int)) (H:w.cell? ⟨r,0,none⟩=some (.slice (some ⟨g,0,none⟩) n n)) (u:w.heap[g]? = some (.cells ⟨t9 p n⟩ 4 (0,0))) (N:r≠g) : Calls prog 39 #[v,.pointer (some ⟨r,0,none⟩)] w (arH g n p l w):=by
 have P:=hI hl;have I:=hI E;have R:=hI u;have S:=hI H;obtain⟨A,a5,rfl,l1,Y,-⟩:=id hl;unfold maxLen at Y;have a1:r<w.heap.size:=eL H;have a2:g<w.heap.size:=(aE u).1;have a3:(n:Int)<=300:=by omega
 have z:∀(b f k:Nat) (x:Int),w.cell? ⟨b,f+k,none⟩=some (.int .i64 x)->b≠g:=λb f k x h=>by
  rintro rfl;rw[cell_of_row w b (f+k) _ _ _ u] at h;have h1:(t9 p n)[f+k]? = some (.int .i64 x):=by simpa using h
  rcases Nat.lt_or_ge (f+k) n with d | d;·rw[aoQ d] at h1;cases h1
  ·rw[List.getElem?_eq_none (by simp[t9];exact d)] at h1;cases h1
 have J:=hI z;clear hl E u H z;go_enter func39,ntmps39;go_wp2_with fail;go_loopw [7] (λi wr=>∃j:Nat,i=.int .i64 j/\j<=l.length/\Hid (wr.heap[g]? = some (.cells ⟨t9 (p++l.take j) n⟩ 4 (0,0)))/\Hid (aV g w wr)) (λi _=>l.length - (RowKit.intOf i).toNat);case atStart=>exact⟨0,rfl,by omega,by rw[List.take_zero,List.append_nil];exact R.o,aV.refl _ _⟩
 case round=>
  obtain⟨j,rfl,hj,s,q⟩:=hrel;have a4:w.heap.size<=wr.heap.size:=q.o.size;by_cases O:j<l.length
  ·obtain⟨b,f,y,ys,rfl,hb,G,-,⟨rfl,wy⟩,D⟩:=P.o.at_ O;have K:(j:Int)<l.length:=(by omega);have F:w.cell? ⟨b,f+j,none⟩=some (.int .i64 y):=(by simpa using D 0 _ rfl);have L:=J.o b f j y F;have g0:wr.cell? ⟨b,f+j,none⟩=some (.int .i64 y):=q.o.cell F L;have a0:wr.cell? ⟨r,0,none⟩=some (.slice (some ⟨g,0,none⟩) n n):=q.o.cell S.o N;obtain⟨Z,y1⟩:=I.o y (lM G);obtain⟨k,rfl⟩:=Int.eq_ofNat_of_zero_le Z;have M:k<n:=(by omega);have cg:=ak3 s.o k _ (aoQ M);have fg:=frozen_of_row wr g k _ _ s.o;have V:=hI G;clear D G wy F;go_wp2_with fail;go_roundw;case rel=>refine⟨j+1,by go_num,by omega,?_,q.o.set_ _ _⟩;show _=_;rw[heap_setCell_same wr g k _ _ _ s.o,apH M,jJ V.o,List.append_assoc]
   case measure=>simp[RowKit.intOf];omega
  ·have K:¬(j:Int)<l.length:=(by omega);have X:Hid (wr.heap[g]? = some (.cells ⟨t9 (p++l) n⟩ 4 (0,0))):=(by have h1:=s.o;rw[List.take_of_length_le (by omega)] at h1;exact h1);go_wp2_with fail;go_end0;exact⟨rfl,X.o,q.o⟩
end
end Go.Proofs.YtijihlcdhppfgaaGreatDoor
