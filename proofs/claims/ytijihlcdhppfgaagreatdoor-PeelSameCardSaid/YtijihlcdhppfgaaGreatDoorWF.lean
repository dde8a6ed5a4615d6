/- A part of the walk. -/
import Derived.Test.YtijihlcdhppfgaaGreatDoorWC
import Derived.Test.YtijihlcdhppfgaaGreatDoorWE
import Derived.Test.YtijihlcdhppfgaaGreatDoorZCJ
set_option maxHeartbeats 16000000
set_option maxRecDepth 100000
set_option linter.all false
namespace Go.Proofs.YtijihlcdhppfgaaGreatDoor
open Go.Proofs.Tryz
section
open Go.RowKit
theorem ar6 {w w':World} {B n size:Nat} {e:TypeId} {v:Value} {xs:List Value} (h:w.ownsRow B e size v n xs) (k:Below w.heap.size w w'):w'.ownsRow B e size v n xs:=avJ h λg d=>k.block g (h.lt g d).2
theorem as1 {w0 w:World} {g:Nat} {cs:List Value} {t:TypeId} (k:Below w0.heap.size w0 w) (h:w.heap[g]? = some (.cells ⟨cs⟩ t (0,0))) (f:w0.heap.size<=g):Bx w0 w [(g,cs,t)]:= ⟨k,by simp,λq c u d=>by cases d with | hd=>exact⟨f,h⟩ | tl _ d=>cases d⟩
theorem ar7 {w w':World} (h:Below w.heap.size w w') {k:Nat} {x:Obj} (hk:w.heap[k]? = some x):w'.heap[k]? = some x:=(h.block k (aE hk).1).trans hk
theorem asK {aF:Val->Bool} {g:Int} {fns:List FnM} {t:aH} (h:cQ aF g fns t=0) {i:Nat} {x:aT} (hx:t.ins[i]? = some x) : -1<=x.exit/\x.exit<t.exits.length:=by
 obtain⟨_,fn,h1⟩:=xH h;obtain⟨_,f⟩:=fW t.ins 0 h1 i x hx;simp only[eJ,Bool.and_eq_true] at f;have d:=f.2;split at d
 ·have:x.exit = -1:=by simpa using d
  omega
 ·simp only[Bool.and_eq_true,decide_eq_true_eq] at d;omega
theorem asL {n:Nat} (h:n<=300):∀v∈upto n,wfi v:=λv hv=>by
 unfold upto at hv
 obtain⟨i,hi,rfl⟩:=List.mem_map.1 hv
 have:=List.mem_range.1 hi
 unfold wfi;omega
def ceP (p:aZ) (t:aH):Int:=cQ aF (bH p) (p.fns.map gI) t
def asR (p:aZ) (t:aH) (w:World) (e:Ending) (w':World):Prop:=
 ∃cs,e=.returned (.tuple #[.agg ⟨cs⟩,.int .i64 (asC (ceP p t) t).2])/\bI w' w'.heap.size cs (asC (ceP p t) t).1/\Below w.heap.size w w'
theorem asW (n:Nat) (hn:n<=600) (W:World):(Instr.makeSlice 88 (.int .i64 (n:Int)) (.int .i64 (n:Int))).run prog W=.ok (.slice (some ⟨W.heap.size,0,none⟩) n n) (W.alloc (.cells (Array.replicate n (.bool false)) 4)):=aiR n hn W
theorem mk_room (n:Nat) (hn:n<=600) (W:World):(Instr.makeSlice 55 (.int .i64 0) (.int .i64 (2*(n:Int)))).run prog W=.ok (.slice (some ⟨W.heap.size,0,none⟩) 0 (2*n)) (W.alloc (.cells (Array.replicate (2*n) (.int .i64 0)) 3)):=by obtain⟨j,hi,d,f,g⟩:=info_parts qC;have h:=run_make (P:=prog) W 55 3 j (.int .i64 0) underlying55 hi d .i64 .i64 0 (2*(n:Int)) (by omega) (by omega) (by rw[g];omega) (by omega);rw[show(2*(n:Int)).toNat=2*n by omega,f,Nat.mul_one] at h;rw[h,show(Value.int .i64 0).cells=#[.int .i64 0] from rfl,mU];rfl
theorem asY (w:World) (n:Nat) (hn:n<=600):(w.alloc (.cells (Array.replicate (2*n) (.int .i64 0)) 3)).ownsRow w.heap.size 3 1 (.slice (some ⟨w.heap.size,0,none⟩) 0 (2*n)) 0 []:= ⟨by simp,.inr ⟨w.heap.size,2*n,Array.replicate (2*n) (.int .i64 0),rfl,Nat.le_refl _,heap_alloc_new w _,by omega,by unfold maxLen;omega,by simp,by simp⟩⟩
structure Pd (w1:World) (ib ir n:Nat) (bs:List Bool) (v:Value) (tl:List Int) (w:World):Prop where
 keep:Below w1.heap.size w1 w
 h1:w1.heap.size<=ib
 h2:w1.heap.size<=ir
 ne:ib≠ir
 box:w.heap[ib]? = some (.cells #[.slice (some ⟨ir,0,none⟩) n n] 88 (0,0))
 row:w.heap[ir]? = some (.cells ⟨bs.map (.bool)⟩ 4 (0,0))
 own:w.ownsRow w1.heap.size 3 1 v tl.length (tl.map (.int .i64))
section
variable {w1:World} {ib ir n:Nat} {bs:List Bool} {v:Value} {tl:List Int} {w w6:World}
theorem Pd.below (h:Pd w1 ib ir n bs v tl w) (b:Below w.heap.size w w6):Pd w1 ib ir n bs v tl w6:= ⟨h.keep.trans (b.mono h.keep.size),h.h1,h.h2,h.ne,(b.block _ (aE h.box).1).trans h.box,(b.block _ (aE h.row).1).trans h.row,ar6 h.own b⟩
theorem Pd.put (h:Pd w1 ib ir n bs v tl w) (j:Nat) (b:Bool):Pd w1 ib ir n (bs.set j b) v tl (w.setCell ⟨ir,j,none⟩ (.bool b)):=by
 refine⟨ak2 h.keep h.h2 _ _,h.h1,h.h2,h.ne,?_,?_,cY h.own h.row (by decide) _ _⟩;·rw[heap_setCell_other w _ _ _ (by show ib≠ir;exact h.ne)];exact h.box
 ·rw[heap_setCell_same w ir j _ _ _ h.row];congr 2;apply Array.toList_inj.1;rw[Array.toList_setIfInBounds,List.map_set]
theorem Pd.more (h:Pd w1 ib ir n bs v tl w) {v':Value} {a:Int} (d:w6.ownsRow w1.heap.size 3 1 v' (tl.length+1) (tl.map (.int .i64)++[.int .i64 a])) (f:w.grownBy w6 v.ownBlock):Pd w1 ib ir n bs v' (tl++[a]) w6:= ⟨h.keep.trans (kE h.own f (Nat.le_refl _) h.keep.size),h.h1,h.h2,h.ne,cL h.own f h.box (by decide),cL h.own f h.row (by decide),by rw[List.length_append,List.map_append];exact d⟩
end
theorem do1_c (d:List Bool) (v:Int) (g h n:Nat) (w:World) (hb:w.heap[g]? = some (.cells #[.slice (some ⟨h,0,none⟩) n n] 88 (0,0))) (j:w.heap[h]? = some (.cells ⟨d.map (.bool)⟩ 4 (0,0))) (hbs:d.length=n) (hn:n<=300) (l:0<=v) (h1:v<n) : Calls prog 45 #[.int .i64 v,.pointer (some ⟨g,0,none⟩)] w (aK (.bool (!(d.getD v.toNat false))) w):=by
 obtain⟨k,rfl⟩:=Int.eq_ofNat_of_zero_le l;have hk:k<d.length:=by omega
 obtain⟨b,f⟩:∃b,d[k]? = some b:=⟨_,lG hk⟩;have r:=cell_of_row w g 0 _ _ _ hb;have s:w.cell? ⟨h,k,none⟩=some (.bool b):=ak3 j k _ (by rw[List.getElem?_map,f];rfl);have p:Hid (d.getD ((k:Int)).toNat false=b):=by rw[Int.toNat_natCast,List.getD_eq_getElem?_getD,f];rfl
 have q:(k:Int)<n:=h1;clear hb j f l h1;go_enter func45,ntmps45;go_wp2_with fail;go_ret;exact⟨by rw[p.o];rfl,Below.refl _ _⟩
theorem asF:∀args W,(callFunc 45 args).run prog W=.ok (.enter 45 args) W:=enters_of func45 (by kernel_rfl) rfl
theorem asI {t:aH} (h:aa1 t) (hn:t.ins.length<=150) (hm:t.exits.length<=100):aa1 (arY t):=by
 have d:∀x,acK x->acK (ar2 x t.ins.length):=λx ⟨a,b,c⟩=>⟨by unfold ar2;simpa using a,by unfold ar2;simpa using b,λm hm=>by unfold ar2 at hm;obtain⟨y,hy,rfl⟩:=List.mem_map.1 hm;simpa using c y hy⟩;refine⟨by unfold arY;simp;omega,by unfold arY;simp;omega,λx hx=>?_,h.back,d _ h.back⟩;rcases List.mem_append.1 hx with hx | hx;·exact h.exits x hx
 ·obtain⟨y,hy,rfl⟩:=List.mem_map.1 hx;exact d y (h.exits y hy)
theorem auB (o0 ca:List Value) (p:aZ) (t:aH) (w:World) (hp:fL w w.heap.size o0 p) (ht:bI w w.heap.size ca t) (t0:Tab w) : Calls prog 16 #[.agg ⟨o0⟩,.agg ⟨ca⟩] w (asR p t w):=by
 have HT:=hI ht;have w4:=hI hp.size3;have e9:=hI ht.size13;obtain⟨Ai,ni,p3,qi⟩:=ht.at3;obtain⟨Ae,ne,p4,qe⟩:=ht.at4;obtain⟨p0,p1,p2,B1,B3,B5⟩:=ht.at012;have P2:=hI p2;have P3:=hI p3;have P4:=hI p4;have QI:=hI qi;have w8:t.ins.length<=ni/\ni<=9223372036854775807:=by obtain⟨_,_,e,h1,h2,-⟩:=id qi;injection e with _ e1 e2;unfold maxLen at h2;omega
 have w9:t.exits.length<=ne/\ne<=9223372036854775807:=by obtain⟨_,_,e,h1,h2,-⟩:=id qe;injection e with _ e1 e2;unfold maxLen at h2;omega
 obtain⟨E5,E6⟩:=w8;obtain⟨E7,E8⟩:=w9;obtain⟨ce,m7⟩:∃ce,ceP p t=ce:=⟨_,rfl⟩;have CK:Hid (∀W,Below w.heap.size w W->Calls prog 13 _ W (aK (.int .i64 (ceP p t)) W)):=λW k=>aaW o0 ca p t W (hp.below k) (ht.below k) (t0.below k);unfold asR;rw[m7] at CK ⊢;have i4:=hI m7;clear hp ht qi qe m7 p0 p1 p2 p3 p4 t0 B1 B3 B5;go_enter func16,ntmps16;go_upto_region 1 with fail;generalize h:World.alloc _ _=w1;have X:=Bx.of3 h;clear h;go_wp2_with (first | (refine X.Ld (hi:=w4.o) ?_) | (refine X.Ld (hi:=e9.o) ?_) | fail);refine X.call (CK.o _ X.k) λw1 X=>?_;have K1:=hI X.k;have E1:=hI (X.at_ _ _ _ (.tl _ (.hd _))).2;have E2:=hI (X.at_ _ _ _ (.hd _)).2;have F5:w.heap.size+1+1<w1.heap.size:=(aE E2.o).1;by_cases hc:ce=0
 case neg=>
  have F6:(ce != 0)=true:=by simpa using hc
  have HN:Hid (asC ce t=(mT,ce)):=by unfold asC Hid;rw[if_pos hc]
  go_wp2_with (first | (refine X.St λ_ X=>?_) | fail);rw[HN.o];exact X.rt2 ⟨bY,rfl,fR _ _,X.k⟩
 clear X;subst hc;have SM:=hI (acC i4.o);have i6:=hI (mL i4.o);have x2:Hid (∀(k:Nat) x,t.ins[k]? = some x->x.exit<1000):=λk x hx=>by have h1:=(asK i4.o hx).2;have h2:=SM.o.exitsLen;omega
 have i9:=SM.o.ins;have F7:=SM.o.exitsLen;have F8:(t.ins.length:Int)<=300:=by omega
 have F9:(t.exits.length:Int)<=200:=by omega
 have l3:w1.cell? ⟨w.heap.size+1,3,none⟩=some (.slice Ai t.ins.length ni):=ak3 E1.o 3 _ P3.o;have D2:w.heap.size+1<w1.heap.size:=by omega
 have x3:=mk_room t.ins.length (by omega) w1;obtain⟨w2,f7⟩:∃w2,w2=w1.alloc (.cells (Array.replicate (2*t.ins.length) (.int .i64 0)) 3):=⟨_,rfl⟩;have L2:Hid (Below w1.heap.size w1 w2):=by rw[f7];exact aA _ _
 have O2:Hid (w2.ownsRow w1.heap.size 3 1 (.slice (some ⟨w1.heap.size,0,none⟩) 0 (2*t.ins.length)) 0 []):=by rw[f7];exact asY _ _ (by omega)
 have x4:=hI f7;clear f7;go_upto_region 6 with fail;rw[<-x4.o];clear l3 x3;obtain⟨q0,f8,f9,h0,h3⟩:=info_parts qC;go_wp2_with fail;go_loopw [8,27] (λv i wr=>∃j:Nat,i=.int .i64 j/\j<=t.ins.length/\Hid (wr.ownsRow w1.heap.size 3 1 v j ((upto j).map (.int .i64)))/\Hid (Below w1.heap.size w1 wr)) (λ_ i _=>t.ins.length - (RowKit.intOf i).toNat);case atStart=>exact⟨0,rfl,by omega,O2,L2⟩
 case round=>
  obtain⟨j,rfl,hj,OA,H⟩:=hrel
  obtain⟨A7,c7,rfl⟩:=aeN OA.o
  by_cases t1:j<t.ins.length
  ·have j1:(j:Int)<t.ins.length:=by omega
   obtain⟨L,J⟩:∃L,(upto j).map (Value.int .i64)=L:=⟨_,rfl⟩
   rw[J] at OA
   have HL:=hI J
   clear J
   go_wp2_with (at_builtin;refine wpList_append_own _ rfl _ _ 55 rfl w1.heap.size 3 q0 (.int .i64 0) 1 8 underlying55 f8 f9 h0 h3 rfl (by decide) (.slice A7 j c7) j L rfl (OA.o.alloc _) ⟨wr.heap.size,0,none⟩ 1 1 [.int .i64 j] rfl rfl ?a1 ?a2 ?a3 ?a4 ?a5 ?_)
   case a1=>exact World.news_of_block (cs:=#[.int .i64 j]) (aS wr _)
   case a2=>intro u hu;simp at hu;subst hu;rfl
   case a3=>unfold maxLen;omega
   case a4=>omega
   case a5=>have:=H.o.size;simp;omega
   intro v' w6 q hg _
   have O7:=hI q
   have KB:=hI (kE (B':=w1.heap.size) (OA.o.alloc (.cells #[.int .i64 j] 3)) hg (Nat.le_refl _) (by have:=H.o.size;simp;omega))
   clear q hg
   go_wp2_with fail
   go_roundw
   case rel=>exact⟨j+1,by go_num,by omega,by rw[afK,List.map_append,HL.o];exact O7.o,(H.o.alloc H.o.size _).trans KB.o⟩
   case measure=>simp[RowKit.intOf];omega
  ·have j1:¬(j:Int)<t.ins.length:=by omega
   obtain rfl:j=t.ins.length:=by omega
   have BW:=btZ K1 H.o
   have F1:=hI (ar7 H.o E1.o)
   have WZ:=hI (ar7 H.o E2.o)
   have l2:wr.cell? ⟨w.heap.size+1,2,none⟩=some (.int .i64 t.loop):=ak3 F1.o 2 _ P2.o
   have l4:wr.cell? ⟨w.heap.size+1,4,none⟩=some (.slice Ae t.exits.length ne):=ak3 F1.o 4 _ P4.o
   obtain⟨b,hb⟩:∃b,(decide (0<t.loop) || (t.ins.length == 0) || decide (150<t.ins.length) || decide (100<t.exits.length))=b:=⟨_,rfl⟩
   have HB:=hI hb
   clear hb
   go_upto_region 11 with fail
   go_cut [51] (λc wx=>c=.bool b/\wx=wr)
   case first=>
    by_cases d1:0<t.loop
    ·have E:Hid (true=b):=by rw[<-HB.o,decide_eq_true d1];rfl
     go_wp2_with fail
     go_meet
     case rel=>exact⟨by rw[<-E.o];first | done | rfl,rfl⟩
    by_cases d2:t.ins.length=0
    ·have E:Hid (true=b):=by show true=b;rw[<-HB.o];simp[d2]
     have x5:((t.ins.length:Int) == 0)=true:=beq_iff_eq.2 (by omega)
     clear d2
     go_wp2_with fail
     go_meet
     case rel=>exact⟨by rw[<-E.o];first | done | rfl,rfl⟩
    have x5:((t.ins.length:Int) == 0)=false:=bF (by omega)
    have x6:(t.ins.length == 0)=false:=bF d2
    by_cases d3:150<t.ins.length
    ·have E:Hid (true=b):=by show true=b;rw[<-HB.o];simp[d3]
     have x7:(150:Int)<t.ins.length:=by omega
     go_wp2_with fail
     go_meet
     case rel=>exact⟨by rw[<-E.o];first | done | rfl,rfl⟩
    have x7:¬(150:Int)<t.ins.length:=by omega
    by_cases d4:100<t.exits.length
    ·have E:Hid (true=b):=by show true=b;rw[<-HB.o];simp[d4]
     have y0:(100:Int)<t.exits.length:=by omega
     go_wp2_with fail
     go_meet
     case rel=>exact⟨by rw[<-E.o];first | done | rfl,rfl⟩
    ·have E:Hid (false=b):=by rw[<-HB.o,decide_eq_false d1,x6,decide_eq_false d3,decide_eq_false d4];rfl
     have y0:¬(100:Int)<t.exits.length:=by omega
     go_wp2_with fail
     go_meet
     case rel=>exact⟨by rw[<-E.o];first | done | rfl,rfl⟩
   case rest=>
    obtain⟨rfl,B6⟩:=hcut
    subst B6
    clear l2 l4
    cases b
    case true=>
     have ST:aB wc wc.heap.size 1 gB (.slice A7 t.ins.length c7) (upto t.ins.length):=
      qQ (w:=wc) (base:=w1.heap.size) (e:=3) (v:=.slice A7 t.ins.length c7) (xs:=upto t.ins.length) (by have h1:=OA.o;rw[vN];exact h1) (asL i9)
     have j4:=rrZ F1
     have f0:=hI ST
     clear ST
     go_wp2_with (first | (refine wpList_load_mid rfl 34 _ rfl (w.heap.size+1) 0 rfl ca _ j4.o underlying34 rfl e9.o ?_) | fail)
     have HN:Hid (asC 0 t=g9 t (upto t.ins.length)):=by
      have hb:=HB.o
      simp only[Bool.or_eq_true,decide_eq_true_eq,beq_iff_eq] at hb
      unfold asC Hid
      rw[if_neg (by omega),if_pos (by omega)]
     refine(cut_c ca t _ (upto t.ins.length) wc (HT.o.below BW.o) f0.o SM.o).mono ?_
     rintro e W2 ⟨cs,rfl,tr,N,Z⟩
     have k0:=hI (Z (w.heap.size+1+1))
     obtain⟨i1,l1,o1⟩:=tr.cs
     have I1:=hI i1
     have L1:=hI l1
     have O1:=hI o1
     have XZ:=as1 (BW.o.trans (N.mono BW.o.size)) (ar7 N WZ.o) (by omega)
     have k6:w.heap.size+1+1<wc.heap.size:=(aE WZ.o).1
     clear tr N Z i1 l1 o1
     go_wp2_with (first | (refine XZ.StR (hi:=I1.o) (hl:=by exact L1.o) (h1:=O1.o) λX=>?_) | fail)
     rw[HN.o]
     exact X.rt2 (hi:=I1.o) ⟨_,rfl,k0.o _ k6,X.k⟩
    case false=>
     have hb:=HB.o
     simp only[Bool.or_eq_false_iff,decide_eq_false_iff_not,beq_eq_false_iff_ne] at hb
     obtain⟨⟨⟨d1,d2⟩,d3⟩,d4⟩:=hb
     have o8:t.ins.length<=150:=by omega
     have o9:t.exits.length<=100:=by omega
     have C8:0<t.ins.length:=by omega
     have HN:Hid (asC 0 t=g9 (arY t) (asE t)):=by
      unfold asC Hid
      rw[if_neg (by omega),if_neg (by omega)]
     clear d1 d2 d3 d4 HB
     have l3:wc.cell? ⟨w.heap.size+1,3,none⟩=some (.slice Ai t.ins.length ni):=ak3 F1.o 3 _ P3.o
     have y1:=asW t.ins.length (by omega) wc
     obtain⟨w3,c0⟩:∃w3,w3=(wc.alloc (.cells (Array.replicate t.ins.length (.bool false)) 4)).alloc (.cells #[.slice (some ⟨wc.heap.size,0,none⟩) t.ins.length t.ins.length] 88):=⟨_,rfl⟩
     have q7:w1.heap.size<=wc.heap.size:=H.o.size
     have PD:Hid (Pd w1 (wc.heap.size+1) wc.heap.size t.ins.length (List.replicate t.ins.length false) (.slice A7 t.ins.length c7) (upto t.ins.length) w3):=by
      rw[c0]
      refine⟨(H.o.alloc q7 _).alloc (by simp;omega) _,by omega,q7,by omega,iZ _ _ _,?_,?_⟩
      ·rw[List.map_replicate];exact a8 (aS wc _) _
      rw[vN]
      exact(OA.o.alloc _).alloc _
     obtain⟨Y,n6⟩:∃Y,Y=wc.heap.size+1:=⟨_,rfl⟩
     obtain⟨s,h4⟩:∃s,s=wc.heap.size:=⟨_,rfl⟩
     rw[<-n6,<-h4] at PD
     have G0:w1.heap.size+1<w3.heap.size:=by rw[c0];simp;omega
     have L3:Hid (w3.cell? ⟨w.heap.size+1,3,none⟩=some (.slice Ai t.ins.length ni)):=by
      have:=ar7 PD.o.keep E1.o
      exact ak3 this 3 _ P3.o
     rw[<-h4] at c0
     have q8:=hI c0
     have r0:=hI n6
     have r1:=hI h4
     clear c0 n6 h4
     go_upto_region 14 with fail
     rw[<-r0.o,<-r1.o,<-q8.o]
     clear y1 l3
     have l3:=L3.o
     go_wp2_with fail
     clear l3 OA H
     go_loopw [8,62] (λv i wr=>∃(j:Nat) (tl:List Int) (z:List Bool),i=.int .i64 j/\j<=t.ins.length/\tl.length=j/\z.length=t.ins.length/\Hid (tl=(List.range j).map (ar9 t))/\Hid (∀v:Nat,v<j->z.getD v false=arT t v)/\Hid (∀a∈tl,wfi a)/\Hid (Pd w1 Y s t.ins.length z v (upto t.ins.length++tl) wr)) (λ_ i _=>t.ins.length - (RowKit.intOf i).toNat)
     case atStart=>exact⟨0,[],_,rfl,by omega,rfl,List.length_replicate ..,hI rfl,(λv hv=>absurd hv (Nat.not_lt_zero _)),(λa h=>by cases h),hI (by rw[List.append_nil];exact PD.o)⟩
     case round=>
      obtain⟨j,tl,z,rfl,hj,G1,hbs,r6,r7,h5,T⟩:=hrel
      obtain⟨A8,c8,s0⟩:=aeN T.o.own
      obtain⟨F,h6⟩:∃F,F=(upto t.ins.length++tl).length:=⟨_,rfl⟩
      rw[<-h6] at s0
      subst s0
      have D9:F<=400:=by rw[h6,List.length_append,vN];omega
      have a7:=hI h6
      clear h6
      have B2:=btZ K1 T.o.keep
      have F2:=hI (ar7 T.o.keep E1.o)
      have G2:=hI (ar7 T.o.keep E2.o)
      clear BW F1 WZ PD L3 q8 r0 r1
      by_cases t1:j<t.ins.length
      ·have j1:(j:Int)<t.ins.length:=by omega
       obtain⟨b,s2,x,rfl,hb,hx,wx,s3⟩:=tN QI.o t1
       obtain⟨g0,g1,g2,g3,g4,g5,g6,g7⟩:=adD s3 hb B2.o
       have r2:=hI wx
       have d8:=i6.o.ins j x hx
       have f1:bT t j=x:=by unfold bT;rw[show(j:Int).toNat=j from rfl,hx];rfl
       have b5:Hid (arT t j=(arQ t x && !(bU x).any (λv=>!(z.getD v.toNat false)))):=by
        have h:=isAt_bs r7.o (by rw[f1];exact d8)
        rw[f1] at h;exact h
       have k9:Hid (ar9 t j=if arT t j=false then((t.ins.length+j:Nat):Int) else if dZ x.op=true then(j:Int) else -1):=by
        unfold ar9 Hid;rw[f1]
       have l0:Hid (∀a:Int,a=ar9 t j->tl++[a]=(List.range (j+1)).map (ar9 t)):=λa ha=>by
        rw[List.range_succ,List.map_append,ha,<-r6.o];rfl
       have f2:Hid (∀c:Bool,c=arT t j->∀v:Nat,v<j+1->(z.set j c).getD v false=arT t v):=λc hc v hv=>by
        rw[List.getD_eq_getElem?_getD]
        by_cases e:v=j
        ·subst e;rw[List.getElem?_set_self (by omega)];exact hc
        ·rw[List.getElem?_set_ne (Ne.symm e),<-List.getD_eq_getElem?_getD];exact r7.o v (by omega)
       clear f1
       obtain⟨ij,s4⟩:∃ij,arT t j=ij:=⟨_,rfl⟩
       rw[s4] at b5 k9 f2
       clear s4
       obtain⟨op,xa,xb,xc,xn,xe,⟨A,D⟩⟩:=x
       dsimp only at g0 g1 g2 g3 g4 g5 g6 g7
       have e0:=hI d8
       obtain⟨G,h7⟩:∃G,G=wr.alloc (.cells #[.int .i64 op,.int .i64 xa,.int .i64 xb,.int .i64 xc,.int .i64 xn,.int .i64 xe,.int .i64 A,.int .i64 D] 53):=⟨_,rfl⟩
       have KA:Hid (Below wr.heap.size wr G):=by rw[h7];exact aA _ _
       have B0:Hid (G.heap[wr.heap.size]? = some (.cells #[.int .i64 op,.int .i64 xa,.int .i64 xb,.int .i64 xc,.int .i64 xn,.int .i64 xe,.int .i64 A,.int .i64 D] 53 (0,0))):=by rw[h7];exact aS _ _
       have TA:=hI (T.o.below KA.o)
       have BA:=btZ B2 KA.o
       have FA:=hI (ar7 KA.o F2.o)
       have y6:w1.heap.size<=wr.heap.size:=T.o.keep.size
       have u4:s<wr.heap.size:=(aE T.o.row).1
       have r3:=hI h7
       obtain⟨xr,n7⟩:∃xr,xr=wr.heap.size:=⟨_,rfl⟩
       have l5:=hI n7
       have y7:s2+j*8=s2+j*8:=rfl
       clear s3 hx wx d8 h7 y7
       go_upto_region 17 with fail
       rw[<-r3.o,<-l5.o]
       rw[<-l5.o] at B0 y6 u4
       clear g0 g1 g2 g3 g4 g5 g6 g7 n7
       go_cut [] (λwx=>Hid (Pd w1 Y s t.ins.length (z.set j ij) (.slice A8 F c8) (upto t.ins.length++tl) wx)/\Hid (wx.heap[xr]? = some (.cells #[.int .i64 op,.int .i64 xa,.int .i64 xb,.int .i64 xc,.int .i64 xn,.int .i64 xe,.int .i64 A,.int .i64 D] 53 (0,0))))
       case first=>
        have z0:∀E:Up G,E.to.cell? ⟨Y,0,none⟩=some (.slice (some ⟨s,0,none⟩) t.ins.length t.ins.length):=λE=>E.cell (cell_of_row G Y 0 _ _ _ TA.o.box)
        have RT:Hid (∀E:Up G,E.to.rangeAt (w.heap.size+1) 0 ca):=λE a v hv=>E.cell ((ak3 FA.o).range a v hv)
        have RX:Hid (∀E:Up G,E.to.rangeAt xr 0 [.int .i64 op,.int .i64 xa,.int .i64 xb,.int .i64 xc,.int .i64 xn,.int .i64 xe,.int .i64 A,.int .i64 D]):=λE a v hv=>by rw[Nat.zero_add];exact E.cell (ak3 B0.o a v hv)
        have LX:Hid ((prog.info? 53).map (·.size)=some ([.int .i64 op,.int .i64 xa,.int .i64 xb,.int .i64 xc,.int .i64 xn,.int .i64 xe,.int .i64 A,.int .i64 D]:List Value).length):=pI
        have FI:Hid (Calls prog 43 #[.agg ⟨ca⟩,.agg #[.int .i64 op,.int .i64 xa,.int .i64 xb,.int .i64 xc,.int .i64 xn,.int .i64 xe,.int .i64 A,.int .i64 D]] G.drew (aK (.bool (arQ t ⟨op,xa,xb,xc,xn,xe,⟨A,D⟩⟩)) G.drew)):=firm_c ca t ⟨op,xa,xb,xc,xn,xe,⟨A,D⟩⟩ G.drew (HT.o.below BA.o.drew)
        have AS:Hid (∀W,Calls prog 22 #[.agg #[.int .i64 op,.int .i64 xa,.int .i64 xb,.int .i64 xc,.int .i64 xn,.int .i64 xe,.int .i64 A,.int .i64 D]] W (qI (bU ⟨op,xa,xb,xc,xn,xe,⟨A,D⟩⟩) W)):=λW=>akR ⟨op,xa,xb,xc,xn,xe,⟨A,D⟩⟩ r2.o W
        have H:Hid (Below G.heap.size G G.drew):=(Below.refl _ _).drew
        refine fS (λw'=>∃E:Up G,w'=E.to) [0,1,2,3] [4,5,6,7,8,9,10,11] 10 #[true,true,true,true,false,false,false,false,false,false,false,false,false,false] _ (by kernel_rfl) (by kernel_rfl) (by simp only[List.filterMap_cons,List.filterMap_nil,List.getElem?_toArray,List.getElem?_cons_zero,List.getElem?_cons_succ];rfl) (λ_ _ d _ _ h=>by cases d <;> exact h) ⟨⟨_,H.o⟩,rfl⟩ ?_
        generalize t2:(λa'=>dH _ _ _ _ _ _ _ _ a' _)=qq
        have r4:=hI t2
        clear t2
        show wpQuiet _ _ _ _ [_,_,_,_] _
        repeat (first
         | (refine dE 34 _ rfl rfl (w.heap.size+1) 0 rfl ca _ RT.o underlying34 rfl e9.o ?_;go_simp)
         | (refine dE 53 _ rfl rfl xr 0 rfl [.int .i64 op,.int .i64 xa,.int .i64 xb,.int .i64 xc,.int .i64 xn,.int .i64 xe,.int .i64 A,.int .i64 D] _ RX.o underlying53 rfl LX.o ?_;go_simp)
         | go_big_quiet_step (fail))
        refine wpQuiet_nil ?_
        rw[<-r4.o]
        clear r4 qq RT z0
        obtain⟨b,r⟩:∃b,arQ t ⟨op,xa,xb,xc,xn,xe,⟨A,D⟩⟩=b:=⟨_,rfl⟩
        rw[r] at FI b5
        clear r
        generalize t3:World.drew G=v0
        rw[t3] at H FI
        clear t3
        refine j9 (i:=4) (by kernel_rfl) rfl (λK f=>?_)
        go_simp
        refine FI.o.mono ?_
        rintro e l ⟨rfl,k1⟩
        have P:=btZ H k1
        refine f _ _ (λ_=>⟨⟨l,P.o⟩,rfl⟩) ?_
        clear f K k1 FI H
        refine j9 (i:=5) (by kernel_rfl) rfl (λK f=>?_)
        go_simp
        refine f _ _ (λ_=>⟨⟨l,P.o⟩,rfl⟩) ?_
        clear f K
        cases b
        case false=>
         have R:ij=false:=b5.o
         subst R
         have g:=P
         refine iB [6] 7 #[true,true,true,true,true,true,true,false,false,false,false,false,false,false] _ (by kernel_rfl) rfl (by simp only[List.filterMap_cons,List.filterMap_nil,List.getElem?_toArray,List.getElem?_cons_zero,List.getElem?_cons_succ];rfl) (λ_ _ d _ _ h=>by cases d <;> exact h) ⟨⟨l,P.o⟩,rfl⟩ ?_
         show wpQuiet _ _ _ _ [_] _
         go_big_quiet_step (fail)
         refine wpQuiet_nil ?_
         refine lR (i:=7) (k:=8) (by kernel_rfl) rfl rfl (λK f=>?_) (λK f=>?_)
         ·skip
          go_simp
          refine f _ _ (λ_=>⟨⟨l,g.o⟩,rfl⟩) ?_
          clear f K
          refine cT [8,9,10,11,12,13] _ _ _ (by kernel_rfl) ?_
          refine aR rfl (λK f=>?_)
          go_simp
          refine f _ _ (λ_=>⟨⟨l,g.o⟩,rfl⟩) ?_
          clear f K
          refine aR rfl (λK f=>?_)
          go_simp
          refine f _ _ (λ_=>⟨⟨l,g.o⟩,rfl⟩) ?_
          clear f K
          refine aR rfl (λK f=>?_)
          go_simp
          refine f _ _ (λ_=>⟨⟨l,g.o⟩,rfl⟩) ?_
          clear f K
          refine aR rfl (λK f=>?_)
          go_simp
          refine f _ _ (λ_=>⟨⟨l,g.o⟩,rfl⟩) ?_
          clear f K
          refine bG [12,13] _ _ (by kernel_rfl) (by kernel_rfl) ?_
          simp only[List.filterMap_cons,List.filterMap_nil,List.getElem?_toArray,List.getElem?_cons_zero,List.getElem?_cons_succ]
          have I:=hI (TA.o.below g.o)
          have BZ:=hI ((g.o.block _ (aE B0.o).1).trans B0.o)
          obtain⟨M,r⟩:∃M,z[j]? = some M:=⟨_,lG (by omega)⟩
          have z1:l.cell? ⟨s,j,none⟩=some (.bool M):=ak3 I.o.row j _ (by rw[List.getElem?_map,r];rfl)
          have z2:=frozen_of_row l s j _ _ I.o.row
          clear r
          go_wp2_with fail
          go_meet
          case rel=>
           refine⟨I.o.put j _,?_⟩
           show _=_
           rw[heap_setCell_other l _ _ _ (by show _≠s;omega)];exact BZ.o
         ·skip
          go_simp
          refine f _ _ (λ_=>⟨⟨l,g.o⟩,rfl⟩) ?_
          clear f K
          refine cT [7,9,10,11,12,13] _ _ _ (by kernel_rfl) ?_
          refine aR rfl (λK f=>?_)
          go_simp
          refine f _ _ (λ_=>⟨⟨l,g.o⟩,rfl⟩) ?_
          clear f K
          refine aR rfl (λK f=>?_)
          go_simp
          refine f _ _ (λ_=>⟨⟨l,g.o⟩,rfl⟩) ?_
          clear f K
          refine aR rfl (λK f=>?_)
          go_simp
          refine f _ _ (λ_=>⟨⟨l,g.o⟩,rfl⟩) ?_
          clear f K
          refine aR rfl (λK f=>?_)
          go_simp
          refine f _ _ (λ_=>⟨⟨l,g.o⟩,rfl⟩) ?_
          clear f K
          refine bG [12,13] _ _ (by kernel_rfl) (by kernel_rfl) ?_
          simp only[List.filterMap_cons,List.filterMap_nil,List.getElem?_toArray,List.getElem?_cons_zero,List.getElem?_cons_succ]
          have I:=hI (TA.o.below g.o)
          have BZ:=hI ((g.o.block _ (aE B0.o).1).trans B0.o)
          obtain⟨M,r⟩:∃M,z[j]? = some M:=⟨_,lG (by omega)⟩
          have z1:l.cell? ⟨s,j,none⟩=some (.bool M):=ak3 I.o.row j _ (by rw[List.getElem?_map,r];rfl)
          have z2:=frozen_of_row l s j _ _ I.o.row
          clear r
          go_wp2_with fail
          go_meet
          case rel=>
           refine⟨I.o.put j _,?_⟩
           show _=_
           rw[heap_setCell_other l _ _ _ (by show _≠s;omega)];exact BZ.o
        case true=>
         refine iB [6] 7 #[true,true,true,true,true,true,true,false,false,false,false,false,false,false] _ (by kernel_rfl) rfl (by simp only[List.filterMap_cons,List.filterMap_nil,List.getElem?_toArray,List.getElem?_cons_zero,List.getElem?_cons_succ];rfl) (λ_ _ d _ _ h=>by cases d <;> exact h) ⟨⟨l,P.o⟩,rfl⟩ ?_
         show wpQuiet _ _ _ _ [_] _
         refine dE 53 _ rfl rfl xr 0 rfl [.int .i64 op,.int .i64 xa,.int .i64 xb,.int .i64 xc,.int .i64 xn,.int .i64 xe,.int .i64 A,.int .i64 D] _ RX.o underlying53 rfl LX.o ?_
         go_simp
         refine wpQuiet_nil ?_
         refine lR (i:=7) (k:=8) (by kernel_rfl) rfl rfl (λK f=>?_) (λK f=>?_)
         ·skip
          go_simp
          refine(AS.o l).mono ?_
          rintro e v2 ⟨u,rfl,hu,N⟩
          have g:=btZ P N
          have T2:=hI (TA.o.below g.o)
          obtain⟨A5,c5,rfl,-⟩:=id hu
          have CF:=sL gB (λv=>!(z.getD v.toNat false)) A5 c5 (bU ⟨op,xa,xb,xc,xn,xe,⟨A,D⟩⟩) 45 asF #[.pointer (some ⟨Y,0,none⟩)] v2 hu (λw3 k3 y cs hy hR=>by
           obtain⟨rfl,-⟩:=hR
           have T3:=T2.o.below k3
           have h1:=e0.o y hy
           exact do1_c z y Y s t.ins.length w3 T3.box T3.row hbs (by omega) h1.1 (by omega))
          obtain⟨bb,d6⟩:∃bb,(bU ⟨op,xa,xb,xc,xn,xe,⟨A,D⟩⟩).any (λv=>!(z.getD v.toNat false))=bb:=⟨_,rfl⟩
          have R:=b5.o
          rw[d6] at CF R
          subst R
          have m1:=hI CF
          refine f _ _ (λ_=>⟨⟨v2,g.o⟩,rfl⟩) ?_
          clear f K d6 CF N hu
          refine cT [8,9,10,11,12,13] _ _ _ (by kernel_rfl) ?_
          refine aR rfl (λK f=>?_)
          go_simp
          refine f _ _ (λ_=>⟨⟨v2,g.o⟩,rfl⟩) ?_
          clear f K
          refine aR rfl (λK f=>?_)
          go_simp
          refine m1.o.mono ?_
          rintro e O ⟨rfl,k3⟩
          have S:=btZ g k3
          refine f _ _ (λ_=>⟨⟨O,S.o⟩,rfl⟩) ?_
          clear f K g T2 k3
          have g:=S
          clear S
          refine aR rfl (λK f=>?_)
          go_simp
          refine f _ _ (λ_=>⟨⟨O,g.o⟩,rfl⟩) ?_
          clear f K
          refine aR rfl (λK f=>?_)
          go_simp
          refine f _ _ (λ_=>⟨⟨O,g.o⟩,rfl⟩) ?_
          clear f K
          refine bG [12,13] _ _ (by kernel_rfl) (by kernel_rfl) ?_
          simp only[List.filterMap_cons,List.filterMap_nil,List.getElem?_toArray,List.getElem?_cons_zero,List.getElem?_cons_succ]
          have I:=hI (TA.o.below g.o)
          have BZ:=hI ((g.o.block _ (aE B0.o).1).trans B0.o)
          obtain⟨M,r⟩:∃M,z[j]? = some M:=⟨_,lG (by omega)⟩
          have z1:O.cell? ⟨s,j,none⟩=some (.bool M):=ak3 I.o.row j _ (by rw[List.getElem?_map,r];rfl)
          have z2:=frozen_of_row O s j _ _ I.o.row
          clear r
          go_wp2_with fail
          go_meet
          case rel=>
           refine⟨I.o.put j _,?_⟩
           show _=_
           rw[heap_setCell_other O _ _ _ (by show _≠s;omega)];exact BZ.o
         ·go_simp
          refine f _ _ (λ_=>⟨⟨l,P.o⟩,rfl⟩) ?_
          clear f K
          refine cT [7,9,10,11,12,13] _ _ _ (by kernel_rfl) ?_
          refine aR rfl (λK f=>?_)
          go_simp
          refine(AS.o l).mono ?_
          rintro e v2 ⟨u,rfl,hu,N⟩
          have g:=btZ P N
          have T2:=hI (TA.o.below g.o)
          obtain⟨A5,c5,rfl,-⟩:=id hu
          have CF:=sL gB (λv=>!(z.getD v.toNat false)) A5 c5 (bU ⟨op,xa,xb,xc,xn,xe,⟨A,D⟩⟩) 45 asF #[.pointer (some ⟨Y,0,none⟩)] v2 hu (λw3 k3 y cs hy hR=>by
           obtain⟨rfl,-⟩:=hR
           have T3:=T2.o.below k3
           have h1:=e0.o y hy
           exact do1_c z y Y s t.ins.length w3 T3.box T3.row hbs (by omega) h1.1 (by omega))
          obtain⟨bb,d6⟩:∃bb,(bU ⟨op,xa,xb,xc,xn,xe,⟨A,D⟩⟩).any (λv=>!(z.getD v.toNat false))=bb:=⟨_,rfl⟩
          have R:=b5.o
          rw[d6] at CF R
          subst R
          have m1:=hI CF
          refine f _ _ (λ_=>⟨⟨v2,g.o⟩,rfl⟩) ?_
          clear f K d6 CF N hu
          refine aR rfl (λK f=>?_)
          go_simp
          refine m1.o.mono ?_
          rintro e O ⟨rfl,k3⟩
          have S:=btZ g k3
          refine f _ _ (λ_=>⟨⟨O,S.o⟩,rfl⟩) ?_
          clear f K g T2 k3
          have g:=S
          clear S
          refine aR rfl (λK f=>?_)
          go_simp
          refine f _ _ (λ_=>⟨⟨O,g.o⟩,rfl⟩) ?_
          clear f K
          refine aR rfl (λK f=>?_)
          go_simp
          refine f _ _ (λ_=>⟨⟨O,g.o⟩,rfl⟩) ?_
          clear f K
          refine bG [12,13] _ _ (by kernel_rfl) (by kernel_rfl) ?_
          simp only[List.filterMap_cons,List.filterMap_nil,List.getElem?_toArray,List.getElem?_cons_zero,List.getElem?_cons_succ]
          have I:=hI (TA.o.below g.o)
          have BZ:=hI ((g.o.block _ (aE B0.o).1).trans B0.o)
          obtain⟨M,r⟩:∃M,z[j]? = some M:=⟨_,lG (by omega)⟩
          have z1:O.cell? ⟨s,j,none⟩=some (.bool M):=ak3 I.o.row j _ (by rw[List.getElem?_map,r];rfl)
          have z2:=frozen_of_row O s j _ _ I.o.row
          clear r
          go_wp2_with fail
          go_meet
          case rel=>
           refine⟨I.o.put j _,?_⟩
           show _=_
           rw[heap_setCell_other O _ _ _ (by show _≠s;omega)];exact BZ.o
       case rest=>
        obtain⟨T4,B4⟩:=hcut
        have d0:=cell_of_row wc Y 0 _ _ _ T4.o.box
        have d1:wc.cell? ⟨s,j,none⟩=some (.bool ij):=ak3 T4.o.row j _ (by rw[List.getElem?_map,List.getElem?_set_self (by omega)];rfl)
        have d2:wc.cell? ⟨xr,0,none⟩=some (.int .i64 op):=ak3 B4.o 0 _ rfl
        clear T TA KA B0 BA FA r3 l5 F2 B2 G2 r2 e0
        cases ij
        case false=>
         obtain⟨L,J⟩:∃L,(upto t.ins.length++tl).map (Value.int .i64)=L:=⟨_,rfl⟩
         have O9:Hid ((wc.alloc (.cells #[.int .i64 ((t.ins.length:Int)+j)] 3)).ownsRow w1.heap.size 3 1 (.slice A8 F c8) F L):=by
          have h:=T4.o.own.alloc (.cells #[.int .i64 ((t.ins.length:Int)+j)] 3)
          rw[J,<-a7.o] at h
          exact h
         have HL:=hI J
         have r5:w1.heap.size<=wc.heap.size:=T4.o.keep.size
         clear J
         go_wp2_with (at_builtin;refine wpList_append_own _ rfl _ _ 55 rfl w1.heap.size 3 q0 (.int .i64 0) 1 8 underlying55 f8 f9 h0 h3 rfl (by decide) (.slice A8 F c8) F L rfl O9.o ⟨wc.heap.size,0,none⟩ 1 1 [.int .i64 ((t.ins.length:Int)+j)] rfl rfl ?n1 ?n2 ?n3 ?n4 ?n5 ?_)
         case n2=>first | rfl | (intro u hu;simp at hu;subst hu;rfl)
         case n3=>first | omega | (unfold maxLen;omega)
         case n4=>omega
         case n5=>first | omega | (simp;omega)
         intro v' w6 q hg _
         have TN:=hI ((T4.o.below (aA wc (.cells #[.int .i64 ((t.ins.length:Int)+j)] 3))).more (a:=((t.ins.length:Int)+j)) (by rw[<-a7.o,HL.o];exact q) hg)
         clear q hg
         go_wp2_with fail
         go_roundw
         case rel=>
          refine⟨j+1,tl++[((t.ins.length:Int)+j)],z.set j false,by go_num,by omega,by simp;omega,by rw[List.length_set];exact hbs,l0.o _ (by rw[k9.o];simp),f2.o _ rfl,λa ha=>?_,hI (by rw[<-List.append_assoc];exact TN.o)⟩
          rcases List.mem_append.1 ha with ha | ha
          ·exact h5.o a ha
          ·obtain rfl:a=((t.ins.length:Int)+j):=by simpa using ha
           unfold wfi;omega
         case measure=>simp[RowKit.intOf];omega
        case true=>
         obtain⟨tb,s5⟩:∃tb,dZ op=tb:=⟨_,rfl⟩
         have m4:=zX op wc
         have V:=k9.o
         dsimp only at V
         rw[s5] at m4 V
         rw[if_neg (by decide)] at V
         have V:=hI V
         have f3:=hI m4
         clear s5 m4
         cases tb
         case true=>
          go_wp2_with fail
          refine f3.o.mono ?_
          rintro e w5 ⟨rfl,k5⟩
          have T5:=hI (T4.o.below k5)
          clear k5 f3 d0 d1 d2 T4 B4
          obtain⟨L,J⟩:∃L,(upto t.ins.length++tl).map (Value.int .i64)=L:=⟨_,rfl⟩
          have O9:Hid ((w5.alloc (.cells #[.int .i64 (j:Int)] 3)).ownsRow w1.heap.size 3 1 (.slice A8 F c8) F L):=by
           have h:=T5.o.own.alloc (.cells #[.int .i64 (j:Int)] 3)
           rw[J,<-a7.o] at h
           exact h
          have HL:=hI J
          have r5:w1.heap.size<=w5.heap.size:=T5.o.keep.size
          clear J
          go_wp2_with (at_builtin;refine wpList_append_own _ rfl _ _ 55 rfl w1.heap.size 3 q0 (.int .i64 0) 1 8 underlying55 f8 f9 h0 h3 rfl (by decide) (.slice A8 F c8) F L rfl O9.o ⟨w5.heap.size,0,none⟩ 1 1 [.int .i64 (j:Int)] rfl rfl ?c1 ?c2 ?c3 ?c4 ?c5 ?_)
          case c1=>exact World.news_of_block (cs:=#[.int .i64 (j:Int)]) (aS w5 _)
          case c2=>intro u hu;simp at hu;subst hu;rfl
          case c3=>unfold maxLen;omega
          case c4=>omega
          case c5=>simp;omega
          intro v' w6 q hg _
          have TN:=hI ((T5.o.below (aA w5 (.cells #[.int .i64 (j:Int)] 3))).more (a:=(j:Int)) (by rw[<-a7.o,HL.o];exact q) hg)
          clear q hg
          go_wp2_with fail
          go_roundw
          case rel=>
           refine⟨j+1,tl++[(j:Int)],z.set j true,by go_num,by omega,by simp;omega,by rw[List.length_set];exact hbs,l0.o _ (by rw[V.o];rfl),f2.o _ rfl,λa ha=>?_,hI (by rw[<-List.append_assoc];exact TN.o)⟩
           rcases List.mem_append.1 ha with ha | ha
           ·exact h5.o a ha
           ·obtain rfl:a=(j:Int):=by simpa using ha
            unfold wfi;omega
          case measure=>simp[RowKit.intOf];omega
         case false=>
          go_wp2_with fail
          refine f3.o.mono ?_
          rintro e w5 ⟨rfl,k5⟩
          have T5:=hI (T4.o.below k5)
          clear k5 f3 d0 d1 d2 T4 B4
          obtain⟨L,J⟩:∃L,(upto t.ins.length++tl).map (Value.int .i64)=L:=⟨_,rfl⟩
          have O9:Hid ((w5.alloc (.cells #[.int .i64 (-1)] 3)).ownsRow w1.heap.size 3 1 (.slice A8 F c8) F L):=by
           have h:=T5.o.own.alloc (.cells #[.int .i64 (-1)] 3)
           rw[J,<-a7.o] at h
           exact h
          have HL:=hI J
          have r5:w1.heap.size<=w5.heap.size:=T5.o.keep.size
          clear J
          go_wp2_with (at_builtin;refine wpList_append_own _ rfl _ _ 55 rfl w1.heap.size 3 q0 (.int .i64 0) 1 8 underlying55 f8 f9 h0 h3 rfl (by decide) (.slice A8 F c8) F L rfl O9.o ⟨w5.heap.size,0,none⟩ 1 1 [.int .i64 (-1)] rfl rfl ?d1 ?d2 ?d3 ?d4 ?d5 ?_)
          case d1=>exact World.news_of_block (cs:=#[.int .i64 (-1)]) (aS w5 _)
          case d2=>intro u hu;simp at hu;subst hu;rfl
          case d3=>unfold maxLen;omega
          case d4=>omega
          case d5=>simp;omega
          intro v' w6 q hg _
          have TN:=hI ((T5.o.below (aA w5 (.cells #[.int .i64 (-1)] 3))).more (a:=(-1)) (by rw[<-a7.o,HL.o];exact q) hg)
          clear q hg
          go_wp2_with fail
          go_roundw
          case rel=>
           refine⟨j+1,tl++[(-1)],z.set j true,by go_num,by omega,by simp;omega,by rw[List.length_set];exact hbs,l0.o _ (by rw[V.o];rfl),f2.o _ rfl,λa ha=>?_,hI (by rw[<-List.append_assoc];exact TN.o)⟩
           rcases List.mem_append.1 ha with ha | ha
           ·exact h5.o a ha
           ·obtain rfl:a=(-1):=by simpa using ha
            unfold wfi;omega
          case measure=>simp[RowKit.intOf];omega
      ·obtain rfl:j=t.ins.length:=by omega
       have j1:¬(t.ins.length:Int)<t.ins.length:=by omega
       have j4:=rrZ F2
       have m5:=hI (twice_c ca t wr (HT.o.below B2.o) i6.o SM.o x2.o)
       unfold asG at m5
       go_wp2_with (first | (refine wpList_load_mid rfl 34 _ rfl (w.heap.size+1) 0 rfl ca _ j4.o underlying34 rfl e9.o ?_) | fail)
       refine m5.o.mono ?_
       rintro e w7 ⟨C7,rfl,s6,k7⟩
       have z9:=hI s6
       have B7:=btZ B2 k7
       have WZ:=hI (ar7 k7 G2.o)
       have ST:aB w7 w7.heap.size 1 gB (.slice A8 F c8) (upto t.ins.length++tl):=
        qQ (by have h1:=ar6 T.o.own k7;exact h1) (λv hv=>by
         rcases List.mem_append.1 hv with hv | hv
         ·exact asL i9 v hv
         ·exact h5.o v hv)
       have f0:=hI ST
       have A1:=hI (asI SM.o o8 o9)
       clear s6 k7 m5 ST T
       go_wp2_with fail
       have A2:Hid (upto t.ins.length++tl=asE t):=by
        unfold asE Hid;rw[r6.o]
       rw[A2.o] at f0
       refine(cut_c C7 (arY t) _ (asE t) w7 z9.o f0.o A1.o).mono ?_
       rintro e W2 ⟨cs,rfl,tr,N,Z⟩
       have k0:=hI (Z (w.heap.size+1+1))
       obtain⟨i1,l1,o1⟩:=tr.cs
       have I1:=hI i1
       have L1:=hI l1
       have O1:=hI o1
       have XZ:=as1 (B7.o.trans (N.mono B7.o.size)) (ar7 N WZ.o) (by omega)
       have k6:w.heap.size+1+1<w7.heap.size:=(aE WZ.o).1
       clear tr N Z i1 l1 o1
       go_wp2_with (first | (refine XZ.StR (hi:=I1.o) (hl:=by exact L1.o) (h1:=O1.o) λX=>?_) | fail)
       rw[HN.o]
       exact X.rt2 (hi:=I1.o) ⟨_,rfl,k0.o _ k6,X.k⟩
end
end Go.Proofs.YtijihlcdhppfgaaGreatDoor
