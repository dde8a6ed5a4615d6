/- A part of the walk. -/
import Derived.Test.YtjaphgpkkfdaaaaGreatDoorZV
import Derived.Laws.EntriesVeiled
set_option maxHeartbeats 16000000
set_option maxRecDepth 100000
set_option linter.all false
namespace Go.Proofs.YtjaphgpkkfdaaaaGreatDoor
open Tryz
section
open Go.RowKit
structure oB (w W:World) (stc:Array Value):Prop where
 st:W.heap[w.heap.size]? = some (.cells stc 40 (0,0))
 rs:W.heap[w.heap.size+1]? = some (.cells #[.slice none 0 0,.slice none 0 0,.slice none 0 0,.slice none 0 0,.slice none 0 0,.slice none 0 0,.int .i64 0,.int .i64 0] 40 (0,0))
 fn:W.heap[w.heap.size+1+1]? = some (.cells #[.func (.func 59) #[] #[]] 139 (0,0))
theorem rF {w w':World} {B n size:Nat} {e:TypeId} {v:Value} {xs:List Value} (h:w.ownsRow B e size v n xs) (j:∀g,v.ownBlock=some g->w'.heap[g]? = w.heap[g]?):w'.ownsRow B e size v n xs:=by
 obtain⟨hl,i⟩:=h;refine⟨hl,?_⟩;rcases i with ⟨rfl,l⟩ | ⟨g,d,f,rfl,hb,m,p⟩;·exact .inl ⟨rfl,l⟩
 ·exact .inr ⟨g,d,f,rfl,hb,(j g rfl).trans m,p⟩
theorem dC.set_row {w:World} {g:Nat} {l cs:Array Value} {i:TypeId} (m:w.heap[g]? = some (.cells cs i (0,0))) (p:61≠i) (q:48≠i) (r:96≠i):dC w (w.setRow g l):=λB e s n v xs ht h=>by
 refine rF h λk f=>setRow_other _ _ _ _ ?_
 rintro rfl
 rcases h.2 with ⟨j,y⟩ | ⟨z,u,x,j,hb,d,-⟩
 ·subst j;cases f
 ·subst j
  injection f with f
  subst f
  rw[m] at d
  injection d with d;injection d with _ d
  rcases ht with rfl | rfl | rfl
  ·exact p d.symm
  ·exact q d.symm
  ·exact r d.symm
theorem eC:(prog.info? 40).map (·.size)=some 8:=by kernel_rfl
theorem xG (cs:List Value) (S:aR) (w:World) (h:gK w w.heap.size cs S) (A0:yO S) : Calls prog 29 #[.agg ⟨cs⟩] w (λe w'=>∃C3 V Z cv C2 rows z shv K0 K3 L0,e=.returned (.agg ⟨C3⟩)/\sL w' w.heap.size C3 S V Z cv C2 rows z shv K0 K3 L0/\Below w.heap.size w w'):=by
 obtain⟨c,s,t,th,en,sa,rfl,hc,x6,x7,hth,m8,y0,wa,ws⟩:=h;have SM:=hI A0;have E9:=hI (And.intro wa ws);obtain⟨X,y1,y2,B8⟩:=hc.raw;have l3:∀(i:Nat) x,S.cells[i]? = some x->∃v f,X[i]? = some (bD x v f)/\aH w w.heap.size 2 hU v x.vals/\aH w w.heap.size 8 (eR w w.heap.size) f x.frames:=λi x D=>by obtain⟨r,hr,v,f,rfl,a,b,-⟩:=B8 i x D;exact⟨v,f,hr,a,b⟩
 have t0:∀x∈S.cells,wfi x.kind/\wfi x.num/\∀v∈x.vals,wfi v.kind/\wfi v.n:=λx D=>by obtain⟨r,v,f,-,a,b,c1,c2⟩:=hc.mem D;exact⟨c1,c2,λy hy=>by obtain⟨_,hR⟩:=a.mem hy;exact hR.2⟩
 have h4:∀x∈X,x.length=4:=λx D=>by obtain⟨_,_,h⟩:=y2.mem D;exact h
 have t1:∀r∈X,∀u∈r,u.oneCell'=true:=λr hr u hu=>by
  obtain⟨i,hi⟩:=List.getElem?_of_mem hr;have t2:i<S.cells.length:=by have:=(lE hi).1;omega
  obtain⟨v,f,e1,⟨A,c,e2,-⟩,⟨A',c',e3,-⟩⟩:=l3 i _ (lG t2);rw[hi] at e1;injection e1 with e1;subst e1
  unfold bD at hu;rw[e2,e3] at hu;simp only[List.mem_cons,List.not_mem_nil,or_false] at hu;rcases hu with rfl | rfl | rfl | rfl <;> rfl
 have CL:Hid (∀W,Below w.heap.size w W->Calls prog 64 #[c] W λe w'=>∃u,e=.returned u/\w'.ownsRow W.heap.size 55 4 u S.cells.length (X.flatMap id)/\Below W.heap.size W w'):=λW k=>by have:=abM c X W (y2.keep k.size (λ_ F=>k.cell F) (λ_ _ h=>h)) t1 (by have:=A0.cells;omega);rw[y1] at this;exact this
 obtain⟨J,y3,y4,B9⟩:=hth.raw;have tpart:∀(i:Nat) x,S.threads[i]? = some x->∃f,J[i]? = some (gH x f)/\aH w w.heap.size 8 (eR w w.heap.size) f x.frames:=λi x D=>by obtain⟨r,hr,f,rfl,b,-⟩:=B9 i x D;exact⟨f,hr,b⟩
 have t3:∀x∈S.threads,wfi x.state/\wfi x.on_/\wfi x.val.kind/\wfi x.val.n:=λx D=>by obtain⟨r,f,-,-,a,b,c,d⟩:=hth.mem D;exact⟨a,b,c,d⟩
 have t5:∀x∈J,x.length=5:=λx D=>by obtain⟨_,_,h⟩:=y4.mem D;exact h
 have t4:∀r∈J,∀u∈r,u.oneCell'=true:=λr hr u hu=>by
  obtain⟨i,hi⟩:=List.getElem?_of_mem hr;have t2:i<S.threads.length:=by have:=(lE hi).1;omega
  obtain⟨f,e1,⟨A',c',e3,-⟩⟩:=tpart i _ (lG t2);rw[hi] at e1;injection e1 with e1;subst e1
  unfold gH at hu;rw[e3] at hu;simp only[List.mem_cons,List.not_mem_nil,or_false] at hu;rcases hu with rfl | rfl | rfl | rfl | rfl <;> rfl
 have CT:Hid (∀W,Below w.heap.size w W->Calls prog 65 #[th] W λe w'=>∃u,e=.returned u/\w'.ownsRow W.heap.size 57 5 u S.threads.length (J.flatMap id)/\Below W.heap.size W w'):=λW k=>by have:=abI th J W (y4.keep k.size (λ_ F=>k.cell F) (λ_ _ h=>h)) t4 (by have:=A0.threads;omega);rw[y3] at this;exact this
 have F1:=hI l3;have F2:=hI tpart;have F3:=hI h4;have F4:=hI t5;have F5:=hI t0;have F7:=hI t3;have F8:=hI y1;have F9:=hI y3;have G0:=hI x6;have G1:=hI x7;have G2:=hI m8;have G3:=hI y0;obtain⟨CA,cc,rfl,-⟩:=id hc;obtain⟨SA,sc,rfl,-⟩:=id x6;obtain⟨XA,xc,rfl,-⟩:=id x7;obtain⟨TA,tc,rfl,-⟩:=id hth;obtain⟨EA,ec,rfl,-⟩:=id m8;obtain⟨AA,ac,rfl,-⟩:=id y0;clear hc x6 x7 hth m8 y0 y1 y2 B8 l3 t0 h4 t1 y3 y4 B9 tpart t3 t5 t4;obtain⟨w1,i9⟩:∃w1,w1=((w.alloc (.cells #[.slice CA S.cells.length cc,.slice SA S.shapes.length sc,.slice XA S.texts.length xc,.slice TA S.threads.length tc,.slice EA S.ends.length ec,.slice AA S.said.length ac,.int .i64 S.asked,.int .i64 S.steps] 40)).alloc (.cells #[.slice none 0 0,.slice none 0 0,.slice none 0 0,.slice none 0 0,.slice none 0 0,.slice none 0 0,.int .i64 0,.int .i64 0] 40)).alloc (.cells #[.func (.func 59) #[] #[]] 139):=⟨_,rfl⟩;have K1:Hid (Below w.heap.size w w1):=by rw[i9];exact((bE w _ _).alloc (by simp;omega) _)
 have t6:Hid (w1.heap[w.heap.size]? = some (.cells #[.slice CA S.cells.length cc,.slice SA S.shapes.length sc,.slice XA S.texts.length xc,.slice TA S.threads.length tc,.slice EA S.ends.length ec,.slice AA S.said.length ac,.int .i64 S.asked,.int .i64 S.steps] 40 (0,0))):=by rw[i9];exact aY (aY (aJ _ _) _) _
 have C4:Hid (w1.heap[w.heap.size+1]? = some (.cells #[.slice none 0 0,.slice none 0 0,.slice none 0 0,.slice none 0 0,.slice none 0 0,.slice none 0 0,.int .i64 0,.int .i64 0] 40 (0,0))):=by rw[i9];exact aY (cQ _ _ _) _
 have C5:Hid (w1.heap[w.heap.size+1+1]? = some (.cells #[.func (.func 59) #[] #[]] 139 (0,0))):=by rw[i9];have:=aJ ((w.alloc (.cells #[.slice CA S.cells.length cc,.slice SA S.shapes.length sc,.slice XA S.texts.length xc,.slice TA S.threads.length tc,.slice EA S.ends.length ec,.slice AA S.said.length ac,.int .i64 S.asked,.int .i64 S.steps] 40)).alloc (.cells #[.slice none 0 0,.slice none 0 0,.slice none 0 0,.slice none 0 0,.slice none 0 0,.slice none 0 0,.int .i64 0,.int .i64 0] 40)) (.cells #[.func (.func 59) #[] #[]] 139);rw[World.size_alloc,World.size_alloc] at this;exact this
 have G5:=hI i9;have A8:w1.heap.size=w.heap.size+1+1+1:=by rw[i9];simp
 have b4:=hI A8;clear i9 A8;go_enter func29,ntmps29;go_upto_region 3 with fail;rw[<-G5.o];have s0:=crZ t6 0 rfl;go_wp2_with fail;refine(CL.o w1 K1.o).mono ?_;rintro e w2 ⟨cv,rfl,y6,k2⟩;have O2:=hI y6;have K2:=hI k2;obtain⟨M,H,rfl⟩:=bV y6;have l4:Hid (w2.heap[w.heap.size]? = some (.cells #[.slice CA S.cells.length cc,.slice SA S.shapes.length sc,.slice XA S.texts.length xc,.slice TA S.threads.length tc,.slice EA S.ends.length ec,.slice AA S.said.length ac,.int .i64 S.asked,.int .i64 S.steps] 40 (0,0))):=(k2.block _ (by have:=b4.o;omega)).trans t6.o;have C6:Hid (w2.heap[w.heap.size+1]? = some (.cells #[.slice none 0 0,.slice none 0 0,.slice none 0 0,.slice none 0 0,.slice none 0 0,.slice none 0 0,.int .i64 0,.int .i64 0] 40 (0,0))):=(k2.block _ (by have:=b4.o;omega)).trans C4.o;have C7:Hid (w2.heap[w.heap.size+1+1]? = some (.cells #[.func (.func 59) #[] #[]] 139 (0,0))):=(k2.block _ (by have:=b4.o;omega)).trans C5.o;have G6:=btZ K1 k2;clear y6 k2 s0;have s0:=crZ l4 0 rfl;have z0:=fzZ l4 0;go_upto_region 4 with fail;generalize j4:World.setCell _ _ _=w3;have t9:Hid (w3.heap[w.heap.size]? = some (.cells #[.slice M S.cells.length H,.slice SA S.shapes.length sc,.slice XA S.texts.length xc,.slice TA S.threads.length tc,.slice EA S.ends.length ec,.slice AA S.said.length ac,.int .i64 S.asked,.int .i64 S.steps] 40 (0,0))):=by rw[<-j4,heap_setCell_same _ _ _ _ _ _ l4.o];rfl
 have C8:Hid (w3.heap[w.heap.size+1]? = some (.cells #[.slice none 0 0,.slice none 0 0,.slice none 0 0,.slice none 0 0,.slice none 0 0,.slice none 0 0,.int .i64 0,.int .i64 0] 40 (0,0))):=by rw[<-j4,heap_setCell_other _ _ _ _ (by simp)];exact C6.o
 have C9:Hid (w3.heap[w.heap.size+1+1]? = some (.cells #[.func (.func 59) #[] #[]] 139 (0,0))):=by rw[<-j4,heap_setCell_other _ _ _ _ (by simp <;> omega)];exact C7.o
 have O3:Hid (w3.ownsRow w1.heap.size 55 4 (.slice M S.cells.length H) S.cells.length (X.flatMap id)):=by rw[<-j4];exact gI O2.o l4.o (by decide) _ _
 have G8:Hid (Below w.heap.size w w3):=by rw[<-j4];exact G6.o.setCell (Nat.le_refl _) _
 have L7:w3.heap.size=w2.heap.size:=by rw[<-j4];simp[World.setCell]
 have i5:Hid (w1.heap.size<=w3.heap.size):=by show _<=_;have:=K2.o.size;omega
 clear j4 s0 z0;(try dsimp only [Act.put]);have s0:=crZ t9 0 rfl;have Q1:=SM.o.cells;go_wp2_with fail;clear s0;have G9:Hid (oB w w3 #[.slice M S.cells.length H,.slice SA S.shapes.length sc,.slice XA S.texts.length xc,.slice TA S.threads.length tc,.slice EA S.ends.length ec,.slice AA S.said.length ac,.int .i64 S.asked,.int .i64 S.steps]):=⟨t9.o,C8.o,C9.o⟩;have A9:Hid (∀g,(Value.slice M S.cells.length H).ownBlock=some g->w1.heap.size<=g/\g<w3.heap.size):=λg hg=>O3.o.lt g hg;go_loopw [17] (λk wr=>∃(j:Nat) (rows:List (List Value)) (V:Nat->Nat),k=.int .i64 j/\j<=S.cells.length/\Hid (rows.length=S.cells.length/\∀x∈rows,x.length=4)/\Hid (wr.ownsRow w1.heap.size 55 4 (.slice M S.cells.length H) S.cells.length (rows.flatMap id))/\ Hid (∀(i:Nat) x,i<j->S.cells[i]? = some x->∃v f,rows[i]? = some (bD x v f)/\kG wr (V i) (V (i+1)) x v f)/\Hid (∀i,j<=i->rows[i]? = X[i]?)/\Hid (V 0=w3.heap.size/\(∀i,V i<=V (i+1))/\∀i,V i<=wr.heap.size)/\ Hid (oB w wr #[.slice M S.cells.length H,.slice SA S.shapes.length sc,.slice XA S.texts.length xc,.slice TA S.threads.length tc,.slice EA S.ends.length ec,.slice AA S.said.length ac,.int .i64 S.asked,.int .i64 S.steps])/\Hid (Below w.heap.size w wr)/\Hid (w3.heap.size<=wr.heap.size)) (λk _=>S.cells.length - (RowKit.intOf k).toNat);case atStart=>exact⟨0,X,λ_=>w3.heap.size,rfl,by omega,⟨F8.o,F3.o⟩,O3.o,λi x h=>by omega,λi _=>rfl,⟨rfl,λ_=>Nat.le_refl _,λ_=>Nat.le_refl _⟩,G9.o,G8.o,Nat.le_refl _⟩
 case round=>
  obtain⟨j,rows,V,rfl,hj,d5,OC,HP,e6,f8,R,KW,h7⟩:=hrel
  have f2:=KW.o.size
  by_cases n7:j<S.cells.length
  ·have p0:(j:Int)<S.cells.length:=by omega
   obtain⟨g,J3,J4,J5⟩:∃g,M=some ⟨g,0,none⟩/\w1.heap.size<=g/\g<w3.heap.size:=by
    rcases OC.o.2 with ⟨e,h⟩ | ⟨g,L1,L2,e,k1,k2,-⟩
    ·omega
    ·injection e with e1 e2 e3;exact⟨g,e1,k1,(A9.o g (by rw[e1];rfl)).2⟩
   subst J3
   obtain⟨x,D⟩:∃x,S.cells[j]? = some x:=⟨_,lG n7⟩
   obtain⟨v0,f0,g5,y5,j0⟩:=F1.o j x D
   have d8:rows[j]? = some (bD x v0 f0):=(e6.o j (Nat.le_refl _)).trans g5
   have Q2:j*4+4<=S.cells.length*4:=by have:(j+1)*4<=S.cells.length*4:=Nat.mul_le_mul_right _ (by omega);omega
   have C:∀k,k<4->wr.cell? ⟨g,j*4+k,none⟩=(bD x v0 f0)[k]?:=λk hk=>by
    rw[OC.o.cellAt (j*4+k) (by omega)]
    exact b9 _ j k _ d5.o.2 d8 hk
   have g0:wr.cell? ⟨g,j*4,none⟩=some (.int .i64 x.kind):=C 0 (by decide)
   have g1:wr.cell? ⟨g,j*4+1,none⟩=some (.int .i64 x.num):=C 1 (by decide)
   have g2:wr.cell? ⟨g,j*4+2,none⟩=some v0:=C 2 (by decide)
   have g3:wr.cell? ⟨g,j*4+3,none⟩=some f0:=C 3 (by decide)
   obtain⟨VA,vc,rfl,-⟩:=id y5
   obtain⟨FA,fc,rfl,-⟩:=id j0
   have HX:=hI D
   have b0:=hI d8
   have H0:=hI y5
   have u1:=hI j0
   have H1:g<wr.heap.size:=by have:=h7.o;omega
   obtain⟨m,d2⟩:∃m,m=wr.alloc (.cells #[.int .i64 x.kind,.int .i64 x.num,.slice VA x.vals.length vc,.slice FA x.frames.length fc] 55):=⟨_,rfl⟩
   have K4:Hid (Below wr.heap.size wr m):=by rw[d2];exact aB _ _
   have p1:Hid (aA m wr.heap.size [.int .i64 x.kind,.int .i64 x.num,.slice VA x.vals.length vc,.slice FA x.frames.length fc]):=by rw[d2];exact ad5 _ _ _
   have u2:wr.heap.size<m.heap.size:=by rw[d2];simp
   have f3:=hI (KW.o.trans (K4.o.mono f2))
   have u3:=hI d2
   clear D g5 d8 C y5 j0 d2
   go_upto_region 7 with fail
   rw[<-u3.o]
   clear g0 g1 g2 g3
   obtain⟨L,hL⟩:∃L:List (Addr×Value),L=[(⟨w.heap.size,0,none⟩,.slice (some ⟨g,0,none⟩) S.cells.length H),(⟨w.heap.size+1+1,0,none⟩,.func (.func 59) #[] #[]),(⟨wr.heap.size,2,none⟩,.slice VA x.vals.length vc),(⟨wr.heap.size,3,none⟩,.slice FA x.frames.length fc)]:=⟨_,rfl⟩
   have B1:w.heap.size+1+1<wr.heap.size:=by have:=h7.o;have:=i5.o;have:=b4.o;omega
   have m7:Hid (∀p∈L,m.cell? p.1=some p.2/\p.1.block<m.heap.size/\p.1.block≠g):=by
    rw[hL]
    intro p F
    simp only[List.mem_cons,List.not_mem_nil,or_false] at F
    rcases F with rfl | rfl | rfl | rfl
    ·exact⟨aC K4.o (cell_of_row wr _ 0 _ _ _ R.o.st),by show w.heap.size<_;omega,by show w.heap.size≠g;have:=b4.o;omega⟩
    ·exact⟨aC K4.o (cell_of_row wr _ 0 _ _ _ R.o.fn),by show w.heap.size+1+1<_;omega,by show w.heap.size+1+1≠g;have:=b4.o;omega⟩
    ·exact⟨p1.o 2 _ rfl,u2,by show wr.heap.size≠g;omega⟩
    ·exact⟨p1.o 3 _ rfl,u2,by show wr.heap.size≠g;omega⟩
   have a0:∀E:cI L,E.wd.cell? ⟨w.heap.size,0,none⟩=some (.slice (some ⟨g,0,none⟩) S.cells.length H):=λE=>E.here (_,_) (by rw[hL];simp)
   have a1:∀E:cI L,E.wd.cell? ⟨w.heap.size+1+1,0,none⟩=some (.func (.func 59) #[] #[]):=λE=>E.here (_,_) (by rw[hL];simp)
   have a2:∀E:cI L,E.wd.cell? ⟨wr.heap.size,2,none⟩=some (.slice VA x.vals.length vc):=λE=>E.here (_,_) (by rw[hL];simp)
   have a3:∀E:cI L,E.wd.cell? ⟨wr.heap.size,3,none⟩=some (.slice FA x.frames.length fc):=λE=>E.here (_,_) (by rw[hL];simp)
   have k4:Hid (∀W,Below m.heap.size m W->∃E:cI L,W=E.wd):=λW k=>⟨⟨W,λp F=>(k.cell (m7.o p F).2.1).trans (m7.o p F).1⟩,rfl⟩
   have H2:Hid (∀W i u,Below m.heap.size m W->∃E:cI L,W.setCell ⟨g,i,none⟩ u=E.wd):=λW i u k=>⟨⟨W.setCell ⟨g,i,none⟩ u,λp F=>(World.cell?_of_block (heap_setCell_other _ _ _ _ (m7.o p F).2.2)).trans ((k.cell (m7.o p F).2.1).trans (m7.o p F).1)⟩,rfl⟩
   clear hL
   haveI:Nonempty (cI L):=⟨(k4.o m (Below.refl _ _)).choose⟩
   have m8:=pN
   have D6:=tX
   refine fI (λw'=>∃E:cI L,w'=E.wd) [0,1,2,3,4,5,6,7,8,10,11,12] [9,13,14,15,16,17,18,19] [9,13,14,15,16] (by kernel_rfl) (by kernel_rfl) (λ_ _ d _ _ h=>by cases d <;> exact h) (k4.o _ (Below.refl _ m).drew) ?_
   simp only[List.filterMap_cons,List.filterMap_nil,List.getElem?_toArray,List.getElem?_cons_zero,List.getElem?_cons_succ]
   generalize h9:(λa'=>gA _ _ _ _ _ _ a' _)=qq
   have h5:=hI h9
   clear h9
   show wpQuiet _ _ _ _ [_,_,_,_,_,_,_,_,_,_,_,_] _
   repeat (go_big_quiet_step (fail))
   refine wpQuiet_nil ?_
   rw[<-h5.o]
   clear h5 qq a0 a1 a2 a3
   refine bA rfl (λK I=>?_)
   go_simp
   refine(pG (.slice VA x.vals.length vc) x.vals m.drew (H0.o.keep f3.o.drew.size (λ_ F=>f3.o.drew.cell F) (λ_ _ h=>h)) (by have:=SM.o.vals x (lM HX.o);omega)).mono ?_
   rintro e w5 ⟨u5,rfl,C1,k5⟩
   have O5:=hI C1
   have K5:Hid (Below m.heap.size m w5):=(Below.refl _ m).drew.trans k5
   have h6:=btZ f3 K5.o
   clear C1 k5
   refine I _ _ (λ_=>k4.o w5 K5.o) ?_
   clear I K
   refine bA rfl (λK I=>?_)
   go_simp
   have v2:w5.cell? ⟨w.heap.size+1+1,0,none⟩=some (.func (.func 59) #[] #[]):=aC (K4.o.trans (K5.o.mono K4.o.size)) (cell_of_row wr _ 0 _ _ _ R.o.fn)
   refine(p7 (.slice FA x.frames.length fc) x.frames (w.heap.size+1+1) w5 (u1.o.keep h6.o.size (λ_ F=>h6.o.cell F) (λ_ _ h=>h.keep h6.o.size (λ_ F=>h6.o.cell F))) (by have:=(SM.o.cframes x (lM HX.o)).1;omega) (SM.o.cframes x (lM HX.o)).2 v2).mono ?_
   rintro e w6 ⟨u6,z6,z7,rfl,j3,k6⟩
   have F6:=hI j3
   have K6:Hid (Below w5.heap.size w5 w6):=k6
   have n0:=btZ K5 K6.o
   have k9:=btZ h6 K6.o
   have P:=btZ K4 n0.o
   obtain⟨U5,c5,rfl⟩:=bV O5.o
   obtain⟨N,O,rfl⟩:=bV j3.row
   clear j3 k6 v2
   refine I _ _ (λ_=>k4.o w6 n0.o) ?_
   clear I K
   have l0:=hI (cZ OC.o P.o)
   have e2:w6.cell? ⟨g,j*4+2,none⟩=some (.slice VA x.vals.length vc):=by
    rw[l0.o.cellAt (j*4+2) (by omega)]
    exact b9 _ j 2 _ d5.o.2 b0.o (by decide)
   have e3:w6.cell? ⟨g,j*4+3,none⟩=some (.slice FA x.frames.length fc):=by
    rw[l0.o.cellAt (j*4+3) (by omega)]
    exact b9 _ j 3 _ d5.o.2 b0.o (by decide)
   have z2:=l0.o.frozenAt (j*4+2)
   have z3:=l0.o.frozenAt (j*4+3)
   refine bA rfl (λK I=>?_)
   go_simp
   refine I _ _ (λ_=>k4.o w6 n0.o) ?_
   clear I K
   refine bA rfl (λK I=>?_)
   go_simp
   refine I _ _ (λ_=>k4.o w6 n0.o) ?_
   clear I K
   refine bA rfl (λK I=>?_)
   go_simp
   refine I _ _ (λ_=>H2.o w6 _ _ n0.o) ?_
   clear I K
   refine bP [17,18,19] _ _ (by kernel_rfl) (by kernel_rfl) ?_
   simp only[List.filterMap_cons,List.filterMap_nil,List.getElem?_toArray,List.getElem?_cons_zero,List.getElem?_cons_succ]
   go_wp2_with fail
   generalize Y:World.setCell _ _ _=l
   have ST:=hI (l0.o.stored (j*4+2) (.slice U5 x.vals.length c5)).1
   have H3:=hI (ST.o.stored (j*4+3) (.slice N x.frames.length O)).1
   have H4:w.heap.size+1+1+1<=g:=by have:=b4.o;omega
   have l1:Hid (Below w.heap.size w l):=by
    rw[<-Y]
    exact(k9.o.setCell (by show w.heap.size<=g;omega) _).setCell (by show w.heap.size<=g;omega) _
   have v4:l.heap.size=w6.heap.size:=by rw[<-Y];simp[World.setCell]
   have l2:Hid (dC w6 l):=by
    rw[<-Y]
    exact(dC.set l0.o (by decide) (by decide) (by decide)).trans (dC.set ST.o (by decide) (by decide) (by decide))
   have l5:Hid (dC wr l):=(dC.of P.o).trans l2.o
   have e4:Hid (∀k,k≠g->l.heap[k]? = w6.heap[k]?):=λk hk=>by rw[<-Y,heap_setCell_other _ _ _ _ hk,heap_setCell_other _ _ _ _ hk]
   have v5:Hid (l.ownsRow w1.heap.size 55 4 (.slice (some ⟨g,0,none⟩) S.cells.length H) S.cells.length ((rows.set j (bD x (.slice U5 x.vals.length c5) (.slice N x.frames.length O))).flatMap id)):=by
    have G:=H3.o
    have L9:j<rows.length:=by rw[d5.o.1];exact n7
    rw[dT _ j 2 _ _ d5.o.2 b0.o (by decide),show(bD x (.slice VA x.vals.length vc) (.slice FA x.frames.length fc)).set 2 (.slice U5 x.vals.length c5)=bD x (.slice U5 x.vals.length c5) (.slice FA x.frames.length fc) from rfl,
     dT _ j 3 _ _ (eU d5.o.2 rfl) (dO b0.o _) (by decide),List.set_set,show(bD x (.slice U5 x.vals.length c5) (.slice FA x.frames.length fc)).set 3 (.slice N x.frames.length O)=bD x (.slice U5 x.vals.length c5) (.slice N x.frames.length O) from rfl] at G
    rw[<-Y];exact G
   have v9:Hid (oB w l #[.slice (some ⟨g,0,none⟩) S.cells.length H,.slice SA S.shapes.length sc,.slice XA S.texts.length xc,.slice TA S.threads.length tc,.slice EA S.ends.length ec,.slice AA S.said.length ac,.int .i64 S.asked,.int .i64 S.steps]):=
    ⟨(e4.o _ (by omega)).trans ((P.o.block _ (by omega)).trans R.o.st),(e4.o _ (by omega)).trans ((P.o.block _ (by omega)).trans R.o.rs),(e4.o _ (by omega)).trans ((P.o.block _ (by omega)).trans R.o.fn)⟩
   have w0:Hid (kG l wr.heap.size l.heap.size x (.slice U5 x.vals.length c5) (.slice N x.frames.length O)):=by
    refine⟨w5.heap.size,z6,z7,?_,?_,l2.o _ _ _ _ _ _ (.inr (.inl rfl)) (cZ (dU O5.o ?_) K6.o),λq hq=>?_,?_⟩
    ·have:=K4.o.size;have:=K5.o.size;omega
    ·have:=K6.o.size;omega
    ·show wr.heap.size<=m.heap.size;omega
    ·exact(O5.o.lt q hq).2
    ·have G:=(F6.o.now).keep l2.o
     rw[v4];exact G
   clear Y e2 e3 z2 z3
   go_wp2_with fail
   go_roundw
   case rel=>
    refine⟨j+1,rows.set j (bD x (.slice U5 x.vals.length c5) (.slice N x.frames.length O)),λi=>if i<=j then V i else l.heap.size,by go_num,by omega,?_,v5,?_,?_,?_,v9,l1,?_⟩
    ·exact⟨by rw[List.length_set];exact d5.o.1,eU d5.o.2 rfl⟩
    ·intro i y hi hy
     by_cases A1:i=j
     ·subst A1
      rw[HX.o] at hy;injection hy with hy;subst hy
      refine⟨_,_,dO b0.o _,?_⟩
      show kG l (if i<=i then V i else l.heap.size) (if i+1<=i then V (i+1) else l.heap.size) _ _ _
      rw[if_pos (Nat.le_refl _),if_neg (by omega)]
      exact w0.o.less (f8.o.2.2 i)
     ·obtain⟨v',f',G,h2⟩:=HP.o i y (by omega) hy
      refine⟨v',f',by rw[List.getElem?_set_ne (by omega)];exact G,?_⟩
      show kG l (if i<=j then V i else l.heap.size) (if i+1<=j then V (i+1) else l.heap.size) _ _ _
      rw[if_pos (by omega),if_pos (by omega)]
      exact h2.keep l5.o
    ·intro i hi
     rw[List.getElem?_set_ne (by omega)]
     exact e6.o i (by omega)
    ·have n1:wr.heap.size<=l.heap.size:=by have:=P.o.size;omega
     refine⟨by show(if 0<=j then V 0 else _)=_;rw[if_pos (by omega)];exact f8.o.1,λi=>?_,λi=>?_⟩
     ·show(if i<=j then V i else l.heap.size)<=(if i+1<=j then V (i+1) else l.heap.size)
      by_cases G:i+1<=j
      ·rw[if_pos (by omega),if_pos G];exact f8.o.2.1 i
      ·rw[if_neg G]
       split
       ·exact Nat.le_trans (f8.o.2.2 i) n1
       ·exact Nat.le_refl _
     ·show(if i<=j then V i else l.heap.size)<=_
      split
      ·exact Nat.le_trans (f8.o.2.2 i) n1
      ·exact Nat.le_refl _
    ·show _<=_
     have:=h7.o;have:=P.o.size;omega
   case measure=>simp[RowKit.intOf];omega
  ·have p0:¬(j:Int)<S.cells.length:=by omega
   rename World=>wq
   obtain rfl:j=S.cells.length:=by omega
   have p2:Hid (∀(i:Nat) x,S.cells[i]? = some x->∃v f,rows[i]? = some (bD x v f)/\kG wq (V i) (V (i+1)) x v f):=λi x D=>HP.o i x ((lE D).1) D
   clear HP e6
   have s0:=cell_of_row wq _ 3 _ _ _ R.o.st
   go_wp2_with fail
   refine(CT.o wq KW.o).mono ?_
   rintro e wa ⟨C2,rfl,o8,ka⟩
   have OA:=hI o8
   have KA:=hI ka
   obtain⟨TG,tg,rfl⟩:=bV o8
   have f7:Hid (oB w wa #[.slice M S.cells.length H,.slice SA S.shapes.length sc,.slice XA S.texts.length xc,.slice TA S.threads.length tc,.slice EA S.ends.length ec,.slice AA S.said.length ac,.int .i64 S.asked,.int .i64 S.steps]):=⟨(ka.block _ (by have:=h7.o;have:=i5.o;have:=b4.o;omega)).trans R.o.st,(ka.block _ (by have:=h7.o;have:=i5.o;have:=b4.o;omega)).trans R.o.rs,(ka.block _ (by have:=h7.o;have:=i5.o;have:=b4.o;omega)).trans R.o.fn⟩
   have B2:=hI (KW.o.trans (ka.mono f2))
   have B3:=hI (cZ OC.o ka)
   clear o8 ka s0
   have s0:=cell_of_row wa _ 3 _ _ _ f7.o.st
   have z0:=frozen_of_row wa _ 3 _ _ f7.o.st
   go_upto_region 10 with fail
   generalize g7:World.setCell _ _ _=wb
   have H7:Hid (wb.heap[w.heap.size]? = some (.cells #[.slice M S.cells.length H,.slice SA S.shapes.length sc,.slice XA S.texts.length xc,.slice TG S.threads.length tg,.slice EA S.ends.length ec,.slice AA S.said.length ac,.int .i64 S.asked,.int .i64 S.steps] 40 (0,0))):=by rw[<-g7,heap_setCell_same _ _ _ _ _ _ f7.o.st];rfl
   have B4:Hid (oB w wb #[.slice M S.cells.length H,.slice SA S.shapes.length sc,.slice XA S.texts.length xc,.slice TG S.threads.length tg,.slice EA S.ends.length ec,.slice AA S.said.length ac,.int .i64 S.asked,.int .i64 S.steps]):=⟨H7.o,by rw[<-g7,heap_setCell_other _ _ _ _ (by simp)];exact f7.o.rs,by rw[<-g7,heap_setCell_other _ _ _ _ (by simp <;> omega)];exact f7.o.fn⟩
   have Ob:Hid (wb.ownsRow wq.heap.size 57 5 (.slice TG S.threads.length tg) S.threads.length (J.flatMap id)):=by rw[<-g7];exact gI OA.o f7.o.st (by decide) _ _
   have H9:Hid (wb.ownsRow w1.heap.size 55 4 (.slice M S.cells.length H) S.cells.length (rows.flatMap id)):=by rw[<-g7];exact gI B3.o f7.o.st (by decide) _ _
   have I0:Hid (Below w.heap.size w wb):=by rw[<-g7];exact B2.o.setCell (Nat.le_refl _) _
   have I1:Hid (dC wq wb):=by rw[<-g7];exact(dC.of KA.o).trans (aeB f7.o.st (by decide) (by decide) (by decide))
   have M0:wb.heap.size=wa.heap.size:=by rw[<-g7];simp[World.setCell]
   have x0:Hid (wq.heap.size<=wb.heap.size):=by show _<=_;have:=KA.o.size;omega
   have x1:Hid (w.heap.size+1+1<wq.heap.size):=by show _<_;have:=h7.o;have:=i5.o;have:=b4.o;omega
   have B5:Hid (∀g,(.slice TG S.threads.length tg:Value).ownBlock=some g->wq.heap.size<=g/\g<wb.heap.size):=λg hg=>Ob.o.lt g hg
   have I2:Hid (∀(i:Nat) x,S.cells[i]? = some x->∃v f,rows[i]? = some (bD x v f)/\kG wb (V i) (V (i+1)) x v f):=λi x D=>by
    obtain⟨v,f,G,h2⟩:=p2.o i x D
    exact⟨v,f,G,h2.keep I1.o⟩
   clear g7 s0 z0 p2 OA B3
   (try dsimp only [Act.put])
   have s0:=cell_of_row wb _ 3 _ _ _ B4.o.st
   have M1:=SM.o.threads
   go_wp2_with fail
   clear s0
   clear OC R KW f2 hj n7 p0 f7 B2
   go_loopw [48] (λk wr=>∃(j:Nat) (z:List (List Value)) (Z:Nat->Nat),k=.int .i64 j/\j<=S.threads.length/\Hid (z.length=S.threads.length/\∀x∈z,x.length=5)/\Hid (wr.ownsRow wq.heap.size 57 5 (.slice TG S.threads.length tg) S.threads.length (z.flatMap id))/\
    Hid (∀(i:Nat) x,i<j->S.threads[i]? = some x->∃f,z[i]? = some (gH x f)/\fX wr (Z i) (Z (i+1)) x f)/\Hid (∀i,j<=i->z[i]? = J[i]?)/\Hid (Z 0=wb.heap.size/\(∀i,Z i<=Z (i+1))/\∀i,Z i<=wr.heap.size)/\
    Hid (wr.ownsRow w1.heap.size 55 4 (.slice M S.cells.length H) S.cells.length (rows.flatMap id))/\Hid (oB w wr #[.slice M S.cells.length H,.slice SA S.shapes.length sc,.slice XA S.texts.length xc,.slice TG S.threads.length tg,.slice EA S.ends.length ec,.slice AA S.said.length ac,.int .i64 S.asked,.int .i64 S.steps])/\Hid (Below w.heap.size w wr)/\Hid (wb.heap.size<=wr.heap.size)/\Hid (dC wb wr)) (λk _=>S.threads.length - (RowKit.intOf k).toNat)
   case atStart=>exact⟨0,J,λ_=>wb.heap.size,rfl,by omega,⟨F9.o,F4.o⟩,Ob.o,λi x h=>by omega,λi _=>rfl,⟨rfl,λ_=>Nat.le_refl _,λ_=>Nat.le_refl _⟩,H9.o,B4.o,I0.o,Nat.le_refl _,λ_ _ _ _ _ _ _ h=>h⟩
   case round=>
    obtain⟨j,z,Z,rfl,hj,j1,OT,HP,e6,d6,OC,R,KW,p9,C0⟩:=hrel
    have f2:=KW.o.size
    by_cases n7:j<S.threads.length
    ·have p0:(j:Int)<S.threads.length:=by omega
     obtain⟨g,J6,J4,J5⟩:∃g,TG=some ⟨g,0,none⟩/\wq.heap.size<=g/\g<wb.heap.size:=by
      rcases OT.o.2 with ⟨e,h⟩ | ⟨g,L1,L2,e,k1,k2,-⟩
      ·omega
      ·injection e with e1 e2 e3;exact⟨g,e1,k1,(B5.o g (by rw[e1];rfl)).2⟩
     subst J6
     obtain⟨x,D⟩:∃x,S.threads[j]? = some x:=⟨_,lG n7⟩
     obtain⟨f0,g5,j0⟩:=F2.o j x D
     have d8:z[j]? = some (gH x f0):=(e6.o j (Nat.le_refl _)).trans g5
     have Q3:j*5+5<=S.threads.length*5:=by have:(j+1)*5<=S.threads.length*5:=Nat.mul_le_mul_right _ (by omega);omega
     have C:∀k,k<5->wr.cell? ⟨g,j*5+k,none⟩=(gH x f0)[k]?:=λk hk=>by
      rw[OT.o.cellAt (j*5+k) (by omega)]
      exact b9 _ j k _ j1.o.2 d8 hk
     have g0:wr.cell? ⟨g,j*5,none⟩=some f0:=C 0 (by decide)
     have g1:wr.cell? ⟨g,j*5+1,none⟩=some (.int .i64 x.state):=C 1 (by decide)
     have g2:wr.cell? ⟨g,j*5+2,none⟩=some (.int .i64 x.on_):=C 2 (by decide)
     have g3:wr.cell? ⟨g,j*5+3,none⟩=some (.int .i64 x.val.kind):=C 3 (by decide)
     have g4:wr.cell? ⟨g,j*5+4,none⟩=some (.int .i64 x.val.n):=C 4 (by decide)
     obtain⟨FA,fc,rfl,-⟩:=id j0
     have HX:=hI D
     have b0:=hI d8
     have u1:=hI j0
     have H1:g<wr.heap.size:=by have:=p9.o;omega
     obtain⟨m,d2⟩:∃m,m=wr.alloc (.cells #[.slice FA x.frames.length fc,.int .i64 x.state,.int .i64 x.on_,.int .i64 x.val.kind,.int .i64 x.val.n] 57):=⟨_,rfl⟩
     have K4:Hid (Below wr.heap.size wr m):=by rw[d2];exact aB _ _
     have p1:Hid (aA m wr.heap.size [.slice FA x.frames.length fc,.int .i64 x.state,.int .i64 x.on_,.int .i64 x.val.kind,.int .i64 x.val.n]):=by rw[d2];exact ad5 _ _ _
     have u2:wr.heap.size<m.heap.size:=by rw[d2];simp
     have f3:=hI (KW.o.trans (K4.o.mono f2))
     have u3:=hI d2
     clear D g5 d8 C j0 d2
     go_upto_region 13 with fail
     rw[<-u3.o]
     clear g0 g1 g2 g3 g4
     have B1:w.heap.size+1+1<wr.heap.size:=by have:=x1.o;have:=x0.o;have:=p9.o;omega
     have a0:∀E:Up m,E.to.cell? ⟨w.heap.size,3,none⟩=some (.slice (some ⟨g,0,none⟩) S.threads.length tg):=λE=>E.cell (aC K4.o (cell_of_row wr _ 3 _ _ _ R.o.st))
     have a1:=ecZ (p1.o 0 _ rfl)
     have D6:=tX
     refine fI (λw'=>∃E:Up m,w'=E.to) [0,1,2,3,4,5] [6,7,8,9] [6] (by kernel_rfl) (by kernel_rfl) (λ_ _ d _ _ h=>by cases d <;> exact h) ⟨⟨_,(Below.refl _ m).drew⟩,rfl⟩ ?_
     simp only[List.filterMap_cons,List.filterMap_nil,List.getElem?_toArray,List.getElem?_cons_zero,List.getElem?_cons_succ]
     generalize h9:(λa'=>gA _ _ _ _ _ _ a' _)=qq
     have h5:=hI h9
     clear h9
     show wpQuiet _ _ _ _ [_,_,_,_,_,_] _
     repeat (go_big_quiet_step (fail))
     refine wpQuiet_nil ?_
     rw[<-h5.o]
     clear h5 qq a0 a1
     refine bA rfl (λK I=>?_)
     go_simp
     have x2:m.drew.cell? ⟨w.heap.size+1+1,0,none⟩=some (.func (.func 59) #[] #[]):=(aC K4.o (cell_of_row wr _ 0 _ _ _ R.o.fn))
     refine(p7 (.slice FA x.frames.length fc) x.frames (w.heap.size+1+1) m.drew (u1.o.keep f3.o.drew.size (λ_ F=>f3.o.drew.cell F) (λ_ _ h=>h.keep f3.o.drew.size (λ_ F=>f3.o.drew.cell F))) (by have:=(SM.o.tframes x (lM HX.o)).1;omega) (SM.o.tframes x (lM HX.o)).2 x2).mono ?_
     rintro e w6 ⟨u6,z6,z7,rfl,j3,k6⟩
     have F6:=hI j3
     have K6:Hid (Below m.heap.size m w6):=(Below.refl _ m).drew.trans k6
     have k9:=btZ f3 K6.o
     have P:=btZ K4 K6.o
     obtain⟨N,O,rfl⟩:=bV j3.row
     clear j3 k6 x2
     refine I _ _ (λ_=>⟨⟨w6,K6.o⟩,rfl⟩) ?_
     clear I K
     have n2:=hI (cZ OT.o P.o)
     have e0:w6.cell? ⟨g,j*5,none⟩=some (.slice FA x.frames.length fc):=by
      rw[n2.o.cellAt (j*5) (by omega)]
      exact b9 _ j 0 _ j1.o.2 b0.o (by decide)
     have z0:=n2.o.frozenAt (j*5)
     refine bP [7,8,9] _ _ (by kernel_rfl) (by kernel_rfl) ?_
     simp only[List.filterMap_cons,List.filterMap_nil,List.getElem?_toArray,List.getElem?_cons_zero,List.getElem?_cons_succ]
     go_wp2_with fail
     generalize Y:World.setCell _ _ _=l
     have ST:=hI (n2.o.stored (j*5) (.slice N x.frames.length O)).1
     have H4:w.heap.size+1+1+1<=g:=by have:=x1.o;omega
     have l1:Hid (Below w.heap.size w l):=by
      rw[<-Y]
      exact k9.o.setCell (by show w.heap.size<=g;omega) _
     have v4:l.heap.size=w6.heap.size:=by rw[<-Y];simp[World.setCell]
     have l2:Hid (dC w6 l):=by
      rw[<-Y]
      exact dC.set n2.o (by decide) (by decide) (by decide)
     have l5:Hid (dC wr l):=(dC.of P.o).trans l2.o
     have e4:Hid (∀k,k≠g->l.heap[k]? = w6.heap[k]?):=λk hk=>by rw[<-Y,heap_setCell_other _ _ _ _ hk]
     have v5:Hid (l.ownsRow w1.heap.size 55 4 (.slice M S.cells.length H) S.cells.length (rows.flatMap id)):=by rw[<-Y];exact iS (cZ OC.o P.o) n2.o (by decide)
     have I3:Hid (l.ownsRow wq.heap.size 57 5 (.slice (some ⟨g,0,none⟩) S.threads.length tg) S.threads.length ((z.set j (gH x (.slice N x.frames.length O))).flatMap id)):=by
      have G:=ST.o
      rw[show j*5=j*5+0 from rfl,dT _ j 0 _ _ j1.o.2 b0.o (by decide),show(gH x (.slice FA x.frames.length fc)).set 0 (.slice N x.frames.length O)=gH x (.slice N x.frames.length O) from rfl] at G
      rw[<-Y];exact G
     have v9:Hid (oB w l #[.slice M S.cells.length H,.slice SA S.shapes.length sc,.slice XA S.texts.length xc,.slice (some ⟨g,0,none⟩) S.threads.length tg,.slice EA S.ends.length ec,.slice AA S.said.length ac,.int .i64 S.asked,.int .i64 S.steps]):=
      ⟨(e4.o _ (by omega)).trans ((P.o.block _ (by omega)).trans R.o.st),(e4.o _ (by omega)).trans ((P.o.block _ (by omega)).trans R.o.rs),(e4.o _ (by omega)).trans ((P.o.block _ (by omega)).trans R.o.fn)⟩
     have w0:Hid (fX l wr.heap.size l.heap.size x (.slice N x.frames.length O)):=by
      have G:eH l m.drew.heap.size w6.heap.size _ _ _ _:=(F6.o.now).keep l2.o
      have h2:fX l m.drew.heap.size l.heap.size x (.slice N x.frames.length O):=⟨z6,z7,by rw[v4];exact G⟩
      exact h2.less (by show wr.heap.size<=m.heap.size;omega)
     clear Y e0 z0
     go_wp2_with fail
     go_roundw
     case rel=>
      refine⟨j+1,z.set j (gH x (.slice N x.frames.length O)),λi=>if i<=j then Z i else l.heap.size,by go_num,by omega,?_,I3,?_,?_,?_,v5,v9,l1,?_,C0.o.trans l5.o⟩
      ·exact⟨by rw[List.length_set];exact j1.o.1,eU j1.o.2 rfl⟩
      ·intro i y hi hy
       by_cases A1:i=j
       ·subst A1
        rw[HX.o] at hy;injection hy with hy;subst hy
        refine⟨_,dO b0.o _,?_⟩
        show fX l (if i<=i then Z i else l.heap.size) (if i+1<=i then Z (i+1) else l.heap.size) _ _
        rw[if_pos (Nat.le_refl _),if_neg (by omega)]
        exact w0.o.less (d6.o.2.2 i)
       ·obtain⟨f',G,h2⟩:=HP.o i y (by omega) hy
        refine⟨f',by rw[List.getElem?_set_ne (by omega)];exact G,?_⟩
        show fX l (if i<=j then Z i else l.heap.size) (if i+1<=j then Z (i+1) else l.heap.size) _ _
        rw[if_pos (by omega),if_pos (by omega)]
        exact h2.keep l5.o
      ·intro i hi
       rw[List.getElem?_set_ne (by omega)]
       exact e6.o i (by omega)
      ·have n1:wr.heap.size<=l.heap.size:=by have:=P.o.size;omega
       refine⟨by show(if 0<=j then Z 0 else _)=_;rw[if_pos (by omega)];exact d6.o.1,λi=>?_,λi=>?_⟩
       ·show(if i<=j then Z i else l.heap.size)<=(if i+1<=j then Z (i+1) else l.heap.size)
        by_cases G:i+1<=j
        ·rw[if_pos (by omega),if_pos G];exact d6.o.2.1 i
        ·rw[if_neg G]
         split
         ·exact Nat.le_trans (d6.o.2.2 i) n1
         ·exact Nat.le_refl _
       ·show(if i<=j then Z i else l.heap.size)<=_
        split
        ·exact Nat.le_trans (d6.o.2.2 i) n1
        ·exact Nat.le_refl _
      ·show _<=_
       have:=p9.o;have:=P.o.size;omega
     case measure=>simp[RowKit.intOf];omega
    ·have p0:¬(j:Int)<S.threads.length:=by omega
     rename World=>wx
     obtain rfl:j=S.threads.length:=by omega
     have p2:Hid (∀(i:Nat) x,S.threads[i]? = some x->∃f,z[i]? = some (gH x f)/\fX wx (Z i) (Z (i+1)) x f):=λi x D=>HP.o i x ((lE D).1) D
     clear HP e6
     have B1:w.heap.size+1+1<wx.heap.size:=by have:=x1.o;have:=x0.o;have:=p9.o;omega
     go_upto_region 15 with fail
     have a0:∀E:Up wx,E.to.cell? ⟨w.heap.size,1,none⟩=some (.slice SA S.shapes.length sc):=λE=>E.cell (cell_of_row wx _ 1 _ _ _ R.o.st)
     have a1:∀E:Up wx,E.to.cell? ⟨w.heap.size,2,none⟩=some (.slice XA S.texts.length xc):=λE=>E.cell (cell_of_row wx _ 2 _ _ _ R.o.st)
     have a2:∀E:Up wx,E.to.cell? ⟨w.heap.size,4,none⟩=some (.slice EA S.ends.length ec):=λE=>E.cell (cell_of_row wx _ 4 _ _ _ R.o.st)
     have a3:∀E:Up wx,E.to.cell? ⟨w.heap.size,5,none⟩=some (.slice AA S.said.length ac):=λE=>E.cell (cell_of_row wx _ 5 _ _ _ R.o.st)
     have a4:∀E:Up wx,E.to.cell? ⟨w.heap.size+1+1,0,none⟩=some (.func (.func 59) #[] #[]):=λE=>E.cell (cell_of_row wx _ 0 _ _ _ R.o.fn)
     have m8:=pN
     refine gQ (λw'=>∃E:Up wx,w'=E.to) [0,1,3,4,6,7,9,10,11] [2,5,8,12,13] 12 #[true,true,false,true,true,false,true,true,false,true,true,true,false,false,false,false,false,false,false,false,false] _ (by kernel_rfl) (by kernel_rfl) (by simp only[List.filterMap_cons,List.filterMap_nil,List.getElem?_toArray,List.getElem?_cons_zero,List.getElem?_cons_succ];rfl) (λ_ _ d _ _ h=>by cases d <;> exact h) ⟨⟨_,(Below.refl _ wx).drew⟩,rfl⟩ ?_
     generalize h9:(λa'=>cN _ _ _ _ _ _ _ _ a' _)=qq
     have h5:=hI h9
     clear h9
     show wpQuiet _ _ _ _ [_,_,_,_,_,_,_,_,_] _
     repeat (go_big_quiet_step (fail))
     refine wpQuiet_nil ?_
     rw[<-h5.o]
     clear h5 qq a0 a1 a2 a3 a4
     refine jJ (i:=2) (by kernel_rfl) rfl (λK I=>?_)
     go_simp
     refine(yH (.slice SA S.shapes.length sc) S.shapes wx.drew (G0.o.keep KW.o.drew.size (λ_ F=>KW.o.drew.cell F) (λ_ _ h=>h)) (by have:=SM.o.shapes;omega)).mono ?_
     rintro e w5 ⟨u5,rfl,q5,k5⟩
     have Q5:=hI q5
     have K5:Hid (Below wx.heap.size wx w5):=(Below.refl _ wx).drew.trans k5
     have h6:=hI (KW.o.trans (K5.o.mono f2))
     obtain⟨U5,c5,rfl,-⟩:=id q5
     clear q5 k5
     refine I _ _ (λ_=>⟨⟨w5,K5.o⟩,rfl⟩) ?_
     clear I K
     refine fJ [13] 10 #[true,true,true,true,true,false,true,true,false,true,true,true,false,true,false,false,false,false,false,false,false] _ (by kernel_rfl) rfl (by simp only[List.filterMap_cons,List.filterMap_nil,List.getElem?_toArray,List.getElem?_cons_zero,List.getElem?_cons_succ];rfl) (λ_ _ d _ _ h=>by cases d <;> exact h) ⟨⟨w5,K5.o⟩,rfl⟩ ?_
     show wpQuiet _ _ _ _ [_] _
     go_big_quiet_step (fail)
     refine wpQuiet_nil ?_
     refine d9 [5,8,12,14,15,16,17,18,19,20] _ _ _ (by kernel_rfl) ?_
     refine bA rfl (λK I=>?_)
     go_simp
     refine(yG (.slice XA S.texts.length xc) S.texts w5 (G1.o.keep h6.o.size (λ_ F=>h6.o.cell F) (λ_ _ h=>h)) (by have:=SM.o.texts;omega)).mono ?_
     rintro e w6 ⟨u6,rfl,q6,k6⟩
     have Q6:=hI q6
     have B6:=hI k6
     have K6:=btZ K5 k6
     have k9:=hI (KW.o.trans (K6.o.mono f2))
     obtain⟨N,O,rfl,-⟩:=id q6
     clear q6 k6
     refine I _ _ (λ_=>⟨⟨w6,K6.o⟩,rfl⟩) ?_
     clear I K
     refine bA rfl (λK I=>?_)
     go_simp
     refine(yI (.slice EA S.ends.length ec) S.ends w6 (G2.o.keep k9.o.size (λ_ F=>k9.o.cell F) (λ_ _ h=>h)) (by have:=SM.o.ends;omega)).mono ?_
     rintro e l ⟨u7,rfl,q7,k7⟩
     have Q7:=hI q7
     have x3:=hI k7
     have K7:=btZ K6 k7
     have l1:=hI (KW.o.trans (K7.o.mono f2))
     obtain⟨U7,c7,rfl,-⟩:=id q7
     clear q7 k7
     refine I _ _ (λ_=>⟨⟨l,K7.o⟩,rfl⟩) ?_
     clear I K
     refine bA rfl (λK I=>?_)
     go_simp
     refine(aaQ (.slice AA S.said.length ac) S.said l (G3.o.keep l1.o.size (λ_ F=>l1.o.cell F) (λ_ _ h=>h)) (by have:=SM.o.said;omega)).mono ?_
     rintro e w8 ⟨u8,rfl,q8,k8⟩
     have Q8:=hI q8
     have p3:=hI k8
     have K8:=btZ K7 k8
     have I4:=hI (KW.o.trans (K8.o.mono f2))
     obtain⟨U8,c8,rfl,-⟩:=id q8
     clear q8 k8
     refine I _ _ (λ_=>⟨⟨w8,K8.o⟩,rfl⟩) ?_
     clear I K
     have c9:Hid (w8.heap[w.heap.size]? = some (.cells #[.slice M S.cells.length H,.slice SA S.shapes.length sc,.slice XA S.texts.length xc,.slice TG S.threads.length tg,.slice EA S.ends.length ec,.slice AA S.said.length ac,.int .i64 S.asked,.int .i64 S.steps] 40 (0,0))):=(K8.o.block _ (by omega)).trans R.o.st
     have I5:=hI ((K8.o.block _ (by omega)).trans R.o.rs)
     have s1:=crZ c9 1 rfl
     have s2:=crZ c9 2 rfl
     have s4:=crZ c9 4 rfl
     have s5:=crZ c9 5 rfl
     have z1:=fzZ c9 1
     have z2:=fzZ c9 2
     have z4:=fzZ c9 4
     have z5:=fzZ c9 5
     refine bP [14,15,16,17,18,19,20] _ _ (by kernel_rfl) (by kernel_rfl) ?_
     simp only[List.filterMap_cons,List.filterMap_nil,List.getElem?_toArray,List.getElem?_cons_zero,List.getElem?_cons_succ]
     go_upto_region 16 with fail
     obtain⟨wc,d7⟩:∃wc,wc=w8.setCell ⟨w.heap.size,1,none⟩ (.slice U5 S.shapes.length c5):=⟨_,rfl⟩
     obtain⟨wd,g6⟩:∃wd,wd=wc.setCell ⟨w.heap.size,2,none⟩ (.slice N S.texts.length O):=⟨_,rfl⟩
     obtain⟨we,h8⟩:∃we,we=wd.setCell ⟨w.heap.size,4,none⟩ (.slice U7 S.ends.length c7):=⟨_,rfl⟩
     obtain⟨wf,j2⟩:∃wf,wf=we.setCell ⟨w.heap.size,5,none⟩ (.slice U8 S.said.length c8):=⟨_,rfl⟩
     have p4:Hid (wc.heap[w.heap.size]? = some (.cells #[.slice M S.cells.length H,.slice U5 S.shapes.length c5,.slice XA S.texts.length xc,.slice TG S.threads.length tg,.slice EA S.ends.length ec,.slice AA S.said.length ac,.int .i64 S.asked,.int .i64 S.steps] 40 (0,0))):=by rw[d7,heap_setCell_same _ _ _ _ _ _ c9.o];rfl
     have p5:Hid (wd.heap[w.heap.size]? = some (.cells #[.slice M S.cells.length H,.slice U5 S.shapes.length c5,.slice N S.texts.length O,.slice TG S.threads.length tg,.slice EA S.ends.length ec,.slice AA S.said.length ac,.int .i64 S.asked,.int .i64 S.steps] 40 (0,0))):=by rw[g6,heap_setCell_same _ _ _ _ _ _ p4.o];rfl
     have p8:Hid (we.heap[w.heap.size]? = some (.cells #[.slice M S.cells.length H,.slice U5 S.shapes.length c5,.slice N S.texts.length O,.slice TG S.threads.length tg,.slice U7 S.ends.length c7,.slice AA S.said.length ac,.int .i64 S.asked,.int .i64 S.steps] 40 (0,0))):=by rw[h8,heap_setCell_same _ _ _ _ _ _ p5.o];rfl
     have I7:Hid (wf.heap[w.heap.size]? = some (.cells #[.slice M S.cells.length H,.slice U5 S.shapes.length c5,.slice N S.texts.length O,.slice TG S.threads.length tg,.slice U7 S.ends.length c7,.slice U8 S.said.length c8,.int .i64 S.asked,.int .i64 S.steps] 40 (0,0))):=by rw[j2,heap_setCell_same _ _ _ _ _ _ p8.o];rfl
     have n9:Hid (∀k,k≠w.heap.size->wf.heap[k]? = w8.heap[k]?):=λk hk=>by rw[j2,heap_setCell_other _ _ _ _ hk,h8,heap_setCell_other _ _ _ _ hk,g6,heap_setCell_other _ _ _ _ hk,d7,heap_setCell_other _ _ _ _ hk]
     have x4:=hI ((n9.o (w.heap.size+1) (by omega)).trans I5.o)
     have I8:Hid (Below w.heap.size w wf):=by rw[j2,h8,g6,d7];exact(((I4.o.setCell (Nat.le_refl _) _).setCell (Nat.le_refl _) _).setCell (Nat.le_refl _) _).setCell (Nat.le_refl _) _
     have I9:Hid (dC wx wf):=by
      rw[j2,h8,g6,d7]
      rw[h8,g6,d7] at p8;rw[g6,d7] at p5;rw[d7] at p4
      exact((((dC.of K8.o).trans (aeB c9.o (by decide) (by decide) (by decide))).trans (aeB p4.o (by decide) (by decide) (by decide))).trans (aeB p5.o (by decide) (by decide) (by decide))).trans (aeB p8.o (by decide) (by decide) (by decide))
     have N5:wf.heap.size=w8.heap.size:=by rw[j2,h8,g6,d7];simp[World.setCell]
     rw[<-d7,<-g6,<-h8,<-j2]
     clear d7 g6 h8 j2 s1 s2 s4 s5 z1 z2 z4 z5 p4 p5 p8 c9
     have RG:=rrZ I7
     have LX:Hid ((prog.info? 40).map (·.size)=some ([.slice M S.cells.length H,.slice U5 S.shapes.length c5,.slice N S.texts.length O,.slice TG S.threads.length tg,.slice U7 S.ends.length c7,.slice U8 S.said.length c8,.int .i64 S.asked,.int .i64 S.steps]:List Value).length):=eC
     go_wp2_with (first
      | (refine wpList_load_mid rfl 40 _ rfl w.heap.size 0 rfl [.slice M S.cells.length H,.slice U5 S.shapes.length c5,.slice N S.texts.length O,.slice TG S.threads.length tg,.slice U7 S.ends.length c7,.slice U8 S.said.length c8,.int .i64 S.asked,.int .i64 S.steps] _ RG.o underlying40 rfl LX.o ?_)
      | (refine wpList_store_row rfl 40 _ _ rfl (w.heap.size+1) #[.slice M S.cells.length H,.slice U5 S.shapes.length c5,.slice N S.texts.length O,.slice TG S.threads.length tg,.slice U7 S.ends.length c7,.slice U8 S.said.length c8,.int .i64 S.asked,.int .i64 S.steps] rfl rfl 40 _ x4.o eC rfl (oC (by simp[Value.oneCell'])) ?_)
      | fail)
     generalize k0:World.setRow _ _ _=w9
     have QR:=shZ k0 x4
     have K9:Hid (Below w.heap.size w w9):=by rw[<-k0];exact Below.set_row I8.o (by omega) _
     have B7:Hid (dC wx w9):=by rw[<-k0];exact I9.o.trans (dC.set_row x4.o (by decide) (by decide) (by decide))
     have N9:w9.heap.size=wf.heap.size:=by rw[<-k0];simp
     have l9:Hid (∀k,wx.heap.size<=k->w9.heap[k]? = w8.heap[k]?):=λk hk=>by rw[<-k0,setRow_other _ _ _ _ (by omega)];exact n9.o k (by omega)
     have x5:Hid (∀k,w.heap.size+1+1<k->k<wx.heap.size->w9.heap[k]? = wx.heap[k]?):=λk hk J9=>by rw[<-k0,setRow_other _ _ _ _ (by omega)];exact(n9.o k (by omega)).trans (K8.o.block k J9)
     clear k0
     have Q4:=b4.o
     have J0:Hid (sL w9 w.heap.size [.slice M S.cells.length H,.slice U5 S.shapes.length c5,.slice N S.texts.length O,.slice TG S.threads.length tg,.slice U7 S.ends.length c7,.slice U8 S.said.length c8,.int .i64 S.asked,.int .i64 S.steps] S V Z (.slice M S.cells.length H) (.slice TG S.threads.length tg) rows z (.slice U5 S.shapes.length c5) (.slice N S.texts.length O) (.slice U7 S.ends.length c7) (.slice U8 S.said.length c8)):=by
      have z5:=K5.o.size
      have Q9:=B6.o.size
      have R0:=x3.o.size
      have R1:=p3.o.size
      have lq:=f8.o.2.2 S.cells.length
      have lb:=x0.o
      have lx:=d6.o.2.2 S.threads.length
      have O4:w1.heap.size<=wq.heap.size:=Nat.le_trans i5.o h7.o
      refine⟨rfl,dU (rF OC.o λg hg=>x5.o g (by have:=(OC.o.lt g hg).1;omega) (OC.o.lt g hg).2) (by omega),d5.o.1,d5.o.2,λi x D=>?_,λg hg=>?_,f8.o.2.1,dU (rF OT.o λg hg=>x5.o g (by have:=(OT.o.lt g hg).1;omega) (OT.o.lt g hg).2) lq,
       j1.o.1,j1.o.2,λi x D=>?_,λg hg=>?_,d6.o.2.1,?_,λi=>?_,Q5.o.far (λb hb=>⟨Nat.le_trans lx hb.1,by have:=hb.2;omega⟩) (λb hb=>?_),Q6.o.far (λb hb=>⟨?_,?_⟩) (λb hb=>?_),Q7.o.far (λb hb=>⟨?_,?_⟩) (λb hb=>?_),Q8.o.far (λb hb=>⟨?_,?_⟩) (λb hb=>?_),F5.o,F7.o,E9.o,?_⟩
      ·obtain⟨v,f,G,h2⟩:=I2.o i x D
       exact⟨v,f,G,(h2.keep C0.o).keep B7.o⟩
      ·rw[f8.o.1];exact(A9.o g hg).2
      ·obtain⟨f,G,h2⟩:=p2.o i x D
       exact⟨f,G,h2.keep B7.o⟩
      ·rw[d6.o.1];exact(B5.o g hg).2
      ·rw[d6.o.1];omega
      ·have:=d6.o.2.2 i;omega
      ·have G:=hb.1;have h2:=hb.2
       exact(l9.o b G).trans ((p3.o.block b (by omega)).trans ((x3.o.block b (by omega)).trans (B6.o.block b h2)))
      ·have:=hb.1;omega
      ·have:=hb.2;omega
      ·have G:=hb.1;have h2:=hb.2
       exact(l9.o b (by omega)).trans ((p3.o.block b (by omega)).trans (x3.o.block b h2))
      ·have:=hb.1;omega
      ·have:=hb.2;omega
      ·have G:=hb.1;have h2:=hb.2
       exact(l9.o b (by omega)).trans (p3.o.block b h2)
      ·have:=hb.1;omega
      ·have:=hb.2;omega
      ·have G:=hb.1;have h2:=hb.2
       exact l9.o b (by omega)
      ·rw[f8.o.1];have:=i5.o;omega
     go_wp2_with fail
     have r0:=crZ QR 0 rfl
     have r1:=crZ QR 1 rfl
     have r2:=crZ QR 2 rfl
     have r3:=crZ QR 3 rfl
     have r4:=crZ QR 4 rfl
     have r5:=crZ QR 5 rfl
     have r6:=crZ QR 6 rfl
     have r7:=crZ QR 7 rfl
     refine bodyPost_ret (v:=.agg ⟨[.slice M S.cells.length H,.slice U5 S.shapes.length c5,.slice N S.texts.length O,.slice TG S.threads.length tg,.slice U7 S.ends.length c7,.slice U8 S.said.length c8,.int .i64 S.asked,.int .i64 S.steps]⟩) (by simp[results,results29,go_sem,r0,r1,r2,r3,r4,r5,r6,r7]) rfl ⟨_,rfl,⟨_,_,_,_,_,_,_,_,_,_,J0.o⟩,K9.o⟩
end
end Go.Proofs.YtjaphgpkkfdaaaaGreatDoor
