/- A part of the walk. -/
import Derived.Test.YtijihlcdhppfgaaGreatDoorZV
import Derived.Laws.EntriesVeiled
set_option maxHeartbeats 16000000
set_option maxRecDepth 100000
set_option linter.all false
namespace Go.Proofs.YtijihlcdhppfgaaGreatDoor
open Tryz
section
open Go.RowKit
structure rQ (w W:World) (stc:Array Value):Prop where
 st:W.heap[w.heap.size]? = some (.cells stc 40 (0,0))
 rs:W.heap[w.heap.size+1]? = some (.cells #[.slice none 0 0,.slice none 0 0,.slice none 0 0,.slice none 0 0,.slice none 0 0,.slice none 0 0,.int .i64 0,.int .i64 0] 40 (0,0))
 fn:W.heap[w.heap.size+1+1]? = some (.cells #[.func (.func 120) #[] #[]] 219 (0,0))
theorem vY {w w':World} {B n size:Nat} {e:TypeId} {v:Value} {xs:List Value} (h:w.ownsRow B e size v n xs) (l:∀g,v.ownBlock=some g->w'.heap[g]? = w.heap[g]?):w'.ownsRow B e size v n xs:=by
 obtain⟨hl,j⟩:=h;refine⟨hl,?_⟩;rcases j with ⟨rfl,p⟩ | ⟨g,d,f,rfl,hb,h1,q⟩;·exact .inl ⟨rfl,p⟩
 ·exact .inr ⟨g,d,f,rfl,hb,(l g rfl).trans h1,q⟩
theorem eF.set_row {w:World} {g:Nat} {p cs:Array Value} {j:TypeId} (q:w.heap[g]? = some (.cells cs j (0,0))) (h1:145≠j) (r:51≠j) (u:223≠j):eF w (w.setRow g p):=λB e s n v xs ht h=>by
 refine vY h λk f=>setRow_other _ _ _ _ ?_
 rintro rfl
 rcases h.2 with ⟨l,z⟩ | ⟨A,x,y,l,hb,d,-⟩
 ·subst l;cases f
 ·subst l
  injection f with f
  subst f
  rw[q] at d
  injection d with d;injection d with _ d
  rcases ht with rfl | rfl | rfl
  ·exact h1 d.symm
  ·exact r d.symm
  ·exact u d.symm
theorem aJ.of_row2 {w:World} {g:Nat} {cs:List Value} {t:TypeId} (h:w.heap[g]? = some (.cells ⟨cs⟩ t (0,0))):aJ w g cs:=λi v d=>by
 rw[cell_of_row w g i _ _ _ h];simpa using d
theorem fX:(prog.info? 40).map (·.size)=some 8:=by kernel_rfl
theorem ac3 (cs:List Value) (S:aP) (w:World) (h:eB w w.heap.size cs S) (A2:ad5 S) : Calls prog 68 #[.agg ⟨cs⟩] w (λe w'=>∃C5 X lo cv C4 rows D shv K3 L0 L1,e=.returned (.agg ⟨C5⟩)/\xO w' w.heap.size C5 S X lo cv C4 rows D shv K3 L0 L1/\Below w.heap.size w w'):=by
 obtain⟨c,s,t,th,en,sa,rfl,hc,y0,y1,hth,n1,y2,wa,ws⟩:=h;have SM:=hI A2;have F1:=hI (And.intro wa ws);obtain⟨Y,y3,y4,C0⟩:=hc.raw;have l5:∀(i:Nat) x,S.cells[i]? = some x->∃v f,Y[i]? = some (bM x v f)/\aB w w.heap.size 2 hU v x.vals/\aB w w.heap.size 8 (dD w w.heap.size) f x.frames:=λi x G=>by obtain⟨r,hr,v,f,rfl,a,b,-⟩:=C0 i x G;exact⟨v,f,hr,a,b⟩
 have t2:∀x∈S.cells,wfi x.kind/\wfi x.num/\∀v∈x.vals,wfi v.kind/\wfi v.n:=λx G=>by obtain⟨r,v,f,-,a,b,c1,c2⟩:=hc.mem G;exact⟨c1,c2,λy hy=>by obtain⟨_,hR⟩:=a.mem hy;exact hR.2⟩
 have h4:∀x∈Y,x.length=4:=λx G=>by obtain⟨_,_,h⟩:=y4.mem G;exact h
 have t3:∀r∈Y,∀u∈r,u.oneCell'=true:=λr hr u hu=>by
  obtain⟨i,hi⟩:=List.getElem?_of_mem hr;have t4:i<S.cells.length:=by have:=(lE hi).1;omega
  obtain⟨v,f,e1,⟨A,c,e2,-⟩,⟨A',c',e3,-⟩⟩:=l5 i _ (lG t4);rw[hi] at e1;injection e1 with e1;subst e1
  unfold bM at hu;rw[e2,e3] at hu;simp only[List.mem_cons,List.not_mem_nil,or_false] at hu;rcases hu with rfl | rfl | rfl | rfl <;> rfl
 have CL:Hid (∀W,Below w.heap.size w W->Calls prog 125 #[c] W λe w'=>∃u,e=.returned u/\w'.ownsRow W.heap.size 166 4 u S.cells.length (Y.flatMap id)/\Below W.heap.size W w'):=λW k=>by have:=ahC c Y W (y4.keep k.size (λ_ H=>k.cell H) (λ_ _ h=>h)) t3 (by have:=A2.cells;omega);rw[y3] at this;exact this
 obtain⟨M,y5,y6,C1⟩:=hth.raw;have tpart:∀(i:Nat) x,S.threads[i]? = some x->∃f,M[i]? = some (jC x f)/\aB w w.heap.size 8 (dD w w.heap.size) f x.frames:=λi x G=>by obtain⟨r,hr,f,rfl,b,-⟩:=C1 i x G;exact⟨f,hr,b⟩
 have t6:∀x∈S.threads,wfi x.state/\wfi x.on_/\wfi x.val.kind/\wfi x.val.n:=λx G=>by obtain⟨r,f,-,-,a,b,c,d⟩:=hth.mem G;exact⟨a,b,c,d⟩
 have t5:∀x∈M,x.length=5:=λx G=>by obtain⟨_,_,h⟩:=y6.mem G;exact h
 have t7:∀r∈M,∀u∈r,u.oneCell'=true:=λr hr u hu=>by
  obtain⟨i,hi⟩:=List.getElem?_of_mem hr;have t4:i<S.threads.length:=by have:=(lE hi).1;omega
  obtain⟨f,e1,⟨A',c',e3,-⟩⟩:=tpart i _ (lG t4);rw[hi] at e1;injection e1 with e1;subst e1
  unfold jC at hu;rw[e3] at hu;simp only[List.mem_cons,List.not_mem_nil,or_false] at hu;rcases hu with rfl | rfl | rfl | rfl | rfl <;> rfl
 have CT:Hid (∀W,Below w.heap.size w W->Calls prog 126 #[th] W λe w'=>∃u,e=.returned u/\w'.ownsRow W.heap.size 140 5 u S.threads.length (M.flatMap id)/\Below W.heap.size W w'):=λW k=>by have:=ag8 th M W (y6.keep k.size (λ_ H=>k.cell H) (λ_ _ h=>h)) t7 (by have:=A2.threads;omega);rw[y5] at this;exact this
 have F3:=hI l5;have F4:=hI tpart;have F5:=hI h4;have F7:=hI t5;have F8:=hI t2;have F9:=hI t6;have G0:=hI y3;have G1:=hI y5;have G2:=hI y0;have G3:=hI y1;have G4:=hI n1;have G5:=hI y2;obtain⟨CA,cc,rfl,-⟩:=id hc;obtain⟨SA,sc,rfl,-⟩:=id y0;obtain⟨XA,xc,rfl,-⟩:=id y1;obtain⟨TA,tc,rfl,-⟩:=id hth;obtain⟨EA,ec,rfl,-⟩:=id n1;obtain⟨AA,ac,rfl,-⟩:=id y2;clear hc y0 y1 hth n1 y2 y3 y4 C0 l5 t2 h4 t3 y5 y6 C1 tpart t6 t5 t7;obtain⟨w1,j0⟩:∃w1,w1=((w.alloc (.cells #[.slice CA S.cells.length cc,.slice SA S.shapes.length sc,.slice XA S.texts.length xc,.slice TA S.threads.length tc,.slice EA S.ends.length ec,.slice AA S.said.length ac,.int .i64 S.asked,.int .i64 S.steps] 40)).alloc (.cells #[.slice none 0 0,.slice none 0 0,.slice none 0 0,.slice none 0 0,.slice none 0 0,.slice none 0 0,.int .i64 0,.int .i64 0] 40)).alloc (.cells #[.func (.func 120) #[] #[]] 219):=⟨_,rfl⟩;have K1:Hid (Below w.heap.size w w1):=by rw[j0];exact((bV w _ _).alloc (by simp;omega) _)
 have t9:Hid (w1.heap[w.heap.size]? = some (.cells #[.slice CA S.cells.length cc,.slice SA S.shapes.length sc,.slice XA S.texts.length xc,.slice TA S.threads.length tc,.slice EA S.ends.length ec,.slice AA S.said.length ac,.int .i64 S.asked,.int .i64 S.steps] 40 (0,0))):=by rw[j0];exact a8 (a8 (aS _ _) _) _
 have C6:Hid (w1.heap[w.heap.size+1]? = some (.cells #[.slice none 0 0,.slice none 0 0,.slice none 0 0,.slice none 0 0,.slice none 0 0,.slice none 0 0,.int .i64 0,.int .i64 0] 40 (0,0))):=by rw[j0];exact a8 (iZ _ _ _) _
 have C7:Hid (w1.heap[w.heap.size+1+1]? = some (.cells #[.func (.func 120) #[] #[]] 219 (0,0))):=by rw[j0];have:=aS ((w.alloc (.cells #[.slice CA S.cells.length cc,.slice SA S.shapes.length sc,.slice XA S.texts.length xc,.slice TA S.threads.length tc,.slice EA S.ends.length ec,.slice AA S.said.length ac,.int .i64 S.asked,.int .i64 S.steps] 40)).alloc (.cells #[.slice none 0 0,.slice none 0 0,.slice none 0 0,.slice none 0 0,.slice none 0 0,.slice none 0 0,.int .i64 0,.int .i64 0] 40)) (.cells #[.func (.func 120) #[] #[]] 219);rw[World.size_alloc,World.size_alloc] at this;exact this
 have G7:=hI j0;have B1:w1.heap.size=w.heap.size+1+1+1:=by rw[j0];simp
 have b5:=hI B1;clear j0 B1;go_enter func68,ntmps68;go_upto_region 3 with fail;rw[<-G7.o];have s0:=crZ t9 0 rfl;go_wp2_with fail;refine(CL.o w1 K1.o).mono ?_;rintro e w2 ⟨cv,rfl,z6,k2⟩;have O2:=hI z6;have K2:=hI k2;obtain⟨N,I,rfl⟩:=cJ z6;have l9:Hid (w2.heap[w.heap.size]? = some (.cells #[.slice CA S.cells.length cc,.slice SA S.shapes.length sc,.slice XA S.texts.length xc,.slice TA S.threads.length tc,.slice EA S.ends.length ec,.slice AA S.said.length ac,.int .i64 S.asked,.int .i64 S.steps] 40 (0,0))):=(k2.block _ (by have:=b5.o;omega)).trans t9.o;have C8:Hid (w2.heap[w.heap.size+1]? = some (.cells #[.slice none 0 0,.slice none 0 0,.slice none 0 0,.slice none 0 0,.slice none 0 0,.slice none 0 0,.int .i64 0,.int .i64 0] 40 (0,0))):=(k2.block _ (by have:=b5.o;omega)).trans C6.o;have C9:Hid (w2.heap[w.heap.size+1+1]? = some (.cells #[.func (.func 120) #[] #[]] 219 (0,0))):=(k2.block _ (by have:=b5.o;omega)).trans C7.o;have G8:=btZ K1 k2;clear z6 k2 s0;have s0:=crZ l9 0 rfl;have z0:=fzZ l9 0;go_upto_region 4 with fail;generalize k0:World.setCell _ _ _=w3;have u2:Hid (w3.heap[w.heap.size]? = some (.cells #[.slice N S.cells.length I,.slice SA S.shapes.length sc,.slice XA S.texts.length xc,.slice TA S.threads.length tc,.slice EA S.ends.length ec,.slice AA S.said.length ac,.int .i64 S.asked,.int .i64 S.steps] 40 (0,0))):=by rw[<-k0,heap_setCell_same _ _ _ _ _ _ l9.o];rfl
 have D0:Hid (w3.heap[w.heap.size+1]? = some (.cells #[.slice none 0 0,.slice none 0 0,.slice none 0 0,.slice none 0 0,.slice none 0 0,.slice none 0 0,.int .i64 0,.int .i64 0] 40 (0,0))):=by rw[<-k0,heap_setCell_other _ _ _ _ (by simp)];exact C8.o
 have D1:Hid (w3.heap[w.heap.size+1+1]? = some (.cells #[.func (.func 120) #[] #[]] 219 (0,0))):=by rw[<-k0,heap_setCell_other _ _ _ _ (by simp <;> omega)];exact C9.o
 have O3:Hid (w3.ownsRow w1.heap.size 166 4 (.slice N S.cells.length I) S.cells.length (Y.flatMap id)):=by rw[<-k0];exact cY O2.o l9.o (by decide) _ _
 have H0:Hid (Below w.heap.size w w3):=by rw[<-k0];exact G8.o.setCell (Nat.le_refl _) _
 have L8:w3.heap.size=w2.heap.size:=by rw[<-k0];simp[World.setCell]
 have i6:Hid (w1.heap.size<=w3.heap.size):=by show _<=_;have:=K2.o.size;omega
 clear k0 s0 z0;(try dsimp only [Act.put]);have s0:=crZ u2 0 rfl;have Q0:=SM.o.cells;go_wp2_with fail;clear s0;have H1:Hid (rQ w w3 #[.slice N S.cells.length I,.slice SA S.shapes.length sc,.slice XA S.texts.length xc,.slice TA S.threads.length tc,.slice EA S.ends.length ec,.slice AA S.said.length ac,.int .i64 S.asked,.int .i64 S.steps]):=⟨u2.o,D0.o,D1.o⟩;have B2:Hid (∀g,(Value.slice N S.cells.length I).ownBlock=some g->w1.heap.size<=g/\g<w3.heap.size):=λg hg=>O3.o.lt g hg;go_loopw [17] (λk wr=>∃(j:Nat) (rows:List (List Value)) (X:Nat->Nat),k=.int .i64 j/\j<=S.cells.length/\Hid (rows.length=S.cells.length/\∀x∈rows,x.length=4)/\Hid (wr.ownsRow w1.heap.size 166 4 (.slice N S.cells.length I) S.cells.length (rows.flatMap id))/\ Hid (∀(i:Nat) x,i<j->S.cells[i]? = some x->∃v f,rows[i]? = some (bM x v f)/\mQ wr (X i) (X (i+1)) x v f)/\Hid (∀i,j<=i->rows[i]? = Y[i]?)/\Hid (X 0=w3.heap.size/\(∀i,X i<=X (i+1))/\∀i,X i<=wr.heap.size)/\ Hid (rQ w wr #[.slice N S.cells.length I,.slice SA S.shapes.length sc,.slice XA S.texts.length xc,.slice TA S.threads.length tc,.slice EA S.ends.length ec,.slice AA S.said.length ac,.int .i64 S.asked,.int .i64 S.steps])/\Hid (Below w.heap.size w wr)/\Hid (w3.heap.size<=wr.heap.size)) (λk _=>S.cells.length - (RowKit.intOf k).toNat);case atStart=>exact⟨0,Y,λ_=>w3.heap.size,rfl,by omega,⟨G0.o,F5.o⟩,O3.o,λi x h=>by omega,λi _=>rfl,⟨rfl,λ_=>Nat.le_refl _,λ_=>Nat.le_refl _⟩,H1.o,H0.o,Nat.le_refl _⟩
 case round=>
  obtain⟨j,rows,X,rfl,hj,d6,OC,HP,e7,f9,V,KW,h8⟩:=hrel
  have f3:=KW.o.size
  by_cases n9:j<S.cells.length
  ·have p2:(j:Int)<S.cells.length:=by omega
   obtain⟨g,J4,J5,J6⟩:∃g,N=some ⟨g,0,none⟩/\w1.heap.size<=g/\g<w3.heap.size:=by
    rcases OC.o.2 with ⟨e,h⟩ | ⟨g,L2,L3,e,k1,k2,-⟩
    ·omega
    ·injection e with e1 e2 e3;exact⟨g,e1,k1,(B2.o g (by rw[e1];rfl)).2⟩
   subst J4
   obtain⟨x,G⟩:∃x,S.cells[j]? = some x:=⟨_,lG n9⟩
   obtain⟨v0,f0,g6,y7,j1⟩:=F3.o j x G
   have e4:rows[j]? = some (bM x v0 f0):=(e7.o j (Nat.le_refl _)).trans g6
   have Q1:j*4+4<=S.cells.length*4:=by have:(j+1)*4<=S.cells.length*4:=Nat.mul_le_mul_right _ (by omega);omega
   have F:∀k,k<4->wr.cell? ⟨g,j*4+k,none⟩=(bM x v0 f0)[k]?:=λk hk=>by
    rw[OC.o.cellAt (j*4+k) (by omega)]
    exact dB _ j k _ d6.o.2 e4 hk
   have g0:wr.cell? ⟨g,j*4,none⟩=some (.int .i64 x.kind):=F 0 (by decide)
   have g1:wr.cell? ⟨g,j*4+1,none⟩=some (.int .i64 x.num):=F 1 (by decide)
   have g2:wr.cell? ⟨g,j*4+2,none⟩=some v0:=F 2 (by decide)
   have g3:wr.cell? ⟨g,j*4+3,none⟩=some f0:=F 3 (by decide)
   obtain⟨VA,vc,rfl,-⟩:=id y7
   obtain⟨FA,fc,rfl,-⟩:=id j1
   have HX:=hI G
   have b2:=hI e4
   have H2:=hI y7
   have u3:=hI j1
   have H3:g<wr.heap.size:=by have:=h8.o;omega
   obtain⟨z,d3⟩:∃z,z=wr.alloc (.cells #[.int .i64 x.kind,.int .i64 x.num,.slice VA x.vals.length vc,.slice FA x.frames.length fc] 166):=⟨_,rfl⟩
   have K4:Hid (Below wr.heap.size wr z):=by rw[d3];exact aA _ _
   have p3:Hid (aJ z wr.heap.size [.int .i64 x.kind,.int .i64 x.num,.slice VA x.vals.length vc,.slice FA x.frames.length fc]):=by rw[d3];exact akV _ _ _
   have u4:wr.heap.size<z.heap.size:=by rw[d3];simp
   have f7:=hI (KW.o.trans (K4.o.mono f3))
   have v1:=hI d3
   clear G g6 e4 F y7 j1 d3
   go_upto_region 7 with fail
   rw[<-v1.o]
   clear g0 g1 g2 g3
   obtain⟨L,hL⟩:∃L:List (Addr×Value),L=[(⟨w.heap.size,0,none⟩,.slice (some ⟨g,0,none⟩) S.cells.length I),(⟨w.heap.size+1+1,0,none⟩,.func (.func 120) #[] #[]),(⟨wr.heap.size,2,none⟩,.slice VA x.vals.length vc),(⟨wr.heap.size,3,none⟩,.slice FA x.frames.length fc)]:=⟨_,rfl⟩
   have B3:w.heap.size+1+1<wr.heap.size:=by have:=h8.o;have:=i6.o;have:=b5.o;omega
   have n0:Hid (∀p∈L,z.cell? p.1=some p.2/\p.1.block<z.heap.size/\p.1.block≠g):=by
    rw[hL]
    intro p H
    simp only[List.mem_cons,List.not_mem_nil,or_false] at H
    rcases H with rfl | rfl | rfl | rfl
    ·exact⟨aC K4.o (cell_of_row wr _ 0 _ _ _ V.o.st),by show w.heap.size<_;omega,by show w.heap.size≠g;have:=b5.o;omega⟩
    ·exact⟨aC K4.o (cell_of_row wr _ 0 _ _ _ V.o.fn),by show w.heap.size+1+1<_;omega,by show w.heap.size+1+1≠g;have:=b5.o;omega⟩
    ·exact⟨p3.o 2 _ rfl,u4,by show wr.heap.size≠g;omega⟩
    ·exact⟨p3.o 3 _ rfl,u4,by show wr.heap.size≠g;omega⟩
   have a0:∀E:dP L,E.wd.cell? ⟨w.heap.size,0,none⟩=some (.slice (some ⟨g,0,none⟩) S.cells.length I):=λE=>E.here (_,_) (by rw[hL];simp)
   have a1:∀E:dP L,E.wd.cell? ⟨w.heap.size+1+1,0,none⟩=some (.func (.func 120) #[] #[]):=λE=>E.here (_,_) (by rw[hL];simp)
   have a2:∀E:dP L,E.wd.cell? ⟨wr.heap.size,2,none⟩=some (.slice VA x.vals.length vc):=λE=>E.here (_,_) (by rw[hL];simp)
   have a3:∀E:dP L,E.wd.cell? ⟨wr.heap.size,3,none⟩=some (.slice FA x.frames.length fc):=λE=>E.here (_,_) (by rw[hL];simp)
   have k9:Hid (∀W,Below z.heap.size z W->∃E:dP L,W=E.wd):=λW k=>⟨⟨W,λp H=>(k.cell (n0.o p H).2.1).trans (n0.o p H).1⟩,rfl⟩
   have H4:Hid (∀W i u,Below z.heap.size z W->∃E:dP L,W.setCell ⟨g,i,none⟩ u=E.wd):=λW i u k=>⟨⟨W.setCell ⟨g,i,none⟩ u,λp H=>(World.cell?_of_block (heap_setCell_other _ _ _ _ (n0.o p H).2.2)).trans ((k.cell (n0.o p H).2.1).trans (n0.o p H).1)⟩,rfl⟩
   clear hL
   haveI:Nonempty (dP L):=⟨(k9.o z (Below.refl _ _)).choose⟩
   have n1:=tS
   have D8:=zK
   refine gL (λw'=>∃E:dP L,w'=E.wd) [0,1,2,3,4,5,6,7,8,10,11,12] [9,13,14,15,16,17,18,19] [9,13,14,15,16] (by kernel_rfl) (by kernel_rfl) (λ_ _ d _ _ h=>by cases d <;> exact h) (k9.o _ (Below.refl _ z).drew) ?_
   simp only[List.filterMap_cons,List.filterMap_nil,List.getElem?_toArray,List.getElem?_cons_zero,List.getElem?_cons_succ]
   generalize i0:(λa'=>gT _ _ _ _ _ _ a' _)=qq
   have h6:=hI i0
   clear i0
   show wpQuiet _ _ _ _ [_,_,_,_,_,_,_,_,_,_,_,_] _
   repeat (go_big_quiet_step (fail))
   refine wpQuiet_nil ?_
   rw[<-h6.o]
   clear h6 qq a0 a1 a2 a3
   refine aR rfl (λK J=>?_)
   go_simp
   refine(tI (.slice VA x.vals.length vc) x.vals z.drew (H2.o.keep f7.o.drew.size (λ_ H=>f7.o.drew.cell H) (λ_ _ h=>h)) (by have:=SM.o.vals x (lM HX.o);omega)).mono ?_
   rintro e w5 ⟨u5,rfl,C3,k5⟩
   have O5:=hI C3
   have K5:Hid (Below z.heap.size z w5):=(Below.refl _ z).drew.trans k5
   have h7:=btZ f7 K5.o
   clear C3 k5
   refine J _ _ (λ_=>k9.o w5 K5.o) ?_
   clear J K
   refine aR rfl (λK J=>?_)
   go_simp
   have v4:w5.cell? ⟨w.heap.size+1+1,0,none⟩=some (.func (.func 120) #[] #[]):=aC (K4.o.trans (K5.o.mono K4.o.size)) (cell_of_row wr _ 0 _ _ _ V.o.fn)
   refine(uJ (.slice FA x.frames.length fc) x.frames (w.heap.size+1+1) w5 (u3.o.keep h7.o.size (λ_ H=>h7.o.cell H) (λ_ _ h=>h.keep h7.o.size (λ_ H=>h7.o.cell H))) (by have:=(SM.o.cframes x (lM HX.o)).1;omega) (SM.o.cframes x (lM HX.o)).2 v4).mono ?_
   rintro e w6 ⟨u6,z9,A0,rfl,j4,k6⟩
   have F6:=hI j4
   have K6:Hid (Below w5.heap.size w5 w6):=k6
   have n2:=btZ K5 K6.o
   have l0:=btZ h7 K6.o
   have R:=btZ K4 n2.o
   obtain⟨U5,c5,rfl⟩:=cJ O5.o
   obtain⟨O,P,rfl⟩:=cJ j4.row
   clear j4 k6 v4
   refine J _ _ (λ_=>k9.o w6 n2.o) ?_
   clear J K
   have l2:=hI (eA OC.o R.o)
   have e2:w6.cell? ⟨g,j*4+2,none⟩=some (.slice VA x.vals.length vc):=by
    rw[l2.o.cellAt (j*4+2) (by omega)]
    exact dB _ j 2 _ d6.o.2 b2.o (by decide)
   have e3:w6.cell? ⟨g,j*4+3,none⟩=some (.slice FA x.frames.length fc):=by
    rw[l2.o.cellAt (j*4+3) (by omega)]
    exact dB _ j 3 _ d6.o.2 b2.o (by decide)
   have z2:=l2.o.frozenAt (j*4+2)
   have z3:=l2.o.frozenAt (j*4+3)
   refine aR rfl (λK J=>?_)
   go_simp
   refine J _ _ (λ_=>k9.o w6 n2.o) ?_
   clear J K
   refine aR rfl (λK J=>?_)
   go_simp
   refine J _ _ (λ_=>k9.o w6 n2.o) ?_
   clear J K
   refine aR rfl (λK J=>?_)
   go_simp
   refine J _ _ (λ_=>H4.o w6 _ _ n2.o) ?_
   clear J K
   refine bG [17,18,19] _ _ (by kernel_rfl) (by kernel_rfl) ?_
   simp only[List.filterMap_cons,List.filterMap_nil,List.getElem?_toArray,List.getElem?_cons_zero,List.getElem?_cons_succ]
   go_wp2_with fail
   generalize Z:World.setCell _ _ _=l
   have ST:=hI (l2.o.stored (j*4+2) (.slice U5 x.vals.length c5)).1
   have H5:=hI (ST.o.stored (j*4+3) (.slice O x.frames.length P)).1
   have H6:w.heap.size+1+1+1<=g:=by have:=b5.o;omega
   have l3:Hid (Below w.heap.size w l):=by
    rw[<-Z]
    exact(l0.o.setCell (by show w.heap.size<=g;omega) _).setCell (by show w.heap.size<=g;omega) _
   have v9:l.heap.size=w6.heap.size:=by rw[<-Z];simp[World.setCell]
   have l4:Hid (eF w6 l):=by
    rw[<-Z]
    exact(eF.set l2.o (by decide) (by decide) (by decide)).trans (eF.set ST.o (by decide) (by decide) (by decide))
   have m0:Hid (eF wr l):=(eF.of R.o).trans l4.o
   have e5:Hid (∀k,k≠g->l.heap[k]? = w6.heap[k]?):=λk hk=>by rw[<-Z,heap_setCell_other _ _ _ _ hk,heap_setCell_other _ _ _ _ hk]
   have w0:Hid (l.ownsRow w1.heap.size 166 4 (.slice (some ⟨g,0,none⟩) S.cells.length I) S.cells.length ((rows.set j (bM x (.slice U5 x.vals.length c5) (.slice O x.frames.length P))).flatMap id)):=by
    have h1:=H5.o
    have M0:j<rows.length:=by rw[d6.o.1];exact n9
    rw[fG _ j 2 _ _ d6.o.2 b2.o (by decide),show(bM x (.slice VA x.vals.length vc) (.slice FA x.frames.length fc)).set 2 (.slice U5 x.vals.length c5)=bM x (.slice U5 x.vals.length c5) (.slice FA x.frames.length fc) from rfl,
     fG _ j 3 _ _ (gR d6.o.2 rfl) (fC b2.o _) (by decide),List.set_set,show(bM x (.slice U5 x.vals.length c5) (.slice FA x.frames.length fc)).set 3 (.slice O x.frames.length P)=bM x (.slice U5 x.vals.length c5) (.slice O x.frames.length P) from rfl] at h1
    rw[<-Z];exact h1
   have x0:Hid (rQ w l #[.slice (some ⟨g,0,none⟩) S.cells.length I,.slice SA S.shapes.length sc,.slice XA S.texts.length xc,.slice TA S.threads.length tc,.slice EA S.ends.length ec,.slice AA S.said.length ac,.int .i64 S.asked,.int .i64 S.steps]):=
    ⟨(e5.o _ (by omega)).trans ((R.o.block _ (by omega)).trans V.o.st),(e5.o _ (by omega)).trans ((R.o.block _ (by omega)).trans V.o.rs),(e5.o _ (by omega)).trans ((R.o.block _ (by omega)).trans V.o.fn)⟩
   have x1:Hid (mQ l wr.heap.size l.heap.size x (.slice U5 x.vals.length c5) (.slice O x.frames.length P)):=by
    refine⟨w5.heap.size,z9,A0,?_,?_,l4.o _ _ _ _ _ _ (.inr (.inl rfl)) (eA (fH O5.o ?_) K6.o),λq hq=>?_,?_⟩
    ·have:=K4.o.size;have:=K5.o.size;omega
    ·have:=K6.o.size;omega
    ·show wr.heap.size<=z.heap.size;omega
    ·exact(O5.o.lt q hq).2
    ·have h1:=(F6.o.now).keep l4.o
     rw[v9];exact h1
   clear Z e2 e3 z2 z3
   go_wp2_with fail
   go_roundw
   case rel=>
    refine⟨j+1,rows.set j (bM x (.slice U5 x.vals.length c5) (.slice O x.frames.length P)),λi=>if i<=j then X i else l.heap.size,by go_num,by omega,?_,w0,?_,?_,?_,x0,l3,?_⟩
    ·exact⟨by rw[List.length_set];exact d6.o.1,gR d6.o.2 rfl⟩
    ·intro i y hi hy
     by_cases A3:i=j
     ·subst A3
      rw[HX.o] at hy;injection hy with hy;subst hy
      refine⟨_,_,fC b2.o _,?_⟩
      show mQ l (if i<=i then X i else l.heap.size) (if i+1<=i then X (i+1) else l.heap.size) _ _ _
      rw[if_pos (Nat.le_refl _),if_neg (by omega)]
      exact x1.o.less (f9.o.2.2 i)
     ·obtain⟨v',f',h1,h2⟩:=HP.o i y (by omega) hy
      refine⟨v',f',by rw[List.getElem?_set_ne (by omega)];exact h1,?_⟩
      show mQ l (if i<=j then X i else l.heap.size) (if i+1<=j then X (i+1) else l.heap.size) _ _ _
      rw[if_pos (by omega),if_pos (by omega)]
      exact h2.keep m0.o
    ·intro i hi
     rw[List.getElem?_set_ne (by omega)]
     exact e7.o i (by omega)
    ·have n3:wr.heap.size<=l.heap.size:=by have:=R.o.size;omega
     refine⟨by show(if 0<=j then X 0 else _)=_;rw[if_pos (by omega)];exact f9.o.1,λi=>?_,λi=>?_⟩
     ·show(if i<=j then X i else l.heap.size)<=(if i+1<=j then X (i+1) else l.heap.size)
      by_cases h1:i+1<=j
      ·rw[if_pos (by omega),if_pos h1];exact f9.o.2.1 i
      ·rw[if_neg h1]
       split
       ·exact Nat.le_trans (f9.o.2.2 i) n3
       ·exact Nat.le_refl _
     ·show(if i<=j then X i else l.heap.size)<=_
      split
      ·exact Nat.le_trans (f9.o.2.2 i) n3
      ·exact Nat.le_refl _
    ·show _<=_
     have:=h8.o;have:=R.o.size;omega
   case measure=>simp[RowKit.intOf];omega
  ·have p2:¬(j:Int)<S.cells.length:=by omega
   rename World=>wq
   obtain rfl:j=S.cells.length:=by omega
   have p4:Hid (∀(i:Nat) x,S.cells[i]? = some x->∃v f,rows[i]? = some (bM x v f)/\mQ wq (X i) (X (i+1)) x v f):=λi x G=>HP.o i x ((lE G).1) G
   clear HP e7
   have s0:=cell_of_row wq _ 3 _ _ _ V.o.st
   go_wp2_with fail
   refine(CT.o wq KW.o).mono ?_
   rintro e wa ⟨C4,rfl,p0,ka⟩
   have OA:=hI p0
   have KA:=hI ka
   obtain⟨TG,tg,rfl⟩:=cJ p0
   have f8:Hid (rQ w wa #[.slice N S.cells.length I,.slice SA S.shapes.length sc,.slice XA S.texts.length xc,.slice TA S.threads.length tc,.slice EA S.ends.length ec,.slice AA S.said.length ac,.int .i64 S.asked,.int .i64 S.steps]):=⟨(ka.block _ (by have:=h8.o;have:=i6.o;have:=b5.o;omega)).trans V.o.st,(ka.block _ (by have:=h8.o;have:=i6.o;have:=b5.o;omega)).trans V.o.rs,(ka.block _ (by have:=h8.o;have:=i6.o;have:=b5.o;omega)).trans V.o.fn⟩
   have B4:=hI (KW.o.trans (ka.mono f3))
   have B5:=hI (eA OC.o ka)
   clear p0 ka s0
   have s0:=cell_of_row wa _ 3 _ _ _ f8.o.st
   have z0:=frozen_of_row wa _ 3 _ _ f8.o.st
   go_upto_region 10 with fail
   generalize h0:World.setCell _ _ _=wb
   have H9:Hid (wb.heap[w.heap.size]? = some (.cells #[.slice N S.cells.length I,.slice SA S.shapes.length sc,.slice XA S.texts.length xc,.slice TG S.threads.length tg,.slice EA S.ends.length ec,.slice AA S.said.length ac,.int .i64 S.asked,.int .i64 S.steps] 40 (0,0))):=by rw[<-h0,heap_setCell_same _ _ _ _ _ _ f8.o.st];rfl
   have B6:Hid (rQ w wb #[.slice N S.cells.length I,.slice SA S.shapes.length sc,.slice XA S.texts.length xc,.slice TG S.threads.length tg,.slice EA S.ends.length ec,.slice AA S.said.length ac,.int .i64 S.asked,.int .i64 S.steps]):=⟨H9.o,by rw[<-h0,heap_setCell_other _ _ _ _ (by simp)];exact f8.o.rs,by rw[<-h0,heap_setCell_other _ _ _ _ (by simp <;> omega)];exact f8.o.fn⟩
   have Ob:Hid (wb.ownsRow wq.heap.size 140 5 (.slice TG S.threads.length tg) S.threads.length (M.flatMap id)):=by rw[<-h0];exact cY OA.o f8.o.st (by decide) _ _
   have I1:Hid (wb.ownsRow w1.heap.size 166 4 (.slice N S.cells.length I) S.cells.length (rows.flatMap id)):=by rw[<-h0];exact cY B5.o f8.o.st (by decide) _ _
   have I2:Hid (Below w.heap.size w wb):=by rw[<-h0];exact B4.o.setCell (Nat.le_refl _) _
   have I3:Hid (eF wq wb):=by rw[<-h0];exact(eF.of KA.o).trans (eF.set_far f8.o.st (by decide) (by decide) (by decide))
   have M1:wb.heap.size=wa.heap.size:=by rw[<-h0];simp[World.setCell]
   have x2:Hid (wq.heap.size<=wb.heap.size):=by show _<=_;have:=KA.o.size;omega
   have x3:Hid (w.heap.size+1+1<wq.heap.size):=by show _<_;have:=h8.o;have:=i6.o;have:=b5.o;omega
   have B7:Hid (∀g,(.slice TG S.threads.length tg:Value).ownBlock=some g->wq.heap.size<=g/\g<wb.heap.size):=λg hg=>Ob.o.lt g hg
   have I4:Hid (∀(i:Nat) x,S.cells[i]? = some x->∃v f,rows[i]? = some (bM x v f)/\mQ wb (X i) (X (i+1)) x v f):=λi x G=>by
    obtain⟨v,f,h1,h2⟩:=p4.o i x G
    exact⟨v,f,h1,h2.keep I3.o⟩
   clear h0 s0 z0 p4 OA B5
   (try dsimp only [Act.put])
   have s0:=cell_of_row wb _ 3 _ _ _ B6.o.st
   have M2:=SM.o.threads
   go_wp2_with fail
   clear s0
   clear OC V KW f3 hj n9 p2 f8 B4
   go_loopw [48] (λk wr=>∃(j:Nat) (D:List (List Value)) (lo:Nat->Nat),k=.int .i64 j/\j<=S.threads.length/\Hid (D.length=S.threads.length/\∀x∈D,x.length=5)/\Hid (wr.ownsRow wq.heap.size 140 5 (.slice TG S.threads.length tg) S.threads.length (D.flatMap id))/\
    Hid (∀(i:Nat) x,i<j->S.threads[i]? = some x->∃f,D[i]? = some (jC x f)/\iQ wr (lo i) (lo (i+1)) x f)/\Hid (∀i,j<=i->D[i]? = M[i]?)/\Hid (lo 0=wb.heap.size/\(∀i,lo i<=lo (i+1))/\∀i,lo i<=wr.heap.size)/\
    Hid (wr.ownsRow w1.heap.size 166 4 (.slice N S.cells.length I) S.cells.length (rows.flatMap id))/\Hid (rQ w wr #[.slice N S.cells.length I,.slice SA S.shapes.length sc,.slice XA S.texts.length xc,.slice TG S.threads.length tg,.slice EA S.ends.length ec,.slice AA S.said.length ac,.int .i64 S.asked,.int .i64 S.steps])/\Hid (Below w.heap.size w wr)/\Hid (wb.heap.size<=wr.heap.size)/\Hid (eF wb wr)) (λk _=>S.threads.length - (RowKit.intOf k).toNat)
   case atStart=>exact⟨0,M,λ_=>wb.heap.size,rfl,by omega,⟨G1.o,F7.o⟩,Ob.o,λi x h=>by omega,λi _=>rfl,⟨rfl,λ_=>Nat.le_refl _,λ_=>Nat.le_refl _⟩,I1.o,B6.o,I2.o,Nat.le_refl _,λ_ _ _ _ _ _ _ h=>h⟩
   case round=>
    obtain⟨j,D,lo,rfl,hj,j2,OT,HP,e7,d7,OC,V,KW,q3,C2⟩:=hrel
    have f3:=KW.o.size
    by_cases n9:j<S.threads.length
    ·have p2:(j:Int)<S.threads.length:=by omega
     obtain⟨g,J7,J5,J6⟩:∃g,TG=some ⟨g,0,none⟩/\wq.heap.size<=g/\g<wb.heap.size:=by
      rcases OT.o.2 with ⟨e,h⟩ | ⟨g,L2,L3,e,k1,k2,-⟩
      ·omega
      ·injection e with e1 e2 e3;exact⟨g,e1,k1,(B7.o g (by rw[e1];rfl)).2⟩
     subst J7
     obtain⟨x,G⟩:∃x,S.threads[j]? = some x:=⟨_,lG n9⟩
     obtain⟨f0,g6,j1⟩:=F4.o j x G
     have e4:D[j]? = some (jC x f0):=(e7.o j (Nat.le_refl _)).trans g6
     have Q2:j*5+5<=S.threads.length*5:=by have:(j+1)*5<=S.threads.length*5:=Nat.mul_le_mul_right _ (by omega);omega
     have F:∀k,k<5->wr.cell? ⟨g,j*5+k,none⟩=(jC x f0)[k]?:=λk hk=>by
      rw[OT.o.cellAt (j*5+k) (by omega)]
      exact dB _ j k _ j2.o.2 e4 hk
     have g0:wr.cell? ⟨g,j*5,none⟩=some f0:=F 0 (by decide)
     have g1:wr.cell? ⟨g,j*5+1,none⟩=some (.int .i64 x.state):=F 1 (by decide)
     have g2:wr.cell? ⟨g,j*5+2,none⟩=some (.int .i64 x.on_):=F 2 (by decide)
     have g3:wr.cell? ⟨g,j*5+3,none⟩=some (.int .i64 x.val.kind):=F 3 (by decide)
     have g4:wr.cell? ⟨g,j*5+4,none⟩=some (.int .i64 x.val.n):=F 4 (by decide)
     obtain⟨FA,fc,rfl,-⟩:=id j1
     have HX:=hI G
     have b2:=hI e4
     have u3:=hI j1
     have H3:g<wr.heap.size:=by have:=q3.o;omega
     obtain⟨z,d3⟩:∃z,z=wr.alloc (.cells #[.slice FA x.frames.length fc,.int .i64 x.state,.int .i64 x.on_,.int .i64 x.val.kind,.int .i64 x.val.n] 140):=⟨_,rfl⟩
     have K4:Hid (Below wr.heap.size wr z):=by rw[d3];exact aA _ _
     have p3:Hid (aJ z wr.heap.size [.slice FA x.frames.length fc,.int .i64 x.state,.int .i64 x.on_,.int .i64 x.val.kind,.int .i64 x.val.n]):=by rw[d3];exact akV _ _ _
     have u4:wr.heap.size<z.heap.size:=by rw[d3];simp
     have f7:=hI (KW.o.trans (K4.o.mono f3))
     have v1:=hI d3
     clear G g6 e4 F j1 d3
     go_upto_region 13 with fail
     rw[<-v1.o]
     clear g0 g1 g2 g3 g4
     have B3:w.heap.size+1+1<wr.heap.size:=by have:=x3.o;have:=x2.o;have:=q3.o;omega
     have a0:∀E:Up z,E.to.cell? ⟨w.heap.size,3,none⟩=some (.slice (some ⟨g,0,none⟩) S.threads.length tg):=λE=>E.cell (aC K4.o (cell_of_row wr _ 3 _ _ _ V.o.st))
     have a1:=ecZ (p3.o 0 _ rfl)
     have D8:=zK
     refine gL (λw'=>∃E:Up z,w'=E.to) [0,1,2,3,4,5] [6,7,8,9] [6] (by kernel_rfl) (by kernel_rfl) (λ_ _ d _ _ h=>by cases d <;> exact h) ⟨⟨_,(Below.refl _ z).drew⟩,rfl⟩ ?_
     simp only[List.filterMap_cons,List.filterMap_nil,List.getElem?_toArray,List.getElem?_cons_zero,List.getElem?_cons_succ]
     generalize i0:(λa'=>gT _ _ _ _ _ _ a' _)=qq
     have h6:=hI i0
     clear i0
     show wpQuiet _ _ _ _ [_,_,_,_,_,_] _
     repeat (go_big_quiet_step (fail))
     refine wpQuiet_nil ?_
     rw[<-h6.o]
     clear h6 qq a0 a1
     refine aR rfl (λK J=>?_)
     go_simp
     have x4:z.drew.cell? ⟨w.heap.size+1+1,0,none⟩=some (.func (.func 120) #[] #[]):=(aC K4.o (cell_of_row wr _ 0 _ _ _ V.o.fn))
     refine(uJ (.slice FA x.frames.length fc) x.frames (w.heap.size+1+1) z.drew (u3.o.keep f7.o.drew.size (λ_ H=>f7.o.drew.cell H) (λ_ _ h=>h.keep f7.o.drew.size (λ_ H=>f7.o.drew.cell H))) (by have:=(SM.o.tframes x (lM HX.o)).1;omega) (SM.o.tframes x (lM HX.o)).2 x4).mono ?_
     rintro e w6 ⟨u6,z9,A0,rfl,j4,k6⟩
     have F6:=hI j4
     have K6:Hid (Below z.heap.size z w6):=(Below.refl _ z).drew.trans k6
     have l0:=btZ f7 K6.o
     have R:=btZ K4 K6.o
     obtain⟨O,P,rfl⟩:=cJ j4.row
     clear j4 k6 x4
     refine J _ _ (λ_=>⟨⟨w6,K6.o⟩,rfl⟩) ?_
     clear J K
     have n4:=hI (eA OT.o R.o)
     have e0:w6.cell? ⟨g,j*5,none⟩=some (.slice FA x.frames.length fc):=by
      rw[n4.o.cellAt (j*5) (by omega)]
      exact dB _ j 0 _ j2.o.2 b2.o (by decide)
     have z0:=n4.o.frozenAt (j*5)
     refine bG [7,8,9] _ _ (by kernel_rfl) (by kernel_rfl) ?_
     simp only[List.filterMap_cons,List.filterMap_nil,List.getElem?_toArray,List.getElem?_cons_zero,List.getElem?_cons_succ]
     go_wp2_with fail
     generalize Z:World.setCell _ _ _=l
     have ST:=hI (n4.o.stored (j*5) (.slice O x.frames.length P)).1
     have H6:w.heap.size+1+1+1<=g:=by have:=x3.o;omega
     have l3:Hid (Below w.heap.size w l):=by
      rw[<-Z]
      exact l0.o.setCell (by show w.heap.size<=g;omega) _
     have v9:l.heap.size=w6.heap.size:=by rw[<-Z];simp[World.setCell]
     have l4:Hid (eF w6 l):=by
      rw[<-Z]
      exact eF.set n4.o (by decide) (by decide) (by decide)
     have m0:Hid (eF wr l):=(eF.of R.o).trans l4.o
     have e5:Hid (∀k,k≠g->l.heap[k]? = w6.heap[k]?):=λk hk=>by rw[<-Z,heap_setCell_other _ _ _ _ hk]
     have w0:Hid (l.ownsRow w1.heap.size 166 4 (.slice N S.cells.length I) S.cells.length (rows.flatMap id)):=by rw[<-Z];exact kQ (eA OC.o R.o) n4.o (by decide)
     have I5:Hid (l.ownsRow wq.heap.size 140 5 (.slice (some ⟨g,0,none⟩) S.threads.length tg) S.threads.length ((D.set j (jC x (.slice O x.frames.length P))).flatMap id)):=by
      have h1:=ST.o
      rw[show j*5=j*5+0 from rfl,fG _ j 0 _ _ j2.o.2 b2.o (by decide),show(jC x (.slice FA x.frames.length fc)).set 0 (.slice O x.frames.length P)=jC x (.slice O x.frames.length P) from rfl] at h1
      rw[<-Z];exact h1
     have x0:Hid (rQ w l #[.slice N S.cells.length I,.slice SA S.shapes.length sc,.slice XA S.texts.length xc,.slice (some ⟨g,0,none⟩) S.threads.length tg,.slice EA S.ends.length ec,.slice AA S.said.length ac,.int .i64 S.asked,.int .i64 S.steps]):=
      ⟨(e5.o _ (by omega)).trans ((R.o.block _ (by omega)).trans V.o.st),(e5.o _ (by omega)).trans ((R.o.block _ (by omega)).trans V.o.rs),(e5.o _ (by omega)).trans ((R.o.block _ (by omega)).trans V.o.fn)⟩
     have x1:Hid (iQ l wr.heap.size l.heap.size x (.slice O x.frames.length P)):=by
      have h1:gC l z.drew.heap.size w6.heap.size _ _ _ _:=(F6.o.now).keep l4.o
      have h2:iQ l z.drew.heap.size l.heap.size x (.slice O x.frames.length P):=⟨z9,A0,by rw[v9];exact h1⟩
      exact h2.less (by show wr.heap.size<=z.heap.size;omega)
     clear Z e0 z0
     go_wp2_with fail
     go_roundw
     case rel=>
      refine⟨j+1,D.set j (jC x (.slice O x.frames.length P)),λi=>if i<=j then lo i else l.heap.size,by go_num,by omega,?_,I5,?_,?_,?_,w0,x0,l3,?_,C2.o.trans m0.o⟩
      ·exact⟨by rw[List.length_set];exact j2.o.1,gR j2.o.2 rfl⟩
      ·intro i y hi hy
       by_cases A3:i=j
       ·subst A3
        rw[HX.o] at hy;injection hy with hy;subst hy
        refine⟨_,fC b2.o _,?_⟩
        show iQ l (if i<=i then lo i else l.heap.size) (if i+1<=i then lo (i+1) else l.heap.size) _ _
        rw[if_pos (Nat.le_refl _),if_neg (by omega)]
        exact x1.o.less (d7.o.2.2 i)
       ·obtain⟨f',h1,h2⟩:=HP.o i y (by omega) hy
        refine⟨f',by rw[List.getElem?_set_ne (by omega)];exact h1,?_⟩
        show iQ l (if i<=j then lo i else l.heap.size) (if i+1<=j then lo (i+1) else l.heap.size) _ _
        rw[if_pos (by omega),if_pos (by omega)]
        exact h2.keep m0.o
      ·intro i hi
       rw[List.getElem?_set_ne (by omega)]
       exact e7.o i (by omega)
      ·have n3:wr.heap.size<=l.heap.size:=by have:=R.o.size;omega
       refine⟨by show(if 0<=j then lo 0 else _)=_;rw[if_pos (by omega)];exact d7.o.1,λi=>?_,λi=>?_⟩
       ·show(if i<=j then lo i else l.heap.size)<=(if i+1<=j then lo (i+1) else l.heap.size)
        by_cases h1:i+1<=j
        ·rw[if_pos (by omega),if_pos h1];exact d7.o.2.1 i
        ·rw[if_neg h1]
         split
         ·exact Nat.le_trans (d7.o.2.2 i) n3
         ·exact Nat.le_refl _
       ·show(if i<=j then lo i else l.heap.size)<=_
        split
        ·exact Nat.le_trans (d7.o.2.2 i) n3
        ·exact Nat.le_refl _
      ·show _<=_
       have:=q3.o;have:=R.o.size;omega
     case measure=>simp[RowKit.intOf];omega
    ·have p2:¬(j:Int)<S.threads.length:=by omega
     rename World=>wx
     obtain rfl:j=S.threads.length:=by omega
     have p4:Hid (∀(i:Nat) x,S.threads[i]? = some x->∃f,D[i]? = some (jC x f)/\iQ wx (lo i) (lo (i+1)) x f):=λi x G=>HP.o i x ((lE G).1) G
     clear HP e7
     have B3:w.heap.size+1+1<wx.heap.size:=by have:=x3.o;have:=x2.o;have:=q3.o;omega
     go_upto_region 15 with fail
     have a0:∀E:Up wx,E.to.cell? ⟨w.heap.size,1,none⟩=some (.slice SA S.shapes.length sc):=λE=>E.cell (cell_of_row wx _ 1 _ _ _ V.o.st)
     have a1:∀E:Up wx,E.to.cell? ⟨w.heap.size,2,none⟩=some (.slice XA S.texts.length xc):=λE=>E.cell (cell_of_row wx _ 2 _ _ _ V.o.st)
     have a2:∀E:Up wx,E.to.cell? ⟨w.heap.size,4,none⟩=some (.slice EA S.ends.length ec):=λE=>E.cell (cell_of_row wx _ 4 _ _ _ V.o.st)
     have a3:∀E:Up wx,E.to.cell? ⟨w.heap.size,5,none⟩=some (.slice AA S.said.length ac):=λE=>E.cell (cell_of_row wx _ 5 _ _ _ V.o.st)
     have a4:∀E:Up wx,E.to.cell? ⟨w.heap.size+1+1,0,none⟩=some (.func (.func 120) #[] #[]):=λE=>E.cell (cell_of_row wx _ 0 _ _ _ V.o.fn)
     have n1:=tS
     refine fS (λw'=>∃E:Up wx,w'=E.to) [0,1,3,4,6,7,9,10,11] [2,5,8,12,13] 12 #[true,true,false,true,true,false,true,true,false,true,true,true,false,false,false,false,false,false,false,false,false] _ (by kernel_rfl) (by kernel_rfl) (by simp only[List.filterMap_cons,List.filterMap_nil,List.getElem?_toArray,List.getElem?_cons_zero,List.getElem?_cons_succ];rfl) (λ_ _ d _ _ h=>by cases d <;> exact h) ⟨⟨_,(Below.refl _ wx).drew⟩,rfl⟩ ?_
     generalize i0:(λa'=>dH _ _ _ _ _ _ _ _ a' _)=qq
     have h6:=hI i0
     clear i0
     show wpQuiet _ _ _ _ [_,_,_,_,_,_,_,_,_] _
     repeat (go_big_quiet_step (fail))
     refine wpQuiet_nil ?_
     rw[<-h6.o]
     clear h6 qq a0 a1 a2 a3 a4
     refine j9 (i:=2) (by kernel_rfl) rfl (λK J=>?_)
     go_simp
     refine(adW (.slice SA S.shapes.length sc) S.shapes wx.drew (G2.o.keep KW.o.drew.size (λ_ H=>KW.o.drew.cell H) (λ_ _ h=>h)) (by have:=SM.o.shapes;omega)).mono ?_
     rintro e w5 ⟨u5,rfl,q5,k5⟩
     have Q5:=hI q5
     have K5:Hid (Below wx.heap.size wx w5):=(Below.refl _ wx).drew.trans k5
     have h7:=hI (KW.o.trans (K5.o.mono f3))
     obtain⟨U5,c5,rfl,-⟩:=id q5
     clear q5 k5
     refine J _ _ (λ_=>⟨⟨w5,K5.o⟩,rfl⟩) ?_
     clear J K
     refine iB [13] 10 #[true,true,true,true,true,false,true,true,false,true,true,true,false,true,false,false,false,false,false,false,false] _ (by kernel_rfl) rfl (by simp only[List.filterMap_cons,List.filterMap_nil,List.getElem?_toArray,List.getElem?_cons_zero,List.getElem?_cons_succ];rfl) (λ_ _ d _ _ h=>by cases d <;> exact h) ⟨⟨w5,K5.o⟩,rfl⟩ ?_
     show wpQuiet _ _ _ _ [_] _
     go_big_quiet_step (fail)
     refine wpQuiet_nil ?_
     refine cT [5,8,12,14,15,16,17,18,19,20] _ _ _ (by kernel_rfl) ?_
     refine aR rfl (λK J=>?_)
     go_simp
     refine(adV (.slice XA S.texts.length xc) S.texts w5 (G3.o.keep h7.o.size (λ_ H=>h7.o.cell H) (λ_ _ h=>h)) (by have:=SM.o.texts;omega)).mono ?_
     rintro e w6 ⟨u6,rfl,q6,k6⟩
     have Q6:=hI q6
     have B8:=hI k6
     have K6:=btZ K5 k6
     have l0:=hI (KW.o.trans (K6.o.mono f3))
     obtain⟨O,P,rfl,-⟩:=id q6
     clear q6 k6
     refine J _ _ (λ_=>⟨⟨w6,K6.o⟩,rfl⟩) ?_
     clear J K
     refine aR rfl (λK J=>?_)
     go_simp
     refine(adX (.slice EA S.ends.length ec) S.ends w6 (G4.o.keep l0.o.size (λ_ H=>l0.o.cell H) (λ_ _ h=>h)) (by have:=SM.o.ends;omega)).mono ?_
     rintro e l ⟨u7,rfl,q7,k7⟩
     have Q7:=hI q7
     have x5:=hI k7
     have K7:=btZ K6 k7
     have l3:=hI (KW.o.trans (K7.o.mono f3))
     obtain⟨U7,c7,rfl,-⟩:=id q7
     clear q7 k7
     refine J _ _ (λ_=>⟨⟨l,K7.o⟩,rfl⟩) ?_
     clear J K
     refine aR rfl (λK J=>?_)
     go_simp
     refine(af3 (.slice AA S.said.length ac) S.said l (G5.o.keep l3.o.size (λ_ H=>l3.o.cell H) (λ_ _ h=>h)) (by have:=SM.o.said;omega)).mono ?_
     rintro e w8 ⟨u8,rfl,q8,k8⟩
     have Q8:=hI q8
     have p5:=hI k8
     have K8:=btZ K7 k8
     have I6:=hI (KW.o.trans (K8.o.mono f3))
     obtain⟨U8,c8,rfl,-⟩:=id q8
     clear q8 k8
     refine J _ _ (λ_=>⟨⟨w8,K8.o⟩,rfl⟩) ?_
     clear J K
     have d0:Hid (w8.heap[w.heap.size]? = some (.cells #[.slice N S.cells.length I,.slice SA S.shapes.length sc,.slice XA S.texts.length xc,.slice TG S.threads.length tg,.slice EA S.ends.length ec,.slice AA S.said.length ac,.int .i64 S.asked,.int .i64 S.steps] 40 (0,0))):=(K8.o.block _ (by omega)).trans V.o.st
     have I7:=hI ((K8.o.block _ (by omega)).trans V.o.rs)
     have s1:=crZ d0 1 rfl
     have s2:=crZ d0 2 rfl
     have s4:=crZ d0 4 rfl
     have s5:=crZ d0 5 rfl
     have z1:=fzZ d0 1
     have z2:=fzZ d0 2
     have z4:=fzZ d0 4
     have z5:=fzZ d0 5
     refine bG [14,15,16,17,18,19,20] _ _ (by kernel_rfl) (by kernel_rfl) ?_
     simp only[List.filterMap_cons,List.filterMap_nil,List.getElem?_toArray,List.getElem?_cons_zero,List.getElem?_cons_succ]
     go_upto_region 16 with fail
     obtain⟨wc,d8⟩:∃wc,wc=w8.setCell ⟨w.heap.size,1,none⟩ (.slice U5 S.shapes.length c5):=⟨_,rfl⟩
     obtain⟨wd,g7⟩:∃wd,wd=wc.setCell ⟨w.heap.size,2,none⟩ (.slice O S.texts.length P):=⟨_,rfl⟩
     obtain⟨we,h9⟩:∃we,we=wd.setCell ⟨w.heap.size,4,none⟩ (.slice U7 S.ends.length c7):=⟨_,rfl⟩
     obtain⟨wf,j3⟩:∃wf,wf=we.setCell ⟨w.heap.size,5,none⟩ (.slice U8 S.said.length c8):=⟨_,rfl⟩
     have p8:Hid (wc.heap[w.heap.size]? = some (.cells #[.slice N S.cells.length I,.slice U5 S.shapes.length c5,.slice XA S.texts.length xc,.slice TG S.threads.length tg,.slice EA S.ends.length ec,.slice AA S.said.length ac,.int .i64 S.asked,.int .i64 S.steps] 40 (0,0))):=by rw[d8,heap_setCell_same _ _ _ _ _ _ d0.o];rfl
     have p9:Hid (wd.heap[w.heap.size]? = some (.cells #[.slice N S.cells.length I,.slice U5 S.shapes.length c5,.slice O S.texts.length P,.slice TG S.threads.length tg,.slice EA S.ends.length ec,.slice AA S.said.length ac,.int .i64 S.asked,.int .i64 S.steps] 40 (0,0))):=by rw[g7,heap_setCell_same _ _ _ _ _ _ p8.o];rfl
     have q2:Hid (we.heap[w.heap.size]? = some (.cells #[.slice N S.cells.length I,.slice U5 S.shapes.length c5,.slice O S.texts.length P,.slice TG S.threads.length tg,.slice U7 S.ends.length c7,.slice AA S.said.length ac,.int .i64 S.asked,.int .i64 S.steps] 40 (0,0))):=by rw[h9,heap_setCell_same _ _ _ _ _ _ p9.o];rfl
     have I9:Hid (wf.heap[w.heap.size]? = some (.cells #[.slice N S.cells.length I,.slice U5 S.shapes.length c5,.slice O S.texts.length P,.slice TG S.threads.length tg,.slice U7 S.ends.length c7,.slice U8 S.said.length c8,.int .i64 S.asked,.int .i64 S.steps] 40 (0,0))):=by rw[j3,heap_setCell_same _ _ _ _ _ _ q2.o];rfl
     have o1:Hid (∀k,k≠w.heap.size->wf.heap[k]? = w8.heap[k]?):=λk hk=>by rw[j3,heap_setCell_other _ _ _ _ hk,h9,heap_setCell_other _ _ _ _ hk,g7,heap_setCell_other _ _ _ _ hk,d8,heap_setCell_other _ _ _ _ hk]
     have x6:=hI ((o1.o (w.heap.size+1) (by omega)).trans I7.o)
     have J0:Hid (Below w.heap.size w wf):=by rw[j3,h9,g7,d8];exact(((I6.o.setCell (Nat.le_refl _) _).setCell (Nat.le_refl _) _).setCell (Nat.le_refl _) _).setCell (Nat.le_refl _) _
     have J1:Hid (eF wx wf):=by
      rw[j3,h9,g7,d8]
      rw[h9,g7,d8] at q2;rw[g7,d8] at p9;rw[d8] at p8
      exact((((eF.of K8.o).trans (eF.set_far d0.o (by decide) (by decide) (by decide))).trans (eF.set_far p8.o (by decide) (by decide) (by decide))).trans (eF.set_far p9.o (by decide) (by decide) (by decide))).trans (eF.set_far q2.o (by decide) (by decide) (by decide))
     have N5:wf.heap.size=w8.heap.size:=by rw[j3,h9,g7,d8];simp[World.setCell]
     rw[<-d8,<-g7,<-h9,<-j3]
     clear d8 g7 h9 j3 s1 s2 s4 s5 z1 z2 z4 z5 p8 p9 q2 d0
     have RG:=rrZ I9
     have LX:Hid ((prog.info? 40).map (·.size)=some ([.slice N S.cells.length I,.slice U5 S.shapes.length c5,.slice O S.texts.length P,.slice TG S.threads.length tg,.slice U7 S.ends.length c7,.slice U8 S.said.length c8,.int .i64 S.asked,.int .i64 S.steps]:List Value).length):=fX
     go_wp2_with (first
      | (refine wpList_load_mid rfl 40 _ rfl w.heap.size 0 rfl [.slice N S.cells.length I,.slice U5 S.shapes.length c5,.slice O S.texts.length P,.slice TG S.threads.length tg,.slice U7 S.ends.length c7,.slice U8 S.said.length c8,.int .i64 S.asked,.int .i64 S.steps] _ RG.o underlying40 rfl LX.o ?_)
      | (refine wpList_store_row rfl 40 _ _ rfl (w.heap.size+1) #[.slice N S.cells.length I,.slice U5 S.shapes.length c5,.slice O S.texts.length P,.slice TG S.threads.length tg,.slice U7 S.ends.length c7,.slice U8 S.said.length c8,.int .i64 S.asked,.int .i64 S.steps] rfl rfl 40 _ x6.o fX rfl (oCz (by simp[Value.oneCell'])) ?_)
      | fail)
     generalize k3:World.setRow _ _ _=w9
     have QR:=shZ k3 x6
     have K9:Hid (Below w.heap.size w w9):=by rw[<-k3];exact Below.set_row J0.o (by omega) _
     have B9:Hid (eF wx w9):=by rw[<-k3];exact J1.o.trans (eF.set_row x6.o (by decide) (by decide) (by decide))
     have N9:w9.heap.size=wf.heap.size:=by rw[<-k3];simp
     have m1:Hid (∀k,wx.heap.size<=k->w9.heap[k]? = w8.heap[k]?):=λk hk=>by rw[<-k3,setRow_other _ _ _ _ (by omega)];exact o1.o k (by omega)
     have x7:Hid (∀k,w.heap.size+1+1<k->k<wx.heap.size->w9.heap[k]? = wx.heap[k]?):=λk hk K0=>by rw[<-k3,setRow_other _ _ _ _ (by omega)];exact(o1.o k (by omega)).trans (K8.o.block k K0)
     clear k3
     have Q3:=b5.o
     have J2:Hid (xO w9 w.heap.size [.slice N S.cells.length I,.slice U5 S.shapes.length c5,.slice O S.texts.length P,.slice TG S.threads.length tg,.slice U7 S.ends.length c7,.slice U8 S.said.length c8,.int .i64 S.asked,.int .i64 S.steps] S X lo (.slice N S.cells.length I) (.slice TG S.threads.length tg) rows D (.slice U5 S.shapes.length c5) (.slice O S.texts.length P) (.slice U7 S.ends.length c7) (.slice U8 S.said.length c8)):=by
      have z5:=K5.o.size
      have Q4:=B8.o.size
      have Q9:=x5.o.size
      have R0:=p5.o.size
      have lq:=f9.o.2.2 S.cells.length
      have lb:=x2.o
      have lx:=d7.o.2.2 S.threads.length
      have O1:w1.heap.size<=wq.heap.size:=Nat.le_trans i6.o h8.o
      refine⟨rfl,fH (vY OC.o λg hg=>x7.o g (by have:=(OC.o.lt g hg).1;omega) (OC.o.lt g hg).2) (by omega),d6.o.1,d6.o.2,λi x G=>?_,λg hg=>?_,f9.o.2.1,fH (vY OT.o λg hg=>x7.o g (by have:=(OT.o.lt g hg).1;omega) (OT.o.lt g hg).2) lq,
       j2.o.1,j2.o.2,λi x G=>?_,λg hg=>?_,d7.o.2.1,?_,λi=>?_,Q5.o.far (λb hb=>⟨Nat.le_trans lx hb.1,by have:=hb.2;omega⟩) (λb hb=>?_),Q6.o.far (λb hb=>⟨?_,?_⟩) (λb hb=>?_),Q7.o.far (λb hb=>⟨?_,?_⟩) (λb hb=>?_),Q8.o.far (λb hb=>⟨?_,?_⟩) (λb hb=>?_),F8.o,F9.o,F1.o,?_⟩
      ·obtain⟨v,f,h1,h2⟩:=I4.o i x G
       exact⟨v,f,h1,(h2.keep C2.o).keep B9.o⟩
      ·rw[f9.o.1];exact(B2.o g hg).2
      ·obtain⟨f,h1,h2⟩:=p4.o i x G
       exact⟨f,h1,h2.keep B9.o⟩
      ·rw[d7.o.1];exact(B7.o g hg).2
      ·rw[d7.o.1];omega
      ·have:=d7.o.2.2 i;omega
      ·have h1:=hb.1;have h2:=hb.2
       exact(m1.o b h1).trans ((p5.o.block b (by omega)).trans ((x5.o.block b (by omega)).trans (B8.o.block b h2)))
      ·have:=hb.1;omega
      ·have:=hb.2;omega
      ·have h1:=hb.1;have h2:=hb.2
       exact(m1.o b (by omega)).trans ((p5.o.block b (by omega)).trans (x5.o.block b h2))
      ·have:=hb.1;omega
      ·have:=hb.2;omega
      ·have h1:=hb.1;have h2:=hb.2
       exact(m1.o b (by omega)).trans (p5.o.block b h2)
      ·have:=hb.1;omega
      ·have:=hb.2;omega
      ·have h1:=hb.1;have h2:=hb.2
       exact m1.o b (by omega)
      ·rw[f9.o.1];have:=i6.o;omega
     go_wp2_with fail
     have r0:=crZ QR 0 rfl
     have r1:=crZ QR 1 rfl
     have r2:=crZ QR 2 rfl
     have r3:=crZ QR 3 rfl
     have r4:=crZ QR 4 rfl
     have r5:=crZ QR 5 rfl
     have r6:=crZ QR 6 rfl
     have r7:=crZ QR 7 rfl
     refine bodyPost_ret (v:=.agg ⟨[.slice N S.cells.length I,.slice U5 S.shapes.length c5,.slice O S.texts.length P,.slice TG S.threads.length tg,.slice U7 S.ends.length c7,.slice U8 S.said.length c8,.int .i64 S.asked,.int .i64 S.steps]⟩) (by simp[results,results68,go_sem,r0,r1,r2,r3,r4,r5,r6,r7]) rfl ⟨_,rfl,⟨_,_,_,_,_,_,_,_,_,_,J2.o⟩,K9.o⟩
end
end Go.Proofs.YtijihlcdhppfgaaGreatDoor
