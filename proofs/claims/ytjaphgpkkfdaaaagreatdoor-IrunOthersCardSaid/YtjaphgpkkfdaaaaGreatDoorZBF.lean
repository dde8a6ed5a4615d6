/- Part of the walk of the given code: contracts of the functions that irun.Run reaches, and plain laws on what it reckons. -/
import Derived.Test.YtjaphgpkkfdaaaaGreatDoorZS
import Derived.Test.YtjaphgpkkfdaaaaGreatDoorZV
import Derived.Laws.EntriesVeiled
set_option maxHeartbeats 16000000
set_option maxRecDepth 100000
set_option linter.all false
namespace Go.Proofs.YtjaphgpkkfdaaaaGreatDoor
section
open Go.RowKit
structure oB (w W:World) (stc:Array Value):Prop where
 st:W.heap[w.heap.size]? = some (.cells stc 40 (0,0))
 rs:W.heap[w.heap.size+1]? = some (.cells #[.slice none 0 0,.slice none 0 0,.slice none 0 0,.slice none 0 0,.slice none 0 0,.slice none 0 0,.int .i64 0,.int .i64 0] 40 (0,0))
 fn:W.heap[w.heap.size+1+1]? = some (.cells #[.func (.func 59) #[] #[]] 139 (0,0))
theorem rF {w w':World} {B n size:Nat} {e:TypeId} {v:Value} {xs:List Value} (h:w.ownsRow B e size v n xs) (hk:∀g,v.ownBlock=some g→w'.heap[g]? = w.heap[g]?):w'.ownsRow B e size v n xs:=by
 obtain⟨hl,h2⟩:=h
 refine⟨hl,?_⟩
 rcases h2 with ⟨rfl,h0⟩ | ⟨g,cap,cur,rfl,hb,h1,h3⟩
 ·exact .inl ⟨rfl,h0⟩
 ·exact .inr ⟨g,cap,cur,rfl,hb,(hk g rfl).trans h1,h3⟩
theorem dC.set_row {w:World} {g:Nat} {cs' cs:Array Value} {e2:TypeId} (hg:w.heap[g]? = some (.cells cs e2 (0,0))) (h1:61≠e2) (h2:48≠e2) (h3:96≠e2):dC w (w.setRow g cs'):=fun B e s n v xs ht h=>by
 refine rF h fun k hk=>setRow_other _ _ _ _ ?_
 rintro rfl
 rcases h.2 with ⟨e0,h0⟩ | ⟨g',cap,cur,e0,hb,hh,-⟩
 ·subst e0;cases hk
 ·subst e0
  injection hk with hk
  subst hk
  rw[hg] at hh
  injection hh with hh;injection hh with _ hh
  rcases ht with rfl | rfl | rfl
  ·exact h1 hh.symm
  ·exact h2 hh.symm
  ·exact h3 hh.symm
theorem aA.of_row2 {w:World} {g:Nat} {cs:List Value} {t:TypeId} (h:w.heap[g]? = some (.cells ⟨cs⟩ t (0,0))):aA w g cs:=fun i v hv=>by
 rw[cell_of_row w g i _ _ _ h];simpa using hv
theorem eC:(Tryz.prog.info? 40).map (·.size)=some 8:=by kernel_rfl
theorem infoCel4:(Tryz.prog.info? 55).map (·.size)=some 4:=by kernel_rfl
theorem xG (cs:List Value) (S:aR) (w:World) (h:gK w w.heap.size cs S) (hsm:yO S) :
  Calls Tryz.prog 29 #[.agg ⟨cs⟩] w (fun e w'=>∃cs' co lo cv thv rows trows shv txv env sav,e=.returned (.agg ⟨cs'⟩)∧sL w' w.heap.size cs' S co lo cv thv rows trows shv txv env sav∧Below w.heap.size w w'):=by
 obtain⟨c,s,t,th,en,sa,rfl,hc,hsh,htx,hth,hen,hsa,wa,ws⟩:=h
 have SM:=hI hsm
 have HWF:=hI (And.intro wa ws)
 obtain⟨rows0,hr1,hr2,hr3⟩:=hc.raw
 have hpart:∀(i:Nat) x,S.cells[i]? = some x→∃v f,rows0[i]? = some (bD x v f)∧aH w w.heap.size 2 hU v x.vals∧aH w w.heap.size 8 (eR w w.heap.size) f x.frames:=fun i x hx=>by
  obtain⟨r,hr,v,f,rfl,a,b,-⟩:=hr3 i x hx
  exact⟨v,f,hr,a,b⟩
 have hwfc:∀x∈S.cells,wfi x.kind∧wfi x.num∧∀v∈x.vals,wfi v.kind∧wfi v.n:=fun x hx=>by
  obtain⟨r,v,f,-,a,b,c1,c2⟩:=hc.mem hx
  exact⟨c1,c2,fun y hy=>by obtain⟨_,hR⟩:=a.mem hy;exact hR.2⟩
 have h4:∀x∈rows0,x.length=4:=fun x hx=>by obtain⟨_,_,h⟩:=hr2.mem hx;exact h
 have hone:∀r∈rows0,∀u∈r,u.oneCell'=true:=fun r hr u hu=>by
  obtain⟨i,hi⟩:=List.getElem?_of_mem hr
  have hil:i<S.cells.length:=by have:=(lE hi).1;omega
  obtain⟨v,f,e1,⟨A,c,e2,-⟩,⟨A',c',e3,-⟩⟩:=hpart i _ (lG hil)
  rw[hi] at e1;injection e1 with e1;subst e1
  unfold bD at hu
  rw[e2,e3] at hu
  simp only[List.mem_cons,List.not_mem_nil,or_false] at hu
  rcases hu with rfl | rfl | rfl | rfl <;> rfl
 have CL:Hid (∀W,Below w.heap.size w W→Calls Tryz.prog 64 #[c] W fun e w'=>∃u,e=.returned u∧w'.ownsRow W.heap.size 55 4 u S.cells.length (rows0.flatMap id)∧Below W.heap.size W w'):=fun W k=>by
  have:=abM c rows0 W (hr2.keep k.size (fun _ hp=>k.cell hp) (fun _ _ h=>h)) hone (by have:=hsm.cells;omega)
  rw[hr1] at this
  exact this
 obtain⟨trows0,tr1,tr2,tr3⟩:=hth.raw
 have tpart:∀(i:Nat) x,S.threads[i]? = some x→∃f,trows0[i]? = some (gH x f)∧aH w w.heap.size 8 (eR w w.heap.size) f x.frames:=fun i x hx=>by
  obtain⟨r,hr,f,rfl,b,-⟩:=tr3 i x hx
  exact⟨f,hr,b⟩
 have hwft:∀x∈S.threads,wfi x.state∧wfi x.on_∧wfi x.val.kind∧wfi x.val.n:=fun x hx=>by
  obtain⟨r,f,-,-,a,b,c,d⟩:=hth.mem hx
  exact⟨a,b,c,d⟩
 have t5:∀x∈trows0,x.length=5:=fun x hx=>by obtain⟨_,_,h⟩:=tr2.mem hx;exact h
 have tone:∀r∈trows0,∀u∈r,u.oneCell'=true:=fun r hr u hu=>by
  obtain⟨i,hi⟩:=List.getElem?_of_mem hr
  have hil:i<S.threads.length:=by have:=(lE hi).1;omega
  obtain⟨f,e1,⟨A',c',e3,-⟩⟩:=tpart i _ (lG hil)
  rw[hi] at e1;injection e1 with e1;subst e1
  unfold gH at hu
  rw[e3] at hu
  simp only[List.mem_cons,List.not_mem_nil,or_false] at hu
  rcases hu with rfl | rfl | rfl | rfl | rfl <;> rfl
 have CT:Hid (∀W,Below w.heap.size w W→Calls Tryz.prog 65 #[th] W fun e w'=>∃u,e=.returned u∧w'.ownsRow W.heap.size 57 5 u S.threads.length (trows0.flatMap id)∧Below W.heap.size W w'):=fun W k=>by
  have:=abI th trows0 W (tr2.keep k.size (fun _ hp=>k.cell hp) (fun _ _ h=>h)) tone (by have:=hsm.threads;omega)
  rw[tr1] at this
  exact this
 have HPC:=hI hpart
 have HPT:=hI tpart
 have HC4:=hI h4
 have HT5:=hI t5
 have HWC:=hI hwfc
 have HWT:=hI hwft
 have HCL:=hI hr1
 have HTL:=hI tr1
 have HSH:=hI hsh
 have HTX:=hI htx
 have HEN:=hI hen
 have HSA:=hI hsa
 obtain⟨CA,cc,rfl,-⟩:=id hc
 obtain⟨SA,sc,rfl,-⟩:=id hsh
 obtain⟨XA,xc,rfl,-⟩:=id htx
 obtain⟨TA,tc,rfl,-⟩:=id hth
 obtain⟨EA,ec,rfl,-⟩:=id hen
 obtain⟨AA,ac,rfl,-⟩:=id hsa
 clear hc hsh htx hth hen hsa hr1 hr2 hr3 hpart hwfc h4 hone tr1 tr2 tr3 tpart hwft t5 tone
 obtain⟨w1,hw1⟩:∃w1,w1=((w.alloc (.cells #[.slice CA S.cells.length cc,.slice SA S.shapes.length sc,.slice XA S.texts.length xc,.slice TA S.threads.length tc,.slice EA S.ends.length ec,.slice AA S.said.length ac,.int .i64 S.asked,.int .i64 S.steps] 40)).alloc (.cells #[.slice none 0 0,.slice none 0 0,.slice none 0 0,.slice none 0 0,.slice none 0 0,.slice none 0 0,.int .i64 0,.int .i64 0] 40)).alloc (.cells #[.func (.func 59) #[] #[]] 139):=⟨_,rfl⟩
 have K1:Hid (Below w.heap.size w w1):=by rw[hw1];exact((bE w _ _).alloc (by simp;omega) _)
 have HST1:Hid (w1.heap[w.heap.size]? = some (.cells #[.slice CA S.cells.length cc,.slice SA S.shapes.length sc,.slice XA S.texts.length xc,.slice TA S.threads.length tc,.slice EA S.ends.length ec,.slice AA S.said.length ac,.int .i64 S.asked,.int .i64 S.steps] 40 (0,0))):=by rw[hw1];exact aY (aY (aJ _ _) _) _
 have HRS1:Hid (w1.heap[w.heap.size+1]? = some (.cells #[.slice none 0 0,.slice none 0 0,.slice none 0 0,.slice none 0 0,.slice none 0 0,.slice none 0 0,.int .i64 0,.int .i64 0] 40 (0,0))):=by rw[hw1];exact aY (cQ _ _ _) _
 have HFN1:Hid (w1.heap[w.heap.size+1+1]? = some (.cells #[.func (.func 59) #[] #[]] 139 (0,0))):=by rw[hw1];have:=aJ ((w.alloc (.cells #[.slice CA S.cells.length cc,.slice SA S.shapes.length sc,.slice XA S.texts.length xc,.slice TA S.threads.length tc,.slice EA S.ends.length ec,.slice AA S.said.length ac,.int .i64 S.asked,.int .i64 S.steps] 40)).alloc (.cells #[.slice none 0 0,.slice none 0 0,.slice none 0 0,.slice none 0 0,.slice none 0 0,.slice none 0 0,.int .i64 0,.int .i64 0] 40)) (.cells #[.func (.func 59) #[] #[]] 139);rw[World.size_alloc,World.size_alloc] at this;exact this
 have HW1:=hI hw1
 have hz1:w1.heap.size=w.heap.size+1+1+1:=by rw[hw1];simp
 have HZ1:=hI hz1
 clear hw1 hz1
 go_enter Tryz.func29,Tryz.ntmps29
 go_upto_region 3 with fail
 rw[←HW1.out]
 have s0:=crZ HST1 0 rfl
 go_wp2_with fail
 refine(CL.out w1 K1.out).mono ?_
 rintro e w2 ⟨cv,rfl,hcv,k2⟩
 have O2:=hI hcv
 have K2:=hI k2
 obtain⟨CG,cg,rfl⟩:=bV hcv
 have HST2:Hid (w2.heap[w.heap.size]? = some (.cells #[.slice CA S.cells.length cc,.slice SA S.shapes.length sc,.slice XA S.texts.length xc,.slice TA S.threads.length tc,.slice EA S.ends.length ec,.slice AA S.said.length ac,.int .i64 S.asked,.int .i64 S.steps] 40 (0,0))):=(k2.block _ (by have:=HZ1.out;omega)).trans HST1.out
 have HRS2:Hid (w2.heap[w.heap.size+1]? = some (.cells #[.slice none 0 0,.slice none 0 0,.slice none 0 0,.slice none 0 0,.slice none 0 0,.slice none 0 0,.int .i64 0,.int .i64 0] 40 (0,0))):=(k2.block _ (by have:=HZ1.out;omega)).trans HRS1.out
 have HFN2:Hid (w2.heap[w.heap.size+1+1]? = some (.cells #[.func (.func 59) #[] #[]] 139 (0,0))):=(k2.block _ (by have:=HZ1.out;omega)).trans HFN1.out
 have KW2:=btZ K1 k2
 clear hcv k2 s0
 have s0:=crZ HST2 0 rfl
 have z0:=fzZ HST2 0
 go_upto_region 4 with fail
 generalize hw3:World.setCell _ _ _=w3
 have HST3:Hid (w3.heap[w.heap.size]? = some (.cells #[.slice CG S.cells.length cg,.slice SA S.shapes.length sc,.slice XA S.texts.length xc,.slice TA S.threads.length tc,.slice EA S.ends.length ec,.slice AA S.said.length ac,.int .i64 S.asked,.int .i64 S.steps] 40 (0,0))):=by rw[←hw3,heap_setCell_same _ _ _ _ _ _ HST2.out];rfl
 have HRS3:Hid (w3.heap[w.heap.size+1]? = some (.cells #[.slice none 0 0,.slice none 0 0,.slice none 0 0,.slice none 0 0,.slice none 0 0,.slice none 0 0,.int .i64 0,.int .i64 0] 40 (0,0))):=by rw[←hw3,heap_setCell_other _ _ _ _ (by simp)];exact HRS2.out
 have HFN3:Hid (w3.heap[w.heap.size+1+1]? = some (.cells #[.func (.func 59) #[] #[]] 139 (0,0))):=by rw[←hw3,heap_setCell_other _ _ _ _ (by simp <;> omega)];exact HFN2.out
 have O3:Hid (w3.ownsRow w1.heap.size 55 4 (.slice CG S.cells.length cg) S.cells.length (rows0.flatMap id)):=by rw[←hw3];exact gI O2.out HST2.out (by decide) _ _
 have KW3:Hid (Below w.heap.size w w3):=by rw[←hw3];exact KW2.out.setCell (Nat.le_refl _) _
 have hsz3:w3.heap.size=w2.heap.size:=by rw[←hw3];simp[World.setCell]
 have HZ3:Hid (w1.heap.size≤w3.heap.size):=by show _≤_;have:=K2.out.size;omega
 clear hw3 s0 z0
 (try dsimp only [Act.put])
 have s0:=crZ HST3 0 rfl
 have hlc:=SM.out.cells
 go_wp2_with fail
 clear s0
 have BX3:Hid (oB w w3 #[.slice CG S.cells.length cg,.slice SA S.shapes.length sc,.slice XA S.texts.length xc,.slice TA S.threads.length tc,.slice EA S.ends.length ec,.slice AA S.said.length ac,.int .i64 S.asked,.int .i64 S.steps]):=⟨HST3.out,HRS3.out,HFN3.out⟩
 have CB3:Hid (∀g,(Value.slice CG S.cells.length cg).ownBlock=some g→w1.heap.size≤g∧g<w3.heap.size):=fun g hg=>O3.out.lt g hg
 go_loopw [17] (fun k wr=>∃(j:Nat) (rows:List (List Value)) (co:Nat→Nat),k=.int .i64 j∧j≤S.cells.length∧Hid (rows.length=S.cells.length∧∀x∈rows,x.length=4)∧Hid (wr.ownsRow w1.heap.size 55 4 (.slice CG S.cells.length cg) S.cells.length (rows.flatMap id))∧
  Hid (∀(i:Nat) x,i<j→S.cells[i]? = some x→∃v f,rows[i]? = some (bD x v f)∧kG wr (co i) (co (i+1)) x v f)∧Hid (∀i,j≤i→rows[i]? = rows0[i]?)∧Hid (co 0=w3.heap.size∧(∀i,co i≤co (i+1))∧∀i,co i≤wr.heap.size)∧
  Hid (oB w wr #[.slice CG S.cells.length cg,.slice SA S.shapes.length sc,.slice XA S.texts.length xc,.slice TA S.threads.length tc,.slice EA S.ends.length ec,.slice AA S.said.length ac,.int .i64 S.asked,.int .i64 S.steps])∧Hid (Below w.heap.size w wr)∧Hid (w3.heap.size≤wr.heap.size)) (fun k _=>S.cells.length - (RowKit.intOf k).toNat)
 case atStart=>exact⟨0,rows0,fun _=>w3.heap.size,rfl,by omega,⟨HCL.out,HC4.out⟩,O3.out,fun i x h=>by omega,fun i _=>rfl,⟨rfl,fun _=>Nat.le_refl _,fun _=>Nat.le_refl _⟩,BX3.out,KW3.out,Nat.le_refl _⟩
 case round=>
  obtain⟨j,rows,co,rfl,hj,HRL,OC,HP,HOLD,HCO,BX,KW,HZR⟩:=hrel
  have hsz:=KW.out.size
  by_cases hlt:j<S.cells.length
  ·have hji:(j:Int)<S.cells.length:=by omega
   obtain⟨g,hCG,hgb,hgz⟩:∃g,CG=some ⟨g,0,none⟩∧w1.heap.size≤g∧g<w3.heap.size:=by
    rcases OC.out.2 with ⟨e,h⟩ | ⟨g,cap,cur,e,k1,k2,-⟩
    ·omega
    ·injection e with e1 e2 e3;exact⟨g,e1,k1,(CB3.out g (by rw[e1];rfl)).2⟩
   subst hCG
   obtain⟨x,hx⟩:∃x,S.cells[j]? = some x:=⟨_,lG hlt⟩
   obtain⟨v0,f0,hrow0,hsv,hsf⟩:=HPC.out j x hx
   have hrow:rows[j]? = some (bD x v0 f0):=(HOLD.out j (Nat.le_refl _)).trans hrow0
   have hj4:j*4+4≤S.cells.length*4:=by have:(j+1)*4≤S.cells.length*4:=Nat.mul_le_mul_right _ (by omega);omega
   have hcell:∀k,k<4→wr.cell? ⟨g,j*4+k,none⟩=(bD x v0 f0)[k]?:=fun k hk=>by
    rw[OC.out.cellAt (j*4+k) (by omega)]
    exact b9 _ j k _ HRL.out.2 hrow hk
   have g0:wr.cell? ⟨g,j*4,none⟩=some (.int .i64 x.kind):=hcell 0 (by decide)
   have g1:wr.cell? ⟨g,j*4+1,none⟩=some (.int .i64 x.num):=hcell 1 (by decide)
   have g2:wr.cell? ⟨g,j*4+2,none⟩=some v0:=hcell 2 (by decide)
   have g3:wr.cell? ⟨g,j*4+3,none⟩=some f0:=hcell 3 (by decide)
   obtain⟨VA,vc,rfl,-⟩:=id hsv
   obtain⟨FA,fc,rfl,-⟩:=id hsf
   have HX:=hI hx
   have HROW:=hI hrow
   have HSV:=hI hsv
   have HSF:=hI hsf
   have hzg:g<wr.heap.size:=by have:=HZR.out;omega
   obtain⟨w4,hw4⟩:∃w4,w4=wr.alloc (.cells #[.int .i64 x.kind,.int .i64 x.num,.slice VA x.vals.length vc,.slice FA x.frames.length fc] 55):=⟨_,rfl⟩
   have K4:Hid (Below wr.heap.size wr w4):=by rw[hw4];exact aB _ _
   have HB4:Hid (aA w4 wr.heap.size [.int .i64 x.kind,.int .i64 x.num,.slice VA x.vals.length vc,.slice FA x.frames.length fc]):=by rw[hw4];exact ad5 _ _ _
   have hz4:wr.heap.size<w4.heap.size:=by rw[hw4];simp
   have KW4:=hI (KW.out.trans (K4.out.mono hsz))
   have HW4:=hI hw4
   clear hx hrow0 hrow hcell hsv hsf hw4
   go_upto_region 7 with fail
   rw[←HW4.out]
   clear g0 g1 g2 g3
   obtain⟨L,hL⟩:∃L:List (Addr×Value),L=[(⟨w.heap.size,0,none⟩,.slice (some ⟨g,0,none⟩) S.cells.length cg),(⟨w.heap.size+1+1,0,none⟩,.func (.func 59) #[] #[]),(⟨wr.heap.size,2,none⟩,.slice VA x.vals.length vc),(⟨wr.heap.size,3,none⟩,.slice FA x.frames.length fc)]:=⟨_,rfl⟩
   have hzb:w.heap.size+1+1<wr.heap.size:=by have:=HZR.out;have:=HZ3.out;have:=HZ1.out;omega
   have CA4:Hid (∀p∈L,w4.cell? p.1=some p.2∧p.1.block<w4.heap.size∧p.1.block≠g):=by
    rw[hL]
    intro p hp
    simp only[List.mem_cons,List.not_mem_nil,or_false] at hp
    rcases hp with rfl | rfl | rfl | rfl
    ·exact⟨aC K4.out (cell_of_row wr _ 0 _ _ _ BX.out.st),by show w.heap.size<_;omega,by show w.heap.size≠g;have:=HZ1.out;omega⟩
    ·exact⟨aC K4.out (cell_of_row wr _ 0 _ _ _ BX.out.fn),by show w.heap.size+1+1<_;omega,by show w.heap.size+1+1≠g;have:=HZ1.out;omega⟩
    ·exact⟨HB4.out 2 _ rfl,hz4,by show wr.heap.size≠g;omega⟩
    ·exact⟨HB4.out 3 _ rfl,hz4,by show wr.heap.size≠g;omega⟩
   have a0:∀E:cI L,E.wd.cell? ⟨w.heap.size,0,none⟩=some (.slice (some ⟨g,0,none⟩) S.cells.length cg):=fun E=>E.here (_,_) (by rw[hL];simp)
   have a1:∀E:cI L,E.wd.cell? ⟨w.heap.size+1+1,0,none⟩=some (.func (.func 59) #[] #[]):=fun E=>E.here (_,_) (by rw[hL];simp)
   have a2:∀E:cI L,E.wd.cell? ⟨wr.heap.size,2,none⟩=some (.slice VA x.vals.length vc):=fun E=>E.here (_,_) (by rw[hL];simp)
   have a3:∀E:cI L,E.wd.cell? ⟨wr.heap.size,3,none⟩=some (.slice FA x.frames.length fc):=fun E=>E.here (_,_) (by rw[hL];simp)
   have CLS:Hid (∀W,Below w4.heap.size w4 W→∃E:cI L,W=E.wd):=fun W k=>⟨⟨W,fun p hp=>(k.cell (CA4.out p hp).2.1).trans (CA4.out p hp).1⟩,rfl⟩
   have CLT:Hid (∀W i u,Below w4.heap.size w4 W→∃E:cI L,W.setCell ⟨g,i,none⟩ u=E.wd):=fun W i u k=>⟨⟨W.setCell ⟨g,i,none⟩ u,fun p hp=>(World.cell?_of_block (heap_setCell_other _ _ _ _ (CA4.out p hp).2.2)).trans ((k.cell (CA4.out p hp).2.1).trans (CA4.out p hp).1)⟩,rfl⟩
   clear hL
   haveI:Nonempty (cI L):=⟨(CLS.out w4 (Below.refl _ _)).choose⟩
   have hen:=pN
   have hen2:=tX
   refine fI (fun w'=>∃E:cI L,w'=E.wd) [0,1,2,3,4,5,6,7,8,10,11,12] [9,13,14,15,16,17,18,19] [9,13,14,15,16] (by kernel_rfl) (by kernel_rfl) (fun _ _ d _ _ h=>by cases d <;> exact h) (CLS.out _ (Below.refl _ w4).drew) ?_
   simp only[List.filterMap_cons,List.filterMap_nil,List.getElem?_toArray,List.getElem?_cons_zero,List.getElem?_cons_succ]
   generalize hqq:(fun a'=>gA _ _ _ _ _ _ a' _)=qq
   have HQQ:=hI hqq
   clear hqq
   show wpQuiet _ _ _ _ [_,_,_,_,_,_,_,_,_,_,_,_] _
   repeat (go_big_quiet_step (fail))
   refine wpQuiet_nil ?_
   rw[←HQQ.out]
   clear HQQ qq a0 a1 a2 a3
   refine bA rfl (fun K hK=>?_)
   go_simp
   refine(pG (.slice VA x.vals.length vc) x.vals w4.drew (HSV.out.keep KW4.out.drew.size (fun _ hp=>KW4.out.drew.cell hp) (fun _ _ h=>h)) (by have:=SM.out.vals x (List.mem_of_getElem? HX.out);omega)).mono ?_
   rintro e w5 ⟨u5,rfl,ho5,k5⟩
   have O5:=hI ho5
   have K5:Hid (Below w4.heap.size w4 w5):=(Below.refl _ w4).drew.trans k5
   have KW5:=btZ KW4 K5.out
   clear ho5 k5
   refine hK _ _ (fun _=>CLS.out w5 K5.out) ?_
   clear hK K
   refine bA rfl (fun K hK=>?_)
   go_simp
   have hfn5:w5.cell? ⟨w.heap.size+1+1,0,none⟩=some (.func (.func 59) #[] #[]):=aC (K4.out.trans (K5.out.mono K4.out.size)) (cell_of_row wr _ 0 _ _ _ BX.out.fn)
   refine(p7 (.slice FA x.frames.length fc) x.frames (w.heap.size+1+1) w5 (HSF.out.keep KW5.out.size (fun _ hp=>KW5.out.cell hp) (fun _ _ h=>h.keep KW5.out.size (fun _ hp=>KW5.out.cell hp))) (by have:=(SM.out.cframes x (List.mem_of_getElem? HX.out)).1;omega) (SM.out.cframes x (List.mem_of_getElem? HX.out)).2 hfn5).mono ?_
   rintro e w6 ⟨u6,rs6,ts6,rfl,hf6,k6⟩
   have F6:=hI hf6
   have K6:Hid (Below w5.heap.size w5 w6):=k6
   have K46:=btZ K5 K6.out
   have KW6:=btZ KW5 K6.out
   have KR6:=btZ K4 K46.out
   obtain⟨U5,c5,rfl⟩:=bV O5.out
   obtain⟨U6,c6,rfl⟩:=bV hf6.row
   clear hf6 k6 hfn5
   refine hK _ _ (fun _=>CLS.out w6 K46.out) ?_
   clear hK K
   have OC6:=hI (cZ OC.out KR6.out)
   have e2:w6.cell? ⟨g,j*4+2,none⟩=some (.slice VA x.vals.length vc):=by
    rw[OC6.out.cellAt (j*4+2) (by omega)]
    exact b9 _ j 2 _ HRL.out.2 HROW.out (by decide)
   have e3:w6.cell? ⟨g,j*4+3,none⟩=some (.slice FA x.frames.length fc):=by
    rw[OC6.out.cellAt (j*4+3) (by omega)]
    exact b9 _ j 3 _ HRL.out.2 HROW.out (by decide)
   have z2:=OC6.out.frozenAt (j*4+2)
   have z3:=OC6.out.frozenAt (j*4+3)
   refine bA rfl (fun K hK=>?_)
   go_simp
   refine hK _ _ (fun _=>CLS.out w6 K46.out) ?_
   clear hK K
   refine bA rfl (fun K hK=>?_)
   go_simp
   refine hK _ _ (fun _=>CLS.out w6 K46.out) ?_
   clear hK K
   refine bA rfl (fun K hK=>?_)
   go_simp
   refine hK _ _ (fun _=>CLT.out w6 _ _ K46.out) ?_
   clear hK K
   refine bP [17,18,19] _ _ (by kernel_rfl) (by kernel_rfl) ?_
   simp only[List.filterMap_cons,List.filterMap_nil,List.getElem?_toArray,List.getElem?_cons_zero,List.getElem?_cons_succ]
   go_wp2_with fail
   generalize hw7:World.setCell _ _ _=w7
   have ST:=hI (OC6.out.stored (j*4+2) (.slice U5 x.vals.length c5)).1
   have ST2:=hI (ST.out.stored (j*4+3) (.slice U6 x.frames.length c6)).1
   have hwg:w.heap.size+1+1+1≤g:=by have:=HZ1.out;omega
   have KW7:Hid (Below w.heap.size w w7):=by
    rw[←hw7]
    exact(KW6.out.setCell (by show w.heap.size≤g;omega) _).setCell (by show w.heap.size≤g;omega) _
   have hz7:w7.heap.size=w6.heap.size:=by rw[←hw7];simp[World.setCell]
   have KE7:Hid (dC w6 w7):=by
    rw[←hw7]
    exact(dC.set OC6.out (by decide) (by decide) (by decide)).trans (dC.set ST.out (by decide) (by decide) (by decide))
   have KE07:Hid (dC wr w7):=(dC.of KR6.out).trans KE7.out
   have OUT7:Hid (∀k,k≠g→w7.heap[k]? = w6.heap[k]?):=fun k hk=>by rw[←hw7,heap_setCell_other _ _ _ _ hk,heap_setCell_other _ _ _ _ hk]
   have OC7:Hid (w7.ownsRow w1.heap.size 55 4 (.slice (some ⟨g,0,none⟩) S.cells.length cg) S.cells.length ((rows.set j (bD x (.slice U5 x.vals.length c5) (.slice U6 x.frames.length c6))).flatMap id)):=by
    have h1:=ST2.out
    have hlen:j<rows.length:=by rw[HRL.out.1];exact hlt
    rw[dT _ j 2 _ _ HRL.out.2 HROW.out (by decide),show(bD x (.slice VA x.vals.length vc) (.slice FA x.frames.length fc)).set 2 (.slice U5 x.vals.length c5)=bD x (.slice U5 x.vals.length c5) (.slice FA x.frames.length fc) from rfl,
     dT _ j 3 _ _ (eU HRL.out.2 rfl) (dO HROW.out _) (by decide),List.set_set,show(bD x (.slice U5 x.vals.length c5) (.slice FA x.frames.length fc)).set 3 (.slice U6 x.frames.length c6)=bD x (.slice U5 x.vals.length c5) (.slice U6 x.frames.length c6) from rfl] at h1
    rw[←hw7];exact h1
   have BX7:Hid (oB w w7 #[.slice (some ⟨g,0,none⟩) S.cells.length cg,.slice SA S.shapes.length sc,.slice XA S.texts.length xc,.slice TA S.threads.length tc,.slice EA S.ends.length ec,.slice AA S.said.length ac,.int .i64 S.asked,.int .i64 S.steps]):=
    ⟨(OUT7.out _ (by omega)).trans ((KR6.out.block _ (by omega)).trans BX.out.st),(OUT7.out _ (by omega)).trans ((KR6.out.block _ (by omega)).trans BX.out.rs),(OUT7.out _ (by omega)).trans ((KR6.out.block _ (by omega)).trans BX.out.fn)⟩
   have NEW:Hid (kG w7 wr.heap.size w7.heap.size x (.slice U5 x.vals.length c5) (.slice U6 x.frames.length c6)):=by
    refine⟨w5.heap.size,rs6,ts6,?_,?_,KE7.out _ _ _ _ _ _ (.inr (.inl rfl)) (cZ (dU O5.out ?_) K6.out),fun q hq=>?_,?_⟩
    ·have:=K4.out.size;have:=K5.out.size;omega
    ·have:=K6.out.size;omega
    ·show wr.heap.size≤w4.heap.size;omega
    ·exact(O5.out.lt q hq).2
    ·have h1:=(F6.out.now).keep KE7.out
     rw[hz7];exact h1
   clear hw7 e2 e3 z2 z3
   go_wp2_with fail
   go_roundw
   case rel=>
    refine⟨j+1,rows.set j (bD x (.slice U5 x.vals.length c5) (.slice U6 x.frames.length c6)),fun i=>if i≤j then co i else w7.heap.size,by go_num,by omega,?_,OC7,?_,?_,?_,BX7,KW7,?_⟩
    ·exact⟨by rw[List.length_set];exact HRL.out.1,eU HRL.out.2 rfl⟩
    ·intro i y hi hy
     by_cases hij:i=j
     ·subst hij
      rw[HX.out] at hy;injection hy with hy;subst hy
      refine⟨_,_,dO HROW.out _,?_⟩
      show kG w7 (if i≤i then co i else w7.heap.size) (if i+1≤i then co (i+1) else w7.heap.size) _ _ _
      rw[if_pos (Nat.le_refl _),if_neg (by omega)]
      exact NEW.out.less (HCO.out.2.2 i)
     ·obtain⟨v',f',h1,h2⟩:=HP.out i y (by omega) hy
      refine⟨v',f',by rw[List.getElem?_set_ne (by omega)];exact h1,?_⟩
      show kG w7 (if i≤j then co i else w7.heap.size) (if i+1≤j then co (i+1) else w7.heap.size) _ _ _
      rw[if_pos (by omega),if_pos (by omega)]
      exact h2.keep KE07.out
    ·intro i hi
     rw[List.getElem?_set_ne (by omega)]
     exact HOLD.out i (by omega)
    ·have hwz:wr.heap.size≤w7.heap.size:=by have:=KR6.out.size;omega
     refine⟨by show(if 0≤j then co 0 else _)=_;rw[if_pos (by omega)];exact HCO.out.1,fun i=>?_,fun i=>?_⟩
     ·show(if i≤j then co i else w7.heap.size)≤(if i+1≤j then co (i+1) else w7.heap.size)
      by_cases h1:i+1≤j
      ·rw[if_pos (by omega),if_pos h1];exact HCO.out.2.1 i
      ·rw[if_neg h1]
       split
       ·exact Nat.le_trans (HCO.out.2.2 i) hwz
       ·exact Nat.le_refl _
     ·show(if i≤j then co i else w7.heap.size)≤_
      split
      ·exact Nat.le_trans (HCO.out.2.2 i) hwz
      ·exact Nat.le_refl _
    ·show _≤_
     have:=HZR.out;have:=KR6.out.size;omega
   case measure=>simp[RowKit.intOf];omega
  ·have hji:¬(j:Int)<S.cells.length:=by omega
   rename World=>wq
   obtain rfl:j=S.cells.length:=by omega
   have HPF:Hid (∀(i:Nat) x,S.cells[i]? = some x→∃v f,rows[i]? = some (bD x v f)∧kG wq (co i) (co (i+1)) x v f):=fun i x hx=>HP.out i x ((lE hx).1) hx
   clear HP HOLD
   have s0:=cell_of_row wq _ 3 _ _ _ BX.out.st
   go_wp2_with fail
   refine(CT.out wq KW.out).mono ?_
   rintro e wa ⟨thv,rfl,hthv,ka⟩
   have OA:=hI hthv
   have KA:=hI ka
   obtain⟨TG,tg,rfl⟩:=bV hthv
   have BXa:Hid (oB w wa #[.slice CG S.cells.length cg,.slice SA S.shapes.length sc,.slice XA S.texts.length xc,.slice TA S.threads.length tc,.slice EA S.ends.length ec,.slice AA S.said.length ac,.int .i64 S.asked,.int .i64 S.steps]):=⟨(ka.block _ (by have:=HZR.out;have:=HZ3.out;have:=HZ1.out;omega)).trans BX.out.st,(ka.block _ (by have:=HZR.out;have:=HZ3.out;have:=HZ1.out;omega)).trans BX.out.rs,(ka.block _ (by have:=HZR.out;have:=HZ3.out;have:=HZ1.out;omega)).trans BX.out.fn⟩
   have KWa:=hI (KW.out.trans (ka.mono hsz))
   have OCa:=hI (cZ OC.out ka)
   clear hthv ka s0
   have s0:=cell_of_row wa _ 3 _ _ _ BXa.out.st
   have z0:=frozen_of_row wa _ 3 _ _ BXa.out.st
   go_upto_region 10 with fail
   generalize hwb:World.setCell _ _ _=wb
   have STb:Hid (wb.heap[w.heap.size]? = some (.cells #[.slice CG S.cells.length cg,.slice SA S.shapes.length sc,.slice XA S.texts.length xc,.slice TG S.threads.length tg,.slice EA S.ends.length ec,.slice AA S.said.length ac,.int .i64 S.asked,.int .i64 S.steps] 40 (0,0))):=by rw[←hwb,heap_setCell_same _ _ _ _ _ _ BXa.out.st];rfl
   have BXb:Hid (oB w wb #[.slice CG S.cells.length cg,.slice SA S.shapes.length sc,.slice XA S.texts.length xc,.slice TG S.threads.length tg,.slice EA S.ends.length ec,.slice AA S.said.length ac,.int .i64 S.asked,.int .i64 S.steps]):=⟨STb.out,by rw[←hwb,heap_setCell_other _ _ _ _ (by simp)];exact BXa.out.rs,by rw[←hwb,heap_setCell_other _ _ _ _ (by simp <;> omega)];exact BXa.out.fn⟩
   have Ob:Hid (wb.ownsRow wq.heap.size 57 5 (.slice TG S.threads.length tg) S.threads.length (trows0.flatMap id)):=by rw[←hwb];exact gI OA.out BXa.out.st (by decide) _ _
   have OCb:Hid (wb.ownsRow w1.heap.size 55 4 (.slice CG S.cells.length cg) S.cells.length (rows.flatMap id)):=by rw[←hwb];exact gI OCa.out BXa.out.st (by decide) _ _
   have KWb:Hid (Below w.heap.size w wb):=by rw[←hwb];exact KWa.out.setCell (Nat.le_refl _) _
   have KEb:Hid (dC wq wb):=by rw[←hwb];exact(dC.of KA.out).trans (aeB BXa.out.st (by decide) (by decide) (by decide))
   have hszb:wb.heap.size=wa.heap.size:=by rw[←hwb];simp[World.setCell]
   have HZb:Hid (wq.heap.size≤wb.heap.size):=by show _≤_;have:=KA.out.size;omega
   have HZw:Hid (w.heap.size+1+1<wq.heap.size):=by show _<_;have:=HZR.out;have:=HZ3.out;have:=HZ1.out;omega
   have CBb:Hid (∀g,(.slice TG S.threads.length tg:Value).ownBlock=some g→wq.heap.size≤g∧g<wb.heap.size):=fun g hg=>Ob.out.lt g hg
   have HPb:Hid (∀(i:Nat) x,S.cells[i]? = some x→∃v f,rows[i]? = some (bD x v f)∧kG wb (co i) (co (i+1)) x v f):=fun i x hx=>by
    obtain⟨v,f,h1,h2⟩:=HPF.out i x hx
    exact⟨v,f,h1,h2.keep KEb.out⟩
   clear hwb s0 z0 HPF OA OCa
   (try dsimp only [Act.put])
   have s0:=cell_of_row wb _ 3 _ _ _ BXb.out.st
   have hlt':=SM.out.threads
   go_wp2_with fail
   clear s0
   clear OC BX KW hsz hj hlt hji BXa KWa
   go_loopw [48] (fun k wr=>∃(j:Nat) (trows:List (List Value)) (lo:Nat→Nat),k=.int .i64 j∧j≤S.threads.length∧Hid (trows.length=S.threads.length∧∀x∈trows,x.length=5)∧Hid (wr.ownsRow wq.heap.size 57 5 (.slice TG S.threads.length tg) S.threads.length (trows.flatMap id))∧
    Hid (∀(i:Nat) x,i<j→S.threads[i]? = some x→∃f,trows[i]? = some (gH x f)∧fX wr (lo i) (lo (i+1)) x f)∧Hid (∀i,j≤i→trows[i]? = trows0[i]?)∧Hid (lo 0=wb.heap.size∧(∀i,lo i≤lo (i+1))∧∀i,lo i≤wr.heap.size)∧
    Hid (wr.ownsRow w1.heap.size 55 4 (.slice CG S.cells.length cg) S.cells.length (rows.flatMap id))∧Hid (oB w wr #[.slice CG S.cells.length cg,.slice SA S.shapes.length sc,.slice XA S.texts.length xc,.slice TG S.threads.length tg,.slice EA S.ends.length ec,.slice AA S.said.length ac,.int .i64 S.asked,.int .i64 S.steps])∧Hid (Below w.heap.size w wr)∧Hid (wb.heap.size≤wr.heap.size)∧Hid (dC wb wr)) (fun k _=>S.threads.length - (RowKit.intOf k).toNat)
   case atStart=>exact⟨0,trows0,fun _=>wb.heap.size,rfl,by omega,⟨HTL.out,HT5.out⟩,Ob.out,fun i x h=>by omega,fun i _=>rfl,⟨rfl,fun _=>Nat.le_refl _,fun _=>Nat.le_refl _⟩,OCb.out,BXb.out,KWb.out,Nat.le_refl _,fun _ _ _ _ _ _ _ h=>h⟩
   case round=>
    obtain⟨j,trows,lo,rfl,hj,TRL,OT,HP,HOLD,HLO,OC,BX,KW,HZX,KEX⟩:=hrel
    have hsz:=KW.out.size
    by_cases hlt:j<S.threads.length
    ·have hji:(j:Int)<S.threads.length:=by omega
     obtain⟨g,hTG,hgb,hgz⟩:∃g,TG=some ⟨g,0,none⟩∧wq.heap.size≤g∧g<wb.heap.size:=by
      rcases OT.out.2 with ⟨e,h⟩ | ⟨g,cap,cur,e,k1,k2,-⟩
      ·omega
      ·injection e with e1 e2 e3;exact⟨g,e1,k1,(CBb.out g (by rw[e1];rfl)).2⟩
     subst hTG
     obtain⟨x,hx⟩:∃x,S.threads[j]? = some x:=⟨_,lG hlt⟩
     obtain⟨f0,hrow0,hsf⟩:=HPT.out j x hx
     have hrow:trows[j]? = some (gH x f0):=(HOLD.out j (Nat.le_refl _)).trans hrow0
     have hj5:j*5+5≤S.threads.length*5:=by have:(j+1)*5≤S.threads.length*5:=Nat.mul_le_mul_right _ (by omega);omega
     have hcell:∀k,k<5→wr.cell? ⟨g,j*5+k,none⟩=(gH x f0)[k]?:=fun k hk=>by
      rw[OT.out.cellAt (j*5+k) (by omega)]
      exact b9 _ j k _ TRL.out.2 hrow hk
     have g0:wr.cell? ⟨g,j*5,none⟩=some f0:=hcell 0 (by decide)
     have g1:wr.cell? ⟨g,j*5+1,none⟩=some (.int .i64 x.state):=hcell 1 (by decide)
     have g2:wr.cell? ⟨g,j*5+2,none⟩=some (.int .i64 x.on_):=hcell 2 (by decide)
     have g3:wr.cell? ⟨g,j*5+3,none⟩=some (.int .i64 x.val.kind):=hcell 3 (by decide)
     have g4:wr.cell? ⟨g,j*5+4,none⟩=some (.int .i64 x.val.n):=hcell 4 (by decide)
     obtain⟨FA,fc,rfl,-⟩:=id hsf
     have HX:=hI hx
     have HROW:=hI hrow
     have HSF:=hI hsf
     have hzg:g<wr.heap.size:=by have:=HZX.out;omega
     obtain⟨w4,hw4⟩:∃w4,w4=wr.alloc (.cells #[.slice FA x.frames.length fc,.int .i64 x.state,.int .i64 x.on_,.int .i64 x.val.kind,.int .i64 x.val.n] 57):=⟨_,rfl⟩
     have K4:Hid (Below wr.heap.size wr w4):=by rw[hw4];exact aB _ _
     have HB4:Hid (aA w4 wr.heap.size [.slice FA x.frames.length fc,.int .i64 x.state,.int .i64 x.on_,.int .i64 x.val.kind,.int .i64 x.val.n]):=by rw[hw4];exact ad5 _ _ _
     have hz4:wr.heap.size<w4.heap.size:=by rw[hw4];simp
     have KW4:=hI (KW.out.trans (K4.out.mono hsz))
     have HW4:=hI hw4
     clear hx hrow0 hrow hcell hsf hw4
     go_upto_region 13 with fail
     rw[←HW4.out]
     clear g0 g1 g2 g3 g4
     have hzb:w.heap.size+1+1<wr.heap.size:=by have:=HZw.out;have:=HZb.out;have:=HZX.out;omega
     have a0:∀E:Up w4,E.to.cell? ⟨w.heap.size,3,none⟩=some (.slice (some ⟨g,0,none⟩) S.threads.length tg):=fun E=>E.cell (aC K4.out (cell_of_row wr _ 3 _ _ _ BX.out.st))
     have a1:=ecZ (HB4.out 0 _ rfl)
     have hen2:=tX
     refine fI (fun w'=>∃E:Up w4,w'=E.to) [0,1,2,3,4,5] [6,7,8,9] [6] (by kernel_rfl) (by kernel_rfl) (fun _ _ d _ _ h=>by cases d <;> exact h) ⟨⟨_,(Below.refl _ w4).drew⟩,rfl⟩ ?_
     simp only[List.filterMap_cons,List.filterMap_nil,List.getElem?_toArray,List.getElem?_cons_zero,List.getElem?_cons_succ]
     generalize hqq:(fun a'=>gA _ _ _ _ _ _ a' _)=qq
     have HQQ:=hI hqq
     clear hqq
     show wpQuiet _ _ _ _ [_,_,_,_,_,_] _
     repeat (go_big_quiet_step (fail))
     refine wpQuiet_nil ?_
     rw[←HQQ.out]
     clear HQQ qq a0 a1
     refine bA rfl (fun K hK=>?_)
     go_simp
     have hfn4:w4.drew.cell? ⟨w.heap.size+1+1,0,none⟩=some (.func (.func 59) #[] #[]):=(aC K4.out (cell_of_row wr _ 0 _ _ _ BX.out.fn))
     refine(p7 (.slice FA x.frames.length fc) x.frames (w.heap.size+1+1) w4.drew (HSF.out.keep KW4.out.drew.size (fun _ hp=>KW4.out.drew.cell hp) (fun _ _ h=>h.keep KW4.out.drew.size (fun _ hp=>KW4.out.drew.cell hp))) (by have:=(SM.out.tframes x (List.mem_of_getElem? HX.out)).1;omega) (SM.out.tframes x (List.mem_of_getElem? HX.out)).2 hfn4).mono ?_
     rintro e w6 ⟨u6,rs6,ts6,rfl,hf6,k6⟩
     have F6:=hI hf6
     have K6:Hid (Below w4.heap.size w4 w6):=(Below.refl _ w4).drew.trans k6
     have KW6:=btZ KW4 K6.out
     have KR6:=btZ K4 K6.out
     obtain⟨U6,c6,rfl⟩:=bV hf6.row
     clear hf6 k6 hfn4
     refine hK _ _ (fun _=>⟨⟨w6,K6.out⟩,rfl⟩) ?_
     clear hK K
     have OT6:=hI (cZ OT.out KR6.out)
     have e0:w6.cell? ⟨g,j*5,none⟩=some (.slice FA x.frames.length fc):=by
      rw[OT6.out.cellAt (j*5) (by omega)]
      exact b9 _ j 0 _ TRL.out.2 HROW.out (by decide)
     have z0:=OT6.out.frozenAt (j*5)
     refine bP [7,8,9] _ _ (by kernel_rfl) (by kernel_rfl) ?_
     simp only[List.filterMap_cons,List.filterMap_nil,List.getElem?_toArray,List.getElem?_cons_zero,List.getElem?_cons_succ]
     go_wp2_with fail
     generalize hw7:World.setCell _ _ _=w7
     have ST:=hI (OT6.out.stored (j*5) (.slice U6 x.frames.length c6)).1
     have hwg:w.heap.size+1+1+1≤g:=by have:=HZw.out;omega
     have KW7:Hid (Below w.heap.size w w7):=by
      rw[←hw7]
      exact KW6.out.setCell (by show w.heap.size≤g;omega) _
     have hz7:w7.heap.size=w6.heap.size:=by rw[←hw7];simp[World.setCell]
     have KE7:Hid (dC w6 w7):=by
      rw[←hw7]
      exact dC.set OT6.out (by decide) (by decide) (by decide)
     have KE07:Hid (dC wr w7):=(dC.of KR6.out).trans KE7.out
     have OUT7:Hid (∀k,k≠g→w7.heap[k]? = w6.heap[k]?):=fun k hk=>by rw[←hw7,heap_setCell_other _ _ _ _ hk]
     have OC7:Hid (w7.ownsRow w1.heap.size 55 4 (.slice CG S.cells.length cg) S.cells.length (rows.flatMap id)):=by rw[←hw7];exact iS (cZ OC.out KR6.out) OT6.out (by decide)
     have OT7:Hid (w7.ownsRow wq.heap.size 57 5 (.slice (some ⟨g,0,none⟩) S.threads.length tg) S.threads.length ((trows.set j (gH x (.slice U6 x.frames.length c6))).flatMap id)):=by
      have h1:=ST.out
      rw[show j*5=j*5+0 from rfl,dT _ j 0 _ _ TRL.out.2 HROW.out (by decide),show(gH x (.slice FA x.frames.length fc)).set 0 (.slice U6 x.frames.length c6)=gH x (.slice U6 x.frames.length c6) from rfl] at h1
      rw[←hw7];exact h1
     have BX7:Hid (oB w w7 #[.slice CG S.cells.length cg,.slice SA S.shapes.length sc,.slice XA S.texts.length xc,.slice (some ⟨g,0,none⟩) S.threads.length tg,.slice EA S.ends.length ec,.slice AA S.said.length ac,.int .i64 S.asked,.int .i64 S.steps]):=
      ⟨(OUT7.out _ (by omega)).trans ((KR6.out.block _ (by omega)).trans BX.out.st),(OUT7.out _ (by omega)).trans ((KR6.out.block _ (by omega)).trans BX.out.rs),(OUT7.out _ (by omega)).trans ((KR6.out.block _ (by omega)).trans BX.out.fn)⟩
     have NEW:Hid (fX w7 wr.heap.size w7.heap.size x (.slice U6 x.frames.length c6)):=by
      have h1:eH w7 w4.drew.heap.size w6.heap.size _ _ _ _:=(F6.out.now).keep KE7.out
      have h2:fX w7 w4.drew.heap.size w7.heap.size x (.slice U6 x.frames.length c6):=⟨rs6,ts6,by rw[hz7];exact h1⟩
      exact h2.less (by show wr.heap.size≤w4.heap.size;omega)
     clear hw7 e0 z0
     go_wp2_with fail
     go_roundw
     case rel=>
      refine⟨j+1,trows.set j (gH x (.slice U6 x.frames.length c6)),fun i=>if i≤j then lo i else w7.heap.size,by go_num,by omega,?_,OT7,?_,?_,?_,OC7,BX7,KW7,?_,KEX.out.trans KE07.out⟩
      ·exact⟨by rw[List.length_set];exact TRL.out.1,eU TRL.out.2 rfl⟩
      ·intro i y hi hy
       by_cases hij:i=j
       ·subst hij
        rw[HX.out] at hy;injection hy with hy;subst hy
        refine⟨_,dO HROW.out _,?_⟩
        show fX w7 (if i≤i then lo i else w7.heap.size) (if i+1≤i then lo (i+1) else w7.heap.size) _ _
        rw[if_pos (Nat.le_refl _),if_neg (by omega)]
        exact NEW.out.less (HLO.out.2.2 i)
       ·obtain⟨f',h1,h2⟩:=HP.out i y (by omega) hy
        refine⟨f',by rw[List.getElem?_set_ne (by omega)];exact h1,?_⟩
        show fX w7 (if i≤j then lo i else w7.heap.size) (if i+1≤j then lo (i+1) else w7.heap.size) _ _
        rw[if_pos (by omega),if_pos (by omega)]
        exact h2.keep KE07.out
      ·intro i hi
       rw[List.getElem?_set_ne (by omega)]
       exact HOLD.out i (by omega)
      ·have hwz:wr.heap.size≤w7.heap.size:=by have:=KR6.out.size;omega
       refine⟨by show(if 0≤j then lo 0 else _)=_;rw[if_pos (by omega)];exact HLO.out.1,fun i=>?_,fun i=>?_⟩
       ·show(if i≤j then lo i else w7.heap.size)≤(if i+1≤j then lo (i+1) else w7.heap.size)
        by_cases h1:i+1≤j
        ·rw[if_pos (by omega),if_pos h1];exact HLO.out.2.1 i
        ·rw[if_neg h1]
         split
         ·exact Nat.le_trans (HLO.out.2.2 i) hwz
         ·exact Nat.le_refl _
       ·show(if i≤j then lo i else w7.heap.size)≤_
        split
        ·exact Nat.le_trans (HLO.out.2.2 i) hwz
        ·exact Nat.le_refl _
      ·show _≤_
       have:=HZX.out;have:=KR6.out.size;omega
     case measure=>simp[RowKit.intOf];omega
    ·have hji:¬(j:Int)<S.threads.length:=by omega
     rename World=>wx
     obtain rfl:j=S.threads.length:=by omega
     have HPF:Hid (∀(i:Nat) x,S.threads[i]? = some x→∃f,trows[i]? = some (gH x f)∧fX wx (lo i) (lo (i+1)) x f):=fun i x hx=>HP.out i x ((lE hx).1) hx
     clear HP HOLD
     have hzb:w.heap.size+1+1<wx.heap.size:=by have:=HZw.out;have:=HZb.out;have:=HZX.out;omega
     go_upto_region 15 with fail
     have a0:∀E:Up wx,E.to.cell? ⟨w.heap.size,1,none⟩=some (.slice SA S.shapes.length sc):=fun E=>E.cell (cell_of_row wx _ 1 _ _ _ BX.out.st)
     have a1:∀E:Up wx,E.to.cell? ⟨w.heap.size,2,none⟩=some (.slice XA S.texts.length xc):=fun E=>E.cell (cell_of_row wx _ 2 _ _ _ BX.out.st)
     have a2:∀E:Up wx,E.to.cell? ⟨w.heap.size,4,none⟩=some (.slice EA S.ends.length ec):=fun E=>E.cell (cell_of_row wx _ 4 _ _ _ BX.out.st)
     have a3:∀E:Up wx,E.to.cell? ⟨w.heap.size,5,none⟩=some (.slice AA S.said.length ac):=fun E=>E.cell (cell_of_row wx _ 5 _ _ _ BX.out.st)
     have a4:∀E:Up wx,E.to.cell? ⟨w.heap.size+1+1,0,none⟩=some (.func (.func 59) #[] #[]):=fun E=>E.cell (cell_of_row wx _ 0 _ _ _ BX.out.fn)
     have hen:=pN
     refine gQ (fun w'=>∃E:Up wx,w'=E.to) [0,1,3,4,6,7,9,10,11] [2,5,8,12,13] 12 #[true,true,false,true,true,false,true,true,false,true,true,true,false,false,false,false,false,false,false,false,false] _ (by kernel_rfl) (by kernel_rfl) (by simp only[List.filterMap_cons,List.filterMap_nil,List.getElem?_toArray,List.getElem?_cons_zero,List.getElem?_cons_succ];rfl) (fun _ _ d _ _ h=>by cases d <;> exact h) ⟨⟨_,(Below.refl _ wx).drew⟩,rfl⟩ ?_
     generalize hqq:(fun a'=>cN _ _ _ _ _ _ _ _ a' _)=qq
     have HQQ:=hI hqq
     clear hqq
     show wpQuiet _ _ _ _ [_,_,_,_,_,_,_,_,_] _
     repeat (go_big_quiet_step (fail))
     refine wpQuiet_nil ?_
     rw[←HQQ.out]
     clear HQQ qq a0 a1 a2 a3 a4
     refine jJ (i:=2) (by kernel_rfl) rfl (fun K hK=>?_)
     go_simp
     refine(yH (.slice SA S.shapes.length sc) S.shapes wx.drew (HSH.out.keep KW.out.drew.size (fun _ hp=>KW.out.drew.cell hp) (fun _ _ h=>h)) (by have:=SM.out.shapes;omega)).mono ?_
     rintro e w5 ⟨u5,rfl,q5,k5⟩
     have Q5:=hI q5
     have K5:Hid (Below wx.heap.size wx w5):=(Below.refl _ wx).drew.trans k5
     have KW5:=hI (KW.out.trans (K5.out.mono hsz))
     obtain⟨U5,c5,rfl,-⟩:=id q5
     clear q5 k5
     refine hK _ _ (fun _=>⟨⟨w5,K5.out⟩,rfl⟩) ?_
     clear hK K
     refine fJ [13] 10 #[true,true,true,true,true,false,true,true,false,true,true,true,false,true,false,false,false,false,false,false,false] _ (by kernel_rfl) rfl (by simp only[List.filterMap_cons,List.filterMap_nil,List.getElem?_toArray,List.getElem?_cons_zero,List.getElem?_cons_succ];rfl) (fun _ _ d _ _ h=>by cases d <;> exact h) ⟨⟨w5,K5.out⟩,rfl⟩ ?_
     show wpQuiet _ _ _ _ [_] _
     go_big_quiet_step (fail)
     refine wpQuiet_nil ?_
     refine d9 [5,8,12,14,15,16,17,18,19,20] _ _ _ (by kernel_rfl) ?_
     refine bA rfl (fun K hK=>?_)
     go_simp
     refine(yG (.slice XA S.texts.length xc) S.texts w5 (HTX.out.keep KW5.out.size (fun _ hp=>KW5.out.cell hp) (fun _ _ h=>h)) (by have:=SM.out.texts;omega)).mono ?_
     rintro e w6 ⟨u6,rfl,q6,k6⟩
     have Q6:=hI q6
     have K56:=hI k6
     have K6:=btZ K5 k6
     have KW6:=hI (KW.out.trans (K6.out.mono hsz))
     obtain⟨U6,c6,rfl,-⟩:=id q6
     clear q6 k6
     refine hK _ _ (fun _=>⟨⟨w6,K6.out⟩,rfl⟩) ?_
     clear hK K
     refine bA rfl (fun K hK=>?_)
     go_simp
     refine(yI (.slice EA S.ends.length ec) S.ends w6 (HEN.out.keep KW6.out.size (fun _ hp=>KW6.out.cell hp) (fun _ _ h=>h)) (by have:=SM.out.ends;omega)).mono ?_
     rintro e w7 ⟨u7,rfl,q7,k7⟩
     have Q7:=hI q7
     have K67:=hI k7
     have K7:=btZ K6 k7
     have KW7:=hI (KW.out.trans (K7.out.mono hsz))
     obtain⟨U7,c7,rfl,-⟩:=id q7
     clear q7 k7
     refine hK _ _ (fun _=>⟨⟨w7,K7.out⟩,rfl⟩) ?_
     clear hK K
     refine bA rfl (fun K hK=>?_)
     go_simp
     refine(aaQ (.slice AA S.said.length ac) S.said w7 (HSA.out.keep KW7.out.size (fun _ hp=>KW7.out.cell hp) (fun _ _ h=>h)) (by have:=SM.out.said;omega)).mono ?_
     rintro e w8 ⟨u8,rfl,q8,k8⟩
     have Q8:=hI q8
     have K78:=hI k8
     have K8:=btZ K7 k8
     have KW8:=hI (KW.out.trans (K8.out.mono hsz))
     obtain⟨U8,c8,rfl,-⟩:=id q8
     clear q8 k8
     refine hK _ _ (fun _=>⟨⟨w8,K8.out⟩,rfl⟩) ?_
     clear hK K
     have ST8:Hid (w8.heap[w.heap.size]? = some (.cells #[.slice CG S.cells.length cg,.slice SA S.shapes.length sc,.slice XA S.texts.length xc,.slice TG S.threads.length tg,.slice EA S.ends.length ec,.slice AA S.said.length ac,.int .i64 S.asked,.int .i64 S.steps] 40 (0,0))):=(K8.out.block _ (by omega)).trans BX.out.st
     have RS8:=hI ((K8.out.block _ (by omega)).trans BX.out.rs)
     have s1:=crZ ST8 1 rfl
     have s2:=crZ ST8 2 rfl
     have s4:=crZ ST8 4 rfl
     have s5:=crZ ST8 5 rfl
     have z1:=fzZ ST8 1
     have z2:=fzZ ST8 2
     have z4:=fzZ ST8 4
     have z5:=fzZ ST8 5
     refine bP [14,15,16,17,18,19,20] _ _ (by kernel_rfl) (by kernel_rfl) ?_
     simp only[List.filterMap_cons,List.filterMap_nil,List.getElem?_toArray,List.getElem?_cons_zero,List.getElem?_cons_succ]
     go_upto_region 16 with fail
     obtain⟨wc,hwc⟩:∃wc,wc=w8.setCell ⟨w.heap.size,1,none⟩ (.slice U5 S.shapes.length c5):=⟨_,rfl⟩
     obtain⟨wd,hwd⟩:∃wd,wd=wc.setCell ⟨w.heap.size,2,none⟩ (.slice U6 S.texts.length c6):=⟨_,rfl⟩
     obtain⟨we,hwe⟩:∃we,we=wd.setCell ⟨w.heap.size,4,none⟩ (.slice U7 S.ends.length c7):=⟨_,rfl⟩
     obtain⟨wf,hwf⟩:∃wf,wf=we.setCell ⟨w.heap.size,5,none⟩ (.slice U8 S.said.length c8):=⟨_,rfl⟩
     have STc:Hid (wc.heap[w.heap.size]? = some (.cells #[.slice CG S.cells.length cg,.slice U5 S.shapes.length c5,.slice XA S.texts.length xc,.slice TG S.threads.length tg,.slice EA S.ends.length ec,.slice AA S.said.length ac,.int .i64 S.asked,.int .i64 S.steps] 40 (0,0))):=by rw[hwc,heap_setCell_same _ _ _ _ _ _ ST8.out];rfl
     have STd:Hid (wd.heap[w.heap.size]? = some (.cells #[.slice CG S.cells.length cg,.slice U5 S.shapes.length c5,.slice U6 S.texts.length c6,.slice TG S.threads.length tg,.slice EA S.ends.length ec,.slice AA S.said.length ac,.int .i64 S.asked,.int .i64 S.steps] 40 (0,0))):=by rw[hwd,heap_setCell_same _ _ _ _ _ _ STc.out];rfl
     have STe:Hid (we.heap[w.heap.size]? = some (.cells #[.slice CG S.cells.length cg,.slice U5 S.shapes.length c5,.slice U6 S.texts.length c6,.slice TG S.threads.length tg,.slice U7 S.ends.length c7,.slice AA S.said.length ac,.int .i64 S.asked,.int .i64 S.steps] 40 (0,0))):=by rw[hwe,heap_setCell_same _ _ _ _ _ _ STd.out];rfl
     have STf:Hid (wf.heap[w.heap.size]? = some (.cells #[.slice CG S.cells.length cg,.slice U5 S.shapes.length c5,.slice U6 S.texts.length c6,.slice TG S.threads.length tg,.slice U7 S.ends.length c7,.slice U8 S.said.length c8,.int .i64 S.asked,.int .i64 S.steps] 40 (0,0))):=by rw[hwf,heap_setCell_same _ _ _ _ _ _ STe.out];rfl
     have OUTf:Hid (∀k,k≠w.heap.size→wf.heap[k]? = w8.heap[k]?):=fun k hk=>by rw[hwf,heap_setCell_other _ _ _ _ hk,hwe,heap_setCell_other _ _ _ _ hk,hwd,heap_setCell_other _ _ _ _ hk,hwc,heap_setCell_other _ _ _ _ hk]
     have RSf:=hI ((OUTf.out (w.heap.size+1) (by omega)).trans RS8.out)
     have KWf:Hid (Below w.heap.size w wf):=by rw[hwf,hwe,hwd,hwc];exact(((KW8.out.setCell (Nat.le_refl _) _).setCell (Nat.le_refl _) _).setCell (Nat.le_refl _) _).setCell (Nat.le_refl _) _
     have KEf:Hid (dC wx wf):=by
      rw[hwf,hwe,hwd,hwc]
      rw[hwe,hwd,hwc] at STe;rw[hwd,hwc] at STd;rw[hwc] at STc
      exact((((dC.of K8.out).trans (aeB ST8.out (by decide) (by decide) (by decide))).trans (aeB STc.out (by decide) (by decide) (by decide))).trans (aeB STd.out (by decide) (by decide) (by decide))).trans (aeB STe.out (by decide) (by decide) (by decide))
     have hszf:wf.heap.size=w8.heap.size:=by rw[hwf,hwe,hwd,hwc];simp[World.setCell]
     rw[←hwc,←hwd,←hwe,←hwf]
     clear hwc hwd hwe hwf s1 s2 s4 s5 z1 z2 z4 z5 STc STd STe ST8
     have RG:=rrZ STf
     have LX:Hid ((Tryz.prog.info? 40).map (·.size)=some ([.slice CG S.cells.length cg,.slice U5 S.shapes.length c5,.slice U6 S.texts.length c6,.slice TG S.threads.length tg,.slice U7 S.ends.length c7,.slice U8 S.said.length c8,.int .i64 S.asked,.int .i64 S.steps]:List Value).length):=eC
     go_wp2_with (first
      | (refine wpList_load_mid rfl 40 _ rfl w.heap.size 0 rfl [.slice CG S.cells.length cg,.slice U5 S.shapes.length c5,.slice U6 S.texts.length c6,.slice TG S.threads.length tg,.slice U7 S.ends.length c7,.slice U8 S.said.length c8,.int .i64 S.asked,.int .i64 S.steps] _ RG.out Tryz.underlying40 rfl LX.out ?_)
      | (refine wpList_store_row rfl 40 _ _ rfl (w.heap.size+1) #[.slice CG S.cells.length cg,.slice U5 S.shapes.length c5,.slice U6 S.texts.length c6,.slice TG S.threads.length tg,.slice U7 S.ends.length c7,.slice U8 S.said.length c8,.int .i64 S.asked,.int .i64 S.steps] rfl rfl 40 _ RSf.out eC rfl (all_oneCell_toArray (by simp[Value.oneCell'])) ?_)
      | fail)
     generalize hw9:World.setRow _ _ _=w9
     have QR:=shZ hw9 RSf
     have K9:Hid (Below w.heap.size w w9):=by rw[←hw9];exact Below.set_row KWf.out (by omega) _
     have KE9:Hid (dC wx w9):=by rw[←hw9];exact KEf.out.trans (dC.set_row RSf.out (by decide) (by decide) (by decide))
     have hsz9:w9.heap.size=wf.heap.size:=by rw[←hw9];simp
     have OUT9:Hid (∀k,wx.heap.size≤k→w9.heap[k]? = w8.heap[k]?):=fun k hk=>by rw[←hw9,setRow_other _ _ _ _ (by omega)];exact OUTf.out k (by omega)
     have OUTx:Hid (∀k,w.heap.size+1+1<k→k<wx.heap.size→w9.heap[k]? = wx.heap[k]?):=fun k hk hk2=>by rw[←hw9,setRow_other _ _ _ _ (by omega)];exact(OUTf.out k (by omega)).trans (K8.out.block k hk2)
     clear hw9
     have hq1:=HZ1.out
     have RES:Hid (sL w9 w.heap.size [.slice CG S.cells.length cg,.slice U5 S.shapes.length c5,.slice U6 S.texts.length c6,.slice TG S.threads.length tg,.slice U7 S.ends.length c7,.slice U8 S.said.length c8,.int .i64 S.asked,.int .i64 S.steps] S co lo (.slice CG S.cells.length cg) (.slice TG S.threads.length tg) rows trows (.slice U5 S.shapes.length c5) (.slice U6 S.texts.length c6) (.slice U7 S.ends.length c7) (.slice U8 S.said.length c8)):=by
      have z5:=K5.out.size
      have z56:=K56.out.size
      have z67:=K67.out.size
      have z78:=K78.out.size
      have lq:=HCO.out.2.2 S.cells.length
      have lb:=HZb.out
      have lx:=HLO.out.2.2 S.threads.length
      have hw1q:w1.heap.size≤wq.heap.size:=Nat.le_trans HZ3.out HZR.out
      refine⟨rfl,dU (rF OC.out fun g hg=>OUTx.out g (by have:=(OC.out.lt g hg).1;omega) (OC.out.lt g hg).2) (by omega),HRL.out.1,HRL.out.2,fun i x hx=>?_,fun g hg=>?_,HCO.out.2.1,dU (rF OT.out fun g hg=>OUTx.out g (by have:=(OT.out.lt g hg).1;omega) (OT.out.lt g hg).2) lq,
       TRL.out.1,TRL.out.2,fun i x hx=>?_,fun g hg=>?_,HLO.out.2.1,?_,fun i=>?_,Q5.out.far (fun b hb=>⟨Nat.le_trans lx hb.1,by have:=hb.2;omega⟩) (fun b hb=>?_),Q6.out.far (fun b hb=>⟨?_,?_⟩) (fun b hb=>?_),Q7.out.far (fun b hb=>⟨?_,?_⟩) (fun b hb=>?_),Q8.out.far (fun b hb=>⟨?_,?_⟩) (fun b hb=>?_),HWC.out,HWT.out,HWF.out,?_⟩
      ·obtain⟨v,f,h1,h2⟩:=HPb.out i x hx
       exact⟨v,f,h1,(h2.keep KEX.out).keep KE9.out⟩
      ·rw[HCO.out.1];exact(CB3.out g hg).2
      ·obtain⟨f,h1,h2⟩:=HPF.out i x hx
       exact⟨f,h1,h2.keep KE9.out⟩
      ·rw[HLO.out.1];exact(CBb.out g hg).2
      ·rw[HLO.out.1];omega
      ·have:=HLO.out.2.2 i;omega
      ·have h1:=hb.1;have h2:=hb.2
       exact(OUT9.out b h1).trans ((K78.out.block b (by omega)).trans ((K67.out.block b (by omega)).trans (K56.out.block b h2)))
      ·have:=hb.1;omega
      ·have:=hb.2;omega
      ·have h1:=hb.1;have h2:=hb.2
       exact(OUT9.out b (by omega)).trans ((K78.out.block b (by omega)).trans (K67.out.block b h2))
      ·have:=hb.1;omega
      ·have:=hb.2;omega
      ·have h1:=hb.1;have h2:=hb.2
       exact(OUT9.out b (by omega)).trans (K78.out.block b h2)
      ·have:=hb.1;omega
      ·have:=hb.2;omega
      ·have h1:=hb.1;have h2:=hb.2
       exact OUT9.out b (by omega)
      ·rw[HCO.out.1];have:=HZ3.out;omega
     go_wp2_with fail
     have r0:=crZ QR 0 rfl
     have r1:=crZ QR 1 rfl
     have r2:=crZ QR 2 rfl
     have r3:=crZ QR 3 rfl
     have r4:=crZ QR 4 rfl
     have r5:=crZ QR 5 rfl
     have r6:=crZ QR 6 rfl
     have r7:=crZ QR 7 rfl
     refine bodyPost_ret (v:=.agg ⟨[.slice CG S.cells.length cg,.slice U5 S.shapes.length c5,.slice U6 S.texts.length c6,.slice TG S.threads.length tg,.slice U7 S.ends.length c7,.slice U8 S.said.length c8,.int .i64 S.asked,.int .i64 S.steps]⟩) (by simp[results,Tryz.results29,go_sem,r0,r1,r2,r3,r4,r5,r6,r7]) rfl ⟨_,rfl,⟨_,_,_,_,_,_,_,_,_,_,RES.out⟩,K9.out⟩
end
end Go.Proofs.YtjaphgpkkfdaaaaGreatDoor
