/- A part of the walk. -/
import Derived.Test.YtijihlcdhppfgaaGreatDoorVD
import Derived.Test.YtijihlcdhppfgaaGreatDoorVB
import Derived.Sort.CutIn
import Derived.Test.YtijihlcdhppfgaaGreatDoorZCJ
import Derived.RangeFuncBound
set_option maxHeartbeats 16000000
set_option maxRecDepth 100000
set_option linter.all false
namespace Go.Proofs.YtijihlcdhppfgaaGreatDoor
open Go.Proofs.Tryz
section
open Go.RowKit Go.Shelf
theorem apL (P:Program) (w:World) (a:Addr) (f:Fn) (x y:Array Value) (m:Mode):(store a (.func f x y) m).run P w=stored P w a (.func f x y) m:=run_store P w a _ m rfl
attribute [local go_sem] apL Oper.semAt_some
theorem aqR:(prog.info? 32).map (λi=>(i.zero.map (·.cells.size),i.size,i.bytes))=some (some 4,4,64):=by kernel_rfl
theorem aq8 (v:Value) (rows:List (List Value)) (w:World) (s:aB w w.heap.size 4 (Raw 4) v rows) (h1:∀r∈rows,∀u∈r,u.oneCell'=true) (G:rows.length*64<=140737488355328) : Calls prog 40 #[v] w λe w'=>∃u,e=.returned u/\w'.ownsRow w.heap.size 32 4 u rows.length (rows.flatMap id)/\Below w.heap.size w w':=by
 have d:∀x∈rows,x.length=4:=λx hx=>by obtain⟨cs,_,h⟩:=s.mem hx;exact h
 obtain⟨A,p,rfl,a3,a4,l⟩:=id s;cases A with
 | none=>
  have e:rows=[]:=by
   rcases Nat.eq_zero_or_pos rows.length with h | h
   ·exact List.length_eq_zero_iff.1 h
   ·obtain⟨b,K,h,_⟩:=l h;cases h
  subst e
  have O:∀W,(binOp .eql 28 (.slice none 0 p) (.slice none 0 0)).run prog W=.ok (.bool true) W:=λW=>Lib.run_eql_slice_nil W _ _ _ _ _ _ _ underlying28
  clear l s d h1
  simp only[List.length_nil] at *
  go_enter func40,ntmps40
  go_wp2_with fail
  go_ret
  exact⟨_,rfl,World.ownsRow_nil _ _ _ _,Below.refl _ _⟩
 | some ad=>
  have O:∀W,(binOp .eql 28 (.slice (some ad) rows.length p) (.slice none 0 0)).run prog W=.ok (.bool false) W:=λW=>Lib.run_eql_slice_nil W _ _ _ _ _ _ _ underlying28
  have g:∀j u,(rows.flatMap id)[j]? = some u->w.cell? (ad.add j)=some u:=by
   rcases Nat.eq_zero_or_pos rows.length with h | h
   ·have e:rows=[]:=List.length_eq_zero_iff.1 h
    subst e;simp
   ·obtain⟨b,K,h,_⟩:=l h
    injection h with h
    subst h
    exact fE (by decide) d (λcs x h=>h.1) s
  obtain⟨i0,hi,L⟩:=Option.map_eq_some_iff.1 aqR
  simp only[Prod.mk.injEq] at L
  obtain⟨M,y,D⟩:=L
  obtain⟨z,E,F⟩:=Option.map_eq_some_iff.1 M
  have P:=hI g
  have R:=hI hi
  have S:=hI E
  have H:=hI y
  have I:=hI D
  have J:=hI F
  have hl:rows.length<=maxLen:=by unfold maxLen;omega
  have V:=hI hl
  have HR:=hI d
  have X:=hI (jM (f:=id) rows h1)
  have Y:=hI (jA (f:=id) rows d)
  clear g hi E y D F M hl d h1 s l
  go_enter func40,ntmps40
  go_wp2_with (at_builtin;refine wpList_append_own _ rfl _ _ 28 rfl w.heap.size 32 i0 z 4 64 underlying28 R.o S.o H.o I.o J.o (by decide) (.slice (some ⟨w.heap.size,0,none⟩) 0 0) 0 [] rfl (jL _ _ _) ad rows.length p (rows.flatMap id) rfl Y.o (λj u hj=>kL (P.o j u hj) _) X.o (by rw[Nat.zero_add];exact V.o) (by rw[Nat.zero_add];exact G) (by simp) ?_)
  intro v' w6 q N _
  have Z:=hI N
  have KO:=hI q
  clear N q
  go_wp2_with fail
  go_ret
  refine⟨_,rfl,by simpa using KO.o,Below.grown (aA w _) Z.o (by simp) (by simp[Value.ownBlock])⟩
theorem apZ (n:Nat) (d:n<=600) (W:World):(Instr.makeSlice 88 (.int .i64 (n:Int)) (.int .i64 (n:Int))).run prog W=.ok (.slice (some ⟨W.heap.size,0,none⟩) n n) (W.alloc (.cells ⟨List.replicate n (.bool false)⟩ 4)):=aiR n d W
def apB (p:aZ) (t:aH) (w:World) (e:Ending) (w':World):Prop:=
 ∃cs,e=.returned (.tuple #[.agg ⟨cs⟩,.int .i64 (aoY (sO p t) t).2])/\bI w' w'.heap.size cs (aoY (sO p t) t).1/\Below w.heap.size w w'
theorem aqM (pcs ca:List Value) (p:aZ) (t:aH) (w:World) (hp:fL w w.heap.size pcs p) (ht:bI w w.heap.size ca t) (tab:Tab w) : Calls prog 15 #[.agg ⟨pcs⟩,.agg ⟨ca⟩] w (apB p t w):=by
 have HT:=hI ht;have HIp:=hI hp.size3;have HIt:=hI ht.size13;obtain⟨Ai,ni,p3,qi⟩:=ht.at3;obtain⟨Ae,ne,p4,qe⟩:=ht.at4;have QI:=hI qi;have QE:=hI qe;have P3:=hI p3;have P4:=hI p4;obtain⟨w0,hw0⟩:∃w0,w0=((w.alloc (.cells ⟨pcs⟩ 26)).alloc (.cells ⟨ca⟩ 34)).alloc (.cells ⟨bY⟩ 34):=⟨_,rfl⟩;have K0:Hid (Below w.heap.size w w0):=by rw[hw0];exact(bV w _ _).alloc (by simp;omega) _
 have D0:Hid (w0.heap[w.heap.size]? = some (.cells ⟨pcs⟩ 26 (0,0))):=by rw[hw0];exact a8 (a8 (aS w _) _) _
 have D1:Hid (w0.heap[w.heap.size+1]? = some (.cells ⟨ca⟩ 34 (0,0))):=by rw[hw0];exact a8 (iZ _ _ _) _
 have D2:Hid (w0.heap[w.heap.size+1+1]? = some (.cells ⟨bY⟩ 34 (0,0))):=by rw[hw0];exact oG _ _ _ _
 have hz0:w.heap.size+1+1<w0.heap.size:=(aE D2.o).1;have R1:=rrZ D0;have R2:=rrZ D1;unfold bY at hw0;have HW:=hI hw0;obtain⟨ce,hce⟩:∃ce,sO p t=ce:=⟨_,rfl⟩;have CE:=hI (aaW pcs ca p t w0 (hp.below K0.o) (ht.below K0.o) (tab.below K0.o));unfold apB;rw[show sO p t=ce from hce];unfold sO at hce;rw[hce] at CE;have HCE:=hI hce;clear hp ht hw0 qi qe hce p3 p4 tab;refine(callsIn_wide (n:=9)).1 ?_;refine callsIn_of_wp_marks func15 rfl trivial ?_;simp only[ntmps15,List.size_toArray,List.length_cons,List.length_nil,Nat.reduceAdd,Nat.reduceSub,Array.replicate_succ,Array.replicate_zero,List.push_toArray,List.append_toArray,List.nil_append,List.cons_append];refine wpIn_wide.2 ?_;go_wp2_with (first | (refine wpList_load_mid rfl 26 _ rfl w.heap.size 0 rfl pcs _ (by rw[<-HW.o];exact R1.o) underlying26 rfl HIp.o ?_) | (refine wpList_load_mid rfl 34 _ rfl (w.heap.size+1) 0 rfl ca _ (by rw[<-HW.o];exact R2.o) underlying34 rfl HIt.o ?_) | fail);rw[<-HW.o];refine CE.o.mono ?_;rintro e w1 ⟨rfl,k1⟩;have K1:=btZ K0 k1;have E1:=hI ((k1.block _ (by omega)).trans D1.o);have E2:=hI ((k1.block _ (by omega)).trans D2.o);have hz1:w.heap.size+1+1<w1.heap.size:=(aE E2.o).1;clear k1 R1 R2 CE;by_cases hc:ce=0
 case neg=>
  have hc':(ce != 0)=true:=by simpa using hc
  have HN:Hid (aoY ce t=(mT,ce)):=by unfold aoY Hid;rw[if_pos hc]
  go_wp2_with (refine wpList_store_row rfl 34 _ _ rfl (w.heap.size+1+1) ⟨bY⟩ rfl rfl 34 _ E2.o iG rfl (all_oneCell_toArray (by simp[bY,Value.oneCell'])) ?_);generalize hw9:World.setRow _ _ _=w9;have QR:=shZ hw9 E2;have K9:Hid (Below w.heap.size w w9):=by rw[<-hw9];exact Below.set_row K1.o (by omega) _
  clear hw9;go_wp2_with fail;have LV:=run_loadVar_mid w9 (w.heap.size+1+1) 0 34 bY _ (ak3 QR.o).range underlying34 rfl iG;rw[HN.o];exact⟨.tuple #[.agg ⟨bY⟩,.int .i64 ce],by simp[results,results15,asAddr,LV],⟨_,rfl,fR _ _,K9.o⟩⟩
 subst hc;have SM:=hI (acC HCE.o);have CUTS:=hI (mL HCE.o);have hlen:=SM.o.ins;have hxl:=SM.o.exitsLen;have HM:Hid (aoY 0 t=g9 (i9 t) (a9 t)):=by unfold aoY Hid;rw[if_neg (by simp)]
 have hmk:=λW=>apZ t.exits.length (by omega) W;have hmi:(t.ins.length:Int)<=300:=by omega
 have hme:(t.exits.length:Int)<=200:=by omega
 have hz1a:w.heap.size+1<w1.heap.size:=by omega
 have l4:w1.cell? ⟨w.heap.size+1,4,none⟩=some (.slice Ae t.exits.length ne):=ak3 E1.o 4 _ P4.o;obtain⟨w2,hw2⟩:∃w2,w2=w1.alloc (.cells (Array.replicate t.exits.length (.bool false)) 4):=⟨_,rfl⟩;have L2:Hid (Below w1.heap.size w1 w2):=by rw[hw2];exact aA _ _
 have K2:=btZ K1 L2.o;have F1:=hI ((L2.o.block _ (by omega)).trans E1.o);have F2:=hI ((L2.o.block _ (by omega)).trans E2.o);have FU:Hid (w2.heap[w1.heap.size]? = some (.cells ⟨t9 [] t.exits.length⟩ 4 (0,0))):=by rw[hw2,apI];exact aS _ _
 have hz2:w1.heap.size<w2.heap.size:=(aE FU.o).1;have HW2:=hI hw2;clear hw2;go_upto_region 5 with fail;rw[<-HW2.o];clear l4 hmk;have l3:w2.cell? ⟨w.heap.size+1,3,none⟩=some (.slice Ai t.ins.length ni):=ak3 F1.o 3 _ P3.o;go_wp2_with fail;clear l3;go_loopw [31] (λi wr=>∃j:Nat,i=.int .i64 j/\j<=t.ins.length/\Hid (wr.heap[w1.heap.size]? = some (.cells ⟨t9 ((t.ins.take j).map (·.exit)) t.exits.length⟩ 4 (0,0)))/\Hid (aV w1.heap.size w2 wr)) (λi _=>t.ins.length - (RowKit.intOf i).toNat);case atStart=>exact⟨0,rfl,by omega,FU,aV.refl _ _⟩
 case round=>
  obtain⟨j,rfl,hj,RU,RF⟩:=hrel
  obtain⟨wo,hwo⟩:∃wo,wo=wr:=⟨_,rfl⟩
  subst hwo
  have BW:=hI (K2.o.trans (RF.o.under (B:=w.heap.size) (by omega) K2.o.size))
  have hzo:w1.heap.size<wo.heap.size:=(aE RU.o).1
  by_cases hlt:j<t.ins.length
  ·obtain⟨b,off,x,rfl,hb,hx,wx,hat⟩:=tN QI.o hlt
   obtain⟨g0,g1,g2,g3,g4,g5,g6,g7⟩:=adD hat hb BW.o
   have hbz:b<wo.heap.size:=by omega
   have hji:(j:Int)<t.ins.length:=by omega
   have HX:=hI hx
   obtain⟨x0,x1⟩:=aqN HCE.o hx
   have hmap:Hid ((t.ins.take (j+1)).map (·.exit)=(t.ins.take j).map (·.exit)++[x.exit]):=by
    rw[show Hid _=_ from rfl,jJ hx,List.map_append];rfl
   clear hx wx hat
   by_cases c:0<=x.exit
   ·obtain⟨k,hk⟩:=Int.eq_ofNat_of_zero_le c
    have hkn:k<t.exits.length:=by omega
    have HK:=hI hk
    rw[hk] at g5
    have hki:(k:Int)<t.exits.length:=by omega
    have LA:=hI (aA wo (.cells #[.int .i64 x.op,.int .i64 x.a,.int .i64 x.b,.int .i64 x.c,.int .i64 x.n,.int .i64 (k:Int),.int .i64 x.k.kind,.int .i64 x.k.n] 53))
    obtain⟨wa,hwa⟩:∃wa,wa=wo.alloc (.cells #[.int .i64 x.op,.int .i64 x.a,.int .i64 x.b,.int .i64 x.c,.int .i64 x.n,.int .i64 (k:Int),.int .i64 x.k.kind,.int .i64 x.k.n] 53):=⟨_,rfl⟩
    have AU:Hid (wa.heap[w1.heap.size]? = some (.cells ⟨t9 ((t.ins.take j).map (·.exit)) t.exits.length⟩ 4 (0,0))):=by rw[hwa];exact(LA.o.block _ hzo).trans RU.o
    have AF:Hid (aV w1.heap.size w2 wa):=by rw[hwa];exact RF.o.alloc _
    have a5:wa.cell? ⟨wo.heap.size,5,none⟩=some (.int .i64 (k:Int)):=by rw[hwa];exact cell_of_row _ wo.heap.size 5 _ _ _ (aS wo _)
    have HWA:=hI hwa
    clear hwa hk
    go_upto_region 8 with fail
    rw[<-HWA.o]
    clear g0 g1 g2 g3 g4 g5 g6 g7
    have cu:=ak3 AU.o k _ (aoQ hkn)
    have fu:=frozen_of_row wa w1.heap.size k _ _ AU.o
    go_wp2_with fail
    go_roundw
    case rel=>
     refine⟨j+1,by go_num,by omega,?_,AF.o.set_ _ _⟩
     show _=_
     rw[heap_setCell_same wa w1.heap.size k _ _ _ AU.o,apH hkn,hmap.o,HK.o]
    case measure=>simp[RowKit.intOf];omega
   ·have hneg:x.exit<0:=by omega
    go_wp2_with fail
    go_roundw
    case rel=>
     refine⟨j+1,by go_num,by omega,?_,RF.o.alloc _⟩
     rw[hmap.o,aqJ hneg]
     exact a8 RU.o _
    case measure=>simp[RowKit.intOf];omega
  ·obtain rfl:j=t.ins.length:=by omega
   have hji:¬(t.ins.length:Int)<t.ins.length:=by omega
   have UE:Hid (wo.heap[w1.heap.size]? = some (.cells ⟨t9 (t.ins.map (·.exit)) t.exits.length⟩ 4 (0,0))):=by
    have h1:=RU.o
    rw[List.take_length] at h1
    exact h1
   have RT:=hI (RF.o.row F1.o (by omega))
   have RZ:=hI (RF.o.row F2.o (by omega))
   have hmk:=λW=>apZ t.ins.length (by omega) W
   have hzo1:w.heap.size+1<wo.heap.size:=by omega
   have l3:wo.cell? ⟨w.heap.size+1,3,none⟩=some (.slice Ai t.ins.length ni):=ak3 RT.o 3 _ P3.o
   obtain⟨w3,hw3⟩:∃w3,w3=((wo.alloc (.cells (Array.replicate t.ins.length (.bool false)) 4)).alloc (.cells #[.slice (some ⟨wo.heap.size,0,none⟩) t.ins.length t.ins.length] 88)).alloc (.cells #[.func (.func 39) #[] #[.pointer (some ⟨wo.heap.size+1,0,none⟩)]] 89):=⟨_,rfl⟩
   have L3:Hid (Below wo.heap.size wo w3):=by rw[hw3];exact(bV wo _ _).alloc (by simp;omega) _
   have K3:=btZ BW L3.o
   have GA:Hid (w3.heap[wo.heap.size]? = some (.cells ⟨t9 [] t.ins.length⟩ 4 (0,0))):=by rw[hw3,apI];exact a8 (a8 (aS wo _) _) _
   have GB:Hid (w3.heap[wo.heap.size+1]? = some (.cells #[.slice (some ⟨wo.heap.size,0,none⟩) t.ins.length t.ins.length] 88 (0,0))):=by rw[hw3];exact a8 (iZ _ _ _) _
   have GF:Hid (w3.heap[wo.heap.size+1+1]? = some (.cells #[.func (.func 39) #[] #[.pointer (some ⟨wo.heap.size+1,0,none⟩)]] 89 (0,0))):=by rw[hw3];exact oG _ _ _ _
   have GU:=hI ((L3.o.block _ hzo).trans UE.o)
   have GT:=hI ((L3.o.block _ hzo1).trans RT.o)
   have GZ:=hI ((L3.o.block _ (by omega)).trans RZ.o)
   have hz3:wo.heap.size+1+1<w3.heap.size:=(aE GF.o).1
   have HW3:=hI hw3
   clear hw3 RU RF UE RT RZ
   go_upto_region 13 with fail
   rw[<-HW3.o]
   clear l3 hmk
   obtain⟨rows,hr1,hr2,hr3⟩:=QE.o.raw
   have HR3:=hI hr3
   have hones:∀r∈rows,∀u∈r,u.oneCell'=true:=λr hr u hu=>by
    obtain⟨i,hi⟩:=List.getElem?_of_mem hr
    have hil:=(lE hi).1
    obtain⟨c,h1,h2⟩:=hr3 i _ (lG (by omega))
    rw[hi] at h1
    injection h1 with h1
    subst h1
    obtain⟨s,m,rfl,⟨_,_,rfl,-⟩,⟨_,_,rfl,-⟩,-⟩:=h2
    simp at hu;rcases hu with rfl | rfl | rfl | rfl <;> rfl
   have CL:=hI (aq8 (.slice Ae t.exits.length ne) rows w3 (hr2.keep K3.o.size (λ_ hp=>K3.o.cell hp) (λ_ _ h=>h)) hones (by rw[hr1];omega))
   have l4:w3.cell? ⟨w.heap.size+1,4,none⟩=some (.slice Ae t.exits.length ne):=ak3 GT.o 4 _ P4.o
   have hz31:w.heap.size+1<w3.heap.size:=by omega
   clear hones hr2 hr3
   go_wp2_with fail
   refine CL.o.mono ?_
   rintro e w4 ⟨u,rfl,hu,k4⟩
   rw[hr1] at hu
   have OU:=hI hu
   obtain⟨A9,c9,rfl⟩:=aeN hu
   have MA:=hI ((k4.block _ (by omega)).trans GA.o)
   have MB:=hI ((k4.block _ (by omega)).trans GB.o)
   have MF:=hI ((k4.block _ (by omega)).trans GF.o)
   have MU:=hI ((k4.block _ (by omega)).trans GU.o)
   have MT:=hI ((k4.block _ hz31).trans GT.o)
   have MZ:=hI ((k4.block _ (by omega)).trans GZ.o)
   have K4:=btZ K3 k4
   have k4s:=k4.size
   have t4:=ak3 MT.o 4 _ P4.o
   have f4:=fzZ MT 4
   clear hu k4 l4 CL GA GB GF GU GT GZ
   go_upto_region 14 with fail
   obtain⟨cb,hcb⟩:∃cb:List Value,cb=ca.set 4 (.slice A9 t.exits.length c9):=⟨_,rfl⟩
   have h4l:4<ca.length:=(lE P4.o).1
   have hset:(⟨ca⟩:Array Value).setIfInBounds 4 (.slice A9 t.exits.length c9)=⟨cb⟩:=by
    apply Array.toList_inj.1
    rw[Array.toList_setIfInBounds,hcb]
   obtain⟨w5,hw5⟩:∃w5,w5=w4.setCell ⟨w.heap.size+1,4,none⟩ (.slice A9 t.exits.length c9):=⟨_,rfl⟩
   have NT:Hid (w5.heap[w.heap.size+1]? = some (.cells ⟨cb⟩ 34 (0,0))):=by
    rw[hw5,heap_setCell_same w4 _ 4 _ _ _ MT.o,hset];rfl
   have far:∀(k:Nat) (o:Obj),w4.heap[k]? = some o->k≠w.heap.size+1->w5.heap[k]? = some o:=λk o h hk=>by
    rw[hw5,heap_setCell_other w4 _ _ _ (by show k≠w.heap.size+1;exact hk)];exact h
   have NA:=hI (far _ _ MA.o (by omega))
   have NB:=hI (far _ _ MB.o (by omega))
   have NF:=hI (far _ _ MF.o (by omega))
   have NU:=hI (far _ _ MU.o (by omega))
   have NZ:=hI (far _ _ MZ.o (by omega))
   have NO:Hid (w5.ownsRow w3.heap.size 32 4 (.slice A9 t.exits.length c9) t.exits.length (rows.flatMap id)):=by rw[hw5];exact cY OU.o MT.o (by decide) _ _
   have K5:Hid (Below w.heap.size w w5):=by rw[hw5];exact ak2 K4.o (by omega) _ _
   have n4:w5.cell? ⟨w.heap.size+1,4,none⟩=some (.slice A9 t.exits.length c9):=ak3 NT.o 4 _ (by rw[hcb];simp[h4l])
   have HW5:=hI hw5
   have HCB:=hI hcb
   have hz5:w3.heap.size<=w5.heap.size:=by rw[hw5];simp[World.setCell];exact k4s
   clear hw5 hcb far t4 f4 MA MB MF MU MT MZ OU hset
   rw[<-HW5.o]
   go_wp2_with fail
   clear n4
   go_loopw [55] (λi wr=>∃j:Nat,i=.int .i64 j/\j<=t.exits.length/\Hid (wr.ownsRow w3.heap.size 32 4 (.slice A9 t.exits.length c9) t.exits.length ((aoN (aoS t) rows j).flatMap id))/\
    Hid (wr.heap[wo.heap.size]? = some (.cells ⟨t9 (((oT t).take j).flatMap v9) t.ins.length⟩ 4 (0,0)))/\Hid (z9 wo.heap.size (Value.slice A9 t.exits.length c9).ownBlock w5 wr)) (λi _=>t.exits.length - (RowKit.intOf i).toNat)
   case atStart=>exact⟨0,rfl,by omega,by rw[aqU];exact NO,NA,z9.refl _ _ _⟩
   case round=>
    obtain⟨j,rfl,hj,RO,RA,RK⟩:=hrel
    obtain⟨wi,hwi⟩:∃wi,wi=wr:=⟨_,rfl⟩
    subst hwi
    by_cases hlt:j<t.exits.length
    ·have hji:(j:Int)<t.exits.length:=by omega
     obtain⟨G,rfl,hG⟩:=arB RO.o (by omega)
     obtain⟨y,hy⟩:∃y,t.exits[j]? = some y:=⟨_,lG hlt⟩
     obtain⟨r,hr,hx⟩:=HR3.o j y hy
     have hfour:∀x∈rows,x.length=4:=λx hx=>by
      obtain⟨i,hi⟩:=List.getElem?_of_mem hx
      have hil:=(lE hi).1
      obtain⟨c,h1,h2⟩:=HR3.o i _ (lG (by omega))
      rw[hi] at h1
      injection h1 with h1
      subst h1
      obtain⟨s,m,rfl,-⟩:=h2
      rfl
     obtain⟨s,m,rfl,hs,hm,wy1,wy2⟩:=hx
     obtain⟨S,cS,rfl,-⟩:=id hs
     obtain⟨M,cM,rfl,-⟩:=id hm
     have hat:∀k,k<4->wi.cell? ⟨G,j*4+k,none⟩=([.int .i64 y.at_,.int .i64 y.steps,.slice S y.sets.length cS,.slice M y.makes.length cM]:List Value)[k]?:=λk hk=>by
      rw[World.ownsRow.cellAt RO.o (j*4+k) (by omega)]
      exact apQ _ j k _ (ao9 hfour j) ((aqW _ rows j).trans hr) hk
     have g0:wi.cell? ⟨G,j*4,none⟩=some (.int .i64 y.at_):=hat 0 (by omega)
     have g1:wi.cell? ⟨G,j*4+1,none⟩=some (.int .i64 y.steps):=hat 1 (by omega)
     have g2:wi.cell? ⟨G,j*4+2,none⟩=some (.slice S y.sets.length cS):=hat 2 (by omega)
     have g3:wi.cell? ⟨G,j*4+3,none⟩=some (.slice M y.makes.length cM):=hat 3 (by omega)
     have hzG:G<wi.heap.size:=eL g0
     have IU:=hI (RK.o.row NU.o (by omega) (by simp[Value.ownBlock];omega))
     have IB:=hI (RK.o.row NB.o (by omega) (by simp[Value.ownBlock];omega))
     have IF:=hI (RK.o.row NF.o (by omega) (by simp[Value.ownBlock];omega))
     have IT:=hI (RK.o.row NT.o (by omega) (by simp[Value.ownBlock];omega))
     have BI:=hI (K5.o.trans (RK.o.below (B:=w.heap.size) (by omega) (λk e=>by simp[Value.ownBlock] at e;omega) K5.o.size))
     have hzU:w1.heap.size<wi.heap.size:=(aE IU.o).1
     obtain⟨ub,hub⟩:∃ub,aoS t j=ub:=⟨_,rfl⟩
     have u0:wi.cell? ⟨w1.heap.size,j,none⟩=some (.bool ub):=ak3 IU.o j _ (by rw[aoQ hlt,used_eq,hub])
     have YR:Hid (fM w w.heap.size [.int .i64 y.at_,.int .i64 y.steps,.slice S y.sets.length cS,.slice M y.makes.length cM] y):=⟨_,_,rfl,hs,hm,wy1,wy2⟩
     have HY:=hI hy
     have HRr:=hI hr
     have HFOUR:=hI hfour
     have HUB:=hI hub
     clear hat hs hm wy1 wy2 hy hr hfour hub
     obtain⟨wa,hwa⟩:∃wa,wa=wi.alloc (.cells #[.int .i64 y.at_,.int .i64 y.steps,.slice S y.sets.length cS,.slice M y.makes.length cM] 32):=⟨_,rfl⟩
     have LA:Hid (Below wi.heap.size wi wa):=by rw[hwa];exact aA _ _
     have AX:Hid (wa.heap[wi.heap.size]? = some (.cells ⟨[.int .i64 y.at_,.int .i64 y.steps,.slice S y.sets.length cS,.slice M y.makes.length cM]⟩ 32 (0,0))):=by rw[hwa];exact aS _ _
     have hza:wi.heap.size<wa.heap.size:=(aE AX.o).1
     have AO:Hid (wa.ownsRow w3.heap.size 32 4 (.slice (some ⟨G,0,none⟩) t.exits.length c9) t.exits.length ((aoN (aoS t) rows (j)).flatMap id)):=by rw[hwa];exact RO.o.alloc _
     have hzAS:wo.heap.size<wi.heap.size:=(aE RA.o).1
     have hzT:w.heap.size+1<wi.heap.size:=by omega
     have AA:=hI ((LA.o.block _ hzAS).trans RA.o)
     have AT:=hI ((LA.o.block _ hzT).trans IT.o)
     have AK:=hI (RK.o.then (LA.o.mono RK.o.size))
     have hw5i:w5.heap.size<=wi.heap.size:=RK.o.size
     have HWA:=hI hwa
     have ua:wa.cell? ⟨w1.heap.size,j,none⟩=some (.bool ub):=(LA.o.cell hzU).trans u0
     clear hwa u0 RO RA RK
     go_upto_region 17 with fail
     rw[<-HWA.o]
     clear g0 g1 g2 g3
     go_upto_if 64 with fail
     go_cut [55] from 55 to 76 (λi wx=>i=.int .i64 (j:Int)/\∃sv mv:Value,Hid (wx.heap[wi.heap.size]? = some (.cells ⟨[.int .i64 y.at_,.int .i64 y.steps,sv,mv]⟩ 32 (0,0)))/\Hid (fM w w.heap.size [.int .i64 y.at_,.int .i64 y.steps,sv,mv] (aoM t j y))/\
      Hid (wx.ownsRow w3.heap.size 32 4 (.slice (some ⟨G,0,none⟩) t.exits.length c9) t.exits.length ((aoN (aoS t) rows (j+1)).flatMap id))/\Hid (wx.heap[wo.heap.size]? = some (.cells ⟨t9 (((oT t).take j).flatMap v9) t.ins.length⟩ 4 (0,0)))/\Hid (z9 wo.heap.size (Value.slice (some ⟨G,0,none⟩) t.exits.length c9).ownBlock w5 wx))
     case first=>
      cases ub
      case true=>
       have hdx:aoM t j y=y:=by unfold aoM;rw[HUB.o];rfl
       have D1:Hid (wa.ownsRow w3.heap.size 32 4 (.slice (some ⟨G,0,none⟩) t.exits.length c9) t.exits.length ((aoN (aoS t) rows (j+1)).flatMap id)):=by rw[aqV HUB.o];exact AO.o
       have D2:Hid (fM w w.heap.size [.int .i64 y.at_,.int .i64 y.steps,.slice S y.sets.length cS,.slice M y.makes.length cM] (aoM t j y)):=by rw[hdx];exact YR.o
       clear hdx
       go_wp2_with fail
       go_meet
       case rel=>exact⟨rfl,_,_,AX,D2,D1,AA,AK⟩
      case false=>
       have c2:=ak3 AX.o 2 (.slice S y.sets.length cS) rfl
       have c3:=ak3 AX.o 3 (.slice M y.makes.length cM) rfl
       have f2:=fzZ AX 2
       have f3:=fzZ AX 3
       go_upto_region 19 with fail
       obtain⟨wb,hwb⟩:∃wb,wb=(wa.setCell ⟨wi.heap.size,2,none⟩ (.slice none 0 0)).setCell ⟨wi.heap.size,3,none⟩ (.slice none 0 0):=⟨_,rfl⟩
       have BX:Hid (wb.heap[wi.heap.size]? = some (.cells ⟨[.int .i64 y.at_,.int .i64 y.steps,.slice none 0 0,.slice none 0 0]⟩ 32 (0,0))):=by
        rw[hwb,heap_setCell_same _ _ 3 _ _ _ (heap_setCell_same wa _ 2 _ _ _ AX.o)];rfl
       have far:∀(k:Nat) (o:Obj),wa.heap[k]? = some o->k≠wi.heap.size->wb.heap[k]? = some o:=λk o h hk=>by
        rw[hwb,heap_setCell_other _ _ _ _ (by show k≠wi.heap.size;exact hk),heap_setCell_other wa _ _ _ (by show k≠wi.heap.size;exact hk)];exact h
       have BA:=hI (far _ _ AA.o (by omega))
       have BT:=hI (far _ _ AT.o (by omega))
       have BO:Hid (wb.ownsRow w3.heap.size 32 4 (.slice (some ⟨G,0,none⟩) t.exits.length c9) t.exits.length ((aoN (aoS t) rows j).flatMap id)):=by rw[hwb];exact apY (apY AO.o (by simp[Value.ownBlock];omega) _ _) (by simp[Value.ownBlock];omega) _ _
       have BK:Hid (z9 wo.heap.size (Value.slice (some ⟨G,0,none⟩) t.exits.length c9).ownBlock w5 wb):=by rw[hwb];exact AK.o.then (ak2 (ak2 (Below.refl _ _) hw5i _ _) hw5i _ _)
       have HWB:=hI hwb
       clear hwb far c2 c3 f2 f3 ua
       rw[<-HWB.o]
       have b4:wb.cell? ⟨w.heap.size+1,4,none⟩=some (.slice (some ⟨G,0,none⟩) t.exits.length c9):=ak3 BT.o 4 _ (by rw[HCB.o];simp[h4l])
       have RGX:=rrZ BX
       have LX:Hid ((prog.info? 32).map (·.size)=some ([.int .i64 y.at_,.int .i64 y.steps,.slice none 0 0,.slice none 0 0]:List Value).length):=mH
       have TH:=hI (arK BO.o hlt)
       go_wp2_with (first
        | (refine wpList_load_mid rfl 32 _ rfl wi.heap.size 0 rfl [.int .i64 y.at_,.int .i64 y.steps,.slice none 0 0,.slice none 0 0] _ RGX.o underlying32 rfl LX.o ?_)
        | (refine wpList_store_mid rfl 32 _ _ rfl G (j*4) #[.int .i64 y.at_,.int .i64 y.steps,.slice none 0 0,.slice none 0 0] rfl rfl TH.o mH (oCz (by simp[Value.oneCell'])) ?_)
        | fail)
       generalize hw9:World.setCells _ _ _ _=w9
       have CO:Hid (w9.ownsRow w3.heap.size 32 4 (.slice (some ⟨G,0,none⟩) t.exits.length c9) t.exits.length ((aoN (aoS t) rows (j+1)).flatMap id)):=by
        have h9:=own_set BO.o hlt (vs:=[.int .i64 y.at_,.int .i64 y.steps,.slice none 0 0,.slice none 0 0]) rfl
        rw[<-aqK (aoN (aoS t) rows j) j _ (ao9 HFOUR.o j) rfl (by rw[ap6,hr1];exact hlt),show([.int .i64 y.at_,.int .i64 y.steps,.slice none 0 0,.slice none 0 0]:List Value)=aqD [.int .i64 y.at_,.int .i64 y.steps,.slice S y.sets.length cS,.slice M y.makes.length cM] from rfl,<-aq7 HUB.o HRr.o] at h9
        rw[<-hw9];exact h9
       have CX:Hid (w9.heap[wi.heap.size]? = some (.cells ⟨[.int .i64 y.at_,.int .i64 y.steps,.slice none 0 0,.slice none 0 0]⟩ 32 (0,0))):=by rw[<-hw9,aoW _ _ _ _ (by omega)];exact BX.o
       have CA:Hid (w9.heap[wo.heap.size]? = some (.cells ⟨t9 (((oT t).take j).flatMap v9) t.ins.length⟩ 4 (0,0))):=by rw[<-hw9,aoW _ _ _ _ (by omega)];exact BA.o
       have CK:Hid (z9 wo.heap.size (Value.slice (some ⟨G,0,none⟩) t.exits.length c9).ownBlock w5 w9):=by rw[<-hw9];exact z9.cells BK.o _ _
       have D2:Hid (fM w w.heap.size [.int .i64 y.at_,.int .i64 y.steps,.slice none 0 0,.slice none 0 0] (aoM t j y)):=by
        have hdx:aoM t j y=⟨y.at_,y.steps,[],[]⟩:=by unfold aoM;rw[HUB.o];rfl
        rw[hdx]
        obtain⟨_,_,e,_,_,h4,h5⟩:=YR.o
        exact⟨_,_,rfl,aB.nil _ _ _ _,aB.nil _ _ _ _,h4,h5⟩
       clear hw9 b4
       go_wp2_with fail
       go_meet
       case rel=>exact⟨rfl,_,_,CX,D2,CO,CA,CK⟩
     case rest=>
      obtain⟨wb,hwb⟩:∃wb,wb=wc:=⟨_,rfl⟩
      subst hwb
      obtain⟨rfl,sv,mv,CX,CR,CO,CA,CK⟩:=hcut
      have hw5b:w5.heap.size<=wb.heap.size:=CK.o.size
      have CF:=hI (CK.o.row NF.o (by omega) (by simp[Value.ownBlock];omega))
      have CB:=hI (CK.o.row NB.o (by omega) (by simp[Value.ownBlock];omega))
      have BB:=hI (K5.o.trans (CK.o.below (B:=w.heap.size) (by omega) (λk e=>by simp[Value.ownBlock] at e;omega) K5.o.size))
      have hzb:wi.heap.size<wb.heap.size:=(aE CX.o).1
      have hzA:wo.heap.size<wb.heap.size:=(aE CA.o).1
      have f0:=crZ CF 0 rfl
      have e0:=ecZ f0
      have RX:Hid (∀E:Up wb,E.to.rangeAt wi.heap.size 0 [.int .i64 y.at_,.int .i64 y.steps,sv,mv]):=λE a v hv=>E.cell ((ak3 CX.o).range a v hv)
      have LX:Hid ((prog.info? 32).map (·.size)=some ([.int .i64 y.at_,.int .i64 y.steps,sv,mv]:List Value).length):=mH
      have OC:=hI (apM [.int .i64 y.at_,.int .i64 y.steps,sv,mv] (aoM t j y) wb.drew (CR.o.keep BB.o.size (λ_ hp=>BB.o.cell hp)) (apJ (SM.o.exits y (lM HY.o))))
      clear f0
      go_upto_region 20 with fail
      refine ao4 ?_
      refine cE (λw'=>∃E:Up wb,w'=E.to) 2 [2,3] [2] (by kernel_rfl) (by decide) (by kernel_rfl) (λc _ _ _ _ h=>(h.1 c rfl).elim) ⟨⟨_,(Below.refl _ wb).drew⟩,rfl⟩ ?_
      simp only[List.take_succ_cons,List.take_zero]
      generalize hqq:(λa'=>gT _ _ _ _ _ _ a' _)=qq
      have HQQ:=hI hqq
      clear hqq
      repeat (first
       | (refine dE 32 _ rfl rfl wi.heap.size 0 rfl [.int .i64 y.at_,.int .i64 y.steps,sv,mv] _ RX.o underlying32 rfl LX.o ?_;go_simp)
       | go_big_quiet_step (fail))
      refine wpQuiet_nil ?_
      rw[<-HQQ.o]
      clear HQQ qq e0 RX LX
      refine aR rfl (λK hK=>?_)
      go_simp
      refine OC.o.mono ?_
      rintro e w6 ⟨v,rfl,hv,k6⟩
      have L6:Hid (Below wb.heap.size wb w6):=(Below.refl _ wb).drew.trans k6
      refine hK _ _ (λ_=>⟨⟨w6,L6.o⟩,rfl⟩) ?_
      clear hK K k6
      have DA:=hI ((L6.o.block _ hzA).trans CA.o)
      have DB:=hI ((L6.o.block _ (by omega)).trans CB.o)
      have MC:=hI (aqC v (v9 (aoM t j y)) (((oT t).take j).flatMap v9) (wo.heap.size+1) wo.heap.size t.ins.length w6 hlen hv (ao3 (arF (CUTS.o.exits y (lM HY.o)))) (cell_of_row w6 (wo.heap.size+1) 0 _ _ _ DB.o) DA.o (by omega))
      refine bG [3] _ _ (by kernel_rfl) (by kernel_rfl) ?_
      simp only[List.filterMap_cons,List.filterMap_nil,List.getElem?_toArray,List.getElem?_cons_zero,List.getElem?_cons_succ]
      go_wp2_with fail
      refine MC.o.mono ?_
      rintro e w7 ⟨rfl,m1,m2⟩
      have M1:=hI m1
      have M2:=hI m2
      clear m1 m2
      go_wp2_with fail
      refine⟨λx h=>(by cases h),?_⟩
      go_wp2_with fail
      go_roundw
      case rel=>
       refine⟨j+1,by go_num,by omega,?_,?_,?_⟩
       ·exact M2.o.own ((aV.of_below (bc:=wo.heap.size) L6.o).own CO.o (by omega)) (by omega)
       ·rw[apU HY.o,List.flatMap_append]
        exact hI (by simpa using M1.o)
       ·exact(CK.o.then (L6.o.mono hw5b)).fined M2.o
      case measure=>simp[RowKit.intOf];omega
    ·obtain rfl:j=t.exits.length:=by omega
     have hji:¬(t.exits.length:Int)<t.exits.length:=by omega
     have hob:∀G,(Value.slice A9 t.exits.length c9).ownBlock=some G->w3.heap.size<=G:=λG e=>(hY RO.o G e).1
     have hno:∀k,k<w3.heap.size->(Value.slice A9 t.exits.length c9).ownBlock≠some k:=λk hk e=>by have:=hob k e;omega
     have AE:Hid (wi.heap[wo.heap.size]? = some (.cells ⟨t9 ((oT t).flatMap v9) t.ins.length⟩ 4 (0,0))):=by
      have h1:=RA.o
      rw[List.take_of_length_le (by simp[oT])] at h1
      exact h1
     have IT:=hI (RK.o.row NT.o (by omega) (hno _ (by omega)))
     have IZ:=hI (RK.o.row NZ.o (by omega) (hno _ (by omega)))
     have IB:=hI (RK.o.row NB.o (by omega) (hno _ (by omega)))
     have IF:=hI (RK.o.row NF.o (by omega) (hno _ (by omega)))
     have BI:=hI (K5.o.trans (RK.o.below (B:=w.heap.size) (by omega) (λk e=>by have:=hob k e;omega) K5.o.size))
     obtain⟨ct,cbk,hct,hcbk,et,eb⟩:=bI.at59 HT.o
     have HCT:Hid (∀i v,ct[i]? = some v->cb[5+i]? = some v):=λi v hv=>by rw[HCB.o,List.getElem?_set_ne (by omega)];exact hct i v hv
     have HCK:Hid (∀i v,cbk[i]? = some v->cb[9+i]? = some v):=λi v hv=>by rw[HCB.o,List.getElem?_set_ne (by omega)];exact hcbk i v hv
     have ET:=hI et
     have EB:=hI eb
     clear hct hcbk et eb RA
     go_upto_region 22 with fail
     obtain⟨s1,m1,rfl,⟨S1,cS1,rfl,-⟩,⟨N1,cN1,rfl,-⟩,-⟩:=id ET.o
     have hzi2:w5.heap.size<=wi.heap.size:=RK.o.size
     have hzA:wo.heap.size<wi.heap.size:=(aE AE.o).1
     have f0:=crZ IF 0 rfl
     have e0:=ecZ f0
     have RX:Hid (∀E:Up wi,E.to.rangeAt (w.heap.size+1) 5 [.int .i64 t.turn.at_,.int .i64 t.turn.steps,.slice S1 t.turn.sets.length cS1,.slice N1 t.turn.makes.length cN1]):=λE a v hv=>E.cell (ak3 IT.o (5+a) v (HCT.o a v hv))
     have LX:Hid ((prog.info? 32).map (·.size)=some ([.int .i64 t.turn.at_,.int .i64 t.turn.steps,.slice S1 t.turn.sets.length cS1,.slice N1 t.turn.makes.length cN1]:List Value).length):=mH
     have OC:=hI (apM [.int .i64 t.turn.at_,.int .i64 t.turn.steps,.slice S1 t.turn.sets.length cS1,.slice N1 t.turn.makes.length cN1] t.turn wi.drew (ET.o.keep BI.o.size (λ_ hp=>BI.o.cell hp)) SM.o.turn)
     clear f0
     refine ao4 ?_
     refine cE (λw'=>∃E:Up wi,w'=E.to) 3 [3,4] [3] (by kernel_rfl) (by decide) (by kernel_rfl) (λc _ _ _ _ h=>(h.1 c rfl).elim) ⟨⟨_,(Below.refl _ wi).drew⟩,rfl⟩ ?_
     simp only[List.take_succ_cons,List.take_zero]
     generalize hqq:(λa'=>gT _ _ _ _ _ _ a' _)=qq
     have HQQ:=hI hqq
     clear hqq
     repeat (first
      | (refine dE 32 _ rfl rfl (w.heap.size+1) 5 rfl [.int .i64 t.turn.at_,.int .i64 t.turn.steps,.slice S1 t.turn.sets.length cS1,.slice N1 t.turn.makes.length cN1] _ RX.o underlying32 rfl LX.o ?_;go_simp)
      | go_big_quiet_step (fail))
     refine wpQuiet_nil ?_
     rw[<-HQQ.o]
     clear HQQ qq e0 RX LX
     refine aR rfl (λK hK=>?_)
     go_simp
     refine OC.o.mono ?_
     rintro e w6 ⟨v,rfl,hv,k6⟩
     have L6:Hid (Below wi.heap.size wi w6):=(Below.refl _ wi).drew.trans k6
     refine hK _ _ (λ_=>⟨⟨w6,L6.o⟩,rfl⟩) ?_
     clear hK K k6
     have DA:=hI ((L6.o.block _ hzA).trans AE.o)
     have DB:=hI ((L6.o.block _ (by omega)).trans IB.o)
     have MC:=hI (aqC v (v9 t.turn) ((oT t).flatMap v9) (wo.heap.size+1) wo.heap.size t.ins.length w6 hlen hv (ao3 CUTS.o.turn) (cell_of_row w6 (wo.heap.size+1) 0 _ _ _ DB.o) DA.o (by omega))
     refine bG [4] _ _ (by kernel_rfl) (by kernel_rfl) ?_
     simp only[List.filterMap_cons,List.filterMap_nil,List.getElem?_toArray,List.getElem?_cons_zero,List.getElem?_cons_succ]
     go_wp2_with fail
     refine MC.o.mono ?_
     rintro e w7 ⟨rfl,m1,m2⟩
     have TA:=hI m1
     have TF:Hid (z9 wo.heap.size (Value.slice A9 t.exits.length c9).ownBlock w5 w7):=(RK.o.then (L6.o.mono hzi2)).fined m2
     have TO:=hI (m2.own ((aV.of_below (bc:=wo.heap.size) L6.o).own RO.o (by omega)) (by omega))
     clear m1 m2 RK RO IT IZ IB IF BI DA DB OC MC
     go_wp2_with fail
     refine⟨λx h=>(by cases h),?_⟩
     go_upto_region 23 with fail
     have IT:=hI (TF.o.row NT.o (by omega) (hno _ (by omega)))
     have IZ:=hI (TF.o.row NZ.o (by omega) (hno _ (by omega)))
     have IB:=hI (TF.o.row NB.o (by omega) (hno _ (by omega)))
     have IF:=hI (TF.o.row NF.o (by omega) (hno _ (by omega)))
     have BI:=hI (K5.o.trans (TF.o.below (B:=w.heap.size) (by omega) (λk e=>by have:=hob k e;omega) K5.o.size))
     obtain⟨s2,m2,rfl,⟨S2,cS2,rfl,-⟩,⟨N2,cN2,rfl,-⟩,-⟩:=id EB.o
     have hzi3:w5.heap.size<=w7.heap.size:=TF.o.size
     have hzA2:wo.heap.size<w7.heap.size:=(aE TA.o).1
     have f0:=crZ IF 0 rfl
     have e0:=ecZ f0
     have RX:Hid (∀E:Up w7,E.to.rangeAt (w.heap.size+1) 9 [.int .i64 t.back.at_,.int .i64 t.back.steps,.slice S2 t.back.sets.length cS2,.slice N2 t.back.makes.length cN2]):=λE a v hv=>E.cell (ak3 IT.o (9+a) v (HCK.o a v hv))
     have LX:Hid ((prog.info? 32).map (·.size)=some ([.int .i64 t.back.at_,.int .i64 t.back.steps,.slice S2 t.back.sets.length cS2,.slice N2 t.back.makes.length cN2]:List Value).length):=mH
     have OC:=hI (apM [.int .i64 t.back.at_,.int .i64 t.back.steps,.slice S2 t.back.sets.length cS2,.slice N2 t.back.makes.length cN2] t.back w7.drew (EB.o.keep BI.o.size (λ_ hp=>BI.o.cell hp)) SM.o.back)
     clear f0
     refine ao4 ?_
     refine cE (λw'=>∃E:Up w7,w'=E.to) 3 [3,4] [3] (by kernel_rfl) (by decide) (by kernel_rfl) (λc _ _ _ _ h=>(h.1 c rfl).elim) ⟨⟨_,(Below.refl _ w7).drew⟩,rfl⟩ ?_
     simp only[List.take_succ_cons,List.take_zero]
     generalize hqq:(λa'=>gT _ _ _ _ _ _ a' _)=qq
     have HQQ:=hI hqq
     clear hqq
     repeat (first
      | (refine dE 32 _ rfl rfl (w.heap.size+1) 9 rfl [.int .i64 t.back.at_,.int .i64 t.back.steps,.slice S2 t.back.sets.length cS2,.slice N2 t.back.makes.length cN2] _ RX.o underlying32 rfl LX.o ?_;go_simp)
      | go_big_quiet_step (fail))
     refine wpQuiet_nil ?_
     rw[<-HQQ.o]
     clear HQQ qq e0 RX LX
     refine aR rfl (λK hK=>?_)
     go_simp
     refine OC.o.mono ?_
     rintro e w8 ⟨v,rfl,hv,k6⟩
     have L6:Hid (Below w7.heap.size w7 w8):=(Below.refl _ w7).drew.trans k6
     refine hK _ _ (λ_=>⟨⟨w8,L6.o⟩,rfl⟩) ?_
     clear hK K k6
     have DA:=hI ((L6.o.block _ hzA2).trans TA.o)
     have DB:=hI ((L6.o.block _ (by omega)).trans IB.o)
     have MC:=hI (aqC v (v9 t.back) ((oT t).flatMap v9++v9 t.turn) (wo.heap.size+1) wo.heap.size t.ins.length w8 hlen hv (ao3 CUTS.o.back) (cell_of_row w8 (wo.heap.size+1) 0 _ _ _ DB.o) DA.o (by omega))
     refine bG [4] _ _ (by kernel_rfl) (by kernel_rfl) ?_
     simp only[List.filterMap_cons,List.filterMap_nil,List.getElem?_toArray,List.getElem?_cons_zero,List.getElem?_cons_succ]
     go_wp2_with fail
     refine MC.o.mono ?_
     rintro e w9 ⟨rfl,m1,m2⟩
     have UA:=hI m1
     have UF:Hid (z9 wo.heap.size (Value.slice A9 t.exits.length c9).ownBlock w5 w9):=(TF.o.then (L6.o.mono hzi3)).fined m2
     have UO:=hI (m2.own ((aV.of_below (bc:=wo.heap.size) L6.o).own TO.o (by omega)) (by omega))
     clear m1 m2 TF TO IT IZ IB IF BI DA DB OC MC
     go_wp2_with fail
     refine⟨λx h=>(by cases h),?_⟩
     go_upto_region 24 with fail
     have JT:=hI (UF.o.row NT.o (by omega) (hno _ (by omega)))
     have hz9:w5.heap.size<=w9.heap.size:=UF.o.size
     have hz91:w.heap.size+1<w9.heap.size:=by omega
     have hmk:=λW=>mk_ints t.ins.length (by omega) W
     have l3:w9.cell? ⟨w.heap.size+1,3,none⟩=some (.slice Ai t.ins.length ni):=ak3 JT.o 3 _ (by rw[HCB.o,List.getElem?_set_ne (by omega)];exact P3.o)
     obtain⟨w10,hw10⟩:∃w10,w10=(w9.alloc (.cells (Array.replicate t.ins.length (.int .i64 0)) 3)).alloc (.cells #[.slice (some ⟨w9.heap.size,0,none⟩) t.ins.length t.ins.length] 55):=⟨_,rfl⟩
     have L10:Hid (Below w9.heap.size w9 w10):=by rw[hw10];exact bV w9 _ _
     have VT:Hid (w10.heap[w9.heap.size]? = some (.cells ⟨List.replicate t.ins.length (.int .i64 0)⟩ 3 (0,0))):=by rw[hw10];exact a8 (aS w9 _) _
     have VB:Hid (w10.heap[w9.heap.size+1]? = some (.cells #[.slice (some ⟨w9.heap.size,0,none⟩) t.ins.length t.ins.length] 55 (0,0))):=by rw[hw10];exact iZ _ _ _
     have HW10:=hI hw10
     clear hw10
     go_upto_region 25 with fail
     rw[<-HW10.o]
     clear l3 hmk
     have VT9:=hI (oR L10.o JT.o)
     have l3:w10.cell? ⟨w.heap.size+1,3,none⟩=some (.slice Ai t.ins.length ni):=ak3 VT9.o 3 _ (by rw[HCB.o,List.getElem?_set_ne (by omega)];exact P3.o)
     have hz101:w.heap.size+1<w10.heap.size:=(aE VT9.o).1
     go_wp2_with fail
     refine(aqY Ai t.ins.length ni w10).mono ?_
     rintro e w11 ⟨rfl,hw11⟩
     have L11:Hid (Below w10.heap.size w10 w11):=by rw[hw11];exact aA _ _
     have XB:Hid (w11.heap[w10.heap.size]? = some (.cells #[.slice Ai t.ins.length ni] 27 (0,0))):=by rw[hw11];exact aS _ _
     have hz11:w11.heap.size=w10.heap.size+1:=by rw[hw11];simp
     clear hw11 l3
     have hz9b:w5.heap.size<=w9.heap.size:=UF.o.size
     have hz10:w9.heap.size+1<w10.heap.size:=(aE VB.o).1
     have hzA9:wo.heap.size<w9.heap.size:=(aE UA.o).1
     have XA:Hid (w11.heap[wo.heap.size]? = some (.cells ⟨t9 (ao1 t) t.ins.length⟩ 4 (0,0))):=oR L11.o (oR L10.o UA.o)
     have XT:Hid (w11.heap[w9.heap.size]? = some (.cells ⟨(List.replicate t.ins.length (0:Int)).map (.int .i64)⟩ 3 (0,0))):=by rw[List.map_replicate];exact oR L11.o VT.o
     have XV:=hI (oR L11.o VB.o)
     have YT:=hI (oR L11.o VT9.o)
     have YB:=hI (oR L11.o (oR L10.o (UF.o.row NB.o (by omega) (hno _ (by omega)))))
     have YF:=hI (oR L11.o (oR L10.o (UF.o.row NF.o (by omega) (hno _ (by omega)))))
     have YZ:=hI (oR L11.o (oR L10.o (UF.o.row NZ.o (by omega) (hno _ (by omega)))))
     have XK:Hid (z9 wo.heap.size (Value.slice A9 t.exits.length c9).ownBlock w5 w11):=(UF.o.then (L10.o.mono hz9)).then (L11.o.mono (by omega))
     have YO:Hid (w11.ownsRow w3.heap.size 32 4 (.slice A9 t.exits.length c9) t.exits.length ((aoN (aoS t) rows t.exits.length).flatMap id)):=((aV.of_below (bc:=0) L11.o).own ((aV.of_below (bc:=0) L10.o).own UO.o (by omega)) (by omega))
     have BQ:=hI (K5.o.trans (XK.o.below (B:=w.heap.size) (by omega) (λk e=>by have:=hob k e;omega) K5.o.size))
     have QS:=hI (QI.o.keep (Nat.le_refl _) (λp hp=>BQ.o.cell hp) (λ_ _ h=>h))
     have hQz:w.heap.size<=w11.heap.size:=BQ.o.size
     have XBc:=hI (show w11.cell? ⟨w10.heap.size,0,none⟩=some (.slice Ai t.ins.length ni) from cell_of_row w11 w10.heap.size 0 _ _ _ XB.o)
     go_wp2_with fail
     refine(wpIn_wide (n:=9)).1 ?_
     refine aqI rfl (by omega) (gf:=85) (lb:=#[.pointer (some ⟨w10.heap.size,0,none⟩)]) rfl trivial (enters_of func85 (by kernel_rfl) rfl)
      (apX Fence.wide 8 trivial rfl (by omega) w10.heap.size w.heap.size Ai ni t.ins (by omega) w11 hQz (by omega) XBc.o QS.o)
      (λh k=>h.trans k) (kpB_b hQz (by omega)) (Below.refl _ _) (λ_=>rfl)
      (λpre W=>W.heap[wo.heap.size]? = some (.cells ⟨t9 (aoU t (pre.map (·.1))).1 t.ins.length⟩ 4 (0,0))/\W.heap[w9.heap.size]? = some (.cells ⟨((aoU t (pre.map (·.1))).2).map (.int .i64)⟩ 3 (0,0))/\z9 wo.heap.size (some w9.heap.size) w11 W)
      (λ_ _ _=>False) ((aqA _).and ((aqA _).and (aq3 (Nat.le_refl _)))) (λ_ _ _ _ _ h=>h.elim) ⟨XA.o,XT.o,z9.refl _ _ _⟩
      (λa x a' W=>∃Bx,w11.heap.size<=Bx/\W.heap[Bx]? = some (.cells ⟨bA x.1.2⟩ 53 (0,0))/\a' = { tmps:=(((a.tmps.setIfInBounds 94 (.int .i64 x.1.1)).setIfInBounds 95 (yA x.1.2)).setIfInBounds 15 (.int .i64 x.1.1)).setIfInBounds 16 (.pointer (some ⟨Bx,0,none⟩)),defers:=[] })
      (λx a' _ W W' row hs hg hr=>by
       obtain⟨Bx,h1,h2,h3⟩:=hs
       exact⟨Bx,h1,aqA (β:=Unit) (λ_=>⟨bA x.1.2⟩) () W W' row h2 hg hr,h3⟩)
      ?assign ?body ?done ?stop
     case assign=>
      rintro lo pre ⟨⟨i,x⟩,hx⟩ W K ⟨hA,hT,hIz⟩ hK
      have IA:=hI hA
      have IT:=hI hT
      have IK:=hI hIz
      have HK:=hI hK
      clear hA hT hIz hK
      dsimp only
      have hWz:w11.heap.size<=W.heap.size:=IK.o.size
      obtain⟨Wa,hWa⟩:∃Wa,Wa=W.alloc (.cells ⟨aq4⟩ 53):=⟨_,rfl⟩
      have ZA:Hid (Wa.heap[W.heap.size]? = some (.cells ⟨aq4⟩ 53 (0,0))):=by rw[hWa];exact aS _ _
      have LA:Hid (Below W.heap.size W Wa):=by rw[hWa];exact aA _ _
      have TH:=hI (nU (n:=8) ZA.o (by simp[aq4]))
      unfold aq4 at hWa
      have HWA:=hI hWa
      clear hWa
      gi_upto_region 27 with fail
      refine apA ?hl ?hd ?_
      case hl=>rintro ⟨_,_,h⟩;exact h
      case hd=>kernel_rfl
      go_wp2_with (first | (refine wpList_store_mid rfl 53 _ _ rfl W.heap.size 0 ⟨bA x⟩ rfl rfl (by rw[<-HWA.o];exact TH.o) pI (all_oneCell_toArray (ai9 x)) ?_) | fail)
      rw[<-HWA.o]
      generalize hw12:World.setCells _ _ _ _=Wb
      have BX:Hid (Wb.heap[W.heap.size]? = some (.cells ⟨bA x⟩ 53 (0,0))):=by rw[<-hw12];exact arC ZA.o
      have LB:Hid (Below W.heap.size W Wb):=by rw[<-hw12];exact akY (Nat.le_refl _) _ _ _ LA.o
      clear hw12
      go_wp2_with fail
      refine HK.o _ _ ⟨LB.o.size,λk _ _ hk _=>oR LB.o hk (aE hk).1⟩ ⟨LB.o.mono (by omega),LB.o.block _ (by omega)⟩ ⟨oR LB.o IA.o,oR LB.o IT.o,IK.o.then (LB.o.mono hWz)⟩ ⟨W.heap.size,hWz,BX.o,rfl⟩
     case body=>
      rintro lo pre ⟨⟨i,x⟩,hx⟩ a' W hlo hrec ⟨hA,hT,hIz⟩ ⟨Bx,hBx,hbx,rfl⟩ hpl
      dsimp only at hx hbx ⊢
      obtain⟨st,hst⟩:∃st,aoU t (pre.map (·.1))=st:=⟨_,rfl⟩
      have hnx:Hid (aoU t ((pre++[(⟨(i,x),hx⟩:AtI t.ins)]).map (·.1))=stM t st (i,x)):=by
       rw[show Hid _=_ from rfl,List.map_append,<-hst];exact apO t _ _
      have htl:st.2.length=t.ins.length:=by rw[<-hst];exact ap0 t _
      obtain⟨ms,tl⟩:=st
      rw[hst] at hA hT
      dsimp only at hA hT htl
      have IA:=hI hA
      have IT:=hI hT
      have IK:=hI hIz
      have IX:=hI hbx
      have HX:=hI hx
      have hin:i<t.ins.length:=(lE hx).1
      have hii:(i:Int)<t.ins.length:=by omega
      have hWz:w11.heap.size<=W.heap.size:=IK.o.size
      have hzx:Bx<W.heap.size:=(aE hbx).1
      have WV:=hI (IK.o.row XV.o (by omega) (by simp))
      have WB:=hI (IK.o.row YB.o (by omega) (by simp;omega))
      have WF:=hI (IK.o.row YF.o (by omega) (by simp;omega))
      have WT:=hI (IK.o.row YT.o (by omega) (by simp;omega))
      clear hA hT hIz hbx hst
      obtain⟨v0,hv0⟩:∃v0,tl[i]? = some v0:=⟨_,lG (by omega)⟩
      have tv:=crZ WV 0 rfl
      have ti:=ak3 IT.o i (.int .i64 v0) (by rw[List.getElem?_map,hv0];rfl)
      have tf:=frozen_of_row W w9.heap.size i _ _ IT.o
      obtain⟨W1,hW1⟩:∃W1,W1=W.setCell ⟨w9.heap.size,i,none⟩ (.int .i64 (-1)):=⟨_,rfl⟩
      have T1:Hid (W1.heap[w9.heap.size]? = some (.cells ⟨(tl.set i (-1)).map (.int .i64)⟩ 3 (0,0))):=by rw[hW1,heap_setCell_same W _ i _ _ _ IT.o,arA];rfl
      have far:∀(k:Nat) (o:Obj),W.heap[k]? = some o->k≠w9.heap.size->W1.heap[k]? = some o:=λk o h hk=>by
       rw[hW1,heap_setCell_other W _ _ _ (by show k≠w9.heap.size;exact hk)];exact h
      have A1:=hI (far _ _ IA.o (by omega))
      have V1:=hI (far _ _ WV.o (by omega))
      have B1:=hI (far _ _ WB.o (by omega))
      have F1:=hI (far _ _ WF.o (by omega))
      have N1:=hI (far _ _ WT.o (by omega))
      have X1:=hI (far _ _ IX.o (by omega))
      have K1:Hid (z9 wo.heap.size (some w9.heap.size) W W1):=by rw[hW1];exact(z9.refl _ _ _).set _ _
      have hW1z:W.heap.size<=W1.heap.size:=K1.o.size
      have HW1:=hI hW1
      clear hW1 far
      simp only[List.setIfInBounds_toArray,List.set_cons_succ,List.set_cons_zero]
      gi_upto_region 29 with fail
      rw[<-HW1.o]
      clear tv ti tf hv0
      obtain⟨kp,hkp⟩:∃kp,ao2 t ms i x=kp:=⟨_,rfl⟩
      gi_cut [122] from 96 (λb wx=>b=.bool kp/\Hid (Below W1.heap.size W1 wx))
      case first=>
       have b0:=crZ B1 0 rfl
       have m0:=ak3 A1.o i _ (aoQ hin)
       have x0:=ak3 X1.o 0 (.int .i64 x.op) rfl
       have x5:=ak3 X1.o 5 (.int .i64 x.exit) rfl
       have l2:=ak3 N1.o 2 (.int .i64 t.loop) (by rw[HCB.o,List.getElem?_set_ne (by omega)];exact HT.o.at012.2.2.1)
       unfold ao2 at hkp
       refine apA ?hl ?hd ?_
       case hl=>rintro ⟨_,_,h⟩;exact h
       case hd=>kernel_rfl
       cases c1:ms.contains (i:Int)
       case true=>
        rw[c1] at m0 hkp
        have e:kp=true:=by rw[<-hkp];rfl
        clear hkp
        go_wp2_with fail
        gi_meet
        case rel=>exact⟨by rw[e],Below.refl _ _⟩
       case false=>
        rw[c1] at m0 hkp
        by_cases c2:0<=x.exit
        ·have e:kp=true:=by rw[<-hkp];simp[c2]
         clear hkp
         go_wp2_with fail
         gi_meet
         case rel=>exact⟨by rw[e],Below.refl _ _⟩
        ·have c2':x.exit<0:=by omega
         obtain⟨tb,htb⟩:∃tb,dZ x.op=tb:=⟨_,rfl⟩
         have TC:=hI (zX x.op W1)
         rw[htb] at TC hkp
         have HKQ:=hI hkp
         clear hkp htb
         go_wp2_with fail
         refine TC.o.mono ?_
         rintro e W2 ⟨rfl,k2⟩
         have L2:=hI k2
         clear k2
         have l2':=aC L2.o l2
         clear l2 b0 m0 x0 x5
         cases tb
         case false=>
          have e:kp=true:=by rw[<-HKQ.o];simp
          go_wp2_with fail
          gi_meet
          case rel=>exact⟨by rw[e],L2⟩
         case true=>
          by_cases c3:i=0
          ·subst c3
           by_cases c4:0<t.loop
           ·have e:kp=true:=by rw[<-HKQ.o];simp[c4]
            go_wp2_with fail
            gi_meet
            case rel=>exact⟨by rw[e],L2⟩
           ·have e:kp=false:=by rw[<-HKQ.o];simp[c4,c2]
            have c4':decide (0<t.loop)=false:=decide_eq_false c4
            go_wp2_with fail
            gi_meet
            case rel=>exact⟨by rw[e],L2⟩
          ·have e:kp=false:=by rw[<-HKQ.o];simp[c3,c2]
           go_wp2_with fail
           gi_meet
           case rel=>exact⟨by rw[e],L2⟩
      case rest=>
       obtain⟨W2,hW2⟩:∃W2,W2=wc:=⟨_,rfl⟩
       subst hW2
       obtain⟨rfl,L2⟩:=hcut
       have K2:Hid (z9 wo.heap.size (some w9.heap.size) W W2):=K1.o.then (L2.o.mono hW1z)
       have A2:=hI (oR L2.o A1.o)
       have T2:=hI (oR L2.o T1.o)
       have V2:=hI (oR L2.o V1.o)
       have B2:=hI (oR L2.o B1.o)
       have F2:=hI (oR L2.o F1.o)
       have X2:=hI (oR L2.o X1.o)
       have hW2z:W.heap.size<=W2.heap.size:=K2.o.size
       have HKP:=hI hkp
       clear hkp
       cases kp
       case false=>
        have hs:Hid (stM t (ms,tl) (i,x)=(ms,tl.set i (-1))):=by unfold stM Hid;dsimp only;rw[HKP.o];rfl
        gi_wp2_with fail
        refine⟨K2.o.from (by omega) (by omega),⟨K2.o.below (by omega) (λk e=>by injection e with e;omega) (by omega),K2.o.block _ (by omega) (by omega) (by simp;omega)⟩,?_,?_,IK.o.trans K2.o⟩
        ·rw[hnx.o,hs.o];exact A2.o
        ·rw[hnx.o,hs.o];exact T2.o
       case true=>
        have hs:Hid (stM t (ms,tl) (i,x)=(ms++bU x,tl.set i (i:Int))):=by unfold stM Hid;dsimp only;rw[HKP.o];rfl
        have tv:=crZ V2 0 rfl
        have ti:=ak3 T2.o i (.int .i64 (-1)) (by rw[List.getElem?_map,List.getElem?_set_self (by omega)];rfl)
        have tf:=frozen_of_row W2 w9.heap.size i _ _ T2.o
        obtain⟨W3,hW3⟩:∃W3,W3=W2.setCell ⟨w9.heap.size,i,none⟩ (.int .i64 (i:Int)):=⟨_,rfl⟩
        have T3:Hid (W3.heap[w9.heap.size]? = some (.cells ⟨(tl.set i (i:Int)).map (.int .i64)⟩ 3 (0,0))):=by rw[hW3,heap_setCell_same W2 _ i _ _ _ T2.o,arA,List.set_set];rfl
        have far:∀(k:Nat) (o:Obj),W2.heap[k]? = some o->k≠w9.heap.size->W3.heap[k]? = some o:=λk o h hk=>by
         rw[hW3,heap_setCell_other W2 _ _ _ (by show k≠w9.heap.size;exact hk)];exact h
        have A3:=hI (far _ _ A2.o (by omega))
        have B3:=hI (far _ _ B2.o (by omega))
        have F3:=hI (far _ _ F2.o (by omega))
        have X3:=hI (far _ _ X2.o (by omega))
        have K3:Hid (z9 wo.heap.size (some w9.heap.size) W W3):=by rw[hW3];exact K2.o.set _ _
        have hW3z:W.heap.size<=W3.heap.size:=K3.o.size
        have HW3:=hI hW3
        clear hW3 far
        gi_upto_region 31 with fail
        rw[<-HW3.o]
        clear tv ti tf
        have f0:=crZ F3 0 rfl
        have e0:=ecZ f0
        have RX:Hid (∀E:Up W3,E.to.rangeAt Bx 0 (bA x)):=λE a v hv=>E.cell ((ak3 X3.o).range a v hv)
        have LX:Hid ((prog.info? 53).map (·.size)=some (bA x).length):=pI
        obtain⟨_,_,x',_,_,hx',hwx,-⟩:=tN QI.o hin
        obtain rfl:x'=x:=by rw[HX.o] at hx';injection hx' with hx';exact hx'.symm
        have OC:=hI (akR x' hwx W3.drew)
        clear f0 hx' hwx
        refine ao6 ?hl (λw'=>∃E:Up W3,w'=E.to) 2 [2,3] [2] (by kernel_rfl) (by decide) ?hd ?hB (λ_ _ _ _ _ h=>h) ⟨⟨_,(Below.refl _ W3).drew⟩,rfl⟩ ?_
        case hl=>rintro ⟨_,_,h⟩;exact h
        case hd=>kernel_rfl
        case hB=>kernel_rfl
        simp only[List.take_succ_cons,List.take_zero]
        generalize hqq:(λa'=>gT _ _ _ _ _ _ a' _)=qq
        have HQQ:=hI hqq
        clear hqq
        repeat (first
         | (refine dE 53 _ rfl rfl Bx 0 rfl (bA x') _ RX.o underlying53 rfl LX.o ?_;go_simp)
         | go_big_quiet_step (fail))
        refine wpQuiet_nil ?_
        rw[<-HQQ.o]
        clear HQQ qq e0 RX LX
        refine aR rfl (λK hK=>?_)
        go_simp
        refine OC.o.mono ?_
        rintro e W4 ⟨v,rfl,hv,k6⟩
        have L4:Hid (Below W3.heap.size W3 W4):=(Below.refl _ W3).drew.trans k6
        refine hK _ _ (λ_=>⟨⟨W4,L4.o⟩,rfl⟩) ?_
        clear hK K k6
        have A4:=hI (oR L4.o A3.o)
        have B4:=hI (oR L4.o B3.o)
        have T4:=hI (oR L4.o T3.o)
        have MC:=hI (aqC v (bU x') ms (wo.heap.size+1) wo.heap.size t.ins.length W4 hlen hv (λy hy=>by have:=CUTS.o.ins i x' HX.o y hy;omega) (cell_of_row W4 (wo.heap.size+1) 0 _ _ _ B4.o) A4.o (by omega))
        clear hv OC
        refine bG [3] _ _ (by kernel_rfl) (by kernel_rfl) ?_
        simp only[List.filterMap_cons,List.filterMap_nil,List.getElem?_toArray,List.getElem?_cons_zero,List.getElem?_cons_succ]
        go_wp2_with fail
        refine MC.o.mono ?_
        rintro e W5 ⟨rfl,m1,m2⟩
        have K5':Hid (z9 wo.heap.size (some w9.heap.size) W W5):=(K3.o.then (L4.o.mono hW3z)).fined m2
        have A5:=hI m1
        have T5:=hI (m2.row T4.o (by omega))
        clear m1 m2
        go_wp2_with fail
        refine⟨K5'.o.from (by omega) (by omega),⟨K5'.o.below (by omega) (λk e=>by injection e with e;omega) (by omega),K5'.o.block _ (by omega) (by omega) (by simp;omega)⟩,?_,?_,IK.o.trans K5'.o⟩
        ·rw[hnx.o,hs.o];exact A5.o
        ·rw[hnx.o,hs.o];exact T5.o
     case stop=>exact λ_ _ _ _ _ _ h=>h.elim
     case done=>
      rintro D ys W hD hys ⟨hA,hT,hIz⟩ hdf
      have hall:aoU t (ys.map (·.1))=aoU t (aoP t.ins t.ins.length):=by rw[hys]
      have hdt:(a9 t).length=t.ins.length:=by rw[<-ap4];exact ap0 _ _
      have hdl:(oT t).length=t.exits.length:=by unfold oT;simp
      rw[hall,ap4] at hT
      have IK:=hI hIz
      have HDF:=hI hdf
      have hWz:w11.heap.size<=W.heap.size:=IK.o.size
      have WV:=hI (IK.o.row XV.o (by omega) (by simp))
      have WT:=hI (IK.o.row YT.o (by omega) (by simp;omega))
      have WZ:=hI (IK.o.row YZ.o (by omega) (by simp;omega))
      have WO:Hid (W.ownsRow w3.heap.size 32 4 (.slice A9 t.exits.length c9) t.exits.length ((aoN (aoS t) rows t.exits.length).flatMap id)):=IK.o.own YO.o (λG hG=>by
       have h1:=hob G hG
       obtain⟨_,_,_,h2⟩:=hY UO.o G hG
       have h3:=(aE h2).1
       exact⟨by omega,by simp;omega⟩)
      have BW:Hid (Below w.heap.size w W):=BQ.o.trans (IK.o.below (by omega) (λk e=>by injection e with e;omega) (by omega))
      have hfour:∀x∈rows,x.length=4:=λx hx=>by
       obtain⟨i,hi⟩:=List.getElem?_of_mem hx
       have hil:=(lE hi).1
       obtain⟨c,h1,h2⟩:=HR3.o i _ (lG (by omega))
       rw[hi] at h1
       injection h1 with h1
       subst h1
       obtain⟨s,m,rfl,-⟩:=h2
       rfl
      have SU:=ap9 (xs:=oT t) (A:=A9) (c:=c9) (by rw[hdl];exact WO.o) (ao9 hfour _) (λj x hx=>by
       unfold oT at hx
       rw[List.getElem?_mapIdx] at hx
       cases hy:t.exits[j]? with
       | none=>rw[hy] at hx;cases hx
       | some y=>
        rw[hy] at hx
        injection hx with hx
        subst hx
        obtain⟨r,hr,hxr⟩:=HR3.o j y hy
        exact arD hr (lE hy).1 (hxr.keep BW.o.size (λ_ hp=>BW.o.cell hp)))
      rw[hdl] at SU
      have TR:Hid (bI W W.heap.size cb (i9 t)):=by
       rw[HCB.o];exact ap8 HT.o BW.o.size (λ_ hp=>BW.o.cell hp) SU
      have ST:=xW hT (aq6 hlen) (by rw[hdt];unfold maxLen;omega)
      rw[hdt] at ST
      have CC:=hI (cut_c cb (i9 t) _ (a9 t) W TR.o ST (aqF SM.o))
      have tv:=crZ WV 0 rfl
      have RTr:=rrZ WT
      have LTr:Hid ((prog.info? 34).map (·.size)=some cb.length):=by rw[HCB.o,List.length_set];exact HIt.o
      have hzD:D<W.heap.size:=(aE hdf).1
      have hzW1:w.heap.size+1+1<W.heap.size:=by omega
      clear hA hT hIz hdf hall SU ST hys hfour TR
      go_wp2_with (first | (refine wpList_load_mid rfl 34 _ rfl (w.heap.size+1) 0 rfl cb _ RTr.o underlying34 rfl LTr.o ?_) | fail)
      refine CC.o.mono ?_
      rintro e W2 ⟨cs,rfl,tr,k2,hset⟩
      have TR2:=hI (hset (w.heap.size+1+1))
      obtain⟨i1,l1,o1⟩:=bI.cs tr
      have I1:=hI i1
      have L1:Hid (bY.length=cs.length):=l1
      have O1:=hI o1
      have Z2:=hI (oR k2 WZ.o)
      have D2:=hI (oR k2 HDF.o)
      have K2:=btZ BW k2
      clear tr k2 hset tv CC i1 l1 o1
      go_wp2_with (refine wpList_store_row rfl 34 _ _ rfl (w.heap.size+1+1) ⟨cs⟩ rfl rfl 34 _ Z2.o I1.o L1.o (by simpa using O1.o) ?_)
      generalize hw13:World.setRow _ _ _=W6
      have QR:=shZ hw13 Z2
      have K6:Hid (Below w.heap.size w W6):=by rw[<-hw13];exact Below.set_row K2.o (by omega) _
      have T6:Hid (bI W6 W6.heap.size cs (g9 (i9 t) (a9 t)).1):=by rw[<-hw13];exact TR2.o _ hzW1
      have D6:Hid (W6.heap[D]? = some (.deferred (some []))):=by
       rw[<-hw13];exact(setRow_other _ _ _ _ (by omega)).trans D2.o
      clear hw13
      go_wp2_with fail
      obtain⟨W7,hW7⟩:∃W7,W7=W6.putObj D (.deferred none):=⟨_,rfl⟩
      have Q7:Hid (W7.heap[w.heap.size+1+1]? = some (.cells ⟨cs⟩ 34 (0,0))):=by rw[hW7];exact(World.putObj_heap_other (by omega)).trans QR.o
      have T7:Hid (bI W7 W7.heap.size cs (g9 (i9 t) (a9 t)).1):=T6.o.keep (by rw[hW7];simp) (λp _=>by rw[hW7];exact aq9 D6.o p)
      have K7:Hid (Below w.heap.size w W7):=by rw[hW7];exact aqX K6.o (by omega) K6.o.size
      have LV:=run_loadVar_mid W7 (w.heap.size+1+1) 0 34 cs _ (ak3 Q7.o).range underlying34 rfl I1.o
      rw[HM.o]
      refine⟨by simp,.inl ⟨D,W7,rfl,by rw[hW7];exact run_takeDeferred D6.o,?_⟩⟩
      exact⟨.tuple #[.agg ⟨cs⟩,.int .i64 (g9 (i9 t) (a9 t)).2],by simp[results,results15,asAddr,LV],⟨_,rfl,T7.o,K7.o⟩⟩
end
end Go.Proofs.YtijihlcdhppfgaaGreatDoor
