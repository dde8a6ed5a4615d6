/- A part of the walk. -/
import Derived.Test.YtjaphgpkkfdaaaaGreatDoorYQF
set_option maxHeartbeats 16000000
set_option maxRecDepth 100000
set_option linter.all false
namespace Go.Proofs.YtjaphgpkkfdaaaaGreatDoor
section
open Go.RowKit Go.Maps
noncomputable def sUq (ins:List bG) (v i:Nat):Int×Int:=(alE v i).foldl (ai6 ins (ai0 ins) v) (ai4 ins (ai0 ins · v) v)
theorem al4 (ins:List bG) (v:Nat):sUq ins v (v+1)=ai4 ins (ai0 ins · v) v:=by
 unfold sUq alE
 rw[show((v+1:Nat):Int).toNat - ((v:Int).toNat+1)=0 by omega]
 rfl
theorem sUq_next (ins:List bG) {v i:Nat} (h:v<i):sUq ins v (i+1)=ai6 ins (ai0 ins) v (sUq ins v i) i:=by
 unfold sUq alE
 rw[show((i+1:Nat):Int).toNat - ((v:Int).toNat+1)=((i:Int).toNat - ((v:Int).toNat+1))+1 by omega,List.range'_1_concat,List.foldl_append]
 rw[show(v:Int).toNat+1+((i:Int).toNat - ((v:Int).toNat+1))=i by omega]
 rfl
theorem sU_all (ins:List bG) {v a:Nat} (h:v<a):ai0 ins v a=sUq ins v a:=by
 rw[ak4,if_neg (by omega)];rfl
theorem sU_ok {ins:List bG} (hc:ajD ins) (v i:Nat):okS (sUq ins v i):=by
 have h:=akV hc (S:=(ai0 ins · v)) (fun u=>ajK hc u v) v
 exact(ak0 ins (ai0 ins) v _ (r:=ai4 ins (ai0 ins · v) v) ⟨Int.le_refl _,h.2.1,Int.le_refl _⟩).ok h
theorem alG (ins:List bG) (S:Int→Int→Int×Int) (v:Int) (s:Int×Int) (i:Nat) {g c:bG} (hg:insAt ins i=g) (hc:insAt ins g.a=c) :
  ai6 ins S v s i=if g.op≠5 then s else if c.op≠7∨(c.n≠9∧c.n≠10)∨(c.a≠v∧c.b≠v)∨ajU ins g.a=false then s
   else if g.n=1 then ajA (S · i) s v c.a c.b (if c.n=9 then 1 else 0) else ajA (S · i) s v c.b c.a (1 - (if c.n=9 then 1 else 0)):=by
 unfold ai6
 rw[hg,hc]
structure Sp (W:World) (B fb mb:Nat) (ca:List Value) (t:aN) (v a:Nat) (L:List (Nat×Nat)) (rb kb sb:Nat) (s:Int×Int) (w:World):Prop where
 find:ajC w B fb mb ca t
 map:∃L',ai5 w mb t.ins L'∧∀k∈L',k∈L∨k.2<a
 fin:ai1 mb W w
 rr:w.heap[rb]? = some (.cells ⟨[.int .i64 0,.int .i64 0]⟩ 128 (0,0))
 kr:w.heap[kb]? = some (.cells ⟨[.int .i64 (v:Int),.int .i64 (a:Int)]⟩ 174 (0,0))
 sr:w.heap[sb]? = some (.cells ⟨[.int .i64 s.1,.int .i64 s.2]⟩ 128 (0,0))
section
variable {W w w':World} {B fb mb:Nat} {ca:List Value} {t:aN} {v a:Nat} {L:List (Nat×Nat)} {rb kb sb:Nat} {s:Int×Int}
theorem Sp.below (h:Sp W B fb mb ca t v a L rb kb sb s w) (k:Below w.heap.size w w'):Sp W B fb mb ca t v a L rb kb sb s w':=by
 obtain⟨L',h1,h2⟩:=h.map
 exact⟨h.find.below k,⟨L',h1.below k,h2⟩,h.fin.below_ k,(k.block _ (aE h.rr).1).trans h.rr,(k.block _ (aE h.kr).1).trans h.kr,(k.block _ (aE h.sr).1).trans h.sr⟩
theorem Sp.next (h:Sp W B fb mb ca t v a L rb kb sb s w) (hr:rb≠mb) (hk:kb≠mb) (hs:sb≠mb) (k:ai1 mb w w') (hm:∃L',ai5 w' mb t.ins L'∧∀k∈L',k∈L∨k.2<a):Sp W B fb mb ca t v a L rb kb sb s w':=
 ⟨h.find.fined k,hm,h.fin.trans k,k.row h.rr hr,k.row h.kr hk,k.row h.sr hs⟩
theorem Sp.set2 (h:Sp W B fb mb ca t v a L rb kb sb s w) (h1:W.heap.size≤sb) (h2:sb≠rb) (h3:sb≠kb) (h4:mb<W.heap.size) (h5:fb<W.heap.size) (s':Int×Int):Sp W B fb mb ca t v a L rb kb sb s' ((w.setCell ⟨sb,0,none⟩ (.int .i64 s'.1)).setCell ⟨sb,1,none⟩ (.int .i64 s'.2)):=by
 obtain⟨L',m1,m2⟩:=h.map
 refine⟨⟨ai3 h.find.row (by omega),h.find.tr.keep (Nat.le_refl _) (fun p hp=>(ajB (n:=B) (by have:=h.find.hB;omega) _ _).cell hp),h.find.hB,h.find.hM,h.find.ne⟩,⟨L',(m1.set_ (by omega) _ _).set_ (by omega) _ _,m2⟩,h.fin.then (ajB h1 _ _),ai3 h.rr (Ne.symm h2),ai3 h.kr (Ne.symm h3),ai2 h.sr⟩
theorem Sp.done (h:Sp W B fb mb ca t v a L rb kb sb s w) (h1:W.heap.size≤rb) (h4:mb<W.heap.size) (c d:Value) :
  ((w.setCell ⟨rb,0,none⟩ c).setCell ⟨rb,1,none⟩ d).heap[rb]? = some (.cells ⟨[c,d]⟩ 128 (0,0))∧ai1 mb W ((w.setCell ⟨rb,0,none⟩ c).setCell ⟨rb,1,none⟩ d):=
 ⟨ai2 h.rr,h.fin.then (ajB h1 c d)⟩
end
def alW:List Value:=[.int .i64 0,.int .i64 0,.int .i64 0,.int .i64 0,.int .i64 0,.int .i64 0,.int .i64 0,.int .i64 0]
theorem amB {w:World} {g:Nat} {x:bG} (h:w.heap[g]? = some (.cells ⟨alW⟩ 92 (0,0))):(w.setCells g 0 (jS x)).heap[g]? = some (.cells ⟨jS x⟩ 92 (0,0)):=by
 rw[aj4 _ _ _ _ h]
 simp[alW,jS,akY]
theorem al0 {B fb mb:Nat} {ca:List Value} {t:aN} {a:Nat} (ih:∀a'<a,akD B fb mb ca t a') (hc:ajD t.ins) (hfi:akW t.ins) (hl:t.ins.length≤300):akD B fb mb ca t a:=by
 intro v W L hv hla hf hm
 have IH:=hI ih
 have hmW:=hm.lt
 have hfW:=hf.lt
 have hii:(a:Int)≤t.ins.length:=by omega
 have hil:(t.ins.length:Int)≤300:=by omega
 have hva:(v:Int)<a:=by omega
 obtain⟨w1,hw1⟩:∃w1,w1=(W.alloc (.cells #[.int .i64 0,.int .i64 0] 128)).alloc (.cells #[.int .i64 (v:Int),.int .i64 (a:Int)] 174):=⟨_,rfl⟩
 have K1:Hid (Below W.heap.size W w1):=by rw[hw1];exact bE W _ _
 have R1:Hid (w1.heap[W.heap.size]? = some (.cells ⟨[.int .i64 0,.int .i64 0]⟩ 128 (0,0))):=by rw[hw1];exact aY (aJ W _) _
 have Q1:Hid (w1.heap[W.heap.size+1]? = some (.cells ⟨[.int .i64 (v:Int),.int .i64 (a:Int)]⟩ 174 (0,0))):=by rw[hw1];exact cQ _ _ _
 have F1:=hI (hf.below K1.out)
 have M1:=hI (hm.below K1.out)
 have hz1:W.heap.size+1<w1.heap.size:=(aE Q1.out).1
 have HW1:=hI hw1
 have HF:=hI hf
 clear hw1 ih hf hm
 go_enter Tryz.func54,Tryz.ntmps54
 go_upto_region 2 with fail
 rw[←HW1.out]
 obtain⟨lo,hi,hsv⟩:∃lo hi,ai0 t.ins v a=(lo,hi):=⟨_,_,rfl⟩
 obtain⟨kl,kh,ki,hk1,hk2⟩:∃(kl kh:Int) (ki:Bool),ki=decide ((v,a)∈L)∧(if(v,a)∈L then ai7 (ai0 t.ins v a).1 (ai0 t.ins v a).2 else ai7 0 0)=ai7 kl kh:=by
  by_cases c:(v,a)∈L
  ·exact⟨_,_,_,rfl,if_pos c⟩
  ·exact⟨_,_,_,rfl,if_neg c⟩
 have f13:=F1.out.kept
 have hfz:=F1.out.lt
 have e0:=ecZ f13
 have e1:∀E:Up w1,E.to.cell? ⟨W.heap.size+1,0,none⟩=some (.int .i64 (v:Int)):=fun E=>E.cell (amH Q1.out 0 _ rfl)
 have e2:∀E:Up w1,E.to.cell? ⟨W.heap.size+1,1,none⟩=some (.int .i64 (a:Int)):=fun E=>E.cell (amH Q1.out 1 _ rfl)
 have hq:∀E:Up w1,(Instr.lookup 124 (.map (some mb)) (.agg #[.int .i64 (v:Int),.int .i64 (a:Int)]) true).run Tryz.prog E.to=.ok (.tuple #[.agg #[.int .i64 kl,.int .i64 kh],.bool ki]) E.to:=fun E=>by
  have h:=(M1.out.below E.2).look hv (by omega:a≤300)
  rw[hk2,←hk1] at h
  exact h
 refine cV (fun w'=>∃E:Up w1,w'=E.to) 9 [9,10,11] [9,10] (by kernel_rfl) (by decide) (by kernel_rfl) (fun _ _ d _ _ h=>by cases d <;> exact h) ⟨⟨_,(Below.refl _ w1).drew⟩,rfl⟩ ?_
 simp only[List.take_succ_cons,List.take_zero]
 generalize hqq:(fun a'=>gA _ _ _ _ _ _ a' _)=qq
 have HQQ:=hI hqq
 clear hqq
 repeat (go_big_quiet_step (fail))
 refine wpQuiet_nil ?_
 rw[←HQQ.out]
 clear HQQ qq e0 e1 e2 hq
 refine bA rfl (fun K hK=>?_)
 go_simp
 obtain⟨w2,hw2⟩:∃w2,w2=(w1.alloc (.cells #[.int .i64 0,.int .i64 0] 128)).drew:=⟨_,rfl⟩
 have L2:Hid (Below w1.heap.size w1 w2):=by rw[hw2];exact(aB w1 _).drew
 have V2:Hid (w2.heap[w1.heap.size]? = some (.cells ⟨[.int .i64 0,.int .i64 0]⟩ 128 (0,0))):=by rw[hw2];exact aJ w1 _
 rw[←hw2]
 refine hK _ _ (fun _=>⟨⟨w2,L2.out⟩,rfl⟩) ?_
 clear hK K hw2
 obtain⟨w3,hw3⟩:∃w3,w3=w2.setCells w1.heap.size 0 [.int .i64 kl,.int .i64 kh]:=⟨_,rfl⟩
 have L3:Hid (Below w1.heap.size w1 w3):=by rw[hw3];exact L2.out.trans (ajB (Nat.le_refl _) _ _)
 have V3:Hid (w3.heap[w1.heap.size]? = some (.cells ⟨[.int .i64 kl,.int .i64 kh]⟩ 128 (0,0))):=by rw[hw3];exact ai2 V2.out
 have TH:=hI (uJ (n:=2) V2.out (by simp))
 refine bA rfl (fun K hK=>?_)
 refine Eq.mpr (if_pos ?hw) ?_
 case hw=>rfl
 refine wp_store_mid 128 _ _ rfl w1.heap.size 0 #[.int .i64 kl,.int .i64 kh] rfl rfl TH.out infoBo2 (oC (by simp[Value.oneCell'])) ?_
 show K _ (w2.setCells w1.heap.size 0 [.int .i64 kl,.int .i64 kh])
 rw[←hw3]
 refine hK _ _ (fun _=>⟨⟨w3,L3.out⟩,rfl⟩) ?_
 clear hK K hw3 TH L2 V2
 have K3:=btZ K1 L3.out
 have R3:Hid (w3.heap[W.heap.size]? = some (.cells ⟨[.int .i64 0,.int .i64 0]⟩ 128 (0,0))):=(L3.out.block _ (by omega)).trans R1.out
 have Q3:Hid (w3.heap[W.heap.size+1]? = some (.cells ⟨[.int .i64 (v:Int),.int .i64 (a:Int)]⟩ 174 (0,0))):=(L3.out.block _ (by omega)).trans Q1.out
 have F3:=hI (F1.out.below L3.out)
 have M3:=hI (M1.out.below L3.out)
 have hz3:w1.heap.size<w3.heap.size:=(aE V3.out).1
 have HSV:=hI hsv
 refine bP [11] _ _ (by kernel_rfl) (by kernel_rfl) ?_
 simp only[List.filterMap_cons,List.filterMap_nil,List.getElem?_toArray,List.getElem?_cons_zero,List.getElem?_cons_succ]
 cases ki
 case true=>
  have hin:(v,a)∈L:=of_decide_eq_true hk1.symm
  rw[if_pos hin,hsv] at hk2
  obtain⟨rfl,rfl⟩:=akT hk2
  clear hk1 hk2 hsv
  have b0:=amH V3.out 0 (.int .i64 lo) rfl
  have b1:=amH V3.out 1 (.int .i64 hi) rfl
  have r0:=amH R3.out 0 (.int .i64 0) rfl
  have r1:=amH R3.out 1 (.int .i64 0) rfl
  have y0:=fzZ R3 0
  have y1:=fzZ R3 1
  obtain⟨wz,hwz⟩:∃wz,wz=(w3.setCell ⟨W.heap.size,0,none⟩ (.int .i64 (lo))).setCell ⟨W.heap.size,1,none⟩ (.int .i64 (hi)):=⟨_,rfl⟩
  have ZR:Hid (wz.heap[W.heap.size]? = some (.cells ⟨[.int .i64 (lo),.int .i64 (hi)]⟩ 128 (0,0))):=by rw[hwz];exact ai2 R3.out
  have ZF:Hid (ai1 mb W wz):=by rw[hwz];exact(ai1.of_below K3.out).then (ajB (Nat.le_refl _) _ _)
  have ZM:Hid (∃L',ai5 wz mb t.ins L'∧∀k∈L',k∈L∨k.2≤a):=by
   obtain⟨L',m1,m2⟩:=(⟨L,M3.out,fun k hk=>.inl hk⟩:∃L',ai5 w3 mb t.ins L'∧∀k∈L',k∈L∨k.2≤a)
   rw[hwz];exact⟨L',(m1.set_ (by omega) _ _).set_ (by omega) _ _,m2⟩
  have HWZ:=hI hwz
  clear hwz
  go_wp2_with fail
  rw[←HWZ.out]
  have n0:=crZ ZR 0 rfl
  have n1:=crZ ZR 1 rfl
  rw[HSV.out]
  exact bodyPost_ret (v:=.agg #[.int .i64 (lo),.int .i64 (hi)]) (by simp[results,Tryz.results54,go_sem,n0,n1]) rfl ⟨rfl,ZF.out,ZM.out⟩
 case false=>
 have hnin:(v,a)∉L:=of_decide_eq_false hk1.symm
 have HNI:=hI hnin
 clear hk1 hk2 hnin hsv
 have IT:=al8 (IH.out v hv) hc hfi F3.out M3.out hl (by omega:v<t.ins.length)
 obtain⟨⟨il,ir⟩,hit⟩:∃r,ai4 t.ins (ai0 t.ins · v) v=r:=⟨_,rfl⟩
 rw[hit] at IT
 have HIT:Hid (sUq t.ins v (v+1)=(il,ir)):=(al4 t.ins v).trans hit
 have HITC:=hI IT
 clear IT hit
 go_wp2_with fail
 refine HITC.out.mono ?_
 rintro e w4 ⟨rfl,k4,L4,m4,hL4⟩
 obtain⟨w5,hw5⟩:∃w5,w5=w4.alloc (.cells #[.int .i64 il,.int .i64 ir] 128):=⟨_,rfl⟩
 obtain⟨sb,hsb⟩:∃sb,sb=w4.heap.size:=⟨_,rfl⟩
 have hsb1:W.heap.size+1<sb:=by rw[hsb];have:=k4.size;omega
 have S5:Hid (Sp W B fb mb ca t v a L W.heap.size (W.heap.size+1) sb (il,ir) w5):=by
  have kb:=aB w4 (.cells #[.int .i64 il,.int .i64 ir] 128)
  rw[←hw5] at kb
  refine⟨(F3.out.fined k4).below kb,⟨L4,m4.below kb,fun k hk=>(hL4 k hk).elim .inl (fun h=>.inr (by omega))⟩,((ai1.of_below K3.out).trans k4).below_ kb,?_,?_,?_⟩
  ·exact(kb.block _ (by omega)).trans (k4.row R3.out (by omega))
  ·exact(kb.block _ (by omega)).trans (k4.row Q3.out (by omega))
  ·rw[hw5,hsb];exact aJ _ _
 have HW5:=hI hw5
 have HSB:=hI hsb
 clear hw5 hsb k4 m4 hL4 HITC F1 M1 R1 Q1 F3 M3 R3 Q3 V3 L3 K3
 go_upto_region 6 with fail
 rw[←HW5.out,←HSB.out]
 go_wp2_with fail
 go_loopw [11] (fun i wr=>∃j:Nat,i=.int .i64 (j:Int)∧v+1≤j∧j≤a∧Hid (Sp W B fb mb ca t v a L W.heap.size (W.heap.size+1) sb (sUq t.ins v j) wr)) (fun i _=>a - (RowKit.intOf i).toNat)
 case atStart=>exact⟨v+1,by go_num,by omega,by omega,by rw[HIT.out];exact S5⟩
 case round=>
  obtain⟨j,rfl,hj0,hj,SP0⟩:=hrel
  obtain⟨wo,hwo⟩:∃wo,wo=wr:=⟨_,rfl⟩
  subst hwo
  have OKS:=hI (sU_ok hc v j)
  have HNEXT:=hI (sUq_next t.ins (v:=v) (i:=j) (by omega))
  obtain⟨⟨sl,sh⟩,hsj⟩:∃r,sUq t.ins v j=r:=⟨_,rfl⟩
  have HALL:Hid (j=a→ai0 t.ins v a=(sl,sh)):=fun e=>by rw[sU_all t.ins hv,←e];exact hsj
  rw[hsj] at SP0 OKS HNEXT
  clear hsj HIT
  by_cases hlt:j<a
  ·have hji:(j:Int)<a:=by omega
   have hjl:(j:Int)<t.ins.length:=by omega
   obtain⟨Ai,ni,p3,qi⟩:=SP0.out.find.tr.at3
   obtain⟨b,off,g,rfl,hb,hg,wg,hat⟩:=rN qi (i:=j) (by omega)
   have l3:=SP0.out.find.head 3 _ p3
   have hB:=SP0.out.find.hB
   have hfo:=SP0.out.find.lt
   have hbz:b<wo.heap.size:=by omega
   have P3:=hI p3
   have QI:=hI qi
   have HG:=hI hg
   have g0:wo.cell? ⟨b,off+j*8,none⟩=some (.int .i64 g.op):=hat 0 _ rfl
   have g1:wo.cell? ⟨b,off+j*8+1,none⟩=some (.int .i64 g.a):=hat 1 _ rfl
   have g2:wo.cell? ⟨b,off+j*8+2,none⟩=some (.int .i64 g.b):=hat 2 _ rfl
   have g3:wo.cell? ⟨b,off+j*8+3,none⟩=some (.int .i64 g.c):=hat 3 _ rfl
   have g4:wo.cell? ⟨b,off+j*8+4,none⟩=some (.int .i64 g.n):=hat 4 _ rfl
   have g5:wo.cell? ⟨b,off+j*8+5,none⟩=some (.int .i64 g.exit):=hat 5 _ rfl
   have g6:wo.cell? ⟨b,off+j*8+6,none⟩=some (.int .i64 g.k.kind):=hat 6 _ rfl
   have g7:wo.cell? ⟨b,off+j*8+7,none⟩=some (.int .i64 g.k.n):=hat 7 _ rfl
   obtain⟨wa,hwa⟩:∃wa,wa=wo.alloc (.cells #[.int .i64 g.op,.int .i64 g.a,.int .i64 g.b,.int .i64 g.c,.int .i64 g.n,.int .i64 g.exit,.int .i64 g.k.kind,.int .i64 g.k.n] 92):=⟨_,rfl⟩
   have LA:Hid (Below wo.heap.size wo wa):=by rw[hwa];exact aB _ _
   have GA:Hid (wa.heap[wo.heap.size]? = some (.cells ⟨jS g⟩ 92 (0,0))):=by rw[hwa];exact aJ _ _
   have SA:=hI (SP0.out.below LA.out)
   have hza:wo.heap.size<wa.heap.size:=(aE GA.out).1
   have hsbo:sb<wo.heap.size:=(aE SP0.out.sr).1
   have HWA:=hI hwa
   clear hwa hat hg wg p3 qi
   go_upto_region 10 with fail
   rw[←HWA.out]
   clear g0 g1 g2 g3 g4 g5 g6 g7 l3
   have x0:=amH GA.out 0 (.int .i64 g.op) rfl
   by_cases o5:g.op=5
   case neg=>
    have b5:(g.op != 5)=true:=by simpa using o5
    have HNX:Hid (sUq t.ins v (j+1)=(sl,sh)):=by
     show _=_
     rw[HNEXT.out,alG t.ins (ai0 t.ins) v (sl,sh) j (insAt_some HG.out).1 rfl,if_pos o5]
    go_wp2_with fail
    go_roundw
    case rel=>exact⟨j+1,by go_num,by omega,by omega,by rw[HNX.out];exact SA⟩
    case measure=>simp[RowKit.intOf];omega
   have b5:(g.op != 5)=false:=by simp[o5]
   have hga:=hfi j g HG.out g.a (by rw[asks5 o5];simp)
   obtain⟨m,hm⟩:=Int.eq_ofNat_of_zero_le hga.1
   have hmj:m<j:=by omega
   have hml:(m:Int)<t.ins.length:=by omega
   obtain⟨b',off',c,hbo,hb',hcx,wc',hat⟩:=rN QI.out (i:=m) (by omega)
   obtain⟨rfl,rfl⟩:b=b'∧off=off':=by injection hbo with hbo;injection hbo with h1 h2;exact⟨h1,h2⟩
   have HC:=hI hcx
   have HST0:=alG t.ins (ai0 t.ins) v (sl,sh) j (g:=g) (c:=c) (insAt_some HG.out).1 (by rw[hm];exact(insAt_some hcx).1)
   rw[if_neg (by omega),←HNEXT.out] at HST0
   have HST1:=hI HST0
   have HGM:=hI hm
   have l3:=SA.out.find.head 3 _ P3.out
   have hfa:=SA.out.find.lt
   have e3:=ecZ l3
   have eg:∀E:Up wa,E.to.cell? ⟨wo.heap.size,1,none⟩=some (.int .i64 (m:Int)):=fun E=>by rw[←HGM.out];exact E.cell (amH GA.out 1 _ rfl)
   have RX:Hid (∀E:Up wa,E.to.rangeAt b (off+m*8) (jS c)):=fun E k u hk=>E.cell ((LA.out.cell (Nat.lt_of_lt_of_le hb' (by omega))).trans (hat k u hk))
   have LX:Hid ((Tryz.prog.info? 92).map (·.size)=some (jS c).length):=akJ
   clear hbo hcx wc' hat HST0 hm o5 hga HNEXT l3
   go_upto_region 11 with fail
   refine cV (fun w'=>∃E:Up wa,w'=E.to) 9 [9,10] [9] (by kernel_rfl) (by decide) (by kernel_rfl) (fun _ _ d _ _ h=>by cases d <;> exact h) ⟨⟨_,(Below.refl _ wa).drew⟩,rfl⟩ ?_
   simp only[List.take_succ_cons,List.take_zero]
   generalize hqq:(fun a'=>gA _ _ _ _ _ _ a' _)=qq
   have HQQ:=hI hqq
   clear hqq
   repeat (first
    | (refine aO 92 _ rfl rfl b (off+m*8) rfl (jS c) _ RX.out Tryz.underlying92 rfl LX.out ?_;go_simp)
    | go_big_quiet_step (fail))
   refine wpQuiet_nil ?_
   rw[←HQQ.out]
   clear HQQ qq e3 eg RX LX
   refine bA rfl (fun K hK=>?_)
   go_simp
   obtain⟨wd,hwd⟩:∃wd,wd=(wa.alloc (.cells ⟨alW⟩ 92)).drew:=⟨_,rfl⟩
   have LD:Hid (Below wa.heap.size wa wd):=by rw[hwd];exact(aB wa _).drew
   have CD:Hid (wd.heap[wa.heap.size]? = some (.cells ⟨alW⟩ 92 (0,0))):=by rw[hwd];exact aJ wa _
   unfold alW at hwd
   rw[←hwd]
   refine hK _ _ (fun _=>⟨⟨wd,LD.out⟩,rfl⟩) ?_
   clear hK K hwd
   have TH:=hI (uJ (n:=8) CD.out (by simp[alW]))
   refine bP [10] _ _ (by kernel_rfl) (by kernel_rfl) ?_
   simp only[List.filterMap_cons,List.filterMap_nil,List.getElem?_toArray,List.getElem?_cons_zero,List.getElem?_cons_succ]
   refine wpList_store_mid rfl 92 _ _ rfl wa.heap.size 0 ⟨jS c⟩ rfl rfl TH.out akJ (all_oneCell_toArray (amA c)) ?_
   generalize hwf:World.setCells _ _ _ _=wf
   have LF:Hid (Below wa.heap.size wa wf):=by rw[←hwf];exact ad9 (Nat.le_refl _) _ _ _ LD.out
   obtain⟨cbx,hcbx⟩:∃cbx,cbx=wa.heap.size:=⟨_,rfl⟩
   have CB:Hid (wf.heap[cbx]? = some (.cells ⟨jS c⟩ 92 (0,0))):=by rw[←hwf,hcbx];exact amB CD.out
   have GB:Hid (wf.heap[wo.heap.size]? = some (.cells ⟨jS g⟩ 92 (0,0))):=(LF.out.block _ hza).trans GA.out
   have SC:=hI (SA.out.below LF.out)
   have hzc:cbx<wf.heap.size:=(aE CB.out).1
   have hzg:wo.heap.size<wf.heap.size:=(aE GB.out).1
   rw[←hcbx]
   clear hwf hcbx TH CD LD
   obtain⟨ib,hib⟩:∃ib,ajU t.ins (m:Int)=ib:=⟨_,rfl⟩
   have IC:=al9 SC.out.find HC.out hl
   rw[hib] at IC
   have HIC:=hI IC
   clear IC
   obtain⟨sk,hsk⟩:∃sk,((c.op != 7) || ((c.n != 9) && (c.n != 10)) || ((c.a != (v:Int)) && (c.b != (v:Int))) || !ib)=sk:=⟨_,rfl⟩
   have HSK:=hI hsk
   have HIB:=hI hib
   go_upto_region 12 with fail
   dsimp only [Act.put]
   go_cut [90] (fun s9 wx=>s9=.bool sk∧Sp W B fb mb ca t v a L W.heap.size (W.heap.size+1) sb (sl,sh) wx∧wx.heap[cbx]? = some (.cells ⟨jS c⟩ 92 (0,0))∧wx.heap[wo.heap.size]? = some (.cells ⟨jS g⟩ 92 (0,0)))
   case first=>
    have c0:=amH CB.out 0 (.int .i64 c.op) rfl
    have c1:=amH CB.out 1 (.int .i64 c.a) rfl
    have c2:=amH CB.out 2 (.int .i64 c.b) rfl
    have c4:=amH CB.out 4 (.int .i64 c.n) rfl
    have gg1:=amH GB.out 1 (.int .i64 (m:Int)) (by rw[←HGM.out];rfl)
    have hib:=HIB.out
    by_cases o7:c.op=7
    case neg=>
     have q1:(c.op != 7)=true:=by simpa using o7
     have e:sk=true:=by rw[←hsk];simp[o7]
     clear hsk
     go_wp2_with fail
     go_meet
     case rel=>exact⟨by rw[e],SC.out,CB.out,GB.out⟩
    have q1:(c.op != 7)=false:=by simp[o7]
    by_cases n9:c.n=9
    case pos=>
     have q2:(c.n != 9)=false:=by simp[n9]
     by_cases av:c.a=(v:Int)
     case pos=>
      have q4:(c.a != (v:Int))=false:=by simp[av]
      have e:sk = !ib:=by rw[←hsk];simp[o7,n9,av,hib]
      clear hsk
      go_wp2_with fail
      refine HIC.out.mono ?_
      rintro e' wi ⟨rfl,ki⟩
      have SI:=hI (SC.out.below ki)
      have CI:=rkZ CB ki
      have GI:=rkZ GB ki
      clear ki
      go_wp2_with fail
      go_meet
      case rel=>exact⟨by rw[e],SI.out,CI.out,GI.out⟩
     have q4:(c.a != (v:Int))=true:=by simpa using av
     by_cases bv:c.b=(v:Int)
     case pos=>
      have q5:(c.b != (v:Int))=false:=by simp[bv]
      have e:sk = !ib:=by rw[←hsk];simp[o7,n9,bv,hib]
      clear hsk
      go_wp2_with fail
      refine HIC.out.mono ?_
      rintro e' wi ⟨rfl,ki⟩
      have SI:=hI (SC.out.below ki)
      have CI:=rkZ CB ki
      have GI:=rkZ GB ki
      clear ki
      go_wp2_with fail
      go_meet
      case rel=>exact⟨by rw[e],SI.out,CI.out,GI.out⟩
     have q5:(c.b != (v:Int))=true:=by simpa using bv
     have e:sk=true:=by rw[←hsk];simp[av,bv]
     clear hsk
     go_wp2_with fail
     go_meet
     case rel=>exact⟨by rw[e],SC.out,CB.out,GB.out⟩
    have q2:(c.n != 9)=true:=by simpa using n9
    by_cases n10:c.n=10
    case neg=>
     have q3:(c.n != 10)=true:=by simpa using n10
     have e:sk=true:=by rw[←hsk];simp[n9,n10]
     clear hsk
     go_wp2_with fail
     go_meet
     case rel=>exact⟨by rw[e],SC.out,CB.out,GB.out⟩
    have q3:(c.n != 10)=false:=by simp[n10]
    by_cases av:c.a=(v:Int)
    case pos=>
     have q4:(c.a != (v:Int))=false:=by simp[av]
     have e:sk = !ib:=by rw[←hsk];simp[o7,n10,av,hib]
     clear hsk
     go_wp2_with fail
     refine HIC.out.mono ?_
     rintro e' wi ⟨rfl,ki⟩
     have SI:=hI (SC.out.below ki)
     have CI:=rkZ CB ki
     have GI:=rkZ GB ki
     clear ki
     go_wp2_with fail
     go_meet
     case rel=>exact⟨by rw[e],SI.out,CI.out,GI.out⟩
    have q4:(c.a != (v:Int))=true:=by simpa using av
    by_cases bv:c.b=(v:Int)
    case pos=>
     have q5:(c.b != (v:Int))=false:=by simp[bv]
     have e:sk = !ib:=by rw[←hsk];simp[o7,n10,bv,hib]
     clear hsk
     go_wp2_with fail
     refine HIC.out.mono ?_
     rintro e' wi ⟨rfl,ki⟩
     have SI:=hI (SC.out.below ki)
     have CI:=rkZ CB ki
     have GI:=rkZ GB ki
     clear ki
     go_wp2_with fail
     go_meet
     case rel=>exact⟨by rw[e],SI.out,CI.out,GI.out⟩
    have q5:(c.b != (v:Int))=true:=by simpa using bv
    have e:sk=true:=by rw[←hsk];simp[av,bv]
    clear hsk
    go_wp2_with fail
    go_meet
    case rel=>exact⟨by rw[e],SC.out,CB.out,GB.out⟩
   case rest=>
    obtain⟨wx,hwx⟩:∃wx,wx=wc:=⟨_,rfl⟩
    subst hwx
    obtain⟨rfl,sc,cb,gb⟩:=hcut
    have SC:=hI sc
    have CB:=hI cb
    have GB:=hI gb
    have hzc:cbx<wx.heap.size:=(aE cb).1
    have hzg:wo.heap.size<wx.heap.size:=(aE gb).1
    clear sc cb gb hsk hib HIC SA SP0
    cases sk
    case true=>
     have HNX:Hid (sUq t.ins v (j+1)=(sl,sh)):=by
      have h:=HSK.out
      show _=_
      rw[HST1.out,HGM.out,HIB.out,if_pos]
      simp only[Bool.or_eq_true,Bool.and_eq_true,bne_iff_ne,Bool.not_eq_true'] at h
      rcases h with ((h | h) | h) | h
      ·exact .inl h
      ·exact .inr (.inl h)
      ·exact .inr (.inr (.inl h))
      ·exact .inr (.inr (.inr h))
     go_wp2_with fail
     go_roundw
     case rel=>exact⟨j+1,by go_num,by omega,by omega,by rw[HNX.out];exact SC⟩
     case measure=>simp[RowKit.intOf];omega
    case false=>
     have h:=HSK.out
     simp only[Bool.or_eq_false_iff,Bool.and_eq_false_iff,bne_eq_false_iff_eq,Bool.not_eq_false'] at h
     obtain⟨⟨⟨h1,h2⟩,h3⟩,h4⟩:=h
     have hst:=HST1.out
     rw[HGM.out,HIB.out,if_neg (by
      rintro (k | k | k | k)
      ·exact k h1
      ·rcases h2 with h2 | h2
       ·exact k.1 h2
       ·exact k.2 h2
      ·rcases h3 with h3 | h3
       ·exact k.1 h3
       ·exact k.2 h3
      ·rw[h4] at k;cases k)] at hst
     have HST:=hI hst
     have hca:=hfi m c HC.out
     rw[asks7 h1] at hca
     have ha1:=hca c.a (by simp)
     have ha2:=hca c.b (by simp)
     obtain⟨p,hp⟩:=Int.eq_ofNat_of_zero_le ha1.1
     obtain⟨q,hq⟩:=Int.eq_ofNat_of_zero_le ha2.1
     have hpm:p<m:=by omega
     have hqm:q<m:=by omega
     have HCA:=hI hp
     have HCB:=hI hq
     clear hst hca ha1 ha2 hp hq h1 h2 h3 h4 HST1 HSK
     have c1:=amH CB.out 1 (.int .i64 (p:Int)) (by rw[←HCA.out];rfl)
     have c2:=amH CB.out 2 (.int .i64 (q:Int)) (by rw[←HCB.out];rfl)
     have c4:=amH CB.out 4 (.int .i64 c.n) rfl
     have gg4:=amH GB.out 4 (.int .i64 g.n) rfl
     have s0:=amH SC.out.sr 0 (.int .i64 sl) rfl
     have s1:=amH SC.out.sr 1 (.int .i64 sh) rfl
     have hsbx:sb<wx.heap.size:=(aE SC.out.sr).1
     by_cases n9:c.n=9
     ·have q9:(c.n == 9)=true:=beq_iff_eq.2 n9
      have HN9:=hI n9
      clear n9
      by_cases n1:g.n=1
      ·have q1:(g.n == 1)=true:=beq_iff_eq.2 n1
       have HN1:=hI n1
       clear n1
       obtain⟨L',m1,m2⟩:=SC.out.map
       have NC:=aj6 (IH.out j hlt) hc SC.out.find m1 (by omega) hl sl sh OKS.out (v:Int) p q (by omega) (by omega) 1 (by omega) (by omega)
       obtain⟨⟨rl,rh⟩,hrr⟩:∃r,ajA (ai0 t.ins · j) (sl,sh) v p q 1=r:=⟨_,rfl⟩
       rw[hrr] at NC
       have HM2:=hI m2
       have HNC:=hI NC
       have HNX:Hid (sUq t.ins v (j+1)=(rl,rh)):=by
        show _=_
        rw[HST.out,if_pos HN1.out,if_pos HN9.out,HCA.out,HCB.out];exact hrr
       clear NC hrr m1 m2
       go_wp2_with fail
       refine HNC.out.mono ?_
       rintro e wn ⟨rfl,kn,Ln,mn,hLn⟩
       have SN:Hid (Sp W B fb mb ca t v a L W.heap.size (W.heap.size+1) sb (sl,sh) wn):=SC.out.next (by omega) (by omega) (by omega) kn ⟨Ln,mn,fun k hk=>(hLn k hk).elim (fun h=>HM2.out k h) (fun h=>.inr (by omega))⟩
       clear kn mn hLn HNC
       have s0:=amH SN.out.sr 0 (.int .i64 sl) rfl
       have s1:=amH SN.out.sr 1 (.int .i64 sh) rfl
       have z0:=frozen_of_row wn sb 0 _ _ SN.out.sr
       have z1:=frozen_of_row wn sb 1 _ _ SN.out.sr
       obtain⟨wq,hwq⟩:∃wq,wq=(wn.setCell ⟨sb,0,none⟩ (.int .i64 rl)).setCell ⟨sb,1,none⟩ (.int .i64 rh):=⟨_,rfl⟩
       have SQ:Hid (Sp W B fb mb ca t v a L W.heap.size (W.heap.size+1) sb (rl,rh) wq):=by rw[hwq];exact SN.out.set2 (by omega) (by omega) (by omega) hmW hfW (rl,rh)
       have HWQ:=hI hwq
       clear hwq
       go_wp2_with fail
       rw[←HWQ.out]
       go_roundw
       case rel=>exact⟨j+1,by go_num,by omega,by omega,by rw[HNX.out];exact SQ⟩
       case measure=>simp[RowKit.intOf];omega
      ·have q1:(g.n == 1)=false:=bF n1
       have HN1:=hI n1
       clear n1
       obtain⟨L',m1,m2⟩:=SC.out.map
       have NC:=aj6 (IH.out j hlt) hc SC.out.find m1 (by omega) hl sl sh OKS.out (v:Int) q p (by omega) (by omega) 0 (by omega) (by omega)
       obtain⟨⟨rl,rh⟩,hrr⟩:∃r,ajA (ai0 t.ins · j) (sl,sh) v q p 0=r:=⟨_,rfl⟩
       rw[hrr] at NC
       have HM2:=hI m2
       have HNC:=hI NC
       have HNX:Hid (sUq t.ins v (j+1)=(rl,rh)):=by
        show _=_
        rw[HST.out,if_neg HN1.out,if_pos HN9.out,HCA.out,HCB.out];exact hrr
       clear NC hrr m1 m2
       go_wp2_with fail
       refine HNC.out.mono ?_
       rintro e wn ⟨rfl,kn,Ln,mn,hLn⟩
       have SN:Hid (Sp W B fb mb ca t v a L W.heap.size (W.heap.size+1) sb (sl,sh) wn):=SC.out.next (by omega) (by omega) (by omega) kn ⟨Ln,mn,fun k hk=>(hLn k hk).elim (fun h=>HM2.out k h) (fun h=>.inr (by omega))⟩
       clear kn mn hLn HNC
       have s0:=amH SN.out.sr 0 (.int .i64 sl) rfl
       have s1:=amH SN.out.sr 1 (.int .i64 sh) rfl
       have z0:=frozen_of_row wn sb 0 _ _ SN.out.sr
       have z1:=frozen_of_row wn sb 1 _ _ SN.out.sr
       obtain⟨wq,hwq⟩:∃wq,wq=(wn.setCell ⟨sb,0,none⟩ (.int .i64 rl)).setCell ⟨sb,1,none⟩ (.int .i64 rh):=⟨_,rfl⟩
       have SQ:Hid (Sp W B fb mb ca t v a L W.heap.size (W.heap.size+1) sb (rl,rh) wq):=by rw[hwq];exact SN.out.set2 (by omega) (by omega) (by omega) hmW hfW (rl,rh)
       have HWQ:=hI hwq
       clear hwq
       go_wp2_with fail
       rw[←HWQ.out]
       go_roundw
       case rel=>exact⟨j+1,by go_num,by omega,by omega,by rw[HNX.out];exact SQ⟩
       case measure=>simp[RowKit.intOf];omega
     ·have q9:(c.n == 9)=false:=bF n9
      have HN9:=hI n9
      clear n9
      by_cases n1:g.n=1
      ·have q1:(g.n == 1)=true:=beq_iff_eq.2 n1
       have HN1:=hI n1
       clear n1
       obtain⟨L',m1,m2⟩:=SC.out.map
       have NC:=aj6 (IH.out j hlt) hc SC.out.find m1 (by omega) hl sl sh OKS.out (v:Int) p q (by omega) (by omega) 0 (by omega) (by omega)
       obtain⟨⟨rl,rh⟩,hrr⟩:∃r,ajA (ai0 t.ins · j) (sl,sh) v p q 0=r:=⟨_,rfl⟩
       rw[hrr] at NC
       have HM2:=hI m2
       have HNC:=hI NC
       have HNX:Hid (sUq t.ins v (j+1)=(rl,rh)):=by
        show _=_
        rw[HST.out,if_pos HN1.out,if_neg HN9.out,HCA.out,HCB.out];exact hrr
       clear NC hrr m1 m2
       go_wp2_with fail
       refine HNC.out.mono ?_
       rintro e wn ⟨rfl,kn,Ln,mn,hLn⟩
       have SN:Hid (Sp W B fb mb ca t v a L W.heap.size (W.heap.size+1) sb (sl,sh) wn):=SC.out.next (by omega) (by omega) (by omega) kn ⟨Ln,mn,fun k hk=>(hLn k hk).elim (fun h=>HM2.out k h) (fun h=>.inr (by omega))⟩
       clear kn mn hLn HNC
       have s0:=amH SN.out.sr 0 (.int .i64 sl) rfl
       have s1:=amH SN.out.sr 1 (.int .i64 sh) rfl
       have z0:=frozen_of_row wn sb 0 _ _ SN.out.sr
       have z1:=frozen_of_row wn sb 1 _ _ SN.out.sr
       obtain⟨wq,hwq⟩:∃wq,wq=(wn.setCell ⟨sb,0,none⟩ (.int .i64 rl)).setCell ⟨sb,1,none⟩ (.int .i64 rh):=⟨_,rfl⟩
       have SQ:Hid (Sp W B fb mb ca t v a L W.heap.size (W.heap.size+1) sb (rl,rh) wq):=by rw[hwq];exact SN.out.set2 (by omega) (by omega) (by omega) hmW hfW (rl,rh)
       have HWQ:=hI hwq
       clear hwq
       go_wp2_with fail
       rw[←HWQ.out]
       go_roundw
       case rel=>exact⟨j+1,by go_num,by omega,by omega,by rw[HNX.out];exact SQ⟩
       case measure=>simp[RowKit.intOf];omega
      ·have q1:(g.n == 1)=false:=bF n1
       have HN1:=hI n1
       clear n1
       obtain⟨L',m1,m2⟩:=SC.out.map
       have NC:=aj6 (IH.out j hlt) hc SC.out.find m1 (by omega) hl sl sh OKS.out (v:Int) q p (by omega) (by omega) 1 (by omega) (by omega)
       obtain⟨⟨rl,rh⟩,hrr⟩:∃r,ajA (ai0 t.ins · j) (sl,sh) v q p 1=r:=⟨_,rfl⟩
       rw[hrr] at NC
       have HM2:=hI m2
       have HNC:=hI NC
       have HNX:Hid (sUq t.ins v (j+1)=(rl,rh)):=by
        show _=_
        rw[HST.out,if_neg HN1.out,if_neg HN9.out,HCA.out,HCB.out];exact hrr
       clear NC hrr m1 m2
       go_wp2_with fail
       refine HNC.out.mono ?_
       rintro e wn ⟨rfl,kn,Ln,mn,hLn⟩
       have SN:Hid (Sp W B fb mb ca t v a L W.heap.size (W.heap.size+1) sb (sl,sh) wn):=SC.out.next (by omega) (by omega) (by omega) kn ⟨Ln,mn,fun k hk=>(hLn k hk).elim (fun h=>HM2.out k h) (fun h=>.inr (by omega))⟩
       clear kn mn hLn HNC
       have s0:=amH SN.out.sr 0 (.int .i64 sl) rfl
       have s1:=amH SN.out.sr 1 (.int .i64 sh) rfl
       have z0:=frozen_of_row wn sb 0 _ _ SN.out.sr
       have z1:=frozen_of_row wn sb 1 _ _ SN.out.sr
       obtain⟨wq,hwq⟩:∃wq,wq=(wn.setCell ⟨sb,0,none⟩ (.int .i64 rl)).setCell ⟨sb,1,none⟩ (.int .i64 rh):=⟨_,rfl⟩
       have SQ:Hid (Sp W B fb mb ca t v a L W.heap.size (W.heap.size+1) sb (rl,rh) wq):=by rw[hwq];exact SN.out.set2 (by omega) (by omega) (by omega) hmW hfW (rl,rh)
       have HWQ:=hI hwq
       clear hwq
       go_wp2_with fail
       rw[←HWQ.out]
       go_roundw
       case rel=>exact⟨j+1,by go_num,by omega,by omega,by rw[HNX.out];exact SQ⟩
       case measure=>simp[RowKit.intOf];omega
  ·have hja:a=j:=by omega
   subst hja
   have hji:¬(a:Int)<a:=by omega
   have hres:=HALL.out rfl
   rw[HSV.out] at hres
   injection hres with e1 e2
   subst e1;subst e2
   obtain⟨L',m1,m2⟩:=SP0.out.map
   have hn:(v,a)∉L':=fun h=>(m2 _ h).elim HNI.out (fun h=>by simp at h)
   have hlen:=m1.len
   have f13:=SP0.out.find.kept
   have hfo:=SP0.out.find.lt
   have hsbo:sb<wo.heap.size:=(aE SP0.out.sr).1
   have hko:W.heap.size+1<wo.heap.size:=(aE SP0.out.kr).1
   have e0:=ecZ f13
   have e1:∀E:Up wo,E.to.cell? ⟨W.heap.size+1,0,none⟩=some (.int .i64 (v:Int)):=fun E=>E.cell (amH SP0.out.kr 0 _ rfl)
   have e2:∀E:Up wo,E.to.cell? ⟨W.heap.size+1,1,none⟩=some (.int .i64 (a:Int)):=fun E=>E.cell (amH SP0.out.kr 1 _ rfl)
   have e3:∀E:Up wo,E.to.cell? ⟨sb,0,none⟩=some (.int .i64 lo):=fun E=>E.cell (amH SP0.out.sr 0 _ rfl)
   have e4:∀E:Up wo,E.to.cell? ⟨sb,1,none⟩=some (.int .i64 hi):=fun E=>E.cell (amH SP0.out.sr 1 _ rfl)
   have M1:=hI m1
   have M2:=hI m2
   have HN:=hI hn
   clear m1 m2 hn f13
   go_upto_region 19 with fail
   refine cV (fun w'=>∃E:Up wo,w'=E.to) 6 [6] [] (by kernel_rfl) (by decide) (by kernel_rfl) (fun _ _ d _ _ h=>by cases d <;> exact h) ⟨⟨_,(Below.refl _ wo).drew⟩,rfl⟩ ?_
   simp only[List.take_succ_cons,List.take_zero]
   generalize hqq:(fun a'=>gA _ _ _ _ _ _ a' _)=qq
   have HQQ:=hI hqq
   clear hqq
   repeat (go_big_quiet_step (fail))
   refine wpQuiet_nil ?_
   rw[←HQQ.out]
   clear HQQ qq e0 e1 e2 e3 e4
   refine bP [6] _ _ (by kernel_rfl) (by kernel_rfl) ?_
   simp only[List.filterMap_cons,List.filterMap_nil,List.getElem?_toArray,List.getElem?_cons_zero,List.getElem?_cons_succ]
   refine wpList_mapUpdate_own _ rfl _ _ _ 124 rfl 174 128 ajT Tryz.underlying124 ajX mb L'.length (ajY t.ins L') rfl (M1.out.below (Below.refl _ wo).drew).own (by unfold maxLen;omega) (ai7 v a) (ai7 lo hi) (aj9 v a) rfl rfl (ajG (ajE (n:=v) (by omega)) (ajE (n:=a) (by omega))) (.agg [.lit (.int .i64 lo),.lit (.int .i64 hi)]) [] (akK lo hi) ?_
   intro w8 hown8 hgrow
   have k8:ai1 mb wo w8:=(ai1.refl mb wo).drew.trans ⟨hgrow.os,hgrow.tape,hgrow.output,hgrow.size,fun k hk hc=>hgrow.block k hk (fun e=>hc (by injection e))⟩
   have M8:Hid (∃L',ai5 w8 mb t.ins L'∧∀k∈L',k∈L∨k.2≤a):=⟨(v,a)::L',M1.out.put hv (by omega) HN.out (by rw[HSV.out];exact hown8),fun k hk=>by
    rcases List.mem_cons.1 hk with rfl | hk
    ·exact .inr (Nat.le_refl _)
    ·exact(M2.out k hk).elim .inl (fun h=>.inr (by omega))⟩
   have F8:Hid (ai1 mb W w8):=SP0.out.fin.trans k8
   have R8:Hid (w8.heap[W.heap.size]? = some (.cells ⟨[.int .i64 0,.int .i64 0]⟩ 128 (0,0))):=k8.row SP0.out.rr (by omega)
   have S8:=k8.row SP0.out.sr (by omega)
   have b0:=amH S8 0 (.int .i64 lo) rfl
   have b1:=amH S8 1 (.int .i64 hi) rfl
   have hs8:sb<w8.heap.size:=(aE S8).1
   clear hown8 hgrow k8 S8 SP0 M1 M2 HN
   have r0:=amH R8.out 0 (.int .i64 0) rfl
   have r1:=amH R8.out 1 (.int .i64 0) rfl
   have y0:=fzZ R8 0
   have y1:=fzZ R8 1
   obtain⟨wz,hwz⟩:∃wz,wz=(w8.setCell ⟨W.heap.size,0,none⟩ (.int .i64 (lo))).setCell ⟨W.heap.size,1,none⟩ (.int .i64 (hi)):=⟨_,rfl⟩
   have ZR:Hid (wz.heap[W.heap.size]? = some (.cells ⟨[.int .i64 (lo),.int .i64 (hi)]⟩ 128 (0,0))):=by rw[hwz];exact ai2 R8.out
   have ZF:Hid (ai1 mb W wz):=by rw[hwz];exact(F8.out).then (ajB (Nat.le_refl _) _ _)
   have ZM:Hid (∃L',ai5 wz mb t.ins L'∧∀k∈L',k∈L∨k.2≤a):=by
    obtain⟨L',m1,m2⟩:=M8.out
    rw[hwz];exact⟨L',(m1.set_ (by omega) _ _).set_ (by omega) _ _,m2⟩
   have HWZ:=hI hwz
   clear hwz
   go_wp2_with fail
   rw[←HWZ.out]
   have n0:=crZ ZR 0 rfl
   have n1:=crZ ZR 1 rfl
   rw[HSV.out]
   exact bodyPost_ret (v:=.agg #[.int .i64 (lo),.int .i64 (hi)]) (by simp[results,Tryz.results54,go_sem,n0,n1]) rfl ⟨rfl,ZF.out,ZM.out⟩
theorem al1 {B fb mb:Nat} {ca:List Value} {t:aN} (hc:ajD t.ins) (hfi:akW t.ins) (hl:t.ins.length≤300):∀a,akD B fb mb ca t a:=fun a=>by
 induction a using Nat.strongRecOn with
 | ind a ih=>exact al0 ih hc hfi hl
end
end Go.Proofs.YtjaphgpkkfdaaaaGreatDoor
