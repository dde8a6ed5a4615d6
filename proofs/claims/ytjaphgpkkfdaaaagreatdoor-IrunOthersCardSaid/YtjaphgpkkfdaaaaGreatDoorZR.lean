/- Part of the walk of the given code: contracts of the functions that irun.Run reaches, and plain laws on what it reckons. -/
import Derived.Test.YtjaphgpkkfdaaaaGreatDoorZQ
import Derived.Test.YtjaphgpkkfdaaaaGreatDoorZG
import Derived.Test.YtjaphgpkkfdaaaaGreatDoorZC
import Derived.Test.YtjaphgpkkfdaaaaGreatDoorZD
import Derived.Test.YtjaphgpkkfdaaaaGreatDoorZI
set_option maxHeartbeats 16000000
set_option maxRecDepth 100000
set_option linter.all false
namespace Go.Proofs.YtjaphgpkkfdaaaaGreatDoor
section
open Go.RowKit Go.Maps Go.WideMaps
theorem aeA {w:World} {g:Nat} {cs:List Value} {t:TypeId} (h:w.heap[g]? = some (.cells ⟨cs⟩ t (0,0))):aA w g cs:=fun i v hv=>by
 rw[cell_of_row w g i _ _ _ h];simpa using hv
theorem acD (pcs cs:List Value) (p:aW) (S:aR) (w:World) (hp:eL w w.heap.size pcs p) (h:gK w w.heap.size cs S) (ht:Tab w):Calls Tryz.prog 24 #[.agg ⟨pcs⟩,.agg ⟨cs⟩] w (aM (.int .i64 (dG aG p S cC (bH p))) w):=by
 obtain⟨r,hr⟩:∃r,dG aG p S cC (bH p)=r:=⟨_,rfl⟩
 rw[hr]
 unfold dG at hr
 obtain⟨w0,hw0⟩:∃w0,w0=(w.alloc (.cells ⟨pcs⟩ 26)).alloc (.cells ⟨cs⟩ 40):=⟨_,rfl⟩
 have TB:=jZ w pcs cs 26 40
 rw[←hw0] at TB
 obtain⟨t1,t2,t3⟩:=TB
 have P1:=hI t1
 have P2:=hI t2
 have k0:=hI t3
 have hz:w.heap.size+1<w0.heap.size:=by rw[hw0];simp
 have HP0:=hI (hp.below k0.out)
 have ST0:Hid (iJ w0 (w.heap.size+1) S):=⟨cs,t2,hz,h.below k0.out⟩
 have HS0:=hI (h.below k0.out)
 have T0:=hI (ht.below k0.out)
 obtain⟨A1,n1,A2,n2,A3,n3,rfl,-⟩:=id hp
 obtain⟨Ac,nc,As,ns,At,nt,Ah,nh,Ae,ne,Aa,na,hh,-,-,-,-,s3,-⟩:=ST0.out.parts
 have S3:=hI s3
 have l3:=aP s3
 have hcs:cs=[.slice Ac S.cells.length nc,.slice As S.shapes.length ns,.slice At S.texts.length nt,.slice Ah S.threads.length nh,.slice Ae S.ends.length ne,.slice Aa S.said.length na,.int .i64 S.asked,.int .i64 S.steps]:=by
  obtain⟨c,s,t,g,e,a,rfl,-⟩:=h
  have i0:=(t2 0 _ rfl).symm.trans (hh 0 _ rfl)
  have i1:=(t2 1 _ rfl).symm.trans (hh 1 _ rfl)
  have i2:=(t2 2 _ rfl).symm.trans (hh 2 _ rfl)
  have i3:=(t2 3 _ rfl).symm.trans (hh 3 _ rfl)
  have i4:=(t2 4 _ rfl).symm.trans (hh 4 _ rfl)
  have i5:=(t2 5 _ rfl).symm.trans (hh 5 _ rfl)
  simp only[Option.some.injEq] at i0 i1 i2 i3 i4 i5
  rw[i0,i1,i2,i3,i4,i5]
 have hwf:wfi S.asked∧wfi S.steps:=by obtain⟨_,_,_,_,_,_,-,-,-,-,-,-,-,a,b⟩:=h;exact⟨a,b⟩
 subst hcs
 have HW:=hI hw0
 have C1:=hI (qH _ p w0 HP0.out T0.out)
 obtain⟨q1,hq1⟩:∃q,bH p=q:=⟨_,rfl⟩
 rw[hq1] at C1 hr
 have HQ1:=hI hq1
 clear hw0 hp h ht t1 t2 t3 hh s3 hq1
 by_cases h1:q1=0
 case neg=>
  rw[if_pos h1] at hr
  have HR:=hI hr
  have hb0:(q1 == 0)=false:=beq_eq_false_iff_ne.2 h1
  have hb1:(q1 != 0)=true:=bne_iff_ne.2 h1
  clear hr
  go_enter Tryz.func24,Tryz.ntmps24
  go_wp2_with fail
  rw[←HW.out]
  refine C1.out.mono ?_
  rintro e w1 ⟨rfl,k1⟩
  have K:=btZ k0 k1
  clear k1
  go_wp2_with fail
  go_ret
  exact⟨by rw[←HR.out];rfl,K.out⟩
 subst h1
 rw[if_neg (by simp)] at hr
 have C2:Hid (∀W,Below w0.heap.size w0 W→Calls Tryz.prog 47 #[.agg ⟨[.slice Ac S.cells.length nc,.slice As S.shapes.length ns,.slice At S.texts.length nt,.slice Ah S.threads.length nh,.slice Ae S.ends.length ne,.slice Aa S.said.length na,.int .i64 S.asked,.int .i64 S.steps]⟩] W (aM (.int .i64 (cG aG S cC)) W)):=fun W k=>adU _ S W (HS0.out.below k) (T0.out.below k)
 obtain⟨q2,hq2⟩:∃q,cG aG S cC=q:=⟨_,rfl⟩
 rw[hq2] at C2 hr
 have HQ2:=hI hq2
 clear hq2
 go_enter Tryz.func24,Tryz.ntmps24
 go_wp2_with fail
 rw[←HW.out]
 refine C1.out.mono ?_
 rintro e w1 ⟨rfl,k1⟩
 have K01:=hI k1
 have K1:=btZ k0 k1
 have d0:=(P2.out.on k1) 0 _ rfl
 have d1:=(P2.out.on k1) 1 _ rfl
 have d2:=(P2.out.on k1) 2 _ rfl
 have d3:=(P2.out.on k1) 3 _ rfl
 have d4:=(P2.out.on k1) 4 _ rfl
 have d5:=(P2.out.on k1) 5 _ rfl
 have d6:=(P2.out.on k1) 6 _ rfl
 have d7:=(P2.out.on k1) 7 _ rfl
 clear k1
 go_wp2_with fail
 refine(C2.out w1 K01.out).mono ?_
 rintro e w2 ⟨rfl,k2⟩
 have K02:=btZ K01 k2
 have K2:=btZ K1 k2
 clear k2 d0 d1 d2 d3 d4 d5 d6 d7
 by_cases h2:q2=0
 case neg=>
  rw[if_pos h2] at hr
  have HR:=hI hr
  have hb0:(q2 == 0)=false:=beq_eq_false_iff_ne.2 h2
  have hb1:(q2 != 0)=true:=bne_iff_ne.2 h2
  clear hr
  go_wp2_with fail
  go_ret
  exact⟨by rw[←HR.out];rfl,K2.out⟩
 subst h2
 rw[if_neg (by simp)] at hr
 have d3:=(P2.out.on K02.out) 3 _ rfl
 by_cases h5:5<S.threads.length
 ·rw[if_pos (.inl h5)] at hr
  have HR:=hI hr
  have hi5:(5:Int)<S.threads.length:=by omega
  clear hr h5
  go_wp2_with fail
  go_ret
  exact⟨by rw[←HR.out];rfl,K2.out⟩
 have hi5:decide ((5:Int)<S.threads.length)=false:=by simp;omega
 have C3:=hI (pO (g9 w0 w0.heap.size) (fun h=>decide (30<h.frames.length)) Ah nh S.threads 49 aaJ #[] w2 (S3.out.below K02.out) (fun w3 k3 x cs hx hR=>aaM cs x _ _ w3 hR))
 obtain⟨q3,hq3⟩:∃q,S.threads.any (fun h=>decide (30<h.frames.length))=q:=⟨_,rfl⟩
 rw[hq3] at C3 hr
 have HQ3:=hI hq3
 clear hq3
 go_wp2_with fail
 refine C3.out.mono ?_
 rintro e w3 ⟨rfl,k3⟩
 have K03:=btZ K02 k3
 have K3:=btZ K2 k3
 clear k3 d3
 cases q3
 case true=>
  have HR:Hid ((2:Int)=r):=by rw[←hr];exact(if_pos (.inr rfl)).symm
  clear hr
  go_wp2_with fail
  go_ret
  exact⟨by rw[←HR.out];rfl,K3.out⟩
 have HR:Hid ((if mF aG p S then(0:Int) else 3)=r):=by
  show _=_
  rw[←hr]
  refine(if_neg ?_).symm
  rintro (h | h)
  ·exact h5 h
  ·cases h
 obtain⟨hfn,hfs⟩:=iO HQ1.out
 have hl5:S.threads.length≤5:=by omega
 have hsm:∀h∈S.threads,h.frames.length≤30:=fun h hm=>by
  have:=List.any_eq_false.1 HQ3.out h hm
  simp at this
  exact this
 have hcm:∀c∈S.cells,kE aG S c=true:=fun c hc=>by
  have h:=HQ2.out
  unfold cG at h
  split at h
  ·cases h
  ·split at h
   ·rename_i a b;first | exact absurd h b | exact absurd h a
   ·split at h
    ·cases h
    ·rename_i hh
     simp only[Bool.or_eq_true,not_or,Bool.not_eq_true] at hh
     have:=List.any_eq_false.1 hh.2 c hc
     simpa using this
 have HSM:=hI hsm
 have HCM:=hI hcm
 have g0:=(P1.out.on K03.out) 0 _ rfl
 have g1:=(P1.out.on K03.out) 1 _ rfl
 have g2:=(P1.out.on K03.out) 2 _ rfl
 have hmm:=@run_makeMap Tryz.prog
 have hz3:w.heap.size<w3.heap.size:=by have:=K03.out.size;omega
 clear hr hfs hsm hcm h5
 obtain⟨w4,hw4⟩:∃w4,w4=(w3.alloc (.map #[] 0)).alloc (.cells #[.slice A1 p.fns.length n1,.slice A2 p.consts.length n2,.slice A3 p.texts.length n3,.pointer (some ⟨w.heap.size+1,0,none⟩),.slice none 0 0,.slice none 0 0,.map (some w3.heap.size)] 118):=⟨_,rfl⟩
 have K34:Hid (Below w3.heap.size w3 w4):=by rw[hw4];exact bE _ _ _
 have ROW4:Hid (w4.heap[w3.heap.size+1]? = some (.cells #[.slice A1 p.fns.length n1,.slice A2 p.consts.length n2,.slice A3 p.texts.length n3,.pointer (some ⟨w.heap.size+1,0,none⟩),.slice none 0 0,.slice none 0 0,.map (some w3.heap.size)] 118 (0,0))):=by rw[hw4];exact cQ _ _ _
 have G4:Hid (lN w4 w3.heap.size []):=by rw[hw4];exact(World.ownsMap_made _ _ _ _).alloc _
 have HW4:=hI hw4
 have K4:=btZ K3 K34.out
 have CA:=hI (abG _ p w4 (HP0.out.below (K03.out.trans (K34.out.mono K03.out.size))) HQ1.out)
 have hz4:w3.heap.size+1<w4.heap.size:=(aE ROW4.out).1
 have hz04:w.heap.size<w4.heap.size:=by omega
 clear hw4
 go_upto_region 10 with fail
 rw[←HW4.out]
 clear g0 g1 g2
 have g0:=((P1.out.on K03.out).on K34.out) 0 _ rfl
 have g1:=((P1.out.on K03.out).on K34.out) 1 _ rfl
 have g2:=((P1.out.on K03.out).on K34.out) 2 _ rfl
 go_wp2_with fail
 refine CA.out.mono ?_
 rintro e w5 ⟨tv,yv,rfl,htv,hyv,hlens,k5⟩
 have ROW5:Hid (w5.heap[w3.heap.size+1]? = some (.cells #[.slice A1 p.fns.length n1,.slice A2 p.consts.length n2,.slice A3 p.texts.length n3,.pointer (some ⟨w.heap.size+1,0,none⟩),.slice none 0 0,.slice none 0 0,.map (some w3.heap.size)] 118 (0,0))):=(k5.block _ hz4).trans ROW4.out
 have HTV:=hI htv
 have HYV:=hI hyv
 have HLN:=hI hlens
 have K5:=btZ K4 k5
 have G5:=hI (G4.out.below k5)
 obtain⟨ZT,zt,hze,-⟩:=id htv
 obtain⟨YT,yt,hye,-⟩:=id hyv
 rw[List.length_map] at hze hye
 subst hze;subst hye
 have K05:=hI ((K03.out.trans (K34.out.mono K03.out.size)).trans (k5.mono (by have:=K34.out.size;have:=K03.out.size;omega)))
 clear htv hyv hlens k5 g0 g1 g2
 have s4:=crZ ROW5 4 rfl
 have s5:=crZ ROW5 5 rfl
 have z4:=fzZ ROW5 4
 have z5:=fzZ ROW5 5
 go_upto_region 11 with fail
 generalize hw6:World.setCell _ _ _=w6
 have HOUT:Hid (∀k,k≠w3.heap.size+1→w6.heap[k]? = w5.heap[k]?):=fun k hk=>by rw[←hw6,heap_setCell_other _ _ _ _ hk,heap_setCell_other _ _ _ _ hk]
 have hsz6:w6.heap.size=w5.heap.size:=by rw[←hw6];simp[World.setCell]
 have ROW6:Hid (w6.heap[w3.heap.size+1]? = some (.cells #[.slice A1 p.fns.length n1,.slice A2 p.consts.length n2,.slice A3 p.texts.length n3,.pointer (some ⟨w.heap.size+1,0,none⟩),.slice ZT p.fns.length zt,.slice YT p.fns.length yt,.map (some w3.heap.size)] 118 (0,0))):=by
  rw[←hw6,heap_setCell_same _ _ _ _ _ _ (heap_setCell_same _ _ _ _ _ _ ROW5.out)];rfl
 have KB6:Hid (Below w.heap.size w w6):=by
  refine⟨?_,?_,?_,by have:=K5.out.size;omega,fun k hk=>(HOUT.out k (by omega)).trans (K5.out.block k hk)⟩
  ·rw[←hw6];exact K5.out.os
  ·rw[←hw6];exact K5.out.tape
  ·rw[←hw6];exact K5.out.output
 have KB06:Hid (∀k,k<w0.heap.size→w6.heap[k]? = w0.heap[k]?):=fun k hk=>(HOUT.out k (by have:=K03.out.size;omega)).trans (K05.out.block k hk)
 have KC06:Hid (∀q:Addr,q.block<w0.heap.size→w6.cell? q=w0.cell? q):=fun q hq=>World.cell?_of_block (KB06.out q.block hq)
 have hz06:w0.heap.size≤w6.heap.size:=by have:=K05.out.size;omega
 have KQ:Hid (∀q:Addr,fY w5 q.block→w6.cell? q=w5.cell? q):=fun q hq=>World.cell?_of_block (HOUT.out q.block (fun e=>by
  obtain⟨cs,t,fr,h1,h2⟩:=hq
  rw[e,ROW5.out] at h1
  injection h1 with h1;injection h1 with _ h1 _;exact h2 h1.symm))
 have HLT:Hid (iV w6 (w3.heap.size+1) p S (w.heap.size+1) w3.heap.size (.slice ZT p.fns.length zt) (.slice YT p.fns.length yt)):=by
  refine⟨⟨⟨_,_,_,aeA ROW6.out,HP0.out.keep hz06 (fun q hq=>KC06.out q hq)⟩,(aE ROW6.out).1,?_⟩,HTV.out.toR (fun b hb=>?_) KQ.out,HYV.out.toR (fun b hb=>?_) KQ.out⟩
  ·obtain⟨cs,h1,h2,h3⟩:=ST0.out
   exact⟨cs,fun i v hv=>(KC06.out _ h2).trans (h1 i v hv),Nat.lt_of_lt_of_le h2 hz06,h3.keep hz06 (fun q hq=>KC06.out q hq)⟩
  ·obtain⟨cs,t,fr,h1,-⟩:=hb
   rw[hsz6];exact(aE h1).1
  ·obtain⟨cs,t,fr,h1,-⟩:=hb
   rw[hsz6];exact(aE h1).1
 have G6:Hid (lN w6 w3.heap.size []):=by
  obtain⟨es,clock,hb,F,hs,hD⟩:=G5.out
  exact⟨es,clock,(HOUT.out _ (by omega)).trans hb,F,hs,hD⟩
 have CR:=hI (right_m p S (w3.heap.size+1) (w.heap.size+1) w3.heap.size _ _ w6 HLT.out G6.out HLN.out hfn HCM.out hl5 HSM.out hwf.2 hwf.1)
 obtain⟨q4,hq4⟩:∃q,mF aG p S=q:=⟨_,rfl⟩
 rw[hq4] at CR HR
 clear hw6 s4 s5 z4 z5 hq4
 (try dsimp only [Act.put])
 go_wp2_with fail
 refine CR.out.mono ?_
 rintro e w7 ⟨rfl,k7⟩
 have K7:Hid (Below w.heap.size w w7):=KB6.out.trans ⟨k7.os,k7.tape,k7.output,k7.size,fun k hk=>k7.block k (by have:=KB6.out.size;omega) (by have:=K3.out.size;omega)⟩
 clear k7
 cases q4
 case false=>
  have HR2:Hid ((3:Int)=r):=HR.out
  go_wp2_with fail
  go_ret
  exact⟨by rw[←HR2.out];rfl,K7.out⟩
 have HR2:Hid ((0:Int)=r):=HR.out
 go_wp2_with fail
 go_ret
 exact⟨by rw[←HR2.out];rfl,K7.out⟩
end
section
theorem yX {n:Nat} {code:List fE} (hj:iP code):∀(f:Nat) (s:bZ),WOk n s→WOk n (nP code f s)
 | 0,s,h=>h
 | f+1,s,h=>by
  unfold nP
  split
  ·rename_i c
   refine yX hj f _ (h.pop.from_ hj ?_)
   cases hl:s.todo.getLast? with
   | none=>exact Int.le_refl _
   | some t=>exact(h.todo t (List.mem_of_getLast? hl)).1
  ·exact h
theorem aaA {code:List fE} (hj:iP code):WOk code.length (cY code):=yX hj _ _ (o6 _)
structure vG (f:a8):Prop where
 regs:f.regs.length≤60
 tries:f.tries.length≤20
structure yO (S:aR):Prop where
 cells:S.cells.length≤300
 shapes:S.shapes.length≤100
 texts:S.texts.length≤300
 threads:S.threads.length≤5
 ends:S.ends.length≤100
 said:S.said.length≤200
 vals:∀c∈S.cells,c.vals.length≤600
 cframes:∀c∈S.cells,c.frames.length≤1∧∀f∈c.frames,vG f
 tframes:∀h∈S.threads,h.frames.length≤30∧∀f∈h.frames,vG f
theorem nG {p:aW} {S:aR} {f:a8} (h:dB aG p S f=true) (hp:∀g∈p.fns,g.regs≤60) (hj:∀g∈p.fns,iP g.code):vG f:=by
 obtain⟨⟨k,hk,hkl⟩,-,hr⟩:=nH h
 have hg:p.fns[k]? = some p.fns[k]:=lG hkl
 have hfa:gD p f.fn=p.fns[k]:=by unfold gD;rw[hk,Int.toNat_natCast,hg];rfl
 have hm:p.fns[k]∈p.fns:=List.getElem_mem hkl
 refine⟨by rw[hfa] at hr;have:=hp _ hm;omega,?_⟩
 unfold dB at h
 simp only[Bool.and_eq_true] at h
 have ht:=of_decide_eq_true h.1.2
 rw[hfa,List.getD_eq_getElem?_getD] at ht
 cases hq:(cY p.fns[k].code).out[f.at_.toNat]? with
 | none=>rw[hq] at ht;rw[ht];simp
 | some l=>
  rw[hq] at ht
  rw[ht]
  exact(aaA (hj _ hm)).few l (List.mem_of_getElem? hq)
theorem nB {R:Val→Bool} {p:aW} {S:aR} : ∀(fs:List a8) (low:Option Int) (gens gs:List Int),b7 R p S low gens fs=some gs→∀f∈fs,dB R p S f=true
 | [],_,_,_,_,f,hf=>by cases hf
 | g::r,low,gens,gs,h,f,hf=>by
  unfold b7 at h
  dsimp only at h
  split at h
  ·cases h
  ·rename_i c
   simp only[Bool.or_eq_true,not_or,Bool.not_eq_true,Bool.not_eq_true'] at c
   have h0:dB R p S g=true:=by simpa using c.1.1.1
   have hrest:∀low' gens',b7 R p S low' gens' r=some gs→dB R p S f=true:=fun low' gens' h'=>by
    rcases List.mem_cons.1 hf with rfl | hf
    ·exact h0
    ·exact nB r low' gens' gs h' f hf
   split at h
   ·exact hrest _ _ h
   ·split at h
    ·cases h
    ·split at h
     ·cases h
     ·exact hrest _ _ h
theorem iW {R:Val→Bool} {p:aW} {S:aR} : ∀(ths:List bW) (gens gs:List Int),cE R p S gens ths=some gs→∀h∈ths,∀f∈h.frames,dB R p S f=true
 | [],_,_,_,h,hh,_,_=>by cases hh
 | t::r,gens,gs,e,h,hh,f,hf=>by
  cases ht:eN R p S gens t with
  | none=>rw[nA ht] at e;cases e
  | some g=>
   rw[m9 ht] at e
   rcases List.mem_cons.1 hh with rfl | hh
   ·unfold eN at ht
    dsimp only at ht
    split at ht
    ·cases ht
    ·split at ht
     ·cases ht
     ·split at ht
      ·cases ht
      ·split at ht
       ·cases ht
       ·exact nB _ _ _ _ ht f hf
   ·exact iW r g gs e h hh f hf
theorem aaF {p:aW} {S:aR} {W:List ByteArray} (h:dG aG p S W (bH p)=0) (hj:∀g∈p.fns,iP g.code):yO S:=by
 unfold dG at h
 split at h
 ·exact absurd h (by assumption)
 rename_i c0
 have hcc:bH p=0:=by
  rcases Int.lt_trichotomy (bH p) 0 with h | h | h
  ·exact absurd (by omega:bH p≠0) c0
  ·exact h
  ·exact absurd (by omega:bH p≠0) c0
 obtain⟨-,hfs⟩:=iO hcc
 have hregs:∀g∈p.fns,g.regs≤60:=fun g hg=>(hfs g hg).2.2
 split at h
 ·exact absurd h (by assumption)
 rename_i c1
 split at h
 ·exact absurd h (by decide)
 rename_i c2
 split at h
 case isFalse=>exact absurd h (by decide)
 rename_i c3
 have hcc1:cG aG S W=0:=by
  rcases Int.lt_trichotomy (cG aG S W) 0 with h | h | h
  ·exact absurd (by omega:cG aG S W≠0) c1
  ·exact h
  ·exact absurd (by omega:cG aG S W≠0) c1
 unfold cG at hcc1
 split at hcc1
 ·cases hcc1
 rename_i c4
 split at hcc1
 ·rename_i a;exact absurd hcc1 a
 rename_i c5
 split at hcc1
 ·cases hcc1
 rename_i c6
 obtain⟨l1,l2,l3,l4,l5⟩:=tN (by simpa using c4)
 have hsh:bT S.shapes=0:=by
  rcases Int.lt_trichotomy (bT S.shapes) 0 with h | h | h
  ·exact absurd (by omega:bT S.shapes≠0) c5
  ·exact h
  ·exact absurd (by omega:bT S.shapes≠0) c5
 have hcm:∀c∈S.cells,kE aG S c=true:=fun c hc=>by
  simp only[Bool.or_eq_true,not_or,Bool.not_eq_true] at c6
  have:=List.any_eq_false.1 c6.2 c hc
  simpa using this
 unfold mF at c3
 split at c3
 ·cases c3
 split at c3
 ·cases c3
 rename_i c7
 have hheap:∀c∈S.cells,lQ aG p S c=true:=fun c hc=>by
  have h7:S.cells.any (fun c=>!lQ aG p S c)=false:=by simpa using c7
  have:=List.any_eq_false.1 h7 c hc
  simpa using this
 cases ht:cE aG p S [] S.threads with
 | none=>rw[ht] at c3;cases c3
 | some gs=>
  refine⟨l2,(mB hsh).2.1,l1,by omega,l4,l3,l5,fun c hc=>?_,fun th hth=>⟨?_,fun f hf=>nG (iW _ _ _ ht th hth f hf) hregs hj⟩⟩
  ·have h1:=hcm c hc
   have h2:=hheap c hc
   rw[kD] at h1
   cases hq:cU S c with
   | none=>rw[hq] at h1;cases h1
   | some x=>
    obtain⟨a,b,n⟩:=x
    rw[hq] at h1
    simp only[Bool.and_eq_true] at h1
    have hlen:(c.frames.length:Int)=n:=beq_iff_eq.1 h1.1.1.2
    by_cases k5:c.kind=5
    ·by_cases n0:c.num=0
     ·have hn:n=1:=by
       unfold cU at hq
       simp only[k5,n0,if_pos] at hq
       simp at hq
       exact hq.2.2.symm
      refine⟨by omega,fun f hf=>?_⟩
      unfold lQ at h2
      rw[if_neg (by omega),if_pos k5,n0] at h2
      cases hfr:c.frames with
      | nil=>rw[hfr] at hf;cases hf
      | cons f0 r=>
       rw[hfr] at h2 hf hlen
       have hr:r=[]:=by
        rw[hn,List.length_cons] at hlen
        exact List.length_eq_zero_iff.1 (by omega)
       subst hr
       obtain rfl:f=f0:=by simpa using hf
       have h3:nO aG p S f=true:=h2
       unfold nO at h3
       simp only[Bool.and_eq_true] at h3
       exact nG h3.1.1.1.1 hregs hj
     ·have hn:n=0:=by
       unfold cU at hq
       simp only[k5,if_neg n0] at hq
       simp at hq
       exact hq.2.2.symm
      have:c.frames=[]:=List.length_eq_zero_iff.1 (by omega)
      rw[this]
      exact⟨by simp,fun f hf=>by cases hf⟩
    ·have hn:n=0:=by
      unfold cU at hq
      simp only[if_neg k5] at hq
      repeat (split at hq;· simp at hq;exact hq.2.2.symm)
      cases hq
     have:c.frames=[]:=List.length_eq_zero_iff.1 (by omega)
     rw[this]
     exact⟨by simp,fun f hf=>by cases hf⟩
  ·have h8:¬(S.threads.any fun h=>decide (30<h.frames.length))=true:=fun hh=>c2 (.inr hh)
   have h9:(S.threads.any fun h=>decide (30<h.frames.length))=false:=by simpa using h8
   have:=List.any_eq_false.1 h9 th hth
   simp at this
   exact this
end
section
open Go.RowKit
theorem lH:(Tryz.prog.info? 48).map (fun i=>(i.zero.map (·.cells.size),i.size,i.bytes))=some (some 2,2,16):=by kernel_rfl
theorem abH (v:Value) (rows:List (List Value)) (w:World) (hs:aH w w.heap.size 2 (Raw 2) v rows) (h1:∀r∈rows,∀u∈r,u.oneCell'=true) (hlen:rows.length*16≤140737488355328) :
  Calls Tryz.prog 60 #[v] w fun e w'=>∃u,e=.returned u∧w'.ownsRow w.heap.size 48 2 u rows.length (rows.flatMap id)∧Below w.heap.size w w':=by
 have hraw:∀x∈rows,x.length=2:=fun x hx=>by obtain⟨cs,_,h⟩:=hs.mem hx;exact h
 obtain⟨A,cap,rfl,hc1,hc2,hc3⟩:=id hs
 cases A with
 | none=>
  have e:rows=[]:=by
   rcases Nat.eq_zero_or_pos rows.length with h | h
   ·exact List.length_eq_zero_iff.1 h
   ·obtain⟨b,off,h,_⟩:=hc3 h;cases h
  subst e
  have hn:∀W,(binOp .eql 23 (.slice none 0 cap) (.slice none 0 0)).run Tryz.prog W=.ok (.bool true) W:=fun W=>Lib.run_eql_slice_nil W _ _ _ _ _ _ _ Tryz.underlying23
  clear hc3 hs hraw h1
  simp only[List.length_nil] at *
  go_enter Tryz.func60,Tryz.ntmps60
  go_wp2_with fail
  go_ret
  exact⟨_,rfl,World.ownsRow_nil _ _ _ _,Below.refl _ _⟩
 | some ad=>
  have hn:∀W,(binOp .eql 23 (.slice (some ad) rows.length cap) (.slice none 0 0)).run Tryz.prog W=.ok (.bool false) W:=fun W=>Lib.run_eql_slice_nil W _ _ _ _ _ _ _ Tryz.underlying23
  have hnews:∀j u,(rows.flatMap id)[j]? = some u→w.cell? (ad.add j)=some u:=by
   rcases Nat.eq_zero_or_pos rows.length with h | h
   ·have e:rows=[]:=List.length_eq_zero_iff.1 h
    subst e;simp
   ·obtain⟨b,off,h,_⟩:=hc3 h
    injection h with h
    subst h
    exact dQ (by decide) hraw (fun cs x h=>h.1) hs
  obtain⟨i0,hi,hq⟩:=Option.map_eq_some_iff.1 lH
  simp only[Prod.mk.injEq] at hq
  obtain⟨hz,hz1,hz2⟩:=hq
  obtain⟨z,hz0,hz3⟩:=Option.map_eq_some_iff.1 hz
  have HS:=hI hnews
  have HI:=hI hi
  have HZ:=hI hz0
  have HZ1:=hI hz1
  have HZ2:=hI hz2
  have HZ3:=hI hz3
  have hl:rows.length≤maxLen:=by unfold maxLen;omega
  have HL:=hI hl
  have HR:=hI hraw
  have HO:=hI (gO (f:=id) rows h1)
  have HF:=hI (gE (f:=id) rows hraw)
  clear hnews hi hz0 hz1 hz2 hz3 hz hl hraw h1 hs hc3
  go_enter Tryz.func60,Tryz.ntmps60
  go_wp2_with (at_builtin;refine wpList_append_own _ rfl _ _ 23 rfl w.heap.size 48 i0 z 2 16 Tryz.underlying23 HI.out HZ.out HZ1.out HZ2.out HZ3.out (by decide) (.slice (some ⟨w.heap.size,0,none⟩) 0 0) 0 [] rfl (gN _ _ _) ad rows.length cap (rows.flatMap id) rfl HF.out (fun j u hj=>iM (HS.out j u hj) _) HO.out (by rw[Nat.zero_add];exact HL.out) (by rw[Nat.zero_add];exact hlen) (by simp) ?_)
  intro v' w6 hown hg _
  have KG:=hI hg
  have KO:=hI hown
  clear hg hown
  go_wp2_with fail
  go_ret
  refine⟨_,rfl,by simpa using KO.out,Below.grown (aB w _) KG.out (by simp) (by simp[Value.ownBlock])⟩
theorem xU:(Tryz.prog.info? 61).map (fun i=>(i.zero.map (·.cells.size),i.size,i.bytes))=some (some 8,8,96):=by kernel_rfl
theorem abL (v:Value) (rows:List (List Value)) (w:World) (hs:aH w w.heap.size 8 (Raw 8) v rows) (h1:∀r∈rows,∀u∈r,u.oneCell'=true) (hlen:rows.length*96≤140737488355328) :
  Calls Tryz.prog 62 #[v] w fun e w'=>∃u,e=.returned u∧w'.ownsRow w.heap.size 61 8 u rows.length (rows.flatMap id)∧Below w.heap.size w w':=by
 have hraw:∀x∈rows,x.length=8:=fun x hx=>by obtain⟨cs,_,h⟩:=hs.mem hx;exact h
 obtain⟨A,cap,rfl,hc1,hc2,hc3⟩:=id hs
 cases A with
 | none=>
  have e:rows=[]:=by
   rcases Nat.eq_zero_or_pos rows.length with h | h
   ·exact List.length_eq_zero_iff.1 h
   ·obtain⟨b,off,h,_⟩:=hc3 h;cases h
  subst e
  have hn:∀W,(binOp .eql 53 (.slice none 0 cap) (.slice none 0 0)).run Tryz.prog W=.ok (.bool true) W:=fun W=>Lib.run_eql_slice_nil W _ _ _ _ _ _ _ Tryz.underlying53
  clear hc3 hs hraw h1
  simp only[List.length_nil] at *
  go_enter Tryz.func62,Tryz.ntmps62
  go_wp2_with fail
  go_ret
  exact⟨_,rfl,World.ownsRow_nil _ _ _ _,Below.refl _ _⟩
 | some ad=>
  have hn:∀W,(binOp .eql 53 (.slice (some ad) rows.length cap) (.slice none 0 0)).run Tryz.prog W=.ok (.bool false) W:=fun W=>Lib.run_eql_slice_nil W _ _ _ _ _ _ _ Tryz.underlying53
  have hnews:∀j u,(rows.flatMap id)[j]? = some u→w.cell? (ad.add j)=some u:=by
   rcases Nat.eq_zero_or_pos rows.length with h | h
   ·have e:rows=[]:=List.length_eq_zero_iff.1 h
    subst e;simp
   ·obtain⟨b,off,h,_⟩:=hc3 h
    injection h with h
    subst h
    exact dQ (by decide) hraw (fun cs x h=>h.1) hs
  obtain⟨i0,hi,hq⟩:=Option.map_eq_some_iff.1 xU
  simp only[Prod.mk.injEq] at hq
  obtain⟨hz,hz1,hz2⟩:=hq
  obtain⟨z,hz0,hz3⟩:=Option.map_eq_some_iff.1 hz
  have HS:=hI hnews
  have HI:=hI hi
  have HZ:=hI hz0
  have HZ1:=hI hz1
  have HZ2:=hI hz2
  have HZ3:=hI hz3
  have hl:rows.length≤maxLen:=by unfold maxLen;omega
  have HL:=hI hl
  have HR:=hI hraw
  have HO:=hI (gO (f:=id) rows h1)
  have HF:=hI (gE (f:=id) rows hraw)
  clear hnews hi hz0 hz1 hz2 hz3 hz hl hraw h1 hs hc3
  go_enter Tryz.func62,Tryz.ntmps62
  go_wp2_with (at_builtin;refine wpList_append_own _ rfl _ _ 53 rfl w.heap.size 61 i0 z 8 96 Tryz.underlying53 HI.out HZ.out HZ1.out HZ2.out HZ3.out (by decide) (.slice (some ⟨w.heap.size,0,none⟩) 0 0) 0 [] rfl (gN _ _ _) ad rows.length cap (rows.flatMap id) rfl HF.out (fun j u hj=>iM (HS.out j u hj) _) HO.out (by rw[Nat.zero_add];exact HL.out) (by rw[Nat.zero_add];exact hlen) (by simp) ?_)
  intro v' w6 hown hg _
  have KG:=hI hg
  have KO:=hI hown
  clear hg hown
  go_wp2_with fail
  go_ret
  refine⟨_,rfl,by simpa using KO.out,Below.grown (aB w _) KG.out (by simp) (by simp[Value.ownBlock])⟩
theorem rR:(Tryz.prog.info? 55).map (fun i=>(i.zero.map (·.cells.size),i.size,i.bytes))=some (some 4,4,64):=by kernel_rfl
theorem abM (v:Value) (rows:List (List Value)) (w:World) (hs:aH w w.heap.size 4 (Raw 4) v rows) (h1:∀r∈rows,∀u∈r,u.oneCell'=true) (hlen:rows.length*64≤140737488355328) :
  Calls Tryz.prog 64 #[v] w fun e w'=>∃u,e=.returned u∧w'.ownsRow w.heap.size 55 4 u rows.length (rows.flatMap id)∧Below w.heap.size w w':=by
 have hraw:∀x∈rows,x.length=4:=fun x hx=>by obtain⟨cs,_,h⟩:=hs.mem hx;exact h
 obtain⟨A,cap,rfl,hc1,hc2,hc3⟩:=id hs
 cases A with
 | none=>
  have e:rows=[]:=by
   rcases Nat.eq_zero_or_pos rows.length with h | h
   ·exact List.length_eq_zero_iff.1 h
   ·obtain⟨b,off,h,_⟩:=hc3 h;cases h
  subst e
  have hn:∀W,(binOp .eql 35 (.slice none 0 cap) (.slice none 0 0)).run Tryz.prog W=.ok (.bool true) W:=fun W=>Lib.run_eql_slice_nil W _ _ _ _ _ _ _ Tryz.underlying35
  clear hc3 hs hraw h1
  simp only[List.length_nil] at *
  go_enter Tryz.func64,Tryz.ntmps64
  go_wp2_with fail
  go_ret
  exact⟨_,rfl,World.ownsRow_nil _ _ _ _,Below.refl _ _⟩
 | some ad=>
  have hn:∀W,(binOp .eql 35 (.slice (some ad) rows.length cap) (.slice none 0 0)).run Tryz.prog W=.ok (.bool false) W:=fun W=>Lib.run_eql_slice_nil W _ _ _ _ _ _ _ Tryz.underlying35
  have hnews:∀j u,(rows.flatMap id)[j]? = some u→w.cell? (ad.add j)=some u:=by
   rcases Nat.eq_zero_or_pos rows.length with h | h
   ·have e:rows=[]:=List.length_eq_zero_iff.1 h
    subst e;simp
   ·obtain⟨b,off,h,_⟩:=hc3 h
    injection h with h
    subst h
    exact dQ (by decide) hraw (fun cs x h=>h.1) hs
  obtain⟨i0,hi,hq⟩:=Option.map_eq_some_iff.1 rR
  simp only[Prod.mk.injEq] at hq
  obtain⟨hz,hz1,hz2⟩:=hq
  obtain⟨z,hz0,hz3⟩:=Option.map_eq_some_iff.1 hz
  have HS:=hI hnews
  have HI:=hI hi
  have HZ:=hI hz0
  have HZ1:=hI hz1
  have HZ2:=hI hz2
  have HZ3:=hI hz3
  have hl:rows.length≤maxLen:=by unfold maxLen;omega
  have HL:=hI hl
  have HR:=hI hraw
  have HO:=hI (gO (f:=id) rows h1)
  have HF:=hI (gE (f:=id) rows hraw)
  clear hnews hi hz0 hz1 hz2 hz3 hz hl hraw h1 hs hc3
  go_enter Tryz.func64,Tryz.ntmps64
  go_wp2_with (at_builtin;refine wpList_append_own _ rfl _ _ 35 rfl w.heap.size 55 i0 z 4 64 Tryz.underlying35 HI.out HZ.out HZ1.out HZ2.out HZ3.out (by decide) (.slice (some ⟨w.heap.size,0,none⟩) 0 0) 0 [] rfl (gN _ _ _) ad rows.length cap (rows.flatMap id) rfl HF.out (fun j u hj=>iM (HS.out j u hj) _) HO.out (by rw[Nat.zero_add];exact HL.out) (by rw[Nat.zero_add];exact hlen) (by simp) ?_)
  intro v' w6 hown hg _
  have KG:=hI hg
  have KO:=hI hown
  clear hg hown
  go_wp2_with fail
  go_ret
  refine⟨_,rfl,by simpa using KO.out,Below.grown (aB w _) KG.out (by simp) (by simp[Value.ownBlock])⟩
theorem xR:(Tryz.prog.info? 57).map (fun i=>(i.zero.map (·.cells.size),i.size,i.bytes))=some (some 5,5,56):=by kernel_rfl
theorem abI (v:Value) (rows:List (List Value)) (w:World) (hs:aH w w.heap.size 5 (Raw 5) v rows) (h1:∀r∈rows,∀u∈r,u.oneCell'=true) (hlen:rows.length*56≤140737488355328) :
  Calls Tryz.prog 65 #[v] w fun e w'=>∃u,e=.returned u∧w'.ownsRow w.heap.size 57 5 u rows.length (rows.flatMap id)∧Below w.heap.size w w':=by
 have hraw:∀x∈rows,x.length=5:=fun x hx=>by obtain⟨cs,_,h⟩:=hs.mem hx;exact h
 obtain⟨A,cap,rfl,hc1,hc2,hc3⟩:=id hs
 cases A with
 | none=>
  have e:rows=[]:=by
   rcases Nat.eq_zero_or_pos rows.length with h | h
   ·exact List.length_eq_zero_iff.1 h
   ·obtain⟨b,off,h,_⟩:=hc3 h;cases h
  subst e
  have hn:∀W,(binOp .eql 37 (.slice none 0 cap) (.slice none 0 0)).run Tryz.prog W=.ok (.bool true) W:=fun W=>Lib.run_eql_slice_nil W _ _ _ _ _ _ _ Tryz.underlying37
  clear hc3 hs hraw h1
  simp only[List.length_nil] at *
  go_enter Tryz.func65,Tryz.ntmps65
  go_wp2_with fail
  go_ret
  exact⟨_,rfl,World.ownsRow_nil _ _ _ _,Below.refl _ _⟩
 | some ad=>
  have hn:∀W,(binOp .eql 37 (.slice (some ad) rows.length cap) (.slice none 0 0)).run Tryz.prog W=.ok (.bool false) W:=fun W=>Lib.run_eql_slice_nil W _ _ _ _ _ _ _ Tryz.underlying37
  have hnews:∀j u,(rows.flatMap id)[j]? = some u→w.cell? (ad.add j)=some u:=by
   rcases Nat.eq_zero_or_pos rows.length with h | h
   ·have e:rows=[]:=List.length_eq_zero_iff.1 h
    subst e;simp
   ·obtain⟨b,off,h,_⟩:=hc3 h
    injection h with h
    subst h
    exact dQ (by decide) hraw (fun cs x h=>h.1) hs
  obtain⟨i0,hi,hq⟩:=Option.map_eq_some_iff.1 xR
  simp only[Prod.mk.injEq] at hq
  obtain⟨hz,hz1,hz2⟩:=hq
  obtain⟨z,hz0,hz3⟩:=Option.map_eq_some_iff.1 hz
  have HS:=hI hnews
  have HI:=hI hi
  have HZ:=hI hz0
  have HZ1:=hI hz1
  have HZ2:=hI hz2
  have HZ3:=hI hz3
  have hl:rows.length≤maxLen:=by unfold maxLen;omega
  have HL:=hI hl
  have HR:=hI hraw
  have HO:=hI (gO (f:=id) rows h1)
  have HF:=hI (gE (f:=id) rows hraw)
  clear hnews hi hz0 hz1 hz2 hz3 hz hl hraw h1 hs hc3
  go_enter Tryz.func65,Tryz.ntmps65
  go_wp2_with (at_builtin;refine wpList_append_own _ rfl _ _ 37 rfl w.heap.size 57 i0 z 5 56 Tryz.underlying37 HI.out HZ.out HZ1.out HZ2.out HZ3.out (by decide) (.slice (some ⟨w.heap.size,0,none⟩) 0 0) 0 [] rfl (gN _ _ _) ad rows.length cap (rows.flatMap id) rfl HF.out (fun j u hj=>iM (HS.out j u hj) _) HO.out (by rw[Nat.zero_add];exact HL.out) (by rw[Nat.zero_add];exact hlen) (by simp) ?_)
  intro v' w6 hown hg _
  have KG:=hI hg
  have KO:=hI hown
  clear hg hown
  go_wp2_with fail
  go_ret
  refine⟨_,rfl,by simpa using KO.out,Below.grown (aB w _) KG.out (by simp) (by simp[Value.ownBlock])⟩
theorem xT:(Tryz.prog.info? 51).map (fun i=>(i.zero.map (·.cells.size),i.size,i.bytes))=some (some 2,2,16):=by kernel_rfl
theorem abK (v:Value) (rows:List (List Value)) (w:World) (hs:aH w w.heap.size 2 (Raw 2) v rows) (h1:∀r∈rows,∀u∈r,u.oneCell'=true) (hlen:rows.length*16≤140737488355328) :
  Calls Tryz.prog 66 #[v] w fun e w'=>∃u,e=.returned u∧w'.ownsRow w.heap.size 51 2 u rows.length (rows.flatMap id)∧Below w.heap.size w w':=by
 have hraw:∀x∈rows,x.length=2:=fun x hx=>by obtain⟨cs,_,h⟩:=hs.mem hx;exact h
 obtain⟨A,cap,rfl,hc1,hc2,hc3⟩:=id hs
 cases A with
 | none=>
  have e:rows=[]:=by
   rcases Nat.eq_zero_or_pos rows.length with h | h
   ·exact List.length_eq_zero_iff.1 h
   ·obtain⟨b,off,h,_⟩:=hc3 h;cases h
  subst e
  have hn:∀W,(binOp .eql 36 (.slice none 0 cap) (.slice none 0 0)).run Tryz.prog W=.ok (.bool true) W:=fun W=>Lib.run_eql_slice_nil W _ _ _ _ _ _ _ Tryz.underlying36
  clear hc3 hs hraw h1
  simp only[List.length_nil] at *
  go_enter Tryz.func66,Tryz.ntmps66
  go_wp2_with fail
  go_ret
  exact⟨_,rfl,World.ownsRow_nil _ _ _ _,Below.refl _ _⟩
 | some ad=>
  have hn:∀W,(binOp .eql 36 (.slice (some ad) rows.length cap) (.slice none 0 0)).run Tryz.prog W=.ok (.bool false) W:=fun W=>Lib.run_eql_slice_nil W _ _ _ _ _ _ _ Tryz.underlying36
  have hnews:∀j u,(rows.flatMap id)[j]? = some u→w.cell? (ad.add j)=some u:=by
   rcases Nat.eq_zero_or_pos rows.length with h | h
   ·have e:rows=[]:=List.length_eq_zero_iff.1 h
    subst e;simp
   ·obtain⟨b,off,h,_⟩:=hc3 h
    injection h with h
    subst h
    exact dQ (by decide) hraw (fun cs x h=>h.1) hs
  obtain⟨i0,hi,hq⟩:=Option.map_eq_some_iff.1 xT
  simp only[Prod.mk.injEq] at hq
  obtain⟨hz,hz1,hz2⟩:=hq
  obtain⟨z,hz0,hz3⟩:=Option.map_eq_some_iff.1 hz
  have HS:=hI hnews
  have HI:=hI hi
  have HZ:=hI hz0
  have HZ1:=hI hz1
  have HZ2:=hI hz2
  have HZ3:=hI hz3
  have hl:rows.length≤maxLen:=by unfold maxLen;omega
  have HL:=hI hl
  have HR:=hI hraw
  have HO:=hI (gO (f:=id) rows h1)
  have HF:=hI (gE (f:=id) rows hraw)
  clear hnews hi hz0 hz1 hz2 hz3 hz hl hraw h1 hs hc3
  go_enter Tryz.func66,Tryz.ntmps66
  go_wp2_with (at_builtin;refine wpList_append_own _ rfl _ _ 36 rfl w.heap.size 51 i0 z 2 16 Tryz.underlying36 HI.out HZ.out HZ1.out HZ2.out HZ3.out (by decide) (.slice (some ⟨w.heap.size,0,none⟩) 0 0) 0 [] rfl (gN _ _ _) ad rows.length cap (rows.flatMap id) rfl HF.out (fun j u hj=>iM (HS.out j u hj) _) HO.out (by rw[Nat.zero_add];exact HL.out) (by rw[Nat.zero_add];exact hlen) (by simp) ?_)
  intro v' w6 hown hg _
  have KG:=hI hg
  have KO:=hI hown
  clear hg hown
  go_wp2_with fail
  go_ret
  refine⟨_,rfl,by simpa using KO.out,Below.grown (aB w _) KG.out (by simp) (by simp[Value.ownBlock])⟩
theorem wF:(Tryz.prog.info? 107).map (fun i=>(i.zero.map (·.cells.size),i.size,i.bytes))=some (some 3,3,24):=by kernel_rfl
theorem yD (v:Value) (rows:List (List Value)) (w:World) (hs:aH w w.heap.size 3 (Raw 3) v rows) (h1:∀r∈rows,∀u∈r,u.oneCell'=true) (hlen:rows.length*24≤140737488355328) :
  Calls Tryz.prog 68 #[v] w fun e w'=>∃u,e=.returned u∧w'.ownsRow w.heap.size 107 3 u rows.length (rows.flatMap id)∧Below w.heap.size w w':=by
 have hraw:∀x∈rows,x.length=3:=fun x hx=>by obtain⟨cs,_,h⟩:=hs.mem hx;exact h
 obtain⟨A,cap,rfl,hc1,hc2,hc3⟩:=id hs
 cases A with
 | none=>
  have e:rows=[]:=by
   rcases Nat.eq_zero_or_pos rows.length with h | h
   ·exact List.length_eq_zero_iff.1 h
   ·obtain⟨b,off,h,_⟩:=hc3 h;cases h
  subst e
  have hn:∀W,(binOp .eql 38 (.slice none 0 cap) (.slice none 0 0)).run Tryz.prog W=.ok (.bool true) W:=fun W=>Lib.run_eql_slice_nil W _ _ _ _ _ _ _ Tryz.underlying38
  clear hc3 hs hraw h1
  simp only[List.length_nil] at *
  go_enter Tryz.func68,Tryz.ntmps68
  go_wp2_with fail
  go_ret
  exact⟨_,rfl,World.ownsRow_nil _ _ _ _,Below.refl _ _⟩
 | some ad=>
  have hn:∀W,(binOp .eql 38 (.slice (some ad) rows.length cap) (.slice none 0 0)).run Tryz.prog W=.ok (.bool false) W:=fun W=>Lib.run_eql_slice_nil W _ _ _ _ _ _ _ Tryz.underlying38
  have hnews:∀j u,(rows.flatMap id)[j]? = some u→w.cell? (ad.add j)=some u:=by
   rcases Nat.eq_zero_or_pos rows.length with h | h
   ·have e:rows=[]:=List.length_eq_zero_iff.1 h
    subst e;simp
   ·obtain⟨b,off,h,_⟩:=hc3 h
    injection h with h
    subst h
    exact dQ (by decide) hraw (fun cs x h=>h.1) hs
  obtain⟨i0,hi,hq⟩:=Option.map_eq_some_iff.1 wF
  simp only[Prod.mk.injEq] at hq
  obtain⟨hz,hz1,hz2⟩:=hq
  obtain⟨z,hz0,hz3⟩:=Option.map_eq_some_iff.1 hz
  have HS:=hI hnews
  have HI:=hI hi
  have HZ:=hI hz0
  have HZ1:=hI hz1
  have HZ2:=hI hz2
  have HZ3:=hI hz3
  have hl:rows.length≤maxLen:=by unfold maxLen;omega
  have HL:=hI hl
  have HR:=hI hraw
  have HO:=hI (gO (f:=id) rows h1)
  have HF:=hI (gE (f:=id) rows hraw)
  clear hnews hi hz0 hz1 hz2 hz3 hz hl hraw h1 hs hc3
  go_enter Tryz.func68,Tryz.ntmps68
  go_wp2_with (at_builtin;refine wpList_append_own _ rfl _ _ 38 rfl w.heap.size 107 i0 z 3 24 Tryz.underlying38 HI.out HZ.out HZ1.out HZ2.out HZ3.out (by decide) (.slice (some ⟨w.heap.size,0,none⟩) 0 0) 0 [] rfl (gN _ _ _) ad rows.length cap (rows.flatMap id) rfl HF.out (fun j u hj=>iM (HS.out j u hj) _) HO.out (by rw[Nat.zero_add];exact HL.out) (by rw[Nat.zero_add];exact hlen) (by simp) ?_)
  intro v' w6 hown hg _
  have KG:=hI hg
  have KO:=hI hown
  clear hg hown
  go_wp2_with fail
  go_ret
  refine⟨_,rfl,by simpa using KO.out,Below.grown (aB w _) KG.out (by simp) (by simp[Value.ownBlock])⟩
end
section
open Go.RowKit
section
variable {P:Program} {ops:Array Oper} {md:Region.Mode} {C:World→Prop} {Q:Exit→Act→World→Prop}
def zA (o:Oper):Bool:=match o.op with | .move _=>true | _=>false
theorem cR.of_move {o:Oper} {v:Value} {a:Act} (ho:zA o=true) {w:World} (hw:C w) (hy:YieldsIn P ops C o v a):cR P ops (fun _=>True) o v a:=by
 obtain⟨dst,op,type,pos,after,guard⟩:=o
 cases op <;> simp only[zA] at ho <;> (first | (cases ho;done) | skip)
 rcases ad8 (by rfl) hy with ⟨h1,h2⟩ | h
 ·refine .inl ⟨h1,fun w' _=>?_⟩
  have h3:=h2 w hw
  simp only[execOp,Sem.run_pure] at h3 ⊢
  injection h3 with h3
  rw[h3]
 ·exact .inr h
theorem vH {F:Nat→Bool} {i:Nat} {oi:Oper} {v:Value} (hi:ops[i]? = some oi) (hF:F i=false) (hsel:∀(j:Nat) (o:Oper) cs b,ops[j]? = some o→o.op≠.select cs b)
  (hQ:∀c a w,Q (.panic c) (a.put oi.dst v) w→Q (.panic c) a w) :
  ∀(fuel:Nat) (listed:Array Bool) (a:Act) (w:World),
   (∀j oj,ops[j]? = some oj→j≠i→listed.getD j true=false→(∀e∈oj.after,Region.binds md e=true→e.on≠i)→oi.apart ops oj=true)→
   i∈Region.ready md ops listed→cR P ops (fun _=>True) oi v a→
   cN P md ops C F Q fuel (listed.setIfInBounds i true) (a.put oi.dst v) w→cN P md ops C F Q (fuel+1) listed a w:=by
 intro fuel
 induction fuel with
 | zero=>
  intro listed a w _ hr hy H
  refine⟨fun h=>(by rw[h] at hr;cases hr),fun j hj=>?_⟩
  by_cases hji:j=i
  ·subst hji;exact hy.wpOp hi trivial ⟨fun h=>(by rw[hF] at h;cases h),H⟩
  ·have:=ready_mono hj hji
   rw[H.1] at this
   cases this
 | succ fuel ih=>
  intro listed a w hfree hr hy H
  refine⟨fun h=>(by rw[h] at hr;cases hr),fun j hj=>?_⟩
  by_cases hji:j=i
  ·subst hji;exact hy.wpOp hi trivial ⟨fun h=>(by rw[hF] at h;cases h),H⟩
  ·have h1:=H.2 j (ready_mono hj hji)
   obtain⟨hjun,oj,hoj,hall⟩:=mem_ready.1 hj
   have hnot:∀e∈oj.after,Region.binds md e=true→e.on≠i:=fun e he hb heq=>by
    have h1:=hall e he hb
    have h0:=(mem_ready.1 hr).1
    rw[heq] at h1
    rcases Nat.lt_or_ge i listed.size with h' | h'
    ·simp[h'] at h0 h1;rw[h0] at h1;cases h1
    ·simp[Array.getElem?_eq_none h'] at h1
   have h2:=oY hoj (hfree j oj hoj hji hjun hnot) (fun cs b=>hsel i oi cs b hi) (fun cs b=>hsel j oj cs b hoj) hQ hy h1
   have hfree':∀k ok,ops[k]? = some ok→k≠i→(listed.setIfInBounds j true).getD k true=false→
     (∀e∈ok.after,Region.binds md e=true→e.on≠i)→oi.apart ops ok=true:=fun k ok hk hki hun hno=>by
    refine hfree k ok hk hki ?_ hno
    by_cases hjk:j=k
    ·subst hjk;exact hjun
    ·rw[getD_set_ne true hjk] at hun;exact hun
   refine wpOp_mono (fun a' w' h3=>⟨h3.2.1,ih (listed.setIfInBounds j true) a' w' hfree' (ready_mono hr (Ne.symm hji)) h3.1 ?_⟩) h2
   rw[Array.setIfInBounds_comm _ _ hji]
   exact h3.2.2
theorem sR {Inv:Array Bool→Prop} (hset:∀listed j,Inv listed→j∈Region.ready md ops listed→Inv (listed.setIfInBounds j true)) {F:Nat→Bool} {i:Nat} {oi:Oper} {v:Value} (hi:ops[i]? = some oi) (hsel:∀(j:Nat) (o:Oper) cs b,ops[j]? = some o→o.op≠.select cs b)
  (hQ:∀c a w,Q (.panic c) (a.put oi.dst v) w→Q (.panic c) a w)
  (hlate:∀listed j,Inv listed→listed.getD i true=false→j∈Region.ready md ops listed→F j=true) :
  ∀(fuel:Nat) (listed:Array Bool) (a:Act) (w:World),Inv listed→C w→
   (∀j oj,ops[j]? = some oj→j≠i→listed.getD j true=false→(∀e∈oj.after,Region.binds md e=true→e.on≠i)→oi.apart ops oj=true)→
   i∈Region.ready md ops listed→cR P ops C oi v a→
   cN P md ops C F Q fuel (listed.setIfInBounds i true) (a.put oi.dst v) w→cN P md ops C F Q (fuel+1) listed a w:=by
 intro fuel
 induction fuel with
 | zero=>
  intro listed a w _ hw _ hr hy H
  refine⟨fun h=>(by rw[h] at hr;cases hr),fun j hj=>?_⟩
  by_cases hji:j=i
  ·subst hji;exact hy.wpOp hi hw ⟨fun _=>hw,H⟩
  ·have:=ready_mono hj hji
   rw[H.1] at this
   cases this
 | succ fuel ih=>
  intro listed a w hc hw hfree hr hy H
  refine⟨fun h=>(by rw[h] at hr;cases hr),fun j hj=>?_⟩
  by_cases hji:j=i
  ·subst hji;exact hy.wpOp hi hw ⟨fun _=>hw,H⟩
  ·have h1:=H.2 j (ready_mono hj hji)
   obtain⟨hjun,oj,hoj,hall⟩:=mem_ready.1 hj
   have hnot:∀e∈oj.after,Region.binds md e=true→e.on≠i:=fun e he hb heq=>by
    have h1:=hall e he hb
    have h0:=(mem_ready.1 hr).1
    rw[heq] at h1
    rcases Nat.lt_or_ge i listed.size with h' | h'
    ·simp[h'] at h0 h1;rw[h0] at h1;cases h1
    ·simp[Array.getElem?_eq_none h'] at h1
   have h2:=oY hoj (hfree j oj hoj hji hjun hnot) (fun cs b=>hsel i oi cs b hi) (fun cs b=>hsel j oj cs b hoj) hQ hy h1
   have hfree':∀k ok,ops[k]? = some ok→k≠i→(listed.setIfInBounds j true).getD k true=false→
     (∀e∈ok.after,Region.binds md e=true→e.on≠i)→oi.apart ops ok=true:=fun k ok hk hki hun hno=>by
    refine hfree k ok hk hki ?_ hno
    by_cases hjk:j=k
    ·subst hjk;exact hjun
    ·rw[getD_set_ne true hjk] at hun;exact hun
   have hF:=hlate listed j hc (mem_ready.1 hr).1 hj
   refine wpOp_mono (fun a' w' h3=>⟨h3.2.1,ih (listed.setIfInBounds j true) a' w' (hset _ _ hc hj) (h3.2.1 hF) hfree' (ready_mono hr (Ne.symm hji)) h3.1 ?_⟩) h2
   rw[Array.setIfInBounds_comm _ _ hji]
   exact h3.2.2
theorem oF {Inv:Array Bool→Prop} (hset:∀listed j,Inv listed→j∈Region.ready md ops listed→Inv (listed.setIfInBounds j true)) {F:Nat→Bool} {ms qs0:List Nat} (hsel:Region.noSelect ops=true) (hQ:∀(c:_) (a:Act) (d:Option Tmp) (v:Value) (w:World),Q (.panic c) (a.put d v) w→Q (.panic c) a w)
  (hlate:∀listed i j,i∈qs0→Inv listed→listed.getD i true=false→j∈Region.ready md ops listed→F j=true) {w:World} (hw:C w) :
  ∀(qs:List Nat) (listed:Array Bool) (a:Act),(∀i∈qs,i∈qs0)→Inv listed→rG md ops ms qs listed=true→
   wpQuiet P ops C (fun a'=>gA P ops C F Q ms a' w) (qs.filterMap (ops[·]?)) a→cN P md ops C F Q (qs.length+ms.length) listed a w
 | [],listed,a,_,_,hB,h=>by
  rw[List.length_nil,Nat.zero_add]
  exact d9 ms listed a w hB h
 | i::rest,listed,a,hsub,hc,hB,h=>by
  simp only[rG,Bool.and_eq_true] at hB
  obtain⟨⟨⟨hr,hf⟩,hn⟩,hB'⟩:=hB
  have hr':i∈Region.ready md ops listed:=by simpa using hr
  cases ho:ops[i]? with
  | none=>rw[ho] at hn;cases hn
  | some o=>
   rw[ho] at hn
   have hn':j6 o=true:=hn
   simp only[List.filterMap_cons,ho] at h
   have hst:qOp P ops C i (wpQuiet P ops C (fun a'=>gA P ops C F Q ms a' w) (rest.filterMap (ops[·]?))) a:=by unfold qOp;simp only[ho];exact h
   obtain⟨v,hy,hK⟩:=yieldsIn_of_qOp ho hst
   rw[List.length_cons,show rest.length+1+ms.length=(rest.length+ms.length)+1 by omega]
   exact sR hset ho (Region.noSelect_spec hsel) (fun c a w=>hQ c a _ _ w) (fun l j hcl hu hj=>hlate l i j (hsub i (by simp)) hcl hu hj) _ listed a w hc hw (Region.free_spec ho hf) hr' (ad8 hn' hy)
    (oF hset hsel hQ hlate hw rest _ _ (fun k hk=>hsub k (by simp[hk])) (hset _ _ hc hr') hB' hK)
def yZ (md:Region.Mode) (ops:Array Oper) (ms qs:List Nat):List Nat→Array Bool→Bool
 | [],listed=>rG md ops ms qs listed
 | i::rest,listed=>(Region.ready md ops listed).contains i && Region.free md ops listed i && ((ops[i]?).map zA).getD false && yZ md ops ms qs rest (listed.setIfInBounds i true)
def commP (md:Region.Mode) (ops:Array Oper) (ps qs ms fl:List Nat):Bool:=
 Region.noSelect ops && v7 md ops (fun j=>ps.contains j || (qs.contains j || fl.contains j)) ops.size qs && yZ md ops ms qs ps (Array.replicate ops.size false) && ps.all (fun i=>!(qs.contains i || fl.contains i)) && decide (ps.length+(qs.length+ms.length)=ops.size)
theorem oG {F:Nat→Bool} {ms qs ps0:List Nat} (hsel:Region.noSelect ops=true) (hQ:∀(c:_) (a:Act) (d:Option Tmp) (v:Value) (w:World),Q (.panic c) (a.put d v) w→Q (.panic c) a w)
  (hlate:∀listed i j,i∈qs→gL md ops listed→(∀p∈ps0,listed.getD p false=true)→listed.getD i true=false→j∈Region.ready md ops listed→F j=true) (hF:∀p∈ps0,F p=false) {w:World} (hw:C w) :
  ∀(ps:List Nat) (listed:Array Bool) (a:Act),(∀p∈ps0,p∈ps∨listed.getD p false=true)→(∀p∈ps,p∈ps0)→gL md ops listed→yZ md ops ms qs ps listed=true→
   wpQuiet P ops C (fun a'=>gA P ops C F Q ms a' w) ((ps++qs).filterMap (ops[·]?)) a→cN P md ops C F Q (ps.length+(qs.length+ms.length)) listed a w
 | [],listed,a,hp,_,hc,hB,h=>by
  rw[List.length_nil,Nat.zero_add]
  rw[List.nil_append] at h
  have hl:∀p∈ps0,listed.getD p false=true:=fun p hp0=>by
   rcases hp p hp0 with h1 | h1
   ·cases h1
   ·exact h1
  exact oF (Inv:=fun l=>gL md ops l∧∀p∈ps0,l.getD p false=true) (fun l j hI hj=>⟨hI.1.set hj,fun p hp0=>getD_set_true (hI.2 p hp0)⟩) hsel hQ (fun l i j hi hI hu hj=>hlate l i j hi hI.1 hI.2 hu hj) hw qs listed a (fun _ h=>h) ⟨hc,hl⟩ hB h
 | i::rest,listed,a,hp,hsub,hc,hB,h=>by
  simp only[yZ,Bool.and_eq_true] at hB
  obtain⟨⟨⟨hr,hf⟩,hn⟩,hB'⟩:=hB
  have hr':i∈Region.ready md ops listed:=by simpa using hr
  cases ho:ops[i]? with
  | none=>rw[ho] at hn;cases hn
  | some o=>
   rw[ho] at hn
   have hn':zA o=true:=hn
   simp only[List.cons_append,List.filterMap_cons,ho] at h
   have hst:qOp P ops C i (wpQuiet P ops C (fun a'=>gA P ops C F Q ms a' w) ((rest++qs).filterMap (ops[·]?))) a:=by unfold qOp;simp only[ho];exact h
   obtain⟨v,hy,hK⟩:=yieldsIn_of_qOp ho hst
   rw[List.length_cons,show rest.length+1+(qs.length+ms.length)=(rest.length+(qs.length+ms.length))+1 by omega]
   refine vH ho (hF i (hsub i (by simp))) (Region.noSelect_spec hsel) (fun c a w=>hQ c a _ _ w) _ listed a w (Region.free_spec ho hf) hr' (cR.of_move hn' hw hy)
    (oG hsel hQ hlate hF hw rest _ _ (fun p hp0=>?_) (fun k hk=>hsub k (by simp[hk])) (hc.set hr') hB' hK)
   rcases hp p hp0 with h1 | h1
   ·rcases List.mem_cons.1 h1 with rfl | h1
    ·right
     have:=(mem_ready.1 hr').1
     rcases Nat.lt_or_ge p listed.size with h' | h'
     ·simp[h']
     ·simp[Array.getElem?_eq_none h'] at this
    ·exact .inl h1
   ·exact .inr (getD_set_true h1)
theorem gG {id:Nat} {a:Act} {w:World} {l:List Oper} (C:World→Prop) (ps qs ms fl:List Nat) (lq:List Oper) (hm:P.follows .mixedOrders=true) (hB:commP .any l.toArray ps qs ms fl=true) (hq:(ps++qs).filterMap (l.toArray[·]?)=lq)
  (hQ:∀(c:_) (a:Act) (d:Option Tmp) (v:Value) (w:World),Q (.panic c) (a.put d v) w→Q (.panic c) a w) (hC:C w.drew)
  (h:wpQuiet P l.toArray C (fun a'=>gA P l.toArray C (fun j=>qs.contains j || fl.contains j) Q ms a' w.drew) lq a):(Code.region id l.toArray true).wp P Q a w:=by
 subst hq
 simp only[commP,Bool.and_eq_true,decide_eq_true_eq] at hB
 obtain⟨⟨⟨⟨hsel,hlate⟩,hread⟩,hps⟩,hlen⟩:=hB
 have hF:∀p∈ps,(qs.contains p || fl.contains p)=false:=fun p hp=>by
  have:=List.all_eq_true.1 hps p hp
  simpa using this
 have H:=oG (md:=.any) (ps0:=ps) (ms:=ms) (qs:=qs) (F:=fun j=>qs.contains j || fl.contains j) (Q:=Q) hsel hQ (fun listed i j hi hc hpl hu hj=>by
  by_cases hjq:j∈qs
  ·simp[hjq]
  ·have h1:=mQ hlate hc hi hu hj hjq
   have hnp:j∉ps:=fun hjp=>by
    have h2:=hpl j hjp
    have h3:=(mem_ready.1 hj).1
    rcases Nat.lt_or_ge j listed.size with h' | h'
    ·simp[h'] at h2 h3;rw[h2] at h3;cases h3
    ·simp[Array.getElem?_eq_none h'] at h2
   have hnp':ps.contains j=false:=by simpa using hnp
   rw[hnp',Bool.false_or] at h1
   exact h1) hF hC ps (Array.replicate l.toArray.size false) a (fun p hp=>.inl hp) (fun _ h=>h) (by
  intro j oj _ hl
  rw[getD_replicate_false] at hl
  cases hl) hread h
 rw[hlen] at H
 exact wp_region_any hm (kS _ _ _ _ H)
theorem jJ {F:Nat→Bool} {f i:Nat} {oi:Oper} {listed:Array Bool} {a:Act} {w:World} (hr:Region.ready md ops listed=[i]) (hi:ops[i]? = some oi)
  (h1:∀K:Act→World→Prop,(∀a w,(F i=true→C w)→cN P md ops C F Q f (listed.setIfInBounds i true) a w→K a w)→if Region.wanted oi (yielded ops a.tmps) then oi.wp P a w K Q else K (a.put oi.dst undef) w) :
  cN P md ops C F Q (f+1) listed a w:=by
 refine⟨fun h=>(by rw[hr] at h;cases h),fun j hj=>?_⟩
 rw[hr] at hj
 obtain rfl:j=i:=by simpa using hj
 have:=h1 (fun a' w'=>(F j=true→C w')∧cN P md ops C F Q f (listed.setIfInBounds j true) a' w') (fun _ _ h1 h2=>⟨h1,h2⟩)
 unfold wpOp
 simp only[hi]
 split
 ·rename_i hw;rw[if_pos hw] at this;exact .inl this
 ·rename_i hw;rw[if_neg hw] at this;exact this
end
end
end Go.Proofs.YtjaphgpkkfdaaaaGreatDoor
