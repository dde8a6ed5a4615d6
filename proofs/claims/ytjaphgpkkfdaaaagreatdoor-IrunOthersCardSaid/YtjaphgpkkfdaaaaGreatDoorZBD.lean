/- Part of the walk of the given code: contracts of the functions that irun.Run reaches, and plain laws on what it reckons. -/
import Derived.Test.YtjaphgpkkfdaaaaGreatDoorZU
import Derived.Test.YtjaphgpkkfdaaaaGreatDoorZV
import Derived.Test.YtjaphgpkkfdaaaaGreatDoorZBB
import Derived.Test.YtjaphgpkkfdaaaaGreatDoorZBC
set_option maxHeartbeats 16000000
set_option maxRecDepth 100000
set_option linter.all false
namespace Go.Proofs.YtjaphgpkkfdaaaaGreatDoor
section
open Go.RowKit
theorem yN {w:World} {B e size n:Nat} {A:Option Addr} {m c:Nat} {xs:List Value} (h:w.ownsRow B e size (.slice A m c) n xs):m=n:=by
 rcases h.2 with ⟨h,h0⟩ | ⟨g',c',cur,h,-⟩
 ·injection h with _ h;omega
 ·injection h with _ h
section
variable {Γ : kI} {w w':World} {W:aI} {cv vv:Value} {vs fs:List Value}
theorem bO.putAt (L:bO Γ w W cv vv vs fs) (K:hP Γ) {n:Int} (hn:wfi n) :
  bO Γ (w.setCell ⟨Γ.fb,Γ.fo+1,none⟩ (.int .i64 n)) { W with at_:=n } cv vv vs fs∧aQ w (w.setCell ⟨Γ.fb,Γ.fo+1,none⟩ (.int .i64 n)):=by
 obtain⟨cf,hf⟩:=L.frow
 have o:cA (fun k=>k = Γ.fb) w (w.setCell ⟨Γ.fb,Γ.fo+1,none⟩ (.int .i64 n)):=cA.set (T:=fun k=>k = Γ.fb) cA.refl rfl _ _
 have far:∀(g:Nat) (cs:Array Value) (e:TypeId),w.heap[g]? = some (.cells cs e (0,0))→e≠61→(w.setCell ⟨Γ.fb,Γ.fo+1,none⟩ (.int .i64 n)).heap[g]? = w.heap[g]?:=fun g cs e h h1=>
  o.block g (aV h) (fun ht=>bJ h hf h1 ht)
 have rfar:∀(e:TypeId) (size m:Nat) (u:Value) (xs:List Value),w.ownsRow Γ.B e size u m xs→e≠61→(w.setCell ⟨Γ.fb,Γ.fo+1,none⟩ (.int .i64 n)).ownsRow Γ.B e size u m xs:=fun e size m u xs h hne=>gI h hf (Ne.symm hne) _ _
 have same:(w.setCell ⟨Γ.fb,Γ.fo+1,none⟩ (.int .i64 n)).heap[Γ.fb]? = some (.cells (cf.setIfInBounds (Γ.fo+1) (.int .i64 n)) 61 (0,0)):=heap_setCell_same _ _ _ _ _ _ hf
 have hlt : Γ.fo+1<cf.size:=by
  have h:=L.fat
  rw[cell_of_row w Γ.fb (Γ.fo+1) _ _ _ hf] at h
  exact(aE h).1
 refine⟨{ L with
  row:=(far _ _ _ L.row (by decide)).trans L.row
  frow:=⟨_,same⟩
  fat:=by rw[cell_of_row _ _ _ _ _ _ same];simp[hlt]
  frest:=fun k hk=>by
   rw[cell_of_row _ _ _ _ _ _ same,←L.frest k hk,cell_of_row _ _ _ _ _ _ hf]
   simp[Array.getElem?_setIfInBounds,Ne.symm hk]
  crow:=rfar _ _ _ _ _ L.crow (by decide)
  vals:=rfar _ _ _ _ _ L.vals (by decide)
  regs:=rfar _ _ _ _ _ L.regs (by decide)
  cvals:=fun i v c hv hc=>rfar _ _ _ _ _ (L.cvals i v c hv hc) (by decide)
  fixed:=fun b hb=>(o.block b (Nat.lt_of_lt_of_le (K.q1 b hb) L.size) (fun e=>K.qf (e ▸ hb))).trans (L.fixed b hb)
  size:=Nat.le_trans L.size o.size
  wfa:=hn },aeC o (fun k _ hk=>by subst hk;exact⟨cf,_,hf,.inr (.inl rfl)⟩)⟩
theorem bO.putSteps (L:bO Γ w W cv vv vs fs) (K:hP Γ) {n:Int} (hn:wfi n) :
  bO Γ (w.setCell ⟨Γ.wb,16,none⟩ (.int .i64 n)) { W with steps:=n } cv vv vs fs∧aQ w (w.setCell ⟨Γ.wb,16,none⟩ (.int .i64 n)):=by
 obtain⟨cf,hf⟩:=L.frow
 have o:cA (fun k=>k = Γ.wb) w (w.setCell ⟨Γ.wb,16,none⟩ (.int .i64 n)):=cA.set (T:=fun k=>k = Γ.wb) cA.refl rfl _ _
 have far:∀(g:Nat) (cs:Array Value) (e:TypeId),w.heap[g]? = some (.cells cs e (0,0))→e≠85→(w.setCell ⟨Γ.wb,16,none⟩ (.int .i64 n)).heap[g]? = w.heap[g]?:=fun g cs e h h1=>
  o.block g (aV h) (fun ht=>bJ h L.row h1 ht)
 have rfar:∀(e:TypeId) (size m:Nat) (u:Value) (xs:List Value),w.ownsRow Γ.B e size u m xs→e≠85→(w.setCell ⟨Γ.wb,16,none⟩ (.int .i64 n)).ownsRow Γ.B e size u m xs:=fun e size m u xs h hne=>gI h L.row (Ne.symm hne) _ _
 have h2:=far _ _ _ hf (by decide)
 have e16:(Γ.tcs++[cv,Γ.shv,.pointer (some ⟨Γ.fb,Γ.fo,none⟩),.int .i64 W.steps,vv]).set 16 (.int .i64 n) = Γ.tcs++[cv,Γ.shv,.pointer (some ⟨Γ.fb,Γ.fo,none⟩),.int .i64 n,vv]:=by
  rw[List.set_append_right _ _ (by rw[K.tl];omega),K.tl];rfl
 refine⟨{ L with
  row:=by
   rw[heap_setCell_same _ _ _ _ _ _ L.row]
   show some (Obj.cells ((_:Array Value).setIfInBounds 16 _) _ _)=_
   rw[←e16]
   simp
  frow:=⟨cf,h2.trans hf⟩
  fat:=(World.cell?_of_block h2).trans L.fat
  frest:=fun k hk=>(World.cell?_of_block h2).trans (L.frest k hk)
  crow:=rfar _ _ _ _ _ L.crow (by decide)
  vals:=rfar _ _ _ _ _ L.vals (by decide)
  regs:=rfar _ _ _ _ _ L.regs (by decide)
  cvals:=fun i v c hv hc=>rfar _ _ _ _ _ (L.cvals i v c hv hc) (by decide)
  fixed:=fun b hb=>(o.block b (Nat.lt_of_lt_of_le (K.q1 b hb) L.size) (fun e=>K.qw (e ▸ hb))).trans (L.fixed b hb)
  size:=Nat.le_trans L.size o.size
  wfs:=hn },aeC o (fun k _ hk=>by subst hk;exact⟨_,_,L.row,.inl rfl⟩)⟩
theorem bO.setReg (L:bO Γ w W cv vv vs fs) (K:hP Γ) {i:Nat} {v u:Val} (hi:W.regs[i]? = some u) (hv:WfV v) {g n cap:Nat} (hvv : Γ.rv=.slice (some ⟨g,0,none⟩) n cap) :
  bO Γ (w.setCells g (i*2) (aZ v)) { W with regs:=W.regs.set i v } cv vv vs fs∧aQ w (w.setCells g (i*2) (aZ v)):=by
 have R:=L.regs
 rw[hvv] at R
 have hn:=yN R
 subst hn
 have o:cA (fun k=>Γ.rv.ownBlock=some k) w (w.setCells g (i*2) (aZ v)):=
  cA.set (T:=fun k=>Γ.rv.ownBlock=some k) (cA.set (T:=fun k=>Γ.rv.ownBlock=some k) cA.refl (by rw[hvv];rfl) _ _) (by rw[hvv];rfl) _ _
 refine⟨L.putRegs K o ?_ (fun x hx=>?_),aeC o (fun k _ hk=>?_)⟩
 ·rw[List.length_set,hvv]
  exact uP R hi
 ·rcases List.mem_or_eq_of_mem_set hx with h | h
  ·exact L.wfr x h
  ·rw[h];exact hv
 ·obtain⟨cs,h⟩:=aX L.regs hk
  exact⟨cs,_,h,.inr (.inr (.inr rfl))⟩
theorem bO.exitAt (L:bO Γ w W cv vv vs fs) (K:hP Γ) {i:Nat} {x:cW} (hx : Γ.t.exits[i]? = some x) :
  ∃b off cap cs,w.cell? ⟨Γ.wb,4,none⟩=some (.slice (some ⟨b,off,none⟩) Γ.t.exits.length cap)∧cs.length=4∧hJ w b (off+i*4) cs∧gF w Γ.B0 cs x∧b < Γ.w1.heap.size:=by
 obtain⟨iv,ev,ct,cb,e,-,h1,-⟩:=K.tr
 obtain⟨A,cap,rfl,-⟩:=id h1
 have hil:=(lE hx).1
 obtain⟨b,off,y,cs,rfl,hb,hy,hl,hR,hc⟩:=h1.at_ hil
 rw[hx] at hy;injection hy with hy;subst hy
 have h4:=L.tr K (k:=4) (by decide)
 rw[e] at h4
 exact⟨b,off,cap,cs,h4,hl,fun j u hj=>(L.held ⟨b,_,none⟩ (K.q0 b hb)).trans (hc j u hj),hR.keep (Nat.le_refl _) (fun p hp=>L.held p (K.q0 _ hp)),K.q1 b (K.q0 b hb)⟩
end
end
section
open Go.RowKit
theorem take_mk {α : Type} {l:List α} {k:Nat} {x : α} (h:l[k]? = some x):l.take (k+1)=l.take k++[x]:=by
 obtain⟨h1,h2⟩:=lE h
 rw[List.take_succ_eq_append_getElem h1,h2]
theorem zN {α : Type} {l:List α} {k:Nat} {x : α} (h:l[k]? = some x):l.drop k=x::l.drop (k+1):=by
 obtain⟨h1,h2⟩:=lE h
 rw[List.drop_eq_getElem_cons h1,h2]
theorem Lim.setCW {t:aN} {r:Nat} {w:aI} (h:Lim t r w) (n:Nat) (c:bC):Lim t r (setCW w n c):=⟨h.vals,oI h.cells n c,h.regs⟩
theorem Lim.setReg {t:aN} {r:Nat} {w:aI} (h:Lim t r w) (n:Nat) (v:Val):Lim t r { w with regs:=w.regs.set n v }:=⟨h.vals,h.cells,by show(w.regs.set n v).length=r;rw[List.length_set];exact h.regs⟩
section
variable {Γ : kI} {w w':World} {W:aI} {cv vv:Value} {vs fs:List Value}
theorem adL {w:World} {B gc len cc:Nat} {cells:List bC} {vs fs:List Value} {n:Nat} {c:bC} {v f:Value} (h:w.ownsRow B 55 4 (.slice (some ⟨gc,0,none⟩) len cc) len ((cK cells vs fs).flatMap id)) (lv:vs.length=cells.length) (lf:fs.length=cells.length) (hc:cells[n]? = some c) (hv:vs[n]? = some v) (hf:fs[n]? = some f) (c':bC) (v' f':Value) :
  (w.setCells gc (n*4) (bD c' v' f')).ownsRow B 55 4 (.slice (some ⟨gc,0,none⟩) len cc) len ((cK (cells.set n c') (vs.set n v') (fs.set n f')).flatMap id):=by
 have hr:=eP _ _ _ n _ _ _ hc hv hf
 have h4:=g8 cells vs fs
 have h0:=(h.stored (n*4+0) (.int .i64 c'.kind)).1
 rw[dT _ n 0 _ _ h4 hr (by decide)] at h0
 have hr0:=dO hr ((bD c v f).set 0 (.int .i64 c'.kind))
 have m0:=eU (i:=n) h4 (show((bD c v f).set 0 (.int .i64 c'.kind)).length=4 from rfl)
 have h1:=(h0.stored (n*4+1) (.int .i64 c'.num)).1
 rw[dT _ n 1 _ _ m0 hr0 (by decide),List.set_set] at h1
 have hr1:=dO hr (((bD c v f).set 0 (.int .i64 c'.kind)).set 1 (.int .i64 c'.num))
 have m1:=eU (i:=n) h4 (show(((bD c v f).set 0 (.int .i64 c'.kind)).set 1 (.int .i64 c'.num)).length=4 from rfl)
 have h2:=(h1.stored (n*4+2) v').1
 rw[dT _ n 2 _ _ m1 hr1 (by decide),List.set_set] at h2
 have hr2:=dO hr ((((bD c v f).set 0 (.int .i64 c'.kind)).set 1 (.int .i64 c'.num)).set 2 v')
 have m2:=eU (i:=n) h4 (show((((bD c v f).set 0 (.int .i64 c'.kind)).set 1 (.int .i64 c'.num)).set 2 v').length=4 from rfl)
 have h3:=(h2.stored (n*4+3) f').1
 rw[dT _ n 3 _ _ m2 hr2 (by decide),List.set_set] at h3
 rw[←kP _ _ _ n _ _ _ lv lf]
 exact h3
theorem ac2:(Tryz.prog.info? 55).map (·.size)=some 4:=by kernel_rfl
theorem end_c (K:hP Γ) (L:bO Γ w W cv vv vs fs) {x:cW} {cs:List Value} {R:Int} {k:Nat} (hX:gF Γ.w1 Γ.B0 cs x) (EF:mX R Γ.t x k) (hk:k≤Γ.t.ins.length) (M:Lim Γ.t R.toNat W) (ht : Γ.t.ins.length≤300) (hst:0≤W.steps∧W.steps≤1000000000) :
  Calls Tryz.prog 108 #[.pointer (some ⟨Γ.wb,0,none⟩),.agg ⟨cs⟩] w (sJ Γ (iG W x).1 (.int .i64 (iG W x).2) w):=by
 obtain⟨sv,mv,rfl,hs,hm,wa,ws⟩:=hX
 obtain⟨SA,sc,rfl,-⟩:=id hs
 obtain⟨MA,mc,rfl,-⟩:=id hm
 have lls:=aP hs
 have llm:=aP hm
 have HSS:=hI hs
 have HMM:=hI hm
 have HWA:=hI wa
 have HEF:=hI EF
 have HK:=hI K
 have HST:=hI hst
 obtain⟨w1,hw1⟩:∃w1,w1=w.alloc (.cells #[.int .i64 x.at_,.int .i64 x.steps,.slice SA x.sets.length sc,.slice MA x.makes.length mc] 32):=⟨_,rfl⟩
 have K1:Hid (Below w.heap.size w w1):=by rw[hw1];exact aB _ _
 have ROW1:Hid (w1.heap[w.heap.size]? = some (.cells #[.int .i64 x.at_,.int .i64 x.steps,.slice SA x.sets.length sc,.slice MA x.makes.length mc] 32 (0,0))):=by rw[hw1];exact aJ _ _
 have HW1:=hI hw1
 have L1:=hI (L.below K K1.out)
 obtain⟨W',hW'⟩:∃W',(iG W x).1=W':=⟨_,rfl⟩
 obtain⟨q,hq⟩:∃q,(iG W x).2=q:=⟨_,rfl⟩
 rw[hW',hq]
 obtain⟨rm,hrm⟩:∃rm,eK W x.makes=rm:=⟨_,rfl⟩
 have HE:Hid ((if rm.2≠0 then rm else({ fN rm.1 x.sets with at_:=x.at_,steps:=(fN rm.1 x.sets).steps+x.steps },0))=(W',q)):=by
  show _=_
  rw[←hW',←hq,←hrm];rfl
 have HFR:Hid (rm.1.steps=W.steps):=by rw[←hrm];exact(mK x.makes W).2.2
 have HRM:=hI hrm
 obtain⟨i0,hi0,hqq⟩:=Option.map_eq_some_iff.1 lH
 simp only[Prod.mk.injEq] at hqq
 obtain⟨hz,hz1,hz2⟩:=hqq
 obtain⟨z,hz0,hz3⟩:=Option.map_eq_some_iff.1 hz
 have HI:=hI hi0
 have HZ:=hI hz0
 have HZ1:=hI hz1
 have HZ2:=hI hz2
 have HZ3:=hI hz3
 clear hi0 hz0 hz1 hz2 hz3 hz hw1 hW' hq hrm hs hm wa ws EF K L hst
 have s3:=crZ ROW1 3 rfl
 go_enter Tryz.func108,Tryz.ntmps108
 go_upto_region 1 with fail
 rw[←HW1.out]
 go_wp2_with fail
 clear s3
 go_loopw [16] (fun kk wr=>∃(j:Nat) (V:aI),kk=.int .i64 j∧j≤x.makes.length∧Hid (eK V (x.makes.drop j)=rm)∧Hid (∃cv vv vs fs,bO Γ wr V cv vv vs fs)∧Hid (Lim Γ.t R.toNat V)∧Hid (aQ w1 wr)) (fun kk _=>x.makes.length - (RowKit.intOf kk).toNat)
 case atStart=>exact⟨0,W,rfl,by omega,HRM.out,⟨_,_,_,_,L1.out⟩,M,aQ.refl _⟩
 case round=>
  obtain⟨j,V,rfl,hj,HM,HL,HLM,KW⟩:=hrel
  obtain⟨wo,hwo⟩:∃wo,wo=wr:=⟨_,rfl⟩
  subst hwo
  obtain⟨cv2,vv2,vs2,fs2,L2⟩:=HL.out
  have LV:=hI L2
  have ROWR:Hid (wo.heap[w.heap.size]? = some (.cells #[.int .i64 x.at_,.int .i64 x.steps,.slice SA x.sets.length sc,.slice MA x.makes.length mc] 32 (0,0))):=(KW.out.block _ _ _ _ ROW1.out (by decide) (by decide) (by decide) (by decide)).trans ROW1.out
  have hsz:=KW.out.size
  clear L2 HL
  by_cases hlt:j<x.makes.length
  ·have hji:(j:Int)<x.makes.length:=by omega
   obtain⟨mb,moff,m,mcs,rfl,hmb,hmx,-,⟨mvv,rfl,hmv,wm1,wm2,wm3⟩,hat⟩:=HMM.out.at_ hlt
   obtain⟨VA,vcap,rfl,-⟩:=id hmv
   have MF:=hI (HEF.out.makes m (List.mem_of_getElem? hmx))
   have HMV:=hI hmv
   have g0:wo.cell? ⟨mb,moff+j*4,none⟩=some (.int .i64 m.cell):=(LV.out.held ⟨mb,_,none⟩ (HK.out.q0 _ hmb)).trans (hat 0 _ rfl)
   have g1:wo.cell? ⟨mb,moff+j*4+1,none⟩=some (.int .i64 m.kind):=(LV.out.held ⟨mb,_,none⟩ (HK.out.q0 _ hmb)).trans (hat 1 _ rfl)
   have g2:wo.cell? ⟨mb,moff+j*4+2,none⟩=some (.int .i64 m.num):=(LV.out.held ⟨mb,_,none⟩ (HK.out.q0 _ hmb)).trans (hat 2 _ rfl)
   have g3:wo.cell? ⟨mb,moff+j*4+3,none⟩=some (.slice VA m.vals.length vcap):=(LV.out.held ⟨mb,_,none⟩ (HK.out.q0 _ hmb)).trans (hat 3 _ rfl)
   have hmc:=MF.out.cell
   obtain⟨kc,hkc⟩:∃kc:Nat,m.cell=(kc:Int):=⟨m.cell.toNat,by omega⟩
   obtain⟨y,hy⟩:∃y,V.vals[kc]? = some y:=⟨_,lG (by rw[HLM.out.vals];omega)⟩
   have HKC:=hI hkc
   have HMX:=hI hmx
   have HWM:Hid (wfi m.kind∧wfi m.num):=⟨wm2,wm3⟩
   obtain⟨w2,hw2⟩:∃w2,w2=wo.alloc (.cells #[.int .i64 m.cell,.int .i64 m.kind,.int .i64 m.num,.slice VA m.vals.length vcap] 181):=⟨_,rfl⟩
   have K2:Hid (Below wo.heap.size wo w2):=by rw[hw2];exact aB _ _
   have HB2:Hid (aA w2 wo.heap.size [.int .i64 m.cell,.int .i64 m.kind,.int .i64 m.num,.slice VA m.vals.length vcap]):=by rw[hw2];exact ad5 _ _ _
   have HW2:=hI hw2
   have L2:=hI (LV.out.below HK.out K2.out)
   have CC:=hI (nY HK.out L2.out hy HLM.out.cells)
   rw[←hkc] at CC
   have HSTEP:Hid ((if(fP V m).2≠0 then fP V m else eK (fP V m).1 (x.makes.drop (j+1)))=rm):=by
    have h:=HM.out
    rw[zN hmx] at h
    exact h
   have b0:=HB2.out 0 _ rfl
   clear hw2 hat hmx hmv wm1 wm2 wm3 hmc hkc hy
   go_upto_region 4 with fail
   rw[←HW2.out]
   clear g0 g1 g2 g3
   go_wp2_with fail
   refine CC.out.mono ?_
   rintro e w3 ⟨rfl,k3⟩
   have K23:=hI k3
   have K3:=btZ K2 k3
   have L3:=hI (L2.out.below HK.out k3)
   have KW3:Hid (aQ w1 w3):=KW.out.trans (aQ.of K3.out)
   clear k3 b0
   cases hcell:eF V m.cell with
   | none=>
    rw[eV hcell]
    have HN:Hid ((V,(2:Int))=(W',q)):=by
     have e:fP V m=(V,2):=by unfold fP;rw[hcell]
     have h:=HSTEP.out
     rw[e,if_pos (show(2:Int)≠0 by decide)] at h
     have h2:=HE.out
     rw[←h,if_pos (show(2:Int)≠0 by decide)] at h2
     exact h2
    clear hcell
    go_wp2_with fail
    go_ret
    have e1:=congrArg Prod.fst HN.out
    have e2:=congrArg Prod.snd HN.out
    dsimp only at e1 e2
    subst e1;subst e2
    exact⟨rfl,⟨_,_,_,_,L3.out⟩,(aQ.of K1.out).trans KW3.out⟩
   | some p=>
    obtain⟨n,c⟩:=p
    obtain⟨gc,cc,v,f,vA,vc,hcv,hc,hv,hf,hvs,hpt,c0,c1,c2,c3,hgc⟩:=L3.out.atCell hcell
    rw[hpt]
    subst hvs
    have HCV:=hI hcv
    have HC:=hI hc
    have HVN:=hI hv
    have HF:=hI hf
    have hMk:fP V m=if c.kind≠0 then(V,2) else(setCW V n ⟨m.kind,m.num,m.vals.map (cX V),[]⟩,0):=by unfold fP;rw[hcell]
    have HMK:=hI hMk
    clear hcell c1 c2 c3 hc hv hf hpt hcv hMk
    by_cases hk0:c.kind=0
    ·rw[hk0] at c0
     have HT:Hid (eK (setCW V n ⟨m.kind,m.num,m.vals.map (cX V),[]⟩) (x.makes.drop (j+1))=rm):=by
      have h:=HSTEP.out
      have e:fP V m=(setCW V n ⟨m.kind,m.num,m.vals.map (cX V),[]⟩,0):=by rw[HMK.out,if_neg (fun h=>h hk0)]
      rw[e,if_neg (fun h=>h rfl)] at h
      exact h
     have b3:w3.cell? ⟨wo.heap.size,3,none⟩=some (.slice VA m.vals.length vcap):=aC K23.out (HB2.out 3 _ rfl)
     have b1:Hid (aA w3 wo.heap.size [.int .i64 m.cell,.int .i64 m.kind,.int .i64 m.num,.slice VA m.vals.length vcap]):=fun i v hv=>aC K23.out (HB2.out i v hv)
     have hlen:=MF.out.len
     clear hk0
     go_wp2_with fail
     clear b3 c0
     go_loopw [8,36] (fun a ik wr=>∃i:Nat,ik=.int .i64 i∧i≤m.vals.length∧Hid (wr.ownsRow w3.heap.size 48 2 a i (((m.vals.take i).map (cX V)).flatMap aZ))∧Hid (Below w3.heap.size w3 wr)) (fun _ ik _=>m.vals.length - (RowKit.intOf ik).toNat)
     case atStart=>exact⟨0,rfl,by omega,World.ownsRow_nil _ _ _ _,Below.refl _ _⟩
     case round=>
      obtain⟨i,rfl,hi,OA,KI⟩:=hrel
      obtain⟨A7,c7,rfl⟩:=bV OA.out
      have hsz3:=KI.out.size
      by_cases hil:i<m.vals.length
      ·have hii:(i:Int)<m.vals.length:=by omega
       obtain⟨xb,xoff,zv,zcs,rfl,hxb,hzx,-,⟨rfl,wz⟩,zat⟩:=HMV.out.at_ hil
       have hzf:=MF.out.vals zv (List.mem_of_getElem? hzx)
       obtain⟨zi,rfl⟩:∃zi:Nat,zv=(zi:Int):=⟨zv.toNat,by omega⟩
       have hzl:zi<V.vals.length:=by rw[HLM.out.vals];omega
       have hzi:(zi:Int)<V.vals.length:=by omega
       obtain⟨yz,hyz⟩:∃yz,V.vals[zi]? = some yz:=⟨_,lG hzl⟩
       obtain⟨g,cap,hvv,-,hgl⟩:=L3.out.vals.form (by omega)
       have hxq:=HK.out.q0 _ hxb
       have hx3:xb<w3.heap.size:=Nat.lt_of_lt_of_le (HK.out.q1 _ hxq) L3.out.size
       have gz:wr.cell? ⟨xb,xoff+i,none⟩=some (.int .i64 zi):=(KI.out.cell hx3).trans ((L3.out.held ⟨xb,_,none⟩ hxq).trans (by simpa using zat 0 _ rfl))
       have p17:wr.cell? ⟨Γ.wb,17,none⟩=some (.slice (some ⟨g,0,none⟩) V.vals.length cap):=aC KI.out (by have h:=L3.out.own HK.out 4;rw[hvv] at h;exact h)
       have OV:Hid (w3.ownsRow Γ.B 48 2 (.slice (some ⟨g,0,none⟩) V.vals.length cap) V.vals.length (V.vals.flatMap aZ)):=by have h:=L3.out.vals;rw[hvv] at h;exact h
       have p0:wr.cell? ⟨g,zi*2,none⟩=some (.int .i64 yz.kind):=aC KI.out (by rw[OV.out.cellAt (zi*2) (by omega)];exact bS hyz (k:=0) (by decide))
       have p1:wr.cell? ⟨g,zi*2+1,none⟩=some (.int .i64 yz.n):=aC KI.out (by rw[OV.out.cellAt (zi*2+1) (by omega)];exact bS hyz (k:=1) (by decide))
       have HNX:Hid (((m.vals.take (i+1)).map (cX V)).flatMap aZ=((m.vals.take i).map (cX V)).flatMap aZ++[.int .i64 yz.kind,.int .i64 yz.n]):=by
        show _=_
        rw[take_mk hzx,List.map_append,List.flatMap_append]
        simp[fR hyz,aZ]
       obtain⟨LX,hLX⟩:∃LX,((m.vals.take i).map (cX V)).flatMap aZ=LX:=⟨_,rfl⟩
       rw[hLX] at OA HNX
       clear hzx hyz hvv zat hxq hx3 hLX hzf
       go_wp2_with (at_builtin;refine wpList_append_own _ rfl _ _ 23 rfl w3.heap.size 48 i0 z 2 16 Tryz.underlying23 HI.out HZ.out HZ1.out HZ2.out HZ3.out (by decide) (.slice A7 i c7) i LX rfl (OA.out.alloc _) ⟨wr.heap.size,0,none⟩ 1 1 [.int .i64 yz.kind,.int .i64 yz.n] rfl rfl ?c1 ?c2 ?c3 ?c4 ?c5 ?_)
       case c1=>exact World.news_of_block (cs:=#[.int .i64 yz.kind,.int .i64 yz.n]) (aJ _ _)
       case c2=>intro u hu;simp at hu;rcases hu with rfl | rfl <;> rfl
       case c3=>unfold maxLen;omega
       case c4=>omega
       case c5=>simp;omega
       intro v' w6 hown hg _
       have O7:=hI hown
       have KB:=hI (mO (B':=w3.heap.size) (OA.out.alloc (.cells #[.int .i64 yz.kind,.int .i64 yz.n] 48)) hg (Nat.le_refl _) (by simp;omega))
       have K7:=hI ((KI.out.alloc hsz3 _).trans KB.out)
       clear hown hg gz p17 p0 p1
       go_wp2_with fail
       go_roundw
       case rel=>exact⟨i+1,by go_num,by omega,by show World.ownsRow _ _ _ _ _ _ _;rw[HNX.out];exact O7.out,K7⟩
       case measure=>simp[RowKit.intOf];omega
      ·obtain rfl:i=m.vals.length:=by omega
       have hni:¬(m.vals.length:Int)<m.vals.length:=by omega
       have LI:=hI (L3.out.below HK.out KI.out)
       have hTH:wr.there gc (n*4) 4:=by
        have h:=LI.out.crow
        rw[HCV.out] at h
        have:=(lE HC.out).1
        exact dZ h (by omega)
       have TH:=hI hTH
       have B1:Hid (aA wr wo.heap.size [.int .i64 m.cell,.int .i64 m.kind,.int .i64 m.num,.slice VA m.vals.length vcap]):=fun i v hv=>aC KI.out (b1.out i v hv)
       have p1:=B1.out 1 _ rfl
       have p2:=B1.out 2 _ rfl
       have OA2:Hid (wr.ownsRow w3.heap.size 48 2 (.slice A7 m.vals.length c7) m.vals.length ((m.vals.map (cX V)).flatMap aZ)):=by
        have h:=OA.out
        rw[List.take_length] at h
        exact h
       clear hTH OA
       go_upto_region 14 with (first | (refine wpList_store_mid rfl 55 _ _ rfl gc (n*4) #[.int .i64 m.kind,.int .i64 m.num,.slice A7 m.vals.length c7,.slice none 0 0] rfl rfl TH.out ac2 (all_oneCell_toArray (by simp[Value.oneCell'])) ?_) | fail)
       generalize hw9:World.setCells _ _ _ _=w9
       have CRI:=LI.out.crow
       rw[HCV.out] at CRI
       have CR9:=adL CRI LI.out.lv LI.out.lf HC.out HVN.out HF.out ⟨m.kind,m.num,m.vals.map (cX V),[]⟩ (.slice A7 m.vals.length c7) (.slice none 0 0)
       have hw9':wr.setCells gc (n*4) (bD ⟨m.kind,m.num,m.vals.map (cX V),[]⟩ (.slice A7 m.vals.length c7) (.slice none 0 0))=w9:=hw9
       rw[hw9'] at CR9
       have C9:=hI CR9
       have ON9:Hid (cA (fun k=>(Value.slice vA c.vals.length vc).ownBlock=some k∨cv2.ownBlock=some k) wr w9):=by
        rw[←hw9,HCV.out]
        exact cA.set (cA.set (cA.set (cA.set cA.refl (.inr rfl) _ _) (.inr rfl) _ _) (.inr rfl) _ _) (.inr rfl) _ _
       have ON39:Hid (cA (fun k=>(Value.slice vA c.vals.length vc).ownBlock=some k∨cv2.ownBlock=some k) w3 w9):=cA.trans (cA.of KI.out) ON9.out
       have O9:Hid (w9.ownsRow Γ.B 48 2 (.slice A7 m.vals.length c7) (m.vals.map (cX V)).length ((m.vals.map (cX V)).flatMap aZ)):=by
        have h:w9.ownsRow w3.heap.size 48 2 (.slice A7 m.vals.length c7) m.vals.length ((m.vals.map (cX V)).flatMap aZ):=by
         refine fG OA2.out (fun g hg=>ON9.out.block g (OA2.out.lt g hg).2 (fun hh=>?_))
         have h1:=(OA2.out.lt g hg).1
         rcases hh with hh | hh
         ·have:=((L3.out.cvals n _ c HVN.out HC.out).lt g hh).2;omega
         ·have:=(L3.out.crow.lt g hh).2;omega
        rw[List.length_map]
        exact dU h (Nat.le_trans HK.out.b1 L3.out.size)
       have wfn:WfC ⟨m.kind,m.num,m.vals.map (cX V),[]⟩:=by
        refine⟨HWM.out.1,HWM.out.2,fun y hy=>?_⟩
        obtain⟨z,-,rfl⟩:=List.mem_map.1 (show y∈m.vals.map (cX V) from hy)
        unfold cX
        cases e:V.vals[z.toNat]? with
        | none=>exact⟨⟨by simp,by simp⟩,⟨by simp,by simp⟩⟩
        | some u=>exact L3.out.wfv u (List.mem_of_getElem? e)
       have L9:=hI (L3.out.putCell HK.out (c':=⟨m.kind,m.num,m.vals.map (cX V),[]⟩) HVN.out ON39.out (by rw[HCV.out];exact C9.out) O9.out (fun g hg=>.inr (OA2.out.lt g hg).1) (bK.nil _ _ _ _) wfn)
       have K9:Hid (aQ w3 w9):=aeC ON39.out (fun k _ hk=>by
        rcases hk with hk | hk
        ·obtain⟨cs,h⟩:=aX (L3.out.cvals n _ c HVN.out HC.out) hk
         exact⟨cs,_,h,.inr (.inr (.inr rfl))⟩
        ·obtain⟨cs,h⟩:=aX L3.out.crow hk
         exact⟨cs,_,h,.inr (.inr (.inl rfl))⟩)
       clear hw9 hw9' CR9 CRI wfn p1 p2
       (try dsimp only [Act.put])
       go_wp2_with fail
       go_roundw
       case rel=>exact⟨j+1,setCW V n ⟨m.kind,m.num,m.vals.map (cX V),[]⟩,by go_num,by omega,HT.out,⟨_,_,_,_,L9.out⟩,HLM.out.setCW _ _,KW3.out.trans K9.out⟩
       case measure=>simp[RowKit.intOf];omega
    ·have HN:Hid ((V,(2:Int))=(W',q)):=by
      have h:=HSTEP.out
      have e:fP V m=(V,2):=by rw[HMK.out,if_pos hk0]
      rw[e,if_pos (show(2:Int)≠0 by decide)] at h
      have h2:=HE.out
      rw[←h,if_pos (show(2:Int)≠0 by decide)] at h2
      exact h2
     have hb0:(c.kind != 0)=true:=by simpa using hk0
     clear hk0
     go_wp2_with fail
     go_ret
     have e1:=congrArg Prod.fst HN.out
     have e2:=congrArg Prod.snd HN.out
     dsimp only at e1 e2
     subst e1;subst e2
     exact⟨rfl,⟨_,_,_,_,L3.out⟩,(aQ.of K1.out).trans KW3.out⟩
  ·obtain rfl:j=x.makes.length:=by omega
   have hnj:¬(x.makes.length:Int)<x.makes.length:=by omega
   have HV:Hid ((V,(0:Int))=rm):=by have h:=HM.out;rw[List.drop_length] at h;exact h
   have HE2:Hid (({ fN V x.sets with at_:=x.at_,steps:=(fN V x.sets).steps+x.steps },(0:Int))=(W',q)):=by
    have h:=HE.out
    rw[←HV.out,if_neg (fun h=>h rfl)] at h
    exact h
   have HVS:Hid (V.steps=W.steps):=by have h:=HFR.out;rw[←HV.out] at h;exact h
   have s2:=crZ ROWR 2 rfl
   clear HM HV HFR HE
   go_wp2_with fail
   clear s2
   go_loopw [63] (fun kk wr=>∃(j:Nat) (U:aI),kk=.int .i64 j∧j≤x.sets.length∧Hid (fN U (x.sets.drop j)=fN V x.sets)∧Hid (∃cv vv vs fs,bO Γ wr U cv vv vs fs)∧Hid (Lim Γ.t R.toNat U)∧Hid (aQ wo wr)) (fun kk _=>x.sets.length - (RowKit.intOf kk).toNat)
   case atStart=>exact⟨0,V,rfl,by omega,rfl,⟨_,_,_,_,LV.out⟩,HLM.out,aQ.refl _⟩
   case round=>
    obtain⟨j,U,rfl,hj2,HS,HL,HLU,KU⟩:=hrel
    obtain⟨cv3,vv3,vs3,fs3,L3⟩:=HL.out
    have LU:=hI L3
    have ROW2:Hid (wr.heap[w.heap.size]? = some (.cells #[.int .i64 x.at_,.int .i64 x.steps,.slice SA x.sets.length sc,.slice MA x.makes.length mc] 32 (0,0))):=(KU.out.block _ _ _ _ ROWR.out (by decide) (by decide) (by decide) (by decide)).trans ROWR.out
    clear L3 HL
    by_cases hlt:j<x.sets.length
    ·have hji:(j:Int)<x.sets.length:=by omega
     obtain⟨sb,soff,s,scs,rfl,hsb,hsx,-,⟨rfl,ws1,ws2⟩,hat⟩:=HSS.out.at_ hlt
     have SF:=HEF.out.sets s (List.mem_of_getElem? hsx)
     have g0:wr.cell? ⟨sb,soff+j*2,none⟩=some (.int .i64 s.reg):=(LU.out.held ⟨sb,_,none⟩ (HK.out.q0 _ hsb)).trans (hat 0 _ rfl)
     have g1:wr.cell? ⟨sb,soff+j*2+1,none⟩=some (.int .i64 s.val):=(LU.out.held ⟨sb,_,none⟩ (HK.out.q0 _ hsb)).trans (hat 1 _ rfl)
     obtain⟨kr,hkr⟩:∃kr:Nat,s.reg=(kr:Int):=⟨s.reg.toNat,by omega⟩
     obtain⟨kv,hkv⟩:∃kv:Nat,s.val=(kv:Int):=⟨s.val.toNat,by omega⟩
     have hvl:kv<U.vals.length:=by rw[HLU.out.vals];omega
     have hrl:kr<U.regs.length:=by rw[HLU.out.regs];omega
     have hvi:(kv:Int)<U.vals.length:=by omega
     have hri:(kr:Int)<U.regs.length:=by omega
     obtain⟨y,hy⟩:∃y,U.vals[kv]? = some y:=⟨_,lG hvl⟩
     obtain⟨u,hu⟩:∃u,U.regs[kr]? = some u:=⟨_,lG hrl⟩
     rw[hkr] at g0
     rw[hkv] at g1
     have HY:=hI hy
     have HU:=hI hu
     have HSX:Hid (fN { U with regs:=U.regs.set kr y } (x.sets.drop (j+1))=fN V x.sets):=by
      have h:=HS.out
      rw[zN hsx] at h
      have e:cX U s.val=y:=by rw[hkv];exact fR hy
      have e2:s.reg.toNat=kr:=by rw[hkr];rfl
      show _=_
      rw[←h,←e,←e2];rfl
     obtain⟨w2,hw2⟩:∃w2,w2=wr.alloc (.cells #[.int .i64 kr,.int .i64 kv] 66):=⟨_,rfl⟩
     have K2:Hid (Below wr.heap.size wr w2):=by rw[hw2];exact aB _ _
     have HB2:Hid (aA w2 wr.heap.size [.int .i64 kr,.int .i64 kv]):=by rw[hw2];exact ad5 _ _ _
     have HW2:=hI hw2
     have L2:=hI (LU.out.below HK.out K2.out)
     obtain⟨g,cap,hvv,-,hgl⟩:=L2.out.vals.form (by omega)
     obtain⟨rg,rc,hrv,-,hrg⟩:=L2.out.regs.form (by omega)
     have HVV:=hI hvv
     have HRV:=hI hrv
     clear hw2 hat hsx hy hu hkr hkv SF hvv hrv ws1 ws2
     go_upto_region 18 with fail
     rw[←HW2.out]
     clear g0 g1
     have OV:Hid (w2.ownsRow Γ.B 48 2 (.slice (some ⟨g,0,none⟩) U.vals.length cap) U.vals.length (U.vals.flatMap aZ)):=by have h:=L2.out.vals;rw[HVV.out] at h;exact h
     have a0:∀E:Up w2,E.to.cell? ⟨Γ.wb,17,none⟩=some (.slice (some ⟨g,0,none⟩) U.vals.length cap):=fun E=>E.cell (by have h:=L2.out.own HK.out 4;rw[HVV.out] at h;exact h)
     have a1:∀E:Up w2,E.to.cell? ⟨Γ.wb,15,none⟩=some (.pointer (some ⟨Γ.fb,Γ.fo,none⟩)):=fun E=>E.cell (L2.out.own HK.out 2)
     have a2:∀E:Up w2,E.to.cell? ⟨Γ.fb,Γ.fo+6,none⟩=some (.slice (some ⟨rg,0,none⟩) U.regs.length rc):=fun E=>E.cell (by rw[L2.out.frest (Γ.fo+6) (by omega),←HRV.out];exact HK.out.f6)
     have a3:=ecZ (HB2.out 0 _ rfl)
     have a4:=ecZ (HB2.out 1 _ rfl)
     have a5:∀E:Up w2,E.to.cell? ⟨g,kv*2,none⟩=some (.int .i64 y.kind):=fun E=>E.cell (by rw[OV.out.cellAt (kv*2) (by omega)];exact bS HY.out (k:=0) (by decide))
     have a6:∀E:Up w2,E.to.cell? ⟨g,kv*2+1,none⟩=some (.int .i64 y.n):=fun E=>E.cell (by rw[OV.out.cellAt (kv*2+1) (by omega)];exact bS HY.out (k:=1) (by decide))
     refine aL 17 (by kernel_rfl) (by kernel_rfl) ?_
     simp only[List.take_succ_cons,List.take_zero]
     repeat (go_big_quiet_step (fail))
     refine wpQuiet_nil ?_
     intro w' hE
     obtain⟨E,rfl⟩:=hE
     obtain⟨wy,ky⟩:=E
     dsimp only
     have LY:=hI (L2.out.below HK.out ky)
     have KY:=btZ K2 ky
     clear ky a0 a1 a2 a3 a4 a5 a6
     have TH:Hid (wy.there rg (kr*2) 2):=by
      have:=LY.out.regs
      rw[HRV.out] at this
      exact dZ this (by omega)
     have S9:Hid (bO Γ (wy.setCells rg (kr*2) [.int .i64 y.kind,.int .i64 y.n]) { U with regs:=U.regs.set kr y } cv3 vv3 vs3 fs3∧aQ wy (wy.setCells rg (kr*2) [.int .i64 y.kind,.int .i64 y.n])):=LY.out.setReg HK.out HU.out (LY.out.wfv y (List.mem_of_getElem? HY.out)) HRV.out
     simp only[List.drop_succ_cons,List.drop_zero]
     go_upto_region 19 with (first | (refine wpList_store_mid rfl 48 _ _ rfl rg (kr*2) #[.int .i64 y.kind,.int .i64 y.n] rfl rfl TH.out aF (all_oneCell_toArray (by simp[Value.oneCell'])) ?_) | fail)
     generalize hw9:World.setCells _ _ _ _=w9
     rw[hw9] at S9
     clear hw9
     (try dsimp only [Act.put])
     go_wp2_with fail
     go_roundw
     case rel=>exact⟨j+1,{ U with regs:=U.regs.set kr y },by go_num,by omega,HSX.out,⟨_,_,_,_,S9.out.1⟩,HLU.out.setReg _ _,KU.out.trans ((aQ.of KY.out).trans S9.out.2)⟩
     case measure=>simp[RowKit.intOf];omega
    ·obtain rfl:j=x.sets.length:=by omega
     have hnj2:¬(x.sets.length:Int)<x.sets.length:=by omega
     have HUS:Hid (U=fN V x.sets):=by have h:=HS.out;rw[List.drop_length] at h;exact h
     have HST2:Hid (U.steps=W.steps):=by show _=_;rw[HUS.out,(kV x.sets V).2.1];exact HVS.out
     have HE3:Hid (({ U with at_:=x.at_,steps:=U.steps+x.steps },(0:Int))=(W',q)):=by
      have h:=HE2.out
      rw[←HUS.out] at h
      exact h
     have HSTP:=HEF.out.steps
     go_upto_region 20 with fail
     have a1:∀E:Up wr,E.to.cell? ⟨Γ.wb,15,none⟩=some (.pointer (some ⟨Γ.fb,Γ.fo,none⟩)):=fun E=>E.cell (LU.out.own HK.out 2)
     have a3:=ecZ (crZ ROW2 0 rfl)
     refine aL 6 (by kernel_rfl) (by kernel_rfl) ?_
     simp only[List.take_succ_cons,List.take_zero]
     repeat (go_big_quiet_step (fail))
     refine wpQuiet_nil ?_
     intro w' hE
     obtain⟨E,rfl⟩:=hE
     obtain⟨wy,ky⟩:=E
     dsimp only
     have LY:=hI (LU.out.below HK.out ky)
     have KY:=hI ky
     have ROWY:=rkZ ROW2 ky
     clear ky a1 a3
     have f1:wy.cell? ⟨Γ.fb,Γ.fo+1,none⟩=some (.int .i64 U.at_):=LY.out.fat
     obtain⟨cf,hcf⟩:=LY.out.frow
     have z1:wy.frozen? ⟨Γ.fb,Γ.fo+1,none⟩=false:=frozen_of_row wy _ _ _ _ hcf
     have SA9:=hI (LY.out.putAt HK.out HWA.out)
     clear hcf
     simp only[List.drop_succ_cons,List.drop_zero]
     go_upto_region 21 with fail
     generalize hw9:World.setCell _ _ _=w9
     rw[hw9] at SA9
     have ROW9:Hid (w9.heap[w.heap.size]? = some (.cells #[.int .i64 x.at_,.int .i64 x.steps,.slice SA x.sets.length sc,.slice MA x.makes.length mc] 32 (0,0))):=(SA9.out.2.block _ _ _ _ ROWY.out (by decide) (by decide) (by decide) (by decide)).trans ROWY.out
     clear hw9 f1 z1
     (try dsimp only [Act.put])
     have hadd:wrap64 (U.steps+x.steps)=U.steps+x.steps:=by have h1:=HST2.out;have h2:=HST.out;unfold wrap64;omega
     have a1:∀E:Up w9,E.to.cell? ⟨Γ.wb,16,none⟩=some (.int .i64 U.steps):=fun E=>E.cell (SA9.out.1.own HK.out 3)
     have a3:=ecZ (crZ ROW9 1 rfl)
     refine aL 7 (by kernel_rfl) (by kernel_rfl) ?_
     simp only[List.take_succ_cons,List.take_zero]
     repeat (go_big_quiet_step (fail))
     refine wpQuiet_nil ?_
     intro w' hE
     obtain⟨E,rfl⟩:=hE
     obtain⟨wz,kz⟩:=E
     dsimp only
     have LZ:=hI (SA9.out.1.below HK.out kz)
     have KZ:=hI kz
     clear kz a1 a3
     have f1:wz.cell? ⟨Γ.wb,16,none⟩=some (.int .i64 U.steps):=LZ.out.own HK.out 3
     have z1:wz.frozen? ⟨Γ.wb,16,none⟩=false:=frozen_of_row wz _ _ _ _ LZ.out.row
     have SB:=hI (LZ.out.putSteps HK.out (n:=U.steps+x.steps) (by have h1:=HST2.out;have h2:=HST.out;unfold wfi;omega))
     simp only[List.drop_succ_cons,List.drop_zero]
     go_upto_region 22 with fail
     generalize hw10:World.setCell _ _ _=w10
     rw[hw10] at SB
     clear hw10 f1 z1
     (try dsimp only [Act.put])
     clear hadd
     go_wp2_with fail
     go_ret
     have e1:=congrArg Prod.fst HE3.out
     have e2:=congrArg Prod.snd HE3.out
     dsimp only at e1 e2
     subst e1;subst e2
     exact⟨rfl,⟨_,_,_,_,SB.out.1⟩,(aQ.of K1.out).trans (KW.out.trans (KU.out.trans ((aQ.of KY.out).trans (SA9.out.2.trans ((aQ.of KZ.out).trans SB.out.2)))))⟩
end
end
section
open Go.RowKit
section
variable {Γ : kI} {w w':World} {W:aI} {cv vv:Value} {vs fs:List Value}
def zU (Γ : kI) (r:aI×Int×Int) (w:World) (e:Ending) (w':World):Prop:=e=.returned (.tuple #[.int .i64 r.2.1,.int .i64 r.2.2])∧(∃cv vv vs fs,bO Γ w' r.1 cv vv vs fs)∧aQ w w'
theorem wW (K:hP Γ) (L:bO Γ w W cv vv vs fs) {x:cW} {cs:List Value} {R:Int} (F:sI R Γ.t) (hxo:jA Γ.t) {from_ to_:Nat} (hft:from_≤to_) (hto:to_≤Γ.t.ins.length) (hX:gF Γ.w1 Γ.B0 cs x) (EF:mX R Γ.t x to_) (M:Lim Γ.t R.toNat W) (hst:0≤W.steps∧W.steps≤1000000000) :
  Calls Tryz.prog 69 #[.pointer (some ⟨Γ.wb,0,none⟩),.int .i64 (from_:Int),.int .i64 (to_:Int),.agg ⟨cs⟩] w (zU Γ (dM cJ Γ.t Γ.self Γ.shapes x (to_ - from_) from_ W) w):=by
 have hX2:=hX
 obtain⟨sv,mv,rfl,hs,hm,wa,ws⟩:=hX
 obtain⟨SA,sc,rfl,-⟩:=id hs
 obtain⟨MA,mc,rfl,-⟩:=id hm
 have HX2:=hI hX2
 have HEF:=hI EF
 have HK:=hI K
 have HST:=hI hst
 have HF:=hI F
 have HXO:=hI hxo
 have hlen:=F.len
 obtain⟨w1,hw1⟩:∃w1,w1=w.alloc (.cells #[.int .i64 x.at_,.int .i64 x.steps,.slice SA x.sets.length sc,.slice MA x.makes.length mc] 32):=⟨_,rfl⟩
 have K1:Hid (Below w.heap.size w w1):=by rw[hw1];exact aB _ _
 have ROW1:Hid (w1.heap[w.heap.size]? = some (.cells #[.int .i64 x.at_,.int .i64 x.steps,.slice SA x.sets.length sc,.slice MA x.makes.length mc] 32 (0,0))):=by rw[hw1];exact aJ _ _
 have HW1:=hI hw1
 have L1:=hI (L.below K K1.out)
 obtain⟨r,hr⟩:∃r,dM cJ Γ.t Γ.self Γ.shapes x (to_ - from_) from_ W=r:=⟨_,rfl⟩
 rw[hr]
 have HR:=hI hr
 clear hw1 hr hs hm wa ws EF K L hst hX2 F hxo
 go_enter Tryz.func69,Tryz.ntmps69
 go_upto_region 1 with fail
 rw[←HW1.out]
 go_wp2_with fail
 go_loopw [10] (fun kk wr=>∃(i:Nat) (V:aI),kk=.int .i64 i∧i≤to_∧Hid (dM cJ Γ.t Γ.self Γ.shapes x (to_ - i) i V=r)∧Hid (∃cv vv vs fs,bO Γ wr V cv vv vs fs)∧Hid (Lim Γ.t R.toNat V)∧Hid (V.steps=W.steps)∧Hid (aQ w1 wr)) (fun kk _=>to_ - (RowKit.intOf kk).toNat)
 case atStart=>exact⟨from_,W,rfl,hft,HR.out,⟨_,_,_,_,L1.out⟩,M,rfl,aQ.refl _⟩
 case round=>
  obtain⟨i,V,rfl,hi,HT,HL,HLM,HVS,KW⟩:=hrel
  obtain⟨cv2,vv2,vs2,fs2,L2⟩:=HL.out
  have LV:=hI L2
  clear L2 HL
  by_cases hlt:i<to_
  ·have hii:(i:Int)<to_:=by omega
   have hil:i < Γ.t.ins.length:=by omega
   obtain⟨y,hy⟩:∃y,Γ.t.ins[i]? = some y:=⟨_,lG hil⟩
   obtain⟨D,how,hD⟩:∃D how,doW cJ Γ.t Γ.self Γ.shapes V i=(D,how):=⟨_,_,rfl⟩
   have hins:jE Γ.t i=y:=by unfold jE;rw[Int.toNat_natCast,hy];rfl
   have DC:=do_c HK.out LV.out hy (HF.out.ins i y hy) HLM.out hlen
   rw[hD] at DC
   dsimp only at DC
   have hhow:=adJ cJ Γ.self Γ.shapes V i (jE Γ.t i)
   change (doW cJ Γ.t Γ.self Γ.shapes V i).2=0∨(doW cJ Γ.t Γ.self Γ.shapes V i).2=1∨(doW cJ Γ.t Γ.self Γ.shapes V i).2=2 at hhow
   rw[hD] at hhow
   dsimp only at hhow
   have hLD:=HLM.out.do_ cJ Γ.self Γ.shapes i
   rw[hD] at hLD
   have hDS:=(sA cJ Γ.t Γ.self Γ.shapes V i).steps
   rw[hD] at hDS
   have LD:=hI hLD
   have HDS:Hid (D.steps=W.steps):=by show _=_;rw[show D.steps=V.steps from hDS];exact HVS.out
   have HDC:=hI DC
   have HHOW:=hI hhow
   have HY:=hI hy
   have HINS:=hI hins
   have HDD:=hI hD
   have HT2:Hid ((if how=2 then(D,0,2) else if how=1 then(match Γ.t.exits[y.exit.toNat]? with | none=>(D,y.exit,2) | some e=>((iG D e).1,y.exit,(iG D e).2)) else dM cJ Γ.t Γ.self Γ.shapes x (to_ - (i+1)) (i+1) D)=r):=by
    have h:=HT.out
    rw[show to_ - i=(to_ - (i+1))+1 by omega,dM,hD,hins] at h
    exact h
   clear hy hD hins hLD hDS DC hhow HT
   go_wp2_with fail
   refine HDC.out.mono ?_
   rintro e w3 ⟨rfl,⟨cv3,vv3,vs3,fs3,L3⟩,K3⟩
   have LQ:=hI L3
   have KW3:Hid (aQ w1 w3):=KW.out.trans K3
   clear L3 K3
   rcases HHOW.out with h | h | h
   ·have HN:Hid (dM cJ Γ.t Γ.self Γ.shapes x (to_ - (i+1)) (i+1) D=r):=by
     have h2:=HT2.out
     rw[if_neg (by omega),if_neg (by omega)] at h2
     exact h2
    rw[h]
    clear h
    go_wp2_with fail
    go_roundw
    case rel=>exact⟨i+1,D,by go_num,by omega,HN.out,⟨_,_,_,_,LQ.out⟩,LD.out,HDS.out,KW3.out⟩
    case measure=>simp[RowKit.intOf];omega
   ·have hex:=u0 cJ HXO.out Γ.self Γ.shapes V hil (by rw[HDD.out];exact h)
    rw[HINS.out] at hex
    obtain⟨n,hn⟩:∃n:Nat,y.exit=(n:Int):=⟨y.exit.toNat,by omega⟩
    have hnl:n < Γ.t.exits.length:=by omega
    obtain⟨e,he⟩:∃e,Γ.t.exits[n]? = some e:=⟨_,lG hnl⟩
    have HEE:=hI (HF.out.exits i y e HY.out hex.1 (by rw[hn,Int.toNat_natCast];exact he))
    have HN:Hid (((iG D e).1,(n:Int),(iG D e).2)=r):=by
     have h2:=HT2.out
     rw[if_neg (by omega),if_pos h,hn,Int.toNat_natCast,he] at h2
     exact h2
    obtain⟨b,off,icap,c3,hc,-⟩:=LQ.out.insAt HK.out HY.out
    have c5:w3.cell? ⟨b,off+i*8+5,none⟩=some (.int .i64 n):=by rw[←hn];exact hc 5 _ rfl
    obtain⟨eb,eoff,ecap,ecs,c4,-,hec,hER,heb⟩:=LQ.out.exitAt HK.out he
    have hER1:gF Γ.w1 Γ.B0 ecs e:=hER.keep (Nat.le_refl _) (fun p hp=>(LQ.out.held p (HK.out.q0 _ hp)).symm)
    have EC:=hI (end_c HK.out LQ.out hER1 HEE.out (Nat.le_of_lt hil) LD.out hlen (by rw[HDS.out];exact HST.out))
    obtain⟨esv,emv,rfl,⟨EA,ec1,rfl,-⟩,⟨EM,ec2,rfl,-⟩,-⟩:=hER1
    have e0:w3.cell? ⟨eb,eoff+n*4,none⟩=some (.int .i64 e.at_):=hec 0 _ rfl
    have e1:w3.cell? ⟨eb,eoff+n*4+1,none⟩=some (.int .i64 e.steps):=hec 1 _ rfl
    have e2:w3.cell? ⟨eb,eoff+n*4+2,none⟩=some (.slice EA e.sets.length ec1):=hec 2 _ rfl
    have e3:w3.cell? ⟨eb,eoff+n*4+3,none⟩=some (.slice EM e.makes.length ec2):=hec 3 _ rfl
    have hni:(n:Int) < Γ.t.exits.length:=by omega
    have hili:(i:Int) < Γ.t.ins.length:=by omega
    rw[h]
    clear h hex hn he hc hec hER heb
    go_wp2_with fail
    refine EC.out.mono ?_
    rintro e' w4 ⟨rfl,⟨cv4,vv4,vs4,fs4,L4⟩,K4⟩
    have L44:=hI L4
    have K44:=hI K4
    clear L4 K4 c3 c4 c5 e0 e1 e2 e3
    go_wp2_with fail
    refine bodyPost_ret (v:=.tuple #[.int .i64 n,.int .i64 (iG D e).2]) (by simp[results,Tryz.results69,go_sem]) rfl ?_
    have hN:=HN.out
    subst hN
    exact⟨rfl,⟨_,_,_,_,L44.out⟩,(aQ.of K1.out).trans (KW3.out.trans K44.out)⟩
   ·have HN:Hid ((D,(0:Int),(2:Int))=r):=by
     have h2:=HT2.out
     rw[if_pos h] at h2
     exact h2
    rw[h]
    clear h
    go_wp2_with fail
    refine bodyPost_ret (v:=.tuple #[.int .i64 0,.int .i64 2]) (by simp[results,Tryz.results69,go_sem]) rfl ?_
    have hN:=HN.out
    subst hN
    exact⟨rfl,⟨_,_,_,_,LQ.out⟩,(aQ.of K1.out).trans KW3.out⟩
  ·obtain rfl:i=to_:=by omega
   have hni:¬(i:Int)<i:=by omega
   have HN:Hid (((iG V x).1,(-1:Int),(iG V x).2)=r):=by
    have h:=HT.out
    rw[Nat.sub_self,dM] at h
    exact h
   have ROWR:Hid (wr.heap[w.heap.size]? = some (.cells #[.int .i64 x.at_,.int .i64 x.steps,.slice SA x.sets.length sc,.slice MA x.makes.length mc] 32 (0,0))):=(KW.out.block _ _ _ _ ROW1.out (by decide) (by decide) (by decide) (by decide)).trans ROW1.out
   have e0:=crZ ROWR 0 rfl
   have e1:=crZ ROWR 1 rfl
   have e2:=crZ ROWR 2 rfl
   have e3:=crZ ROWR 3 rfl
   have EC:=hI (end_c HK.out LV.out HX2.out HEF.out hto HLM.out hlen (by rw[HVS.out];exact HST.out))
   clear HT
   go_wp2_with fail
   refine EC.out.mono ?_
   rintro e' w4 ⟨rfl,⟨cv4,vv4,vs4,fs4,L4⟩,K4⟩
   have L44:=hI L4
   have K44:=hI K4
   clear L4 K4 e0 e1 e2 e3
   go_wp2_with fail
   refine bodyPost_ret (v:=.tuple #[.int .i64 (-1),.int .i64 (iG V x).2]) (by simp[results,Tryz.results69,go_sem]) rfl ?_
   have hN:=HN.out
   subst hN
   exact⟨rfl,⟨_,_,_,_,L44.out⟩,(aQ.of K1.out).trans (KW.out.trans K44.out)⟩
end
end
end Go.Proofs.YtjaphgpkkfdaaaaGreatDoor
