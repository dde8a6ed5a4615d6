/- Part of the walk of the given code: contracts of the functions that irun.Run reaches, and plain laws on what it reckons. -/
import Derived.Test.YtjaphgpkkfdaaaaGreatDoorZU
import Derived.Test.YtjaphgpkkfdaaaaGreatDoorZR
set_option maxHeartbeats 16000000
set_option maxRecDepth 100000
set_option linter.all false
namespace Go.Proofs.YtjaphgpkkfdaaaaGreatDoor
section
open Go.RowKit
section
variable {Γ : kI} {w w':World} {W:aI} {cv vv:Value} {vs fs:List Value}
theorem adT {a:Int} {n:Nat} {c:bC} (h:eF W a=some (n,c)):W.cells[n]? = some c:=by
 unfold eF at h
 split at h
 ·obtain⟨d,hd,he⟩:=Option.map_eq_some_iff.1 h
  injection he with h1 h2
  subst h2;rw[←h1];exact hd
 ·cases h
theorem bO.atCell (L:bO Γ w W cv vv vs fs) {a:Int} {n:Nat} {c:bC} (h:eF W a=some (n,c)) :
  ∃gc cc v f vA vc,cv=.slice (some ⟨gc,0,none⟩) W.cells.length cc∧W.cells[n]? = some c∧vs[n]? = some v∧fs[n]? = some f∧v=.slice vA c.vals.length vc∧nZ cv W a=some ⟨gc,n*4,none⟩∧
   w.cell? ⟨gc,n*4,none⟩=some (.int .i64 c.kind)∧w.cell? ⟨gc,n*4+1,none⟩=some (.int .i64 c.num)∧w.cell? ⟨gc,n*4+2,none⟩=some v∧w.cell? ⟨gc,n*4+3,none⟩=some f∧gc<w.heap.size:=by
 have hc:=adT h
 have hn:=(lE hc).1
 obtain⟨gc,cc,rfl,-,hg⟩:=L.crow.form (by omega)
 have hv:vs[n]? = some (vs[n]'(by rw[L.lv];exact hn)):=lG _
 have hf:fs[n]? = some (fs[n]'(by rw[L.lf];exact hn)):=lG _
 have hr:=eP _ _ _ n _ _ _ hc hv hf
 have h4:n*4+4≤W.cells.length*4:=by omega
 have hat:∀k,k<4→w.cell? ⟨gc,n*4+k,none⟩=(bD c _ _)[k]?:=fun k hk=>by
  rw[L.crow.cellAt (n*4+k) (by omega)]
  exact b9 _ n k _ (g8 _ _ _) hr hk
 obtain⟨vA,vc,e⟩:=bV (L.cvals n _ c hv hc)
 refine⟨gc,cc,_,_,vA,vc,rfl,hc,hv,hf,e,?_,hat 0 (by decide),hat 1 (by decide),hat 2 (by decide),hat 3 (by decide),hg⟩
 unfold nZ
 rw[h];rfl
theorem eV {a:Int} (h:eF W a=none):nZ cv W a=none:=by unfold nZ;rw[h];rfl
theorem bO.setCV (L:bO Γ w W cv vv vs fs) (K:hP Γ) {n k:Nat} {c:bC} {v f:Value} {x u:Val} (hc:W.cells[n]? = some c) (hv:vs[n]? = some v) (hf:fs[n]? = some f) (hk:c.vals[k]? = some u) (hx:WfV x) {g m vc:Nat} (hvv:v=.slice (some ⟨g,0,none⟩) m vc) :
  (∃vs' fs',bO Γ (w.setCells g (k*2) (aZ x)) (setCW W n { c with vals:=c.vals.set k x }) cv vv vs' fs')∧aQ w (w.setCells g (k*2) (aZ x)):=by
 subst hvv
 have hcl:=(lE hc).1
 have own:=L.cvals n _ c hv hc
 have hm:=abP own
 subst hm
 have o:cA (fun j=>(Value.slice (some ⟨g,0,none⟩) c.vals.length vc).ownBlock=some j) w (w.setCells g (k*2) (aZ x)):=
  cA.set (T:=fun j=>(Value.slice (some ⟨g,0,none⟩) c.vals.length vc).ownBlock=some j) (cA.set (T:=fun j=>(Value.slice (some ⟨g,0,none⟩) c.vals.length vc).ownBlock=some j) cA.refl rfl _ _) rfl _ _
 have hT:∀j,j<w.heap.size→(Value.slice (some ⟨g,0,none⟩) c.vals.length vc).ownBlock=some j→∃cs,w.heap[j]? = some (.cells cs 48 (0,0)):=fun j _ hj=>aX own hj
 refine⟨⟨vs.set n (.slice (some ⟨g,0,none⟩) c.vals.length vc),fs.set n f,L.putCell K (v':=.slice (some ⟨g,0,none⟩) c.vals.length vc) (f':=f) (c':={ c with vals:=c.vals.set k x }) hv (o.mono fun _ _ h=>.inl h) ?_ ?_ (fun j hj=>.inl hj) (L.cfr n f c hf hc) ?_⟩,aeC o (fun j hj hk=>by obtain⟨cs,h⟩:=hT j hj hk;exact⟨cs,_,h,.inr (.inr (.inr rfl))⟩)⟩
 ·have e:cK (W.cells.set n { c with vals:=c.vals.set k x }) (vs.set n (.slice (some ⟨g,0,none⟩) c.vals.length vc)) (fs.set n f)=cK W.cells vs fs:=by
   rw[←kP _ _ _ n _ _ _ L.lv L.lf]
   have hr:=eP _ _ _ n _ _ _ hc hv hf
   apply List.ext_getElem?
   intro i
   by_cases hi:i=n
   ·subst hi
    rw[dO hr,hr];rfl
   ·rw[List.getElem?_set_ne (fun e=>hi e.symm)]
  rw[e]
  exact fG L.crow (fun j hj=>o.block j (L.crow.lt j hj).2 (fun hk=>by
   obtain⟨cs,h1⟩:=aX L.crow hj
   obtain⟨cs',h2⟩:=aX own hk
   exact bJ h1 h2 (by decide) rfl))
 ·show World.ownsRow _ _ _ 2 _ (c.vals.set k x).length ((c.vals.set k x).flatMap aZ)
  rw[List.length_set]
  exact uP own hk
 ·have hw:=L.wfc c (List.mem_of_getElem? hc)
  refine⟨hw.1,hw.2.1,fun y hy=>?_⟩
  rcases List.mem_or_eq_of_mem_set (show y∈c.vals.set k x from hy) with h | h
  ·exact hw.2.2 y h
  ·rw[h];exact hx
theorem t8 {w:World} {B gc len cc:Nat} {cells:List bC} {vs fs:List Value} {n:Nat} {c:bC} {v f:Value} (h:w.ownsRow B 55 4 (.slice (some ⟨gc,0,none⟩) len cc) len ((cK cells vs fs).flatMap id)) (lv:vs.length=cells.length) (lf:fs.length=cells.length) (hc:cells[n]? = some c) (hv:vs[n]? = some v) (hf:fs[n]? = some f) (v':Value) (l:List Val) :
  (w.setCell ⟨gc,n*4+2,none⟩ v').ownsRow B 55 4 (.slice (some ⟨gc,0,none⟩) len cc) len ((cK (cells.set n { c with vals:=l }) (vs.set n v') (fs.set n f)).flatMap id):=by
 have h1:=(h.stored (n*4+2) v').1
 rw[dT _ n 2 _ _ (g8 _ _ _) (eP _ _ _ n _ _ _ hc hv hf) (by decide)] at h1
 rw[←kP _ _ _ n _ _ _ lv lf]
 exact h1
theorem adK {w:World} {B gc len cc:Nat} {cells:List bC} {vs fs:List Value} {n:Nat} {c:bC} {v f:Value} (h:w.ownsRow B 55 4 (.slice (some ⟨gc,0,none⟩) len cc) len ((cK cells vs fs).flatMap id)) (lv:vs.length=cells.length) (lf:fs.length=cells.length) (hc:cells[n]? = some c) (hv:vs[n]? = some v) (hf:fs[n]? = some f) (v':Value) (l:List Val) (num:Int) :
  ((w.setCell ⟨gc,n*4+1,none⟩ (.int .i64 num)).setCell ⟨gc,n*4+2,none⟩ v').ownsRow B 55 4 (.slice (some ⟨gc,0,none⟩) len cc) len ((cK (cells.set n { c with num:=num,vals:=l }) (vs.set n v') (fs.set n f)).flatMap id):=by
 have h1:=(h.stored (n*4+1) (.int .i64 num)).1
 have hr:=eP _ _ _ n _ _ _ hc hv hf
 rw[dT _ n 1 _ _ (g8 _ _ _) hr (by decide)] at h1
 have h2:=(h1.stored (n*4+2) v').1
 rw[dT _ n 2 _ _ (eU (g8 _ _ _) rfl) (dO hr _) (by decide),List.set_set] at h2
 rw[←kP _ _ _ n _ _ _ lv lf]
 exact h2
theorem xB (K:hP Γ) (L:bO Γ w W cv vv vs fs) {i:Nat} (hi:i<W.vals.length) (hn:W.vals.length≤300) (hl:W.cells.length≤300) (x:bG) (ha:0≤x.a∧x.a<W.vals.length) (hb:x.op=11→0≤x.b∧x.b<W.vals.length) (hxn:x.op≠15→0≤x.n) (hop:x.op=10∨x.op=11∨x.op=15) (hxw:wfi x.n) :
  Calls Tryz.prog 147 #[.pointer (some ⟨Γ.wb,0,none⟩),.int .i64 (i:Int),.agg #[.int .i64 x.op,.int .i64 x.a,.int .i64 x.b,.int .i64 x.c,.int .i64 x.n,.int .i64 x.exit,.int .i64 x.k.kind,.int .i64 x.k.n]] w (sJ Γ (gW W i x).1 (.int .i64 (gW W i x).2) w):=by
 obtain⟨g,cap,hvv,-,hgl⟩:=L.vals.form (by omega)
 obtain⟨ka,hka⟩:∃ka:Nat,x.a=(ka:Int):=⟨x.a.toNat,by omega⟩
 obtain⟨y,hy⟩:∃y,W.vals[ka]? = some y:=⟨_,lG (by omega)⟩
 obtain⟨w1,hw1⟩:∃w1,w1=w.alloc (.cells #[.int .i64 x.op,.int .i64 x.a,.int .i64 x.b,.int .i64 x.c,.int .i64 x.n,.int .i64 x.exit,.int .i64 x.k.kind,.int .i64 x.k.n] 92):=⟨_,rfl⟩
 have K1:Hid (Below w.heap.size w w1):=by rw[hw1];exact aB _ _
 have HB1:Hid (aA w1 w.heap.size [.int .i64 x.op,.int .i64 x.a,.int .i64 x.b,.int .i64 x.c,.int .i64 x.n,.int .i64 x.exit,.int .i64 x.k.kind,.int .i64 x.k.n]):=by rw[hw1];exact ad5 _ _ _
 have HK:=hI K
 have L1:=hI (L.below K K1.out)
 have CC:=hI (nY K L1.out hy hl)
 rw[←hka] at CC
 clear hka
 have HV:=hI hvv
 have HW1:=hI hw1
 have g1:=HB1.out 1 _ rfl
 have hji:(i:Int)<W.vals.length:=by omega
 have HBV:=hI hb
 have HXN:=hI hxn
 have HOP:=hI hop
 have HXW:=hI hxw
 clear hw1 L K hvv hb hxn hop hxw ha
 obtain⟨W',hW'⟩:∃W',(gW W i x).1=W':=⟨_,rfl⟩
 obtain⟨q,hq⟩:∃q,(gW W i x).2=q:=⟨_,rfl⟩
 rw[hW',hq]
 have HW:=hI hW'
 have HQ:=hI hq
 clear hW' hq
 go_enter Tryz.func147,Tryz.ntmps147
 go_wp2_with fail
 rw[←HW1.out]
 refine CC.out.mono ?_
 rintro e w2 ⟨rfl,k2⟩
 have K12:=hI k2
 have K2:=btZ K1 k2
 have L2:=hI (L1.out.below HK.out k2)
 clear k2 g1
 cases hcell:eF W x.a with
 | none=>
  rw[eV hcell]
  have HN:Hid ((W,(2:Int))=(W',q)):=by rw[←HW.out,←HQ.out];unfold gW;rw[hcell];rfl
  go_upto_region 3 with fail
  refine aD (by kernel_rfl) (by kernel_rfl) ?_
  repeat (go_big_quiet_step (fail))
  refine wpQuiet_nil ?_
  rintro _ ⟨E,rfl⟩
  have KE:=btZ K2 E.below
  have LE:=hI (L2.out.below HK.out E.below)
  go_wp2_with fail
  go_ret
  have e1:=congrArg Prod.fst HN.out
  have e2:=congrArg Prod.snd HN.out
  dsimp only at e1 e2
  subst e1;subst e2
  exact⟨rfl,⟨_,_,_,_,LE.out⟩,aQ.of KE.out⟩
 | some p=>
  obtain⟨n,c⟩:=p
  obtain⟨gc,cc,v,f,vA,vc,hcv,hc,hv,hf,hvs,hpt,c0,c1,c2,c3,hgc⟩:=L2.out.atCell hcell
  rw[hpt]
  subst hvs
  have HC:=hI hc
  have HVN:=hI hv
  have HF:=hI hf
  have C2:=hI c2
  have HS:Hid ((if x.op≠15∧(c.vals.length:Int)≤x.n then(W,2) else if x.op=10 then(fS W i (c.vals.getD x.n.toNat ⟨0,0⟩),0) else if x.op=11 then(setCW W n { c with vals:=c.vals.set x.n.toNat (cX W x.b) },0) else(fS W i ⟨2,c.vals.length⟩,0))=(W',q)):=by
   rw[←HW.out,←HQ.out];unfold gW;rw[hcell];show _=_;rfl
  clear hcell c0 c1 c3 hc hv hf hpt HW HQ
  rcases HOP.out with h | h | h
  ·have HOPX:=hI h
   have a0:∀E:Up w2,E.to.cell? ⟨w.heap.size,0,none⟩=some (.int .i64 10):=fun E=>E.cell (aC K12.out (by rw[←h];exact HB1.out 0 _ rfl))
   have a5:=ecZ c2
   clear c2
   by_cases hle:(c.vals.length:Int)≤x.n
   ·have a4:∀E:Up w2,E.to.cell? ⟨w.heap.size,4,none⟩=some (.int .i64 x.n):=fun E=>E.cell (aC K12.out (HB1.out 4 _ rfl))
    have HN:Hid ((W,(2:Int))=(W',q)):=by show _=_;rw[←HS.out,if_pos ⟨by rw[HOPX.out];decide,hle⟩]
    go_upto_region 3 with fail
    refine aD (by kernel_rfl) (by kernel_rfl) ?_
    repeat (go_big_quiet_step (fail))
    refine wpQuiet_nil ?_
    rintro _ ⟨E,rfl⟩
    have KE:=btZ K2 E.below
    have LE:=hI (L2.out.below HK.out E.below)
    have K2E:=hI E.below
    obtain⟨w3,hw3⟩:∃w3,w3=E.to:=⟨_,rfl⟩
    rw[←hw3] at KE LE K2E ⊢
    clear hw3 E a0 a4 a5
    have b0:w3.cell? ⟨w.heap.size,0,none⟩=some (.int .i64 10):=aC (K12.out.trans (K2E.out.mono K12.out.size)) (by rw[←HOPX.out];exact HB1.out 0 _ rfl)
    go_wp2_with fail
    go_ret
    have e1:=congrArg Prod.fst HN.out
    have e2:=congrArg Prod.snd HN.out
    dsimp only at e1 e2
    subst e1;subst e2
    exact⟨rfl,⟨_,_,_,_,LE.out⟩,aQ.of KE.out⟩
   ·have hx0:=HXN.out (by rw[HOPX.out];decide)
    obtain⟨m,hm⟩:∃m:Nat,x.n=(m:Int):=⟨x.n.toNat,by omega⟩
    have HM:=hI hm
    have HS2:=HS.out
    rw[if_neg (fun h=>hle h.2),hm,Int.toNat_natCast] at HS2
    have HSS:=hI HS2
    have hml:m<c.vals.length:=by omega
    clear HS2 hle hm hx0
    have hmi:(m:Int)<c.vals.length:=by omega
    have hmn:¬c.vals.length≤m:=by omega
    obtain⟨y2,hy2⟩:∃y2,c.vals[m]? = some y2:=⟨_,lG hml⟩
    have HY2:=hI hy2
    clear hy2
    have a4:∀E:Up w2,E.to.cell? ⟨w.heap.size,4,none⟩=some (.int .i64 m):=fun E=>E.cell (by rw[←HM.out];exact aC K12.out (HB1.out 4 _ rfl))
    go_upto_region 3 with fail
    refine aD (by kernel_rfl) (by kernel_rfl) ?_
    repeat (go_big_quiet_step (fail))
    refine wpQuiet_nil ?_
    rintro _ ⟨E,rfl⟩
    have KE:=btZ K2 E.below
    have LE:=hI (L2.out.below HK.out E.below)
    have K2E:=hI E.below
    obtain⟨w3,hw3⟩:∃w3,w3=E.to:=⟨_,rfl⟩
    rw[←hw3] at KE LE K2E ⊢
    clear hw3 E a0 a4 a5
    have b0:w3.cell? ⟨w.heap.size,0,none⟩=some (.int .i64 10):=aC (K12.out.trans (K2E.out.mono K12.out.size)) (by rw[←HOPX.out];exact HB1.out 0 _ rfl)
    obtain⟨gv,vcap,hvA,-,hgv⟩:=(LE.out.cvals n _ c HVN.out HC.out).form (Nat.zero_lt_of_lt hml)
    injection hvA with hvA _ _
    subst hvA
    have OV:=hI (LE.out.cvals n _ c HVN.out HC.out)
    have HN:Hid ((fS W i y2,(0:Int))=(W',q)):=by
     show _=_
     rw[←HSS.out,if_pos HOPX.out,List.getD_eq_getElem?_getD,HY2.out];rfl
    have v0:w3.cell? ⟨gv,m*2,none⟩=some (.int .i64 y2.kind):=by rw[OV.out.cellAt (m*2) (by omega)];exact bS HY2.out (k:=0) (by decide)
    have v1:w3.cell? ⟨gv,m*2+1,none⟩=some (.int .i64 y2.n):=by rw[OV.out.cellAt (m*2+1) (by omega)];exact bS HY2.out (k:=1) (by decide)
    go_upto_region 6 with fail
    have d0:∀E:Up w3,E.to.cell? ⟨Γ.wb,17,none⟩=some (.slice (some ⟨g,0,none⟩) W.vals.length cap):=fun E=>E.cell (by have h:=LE.out.own HK.out 4;rw[HV.out] at h;exact h)
    have d1:∀E:Up w3,E.to.cell? ⟨gc,n*4+2,none⟩=some (.slice (some ⟨gv,0,none⟩) c.vals.length vc):=fun E=>E.cell (aC K2E.out C2.out)
    have d2:∀E:Up w3,E.to.cell? ⟨w.heap.size,4,none⟩=some (.int .i64 m):=fun E=>E.cell (by rw[←HM.out];exact aC (K12.out.trans (K2E.out.mono K12.out.size)) (HB1.out 4 _ rfl))
    have d3:∀E:Up w3,E.to.cell? ⟨gv,m*2,none⟩=some (.int .i64 y2.kind):=fun E=>E.cell (v0)
    have d4:∀E:Up w3,E.to.cell? ⟨gv,m*2+1,none⟩=some (.int .i64 y2.n):=fun E=>E.cell (v1)
    refine aL 13 (by kernel_rfl) (by kernel_rfl) ?_
    simp only[List.take_succ_cons,List.take_zero]
    repeat (go_big_quiet_step (fail))
    refine wpQuiet_nil ?_
    intro w' hE
    obtain⟨E,rfl⟩:=hE
    obtain⟨wy,ky⟩:=E
    dsimp only
    have LY:=hI (LE.out.below HK.out ky)
    have KY:=btZ KE ky
    clear ky b0 d0 d1 d2 d3 d4
    have TH:Hid (wy.there g (i*2) 2):=by
     have:=LY.out.vals
     rw[HV.out] at this
     exact dZ this (by omega)
    obtain⟨u,hu⟩:∃u,W.vals[i]? = some u:=⟨_,lG hi⟩
    have hwy:WfV y2:=(LE.out.wfc c (List.mem_of_getElem? HC.out)).2.2 y2 (List.mem_of_getElem? HY2.out)
    have S9:Hid (bO Γ (wy.setCells g (i*2) [.int .i64 y2.kind,.int .i64 y2.n]) (fS W i y2) cv vv vs fs∧aQ wy (wy.setCells g (i*2) [.int .i64 y2.kind,.int .i64 y2.n])):=LY.out.setVal HK.out hu hwy HV.out
    clear hu hwy v0 v1
    simp only[List.drop_succ_cons,List.drop_zero]
    go_upto_region 9 with (first | (refine wpList_store_mid rfl 48 _ _ rfl g (i*2) #[.int .i64 y2.kind,.int .i64 y2.n] rfl rfl TH.out aF (all_oneCell_toArray (by simp[Value.oneCell'])) ?_) | fail)
    generalize hw9:World.setCells _ _ _ _=w9
    rw[hw9] at S9
    clear hw9
    (try dsimp only [Act.put])
    go_wp2_with fail
    go_ret
    have e1:=congrArg Prod.fst HN.out
    have e2:=congrArg Prod.snd HN.out
    dsimp only at e1 e2
    subst e1;subst e2
    exact⟨rfl,⟨_,_,_,_,S9.out.1⟩,(aQ.of KY.out).trans S9.out.2⟩
  ·have HOPX:=hI h
   have a0:∀E:Up w2,E.to.cell? ⟨w.heap.size,0,none⟩=some (.int .i64 11):=fun E=>E.cell (aC K12.out (by rw[←h];exact HB1.out 0 _ rfl))
   have a5:=ecZ c2
   clear c2
   by_cases hle:(c.vals.length:Int)≤x.n
   ·have a4:∀E:Up w2,E.to.cell? ⟨w.heap.size,4,none⟩=some (.int .i64 x.n):=fun E=>E.cell (aC K12.out (HB1.out 4 _ rfl))
    have HN:Hid ((W,(2:Int))=(W',q)):=by show _=_;rw[←HS.out,if_pos ⟨by rw[HOPX.out];decide,hle⟩]
    go_upto_region 3 with fail
    refine aD (by kernel_rfl) (by kernel_rfl) ?_
    repeat (go_big_quiet_step (fail))
    refine wpQuiet_nil ?_
    rintro _ ⟨E,rfl⟩
    have KE:=btZ K2 E.below
    have LE:=hI (L2.out.below HK.out E.below)
    have K2E:=hI E.below
    obtain⟨w3,hw3⟩:∃w3,w3=E.to:=⟨_,rfl⟩
    rw[←hw3] at KE LE K2E ⊢
    clear hw3 E a0 a4 a5
    have b0:w3.cell? ⟨w.heap.size,0,none⟩=some (.int .i64 11):=aC (K12.out.trans (K2E.out.mono K12.out.size)) (by rw[←HOPX.out];exact HB1.out 0 _ rfl)
    go_wp2_with fail
    go_ret
    have e1:=congrArg Prod.fst HN.out
    have e2:=congrArg Prod.snd HN.out
    dsimp only at e1 e2
    subst e1;subst e2
    exact⟨rfl,⟨_,_,_,_,LE.out⟩,aQ.of KE.out⟩
   ·obtain⟨hb0,hb1⟩:=HBV.out h
    obtain⟨kb,hkb⟩:∃kb:Nat,x.b=(kb:Int):=⟨x.b.toNat,by omega⟩
    have hkl:kb<W.vals.length:=by omega
    have hki:(kb:Int)<W.vals.length:=by omega
    obtain⟨y3,hy3⟩:∃y3,W.vals[kb]? = some y3:=⟨_,lG hkl⟩
    have HKB:=hI hkb
    have HY3:=hI hy3
    clear hb0 hb1 hkb hy3
    have hx0:=HXN.out (by rw[HOPX.out];decide)
    obtain⟨m,hm⟩:∃m:Nat,x.n=(m:Int):=⟨x.n.toNat,by omega⟩
    have HM:=hI hm
    have HS2:=HS.out
    rw[if_neg (fun h=>hle h.2),hm,Int.toNat_natCast] at HS2
    have HSS:=hI HS2
    have hml:m<c.vals.length:=by omega
    clear HS2 hle hm hx0
    have hmi:(m:Int)<c.vals.length:=by omega
    have hmn:¬c.vals.length≤m:=by omega
    obtain⟨y2,hy2⟩:∃y2,c.vals[m]? = some y2:=⟨_,lG hml⟩
    have HY2:=hI hy2
    clear hy2
    have a4:∀E:Up w2,E.to.cell? ⟨w.heap.size,4,none⟩=some (.int .i64 m):=fun E=>E.cell (by rw[←HM.out];exact aC K12.out (HB1.out 4 _ rfl))
    go_upto_region 3 with fail
    refine aD (by kernel_rfl) (by kernel_rfl) ?_
    repeat (go_big_quiet_step (fail))
    refine wpQuiet_nil ?_
    rintro _ ⟨E,rfl⟩
    have KE:=btZ K2 E.below
    have LE:=hI (L2.out.below HK.out E.below)
    have K2E:=hI E.below
    obtain⟨w3,hw3⟩:∃w3,w3=E.to:=⟨_,rfl⟩
    rw[←hw3] at KE LE K2E ⊢
    clear hw3 E a0 a4 a5
    have b0:w3.cell? ⟨w.heap.size,0,none⟩=some (.int .i64 11):=aC (K12.out.trans (K2E.out.mono K12.out.size)) (by rw[←HOPX.out];exact HB1.out 0 _ rfl)
    obtain⟨gv,vcap,hvA,-,hgv⟩:=(LE.out.cvals n _ c HVN.out HC.out).form (Nat.zero_lt_of_lt hml)
    injection hvA with hvA _ _
    subst hvA
    have OV:=hI (LE.out.cvals n _ c HVN.out HC.out)
    have HN:Hid ((setCW W n { c with vals:=c.vals.set m y3 },(0:Int))=(W',q)):=by
     show _=_
     rw[←HSS.out,if_neg (by rw[HOPX.out];decide),if_pos HOPX.out,HKB.out,fR HY3.out]
    have OW:=hI (LE.out.vals)
    rw[HV.out] at OW
    have v0:w3.cell? ⟨g,kb*2,none⟩=some (.int .i64 y3.kind):=by rw[OW.out.cellAt (kb*2) (by omega)];exact bS HY3.out (k:=0) (by decide)
    have v1:w3.cell? ⟨g,kb*2+1,none⟩=some (.int .i64 y3.n):=by rw[OW.out.cellAt (kb*2+1) (by omega)];exact bS HY3.out (k:=1) (by decide)
    go_upto_region 8 with fail
    have d0:∀E:Up w3,E.to.cell? ⟨Γ.wb,17,none⟩=some (.slice (some ⟨g,0,none⟩) W.vals.length cap):=fun E=>E.cell (by have h:=LE.out.own HK.out 4;rw[HV.out] at h;exact h)
    have d1:∀E:Up w3,E.to.cell? ⟨gc,n*4+2,none⟩=some (.slice (some ⟨gv,0,none⟩) c.vals.length vc):=fun E=>E.cell (aC K2E.out C2.out)
    have d2:∀E:Up w3,E.to.cell? ⟨w.heap.size,4,none⟩=some (.int .i64 m):=fun E=>E.cell (by rw[←HM.out];exact aC (K12.out.trans (K2E.out.mono K12.out.size)) (HB1.out 4 _ rfl))
    have d3:∀E:Up w3,E.to.cell? ⟨w.heap.size,2,none⟩=some (.int .i64 kb):=fun E=>E.cell (by rw[←HKB.out];exact aC (K12.out.trans (K2E.out.mono K12.out.size)) (HB1.out 2 _ rfl))
    have d4:∀E:Up w3,E.to.cell? ⟨g,kb*2,none⟩=some (.int .i64 y3.kind):=fun E=>E.cell (v0)
    have d5:∀E:Up w3,E.to.cell? ⟨g,kb*2+1,none⟩=some (.int .i64 y3.n):=fun E=>E.cell (v1)
    refine aL 14 (by kernel_rfl) (by kernel_rfl) ?_
    simp only[List.take_succ_cons,List.take_zero]
    repeat (go_big_quiet_step (fail))
    refine wpQuiet_nil ?_
    intro w' hE
    obtain⟨E,rfl⟩:=hE
    obtain⟨wy,ky⟩:=E
    dsimp only
    have LY:=hI (LE.out.below HK.out ky)
    have KY:=btZ KE ky
    clear ky b0 d0 d1 d2 d3 d4 d5
    have TH:Hid (wy.there gv (m*2) 2):=dZ (LY.out.cvals n _ c HVN.out HC.out) (by omega)
    have hwy:WfV y3:=LE.out.wfv y3 (List.mem_of_getElem? HY3.out)
    have S9:Hid ((∃vs' fs',bO Γ (wy.setCells gv (m*2) [.int .i64 y3.kind,.int .i64 y3.n]) (setCW W n { c with vals:=c.vals.set m y3 }) cv vv vs' fs')∧aQ wy (wy.setCells gv (m*2) [.int .i64 y3.kind,.int .i64 y3.n])):=LY.out.setCV HK.out HC.out HVN.out HF.out HY2.out hwy rfl
    clear hwy v0 v1
    simp only[List.drop_succ_cons,List.drop_zero]
    go_upto_region 9 with (first | (refine wpList_store_mid rfl 48 _ _ rfl gv (m*2) #[.int .i64 y3.kind,.int .i64 y3.n] rfl rfl TH.out aF (all_oneCell_toArray (by simp[Value.oneCell'])) ?_) | fail)
    generalize hw9:World.setCells _ _ _ _=w9
    rw[hw9] at S9
    clear hw9
    (try dsimp only [Act.put])
    go_wp2_with fail
    go_ret
    have e1:=congrArg Prod.fst HN.out
    have e2:=congrArg Prod.snd HN.out
    dsimp only at e1 e2
    subst e1;subst e2
    obtain⟨⟨vs',fs',l9⟩,k9⟩:=S9.out
    exact⟨rfl,⟨_,_,_,_,l9⟩,(aQ.of KY.out).trans k9⟩
  ·have HOPX:=hI h
   have a0:∀E:Up w2,E.to.cell? ⟨w.heap.size,0,none⟩=some (.int .i64 15):=fun E=>E.cell (aC K12.out (by rw[←h];exact HB1.out 0 _ rfl))
   have a5:=ecZ c2
   clear c2
   have a4:∀E:Up w2,E.to.cell? ⟨w.heap.size,4,none⟩=some (.int .i64 x.n):=fun E=>E.cell (aC K12.out (HB1.out 4 _ rfl))
   go_upto_region 3 with fail
   refine aD (by kernel_rfl) (by kernel_rfl) ?_
   repeat (go_big_quiet_step (fail))
   refine wpQuiet_nil ?_
   rintro _ ⟨E,rfl⟩
   have KE:=btZ K2 E.below
   have LE:=hI (L2.out.below HK.out E.below)
   have K2E:=hI E.below
   obtain⟨w3,hw3⟩:∃w3,w3=E.to:=⟨_,rfl⟩
   rw[←hw3] at KE LE K2E ⊢
   clear hw3 E a0 a4 a5
   have b0:w3.cell? ⟨w.heap.size,0,none⟩=some (.int .i64 15):=aC (K12.out.trans (K2E.out.mono K12.out.size)) (by rw[←HOPX.out];exact HB1.out 0 _ rfl)
   have HN:Hid ((fS W i ⟨2,(c.vals.length:Int)⟩,(0:Int))=(W',q)):=by
    show _=_
    rw[←HS.out,if_neg (fun h=>h.1 HOPX.out),if_neg (by rw[HOPX.out];decide),if_neg (by rw[HOPX.out];decide)]
   go_upto_region 2 with fail
   have d0:∀E:Up w3,E.to.cell? ⟨Γ.wb,17,none⟩=some (.slice (some ⟨g,0,none⟩) W.vals.length cap):=fun E=>E.cell (by have h:=LE.out.own HK.out 4;rw[HV.out] at h;exact h)
   have d1:∀E:Up w3,E.to.cell? ⟨gc,n*4+2,none⟩=some (.slice vA c.vals.length vc):=fun E=>E.cell (aC K2E.out C2.out)
   refine aL 11 (by kernel_rfl) (by kernel_rfl) ?_
   simp only[List.take_succ_cons,List.take_zero]
   repeat (go_big_quiet_step (fail))
   refine wpQuiet_nil ?_
   intro w' hE
   obtain⟨E,rfl⟩:=hE
   obtain⟨wy,ky⟩:=E
   dsimp only
   have LY:=hI (LE.out.below HK.out ky)
   have KY:=btZ KE ky
   clear ky b0 d0 d1
   have TH:Hid (wy.there g (i*2) 2):=by
    have:=LY.out.vals
    rw[HV.out] at this
    exact dZ this (by omega)
   obtain⟨u,hu⟩:∃u,W.vals[i]? = some u:=⟨_,lG hi⟩
   have hcl:c.vals.length≤maxLen:=by
    rcases (LY.out.cvals n _ c HVN.out HC.out).2 with ⟨e,h0⟩ | ⟨g',cap',cur,e,h1,h2,h3,h4,h5⟩
    ·rw[h0];exact Nat.zero_le _
    ·omega
   have hwy:WfV ⟨2,(c.vals.length:Int)⟩:=by unfold maxLen at hcl;unfold WfV wfi;constructor <;> (constructor <;> simp <;> omega)
   have S9:Hid (bO Γ (wy.setCells g (i*2) [.int .i64 2,.int .i64 (c.vals.length:Int)]) (fS W i ⟨2,(c.vals.length:Int)⟩) cv vv vs fs∧aQ wy (wy.setCells g (i*2) [.int .i64 2,.int .i64 (c.vals.length:Int)])):=LY.out.setVal HK.out hu hwy HV.out
   clear hu hwy hcl
   simp only[List.drop_succ_cons,List.drop_zero]
   go_upto_region 9 with (first | (refine wpList_store_mid rfl 48 _ _ rfl g (i*2) #[.int .i64 2,.int .i64 (c.vals.length:Int)] rfl rfl TH.out aF (all_oneCell_toArray (by simp[Value.oneCell'])) ?_) | fail)
   generalize hw9:World.setCells _ _ _ _=w9
   rw[hw9] at S9
   clear hw9
   (try dsimp only [Act.put])
   go_wp2_with fail
   go_ret
   have e1:=congrArg Prod.fst HN.out
   have e2:=congrArg Prod.snd HN.out
   dsimp only at e1 e2
   subst e1;subst e2
   exact⟨rfl,⟨_,_,_,_,S9.out.1⟩,(aQ.of KY.out).trans S9.out.2⟩
end
end
section
open Go.RowKit
def eG (W:aI) (a:Int) (y:Val) (m how:Int):Prop:=
 match eF W a with
 | none=>how=2
 | some (_,c)=>if c.kind≠2 then how=2 else if ¬(y.kind=2∧0≤y.n∧y.n<c.vals.length) then how=1 else how=0∧m=y.n
theorem gB {W:aI} {a:Int} {y:Val} {m how:Int} {n:Nat} {c:bC} (h:eF W a=some (n,c)) (hs:if c.kind≠2 then how=2 else if ¬(y.kind=2∧0≤y.n∧y.n<c.vals.length) then how=1 else how=0∧m=y.n):eG W a y m how:=by
 unfold eG;rw[h];exact hs
section
variable {Γ : kI} {w w':World} {W:aI} {cv vv:Value} {vs fs:List Value}
theorem acS (K:hP Γ) (L:bO Γ w W cv vv vs fs) {i:Nat} {y:Val} (hy:W.vals[i]? = some y) (hn:W.vals.length≤300) (a:Int) :
  Calls Tryz.prog 150 #[.pointer (some ⟨Γ.wb,0,none⟩),.pointer (nZ cv W a),.int .i64 (i:Int)] w fun e w'=>∃m how,e=.returned (.tuple #[.int .i64 m,.int .i64 how])∧Below w.heap.size w w'∧eG W a y m how:=by
 have hi:i<W.vals.length:=(lE hy).1
 have hji:(i:Int)<W.vals.length:=by omega
 cases hcell:eF W a with
 | none=>
  rw[eV hcell]
  have HN:Hid (∀m,eG W a y m 2):=fun m=>by unfold eG;rw[hcell]
  go_enter Tryz.func150,Tryz.ntmps150
  go_wp2_with fail
  refine bodyPost_ret (v:=.tuple #[.int .i64 0,.int .i64 2]) (by simp[results,Tryz.results150,go_sem]) rfl ⟨_,_,rfl,Below.refl _ _,HN.out _⟩
 | some p=>
  obtain⟨n,c⟩:=p
  obtain⟨gc,cc,v,f,vA,vc,hcv,hc,hv,hf,hvs,hpt,c0,c1,c2,c3,hgc⟩:=L.atCell hcell
  rw[hpt]
  subst hvs
  have HCE:=hI hcell
  clear hcell c1 c3 hc hv hf hpt hcv
  by_cases h2:c.kind=2
  ·obtain⟨g,cap,hvv,-,hgl⟩:=L.vals.form (by omega)
   have s17:w.cell? ⟨Γ.wb,17,none⟩=some (.slice (some ⟨g,0,none⟩) W.vals.length cap):=by rw[←hvv];exact L.own K 4
   have OW:=hI L.vals
   rw[hvv] at OW
   have g0:w.cell? ⟨g,i*2,none⟩=some (.int .i64 y.kind):=by rw[OW.out.cellAt (i*2) (by omega)];exact bS hy (k:=0) (by decide)
   have g1:w.cell? ⟨g,i*2+1,none⟩=some (.int .i64 y.n):=by rw[OW.out.cellAt (i*2+1) (by omega)];exact bS hy (k:=1) (by decide)
   obtain⟨w1,hw1⟩:∃w1,w1=w.alloc (.cells #[.int .i64 y.kind,.int .i64 y.n] 48):=⟨_,rfl⟩
   have K1:Hid (Below w.heap.size w w1):=by rw[hw1];exact aB _ _
   have HB1:Hid (aA w1 w.heap.size [.int .i64 y.kind,.int .i64 y.n]):=by rw[hw1];exact ad5 _ _ _
   have HW1:=hI hw1
   rw[h2] at c0
   have H2:=hI h2
   clear hw1 h2 L K hvv hy
   go_enter Tryz.func150,Tryz.ntmps150
   by_cases hk:y.kind=2
   ·have HKD:=hI hk
    clear hk
    by_cases hn0:0≤y.n
    ·obtain⟨m,hm⟩:∃m:Nat,y.n=(m:Int):=⟨y.n.toNat,by omega⟩
     have HM:=hI hm
     by_cases hlt:y.n<c.vals.length
     ·have HN:Hid (eG W a y m 0):=gB HCE.out (by rw[if_neg (fun h=>h H2.out),if_neg (fun h=>h ⟨HKD.out,hn0,hlt⟩)];exact⟨rfl,hm.symm⟩)
      have hmn:m<c.vals.length:=by omega
      clear hm hn0 hlt
      have a0:∀E:Up w1,E.to.cell? ⟨w.heap.size,0,none⟩=some (.int .i64 2):=fun E=>E.cell (by rw[←HKD.out];exact HB1.out 0 _ rfl)
      have a1:∀E:Up w1,E.to.cell? ⟨w.heap.size,1,none⟩=some (.int .i64 m):=fun E=>E.cell (by rw[←HM.out];exact HB1.out 1 _ rfl)
      have a2:∀E:Up w1,E.to.cell? ⟨gc,n*4+2,none⟩=some (.slice vA c.vals.length vc):=fun E=>E.cell (aC K1.out c2)
      have his:∀(b:Bool) (W1:World),Calls Tryz.prog 142 #[.bool b,.int .i64 1] W1 fun e w'=>e=.returned (.int .i64 (isW b 1))∧W1=w':=fun b W1=>uV b 1 W1
      have HIS:=hI his
      clear his c2
      go_upto_region 4 with fail
      rw[←HW1.out]
      clear c0
      refine aL 21 (by kernel_rfl) (by kernel_rfl) ?_
      simp only[List.take_succ_cons,List.take_zero]
      repeat (go_big_quiet_step ((go_at_call 142;with_reducible exact ad6 (HIS.out _ _))))
      refine wpQuiet_nil ?_
      intro w' hE
      obtain⟨E,rfl⟩:=hE
      have KE:=btZ K1 E.below
      clear a0 a1 a2
      simp only[List.drop_succ_cons,List.drop_zero]
      go_wp2_with fail
      refine bodyPost_ret (v:=.tuple #[.int .i64 m,.int .i64 0]) (by simp[results,Tryz.results150,go_sem,isW]) rfl ⟨_,_,rfl,KE.out,HN.out⟩
     ·have HN:Hid (eG W a y m 1):=gB HCE.out (by rw[if_neg (fun h=>h H2.out),if_pos (fun h=>hlt h.2.2)])
      have hmn:¬m<c.vals.length:=by omega
      clear hm hn0 hlt
      have a0:∀E:Up w1,E.to.cell? ⟨w.heap.size,0,none⟩=some (.int .i64 2):=fun E=>E.cell (by rw[←HKD.out];exact HB1.out 0 _ rfl)
      have a1:∀E:Up w1,E.to.cell? ⟨w.heap.size,1,none⟩=some (.int .i64 m):=fun E=>E.cell (by rw[←HM.out];exact HB1.out 1 _ rfl)
      have a2:∀E:Up w1,E.to.cell? ⟨gc,n*4+2,none⟩=some (.slice vA c.vals.length vc):=fun E=>E.cell (aC K1.out c2)
      have his:∀(b:Bool) (W1:World),Calls Tryz.prog 142 #[.bool b,.int .i64 1] W1 fun e w'=>e=.returned (.int .i64 (isW b 1))∧W1=w':=fun b W1=>uV b 1 W1
      have HIS:=hI his
      clear his c2
      go_upto_region 4 with fail
      rw[←HW1.out]
      clear c0
      refine aL 21 (by kernel_rfl) (by kernel_rfl) ?_
      simp only[List.take_succ_cons,List.take_zero]
      repeat (go_big_quiet_step ((go_at_call 142;with_reducible exact ad6 (HIS.out _ _))))
      refine wpQuiet_nil ?_
      intro w' hE
      obtain⟨E,rfl⟩:=hE
      have KE:=btZ K1 E.below
      clear a0 a1 a2
      simp only[List.drop_succ_cons,List.drop_zero]
      go_wp2_with fail
      refine bodyPost_ret (v:=.tuple #[.int .i64 m,.int .i64 1]) (by simp[results,Tryz.results150,go_sem,isW]) rfl ⟨_,_,rfl,KE.out,HN.out⟩
    ·have HN:Hid (∀m,eG W a y m 1):=fun m=>gB HCE.out (by rw[if_neg (fun h=>h H2.out),if_pos (fun h=>hn0 h.2.1)])
     have a0:∀E:Up w1,E.to.cell? ⟨w.heap.size,0,none⟩=some (.int .i64 2):=fun E=>E.cell (by rw[←HKD.out];exact HB1.out 0 _ rfl)
     have a1:=ecZ (HB1.out 1 _ rfl)
     have a2:∀E:Up w1,E.to.cell? ⟨gc,n*4+2,none⟩=some (.slice vA c.vals.length vc):=fun E=>E.cell (aC K1.out c2)
     have his:∀(b:Bool) (W1:World),Calls Tryz.prog 142 #[.bool b,.int .i64 1] W1 fun e w'=>e=.returned (.int .i64 (isW b 1))∧W1=w':=fun b W1=>uV b 1 W1
     have HIS:=hI his
     clear his c2
     go_upto_region 4 with fail
     rw[←HW1.out]
     clear c0
     refine aL 21 (by kernel_rfl) (by kernel_rfl) ?_
     simp only[List.take_succ_cons,List.take_zero]
     repeat (go_big_quiet_step ((go_at_call 142;with_reducible exact ad6 (HIS.out _ _))))
     refine wpQuiet_nil ?_
     intro w' hE
     obtain⟨E,rfl⟩:=hE
     have KE:=btZ K1 E.below
     clear a0 a1 a2
     simp only[List.drop_succ_cons,List.drop_zero]
     go_wp2_with fail
     refine bodyPost_ret (v:=.tuple #[.int .i64 y.n,.int .i64 1]) (by simp[results,Tryz.results150,go_sem,isW]) rfl ⟨_,_,rfl,KE.out,HN.out _⟩
   ·have HN:Hid (∀m,eG W a y m 1):=fun m=>gB HCE.out (by rw[if_neg (fun h=>h H2.out),if_pos (fun h=>hk h.1)])
    have hkb:(y.kind == 2)=false:=by simpa using hk
    have a0:=ecZ (HB1.out 0 _ rfl)
    have a1:=ecZ (HB1.out 1 _ rfl)
    have a2:∀E:Up w1,E.to.cell? ⟨gc,n*4+2,none⟩=some (.slice vA c.vals.length vc):=fun E=>E.cell (aC K1.out c2)
    have his:∀(b:Bool) (W1:World),Calls Tryz.prog 142 #[.bool b,.int .i64 1] W1 fun e w'=>e=.returned (.int .i64 (isW b 1))∧W1=w':=fun b W1=>uV b 1 W1
    have HIS:=hI his
    clear his c2
    go_upto_region 4 with fail
    rw[←HW1.out]
    clear c0
    refine aL 21 (by kernel_rfl) (by kernel_rfl) ?_
    simp only[List.take_succ_cons,List.take_zero]
    repeat (go_big_quiet_step ((go_at_call 142;with_reducible exact ad6 (HIS.out _ _))))
    refine wpQuiet_nil ?_
    intro w' hE
    obtain⟨E,rfl⟩:=hE
    have KE:=btZ K1 E.below
    clear a0 a1 a2
    simp only[List.drop_succ_cons,List.drop_zero]
    go_wp2_with fail
    refine bodyPost_ret (v:=.tuple #[.int .i64 y.n,.int .i64 1]) (by simp[results,Tryz.results150,go_sem,isW]) rfl ⟨_,_,rfl,KE.out,HN.out _⟩
  ·have HN:Hid (∀m,eG W a y m 2):=fun m=>gB HCE.out (by rw[if_pos h2])
   have hb2:(c.kind != 2)=true:=by simpa using h2
   go_enter Tryz.func150,Tryz.ntmps150
   go_wp2_with fail
   refine bodyPost_ret (v:=.tuple #[.int .i64 0,.int .i64 2]) (by simp[results,Tryz.results150,go_sem]) rfl ⟨_,_,rfl,Below.refl _ _,HN.out _⟩
end
end
section
open Go.RowKit
section
variable {P:Program} {ops:Array Oper} {md:Region.Mode} {C:World→Prop} {Q:Exit→Act→World→Prop}
def zO (md:Region.Mode) (ops:Array Oper) (listed:Array Bool):Bool:=(List.range ops.size).all fun j=>!listed.getD j false || (match ops[j]? with | none=>true | some o=>o.after.all fun e=>!Region.binds md e || listed.getD e.on false)
theorem vB {listed:Array Bool} (h:zO md ops listed=true):gL md ops listed:=by
 intro j oj hj hl e he hb
 have h1:=List.all_eq_true.1 h j (List.mem_range.2 (aE hj).1)
 rw[hl,hj] at h1
 simp only[Bool.not_true,Bool.false_or] at h1
 have h2:=Array.all_eq_true'.1 h1 e he
 rw[hb] at h2
 simpa using h2
def adM (md:Region.Mode) (ops:Array Oper) (F:Nat→Bool) (listed last:Array Bool) (qs:List Nat):Bool:=
 Region.noSelect ops && zO md ops listed && v7 md ops F ops.size qs && qs.all F && pF md ops last qs listed
theorem fJ {F:Nat→Bool} {f:Nat} {listed:Array Bool} {a:Act} {w:World} (qs:List Nat) (m:Nat) (last:Array Bool) (lq:List Oper) (hB:adM md ops F listed last qs=true) (hf:f=qs.length+m) (hq:qs.filterMap (ops[·]?)=lq)
  (hQ:∀(c:_) (a:Act) (d:Option Tmp) (v:Value) (w:World),Q (.panic c) (a.put d v) w→Q (.panic c) a w) (hw:C w)
  (h:wpQuiet P ops C (fun a'=>cN P md ops C F Q m last a' w) lq a):cN P md ops C F Q f listed a w:=by
 subst hf hq
 simp only[adM,Bool.and_eq_true] at hB
 obtain⟨⟨⟨⟨h1,h2⟩,h3⟩,h4⟩,h5⟩:=hB
 refine kT (qs0:=qs) h1 hQ (fun listed i j hi hc hu hj=>?_) hw qs listed a (fun _ h=>h) (vB h2) h5 h
 by_cases hjq:j∈qs
 ·exact List.all_eq_true.1 h4 j hjq
 ·exact mQ h3 hc hi hu hj hjq
end
end
end Go.Proofs.YtjaphgpkkfdaaaaGreatDoor
