/- Part of the walk of the given code: contracts of the functions that irun.Run reaches, and plain laws on what it reckons. -/
import Derived.Test.YtjaphgpkkfdaaaaGreatDoorZE
import Derived.Laws.MakeOwn
import Derived.Lib.Builder
import Derived.Deep.LoopGhost
set_option maxHeartbeats 16000000
set_option maxRecDepth 100000
set_option linter.all false
namespace Go.Proofs.YtjaphgpkkfdaaaaGreatDoor
section
open Go.RowKit
theorem ac3:(Tryz.prog.info? 4).map (fun i=>(i.zero,i.size,i.bytes))=some (some (.bool false),1,1):=by kernel_rfl
theorem aa6:(Tryz.prog.info? 59).map (fun i=>(i.zero,i.size,i.bytes))=some (some (.slice none 0 0),1,24):=by kernel_rfl
theorem nE (z:Value) (n:Nat):madeCells #[z] n=⟨List.replicate n z⟩:=by
 apply Array.toList_inj.1
 apply List.ext_getElem
 ·simp[madeCells]
 ·intro i h1 h2
  simp[madeCells,Nat.mod_one]
theorem acM (n:Nat) (hn:n≤600) (W:World):(Instr.makeSlice 171 (.int .i64 (n:Int)) (.int .i64 (n:Int))).run Tryz.prog W=.ok (.slice (some ⟨W.heap.size,0,none⟩) n n) (W.alloc (.cells ⟨List.replicate n (.bool false)⟩ 4)):=by
 obtain⟨i0,hi,hz0,hz1,hz2⟩:=info_parts ac3
 have h:=run_make (P:=Tryz.prog) W 171 4 i0 (.bool false) Tryz.underlying171 hi hz0 .i64 .i64 n n (by omega) (Int.le_refl _) (by rw[hz2];omega) (by omega)
 rw[Int.toNat_natCast,hz1,Nat.mul_one] at h
 rw[h,show(Value.bool false).cells=#[.bool false] from rfl,nE]
theorem acL (n:Nat) (hn:n≤600) (W:World):(Instr.makeSlice 170 (.int .i64 (n:Int)) (.int .i64 (n:Int))).run Tryz.prog W=.ok (.slice (some ⟨W.heap.size,0,none⟩) n n) (W.alloc (.cells ⟨List.replicate n (.slice none 0 0)⟩ 59)):=by
 obtain⟨i0,hi,hz0,hz1,hz2⟩:=info_parts aa6
 have h:=run_make (P:=Tryz.prog) W 170 59 i0 (.slice none 0 0) Tryz.underlying170 hi hz0 .i64 .i64 n n (by omega) (Int.le_refl _) (by rw[hz2];omega) (by omega)
 rw[Int.toNat_natCast,hz1,Nat.mul_one] at h
 rw[h,show(Value.slice none 0 0).cells=#[.slice none 0 0] from rfl,nE]
theorem bN.pop {w:World} {B b:Nat} {v0 v1 v2 v3:Value} {A5:Option Addr} {n n5:Nat} {s:bZ} {bs bo:Nat} {g m cap:Nat} {ovs:List Value} (h:bN w B b v0 v1 v2 v3 A5 n n5 s bs bo (.slice (some ⟨g,0,none⟩) m cap) ovs) :
  bN (w.setCell ⟨b,7,none⟩ (.slice (some ⟨g,0,none⟩) (m - 1) cap)) B b v0 v1 v2 v3 A5 n n5 (kX s) bs bo (.slice (some ⟨g,0,none⟩) (m - 1) cap) ovs∧aU B w (w.setCell ⟨b,7,none⟩ (.slice (some ⟨g,0,none⟩) (m - 1) cap)):=by
 have hk:aU B w (w.setCell ⟨b,7,none⟩ (.slice (some ⟨g,0,none⟩) (m - 1) cap)):=(aU.refl B w).set_ h.hb h.here (by decide) _ _
 have hne:bs≠b:=by rintro rfl;have:=h.here;rw[h.seen] at this;injection this with this;injection this with _ this _;exact absurd this (by decide)
 have hno:bo≠b:=by rintro rfl;have:=h.here;rw[h.outs] at this;injection this with this;injection this with _ this _;exact absurd this (by decide)
 have ho:w.ownsRow B 3 1 (.slice (some ⟨g,0,none⟩) (m - 1) cap) (kX s).todo.length ((kX s).todo.map (.int .i64)):=by
  obtain⟨h1,h2⟩:=h.todo
  rcases h2 with ⟨e,_⟩ | ⟨g',c',cur,e,k1,k2,k3,k4,k5,k6⟩
  ·cases e
  ·injection e with e1 e2 e3
   injection e1 with e1
   injection e1 with e1
   subst e1;subst e3
   have hl:(kX s).todo.length=m - 1:=by rw[e2];simp[kX]
   refine⟨by simp,.inr ⟨g,cap,cur,by rw[hl],k1,k2,by omega,k4,k5,?_⟩⟩
   rw[hl]
   have e4:(kX s).todo=s.todo.take (m - 1):=by rw[e2];exact List.dropLast_eq_take
   rw[e4,List.map_take,←k6,List.take_take]
   congr 1
   omega
 refine⟨⟨h.hb,?_,h.hbs,?_,h.hbo,?_,h.olen,fun i v l hv hl=>hk.tries (h.out i v l hv hl),gI ho h.here (by decide) _ _⟩,hk⟩
 ·rw[heap_setCell_same w b 7 _ _ _ h.here];rfl
 ·rw[heap_setCell_other w _ bs _ hne];exact h.seen
 ·rw[heap_setCell_other w _ bo _ hno];exact h.outs
theorem jH (w:World) (a b c d:Obj):((((w.alloc a).alloc b).alloc c).alloc d).heap[w.heap.size+1]? = some b∧((((w.alloc a).alloc b).alloc c).alloc d).heap[w.heap.size+1+1]? = some c∧((((w.alloc a).alloc b).alloc c).alloc d).heap[w.heap.size+1+1+1]? = some d:=by
 have e1:=heap_alloc2_new w a b
 have e2:=heap_alloc2_new (w.alloc a) b c
 have e3:=heap_alloc2_new ((w.alloc a).alloc b) c d
 simp only[World.size_alloc] at e2 e3
 exact⟨(Lib.alloc_old _ d _ (by simp)).trans ((Lib.alloc_old _ c _ (by simp)).trans e1),(Lib.alloc_old _ d _ (by simp)).trans e2,e3⟩
theorem bN.drew {w:World} {B b:Nat} {v0 v1 v2 v3:Value} {A5:Option Addr} {n n5:Nat} {s:bZ} {bs bo:Nat} {tv:Value} {ovs:List Value} (h:bN w B b v0 v1 v2 v3 A5 n n5 s bs bo tv ovs):bN w.drew B b v0 v1 v2 v3 A5 n n5 s bs bo tv ovs:=
 ⟨h.hb,h.here,h.hbs,h.seen,h.hbo,h.outs,h.olen,h.out,h.todo⟩
theorem qV {w:World} {B b:Nat} {v0 v1 v2 v3:Value} {A5:Option Addr} {n n5 bs bo:Nat} (hb:B≤b) (hbs:B≤bs) (hbo:B≤bo)
  (h1:w.heap[b]? = some (.cells #[v0,v1,v2,v3,.slice A5 n n5,.slice (some ⟨bs,0,none⟩) n n,.slice (some ⟨bo,0,none⟩) n n,.slice none 0 0,.bool false] 206))
  (h2:w.heap[bs]? = some (.cells (Array.replicate n (.bool false)) 4)) (h3:w.heap[bo]? = some (.cells (Array.replicate n (.slice none 0 0)) 59)) :
  bN w B b v0 v1 v2 v3 A5 n n5 ⟨List.replicate n false,List.replicate n [],[],false⟩ bs bo (.slice none 0 0) (List.replicate n (.slice none 0 0)):=by
 refine⟨hb,h1,hbs,?_,hbo,?_,by simp,fun i v l hv hl=>?_,World.ownsRow_nil _ _ _ _⟩
 ·rw[h2,List.map_replicate];rfl
 ·rw[h3];rfl
 ·have e1:=(List.mem_replicate.1 (List.mem_of_getElem? hv)).2
  have e2:=(List.mem_replicate.1 (List.mem_of_getElem? hl)).2
  subst e1;subst e2
  exact bI.nil _ _ _ _ _
def abW (n:Nat) (s:bZ) (w:World) (e:Ending) (w':World):Prop:=
 ∃bs bo ovs,e=.returned (.tuple #[.slice (some ⟨bo,0,none⟩) n n,.slice (some ⟨bs,0,none⟩) n n,.bool (!s.bad)])∧w'.heap[bs]? = some (.cells ⟨s.seen.map .bool⟩ 4 (0,0))∧w'.heap[bo]? = some (.cells ⟨ovs⟩ 59 (0,0))∧ovs.length=n∧
  (∀(i:Nat) v l,ovs[i]? = some v→s.out[i]? = some l→bI w' w.heap.size 96 2 jW v l)∧WOk n s∧Below w.heap.size w w'
theorem yU (fcs:List Value) (f:CFn) (w:World) (hf:FnR w w.heap.size fcs f) (hn:f.code.length≤600) (hj:iP f.code) :
  Calls Tryz.prog 94 #[.agg ⟨fcs⟩] w (abW f.code.length (cY f.code) w):=by
 obtain⟨A4,n4,A5,n5,rfl,q1,q2,w1,w2⟩:=hf
 obtain⟨n,hnn⟩:∃n,f.code.length=n:=⟨_,rfl⟩
 have HT:Hid (cY f.code=nP f.code (eM (jN n)) (jN n)):=by rw[←hnn];rfl
 rw[hnn] at hn q2 ⊢
 obtain⟨sf,hsf⟩:∃sf,cY f.code=sf:=⟨_,rfl⟩
 rw[hsf] at HT ⊢
 have HC:=hI q2
 have HNN:=hI hnn
 have HJ:=hI hj
 have hmk1:=fun W=>acM n hn W
 have hmk2:=fun W=>acL n hn W
 have hn1:(n:Int)≤600:=by omega
 have hok0:Hid (WOk n ⟨List.replicate n false,List.replicate n [],[],false⟩):=⟨by simp,by simp,by simp,by simp,by simp[eM],by simp⟩
 clear q1 q2 hnn hsf hj
 go_enter Tryz.func94,Tryz.ntmps94
 go_wp2_with fail
 go_region
 go_wp2_with fail
 ·refine(kH w.heap.size (w.heap.size+1+1+1) (.int .i64 f.params) (.int .i64 f.regs) (.bool f.gen) (.slice A4 f.caught.length n4) A5 n n5 _ (w.heap.size+1) (w.heap.size+1+1) _ _ 0 _ [] _ (qV (by omega) (by omega) (by omega) (jH w _ _ _ _).2.2 (jH w _ _ _ _).1 (jH w _ _ _ _).2.1).drew hok0.out hn (by omega) (bI.nil _ _ _ _ _) (by simp;omega)).mono ?_
  rintro e w5 ⟨rfl,⟨tv,ovs,k1⟩,k2⟩
  have K1:Hid (∃bs bo tv ovs,bN w5 w.heap.size (w.heap.size+1+1+1) (.int .i64 f.params) (.int .i64 f.regs) (.bool f.gen) (.slice A4 f.caught.length n4) A5 n n5 (jN n) bs bo tv ovs):=⟨_,_,tv,ovs,k1⟩
  have K2:Hid (aU w.heap.size w w5):=by refine aU.trans (ad7 ?_) k2;repeat (first | exact Below.refl _ _ | refine Below.drew ?_ | refine Below.alloc ?_ (by simp <;> omega) _)
  clear k1 k2
  go_wp2_with fail
  have L0:Hid (∃s bs bo tv ovs,bN w5 w.heap.size (w.heap.size+1+1+1) (.int .i64 f.params) (.int .i64 f.regs) (.bool f.gen) (.slice A4 f.caught.length n4) A5 n n5 s bs bo tv ovs∧WOk n s∧eM s=eM (jN n)∧nP f.code (eM s) s=sf):=by
   obtain⟨bs,bo,tv,ovs,k1⟩:=K1.out
   exact⟨_,bs,bo,tv,ovs,k1,o6 n,rfl,HT.out.symm⟩
  go_loopg [6] (eM (jN n)) (fun k _ wr=>Hid (∃s bs bo tv ovs,bN wr w.heap.size (w.heap.size+1+1+1) (.int .i64 f.params) (.int .i64 f.regs) (.bool f.gen) (.slice A4 f.caught.length n4) A5 n n5 s bs bo tv ovs∧WOk n s∧eM s=k∧nP f.code (eM s) s=sf)∧Hid (aU w.heap.size w wr))
  case atStart=>exact⟨L0,K2⟩
  case round=>
   clear L0 K1 K2
   obtain⟨KS,KW⟩:=hrel
   obtain⟨s,bs,bo,tv,ovs,ka,kok,km,kr⟩:=KS.out
   have KA:=hI ka
   have KO:=hI kok
   have KM:=hI km
   have KR:=hI kr
   clear KS ka kok km kr
   obtain⟨tA,tc,rfl⟩:∃tA tc,tv=.slice tA s.todo.length tc:=by
    rcases KA.out.todo.2 with ⟨e,h0⟩ | ⟨g,c,_,e,_⟩
    ·rw[e,h0];exact⟨_,_,rfl⟩
    ·exact⟨_,_,e⟩
   have hl:s.todo.length≤600:=by have:=KO.out.small;unfold eM at this;omega
   have hl1:(s.todo.length:Int)≤600:=by omega
   have c7:wr.cell? ⟨w.heap.size+1+1+1,7,none⟩=some (.slice tA s.todo.length tc):=cell_of_row wr _ 7 _ _ _ KA.out.here
   have c8:wr.cell? ⟨w.heap.size+1+1+1,8,none⟩=some (.bool s.bad):=cell_of_row wr _ 8 _ _ _ KA.out.here
   have c5:wr.cell? ⟨w.heap.size+1+1+1,5,none⟩=some (.slice (some ⟨bs,0,none⟩) n n):=cell_of_row wr _ 5 _ _ _ KA.out.here
   have c6:wr.cell? ⟨w.heap.size+1+1+1,6,none⟩=some (.slice (some ⟨bo,0,none⟩) n n):=cell_of_row wr _ 6 _ _ _ KA.out.here
   by_cases hgo:s.todo≠[]∧s.bad=false
   ·obtain⟨hne,hbad⟩:=hgo
    obtain⟨t,ht⟩:∃t,s.todo.getLast? = some t:=⟨_,List.getLast?_eq_some_getLast hne⟩
    have hpos:0<s.todo.length:=List.length_pos_iff.2 hne
    have hp1:(0:Int)<s.todo.length:=by omega
    obtain⟨g,rfl,hcell⟩:∃g,tA=some ⟨g,0,none⟩∧wr.cell? ⟨g,s.todo.length - 1,none⟩=some (.int .i64 t):=by
     rcases KA.out.todo.2 with ⟨e,h0⟩ | ⟨g,c,cur,e,k1,k2,k3,k4,k5,k6⟩
     ·omega
     ·injection e with e1 e2 e3
      refine⟨g,e1,?_⟩
      rw[cell_of_row wr g _ _ _ _ k2,←Array.getElem?_toList]
      have h7:(cur.toList.take (s.todo.length*1))[s.todo.length - 1]? = some (.int .i64 t):=by
       rw[k6,List.getElem?_map,←List.getLast?_eq_getElem?,ht];rfl
      rw[List.getElem?_take,if_pos (by omega)] at h7
      exact h7
    have htn:=KO.out.todo t (List.mem_of_getLast? ht)
    obtain⟨tn,rfl⟩:∃tn:Nat,t=tn:=⟨t.toNat,by omega⟩
    have htn1:tn<n:=by omega
    obtain⟨q,hq⟩:∃q,q+1=s.todo.length:=⟨s.todo.length - 1,by omega⟩
    have hq1:s.todo.length - 1=q:=by omega
    have HQ:=hI hq
    rw[hq1] at hcell
    have KP:=hI (KA.out.pop)
    have hcap:s.todo.length≤tc∧tc≤maxLen:=by
     rcases KA.out.todo.2 with ⟨e,h0⟩ | ⟨g',c,cur,e,k1,k2,k3,k4,k5,k6⟩
     ·cases e
     ·injection e with e1 e2 e3;subst e3;exact⟨k3,k4⟩
    have hf7:wr.frozen? ⟨w.heap.size+1+1+1,7,none⟩=false:=frozen_of_row wr _ 7 _ _ KA.out.here
    obtain⟨hcap1,hcap2⟩:=hcap
    unfold maxLen at hcap2
    have HLT:=hI ht
    have HBD:=hI hbad
    rw[hbad] at c8
    have f7:=ecZ c7
    have fg:=ecZ hcell
    rw[←hq] at c7 f7
    have hqt:q+1≤tc:=by omega
    clear hne ht htn hpos hp1 hq hq1 hbad hl hl1 hcap1
    have hqc:((q:Int)+1 - 1)=q:=by omega
    have hqi:(q:Int)<(q:Int)+1:=by omega
    have hq6:(q:Int)≤599:=by have:=HQ.out;have:=KO.out.small;unfold eM at this;omega
    go_wp2_with fail
    refine aD (by kernel_rfl) (by kernel_rfl) ?_
    repeat (go_big_quiet_step (fail))
    refine wpQuiet_nil ?_
    rintro _ ⟨E,rfl⟩
    have KE:=hI E.below
    have f7':∀E2:Up E.to,E2.to.cell? ⟨w.heap.size+1+1+1,7,none⟩=some (.slice (some ⟨g,0,none⟩) (q+1) tc):=fun E2=>E2.cell (f7 E)
    clear f7 fg hcell c5 c6 c7 c8
    go_wp2_with fail
    refine aL 12 (by kernel_rfl) (by kernel_rfl) ?_
    simp only[List.take_succ_cons,List.take_zero,List.drop_succ_cons,List.drop_zero]
    repeat (go_big_quiet_step (fail))
    refine wpQuiet_nil ?_
    rintro _ ⟨E2,rfl⟩
    have KE2:Hid (Below wr.heap.size wr E2.to):=oV KE.out E2
    have KP2:Hid (bN (E2.to.setCell ⟨w.heap.size+1+1+1,7,none⟩ (.slice (some ⟨g,0,none⟩) q tc)) w.heap.size (w.heap.size+1+1+1) (.int .i64 f.params) (.int .i64 f.regs) (.bool f.gen) (.slice A4 f.caught.length n4) A5 n n5 (kX s) bs bo (.slice (some ⟨g,0,none⟩) q tc) ovs∧aU w.heap.size E2.to (E2.to.setCell ⟨w.heap.size+1+1+1,7,none⟩ (.slice (some ⟨g,0,none⟩) q tc))):=by
     have:=(KA.out.below KE2.out).pop
     rwa [show s.todo.length - 1=q from by have:=HQ.out;omega] at this
    have d7:E2.to.cell? ⟨w.heap.size+1+1+1,7,none⟩=some (.slice (some ⟨g,0,none⟩) (q+1) tc):=f7' E2
    have e7:E2.to.frozen? ⟨w.heap.size+1+1+1,7,none⟩=false:=frozen_of_row _ _ 7 _ _ (KA.out.below KE2.out).here
    have W6:Hid (aU w.heap.size w (E2.to.setCell ⟨w.heap.size+1+1+1,7,none⟩ (.slice (some ⟨g,0,none⟩) q tc))):=(KW.out.below_ KE2.out).trans KP2.out.2
    clear f7'
    go_wp2_with fail
    refine(ac5 w.heap.size (w.heap.size+1+1+1) (.int .i64 f.params) (.int .i64 f.regs) (.bool f.gen) (.slice A4 f.caught.length n4) A5 n n5 (kX s) bs bo _ ovs tn f.code _ KP2.out.1 KO.out.pop hn htn1 HNN.out.symm (HC.out.keep (Nat.le_refl _) (fun p hp=>(W6.out.under (Nat.le_refl _)).cell hp) (fun _ _ h=>h)) HJ.out W6.out.size).mono ?_
    rintro e w8 ⟨rfl,⟨tv8,ovs8,k1⟩,k2⟩
    have K8:Hid (∃s' bs bo tv ovs,bN w8 w.heap.size (w.heap.size+1+1+1) (.int .i64 f.params) (.int .i64 f.regs) (.bool f.gen) (.slice A4 f.caught.length n4) A5 n n5 s' bs bo tv ovs∧WOk n s'∧eM s'=s.todo.length - 1+s.seen.count false∧nP f.code (eM s') s'=sf):=by
     refine⟨_,bs,bo,tv8,ovs8,k1,KO.out.pop.from_ HJ.out (by omega),?_,?_⟩
     ·rw[pH];simp[eM,kX];omega
     ·rw[←vS HLT.out HBD.out];exact KR.out
    have K9:=hI (W6.out.trans k2)
    clear k1 k2 d7 e7
    go_wp2_with fail
    go_roundg (s.todo.length - 1+s.seen.count false)
    case measure=>have h1:=KM.out;have h2:=HQ.out;unfold eM at h1;omega
    case rel=>exact⟨K8,K9⟩
   ·have KRE:Hid (sf=s):=by
     rw[←KR.out];exact yW (by
      by_cases h:s.todo=[]
      ·exact .inl h
      ·right
       cases hb:s.bad
       ·exact absurd ⟨h,hb⟩ hgo
       ·rfl) _
    have f5:=ecZ c5
    have f6:=ecZ c6
    have f8:=ecZ c8
    by_cases ht0:s.todo.length=0
    ·have hx:¬(0:Int)<s.todo.length:=by omega
     clear hgo ht0 hl hl1
     go_wp2_with fail
     refine aD (by kernel_rfl) (by kernel_rfl) ?_
     repeat (go_big_quiet_step (fail))
     refine wpQuiet_nil ?_
     rintro _ ⟨E,rfl⟩
     have KE:=hI E.below
     clear f5 f6 f8 c5 c6 c7 c8
     go_wp2_with fail
     go_ret3
     rw[KRE.out]
     have h9:=KA.out.below KE.out
     exact⟨bs,bo,ovs,rfl,h9.seen,h9.outs,h9.olen,h9.out,KO.out,(KW.out.below_ KE.out).under (Nat.le_refl _)⟩
    ·have hx:(0:Int)<s.todo.length:=by omega
     have hbad:s.bad=true:=by
      cases hb:s.bad
      ·exact absurd ⟨fun e=>ht0 (by rw[e];rfl),hb⟩ hgo
      ·rfl
     rw[hbad] at c8 f8
     have HBD:=hI hbad
     clear hgo ht0 hl hbad
     go_wp2_with fail
     refine aD (by kernel_rfl) (by kernel_rfl) ?_
     repeat (go_big_quiet_step (fail))
     refine wpQuiet_nil ?_
     rintro _ ⟨E,rfl⟩
     have KE:=hI E.below
     clear f5 f6 f8 c5 c6 c7 c8
     go_wp2_with fail
     go_ret3
     rw[KRE.out]
     have h9:=KA.out.below KE.out
     exact⟨bs,bo,ovs,by rw[HBD.out];rfl,h9.seen,h9.outs,h9.olen,h9.out,KO.out,(KW.out.below_ KE.out).under (Nat.le_refl _)⟩
 ·refine(kH w.heap.size (w.heap.size+1+1+1) (.int .i64 f.params) (.int .i64 f.regs) (.bool f.gen) (.slice A4 f.caught.length n4) A5 n n5 _ (w.heap.size+1+1) (w.heap.size+1) _ _ 0 _ [] _ (qV (by omega) (by omega) (by omega) (jH w _ _ _ _).2.2 (jH w _ _ _ _).2.1 (jH w _ _ _ _).1).drew hok0.out hn (by omega) (bI.nil _ _ _ _ _) (by simp;omega)).mono ?_
  rintro e w5 ⟨rfl,⟨tv,ovs,k1⟩,k2⟩
  have K1:Hid (∃bs bo tv ovs,bN w5 w.heap.size (w.heap.size+1+1+1) (.int .i64 f.params) (.int .i64 f.regs) (.bool f.gen) (.slice A4 f.caught.length n4) A5 n n5 (jN n) bs bo tv ovs):=⟨_,_,tv,ovs,k1⟩
  have K2:Hid (aU w.heap.size w w5):=by refine aU.trans (ad7 ?_) k2;repeat (first | exact Below.refl _ _ | refine Below.drew ?_ | refine Below.alloc ?_ (by simp <;> omega) _)
  clear k1 k2
  go_wp2_with fail
  have L0:Hid (∃s bs bo tv ovs,bN w5 w.heap.size (w.heap.size+1+1+1) (.int .i64 f.params) (.int .i64 f.regs) (.bool f.gen) (.slice A4 f.caught.length n4) A5 n n5 s bs bo tv ovs∧WOk n s∧eM s=eM (jN n)∧nP f.code (eM s) s=sf):=by
   obtain⟨bs,bo,tv,ovs,k1⟩:=K1.out
   exact⟨_,bs,bo,tv,ovs,k1,o6 n,rfl,HT.out.symm⟩
  go_loopg [6] (eM (jN n)) (fun k _ wr=>Hid (∃s bs bo tv ovs,bN wr w.heap.size (w.heap.size+1+1+1) (.int .i64 f.params) (.int .i64 f.regs) (.bool f.gen) (.slice A4 f.caught.length n4) A5 n n5 s bs bo tv ovs∧WOk n s∧eM s=k∧nP f.code (eM s) s=sf)∧Hid (aU w.heap.size w wr))
  case atStart=>exact⟨L0,K2⟩
  case round=>
   clear L0 K1 K2
   obtain⟨KS,KW⟩:=hrel
   obtain⟨s,bs,bo,tv,ovs,ka,kok,km,kr⟩:=KS.out
   have KA:=hI ka
   have KO:=hI kok
   have KM:=hI km
   have KR:=hI kr
   clear KS ka kok km kr
   obtain⟨tA,tc,rfl⟩:∃tA tc,tv=.slice tA s.todo.length tc:=by
    rcases KA.out.todo.2 with ⟨e,h0⟩ | ⟨g,c,_,e,_⟩
    ·rw[e,h0];exact⟨_,_,rfl⟩
    ·exact⟨_,_,e⟩
   have hl:s.todo.length≤600:=by have:=KO.out.small;unfold eM at this;omega
   have hl1:(s.todo.length:Int)≤600:=by omega
   have c7:wr.cell? ⟨w.heap.size+1+1+1,7,none⟩=some (.slice tA s.todo.length tc):=cell_of_row wr _ 7 _ _ _ KA.out.here
   have c8:wr.cell? ⟨w.heap.size+1+1+1,8,none⟩=some (.bool s.bad):=cell_of_row wr _ 8 _ _ _ KA.out.here
   have c5:wr.cell? ⟨w.heap.size+1+1+1,5,none⟩=some (.slice (some ⟨bs,0,none⟩) n n):=cell_of_row wr _ 5 _ _ _ KA.out.here
   have c6:wr.cell? ⟨w.heap.size+1+1+1,6,none⟩=some (.slice (some ⟨bo,0,none⟩) n n):=cell_of_row wr _ 6 _ _ _ KA.out.here
   by_cases hgo:s.todo≠[]∧s.bad=false
   ·obtain⟨hne,hbad⟩:=hgo
    obtain⟨t,ht⟩:∃t,s.todo.getLast? = some t:=⟨_,List.getLast?_eq_some_getLast hne⟩
    have hpos:0<s.todo.length:=List.length_pos_iff.2 hne
    have hp1:(0:Int)<s.todo.length:=by omega
    obtain⟨g,rfl,hcell⟩:∃g,tA=some ⟨g,0,none⟩∧wr.cell? ⟨g,s.todo.length - 1,none⟩=some (.int .i64 t):=by
     rcases KA.out.todo.2 with ⟨e,h0⟩ | ⟨g,c,cur,e,k1,k2,k3,k4,k5,k6⟩
     ·omega
     ·injection e with e1 e2 e3
      refine⟨g,e1,?_⟩
      rw[cell_of_row wr g _ _ _ _ k2,←Array.getElem?_toList]
      have h7:(cur.toList.take (s.todo.length*1))[s.todo.length - 1]? = some (.int .i64 t):=by
       rw[k6,List.getElem?_map,←List.getLast?_eq_getElem?,ht];rfl
      rw[List.getElem?_take,if_pos (by omega)] at h7
      exact h7
    have htn:=KO.out.todo t (List.mem_of_getLast? ht)
    obtain⟨tn,rfl⟩:∃tn:Nat,t=tn:=⟨t.toNat,by omega⟩
    have htn1:tn<n:=by omega
    obtain⟨q,hq⟩:∃q,q+1=s.todo.length:=⟨s.todo.length - 1,by omega⟩
    have hq1:s.todo.length - 1=q:=by omega
    have HQ:=hI hq
    rw[hq1] at hcell
    have KP:=hI (KA.out.pop)
    have hcap:s.todo.length≤tc∧tc≤maxLen:=by
     rcases KA.out.todo.2 with ⟨e,h0⟩ | ⟨g',c,cur,e,k1,k2,k3,k4,k5,k6⟩
     ·cases e
     ·injection e with e1 e2 e3;subst e3;exact⟨k3,k4⟩
    have hf7:wr.frozen? ⟨w.heap.size+1+1+1,7,none⟩=false:=frozen_of_row wr _ 7 _ _ KA.out.here
    obtain⟨hcap1,hcap2⟩:=hcap
    unfold maxLen at hcap2
    have HLT:=hI ht
    have HBD:=hI hbad
    rw[hbad] at c8
    have f7:=ecZ c7
    have fg:=ecZ hcell
    rw[←hq] at c7 f7
    have hqt:q+1≤tc:=by omega
    clear hne ht htn hpos hp1 hq hq1 hbad hl hl1 hcap1
    have hqc:((q:Int)+1 - 1)=q:=by omega
    have hqi:(q:Int)<(q:Int)+1:=by omega
    have hq6:(q:Int)≤599:=by have:=HQ.out;have:=KO.out.small;unfold eM at this;omega
    go_wp2_with fail
    refine aD (by kernel_rfl) (by kernel_rfl) ?_
    repeat (go_big_quiet_step (fail))
    refine wpQuiet_nil ?_
    rintro _ ⟨E,rfl⟩
    have KE:=hI E.below
    have f7':∀E2:Up E.to,E2.to.cell? ⟨w.heap.size+1+1+1,7,none⟩=some (.slice (some ⟨g,0,none⟩) (q+1) tc):=fun E2=>E2.cell (f7 E)
    clear f7 fg hcell c5 c6 c7 c8
    go_wp2_with fail
    refine aL 12 (by kernel_rfl) (by kernel_rfl) ?_
    simp only[List.take_succ_cons,List.take_zero,List.drop_succ_cons,List.drop_zero]
    repeat (go_big_quiet_step (fail))
    refine wpQuiet_nil ?_
    rintro _ ⟨E2,rfl⟩
    have KE2:Hid (Below wr.heap.size wr E2.to):=oV KE.out E2
    have KP2:Hid (bN (E2.to.setCell ⟨w.heap.size+1+1+1,7,none⟩ (.slice (some ⟨g,0,none⟩) q tc)) w.heap.size (w.heap.size+1+1+1) (.int .i64 f.params) (.int .i64 f.regs) (.bool f.gen) (.slice A4 f.caught.length n4) A5 n n5 (kX s) bs bo (.slice (some ⟨g,0,none⟩) q tc) ovs∧aU w.heap.size E2.to (E2.to.setCell ⟨w.heap.size+1+1+1,7,none⟩ (.slice (some ⟨g,0,none⟩) q tc))):=by
     have:=(KA.out.below KE2.out).pop
     rwa [show s.todo.length - 1=q from by have:=HQ.out;omega] at this
    have d7:E2.to.cell? ⟨w.heap.size+1+1+1,7,none⟩=some (.slice (some ⟨g,0,none⟩) (q+1) tc):=f7' E2
    have e7:E2.to.frozen? ⟨w.heap.size+1+1+1,7,none⟩=false:=frozen_of_row _ _ 7 _ _ (KA.out.below KE2.out).here
    have W6:Hid (aU w.heap.size w (E2.to.setCell ⟨w.heap.size+1+1+1,7,none⟩ (.slice (some ⟨g,0,none⟩) q tc))):=(KW.out.below_ KE2.out).trans KP2.out.2
    clear f7'
    go_wp2_with fail
    refine(ac5 w.heap.size (w.heap.size+1+1+1) (.int .i64 f.params) (.int .i64 f.regs) (.bool f.gen) (.slice A4 f.caught.length n4) A5 n n5 (kX s) bs bo _ ovs tn f.code _ KP2.out.1 KO.out.pop hn htn1 HNN.out.symm (HC.out.keep (Nat.le_refl _) (fun p hp=>(W6.out.under (Nat.le_refl _)).cell hp) (fun _ _ h=>h)) HJ.out W6.out.size).mono ?_
    rintro e w8 ⟨rfl,⟨tv8,ovs8,k1⟩,k2⟩
    have K8:Hid (∃s' bs bo tv ovs,bN w8 w.heap.size (w.heap.size+1+1+1) (.int .i64 f.params) (.int .i64 f.regs) (.bool f.gen) (.slice A4 f.caught.length n4) A5 n n5 s' bs bo tv ovs∧WOk n s'∧eM s'=s.todo.length - 1+s.seen.count false∧nP f.code (eM s') s'=sf):=by
     refine⟨_,bs,bo,tv8,ovs8,k1,KO.out.pop.from_ HJ.out (by omega),?_,?_⟩
     ·rw[pH];simp[eM,kX];omega
     ·rw[←vS HLT.out HBD.out];exact KR.out
    have K9:=hI (W6.out.trans k2)
    clear k1 k2 d7 e7
    go_wp2_with fail
    go_roundg (s.todo.length - 1+s.seen.count false)
    case measure=>have h1:=KM.out;have h2:=HQ.out;unfold eM at h1;omega
    case rel=>exact⟨K8,K9⟩
   ·have KRE:Hid (sf=s):=by
     rw[←KR.out];exact yW (by
      by_cases h:s.todo=[]
      ·exact .inl h
      ·right
       cases hb:s.bad
       ·exact absurd ⟨h,hb⟩ hgo
       ·rfl) _
    have f5:=ecZ c5
    have f6:=ecZ c6
    have f8:=ecZ c8
    by_cases ht0:s.todo.length=0
    ·have hx:¬(0:Int)<s.todo.length:=by omega
     clear hgo ht0 hl hl1
     go_wp2_with fail
     refine aD (by kernel_rfl) (by kernel_rfl) ?_
     repeat (go_big_quiet_step (fail))
     refine wpQuiet_nil ?_
     rintro _ ⟨E,rfl⟩
     have KE:=hI E.below
     clear f5 f6 f8 c5 c6 c7 c8
     go_wp2_with fail
     go_ret3
     rw[KRE.out]
     have h9:=KA.out.below KE.out
     exact⟨bs,bo,ovs,rfl,h9.seen,h9.outs,h9.olen,h9.out,KO.out,(KW.out.below_ KE.out).under (Nat.le_refl _)⟩
    ·have hx:(0:Int)<s.todo.length:=by omega
     have hbad:s.bad=true:=by
      cases hb:s.bad
      ·exact absurd ⟨fun e=>ht0 (by rw[e];rfl),hb⟩ hgo
      ·rfl
     rw[hbad] at c8 f8
     have HBD:=hI hbad
     clear hgo ht0 hl hbad
     go_wp2_with fail
     refine aD (by kernel_rfl) (by kernel_rfl) ?_
     repeat (go_big_quiet_step (fail))
     refine wpQuiet_nil ?_
     rintro _ ⟨E,rfl⟩
     have KE:=hI E.below
     clear f5 f6 f8 c5 c6 c7 c8
     go_wp2_with fail
     go_ret3
     rw[KRE.out]
     have h9:=KA.out.below KE.out
     exact⟨bs,bo,ovs,by rw[HBD.out];rfl,h9.seen,h9.outs,h9.olen,h9.out,KO.out,(KW.out.below_ KE.out).under (Nat.le_refl _)⟩
end
section
open Go.RowKit
theorem aaB (w:World) (A B C:Array Value) (t u v:TypeId):(∀i,(((w.alloc (.cells A t)).alloc (.cells B u)).alloc (.cells C v)).cell? ⟨w.heap.size,i,none⟩=A[i]?)∧(∀i,(((w.alloc (.cells A t)).alloc (.cells B u)).alloc (.cells C v)).cell? ⟨w.heap.size+1,i,none⟩=B[i]?)∧
  (∀i,(((w.alloc (.cells A t)).alloc (.cells B u)).alloc (.cells C v)).cell? ⟨w.heap.size+1+1,i,none⟩=C[i]?)∧Below w.heap.size w (((w.alloc (.cells A t)).alloc (.cells B u)).alloc (.cells C v)):=by
 refine⟨fun i=>?_,fun i=>?_,fun i=>?_,(bE w _ _).alloc (by simp;omega) _⟩
 ·rw[World.cell?_alloc_lt _ _ _ (by simp;omega)];exact kK w A t _ i
 ·rw[World.cell?_alloc_lt _ _ _ (by simp)];exact mM w B u _ i
 ·have h:=bL ((w.alloc (.cells A t)).alloc (.cells B u)) C v i
  simp only[World.size_alloc] at h
  exact h
theorem qK {α : Type} {q : α×Nat→Bool} : ∀(l:List α) (k:Nat),((l.zipIdx k).all q=true↔∀i x,l[i]? = some x→q (x,k+i)=true)
 | [],k=>by simp
 | y::l,k=>by
  rw[List.zipIdx_cons,List.all_cons,Bool.and_eq_true,qK l (k+1)]
  constructor
  ·rintro ⟨h1,h2⟩ i x hx
   cases i with
   | zero=>simp at hx;subst hx;exact h1
   | succ i=>have:=h2 i x (by simpa using hx);rwa [show k+1+i=k+(i+1) by omega] at this
  ·intro h
   exact⟨h 0 y rfl,fun i x hx=>by have:=h (i+1) x (by simpa using hx);rwa [show k+(i+1)=k+1+i by omega] at this⟩
theorem xX (pcs fcs:List Value) (p:aW) (f:CFn) (w:World) (hp:eL w w.heap.size pcs p) (hf:FnR w w.heap.size fcs f) (hn:f.code.length≤600) (hr2:f.regs≤60) :
  Calls Tryz.prog 77 #[.agg ⟨pcs⟩,.agg ⟨fcs⟩] w (aM (.bool (dF p f)) w):=by
 obtain⟨r,hr⟩:∃r,dF p f=r:=⟨_,rfl⟩
 rw[hr]
 have HR:=hI hr
 have HP:=hI hp
 have HFN:=hI hf
 clear hr
 obtain⟨A1,n1,A2,n2,A3,n3,rfl,-⟩:=hp
 obtain⟨A4,n4,A5,n5,rfl,q1,q2,v1,v2⟩:=hf
 have HC:=hI q2
 have l5:=aP q2
 have TB:=aaB w #[.slice A1 p.fns.length n1,.slice A2 p.consts.length n2,.slice A3 p.texts.length n3] #[.int .i64 f.params,.int .i64 f.regs,.bool f.gen,.slice A4 f.caught.length n4,.slice A5 f.code.length n5]
  #[.slice A1 p.fns.length n1,.slice A2 p.consts.length n2,.slice A3 p.texts.length n3,.int .i64 f.params,.int .i64 f.regs,.bool f.gen,.slice A4 f.caught.length n4,.slice A5 f.code.length n5] 26 99 191
 obtain⟨w0,hw0⟩:∃w0,w0=((w.alloc (.cells #[.slice A1 p.fns.length n1,.slice A2 p.consts.length n2,.slice A3 p.texts.length n3] 26)).alloc (.cells #[.int .i64 f.params,.int .i64 f.regs,.bool f.gen,.slice A4 f.caught.length n4,.slice A5 f.code.length n5] 99)).alloc (.cells #[.slice A1 p.fns.length n1,.slice A2 p.consts.length n2,.slice A3 p.texts.length n3,.int .i64 f.params,.int .i64 f.regs,.bool f.gen,.slice A4 f.caught.length n4,.slice A5 f.code.length n5] 191):=⟨_,rfl⟩
 rw[←hw0] at TB
 obtain⟨-,tb2,tb3,tb4⟩:=TB
 have T2:=hI tb2
 have T3:=hI tb3
 have k0:=hI tb4
 have hz0:Hid (w0.heap.size=w.heap.size+1+1+1):=by rw[hw0];simp[Hid]
 have HW:=hI hw0
 clear q1 q2 tb2 tb3 tb4 hw0
 by_cases hb:f.params<0∨f.regs<1∨f.regs<f.params
 ·have HF:Hid (r=false):=by
   rw[←HR.out];unfold dF Hid
   rcases hb with h | h | h <;> simp[h]
  by_cases h1:f.params<0
  ·clear hb
   go_enter Tryz.func77,Tryz.ntmps77
   go_wp2_with fail
   go_ret
   rw[←HW.out]
   exact⟨by rw[HF.out];rfl,k0.out⟩
  by_cases h2:f.regs<1
  ·clear hb
   go_enter Tryz.func77,Tryz.ntmps77
   go_wp2_with fail
   go_ret
   rw[←HW.out]
   exact⟨by rw[HF.out];rfl,k0.out⟩
  ·have h3:f.regs<f.params:=by omega
   clear hb
   go_enter Tryz.func77,Tryz.ntmps77
   go_wp2_with fail
   go_ret
   rw[←HW.out]
   exact⟨by rw[HF.out];rfl,k0.out⟩
 ·have h1:¬f.params<0:=by omega
  have h2:¬f.regs<1:=by omega
  have h3:¬f.regs<f.params:=by omega
  have h4:1≤f.regs:=by omega
  clear hb
  have HF:Hid ((f.code.zipIdx.all fun x=>gJ p f x.2 x.1)=false→r=false):=fun e=>by
   rw[←HR.out];unfold dF;rw[e];simp
  have HG:Hid ((f.code.zipIdx.all fun x=>gJ p f x.2 x.1)=true→r = !(cY f.code).bad):=fun e=>by
   rw[←HR.out];unfold dF;rw[e];simp[h1,h2,h3]
  have hlen:(f.code.length:Int)≤600:=by omega
  go_enter Tryz.func77,Tryz.ntmps77
  go_wp2_with fail
  rw[←HW.out]
  go_loopw [32] (fun k wr=>∃kn:Nat,k=.int .i64 kn∧kn≤f.code.length∧Hid (∀j i,j<kn→f.code[j]? = some i→gJ p f j i=true)∧Hid (Below w0.heap.size w0 wr)) (fun k _=>f.code.length - (RowKit.intOf k).toNat)
  case atStart=>exact⟨0,rfl,by omega,fun j i hj _=>by omega,Below.refl _ _⟩
  case round=>
   obtain⟨kn,rfl,hk,KP,KW⟩:=hrel
   have KB:=btZ k0 KW.out
   by_cases hlt:kn<f.code.length
   ·obtain⟨b,off,i,ics,rfl,hb,hi0,-,hR,hat⟩:=HC.out.at_ hlt
    have HI:=hI hR
    obtain⟨rfl,-⟩:=hR
    have g0:wr.cell? ⟨b,off+kn*5,none⟩=some (.int .i64 i.op):=(KB.out.cell hb).trans (hat 0 _ rfl)
    have g1:wr.cell? ⟨b,off+kn*5+1,none⟩=some (.int .i64 i.a):=(KB.out.cell hb).trans (hat 1 _ rfl)
    have g2:wr.cell? ⟨b,off+kn*5+2,none⟩=some (.int .i64 i.b):=(KB.out.cell hb).trans (hat 2 _ rfl)
    have g3:wr.cell? ⟨b,off+kn*5+3,none⟩=some (.int .i64 i.c):=(KB.out.cell hb).trans (hat 3 _ rfl)
    have g4:wr.cell? ⟨b,off+kn*5+4,none⟩=some (.int .i64 i.line):=(KB.out.cell hb).trans (hat 4 _ rfl)
    have hz1:w.heap.size+1+1<wr.heap.size:=by have:=KW.out.size;have:=hz0.out;omega
    have t0:wr.cell? ⟨w.heap.size+1+1,0,none⟩=some (.slice A1 p.fns.length n1):=aC KW.out (T3.out 0)
    have t1:wr.cell? ⟨w.heap.size+1+1,1,none⟩=some (.slice A2 p.consts.length n2):=aC KW.out (T3.out 1)
    have t2:wr.cell? ⟨w.heap.size+1+1,2,none⟩=some (.slice A3 p.texts.length n3):=aC KW.out (T3.out 2)
    have t3:wr.cell? ⟨w.heap.size+1+1,3,none⟩=some (.int .i64 f.params):=aC KW.out (T3.out 3)
    have t4:wr.cell? ⟨w.heap.size+1+1,4,none⟩=some (.int .i64 f.regs):=aC KW.out (T3.out 4)
    have t5:wr.cell? ⟨w.heap.size+1+1,5,none⟩=some (.bool f.gen):=aC KW.out (T3.out 5)
    have t6:wr.cell? ⟨w.heap.size+1+1,6,none⟩=some (.slice A4 f.caught.length n4):=aC KW.out (T3.out 6)
    have t7:wr.cell? ⟨w.heap.size+1+1,7,none⟩=some (.slice (some ⟨b,off,none⟩) f.code.length n5):=aC KW.out (T3.out 7)
    have HX:=hI hi0
    have KL:Hid (∀W,Below wr.heap.size wr W→fC W W.heap.size [.slice A1 p.fns.length n1,.slice A2 p.consts.length n2,.slice A3 p.texts.length n3,.int .i64 f.params,.int .i64 f.regs,.bool f.gen,.slice A4 f.caught.length n4,.slice (some ⟨b,off,none⟩) f.code.length n5] p f):=fun W k=>by
     have kb:Below w.heap.size w W:=KB.out.trans (k.mono KB.out.size)
     exact⟨_,_,rfl,HP.out.keep kb.size (fun _ h=>kb.cell h),HFN.out.keep kb.size (fun _ h=>kb.cell h)⟩
    clear hi0 hat
    go_wp2_with fail
    refine(order_c _ _ p f kn i _ (KL.out _ (by repeat (first | exact Below.refl _ _ | refine Below.drew ?_ | refine Below.alloc ?_ (by simp) _))) h4 hr2 HI.out).mono ?_
    rintro e w5 ⟨rfl,k5⟩
    have K5:Hid (Below w0.heap.size w0 w5):=by refine KW.out.trans (Below.trans (b:=wr.alloc _) ?_ (k5.mono ?_));exact Below.alloc (Below.refl _ _) KW.out.size _;(have:=KW.out.size;simp;omega)
    clear k5 g0 g1 g2 g3 g4 t0 t1 t2 t3 t4 t5 t6 t7
    cases ho:gJ p f kn i
    ·have HO:=hI ho
     clear ho
     go_wp2_with fail
     go_ret
     refine⟨?_,k0.out.trans (K5.out.mono k0.out.size)⟩
     rw[HF.out (by
      cases hq:(f.code.zipIdx.all fun x=>gJ p f x.2 x.1)
      ·rfl
      ·have:=(qK f.code 0).1 hq kn i HX.out
       simp only[Nat.zero_add] at this
       rw[HO.out] at this;cases this)]
     rfl
    ·have HO:=hI ho
     clear ho
     go_wp2_with fail
     go_roundw
     case rel=>exact⟨kn+1,by go_num,by omega,fun j x hj hx=>by
      rcases Nat.lt_or_ge j kn with h | h
      ·exact KP.out j x h hx
      ·have:j=kn:=by omega
       subst this
       rw[HX.out] at hx;injection hx with hx;subst hx;exact HO.out,K5⟩
     case measure=>simp[RowKit.intOf];omega
   ·have hall:Hid ((f.code.zipIdx.all fun x=>gJ p f x.2 x.1)=true):=(qK f.code 0).2 (fun i x hx=>by
     rw[Nat.zero_add];exact KP.out i x (by have:=(lE hx).1;omega) hx)
    have hj:Hid (iP f.code):=fun i hi=>by
     obtain⟨j,hji⟩:=List.getElem?_of_mem hi
     have hjl:=(lE hji).1
     have ho:=KP.out j i (by omega) hji
     obtain⟨o1,o2⟩:=qA ho
     obtain⟨cs,hR⟩:=HC.out.mem hi
     obtain⟨-,-,wa,wb,-⟩:=hR
     exact⟨fun h=>⟨(o1 h).1,wa.2⟩,fun h=>⟨(o2 h).1,wb.2⟩,wa⟩
    have hz1:w.heap.size+1<wr.heap.size:=by have:=KW.out.size;have:=hz0.out;omega
    have t0:wr.cell? ⟨w.heap.size+1,0,none⟩=some (.int .i64 f.params):=aC KW.out (T2.out 0)
    have t1:wr.cell? ⟨w.heap.size+1,1,none⟩=some (.int .i64 f.regs):=aC KW.out (T2.out 1)
    have t2:wr.cell? ⟨w.heap.size+1,2,none⟩=some (.bool f.gen):=aC KW.out (T2.out 2)
    have t3:wr.cell? ⟨w.heap.size+1,3,none⟩=some (.slice A4 f.caught.length n4):=aC KW.out (T2.out 3)
    have t4:wr.cell? ⟨w.heap.size+1,4,none⟩=some (.slice A5 f.code.length n5):=aC KW.out (T2.out 4)
    have hfn:=hI (HFN.out.keep KB.out.size (fun _ h=>KB.out.cell h))
    go_wp2_with fail
    refine(yU _ f wr hfn.out hn hj.out).mono ?_
    rintro e w5 ⟨bs,bo,ovs,rfl,-,-,-,-,-,k5⟩
    have K5:=btZ KB k5
    clear k5 t0 t1 t2 t3 t4
    go_wp2_with fail
    go_ret
    exact⟨by rw[HG.out hall.out];rfl,K5.out⟩
end
end Go.Proofs.YtjaphgpkkfdaaaaGreatDoor
