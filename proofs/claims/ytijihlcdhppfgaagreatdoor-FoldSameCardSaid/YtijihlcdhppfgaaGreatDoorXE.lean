/- Part of the walk of the given code: contracts, and plain laws. -/
import Derived.Test.YtijihlcdhppfgaaGreatDoorXD
import Derived.Test.YtijihlcdhppfgaaGreatDoorXR
set_option maxHeartbeats 16000000
set_option maxRecDepth 100000
set_option linter.all false
namespace Go.Proofs.YtijihlcdhppfgaaGreatDoor
section
open Go.RowKit Go.IntWalk
set_option maxHeartbeats 4000000
set_option maxRecDepth 100000
section
variable {W:World} {fb:Nat} {ca:List Value} {t:aH} {uI:Value} {cur:List aT}
theorem fneut_c (h:FR W fb ca t uI cur) (x:aT) {na nb:Nat} (ea:x.a=na) (eb:x.b=nb) (ha:na<cur.length) (hb:nb<cur.length) {i:Nat} (hi:i≤300) :
  Calls Tryz.prog 166 #[.pointer (some ⟨fb,0,none⟩),.int .i64 i,yA x] W (aK (.int .i64 (awT (ax3 t.ins) cur x i)) W):=by
 have IA:Hid (∀(u:Int) w1,Below W.heap.size W w1→_):=fun u w1 K=>ayV (h.below K) ha (awM u)
 have IB:Hid (∀(u:Int) w1,Below W.heap.size W w1→_):=fun u w1 K=>ayV (h.below K) hb (awM u)
 have WA:Hid (∀w1,Below W.heap.size W w1→_):=fun w1 K=>ax7 (h.below K) (na:Int) hi
 have WB:Hid (∀w1,Below W.heap.size W w1→_):=fun w1 K=>ax7 (h.below K) (nb:Int) hi
 have NE:Hid (awT (ax3 t.ins) cur x i=if(x.n=3∨x.n=5)∧(isM cur na (awM (axA x.n)) && aw0 (ax3 t.ins) nb i)=true then(nb:Int)
  else if(x.n=3∨x.n=4∨x.n=5∨x.n=6)∧(isM cur nb (awM (axA x.n)) && aw0 (ax3 t.ins) na i)=true then(na:Int) else -1):=by unfold awT Hid;rw[ea,eb]
 generalize awT (ax3 t.ins) cur x i=r at NE ⊢
 generalize aw0 (ax3 t.ins) nb i=wb at WB NE
 generalize aw0 (ax3 t.ins) na i=wa at WA NE
 obtain⟨op,xa,xb,xc,xn,xe,⟨kk,kn⟩⟩:=x
 dsimp only at ea eb NE
 subst ea eb
 unfold yA
 dsimp only
 clear h
 by_cases no:xn=3∨xn=5∨xn=4∨xn=6
 case neg=>
  have HR:Hid (r = -1):=by rw[NE.out,if_neg (by omega),if_neg (by omega)];rfl
  clear NE IA IB WA WB
  simp only[not_or] at no
  obtain⟨n3,n5,n4,n6⟩:=no
  replace n3:=beq_eq_false_iff_ne.2 n3
  replace n4:=beq_eq_false_iff_ne.2 n4
  replace n5:=beq_eq_false_iff_ne.2 n5
  replace n6:=beq_eq_false_iff_ne.2 n6
  go_enter Tryz.func166,Tryz.ntmps166
  go_upto_region 1 with fail
  generalize h:World.alloc _ _=w1
  have X:=Bx.of1 h
  clear h
  go_wp2_with (first | (refine X.l1 ?_) | (refine X.l1g ?_) | fail)
  go_ret
  exact⟨by rw[HR.out];rfl,X.k⟩
 obtain⟨u,hu⟩:∃u,axA xn=u:=⟨_,rfl⟩
 have IA:=hI (IA.out u)
 have IB:=hI (IB.out u)
 rw[hu] at NE
 generalize isM cur na (awM u)=ba at IA NE
 generalize isM cur nb (awM u)=bb at IB NE
 dsimp only [awM] at IA IB
 have three:∀p q:Bool,p=false∨(p=true∧q=false)∨(p=true∧q=true):=by decide
 rcases (show(xn=3∨xn=5)∨(xn=4∨xn=6) by omega) with no | no
 ·rcases no with rfl | rfl
  all_goals
   first | obtain rfl:u=0:=hu.symm | obtain rfl:u=1:=hu.symm
   clear hu
   go_enter Tryz.func166,Tryz.ntmps166
   go_upto_region 1 with fail
   generalize h:World.alloc _ _=w1
   have X:=Bx.of1 h
   clear h
   go_wp2_with (first | (refine X.l1 ?_) | (refine X.l1g ?_) | fail)
   rcases three ba wb with rfl | ⟨rfl,rfl⟩ | ⟨rfl,rfl⟩
  all_goals
   refine X.qq fun _=>?_
   have q1:=X.qc (g:=W.heap.size) (j:=1) (v:=.int .i64 na)
   have q2:=X.qc (g:=W.heap.size) (j:=2) (v:=.int .i64 nb)
   repeat (first | go_big_quiet_step ((go_at_call 167;exact Bx.cq (ayU _ _))) | go_big_quiet_step ((go_at_call 168;exact Bx.cq (IA.out _ (Bx.k (Bx.W.bx _))))) | go_big_quiet_step ((go_at_call 169;exact Bx.cq (WB.out _ (Bx.k (Bx.W.bx _))))))
   refine wpQuiet_nil ?_
   (first | rintro _ ⟨⟨_,X⟩,rfl⟩ | rintro ⟨_,X⟩)
   clear q1 q2
   go_wp2_with (first | (refine X.l1 ?_) | (refine X.l1g ?_) | fail)
   (try (go_ret;exact⟨by rw[NE.out];simp,X.k⟩))
  all_goals
   rcases three bb wa with rfl | ⟨rfl,rfl⟩ | ⟨rfl,rfl⟩
  all_goals
   refine X.qq fun _=>?_
   have q1:=X.qc (g:=W.heap.size) (j:=1) (v:=.int .i64 na)
   have q2:=X.qc (g:=W.heap.size) (j:=2) (v:=.int .i64 nb)
   repeat (first | go_big_quiet_step ((go_at_call 167;exact Bx.cq (ayU _ _))) | go_big_quiet_step ((go_at_call 168;exact Bx.cq (IB.out _ (Bx.k (Bx.W.bx _))))) | go_big_quiet_step ((go_at_call 169;exact Bx.cq (WA.out _ (Bx.k (Bx.W.bx _))))))
   refine wpQuiet_nil ?_
   (first | rintro _ ⟨⟨_,X⟩,rfl⟩ | rintro ⟨_,X⟩)
   clear q1 q2
   go_wp2_with (first | (refine X.l1 ?_) | (refine X.l1g ?_) | fail)
   (try (go_ret;exact⟨by rw[NE.out];simp,X.k⟩))
 ·rcases no with rfl | rfl
  all_goals
   first | obtain rfl:u=0:=hu.symm | obtain rfl:u=1:=hu.symm
   clear hu
   go_enter Tryz.func166,Tryz.ntmps166
   go_upto_region 1 with fail
   generalize h:World.alloc _ _=w1
   have X:=Bx.of1 h
   clear h
   go_wp2_with (first | (refine X.l1 ?_) | (refine X.l1g ?_) | fail)
   rcases three bb wa with rfl | ⟨rfl,rfl⟩ | ⟨rfl,rfl⟩
  all_goals
   refine X.qq fun _=>?_
   have q1:=X.qc (g:=W.heap.size) (j:=1) (v:=.int .i64 na)
   have q2:=X.qc (g:=W.heap.size) (j:=2) (v:=.int .i64 nb)
   repeat (first | go_big_quiet_step ((go_at_call 167;exact Bx.cq (ayU _ _))) | go_big_quiet_step ((go_at_call 168;exact Bx.cq (IB.out _ (Bx.k (Bx.W.bx _))))) | go_big_quiet_step ((go_at_call 169;exact Bx.cq (WA.out _ (Bx.k (Bx.W.bx _))))))
   refine wpQuiet_nil ?_
   (first | rintro _ ⟨⟨_,X⟩,rfl⟩ | rintro ⟨_,X⟩)
   clear q1 q2
   go_wp2_with (first | (refine X.l1 ?_) | (refine X.l1g ?_) | fail)
   (try (go_ret;exact⟨by rw[NE.out];simp,X.k⟩))
end
end
section
open Go.RowKit Go.IntWalk
set_option maxHeartbeats 4000000
set_option maxRecDepth 100000
theorem ayG {α : Type} {l:List α} {i:Nat} {x : α} (h:l[i]? = some x):l.set i x=l:=by
 obtain⟨h1,h2⟩:=lE h
 rw[←h2];exact List.set_getElem_self h1
def setO (cur:List aT) (i:Nat):Option Val→List aT
 | some k=>cur.set i (awH k)
 | none=>cur
section
variable {w0 w:World} {fb:Nat} {ca:List Value} {t:aH} {uI uT:Value} {cur:List aT} {tl:List Int} {l:List (Nat×List Value×TypeId)}
theorem ax4 (F:FB w0 fb ca t uI uT cur l) (X:Bo w0 w l (fos uI uT cur tl)) {i:Nat} (hi:i<cur.length) (k:Val) :
  Calls Tryz.prog 170 #[.pointer (some ⟨fb,0,none⟩),.int .i64 i,.agg #[.int .i64 k.kind,.int .i64 k.n]] w (avL w0 (.tuple #[]) l (fos uI uT (cur.set i (awH k)) tl)):=by
 obtain⟨G,c,rfl⟩:=X.at0 (.tail _ (.head _)) (show 0<cur.length by omega)
 have few:=F.few
 have hii:(i:Int)<cur.length:=by omega
 have HJ:=hI (fos_j (G:=G) (c:=c) (uT:=uT) (tl:=tl) hi (awH k))
 obtain⟨k0,k1⟩:=k
 dsimp only
 have FF:=hI F
 clear F
 go_enter Tryz.func170,Tryz.ntmps170
 go_upto_region 1 with fail
 generalize h:World.alloc _ _=w1
 have X:=X.al1 h
 clear h
 have l16:∀E:Up w1,E.to.cell? ⟨fb,13+3,none⟩=_:=fun E=>E.cell ((FF.out.tl _).fr X).cI
 have RX:Hid (∀E:Up w1,E.to.rangeAt w.heap.size 0 [.int .i64 k0,.int .i64 k1]):=fun E a u hu=>E.cell (X.bx.rg (.hd _) a u hu)
 refine aU 9 (by kernel_rfl) (by kernel_rfl) ?_
 simp only[List.take_succ_cons,List.take_zero,List.drop_succ_cons,List.drop_zero]
 repeat (first | (refine lqC (fun _ ⟨E,e⟩=>e ▸ RX.out E) ?_;go_simp) | go_big_quiet_step (fail))
 refine wpQuiet_nil ?_
 (first | rintro _ ⟨⟨w5,k5⟩,rfl⟩ | rintro ⟨w5,k5⟩ | (rename_i E;obtain⟨w5,k5⟩:=E))
 dsimp only
 have X:=X.on k5
 clear k5 l16 RX
 go_wp2_with (first | (refine X.so HJ.out (fun _ X=>?_) (by simp[bA];omega) (h1:=rfl)) | fail)
 exact bodyPost_ret (v:=.tuple #[]) (by simp[results,Tryz.results170,go_sem]) rfl ⟨rfl,X.tl1⟩
theorem ayN (F:FB w0 fb ca t uI uT cur l) (X:Bo w0 w l (fos uI uT cur tl)) (x:aT) {na:Nat} (ea:x.a=na) (ha:na<cur.length) (hop:x.op=7∧(∃nb:Nat,x.b=nb∧nb<cur.length)∨x.op=8) {i:Nat} (hi:i<cur.length) :
  Calls Tryz.prog 102 #[.pointer (some ⟨fb,0,none⟩),.int .i64 i,yA x] w (avL w0 (.bool (awJ (ax3 t.ins) cur x).isSome) l (fos uI uT (setO cur i (awJ (ax3 t.ins) cur x)) tl)):=by
 obtain⟨y,hy⟩:∃y,cur[na]? = some y:=⟨_,lG ha⟩
 have iy:awE cur na=y:=by unfold awE;rw[show(na:Int).toNat=na from rfl,hy];rfl
 have FF:=hI F
 have HY:=hI hy
 obtain⟨op,xa,xb,xc,xn,xe,⟨kk,kn⟩⟩:=x
 dsimp only at ea hop
 subst ea
 obtain⟨⟨⟨uk,un⟩,ut⟩,hu⟩:∃r,qY xn y.k=r:=⟨_,rfl⟩
 have UC:Hid (∀W,_):=fun W=>unary_c xn y.k W
 rw[hu] at UC
 have RE:∀(b:Int),xb=b→Hid (awJ (ax3 t.ins) cur ⟨op,na,xb,xc,xn,xe,⟨kk,kn⟩⟩=if(y.op == 2)=false then none else if op=7 then(if awN cur b=false then none else if(jV xn y.k (awE cur b).k).2<0 then some (jV xn y.k (awE cur b).k).1 else none) else if ut<0 then some ⟨uk,un⟩ else none):=fun b e=>by
  unfold awJ awN Hid
  dsimp only
  rw[iy,e,show(ax3 t.ins).U xn y.k=_ from hu];rfl
 unfold mA at UC
 dsimp only at UC
 generalize awJ (ax3 t.ins) cur ⟨op,na,xb,xc,xn,xe,⟨kk,kn⟩⟩=r at RE ⊢
 unfold yA
 dsimp only
 clear F hu iy
 rcases hop with ⟨rfl,nb,rfl,hb⟩ | rfl
 ·obtain⟨z,hz⟩:∃z,cur[nb]? = some z:=⟨_,lG hb⟩
  have iz:awE cur nb=z:=by unfold awE;rw[show(nb:Int).toNat=nb from rfl,hz];rfl
  have HZ:=hI hz
  have RE:=RE nb rfl
  unfold awN at RE
  rw[iz] at RE
  obtain⟨⟨⟨bk,bn⟩,bt⟩,hb⟩:∃r,jV xn y.k z.k=r:=⟨_,rfl⟩
  have BC:Hid (∀W,_):=fun W=>akN xn y.k z.k W
  rw[hb] at RE BC
  unfold mA at BC
  dsimp only at BC RE
  clear hz iz hb hy
  have hr:(((y.op == 2)=false∧r=none)∨((y.op == 2)=true∧(z.op == 2)=false∧r=none)∨((y.op == 2)=true∧(z.op == 2)=true∧bt<0∧r=some ⟨bk,bn⟩)∨((y.op == 2)=true∧(z.op == 2)=true∧0≤bt∧r=none)):=by
   rw[RE.out]
   by_cases c:bt<0
   ·rw[if_pos c]
    cases (y.op == 2) <;> cases (z.op == 2) <;> simp[c]
   ·rw[if_neg c]
    cases (y.op == 2) <;> cases (z.op == 2) <;> simp <;> omega
  clear RE
  rcases hr with ⟨c1,rfl⟩ | ⟨c1,c2,rfl⟩ | ⟨c1,c2,c3,rfl⟩ | ⟨c1,c2,c3,rfl⟩
  all_goals
   go_enter Tryz.func102,Tryz.ntmps102
   go_upto_region 1 with fail
   generalize h:World.alloc _ _=w1
   have X:=X.al1 h
   clear h
   go_wp2_with (first | (refine X.bx.l1 ?_) | fail)
   refine X.call (ayT (FB.fr (by repeat (first | exact FF.out | apply FB.tl)) X) HY.out) fun _ X=>?_
   go_wp2_with (first | (go_at_call 103;refine X.call (ayT (FB.fr (by repeat (first | exact FF.out | apply FB.tl)) X) HZ.out) fun _ X=>?_) | (go_at_call 172;refine X.call (UC.out _) fun _ X=>?_) | (go_at_call 173;refine X.call (BC.out _) fun _ X=>?_) | (go_at_call 170;refine avP (ax4 (k:=⟨bk,bn⟩) (by repeat (first | exact FF.out | apply FB.tl)) X hi) fun _ X=>?_) | (refine X.sta fun _ X=>?_) | (refine X.st fun _ X=>?_) | (refine X.bx.ld ?_) | (refine X.bx.l1 ?_) | fail)
   go_ret
   exact⟨by first | rfl | (simp;omega),by repeat (first | exact X | apply Bo.tl1)⟩
 ·have RE:=RE xb rfl
  clear hy
  have hr:(((y.op == 2)=false∧r=none)∨((y.op == 2)=true∧ut<0∧r=some ⟨uk,un⟩)∨((y.op == 2)=true∧0≤ut∧r=none)):=by
   rw[RE.out]
   by_cases c:ut<0
   ·rw[if_pos c]
    cases (y.op == 2) <;> simp[c]
   ·rw[if_neg c]
    cases (y.op == 2) <;> simp <;> omega
  clear RE
  rcases hr with ⟨c1,rfl⟩ | ⟨c1,c3,rfl⟩ | ⟨c1,c3,rfl⟩
  all_goals
   go_enter Tryz.func102,Tryz.ntmps102
   go_upto_region 1 with fail
   generalize h:World.alloc _ _=w1
   have X:=X.al1 h
   clear h
   go_wp2_with (first | (go_at_call 103;refine X.call (ayT (FB.fr (by repeat (first | exact FF.out | apply FB.tl)) X) HY.out) fun _ X=>?_) | (go_at_call 172;refine X.call (UC.out _) fun _ X=>?_) | (go_at_call 170;refine avP (ax4 (k:=⟨uk,un⟩) (by repeat (first | exact FF.out | apply FB.tl)) X hi) fun _ X=>?_) | (refine X.sta fun _ X=>?_) | (refine X.st fun _ X=>?_) | (refine X.bx.ld ?_) | (refine X.bx.l1 ?_) | fail)
   go_ret
   exact⟨by first | rfl | (simp;omega),by repeat (first | exact X | apply Bo.tl1)⟩
end
end
end Go.Proofs.YtijihlcdhppfgaaGreatDoor
