/- Part of the walk of the given code: contracts, and plain laws. -/
import Derived.Test.YtijihlcdhppfgaaGreatDoorXE
import Derived.Deep.DeepCutAuto
import Derived.Test.YtijihlcdhppfgaaGreatDoorXR
set_option maxHeartbeats 16000000
set_option maxRecDepth 100000
set_option linter.all false
namespace Go.Proofs.YtijihlcdhppfgaaGreatDoor
section
open Go.RowKit Go.IntWalk
set_option maxHeartbeats 4000000
set_option maxRecDepth 100000
section
variable {w0 w:World} {fb:Nat} {ca:List Value} {t:aH} {uI uT:Value} {cur:List aT} {tl:List Int} {l:List (Nat×List Value×TypeId)}
theorem twice_b (F:FB w0 fb ca t uI uT cur l) (X:Bo w0 w l (fos uI uT cur tl)) (x:aT) {i:Nat} (hi:i<cur.length) :
  Calls Tryz.prog 171 #[.pointer (some ⟨fb,0,none⟩),.int .i64 i,yA x] w (avL w0 (.bool (axQ (ax3 t.ins) x i).isSome) l (fos uI uT (setO cur i (axQ (ax3 t.ins) x i)) tl)):=by
 have few:=F.few
 have FF:=hI F
 have KC:Hid (∀W,bI W W.heap.size ca t→_):=fun W hT=>an7 ca t (x.a.toNat+1) x.a i W (by omega) hT (by omega) (by omega)
 have It:=hI F.tr.size13
 obtain⟨r,hr⟩:∃r,axQ (ax3 t.ins) x i=r:=⟨_,rfl⟩
 rw[hr]
 unfold axQ at hr
 rw[show(ax3 t.ins).K x.a i=kindM t.ins x.a i from rfl] at hr
 generalize kindM t.ins x.a i=kv at KC hr
 have T:(x.n=8∧0≤kv∧kv≠3∧r=some (axD true))∨(x.n=8∧kv<0∧r=none)∨(x.n=8∧kv=3∧r=none)∨(x.n≠8∧kv≠2∧r=none)∨(x.n=4∧kv=2∧r=some (awM 0))∨(x.n=9∧kv=2∧r=some (axD false))∨(x.n=10∧kv=2∧r=some (axD true))∨((x.n≠8∧x.n≠4∧x.n≠9∧x.n≠10)∧kv=2∧r=none):=by
  split at hr
  ·exact .inl ⟨by omega,by omega,by omega,hr.symm⟩
  split at hr
  ·by_cases c8:x.n=8
   ·rcases (show kv<0∨kv=3 by omega) with k | k
    ·exact .inr (.inl ⟨c8,k,hr.symm⟩)
    ·exact .inr (.inr (.inl ⟨c8,k,hr.symm⟩))
   ·exact .inr (.inr (.inr (.inl ⟨c8,by omega,hr.symm⟩)))
  split at hr
  ·exact .inr (.inr (.inr (.inr (.inl ⟨by omega,by omega,hr.symm⟩))))
  split at hr
  ·rename_i c
   rcases c with c | c
   ·exact .inr (.inr (.inr (.inr (.inr (.inl ⟨c,by omega,by rw[←hr,c];rfl⟩)))))
   ·exact .inr (.inr (.inr (.inr (.inr (.inr (.inl ⟨c,by omega,by rw[←hr,c];rfl⟩))))))
  ·exact .inr (.inr (.inr (.inr (.inr (.inr (.inr ⟨by omega,by omega,hr.symm⟩))))))
 clear hr F
 obtain⟨op,xa,xb,xc,xn,xe,⟨kk,kn⟩⟩:=x
 unfold yA
 dsimp only at T KC ⊢
 rcases T with ⟨rfl,k0,k3,rfl⟩ | ⟨rfl,k0,rfl⟩ | ⟨rfl,rfl,rfl⟩ | ⟨n8,k2,rfl⟩ | ⟨rfl,rfl,rfl⟩ | ⟨rfl,rfl,rfl⟩ | ⟨rfl,rfl,rfl⟩ | ⟨⟨n8,n4,n9,n10⟩,rfl,rfl⟩
 all_goals
  (try replace n8:=beq_eq_false_iff_ne.2 n8)
  (try replace n4:=beq_eq_false_iff_ne.2 n4)
  (try replace n9:=beq_eq_false_iff_ne.2 n9)
  (try replace n10:=beq_eq_false_iff_ne.2 n10)
  go_enter Tryz.func171,Tryz.ntmps171
  go_upto_region 1 with fail
  generalize h:World.alloc _ _=w1
  have X:=X.al1 h
  clear h
  have FX:=(FF.out.tl _).fr X
  have q1:∀E:Up w1,E.to.cell? ⟨w.heap.size,1,none⟩=some (.int .i64 xa):=fun E=>E.cell (X.bx.cl (.hd _) rfl)
  have RR:Hid (∀E:Up w1,E.to.rangeAt fb 0 ca):=fun E j v hv=>E.cell (FX.was j v hv)
  have KU:Hid (∀E:Up w1,_):=fun E=>KC.out E.to (FX.tr.below E.below)
  clear FX
  refine aD (by kernel_rfl) (by kernel_rfl) ?_
  repeat (first | (refine lqC (fun _ ⟨E,e⟩=>e ▸ RR.out E) ?_ (hi:=It.out);go_simp) | go_big_quiet_step ((go_at_call 97;exact Calls.up (KU.out _))))
  refine wpQuiet_nil ?_
  (first | rintro _ ⟨⟨w5,k5⟩,rfl⟩ | rintro ⟨w5,k5⟩ | (rename_i E;obtain⟨w5,k5⟩:=E))
  dsimp only
  have X:=X.on k5
  clear k5 q1 RR KU
  go_wp2_with (first | (refine X.bx.l1 ?_) | (refine X.bx.l1g ?_) | (go_at_call 167;refine X.call (ayU _ _) fun _ X=>?_) | (go_at_call 216;refine X.call (ayO _ _) fun _ X=>?_) | (go_at_call 170;refine avP (ax4 (k:=⟨_,_⟩) (FF.out.tl _) X hi) fun _ X=>?_) | fail)
  go_ret
  exact⟨rfl,X.tl1⟩
end
end
section
open Go.RowKit Go.IntWalk
set_option maxHeartbeats 1000000
set_option maxRecDepth 100000
def smR (x:aT) (i:Int):Option Val→aT×Int
 | some k=>(awH k,i)
 | none=>(x,i)
section
variable {w0 w:World} {fb:Nat} {ca:List Value} {t:aH} {uI uT:Value} {cur:List aT} {tl:List Int} {l:List (Nat×List Value×TypeId)}
theorem two_b (F:FB w0 fb ca t uI uT cur l) (X:Bo w0 w l (fos uI uT cur tl)) (x:aT) {na nb:Nat} (ea:x.a=na) (eb:x.b=nb) (ha:na<cur.length) (hb:nb<cur.length) (h7:x.op=7) {i:Nat} (hx:cur[i]? = some x) (ht:tl[i]? = some (i:Int)) :
  Calls Tryz.prog 101 #[.pointer (some ⟨fb,0,none⟩),.int .i64 i,yA x] w (avL w0 (.tuple #[]) l (fos uI uT (cur.set i (ayF (ax3 t.ins) cur x i).1) (tl.set i (ayF (ax3 t.ins) cur x i).2))):=by
 have hi:=(lE hx).1
 have hl:=(lE ht).1
 obtain⟨T,c,rfl⟩:=X.at0 (.head _) (show 0<tl.length by omega)
 have few:=F.few
 have hii:(i:Int)<tl.length:=by omega
 obtain⟨fcs,i3,-,-,e26⟩:=F.fc.in_
 have I3:=hI i3
 have E26:=hI e26
 have FF:=hI F
 have SX:=hI (ayG hx)
 have ST:=hI (ayG ht)
 have HT:=hI (fos_t (G:=T) (c:=c) (tl:=tl) (uI:=uI) (cur:=cur) (i:=i))
 have RK:Hid (∀w l,FB w0 fb ca t uI _ cur l→Bo w0 w l _→_):=fun w l F X=>ayN (w:=w) (l:=l) (tl:=tl) (uT:=.slice (some ⟨T,0,none⟩) tl.length c) F X x ea ha (.inl ⟨h7,nb,eb,hb⟩) hi
 have NK:Hid (∀W,FR W fb ca t uI cur→_):=fun W h=>fneut_c h x ea eb ha hb (i:=i) (by omega)
 have TK:Hid (∀w l,FB w0 fb ca t uI _ cur l→Bo w0 w l _→_):=fun w l F X=>twice_b (w:=w) (l:=l) (tl:=tl) (uT:=.slice (some ⟨T,0,none⟩) tl.length c) F X x hi
 have IA:Hid (∀W,FR W fb ca t uI cur→Calls Tryz.prog _ #[_,.int .i64 x.a,_] _ _):=fun W h=>by rw[ea];exact ayV h ha (awM 0)
 have IB:Hid (∀W,FR W fb ca t uI cur→Calls Tryz.prog _ #[_,.int .i64 x.b,_] _ _):=fun W h=>by rw[eb];exact ayV h hb (awM 0)
 have WA:Hid (∀W,FR W fb ca t uI cur→Calls Tryz.prog _ #[_,.int .i64 x.a,_] _ _):=fun W h=>by rw[ea];exact ax7 h (na:Int) (i:=i) (by omega)
 have WB:Hid (∀W,FR W fb ca t uI cur→Calls Tryz.prog _ #[_,.int .i64 x.b,_] _ _):=fun W h=>by rw[eb];exact ax7 h (nb:Int) (i:=i) (by omega)
 obtain⟨r,hr⟩:∃r,ayF (ax3 t.ins) cur x i=r:=⟨_,rfl⟩
 rw[hr]
 unfold ayF at hr
 rw[ea,eb] at hr
 generalize awJ (ax3 t.ins) cur x=rk at RK hr
 generalize awT (ax3 t.ins) cur x i=nv at NK hr
 generalize axQ (ax3 t.ins) x i=sm at TK hr
 generalize isM cur na (awM 0)=ba at IA hr
 generalize isM cur nb (awM 0)=bb at IB hr
 generalize aw0 (ax3 t.ins) na i=wa at WA hr
 generalize aw0 (ax3 t.ins) nb i=wb at WB hr
 unfold yA at RK NK TK ⊢
 have EA:=hI ea
 have EB:=hI eb
 clear i3 e26 F hx ht ea eb h7
 cases rk with
 | some k=>
  dsimp only at hr
  subst hr
  dsimp only
  rw[ST.out]
  go_enter Tryz.func101,Tryz.ntmps101
  go_upto_region 1 with fail
  generalize h:World.alloc _ _=w1
  have X:=X.al1 h
  clear h
  go_wp2_with (first | (refine X.bx.ld ?_) | (go_at_call 102;refine avP (RK.out _ _ (FF.out.tl _) X) fun _ X=>?_) | fail)
  exact bodyPost_ret (v:=.tuple #[]) (by simp[results,Tryz.results101,go_sem]) rfl ⟨rfl,X.tl1⟩
 | none=>
 dsimp only at hr
 by_cases c0:0≤nv
 ·rw[if_pos c0] at hr
  subst hr
  dsimp only
  rw[SX.out]
  go_enter Tryz.func101,Tryz.ntmps101
  go_upto_region 1 with fail
  generalize h:World.alloc _ _=w1
  have X:=X.al1 h
  clear h
  go_wp2_with (first | (refine X.bx.ld ?_) | (go_at_call 102;refine avP (RK.out _ _ (FF.out.tl _) X) fun _ X=>?_) | (go_at_call 166;refine X.call (NK.out _ ((FF.out.tl _).fr X)) fun _ X=>?_) | (refine X.bx.lo (.tl _ I3.out) E26.out ?_) | (refine X.so1 (HT.out nv) (fun _ X=>?_) (by omega)) | fail)
  exact bodyPost_ret (v:=.tuple #[]) (by simp[results,Tryz.results101,go_sem]) rfl ⟨rfl,X.tl1⟩
 rw[if_neg c0] at hr
 have c0:=Int.not_le.1 c0
 obtain⟨z,hz⟩:∃z:Bool,(x.n == 5 && ((ba && wb) || (bb && wa)))=z:=⟨_,rfl⟩
 have HR:Hid (r=if z=true then(awH (awM 0),(i:Int)) else if(na:Int)=nb then smR x i sm else(x,(i:Int))):=by
  rw[←hr,←hz]
  simp only[Bool.and_eq_true,beq_iff_eq]
  clear hr TK
  cases sm <;> rfl
 have HZ:=hI hz
 clear hr hz
 go_enter Tryz.func101,Tryz.ntmps101
 go_upto_region 1 with fail
 generalize h:World.alloc _ _=w1
 have X:=X.al1 h
 clear h
 go_upto_region 6 with (first | (refine X.bx.ld ?_) | (go_at_call 102;refine avP (RK.out _ _ (FF.out.tl _) X) fun _ X=>?_) | (go_at_call 166;refine X.call (NK.out _ ((FF.out.tl _).fr X)) fun _ X=>?_) | (go_at_call 167;refine X.call (ayU _ _) fun _ X=>?_) | (refine X.sta fun _ X=>?_) | fail)
 (try dsimp only [Act.put])
 clear RK NK
 go_cut [56] (fun q wx=>q=.bool z∧Bo w0 wx _ (fos uI (.slice (some ⟨T,0,none⟩) tl.length c) cur tl))
 case first=>
  cases b5:x.n == 5
  ·go_wp2_with (first | (refine X.bx.l1 ?_) | fail)
   go_meet
   exact⟨by rw[←HZ.out,b5];simp,X⟩
  go_wp2_with (first | (refine X.bx.lgd ?_) | (refine X.bx.l1 ?_) | (refine X.bx.l1g ?_) | fail)
  refine X.call (IA.out _ ((FF.out.tl _).tl _ |>.fr X)) fun _ X=>?_
  cases ba
  case' true=>
   go_wp2_with (first | (refine X.bx.lgd ?_) | (refine X.bx.l1 ?_) | (refine X.bx.l1g ?_) | fail)
   refine X.call (WB.out _ ((FF.out.tl _).tl _ |>.fr X)) fun _ X=>?_
   cases wb
   rotate_left
   ·go_wp2_with (first | (refine X.bx.lgd ?_) | (refine X.bx.l1 ?_) | (refine X.bx.l1g ?_) | fail)
    go_meet
    exact⟨by rw[←HZ.out,b5];simp,X⟩
  all_goals
   go_wp2_with (first | (refine X.bx.lgd ?_) | (refine X.bx.l1 ?_) | (refine X.bx.l1g ?_) | fail)
   refine X.call (IB.out _ ((FF.out.tl _).tl _ |>.fr X)) fun _ X=>?_
   cases bb
   case' true=>
    go_wp2_with (first | (refine X.bx.lgd ?_) | (refine X.bx.l1 ?_) | (refine X.bx.l1g ?_) | fail)
    refine X.call (WA.out _ ((FF.out.tl _).tl _ |>.fr X)) fun _ X=>?_
    cases wa
   all_goals
    go_wp2_with (first | (refine X.bx.lgd ?_) | (refine X.bx.l1 ?_) | (refine X.bx.l1g ?_) | fail)
    go_meet
    exact⟨by rw[←HZ.out,b5];simp,X⟩
 case rest=>
  obtain⟨rfl,X⟩:=hcut
  cases z with
  | true=>
   obtain rfl:r=_:=HR.out.trans (if_pos rfl)
   go_wp2_with (first | (refine X.bx.ld ?_) | (go_at_call 170;refine avP (ax4 (k:=awM 0) ((FF.out.tl _).tl _) X hi) fun _ X=>?_) | fail)
   exact bodyPost_ret (v:=.tuple #[]) (by simp[results,Tryz.results101,go_sem]) rfl ⟨rfl,by(try dsimp only);rw[ST.out];exact X.tl1.tl1⟩
  | false=>
   have HR:=HR.out.trans (if_neg (by decide))
   by_cases e:(na:Int)=nb
   ·have e2:(x.a == x.b)=true:=by rw[EA.out,EB.out];exact beq_iff_eq.2 e
    obtain rfl:r=smR x i sm:=HR.trans (if_pos e)
    have HO:Hid (fos uI (.slice (some ⟨T,0,none⟩) tl.length c) (setO cur i sm) tl=fos uI (.slice (some ⟨T,0,none⟩) tl.length c) (cur.set i (smR x i sm).1) (tl.set i (smR x i sm).2)):=by
     cases sm <;> (unfold setO smR Hid;dsimp only;rw[ST.out];try rw[SX.out])
    clear HR e
    go_wp2_with (first | (refine X.bx.ld ?_) | (refine X.bx.l1 ?_) | (go_at_call 171;refine avP (TK.out _ _ ((FF.out.tl _).tl _) X) fun _ X=>?_) | fail)
    exact bodyPost_ret (v:=.tuple #[]) (by simp[results,Tryz.results101,go_sem]) rfl ⟨rfl,by rw[←HO.out];exact X.tl1.tl1⟩
   ·have e2:(x.a == x.b)=false:=by rw[EA.out,EB.out];exact beq_eq_false_iff_ne.2 e
    obtain rfl:r=(x,(i:Int)):=HR.trans (if_neg e)
    clear HR e
    go_wp2_with (first | (refine X.bx.l1 ?_) | fail)
    exact bodyPost_ret (v:=.tuple #[]) (by simp[results,Tryz.results101,go_sem]) rfl ⟨rfl,by(try dsimp only);rw[ST.out,SX.out];exact X.tl1.tl1⟩
end
end
end Go.Proofs.YtijihlcdhppfgaaGreatDoor
