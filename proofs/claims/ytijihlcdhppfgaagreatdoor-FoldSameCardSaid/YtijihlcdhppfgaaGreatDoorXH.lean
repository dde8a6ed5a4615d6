/- Part of the walk of the given code: contracts, and plain laws. -/
import Derived.Test.YtijihlcdhppfgaaGreatDoorZDA
import Derived.Test.YtijihlcdhppfgaaGreatDoorXA
import Derived.Deep.DeepCutAuto
import Derived.Test.YtijihlcdhppfgaaGreatDoorXR
import Derived.Test.YtijihlcdhppfgaaGreatDoorXD
import Derived.Test.YtijihlcdhppfgaaGreatDoorZN
import Derived.Test.YtijihlcdhppfgaaGreatDoorZBC
set_option maxHeartbeats 16000000
set_option maxRecDepth 100000
set_option linter.all false
namespace Go.Proofs.YtijihlcdhppfgaaGreatDoor
section
open Go.RowKit
set_option maxHeartbeats 8000000
set_option maxRecDepth 100000
theorem fput_c (x:aT) (uT:Value) (tl:List Int) (W:World) (hx:kX x) (hs:aB W W.heap.size 1 gB uT tl) (ho:∀o∈bU x,0≤o∧o<tl.length) (few:tl.length≤300) :
  Calls Tryz.prog 50 #[yA x,uT] W (aK (yA (iA (fun v=>tl.getD v.toNat 0) x)) W):=by
 obtain⟨A,cA,rfl,hc1,hc2,-⟩:=id hs
 unfold maxLen at hc2
 obtain⟨a0,a3,-⟩:=vG x.op
 obtain⟨n,hn⟩:=Int.eq_ofNat_of_zero_le a0
 have AC:=hI (fun W=>akR x hx W)
 have hm:∀(m:Nat) v,m<n→[x.a,x.b,x.c][m]? = some v→0≤v∧v<tl.length:=fun m v h1 h2=>ho v (by
  unfold bU
  refine List.mem_of_getElem? (i:=m) ?_
  rw[List.getElem?_take,if_pos (by omega)];exact h2)
 have hl:(bU x).length=n:=by unfold bU;rw[hn,Int.toNat_natCast,List.length_take];simp;omega
 obtain⟨op,xa,xb,xc,xn,xe,⟨kk,kn⟩⟩:=x
 dsimp only at hn a3 hm
 obtain⟨F,hF⟩:∃F:Int→Int,(fun v:Int=>tl.getD v.toNat 0)=F:=⟨_,rfl⟩
 have HF:Hid (∀k:Nat,F k=tl.getD k 0):=fun k=>by rw[←hF];rfl
 rw[hF]
 have HP:=hI (avZ F op xa xb xc xn xe ⟨kk,kn⟩ n hn)
 have HS:=hI hs
 have HM:=hI hm
 have hn3:n≤3:=by omega
 have hn3':(n:Int)≤3:=by omega
 clear hx hs ho hm hn a0 a3 hF
 unfold yA at AC ⊢
 dsimp only at AC ⊢
 go_enter Tryz.func50,Tryz.ntmps50
 go_upto_region 1 with fail
 generalize h:World.alloc _ _=w1
 have X:=Bx.of2 h
 clear h
 go_upto_region 2 with fail
 generalize h:World.alloc _ _=w2
 have X:=X.al1 h
 clear h
 go_wp2_with (first | (refine X.ld ?_) | fail)
 refine(AC.out _).mono ?_
 rintro e w3 ⟨v,rfl,hv,k3⟩
 have X:=X.on k3
 obtain⟨A7,cap7,rfl,lv,lc7,-⟩:=hv
 unfold maxLen at lc7
 rw[hl] at lv ⊢
 clear hl k3 AC
 go_wp2_with fail
 go_loopw [14] (fun i wx=>∃m:Nat,i=.int .i64 m∧m≤n∧Bx W wx ((_,[.pointer (some ⟨W.heap.size,1,none⟩),.pointer (some ⟨W.heap.size,2,none⟩),.pointer (some ⟨W.heap.size,3,none⟩)],_)::(W.heap.size+1,_,53)::(W.heap.size,[.int .i64 op,.int .i64 (avW F m 0 xa),.int .i64 (avW F m 1 xb),.int .i64 (avW F m 2 xc),.int .i64 xn,.int .i64 xe,.int .i64 kk,.int .i64 kn],53)::[])) (fun i _=>n - (RowKit.intOf i).toNat)
 case atStart=>exact⟨0,rfl,by omega,X⟩
 case round=>
  clear X
  obtain⟨m,rfl,hm,X⟩:=hrel
  by_cases hlt:m<n
  ·have hji:(m:Int)<n:=by omega
   have h3:m=0∨m=1∨m=2:=by omega
   rcases h3 with rfl | rfl | rfl
   all_goals
    obtain⟨h0,h1⟩:=HM.out _ _ hlt rfl
    obtain⟨kv,hk⟩:=Int.eq_ofNat_of_zero_le h0
    subst hk
    have hkl:kv<tl.length:=by omega
    obtain⟨b2,off2,u,us,hA,hb2,hu,-,⟨rfl,-⟩,hat2⟩:=HS.out.at_ hkl
    obtain rfl:F kv=u:=by rw[HF.out,List.getD_eq_getElem?_getD,hu];rfl
    subst hA
    have e3:∀E:Up wr,E.to.cell? ⟨b2,off2+kv,none⟩=some (.int .i64 (F kv)):=fun E=>E.cell ((X.k.cell hb2).trans (by simpa using hat2 0 _ rfl))
    have e1:∀E:Up wr,∀j v,[Value.int .i64 op,.int .i64 (avW _ _ 0 _),.int .i64 (avW _ _ 1 _),.int .i64 (avW _ _ 2 _),.int .i64 xn,.int .i64 xe,.int .i64 kk,.int .i64 kn][j]? = some v→E.to.cell? ⟨W.heap.size,j,none⟩=some v:=fun E j v h=>E.cell (X.cl (.tl _ <| .tl _ <| .hd _) h)
    have e2:=fun (E:Up wr) j v h=>E.cell (X.cl (v:=v) (j:=j) (.hd _) h)
    first | have q1:=fun E:Up wr=>e1 E 1 (.int .i64 (kv:Int)) rfl | have q1:=fun E:Up wr=>e1 E 2 (.int .i64 (kv:Int)) rfl | have q1:=fun E:Up wr=>e1 E 3 (.int .i64 (kv:Int)) rfl
    have q0:=fun E:Up wr=>e2 E 0 _ rfl
    have q2:=fun E:Up wr=>e2 E 1 _ rfl
    have q3:=fun E:Up wr=>e2 E 2 _ rfl
    clear hat2 hu e1 e2 h0
    go_upto_region 5 with fail
    refine aU 13 (by kernel_rfl) (by kernel_rfl) ?_
    simp only[List.take_succ_cons,List.take_zero,List.drop_succ_cons,List.drop_zero]
    repeat (go_big_quiet_step (fail))
    refine wpQuiet_nil ?_
    rintro _ ⟨⟨wy,ky⟩,rfl⟩
    have X:=X.on ky
    clear ky e3 q0 q1 q2 q3
    go_wp2_with (first | (refine X.s1 fun _ X=>?_) | fail)
    go_roundw
    case rel=>first | exact⟨0+1,rfl,by omega,X⟩ | exact⟨1+1,rfl,by omega,X⟩ | exact⟨2+1,rfl,by omega,X⟩
    case measure=>simp[RowKit.intOf];omega
  ·obtain rfl:m=n:=by omega
   have hji:¬(m:Int)<m:=by omega
   go_wp2_with (first | (refine X.ld ?_) | (refine X.st fun _ X=>?_) | fail)
   exact X.rt1 ⟨by rw[show iA _ _=_ from HP.out],X.k⟩
end
section
open Go.RowKit Go.Maps
set_option maxHeartbeats 8000000
set_option maxRecDepth 100000
def alV (p:aZ) (t:aH):Int:=cQ aF (bH p) (p.fns.map gI) t
def ay5 (p:aZ) (t:aH) (w:World) (e:Ending) (w':World):Prop:=
 ∃cs,e=.returned (.tuple #[.agg ⟨cs⟩,.int .i64 (aoU (ax3 t.ins) (alV p t) t).2])∧bI w' w'.heap.size cs (aoU (ax3 t.ins) (alV p t) t).1∧Below w.heap.size w w'
theorem ayZ {E:awF} {l:List aT} {j:Nat} {s:awL} (h:awY E l j s) {x:aT} (hx:kX x) (hj:j≤300):kX (aw5 s x):=by
 obtain⟨h0,ha,hb,hc,h4⟩:=hx
 have b:∀v:Int,wfi (s.tl.getD v.toNat 0):=fun v=>by
  rw[List.getD_eq_getElem?_getD]
  cases e:s.tl[v.toNat]? with
  | none=>unfold wfi;simp
  | some u=>
   have hl:=(lE e).1
   have:=h.len
   rcases h.idem _ _ e with ⟨c,_⟩ | ⟨c,d,_⟩
   ·subst c;unfold wfi;simp
   ·unfold wfi;simp only[Option.getD_some];omega
 have c:∀(p:Prop) [Decidable p] (v:Int),wfi v→wfi (if p then s.tl.getD v.toNat 0 else v):=fun p _ v h=>by
  split
  ·exact b _
  ·exact h
 exact⟨h0,c _ _ ha,c _ _ hb,c _ _ hc,h4⟩
theorem ay7 (ins:List aT) {l:List aT} (ha:awZ l) (hl:l.length≤300) (hw:∀x∈l,kX x):∀j,j≤l.length→∀x∈(awG (ax3 ins) (l.take j) ⟨[],[]⟩).ins,kX x
 | 0,_,x,h=>by rw[List.take_zero] at h;simp[awG] at h
 | j+1,hj,x,h=>by
  have hx:l[j]? = some (l[j]'(by omega)):=lG (by omega)
  have hI:=axC (ax3 ins) ha j (by omega)
  rw[axE hx] at h
  rcases List.mem_append.1 h with h | h
  ·exact ay7 ins ha hl hw j (by omega) x h
  ·obtain rfl:=List.mem_singleton.1 h
   have wy:=ayZ hI (hw _ (List.mem_of_getElem? hx)) (by omega)
   rcases ayP (P:=WfV) (F:=ax3 ins) (done:=(awG (ax3 ins) (l.take j) ⟨[],[]⟩).ins) (x:=aw5 (awG (ax3 ins) (l.take j) ⟨[],[]⟩) (l[j]'(by omega))) (i:=((awG (ax3 ins) (l.take j) ⟨[],[]⟩).tl.length:Int)) (fun _ _ _=>(ahI _ _ _).1) (fun _ _=>(ahR _ _).1) ⟨gE rfl,gE rfl⟩ (fun b=>by cases b <;> exact⟨gE rfl,gE rfl⟩) with e | ⟨k,e,hk⟩
   ·rw[e];exact wy
   ·rw[e]
    exact⟨gE rfl,gE rfl,gE rfl,gE rfl,gE rfl,gE rfl,hk.1,hk.2⟩
theorem ayX {E:awF} {d d':List aT} {y:aT} {i:Int} (ha:(y.op=7∨y.op=8∨y.op=4∨y.op=5∨y.op=6)→awE d y.a=awE d' y.a) (hb:y.op=7→awE d y.b=awE d' y.b):awP E d y i=awP E d' y i:=by
 unfold awP ayF awJ awT isM awN
 by_cases h7:y.op=7
 ·rw[ha (.inl h7),hb h7]
 rw[if_neg h7,if_neg h7,if_neg h7,if_neg h7]
 by_cases h8:y.op=8
 ·rw[ha (.inr (.inl h8))]
 rw[if_neg h8,if_neg h8]
 by_cases hg:y.op=4∨y.op=5∨y.op=6
 ·rw[ha (by omega)]
 ·rw[if_neg hg,if_neg hg]
theorem ay6 {E:awF} {l:List aT} {j:Nat} {s:awL} (h:awY E l j s) (ha:awZ l) {x:aT} (hx:l[j]? = some x) :
  (s.ins++l.drop j)[j]? = some x∧iA (fun v=>(s.tl++[(j:Int)]).getD v.toNat 0) x=aw5 s x∧
   (∀o∈bU x,0≤o∧o<((s.tl++[(j:Int)]).length:Int))∧
   ((s.ins++l.drop j).set j (aw5 s x))[j]? = some (aw5 s x)∧(s.tl++[(j:Int)])[j]? = some (j:Int)∧
   (∀o∈bU (aw5 s x),0≤o∧o<(((s.ins++l.drop j).set j (aw5 s x)).length:Int))∧
   ((s.ins++l.drop j).set j (aw5 s x)).set j (awP E ((s.ins++l.drop j).set j (aw5 s x)) (aw5 s x) j).1=(awO E s x).ins++l.drop (j+1)∧
   (s.tl++[(j:Int)]).set j (awP E ((s.ins++l.drop j).set j (aw5 s x)) (aw5 s x) j).2=(awO E s x).tl:=by
 have hl:=h.len
 have hi:=h.lin
 have hp:=axH h ha hx
 have hj:=(lE hx).1
 have hd:l.drop j=x::l.drop (j+1):=by
  rw[List.drop_eq_getElem_cons hj,(lE hx).2]
 have es:(s.ins++l.drop j).set j (aw5 s x)=s.ins++aw5 s x::l.drop (j+1):=by
  rw[List.set_append_right _ _ (by omega),hi,Nat.sub_self,hd];rfl
 have hq:∀o∈bU (aw5 s x),0≤o∧o.toNat<s.ins.length:=fun o ho=>by have:=hp o ho;omega
 have ef:awP E (s.ins++aw5 s x::l.drop (j+1)) (aw5 s x) j=awP E s.ins (aw5 s x) s.tl.length:=by
  rw[hl]
  exact ayX (fun c=>awS (hq _ (awI (by rcases c with c | c | c | c | c <;> rw[c] <;> decide))).2) (fun c=>awS (hq _ (awU (by rw[c];decide))).2)
 rw[es]
 refine⟨?_,tH fun v hv=>?_,fun o ho=>?_,?_,?_,fun o ho=>?_,?_,?_⟩
 ·rw[List.getElem?_append_right (by omega),hi,Nat.sub_self,hd];rfl
 ·have:=ha j x hx v hv
  rw[List.getD_eq_getElem?_getD,List.getD_eq_getElem?_getD,List.getElem?_append_left (by omega)]
 ·have:=ha j x hx o ho
  simp only[List.length_append,List.length_cons,List.length_nil];omega
 ·rw[List.getElem?_append_right (by omega),hi,Nat.sub_self];rfl
 ·rw[List.getElem?_append_right (by omega),hl,Nat.sub_self];rfl
 ·have:=hp o ho
  simp only[List.length_append,List.length_cons];omega
 ·rw[ef,List.set_append_right _ _ (by omega),hi,Nat.sub_self]
  unfold awO
  simp
 ·rw[ef,List.set_append_right _ _ (by omega),hl,Nat.sub_self]
  unfold awO
  simp[hl]
theorem ayW:∀(xs:List aT),(xs.flatMap bA).length=xs.length*8
 | []=>rfl
 | x::l=>by rw[List.flatMap_cons,List.length_append,ayW l,List.length_cons];simp[bA];omega
theorem ay8 {w:World} {ad:Addr} {c:Nat} {xs:List aT} (h:aB w w.heap.size 8 xP (.slice (some ad) xs.length c) xs):∀j u,(xs.flatMap bA)[j]? = some u→w.cell? (ad.add j)=some u:=by
 intro j u hj
 have hl:j<(xs.flatMap bA).length:=(lE hj).1
 rw[ayW] at hl
 obtain⟨b,off,x,cs,e,hb,hx,-,⟨rfl,_⟩,hat⟩:=h.at_ (i:=j / 8) (by omega)
 injection e with e
 subst e
 have h1:=ayR xs (j / 8) (j % 8) x hx (by omega)
 rw[show j / 8*8+j % 8=j by omega,hj] at h1
 have h2:=hat (j % 8) u h1.symm
 rw[show off+j / 8*8+j % 8=off+j by omega] at h2
 by_cases hj0:j=0
 ·subst hj0;simpa [Addr.add] using h2
 ·simpa [Addr.add,hj0] using h2
end
end Go.Proofs.YtijihlcdhppfgaaGreatDoor
