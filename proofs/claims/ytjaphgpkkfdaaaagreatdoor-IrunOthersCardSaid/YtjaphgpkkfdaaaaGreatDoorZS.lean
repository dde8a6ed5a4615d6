/- Part of the walk of the given code: contracts of the functions that irun.Run reaches, and plain laws on what it reckons. -/
import Derived.Test.YtjaphgpkkfdaaaaGreatDoorZR
import Derived.Test.YtjaphgpkkfdaaaaGreatDoorZP
set_option maxHeartbeats 16000000
set_option maxRecDepth 100000
set_option linter.all false
namespace Go.Proofs.YtjaphgpkkfdaaaaGreatDoor
section
open Go.RowKit
def aZ (v:Val):List Value:=[.int .i64 v.kind,.int .i64 v.n]
theorem val_raw {w:World} {B:Nat} {v:Value} {l:List Val} (h:aH w B 2 hU v l):aH w B 2 (Raw 2) v (l.map aZ):=by
 obtain⟨A,cap,h1,h2,h3,h4⟩:=h
 refine⟨A,cap,by rw[List.length_map];exact h1,by rw[List.length_map];exact h2,h3,fun hp=>?_⟩
 obtain⟨b,off,e1,e2,e3⟩:=h4 (by simpa using hp)
 refine⟨b,off,e1,e2,fun i x hi=>?_⟩
 rw[List.getElem?_map] at hi
 obtain⟨y,hy,rfl⟩:=Option.map_eq_some_iff.1 hi
 obtain⟨cs,c1,⟨c2,-⟩,c3⟩:=e3 i y hy
 exact⟨cs,c1,⟨c2,rfl⟩,c3⟩
theorem dI {α : Type} (f : α→List Value):∀l:List α,(l.map f).flatMap id=l.flatMap f
 | []=>rfl
 | x::l=>by rw[List.map_cons,List.flatMap_cons,List.flatMap_cons,dI f l];rfl
def wP (l:List Val) (w:World) (e:Ending) (w':World):Prop:=∃u,e=.returned u∧w'.ownsRow w.heap.size 48 2 u l.length (l.flatMap aZ)∧Below w.heap.size w w'
theorem yE (v:Value) (l:List Val) (w:World) (hs:aH w w.heap.size 2 hU v l) (hl:l.length≤1000000):Calls Tryz.prog 60 #[v] w (wP l w):=by
 have h:=abH v (l.map aZ) w (val_raw hs) (by
  intro r hr u hu
  obtain⟨x,-,rfl⟩:=List.mem_map.1 hr
  unfold aZ at hu
  simp at hu
  rcases hu with rfl | rfl <;> rfl) (by rw[List.length_map];omega)
 rw[List.length_map,dI] at h
 exact h
theorem yF (v:Value) (l:List gM) (w:World) (hs:aH w w.heap.size 2 jW v l) (hl:l.length≤1000000):Calls Tryz.prog 63 #[v] w fun e w'=>∃u,e=.returned u∧w'.ownsRow w.heap.size 96 2 u l.length (l.flatMap cO)∧Below w.heap.size w w':=by
 have h:=uA v (l.map cO) w (yT hs) (by
  intro r hr u hu
  obtain⟨x,-,rfl⟩:=List.mem_map.1 hr
  unfold cO at hu
  simp at hu
  rcases hu with rfl | rfl <;> rfl) (by rw[List.length_map];omega)
 rw[List.length_map,dI] at h
 exact h
theorem pN:∀args W,(callFunc 59 args).run Tryz.prog W=.ok (.enter 59 args) W:=enters_of Tryz.func59 (by kernel_rfl) rfl
theorem tX:∀args W,(callFunc 61 args).run Tryz.prog W=.ok (.enter 61 args) W:=enters_of Tryz.func61 (by kernel_rfl) rfl
theorem pG (v:Value) (l:List Val) (w:World) (hs:aH w w.heap.size 2 hU v l) (hl:l.length≤1000000):Calls Tryz.prog 59 #[v] w (wP l w):=by
 have C:=hI (yE v l w hs hl)
 obtain⟨A,cap,rfl,-⟩:=hs
 go_enter Tryz.func59,Tryz.ntmps59
 go_wp2_with fail
 refine C.out.mono ?_
 rintro e w1 ⟨u,rfl,h1,h2⟩
 have H1:=hI h1
 have H2:=hI h2
 clear h1 h2
 go_wp2_with fail
 go_ret
 exact⟨_,rfl,H1.out,H2.out⟩
def bX (f:a8) (r t:Value):List Value:=[.int .i64 f.fn,.int .i64 f.at_,.int .i64 f.tos,.int .i64 f.gen,.int .i64 f.self.kind,.int .i64 f.self.n,r,t]
def dH:List a8→List Value→List Value→List (List Value)
 | f::l,r::rs,t::ts=>bX f r t::dH l rs ts
 | _,_,_=>[]
theorem dV:∀(l:List a8) (rs ts:List Value) (i:Nat) (f:a8) (r t:Value),l[i]? = some f→rs[i]? = some r→ts[i]? = some t→(dH l rs ts)[i]? = some (bX f r t)
 | [],_,_,_,_,_,_,h,_,_=>by simp at h
 | _::_,[],_,_,_,_,_,_,h,_=>by simp at h
 | _::_,_::_,[],_,_,_,_,_,_,h=>by simp at h
 | f::l,r::rs,t::ts,0,f',r',t',h1,h2,h3=>by
  simp only[List.getElem?_cons_zero,Option.some.injEq] at h1 h2 h3
  subst h1;subst h2;subst h3;rfl
 | f::l,r::rs,t::ts,i+1,f',r',t',h1,h2,h3=>by
  simp only[List.getElem?_cons_succ] at h1 h2 h3
  exact dV l rs ts i f' r' t' h1 h2 h3
theorem nW:∀(l:List a8) (rs ts:List Value),rs.length=l.length→ts.length=l.length→(dH l rs ts).length=l.length
 | [],_,_,_,_=>by unfold dH;rfl
 | f::l,[],_,h,_=>by simp at h
 | f::l,_::_,[],_,h=>by simp at h
 | f::l,r::rs,t::ts,h1,h2=>by
  unfold dH
  rw[List.length_cons,nW l rs ts (by simpa using h1) (by simpa using h2)];rfl
theorem gC:∀(l:List a8) (rs ts:List Value),∀x∈dH l rs ts,x.length=8
 | [],_,_,x,h=>by unfold dH at h;cases h
 | f::l,[],_,x,h=>by unfold dH at h;cases h
 | f::l,_::_,[],x,h=>by unfold dH at h;cases h
 | f::l,r::rs,t::ts,x,h=>by
  unfold dH at h
  rcases List.mem_cons.1 h with rfl | h
  ·rfl
  ·exact gC l rs ts x h
theorem qD:∀(l:List a8) (rs ts:List Value) (i:Nat) (f:a8) (r t u:Value),l[i]? = some f→rs[i]? = some r→ts[i]? = some t→(dH l rs ts).set i (bX f u t)=dH l (rs.set i u) ts
 | [],_,_,_,_,_,_,_,h,_,_=>by simp at h
 | _::_,[],_,_,_,_,_,_,_,h,_=>by simp at h
 | _::_,_::_,[],_,_,_,_,_,_,_,h=>by simp at h
 | f::l,r::rs,t::ts,0,f',r',t',u,h1,h2,h3=>by
  simp only[List.getElem?_cons_zero,Option.some.injEq] at h1 h2 h3
  subst h1;subst h2;subst h3;rfl
 | f::l,r::rs,t::ts,i+1,f',r',t',u,h1,h2,h3=>by
  simp only[List.getElem?_cons_succ] at h1 h2 h3
  show bX f r t::(dH l rs ts).set i _=bX f r t::dH l (rs.set i u) ts
  rw[qD l rs ts i f' r' t' u h1 h2 h3]
theorem qC:∀(l:List a8) (rs ts:List Value) (i:Nat) (f:a8) (r t u:Value),l[i]? = some f→rs[i]? = some r→ts[i]? = some t→(dH l rs ts).set i (bX f r u)=dH l rs (ts.set i u)
 | [],_,_,_,_,_,_,_,h,_,_=>by simp at h
 | _::_,[],_,_,_,_,_,_,_,h,_=>by simp at h
 | _::_,_::_,[],_,_,_,_,_,_,_,h=>by simp at h
 | f::l,r::rs,t::ts,0,f',r',t',u,h1,h2,h3=>by
  simp only[List.getElem?_cons_zero,Option.some.injEq] at h1 h2 h3
  subst h1;subst h2;subst h3;rfl
 | f::l,r::rs,t::ts,i+1,f',r',t',u,h1,h2,h3=>by
  simp only[List.getElem?_cons_succ] at h1 h2 h3
  show bX f r t::(dH l rs ts).set i _=bX f r t::dH l rs (ts.set i u)
  rw[qC l rs ts i f' r' t' u h1 h2 h3]
theorem dT {size:Nat} : ∀(rows:List (List Value)) (i k:Nat) (r:List Value) (u:Value),(∀x∈rows,x.length=size)→rows[i]? = some r→k<size→(rows.flatMap id).set (i*size+k) u=(rows.set i (r.set k u)).flatMap id
 | [],_,_,_,_,_,h,_=>by simp at h
 | y::l,0,k,r,u,hl,h,hk=>by
  obtain rfl:y=r:=by simpa using h
  have:=hl y (by simp)
  rw[Nat.zero_mul,Nat.zero_add,List.flatMap_cons,List.set_append,if_pos (by show k<y.length;omega)];rfl
 | y::l,i+1,k,r,u,hl,h,hk=>by
  have:=hl y (by simp)
  rw[List.flatMap_cons,List.set_append,if_neg (by show ¬_<y.length;rw[Nat.succ_mul];omega),show(i+1)*size+k - (id y).length=i*size+k by rw[Nat.succ_mul];show _ - y.length=_;omega,
   dT l i k r u (fun x hx=>hl x (by simp[hx])) (by simpa using h) hk]
  rfl
def WfF (f:a8):Prop:=wfi f.fn∧wfi f.at_∧wfi f.tos∧wfi f.gen∧wfi f.self.kind∧wfi f.self.n∧(∀v∈f.regs,wfi v.kind∧wfi v.n)∧∀t∈f.tries,wfi t.reg∧wfi t.at_
theorem eR.wf {w:World} {B:Nat} {cs:List Value} {f:a8} (h:eR w B cs f):WfF f:=by
 obtain⟨r,t,-,hr,ht,a1,a2,a3,a4,a5,a6⟩:=h
 refine⟨a1,a2,a3,a4,a5,a6,fun v hv=>?_,fun x hx=>?_⟩
 ·obtain⟨cs,hR⟩:=hr.mem hv;exact hR.2
 ·obtain⟨cs,hR⟩:=ht.mem hx;exact hR.2
structure fD (w:World) (B:Nat) (fv:Value) (l:List a8) (rs ts:List Value):Prop where
 lr:rs.length=l.length
 lt:ts.length=l.length
 row:w.ownsRow B 61 8 fv l.length ((dH l rs ts).flatMap id)
 regs:∀(i:Nat) r f,rs[i]? = some r→l[i]? = some f→w.ownsRow B 48 2 r f.regs.length (f.regs.flatMap aZ)
 tries:∀(i:Nat) t f,ts[i]? = some t→l[i]? = some f→w.ownsRow B 96 2 t f.tries.length (f.tries.flatMap cO)
 nodup:(rs.filterMap Value.ownBlock).Nodup
 wf:∀f∈l,WfF f
def sN (l:List a8) (w:World) (e:Ending) (w':World):Prop:=∃fv rs ts,e=.returned fv∧fD w' w.heap.size fv l rs ts∧Below w.heap.size w w'
theorem own_block_lt {w:World} {B n size:Nat} {e:TypeId} {v:Value} {xs:List Value} (h:w.ownsRow B e size v n xs) {g:Nat} (hg:v.ownBlock=some g):B≤g∧g<w.heap.size:=h.lt g hg
theorem dU {w:World} {B B' n size:Nat} {e:TypeId} {v:Value} {xs:List Value} (h:w.ownsRow B e size v n xs) (hB:B'≤B):w.ownsRow B' e size v n xs:=by
 obtain⟨hl,h2⟩:=h
 refine⟨hl,?_⟩
 rcases h2 with ⟨rfl,h0⟩ | ⟨g,cap,cur,rfl,hb,h1⟩
 ·exact .inl ⟨rfl,h0⟩
 ·exact .inr ⟨g,cap,cur,rfl,by omega,h1⟩
theorem iS {w:World} {B C n m size sz:Nat} {e e2:TypeId} {v:Value} {xs ys:List Value} {g cap j:Nat} {u:Value} (h:w.ownsRow B e size v n xs) (ho:w.ownsRow C e2 sz (.slice (some ⟨g,0,none⟩) m cap) m ys) (ht:e≠e2):(w.setCell ⟨g,j,none⟩ u).ownsRow B e size v n xs:=
 pC h ho (by have:=(ho.stored j u).2;exact this) ht
theorem acA {α : Type} {l:List α} {j:Nat} {u : α} (hj:j<l.length):(l.set j u).take (j+1)=l.take j++[u]:=by
 have h:(l.take j).length=j:=by simp;omega
 rw[List.take_set,List.take_succ_eq_append_getElem hj,List.set_append,if_neg (by omega),h]
 simp
theorem fm_snoc {l:List Value} {u:Value} : (l++[u]).filterMap Value.ownBlock=l.filterMap Value.ownBlock++(match u.ownBlock with | none=>[] | some g=>[g]):=by
 rw[List.filterMap_append]
 congr 1
 cases h:u.ownBlock <;> simp[List.filterMap,h]
theorem xL {l:List Value} {u:Value} (h:(l.filterMap Value.ownBlock).Nodup) (hu:∀g,u.ownBlock=some g→∀v∈l,v.ownBlock≠some g):((l++[u]).filterMap Value.ownBlock).Nodup:=by
 rw[fm_snoc]
 cases hg:u.ownBlock with
 | none=>simpa using h
 | some g=>
  rw[List.nodup_append]
  refine⟨h,by simp,fun a ha b hb=>?_⟩
  rw[List.mem_singleton] at hb
  subst hb
  rintro rfl
  obtain⟨v,hv,hv2⟩:=List.mem_filterMap.1 ha
  exact hu _ hg v hv hv2
theorem infoFrm8:(Tryz.prog.info? 61).map (·.size)=some 8:=by kernel_rfl
theorem p7 (v:Value) (l:List a8) (pb:Nat) (w:World) (hs:aH w w.heap.size 8 (eR w w.heap.size) v l) (hl:l.length≤30) (hsm:∀f∈l,vG f) (hp:w.cell? ⟨pb,0,none⟩=some (.func (.func 59) #[] #[])) :
  Calls Tryz.prog 61 #[v,.pointer (some ⟨pb,0,none⟩)] w (sN l w):=by
 unfold sN
 obtain⟨rows,hr1,hr2,hr3⟩:=hs.raw
 have h8:∀x∈rows,x.length=8:=fun x hx=>by obtain⟨cs,_,h⟩:=hr2.mem hx;exact h
 obtain⟨ro,hro1,hro2⟩:=mL (len:=l.length) (p:=fun i (r:Value×Value)=>∀f,l[i]? = some f→rows[i]? = some (bX f r.1 r.2)∧aH w w.heap.size 2 hU r.1 f.regs∧aH w w.heap.size 2 jW r.2 f.tries) (fun i hi=>by
  obtain⟨c,hc,hR⟩:=hr3 i _ (lG hi)
  obtain⟨r,t,rfl,a,b,-⟩:=hR
  exact⟨(r,t),fun f hf=>by rw[lG hi] at hf;injection hf with hf;subst hf;exact⟨hc,a,b⟩⟩)
 obtain⟨rs0,hrs0⟩:∃rs0,ro.map Prod.fst=rs0:=⟨_,rfl⟩
 obtain⟨ts0,hts0⟩:∃ts0,ro.map Prod.snd=ts0:=⟨_,rfl⟩
 have hl1:rs0.length=l.length:=by rw[←hrs0,List.length_map,hro1]
 have hl2:ts0.length=l.length:=by rw[←hts0,List.length_map,hro1]
 have hpart:∀(i:Nat) f r t,l[i]? = some f→rs0[i]? = some r→ts0[i]? = some t→rows[i]? = some (bX f r t)∧aH w w.heap.size 2 hU r f.regs∧aH w w.heap.size 2 jW t f.tries:=fun i f r t hf hr ht=>by
  rw[←hrs0,List.getElem?_map] at hr
  rw[←hts0,List.getElem?_map] at ht
  obtain⟨x,hx,rfl⟩:=Option.map_eq_some_iff.1 hr
  obtain⟨y,hy,rfl⟩:=Option.map_eq_some_iff.1 ht
  rw[hx] at hy;injection hy with hy;subst hy
  exact hro2 i x hx f hf
 have hrows:rows=dH l rs0 ts0:=by
  apply List.ext_getElem?
  intro i
  rcases Nat.lt_or_ge i l.length with h | h
  ·have hf:l[i]? = some l[i]:=lG h
   have hr:rs0[i]? = some (rs0[i]'(by omega)):=lG (by omega)
   have ht:ts0[i]? = some (ts0[i]'(by omega)):=lG (by omega)
   rw[(hpart i _ _ _ hf hr ht).1,dV l rs0 ts0 i _ _ _ hf hr ht]
  ·rw[List.getElem?_eq_none (by omega),List.getElem?_eq_none (by rw[nW l rs0 ts0 hl1 hl2];exact h)]
 have hone:∀r∈rows,∀u∈r,u.oneCell'=true:=fun r hr u hu=>by
  obtain⟨i,hi⟩:=List.getElem?_of_mem hr
  have hil:i<l.length:=by have:=(lE hi).1;omega
  have hf:l[i]? = some l[i]:=lG hil
  have hr':rs0[i]? = some (rs0[i]'(by omega)):=lG (by omega)
  have ht':ts0[i]? = some (ts0[i]'(by omega)):=lG (by omega)
  obtain⟨h1,h2,h3⟩:=hpart i _ _ _ hf hr' ht'
  rw[hi] at h1;injection h1 with h1;subst h1
  obtain⟨A,c,e2,-⟩:=h2
  obtain⟨A',c',e3,-⟩:=h3
  unfold bX at hu
  rw[e2,e3] at hu
  simp only[List.mem_cons,List.not_mem_nil,or_false] at hu
  rcases hu with rfl | rfl | rfl | rfl | rfl | rfl | rfl | rfl <;> rfl
 have CL:Hid (Calls Tryz.prog 62 #[v] w fun e w'=>∃u,e=.returned u∧w'.ownsRow w.heap.size 61 8 u l.length ((dH l rs0 ts0).flatMap id)∧Below w.heap.size w w'):=by
  have:=abL v rows w hr2 hone (by omega)
  rw[hr1,hrows] at this
  exact this
 have HP:=hI hp
 have HPART:=hI hpart
 have HL1:=hI hl1
 have HL2:=hI hl2
 have HSM:=hI hsm
 have HWF:Hid (∀f∈l,WfF f):=fun f hf=>by
  obtain⟨cs,hR⟩:=hs.mem hf
  exact hR.wf
 obtain⟨A,cap,rfl,-⟩:=id hs
 clear hs hr1 hr2 hr3 h8 hro1 hro2 hrs0 hts0 hrows hone hp hpart hl1 hl2 hsm
 have hpb:pb<w.heap.size:=dP HP.out
 go_enter Tryz.func61,Tryz.ntmps61
 go_wp2_with fail
 refine CL.out.mono ?_
 rintro e w1 ⟨fv,rfl,hown,k1⟩
 have O1:=hI hown
 have K1:=hI k1
 obtain⟨GA,gc,rfl⟩:=bV hown
 clear hown k1
 go_wp2_with fail
 go_loopw [11] (fun k wr=>∃(j:Nat) (rs ts:List Value),k=.int .i64 j∧j≤l.length∧Hid (rs.length=l.length∧ts.length=l.length)∧Hid (wr.ownsRow w.heap.size 61 8 (.slice GA l.length gc) l.length ((dH l rs ts).flatMap id))∧
  Hid (∀(i:Nat) r f,i<j→rs[i]? = some r→l[i]? = some f→wr.ownsRow w.heap.size 48 2 r f.regs.length (f.regs.flatMap aZ))∧Hid (∀(i:Nat) t f,i<j→ts[i]? = some t→l[i]? = some f→wr.ownsRow w.heap.size 96 2 t f.tries.length (f.tries.flatMap cO))∧
  Hid (((rs.take j).filterMap Value.ownBlock).Nodup)∧Hid (∀i,j≤i→rs[i]? = rs0[i]?∧ts[i]? = ts0[i]?)∧Hid (Below w.heap.size w wr)) (fun k _=>l.length - (RowKit.intOf k).toNat)
 case atStart=>exact⟨0,rs0,ts0,rfl,by omega,⟨HL1.out,HL2.out⟩,O1.out,fun i r f h=>by omega,fun i r f h=>by omega,by rw[List.take_zero];exact List.nodup_nil,fun i _=>⟨rfl,rfl⟩,K1.out⟩
 case round=>
  obtain⟨j,rs,ts,rfl,hj,HLN,OF,HR,HT,HND,HOLD,KW⟩:=hrel
  have hsz:=KW.out.size
  by_cases hlt:j<l.length
  ·have hji:(j:Int)<l.length:=by omega
   obtain⟨g,cur,rfl,hgb,hgc⟩:∃g cur,GA=some ⟨g,0,none⟩∧w.heap.size≤g∧wr.heap[g]? = some (.cells cur 61 (0,0)):=by
    rcases OF.out.2 with ⟨e,h⟩ | ⟨g,cap,cur,e,k1,k2,-⟩
    ·omega
    ·injection e with e1 e2 e3;exact⟨g,cur,e1,k1,k2⟩
   obtain⟨f,hf⟩:∃f,l[j]? = some f:=⟨_,lG hlt⟩
   obtain⟨r,hr⟩:∃r,rs0[j]? = some r:=⟨_,lG (by rw[HL1.out];exact hlt)⟩
   obtain⟨t,ht⟩:∃t,ts0[j]? = some t:=⟨_,lG (by rw[HL2.out];exact hlt)⟩
   obtain⟨-,hsr,hst⟩:=HPART.out j f r t hf hr ht
   have hrj:rs[j]? = some r:=(HOLD.out j (Nat.le_refl _)).1.trans hr
   have htj:ts[j]? = some t:=(HOLD.out j (Nat.le_refl _)).2.trans ht
   have hrow:(dH l rs ts)[j]? = some (bX f r t):=dV l rs ts j f r t hf hrj htj
   have hcell:∀k,k<8→wr.cell? ⟨g,j*8+k,none⟩=(bX f r t)[k]?:=fun k hk=>by
    rw[OF.out.cellAt (j*8+k) (by have:(j+1)*8≤l.length*8:=Nat.mul_le_mul_right _ (by omega);omega)]
    exact b9 _ j k _ (gC _ _ _) hrow hk
   have g0:wr.cell? ⟨g,j*8,none⟩=some (.int .i64 f.fn):=hcell 0 (by decide)
   have g1:wr.cell? ⟨g,j*8+1,none⟩=some (.int .i64 f.at_):=hcell 1 (by decide)
   have g2:wr.cell? ⟨g,j*8+2,none⟩=some (.int .i64 f.tos):=hcell 2 (by decide)
   have g3:wr.cell? ⟨g,j*8+3,none⟩=some (.int .i64 f.gen):=hcell 3 (by decide)
   have g4:wr.cell? ⟨g,j*8+4,none⟩=some (.int .i64 f.self.kind):=hcell 4 (by decide)
   have g5:wr.cell? ⟨g,j*8+5,none⟩=some (.int .i64 f.self.n):=hcell 5 (by decide)
   have g6:wr.cell? ⟨g,j*8+6,none⟩=some r:=hcell 6 (by decide)
   have g7:wr.cell? ⟨g,j*8+7,none⟩=some t:=hcell 7 (by decide)
   obtain⟨RA,rc,rfl,-⟩:=id hsr
   obtain⟨TA,tc,rfl,-⟩:=id hst
   have HF:=hI hf
   have HRJ:=hI hrj
   have HTJ:=hI htj
   have hsf:=HSM.out f (List.mem_of_getElem? hf)
   have HSR:=hI hsr
   have HST:=hI hst
   have SF:=hI hsf
   have hzg:g<wr.heap.size:=(aE hgc).1
   obtain⟨w2,hw2⟩:∃w2,w2=wr.alloc (.cells #[.int .i64 f.fn,.int .i64 f.at_,.int .i64 f.tos,.int .i64 f.gen,.int .i64 f.self.kind,.int .i64 f.self.n,.slice RA f.regs.length rc,.slice TA f.tries.length tc] 61):=⟨_,rfl⟩
   have K2:Hid (Below wr.heap.size wr w2):=by rw[hw2];exact aB _ _
   have HB2:Hid (aA w2 wr.heap.size [.int .i64 f.fn,.int .i64 f.at_,.int .i64 f.tos,.int .i64 f.gen,.int .i64 f.self.kind,.int .i64 f.self.n,.slice RA f.regs.length rc,.slice TA f.tries.length tc]):=by rw[hw2];exact ad5 _ _ _
   have KW2:=hI (KW.out.trans (K2.out.mono hsz))
   have HW2:=hI hw2
   clear hf hr ht hrj htj hrow hcell hsr hst hsf hgc hw2
   go_upto_region 5 with fail
   rw[←HW2.out]
   clear g0 g1 g2 g3 g4 g5 g6 g7
   have a0:∀E:Up w2,E.to.cell? ⟨pb,0,none⟩=some (.func (.func 59) #[] #[]):=fun E=>E.cell ((KW2.out.cell hpb).trans HP.out)
   have a1:=ecZ (HB2.out 6 _ rfl)
   have a2:=ecZ (HB2.out 7 _ rfl)
   have hen:=pN
   refine gG (fun w'=>∃E:Up w2,w'=E.to) [0,1,2,3] [4,5,6,8,9] [7,10,11,12,13,14,15,16] [7] _ (by kernel_rfl) (by kernel_rfl) (by simp only[List.cons_append,List.nil_append,List.filterMap_cons,List.filterMap_nil,List.getElem?_toArray,List.getElem?_cons_zero,List.getElem?_cons_succ];rfl) (fun _ _ d _ _ h=>by cases d <;> exact h) ⟨⟨_,(Below.refl _ w2).drew⟩,rfl⟩ ?_
   generalize hqq:(fun a'=>gA _ _ _ _ _ _ a' _)=qq
   have HQQ:=hI hqq
   clear hqq
   show wpQuiet _ _ _ _ [_,_,_,_,_,_,_,_,_] _
   repeat (go_big_quiet_step (fail))
   refine wpQuiet_nil ?_
   rw[←HQQ.out]
   clear HQQ qq a0 a1 a2
   refine bA rfl (fun K hK=>?_)
   go_simp
   refine(pG (.slice RA f.regs.length rc) f.regs w2.drew (HSR.out.keep KW2.out.drew.size (fun _ hp=>KW2.out.drew.cell hp) (fun _ _ h=>h)) (by have:=SF.out.regs;omega)).mono ?_
   rintro e w3 ⟨u3,rfl,ho3,k3⟩
   have O3:=hI ho3
   have K3:Hid (Below w2.heap.size w2 w3):=(Below.refl _ w2).drew.trans k3
   have KW3:=btZ KW2 K3.out
   clear ho3 k3
   refine hK _ _ (fun _=>⟨⟨w3,K3.out⟩,rfl⟩) ?_
   clear hK K
   refine bA rfl (fun K hK=>?_)
   go_simp
   refine(yF (.slice TA f.tries.length tc) f.tries w3 (HST.out.keep KW3.out.size (fun _ hp=>KW3.out.cell hp) (fun _ _ h=>h)) (by have:=SF.out.tries;omega)).mono ?_
   rintro e w4 ⟨u4,rfl,ho4,k4⟩
   have O4:=hI ho4
   have K4:Hid (Below w3.heap.size w3 w4):=k4
   have KW4:=btZ KW3 K4.out
   clear ho4 k4
   refine hK _ _ (fun h=>by cases h) ?_
   clear hK K
   refine bP [11,12,13,14,15,16] _ _ (by kernel_rfl) (by kernel_rfl) ?_
   simp only[List.filterMap_cons,List.filterMap_nil,List.getElem?_toArray,List.getElem?_cons_zero,List.getElem?_cons_succ]
   obtain⟨U3,c3,rfl⟩:=bV O3.out
   obtain⟨U4,c4,rfl⟩:=bV O4.out
   have KR4:Hid (Below wr.heap.size wr w4):=K2.out.trans ((K3.out.trans (K4.out.mono K3.out.size)).mono K2.out.size)
   have OF4:=hI (cZ OF.out KR4.out)
   have O34:=hI (cZ O3.out K4.out)
   have hj8:j*8+8≤l.length*8:=by have:(j+1)*8≤l.length*8:=Nat.mul_le_mul_right _ (by omega);omega
   have e6:w4.cell? ⟨g,j*8+6,none⟩=some (.slice RA f.regs.length rc):=by
    rw[OF4.out.cellAt (j*8+6) (by omega)]
    exact b9 _ j 6 _ (gC _ _ _) (dV l rs ts j f _ _ HF.out HRJ.out HTJ.out) (by decide)
   have e7:w4.cell? ⟨g,j*8+7,none⟩=some (.slice TA f.tries.length tc):=by
    rw[OF4.out.cellAt (j*8+7) (by omega)]
    exact b9 _ j 7 _ (gC _ _ _) (dV l rs ts j f _ _ HF.out HRJ.out HTJ.out) (by decide)
   have z6:=OF4.out.frozenAt (j*8+6)
   have z7:=OF4.out.frozenAt (j*8+7)
   go_wp2_with fail
   generalize hw6:World.setCell _ _ _=w6
   have ST:=hI (OF4.out.stored (j*8+6) (.slice U3 f.regs.length c3)).1
   have ST2:=hI (ST.out.stored (j*8+7) (.slice U4 f.tries.length c4)).1
   have hgz4:w.heap.size≤g:=hgb
   have KW6:Hid (Below w.heap.size w w6):=by
    rw[←hw6]
    exact(KW4.out.setCell hgz4 _ ).setCell hgz4 _
   have OF6:Hid (w6.ownsRow w.heap.size 61 8 (.slice (some ⟨g,0,none⟩) l.length gc) l.length ((dH l (rs.set j (.slice U3 f.regs.length c3)) (ts.set j (.slice U4 f.tries.length c4))).flatMap id)):=by
    have hb:=HLN.out
    have h1:(dH l rs ts)[j]? = some (bX f (.slice RA f.regs.length rc) (.slice TA f.tries.length tc)):=dV l rs ts j f _ _ HF.out HRJ.out HTJ.out
    have hrj2:(rs.set j (.slice U3 f.regs.length c3))[j]? = some (.slice U3 f.regs.length c3):=by rw[List.getElem?_set_self (by omega)]
    have h2:(dH l (rs.set j (.slice U3 f.regs.length c3)) ts)[j]? = some (bX f (.slice U3 f.regs.length c3) (.slice TA f.tries.length tc)):=dV l _ ts j f _ _ HF.out hrj2 HTJ.out
    have:=ST2.out
    rw[dT _ j 6 _ _ (gC _ _ _) h1 (by decide),show(bX f (.slice RA f.regs.length rc) (.slice TA f.tries.length tc)).set 6 (.slice U3 f.regs.length c3)=bX f (.slice U3 f.regs.length c3) (.slice TA f.tries.length tc) from rfl,
     qD l rs ts j f _ _ _ HF.out HRJ.out HTJ.out,dT _ j 7 _ _ (gC _ _ _) h2 (by decide),show(bX f (.slice U3 f.regs.length c3) (.slice TA f.tries.length tc)).set 7 (.slice U4 f.tries.length c4)=bX f (.slice U3 f.regs.length c3) (.slice U4 f.tries.length c4) from rfl,
     qC l _ ts j f _ _ _ HF.out hrj2 HTJ.out] at this
    rw[←hw6];exact this
   have STAY:Hid (∀(B:Nat) (e:TypeId) (n:Nat) (v:Value) (xs:List Value),e≠61→w4.ownsRow B e 2 v n xs→w6.ownsRow B e 2 v n xs):=fun B e n v xs ht h=>by
    rw[←hw6];exact iS (iS h OF4.out ht) ST.out ht
   have hlt3:Hid (∀q,(Value.slice U3 f.regs.length c3).ownBlock=some q→wr.heap.size≤q):=fun q hq=>by
    have:=(O3.out.lt q hq).1
    have:=K2.out.size
    show wr.heap.size≤q
    have e:w2.drew.heap.size=w2.heap.size:=rfl
    omega
   clear hw6 e6 e7 z6 z7
   go_wp2_with fail
   go_roundw
   case rel=>
    refine⟨j+1,rs.set j (.slice U3 f.regs.length c3),ts.set j (.slice U4 f.tries.length c4),by go_num,by omega,?_,OF6,?_,?_,?_,?_,KW6⟩
    ·exact⟨by rw[List.length_set];exact HLN.out.1,by rw[List.length_set];exact HLN.out.2⟩
    ·intro i r' f' hi hr' hf'
     by_cases hij:i=j
     ·subst hij
      rw[List.getElem?_set_self (by have:=HLN.out.1;omega)] at hr'
      injection hr' with hr';subst hr'
      rw[HF.out] at hf';injection hf' with hf';subst hf'
      exact STAY.out _ _ _ _ _ (by decide) (dU O34.out (by have:=KW2.out.size;exact this))
     ·rw[List.getElem?_set_ne (by omega)] at hr'
      exact STAY.out _ _ _ _ _ (by decide) (cZ (HR.out i r' f' (by omega) hr' hf') KR4.out)
    ·intro i t' f' hi ht' hf'
     by_cases hij:i=j
     ·subst hij
      rw[List.getElem?_set_self (by have:=HLN.out.2;omega)] at ht'
      injection ht' with ht';subst ht'
      rw[HF.out] at hf';injection hf' with hf';subst hf'
      exact STAY.out _ _ _ _ _ (by decide) (dU O4.out KW3.out.size)
     ·rw[List.getElem?_set_ne (by omega)] at ht'
      exact STAY.out _ _ _ _ _ (by decide) (cZ (HT.out i t' f' (by omega) ht' hf') KR4.out)
    ·show(((rs.set j _).take (j+1)).filterMap Value.ownBlock).Nodup
     rw[acA (by have:=HLN.out.1;omega)]
     refine xL HND.out (fun q hq v hv hv2=>?_)
     obtain⟨i,hi⟩:=List.getElem?_of_mem hv
     rw[List.getElem?_take] at hi
     split at hi
     ·rename_i hij
      have hil:i<l.length:=by omega
      have:=(HR.out i v _ hij hi (lG hil)).lt q hv2
      have:=hlt3.out q hq
      omega
     ·cases hi
    ·intro i hi
     rw[List.getElem?_set_ne (by omega),List.getElem?_set_ne (by omega)]
     exact HOLD.out i (by omega)
   case measure=>simp[RowKit.intOf];omega
  ·have hji:¬(j:Int)<l.length:=by omega
   have hjl:j=l.length:=by omega
   have RES:Hid (fD wr w.heap.size (.slice GA l.length gc) l rs ts):=by
    refine⟨HLN.out.1,HLN.out.2,OF.out,fun i r f hr hf=>HR.out i r f (by have:=(lE hf).1;omega) hr hf,fun i t f ht hf=>HT.out i t f (by have:=(lE hf).1;omega) ht hf,?_,HWF.out⟩
    have:=HND.out
    rwa [List.take_of_length_le (by have:=HLN.out.1;omega)] at this
   go_wp2_with fail
   go_ret
   exact⟨_,rfl,⟨_,_,RES.out⟩,KW.out⟩
end
section
open Go.RowKit
structure eH (w:World) (lo hi:Nat) (fv:Value) (l:List a8) (rs ts:List Value):Prop where
 at_:fD w lo fv l rs ts
 fb:∀g,fv.ownBlock=some g→g<hi
 rb:∀r∈rs,∀g,r.ownBlock=some g→g<hi
 tb:∀t∈ts,∀g,t.ownBlock=some g→g<hi
def dC (w w':World):Prop:=∀(B:Nat) (e:TypeId) (size n:Nat) (v:Value) (xs:List Value),e=61∨e=48∨e=96→w.ownsRow B e size v n xs→w'.ownsRow B e size v n xs
theorem dC.of {w w':World} (h:Below w.heap.size w w'):dC w w':=fun _ _ _ _ _ _ _ h'=>cZ h' h
theorem dC.trans {a b c:World} (h:dC a b) (g:dC b c):dC a c:=fun B e s n v xs ht h'=>g B e s n v xs ht (h B e s n v xs ht h')
theorem dC.set {w:World} {C m sz:Nat} {e2:TypeId} {ys:List Value} {g cap j:Nat} {u:Value} (ho:w.ownsRow C e2 sz (.slice (some ⟨g,0,none⟩) m cap) m ys) (h1:61≠e2) (h2:48≠e2) (h3:96≠e2):dC w (w.setCell ⟨g,j,none⟩ u):=
 fun B e s n v xs ht h=>iS h ho (by rcases ht with rfl | rfl | rfl;exact h1;exact h2;exact h3)
theorem aeB {w:World} {g j:Nat} {u:Value} {cs:Array Value} {e2:TypeId} (hg:w.heap[g]? = some (.cells cs e2 (0,0))) (h1:61≠e2) (h2:48≠e2) (h3:96≠e2):dC w (w.setCell ⟨g,j,none⟩ u):=
 fun B e s n v xs ht h=>gI h hg (by rcases ht with rfl | rfl | rfl;exact Ne.symm h1;exact Ne.symm h2;exact Ne.symm h3) j u
theorem fD.keep {w w':World} {B:Nat} {fv:Value} {l:List a8} {rs ts:List Value} (h:fD w B fv l rs ts) (hk:dC w w'):fD w' B fv l rs ts:=
 ⟨h.lr,h.lt,hk _ _ _ _ _ _ (.inl rfl) h.row,fun i r f hr hf=>hk _ _ _ _ _ _ (.inr (.inl rfl)) (h.regs i r f hr hf),fun i t f ht hf=>hk _ _ _ _ _ _ (.inr (.inr rfl)) (h.tries i t f ht hf),h.nodup,h.wf⟩
theorem eH.keep {w w':World} {lo hi:Nat} {fv:Value} {l:List a8} {rs ts:List Value} (h:eH w lo hi fv l rs ts) (hk:dC w w'):eH w' lo hi fv l rs ts:=
 ⟨h.at_.keep hk,h.fb,h.rb,h.tb⟩
theorem eH.more {w:World} {lo hi hi':Nat} {fv:Value} {l:List a8} {rs ts:List Value} (h:eH w lo hi fv l rs ts) (hh:hi≤hi'):eH w lo hi' fv l rs ts:=
 ⟨h.at_,fun g hg=>Nat.lt_of_lt_of_le (h.fb g hg) hh,fun r hr g hg=>Nat.lt_of_lt_of_le (h.rb r hr g hg) hh,fun r hr g hg=>Nat.lt_of_lt_of_le (h.tb r hr g hg) hh⟩
theorem fD.now {w:World} {lo:Nat} {fv:Value} {l:List a8} {rs ts:List Value} (h:fD w lo fv l rs ts):eH w lo w.heap.size fv l rs ts:=by
 refine⟨h,fun g hg=>(h.row.lt g hg).2,fun r hr g hg=>?_,fun t ht g hg=>?_⟩
 ·obtain⟨i,hi⟩:=List.getElem?_of_mem hr
  have hil:=(lE hi).1
  exact((h.regs i r _ hi (lG (by have:=h.lr;omega))).lt g hg).2
 ·obtain⟨i,hi⟩:=List.getElem?_of_mem ht
  have hil:=(lE hi).1
  exact((h.tries i t _ hi (lG (by have:=h.lt;omega))).lt g hg).2
def bD (c:bC) (v f:Value):List Value:=[.int .i64 c.kind,.int .i64 c.num,v,f]
def gH (h:bW) (f:Value):List Value:=[f,.int .i64 h.state,.int .i64 h.on_,.int .i64 h.val.kind,.int .i64 h.val.n]
def kG (w:World) (lo hi:Nat) (c:bC) (v f:Value):Prop:=∃m rs ts,lo≤m∧m≤hi∧w.ownsRow lo 48 2 v c.vals.length (c.vals.flatMap aZ)∧(∀g,v.ownBlock=some g→g<m)∧eH w m hi f c.frames rs ts
theorem kG.keep {w w':World} {lo hi:Nat} {c:bC} {v f:Value} (h:kG w lo hi c v f) (hk:dC w w'):kG w' lo hi c v f:=by
 obtain⟨m,rs,ts,h1,h2,h3,h4,h5⟩:=h
 exact⟨m,rs,ts,h1,h2,hk _ _ _ _ _ _ (.inr (.inl rfl)) h3,h4,h5.keep hk⟩
def fX (w:World) (lo hi:Nat) (h:bW) (f:Value):Prop:=∃rs ts,eH w lo hi f h.frames rs ts
theorem fX.keep {w w':World} {lo hi:Nat} {h:bW} {f:Value} (a:fX w lo hi h f) (hk:dC w w'):fX w' lo hi h f:=by
 obtain⟨rs,ts,h5⟩:=a
 exact⟨rs,ts,h5.keep hk⟩
theorem dO {α : Type} {l:List α} {i:Nat} {x : α} (h:l[i]? = some x) (y : α):(l.set i y)[i]? = some y:=List.getElem?_set_self (lE h).1
theorem eU {rows:List (List Value)} {n i:Nat} {r:List Value} (h:∀x∈rows,x.length=n) (hr:r.length=n):∀x∈rows.set i r,x.length=n:=fun x hx=>by
 rcases List.mem_or_eq_of_mem_set hx with h1 | h1
 ·exact h x h1
 ·rw[h1];exact hr
structure sL (w:World) (B:Nat) (cs:List Value) (S:aR) (co lo:Nat→Nat) (cv thv:Value) (rows trows:List (List Value)) (shv txv env sav:Value):Prop where
 cells:cs=[cv,shv,txv,thv,env,sav,.int .i64 S.asked,.int .i64 S.steps]
 crow:w.ownsRow B 55 4 cv S.cells.length (rows.flatMap id)
 clen:rows.length=S.cells.length
 c4:∀x∈rows,x.length=4
 cpart:∀(i:Nat) c,S.cells[i]? = some c→∃v f,rows[i]? = some (bD c v f)∧kG w (co i) (co (i+1)) c v f
 cblk:∀g,cv.ownBlock=some g→g<co 0
 cmono:∀i,co i≤co (i+1)
 trow:w.ownsRow (co S.cells.length) 57 5 thv S.threads.length (trows.flatMap id)
 tlen:trows.length=S.threads.length
 t5:∀x∈trows,x.length=5
 tpart:∀(i:Nat) h,S.threads[i]? = some h→∃f,trows[i]? = some (gH h f)∧fX w (lo i) (lo (i+1)) h f
 tblk:∀g,thv.ownBlock=some g→g<lo 0
 tmono:∀i,lo i≤lo (i+1)
 tco:co S.cells.length≤lo 0
 lend:∀i,lo i≤w.heap.size
 shapes:bK w (fun b=>lo S.threads.length≤b∧b<w.heap.size) 2 jX shv S.shapes
 texts:bK w (fun b=>lo S.threads.length≤b∧b<w.heap.size) 1 lV txv S.texts
 ends:bK w (fun b=>lo S.threads.length≤b∧b<w.heap.size) 3 abX env S.ends
 said:bK w (fun b=>lo S.threads.length≤b∧b<w.heap.size) 2 hU sav S.said
 wfc:∀c∈S.cells,wfi c.kind∧wfi c.num∧∀v∈c.vals,wfi v.kind∧wfi v.n
 wft:∀h∈S.threads,wfi h.state∧wfi h.on_∧wfi h.val.kind∧wfi h.val.n
 wfs:wfi S.asked∧wfi S.steps
 cb:B≤co 0
structure cI (L:List (Addr×Value)) where
 wd:World
 here:∀p∈L,wd.cell? p.1=some p.2
end
section
open Go.RowKit
theorem xS:(Tryz.prog.info? 9).map (fun i=>(i.zero.map (·.cells.size),i.size,i.bytes))=some (some 1,1,16):=by kernel_rfl
theorem abJ (v:Value) (rows:List (List Value)) (w:World) (hs:aH w w.heap.size 1 (Raw 1) v rows) (h1:∀r∈rows,∀u∈r,u.oneCell'=true) (hlen:rows.length*16≤140737488355328) :
  Calls Tryz.prog 67 #[v] w fun e w'=>∃u,e=.returned u∧w'.ownsRow w.heap.size 9 1 u rows.length (rows.flatMap id)∧Below w.heap.size w w':=by
 have hraw:∀x∈rows,x.length=1:=fun x hx=>by obtain⟨cs,_,h⟩:=hs.mem hx;exact h
 obtain⟨A,cap,rfl,hc1,hc2,hc3⟩:=id hs
 cases A with
 | none=>
  have e:rows=[]:=by
   rcases Nat.eq_zero_or_pos rows.length with h | h
   ·exact List.length_eq_zero_iff.1 h
   ·obtain⟨b,off,h,_⟩:=hc3 h;cases h
  subst e
  have hn:∀W,(binOp .eql 24 (.slice none 0 cap) (.slice none 0 0)).run Tryz.prog W=.ok (.bool true) W:=fun W=>Lib.run_eql_slice_nil W _ _ _ _ _ _ _ Tryz.underlying24
  clear hc3 hs hraw h1
  simp only[List.length_nil] at *
  go_enter Tryz.func67,Tryz.ntmps67
  go_wp2_with fail
  go_ret
  exact⟨_,rfl,World.ownsRow_nil _ _ _ _,Below.refl _ _⟩
 | some ad=>
  have hn:∀W,(binOp .eql 24 (.slice (some ad) rows.length cap) (.slice none 0 0)).run Tryz.prog W=.ok (.bool false) W:=fun W=>Lib.run_eql_slice_nil W _ _ _ _ _ _ _ Tryz.underlying24
  have hnews:∀j u,(rows.flatMap id)[j]? = some u→w.cell? (ad.add j)=some u:=by
   rcases Nat.eq_zero_or_pos rows.length with h | h
   ·have e:rows=[]:=List.length_eq_zero_iff.1 h
    subst e;simp
   ·obtain⟨b,off,h,_⟩:=hc3 h
    injection h with h
    subst h
    exact dQ (by decide) hraw (fun cs x h=>h.1) hs
  obtain⟨i0,hi,hq⟩:=Option.map_eq_some_iff.1 xS
  simp only[Prod.mk.injEq] at hq
  obtain⟨hz,hz1,hz2⟩:=hq
  obtain⟨z,hz0,hz3⟩:=Option.map_eq_some_iff.1 hz
  have HS:=hI hnews
  have HI:=hI hi
  have HZ:=hI hz0
  have HZ1:=hI hz1
  have HZ2:=hI hz2
  have HZ3:=hI hz3
  have hl:rows.length≤maxLen:=by unfold maxLen;omega
  have HL:=hI hl
  have HR:=hI hraw
  have HO:=hI (gO (f:=id) rows h1)
  have HF:=hI (gE (f:=id) rows hraw)
  clear hnews hi hz0 hz1 hz2 hz3 hz hl hraw h1 hs hc3
  go_enter Tryz.func67,Tryz.ntmps67
  go_wp2_with (at_builtin;refine wpList_append_own _ rfl _ _ 24 rfl w.heap.size 9 i0 z 1 16 Tryz.underlying24 HI.out HZ.out HZ1.out HZ2.out HZ3.out (by decide) (.slice (some ⟨w.heap.size,0,none⟩) 0 0) 0 [] rfl (gN _ _ _) ad rows.length cap (rows.flatMap id) rfl HF.out (fun j u hj=>iM (HS.out j u hj) _) HO.out (by rw[Nat.zero_add];exact HL.out) (by rw[Nat.zero_add];exact hlen) (by simp) ?_)
  intro v' w6 hown hg _
  have KG:=hI hg
  have KO:=hI hown
  clear hg hown
  go_wp2_with fail
  go_ret
  refine⟨_,rfl,by simpa using KO.out,Below.grown (aB w _) KG.out (by simp) (by simp[Value.ownBlock])⟩
def oX {α : Type} (size:Nat) (R:List Value→α→Prop) (xs:List α) (w:World) (e:Ending) (w':World):Prop:=
 ∃u,e=.returned u∧bK w' (fun b=>w.heap.size≤b∧b<w'.heap.size) size R u xs∧Below w.heap.size w w'
theorem pR {α : Type} {F:FuncId} {ty:TypeId} {size:Nat} {R:List Value→α→Prop} {v:Value} {l:List α} {w:World} (hs:aH w w.heap.size size R v l)
  (hone:∀c x,R c x→∀u∈c,u.oneCell'=true)
  (C:∀rows:List (List Value),aH w w.heap.size size (Raw size) v rows→(∀r∈rows,∀u∈r,u.oneCell'=true)→rows.length=l.length→Calls Tryz.prog F #[v] w fun e w'=>∃u,e=.returned u∧w'.ownsRow w.heap.size ty size u rows.length (rows.flatMap id)∧Below w.heap.size w w') :
  Calls Tryz.prog F #[v] w (oX size R l w):=by
 obtain⟨rows,h1,h2,h3⟩:=hs.raw
 have hl:∀r∈rows,r.length=size:=fun r hr=>by obtain⟨_,_,h⟩:=h2.mem hr;exact h
 refine(C rows h2 (fun r hr u hu=>?_) h1).mono ?_
 ·obtain⟨i,hi⟩:=List.getElem?_of_mem hr
  have hil:i<l.length:=by have:=(lE hi).1;omega
  obtain⟨c,hc,hR⟩:=h3 i _ (lG hil)
  rw[hi] at hc;injection hc with hc;subst hc
  exact hone _ _ hR u hu
 ·rintro e w' ⟨u,rfl,hu,k⟩
  obtain⟨A,c,rfl⟩:=bV hu
  rw[h1] at hu
  refine⟨_,rfl,?_,k⟩
  rw[h1]
  refine fL hu h1 hl (fun g cs hg hb hh=>⟨hb,(aE hh).1⟩) (fun i r x hr hx=>?_)
  obtain⟨c',hc,hR⟩:=h3 i x hx
  rw[hr] at hc;injection hc with hc;subst hc
  exact hR
theorem yH (v:Value) (l:List aT) (w:World) (hs:aH w w.heap.size 2 jX v l) (hl:l.length≤1000000):Calls Tryz.prog 66 #[v] w (oX 2 jX l w):=
 pR hs (fun c x hR u hu=>by rw[hR.1] at hu;simp at hu;rcases hu with rfl | rfl <;> rfl) (fun rows h1 h2 h3=>abK v rows w h1 h2 (by omega))
theorem yI (v:Value) (l:List ad4) (w:World) (hs:aH w w.heap.size 3 abX v l) (hl:l.length≤1000000):Calls Tryz.prog 68 #[v] w (oX 3 abX l w):=
 pR hs (fun c x hR u hu=>by rw[hR.1] at hu;simp at hu;rcases hu with rfl | rfl | rfl <;> rfl) (fun rows h1 h2 h3=>yD v rows w h1 h2 (by omega))
theorem yG (v:Value) (l:List ByteArray) (w:World) (hs:aH w w.heap.size 1 lV v l) (hl:l.length≤1000000):Calls Tryz.prog 67 #[v] w (oX 1 lV l w):=
 pR hs (fun c x hR u hu=>by rw[hR.1] at hu;simp at hu;rcases hu with rfl;rfl) (fun rows h1 h2 h3=>abJ v rows w h1 h2 (by omega))
theorem aaQ (v:Value) (l:List Val) (w:World) (hs:aH w w.heap.size 2 hU v l) (hl:l.length≤1000000):Calls Tryz.prog 59 #[v] w (oX 2 hU l w):=by
 refine(pG v l w hs hl).mono ?_
 rintro e w' ⟨u,rfl,hu,k⟩
 obtain⟨A,c,rfl⟩:=bV hu
 refine⟨_,rfl,?_,k⟩
 rw[←dI] at hu
 refine fL hu (by rw[List.length_map]) (fun r hr=>by obtain⟨x,-,rfl⟩:=List.mem_map.1 hr;rfl) (fun g cs hg hb hh=>⟨hb,(aE hh).1⟩) (fun i r x hr hx=>?_)
 rw[List.getElem?_map,hx] at hr
 injection hr with hr;subst hr
 obtain⟨_,hR⟩:=hs.mem (List.mem_of_getElem? hx)
 exact⟨rfl,hR.2⟩
theorem bK.far {α : Type} {w w':World} {Q Q':Nat→Prop} {size:Nat} {R:List Value→α→Prop} {v:Value} {xs:List α} (h:bK w Q size R v xs) (hQ:∀b,Q b→Q' b) (hk:∀b,Q b→w'.heap[b]? = w.heap[b]?):bK w' Q' size R v xs:=
 h.keep hQ (fun p hp=>World.cell?_of_block (hk p.block hp)) (fun _ _ h=>h)
theorem kG.less {w:World} {lo lo' hi:Nat} {c:bC} {v f:Value} (h:kG w lo hi c v f) (hl:lo'≤lo):kG w lo' hi c v f:=by
 obtain⟨m,rs,ts,h1,h2,h3,h4,h5⟩:=h
 exact⟨m,rs,ts,by omega,h2,dU h3 hl,h4,h5⟩
theorem fD.less {w:World} {B B':Nat} {fv:Value} {l:List a8} {rs ts:List Value} (h:fD w B fv l rs ts) (hb:B'≤B):fD w B' fv l rs ts:=
 ⟨h.lr,h.lt,dU h.row hb,fun i r f hr hf=>dU (h.regs i r f hr hf) hb,fun i t f ht hf=>dU (h.tries i t f ht hf) hb,h.nodup,h.wf⟩
theorem fX.less {w:World} {lo lo' hi:Nat} {x:bW} {f:Value} (h:fX w lo hi x f) (hl:lo'≤lo):fX w lo' hi x f:=by
 obtain⟨rs,ts,h5⟩:=h
 exact⟨rs,ts,h5.at_.less hl,h5.fb,h5.rb,h5.tb⟩
end
end Go.Proofs.YtjaphgpkkfdaaaaGreatDoor
