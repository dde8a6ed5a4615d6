/- A part of the walk. -/
import Derived.Test.YtijihlcdhppfgaaGreatDoorZR
set_option maxHeartbeats 16000000
set_option maxRecDepth 100000
set_option linter.all false
namespace Go.Proofs.YtijihlcdhppfgaaGreatDoor
open Tryz
section
open Go.RowKit
def bE (v:Val):List Value:=[.int .i64 v.kind,.int .i64 v.n]
theorem val_raw {w:World} {B:Nat} {v:Value} {l:List Val} (h:aB w B 2 hU v l):aB w B 2 (Raw 2) v (l.map bE):=by obtain⟨A,d,h1,g,j,p⟩:=h;refine⟨A,d,by rw[List.length_map];exact h1,by rw[List.length_map];exact g,j,λF=>?_⟩;obtain⟨b,f,q,r,s⟩:=p (by simpa using F);refine⟨b,f,q,r,λi x hi=>?_⟩;rw[List.getElem?_map] at hi;obtain⟨y,u,rfl⟩:=Option.map_eq_some_iff.1 hi;obtain⟨cs,z,⟨D,-⟩,E⟩:=s i y u;exact⟨cs,z,⟨D,rfl⟩,E⟩
theorem eS {α : Type} (f : α->List Value):∀l:List α,(l.map f).flatMap id=l.flatMap f
 | []=>rfl
 | x::l=>by rw[List.map_cons,List.flatMap_cons,List.flatMap_cons,eS f l];rfl
def acJ (l:List Val) (w:World) (e:Ending) (w':World):Prop:=∃u,e=.returned u/\w'.ownsRow w.heap.size 51 2 u l.length (l.flatMap bE)/\Below w.heap.size w w'
theorem adT (v:Value) (l:List Val) (w:World) (g:aB w w.heap.size 2 hU v l) (hl:l.length<=1000000):Calls prog 121 #[v] w (acJ l w):=by have h:=ag7 v (l.map bE) w (val_raw g) (by intro r f u d;obtain⟨x,-,rfl⟩:=List.mem_map.1 f;unfold bE at d;simp at d;rcases d with rfl | rfl <;> rfl) (by rw[List.length_map];omega);rw[List.length_map,eS] at h;exact h
theorem adU (v:Value) (l:List iV) (w:World) (g:aB w w.heap.size 2 kH v l) (hl:l.length<=1000000):Calls prog 124 #[v] w λe w'=>∃u,e=.returned u/\w'.ownsRow w.heap.size 223 2 u l.length (l.flatMap dT)/\Below w.heap.size w w':=by have h:=zQ v (l.map dT) w (aeD g) (by intro r f u d;obtain⟨x,-,rfl⟩:=List.mem_map.1 f;unfold dT at d;simp at d;rcases d with rfl | rfl <;> rfl) (by rw[List.length_map];omega);rw[List.length_map,eS] at h;exact h
theorem tS:∀args W,(callFunc 120 args).run prog W=.ok (.enter 120 args) W:=enters_of func120 (by kernel_rfl) rfl
theorem zK:∀args W,(callFunc 122 args).run prog W=.ok (.enter 122 args) W:=enters_of func122 (by kernel_rfl) rfl
theorem tI (v:Value) (l:List Val) (w:World) (f:aB w w.heap.size 2 hU v l) (hl:l.length<=1000000):Calls prog 120 #[v] w (acJ l w):=by have C:=hI (adT v l w f hl);obtain⟨A,j,rfl,-⟩:=f;go_enter func120,ntmps120;go_wp2_with fail;refine C.o.mono ?_;rintro e w1 ⟨u,rfl,h1,d⟩;have g:=hI h1;have h:=hI d;clear h1 d;go_wp2_with fail;go_ret;exact⟨_,rfl,g.o,h.o⟩
def cN (f:bC) (r t:Value):List Value:=[.int .i64 f.fn,.int .i64 f.at_,.int .i64 f.tos,.int .i64 f.gen,.int .i64 f.self.kind,.int .i64 f.self.n,r,t]
def eQ:List bC->List Value->List Value->List (List Value)
 | f::l,r::rs,t::ts=>cN f r t::eQ l rs ts
 | _,_,_=>[]
theorem fJ:∀(l:List bC) (rs d:List Value) (i:Nat) (f:bC) (r t:Value),l[i]? = some f->rs[i]? = some r->d[i]? = some t->(eQ l rs d)[i]? = some (cN f r t)
 | [],_,_,_,_,_,_,h,_,_=>by simp at h
 | _::_,[],_,_,_,_,_,_,h,_=>by simp at h
 | _::_,_::_,[],_,_,_,_,_,_,h=>by simp at h
 | f::l,r::rs,t::d,0,f',r',t',h1,h2,h3=>by
  simp only[List.getElem?_cons_zero,Option.some.injEq] at h1 h2 h3
  subst h1;subst h2;subst h3;rfl
 | f::l,r::rs,t::d,i+1,f',r',t',h1,h2,h3=>by
  simp only[List.getElem?_cons_succ] at h1 h2 h3
  exact fJ l rs d i f' r' t' h1 h2 h3
theorem rL:∀(l:List bC) (rs d:List Value),rs.length=l.length->d.length=l.length->(eQ l rs d).length=l.length
 | [],_,_,_,_=>by unfold eQ;rfl
 | f::l,[],_,h,_=>by simp at h
 | f::l,_::_,[],_,h=>by simp at h
 | f::l,r::rs,t::d,h1,h2=>by
  unfold eQ
  rw[List.length_cons,rL l rs d (by simpa using h1) (by simpa using h2)];rfl
theorem i7:∀(l:List bC) (rs d:List Value),∀x∈eQ l rs d,x.length=8
 | [],_,_,x,h=>by unfold eQ at h;cases h
 | f::l,[],_,x,h=>by unfold eQ at h;cases h
 | f::l,_::_,[],x,h=>by unfold eQ at h;cases h
 | f::l,r::rs,t::d,x,h=>by
  unfold eQ at h
  rcases List.mem_cons.1 h with rfl | h
  ·rfl
  ·exact i7 l rs d x h
theorem uP:∀(l:List bC) (rs d:List Value) (i:Nat) (f:bC) (r t u:Value),l[i]? = some f->rs[i]? = some r->d[i]? = some t->(eQ l rs d).set i (cN f u t)=eQ l (rs.set i u) d
 | [],_,_,_,_,_,_,_,h,_,_=>by simp at h
 | _::_,[],_,_,_,_,_,_,_,h,_=>by simp at h
 | _::_,_::_,[],_,_,_,_,_,_,_,h=>by simp at h
 | f::l,r::rs,t::d,0,f',r',t',u,h1,h2,h3=>by
  simp only[List.getElem?_cons_zero,Option.some.injEq] at h1 h2 h3
  subst h1;subst h2;subst h3;rfl
 | f::l,r::rs,t::d,i+1,f',r',t',u,h1,h2,h3=>by
  simp only[List.getElem?_cons_succ] at h1 h2 h3
  show cN f r t::(eQ l rs d).set i _=cN f r t::eQ l (rs.set i u) d
  rw[uP l rs d i f' r' t' u h1 h2 h3]
theorem uO:∀(l:List bC) (rs d:List Value) (i:Nat) (f:bC) (r t u:Value),l[i]? = some f->rs[i]? = some r->d[i]? = some t->(eQ l rs d).set i (cN f r u)=eQ l rs (d.set i u)
 | [],_,_,_,_,_,_,_,h,_,_=>by simp at h
 | _::_,[],_,_,_,_,_,_,_,h,_=>by simp at h
 | _::_,_::_,[],_,_,_,_,_,_,_,h=>by simp at h
 | f::l,r::rs,t::d,0,f',r',t',u,h1,h2,h3=>by
  simp only[List.getElem?_cons_zero,Option.some.injEq] at h1 h2 h3
  subst h1;subst h2;subst h3;rfl
 | f::l,r::rs,t::d,i+1,f',r',t',u,h1,h2,h3=>by
  simp only[List.getElem?_cons_succ] at h1 h2 h3
  show cN f r t::(eQ l rs d).set i _=cN f r t::eQ l rs (d.set i u)
  rw[uO l rs d i f' r' t' u h1 h2 h3]
theorem fG {size:Nat} : ∀(rows:List (List Value)) (i k:Nat) (r:List Value) (u:Value),(∀x∈rows,x.length=size)->rows[i]? = some r->k<size->(rows.flatMap id).set (i*size+k) u=(rows.set i (r.set k u)).flatMap id
 | [],_,_,_,_,_,h,_=>by simp at h
 | y::l,0,k,r,u,hl,h,hk=>by
  obtain rfl:y=r:=by simpa using h
  have:=hl y (by simp)
  rw[Nat.zero_mul,Nat.zero_add,List.flatMap_cons,List.set_append,if_pos (by show k<y.length;omega)];rfl
 | y::l,i+1,k,r,u,hl,h,hk=>by
  have:=hl y (by simp)
  rw[List.flatMap_cons,List.set_append,if_neg (by show ¬_<y.length;rw[Nat.succ_mul];omega),show(i+1)*size+k - (id y).length=i*size+k by rw[Nat.succ_mul];show _ - y.length=_;omega,
   fG l i k r u (λx d=>hl x (by simp[d])) (by simpa using h) hk]
  rfl
def WfF (f:bC):Prop:=wfi f.fn/\wfi f.at_/\wfi f.tos/\wfi f.gen/\wfi f.self.kind/\wfi f.self.n/\(∀v∈f.regs,wfi v.kind/\wfi v.n)/\∀t∈f.tries,wfi t.reg/\wfi t.at_
theorem dD.wf {w:World} {B:Nat} {cs:List Value} {f:bC} (h:dD w B cs f):WfF f:=by
 obtain⟨r,t,-,g,ht,j,l,p,q,s,u⟩:=h;refine⟨j,l,p,q,s,u,λv y=>?_,λx z=>?_⟩;·obtain⟨cs,d⟩:=g.mem y;exact d.2
 ·obtain⟨cs,d⟩:=ht.mem z;exact d.2
structure hJ (w:World) (B:Nat) (fv:Value) (l:List bC) (rs ts:List Value):Prop where
 lr:rs.length=l.length
 lt:ts.length=l.length
 row:w.ownsRow B 145 8 fv l.length ((eQ l rs ts).flatMap id)
 regs:∀(i:Nat) r f,rs[i]? = some r->l[i]? = some f->w.ownsRow B 51 2 r f.regs.length (f.regs.flatMap bE)
 tries:∀(i:Nat) t f,ts[i]? = some t->l[i]? = some f->w.ownsRow B 223 2 t f.tries.length (f.tries.flatMap dT)
 nodup:(rs.filterMap Value.ownBlock).Nodup
 wf:∀f∈l,WfF f
def xQ (l:List bC) (w:World) (e:Ending) (w':World):Prop:=∃fv rs ts,e=.returned fv/\hJ w' w.heap.size fv l rs ts/\Below w.heap.size w w'
theorem fH {w:World} {B B' n size:Nat} {e:TypeId} {v:Value} {xs:List Value} (h:w.ownsRow B e size v n xs) (hB:B'<=B):w.ownsRow B' e size v n xs:=by
 obtain⟨hl,j⟩:=h;refine⟨hl,?_⟩;rcases j with ⟨rfl,l⟩ | ⟨g,d,f,rfl,hb,h1⟩;·exact .inl ⟨rfl,l⟩
 ·exact .inr ⟨g,d,f,rfl,by omega,h1⟩
theorem kQ {w:World} {B C n m size p:Nat} {e d:TypeId} {v:Value} {xs q:List Value} {g f j:Nat} {u:Value} (h:w.ownsRow B e size v n xs) (l:w.ownsRow C d p (.slice (some ⟨g,0,none⟩) m f) m q) (ht:e≠d):(w.setCell ⟨g,j,none⟩ u).ownsRow B e size v n xs:= tD h l (by have:=(l.stored j u).2;exact this) ht
theorem ah6 {α : Type} {l:List α} {j:Nat} {u : α} (d:j<l.length):(l.set j u).take (j+1)=l.take j++[u]:=by
 have h:(l.take j).length=j:=by simp;omega
 rw[List.take_set,List.take_succ_eq_append_getElem d,List.set_append,if_neg (by omega),h];simp
theorem fm_snoc {l:List Value} {u:Value} : (l++[u]).filterMap Value.ownBlock=l.filterMap Value.ownBlock++(match u.ownBlock with | none=>[] | some g=>[g]):=by rw[List.filterMap_append];congr 1;cases h:u.ownBlock <;> simp[List.filterMap,h]
theorem ac8 {l:List Value} {u:Value} (h:(l.filterMap Value.ownBlock).Nodup) (p:∀g,u.ownBlock=some g->∀v∈l,v.ownBlock≠some g):((l++[u]).filterMap Value.ownBlock).Nodup:=by
 rw[fm_snoc]
 cases q:u.ownBlock with
 | none=>simpa using h
 | some g=>
  rw[List.nodup_append]
  refine⟨h,by simp,λa j b hb=>?_⟩
  rw[List.mem_singleton] at hb
  subst hb
  rintro rfl
  obtain⟨v,f,d⟩:=List.mem_filterMap.1 j
  exact p _ q v f d
theorem uJ (v:Value) (l:List bC) (pb:Nat) (w:World) (hs:aB w w.heap.size 8 (dD w w.heap.size) v l) (hl:l.length<=30) (j2:∀f∈l,aa2 f) (hp:w.cell? ⟨pb,0,none⟩=some (.func (.func 120) #[] #[])) : Calls prog 122 #[v,.pointer (some ⟨pb,0,none⟩)] w (xQ l w):=by
 unfold xQ;obtain⟨rows,i4,d6,i5⟩:=hs.raw;have h8:∀x∈rows,x.length=8:=λx hx=>by obtain⟨cs,_,h⟩:=d6.mem hx;exact h
 obtain⟨ro,a5,d7⟩:=pL (len:=l.length) (p:=λi (r:Value×Value)=>∀f,l[i]? = some f->rows[i]? = some (cN f r.1 r.2)/\aB w w.heap.size 2 hU r.1 f.regs/\aB w w.heap.size 2 kH r.2 f.tries) (λi hi=>by obtain⟨c,hc,hR⟩:=i5 i _ (lG hi);obtain⟨r,t,rfl,a,b,-⟩:=hR;exact⟨(r,t),λf hf=>by rw[lG hi] at hf;injection hf with hf;subst hf;exact⟨hc,a,b⟩⟩);obtain⟨z,a6⟩:∃z,ro.map Prod.fst=z:=⟨_,rfl⟩;obtain⟨D,a7⟩:∃D,ro.map Prod.snd=D:=⟨_,rfl⟩;have c6:z.length=l.length:=by rw[<-a6,List.length_map,a5]
 have c7:D.length=l.length:=by rw[<-a7,List.length_map,a5]
 have P:∀(i:Nat) f r t,l[i]? = some f->z[i]? = some r->D[i]? = some t->rows[i]? = some (cN f r t)/\aB w w.heap.size 2 hU r f.regs/\aB w w.heap.size 2 kH t f.tries:=λi f r t hf I ht=>by
  rw[<-a6,List.getElem?_map] at I;rw[<-a7,List.getElem?_map] at ht;obtain⟨x,hx,rfl⟩:=Option.map_eq_some_iff.1 I;obtain⟨y,hy,rfl⟩:=Option.map_eq_some_iff.1 ht;rw[hx] at hy;injection hy with hy;subst hy
  exact d7 i x hx f hf
 have b2:rows=eQ l z D:=by
  apply List.ext_getElem?;intro i;rcases Nat.lt_or_ge i l.length with h | h;·have hf:l[i]? = some l[i]:=lG h;have I:z[i]? = some (z[i]'(by omega)):=lG (by omega);have ht:D[i]? = some (D[i]'(by omega)):=lG (by omega);rw[(P i _ _ _ hf I ht).1,fJ l z D i _ _ _ hf I ht]
  ·rw[List.getElem?_eq_none (by omega),List.getElem?_eq_none (by rw[rL l z D c6 c7];exact h)]
 have c8:∀r∈rows,∀u∈r,u.oneCell'=true:=λr I u hu=>by
  obtain⟨i,hi⟩:=List.getElem?_of_mem I;have c9:i<l.length:=by have:=(lE hi).1;omega
  have hf:l[i]? = some l[i]:=lG c9;have L:z[i]? = some (z[i]'(by omega)):=lG (by omega);have M:D[i]? = some (D[i]'(by omega)):=lG (by omega);obtain⟨h1,h2,h3⟩:=P i _ _ _ hf L M;rw[hi] at h1;injection h1 with h1;subst h1
  obtain⟨A,c,e2,-⟩:=h2;obtain⟨A',c',e3,-⟩:=h3;unfold cN at hu;rw[e2,e3] at hu;simp only[List.mem_cons,List.not_mem_nil,or_false] at hu;rcases hu with rfl | rfl | rfl | rfl | rfl | rfl | rfl | rfl <;> rfl
 have CL:Hid (Calls prog 123 #[v] w λe w'=>∃u,e=.returned u/\w'.ownsRow w.heap.size 145 8 u l.length ((eQ l z D).flatMap id)/\Below w.heap.size w w'):=by have:=ahB v rows w d6 c8 (by omega);rw[i4,b2] at this;exact this
 have HP:=hI hp;have f2:=hI P;have h9:=hI c6;have i0:=hI c7;have l5:=hI j2;have l9:Hid (∀f∈l,WfF f):=λf hf=>by obtain⟨cs,hR⟩:=hs.mem hf;exact hR.wf
 obtain⟨A,n9,rfl,-⟩:=id hs;clear hs i4 d6 i5 h8 a5 d7 a6 a7 b2 c8 hp P c6 c7 j2;have m0:pb<w.heap.size:=eL HP.o;go_enter func122,ntmps122;go_wp2_with fail;refine CL.o.mono ?_;rintro e w1 ⟨fv,rfl,b0,k1⟩;have O1:=hI b0;have K1:=hI k1;obtain⟨GA,gc,rfl⟩:=cJ b0;clear b0 k1;go_wp2_with fail;go_loopw [11] (λk wr=>∃(j:Nat) (rs F:List Value),k=.int .i64 j/\j<=l.length/\Hid (rs.length=l.length/\F.length=l.length)/\Hid (wr.ownsRow w.heap.size 145 8 (.slice GA l.length gc) l.length ((eQ l rs F).flatMap id))/\ Hid (∀(i:Nat) r f,i<j->rs[i]? = some r->l[i]? = some f->wr.ownsRow w.heap.size 51 2 r f.regs.length (f.regs.flatMap bE))/\Hid (∀(i:Nat) t f,i<j->F[i]? = some t->l[i]? = some f->wr.ownsRow w.heap.size 223 2 t f.tries.length (f.tries.flatMap dT))/\ Hid (((rs.take j).filterMap Value.ownBlock).Nodup)/\Hid (∀i,j<=i->rs[i]? = z[i]?/\F[i]? = D[i]?)/\Hid (Below w.heap.size w wr)) (λk _=>l.length - (RowKit.intOf k).toNat);case atStart=>exact⟨0,z,D,rfl,by omega,⟨h9.o,i0.o⟩,O1.o,λi r f h=>by omega,λi r f h=>by omega,by rw[List.take_zero];exact List.nodup_nil,λi _=>⟨rfl,rfl⟩,K1.o⟩
 case round=>
  obtain⟨j,rs,F,rfl,hj,H,OF,HR,HT,i6,a9,KW⟩:=hrel;have m1:=KW.o.size;by_cases f1:j<l.length
  ·have m2:(j:Int)<l.length:=(by omega);obtain⟨g,b5,rfl,o1,i9⟩:∃g b5,GA=some ⟨g,0,none⟩/\w.heap.size<=g/\wr.heap[g]? = some (.cells b5 145 (0,0)):=by
    rcases OF.o.2 with ⟨e,h⟩ | ⟨g,n9,b5,e,k1,k2,-⟩;·omega
    ·injection e with e1 e2 e3;exact⟨g,b5,e1,k1,k2⟩
   obtain⟨f,hf⟩:∃f,l[j]? = some f:=⟨_,lG f1⟩;obtain⟨r,I⟩:∃r,z[j]? = some r:=⟨_,lG (by rw[h9.o];exact f1)⟩;obtain⟨t,ht⟩:∃t,D[j]? = some t:=⟨_,lG (by rw[i0.o];exact f1)⟩;obtain⟨-,d8,e0⟩:=f2.o j f r t hf I ht;have d0:rs[j]? = some r:=(a9.o j (Nat.le_refl _)).1.trans I;have d1:F[j]? = some t:=(a9.o j (Nat.le_refl _)).2.trans ht;have d2:(eQ l rs F)[j]? = some (cN f r t):=fJ l rs F j f r t hf d0 d1;have s:∀k,k<8->wr.cell? ⟨g,j*8+k,none⟩=(cN f r t)[k]?:=λk hk=>by rw[OF.o.cellAt (j*8+k) (by have:(j+1)*8<=l.length*8:=Nat.mul_le_mul_right _ (by omega);omega)];exact dB _ j k _ (i7 _ _ _) d2 hk
   have g0:wr.cell? ⟨g,j*8,none⟩=some (.int .i64 f.fn):=s 0 (by decide);have g1:wr.cell? ⟨g,j*8+1,none⟩=some (.int .i64 f.at_):=s 1 (by decide);have g2:wr.cell? ⟨g,j*8+2,none⟩=some (.int .i64 f.tos):=s 2 (by decide);have g3:wr.cell? ⟨g,j*8+3,none⟩=some (.int .i64 f.gen):=s 3 (by decide);have g4:wr.cell? ⟨g,j*8+4,none⟩=some (.int .i64 f.self.kind):=s 4 (by decide);have g5:wr.cell? ⟨g,j*8+5,none⟩=some (.int .i64 f.self.n):=s 5 (by decide);have g6:wr.cell? ⟨g,j*8+6,none⟩=some r:=s 6 (by decide);have g7:wr.cell? ⟨g,j*8+7,none⟩=some t:=s 7 (by decide);obtain⟨RA,rc,rfl,-⟩:=id d8;obtain⟨X,Y,rfl,-⟩:=id e0;have Z:=hI hf;have b3:=hI d0;have R:=hI d1;have i1:=l5.o f (lM hf);have m3:=hI d8;have m4:=hI e0;have SF:=hI i1;have s4:g<wr.heap.size:=(aE i9).1;obtain⟨J,b6⟩:∃J,J=wr.alloc (.cells #[.int .i64 f.fn,.int .i64 f.at_,.int .i64 f.tos,.int .i64 f.gen,.int .i64 f.self.kind,.int .i64 f.self.n,.slice RA f.regs.length rc,.slice X f.tries.length Y] 145):=⟨_,rfl⟩;have K2:Hid (Below wr.heap.size wr J):=(by rw[b6];exact aA _ _);have i2:Hid (aJ J wr.heap.size [.int .i64 f.fn,.int .i64 f.at_,.int .i64 f.tos,.int .i64 f.gen,.int .i64 f.self.kind,.int .i64 f.self.n,.slice RA f.regs.length rc,.slice X f.tries.length Y]):=(by rw[b6];exact akV _ _ _);have a3:=hI (KW.o.trans (K2.o.mono m1));have m6:=hI b6;clear hf I ht d0 d1 d2 s d8 e0 i1 i9 b6;go_upto_region 5 with fail;rw[<-m6.o];clear g0 g1 g2 g3 g4 g5 g6 g7;have a0:∀E:Up J,E.to.cell? ⟨pb,0,none⟩=some (.func (.func 120) #[] #[]):=λE=>E.cell ((a3.o.cell m0).trans HP.o);have a1:=ecZ (i2.o 6 _ rfl);have a2:=ecZ (i2.o 7 _ rfl);have s5:=tS;refine fP (λw'=>∃E:Up J,w'=E.to) [0,1,2,3] [4,5,6,8,9] [7,10,11,12,13,14,15,16] [7] _ (by kernel_rfl) (by kernel_rfl) (by simp only[List.cons_append,List.nil_append,List.filterMap_cons,List.filterMap_nil,List.getElem?_toArray,List.getElem?_cons_zero,List.getElem?_cons_succ];rfl) (λ_ _ d _ _ h=>by cases d <;> exact h) ⟨⟨_,(Below.refl _ J).drew⟩,rfl⟩ ?_;generalize j3:(λa'=>gT _ _ _ _ _ _ a' _)=qq;have i3:=hI j3;clear j3;show wpQuiet _ _ _ _ [_,_,_,_,_,_,_,_,_] _;repeat (go_big_quiet_step (fail))
   refine wpQuiet_nil ?_;rw[<-i3.o];clear i3 qq a0 a1 a2;refine aR rfl (λK hK=>?_);go_simp;refine(tI (.slice RA f.regs.length rc) f.regs J.drew (m3.o.keep a3.o.drew.size (λ_ hp=>a3.o.drew.cell hp) (λ_ _ h=>h)) (by have:=SF.o.regs;omega)).mono ?_;rintro e w3 ⟨u3,rfl,j0,k3⟩;have O3:=hI j0;have K3:Hid (Below J.heap.size J w3):=(Below.refl _ J).drew.trans k3;have b4:=btZ a3 K3.o;clear j0 k3;refine hK _ _ (λ_=>⟨⟨w3,K3.o⟩,rfl⟩) ?_;clear hK K;refine aR rfl (λK hK=>?_);go_simp;refine(adU (.slice X f.tries.length Y) f.tries w3 (m4.o.keep b4.o.size (λ_ hp=>b4.o.cell hp) (λ_ _ h=>h)) (by have:=SF.o.tries;omega)).mono ?_;rintro e w4 ⟨u4,rfl,j1,k4⟩;have O4:=hI j1;have K4:Hid (Below w3.heap.size w3 w4):=k4;have m8:=btZ b4 K4.o;clear j1 k4;refine hK _ _ (λh=>by cases h) ?_;clear hK K;refine bG [11,12,13,14,15,16] _ _ (by kernel_rfl) (by kernel_rfl) ?_;simp only[List.filterMap_cons,List.filterMap_nil,List.getElem?_toArray,List.getElem?_cons_zero,List.getElem?_cons_succ];obtain⟨N,O,rfl⟩:=cJ O3.o;obtain⟨U4,c4,rfl⟩:=cJ O4.o;have d3:Hid (Below wr.heap.size wr w4):=K2.o.trans ((K3.o.trans (K4.o.mono K3.o.size)).mono K2.o.size);have S:=hI (eA OF.o d3.o);have n0:=hI (eA O3.o K4.o);have s6:j*8+8<=l.length*8:=(by have:(j+1)*8<=l.length*8:=Nat.mul_le_mul_right _ (by omega);omega);have e6:w4.cell? ⟨g,j*8+6,none⟩=some (.slice RA f.regs.length rc):=(by rw[S.o.cellAt (j*8+6) (by omega)];exact dB _ j 6 _ (i7 _ _ _) (fJ l rs F j f _ _ Z.o b3.o R.o) (by decide));have e7:w4.cell? ⟨g,j*8+7,none⟩=some (.slice X f.tries.length Y):=(by rw[S.o.cellAt (j*8+7) (by omega)];exact dB _ j 7 _ (i7 _ _ _) (fJ l rs F j f _ _ Z.o b3.o R.o) (by decide));have z6:=S.o.frozenAt (j*8+6);have z7:=S.o.frozenAt (j*8+7);go_wp2_with fail;generalize c0:World.setCell _ _ _=w6;have ST:=hI (S.o.stored (j*8+6) (.slice N f.regs.length O)).1;have n2:=hI (ST.o.stored (j*8+7) (.slice U4 f.tries.length c4)).1;have d4:w.heap.size<=g:=o1;have n3:Hid (Below w.heap.size w w6):=(by rw[<-c0];exact(m8.o.setCell d4 _ ).setCell d4 _);have n4:Hid (w6.ownsRow w.heap.size 145 8 (.slice (some ⟨g,0,none⟩) l.length gc) l.length ((eQ l (rs.set j (.slice N f.regs.length O)) (F.set j (.slice U4 f.tries.length c4))).flatMap id)):=(by have hb:=H.o;have h1:(eQ l rs F)[j]? = some (cN f (.slice RA f.regs.length rc) (.slice X f.tries.length Y)):=fJ l rs F j f _ _ Z.o b3.o R.o;have d5:(rs.set j (.slice N f.regs.length O))[j]? = some (.slice N f.regs.length O):=(by rw[List.getElem?_set_self (by omega)]);have h2:(eQ l (rs.set j (.slice N f.regs.length O)) F)[j]? = some (cN f (.slice N f.regs.length O) (.slice X f.tries.length Y)):=fJ l _ F j f _ _ Z.o d5 R.o;have:=n2.o;rw[fG _ j 6 _ _ (i7 _ _ _) h1 (by decide),show(cN f (.slice RA f.regs.length rc) (.slice X f.tries.length Y)).set 6 (.slice N f.regs.length O)=cN f (.slice N f.regs.length O) (.slice X f.tries.length Y) from rfl,uP l rs F j f _ _ _ Z.o b3.o R.o,fG _ j 7 _ _ (i7 _ _ _) h2 (by decide),show(cN f (.slice N f.regs.length O) (.slice X f.tries.length Y)).set 7 (.slice U4 f.tries.length c4)=cN f (.slice N f.regs.length O) (.slice U4 f.tries.length c4) from rfl,uO l _ F j f _ _ _ Z.o d5 R.o] at this;rw[<-c0];exact this);have V:Hid (∀(B:Nat) (e:TypeId) (n:Nat) (v:Value) (xs:List Value),e≠145->w4.ownsRow B e 2 v n xs->w6.ownsRow B e 2 v n xs):=λB e n v xs ht h=>by rw[<-c0];exact kQ (kQ h S.o ht) ST.o ht
   have k6:Hid (∀q,(Value.slice N f.regs.length O).ownBlock=some q->wr.heap.size<=q):=λq hq=>by have:=(O3.o.lt q hq).1;have:=K2.o.size;show wr.heap.size<=q;have e:J.drew.heap.size=J.heap.size:=rfl;omega
   clear c0 e6 e7 z6 z7;go_wp2_with fail;go_roundw
   case rel=>
    refine⟨j+1,rs.set j (.slice N f.regs.length O),F.set j (.slice U4 f.tries.length c4),by go_num,by omega,?_,n4,?_,?_,?_,?_,n3⟩;·exact⟨by rw[List.length_set];exact H.o.1,by rw[List.length_set];exact H.o.2⟩
    ·intro i r' f' hi L G;by_cases a4:i=j
     ·subst a4;rw[List.getElem?_set_self (by have:=H.o.1;omega)] at L;injection L with L;subst L
      rw[Z.o] at G;injection G with G;subst G
      exact V.o _ _ _ _ _ (by decide) (fH n0.o (by have:=a3.o.size;exact this))
     ·rw[List.getElem?_set_ne (by omega)] at L;exact V.o _ _ _ _ _ (by decide) (eA (HR.o i r' f' (by omega) L G) d3.o)
    ·intro i t' f' hi M G;by_cases a4:i=j
     ·subst a4;rw[List.getElem?_set_self (by have:=H.o.2;omega)] at M;injection M with M;subst M
      rw[Z.o] at G;injection G with G;subst G
      exact V.o _ _ _ _ _ (by decide) (fH O4.o b4.o.size)
     ·rw[List.getElem?_set_ne (by omega)] at M;exact V.o _ _ _ _ _ (by decide) (eA (HT.o i t' f' (by omega) M G) d3.o)
    ·show(((rs.set j _).take (j+1)).filterMap Value.ownBlock).Nodup;rw[ah6 (by have:=H.o.1;omega)];refine ac8 i6.o (λq hq v hv o7=>?_);obtain⟨i,hi⟩:=List.getElem?_of_mem hv;rw[List.getElem?_take] at hi;split at hi;·rename_i a4;have c9:i<l.length:=(by omega);have:=(HR.o i v _ a4 hi (lG c9)).lt q o7;have:=k6.o q hq;omega
     ·cases hi
    ·intro i hi;rw[List.getElem?_set_ne (by omega),List.getElem?_set_ne (by omega)];exact a9.o i (by omega)
   case measure=>simp[RowKit.intOf];omega
  ·have m2:¬(j:Int)<l.length:=(by omega);have t0:j=l.length:=(by omega);have n5:Hid (hJ wr w.heap.size (.slice GA l.length gc) l rs F):=(by refine⟨H.o.1,H.o.2,OF.o,λi r f I hf=>HR.o i r f (by have:=(lE hf).1;omega) I hf,λi t f ht hf=>HT.o i t f (by have:=(lE hf).1;omega) ht hf,?_,l9.o⟩;have:=i6.o;rwa [List.take_of_length_le (by have:=H.o.1;omega)] at this);go_wp2_with fail;go_ret;exact⟨_,rfl,⟨_,_,n5.o⟩,KW.o⟩
end
section
open Go.RowKit
structure gC (w:World) (lo hi:Nat) (fv:Value) (l:List bC) (rs ts:List Value):Prop where
 at_:hJ w lo fv l rs ts
 fb:∀g,fv.ownBlock=some g->g<hi
 rb:∀r∈rs,∀g,r.ownBlock=some g->g<hi
 tb:∀t∈ts,∀g,t.ownBlock=some g->g<hi
def eF (w w':World):Prop:=∀(B:Nat) (e:TypeId) (size n:Nat) (v:Value) (xs:List Value),e=145\/e=51\/e=223->w.ownsRow B e size v n xs->w'.ownsRow B e size v n xs
theorem eF.of {w w':World} (h:Below w.heap.size w w'):eF w w':=λ_ _ _ _ _ _ _ d=>eA d h
theorem eF.trans {a b c:World} (h:eF a b) (g:eF b c):eF a c:=λB e s n v xs ht d=>g B e s n v xs ht (h B e s n v xs ht d)
theorem eF.set {w:World} {C m l:Nat} {d:TypeId} {p:List Value} {g f j:Nat} {u:Value} (q:w.ownsRow C d l (.slice (some ⟨g,0,none⟩) m f) m p) (h1:145≠d) (r:51≠d) (x:223≠d):eF w (w.setCell ⟨g,j,none⟩ u):= λB e s n v xs ht h=>kQ h q (by rcases ht with rfl | rfl | rfl;exact h1;exact r;exact x)
theorem eF.set_far {w:World} {g j:Nat} {u:Value} {cs:Array Value} {d:TypeId} (f:w.heap[g]? = some (.cells cs d (0,0))) (h1:145≠d) (l:51≠d) (p:223≠d):eF w (w.setCell ⟨g,j,none⟩ u):= λB e s n v xs ht h=>cY h f (by rcases ht with rfl | rfl | rfl;exact Ne.symm h1;exact Ne.symm l;exact Ne.symm p) j u
theorem hJ.keep {w w':World} {B:Nat} {g:Value} {l:List bC} {rs j:List Value} (h:hJ w B g l rs j) (d:eF w w'):hJ w' B g l rs j:= ⟨h.lr,h.lt,d _ _ _ _ _ _ (.inl rfl) h.row,λi r f p hf=>d _ _ _ _ _ _ (.inr (.inl rfl)) (h.regs i r f p hf),λi t f ht hf=>d _ _ _ _ _ _ (.inr (.inr rfl)) (h.tries i t f ht hf),h.nodup,h.wf⟩
theorem gC.keep {w w':World} {d hi:Nat} {f:Value} {l:List bC} {rs g:List Value} (h:gC w d hi f l rs g) (j:eF w w'):gC w' d hi f l rs g:= ⟨h.at_.keep j,h.fb,h.rb,h.tb⟩
theorem gC.more {w:World} {q hi f:Nat} {s:Value} {l:List bC} {rs u:List Value} (h:gC w q hi s l rs u) (p:hi<=f):gC w q f s l rs u:= ⟨h.at_,λg d=>Nat.lt_of_lt_of_le (h.fb g d) p,λr j g d=>Nat.lt_of_lt_of_le (h.rb r j g d) p,λr j g d=>Nat.lt_of_lt_of_le (h.tb r j g d) p⟩
theorem hJ.now {w:World} {j:Nat} {p:Value} {l:List bC} {rs q:List Value} (h:hJ w j p l rs q):gC w j w.heap.size p l rs q:=by
 refine⟨h,λg d=>(h.row.lt g d).2,λr s g d=>?_,λt ht g d=>?_⟩;·obtain⟨i,hi⟩:=List.getElem?_of_mem s;have f:=(lE hi).1;exact((h.regs i r _ hi (lG (by have:=h.lr;omega))).lt g d).2
 ·obtain⟨i,hi⟩:=List.getElem?_of_mem ht;have f:=(lE hi).1;exact((h.tries i t _ hi (lG (by have:=h.lt;omega))).lt g d).2
def bM (c:bJ) (v f:Value):List Value:=[.int .i64 c.kind,.int .i64 c.num,v,f]
def jC (h:cD) (f:Value):List Value:=[f,.int .i64 h.state,.int .i64 h.on_,.int .i64 h.val.kind,.int .i64 h.val.n]
def mQ (w:World) (lo hi:Nat) (c:bJ) (v f:Value):Prop:=∃m rs ts,lo<=m/\m<=hi/\w.ownsRow lo 51 2 v c.vals.length (c.vals.flatMap bE)/\(∀g,v.ownBlock=some g->g<m)/\gC w m hi f c.frames rs ts
theorem mQ.keep {w w':World} {d hi:Nat} {c:bJ} {v f:Value} (h:mQ w d hi c v f) (g:eF w w'):mQ w' d hi c v f:=by obtain⟨m,rs,j,h1,l,p,q,r⟩:=h;exact⟨m,rs,j,h1,l,g _ _ _ _ _ _ (.inr (.inl rfl)) p,q,r.keep g⟩
def iQ (w:World) (lo hi:Nat) (h:cD) (f:Value):Prop:=∃rs ts,gC w lo hi f h.frames rs ts
theorem iQ.keep {w w':World} {d hi:Nat} {h:cD} {f:Value} (a:iQ w d hi h f) (l:eF w w'):iQ w' d hi h f:=by obtain⟨rs,g,j⟩:=a;exact⟨rs,g,j.keep l⟩
theorem fC {α : Type} {l:List α} {i:Nat} {x : α} (h:l[i]? = some x) (y : α):(l.set i y)[i]? = some y:=List.getElem?_set_self (lE h).1
theorem gR {rows:List (List Value)} {n i:Nat} {r:List Value} (h:∀x∈rows,x.length=n) (f:r.length=n):∀x∈rows.set i r,x.length=n:=λx d=>by
 rcases List.mem_or_eq_of_mem_set d with h1 | h1
 ·exact h x h1
 ·rw[h1];exact f
structure xO (w:World) (B:Nat) (cs:List Value) (S:aP) (co lo:Nat->Nat) (cv thv:Value) (rows trows:List (List Value)) (shv txv env sav:Value):Prop where
 cells:cs=[cv,shv,txv,thv,env,sav,.int .i64 S.asked,.int .i64 S.steps]
 crow:w.ownsRow B 166 4 cv S.cells.length (rows.flatMap id)
 clen:rows.length=S.cells.length
 c4:∀x∈rows,x.length=4
 cpart:∀(i:Nat) c,S.cells[i]? = some c->∃v f,rows[i]? = some (bM c v f)/\mQ w (co i) (co (i+1)) c v f
 cblk:∀g,cv.ownBlock=some g->g<co 0
 cmono:∀i,co i<=co (i+1)
 trow:w.ownsRow (co S.cells.length) 140 5 thv S.threads.length (trows.flatMap id)
 tlen:trows.length=S.threads.length
 t5:∀x∈trows,x.length=5
 tpart:∀(i:Nat) h,S.threads[i]? = some h->∃f,trows[i]? = some (jC h f)/\iQ w (lo i) (lo (i+1)) h f
 tblk:∀g,thv.ownBlock=some g->g<lo 0
 tmono:∀i,lo i<=lo (i+1)
 tco:co S.cells.length<=lo 0
 lend:∀i,lo i<=w.heap.size
 shapes:bW w (λb=>lo S.threads.length<=b/\b<w.heap.size) 2 jG shv S.shapes
 texts:bW w (λb=>lo S.threads.length<=b/\b<w.heap.size) 1 nM txv S.texts
 ends:bW w (λb=>lo S.threads.length<=b/\b<w.heap.size) 3 yM env S.ends
 said:bW w (λb=>lo S.threads.length<=b/\b<w.heap.size) 2 hU sav S.said
 wfc:∀c∈S.cells,wfi c.kind/\wfi c.num/\∀v∈c.vals,wfi v.kind/\wfi v.n
 wft:∀h∈S.threads,wfi h.state/\wfi h.on_/\wfi h.val.kind/\wfi h.val.n
 wfs:wfi S.asked/\wfi S.steps
 cb:B<=co 0
structure dP (L:List (Addr×Value)) where
 wd:World
 here:∀p∈L,wd.cell? p.1=some p.2
end
section
open Go.RowKit
theorem adF:(prog.info? 9).map (λi=>(i.zero.map (·.cells.size),i.size,i.bytes))=some (some 1,1,16):=by kernel_rfl
theorem ag9 (v:Value) (rows:List (List Value)) (w:World) (s:aB w w.heap.size 1 (Raw 1) v rows) (h1:∀r∈rows,∀u∈r,u.oneCell'=true) (G:rows.length*16<=140737488355328) : Calls prog 128 #[v] w λe w'=>∃u,e=.returned u/\w'.ownsRow w.heap.size 9 1 u rows.length (rows.flatMap id)/\Below w.heap.size w w':=by
 have d:∀x∈rows,x.length=1:=λx hx=>by obtain⟨cs,_,h⟩:=s.mem hx;exact h
 obtain⟨A,p,rfl,a4,a5,l⟩:=id s;cases A with
 | none=>
  have e:rows=[]:=by
   rcases Nat.eq_zero_or_pos rows.length with h | h
   ·exact List.length_eq_zero_iff.1 h
   ·obtain⟨b,K,h,_⟩:=l h;cases h
  subst e
  have O:∀W,(binOp .eql 24 (.slice none 0 p) (.slice none 0 0)).run prog W=.ok (.bool true) W:=λW=>Lib.run_eql_slice_nil W _ _ _ _ _ _ _ underlying24
  clear l s d h1
  simp only[List.length_nil] at *
  go_enter func128,ntmps128
  go_wp2_with fail
  go_ret
  exact⟨_,rfl,World.ownsRow_nil _ _ _ _,Below.refl _ _⟩
 | some ad=>
  have O:∀W,(binOp .eql 24 (.slice (some ad) rows.length p) (.slice none 0 0)).run prog W=.ok (.bool false) W:=λW=>Lib.run_eql_slice_nil W _ _ _ _ _ _ _ underlying24
  have g:∀j u,(rows.flatMap id)[j]? = some u->w.cell? (ad.add j)=some u:=by
   rcases Nat.eq_zero_or_pos rows.length with h | h
   ·have e:rows=[]:=List.length_eq_zero_iff.1 h
    subst e;simp
   ·obtain⟨b,K,h,_⟩:=l h
    injection h with h
    subst h
    exact fE (by decide) d (λcs x h=>h.1) s
  obtain⟨i0,hi,L⟩:=Option.map_eq_some_iff.1 adF
  simp only[Prod.mk.injEq] at L
  obtain⟨M,y,D⟩:=L
  obtain⟨z,E,F⟩:=Option.map_eq_some_iff.1 M
  have P:=hI g
  have R:=hI hi
  have S:=hI E
  have H:=hI y
  have I:=hI D
  have J:=hI F
  have hl:rows.length<=maxLen:=by unfold maxLen;omega
  have V:=hI hl
  have HR:=hI d
  have X:=hI (jM (f:=id) rows h1)
  have Y:=hI (jA (f:=id) rows d)
  clear g hi E y D F M hl d h1 s l
  go_enter func128,ntmps128
  go_wp2_with (at_builtin;refine wpList_append_own _ rfl _ _ 24 rfl w.heap.size 9 i0 z 1 16 underlying24 R.o S.o H.o I.o J.o (by decide) (.slice (some ⟨w.heap.size,0,none⟩) 0 0) 0 [] rfl (jL _ _ _) ad rows.length p (rows.flatMap id) rfl Y.o (λj u hj=>kL (P.o j u hj) _) X.o (by rw[Nat.zero_add];exact V.o) (by rw[Nat.zero_add];exact G) (by simp) ?_)
  intro v' w6 q N _
  have Z:=hI N
  have KO:=hI q
  clear N q
  go_wp2_with fail
  go_ret
  refine⟨_,rfl,by simpa using KO.o,Below.grown (aA w _) Z.o (by simp) (by simp[Value.ownBlock])⟩
def sW {α : Type} (size:Nat) (R:List Value->α->Prop) (xs:List α) (w:World) (e:Ending) (w':World):Prop:=
 ∃u,e=.returned u/\bW w' (λb=>w.heap.size<=b/\b<w'.heap.size) size R u xs/\Below w.heap.size w w'
theorem tY {α : Type} {F:FuncId} {ty:TypeId} {size:Nat} {R:List Value->α->Prop} {v:Value} {l:List α} {w:World} (G:aB w w.heap.size size R v l) (q:∀c x,R c x->∀u∈c,u.oneCell'=true) (C:∀rows:List (List Value),aB w w.heap.size size (Raw size) v rows->(∀r∈rows,∀u∈r,u.oneCell'=true)->rows.length=l.length->Calls prog F #[v] w λe w'=>∃u,e=.returned u/\w'.ownsRow w.heap.size ty size u rows.length (rows.flatMap id)/\Below w.heap.size w w') : Calls prog F #[v] w (sW size R l w):=by
 obtain⟨rows,h1,y,z⟩:=G.raw;have hl:∀r∈rows,r.length=size:=λr j=>by obtain⟨_,_,h⟩:=y.mem j;exact h
 refine(C rows y (λr j u f=>?_) h1).mono ?_
 ·obtain⟨i,hi⟩:=List.getElem?_of_mem j;have s:i<l.length:=by have:=(lE hi).1;omega
  obtain⟨c,d,p⟩:=z i _ (lG s);rw[hi] at d;injection d with d;subst d
  exact q _ _ p u f
 ·rintro e w' ⟨u,rfl,f,k⟩;obtain⟨A,c,rfl⟩:=cJ f;rw[h1] at f;refine⟨_,rfl,?_,k⟩;rw[h1];refine iD f h1 hl (λg cs H hb D=>⟨hb,(aE D).1⟩) (λi r x j E=>?_);obtain⟨c',d,p⟩:=z i x E;rw[j] at d;injection d with d;subst d
  exact p
theorem adW (v:Value) (l:List aO) (w:World) (h:aB w w.heap.size 2 jG v l) (hl:l.length<=1000000):Calls prog 127 #[v] w (sW 2 jG l w):= tY h (λc x f u d=>by rw[f.1] at d;simp at d;rcases d with rfl | rfl <;> rfl) (λrows h1 g j=>ahA v rows w h1 g (by omega))
theorem adX (v:Value) (l:List ad6) (w:World) (h:aB w w.heap.size 3 yM v l) (hl:l.length<=1000000):Calls prog 129 #[v] w (sW 3 yM l w):= tY h (λc x f u d=>by rw[f.1] at d;simp at d;rcases d with rfl | rfl | rfl <;> rfl) (λrows h1 g j=>adS v rows w h1 g (by omega))
theorem adV (v:Value) (l:List ByteArray) (w:World) (h:aB w w.heap.size 1 nM v l) (hl:l.length<=1000000):Calls prog 128 #[v] w (sW 1 nM l w):= tY h (λc x f u d=>by rw[f.1] at d;simp at d;rcases d with rfl;rfl) (λrows h1 g j=>ag9 v rows w h1 g (by omega))
theorem af3 (v:Value) (l:List Val) (w:World) (j:aB w w.heap.size 2 hU v l) (hl:l.length<=1000000):Calls prog 120 #[v] w (sW 2 hU l w):=by
 refine(tI v l w j hl).mono ?_;rintro e w' ⟨u,rfl,f,k⟩;obtain⟨A,c,rfl⟩:=cJ f;refine⟨_,rfl,?_,k⟩;rw[<-eS] at f;refine iD f (by rw[List.length_map]) (λr d=>by obtain⟨x,-,rfl⟩:=List.mem_map.1 d;rfl) (λg cs s hb q=>⟨hb,(aE q).1⟩) (λi r x d h=>?_);rw[List.getElem?_map,h] at d;injection d with d;subst d
 obtain⟨_,p⟩:=j.mem (lM h);exact⟨rfl,p.2⟩
theorem bW.far {α : Type} {w w':World} {Q Q':Nat->Prop} {size:Nat} {R:List Value->α->Prop} {v:Value} {xs:List α} (h:bW w Q size R v xs) (f:∀b,Q b->Q' b) (g:∀b,Q b->w'.heap[b]? = w.heap[b]?):bW w' Q' size R v xs:= h.keep f (λp d=>World.cell?_of_block (g p.block d)) (λ_ _ h=>h)
theorem mQ.less {w:World} {g d hi:Nat} {c:bJ} {v f:Value} (h:mQ w g hi c v f) (hl:d<=g):mQ w d hi c v f:=by obtain⟨m,rs,j,h1,l,p,q,r⟩:=h;exact⟨m,rs,j,by omega,l,fH p hl,q,r⟩
theorem hJ.less {w:World} {B B':Nat} {d:Value} {l:List bC} {rs g:List Value} (h:hJ w B d l rs g) (hb:B'<=B):hJ w B' d l rs g:= ⟨h.lr,h.lt,fH h.row hb,λi r f j hf=>fH (h.regs i r f j hf) hb,λi t f ht hf=>fH (h.tries i t f ht hf) hb,h.nodup,h.wf⟩
theorem iQ.less {w:World} {j g hi:Nat} {x:cD} {f:Value} (h:iQ w j hi x f) (hl:g<=j):iQ w g hi x f:=by obtain⟨rs,l,d⟩:=h;exact⟨rs,l,d.at_.less hl,d.fb,d.rb,d.tb⟩
end
end Go.Proofs.YtijihlcdhppfgaaGreatDoor
