/- A part of the walk. -/
import Derived.Test.YtjaphgpkkfdaaaaGreatDoorZR
set_option maxHeartbeats 16000000
set_option maxRecDepth 100000
set_option linter.all false
namespace Go.Proofs.YtjaphgpkkfdaaaaGreatDoor
open Tryz
section
open Go.RowKit
def aZ (v:Val):List Value:=[.int .i64 v.kind,.int .i64 v.n]
theorem val_raw {w:World} {B:Nat} {v:Value} {l:List Val} (h:aH w B 2 hU v l):aH w B 2 (Raw 2) v (l.map aZ):=by obtain⟨A,d,f,g,j,m⟩:=h;refine⟨A,d,by rw[List.length_map];exact f,by rw[List.length_map];exact g,j,λD=>?_⟩;obtain⟨b,e,p,q,r⟩:=m (by simpa using D);refine⟨b,e,p,q,λi x hi=>?_⟩;rw[List.getElem?_map] at hi;obtain⟨y,s,rfl⟩:=Option.map_eq_some_iff.1 hi;obtain⟨cs,u,⟨z,-⟩,C⟩:=r i y s;exact⟨cs,u,⟨z,rfl⟩,C⟩
theorem dI {α : Type} (f : α->List Value):∀l:List α,(l.map f).flatMap id=l.flatMap f
 | []=>rfl
 | x::l=>by rw[List.map_cons,List.flatMap_cons,List.flatMap_cons,dI f l];rfl
def wP (l:List Val) (w:World) (e:Ending) (w':World):Prop:=∃u,e=.returned u/\w'.ownsRow w.heap.size 48 2 u l.length (l.flatMap aZ)/\Below w.heap.size w w'
theorem yE (v:Value) (l:List Val) (w:World) (f:aH w w.heap.size 2 hU v l) (hl:l.length<=1000000):Calls prog 60 #[v] w (wP l w):=by have h:=abH v (l.map aZ) w (val_raw f) (by intro r e u d;obtain⟨x,-,rfl⟩:=List.mem_map.1 e;unfold aZ at d;simp at d;rcases d with rfl | rfl <;> rfl) (by rw[List.length_map];omega);rw[List.length_map,dI] at h;exact h
theorem yF (v:Value) (l:List gM) (w:World) (g:aH w w.heap.size 2 jW v l) (hl:l.length<=1000000):Calls prog 63 #[v] w λe w'=>∃u,e=.returned u/\w'.ownsRow w.heap.size 96 2 u l.length (l.flatMap cO)/\Below w.heap.size w w':=by have h:=uA v (l.map cO) w (yT g) (by intro r f u d;obtain⟨x,-,rfl⟩:=List.mem_map.1 f;unfold cO at d;simp at d;rcases d with rfl | rfl <;> rfl) (by rw[List.length_map];omega);rw[List.length_map,dI] at h;exact h
theorem pN:∀d W,(callFunc 59 d).run prog W=.ok (.enter 59 d) W:=enters_of func59 (by kernel_rfl) rfl
theorem tX:∀d W,(callFunc 61 d).run prog W=.ok (.enter 61 d) W:=enters_of func61 (by kernel_rfl) rfl
theorem pG (v:Value) (l:List Val) (w:World) (g:aH w w.heap.size 2 hU v l) (hl:l.length<=1000000):Calls prog 59 #[v] w (wP l w):=by have C:=hI (yE v l w g hl);obtain⟨A,j,rfl,-⟩:=g;go_enter func59,ntmps59;go_wp2_with fail;refine C.o.mono ?_;rintro e w1 ⟨u,rfl,d,f⟩;have h:=hI d;have i:=hI f;clear d f;go_wp2_with fail;go_ret;exact⟨_,rfl,h.o,i.o⟩
def bX (f:a8) (r t:Value):List Value:=[.int .i64 f.fn,.int .i64 f.at_,.int .i64 f.tos,.int .i64 f.gen,.int .i64 f.self.kind,.int .i64 f.self.n,r,t]
def dH:List a8->List Value->List Value->List (List Value)
 | f::l,r::rs,t::ts=>bX f r t::dH l rs ts
 | _,_,_=>[]
theorem dV:∀(l:List a8) (rs d:List Value) (i:Nat) (f:a8) (r t:Value),l[i]? = some f->rs[i]? = some r->d[i]? = some t->(dH l rs d)[i]? = some (bX f r t)
 | [],_,_,_,_,_,_,h,_,_=>by simp at h
 | _::_,[],_,_,_,_,_,_,h,_=>by simp at h
 | _::_,_::_,[],_,_,_,_,_,_,h=>by simp at h
 | f::l,r::rs,t::d,0,f',r',t',h1,h2,h3=>by
  simp only[List.getElem?_cons_zero,Option.some.injEq] at h1 h2 h3
  subst h1;subst h2;subst h3;rfl
 | f::l,r::rs,t::d,i+1,f',r',t',h1,h2,h3=>by
  simp only[List.getElem?_cons_succ] at h1 h2 h3
  exact dV l rs d i f' r' t' h1 h2 h3
theorem nW:∀(l:List a8) (rs d:List Value),rs.length=l.length->d.length=l.length->(dH l rs d).length=l.length
 | [],_,_,_,_=>by unfold dH;rfl
 | f::l,[],_,h,_=>by simp at h
 | f::l,_::_,[],_,h=>by simp at h
 | f::l,r::rs,t::d,h1,h2=>by
  unfold dH
  rw[List.length_cons,nW l rs d (by simpa using h1) (by simpa using h2)];rfl
theorem gC:∀(l:List a8) (rs d:List Value),∀x∈dH l rs d,x.length=8
 | [],_,_,x,h=>by unfold dH at h;cases h
 | f::l,[],_,x,h=>by unfold dH at h;cases h
 | f::l,_::_,[],x,h=>by unfold dH at h;cases h
 | f::l,r::rs,t::d,x,h=>by
  unfold dH at h
  rcases List.mem_cons.1 h with rfl | h
  ·rfl
  ·exact gC l rs d x h
theorem qD:∀(l:List a8) (rs d:List Value) (i:Nat) (f:a8) (r t u:Value),l[i]? = some f->rs[i]? = some r->d[i]? = some t->(dH l rs d).set i (bX f u t)=dH l (rs.set i u) d
 | [],_,_,_,_,_,_,_,h,_,_=>by simp at h
 | _::_,[],_,_,_,_,_,_,_,h,_=>by simp at h
 | _::_,_::_,[],_,_,_,_,_,_,_,h=>by simp at h
 | f::l,r::rs,t::d,0,f',r',t',u,h1,h2,h3=>by
  simp only[List.getElem?_cons_zero,Option.some.injEq] at h1 h2 h3
  subst h1;subst h2;subst h3;rfl
 | f::l,r::rs,t::d,i+1,f',r',t',u,h1,h2,h3=>by
  simp only[List.getElem?_cons_succ] at h1 h2 h3
  show bX f r t::(dH l rs d).set i _=bX f r t::dH l (rs.set i u) d
  rw[qD l rs d i f' r' t' u h1 h2 h3]
theorem qC:∀(l:List a8) (rs d:List Value) (i:Nat) (f:a8) (r t u:Value),l[i]? = some f->rs[i]? = some r->d[i]? = some t->(dH l rs d).set i (bX f r u)=dH l rs (d.set i u)
 | [],_,_,_,_,_,_,_,h,_,_=>by simp at h
 | _::_,[],_,_,_,_,_,_,_,h,_=>by simp at h
 | _::_,_::_,[],_,_,_,_,_,_,_,h=>by simp at h
 | f::l,r::rs,t::d,0,f',r',t',u,h1,h2,h3=>by
  simp only[List.getElem?_cons_zero,Option.some.injEq] at h1 h2 h3
  subst h1;subst h2;subst h3;rfl
 | f::l,r::rs,t::d,i+1,f',r',t',u,h1,h2,h3=>by
  simp only[List.getElem?_cons_succ] at h1 h2 h3
  show bX f r t::(dH l rs d).set i _=bX f r t::dH l rs (d.set i u)
  rw[qC l rs d i f' r' t' u h1 h2 h3]
theorem dT {size:Nat} : ∀(rows:List (List Value)) (i k:Nat) (r:List Value) (u:Value),(∀x∈rows,x.length=size)->rows[i]? = some r->k<size->(rows.flatMap id).set (i*size+k) u=(rows.set i (r.set k u)).flatMap id
 | [],_,_,_,_,_,h,_=>by simp at h
 | y::l,0,k,r,u,hl,h,hk=>by
  obtain rfl:y=r:=by simpa using h
  have:=hl y (by simp)
  rw[Nat.zero_mul,Nat.zero_add,List.flatMap_cons,List.set_append,if_pos (by show k<y.length;omega)];rfl
 | y::l,i+1,k,r,u,hl,h,hk=>by
  have:=hl y (by simp)
  rw[List.flatMap_cons,List.set_append,if_neg (by show ¬_<y.length;rw[Nat.succ_mul];omega),show(i+1)*size+k - (id y).length=i*size+k by rw[Nat.succ_mul];show _ - y.length=_;omega,
   dT l i k r u (λx d=>hl x (by simp[d])) (by simpa using h) hk]
  rfl
def WfF (f:a8):Prop:=wfi f.fn/\wfi f.at_/\wfi f.tos/\wfi f.gen/\wfi f.self.kind/\wfi f.self.n/\(∀v∈f.regs,wfi v.kind/\wfi v.n)/\∀t∈f.tries,wfi t.reg/\wfi t.at_
theorem eR.wf {w:World} {B:Nat} {cs:List Value} {f:a8} (h:eR w B cs f):WfF f:=by
 obtain⟨r,t,-,e,ht,g,i,j,l,m,p⟩:=h;refine⟨g,i,j,l,m,p,λv q=>?_,λx s=>?_⟩;·obtain⟨cs,d⟩:=e.mem q;exact d.2
 ·obtain⟨cs,d⟩:=ht.mem s;exact d.2
structure fD (w:World) (B:Nat) (fv:Value) (l:List a8) (rs ts:List Value):Prop where
 lr:rs.length=l.length
 lt:ts.length=l.length
 row:w.ownsRow B 61 8 fv l.length ((dH l rs ts).flatMap id)
 regs:∀(i:Nat) r f,rs[i]? = some r->l[i]? = some f->w.ownsRow B 48 2 r f.regs.length (f.regs.flatMap aZ)
 tries:∀(i:Nat) t f,ts[i]? = some t->l[i]? = some f->w.ownsRow B 96 2 t f.tries.length (f.tries.flatMap cO)
 nodup:(rs.filterMap Value.ownBlock).Nodup
 wf:∀f∈l,WfF f
def sN (l:List a8) (w:World) (e:Ending) (w':World):Prop:=∃fv rs ts,e=.returned fv/\fD w' w.heap.size fv l rs ts/\Below w.heap.size w w'
theorem dU {w:World} {B B' n size:Nat} {e:TypeId} {v:Value} {xs:List Value} (h:w.ownsRow B e size v n xs) (hB:B'<=B):w.ownsRow B' e size v n xs:=by
 obtain⟨hl,i⟩:=h;refine⟨hl,?_⟩;rcases i with ⟨rfl,j⟩ | ⟨g,d,f,rfl,hb,l⟩;·exact .inl ⟨rfl,j⟩
 ·exact .inr ⟨g,d,f,rfl,by omega,l⟩
theorem iS {w:World} {B C n m size l:Nat} {e d:TypeId} {v:Value} {xs p:List Value} {g f j:Nat} {u:Value} (h:w.ownsRow B e size v n xs) (i:w.ownsRow C d l (.slice (some ⟨g,0,none⟩) m f) m p) (ht:e≠d):(w.setCell ⟨g,j,none⟩ u).ownsRow B e size v n xs:= pC h i (by have:=(i.stored j u).2;exact this) ht
theorem acA {α : Type} {l:List α} {j:Nat} {u : α} (d:j<l.length):(l.set j u).take (j+1)=l.take j++[u]:=by
 have h:(l.take j).length=j:=by simp;omega
 rw[List.take_set,List.take_succ_eq_append_getElem d,List.set_append,if_neg (by omega),h];simp
theorem fm_snoc {l:List Value} {u:Value} : (l++[u]).filterMap Value.ownBlock=l.filterMap Value.ownBlock++(match u.ownBlock with | none=>[] | some g=>[g]):=by rw[List.filterMap_append];congr 1;cases h:u.ownBlock <;> simp[List.filterMap,h]
theorem xL {l:List Value} {u:Value} (h:(l.filterMap Value.ownBlock).Nodup) (i:∀g,u.ownBlock=some g->∀v∈l,v.ownBlock≠some g):((l++[u]).filterMap Value.ownBlock).Nodup:=by
 rw[fm_snoc]
 cases j:u.ownBlock with
 | none=>simpa using h
 | some g=>
  rw[List.nodup_append]
  refine⟨h,by simp,λa f b hb=>?_⟩
  rw[List.mem_singleton] at hb
  subst hb
  rintro rfl
  obtain⟨v,e,d⟩:=List.mem_filterMap.1 f
  exact i _ j v e d
theorem p7 (v:Value) (l:List a8) (pb:Nat) (w:World) (hs:aH w w.heap.size 8 (eR w w.heap.size) v l) (hl:l.length<=30) (j0:∀f∈l,vG f) (hp:w.cell? ⟨pb,0,none⟩=some (.func (.func 59) #[] #[])) : Calls prog 61 #[v,.pointer (some ⟨pb,0,none⟩)] w (sN l w):=by
 unfold sN;obtain⟨rows,i2,d4,i3⟩:=hs.raw;have h8:∀x∈rows,x.length=8:=λx hx=>by obtain⟨cs,_,h⟩:=d4.mem hx;exact h
 obtain⟨ro,Z,d5⟩:=mL (len:=l.length) (p:=λi (r:Value×Value)=>∀f,l[i]? = some f->rows[i]? = some (bX f r.1 r.2)/\aH w w.heap.size 2 hU r.1 f.regs/\aH w w.heap.size 2 jW r.2 f.tries) (λi hi=>by obtain⟨c,hc,hR⟩:=i3 i _ (lG hi);obtain⟨r,t,rfl,a,b,-⟩:=hR;exact⟨(r,t),λf hf=>by rw[lG hi] at hf;injection hf with hf;subst hf;exact⟨hc,a,b⟩⟩);obtain⟨s,a3⟩:∃s,ro.map Prod.fst=s:=⟨_,rfl⟩;obtain⟨z,a4⟩:∃z,ro.map Prod.snd=z:=⟨_,rfl⟩;have c2:s.length=l.length:=by rw[<-a3,List.length_map,Z]
 have c5:z.length=l.length:=by rw[<-a4,List.length_map,Z]
 have N:∀(i:Nat) f r t,l[i]? = some f->s[i]? = some r->z[i]? = some t->rows[i]? = some (bX f r t)/\aH w w.heap.size 2 hU r f.regs/\aH w w.heap.size 2 jW t f.tries:=λi f r t hf G ht=>by
  rw[<-a3,List.getElem?_map] at G;rw[<-a4,List.getElem?_map] at ht;obtain⟨x,hx,rfl⟩:=Option.map_eq_some_iff.1 G;obtain⟨y,hy,rfl⟩:=Option.map_eq_some_iff.1 ht;rw[hx] at hy;injection hy with hy;subst hy
  exact d5 i x hx f hf
 have a7:rows=dH l s z:=by
  apply List.ext_getElem?;intro i;rcases Nat.lt_or_ge i l.length with h | h;·have hf:l[i]? = some l[i]:=lG h;have G:s[i]? = some (s[i]'(by omega)):=lG (by omega);have ht:z[i]? = some (z[i]'(by omega)):=lG (by omega);rw[(N i _ _ _ hf G ht).1,dV l s z i _ _ _ hf G ht]
  ·rw[List.getElem?_eq_none (by omega),List.getElem?_eq_none (by rw[nW l s z c2 c5];exact h)]
 have c6:∀r∈rows,∀u∈r,u.oneCell'=true:=λr G u hu=>by
  obtain⟨i,hi⟩:=List.getElem?_of_mem G;have c7:i<l.length:=by have:=(lE hi).1;omega
  have hf:l[i]? = some l[i]:=lG c7;have I:s[i]? = some (s[i]'(by omega)):=lG (by omega);have J:z[i]? = some (z[i]'(by omega)):=lG (by omega);obtain⟨h1,h2,h3⟩:=N i _ _ _ hf I J;rw[hi] at h1;injection h1 with h1;subst h1
  obtain⟨A,c,e2,-⟩:=h2;obtain⟨A',c',e3,-⟩:=h3;unfold bX at hu;rw[e2,e3] at hu;simp only[List.mem_cons,List.not_mem_nil,or_false] at hu;rcases hu with rfl | rfl | rfl | rfl | rfl | rfl | rfl | rfl <;> rfl
 have CL:Hid (Calls prog 62 #[v] w λe w'=>∃u,e=.returned u/\w'.ownsRow w.heap.size 61 8 u l.length ((dH l s z).flatMap id)/\Below w.heap.size w w'):=by have:=abL v rows w d4 c6 (by omega);rw[i2,a7] at this;exact this
 have HP:=hI hp;have f0:=hI N;have h6:=hI c2;have h7:=hI c5;have l2:=hI j0;have l3:Hid (∀f∈l,WfF f):=λf hf=>by obtain⟨cs,hR⟩:=hs.mem hf;exact hR.wf
 obtain⟨A,n6,rfl,-⟩:=id hs;clear hs i2 d4 i3 h8 Z d5 a3 a4 a7 c6 hp N c2 c5 j0;have l4:pb<w.heap.size:=dP HP.o;go_enter func61,ntmps61;go_wp2_with fail;refine CL.o.mono ?_;rintro e w1 ⟨fv,rfl,a6,k1⟩;have O1:=hI a6;have K1:=hI k1;obtain⟨GA,gc,rfl⟩:=bV a6;clear a6 k1;go_wp2_with fail;go_loopw [11] (λk wr=>∃(j:Nat) (rs C:List Value),k=.int .i64 j/\j<=l.length/\Hid (rs.length=l.length/\C.length=l.length)/\Hid (wr.ownsRow w.heap.size 61 8 (.slice GA l.length gc) l.length ((dH l rs C).flatMap id))/\ Hid (∀(i:Nat) r f,i<j->rs[i]? = some r->l[i]? = some f->wr.ownsRow w.heap.size 48 2 r f.regs.length (f.regs.flatMap aZ))/\Hid (∀(i:Nat) t f,i<j->C[i]? = some t->l[i]? = some f->wr.ownsRow w.heap.size 96 2 t f.tries.length (f.tries.flatMap cO))/\ Hid (((rs.take j).filterMap Value.ownBlock).Nodup)/\Hid (∀i,j<=i->rs[i]? = s[i]?/\C[i]? = z[i]?)/\Hid (Below w.heap.size w wr)) (λk _=>l.length - (RowKit.intOf k).toNat);case atStart=>exact⟨0,s,z,rfl,by omega,⟨h6.o,h7.o⟩,O1.o,λi r f h=>by omega,λi r f h=>by omega,by rw[List.take_zero];exact List.nodup_nil,λi _=>⟨rfl,rfl⟩,K1.o⟩
 case round=>
  obtain⟨j,rs,C,rfl,hj,F,OF,HR,HT,i4,a5,KW⟩:=hrel;have l5:=KW.o.size;by_cases e9:j<l.length
  ·have l9:(j:Int)<l.length:=(by omega);obtain⟨g,b2,rfl,n8,i5⟩:∃g b2,GA=some ⟨g,0,none⟩/\w.heap.size<=g/\wr.heap[g]? = some (.cells b2 61 (0,0)):=by
    rcases OF.o.2 with ⟨e,h⟩ | ⟨g,n6,b2,e,k1,k2,-⟩;·omega
    ·injection e with e1 e2 e3;exact⟨g,b2,e1,k1,k2⟩
   obtain⟨f,hf⟩:∃f,l[j]? = some f:=⟨_,lG e9⟩;obtain⟨r,G⟩:∃r,s[j]? = some r:=⟨_,lG (by rw[h6.o];exact e9)⟩;obtain⟨t,ht⟩:∃t,z[j]? = some t:=⟨_,lG (by rw[h7.o];exact e9)⟩;obtain⟨-,d6,d7⟩:=f0.o j f r t hf G ht;have c8:rs[j]? = some r:=(a5.o j (Nat.le_refl _)).1.trans G;have c9:C[j]? = some t:=(a5.o j (Nat.le_refl _)).2.trans ht;have d0:(dH l rs C)[j]? = some (bX f r t):=dV l rs C j f r t hf c8 c9;have m:∀k,k<8->wr.cell? ⟨g,j*8+k,none⟩=(bX f r t)[k]?:=λk hk=>by rw[OF.o.cellAt (j*8+k) (by have:(j+1)*8<=l.length*8:=Nat.mul_le_mul_right _ (by omega);omega)];exact b9 _ j k _ (gC _ _ _) d0 hk
   have g0:wr.cell? ⟨g,j*8,none⟩=some (.int .i64 f.fn):=m 0 (by decide);have g1:wr.cell? ⟨g,j*8+1,none⟩=some (.int .i64 f.at_):=m 1 (by decide);have g2:wr.cell? ⟨g,j*8+2,none⟩=some (.int .i64 f.tos):=m 2 (by decide);have g3:wr.cell? ⟨g,j*8+3,none⟩=some (.int .i64 f.gen):=m 3 (by decide);have g4:wr.cell? ⟨g,j*8+4,none⟩=some (.int .i64 f.self.kind):=m 4 (by decide);have g5:wr.cell? ⟨g,j*8+5,none⟩=some (.int .i64 f.self.n):=m 5 (by decide);have g6:wr.cell? ⟨g,j*8+6,none⟩=some r:=m 6 (by decide);have g7:wr.cell? ⟨g,j*8+7,none⟩=some t:=m 7 (by decide);obtain⟨RA,rc,rfl,-⟩:=id d6;obtain⟨S,V,rfl,-⟩:=id d7;have W:=hI hf;have a9:=hI c8;have O:=hI c9;have h9:=l2.o f (lM hf);have m0:=hI d6;have m1:=hI d7;have SF:=hI h9;have s0:g<wr.heap.size:=(aE i5).1;obtain⟨H,b3⟩:∃H,H=wr.alloc (.cells #[.int .i64 f.fn,.int .i64 f.at_,.int .i64 f.tos,.int .i64 f.gen,.int .i64 f.self.kind,.int .i64 f.self.n,.slice RA f.regs.length rc,.slice S f.tries.length V] 61):=⟨_,rfl⟩;have K2:Hid (Below wr.heap.size wr H):=(by rw[b3];exact aB _ _);have i0:Hid (aA H wr.heap.size [.int .i64 f.fn,.int .i64 f.at_,.int .i64 f.tos,.int .i64 f.gen,.int .i64 f.self.kind,.int .i64 f.self.n,.slice RA f.regs.length rc,.slice S f.tries.length V]):=(by rw[b3];exact ad5 _ _ _);have X:=hI (KW.o.trans (K2.o.mono l5));have m3:=hI b3;clear hf G ht c8 c9 d0 m d6 d7 h9 i5 b3;go_upto_region 5 with fail;rw[<-m3.o];clear g0 g1 g2 g3 g4 g5 g6 g7;have a0:∀E:Up H,E.to.cell? ⟨pb,0,none⟩=some (.func (.func 59) #[] #[]):=λE=>E.cell ((X.o.cell l4).trans HP.o);have a1:=ecZ (i0.o 6 _ rfl);have a2:=ecZ (i0.o 7 _ rfl);have s1:=pN;refine gG (λw'=>∃E:Up H,w'=E.to) [0,1,2,3] [4,5,6,8,9] [7,10,11,12,13,14,15,16] [7] _ (by kernel_rfl) (by kernel_rfl) (by simp only[List.cons_append,List.nil_append,List.filterMap_cons,List.filterMap_nil,List.getElem?_toArray,List.getElem?_cons_zero,List.getElem?_cons_succ];rfl) (λ_ _ d _ _ h=>by cases d <;> exact h) ⟨⟨_,(Below.refl _ H).drew⟩,rfl⟩ ?_;generalize j1:(λa'=>gA _ _ _ _ _ _ a' _)=qq;have i1:=hI j1;clear j1;show wpQuiet _ _ _ _ [_,_,_,_,_,_,_,_,_] _;repeat (go_big_quiet_step (fail))
   refine wpQuiet_nil ?_;rw[<-i1.o];clear i1 qq a0 a1 a2;refine bA rfl (λK hK=>?_);go_simp;refine(pG (.slice RA f.regs.length rc) f.regs H.drew (m0.o.keep X.o.drew.size (λ_ hp=>X.o.drew.cell hp) (λ_ _ h=>h)) (by have:=SF.o.regs;omega)).mono ?_;rintro e w3 ⟨u3,rfl,i6,k3⟩;have O3:=hI i6;have K3:Hid (Below H.heap.size H w3):=(Below.refl _ H).drew.trans k3;have b0:=btZ X K3.o;clear i6 k3;refine hK _ _ (λ_=>⟨⟨w3,K3.o⟩,rfl⟩) ?_;clear hK K;refine bA rfl (λK hK=>?_);go_simp;refine(yF (.slice S f.tries.length V) f.tries w3 (m1.o.keep b0.o.size (λ_ hp=>b0.o.cell hp) (λ_ _ h=>h)) (by have:=SF.o.tries;omega)).mono ?_;rintro e w4 ⟨u4,rfl,i9,k4⟩;have O4:=hI i9;have K4:Hid (Below w3.heap.size w3 w4):=k4;have m5:=btZ b0 K4.o;clear i9 k4;refine hK _ _ (λh=>by cases h) ?_;clear hK K;refine bP [11,12,13,14,15,16] _ _ (by kernel_rfl) (by kernel_rfl) ?_;simp only[List.filterMap_cons,List.filterMap_nil,List.getElem?_toArray,List.getElem?_cons_zero,List.getElem?_cons_succ];obtain⟨L,M,rfl⟩:=bV O3.o;obtain⟨U4,c4,rfl⟩:=bV O4.o;have d1:Hid (Below wr.heap.size wr w4):=K2.o.trans ((K3.o.trans (K4.o.mono K3.o.size)).mono K2.o.size);have P:=hI (cZ OF.o d1.o);have m6:=hI (cZ O3.o K4.o);have s2:j*8+8<=l.length*8:=(by have:(j+1)*8<=l.length*8:=Nat.mul_le_mul_right _ (by omega);omega);have e6:w4.cell? ⟨g,j*8+6,none⟩=some (.slice RA f.regs.length rc):=(by rw[P.o.cellAt (j*8+6) (by omega)];exact b9 _ j 6 _ (gC _ _ _) (dV l rs C j f _ _ W.o a9.o O.o) (by decide));have e7:w4.cell? ⟨g,j*8+7,none⟩=some (.slice S f.tries.length V):=(by rw[P.o.cellAt (j*8+7) (by omega)];exact b9 _ j 7 _ (gC _ _ _) (dV l rs C j f _ _ W.o a9.o O.o) (by decide));have z6:=P.o.frozenAt (j*8+6);have z7:=P.o.frozenAt (j*8+7);go_wp2_with fail;generalize b4:World.setCell _ _ _=w6;have ST:=hI (P.o.stored (j*8+6) (.slice L f.regs.length M)).1;have m8:=hI (ST.o.stored (j*8+7) (.slice U4 f.tries.length c4)).1;have d2:w.heap.size<=g:=n8;have n0:Hid (Below w.heap.size w w6):=(by rw[<-b4];exact(m5.o.setCell d2 _ ).setCell d2 _);have n1:Hid (w6.ownsRow w.heap.size 61 8 (.slice (some ⟨g,0,none⟩) l.length gc) l.length ((dH l (rs.set j (.slice L f.regs.length M)) (C.set j (.slice U4 f.tries.length c4))).flatMap id)):=(by have hb:=F.o;have h1:(dH l rs C)[j]? = some (bX f (.slice RA f.regs.length rc) (.slice S f.tries.length V)):=dV l rs C j f _ _ W.o a9.o O.o;have d3:(rs.set j (.slice L f.regs.length M))[j]? = some (.slice L f.regs.length M):=(by rw[List.getElem?_set_self (by omega)]);have h2:(dH l (rs.set j (.slice L f.regs.length M)) C)[j]? = some (bX f (.slice L f.regs.length M) (.slice S f.tries.length V)):=dV l _ C j f _ _ W.o d3 O.o;have:=m8.o;rw[dT _ j 6 _ _ (gC _ _ _) h1 (by decide),show(bX f (.slice RA f.regs.length rc) (.slice S f.tries.length V)).set 6 (.slice L f.regs.length M)=bX f (.slice L f.regs.length M) (.slice S f.tries.length V) from rfl,qD l rs C j f _ _ _ W.o a9.o O.o,dT _ j 7 _ _ (gC _ _ _) h2 (by decide),show(bX f (.slice L f.regs.length M) (.slice S f.tries.length V)).set 7 (.slice U4 f.tries.length c4)=bX f (.slice L f.regs.length M) (.slice U4 f.tries.length c4) from rfl,qC l _ C j f _ _ _ W.o d3 O.o] at this;rw[<-b4];exact this);have R:Hid (∀(B:Nat) (e:TypeId) (n:Nat) (v:Value) (xs:List Value),e≠61->w4.ownsRow B e 2 v n xs->w6.ownsRow B e 2 v n xs):=λB e n v xs ht h=>by rw[<-b4];exact iS (iS h P.o ht) ST.o ht
   have k0:Hid (∀q,(Value.slice L f.regs.length M).ownBlock=some q->wr.heap.size<=q):=λq hq=>by have:=(O3.o.lt q hq).1;have:=K2.o.size;show wr.heap.size<=q;have e:H.drew.heap.size=H.heap.size:=rfl;omega
   clear b4 e6 e7 z6 z7;go_wp2_with fail;go_roundw
   case rel=>
    refine⟨j+1,rs.set j (.slice L f.regs.length M),C.set j (.slice U4 f.tries.length c4),by go_num,by omega,?_,n1,?_,?_,?_,?_,n0⟩;·exact⟨by rw[List.length_set];exact F.o.1,by rw[List.length_set];exact F.o.2⟩
    ·intro i r' f' hi I D;by_cases Y:i=j
     ·subst Y;rw[List.getElem?_set_self (by have:=F.o.1;omega)] at I;injection I with I;subst I
      rw[W.o] at D;injection D with D;subst D
      exact R.o _ _ _ _ _ (by decide) (dU m6.o (by have:=X.o.size;exact this))
     ·rw[List.getElem?_set_ne (by omega)] at I;exact R.o _ _ _ _ _ (by decide) (cZ (HR.o i r' f' (by omega) I D) d1.o)
    ·intro i t' f' hi J D;by_cases Y:i=j
     ·subst Y;rw[List.getElem?_set_self (by have:=F.o.2;omega)] at J;injection J with J;subst J
      rw[W.o] at D;injection D with D;subst D
      exact R.o _ _ _ _ _ (by decide) (dU O4.o b0.o.size)
     ·rw[List.getElem?_set_ne (by omega)] at J;exact R.o _ _ _ _ _ (by decide) (cZ (HT.o i t' f' (by omega) J D) d1.o)
    ·show(((rs.set j _).take (j+1)).filterMap Value.ownBlock).Nodup;rw[acA (by have:=F.o.1;omega)];refine xL i4.o (λq hq v hv o1=>?_);obtain⟨i,hi⟩:=List.getElem?_of_mem hv;rw[List.getElem?_take] at hi;split at hi;·rename_i Y;have c7:i<l.length:=(by omega);have:=(HR.o i v _ Y hi (lG c7)).lt q o1;have:=k0.o q hq;omega
     ·cases hi
    ·intro i hi;rw[List.getElem?_set_ne (by omega),List.getElem?_set_ne (by omega)];exact a5.o i (by omega)
   case measure=>simp[RowKit.intOf];omega
  ·have l9:¬(j:Int)<l.length:=(by omega);have s3:j=l.length:=(by omega);have n2:Hid (fD wr w.heap.size (.slice GA l.length gc) l rs C):=(by refine⟨F.o.1,F.o.2,OF.o,λi r f G hf=>HR.o i r f (by have:=(lE hf).1;omega) G hf,λi t f ht hf=>HT.o i t f (by have:=(lE hf).1;omega) ht hf,?_,l3.o⟩;have:=i4.o;rwa [List.take_of_length_le (by have:=F.o.1;omega)] at this);go_wp2_with fail;go_ret;exact⟨_,rfl,⟨_,_,n2.o⟩,KW.o⟩
end
section
open Go.RowKit
structure eH (w:World) (lo hi:Nat) (fv:Value) (l:List a8) (rs ts:List Value):Prop where
 at_:fD w lo fv l rs ts
 fb:∀g,fv.ownBlock=some g->g<hi
 rb:∀r∈rs,∀g,r.ownBlock=some g->g<hi
 tb:∀t∈ts,∀g,t.ownBlock=some g->g<hi
def dC (w w':World):Prop:=∀(B:Nat) (e:TypeId) (size n:Nat) (v:Value) (xs:List Value),e=61\/e=48\/e=96->w.ownsRow B e size v n xs->w'.ownsRow B e size v n xs
theorem dC.of {w w':World} (h:Below w.heap.size w w'):dC w w':=λ_ _ _ _ _ _ _ d=>cZ d h
theorem dC.trans {a b c:World} (h:dC a b) (g:dC b c):dC a c:=λB e s n v xs ht d=>g B e s n v xs ht (h B e s n v xs ht d)
theorem dC.set {w:World} {C m i:Nat} {d:TypeId} {l:List Value} {g f j:Nat} {u:Value} (p:w.ownsRow C d i (.slice (some ⟨g,0,none⟩) m f) m l) (q:61≠d) (r:48≠d) (x:96≠d):dC w (w.setCell ⟨g,j,none⟩ u):= λB e s n v xs ht h=>iS h p (by rcases ht with rfl | rfl | rfl;exact q;exact r;exact x)
theorem aeB {w:World} {g j:Nat} {u:Value} {cs:Array Value} {d:TypeId} (f:w.heap[g]? = some (.cells cs d (0,0))) (i:61≠d) (l:48≠d) (m:96≠d):dC w (w.setCell ⟨g,j,none⟩ u):= λB e s n v xs ht h=>gI h f (by rcases ht with rfl | rfl | rfl;exact Ne.symm i;exact Ne.symm l;exact Ne.symm m) j u
theorem fD.keep {w w':World} {B:Nat} {e:Value} {l:List a8} {rs g:List Value} (h:fD w B e l rs g) (d:dC w w'):fD w' B e l rs g:= ⟨h.lr,h.lt,d _ _ _ _ _ _ (.inl rfl) h.row,λi r f j hf=>d _ _ _ _ _ _ (.inr (.inl rfl)) (h.regs i r f j hf),λi t f ht hf=>d _ _ _ _ _ _ (.inr (.inr rfl)) (h.tries i t f ht hf),h.nodup,h.wf⟩
theorem eH.keep {w w':World} {d hi:Nat} {e:Value} {l:List a8} {rs f:List Value} (h:eH w d hi e l rs f) (g:dC w w'):eH w' d hi e l rs f:= ⟨h.at_.keep g,h.fb,h.rb,h.tb⟩
theorem eH.more {w:World} {j hi e:Nat} {m:Value} {l:List a8} {rs p:List Value} (h:eH w j hi m l rs p) (i:hi<=e):eH w j e m l rs p:= ⟨h.at_,λg d=>Nat.lt_of_lt_of_le (h.fb g d) i,λr f g d=>Nat.lt_of_lt_of_le (h.rb r f g d) i,λr f g d=>Nat.lt_of_lt_of_le (h.tb r f g d) i⟩
theorem fD.now {w:World} {f:Nat} {j:Value} {l:List a8} {rs m:List Value} (h:fD w f j l rs m):eH w f w.heap.size j l rs m:=by
 refine⟨h,λg d=>(h.row.lt g d).2,λr p g d=>?_,λt ht g d=>?_⟩;·obtain⟨i,hi⟩:=List.getElem?_of_mem p;have e:=(lE hi).1;exact((h.regs i r _ hi (lG (by have:=h.lr;omega))).lt g d).2
 ·obtain⟨i,hi⟩:=List.getElem?_of_mem ht;have e:=(lE hi).1;exact((h.tries i t _ hi (lG (by have:=h.lt;omega))).lt g d).2
def bD (c:bC) (v f:Value):List Value:=[.int .i64 c.kind,.int .i64 c.num,v,f]
def gH (h:bW) (f:Value):List Value:=[f,.int .i64 h.state,.int .i64 h.on_,.int .i64 h.val.kind,.int .i64 h.val.n]
def kG (w:World) (lo hi:Nat) (c:bC) (v f:Value):Prop:=∃m rs ts,lo<=m/\m<=hi/\w.ownsRow lo 48 2 v c.vals.length (c.vals.flatMap aZ)/\(∀g,v.ownBlock=some g->g<m)/\eH w m hi f c.frames rs ts
theorem kG.keep {w w':World} {d hi:Nat} {c:bC} {v f:Value} (h:kG w d hi c v f) (e:dC w w'):kG w' d hi c v f:=by obtain⟨m,rs,g,i,j,l,p,q⟩:=h;exact⟨m,rs,g,i,j,e _ _ _ _ _ _ (.inr (.inl rfl)) l,p,q.keep e⟩
def fX (w:World) (lo hi:Nat) (h:bW) (f:Value):Prop:=∃rs ts,eH w lo hi f h.frames rs ts
theorem fX.keep {w w':World} {d hi:Nat} {h:bW} {f:Value} (a:fX w d hi h f) (i:dC w w'):fX w' d hi h f:=by obtain⟨rs,e,g⟩:=a;exact⟨rs,e,g.keep i⟩
theorem dO {α : Type} {l:List α} {i:Nat} {x : α} (h:l[i]? = some x) (y : α):(l.set i y)[i]? = some y:=List.getElem?_set_self (lE h).1
theorem eU {rows:List (List Value)} {n i:Nat} {r:List Value} (h:∀x∈rows,x.length=n) (e:r.length=n):∀x∈rows.set i r,x.length=n:=λx d=>by
 rcases List.mem_or_eq_of_mem_set d with h1 | h1
 ·exact h x h1
 ·rw[h1];exact e
structure sL (w:World) (B:Nat) (cs:List Value) (S:aR) (co lo:Nat->Nat) (cv thv:Value) (rows trows:List (List Value)) (shv txv env sav:Value):Prop where
 cells:cs=[cv,shv,txv,thv,env,sav,.int .i64 S.asked,.int .i64 S.steps]
 crow:w.ownsRow B 55 4 cv S.cells.length (rows.flatMap id)
 clen:rows.length=S.cells.length
 c4:∀x∈rows,x.length=4
 cpart:∀(i:Nat) c,S.cells[i]? = some c->∃v f,rows[i]? = some (bD c v f)/\kG w (co i) (co (i+1)) c v f
 cblk:∀g,cv.ownBlock=some g->g<co 0
 cmono:∀i,co i<=co (i+1)
 trow:w.ownsRow (co S.cells.length) 57 5 thv S.threads.length (trows.flatMap id)
 tlen:trows.length=S.threads.length
 t5:∀x∈trows,x.length=5
 tpart:∀(i:Nat) h,S.threads[i]? = some h->∃f,trows[i]? = some (gH h f)/\fX w (lo i) (lo (i+1)) h f
 tblk:∀g,thv.ownBlock=some g->g<lo 0
 tmono:∀i,lo i<=lo (i+1)
 tco:co S.cells.length<=lo 0
 lend:∀i,lo i<=w.heap.size
 shapes:bK w (λb=>lo S.threads.length<=b/\b<w.heap.size) 2 jX shv S.shapes
 texts:bK w (λb=>lo S.threads.length<=b/\b<w.heap.size) 1 lV txv S.texts
 ends:bK w (λb=>lo S.threads.length<=b/\b<w.heap.size) 3 abX env S.ends
 said:bK w (λb=>lo S.threads.length<=b/\b<w.heap.size) 2 hU sav S.said
 wfc:∀c∈S.cells,wfi c.kind/\wfi c.num/\∀v∈c.vals,wfi v.kind/\wfi v.n
 wft:∀h∈S.threads,wfi h.state/\wfi h.on_/\wfi h.val.kind/\wfi h.val.n
 wfs:wfi S.asked/\wfi S.steps
 cb:B<=co 0
structure cI (L:List (Addr×Value)) where
 wd:World
 here:∀p∈L,wd.cell? p.1=some p.2
end
section
open Go.RowKit
theorem xS:(prog.info? 9).map (λi=>(i.zero.map (·.cells.size),i.size,i.bytes))=some (some 1,1,16):=by kernel_rfl
theorem abJ (v:Value) (rows:List (List Value)) (w:World) (p:aH w w.heap.size 1 (Raw 1) v rows) (D:∀r∈rows,∀u∈r,u.oneCell'=true) (E:rows.length*16<=140737488355328) : Calls prog 67 #[v] w λe w'=>∃u,e=.returned u/\w'.ownsRow w.heap.size 9 1 u rows.length (rows.flatMap id)/\Below w.heap.size w w':=by
 have d:∀x∈rows,x.length=1:=λx hx=>by obtain⟨cs,_,h⟩:=p.mem hx;exact h
 obtain⟨A,l,rfl,a2,a3,i⟩:=id p;cases A with
 | none=>
  have e:rows=[]:=by
   rcases Nat.eq_zero_or_pos rows.length with h | h
   ·exact List.length_eq_zero_iff.1 h
   ·obtain⟨b,I,h,_⟩:=i h;cases h
  subst e
  have M:∀W,(binOp .eql 24 (.slice none 0 l) (.slice none 0 0)).run prog W=.ok (.bool true) W:=λW=>Lib.run_eql_slice_nil W _ _ _ _ _ _ _ underlying24
  clear i p d D
  simp only[List.length_nil] at *
  go_enter func67,ntmps67
  go_wp2_with fail
  go_ret
  exact⟨_,rfl,World.ownsRow_nil _ _ _ _,Below.refl _ _⟩
 | some ad=>
  have M:∀W,(binOp .eql 24 (.slice (some ad) rows.length l) (.slice none 0 0)).run prog W=.ok (.bool false) W:=λW=>Lib.run_eql_slice_nil W _ _ _ _ _ _ _ underlying24
  have g:∀j u,(rows.flatMap id)[j]? = some u->w.cell? (ad.add j)=some u:=by
   rcases Nat.eq_zero_or_pos rows.length with h | h
   ·have e:rows=[]:=List.length_eq_zero_iff.1 h
    subst e;simp
   ·obtain⟨b,I,h,_⟩:=i h
    injection h with h
    subst h
    exact dQ (by decide) d (λcs x h=>h.1) p
  obtain⟨Z,hi,J⟩:=Option.map_eq_some_iff.1 xS
  simp only[Prod.mk.injEq] at J
  obtain⟨K,q,s⟩:=J
  obtain⟨z,y,C⟩:=Option.map_eq_some_iff.1 K
  have N:=hI g
  have O:=hI hi
  have P:=hI y
  have F:=hI q
  have G:=hI s
  have H:=hI C
  have hl:rows.length<=maxLen:=by unfold maxLen;omega
  have R:=hI hl
  have HR:=hI d
  have S:=hI (gO (f:=id) rows D)
  have V:=hI (gE (f:=id) rows d)
  clear g hi y q s C K hl d D p i
  go_enter func67,ntmps67
  go_wp2_with (at_builtin;refine wpList_append_own _ rfl _ _ 24 rfl w.heap.size 9 Z z 1 16 underlying24 O.o P.o F.o G.o H.o (by decide) (.slice (some ⟨w.heap.size,0,none⟩) 0 0) 0 [] rfl (gN _ _ _) ad rows.length l (rows.flatMap id) rfl V.o (λj u hj=>iM (N.o j u hj) _) S.o (by rw[Nat.zero_add];exact R.o) (by rw[Nat.zero_add];exact E) (by simp) ?_)
  intro v' w6 m L _
  have X:=hI L
  have Y:=hI m
  clear L m
  go_wp2_with fail
  go_ret
  refine⟨_,rfl,by simpa using Y.o,Below.grown (aB w _) X.o (by simp) (by simp[Value.ownBlock])⟩
def oX {α : Type} (size:Nat) (R:List Value->α->Prop) (xs:List α) (w:World) (e:Ending) (w':World):Prop:=
 ∃u,e=.returned u/\bK w' (λb=>w.heap.size<=b/\b<w'.heap.size) size R u xs/\Below w.heap.size w w'
theorem pR {α : Type} {F:FuncId} {G:TypeId} {size:Nat} {R:List Value->α->Prop} {v:Value} {l:List α} {w:World} (H:aH w w.heap.size size R v l) (q:∀c x,R c x->∀u∈c,u.oneCell'=true) (C:∀rows:List (List Value),aH w w.heap.size size (Raw size) v rows->(∀r∈rows,∀u∈r,u.oneCell'=true)->rows.length=l.length->Calls prog F #[v] w λe w'=>∃u,e=.returned u/\w'.ownsRow w.heap.size G size u rows.length (rows.flatMap id)/\Below w.heap.size w w') : Calls prog F #[v] w (oX size R l w):=by
 obtain⟨rows,m,y,z⟩:=H.raw;have hl:∀r∈rows,r.length=size:=λr j=>by obtain⟨_,_,h⟩:=y.mem j;exact h
 refine(C rows y (λr j u f=>?_) m).mono ?_
 ·obtain⟨i,hi⟩:=List.getElem?_of_mem j;have s:i<l.length:=by have:=(lE hi).1;omega
  obtain⟨c,d,p⟩:=z i _ (lG s);rw[hi] at d;injection d with d;subst d
  exact q _ _ p u f
 ·rintro e w' ⟨u,rfl,f,k⟩;obtain⟨A,c,rfl⟩:=bV f;rw[m] at f;refine⟨_,rfl,?_,k⟩;rw[m];refine fL f m hl (λg cs I hb D=>⟨hb,(aE D).1⟩) (λi r x j E=>?_);obtain⟨c',d,p⟩:=z i x E;rw[j] at d;injection d with d;subst d
  exact p
theorem yH (v:Value) (l:List aT) (w:World) (h:aH w w.heap.size 2 jX v l) (hl:l.length<=1000000):Calls prog 66 #[v] w (oX 2 jX l w):= pR h (λc x e u d=>by rw[e.1] at d;simp at d;rcases d with rfl | rfl <;> rfl) (λrows f g i=>abK v rows w f g (by omega))
theorem yI (v:Value) (l:List ad4) (w:World) (h:aH w w.heap.size 3 abX v l) (hl:l.length<=1000000):Calls prog 68 #[v] w (oX 3 abX l w):= pR h (λc x e u d=>by rw[e.1] at d;simp at d;rcases d with rfl | rfl | rfl <;> rfl) (λrows f g i=>yD v rows w f g (by omega))
theorem yG (v:Value) (l:List ByteArray) (w:World) (h:aH w w.heap.size 1 lV v l) (hl:l.length<=1000000):Calls prog 67 #[v] w (oX 1 lV l w):= pR h (λc x e u d=>by rw[e.1] at d;simp at d;rcases d with rfl;rfl) (λrows f g i=>abJ v rows w f g (by omega))
theorem aaQ (v:Value) (l:List Val) (w:World) (j:aH w w.heap.size 2 hU v l) (hl:l.length<=1000000):Calls prog 59 #[v] w (oX 2 hU l w):=by
 refine(pG v l w j hl).mono ?_;rintro e w' ⟨u,rfl,f,k⟩;obtain⟨A,c,rfl⟩:=bV f;refine⟨_,rfl,?_,k⟩;rw[<-dI] at f;refine fL f (by rw[List.length_map]) (λr d=>by obtain⟨x,-,rfl⟩:=List.mem_map.1 d;rfl) (λg cs q hb p=>⟨hb,(aE p).1⟩) (λi r x d h=>?_);rw[List.getElem?_map,h] at d;injection d with d;subst d
 obtain⟨_,m⟩:=j.mem (lM h);exact⟨rfl,m.2⟩
theorem bK.far {α : Type} {w w':World} {Q Q':Nat->Prop} {size:Nat} {R:List Value->α->Prop} {v:Value} {xs:List α} (h:bK w Q size R v xs) (e:∀b,Q b->Q' b) (f:∀b,Q b->w'.heap[b]? = w.heap[b]?):bK w' Q' size R v xs:= h.keep e (λp d=>World.cell?_of_block (f p.block d)) (λ_ _ h=>h)
theorem kG.less {w:World} {e d hi:Nat} {c:bC} {v f:Value} (h:kG w e hi c v f) (hl:d<=e):kG w d hi c v f:=by obtain⟨m,rs,g,q,i,j,l,p⟩:=h;exact⟨m,rs,g,by omega,i,dU j hl,l,p⟩
theorem fD.less {w:World} {B B':Nat} {d:Value} {l:List a8} {rs e:List Value} (h:fD w B d l rs e) (hb:B'<=B):fD w B' d l rs e:= ⟨h.lr,h.lt,dU h.row hb,λi r f g hf=>dU (h.regs i r f g hf) hb,λi t f ht hf=>dU (h.tries i t f ht hf) hb,h.nodup,h.wf⟩
theorem fX.less {w:World} {g e hi:Nat} {x:bW} {f:Value} (h:fX w g hi x f) (hl:e<=g):fX w e hi x f:=by obtain⟨rs,i,d⟩:=h;exact⟨rs,i,d.at_.less hl,d.fb,d.rb,d.tb⟩
end
end Go.Proofs.YtjaphgpkkfdaaaaGreatDoor
