/- A part of the walk. -/
import Derived.Test.YtijihlcdhppfgaaGreatDoorZCI
import Derived.Test.YtijihlcdhppfgaaGreatDoorWA
set_option maxHeartbeats 16000000
set_option maxRecDepth 100000
set_option linter.all false
namespace Go.Proofs.YtijihlcdhppfgaaGreatDoor
open Go.Proofs.Tryz
section
open Go.RowKit
theorem amT {α : Type} (R:List Value->α->Prop) (p : α->Bool) (A:Option Addr) (q:Nat) (xs:List α) (r:FuncId) (a6:∀args W,(callFunc r args).run prog W=.ok (.enter r args) W) (z:Array Value) (w:World) (hs:aB w w.heap.size 8 R (.slice A xs.length q) xs) (hp:∀(w1:World),Below w.heap.size w w1->∀(x : α) (cs:List Value),x∈xs->R cs x->Calls prog r (#[.agg ⟨cs⟩]++z) w1 (aK (.bool (p x)) w1)) : Calls prog 211 #[.slice A xs.length q,.func (.func r) #[] z] w (aK (.int .i64 (l7 p xs)) w):=by
 have Y:=hI hs;have Z:=hI hp;have hl:xs.length<=q/\q<=maxLen:=by obtain⟨A',c',e,e1,e2,-⟩:=hs;injection e with _ _ e3;subst e3;exact⟨e1,e2⟩
 obtain⟨a5,P⟩:=hl;unfold maxLen at P;clear hs hp;go_enter func211,ntmps211;go_wp2_with fail;go_loopw [8] (λk wr=>∃d:Nat,k=.int .i64 d/\d<=xs.length/\Hid (∀i x,i<d->xs[i]? = some x->p x=false)/\Hid (Below w.heap.size w wr)) (λk _=>xs.length - (RowKit.intOf k).toNat);case atStart=>exact⟨0,rfl,by omega,λi x hi _=>by omega,Below.refl _ _⟩
 case round=>
  obtain⟨d,rfl,hk,F,f⟩:=hrel
  by_cases X:d<xs.length
  ·obtain⟨b,j,x,cs,rfl,hb,u,S,V,g⟩:=Y.o.at_ X
   match cs,S with
   | [c0,c1,c2,c3,c4,c5,c6,c7],_=>
    have a4:(d:Int)<xs.length:=by omega
    have G:wr.cell? ⟨b,j+d*8,none⟩=some c0:=(f.o.cell hb).trans (g 0 _ rfl)
    have H:wr.cell? ⟨b,j+d*8+1,none⟩=some c1:=(f.o.cell hb).trans (g 1 _ rfl)
    have I:wr.cell? ⟨b,j+d*8+2,none⟩=some c2:=(f.o.cell hb).trans (g 2 _ rfl)
    have J:wr.cell? ⟨b,j+d*8+3,none⟩=some c3:=(f.o.cell hb).trans (g 3 _ rfl)
    have K:wr.cell? ⟨b,j+d*8+4,none⟩=some c4:=(f.o.cell hb).trans (g 4 _ rfl)
    have L:wr.cell? ⟨b,j+d*8+5,none⟩=some c5:=(f.o.cell hb).trans (g 5 _ rfl)
    have M:wr.cell? ⟨b,j+d*8+6,none⟩=some c6:=(f.o.cell hb).trans (g 6 _ rfl)
    have N:wr.cell? ⟨b,j+d*8+7,none⟩=some c7:=(f.o.cell hb).trans (g 7 _ rfl)
    have D:=hI (Z.o wr f.o x _ (lM u) V)
    have O:=hI u
    clear u g V
    cases l:p x
    ·have s:=hI l
     rw[l] at D
     clear l
     go_wp2_with fail
     refine D.o.mono ?_
     rintro e w2 ⟨rfl,v⟩
     have E:=hI (Below.trans f.o (v.mono f.o.size))
     clear v G H I J K L M N
     go_wp2_with fail
     go_roundw
     case rel=>exact⟨d+1,by go_num,by omega,λi y hi hy=>by
      rcases Nat.lt_or_ge i d with h | h
      ·exact F.o i y h hy
      ·have:i=d:=by omega
       subst this
       rw[O.o] at hy
       injection hy with hy
       subst hy
       exact s.o,E⟩
     case measure=>simp[RowKit.intOf];omega
    ·have s:=hI (iM F.o O.o l)
     rw[l] at D
     clear l
     go_wp2_with fail
     refine D.o.mono ?_
     rintro e w2 ⟨rfl,v⟩
     have E:=hI (Below.trans f.o (v.mono f.o.size))
     clear v G H I J K L M N
     go_wp2_with fail
     go_ret
     exact⟨by rw[s.o];rfl,E.o⟩
  ·have s:=hI (gV (p:=p) (xs:=xs) (λi x hi=>F.o i x (by have:=(lE hi).1;omega) hi))
   go_wp2_with fail
   go_ret
   exact⟨by rw[s.o];rfl,f.o⟩
theorem alJ {α : Type} (R:List Value->α->Prop) (p : α->Bool) (A:Option Addr) (g:Nat) (xs:List α) (d:FuncId) (h:∀args W,(callFunc d args).run prog W=.ok (.enter d args) W) (f:Array Value) (w:World) (hs:aB w w.heap.size 8 R (.slice A xs.length g) xs) (hp:∀(w1:World),Below w.heap.size w w1->∀(x : α) (cs:List Value),x∈xs->R cs x->Calls prog d (#[.agg ⟨cs⟩]++f) w1 (aK (.bool (p x)) w1)) : Calls prog 157 #[.slice A xs.length g,.func (.func d) #[] f] w (aK (.bool (xs.any p)) w):=by have l:=hI (amT R p A g xs d h f w hs hp);have q:=hI (iN p xs);clear hs hp h;go_enter func157,ntmps157;go_wp2_with fail;refine l.o.mono ?_;rintro e w1 ⟨rfl,j⟩;have r:=hI j;clear j;go_wp2_with fail;go_ret;exact⟨by rw[q.o];rfl,r.o⟩
end
section
open Go.RowKit
namespace Bx
open Go.Proofs.Tryz
variable {P:Program} {ops:Array Oper} {rest:List Oper} {a:Act} {w0 w:World} {Q:Exit->Act->World->Prop} {l l':List (Nat×List Value×TypeId)} {g:Nat} {cs:List Value} {t:TypeId} {dst:Option Nat} {tt:TypeId} {ps:String} {af:Array Edge}
theorem Ld {ty:TypeId} {x:Operand} {d:TypeDesc} (X:Bx w0 w l) (h:wpList P ops Q rest (a.put dst (.agg cs.toArray)) w) (hx:a.eval x=.pointer (some ⟨g,0,none⟩):=by rfl) (hm:In3 g cs t l:=by repeat (first | exact .hd _ | apply In3.tl)) (hu:P.underlying ty=some d:=by rfl) (hd:d.isRow=true:=by rfl) (hi:(P.info? ty).map (·.size)=some cs.length:=by kernel_rfl):wpList P ops Q (⟨dst,.load ty x,tt,ps,af,none⟩::rest) a w:= ldr (X.rg hm) h hi rfl rfl hx hu hd
theorem L1 {ty:TypeId} {x:Operand} {d:TypeDesc} {v:Value} {j:Nat} (X:Bx w0 w l) (h:wpList P ops Q rest (a.put dst v) w) (hx:a.eval x=.pointer (some ⟨g,j,none⟩):=by rfl) (hu:P.underlying ty=some d:=by rfl) (hd:d.isRow=false:=by rfl) (hm:In3 g cs t l:=by repeat (first | exact .hd _ | apply In3.tl)) (hj:cs[j]? = some v:=by rfl):wpList P ops Q (⟨dst,.load ty x,tt,ps,af,none⟩::rest) a w:= l1 X h rfl rfl hx hu hd hm hj
theorem L1g {ty:TypeId} {x:Operand} {d:TypeDesc} {v:Value} {j:Nat} {gd} (X:Bx w0 w l) (h:wpList P ops Q rest (a.put dst v) w) (hgd:Region.wanted ⟨dst,.load ty x,tt,ps,af,some gd⟩ (yielded ops a.tmps)=true:=by first | rfl | simp[Region.wanted,yielded, *]) (hx:a.eval x=.pointer (some ⟨g,j,none⟩):=by rfl) (hu:P.underlying ty=some d:=by rfl) (hd:d.isRow=false:=by rfl) (hm:In3 g cs t l:=by repeat (first | exact .hd _ | apply In3.tl)) (hj:cs[j]? = some v:=by rfl):wpList P ops Q (⟨dst,.load ty x,tt,ps,af,some gd⟩::rest) a w:= l1g X h rfl hgd hx hu hd hm hj
theorem St {ty:TypeId} {x y:Operand} {d:List Value} (X:Bx w0 w l) (h:∀w',Bx w0 w' l'->wpList P ops Q rest (a.put dst undef) w') (hx:a.eval x=.pointer (some ⟨g,0,none⟩):=by rfl) (hy:a.eval y=.agg ⟨d⟩:=by rfl) (hm:St3 g cs d t l l':=by repeat (first | exact .hd _ | apply St3.tl)) (hi:(P.info? ty).map (·.size)=some d.length:=by kernel_rfl) (hl:cs.length=d.length:=by rfl) (h1:d.all (·.oneCell')=true:=by simp[Value.oneCell']):wpList P ops Q (⟨dst,.store ty x y,tt,ps,af,none⟩::rest) a w:= st X h rfl rfl hx hy hm hi hl h1
theorem StR {ty:TypeId} {x y:Operand} {d:List Value} (X:Bx w0 w l) (h:Bx w0 (w.setRow g ⟨d⟩) l'->wpList P ops Q rest (a.put dst undef) (w.setRow g ⟨d⟩)) (hx:a.eval x=.pointer (some ⟨g,0,none⟩):=by rfl) (hy:a.eval y=.agg ⟨d⟩:=by rfl) (hm:St3 g cs d t l l':=by repeat (first | exact .hd _ | apply St3.tl)) (hi:(P.info? ty).map (·.size)=some d.length:=by kernel_rfl) (hl:cs.length=d.length:=by rfl) (h1:d.all (·.oneCell')=true:=by simp[Value.oneCell']):wpList P ops Q (⟨dst,.store ty x y,tt,ps,af,none⟩::rest) a w:= wpList_store_row rfl ty x y rfl g ⟨d⟩ hx hy t ⟨cs⟩ (X.at_ _ _ _ hm.i).2 hi hl (by simpa using h1) (h (X.set hm ⟨rfl,rfl,rfl,by simp[World.setRow]⟩ (setRow_heap _ _ _ _ _ _ (X.at_ _ _ _ hm.i).2) (λq f=>setRow_other _ _ _ _ f)))
theorem S1 {ty:TypeId} {x y:Operand} {d:List Value} {v:Value} {j:Nat} (X:Bx w0 w l) (h:∀w',Bx w0 w' l'->wpList P ops Q rest (a.put dst undef) w') (hx:a.eval x=.pointer (some ⟨g,j,none⟩):=by rfl) (hy:a.eval y=v:=by rfl) (hv:v.oneCell'=true:=by rfl) (hi:(P.info? ty).map (·.size)=some 1:=by kernel_rfl) (hc:In3 g cs t l:=by repeat (first | exact .hd _ | apply In3.tl)) (hs:St1 v j cs d:=by repeat (first | exact .hd _ _ | apply St1.tl)) (hm:St3 g cs d t l l':=by repeat (first | exact .hd _ | apply St3.tl)):wpList P ops Q (⟨dst,.store ty x y,tt,ps,af,none⟩::rest) a w:= s1 X h rfl rfl hx hy hv hi hc hs hm
end Bx
end
section
open Go.RowKit
theorem arP {α : Type} (R:List Value->α->Prop) (p : α->Bool) (A:Option Addr) (j:Nat) (xs:List α) (l:FuncId) (a0:∀args W,(callFunc l args).run prog W=.ok (.enter l args) W) (v:Array Value) (w:World) (hs:aB w w.heap.size 2 R (.slice A xs.length j) xs) (hp:∀(w1:World),Below w.heap.size w w1->∀(x : α) (cs:List Value),x∈xs->R cs x->Calls prog l (#[.agg ⟨cs⟩]++v) w1 (aK (.bool (p x)) w1)) : Calls prog 156 #[.slice A xs.length j,.func (.func l) #[] v] w (aK (.int .i64 (l7 p xs)) w):=by
 have N:=hI hs;have O:=hI hp;have hl:xs.length<=j/\j<=maxLen:=by obtain⟨A',c',e,P,S,-⟩:=hs;injection e with _ _ X;subst X;exact⟨P,S⟩
 obtain⟨Z,J⟩:=hl;unfold maxLen at J;clear hs hp;go_enter func156,ntmps156;go_wp2_with fail;go_loopw [8] (λk wr=>∃d:Nat,k=.int .i64 d/\d<=xs.length/\Hid (∀i x,i<d->xs[i]? = some x->p x=false)/\Hid (Below w.heap.size w wr)) (λk _=>xs.length - (RowKit.intOf k).toNat);case atStart=>exact⟨0,rfl,by omega,λi x hi _=>by omega,Below.refl _ _⟩
 case round=>
  obtain⟨d,rfl,hk,F,g⟩:=hrel
  by_cases M:d<xs.length
  ·obtain⟨b,D,x,cs,rfl,hb,r,K,L,s⟩:=N.o.at_ M
   match cs,K with
   | [c0,c1],_=>
    have Y:(d:Int)<xs.length:=by omega
    have G:wr.cell? ⟨b,D+d*2,none⟩=some c0:=(g.o.cell hb).trans (s 0 _ rfl)
    have H:wr.cell? ⟨b,D+d*2+1,none⟩=some c1:=(g.o.cell hb).trans (s 1 _ rfl)
    have z:=hI (O.o wr g.o x _ (lM r) L)
    have I:=hI r
    clear r s L
    cases f:p x
    ·have q:=hI f
     rw[f] at z
     clear f
     go_wp2_with fail
     refine z.o.mono ?_
     rintro e V ⟨rfl,u⟩
     have E:=hI (Below.trans g.o (u.mono g.o.size))
     clear u G H
     go_wp2_with fail
     go_roundw
     case rel=>exact⟨d+1,by go_num,by omega,λi y hi hy=>by
      rcases Nat.lt_or_ge i d with h | h
      ·exact F.o i y h hy
      ·have:i=d:=by omega
       subst this
       rw[I.o] at hy
       injection hy with hy
       subst hy
       exact q.o,E⟩
     case measure=>simp[RowKit.intOf];omega
    ·have q:=hI (iM F.o I.o f)
     rw[f] at z
     clear f
     go_wp2_with fail
     refine z.o.mono ?_
     rintro e V ⟨rfl,u⟩
     have E:=hI (Below.trans g.o (u.mono g.o.size))
     clear u G H
     go_wp2_with fail
     go_ret
     exact⟨by rw[q.o];rfl,E.o⟩
  ·have q:=hI (gV (p:=p) (xs:=xs) (λi x hi=>F.o i x (by have:=(lE hi).1;omega) hi))
   go_wp2_with fail
   go_ret
   exact⟨by rw[q.o];rfl,g.o⟩
theorem arO {α : Type} (R:List Value->α->Prop) (p : α->Bool) (A:Option Addr) (g:Nat) (xs:List α) (d:FuncId) (h:∀args W,(callFunc d args).run prog W=.ok (.enter d args) W) (f:Array Value) (w:World) (hs:aB w w.heap.size 2 R (.slice A xs.length g) xs) (hp:∀(w1:World),Below w.heap.size w w1->∀(x : α) (cs:List Value),x∈xs->R cs x->Calls prog d (#[.agg ⟨cs⟩]++f) w1 (aK (.bool (p x)) w1)) : Calls prog 86 #[.slice A xs.length g,.func (.func d) #[] f] w (aK (.bool (xs.any p)) w):=by have l:=hI (arP R p A g xs d h f w hs hp);have q:=hI (iN p xs);clear hs hp h;go_enter func86,ntmps86;go_wp2_with fail;refine l.o.mono ?_;rintro e w1 ⟨rfl,j⟩;have r:=hI j;clear j;go_wp2_with fail;go_ret;exact⟨by rw[q.o];rfl,r.o⟩
theorem index_c (v:Value) (xs:List Int) (x:Int) (w:World) (hs:aB w w.heap.size 1 gB v xs):Calls prog 212 #[v,.int .i64 x] w (λe w'=>∃k:Int,e=.returned (.int .i64 k)/\(0<=k↔x∈xs)/\Below w.heap.size w w'):=by
 have u:=hI hs;obtain⟨A,E,rfl,l1,D,-⟩:=id hs;unfold maxLen at D;clear hs;go_enter func212,ntmps212;go_wp2_with fail;go_loopw [8] (λi wr=>∃j:Nat,i=.int .i64 j/\j<=xs.length/\Hid (x∉xs.take j)/\Hid (Below w.heap.size w wr)) (λi _=>xs.length - (RowKit.intOf i).toNat);case atStart=>exact⟨0,rfl,by omega,by rw[List.take_zero];exact List.not_mem_nil,Below.refl _ _⟩
 case round=>
  obtain⟨j,rfl,hj,q,d⟩:=hrel;by_cases s:j<xs.length
  ·obtain⟨b,r,y,G,rfl,hb,hy,-,⟨rfl,wy⟩,f⟩:=u.o.at_ s;have l:(j:Int)<xs.length:=(by omega);have F:wr.cell? ⟨b,r+j,none⟩=some (.int .i64 y):=(d.o.cell hb).trans (by simpa using f 0 _ rfl);have p:=hI hy;clear f hy wy;by_cases c:x=y;·have g:Hid (x∈xs):=(by rw[c];exact lM p.o);have b1:(x == y)=true:=beq_iff_eq.2 c;go_wp2_with fail;go_ret;exact⟨_,rfl,⟨λ_=>g.o,λ_=>by omega⟩,d.o⟩
   ·have b1:(x == y)=false:=bF c;have z:Hid (x∉xs.take (j+1)):=by
     rw[show Hid _=(x∉xs.take (j+1)) from rfl,List.take_succ,p.o,List.mem_append];rintro (h | h);·exact q.o h
     ·simp at h;exact c h
    go_wp2_with fail;go_roundw;case rel=>exact⟨j+1,by go_num,by omega,z.o,d.o⟩
    case measure=>simp[RowKit.intOf];omega
  ·have l:¬(j:Int)<xs.length:=(by omega);have g:Hid (x∉xs):=(by have:=q.o;rwa [List.take_of_length_le (by omega)] at this);go_wp2_with fail;go_ret;exact⟨_,rfl,⟨λh=>by omega,λh=>absurd h g.o⟩,d.o⟩
theorem arU (v:Value) (xs:List Int) (x:Int) (w:World) (hs:aB w w.heap.size 1 gB v xs):Calls prog 159 #[v,.int .i64 x] w (aK (.bool (decide (x∈xs))) w):=by have g:=hI (index_c v xs x w hs);obtain⟨A,p,rfl,-⟩:=hs;obtain⟨r,d⟩:∃r,decide (x∈xs)=r:=⟨_,rfl⟩;rw[d];have h:=hI d;clear d;go_enter func159,ntmps159;go_wp2_with fail;refine g.o.mono ?_;rintro e w1 ⟨k,rfl,hk,f⟩;have j:=hI f;have l:=hI hk;clear f hk;go_wp2_with fail;go_ret;exact⟨by rw[<-h.o,show decide (x∈xs)=decide (0<=k) from decide_eq_decide.2 l.o.symm];rfl,j.o⟩
set_option maxHeartbeats 1000000
set_option maxRecDepth 100000
theorem has1_c (ops:List Int) (v:Value) (x:aT) (d:Nat) (w:World) (hv:aB w w.heap.size 1 gB v ops) (hb:w.cell? ⟨d,0,none⟩=some v):Calls prog 158 #[.agg ⟨bA x⟩,.pointer (some ⟨d,0,none⟩)] w (aK (.bool (decide (x.op∈ops))) w):=by have f:Hid (∀W,Below w.heap.size w W->Calls prog 159 _ W (aK (.bool (decide (x.op∈ops))) W)):=λW k=>arU v ops x.op W (hv.below k);have j:Hid (∀W,Below w.heap.size w W->W.cell? ⟨d,0,none⟩=some v):=λW k=>aC k hb;obtain⟨A,p,rfl,-⟩:=hv;obtain⟨r,g⟩:∃r,decide (x.op∈ops)=r:=⟨_,rfl⟩;rw[g] at f ⊢;clear g hb;unfold bA;go_enter func158,ntmps158;go_upto_region 1 with fail;generalize h:World.alloc _ _=w1;have X:=Bx.of1 h;clear h;have l:=j.o _ X.k;go_wp2_with (first | (refine X.L1 ?_) | fail);refine X.call (f.o _ X.k) λ_ X=>?_;clear l;go_wp2_with fail;go_ret;exact⟨rfl,X.k⟩
theorem arS:∀args W,(callFunc 158 args).run prog W=.ok (.enter 158 args) W:=enters_of func158 (by kernel_rfl) rfl
theorem arV (ca:List Value) (t:aH) (v:Value) (ops:List Int) (w:World) (ht:bI w w.heap.size ca t) (hv:aB w w.heap.size 1 gB v ops):Calls prog 88 #[.agg ⟨ca⟩,v] w (aK (.bool (arW t ops)) w):=by obtain⟨p,q,d,f⟩:=ht.at3;have j:=hI d;have l:Hid (∀W,Bx w W [(w.heap.size+1,[v],55),(w.heap.size,ca,34)]->Calls prog 157 _ W (aK (.bool (arW t ops)) W)):=λW X=>alJ xP (λx=>decide (x.op∈ops)) p q t.ins 158 arS #[.pointer (some ⟨w.heap.size+1,0,none⟩)] W (f.below X.k) (λw1 g x cs hx r=>by obtain⟨rfl,-⟩:=r;exact has1_c ops v x (w.heap.size+1) w1 (hv.below (X.on g).k) (X.on g).cl);obtain⟨A,s,rfl,-⟩:=hv;clear ht d f;go_enter func88,ntmps88;go_upto_region 1 with fail;generalize h:World.alloc _ _=w1;have X:=Bx.of2 h;clear h;go_wp2_with (first | (refine X.L1 (hj:=j.o) ?_) | fail);refine X.call (l.o _ X) λ_ X=>?_;go_wp2_with fail;go_ret;exact⟨rfl,X.k⟩
theorem firm1_c (s:oL) (x:aT) (d:Nat) (w:World) (hb:w.cell? ⟨d,4,none⟩=some (.int .i64 x.n)):Calls prog 87 #[.agg ⟨sB s⟩,.pointer (some ⟨d,0,none⟩)] w (aK (.bool (decide (s.reg=x.n))) w):=by have f:Hid (∀W,Below w.heap.size w W->W.cell? ⟨d,4,none⟩=some (.int .i64 x.n)):=λW k=>aC k hb;unfold sB;clear hb;go_enter func87,ntmps87;go_upto_region 1 with fail;generalize h:World.alloc _ _=w1;have X:=Bx.of1 h;clear h;have g:=f.o _ X.k;go_wp2_with (first | (refine X.L1 ?_) | fail);go_ret;exact⟨rfl,X.k⟩
theorem arR:∀args W,(callFunc 87 args).run prog W=.ok (.enter 87 args) W:=enters_of func87 (by kernel_rfl) rfl
theorem firm_c (ca:List Value) (t:aH) (x:aT) (w:World) (ht:bI w w.heap.size ca t):Calls prog 43 #[.agg ⟨ca⟩,.agg ⟨bA x⟩] w (aK (.bool (arQ t x)) w):=by
 have u:=hI ht.size13;obtain⟨ct,cb,-,I,-,Y⟩:=ht.at59;obtain⟨s,m,rfl,hs,hm,-,-⟩:=Y;have D:=hI (I 2 _ rfl);have E:=hI ht;have L:Hid (∀W,Bx w W [(w.heap.size+1,bA x,53),(w.heap.size,ca,34)]->Calls prog 86 #[s,.func (.func 87) #[] #[.pointer (some ⟨w.heap.size+1,0,none⟩)]] W (aK (.bool (t.back.sets.any (λs=>decide (s.reg=x.n)))) W)):=λW X=>by obtain⟨S,J,rfl,-⟩:=id hs;exact arO uW (λs=>decide (s.reg=x.n)) S J t.back.sets 87 arR #[.pointer (some ⟨w.heap.size+1,0,none⟩)] W (hs.below X.k) (λw1 k1 s cs hx hR=>by obtain⟨rfl,-⟩:=hR;exact firm1_c s x (w.heap.size+1) w1 (X.on k1).cl)
 have A:Hid (∀(W:World) (l:List (Nat×List Value×TypeId)) (g:Nat) (ops:List Int),Bx w W ((g,ops.map (.int .i64),3)::l)->(∀x∈ops,wfi x)->ops.length<=maxLen->Calls prog 88 #[.agg ⟨ca⟩,.slice (some ⟨g,0,none⟩) ops.length ops.length] W (aK (.bool (arW t ops)) W)):=λW l g ops X hw hl=> arV ca t _ ops W (E.o.below X.k) (xW (X.at_ _ _ _ (.hd _)).2 hw hl);obtain⟨S,J,rfl,-⟩:=id hs;clear ht I hs hm E;have z:∀x∈[(12:Int)],wfi x:=by intro x hx;simp at hx;unfold wfi;omega
 have f:∀x∈[(11:Int),14],wfi x:=by intro x hx;simp at hx;unfold wfi;omega
 have j:∀x∈[(17:Int),12],wfi x:=by intro x hx;simp at hx;unfold wfi;omega
 have F:=hI z;have G:=hI f;have H:=hI j;clear z f j;obtain⟨op,xa,xb,xc,xn,xe,⟨Z,kn⟩⟩:=x;obtain⟨r,d⟩:∃r,arQ t ⟨op,xa,xb,xc,xn,xe,⟨Z,kn⟩⟩=r:=⟨_,rfl⟩;rw[d];unfold arQ at d;dsimp only at d;have M:Hid (op=2\/op=3\/op=19\/op=7\/op=8\/op=4\/op=5\/op=6->r=true):=λc=>by rw[<-d];exact if_pos c
 have N:Hid (op=1->r = !t.back.sets.any (λs=>decide (s.reg=xn))):=λc=>by rw[<-d,if_neg (by omega),if_pos c]
 have O:Hid (op=9->r=(xn != 1 || !arW t [12])):=λc=>by rw[<-d,if_neg (by omega),if_neg (by omega),if_pos c]
 have P:Hid (op=10\/op=13->r = !arW t [11,14]):=λc=>by rw[<-d,if_neg (by omega),if_neg (by omega),if_neg (by omega),if_pos c]
 have R:Hid (op=15->r = !arW t [17,12]):=λc=>by rw[<-d,if_neg (by omega),if_neg (by omega),if_neg (by omega),if_neg (by omega),if_pos c]
 have V:Hid (¬(op=2\/op=3\/op=19\/op=7\/op=8\/op=4\/op=5\/op=6)->op≠1->op≠9->¬(op=10\/op=13)->op≠15->r=false):=λc1 c2 c3 c4 c5=>by rw[<-d,if_neg c1,if_neg c2,if_neg c3,if_neg c4,if_neg c5]
 clear d;unfold bA at *;dsimp only at *;go_enter func43,ntmps43;go_upto_region 1 with fail;generalize h:World.alloc _ _=w1;have X:=Bx.of2 h;clear h;by_cases c:op=2\/op=3\/op=19\/op=7\/op=8\/op=4\/op=5\/op=6;·have d:=M.o c;subst d;rcases c with rfl | rfl | rfl | rfl | rfl | rfl | rfl | rfl;all_goals (go_wp2_with (first | (refine X.L1 ?_) | fail);go_ret;exact⟨rfl,X.k⟩)
 by_cases v:op=1;·have d:=N.o v;subst d;subst v;go_wp2_with (first | (refine X.L1 ?_) | (refine X.L1 (hj:=D.o) ?_) | fail);refine X.call (L.o _ X) λ_ X=>?_;go_wp2_with fail;go_ret;exact⟨rfl,X.k⟩
 by_cases y:op=9
 ·have d:=O.o y;subst y;by_cases K:xn=1;·have b1:(xn != 1)=false:=(by simpa using K);rw[b1] at d;subst d;go_wp2_with (first | (refine X.L1 ?_) | (refine Bx.ldg X u.o ?_) | fail);refine(X.al [.int .i64 12] 3).call (A.o _ _ _ [12] (X.al _ _) F.o (by decide)) λ_ X=>?_;go_wp2_with fail;go_ret;exact⟨rfl,X.k⟩
  ·have b1:(xn != 1)=true:=(by simpa using K);rw[b1] at d;subst d;go_wp2_with (first | (refine X.L1 ?_) | fail);go_ret;exact⟨rfl,X.k⟩
 by_cases p:op=10\/op=13;·have d:=P.o p;subst d;rcases p with rfl | rfl;all_goals go_wp2_with (first | (refine X.L1 ?_) | (refine X.Ld (hi:=u.o) ?_) | fail);refine(X.al [.int .i64 11,.int .i64 14] 3).call (A.o _ _ _ [11,14] (X.al _ _) G.o (by decide)) λ_ X=>?_;go_wp2_with fail;go_ret;exact⟨rfl,X.k⟩
 by_cases q:op=15;·have d:=R.o q;subst d;subst q;go_wp2_with (first | (refine X.L1 ?_) | (refine X.Ld (hi:=u.o) ?_) | fail);refine(X.al [.int .i64 17,.int .i64 12] 3).call (A.o _ _ _ [17,12] (X.al _ _) H.o (by decide)) λ_ X=>?_;go_wp2_with fail;go_ret;exact⟨rfl,X.k⟩
 have d:=V.o c v y p q;subst d;have b2:(op == 2)=false:=bF (by omega);have b3:(op == 3)=false:=bF (by omega);have a9:(op == 19)=false:=bF (by omega);have b7:(op == 7)=false:=bF (by omega);have b8:(op == 8)=false:=bF (by omega);have b4:(op == 4)=false:=bF (by omega);have b5:(op == 5)=false:=bF (by omega);have b6:(op == 6)=false:=bF (by omega);have b1:(op == 1)=false:=bF (by omega);have b9:(op == 9)=false:=bF (by omega);have b0:(op == 10)=false:=bF (by omega);have c0:(op == 13)=false:=bF (by omega);have c6:(op == 15)=false:=bF (by omega);clear c v y p q;go_wp2_with (first | (refine X.L1 ?_) | fail);go_ret;exact⟨rfl,X.k⟩
end
end Go.Proofs.YtijihlcdhppfgaaGreatDoor
