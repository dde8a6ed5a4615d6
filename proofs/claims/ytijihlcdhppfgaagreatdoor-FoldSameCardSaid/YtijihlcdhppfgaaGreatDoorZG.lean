/- A part of the walk. -/
import Derived.Test.YtijihlcdhppfgaaGreatDoorZF
import Derived.Laws.Externs
import Derived.Maps.OwnOps
import Derived.Maps.Views
set_option maxHeartbeats 16000000
set_option maxRecDepth 100000
set_option linter.all false
namespace Go.Proofs.YtijihlcdhppfgaaGreatDoor
open Tryz
section
open Go.RowKit
theorem yB {α : Type} (R:List Value->α->Prop) (p : α->Bool) (A:Option Addr) (q:Nat) (xs:List α) (r:FuncId) (a6:∀args W,(callFunc r args).run prog W=.ok (.enter r args) W) (D:Array Value) (w:World) (H:aB w w.heap.size 5 R (.slice A xs.length q) xs) (V:∀(w1:World),Below w.heap.size w w1->∀(x : α) (cs:List Value),x∈xs->R cs x->Calls prog r (#[.agg ⟨cs⟩]++D) w1 (aK (.bool (p x)) w1)) : Calls prog 145 #[.slice A xs.length q,.func (.func r) #[] D] w (aK (.int .i64 (l7 p xs)) w):=by
 have Y:=hI H;have Z:=hI V;have hl:xs.length<=q/\q<=maxLen:=by obtain⟨A',c',e,e1,e2,-⟩:=H;injection e with _ _ e3;subst e3;exact⟨e1,e2⟩
 obtain⟨a5,O⟩:=hl;unfold maxLen at O;clear H V;go_enter func145,ntmps145;go_wp2_with fail;go_loopw [8] (λk wr=>∃d:Nat,k=.int .i64 d/\d<=xs.length/\Hid (∀i x,i<d->xs[i]? = some x->p x=false)/\Hid (Below w.heap.size w wr)) (λk _=>xs.length - (RowKit.intOf k).toNat);case atStart=>exact⟨0,rfl,by omega,λi x hi _=>by omega,Below.refl _ _⟩
 case round=>
  obtain⟨d,rfl,hk,G,f⟩:=hrel
  by_cases X:d<xs.length
  ·obtain⟨b,l,x,cs,rfl,hb,u,P,S,g⟩:=Y.o.at_ X
   match cs,P with
   | [c0,c1,c2,c3,c4],_=>
    have a4:(d:Int)<xs.length:=by omega
    have I:wr.cell? ⟨b,l+d*5,none⟩=some c0:=(f.o.cell hb).trans (g 0 _ rfl)
    have J:wr.cell? ⟨b,l+d*5+1,none⟩=some c1:=(f.o.cell hb).trans (g 1 _ rfl)
    have K:wr.cell? ⟨b,l+d*5+2,none⟩=some c2:=(f.o.cell hb).trans (g 2 _ rfl)
    have L:wr.cell? ⟨b,l+d*5+3,none⟩=some c3:=(f.o.cell hb).trans (g 3 _ rfl)
    have M:wr.cell? ⟨b,l+d*5+4,none⟩=some c4:=(f.o.cell hb).trans (g 4 _ rfl)
    have E:=hI (Z.o wr f.o x _ (lM u) S)
    have N:=hI u
    clear u g S
    cases j:p x
    ·have s:=hI j
     rw[j] at E
     clear j
     go_wp2_with fail
     refine E.o.mono ?_
     rintro e w2 ⟨rfl,v⟩
     have F:=hI (Below.trans f.o (v.mono f.o.size))
     clear v I J K L M
     go_wp2_with fail
     go_roundw
     case rel=>exact⟨d+1,by go_num,by omega,λi y hi z=>by
      rcases Nat.lt_or_ge i d with h | h
      ·exact G.o i y h z
      ·have:i=d:=by omega
       subst this
       rw[N.o] at z
       injection z with z
       subst z
       exact s.o,F⟩
     case measure=>simp[RowKit.intOf];omega
    ·have s:=hI (iM G.o N.o j)
     rw[j] at E
     clear j
     go_wp2_with fail
     refine E.o.mono ?_
     rintro e w2 ⟨rfl,v⟩
     have F:=hI (Below.trans f.o (v.mono f.o.size))
     clear v I J K L M
     go_wp2_with fail
     go_ret
     exact⟨by rw[s.o];rfl,F.o⟩
  ·have s:=hI (gV (p:=p) (xs:=xs) (λi x hi=>G.o i x (by have:=(lE hi).1;omega) hi))
   go_wp2_with fail
   go_ret
   exact⟨by rw[s.o];rfl,f.o⟩
theorem tV {α : Type} (R:List Value->α->Prop) (p : α->Bool) (A:Option Addr) (g:Nat) (xs:List α) (d:FuncId) (h:∀args W,(callFunc d args).run prog W=.ok (.enter d args) W) (f:Array Value) (w:World) (l:aB w w.heap.size 5 R (.slice A xs.length g) xs) (q:∀(w1:World),Below w.heap.size w w1->∀(x : α) (cs:List Value),x∈xs->R cs x->Calls prog d (#[.agg ⟨cs⟩]++f) w1 (aK (.bool (p x)) w1)) : Calls prog 71 #[.slice A xs.length g,.func (.func d) #[] f] w (aK (.bool (xs.any p)) w):=by have r:=hI (yB R p A g xs d h f w l q);have s:=hI (iN p xs);clear l q h;go_enter func71,ntmps71;go_wp2_with fail;refine r.o.mono ?_;rintro e w1 ⟨rfl,j⟩;have u:=hI j;clear j;go_wp2_with fail;go_ret;exact⟨by rw[s.o];rfl,u.o⟩
theorem yD {α : Type} (R:List Value->α->Prop) (p : α->Bool) (A:Option Addr) (q:Nat) (xs:List α) (r:FuncId) (b0:∀args W,(callFunc r args).run prog W=.ok (.enter r args) W) (D:Array Value) (w:World) (H:aB w w.heap.size 8 R (.slice A xs.length q) xs) (Z:∀(w1:World),Below w.heap.size w w1->∀(x : α) (cs:List Value),x∈xs->R cs x->Calls prog r (#[.agg ⟨cs⟩]++D) w1 (aK (.bool (p x)) w1)) : Calls prog 242 #[.slice A xs.length q,.func (.func r) #[] D] w (aK (.int .i64 (l7 p xs)) w):=by
 have HS:=hI H;have HP:=hI Z;have hl:xs.length<=q/\q<=maxLen:=by obtain⟨A',c',e,e1,e2,-⟩:=H;injection e with _ _ e3;subst e3;exact⟨e1,e2⟩
 obtain⟨a9,V⟩:=hl;unfold maxLen at V;clear H Z;go_enter func242,ntmps242;go_wp2_with fail;go_loopw [8] (λk wr=>∃d:Nat,k=.int .i64 d/\d<=xs.length/\Hid (∀i x,i<d->xs[i]? = some x->p x=false)/\Hid (Below w.heap.size w wr)) (λk _=>xs.length - (RowKit.intOf k).toNat);case atStart=>exact⟨0,rfl,by omega,λi x hi _=>by omega,Below.refl _ _⟩
 case round=>
  obtain⟨d,rfl,hk,G,f⟩:=hrel
  by_cases a0:d<xs.length
  ·obtain⟨b,j,x,cs,rfl,hb,u,X,Y,g⟩:=HS.o.at_ a0
   match cs,X with
   | [c0,c1,c2,c3,c4,c5,c6,c7],_=>
    have a7:(d:Int)<xs.length:=by omega
    have I:wr.cell? ⟨b,j+d*8,none⟩=some c0:=(f.o.cell hb).trans (g 0 _ rfl)
    have J:wr.cell? ⟨b,j+d*8+1,none⟩=some c1:=(f.o.cell hb).trans (g 1 _ rfl)
    have K:wr.cell? ⟨b,j+d*8+2,none⟩=some c2:=(f.o.cell hb).trans (g 2 _ rfl)
    have L:wr.cell? ⟨b,j+d*8+3,none⟩=some c3:=(f.o.cell hb).trans (g 3 _ rfl)
    have M:wr.cell? ⟨b,j+d*8+4,none⟩=some c4:=(f.o.cell hb).trans (g 4 _ rfl)
    have N:wr.cell? ⟨b,j+d*8+5,none⟩=some c5:=(f.o.cell hb).trans (g 5 _ rfl)
    have O:wr.cell? ⟨b,j+d*8+6,none⟩=some c6:=(f.o.cell hb).trans (g 6 _ rfl)
    have P:wr.cell? ⟨b,j+d*8+7,none⟩=some c7:=(f.o.cell hb).trans (g 7 _ rfl)
    have E:=hI (HP.o wr f.o x _ (lM u) Y)
    have S:=hI u
    clear u g Y
    cases l:p x
    ·have s:=hI l
     rw[l] at E
     clear l
     go_wp2_with fail
     refine E.o.mono ?_
     rintro e w2 ⟨rfl,v⟩
     have F:=hI (Below.trans f.o (v.mono f.o.size))
     clear v I J K L M N O P
     go_wp2_with fail
     go_roundw
     case rel=>exact⟨d+1,by go_num,by omega,λi y hi z=>by
      rcases Nat.lt_or_ge i d with h | h
      ·exact G.o i y h z
      ·have:i=d:=by omega
       subst this
       rw[S.o] at z
       injection z with z
       subst z
       exact s.o,F⟩
     case measure=>simp[RowKit.intOf];omega
    ·have s:=hI (iM G.o S.o l)
     rw[l] at E
     clear l
     go_wp2_with fail
     refine E.o.mono ?_
     rintro e w2 ⟨rfl,v⟩
     have F:=hI (Below.trans f.o (v.mono f.o.size))
     clear v I J K L M N O P
     go_wp2_with fail
     go_ret
     exact⟨by rw[s.o];rfl,F.o⟩
  ·have s:=hI (gV (p:=p) (xs:=xs) (λi x hi=>G.o i x (by have:=(lE hi).1;omega) hi))
   go_wp2_with fail
   go_ret
   exact⟨by rw[s.o];rfl,f.o⟩
theorem tX {α : Type} (R:List Value->α->Prop) (p : α->Bool) (A:Option Addr) (g:Nat) (xs:List α) (d:FuncId) (h:∀args W,(callFunc d args).run prog W=.ok (.enter d args) W) (f:Array Value) (w:World) (l:aB w w.heap.size 8 R (.slice A xs.length g) xs) (q:∀(w1:World),Below w.heap.size w w1->∀(x : α) (cs:List Value),x∈xs->R cs x->Calls prog d (#[.agg ⟨cs⟩]++f) w1 (aK (.bool (p x)) w1)) : Calls prog 202 #[.slice A xs.length g,.func (.func d) #[] f] w (aK (.bool (xs.any p)) w):=by have r:=hI (yD R p A g xs d h f w l q);have s:=hI (iN p xs);clear l q h;go_enter func202,ntmps202;go_wp2_with fail;refine r.o.mono ?_;rintro e w1 ⟨rfl,j⟩;have u:=hI j;clear j;go_wp2_with fail;go_ret;exact⟨by rw[s.o];rfl,u.o⟩
theorem yF {α : Type} (R:List Value->α->Prop) (p : α->Bool) (A:Option Addr) (q:Nat) (xs:List α) (r:FuncId) (a5:∀args W,(callFunc r args).run prog W=.ok (.enter r args) W) (D:Array Value) (w:World) (H:aB w w.heap.size 4 R (.slice A xs.length q) xs) (S:∀(w1:World),Below w.heap.size w w1->∀(x : α) (cs:List Value),x∈xs->R cs x->Calls prog r (#[.agg ⟨cs⟩]++D) w1 (aK (.bool (p x)) w1)) : Calls prog 197 #[.slice A xs.length q,.func (.func r) #[] D] w (aK (.int .i64 (l7 p xs)) w):=by
 have X:=hI H;have Y:=hI S;have hl:xs.length<=q/\q<=maxLen:=by obtain⟨A',c',e,Z,e2,-⟩:=H;injection e with _ _ e3;subst e3;exact⟨Z,e2⟩
 obtain⟨a4,N⟩:=hl;unfold maxLen at N;clear H S;go_enter func197,ntmps197;go_wp2_with fail;go_loopw [8] (λk wr=>∃d:Nat,k=.int .i64 d/\d<=xs.length/\Hid (∀i x,i<d->xs[i]? = some x->p x=false)/\Hid (Below w.heap.size w wr)) (λk _=>xs.length - (RowKit.intOf k).toNat);case atStart=>exact⟨0,rfl,by omega,λi x hi _=>by omega,Below.refl _ _⟩
 case round=>
  obtain⟨d,rfl,hk,G,f⟩:=hrel
  by_cases V:d<xs.length
  ·obtain⟨b,l,x,cs,rfl,hb,u,O,P,j⟩:=X.o.at_ V
   match cs,O with
   | [c0,c1,c2,c3],_=>
    have a3:(d:Int)<xs.length:=by omega
    have I:wr.cell? ⟨b,l+d*4,none⟩=some c0:=(f.o.cell hb).trans (j 0 _ rfl)
    have J:wr.cell? ⟨b,l+d*4+1,none⟩=some c1:=(f.o.cell hb).trans (j 1 _ rfl)
    have K:wr.cell? ⟨b,l+d*4+2,none⟩=some c2:=(f.o.cell hb).trans (j 2 _ rfl)
    have L:wr.cell? ⟨b,l+d*4+3,none⟩=some c3:=(f.o.cell hb).trans (j 3 _ rfl)
    have E:=hI (Y.o wr f.o x _ (lM u) P)
    have M:=hI u
    clear u j P
    cases g:p x
    ·have s:=hI g
     rw[g] at E
     clear g
     go_wp2_with fail
     refine E.o.mono ?_
     rintro e w2 ⟨rfl,v⟩
     have F:=hI (Below.trans f.o (v.mono f.o.size))
     clear v I J K L
     go_wp2_with fail
     go_roundw
     case rel=>exact⟨d+1,by go_num,by omega,λi y hi z=>by
      rcases Nat.lt_or_ge i d with h | h
      ·exact G.o i y h z
      ·have:i=d:=by omega
       subst this
       rw[M.o] at z
       injection z with z
       subst z
       exact s.o,F⟩
     case measure=>simp[RowKit.intOf];omega
    ·have s:=hI (iM G.o M.o g)
     rw[g] at E
     clear g
     go_wp2_with fail
     refine E.o.mono ?_
     rintro e w2 ⟨rfl,v⟩
     have F:=hI (Below.trans f.o (v.mono f.o.size))
     clear v I J K L
     go_wp2_with fail
     go_ret
     exact⟨by rw[s.o];rfl,F.o⟩
  ·have s:=hI (gV (p:=p) (xs:=xs) (λi x hi=>G.o i x (by have:=(lE hi).1;omega) hi))
   go_wp2_with fail
   go_ret
   exact⟨by rw[s.o];rfl,f.o⟩
theorem kF {α : Type} (R:List Value->α->Prop) (p : α->Bool) (A:Option Addr) (g:Nat) (xs:List α) (d:FuncId) (h:∀args W,(callFunc d args).run prog W=.ok (.enter d args) W) (f:Array Value) (w:World) (l:aB w w.heap.size 4 R (.slice A xs.length g) xs) (q:∀(w1:World),Below w.heap.size w w1->∀(x : α) (cs:List Value),x∈xs->R cs x->Calls prog d (#[.agg ⟨cs⟩]++f) w1 (aK (.bool (p x)) w1)) : Calls prog 136 #[.slice A xs.length g,.func (.func d) #[] f] w (aK (.bool (xs.any p)) w):=by have r:=hI (yF R p A g xs d h f w l q);have s:=hI (iN p xs);clear l q h;go_enter func136,ntmps136;go_wp2_with fail;refine r.o.mono ?_;rintro e w1 ⟨rfl,j⟩;have u:=hI j;clear j;go_wp2_with fail;go_ret;exact⟨by rw[s.o];rfl,u.o⟩
theorem yC {α : Type} (R:List Value->α->Prop) (p : α->Bool) (A:Option Addr) (j:Nat) (xs:List α) (l:FuncId) (a3:∀args W,(callFunc l args).run prog W=.ok (.enter l args) W) (z:Array Value) (w:World) (H:aB w w.heap.size 2 R (.slice A xs.length j) xs) (O:∀(w1:World),Below w.heap.size w w1->∀(x : α) (cs:List Value),x∈xs->R cs x->Calls prog l (#[.agg ⟨cs⟩]++z) w1 (aK (.bool (p x)) w1)) : Calls prog 196 #[.slice A xs.length j,.func (.func l) #[] z] w (aK (.int .i64 (l7 p xs)) w):=by
 have S:=hI H;have V:=hI O;have hl:xs.length<=j/\j<=maxLen:=by obtain⟨A',c',e,X,Y,-⟩:=H;injection e with _ _ e3;subst e3;exact⟨X,Y⟩
 obtain⟨a2,L⟩:=hl;unfold maxLen at L;clear H O;go_enter func196,ntmps196;go_wp2_with fail;go_loopw [8] (λk wr=>∃d:Nat,k=.int .i64 d/\d<=xs.length/\Hid (∀i x,i<d->xs[i]? = some x->p x=false)/\Hid (Below w.heap.size w wr)) (λk _=>xs.length - (RowKit.intOf k).toNat);case atStart=>exact⟨0,rfl,by omega,λi x hi _=>by omega,Below.refl _ _⟩
 case round=>
  obtain⟨d,rfl,hk,G,g⟩:=hrel
  by_cases P:d<xs.length
  ·obtain⟨b,E,x,cs,rfl,hb,r,M,N,s⟩:=S.o.at_ P
   match cs,M with
   | [c0,c1],_=>
    have a1:(d:Int)<xs.length:=by omega
    have I:wr.cell? ⟨b,E+d*2,none⟩=some c0:=(g.o.cell hb).trans (s 0 _ rfl)
    have J:wr.cell? ⟨b,E+d*2+1,none⟩=some c1:=(g.o.cell hb).trans (s 1 _ rfl)
    have D:=hI (V.o wr g.o x _ (lM r) N)
    have K:=hI r
    clear r s N
    cases f:p x
    ·have q:=hI f
     rw[f] at D
     clear f
     go_wp2_with fail
     refine D.o.mono ?_
     rintro e Z ⟨rfl,u⟩
     have F:=hI (Below.trans g.o (u.mono g.o.size))
     clear u I J
     go_wp2_with fail
     go_roundw
     case rel=>exact⟨d+1,by go_num,by omega,λi y hi v=>by
      rcases Nat.lt_or_ge i d with h | h
      ·exact G.o i y h v
      ·have:i=d:=by omega
       subst this
       rw[K.o] at v
       injection v with v
       subst v
       exact q.o,F⟩
     case measure=>simp[RowKit.intOf];omega
    ·have q:=hI (iM G.o K.o f)
     rw[f] at D
     clear f
     go_wp2_with fail
     refine D.o.mono ?_
     rintro e Z ⟨rfl,u⟩
     have F:=hI (Below.trans g.o (u.mono g.o.size))
     clear u I J
     go_wp2_with fail
     go_ret
     exact⟨by rw[q.o];rfl,F.o⟩
  ·have q:=hI (gV (p:=p) (xs:=xs) (λi x hi=>G.o i x (by have:=(lE hi).1;omega) hi))
   go_wp2_with fail
   go_ret
   exact⟨by rw[q.o];rfl,g.o⟩
theorem tW {α : Type} (R:List Value->α->Prop) (p : α->Bool) (A:Option Addr) (g:Nat) (xs:List α) (d:FuncId) (h:∀args W,(callFunc d args).run prog W=.ok (.enter d args) W) (f:Array Value) (w:World) (l:aB w w.heap.size 2 R (.slice A xs.length g) xs) (q:∀(w1:World),Below w.heap.size w w1->∀(x : α) (cs:List Value),x∈xs->R cs x->Calls prog d (#[.agg ⟨cs⟩]++f) w1 (aK (.bool (p x)) w1)) : Calls prog 134 #[.slice A xs.length g,.func (.func d) #[] f] w (aK (.bool (xs.any p)) w):=by have r:=hI (yC R p A g xs d h f w l q);have s:=hI (iN p xs);clear l q h;go_enter func134,ntmps134;go_wp2_with fail;refine r.o.mono ?_;rintro e w1 ⟨rfl,j⟩;have u:=hI j;clear j;go_wp2_with fail;go_ret;exact⟨by rw[s.o];rfl,u.o⟩
theorem wV {α : Type} (R:List Value->α->Prop) (p : α->Bool) (A:Option Addr) (l:Nat) (xs:List α) (q:FuncId) (a4:∀args W,(callFunc q args).run prog W=.ok (.enter q args) W) (D:Array Value) (w:World) (H:aB w w.heap.size 3 R (.slice A xs.length l) xs) (P:∀(w1:World),Below w.heap.size w w1->∀(x : α) (cs:List Value),x∈xs->R cs x->Calls prog q (#[.agg ⟨cs⟩]++D) w1 (aK (.bool (p x)) w1)) : Calls prog 204 #[.slice A xs.length l,.func (.func q) #[] D] w (aK (.int .i64 (l7 p xs)) w):=by
 have V:=hI H;have X:=hI P;have hl:xs.length<=l/\l<=maxLen:=by obtain⟨A',c',e,Y,Z,-⟩:=H;injection e with _ _ e3;subst e3;exact⟨Y,Z⟩
 obtain⟨a3,M⟩:=hl;unfold maxLen at M;clear H P;go_enter func204,ntmps204;go_wp2_with fail;go_loopw [8] (λk wr=>∃d:Nat,k=.int .i64 d/\d<=xs.length/\Hid (∀i x,i<d->xs[i]? = some x->p x=false)/\Hid (Below w.heap.size w wr)) (λk _=>xs.length - (RowKit.intOf k).toNat);case atStart=>exact⟨0,rfl,by omega,λi x hi _=>by omega,Below.refl _ _⟩
 case round=>
  obtain⟨d,rfl,hk,G,g⟩:=hrel
  by_cases S:d<xs.length
  ·obtain⟨b,s,x,cs,rfl,hb,u,N,O,j⟩:=V.o.at_ S
   match cs,N with
   | [c0,c1,c2],_=>
    have a2:(d:Int)<xs.length:=by omega
    have I:wr.cell? ⟨b,s+d*3,none⟩=some c0:=(g.o.cell hb).trans (j 0 _ rfl)
    have J:wr.cell? ⟨b,s+d*3+1,none⟩=some c1:=(g.o.cell hb).trans (j 1 _ rfl)
    have K:wr.cell? ⟨b,s+d*3+2,none⟩=some c2:=(g.o.cell hb).trans (j 2 _ rfl)
    have E:=hI (X.o wr g.o x _ (lM u) O)
    have L:=hI u
    clear u j O
    cases f:p x
    ·have r:=hI f
     rw[f] at E
     clear f
     go_wp2_with fail
     refine E.o.mono ?_
     rintro e w2 ⟨rfl,v⟩
     have F:=hI (Below.trans g.o (v.mono g.o.size))
     clear v I J K
     go_wp2_with fail
     go_roundw
     case rel=>exact⟨d+1,by go_num,by omega,λi y hi z=>by
      rcases Nat.lt_or_ge i d with h | h
      ·exact G.o i y h z
      ·have:i=d:=by omega
       subst this
       rw[L.o] at z
       injection z with z
       subst z
       exact r.o,F⟩
     case measure=>simp[RowKit.intOf];omega
    ·have r:=hI (iM G.o L.o f)
     rw[f] at E
     clear f
     go_wp2_with fail
     refine E.o.mono ?_
     rintro e w2 ⟨rfl,v⟩
     have F:=hI (Below.trans g.o (v.mono g.o.size))
     clear v I J K
     go_wp2_with fail
     go_ret
     exact⟨by rw[r.o];rfl,F.o⟩
  ·have r:=hI (gV (p:=p) (xs:=xs) (λi x hi=>G.o i x (by have:=(lE hi).1;omega) hi))
   go_wp2_with fail
   go_ret
   exact⟨by rw[r.o];rfl,g.o⟩
theorem sM {α : Type} (R:List Value->α->Prop) (p : α->Bool) (A:Option Addr) (g:Nat) (xs:List α) (d:FuncId) (h:∀args W,(callFunc d args).run prog W=.ok (.enter d args) W) (f:Array Value) (w:World) (l:aB w w.heap.size 3 R (.slice A xs.length g) xs) (q:∀(w1:World),Below w.heap.size w w1->∀(x : α) (cs:List Value),x∈xs->R cs x->Calls prog d (#[.agg ⟨cs⟩]++f) w1 (aK (.bool (p x)) w1)) : Calls prog 141 #[.slice A xs.length g,.func (.func d) #[] f] w (aK (.bool (xs.any p)) w):=by have r:=hI (wV R p A g xs d h f w l q);have s:=hI (iN p xs);clear l q h;go_enter func141,ntmps141;go_wp2_with fail;refine r.o.mono ?_;rintro e w1 ⟨rfl,j⟩;have u:=hI j;clear j;go_wp2_with fail;go_ret;exact⟨by rw[s.o];rfl,u.o⟩
end
section
structure FnM where
 regs:Int
 len:Int
def l6 (ins:List aT) (v:Int):Int:=((ins[v.toNat]?).map (·.op)).getD 0
def eZ (ins:List aT) (v at_:Int):Bool:=decide (0<=v) && decide (v<at_) && decide (v<ins.length) && dZ (l6 ins v)
def fN (ins:List aT) (l:List Int) (at_:Int):Bool:=l.all (eZ ins · at_)
def mG (ins:List aT) (m:dX) (at_:Int):Bool:=
 eZ ins m.cell at_ && l6 ins m.cell == 18 && !(decide (m.kind<1) || decide (3<m.kind) || decide (m.num<0) || (decide (0<m.num) && m.kind != 1)) &&
 decide (m.vals.length<=100) && fN ins m.vals at_
def j5 (regs:Int) (ins:List aT) (at_:Int):Int->List oL->Bool
 | _,[]=>true
 | last,s::l=>decide (last<s.reg) && decide (s.reg<regs) && eZ ins s.val at_ && j5 regs ins at_ s.reg l
def fI (ins:List aT) (at_:Int):Int->List dX->Bool
 | _,[]=>true
 | last,m::l=>decide (last<m.cell) && mG ins m at_ && fI ins at_ m.cell l
def bN (fn:FnM) (ins:List aT) (x:bX) (at_:Int):Bool:=
 !(decide (x.at_<0) || decide (fn.len<=x.at_) || decide (x.steps<0) || decide (200<x.steps)) && j5 fn.regs ins at_ (-1) x.sets && fI ins at_ (-1) x.makes
def fV (x:aT) (k:Nat) (v:Int):Bool:=
 if k == 1 && (x.op == 19 || (x.op == 9 && x.n == 1)) then decide (0<=v) else v == -1
def fU (x:aT) (f:Form):Bool:=
 (decide (0<f.asks) || fV x 0 x.a) && (decide (1<f.asks) || fV x 1 x.b) && (decide (2<f.asks) || fV x 2 x.c)
def eJ (aF:Val->Bool) (fn:FnM) (t:aH) (x:aT) (at_:Int):Bool:=
 let f:=bP x.op
 fN t.ins (bU x) at_ && fU x f &&
 !(decide (x.n<f.low) || decide (f.high<x.n) || (x.op == 1 && decide (fn.regs<=x.n))) &&
 !((!f.k && x.k != ⟨0,0⟩) || (f.k && !aF x.k) || (x.op == 2 && x.k.kind == 5)) &&
 (if f.exit == 0 || (f.exit == 1 && x.exit == -1) then x.exit == -1
 else decide (0<=x.exit) && decide (x.exit<t.exits.length) && (t.exits[x.exit.toNat]?).any (bN fn t.ins · at_))
def sJ (aF:Val->Bool) (fn:FnM) (t:aH):Nat->List aT->Int
 | _,[]=>0
 | i,x::l=>if !mD x.op then 7 else if !eJ aF fn t x i then 3 else sJ aF fn t (i+1) l
def kV (x:bX):Bool:=x.at_ == 0 && x.steps == 0 && x.sets.isEmpty && x.makes.isEmpty
def cQ (aF:Val->Bool) (ce:Int) (fns:List FnM) (t:aH):Int:=
 if ce≠0 then ce else
 if 300<t.ins.length\/200<t.exits.length then 2 else
 match if t.fn<0 then none else fns[t.fn.toNat]? with
 | none=>3
 | some fn=>
  if t.at_<0\/fn.len<=t.at_\/t.loop<0\/(t.ins.length:Int)<t.loop then 3 else
  let e:=sJ aF fn t 0 t.ins
  if e≠0 then e else
  if(t.loop=0/\kV t.turn=false)\/(0<t.loop/\(t.turn.at_≠t.at_\/bN fn t.ins t.turn t.loop=false)) then 3 else
  if t.back.at_≠t.at_\/bN fn t.ins t.back t.ins.length=false then 3 else
  if t.exits.all (bN fn t.ins · t.ins.length) then 0 else 3
theorem fW {aF:Val->Bool} {fn:FnM} {t:aH} : ∀(l:List aT) (i:Nat),sJ aF fn t i l=0->∀k x,l[k]? = some x->mD x.op=true/\eJ aF fn t x ((i+k:Nat):Int)=true
 | [],_,_,_,_,hx=>by simp at hx
 | y::l,i,h,k,x,hx=>by
  unfold sJ at h
  split at h
  ·cases h
  split at h
  ·cases h
  rename_i h1 d
  cases k with
  | zero=>
   simp only[List.getElem?_cons_zero,Option.some.injEq] at hx
   subst hx
   exact⟨by simpa using h1,by simpa using d⟩
  | succ k=>
   have:=fW l (i+1) h k x (by simpa using hx)
   rwa [show i+1+k=i+(k+1) by omega] at this
theorem xH {aF:Val->Bool} {d:Int} {fns:List FnM} {t:aH} (h:cQ aF d fns t=0) : t.ins.length<=300/\∃fn,sJ aF fn t 0 t.ins=0:=by
 unfold cQ at h;split at h;·omega
 split at h;·cases h
 split at h;·cases h
 split at h;·cases h
 rename_i fn _ _;simp only at h;split at h;·rename_i h1;exact(h1 h).elim
 ·rename_i h1;exact⟨by omega,fn,by simpa using h1⟩
theorem lK {aF:Val->Bool} {l:Int} {fns:List FnM} {t:aH} (h:cQ aF l fns t=0) {i:Nat} {x:aT} (p:t.ins[i]? = some x) : ∀v∈bU x,0<=v/\v<i/\v<t.ins.length/\dZ (l6 t.ins v)=true:=by obtain⟨_,fn,h1⟩:=xH h;obtain⟨_,g⟩:=fW t.ins 0 h1 i x p;simp only[eJ,Bool.and_eq_true,Nat.zero_add] at g;intro v j;have f:=g.1.1.1.1;unfold fN at f;have d:=List.all_eq_true.1 f v j;simp only[eZ,Bool.and_eq_true,decide_eq_true_eq] at d;exact⟨d.1.1.1,d.1.1.2,d.1.2,d.2⟩
end
section
structure iH where
 U:Int->Val->Val×Int
 B:Int->Val->Val->Val×Int
 T:Val->Bool
structure aG where
 cells:List bJ
 vals:List Val
 regs:List Val
 at_:Int
 steps:Int
def bT (t:aH) (i:Int):aT:=(t.ins[i.toNat]?).getD ⟨0,0,0,0,0,0,⟨0,0⟩⟩
def bL (w:aG) (v:Int):Val:=(w.vals[v.toNat]?).getD ⟨0,0⟩
def dG (w:aG) (v:Int):Option (Nat×bJ):=
 if(bL w v).kind=5/\0<=(bL w v).n then(w.cells[(bL w v).n.toNat]?).map (λc=>((bL w v).n.toNat,c)) else none
def setV (w:aG) (i:Nat) (v:Val):aG:={ w with vals:=w.vals.set i v }
def setCW (w:aG) (n:Nat) (c:bJ):aG:={ w with cells:=w.cells.set n c }
def eP (w:aG) (i:Nat) (kind:Int):aG×Int:=
 if 300<=w.cells.length then(w,1) else({ w with vals:=w.vals.set i ⟨5,w.cells.length⟩,cells:=w.cells++[⟨kind,0,[],[]⟩] },0)
def isW (b:Bool) (how:Int):Int:=if b then 0 else how
def jF (E:iH) (w:aG) (x:aT):Bool:=
 if x.op=4 then(bL w x.a).kind == x.n
 else if x.op=5 then E.T (bL w x.a) == (x.n == 1)
 else if x.op=6 then decide (bL w x.a=x.k)
 else match dG w x.a with | none=>false | some (_,c)=>c.kind == x.n && (x.n != 1 || c.num == x.b)
def gX (w:aG) (i:Nat) (exit:Int) (r:Val×Int):aG×Int:=(setV w i r.1,if r.2<0 then 0 else if exit<0 then 2 else 1)
def jK (w:aG) (i:Nat) (x:aT):aG×Int:=
 match dG w x.a with
 | none=>(w,2)
 | some (n,c)=>
  if x.op≠15/\(c.vals.length:Int)<=x.n then(w,2)
  else if x.op=10 then(setV w i (c.vals.getD x.n.toNat ⟨0,0⟩),0)
  else if x.op=11 then(setCW w n { c with vals:=c.vals.set x.n.toNat (bL w x.b) },0)
  else(setV w i ⟨2,c.vals.length⟩,0)
def lH (shapes:List aO) (w:aG) (x:aT):aG×Int:=
 match dG w x.a with
 | none=>(w,2)
 | some (n,c)=>
  if c.kind≠1 then(w,2)
  else match shapes[x.n.toNat]? with
   | none=>(w,1)
   | some s=>if s.up≠c.num\/100<=c.vals.length then(w,1) else(setCW w n { c with num:=x.n,vals:=c.vals++[bL w x.b] },0)
def j6 (w:aG) (x:aT):aG×Int:=
 match dG w x.a with
 | none=>(w,2)
 | some (n,c)=>
  if c.kind≠2/\c.kind≠3 then(w,2)
  else if c.vals.length<100 then(setCW w n { c with vals:=c.vals++[bL w x.b] },0)
  else if x.exit<0 then(w,2) else(w,1)
def nE (w:aG) (i:Nat) (x:aT):aG×Int:=
 match dG w x.a with
 | none=>(w,2)
 | some (n,c)=>
  if c.kind≠2 then(w,2)
  else if ¬((bL w x.b).kind=2/\0<=(bL w x.b).n/\(bL w x.b).n<c.vals.length) then(w,1)
  else if x.op=13 then(setV w i (c.vals.getD (bL w x.b).n.toNat ⟨0,0⟩),0)
  else(setCW w n { c with vals:=c.vals.set (bL w x.b).n.toNat (bL w x.c) },0)
def doI (E:iH) (self:Val) (shapes:List aO) (w:aG) (i:Nat) (x:aT):aG×Int:=
 if x.op=1 then(setV w i (w.regs.getD x.n.toNat ⟨0,0⟩),0)
 else if x.op=2 then(setV w i x.k,0)
 else if x.op=3 then(setV w i self,0)
 else if x.op=4\/x.op=5\/x.op=6\/x.op=9 then(w,isW (jF E w x) 1)
 else if x.op=7 then gX w i x.exit (E.B x.n (bL w x.a) (bL w x.b))
 else if x.op=8 then gX w i x.exit (E.U x.n (bL w x.a))
 else if x.op=10\/x.op=11\/x.op=15 then jK w i x
 else if x.op=12 then lH shapes w x
 else if x.op=13\/x.op=14 then nE w i x
 else if x.op=16 then eP w i x.n
 else if x.op=17 then j6 w x
 else if x.op=19 then(w,isW (match shapes[x.n.toNat]? with | none=>false | some s=>s.up == x.b) 1)
 else eP w i 0
def doW (E:iH) (t:aH) (self:Val) (shapes:List aO) (w:aG) (i:Nat):aG×Int:=doI E self shapes w i (bT t i)
def gF (w:aG) (m:dX):aG×Int:=
 match dG w m.cell with
 | none=>(w,2)
 | some (n,c)=>if c.kind≠0 then(w,2) else(setCW w n ⟨m.kind,m.num,m.vals.map (bL w),[]⟩,0)
def eO:aG->List dX->aG×Int
 | w,[]=>(w,0)
 | w,m::l=>if(gF w m).2≠0 then gF w m else eO (gF w m).1 l
def gY (w:aG) (l:List oL):aG:=l.foldl (λw s=>{ w with regs:=w.regs.set s.reg.toNat (bL w s.val) }) w
def g8 (w:aG) (x:bX):aG×Int:=
 if(eO w x.makes).2≠0 then eO w x.makes
 else({ gY (eO w x.makes).1 x.sets with at_:=x.at_,steps:=(gY (eO w x.makes).1 x.sets).steps+x.steps },0)
def dA (E:iH) (t:aH) (self:Val) (shapes:List aO) (fin:bX):Nat->Nat->aG->aG×Int×Int
 | 0,_,w=>((g8 w fin).1,-1,(g8 w fin).2)
 | k+1,i,w=>
  if(doW E t self shapes w i).2=2 then((doW E t self shapes w i).1,0,2)
  else if(doW E t self shapes w i).2=1 then
   match t.exits[(bT t i).exit.toNat]? with
   | none=>((doW E t self shapes w i).1,(bT t i).exit,2)
   | some x=>((g8 (doW E t self shapes w i).1 x).1,(bT t i).exit,(g8 (doW E t self shapes w i).1 x).2)
  else dA E t self shapes fin k (i+1) (doW E t self shapes w i).1
def eW (E:iH) (t:aH) (self:Val) (shapes:List aO) (done:Nat) (w:aG):aG×Int×Int:=
 if done=0/\0<t.loop then dA E t self shapes t.turn t.loop.toNat 0 w
 else dA E t self shapes t.back (t.ins.length - t.loop.toNat) t.loop.toNat w
def cH (E:iH) (t:aH) (self:Val) (shapes:List aO):Nat->Nat->aG->aG×Int×Int×Int
 | 0,done,w=>(w,-1,(done:Int),0)
 | k+1,done,w=>
  let r:=eW E t self shapes done w
  if r.2.2=2\/0<=r.2.1 then(r.1,r.2.1,(done:Int),r.2.2)
  else cH E t self shapes k (done+1) r.1
def iL (t:aH) (S:aP) (th:Int):Bool:=
 if th<0 then false else match S.threads[th.toNat]? with
 | none=>false
 | some h=>match h.frames.getLast? with | none=>false | some f=>h.state == 0 && f.fn == t.fn && f.at_ == t.at_
def fA:aP:=⟨[],[],[],[],[],[],0,0⟩
def jS (S:aP) (th:Nat) (w:aG):aP:=
 match S.threads[th]? with
 | none=>S
 | some h=>match h.frames.getLast? with
  | none=>S
  | some f=>{ S with cells:=w.cells,steps:=S.steps+w.steps,threads:=S.threads.set th { h with frames:=h.frames.dropLast++[{ f with at_:=w.at_,regs:=w.regs }] } }
def gG (t:aH) (S:aP) (f:bC):aG:=⟨S.cells,List.replicate t.ins.length ⟨0,0⟩,f.regs,f.at_,0⟩
def mC (E:iH) (irc stc:Int) (t:aH) (S:aP) (th turns:Int):aP×Int×Int×Int:=
 if irc≠0 then(fA,0,0,irc)
 else if stc≠0 then(fA,0,0,stc)
 else match if th<0 then none else S.threads[th.toNat]? with
  | none=>(fA,0,0,5)
  | some h=>
   if iL t S th=false then(fA,0,0,8)
   else if turns<0\/1000<turns then(fA,0,0,1)
   else match h.frames.getLast? with
    | none=>(fA,0,0,8)
    | some f=>
     let r:=cH E t f.self S.shapes turns.toNat 0 (gG t S f)
     if r.2.2.2=2 then(fA,0,0,8)
     else if 1000000000<S.steps+r.1.steps then(fA,0,0,2)
     else(jS S th.toNat r.1,r.2.1,r.2.2.1,0)
end
section
open Go.RowKit
theorem qE (n g hi:Int) (w:World):Calls prog 143 #[.int .i64 n,.int .i64 g,.int .i64 hi] w λe w'=>e=.returned (.bool (aL n g hi))/\w=w':=by
 unfold aL;obtain⟨r,f⟩:∃r:Bool,(decide (g<=n) && decide (n<=hi))=r:=⟨_,rfl⟩;rw[f];by_cases h:g<=n
 ·have d:decide (n<=hi)=r:=by rw[<-f];simp[h]
  have j:=hI d;clear f d;go_enter func143,ntmps143;go_wp2;go_ret;exact⟨by rw[<-j.o];rfl,rfl⟩
 ·have d:false=r:=by rw[<-f];simp[h]
  subst d;have l:decide (g<=n)=false:=by simpa using h
  clear f;go_enter func143,ntmps143;go_wp2;go_ret;exact⟨rfl,rfl⟩
theorem kC (n g hi:Int) (w:World):Calls prog 146 #[.int .i64 n,.int .i64 g,.int .i64 hi] w λe w'=>e=.returned (.bool (aL n g hi))/\w=w':=by
 unfold aL;obtain⟨r,f⟩:∃r:Bool,(decide (g<=n) && decide (n<=hi))=r:=⟨_,rfl⟩;rw[f];by_cases h:g<=n
 ·have d:decide (n<=hi)=r:=by rw[<-f];simp[h]
  have j:=hI d;clear f d;go_enter func146,ntmps146;go_wp2;go_ret;exact⟨by rw[<-j.o];rfl,rfl⟩
 ·have d:false=r:=by rw[<-f];simp[h]
  subst d;have l:decide (g<=n)=false:=by simpa using h
  clear f;go_enter func146,ntmps146;go_wp2;go_ret;exact⟨rfl,rfl⟩
theorem aaM (b:Bool) (how:Int) (w:World):Calls prog 231 #[.bool b,.int .i64 how] w λe w'=>e=.returned (.int .i64 (isW b how))/\w=w':=by
 cases b;·go_enter func231,ntmps231;go_wp2;go_ret;exact⟨rfl,rfl⟩
 ·go_enter func231,ntmps231;go_wp2;go_ret;exact⟨rfl,rfl⟩
end
end Go.Proofs.YtijihlcdhppfgaaGreatDoor
