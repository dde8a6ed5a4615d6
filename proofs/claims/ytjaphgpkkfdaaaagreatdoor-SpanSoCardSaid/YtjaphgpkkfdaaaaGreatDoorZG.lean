/- A part of the walk. -/
import Derived.Test.YtjaphgpkkfdaaaaGreatDoorZF
import Derived.Laws.Externs
import Derived.Maps.OwnOps
import Derived.Maps.Views
set_option maxHeartbeats 16000000
set_option maxRecDepth 100000
set_option linter.all false
namespace Go.Proofs.YtjaphgpkkfdaaaaGreatDoor
open Tryz
section
open Go.RowKit
theorem sV {α : Type} (R:List Value->α->Prop) (p : α->Bool) (A:Option Addr) (m:Nat) (xs:List α) (q:FuncId) (a5:∀z W,(callFunc q z).run prog W=.ok (.enter q z) W) (C:Array Value) (w:World) (G:aH w w.heap.size 5 R (.slice A xs.length m) xs) (S:∀(w1:World),Below w.heap.size w w1->∀(x : α) (cs:List Value),x∈xs->R cs x->Calls prog q (#[.agg ⟨cs⟩]++C) w1 (aM (.bool (p x)) w1)) : Calls prog 93 #[.slice A xs.length m,.func (.func q) #[] C] w (aM (.int .i64 (jU p xs)) w):=by
 have X:=hI G;have Y:=hI S;have hl:xs.length<=m/\m<=maxLen:=by obtain⟨A',c',e,Z,e2,-⟩:=G;injection e with _ _ e3;subst e3;exact⟨Z,e2⟩
 obtain⟨a4,N⟩:=hl;unfold maxLen at N;clear G S;go_enter func93,ntmps93;go_wp2_with fail;go_loopw [8] (λk wr=>∃d:Nat,k=.int .i64 d/\d<=xs.length/\Hid (∀i x,i<d->xs[i]? = some x->p x=false)/\Hid (Below w.heap.size w wr)) (λk _=>xs.length - (RowKit.intOf k).toNat);case atStart=>exact⟨0,rfl,by omega,λi x hi _=>by omega,Below.refl _ _⟩
 case round=>
  obtain⟨d,rfl,hk,F,f⟩:=hrel
  by_cases V:d<xs.length
  ·obtain⟨b,l,x,cs,rfl,hb,s,O,P,g⟩:=X.o.at_ V
   match cs,O with
   | [c0,c1,c2,c3,c4],_=>
    have a3:(d:Int)<xs.length:=by omega
    have H:wr.cell? ⟨b,l+d*5,none⟩=some c0:=(f.o.cell hb).trans (g 0 _ rfl)
    have I:wr.cell? ⟨b,l+d*5+1,none⟩=some c1:=(f.o.cell hb).trans (g 1 _ rfl)
    have J:wr.cell? ⟨b,l+d*5+2,none⟩=some c2:=(f.o.cell hb).trans (g 2 _ rfl)
    have K:wr.cell? ⟨b,l+d*5+3,none⟩=some c3:=(f.o.cell hb).trans (g 3 _ rfl)
    have L:wr.cell? ⟨b,l+d*5+4,none⟩=some c4:=(f.o.cell hb).trans (g 4 _ rfl)
    have D:=hI (Y.o wr f.o x _ (lM s) P)
    have M:=hI s
    clear s g P
    cases j:p x
    ·have r:=hI j
     rw[j] at D
     clear j
     go_wp2_with fail
     refine D.o.mono ?_
     rintro e w2 ⟨rfl,u⟩
     have E:=hI (Below.trans f.o (u.mono f.o.size))
     clear u H I J K L
     go_wp2_with fail
     go_roundw
     case rel=>exact⟨d+1,by go_num,by omega,λi y hi v=>by
      rcases Nat.lt_or_ge i d with h | h
      ·exact F.o i y h v
      ·have:i=d:=by omega
       subst this
       rw[M.o] at v
       injection v with v
       subst v
       exact r.o,E⟩
     case measure=>simp[RowKit.intOf];omega
    ·have r:=hI (fU F.o M.o j)
     rw[j] at D
     clear j
     go_wp2_with fail
     refine D.o.mono ?_
     rintro e w2 ⟨rfl,u⟩
     have E:=hI (Below.trans f.o (u.mono f.o.size))
     clear u H I J K L
     go_wp2_with fail
     go_ret
     exact⟨by rw[r.o];rfl,E.o⟩
  ·have r:=hI (e8 (p:=p) (xs:=xs) (λi x hi=>F.o i x (by have:=(lE hi).1;omega) hi))
   go_wp2_with fail
   go_ret
   exact⟨by rw[r.o];rfl,f.o⟩
theorem pO {α : Type} (R:List Value->α->Prop) (p : α->Bool) (A:Option Addr) (h:Nat) (xs:List α) (d:FuncId) (i:∀g W,(callFunc d g).run prog W=.ok (.enter d g) W) (f:Array Value) (w:World) (l:aH w w.heap.size 5 R (.slice A xs.length h) xs) (m:∀(w1:World),Below w.heap.size w w1->∀(x : α) (cs:List Value),x∈xs->R cs x->Calls prog d (#[.agg ⟨cs⟩]++f) w1 (aM (.bool (p x)) w1)) : Calls prog 48 #[.slice A xs.length h,.func (.func d) #[] f] w (aM (.bool (xs.any p)) w):=by have q:=hI (sV R p A h xs d i f w l m);have r:=hI (fV p xs);clear l m i;go_enter func48,ntmps48;go_wp2_with fail;refine q.o.mono ?_;rintro e w1 ⟨rfl,j⟩;have s:=hI j;clear j;go_wp2_with fail;go_ret;exact⟨by rw[r.o];rfl,s.o⟩
theorem sX {α : Type} (R:List Value->α->Prop) (p : α->Bool) (A:Option Addr) (m:Nat) (xs:List α) (q:FuncId) (a9:∀z W,(callFunc q z).run prog W=.ok (.enter q z) W) (C:Array Value) (w:World) (G:aH w w.heap.size 8 R (.slice A xs.length m) xs) (Y:∀(w1:World),Below w.heap.size w w1->∀(x : α) (cs:List Value),x∈xs->R cs x->Calls prog q (#[.agg ⟨cs⟩]++C) w1 (aM (.bool (p x)) w1)) : Calls prog 163 #[.slice A xs.length m,.func (.func q) #[] C] w (aM (.int .i64 (jU p xs)) w):=by
 have HS:=hI G;have HP:=hI Y;have hl:xs.length<=m/\m<=maxLen:=by obtain⟨A',c',e,e1,e2,-⟩:=G;injection e with _ _ e3;subst e3;exact⟨e1,e2⟩
 obtain⟨a7,S⟩:=hl;unfold maxLen at S;clear G Y;go_enter func163,ntmps163;go_wp2_with fail;go_loopw [8] (λk wr=>∃d:Nat,k=.int .i64 d/\d<=xs.length/\Hid (∀i x,i<d->xs[i]? = some x->p x=false)/\Hid (Below w.heap.size w wr)) (λk _=>xs.length - (RowKit.intOf k).toNat);case atStart=>exact⟨0,rfl,by omega,λi x hi _=>by omega,Below.refl _ _⟩
 case round=>
  obtain⟨d,rfl,hk,F,f⟩:=hrel
  by_cases Z:d<xs.length
  ·obtain⟨b,j,x,cs,rfl,hb,s,V,X,g⟩:=HS.o.at_ Z
   match cs,V with
   | [c0,c1,c2,c3,c4,c5,c6,c7],_=>
    have a6:(d:Int)<xs.length:=by omega
    have H:wr.cell? ⟨b,j+d*8,none⟩=some c0:=(f.o.cell hb).trans (g 0 _ rfl)
    have I:wr.cell? ⟨b,j+d*8+1,none⟩=some c1:=(f.o.cell hb).trans (g 1 _ rfl)
    have J:wr.cell? ⟨b,j+d*8+2,none⟩=some c2:=(f.o.cell hb).trans (g 2 _ rfl)
    have K:wr.cell? ⟨b,j+d*8+3,none⟩=some c3:=(f.o.cell hb).trans (g 3 _ rfl)
    have L:wr.cell? ⟨b,j+d*8+4,none⟩=some c4:=(f.o.cell hb).trans (g 4 _ rfl)
    have M:wr.cell? ⟨b,j+d*8+5,none⟩=some c5:=(f.o.cell hb).trans (g 5 _ rfl)
    have N:wr.cell? ⟨b,j+d*8+6,none⟩=some c6:=(f.o.cell hb).trans (g 6 _ rfl)
    have O:wr.cell? ⟨b,j+d*8+7,none⟩=some c7:=(f.o.cell hb).trans (g 7 _ rfl)
    have D:=hI (HP.o wr f.o x _ (lM s) X)
    have P:=hI s
    clear s g X
    cases l:p x
    ·have r:=hI l
     rw[l] at D
     clear l
     go_wp2_with fail
     refine D.o.mono ?_
     rintro e w2 ⟨rfl,u⟩
     have E:=hI (Below.trans f.o (u.mono f.o.size))
     clear u H I J K L M N O
     go_wp2_with fail
     go_roundw
     case rel=>exact⟨d+1,by go_num,by omega,λi y hi v=>by
      rcases Nat.lt_or_ge i d with h | h
      ·exact F.o i y h v
      ·have:i=d:=by omega
       subst this
       rw[P.o] at v
       injection v with v
       subst v
       exact r.o,E⟩
     case measure=>simp[RowKit.intOf];omega
    ·have r:=hI (fU F.o P.o l)
     rw[l] at D
     clear l
     go_wp2_with fail
     refine D.o.mono ?_
     rintro e w2 ⟨rfl,u⟩
     have E:=hI (Below.trans f.o (u.mono f.o.size))
     clear u H I J K L M N O
     go_wp2_with fail
     go_ret
     exact⟨by rw[r.o];rfl,E.o⟩
  ·have r:=hI (e8 (p:=p) (xs:=xs) (λi x hi=>F.o i x (by have:=(lE hi).1;omega) hi))
   go_wp2_with fail
   go_ret
   exact⟨by rw[r.o];rfl,f.o⟩
theorem pQ {α : Type} (R:List Value->α->Prop) (p : α->Bool) (A:Option Addr) (h:Nat) (xs:List α) (d:FuncId) (i:∀g W,(callFunc d g).run prog W=.ok (.enter d g) W) (f:Array Value) (w:World) (l:aH w w.heap.size 8 R (.slice A xs.length h) xs) (m:∀(w1:World),Below w.heap.size w w1->∀(x : α) (cs:List Value),x∈xs->R cs x->Calls prog d (#[.agg ⟨cs⟩]++f) w1 (aM (.bool (p x)) w1)) : Calls prog 126 #[.slice A xs.length h,.func (.func d) #[] f] w (aM (.bool (xs.any p)) w):=by have q:=hI (sX R p A h xs d i f w l m);have r:=hI (fV p xs);clear l m i;go_enter func126,ntmps126;go_wp2_with fail;refine q.o.mono ?_;rintro e w1 ⟨rfl,j⟩;have s:=hI j;clear j;go_wp2_with fail;go_ret;exact⟨by rw[r.o];rfl,s.o⟩
theorem sZ {α : Type} (R:List Value->α->Prop) (p : α->Bool) (A:Option Addr) (m:Nat) (xs:List α) (q:FuncId) (a4:∀z W,(callFunc q z).run prog W=.ok (.enter q z) W) (C:Array Value) (w:World) (G:aH w w.heap.size 4 R (.slice A xs.length m) xs) (P:∀(w1:World),Below w.heap.size w w1->∀(x : α) (cs:List Value),x∈xs->R cs x->Calls prog q (#[.agg ⟨cs⟩]++C) w1 (aM (.bool (p x)) w1)) : Calls prog 121 #[.slice A xs.length m,.func (.func q) #[] C] w (aM (.int .i64 (jU p xs)) w):=by
 have V:=hI G;have X:=hI P;have hl:xs.length<=m/\m<=maxLen:=by obtain⟨A',c',e,Y,Z,-⟩:=G;injection e with _ _ e3;subst e3;exact⟨Y,Z⟩
 obtain⟨a3,M⟩:=hl;unfold maxLen at M;clear G P;go_enter func121,ntmps121;go_wp2_with fail;go_loopw [8] (λk wr=>∃d:Nat,k=.int .i64 d/\d<=xs.length/\Hid (∀i x,i<d->xs[i]? = some x->p x=false)/\Hid (Below w.heap.size w wr)) (λk _=>xs.length - (RowKit.intOf k).toNat);case atStart=>exact⟨0,rfl,by omega,λi x hi _=>by omega,Below.refl _ _⟩
 case round=>
  obtain⟨d,rfl,hk,F,f⟩:=hrel
  by_cases S:d<xs.length
  ·obtain⟨b,l,x,cs,rfl,hb,s,N,O,j⟩:=V.o.at_ S
   match cs,N with
   | [c0,c1,c2,c3],_=>
    have a2:(d:Int)<xs.length:=by omega
    have H:wr.cell? ⟨b,l+d*4,none⟩=some c0:=(f.o.cell hb).trans (j 0 _ rfl)
    have I:wr.cell? ⟨b,l+d*4+1,none⟩=some c1:=(f.o.cell hb).trans (j 1 _ rfl)
    have J:wr.cell? ⟨b,l+d*4+2,none⟩=some c2:=(f.o.cell hb).trans (j 2 _ rfl)
    have K:wr.cell? ⟨b,l+d*4+3,none⟩=some c3:=(f.o.cell hb).trans (j 3 _ rfl)
    have D:=hI (X.o wr f.o x _ (lM s) O)
    have L:=hI s
    clear s j O
    cases g:p x
    ·have r:=hI g
     rw[g] at D
     clear g
     go_wp2_with fail
     refine D.o.mono ?_
     rintro e w2 ⟨rfl,u⟩
     have E:=hI (Below.trans f.o (u.mono f.o.size))
     clear u H I J K
     go_wp2_with fail
     go_roundw
     case rel=>exact⟨d+1,by go_num,by omega,λi y hi v=>by
      rcases Nat.lt_or_ge i d with h | h
      ·exact F.o i y h v
      ·have:i=d:=by omega
       subst this
       rw[L.o] at v
       injection v with v
       subst v
       exact r.o,E⟩
     case measure=>simp[RowKit.intOf];omega
    ·have r:=hI (fU F.o L.o g)
     rw[g] at D
     clear g
     go_wp2_with fail
     refine D.o.mono ?_
     rintro e w2 ⟨rfl,u⟩
     have E:=hI (Below.trans f.o (u.mono f.o.size))
     clear u H I J K
     go_wp2_with fail
     go_ret
     exact⟨by rw[r.o];rfl,E.o⟩
  ·have r:=hI (e8 (p:=p) (xs:=xs) (λi x hi=>F.o i x (by have:=(lE hi).1;omega) hi))
   go_wp2_with fail
   go_ret
   exact⟨by rw[r.o];rfl,f.o⟩
theorem iH {α : Type} (R:List Value->α->Prop) (p : α->Bool) (A:Option Addr) (h:Nat) (xs:List α) (d:FuncId) (i:∀g W,(callFunc d g).run prog W=.ok (.enter d g) W) (f:Array Value) (w:World) (l:aH w w.heap.size 4 R (.slice A xs.length h) xs) (m:∀(w1:World),Below w.heap.size w w1->∀(x : α) (cs:List Value),x∈xs->R cs x->Calls prog d (#[.agg ⟨cs⟩]++f) w1 (aM (.bool (p x)) w1)) : Calls prog 83 #[.slice A xs.length h,.func (.func d) #[] f] w (aM (.bool (xs.any p)) w):=by have q:=hI (sZ R p A h xs d i f w l m);have r:=hI (fV p xs);clear l m i;go_enter func83,ntmps83;go_wp2_with fail;refine q.o.mono ?_;rintro e w1 ⟨rfl,j⟩;have s:=hI j;clear j;go_wp2_with fail;go_ret;exact⟨by rw[r.o];rfl,s.o⟩
theorem sW {α : Type} (R:List Value->α->Prop) (p : α->Bool) (A:Option Addr) (j:Nat) (xs:List α) (l:FuncId) (a2:∀v W,(callFunc l v).run prog W=.ok (.enter l v) W) (z:Array Value) (w:World) (G:aH w w.heap.size 2 R (.slice A xs.length j) xs) (N:∀(w1:World),Below w.heap.size w w1->∀(x : α) (cs:List Value),x∈xs->R cs x->Calls prog l (#[.agg ⟨cs⟩]++z) w1 (aM (.bool (p x)) w1)) : Calls prog 120 #[.slice A xs.length j,.func (.func l) #[] z] w (aM (.int .i64 (jU p xs)) w):=by
 have P:=hI G;have S:=hI N;have hl:xs.length<=j/\j<=maxLen:=by obtain⟨A',c',e,V,X,-⟩:=G;injection e with _ _ Z;subst Z;exact⟨V,X⟩
 obtain⟨a1,K⟩:=hl;unfold maxLen at K;clear G N;go_enter func120,ntmps120;go_wp2_with fail;go_loopw [8] (λk wr=>∃d:Nat,k=.int .i64 d/\d<=xs.length/\Hid (∀i x,i<d->xs[i]? = some x->p x=false)/\Hid (Below w.heap.size w wr)) (λk _=>xs.length - (RowKit.intOf k).toNat);case atStart=>exact⟨0,rfl,by omega,λi x hi _=>by omega,Below.refl _ _⟩
 case round=>
  obtain⟨d,rfl,hk,F,g⟩:=hrel
  by_cases O:d<xs.length
  ·obtain⟨b,D,x,cs,rfl,hb,q,L,M,r⟩:=P.o.at_ O
   match cs,L with
   | [c0,c1],_=>
    have a0:(d:Int)<xs.length:=by omega
    have H:wr.cell? ⟨b,D+d*2,none⟩=some c0:=(g.o.cell hb).trans (r 0 _ rfl)
    have I:wr.cell? ⟨b,D+d*2+1,none⟩=some c1:=(g.o.cell hb).trans (r 1 _ rfl)
    have C:=hI (S.o wr g.o x _ (lM q) M)
    have J:=hI q
    clear q r M
    cases f:p x
    ·have m:=hI f
     rw[f] at C
     clear f
     go_wp2_with fail
     refine C.o.mono ?_
     rintro e Y ⟨rfl,s⟩
     have E:=hI (Below.trans g.o (s.mono g.o.size))
     clear s H I
     go_wp2_with fail
     go_roundw
     case rel=>exact⟨d+1,by go_num,by omega,λi y hi u=>by
      rcases Nat.lt_or_ge i d with h | h
      ·exact F.o i y h u
      ·have:i=d:=by omega
       subst this
       rw[J.o] at u
       injection u with u
       subst u
       exact m.o,E⟩
     case measure=>simp[RowKit.intOf];omega
    ·have m:=hI (fU F.o J.o f)
     rw[f] at C
     clear f
     go_wp2_with fail
     refine C.o.mono ?_
     rintro e Y ⟨rfl,s⟩
     have E:=hI (Below.trans g.o (s.mono g.o.size))
     clear s H I
     go_wp2_with fail
     go_ret
     exact⟨by rw[m.o];rfl,E.o⟩
  ·have m:=hI (e8 (p:=p) (xs:=xs) (λi x hi=>F.o i x (by have:=(lE hi).1;omega) hi))
   go_wp2_with fail
   go_ret
   exact⟨by rw[m.o];rfl,g.o⟩
theorem pP {α : Type} (R:List Value->α->Prop) (p : α->Bool) (A:Option Addr) (h:Nat) (xs:List α) (d:FuncId) (i:∀g W,(callFunc d g).run prog W=.ok (.enter d g) W) (f:Array Value) (w:World) (l:aH w w.heap.size 2 R (.slice A xs.length h) xs) (m:∀(w1:World),Below w.heap.size w w1->∀(x : α) (cs:List Value),x∈xs->R cs x->Calls prog d (#[.agg ⟨cs⟩]++f) w1 (aM (.bool (p x)) w1)) : Calls prog 81 #[.slice A xs.length h,.func (.func d) #[] f] w (aM (.bool (xs.any p)) w):=by have q:=hI (sW R p A h xs d i f w l m);have r:=hI (fV p xs);clear l m i;go_enter func81,ntmps81;go_wp2_with fail;refine q.o.mono ?_;rintro e w1 ⟨rfl,j⟩;have s:=hI j;clear j;go_wp2_with fail;go_ret;exact⟨by rw[r.o];rfl,s.o⟩
theorem rX {α : Type} (R:List Value->α->Prop) (p : α->Bool) (A:Option Addr) (l:Nat) (xs:List α) (m:FuncId) (a3:∀z W,(callFunc m z).run prog W=.ok (.enter m z) W) (C:Array Value) (w:World) (G:aH w w.heap.size 3 R (.slice A xs.length l) xs) (O:∀(w1:World),Below w.heap.size w w1->∀(x : α) (cs:List Value),x∈xs->R cs x->Calls prog m (#[.agg ⟨cs⟩]++C) w1 (aM (.bool (p x)) w1)) : Calls prog 129 #[.slice A xs.length l,.func (.func m) #[] C] w (aM (.int .i64 (jU p xs)) w):=by
 have S:=hI G;have V:=hI O;have hl:xs.length<=l/\l<=maxLen:=by obtain⟨A',c',e,X,Y,-⟩:=G;injection e with _ _ e3;subst e3;exact⟨X,Y⟩
 obtain⟨a2,L⟩:=hl;unfold maxLen at L;clear G O;go_enter func129,ntmps129;go_wp2_with fail;go_loopw [8] (λk wr=>∃d:Nat,k=.int .i64 d/\d<=xs.length/\Hid (∀i x,i<d->xs[i]? = some x->p x=false)/\Hid (Below w.heap.size w wr)) (λk _=>xs.length - (RowKit.intOf k).toNat);case atStart=>exact⟨0,rfl,by omega,λi x hi _=>by omega,Below.refl _ _⟩
 case round=>
  obtain⟨d,rfl,hk,F,g⟩:=hrel
  by_cases P:d<xs.length
  ·obtain⟨b,r,x,cs,rfl,hb,s,M,N,j⟩:=S.o.at_ P
   match cs,M with
   | [c0,c1,c2],_=>
    have a1:(d:Int)<xs.length:=by omega
    have H:wr.cell? ⟨b,r+d*3,none⟩=some c0:=(g.o.cell hb).trans (j 0 _ rfl)
    have I:wr.cell? ⟨b,r+d*3+1,none⟩=some c1:=(g.o.cell hb).trans (j 1 _ rfl)
    have J:wr.cell? ⟨b,r+d*3+2,none⟩=some c2:=(g.o.cell hb).trans (j 2 _ rfl)
    have D:=hI (V.o wr g.o x _ (lM s) N)
    have K:=hI s
    clear s j N
    cases f:p x
    ·have q:=hI f
     rw[f] at D
     clear f
     go_wp2_with fail
     refine D.o.mono ?_
     rintro e Z ⟨rfl,u⟩
     have E:=hI (Below.trans g.o (u.mono g.o.size))
     clear u H I J
     go_wp2_with fail
     go_roundw
     case rel=>exact⟨d+1,by go_num,by omega,λi y hi v=>by
      rcases Nat.lt_or_ge i d with h | h
      ·exact F.o i y h v
      ·have:i=d:=by omega
       subst this
       rw[K.o] at v
       injection v with v
       subst v
       exact q.o,E⟩
     case measure=>simp[RowKit.intOf];omega
    ·have q:=hI (fU F.o K.o f)
     rw[f] at D
     clear f
     go_wp2_with fail
     refine D.o.mono ?_
     rintro e Z ⟨rfl,u⟩
     have E:=hI (Below.trans g.o (u.mono g.o.size))
     clear u H I J
     go_wp2_with fail
     go_ret
     exact⟨by rw[q.o];rfl,E.o⟩
  ·have q:=hI (e8 (p:=p) (xs:=xs) (λi x hi=>F.o i x (by have:=(lE hi).1;omega) hi))
   go_wp2_with fail
   go_ret
   exact⟨by rw[q.o];rfl,g.o⟩
theorem oP {α : Type} (R:List Value->α->Prop) (p : α->Bool) (A:Option Addr) (h:Nat) (xs:List α) (d:FuncId) (i:∀g W,(callFunc d g).run prog W=.ok (.enter d g) W) (f:Array Value) (w:World) (l:aH w w.heap.size 3 R (.slice A xs.length h) xs) (m:∀(w1:World),Below w.heap.size w w1->∀(x : α) (cs:List Value),x∈xs->R cs x->Calls prog d (#[.agg ⟨cs⟩]++f) w1 (aM (.bool (p x)) w1)) : Calls prog 89 #[.slice A xs.length h,.func (.func d) #[] f] w (aM (.bool (xs.any p)) w):=by have q:=hI (rX R p A h xs d i f w l m);have r:=hI (fV p xs);clear l m i;go_enter func89,ntmps89;go_wp2_with fail;refine q.o.mono ?_;rintro e w1 ⟨rfl,j⟩;have s:=hI j;clear j;go_wp2_with fail;go_ret;exact⟨by rw[r.o];rfl,s.o⟩
end
section
structure FnM where
 regs:Int
 len:Int
def nQ (ins:List bG) (v:Int):Int:=((ins[v.toNat]?).map (·.op)).getD 0
def fF (ins:List bG) (v at_:Int):Bool:=decide (0<=v) && decide (v<at_) && decide (v<ins.length) && iC (nQ ins v)
def gT (ins:List bG) (l:List Int) (at_:Int):Bool:=l.all (fF ins · at_)
def nD (ins:List bG) (m:fZ) (at_:Int):Bool:=
 fF ins m.cell at_ && nQ ins m.cell == 18 && !(decide (m.kind<1) || decide (3<m.kind) || decide (m.num<0) || (decide (0<m.num) && m.kind != 1)) &&
 decide (m.vals.length<=100) && gT ins m.vals at_
def nC (regs:Int) (ins:List bG) (at_:Int):Int->List pS->Bool
 | _,[]=>true
 | last,s::l=>decide (last<s.reg) && decide (s.reg<regs) && fF ins s.val at_ && nC regs ins at_ s.reg l
def iE (ins:List bG) (at_:Int):Int->List fZ->Bool
 | _,[]=>true
 | last,m::l=>decide (last<m.cell) && nD ins m at_ && iE ins at_ m.cell l
def bR (fn:FnM) (ins:List bG) (x:cW) (at_:Int):Bool:=
 !(decide (x.at_<0) || decide (fn.len<=x.at_) || decide (x.steps<0) || decide (200<x.steps)) && nC fn.regs ins at_ (-1) x.sets && iE ins at_ (-1) x.makes
def eW (x:bG) (k:Nat) (v:Int):Bool:=
 if k == 1 && (x.op == 19 || (x.op == 9 && x.n == 1)) then decide (0<=v) else v == -1
def eO (x:bG) (f:Form):Bool:=
 (decide (0<f.asks) || eW x 0 x.a) && (decide (1<f.asks) || eW x 1 x.b) && (decide (2<f.asks) || eW x 2 x.c)
def eY (aG:Val->Bool) (fn:FnM) (t:aN) (x:bG) (at_:Int):Bool:=
 let f:=cF x.op
 gT t.ins (iU x) at_ && eO x f &&
 !(decide (x.n<f.low) || decide (f.high<x.n) || (x.op == 1 && decide (fn.regs<=x.n))) &&
 !((!f.k && x.k != ⟨0,0⟩) || (f.k && !aG x.k) || (x.op == 2 && x.k.kind == 5)) &&
 (if f.exit == 0 || (f.exit == 1 && x.exit == -1) then x.exit == -1
 else decide (0<=x.exit) && decide (x.exit<t.exits.length) && (t.exits[x.exit.toNat]?).any (bR fn t.ins · at_))
def rO (aG:Val->Bool) (fn:FnM) (t:aN):Nat->List bG->Int
 | _,[]=>0
 | i,x::l=>if !lU x.op then 7 else if !eY aG fn t x i then 3 else rO aG fn t (i+1) l
def lT (x:cW):Bool:=x.at_ == 0 && x.steps == 0 && x.sets.isEmpty && x.makes.isEmpty
def fA (aG:Val->Bool) (ce:Int) (fns:List FnM) (t:aN):Int:=
 if ce≠0 then ce else
 if 300<t.ins.length\/200<t.exits.length then 2 else
 match if t.fn<0 then none else fns[t.fn.toNat]? with
 | none=>3
 | some fn=>
  if t.at_<0\/fn.len<=t.at_\/t.loop<0\/(t.ins.length:Int)<t.loop then 3 else
  let e:=rO aG fn t 0 t.ins
  if e≠0 then e else
  if(t.loop=0/\lT t.turn=false)\/(0<t.loop/\(t.turn.at_≠t.at_\/bR fn t.ins t.turn t.loop=false)) then 3 else
  if t.back.at_≠t.at_\/bR fn t.ins t.back t.ins.length=false then 3 else
  if t.exits.all (bR fn t.ins · t.ins.length) then 0 else 3
theorem fQ {aG:Val->Bool} {fn:FnM} {t:aN} : ∀(l:List bG) (i:Nat),rO aG fn t i l=0->∀k x,l[k]? = some x->lU x.op=true/\eY aG fn t x ((i+k:Nat):Int)=true
 | [],_,_,_,_,hx=>by simp at hx
 | y::l,i,h,k,x,hx=>by
  unfold rO at h
  split at h
  ·cases h
  split at h
  ·cases h
  rename_i d e
  cases k with
  | zero=>
   simp only[List.getElem?_cons_zero,Option.some.injEq] at hx
   subst hx
   exact⟨by simpa using d,by simpa using e⟩
  | succ k=>
   have:=fQ l (i+1) h k x (by simpa using hx)
   rwa [show i+1+k=i+(k+1) by omega] at this
theorem nX {aG:Val->Bool} {e:Int} {fns:List FnM} {t:aN} (h:fA aG e fns t=0) : t.ins.length<=300/\∃fn,rO aG fn t 0 t.ins=0:=by
 unfold fA at h;split at h;·omega
 split at h;·cases h
 split at h;·cases h
 split at h;·cases h
 rename_i fn _ _;simp only at h;split at h;·rename_i d;exact(d h).elim
 ·rename_i d;exact⟨by omega,fn,by simpa using d⟩
theorem oS {aG:Val->Bool} {l:Int} {fns:List FnM} {t:aN} (h:fA aG l fns t=0) {i:Nat} {x:bG} (m:t.ins[i]? = some x) : ∀v∈iU x,0<=v/\v<i/\v<t.ins.length/\iC (nQ t.ins v)=true:=by obtain⟨_,fn,g⟩:=nX h;obtain⟨_,f⟩:=fQ t.ins 0 g i x m;simp only[eY,Bool.and_eq_true,Nat.zero_add] at f;intro v j;have e:=f.1.1.1.1;unfold gT at e;have d:=List.all_eq_true.1 e v j;simp only[fF,Bool.and_eq_true,decide_eq_true_eq] at d;exact⟨d.1.1.1,d.1.1.2,d.1.2,d.2⟩
end
section
structure hV where
 U:Int->Val->Val×Int
 B:Int->Val->Val->Val×Int
 T:Val->Bool
structure aI where
 cells:List bC
 vals:List Val
 regs:List Val
 at_:Int
 steps:Int
def jE (t:aN) (i:Int):bG:=(t.ins[i.toNat]?).getD ⟨0,0,0,0,0,0,⟨0,0⟩⟩
def cX (w:aI) (v:Int):Val:=(w.vals[v.toNat]?).getD ⟨0,0⟩
def eF (w:aI) (v:Int):Option (Nat×bC):=
 if(cX w v).kind=5/\0<=(cX w v).n then(w.cells[(cX w v).n.toNat]?).map (λc=>((cX w v).n.toNat,c)) else none
def fS (w:aI) (i:Nat) (v:Val):aI:={ w with vals:=w.vals.set i v }
def setCW (w:aI) (n:Nat) (c:bC):aI:={ w with cells:=w.cells.set n c }
def dX (w:aI) (i:Nat) (kind:Int):aI×Int:=
 if 300<=w.cells.length then(w,1) else({ w with vals:=w.vals.set i ⟨5,w.cells.length⟩,cells:=w.cells++[⟨kind,0,[],[]⟩] },0)
def isW (b:Bool) (how:Int):Int:=if b then 0 else how
def iY (E:hV) (w:aI) (x:bG):Bool:=
 if x.op=4 then(cX w x.a).kind == x.n
 else if x.op=5 then E.T (cX w x.a) == (x.n == 1)
 else if x.op=6 then decide (cX w x.a=x.k)
 else match eF w x.a with | none=>false | some (_,c)=>c.kind == x.n && (x.n != 1 || c.num == x.b)
def iQ (w:aI) (i:Nat) (exit:Int) (r:Val×Int):aI×Int:=(fS w i r.1,if r.2<0 then 0 else if exit<0 then 2 else 1)
def gW (w:aI) (i:Nat) (x:bG):aI×Int:=
 match eF w x.a with
 | none=>(w,2)
 | some (n,c)=>
  if x.op≠15/\(c.vals.length:Int)<=x.n then(w,2)
  else if x.op=10 then(fS w i (c.vals.getD x.n.toNat ⟨0,0⟩),0)
  else if x.op=11 then(setCW w n { c with vals:=c.vals.set x.n.toNat (cX w x.b) },0)
  else(fS w i ⟨2,c.vals.length⟩,0)
def jT (shapes:List aT) (w:aI) (x:bG):aI×Int:=
 match eF w x.a with
 | none=>(w,2)
 | some (n,c)=>
  if c.kind≠1 then(w,2)
  else match shapes[x.n.toNat]? with
   | none=>(w,1)
   | some s=>if s.up≠c.num\/100<=c.vals.length then(w,1) else(setCW w n { c with num:=x.n,vals:=c.vals++[cX w x.b] },0)
def iT (w:aI) (x:bG):aI×Int:=
 match eF w x.a with
 | none=>(w,2)
 | some (n,c)=>
  if c.kind≠2/\c.kind≠3 then(w,2)
  else if c.vals.length<100 then(setCW w n { c with vals:=c.vals++[cX w x.b] },0)
  else if x.exit<0 then(w,2) else(w,1)
def lP (w:aI) (i:Nat) (x:bG):aI×Int:=
 match eF w x.a with
 | none=>(w,2)
 | some (n,c)=>
  if c.kind≠2 then(w,2)
  else if ¬((cX w x.b).kind=2/\0<=(cX w x.b).n/\(cX w x.b).n<c.vals.length) then(w,1)
  else if x.op=13 then(fS w i (c.vals.getD (cX w x.b).n.toNat ⟨0,0⟩),0)
  else(setCW w n { c with vals:=c.vals.set (cX w x.b).n.toNat (cX w x.c) },0)
def doI (E:hV) (self:Val) (shapes:List aT) (w:aI) (i:Nat) (x:bG):aI×Int:=
 if x.op=1 then(fS w i (w.regs.getD x.n.toNat ⟨0,0⟩),0)
 else if x.op=2 then(fS w i x.k,0)
 else if x.op=3 then(fS w i self,0)
 else if x.op=4\/x.op=5\/x.op=6\/x.op=9 then(w,isW (iY E w x) 1)
 else if x.op=7 then iQ w i x.exit (E.B x.n (cX w x.a) (cX w x.b))
 else if x.op=8 then iQ w i x.exit (E.U x.n (cX w x.a))
 else if x.op=10\/x.op=11\/x.op=15 then gW w i x
 else if x.op=12 then jT shapes w x
 else if x.op=13\/x.op=14 then lP w i x
 else if x.op=16 then dX w i x.n
 else if x.op=17 then iT w x
 else if x.op=19 then(w,isW (match shapes[x.n.toNat]? with | none=>false | some s=>s.up == x.b) 1)
 else dX w i 0
def doW (E:hV) (t:aN) (self:Val) (shapes:List aT) (w:aI) (i:Nat):aI×Int:=doI E self shapes w i (jE t i)
def fP (w:aI) (m:fZ):aI×Int:=
 match eF w m.cell with
 | none=>(w,2)
 | some (n,c)=>if c.kind≠0 then(w,2) else(setCW w n ⟨m.kind,m.num,m.vals.map (cX w),[]⟩,0)
def eK:aI->List fZ->aI×Int
 | w,[]=>(w,0)
 | w,m::l=>if(fP w m).2≠0 then fP w m else eK (fP w m).1 l
def fN (w:aI) (l:List pS):aI:=l.foldl (λw s=>{ w with regs:=w.regs.set s.reg.toNat (cX w s.val) }) w
def iG (w:aI) (x:cW):aI×Int:=
 if(eK w x.makes).2≠0 then eK w x.makes
 else({ fN (eK w x.makes).1 x.sets with at_:=x.at_,steps:=(fN (eK w x.makes).1 x.sets).steps+x.steps },0)
def dM (E:hV) (t:aN) (self:Val) (shapes:List aT) (fin:cW):Nat->Nat->aI->aI×Int×Int
 | 0,_,w=>((iG w fin).1,-1,(iG w fin).2)
 | k+1,i,w=>
  if(doW E t self shapes w i).2=2 then((doW E t self shapes w i).1,0,2)
  else if(doW E t self shapes w i).2=1 then
   match t.exits[(jE t i).exit.toNat]? with
   | none=>((doW E t self shapes w i).1,(jE t i).exit,2)
   | some x=>((iG (doW E t self shapes w i).1 x).1,(jE t i).exit,(iG (doW E t self shapes w i).1 x).2)
  else dM E t self shapes fin k (i+1) (doW E t self shapes w i).1
def dN (E:hV) (t:aN) (self:Val) (shapes:List aT) (done:Nat) (w:aI):aI×Int×Int:=
 if done=0/\0<t.loop then dM E t self shapes t.turn t.loop.toNat 0 w
 else dM E t self shapes t.back (t.ins.length - t.loop.toNat) t.loop.toNat w
def bQ (E:hV) (t:aN) (self:Val) (shapes:List aT):Nat->Nat->aI->aI×Int×Int×Int
 | 0,done,w=>(w,-1,(done:Int),0)
 | k+1,done,w=>
  let r:=dN E t self shapes done w
  if r.2.2=2\/0<=r.2.1 then(r.1,r.2.1,(done:Int),r.2.2)
  else bQ E t self shapes k (done+1) r.1
def gV (t:aN) (S:aR) (th:Int):Bool:=
 if th<0 then false else match S.threads[th.toNat]? with
 | none=>false
 | some h=>match h.frames.getLast? with | none=>false | some f=>h.state == 0 && f.fn == t.fn && f.at_ == t.at_
def dL:aR:=⟨[],[],[],[],[],[],0,0⟩
def gX (S:aR) (th:Nat) (w:aI):aR:=
 match S.threads[th]? with
 | none=>S
 | some h=>match h.frames.getLast? with
  | none=>S
  | some f=>{ S with cells:=w.cells,steps:=S.steps+w.steps,threads:=S.threads.set th { h with frames:=h.frames.dropLast++[{ f with at_:=w.at_,regs:=w.regs }] } }
def cL (t:aN) (S:aR) (f:a8):aI:=⟨S.cells,List.replicate t.ins.length ⟨0,0⟩,f.regs,f.at_,0⟩
def mY (E:hV) (irc stc:Int) (t:aN) (S:aR) (th turns:Int):aR×Int×Int×Int:=
 if irc≠0 then(dL,0,0,irc)
 else if stc≠0 then(dL,0,0,stc)
 else match if th<0 then none else S.threads[th.toNat]? with
  | none=>(dL,0,0,5)
  | some h=>
   if gV t S th=false then(dL,0,0,8)
   else if turns<0\/1000<turns then(dL,0,0,1)
   else match h.frames.getLast? with
    | none=>(dL,0,0,8)
    | some f=>
     let r:=bQ E t f.self S.shapes turns.toNat 0 (cL t S f)
     if r.2.2.2=2 then(dL,0,0,8)
     else if 1000000000<S.steps+r.1.steps then(dL,0,0,2)
     else(gX S th.toNat r.1,r.2.1,r.2.2.1,0)
end
section
open Go.RowKit
theorem mT (n g hi:Int) (w:World):Calls prog 91 #[.int .i64 n,.int .i64 g,.int .i64 hi] w λe w'=>e=.returned (.bool (aK n g hi))/\w=w':=by
 unfold aK;obtain⟨r,f⟩:∃r:Bool,(decide (g<=n) && decide (n<=hi))=r:=⟨_,rfl⟩;rw[f];by_cases h:g<=n
 ·have d:decide (n<=hi)=r:=by rw[<-f];simp[h]
  have i:=hI d;clear f d;go_enter func91,ntmps91;go_wp2;go_ret;exact⟨by rw[<-i.o];rfl,rfl⟩
 ·have d:false=r:=by rw[<-f];simp[h]
  subst d;have j:decide (g<=n)=false:=by simpa using h
  clear f;go_enter func91,ntmps91;go_wp2;go_ret;exact⟨rfl,rfl⟩
theorem iD (n g hi:Int) (w:World):Calls prog 95 #[.int .i64 n,.int .i64 g,.int .i64 hi] w λe w'=>e=.returned (.bool (aK n g hi))/\w=w':=by
 unfold aK;obtain⟨r,f⟩:∃r:Bool,(decide (g<=n) && decide (n<=hi))=r:=⟨_,rfl⟩;rw[f];by_cases h:g<=n
 ·have d:decide (n<=hi)=r:=by rw[<-f];simp[h]
  have i:=hI d;clear f d;go_enter func95,ntmps95;go_wp2;go_ret;exact⟨by rw[<-i.o];rfl,rfl⟩
 ·have d:false=r:=by rw[<-f];simp[h]
  subst d;have j:decide (g<=n)=false:=by simpa using h
  clear f;go_enter func95,ntmps95;go_wp2;go_ret;exact⟨rfl,rfl⟩
theorem uV (b:Bool) (how:Int) (w:World):Calls prog 142 #[.bool b,.int .i64 how] w λe w'=>e=.returned (.int .i64 (isW b how))/\w=w':=by
 cases b;·go_enter func142,ntmps142;go_wp2;go_ret;exact⟨rfl,rfl⟩
 ·go_enter func142,ntmps142;go_wp2;go_ret;exact⟨rfl,rfl⟩
end
end Go.Proofs.YtjaphgpkkfdaaaaGreatDoor
