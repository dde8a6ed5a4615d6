/- Part of the walk of the given code: what a turn tells, and plain laws on it. -/
import Derived.Test.YtjaphgpkkfdaaaaGreatDoorZA
set_option maxHeartbeats 16000000
set_option maxRecDepth 100000
set_option linter.all false
namespace Go.Proofs.YtjaphgpkkfdaaaaGreatDoor
section
open Go.RowKit
theorem ahT (op:Int) (w:World):Calls Tryz.prog 35 #[.int .i64 op] w fun e w'=>e=.returned (.bool (uX op))∧w'=w:=by
 unfold uX
 by_cases h:op=16
 ·subst h
  go_enter Tryz.func35,Tryz.ntmps35
  go_wp2
  go_ret
  exact⟨rfl,rfl⟩
 ·have h1:(op == 16)=false:=by simpa using h
  clear h
  go_enter Tryz.func35,Tryz.ntmps35
  go_wp2
  go_ret
  exact⟨by rw[h1];rfl,rfl⟩
theorem ahZ (op:Int) (w:World):Calls Tryz.prog 36 #[.int .i64 op] w fun e w'=>e=.returned (.bool (beforeM op))∧w'=w:=by
 unfold beforeM
 by_cases h:op=1
 ·subst h
  go_enter Tryz.func36,Tryz.ntmps36
  go_wp2
  go_ret
  exact⟨rfl,rfl⟩
 by_cases h':op=2
 ·subst h'
  go_enter Tryz.func36,Tryz.ntmps36
  go_wp2
  go_ret
  exact⟨rfl,rfl⟩
 ·have h1:(op == 1)=false:=by simpa using h
  have h2:(op == 2)=false:=by simpa using h'
  clear h h'
  go_enter Tryz.func36,Tryz.ntmps36
  go_wp2
  go_ret
  exact⟨by rw[h1,h2];rfl,rfl⟩
theorem aiB (xs:List bG) (loop a b:Int) (h:a≤b) (h0:a<0):sG xs loop a b=false:=by
 unfold sG
 rw[Int.min_eq_left h,Int.max_eq_right h]
 simp[h0]
theorem aiN (xs:List bG) (loop a b:Int) (h:a≤b) (h0:(xs.length:Int)≤b):sG xs loop a b=false:=by
 unfold sG
 rw[Int.min_eq_left h,Int.max_eq_right h]
 simp[h0]
theorem ah8 (xs:List bG) (loop a:Int):sG xs loop a a=false:=apartM_self xs loop a
theorem aiO (xs:List bG) (loop:Int) (a b:Nat) (h2:a<b) (h1:b<xs.length) (x y:bG) (hx:xs[a]? = some x) (hy:xs[b]? = some y) :
  sG xs loop a b=(if !iC x.op || !iC y.op then false else if(a:Int)<loop && loop≤(b:Int) then uX x.op && uX y.op else uX y.op || (uX x.op && beforeM y.op)):=by
 unfold sG
 rw[Int.min_eq_left (by omega),Int.max_eq_right (by omega)]
 simp only[Int.toNat_natCast,hx,hy,Option.map_some,Option.getD_some]
 rw[if_neg (by simp;omega)]
theorem Below.drewN_ {B:Nat} {a w:World} (h:Below B a w) (n:Nat):Below B a (w.drewN n):=⟨h.os,h.tape,h.output,h.size,h.block⟩
theorem ah7 (fn at_ loop a b p q:Int) (A:Option Addr) (cap:Nat) (v4 v5 v6 v7 v8 v9 v10 v11 v12:Value) (xs:List bG) (w:World) (h:aH w w.heap.size 8 wR (.slice A xs.length cap) xs) (hab:a≤b)
  (hpq:(p=a∧q=b)∨(p=b∧q=a∧a<b)) :
  Calls Tryz.prog 22 #[.agg #[.int .i64 fn,.int .i64 at_,.int .i64 loop,.slice A xs.length cap,v4,v5,v6,v7,v8,v9,v10,v11,v12],.int .i64 p,.int .i64 q] w (aM (.bool (sG xs loop a b)) w):=by
 have HS:=hI h
 clear h
 by_cases h0:a<0
 ·have HE:=hI (aiB xs loop a b hab h0)
  rcases hpq with ⟨rfl,rfl⟩ | ⟨rfl,rfl,hlt⟩
  all_goals
   go_enter Tryz.func22,Tryz.ntmps22
   go_wp2_with fail
  all_goals
   go_ret
   exact⟨by rw[HE.out];rfl,(Below.refl _ _).alloc (Nat.le_refl _) _⟩
 by_cases h1:(xs.length:Int)≤b
 ·have HE:=hI (aiN xs loop a b hab h1)
  rcases hpq with ⟨rfl,rfl⟩ | ⟨rfl,rfl,hlt⟩
  all_goals
   go_enter Tryz.func22,Tryz.ntmps22
   go_wp2_with fail
  all_goals
   go_ret
   exact⟨by rw[HE.out];rfl,(Below.refl _ _).alloc (Nat.le_refl _) _⟩
 by_cases h2:a=b
 ·subst h2
  have HE:=hI (ah8 xs loop a)
  obtain⟨rfl,rfl⟩:p=a∧q=a:=by omega
  clear hpq
  go_enter Tryz.func22,Tryz.ntmps22
  go_wp2_with fail
  all_goals
   go_ret
   exact⟨by rw[HE.out];rfl,(Below.refl _ _).alloc (Nat.le_refl _) _⟩
 ·obtain⟨an,rfl⟩:∃n:Nat,a=n:=⟨a.toNat,by omega⟩
  obtain⟨bn,rfl⟩:∃n:Nat,b=n:=⟨b.toNat,by omega⟩
  have hlt:an<bn:=by omega
  have hbn:bn<xs.length:=by omega
  have hab1:(an:Int)<bn:=by omega
  have hbn1:(bn:Int)<xs.length:=by omega
  have han1:(an:Int)<xs.length:=by omega
  have hne:((an:Int) == (bn:Int))=false:=by simp;omega
  have hne2:((bn:Int) == (an:Int))=false:=by simp;omega
  obtain⟨blk,off,x,rfl,hb,hx,_,hcx⟩:=rN HS.out (i:=an) (by omega)
  obtain⟨blk',off',y,hA,hb',hy,_,hcy⟩:=rN HS.out (i:=bn) (by omega)
  injection hA with hA
  injection hA with hA1 hA2
  subst hA1;subst hA2
  have HE:=hI (aiO xs loop an bn hlt hbn x y hx hy)
  have FX:∀w',Below (w.heap.size+1) (w.alloc (.cells #[.int .i64 fn,.int .i64 at_,.int .i64 loop,.slice (some ⟨blk,off,none⟩) xs.length cap,v4,v5,v6,v7,v8,v9,v10,v11,v12] 34)) w'→
    w'.cell? ⟨w.heap.size,2,none⟩=some (.int .i64 loop)∧w'.cell? ⟨w.heap.size,3,none⟩=some (.slice (some ⟨blk,off,none⟩) xs.length cap)∧
    w'.cell? ⟨blk,off+an*8,none⟩=some (.int .i64 x.op)∧w'.cell? ⟨blk,off+bn*8,none⟩=some (.int .i64 y.op)∧w.heap.size<w'.heap.size:=fun w' hw=>by
   refine⟨(hw.cell (p:=⟨w.heap.size,2,none⟩) (by simp)).trans (World.cell?_alloc_at _ _ _ _ rfl),(hw.cell (p:=⟨w.heap.size,3,none⟩) (by simp)).trans (World.cell?_alloc_at _ _ _ _ rfl),
    (hw.cell (p:=⟨blk,off+an*8,none⟩) (by simp;omega)).trans ((World.cell?_alloc_lt _ _ _ hb).trans (by simpa using hcx 0 _ rfl)),
    (hw.cell (p:=⟨blk,off+bn*8,none⟩) (by simp;omega)).trans ((World.cell?_alloc_lt _ _ _ hb).trans (by simpa using hcy 0 _ rfl)),?_⟩
   have:=hw.size;simp at this;omega
  have FX':=hI FX
  have c3:w.cell? ⟨blk,off+an*8,none⟩=some (.int .i64 x.op):=by simpa using hcx 0 _ rfl
  have c4:w.cell? ⟨blk,off+bn*8,none⟩=some (.int .i64 y.op):=by simpa using hcy 0 _ rfl
  have TX:=hI (fun w'=>uK x.op w')
  have TY:=hI (fun w'=>uK y.op w')
  clear FX hx hy hcx hcy hb' h2 h0 h1
  have B0:=hI ((Below.refl w.heap.size w).alloc (Nat.le_refl _) (.cells #[.int .i64 fn,.int .i64 at_,.int .i64 loop,.slice (some ⟨blk,off,none⟩) xs.length cap,v4,v5,v6,v7,v8,v9,v10,v11,v12] 34))
  have S0:(w.alloc (.cells #[.int .i64 fn,.int .i64 at_,.int .i64 loop,.slice (some ⟨blk,off,none⟩) xs.length cap,v4,v5,v6,v7,v8,v9,v10,v11,v12] 34)).heap.size=w.heap.size+1:=by simp
  have S0':=hI S0
  clear S0
  rcases hpq with ⟨rfl,rfl⟩ | ⟨rfl,rfl,_⟩
  all_goals
   by_cases tx:iC x.op=true
   ·go_enter Tryz.func22,Tryz.ntmps22
    go_wp2_with fail
    refine(TX.out _).mono ?_
    rw[tx]
    rintro e w2 ⟨rfl,b2⟩
    have b2':=b2.mono (Nat.le_of_eq S0'.out.symm)
    have B2:=hI (B0.out.trans (b2.mono (by rw[S0'.out];omega)))
    obtain⟨d1,d2,d3,d4,d5⟩:=FX'.out w2 b2'
    have M2:=hI b2'
    clear b2 b2'
    by_cases ty:iC y.op=true
    ·go_wp2_with fail
     refine(TY.out _).mono ?_
     rw[ty]
     rintro e w3 ⟨rfl,b3⟩
     have M3:=hI (M2.out.trans (b3.mono d5))
     have B3:=hI (B2.out.trans (b3.mono (Nat.le_of_lt d5)))
     clear b3 d1 d2 d3 d4
     obtain⟨d1,d2,d3,d4,d6⟩:=FX'.out w3 M3.out
     go_wp2_with fail
     go_quiet (fail)
     have HF:=hI (Below.drewN_ B3.out nq)
     by_cases hs:(an:Int)<loop∧loop≤(bn:Int)
     ·obtain⟨hs1,hs2⟩:=hs
      cases fx:uX x.op
      ·go_wp2_with (go_at_call 35;refine(ahT _ _).mono ?_;rintro e w' ⟨rfl,rfl⟩)
       go_ret
       exact⟨by rw[HE.out,tx,ty];simp[hs1,hs2,fx],HF.out⟩
      ·cases fy:uX y.op
       all_goals
        go_wp2_with (go_at_call 35;refine(ahT _ _).mono ?_;rintro e w' ⟨rfl,rfl⟩)
        go_ret
        exact⟨by rw[HE.out,tx,ty];simp[hs1,hs2,fx,fy],HF.out⟩
     ·have hs':(decide ((an:Int)<loop) && decide (loop≤(bn:Int)))=false:=by
       simp only[Bool.and_eq_false_iff,decide_eq_false_iff_not]
       by_cases hc:(an:Int)<loop
       ·exact .inr (fun h=>hs ⟨hc,h⟩)
       ·exact .inl hc
      have HS':=hI hs'
      clear hs'
      by_cases hc:(an:Int)<loop
      ·have hd:¬loop≤(bn:Int):=fun h=>hs ⟨hc,h⟩
       clear hs
       cases fy:uX y.op
       ·cases fx:uX x.op
        ·go_wp2_with (first | (go_at_call 35;refine(ahT _ _).mono ?_;rintro e w' ⟨rfl,rfl⟩) | (go_at_call 36;refine(ahZ _ _).mono ?_;rintro e w' ⟨rfl,rfl⟩))
         go_ret
         exact⟨by rw[HE.out,tx,ty];simp[HS'.out,fx,fy],HF.out⟩
        ·cases by_:beforeM y.op
         all_goals
          go_wp2_with (first | (go_at_call 35;refine(ahT _ _).mono ?_;rintro e w' ⟨rfl,rfl⟩) | (go_at_call 36;refine(ahZ _ _).mono ?_;rintro e w' ⟨rfl,rfl⟩))
          go_ret
          exact⟨by rw[HE.out,tx,ty];simp[HS'.out,fx,fy,by_],HF.out⟩
       ·go_wp2_with (go_at_call 35;refine(ahT _ _).mono ?_;rintro e w' ⟨rfl,rfl⟩)
        go_ret
        exact⟨by rw[HE.out,tx,ty];simp[HS'.out,fy],HF.out⟩
      ·clear hs
       cases fy:uX y.op
       ·cases fx:uX x.op
        ·go_wp2_with (first | (go_at_call 35;refine(ahT _ _).mono ?_;rintro e w' ⟨rfl,rfl⟩) | (go_at_call 36;refine(ahZ _ _).mono ?_;rintro e w' ⟨rfl,rfl⟩))
         go_ret
         exact⟨by rw[HE.out,tx,ty];simp[HS'.out,fx,fy],HF.out⟩
        ·cases by_:beforeM y.op
         all_goals
          go_wp2_with (first | (go_at_call 35;refine(ahT _ _).mono ?_;rintro e w' ⟨rfl,rfl⟩) | (go_at_call 36;refine(ahZ _ _).mono ?_;rintro e w' ⟨rfl,rfl⟩))
          go_ret
          exact⟨by rw[HE.out,tx,ty];simp[HS'.out,fx,fy,by_],HF.out⟩
       ·go_wp2_with (go_at_call 35;refine(ahT _ _).mono ?_;rintro e w' ⟨rfl,rfl⟩)
        go_ret
        exact⟨by rw[HE.out,tx,ty];simp[HS'.out,fy],HF.out⟩
    ·have ty':iC y.op=false:=by simpa using ty
     go_wp2_with fail
     refine(TY.out _).mono ?_
     rw[ty']
     rintro e w3 ⟨rfl,b3⟩
     have B3:=hI (B2.out.trans (b3.mono (Nat.le_of_lt d5)))
     clear b3
     go_wp2_with fail
     go_ret
     exact⟨by rw[HE.out,tx,ty'];rfl,B3.out⟩
   ·have tx':iC x.op=false:=by simpa using tx
    go_enter Tryz.func22,Tryz.ntmps22
    go_wp2_with fail
    refine(TX.out _).mono ?_
    rw[tx']
    rintro e w2 ⟨rfl,b2⟩
    have B2:=hI (B0.out.trans (b2.mono (by rw[S0'.out];omega)))
    clear b2
    go_wp2_with fail
    go_ret
    exact⟨by rw[HE.out,tx'];rfl,B2.out⟩
theorem apart_c (fn at_ loop p q:Int) (A:Option Addr) (cap:Nat) (v4 v5 v6 v7 v8 v9 v10 v11 v12:Value) (xs:List bG) (w:World) (h:aH w w.heap.size 8 wR (.slice A xs.length cap) xs) :
  Calls Tryz.prog 22 #[.agg #[.int .i64 fn,.int .i64 at_,.int .i64 loop,.slice A xs.length cap,v4,v5,v6,v7,v8,v9,v10,v11,v12],.int .i64 p,.int .i64 q] w (aM (.bool (sG xs loop p q)) w):=by
 by_cases hpq:p≤q
 ·exact ah7 fn at_ loop p q p q A cap v4 v5 v6 v7 v8 v9 v10 v11 v12 xs w h hpq (.inl ⟨rfl,rfl⟩)
 ·rw[apartM_symm]
  exact ah7 fn at_ loop q p p q A cap v4 v5 v6 v7 v8 v9 v10 v11 v12 xs w h (by omega) (.inr ⟨rfl,rfl,by omega⟩)
end
end Go.Proofs.YtjaphgpkkfdaaaaGreatDoor
