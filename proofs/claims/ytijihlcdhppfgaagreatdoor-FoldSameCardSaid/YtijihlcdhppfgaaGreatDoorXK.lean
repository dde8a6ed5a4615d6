/- Part of the walk of the given code: contracts, and plain laws. -/
import Derived.Test.YtijihlcdhppfgaaGreatDoorZM
import Derived.Test.YtijihlcdhppfgaaGreatDoorXR
set_option maxHeartbeats 16000000
set_option maxRecDepth 100000
set_option linter.all false
namespace Go.Proofs.YtijihlcdhppfgaaGreatDoor
section
open Go.RowKit
theorem own_c (ca:List Value) (t:aH) (k:Nat) (x:aT) (w:World) (h:bI w w.heap.size ca t) (hx:t.ins[k]? = some x)
  (hk:∀w1,Below w.heap.size w w1→Calls Tryz.prog 97 #[.agg ⟨ca⟩,.int .i64 x.a,.int .i64 k] w1 (aK (.int .i64 (kindM t.ins x.a k)) w1)) :
  Calls Tryz.prog 163 #[.agg ⟨ca⟩,.int .i64 k] w (aK (.int .i64 (ownM (kindM t.ins · k) x)) w):=by
 obtain⟨r,hr⟩:∃r,ownM (kindM t.ins · k) x=r:=⟨_,rfl⟩
 rw[hr]
 unfold ownM at hr
 dsimp only at hr
 have HI:=hI h.size13
 obtain⟨Ai,ni,p3,q⟩:=h.at3
 have ll:=aM q
 have hlt:k<t.ins.length:=(lE hx).1
 obtain⟨b,off,y,rfl,hb,hy,wy,hat⟩:=tN q hlt
 rw[hx] at hy
 obtain rfl:x=y:=by injection hy
 have hk1:(k:Int)<t.ins.length:=by omega
 obtain⟨op,xa,xb,xc,xn,xe,⟨kk,kn⟩⟩:=x
 have K2:Hid (Below w.heap.size w ((w.alloc (.cells ⟨ca⟩ 34)).alloc (.cells #[.int .i64 op,.int .i64 xa,.int .i64 xb,.int .i64 xc,.int .i64 xn,.int .i64 xe,.int .i64 kk,.int .i64 kn] 53))):=bV w _ _
 have H0:Hid (aJ ((w.alloc (.cells ⟨ca⟩ 34)).alloc (.cells #[.int .i64 op,.int .i64 xa,.int .i64 xb,.int .i64 xc,.int .i64 xn,.int .i64 xe,.int .i64 kk,.int .i64 kn] 53)) w.heap.size ca):=(nR w ca _ _ _).1
 obtain⟨g0,g1,g2,g3,g4,g5,g6,g7⟩:=adD hat hb (aA w (.cells ⟨ca⟩ 34))
 dsimp only at g0 g1 g2 g3 g4 g5 g6 g7 hr
 obtain⟨z,hz⟩:∃z,kindM t.ins xa k=z:=⟨_,rfl⟩
 simp only[hz] at hr
 have HK:Hid (Calls Tryz.prog 97 #[.agg ⟨ca⟩,.int .i64 xa,.int .i64 k] ((w.alloc (.cells ⟨ca⟩ 34)).alloc (.cells #[.int .i64 op,.int .i64 xa,.int .i64 xb,.int .i64 xc,.int .i64 xn,.int .i64 xe,.int .i64 kk,.int .i64 kn] 53)) (fun e w1=>e=.returned (.int .i64 z)∧Below w.heap.size w w1)):=(hk _ K2.out).mono fun e w1 ⟨h1,h2⟩=>⟨by rw[h1,←hz],K2.out.trans (h2.mono K2.out.size)⟩
 clear h q hat hx hy hk hz
 by_cases o2:op=2
 ·rw[if_pos o2] at hr
  subst o2
  have HR:=hI hr
  clear hr
  go_enter Tryz.func163,Tryz.ntmps163
  go_wp2_with fail
  go_ret
  exact⟨by rw[←HR.out];rfl,K2.out⟩
 rw[if_neg o2] at hr
 by_cases o15:op=15
 ·rw[if_pos o15] at hr
  subst o15
  have HR:=hI hr
  clear hr
  go_enter Tryz.func163,Tryz.ntmps163
  go_wp2_with fail
  go_ret
  exact⟨by rw[←HR.out];rfl,K2.out⟩
 rw[if_neg o15] at hr
 by_cases o16:op=16
 ·rw[if_pos o16] at hr
  subst o16
  have HR:=hI hr
  clear hr
  go_enter Tryz.func163,Tryz.ntmps163
  go_wp2_with fail
  go_ret
  exact⟨by rw[←HR.out];rfl,K2.out⟩
 rw[if_neg o16] at hr
 by_cases o18:op=18
 ·rw[if_pos o18] at hr
  subst o18
  have HR:=hI hr
  clear hr
  go_enter Tryz.func163,Tryz.ntmps163
  go_wp2_with fail
  go_ret
  exact⟨by rw[←HR.out];rfl,K2.out⟩
 rw[if_neg o18] at hr
 by_cases o7:op=7
 ·rw[if_pos (by omega)] at hr
  have hcl:((8≤xn∧xn≤10)∨¬(8≤xn∧xn≤10)):=Classical.em _
  rcases hcl with hc | hc
  ·rw[if_pos (by omega)] at hr
   subst o7
   obtain⟨c1,c2⟩:=hc
   have HR:=hI hr
   clear hr
   go_enter Tryz.func163,Tryz.ntmps163
   go_wp2_with fail
   go_ret
   exact⟨by rw[←HR.out];rfl,K2.out⟩
  ·rw[if_neg (by omega)] at hr
   subst o7
   have hs:(¬ 8≤xn∧xn≤10∧¬xn=11)∨(8≤xn∧¬xn≤10∧xn=11)∨(8≤xn∧¬xn≤10∧¬xn=11):=by omega
   have n11:xn=11∨(xn == 11)=false:=by
    by_cases h:xn=11
    ·exact .inl h
    ·exact .inr (beq_eq_false_iff_ne.2 h)
   clear hc
   rcases hs with hs | hs
   ·obtain⟨b1,b2,b3⟩:=hs
    clear n11
    have b3':(xn == 11)=false:=beq_eq_false_iff_ne.2 b3
    go_enter Tryz.func163,Tryz.ntmps163
    go_wp2_with (refine wpList_load_mid rfl 34 _ rfl w.heap.size 0 rfl ca _ H0.out.range Tryz.underlying34 rfl HI.out ?_)
    refine HK.out.mono ?_
    rintro e w1 ⟨rfl,k1⟩
    have K1:=hI k1
    clear k1
    by_cases z2:z=2
    ·subst z2
     have HR:=hI hr
     clear hr
     go_wp2_with fail
     go_ret
     exact⟨by rw[←HR.out];rfl,K1.out⟩
    by_cases z3:z=3
    ·subst z3
     have HR:=hI hr
     clear hr
     go_wp2_with fail
     go_ret
     exact⟨by rw[←HR.out];rfl,K1.out⟩
    rw[if_neg (by omega)] at hr
    have z2':(z == 2)=false:=beq_eq_false_iff_ne.2 z2
    have z3':(z == 3)=false:=beq_eq_false_iff_ne.2 z3
    have HR:=hI hr
    clear hr
    go_wp2_with fail
    go_ret
    exact⟨by rw[←HR.out];rfl,K1.out⟩
   rcases hs with hs | hs
   ·obtain⟨b1,b2,b3⟩:=hs
    clear n11
    subst b3
    go_enter Tryz.func163,Tryz.ntmps163
    go_wp2_with (refine wpList_load_mid rfl 34 _ rfl w.heap.size 0 rfl ca _ H0.out.range Tryz.underlying34 rfl HI.out ?_)
    refine HK.out.mono ?_
    rintro e w1 ⟨rfl,k1⟩
    have K1:=hI k1
    clear k1
    by_cases z2:z=2
    ·subst z2
     have HR:=hI hr
     clear hr
     go_wp2_with fail
     go_ret
     exact⟨by rw[←HR.out];rfl,K1.out⟩
    by_cases z3:z=3
    ·subst z3
     have HR:=hI hr
     clear hr
     go_wp2_with fail
     go_ret
     exact⟨by rw[←HR.out];rfl,K1.out⟩
    rw[if_neg (by omega)] at hr
    have z2':(z == 2)=false:=beq_eq_false_iff_ne.2 z2
    have z3':(z == 3)=false:=beq_eq_false_iff_ne.2 z3
    have HR:=hI hr
    clear hr
    go_wp2_with fail
    go_ret
    exact⟨by rw[←HR.out];rfl,K1.out⟩
   obtain⟨b1,b2,b3⟩:=hs
   clear n11
   have b3':(xn == 11)=false:=beq_eq_false_iff_ne.2 b3
   go_enter Tryz.func163,Tryz.ntmps163
   go_wp2_with (refine wpList_load_mid rfl 34 _ rfl w.heap.size 0 rfl ca _ H0.out.range Tryz.underlying34 rfl HI.out ?_)
   refine HK.out.mono ?_
   rintro e w1 ⟨rfl,k1⟩
   have K1:=hI k1
   clear k1
   by_cases z2:z=2
   ·subst z2
    have HR:=hI hr
    clear hr
    go_wp2_with fail
    go_ret
    exact⟨by rw[←HR.out];rfl,K1.out⟩
   by_cases z3:z=3
   ·subst z3
    have HR:=hI hr
    clear hr
    go_wp2_with fail
    go_ret
    exact⟨by rw[←HR.out];rfl,K1.out⟩
   rw[if_neg (by omega)] at hr
   have z2':(z == 2)=false:=beq_eq_false_iff_ne.2 z2
   have z3':(z == 3)=false:=beq_eq_false_iff_ne.2 z3
   have HR:=hI hr
   clear hr
   go_wp2_with fail
   go_ret
   exact⟨by rw[←HR.out];rfl,K1.out⟩
 by_cases o8:op=8
 ·rw[if_pos (by omega)] at hr
  have hcl:((xn=11)∨¬(xn=11)):=Classical.em _
  rcases hcl with hc | hc
  ·rw[if_pos (by omega)] at hr
   subst o8
   subst hc
   have HR:=hI hr
   clear hr
   go_enter Tryz.func163,Tryz.ntmps163
   go_wp2_with fail
   go_ret
   exact⟨by rw[←HR.out];rfl,K2.out⟩
  ·rw[if_neg (by omega)] at hr
   subst o8
   have hs:(¬ 8≤xn∧xn≤10∧¬xn=11)∨(8≤xn∧xn≤10∧¬xn=11)∨(8≤xn∧¬xn≤10∧¬xn=11):=by omega
   have n11:xn=11∨(xn == 11)=false:=by
    by_cases h:xn=11
    ·exact .inl h
    ·exact .inr (beq_eq_false_iff_ne.2 h)
   clear hc
   rcases hs with hs | hs
   ·obtain⟨b1,b2,b3⟩:=hs
    clear n11
    have b3':(xn == 11)=false:=beq_eq_false_iff_ne.2 b3
    go_enter Tryz.func163,Tryz.ntmps163
    go_wp2_with (refine wpList_load_mid rfl 34 _ rfl w.heap.size 0 rfl ca _ H0.out.range Tryz.underlying34 rfl HI.out ?_)
    refine HK.out.mono ?_
    rintro e w1 ⟨rfl,k1⟩
    have K1:=hI k1
    clear k1
    by_cases z2:z=2
    ·subst z2
     have HR:=hI hr
     clear hr
     go_wp2_with fail
     go_ret
     exact⟨by rw[←HR.out];rfl,K1.out⟩
    by_cases z3:z=3
    ·subst z3
     have HR:=hI hr
     clear hr
     go_wp2_with fail
     go_ret
     exact⟨by rw[←HR.out];rfl,K1.out⟩
    rw[if_neg (by omega)] at hr
    have z2':(z == 2)=false:=beq_eq_false_iff_ne.2 z2
    have z3':(z == 3)=false:=beq_eq_false_iff_ne.2 z3
    have HR:=hI hr
    clear hr
    go_wp2_with fail
    go_ret
    exact⟨by rw[←HR.out];rfl,K1.out⟩
   rcases hs with hs | hs
   ·obtain⟨b1,b2,b3⟩:=hs
    clear n11
    have b3':(xn == 11)=false:=beq_eq_false_iff_ne.2 b3
    go_enter Tryz.func163,Tryz.ntmps163
    go_wp2_with (refine wpList_load_mid rfl 34 _ rfl w.heap.size 0 rfl ca _ H0.out.range Tryz.underlying34 rfl HI.out ?_)
    refine HK.out.mono ?_
    rintro e w1 ⟨rfl,k1⟩
    have K1:=hI k1
    clear k1
    by_cases z2:z=2
    ·subst z2
     have HR:=hI hr
     clear hr
     go_wp2_with fail
     go_ret
     exact⟨by rw[←HR.out];rfl,K1.out⟩
    by_cases z3:z=3
    ·subst z3
     have HR:=hI hr
     clear hr
     go_wp2_with fail
     go_ret
     exact⟨by rw[←HR.out];rfl,K1.out⟩
    rw[if_neg (by omega)] at hr
    have z2':(z == 2)=false:=beq_eq_false_iff_ne.2 z2
    have z3':(z == 3)=false:=beq_eq_false_iff_ne.2 z3
    have HR:=hI hr
    clear hr
    go_wp2_with fail
    go_ret
    exact⟨by rw[←HR.out];rfl,K1.out⟩
   obtain⟨b1,b2,b3⟩:=hs
   clear n11
   have b3':(xn == 11)=false:=beq_eq_false_iff_ne.2 b3
   go_enter Tryz.func163,Tryz.ntmps163
   go_wp2_with (refine wpList_load_mid rfl 34 _ rfl w.heap.size 0 rfl ca _ H0.out.range Tryz.underlying34 rfl HI.out ?_)
   refine HK.out.mono ?_
   rintro e w1 ⟨rfl,k1⟩
   have K1:=hI k1
   clear k1
   by_cases z2:z=2
   ·subst z2
    have HR:=hI hr
    clear hr
    go_wp2_with fail
    go_ret
    exact⟨by rw[←HR.out];rfl,K1.out⟩
   by_cases z3:z=3
   ·subst z3
    have HR:=hI hr
    clear hr
    go_wp2_with fail
    go_ret
    exact⟨by rw[←HR.out];rfl,K1.out⟩
   rw[if_neg (by omega)] at hr
   have z2':(z == 2)=false:=beq_eq_false_iff_ne.2 z2
   have z3':(z == 3)=false:=beq_eq_false_iff_ne.2 z3
   have HR:=hI hr
   clear hr
   go_wp2_with fail
   go_ret
   exact⟨by rw[←HR.out];rfl,K1.out⟩
 rw[if_neg (by omega)] at hr
 have m2:(op == 2)=false:=beq_eq_false_iff_ne.2 o2
 have m15:(op == 15)=false:=beq_eq_false_iff_ne.2 o15
 have m16:(op == 16)=false:=beq_eq_false_iff_ne.2 o16
 have m18:(op == 18)=false:=beq_eq_false_iff_ne.2 o18
 have m7:(op == 7)=false:=beq_eq_false_iff_ne.2 o7
 have m8:(op == 8)=false:=beq_eq_false_iff_ne.2 o8
 have HR:=hI hr
 clear hr
 go_enter Tryz.func163,Tryz.ntmps163
 go_wp2_with fail
 go_ret
 exact⟨by rw[←HR.out];rfl,K2.out⟩
end
section
open Go.RowKit
theorem amC {ins:List aT} {v at_:Int} (h:v<0∨at_≤v∨(ins.length:Int)<at_):kindM ins v at_ = -1:=by
 rw[kindM_eq,if_pos]
 rcases h with h | h | h
 ·exact .inl h
 ·exact .inr (.inl h)
 ·exact .inr (.inr (.inl h))
theorem amB (ca:List Value) (t:aH) (v at_:Int) (w:World) (h:bI w w.heap.size ca t) (a1 : -9223372036854775808≤at_) (a2:at_≤9223372036854775807) (hb:v<0∨at_≤v∨(t.ins.length:Int)<at_) :
  Calls Tryz.prog 97 #[.agg ⟨ca⟩,.int .i64 v,.int .i64 at_] w (aK (.int .i64 (-1)) w):=by
 obtain⟨Ai,ni,p3,q⟩:=h.at3
 have ll:=aM q
 clear h q
 by_cases v0:v<0
 ·clear hb
  go_enter Tryz.func97,Tryz.ntmps97
  go_wp2_with fail
  go_ret
  exact⟨rfl,aA w _⟩
 by_cases v1:at_≤v
 ·clear hb
  go_enter Tryz.func97,Tryz.ntmps97
  go_wp2_with fail
  go_ret
  exact⟨rfl,aA w _⟩
 have v2:(t.ins.length:Int)<at_:=by omega
 clear hb
 go_enter Tryz.func97,Tryz.ntmps97
 go_wp2_with fail
 go_ret
 exact⟨rfl,aA w _⟩
theorem an7 (ca:List Value) (t:aH):∀(n:Nat) (v at_:Int) (w:World),v<n→bI w w.heap.size ca t→-9223372036854775808≤at_→at_≤9223372036854775807→
  Calls Tryz.prog 97 #[.agg ⟨ca⟩,.int .i64 v,.int .i64 at_] w (aK (.int .i64 (kindM t.ins v at_)) w):=by
 intro n
 induction n with
 | zero=>
  intro v at_ w hv h a1 a2
  rw[amC (.inl (by omega))]
  exact amB ca t v at_ w h a1 a2 (.inl (by omega))
 | succ n ih=>
  intro v at_ w hv h a1 a2
  by_cases hbase:v<0∨at_≤v∨(t.ins.length:Int)<at_
  ·rw[amC hbase]
   exact amB ca t v at_ w h a1 a2 hbase
  obtain⟨r,hr⟩:∃r,kindM t.ins v at_=r:=⟨_,rfl⟩
  rw[hr]
  rw[kindM_eq] at hr
  have HI:=hI h.size13
  obtain⟨Ai,ni,p3,q⟩:=h.at3
  have ll:=aM q
  have HQ:=hI q
  obtain⟨k,rfl⟩:=Int.eq_ofNat_of_zero_le (show 0≤v by omega)
  obtain⟨m,rfl⟩:=Int.eq_ofNat_of_zero_le (show 0≤at_ by omega)
  have hkm:k<m:=by omega
  have hm:m≤t.ins.length:=by omega
  obtain⟨b,off,x,rfl,hb,hx,wx,hat⟩:=tN q (i:=k) (by omega)
  obtain⟨e1,e2⟩:=insAt_some hx
  rw[e1,e2] at hr
  have K0:Hid (Below w.heap.size w (w.alloc (.cells ⟨ca⟩ 34))):=aA w _
  have H0:Hid (aJ (w.alloc (.cells ⟨ca⟩ 34)) w.heap.size ca):=akV w ca _
  have g0:=(adD hat hb K0.out).1
  have hz:w.heap.size<(w.alloc (.cells ⟨ca⟩ 34)).heap.size:=by simp
  have HH:=hI h
  have HO:Hid (∀W,Below w.heap.size w W→Calls Tryz.prog 163 #[.agg ⟨ca⟩,.int .i64 k] W (aK (.int .i64 (ownM (kindM t.ins · k) x)) W)):=fun W kW=>by
   refine own_c ca t k x W (h.below kW) hx (fun w1 k1=>?_)
   rcases Int.lt_or_le x.a k with c | c
   ·exact ih x.a k w1 (by omega) (h.below (kW.trans (k1.mono kW.size))) (by omega) (by omega)
   ·rw[amC (.inr (.inl c))]
    exact amB ca t x.a k w1 (h.below (kW.trans (k1.mono kW.size))) (by omega) (by omega) (.inr (.inl c))
  have hr2:(if dZ x.op=false then(-1:Int) else if 0≤ownM (kindM t.ins · k) x then ownM (kindM t.ins · k) x else guardM k ((t.ins.take m).drop (k+1)))=r:=by
   rw[←hr]
   by_cases c:dZ x.op=false
   ·rw[if_pos c]
    exact(if_pos (.inr (.inr (.inr c)))).symm
   ·rw[if_neg c]
    refine Eq.trans ?_ (if_neg ?_).symm
    ·rfl
    ·rintro (c1 | c1 | c1 | c1)
     ·omega
     ·omega
     ·omega
     ·exact c c1
  obtain⟨k0,hk0⟩:∃k0,ownM (kindM t.ins · k) x=k0:=⟨_,rfl⟩
  simp only[hk0] at hr2 HO
  obtain⟨tl,htl⟩:∃tl,dZ x.op=tl:=⟨_,rfl⟩
  have TC:=hI (zX x.op (w.alloc (.cells ⟨ca⟩ 34)))
  simp only[htl] at hr2 TC
  have hkm':(k:Int)<m:=by omega
  have hm':(m:Int)≤t.ins.length:=by omega
  clear hr hk0 htl h q hat hx e1 e2 ih hv hbase
  go_enter Tryz.func97,Tryz.ntmps97
  go_wp2_with fail
  refine TC.out.mono ?_
  rintro e w1 ⟨rfl,k1⟩
  have K1:=hI (K0.out.trans (k1.mono K0.out.size))
  have H1:=hI (H0.out.on k1)
  have hz1:w.heap.size<w1.heap.size:=Nat.lt_of_lt_of_le hz k1.size
  clear k1
  cases tl
  ·rw[if_pos rfl] at hr2
   have HR:=hI hr2
   clear hr2
   go_wp2_with fail
   go_ret
   exact⟨by rw[←HR.out];rfl,K1.out⟩
  rw[if_neg (by simp)] at hr2
  go_wp2_with (refine wpList_load_mid rfl 34 _ rfl w.heap.size 0 rfl ca _ H1.out.range Tryz.underlying34 rfl HI.out ?_)
  refine(HO.out w1 K1.out).mono ?_
  rintro e w2 ⟨rfl,k2⟩
  have K2:=hI (K1.out.trans (k2.mono K1.out.size))
  have H2:=hI (H1.out.on k2)
  have hz2:w.heap.size<w2.heap.size:=Nat.lt_of_lt_of_le hz1 k2.size
  clear k2
  by_cases hk0:0≤k0
  ·rw[if_pos hk0] at hr2
   have HR:=hI hr2
   clear hr2
   go_wp2_with fail
   go_ret
   exact⟨by rw[←HR.out];rfl,K2.out⟩
  rw[if_neg hk0] at hr2
  have HR:=hI hr2
  clear hr2
  go_wp2_with fail
  go_loopw [8] (fun i wr=>∃j:Nat,i=.int .i64 j∧k+1≤j∧j≤m∧Hid (guardM k ((t.ins.take m).drop j)=r)∧Hid (Below w2.heap.size w2 wr)) (fun i _=>m - (RowKit.intOf i).toNat)
  case atStart=>exact⟨k+1,by go_num,by omega,by omega,HR.out,Below.refl _ _⟩
  case round=>
   obtain⟨j,rfl,j1,j2,KP,KW⟩:=hrel
   have d3:wr.cell? ⟨w.heap.size,3,none⟩=some (.slice (some ⟨b,off,none⟩) t.ins.length ni):=aC KW.out (H2.out 3 _ p3)
   have kk:=hI (K2.out.trans (KW.out.mono K2.out.size))
   by_cases hlt:j<m
   ·obtain⟨b',off',y,hbo,hb',hy,wy,hat⟩:=tN HQ.out (i:=j) (by omega)
    have hbo2:b=b'∧off=off':=by injection hbo with hbo;injection hbo with h1 h2;exact⟨h1,h2⟩
    obtain⟨rfl,rfl⟩:=hbo2
    obtain⟨g0,g1,g2,g3,g4,g5,g6,g7⟩:=adD hat hb kk.out
    have hj:(j:Int)<t.ins.length:=by omega
    have hjm:(j:Int)<m:=by omega
    have hd:(t.ins.take m).drop j=y::(t.ins.take m).drop (j+1):=oI (by rw[List.getElem?_take,if_pos hlt];exact hy)
    have e:=KP.out
    rw[hd] at e
    have hzr:w2.heap.size≤wr.heap.size:=KW.out.size
    have KW3:Hid (Below w2.heap.size w2 (wr.alloc (.cells ⟨bA y⟩ 53))):=KW.out.alloc KW.out.size _
    obtain⟨op,ya,yb,yc,yn,ye,⟨yk,ykn⟩⟩:=y
    dsimp only [guardM] at e g0 g1 g2 g3 g4 g5 g6 g7
    clear hat hy hd hbo
    by_cases c1:ya=k
    case neg=>
     have c1':(ya != (k:Int))=true:=by simpa using c1
     rw[if_pos c1] at e
     have E:=hI e
     clear e
     go_wp2_with fail
     go_roundw
     case rel=>exact⟨j+1,by go_num,by omega,by omega,E.out,KW3.out⟩
     case measure=>simp[RowKit.intOf];omega
    rw[if_neg (by omega)] at e
    subst c1
    by_cases c4:op=4
    ·rw[if_pos c4] at e
     have E:=hI e
     subst c4
     clear e
     go_wp2_with fail
     go_ret
     exact⟨by rw[←E.out];rfl,K2.out.trans (KW3.out.mono K2.out.size)⟩
    rw[if_neg c4] at e
    have c4':(op == 4)=false:=beq_eq_false_iff_ne.2 c4
    by_cases c6:op=6
    ·rw[if_pos c6] at e
     have E:=hI e
     subst c6
     clear e c4'
     go_wp2_with fail
     go_ret
     exact⟨by rw[←E.out];rfl,K2.out.trans (KW3.out.mono K2.out.size)⟩
    rw[if_neg c6] at e
    have c6':(op == 6)=false:=beq_eq_false_iff_ne.2 c6
    by_cases c9:op=9
    ·rw[if_pos c9] at e
     have E:=hI e
     subst c9
     clear e c4' c6'
     go_wp2_with fail
     go_ret
     exact⟨by rw[←E.out];rfl,K2.out.trans (KW3.out.mono K2.out.size)⟩
    rw[if_neg c9] at e
    have c9':(op == 9)=false:=beq_eq_false_iff_ne.2 c9
    have E:=hI e
    clear e
    go_wp2_with fail
    go_roundw
    case rel=>exact⟨j+1,by go_num,by omega,by omega,E.out,KW3.out⟩
    case measure=>simp[RowKit.intOf];omega
   ·have hj:(t.ins.take m).drop j=[]:=List.drop_eq_nil_of_le (by rw[List.length_take];omega)
    have e:=KP.out
    rw[hj] at e
    have E:=hI e
    have hjm:¬(j:Int)<m:=by omega
    clear e hj
    go_wp2_with fail
    go_ret
    exact⟨by rw[←E.out];rfl,kk.out⟩
end
end Go.Proofs.YtijihlcdhppfgaaGreatDoor
