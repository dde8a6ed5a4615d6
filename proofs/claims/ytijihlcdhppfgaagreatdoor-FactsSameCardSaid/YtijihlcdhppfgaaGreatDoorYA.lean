/- Part of the walk of the given code: contracts, and plain laws. -/
import Derived.Test.YtijihlcdhppfgaaGreatDoorZM
import Derived.Test.YtijihlcdhppfgaaGreatDoorYR
set_option maxHeartbeats 16000000
set_option maxRecDepth 100000
set_option linter.all false
namespace Go.Proofs.YtijihlcdhppfgaaGreatDoor
open Tryz
section
open Go.RowKit
theorem own_c (u:List Value) (t:aH) (k:Nat) (x:aT) (w:World) (h:bI w w.heap.size u t) (hx:t.ins[k]? = some x) (hk:∀w1,Below w.heap.size w w1->Calls prog 97 #[.agg ⟨u⟩,.int .i64 x.a,.int .i64 k] w1 (aK (.int .i64 (kindM t.ins x.a k)) w1)) : Calls prog 163 #[.agg ⟨u⟩,.int .i64 k] w (aK (.int .i64 (ownM (kindM t.ins · k) x)) w):=by
 obtain⟨r,d⟩:∃r,ownM (kindM t.ins · k) x=r:=⟨_,rfl⟩;rw[d];unfold ownM at d;dsimp only at d;have K:=hI h.size13;obtain⟨Ai,ni,p3,q⟩:=h.at3;have ll:=aM q;have a6:k<t.ins.length:=(lE hx).1;obtain⟨b,d1,y,rfl,hb,V,wy,S⟩:=tN q a6;rw[hx] at V;obtain rfl:x=y:=by injection V
 have c7:(k:Int)<t.ins.length:=by omega
 obtain⟨op,O,X,Y,g,Z,⟨kk,kn⟩⟩:=x;have D:Hid (Below w.heap.size w ((w.alloc (.cells ⟨u⟩ 34)).alloc (.cells #[.int .i64 op,.int .i64 O,.int .i64 X,.int .i64 Y,.int .i64 g,.int .i64 Z,.int .i64 kk,.int .i64 kn] 53))):=bV w _ _;have L:Hid (aJ ((w.alloc (.cells ⟨u⟩ 34)).alloc (.cells #[.int .i64 op,.int .i64 O,.int .i64 X,.int .i64 Y,.int .i64 g,.int .i64 Z,.int .i64 kk,.int .i64 kn] 53)) w.heap.size u):=(nR w u _ _ _).1;obtain⟨g0,g1,g2,g3,g4,g5,g6,g7⟩:=adD S hb (aA w (.cells ⟨u⟩ 34));dsimp only at g0 g1 g2 g3 g4 g5 g6 g7 d;obtain⟨z,hz⟩:∃z,kindM t.ins O k=z:=⟨_,rfl⟩;simp only[hz] at d;have M:Hid (Calls prog 97 #[.agg ⟨u⟩,.int .i64 O,.int .i64 k] ((w.alloc (.cells ⟨u⟩ 34)).alloc (.cells #[.int .i64 op,.int .i64 O,.int .i64 X,.int .i64 Y,.int .i64 g,.int .i64 Z,.int .i64 kk,.int .i64 kn] 53)) (λe w1=>e=.returned (.int .i64 z)/\Below w.heap.size w w1)):=(hk _ D.o).mono λe w1 ⟨h1,h2⟩=>⟨by rw[h1,<-hz],D.o.trans (h2.mono D.o.size)⟩;clear h q S hx V hk hz;by_cases R:op=2;·rw[if_pos R] at d;subst R;have f:=hI d;clear d;go_enter func163,ntmps163;go_wp2_with fail;go_ret;exact⟨by rw[<-f.o];rfl,D.o⟩
 rw[if_neg R] at d;by_cases H:op=15;·rw[if_pos H] at d;subst H;have f:=hI d;clear d;go_enter func163,ntmps163;go_wp2_with fail;go_ret;exact⟨by rw[<-f.o];rfl,D.o⟩
 rw[if_neg H] at d;by_cases I:op=16;·rw[if_pos I] at d;subst I;have f:=hI d;clear d;go_enter func163,ntmps163;go_wp2_with fail;go_ret;exact⟨by rw[<-f.o];rfl,D.o⟩
 rw[if_neg I] at d;by_cases J:op=18;·rw[if_pos J] at d;subst J;have f:=hI d;clear d;go_enter func163,ntmps163;go_wp2_with fail;go_ret;exact⟨by rw[<-f.o];rfl,D.o⟩
 rw[if_neg J] at d;by_cases o7:op=7
 ·rw[if_pos (by omega)] at d;have N:((8<=g/\g<=10)\/¬(8<=g/\g<=10)):=Classical.em _;rcases N with hc | hc;·rw[if_pos (by omega)] at d;subst o7;obtain⟨c1,c2⟩:=hc;have f:=hI d;clear d;go_enter func163,ntmps163;go_wp2_with fail;go_ret;exact⟨by rw[<-f.o];rfl,D.o⟩
  ·rw[if_neg (by omega)] at d;subst o7;have hs:(¬ 8<=g/\g<=10/\¬g=11)\/(8<=g/\¬g<=10/\g=11)\/(8<=g/\¬g<=10/\¬g=11):=(by omega);have v:g=11\/(g == 11)=false:=by
    by_cases h:g=11;·exact .inl h
    ·exact .inr (beq_eq_false_iff_ne.2 h)
   clear hc;rcases hs with hs | hs
   ·obtain⟨b1,P,A⟩:=hs;clear v;have G:(g == 11)=false:=beq_eq_false_iff_ne.2 A;go_enter func163,ntmps163;go_wp2_with (refine wpList_load_mid rfl 34 _ rfl w.heap.size 0 rfl u _ L.o.range underlying34 rfl K.o ?_);refine M.o.mono ?_;rintro e w1 ⟨rfl,l⟩;have j:=hI l;clear l;by_cases p:z=2;·subst p;have f:=hI d;clear d;go_wp2_with fail;go_ret;exact⟨by rw[<-f.o];rfl,j.o⟩
    by_cases s:z=3;·subst s;have f:=hI d;clear d;go_wp2_with fail;go_ret;exact⟨by rw[<-f.o];rfl,j.o⟩
    rw[if_neg (by omega)] at d;have E:(z == 2)=false:=beq_eq_false_iff_ne.2 p;have F:(z == 3)=false:=beq_eq_false_iff_ne.2 s;have f:=hI d;clear d;go_wp2_with fail;go_ret;exact⟨by rw[<-f.o];rfl,j.o⟩
   rcases hs with hs | hs
   ·obtain⟨b1,P,A⟩:=hs;clear v;subst A;go_enter func163,ntmps163;go_wp2_with (refine wpList_load_mid rfl 34 _ rfl w.heap.size 0 rfl u _ L.o.range underlying34 rfl K.o ?_);refine M.o.mono ?_;rintro e w1 ⟨rfl,l⟩;have j:=hI l;clear l;by_cases p:z=2;·subst p;have f:=hI d;clear d;go_wp2_with fail;go_ret;exact⟨by rw[<-f.o];rfl,j.o⟩
    by_cases s:z=3;·subst s;have f:=hI d;clear d;go_wp2_with fail;go_ret;exact⟨by rw[<-f.o];rfl,j.o⟩
    rw[if_neg (by omega)] at d;have E:(z == 2)=false:=beq_eq_false_iff_ne.2 p;have F:(z == 3)=false:=beq_eq_false_iff_ne.2 s;have f:=hI d;clear d;go_wp2_with fail;go_ret;exact⟨by rw[<-f.o];rfl,j.o⟩
   obtain⟨b1,P,A⟩:=hs;clear v;have G:(g == 11)=false:=beq_eq_false_iff_ne.2 A;go_enter func163,ntmps163;go_wp2_with (refine wpList_load_mid rfl 34 _ rfl w.heap.size 0 rfl u _ L.o.range underlying34 rfl K.o ?_);refine M.o.mono ?_;rintro e w1 ⟨rfl,l⟩;have j:=hI l;clear l;by_cases p:z=2;·subst p;have f:=hI d;clear d;go_wp2_with fail;go_ret;exact⟨by rw[<-f.o];rfl,j.o⟩
   by_cases s:z=3;·subst s;have f:=hI d;clear d;go_wp2_with fail;go_ret;exact⟨by rw[<-f.o];rfl,j.o⟩
   rw[if_neg (by omega)] at d;have E:(z == 2)=false:=beq_eq_false_iff_ne.2 p;have F:(z == 3)=false:=beq_eq_false_iff_ne.2 s;have f:=hI d;clear d;go_wp2_with fail;go_ret;exact⟨by rw[<-f.o];rfl,j.o⟩
 by_cases o8:op=8
 ·rw[if_pos (by omega)] at d;have N:((g=11)\/¬(g=11)):=Classical.em _;rcases N with hc | hc;·rw[if_pos (by omega)] at d;subst o8;subst hc;have f:=hI d;clear d;go_enter func163,ntmps163;go_wp2_with fail;go_ret;exact⟨by rw[<-f.o];rfl,D.o⟩
  ·rw[if_neg (by omega)] at d;subst o8;have hs:(¬ 8<=g/\g<=10/\¬g=11)\/(8<=g/\g<=10/\¬g=11)\/(8<=g/\¬g<=10/\¬g=11):=(by omega);have v:g=11\/(g == 11)=false:=by
    by_cases h:g=11;·exact .inl h
    ·exact .inr (beq_eq_false_iff_ne.2 h)
   clear hc;rcases hs with hs | hs
   ·obtain⟨b1,P,A⟩:=hs;clear v;have G:(g == 11)=false:=beq_eq_false_iff_ne.2 A;go_enter func163,ntmps163;go_wp2_with (refine wpList_load_mid rfl 34 _ rfl w.heap.size 0 rfl u _ L.o.range underlying34 rfl K.o ?_);refine M.o.mono ?_;rintro e w1 ⟨rfl,l⟩;have j:=hI l;clear l;by_cases p:z=2;·subst p;have f:=hI d;clear d;go_wp2_with fail;go_ret;exact⟨by rw[<-f.o];rfl,j.o⟩
    by_cases s:z=3;·subst s;have f:=hI d;clear d;go_wp2_with fail;go_ret;exact⟨by rw[<-f.o];rfl,j.o⟩
    rw[if_neg (by omega)] at d;have E:(z == 2)=false:=beq_eq_false_iff_ne.2 p;have F:(z == 3)=false:=beq_eq_false_iff_ne.2 s;have f:=hI d;clear d;go_wp2_with fail;go_ret;exact⟨by rw[<-f.o];rfl,j.o⟩
   rcases hs with hs | hs
   ·obtain⟨b1,P,A⟩:=hs;clear v;have G:(g == 11)=false:=beq_eq_false_iff_ne.2 A;go_enter func163,ntmps163;go_wp2_with (refine wpList_load_mid rfl 34 _ rfl w.heap.size 0 rfl u _ L.o.range underlying34 rfl K.o ?_);refine M.o.mono ?_;rintro e w1 ⟨rfl,l⟩;have j:=hI l;clear l;by_cases p:z=2;·subst p;have f:=hI d;clear d;go_wp2_with fail;go_ret;exact⟨by rw[<-f.o];rfl,j.o⟩
    by_cases s:z=3;·subst s;have f:=hI d;clear d;go_wp2_with fail;go_ret;exact⟨by rw[<-f.o];rfl,j.o⟩
    rw[if_neg (by omega)] at d;have E:(z == 2)=false:=beq_eq_false_iff_ne.2 p;have F:(z == 3)=false:=beq_eq_false_iff_ne.2 s;have f:=hI d;clear d;go_wp2_with fail;go_ret;exact⟨by rw[<-f.o];rfl,j.o⟩
   obtain⟨b1,P,A⟩:=hs;clear v;have G:(g == 11)=false:=beq_eq_false_iff_ne.2 A;go_enter func163,ntmps163;go_wp2_with (refine wpList_load_mid rfl 34 _ rfl w.heap.size 0 rfl u _ L.o.range underlying34 rfl K.o ?_);refine M.o.mono ?_;rintro e w1 ⟨rfl,l⟩;have j:=hI l;clear l;by_cases p:z=2;·subst p;have f:=hI d;clear d;go_wp2_with fail;go_ret;exact⟨by rw[<-f.o];rfl,j.o⟩
   by_cases s:z=3;·subst s;have f:=hI d;clear d;go_wp2_with fail;go_ret;exact⟨by rw[<-f.o];rfl,j.o⟩
   rw[if_neg (by omega)] at d;have E:(z == 2)=false:=beq_eq_false_iff_ne.2 p;have F:(z == 3)=false:=beq_eq_false_iff_ne.2 s;have f:=hI d;clear d;go_wp2_with fail;go_ret;exact⟨by rw[<-f.o];rfl,j.o⟩
 rw[if_neg (by omega)] at d;have m2:(op == 2)=false:=beq_eq_false_iff_ne.2 R;have c8:(op == 15)=false:=beq_eq_false_iff_ne.2 H;have c9:(op == 16)=false:=beq_eq_false_iff_ne.2 I;have d0:(op == 18)=false:=beq_eq_false_iff_ne.2 J;have m7:(op == 7)=false:=beq_eq_false_iff_ne.2 o7;have m8:(op == 8)=false:=beq_eq_false_iff_ne.2 o8;have f:=hI d;clear d;go_enter func163,ntmps163;go_wp2_with fail;go_ret;exact⟨by rw[<-f.o];rfl,D.o⟩
end
section
open Go.RowKit
theorem amC {ins:List aT} {v at_:Int} (h:v<0\/at_<=v\/(ins.length:Int)<at_):kindM ins v at_ = -1:=by
 rw[kindM_eq,if_pos];rcases h with h | h | h;·exact .inl h
 ·exact .inr (.inl h)
 ·exact .inr (.inr (.inl h))
theorem amB (d:List Value) (t:aH) (v at_:Int) (w:World) (h:bI w w.heap.size d t) (r : -9223372036854775808<=at_) (s:at_<=9223372036854775807) (hb:v<0\/at_<=v\/(t.ins.length:Int)<at_) : Calls prog 97 #[.agg ⟨d⟩,.int .i64 v,.int .i64 at_] w (aK (.int .i64 (-1)) w):=by
 obtain⟨j,l,p,q⟩:=h.at3;have f:=aM q;clear h q;by_cases u:v<0;·clear hb;go_enter func97,ntmps97;go_wp2_with fail;go_ret;exact⟨rfl,aA w _⟩
 by_cases x:at_<=v;·clear hb;go_enter func97,ntmps97;go_wp2_with fail;go_ret;exact⟨rfl,aA w _⟩
 have g:(t.ins.length:Int)<at_:=by omega
 clear hb;go_enter func97,ntmps97;go_wp2_with fail;go_ret;exact⟨rfl,aA w _⟩
theorem an7 (f:List Value) (t:aH):∀(n:Nat) (v at_:Int) (w:World),v<n->bI w w.heap.size f t->-9223372036854775808<=at_->at_<=9223372036854775807->
  Calls prog 97 #[.agg ⟨f⟩,.int .i64 v,.int .i64 at_] w (aK (.int .i64 (kindM t.ins v at_)) w):=by
 intro n
 induction n with
 | zero=>
  intro v at_ w hv h Z a2
  rw[amC (.inl (by omega))]
  exact amB f t v at_ w h Z a2 (.inl (by omega))
 | succ n ih=>
  intro v at_ w hv h Z a2
  by_cases l:v<0\/at_<=v\/(t.ins.length:Int)<at_
  ·rw[amC l]
   exact amB f t v at_ w h Z a2 l
  obtain⟨r,F⟩:∃r,kindM t.ins v at_=r:=⟨_,rfl⟩
  rw[F]
  rw[kindM_eq] at F
  have HI:=hI h.size13
  obtain⟨Ai,ni,p3,q⟩:=h.at3
  have ll:=aM q
  have HQ:=hI q
  obtain⟨k,rfl⟩:=Int.eq_ofNat_of_zero_le (show 0<=v by omega)
  obtain⟨m,rfl⟩:=Int.eq_ofNat_of_zero_le (show 0<=at_ by omega)
  have e9:k<m:=by omega
  have hm:m<=t.ins.length:=by omega
  obtain⟨b,N,x,rfl,hb,V,wx,s⟩:=tN q (i:=k) (by omega)
  obtain⟨e1,e2⟩:=insAt_some V
  rw[e1,e2] at F
  have P:Hid (Below w.heap.size w (w.alloc (.cells ⟨f⟩ 34))):=aA w _
  have H0:Hid (aJ (w.alloc (.cells ⟨f⟩ 34)) w.heap.size f):=akV w f _
  have g0:=(adD s hb P.o).1
  have hz:w.heap.size<(w.alloc (.cells ⟨f⟩ 34)).heap.size:=by simp
  have HH:=hI h
  have HO:Hid (∀W,Below w.heap.size w W->Calls prog 163 #[.agg ⟨f⟩,.int .i64 k] W (aK (.int .i64 (ownM (kindM t.ins · k) x)) W)):=λW H=>by
   refine own_c f t k x W (h.below H) V (λw1 z=>?_)
   rcases Int.lt_or_le x.a k with c | c
   ·exact ih x.a k w1 (by omega) (h.below (H.trans (z.mono H.size))) (by omega) (by omega)
   ·rw[amC (.inr (.inl c))]
    exact amB f t x.a k w1 (h.below (H.trans (z.mono H.size))) (by omega) (by omega) (.inr (.inl c))
  have d:(if dZ x.op=false then(-1:Int) else if 0<=ownM (kindM t.ins · k) x then ownM (kindM t.ins · k) x else guardM k ((t.ins.take m).drop (k+1)))=r:=by
   rw[<-F]
   by_cases c:dZ x.op=false
   ·rw[if_pos c]
    exact(if_pos (.inr (.inr (.inr c)))).symm
   ·rw[if_neg c]
    refine Eq.trans ?_ (if_neg ?_).symm
    ·rfl
    ·rintro (c1 | c1 | c1 | c1)
     ·omega
     ·omega
     ·omega
     ·exact c c1
  obtain⟨X,u⟩:∃X,ownM (kindM t.ins · k) x=X:=⟨_,rfl⟩
  simp only[u] at d HO
  obtain⟨tl,O⟩:∃tl,dZ x.op=tl:=⟨_,rfl⟩
  have TC:=hI (zX x.op (w.alloc (.cells ⟨f⟩ 34)))
  simp only[O] at d TC
  have d2:(k:Int)<m:=by omega
  have f0:(m:Int)<=t.ins.length:=by omega
  clear F u O h q s V e1 e2 ih hv l
  go_enter func97,ntmps97
  go_wp2_with fail
  refine TC.o.mono ?_
  rintro e w1 ⟨rfl,z⟩
  have I:=hI (P.o.trans (z.mono P.o.size))
  have H1:=hI (H0.o.on z)
  have a7:w.heap.size<w1.heap.size:=Nat.lt_of_lt_of_le hz z.size
  clear z
  cases tl
  ·rw[if_pos rfl] at d
   have D:=hI d
   clear d
   go_wp2_with fail
   go_ret
   exact⟨by rw[<-D.o];rfl,I.o⟩
  rw[if_neg (by simp)] at d
  go_wp2_with (refine wpList_load_mid rfl 34 _ rfl w.heap.size 0 rfl f _ H1.o.range underlying34 rfl HI.o ?_)
  refine(HO.o w1 I.o).mono ?_
  rintro e A ⟨rfl,J⟩
  have g:=hI (I.o.trans (J.mono I.o.size))
  have H2:=hI (H1.o.on J)
  have f1:w.heap.size<A.heap.size:=Nat.lt_of_lt_of_le a7 J.size
  clear J
  by_cases u:0<=X
  ·rw[if_pos u] at d
   have D:=hI d
   clear d
   go_wp2_with fail
   go_ret
   exact⟨by rw[<-D.o];rfl,g.o⟩
  rw[if_neg u] at d
  have D:=hI d
  clear d
  go_wp2_with fail
  go_loopw [8] (λi wr=>∃j:Nat,i=.int .i64 j/\k+1<=j/\j<=m/\Hid (guardM k ((t.ins.take m).drop j)=r)/\Hid (Below A.heap.size A wr)) (λi _=>m - (RowKit.intOf i).toNat)
  case atStart=>exact⟨k+1,by go_num,by omega,by omega,D.o,Below.refl _ _⟩
  case round=>
   obtain⟨j,rfl,j1,j2,KP,G⟩:=hrel
   have d3:wr.cell? ⟨w.heap.size,3,none⟩=some (.slice (some ⟨b,N,none⟩) t.ins.length ni):=aC G.o (H2.o 3 _ p3)
   have kk:=hI (g.o.trans (G.o.mono g.o.size))
   by_cases c5:j<m
   ·obtain⟨b',Y,y,hbo,f8,hy,wy,s⟩:=tN HQ.o (i:=j) (by omega)
    have R:b=b'/\N=Y:=by injection hbo with hbo;injection hbo with h1 h2;exact⟨h1,h2⟩
    obtain⟨rfl,rfl⟩:=R
    obtain⟨g0,g1,g2,g3,g4,g5,g6,g7⟩:=adD s hb kk.o
    have S:(j:Int)<t.ins.length:=by omega
    have b0:(j:Int)<m:=by omega
    have hd:(t.ins.take m).drop j=y::(t.ins.take m).drop (j+1):=oI (by rw[List.getElem?_take,if_pos c5];exact hy)
    have e:=KP.o
    rw[hd] at e
    have f2:A.heap.size<=wr.heap.size:=G.o.size
    have p:Hid (Below A.heap.size A (wr.alloc (.cells ⟨bA y⟩ 53))):=G.o.alloc G.o.size _
    obtain⟨op,ya,yb,yc,yn,ye,⟨yk,f9⟩⟩:=y
    dsimp only [guardM] at e g0 g1 g2 g3 g4 g5 g6 g7
    clear s hy hd hbo
    by_cases c1:ya=k
    case neg=>
     have f3:(ya != (k:Int))=true:=by simpa using c1
     rw[if_pos c1] at e
     have E:=hI e
     clear e
     go_wp2_with fail
     go_roundw
     case rel=>exact⟨j+1,by go_num,by omega,by omega,E.o,p.o⟩
     case measure=>simp[RowKit.intOf];omega
    rw[if_neg (by omega)] at e
    subst c1
    by_cases c4:op=4
    ·rw[if_pos c4] at e
     have E:=hI e
     subst c4
     clear e
     go_wp2_with fail
     go_ret
     exact⟨by rw[<-E.o];rfl,g.o.trans (p.o.mono g.o.size)⟩
    rw[if_neg c4] at e
    have M:(op == 4)=false:=beq_eq_false_iff_ne.2 c4
    by_cases K:op=6
    ·rw[if_pos K] at e
     have E:=hI e
     subst K
     clear e M
     go_wp2_with fail
     go_ret
     exact⟨by rw[<-E.o];rfl,g.o.trans (p.o.mono g.o.size)⟩
    rw[if_neg K] at e
    have b3:(op == 6)=false:=beq_eq_false_iff_ne.2 K
    by_cases L:op=9
    ·rw[if_pos L] at e
     have E:=hI e
     subst L
     clear e M b3
     go_wp2_with fail
     go_ret
     exact⟨by rw[<-E.o];rfl,g.o.trans (p.o.mono g.o.size)⟩
    rw[if_neg L] at e
    have f7:(op == 9)=false:=beq_eq_false_iff_ne.2 L
    have E:=hI e
    clear e
    go_wp2_with fail
    go_roundw
    case rel=>exact⟨j+1,by go_num,by omega,by omega,E.o,p.o⟩
    case measure=>simp[RowKit.intOf];omega
   ·have S:(t.ins.take m).drop j=[]:=List.drop_eq_nil_of_le (by rw[List.length_take];omega)
    have e:=KP.o
    rw[S] at e
    have E:=hI e
    have b0:¬(j:Int)<m:=by omega
    clear e S
    go_wp2_with fail
    go_ret
    exact⟨by rw[<-E.o];rfl,kk.o⟩
end
end Go.Proofs.YtijihlcdhppfgaaGreatDoor
