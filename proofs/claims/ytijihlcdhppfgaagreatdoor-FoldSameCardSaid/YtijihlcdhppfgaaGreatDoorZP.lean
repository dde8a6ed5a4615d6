/- Part of the walk of the given code: contracts, and plain laws. -/
import Derived.Test.YtijihlcdhppfgaaGreatDoorZO
set_option maxHeartbeats 16000000
set_option maxRecDepth 100000
set_option linter.all false
namespace Go.Proofs.YtijihlcdhppfgaaGreatDoor
open Tryz
section
open Go.RowKit Go.Maps Go.WideMaps
def oM (w:World) (mb:Nat) (gs:List Int):Prop:=w.ownsMap prog 3 (plainElem prog 3) mb gs.length (lF qL gs)
structure gW (mb:Nat) (w w':World):Prop where
 os:w'.os=w.os
 tape:w'.tape=w.tape
 output:w'.output=w.output
 size:w.heap.size<=w'.heap.size
 block:∀k,k<w.heap.size->k≠mb->w'.heap[k]? = w.heap[k]?
 cell:∀p:Addr,p.block<w.heap.size->w'.cell? p=w.cell? p
theorem gW.of {g:Nat} {w w':World} (h:Below w.heap.size w w'):gW g w w':=⟨h.os,h.tape,h.output,h.size,λk d _=>h.block k d,λ_ f=>h.cell f⟩
theorem gW.trans {d:Nat} {a b c:World} (h:gW d a b) (g:gW d b c):gW d a c:= ⟨g.os.trans h.os,g.tape.trans h.tape,g.output.trans h.output,Nat.le_trans h.size g.size,λk f j=>(g.block k (Nat.lt_of_lt_of_le f h.size) j).trans (h.block k f j),λp l=>(g.cell p (Nat.lt_of_lt_of_le l h.size)).trans (h.cell p l)⟩
theorem gW.then {d:Nat} {a b c:World} (h:gW d a b) (g:Below b.heap.size b c):gW d a c:=h.trans (gW.of g)
theorem oM.map {w:World} {g:Nat} {j:List Int} (h:oM w g j):∃f c,w.heap[g]? = some (.map f c):=by obtain⟨f,d,hb,-⟩:=h;exact⟨f,d,hb⟩
theorem acD {w:World} {p:Addr} {d:Array MapEntry} {c:Nat} (h:w.heap[p.block]? = some (.map d c)):w.cell? p=none:=by unfold World.cell?;rw[h]
theorem gW.grown {f:Nat} {w w':World} (d:w.grownBy w' (some f)) (h:∃g c,w.heap[f]? = some (.map g c)) (j:∃g c,w'.heap[f]? = some (.map g c)):gW f w w':=by
 refine⟨d.os,d.tape,d.output,d.size,λk l q=>d.block k l (λe=>q (by injection e)),λp r=>?_⟩;by_cases c:p.block=f;·obtain⟨g,cl,h⟩:=h;obtain⟨s,u,j⟩:=j;rw[acD (by rw[c];exact j),acD (by rw[c];exact h)]
 ·exact World.cell?_of_block (d.block p.block r (λe=>c (by injection e)))
theorem oM.below {w w':World} {d:Nat} {f:List Int} (h:oM w d f) (g:Below w.heap.size w w'):oM w' d f:=pF h g
theorem kI.turn {w w':World} {f q:Nat} {S:aP} (h:kI w f S) (t:gW q w w'):kI w' f S:=by obtain⟨cs,h1,d,g⟩:=h;exact⟨cs,λi v j=>(t.cell _ d).trans (h1 i v j),Nat.lt_of_lt_of_le d t.size,g.keep t.size (λp l=>t.cell p l)⟩
theorem kY.turn {w w':World} {g:Nat} {p:aZ} {S:aP} {j z m:Nat} {l q:Value} (h:kY w g p S j m l q) (t:gW z w w'):kY w' g p S j m l q:=by obtain⟨⟨⟨a,b,c,h1,r⟩,f,s⟩,u,x⟩:=h;exact⟨⟨⟨a,b,c,λi v y=>(t.cell _ f).trans (h1 i v y),r.keep t.size (λp d=>t.cell p d)⟩,Nat.lt_of_lt_of_le f t.size,s.turn t⟩,u.keep t.size (λp d=>t.cell p d),x.keep t.size (λp d=>t.cell p d)⟩
def nN (res:Option (List Int)) (mb:Nat) (w:World) (e:Ending) (w':World):Prop:=e=.returned (.bool res.isSome)/\(∀gs,res=some gs->oM w' mb gs)/\gW mb w w'
theorem lW {R:Val->Bool} {p:aZ} {S:aP} {low:Option Int} {gens:List Int} {f:bC} {r:List bC} (h:eC R p S f=false\/aL f.tos (-1) (low.getD 0 - 1)=false\/(i8 p (max 0 (min f.fn ((p.fns.length:Int) - 1)))).gen≠decide (0<=f.gen)\/f.gen < -1):cX R p S low gens (f::r)=none:=by
 unfold cX;dsimp only;refine if_pos ?_;rcases h with h | h | h | h;·rw[h];rfl
 ·rw[h];simp
 ·rw[show((i8 p (max 0 (min f.fn ((p.fns.length:Int) - 1)))).gen != decide (0<=f.gen))=true from bne_iff_ne.2 h];simp
 ·rw[decide_eq_true h];simp
theorem zZ {R:Val->Bool} {p:aZ} {S:aP} {low:Option Int} {gens:List Int} {f:bC} {r:List bC} (h1:eC R p S f=true) (d:aL f.tos (-1) (low.getD 0 - 1)=true) (g:(i8 p (max 0 (min f.fn ((p.fns.length:Int) - 1)))).gen=false) (h:decide (0<=f.gen)=false) (j:¬f.gen < -1):cX R p S low gens (f::r)=cX R p S (some f.regs.length) gens r:=by
 conv=>lhs;unfold cX
 dsimp only;rw[h1,d,g,h,decide_eq_false j];rfl
theorem acX {R:Val->Bool} {p:aZ} {S:aP} {low:Option Int} {gens:List Int} {f:bC} {r:List bC} (h1:eC R p S f=true) (h:aL f.tos (-1) (low.getD 0 - 1)=true) (j:(i8 p (max 0 (min f.fn ((p.fns.length:Int) - 1)))).gen=true) (d:decide (0<=f.gen)=true):cX R p S low gens (f::r) = match bZ S ⟨5,f.gen⟩ 5 with | none=>none | some c=>if low=none\/c.num≠1\/f.gen∈gens then none else cX R p S (some f.regs.length) (gens++[f.gen]) r:=by
 have g:¬f.gen < -1:=by have:=of_decide_eq_true d;omega
 conv=>lhs;unfold cX
 dsimp only;rw[h1,h,j,d,decide_eq_false g];rfl
theorem stack_c (A:Option Addr) (n8:Nat) (y:List bC) (gens:List Int) (p:aZ) (S:aP) (lb sb K:Nat) (tv yv:Value) (w:World) (hs:aB w w.heap.size 8 (dD w w.heap.size) (.slice A y.length n8) y) (h:kY w lb p S sb K tv yv) (s:oM w K gens) (d5:lC p) (C7:0<p.fns.length) (a5:gens.length+y.length<=1000000) : Calls prog 208 #[.pointer (some ⟨lb,0,none⟩),.slice A y.length n8] w (nN (cX aF p S none gens y) K w):=by
 obtain⟨v,c0⟩:∃r,cX aF p S none gens y=r:=⟨_,rfl⟩;rw[c0];unfold nN;have o0:=hI c0;have HS:=hI hs;have LT:=hI h;have HG:=hI s;have p8:=hI d5;have ll:=aM hs;obtain⟨pa,pb,pc,hl,m8⟩:=h.look.here;obtain⟨B9,v1,C0,C1,C2,C3,n0,f3,-⟩:=id m8;simp only[List.cons.injEq,and_true] at n0;obtain⟨rfl,rfl,rfl⟩:=n0;have p9:=hI f3;have HL:=hI hl;have A8:=aM f3;have e0:=h.look.size;have j2:=hI a5;clear hs h s d5 c0 hl m8 f3 a5;go_enter func208,ntmps208;go_wp2_with fail;go_loopw [13] (λk wr=>∃(j:Nat) (u:List Int),k=.int .i64 j/\j<=y.length/\Hid (cX aF p S (if j=0 then none else(y[j - 1]?).map (λf=>(f.regs.length:Int))) u (y.drop j)=v)/\Hid (oM wr K u)/\Hid (u.length<=gens.length+j)/\Hid (gW K w wr)) (λk _=>y.length - (RowKit.intOf k).toNat);case atStart=>exact⟨0,gens,rfl,by omega,o0.o,HG.o,by show _<=_;omega,gW.of (Below.refl _ _)⟩
 case round=>
  obtain⟨j,u,rfl,hj,f7,f8,f9,H⟩:=hrel
  have l3:=H.o.size
  by_cases x1:j<y.length
  case neg=>
   have q3:¬(j:Int)<y.length:=by omega
   have e3:Hid (v=some u):=by
    have:=f7.o
    rw[List.drop_of_length_le (by omega)] at this
    exact this.symm
   go_wp2_with fail
   go_ret
   exact⟨by rw[e3.o];rfl,λg s=>by rw[e3.o] at s;injection s with s;exact s ▸ f8.o,H.o⟩
  have q3:(j:Int)<y.length:=by omega
  obtain⟨b,D,f,v2,rfl,hb,hx,-,hR,I⟩:=HS.o.at_ x1
  have q4:Hid (dD wr wr.heap.size v2 f):=hR.keep l3 (λp hp=>H.o.cell p hp)
  obtain⟨rv,C4,rfl,h3,n1,-⟩:=hR
  obtain⟨RA,rc,rfl,-⟩:=id h3
  obtain⟨TA,tc,rfl,-⟩:=id n1
  have A9:=aM h3
  have HX:=hI hx
  have g0:wr.cell? ⟨b,D+j*8,none⟩=some (.int .i64 f.fn):=(H.o.cell _ hb).trans (I 0 _ rfl)
  have g1:wr.cell? ⟨b,D+j*8+1,none⟩=some (.int .i64 f.at_):=(H.o.cell _ hb).trans (I 1 _ rfl)
  have g2:wr.cell? ⟨b,D+j*8+2,none⟩=some (.int .i64 f.tos):=(H.o.cell _ hb).trans (I 2 _ rfl)
  have g3:wr.cell? ⟨b,D+j*8+3,none⟩=some (.int .i64 f.gen):=(H.o.cell _ hb).trans (I 3 _ rfl)
  have g4:wr.cell? ⟨b,D+j*8+4,none⟩=some (.int .i64 f.self.kind):=(H.o.cell _ hb).trans (I 4 _ rfl)
  have g5:wr.cell? ⟨b,D+j*8+5,none⟩=some (.int .i64 f.self.n):=(H.o.cell _ hb).trans (I 5 _ rfl)
  have g6:wr.cell? ⟨b,D+j*8+6,none⟩=some (.slice RA f.regs.length rc):=(H.o.cell _ hb).trans (I 6 _ rfl)
  have g7:wr.cell? ⟨b,D+j*8+7,none⟩=some (.slice TA f.tries.length tc):=(H.o.cell _ hb).trans (I 7 _ rfl)
  have c7:y.drop j=f::y.drop (j+1):=by
   obtain⟨h1,h2⟩:=lE hx
   rw[List.drop_eq_getElem_cons h1,h2]
  obtain⟨low,c1⟩:∃low:Option Int,(if j=0 then none else(y[j - 1]?).map (λf=>(f.regs.length:Int)))=low:=⟨_,rfl⟩
  have z:Hid (cX aF p S low u (f::y.drop (j+1))=v):=by have:=f7.o;rwa [c7,c1] at this
  have L:=hI c1
  have q6:b<wr.heap.size:=Nat.lt_of_lt_of_le hb l3
  clear I hx c7 c1 f7 h3 n1
  obtain⟨w1,Y⟩:∃w1,w1=wr.alloc (.cells #[.int .i64 f.fn,.int .i64 f.at_,.int .i64 f.tos,.int .i64 f.gen,.int .i64 f.self.kind,.int .i64 f.self.n,.slice RA f.regs.length rc,.slice TA f.tries.length tc] 145):=⟨_,rfl⟩
  have K1:Hid (Below wr.heap.size wr w1):=by rw[Y];exact aA _ _
  have l4:Hid (aJ w1 wr.heap.size [.int .i64 f.fn,.int .i64 f.at_,.int .i64 f.tos,.int .i64 f.gen,.int .i64 f.self.kind,.int .i64 f.self.n,.slice RA f.regs.length rc,.slice TA f.tries.length tc]):=by rw[Y];exact akV _ _ _
  have q7:=hI Y
  have B1:wr.heap.size<w1.heap.size:=by rw[Y];simp
  clear Y
  go_upto_region 5 with fail
  rw[<-q7.o]
  clear g0 g1 g2 g3 g4 g5 g6 g7
  go_upto_if 19 with fail
  go_cut [7] (λa wx=>a=.int .i64 (low.getD 0)/\wx=w1)
  case first=>
   rcases Nat.eq_zero_or_pos j with h0 | h0
   ·subst h0
    have j4:low=none:=L.o.symm
    subst j4
    go_wp2_with fail
    go_meet
    case rel=>exact⟨rfl,rfl⟩
   ·obtain⟨O,rfl⟩:∃O,j=O+1:=⟨j - 1,by omega⟩
    obtain⟨b',c2,f',h5,hbo,C5,V,-,v4,h6⟩:=HS.o.at_ (i:=O) (by omega)
    obtain⟨rfl,rfl⟩:b=b'/\D=c2:=by injection hbo with hbo;injection hbo with h1 h2;exact⟨h1,h2⟩
    obtain⟨v5,v9,rfl,N,-⟩:=v4
    obtain⟨n2,n3,rfl,-⟩:=id N
    have y4:=aM N
    have l5:w1.cell? ⟨b,D+O*8+6,none⟩=some (.slice n2 f'.regs.length n3):=(K1.o.cell q6).trans ((H.o.cell _ hb).trans (h6 6 _ rfl))
    have c8:low.getD 0=(f'.regs.length:Int):=by
     rw[<-L.o,if_neg (by omega),show O+1 - 1=O by omega,V];rfl
    have k0:=hI c8
    clear c8
    have B2:(O:Int)+1 - 1=O:=by omega
    have B3:(O:Int)<y.length:=by omega
    have B4:(0:Int)<(O:Int)+1:=by omega
    clear h6 V N hbo
    go_wp2_with fail
    go_meet
    case rel=>exact⟨by rw[k0.o],rfl⟩
  case rest=>
   obtain⟨rfl,n4⟩:=hcut
   rw[n4]
   clear n4
   obtain⟨mn,d1⟩:∃m,min f.fn ((p.fns.length:Int) - 1)=m:=⟨_,rfl⟩
   have q8:0<=max 0 mn/\max 0 mn<p.fns.length:=by rw[<-d1];omega
   obtain⟨x,h7⟩:∃x:Nat,max 0 mn=(x:Int):=⟨(max 0 mn).toNat,by omega⟩
   have r1:x<p.fns.length:=by omega
   have B5:(x:Int)<p.fns.length:=by omega
   obtain⟨b2,h8,G,C6,w0,Z,n5,-,⟨CA,cn,OA,on_,rfl,-⟩,h9⟩:=p9.o.at_ r1
   subst w0
   have r2:Hid (i8 p (max 0 (min f.fn ((p.fns.length:Int) - 1)))=G):=by show _=_;rw[d1,h7];unfold i8;rw[Int.toNat_natCast,n5];rfl
   have B6:=hI d1
   have B7:=hI h7
   have r3:=hI ((LT.o.turn H.o).below K1.o)
   have e4:=hI (H.o.then K1.o)
   have a0:∀E:Up w1,E.to.cell? ⟨lb,0,none⟩=some (.slice (some ⟨b2,h8,none⟩) p.fns.length v1):=λE=>E.cell ((e4.o.cell _ e0).trans (HL.o 0 _ rfl))
   have a1:=ecZ (l4.o 0 _ rfl)
   have a2:∀E:Up w1,E.to.cell? ⟨b2,h8+x*5+2,none⟩=some (.bool G.gen):=λE=>E.cell ((e4.o.cell _ Z).trans (h9 2 _ rfl))
   clear h9 n5 q8
   go_upto_region 7 with fail
   refine cE (λw'=>∃E:Up w1,w'=E.to) 20 [] [] (by kernel_rfl) (by decide) (by kernel_rfl) (λ_ _ d _ _ h=>by cases d <;> exact h) ⟨⟨_,(Below.refl _ w1).drew⟩,rfl⟩ ?_
   simp only[List.take_succ_cons,List.take_zero]
   generalize n9:(λa'=>gT _ _ _ _ _ _ a' _)=qq
   have l9:=hI n9
   clear n9
   repeat (go_big_quiet_step (fail))
   refine wpQuiet_nil ?_
   rw[<-l9.o]
   clear l9 qq a0 a1 a2 d1 h7
   refine bG [] _ _ (by kernel_rfl) (by kernel_rfl) ?_
   simp only[List.filterMap_nil]
   obtain⟨w2,i0⟩:∃w2,w2=w1.drew:=⟨_,rfl⟩
   have c9:Hid (Below w1.heap.size w1 w2):=by rw[i0];exact(Below.refl _ w1).drew
   rw[<-i0]
   clear i0
   have e5:=btZ K1 c9.o
   have r4:=hI (e4.o.then c9.o)
   have F:=hI (l4.o.on c9.o)
   have m0:=hI (r3.o.below c9.o)
   have e6:Hid (dD w2 w2.heap.size [.int .i64 f.fn,.int .i64 f.at_,.int .i64 f.tos,.int .i64 f.gen,.int .i64 f.self.kind,.int .i64 f.self.n,.slice RA f.regs.length rc,.slice TA f.tries.length tc] f):=q4.o.keep e5.o.size (λp hp=>e5.o.cell hp)
   have m1:Hid (wfi f.gen):=by obtain⟨r0,t0,-,-,-,-,-,-,h,-⟩:=e6.o;exact h
   have m2:=hI (ae1 _ f p S lb sb K _ _ w2 e6.o m0.o p8.o)
   have CW:Hid (∀W,Calls prog 146 #[.int .i64 f.tos,.int .i64 (-1),.int .i64 (low.getD 0 - 1)] W λe w'=>e=.returned (.bool (aL f.tos (-1) (low.getD 0 - 1)))/\W=w'):=λW=>kC _ _ _ W
   have r6:0<=low.getD 0/\low.getD 0<=9223372036854775807:=by
    rw[<-L.o]
    by_cases R:j=0
    ·rw[if_pos R];simp
    ·rw[if_neg R]
     obtain⟨b',c2,f',h5,-,-,V,-,⟨v5,v9,-,N,-⟩,-⟩:=HS.o.at_ (i:=j - 1) (by omega)
     obtain⟨n2,n3,rfl,h1,h2,-⟩:=N
     unfold maxLen at h2
     rw[V]
     show 0<=(f'.regs.length:Int)/\(f'.regs.length:Int)<=_
     omega
   obtain⟨z1,z2⟩:=r6
   obtain⟨q1,i1⟩:∃q,eC aF p S f=q:=⟨_,rfl⟩
   obtain⟨q2,i2⟩:∃q,aL f.tos (-1) (low.getD 0 - 1)=q:=⟨_,rfl⟩
   obtain⟨gg,i3⟩:∃g,G.gen=g:=⟨_,rfl⟩
   rw[i1] at m2
   rw[i2] at CW
   have e7:=hI i1
   have e9:=hI i2
   have d0:Hid ((i8 p (max 0 (min f.fn ((p.fns.length:Int) - 1)))).gen=gg):=by show _=_;rw[r2.o,i3]
   have r7:=F.o 0 _ rfl
   have s0:=F.o 1 _ rfl
   have s2:=F.o 2 _ rfl
   have s3:=F.o 3 _ rfl
   have s4:=F.o 4 _ rfl
   have s5:=F.o 5 _ rfl
   have l5:=F.o 6 _ rfl
   have s6:=F.o 7 _ rfl
   rw[i3]
   clear i3 i1 i2
   go_wp2_with fail
   refine m2.o.mono ?_
   rintro e w3 ⟨rfl,k3⟩
   have t1:=hI k3
   have m3:=btZ e5 k3
   have M:=hI (r4.o.then k3)
   have f0:=hI (F.o.on k3)
   clear k3 r7 s0 s2 s3 s4 s5 l5 s6
   cases q1
   case false=>
    have l:Hid (v=none):=by rw[<-z.o];exact lW (.inl e7.o)
    go_wp2_with fail
    go_ret
    exact⟨by rw[l.o];rfl,(λu s=>by rw[l.o] at s;cases s),M.o⟩
   have t2:=f0.o 2 _ rfl
   have t3:=f0.o 3 _ rfl
   go_wp2_with fail
   refine(CW.o _).mono ?_
   rintro e w4 ⟨rfl,rfl⟩
   cases q2
   case false=>
    have l:Hid (v=none):=by rw[<-z.o];exact lW (.inr (.inl e9.o))
    go_wp2_with fail
    go_ret
    exact⟨by rw[l.o];rfl,(λu s=>by rw[l.o] at s;cases s),M.o⟩
   by_cases j0:0<=f.gen
   case neg=>
    have X:decide (0<=f.gen)=false:=decide_eq_false j0
    cases gg
    case true=>
     have l:Hid (v=none):=by rw[<-z.o];exact lW (.inr (.inr (.inl (by rw[d0.o,X];simp))))
     go_wp2_with fail
     go_ret
     exact⟨by rw[l.o];rfl,(λu s=>by rw[l.o] at s;cases s),M.o⟩
    by_cases d6:f.gen < -1
    ·have l:Hid (v=none):=by rw[<-z.o];exact lW (.inr (.inr (.inr d6)))
     go_wp2_with fail
     go_ret
     exact⟨by rw[l.o];rfl,(λu s=>by rw[l.o] at s;cases s),M.o⟩
    have o2:decide (f.gen < -1)=false:=decide_eq_false d6
    have f1:Hid (cX aF p S (if j+1=0 then none else(y[j+1 - 1]?).map (λf=>(f.regs.length:Int))) u (y.drop (j+1))=v):=by
     rw[if_neg (by omega),show j+1 - 1=j from rfl,HX.o]
     show cX aF p S (some (f.regs.length:Int)) u (y.drop (j+1))=v
     rw[<-z.o,zZ e7.o e9.o d0.o X d6]
    clear j0 d6
    go_wp2_with fail
    go_roundw
    case rel=>exact⟨j+1,u,by go_num,by omega,f1.o,f8.o.below m3.o,by show _<=_;have:=f9.o;omega,M.o⟩
    case measure=>simp[RowKit.intOf];omega
   have X:decide (0<=f.gen)=true:=decide_eq_true j0
   cases gg
   case false=>
    have l:Hid (v=none):=by rw[<-z.o];exact lW (.inr (.inr (.inl (by rw[d0.o,X];simp))))
    go_wp2_with fail
    go_ret
    exact⟨by rw[l.o];rfl,(λu s=>by rw[l.o] at s;cases s),M.o⟩
   have o2:decide (f.gen < -1)=false:=decide_eq_false (by omega)
   have b3:=hI (acX (r:=y.drop (j+1)) (gens:=u) e7.o e9.o d0.o X)
   have CL:=hI (aaK ⟨5,f.gen⟩ 5 p S lb sb K _ _ w3 (m0.o.below t1.o).look)
   go_wp2_with fail
   refine CL.o.mono ?_
   rintro e w4 ⟨ck,c5,vv,fv,i9,rfl,⟨VA,VN,VC,rfl⟩,⟨FA,FN,FC,rfl⟩,n6,n7,k4⟩
   have m4:=hI n6
   have t4:=hI n7
   have t6:=btZ m3 k4
   have t7:=hI (M.o.then k4)
   have t9:=hI (f0.o.on k4)
   clear t2 t3 n6 n7 k4
   go_upto_region 12 with fail
   obtain⟨w5,d2⟩:∃w5,w5=w4.alloc (.cells #[.int .i64 ck,.int .i64 c5,.slice VA VN VC,.slice FA FN FC] 166):=⟨_,rfl⟩
   have f2:Hid (Below w4.heap.size w4 w5):=by rw[d2];exact aA _ _
   have m5:=btZ t6 f2.o
   have P:=hI (t7.o.then f2.o)
   have m6:=hI (t9.o.on f2.o)
   have o3:Hid (w5.cell? ⟨w4.heap.size,1,none⟩=some (.int .i64 c5)):=by rw[d2];exact cA _ _ _ _
   have G5:=hI (f8.o.below m5.o)
   have u2:=hI d2
   clear d2
   rw[<-u2.o]
   have a0:=ecZ o3.o
   have a1:∀E:Up w5,E.to.cell? ⟨lb,6,none⟩=some (.map (some K)):=λE=>E.cell ((P.o.cell _ e0).trans (HL.o 6 _ rfl))
   have a2:=ecZ (m6.o 3 _ rfl)
   have a3:∀E:Up w5,(Instr.lookup 155 (.map (some K)) (.int .i64 f.gen) false).run prog E.to=.ok (.int .i64 (if f.gen∈u then 1 else 0)) E.to:=λE=>tC (pF G5.o E.below) m1.o
   refine aD (by kernel_rfl) (by kernel_rfl) ?_
   repeat (go_big_quiet_step (fail))
   obtain⟨b0,d3⟩:∃b:Bool,((j:Int) == 0)=b:=⟨_,rfl⟩
   rw[d3]
   cases b0
   case true=>
    have l:Hid (v=none):=by
     have R:j=0:=by have:=beq_iff_eq.1 d3;omega
     have u3:low=none:=by rw[<-L.o,if_pos R]
     rw[<-z.o,b3.o,u3]
     cases bZ S ⟨5,f.gen⟩ 5 with
     | none=>rfl
     | some c=>exact if_pos (.inl rfl)
    repeat (go_big_quiet_step (fail))
    refine wpQuiet_nil ?_
    (first | rintro _ ⟨E,rfl⟩ | intro E)
    have KE:=hI (P.o.then E.below)
    clear a0 a1 a2 a3
    go_wp2_with fail
    go_ret
    exact⟨by rw[l.o];rfl,(λu s=>by rw[l.o] at s;cases s),KE.o⟩
   repeat (go_big_quiet_step (fail))
   obtain⟨w9,c3⟩:∃b:Bool,(!i9)=b:=⟨_,rfl⟩
   rw[c3]
   cases w9
   case true=>
    obtain rfl:i9=false:=by simpa using c3
    have l:Hid (v=none):=by
     rw[<-z.o,b3.o]
     cases hq:bZ S ⟨5,f.gen⟩ 5 with
     | none=>rfl
     | some c=>have:=m4.o;rw[hq] at this;cases this
    repeat (go_big_quiet_step (fail))
    refine wpQuiet_nil ?_
    (first | rintro _ ⟨E,rfl⟩ | intro E)
    have KE:=hI (P.o.then E.below)
    clear a0 a1 a2 a3
    go_wp2_with fail
    go_ret
    exact⟨by rw[l.o];rfl,(λu s=>by rw[l.o] at s;cases s),KE.o⟩
   obtain rfl:i9=true:=by simpa using c3
   obtain⟨c,hc⟩:∃c,bZ S ⟨5,f.gen⟩ 5=some c:=by
    cases hq:bZ S ⟨5,f.gen⟩ 5 with
    | none=>have:=m4.o;rw[hq] at this;cases this
    | some c=>exact⟨c,rfl⟩
   have b6:Hid ((if low=none\/c.num≠1\/f.gen∈u then none else cX aF p S (some (f.regs.length:Int)) (u++[f.gen]) (y.drop (j+1)))=v):=by
    rw[<-z.o,b3.o,hc];rfl
   obtain rfl:c5=c.num:=t4.o c hc
   clear hc
   repeat (go_big_quiet_step (fail))
   obtain⟨b2,Z⟩:∃b:Bool,(c.num != 1)=b:=⟨_,rfl⟩
   rw[Z]
   cases b2
   case true=>
    have l:Hid (v=none):=by rw[<-b6.o];exact if_pos (.inr (.inl (bne_iff_ne.1 Z)))
    repeat (go_big_quiet_step (fail))
    refine wpQuiet_nil ?_
    (first | rintro _ ⟨E,rfl⟩ | intro E)
    have KE:=hI (P.o.then E.below)
    clear a0 a1 a2 a3
    go_wp2_with fail
    go_ret
    exact⟨by rw[l.o];rfl,(λu s=>by rw[l.o] at s;cases s),KE.o⟩
   by_cases J:f.gen∈u
   ·rw[if_pos J] at a3
    have l:Hid (v=none):=by rw[<-b6.o];exact if_pos (.inr (.inr J))
    clear J
    repeat (go_big_quiet_step (fail))
    refine wpQuiet_nil ?_
    (first | rintro _ ⟨E,rfl⟩ | intro E)
    have KE:=hI (P.o.then E.below)
    clear a0 a1 a2 a3
    go_wp2_with fail
    go_ret
    exact⟨by rw[l.o];rfl,(λu s=>by rw[l.o] at s;cases s),KE.o⟩
   rw[if_neg J] at a3
   have f1:Hid (cX aF p S (if j+1=0 then none else(y[j+1 - 1]?).map (λf=>(f.regs.length:Int))) (u++[f.gen]) (y.drop (j+1))=v):=by
    rw[if_neg (by omega),show j+1 - 1=j from rfl,HX.o]
    show cX aF p S (some (f.regs.length:Int)) (u++[f.gen]) (y.drop (j+1))=v
    rw[<-b6.o,if_neg]
    rintro (h | h | h)
    ·have R:j≠0:=λh0=>by rw[h0] at d3;cases d3
     obtain⟨b',c2,f',h5,-,-,V,-⟩:=HS.o.at_ (i:=j - 1) (by omega)
     rw[<-L.o,if_neg R,V] at h
     cases h
    ·exact h (by simpa using Z)
    ·exact J h
   clear J
   repeat (go_big_quiet_step (fail))
   refine wpQuiet_nil ?_
   rintro _ ⟨E,rfl⟩
   obtain⟨w6,k6⟩:=E
   dsimp only
   have B8:=btZ m5 k6
   have m7:=hI (P.o.then k6)
   have G6:=hI (G5.o.below k6)
   have u4:=hI (m6.o.on k6)
   clear a0 a1 a2 a3 k6
   have e1:∀E:Up w6,E.to.cell? ⟨lb,6,none⟩=some (.map (some K)):=λE=>E.cell ((m7.o.cell _ e0).trans (HL.o 6 _ rfl))
   have e2:=ecZ (u4.o 3 _ rfl)
   go_upto_region 14 with fail
   refine aU 6 (by kernel_rfl) (by kernel_rfl) ?_
   simp only[List.take_succ_cons,List.take_zero,List.drop_succ_cons,List.drop_zero]
   repeat (go_big_quiet_step (fail))
   refine wpQuiet_nil ?_
   (first | rintro _ ⟨E,rfl⟩ | intro E)
   obtain⟨w7,k7⟩:=E
   dsimp only
   have u5:=hI (m7.o.then k7)
   have G7:=hI (G6.o.below k7)
   have o7:=hI (rJ m1.o)
   clear e1 e2 k7
   have u7:u.length<maxLen:=by have:=f9.o;have:=j2.o;unfold maxLen;omega
   go_wp2_with (first
    | (at_mapUpdate;refine wpList_mapUpdate_own _ rfl _ _ _ 155 rfl 3 3 adC underlying155 _ K u.length _ rfl G7.o u7 _ _ _ rfl rfl o7.o _ [] (plainElem_int underlying3 (by decide)) ?_;intro w8 d4 a4)
    | fail)
   have G8:Hid (oM w8 K (u++[f.gen])):=by
    show w8.ownsMap _ _ _ _ _ _
    rw[rA,List.length_append];exact d4
   have v0:=hI (u5.o.trans (gW.grown a4 G7.o.map G8.o.map))
   clear d4 a4
   go_wp2_with fail
   go_roundw
   case rel=>exact⟨j+1,u++[f.gen],by go_num,by omega,f1.o,G8.o,by show _<=_;have:=f9.o;rw[List.length_append];simp;omega,v0.o⟩
   case measure=>simp[RowKit.intOf];omega
end
section
open Go.RowKit Go.Maps Go.WideMaps
theorem ahQ {v:Val} (h1:(v.kind == 0)=true) (g:(v.n == 0)=true):v=⟨0,0⟩:=by obtain⟨a,b⟩:=v;have d:=beq_iff_eq.1 h1;have f:=beq_iff_eq.1 g;dsimp only at d f;rw[d,f]
def lZ (h:cD):Bool:=h.state == 3 || h.state == 4
theorem iC {R:Val->Bool} {p:aZ} {S:aP} {gens:List Int} {h:cD} (hb:(lZ h != h.frames.isEmpty)=true\/(lZ h=false/\h.val≠⟨0,0⟩)\/eU R S h.val=false\/aL h.state 0 4=false):gJ R p S gens h=none:=by
 unfold gJ;refine if_pos ?_;unfold lZ at hb;rcases hb with e | ⟨e,d⟩ | e | e;·rw[e];rfl
 ·rw[e,show(h.val != ⟨0,0⟩)=true from bne_iff_ne.2 d];simp
 ·rw[e];simp
 ·rw[e];simp
theorem vQ {R:Val->Bool} {p:aZ} {S:aP} {gens:List Int} {h:cD} (h1:(lZ h != h.frames.isEmpty)=false) (d:lZ h=true\/h.val=⟨0,0⟩) (f:eU R S h.val=true) (g:aL h.state 0 4=true):gJ R p S gens h = if h.state=1/\bZ S ⟨5,h.on_⟩ 6=none then none else if h.state=2/\aL h.on_ 0 ((S.threads.length:Int) - 1)=false then none else if h.state≠1/\h.state≠2/\h.on_≠0 then none else cX R p S none gens h.frames:=by
 unfold gJ;refine if_neg ?_;unfold lZ at h1 d;rw[h1,f,g];rcases d with e | e;·rw[e];simp
 ·rw[e];simp
theorem ahW (tcs:List Value) (h:cD) (gens:List Int) (p:aZ) (S:aP) (lb Z mb:Nat) (tv yv:Value) (w:World) (ht:eM w w.heap.size tcs h) (hl:kY w lb p S Z mb tv yv) (A:oM w mb gens) (c1:lC p) (m6:0<p.fns.length) (f7:gens.length+h.frames.length<=1000000) : Calls prog 150 #[.pointer (some ⟨lb,0,none⟩),.agg ⟨tcs⟩] w (nN (gJ aF p S gens h) mb w):=by
 obtain⟨f,a7⟩:∃r,gJ aF p S gens h=r:=⟨_,rfl⟩;rw[a7];unfold nN;have l:=hI a7;obtain⟨fv,rfl,c0,-⟩:=ht;obtain⟨FA,fc,rfl,-⟩:=id c0;have lf:=aM c0;have HF:=hI c0;have LT:=hI hl;have HG:=hI A;have i4:=hI c1;obtain⟨pa,pb,pc,g5,j3⟩:=hl.look.here;have g0:=hl.look.size;have HL:=hI g5;obtain⟨A0,n0,A1,n1,A2,n2,A3,n3,A4,n4,A5,n5,hh,hb,s0,s1,s2,s3,-⟩:=hl.look.st.parts;have ls:=aM s3;have HH:=hI hh;obtain⟨w1,V⟩:∃w1,w1=w.alloc (.cells #[.slice FA h.frames.length fc,.int .i64 h.state,.int .i64 h.on_,.int .i64 h.val.kind,.int .i64 h.val.n] 140):=⟨_,rfl⟩;have K1:Hid (Below w.heap.size w w1):=by rw[V];exact aA _ _
 have N:Hid (aJ w1 w.heap.size [.slice FA h.frames.length fc,.int .i64 h.state,.int .i64 h.on_,.int .i64 h.val.kind,.int .i64 h.val.n]):=by rw[V];exact akV _ _ _
 have p2:w.heap.size<w1.heap.size:=by rw[V];simp
 have i6:=hI V;clear V a7 c0 hl A c1 g5 j3 hh s0 s1 s2 s3;go_enter func150,ntmps150;go_upto_region 1 with fail;rw[<-i6.o];go_cut [5] (λa wx=>a=.bool (lZ h)/\wx=w1)
 case first=>
  have e1:=N.o 1 _ rfl;by_cases c3:h.state=3;·rw[c3] at e1;have HO:Hid (lZ h=true):=(by unfold lZ;rw[c3];rfl);go_wp2_with fail;go_meet;case rel=>exact⟨by rw[HO.o],rfl⟩
  ·have b3:(h.state == 3)=false:=bF c3;have HO:Hid (lZ h=(h.state == 4)):=(by unfold lZ;rw[b3];rfl);go_wp2_with fail;go_meet;case rel=>exact⟨by rw[HO.o],rfl⟩
 case rest=>
  obtain⟨rfl,g6⟩:=hcut
  rw[g6]
  clear g6
  obtain⟨ov,d8⟩:∃o,lZ h=o:=⟨_,rfl⟩
  rw[d8]
  have O:=hI d8
  obtain⟨em,k6⟩:∃o,((h.frames.length:Int) == 0)=o:=⟨_,rfl⟩
  have g1:Hid (h.frames.isEmpty=em):=by rw[<-k6,jT];rfl
  have H:=ecZ (N.o 0 _ rfl)
  have I:=ecZ (N.o 1 _ rfl)
  have J:=ecZ (N.o 3 _ rfl)
  have K:=ecZ (N.o 4 _ rfl)
  have L:∀E:Up w1,E.to.cell? ⟨lb,3,none⟩=some (.pointer (some ⟨Z,0,none⟩)):=λE=>E.cell ((K1.o.cell g0).trans (HL.o 3 _ rfl))
  have P:Hid (∀E:Up w1,Calls prog 206 #[.pointer (some ⟨Z,0,none⟩),.agg #[.int .i64 h.val.kind,.int .i64 h.val.n]] E.to (aK (.bool (eU aF S h.val)) E.to)):=λE=>ae2 h.val S Z E.to (((LT.o.below K1.o).below E.below).look.st)
  have CW:Hid (∀W,Calls prog 146 #[.int .i64 h.state,.int .i64 0,.int .i64 4] W λe w'=>e=.returned (.bool (aL h.state 0 4))/\W=w'):=λW=>kC _ _ _ W
  obtain⟨qf,e3⟩:∃q,eU aF S h.val=q:=⟨_,rfl⟩
  obtain⟨qw,e4⟩:∃q,aL h.state 0 4=q:=⟨_,rfl⟩
  rw[e3] at P
  rw[e4] at CW
  have b5:=hI e3
  have b6:=hI e4
  have M:=trivial
  clear d8 e3 e4
  go_upto_region 2 with fail
  go_cut [47] (λa wx=>∃bd:Bool,a=.bool bd/\Hid (bd=true->f=none)/\Hid (bd=false->(if h.state=1/\bZ S ⟨5,h.on_⟩ 6=none then none
   else if h.state=2/\aL h.on_ 0 ((S.threads.length:Int) - 1)=false then none
   else if h.state≠1/\h.state≠2/\h.on_≠0 then none
   else cX aF p S none gens h.frames)=f)/\Hid (Below w1.heap.size w1 wx))
  case first=>
   refine aD (by kernel_rfl) (by kernel_rfl) ?_
   repeat (go_big_quiet_step (fail))
   obtain⟨b1,e5⟩:∃b:Bool,(!(ov == em))=b:=⟨_,rfl⟩
   rw[e5]
   cases b1
   case true=>
    have d:Hid (f=none):=by rw[<-l.o];exact iC (.inl (by rw[O.o,g1.o];exact e5))
    repeat (go_big_quiet_step (fail))
    refine wpQuiet_nil ?_
    (first | rintro _ ⟨E,rfl⟩ | intro E)
    obtain⟨j,g⟩:=E
    dsimp only
    have u:=hI g
    clear H I J K L M g
    go_wp2_with fail
    go_meet
    case rel=>exact⟨true,rfl,(λ_=>d.o),(λh=>by cases h),u⟩
   have c9:Hid ((lZ h != h.frames.isEmpty)=false):=by rw[O.o,g1.o];exact e5
   repeat (go_big_quiet_step (fail))
   obtain⟨k7,a9⟩:∃b:Bool,(!ov)=b:=⟨_,rfl⟩
   rw[a9]
   cases k7
   case true=>
    obtain rfl:ov=false:=by simpa using a9
    repeat (go_big_quiet_step (fail))
    obtain⟨bk,e6⟩:∃b,(h.val.kind == 0)=b:=⟨_,rfl⟩
    cases bk
    case false=>
     have d:Hid (f=none):=by rw[<-l.o];exact iC (.inr (.inl ⟨O.o,λe=>by rw[e] at e6;cases e6⟩))
     repeat (go_big_quiet_step (fail))
     refine wpQuiet_nil ?_
     (first | rintro _ ⟨E,rfl⟩ | intro E)
     obtain⟨j,g⟩:=E
     dsimp only
     have u:=hI g
     clear H I J K L M g
     go_wp2_with fail
     go_meet
     case rel=>exact⟨true,rfl,(λ_=>d.o),(λh=>by cases h),u⟩
    obtain⟨bn,e7⟩:∃b,(h.val.n == 0)=b:=⟨_,rfl⟩
    cases bn
    case false=>
     have d:Hid (f=none):=by rw[<-l.o];exact iC (.inr (.inl ⟨O.o,λe=>by rw[e] at e7;cases e7⟩))
     repeat (go_big_quiet_step (fail))
     refine wpQuiet_nil ?_
     (first | rintro _ ⟨E,rfl⟩ | intro E)
     obtain⟨j,g⟩:=E
     dsimp only
     have u:=hI g
     clear H I J K L M g
     go_wp2_with fail
     go_meet
     case rel=>exact⟨true,rfl,(λ_=>d.o),(λh=>by cases h),u⟩
    have d0:Hid (lZ h=true\/h.val=⟨0,0⟩):=.inr (ahQ e6 e7)
    repeat (go_big_quiet_step ((first | (go_at_call 206;with_reducible exact Calls.up (P.o _)) | (go_at_call 146;with_reducible exact akW (CW.o _)))))
    obtain⟨e9,y⟩:∃b:Bool,(!qf)=b:=⟨_,rfl⟩
    rw[y]
    cases e9
    case true=>
     obtain rfl:qf=false:=by simpa using y
     have d:Hid (f=none):=by rw[<-l.o];exact iC (.inr (.inr (.inl b5.o)))
     repeat (go_big_quiet_step (fail))
     refine wpQuiet_nil ?_
     (first | rintro _ ⟨E,rfl⟩ | intro E)
     obtain⟨j,g⟩:=E
     dsimp only
     have u:=hI g
     clear H I J K L M g
     go_wp2_with fail
     go_meet
     case rel=>exact⟨true,rfl,(λ_=>d.o),(λh=>by cases h),u⟩
    obtain rfl:qf=true:=by simpa using y
    repeat (go_big_quiet_step ((first | (go_at_call 206;with_reducible exact Calls.up (P.o _)) | (go_at_call 146;with_reducible exact akW (CW.o _)))))
    obtain⟨f0,z⟩:∃b:Bool,(!qw)=b:=⟨_,rfl⟩
    rw[z]
    cases f0
    case true=>
     obtain rfl:qw=false:=by simpa using z
     have d:Hid (f=none):=by rw[<-l.o];exact iC (.inr (.inr (.inr b6.o)))
     repeat (go_big_quiet_step (fail))
     refine wpQuiet_nil ?_
     (first | rintro _ ⟨E,rfl⟩ | intro E)
     obtain⟨j,g⟩:=E
     dsimp only
     have u:=hI g
     clear H I J K L M g
     go_wp2_with fail
     go_meet
     case rel=>exact⟨true,rfl,(λ_=>d.o),(λh=>by cases h),u⟩
    obtain rfl:qw=true:=by simpa using z
    repeat (go_big_quiet_step (fail))
    refine wpQuiet_nil ?_
    (first | rintro _ ⟨E,rfl⟩ | intro E)
    obtain⟨j,g⟩:=E
    dsimp only
    have u:=hI g
    clear H I J K L M g
    go_wp2_with fail
    go_meet
    case rel=>exact⟨false,rfl,(λh=>by cases h),(λ_=>by rw[<-l.o];exact(vQ c9.o d0.o b5.o b6.o).symm),u⟩
   obtain rfl:ov=true:=by simpa using a9
   have d0:Hid (lZ h=true\/h.val=⟨0,0⟩):=.inl O.o
   repeat (go_big_quiet_step ((first | (go_at_call 206;with_reducible exact Calls.up (P.o _)) | (go_at_call 146;with_reducible exact akW (CW.o _)))))
   obtain⟨e9,y⟩:∃b:Bool,(!qf)=b:=⟨_,rfl⟩
   rw[y]
   cases e9
   case true=>
    obtain rfl:qf=false:=by simpa using y
    have d:Hid (f=none):=by rw[<-l.o];exact iC (.inr (.inr (.inl b5.o)))
    repeat (go_big_quiet_step (fail))
    refine wpQuiet_nil ?_
    (first | rintro _ ⟨E,rfl⟩ | intro E)
    obtain⟨j,g⟩:=E
    dsimp only
    have u:=hI g
    clear H I J K L M g
    go_wp2_with fail
    go_meet
    case rel=>exact⟨true,rfl,(λ_=>d.o),(λh=>by cases h),u⟩
   obtain rfl:qf=true:=by simpa using y
   repeat (go_big_quiet_step ((first | (go_at_call 206;with_reducible exact Calls.up (P.o _)) | (go_at_call 146;with_reducible exact akW (CW.o _)))))
   obtain⟨f0,z⟩:∃b:Bool,(!qw)=b:=⟨_,rfl⟩
   rw[z]
   cases f0
   case true=>
    obtain rfl:qw=false:=by simpa using z
    have d:Hid (f=none):=by rw[<-l.o];exact iC (.inr (.inr (.inr b6.o)))
    repeat (go_big_quiet_step (fail))
    refine wpQuiet_nil ?_
    (first | rintro _ ⟨E,rfl⟩ | intro E)
    obtain⟨j,g⟩:=E
    dsimp only
    have u:=hI g
    clear H I J K L M g
    go_wp2_with fail
    go_meet
    case rel=>exact⟨true,rfl,(λ_=>d.o),(λh=>by cases h),u⟩
   obtain rfl:qw=true:=by simpa using z
   repeat (go_big_quiet_step (fail))
   refine wpQuiet_nil ?_
   (first | rintro _ ⟨E,rfl⟩ | intro E)
   obtain⟨j,g⟩:=E
   dsimp only
   have u:=hI g
   clear H I J K L M g
   go_wp2_with fail
   go_meet
   case rel=>exact⟨false,rfl,(λh=>by cases h),(λ_=>by rw[<-l.o];exact(vQ c9.o d0.o b5.o b6.o).symm),u⟩
  case rest=>
   obtain⟨j,k8⟩:∃j,j=wc:=⟨_,rfl⟩
   subst k8
   obtain⟨bd,rfl,HT,g7,KC⟩:=hcut
   have x:=btZ K1 KC.o
   have d1:=hI (N.o.on KC.o)
   have i9:=hI (LT.o.below x.o)
   have p3:=hI (HF.o.keep x.o.size (λ_ hp=>x.o.cell hp) (λ_ _ h=>h))
   have G2:=hI (HG.o.below x.o)
   clear H I J K L M
   cases bd
   case true=>
    have d:Hid (f=none):=HT.o rfl
    go_wp2_with fail
    go_ret
    exact⟨by rw[d.o];rfl,(λgs A=>by rw[d.o] at A;cases A),gW.of x.o⟩
   have v:Hid ((if h.state=1/\bZ S ⟨5,h.on_⟩ 6=none then none
   else if h.state=2/\aL h.on_ 0 ((S.threads.length:Int) - 1)=false then none
   else if h.state≠1/\h.state≠2/\h.on_≠0 then none
   else cX aF p S none gens h.frames)=f):=g7.o rfl
   clear g7 HT
   have e1:=d1.o 1 _ rfl
   have e2:=d1.o 2 _ rfl
   obtain⟨st,h0⟩:∃s,h.state=s:=⟨_,rfl⟩
   obtain⟨on,h1⟩:∃s,h.on_=s:=⟨_,rfl⟩
   have E1:=hI e1
   rw[h0] at e1 v
   rw[h1] at e2 v
   have d3:Hid (∀W,Below j.heap.size j W->W.cell? ⟨w.heap.size,0,none⟩=some (.slice FA h.frames.length fc)):=λW k=>(d1.o.on k) 0 _ rfl
   have CS:Hid (∀W,Below j.heap.size j W->Calls prog 208 #[.pointer (some ⟨lb,0,none⟩),.slice FA h.frames.length fc] W (nN (cX aF p S none gens h.frames) mb W)):=λW k=>by
    have kk:=btZ x k
    exact stack_c FA fc h.frames gens p S lb Z mb _ _ W ((HF.o.keep kk.size (λ_ hp=>kk.cell hp) (λ_ _ h=>h.keep kk.size (λ_ hp=>kk.cell hp)))) (LT.o.below kk) (HG.o.below kk) i4.o m6 f7
   clear h0 h1
   by_cases s1:st=1
   ·subst s1
    have CL:=hI (aaK ⟨5,on⟩ 6 p S lb Z mb _ _ j i9.o.look)
    go_wp2_with fail
    refine CL.o.mono ?_
    rintro e w3 ⟨ck,f2,vv,fv,l4,rfl,⟨VA,VN,VC,rfl⟩,⟨h2,FN,FC,rfl⟩,h3,-,k3⟩
    have g2:=hI h3
    have g3:=hI k3
    have K3:=btZ x k3
    clear e1 e2 h3 k3
    cases l4
    case false=>
     have d:Hid (f=none):=by
      have j1:bZ S ⟨5,on⟩ 6=none:=by
       cases hq:bZ S ⟨5,on⟩ 6 with
       | none=>rfl
       | some c=>have:=g2.o;rw[hq] at this;cases this
      rw[<-v.o,j1]
      simp
      trivial
     have u:Hid (Below w.heap.size w (w3.alloc (.cells #[.int .i64 ck,.int .i64 f2,.slice VA VN VC,.slice h2 FN FC] 166))):=K3.o.alloc K3.o.size _
     go_wp2_with fail
     go_ret
     exact⟨by rw[d.o];rfl,(λgs A=>by rw[d.o] at A;cases A),gW.of u.o⟩
    have R:Hid (cX aF p S none gens h.frames=f):=by
     show _=_
     rw[<-v.o,if_neg,if_neg (by simp),if_neg (by simp)]
     rintro ⟨-,hq⟩
     have:=g2.o
     rw[hq] at this;cases this
    obtain⟨X,f1⟩:∃X,X=w3.alloc (.cells #[.int .i64 ck,.int .i64 f2,.slice VA VN VC,.slice h2 FN FC] 166):=⟨_,rfl⟩
    have G:Hid (Below j.heap.size j X):=by rw[f1];exact g3.o.alloc g3.o.size _
    have j2:=hI f1
    clear f1
    go_upto_region 9 with fail
    rw[<-j2.o]
    have e0:=d3.o X G.o
    go_wp2_with fail
    refine(CS.o X G.o).mono ?_
    rintro e w5 ⟨rfl,F,Y⟩
    have D:=hI F
    have K5:=hI ((gW.of (x.o.trans (G.o.mono x.o.size))).trans Y)
    rw[R.o] at D ⊢
    clear F Y e0
    go_wp2_with fail
    go_ret
    exact⟨rfl,D.o,K5.o⟩
   have m1:(st == 1)=false:=bF s1
   by_cases s2:st=2
   ·subst s2
    rw[if_neg (by simp)] at v
    have g4:Hid (∀W,Calls prog 146 #[.int .i64 on,.int .i64 0,.int .i64 ((S.threads.length:Int) - 1)] W λe w'=>e=.returned (.bool (aL on 0 ((S.threads.length:Int) - 1)))/\W=w'):=λW=>kC _ _ _ W
    obtain⟨q,hq⟩:∃q,aL on 0 ((S.threads.length:Int) - 1)=q:=⟨_,rfl⟩
    rw[hq] at g4 v
    clear hq
    have b0:=ecZ e2
    have b1:∀E:Up j,E.to.cell? ⟨lb,3,none⟩=some (.pointer (some ⟨Z,0,none⟩)):=λE=>E.cell ((x.o.cell g0).trans (HL.o 3 _ rfl))
    have b2:∀E:Up j,E.to.cell? ⟨Z,3,none⟩=some (.slice A3 S.threads.length n3):=λE=>E.cell ((x.o.cell hb).trans (HH.o 3 _ rfl))
    go_upto_region 12 with fail
    refine aD (by kernel_rfl) (by kernel_rfl) ?_
    repeat (go_big_quiet_step ((go_at_call 146;with_reducible exact akW (g4.o _))))
    refine wpQuiet_nil ?_
    (first | rintro _ ⟨E,rfl⟩ | intro E)
    obtain⟨X,k4⟩:=E
    dsimp only
    have G:=hI k4
    have K4:=btZ x k4
    clear b0 b1 b2 e1 e2 k4
    cases q
    case false=>
     have d:Hid (f=none):=by rw[<-v.o];exact if_pos (by simp)
     go_wp2_with fail
     go_ret
     exact⟨by rw[d.o];rfl,(λgs A=>by rw[d.o] at A;cases A),gW.of K4.o⟩
    have R:Hid (cX aF p S none gens h.frames=f):=by
     show _=_
     rw[<-v.o,if_neg (by simp),if_neg (by simp)]
    have e0:=d3.o X G.o
    go_wp2_with fail
    refine(CS.o X G.o).mono ?_
    rintro e w5 ⟨rfl,F,Y⟩
    have D:=hI F
    have K5:=hI ((gW.of (x.o.trans (G.o.mono x.o.size))).trans Y)
    rw[R.o] at D ⊢
    clear F Y e0
    go_wp2_with fail
    go_ret
    exact⟨rfl,D.o,K5.o⟩
   have m2:(st == 2)=false:=bF s2
   rw[if_neg (by rintro ⟨h,-⟩;exact s1 h),if_neg (by rintro ⟨h,-⟩;exact s2 h)] at v
   by_cases o0:on=0
   ·subst o0
    have R:Hid (cX aF p S none gens h.frames=f):=by
     show _=_
     rw[<-v.o,if_neg (by simp)]
    have e0:=d3.o j (Below.refl _ _)
    go_wp2_with fail
    refine(CS.o j (Below.refl _ _)).mono ?_
    rintro e w5 ⟨rfl,F,Y⟩
    have D:=hI F
    have K5:=hI ((gW.of x.o).trans Y)
    rw[R.o] at D ⊢
    clear F Y e0 e1 e2
    go_wp2_with fail
    go_ret
    exact⟨rfl,D.o,K5.o⟩
   ·have d:Hid (f=none):=by rw[<-v.o];exact if_pos ⟨s1,s2,o0⟩
    have mo:(on == 0)=false:=bF o0
    have p4:(on != 0)=true:=bne_iff_ne.2 o0
    go_wp2_with fail
    go_ret
    exact⟨by rw[d.o];rfl,(λgs A=>by rw[d.o] at A;cases A),gW.of x.o⟩
end
section
open Go.RowKit
def bW {α : Type} (w:World) (Q:Nat->Prop) (size:Nat) (R:List Value->α->Prop) (v:Value) (xs:List α):Prop:=
 ∃A cap,v=.slice A xs.length cap/\xs.length<=cap/\cap<=maxLen/\
  (0<xs.length->∃b off,A=some ⟨b,off,none⟩/\Q b/\∀i x,xs[i]? = some x->∃cs,cs.length=size/\R cs x/\jY w b (off+i*size) cs)
theorem bW.keep {α : Type} {w w':World} {Q Q':Nat->Prop} {size:Nat} {R R':List Value->α->Prop} {v:Value} {xs:List α} (h:bW w Q size R v xs) (G:∀b,Q b->Q' b) (H:∀p:Addr,Q p.block->w'.cell? p=w.cell? p) (I:∀cs x,R cs x->R' cs x):bW w' Q' size R' v xs:=by obtain⟨A,d,h1,l,q,r⟩:=h;refine⟨A,d,h1,l,q,λE=>?_⟩;obtain⟨b,f,s,g,u⟩:=r E;refine⟨b,f,s,G b g,λi x hi=>?_⟩;obtain⟨cs,y,z,D⟩:=u i x hi;exact⟨cs,y,I cs x z,λj v F=>(H ⟨b,_,none⟩ g).trans (D j v F)⟩
theorem bW.toR {α : Type} {w:World} {Q:Nat->Prop} {B size:Nat} {R R':List Value->α->Prop} {v:Value} {xs:List α} (h:bW w Q size R v xs) (D:∀b,Q b->b<B) (E:∀cs x,R cs x->R' cs x):aB w B size R' v xs:=by obtain⟨A,d,h1,g,j,l⟩:=h;refine⟨A,d,h1,g,j,λz=>?_⟩;obtain⟨b,f,p,q,r⟩:=l z;refine⟨b,f,p,D b q,λi x hi=>?_⟩;obtain⟨cs,s,u,y⟩:=r i x hi;exact⟨cs,s,E cs x u,y⟩
theorem aB.toQ {α : Type} {w:World} {B size:Nat} {R:List Value->α->Prop} {v:Value} {xs:List α} (h:aB w B size R v xs):bW w (· < B) size R v xs:=h
theorem bW.nil {α : Type} (w:World) (Q:Nat->Prop) (size:Nat) (R:List Value->α->Prop):bW w Q size R (.slice none 0 0) []:=⟨none,0,rfl,Nat.le_refl _,by decide,by simp⟩
theorem iD {α : Type} {w:World} {Q:Nat->Prop} {base size:Nat} {e:TypeId} {A:Option Addr} {c:Nat} {rows:List (List Value)} {xs:List α} {R:List Value->α->Prop} (h:w.ownsRow base e size (.slice A xs.length c) xs.length (rows.flatMap id)) (hl:rows.length=xs.length) (j:∀r∈rows,r.length=size) (v:∀g cs,(.slice A xs.length c:Value).ownBlock=some g->base<=g->w.heap[g]? = some (.cells cs e (0,0))->Q g) (y:∀(i:Nat) (r:List Value) (x : α),rows[i]? = some r->xs[i]? = some x->R r x):bW w Q size R (.slice A xs.length c) xs:=by
 rcases h.2 with ⟨d,D⟩ | ⟨g,H,s,d,hb,E,h1,F,K,L⟩;·have:xs=[]:=List.length_eq_zero_iff.1 D;subst this;rw[d];exact bW.nil _ _ _ _
 ·injection d with d J z
  subst d;subst z;refine⟨_,_,rfl,h1,F,λI=>⟨g,0,rfl,v g s rfl hb E,λi x hi=>?_⟩⟩;have G:=(lE hi).1;have f:rows[i]? = some (rows[i]'(by omega)):=lG (by omega);refine⟨_,j _ (lM f),y i _ x f hi,λk u q=>?_⟩;have l:k<size:=by have:=(lE q).1;have:=j _ (lM f);omega
  have p:i*size+k<xs.length*size:=by have:(i+1)*size<=xs.length*size:=Nat.mul_le_mul_right _ (by omega);rw[Nat.succ_mul] at this;omega
  rw[Nat.zero_add,World.ownsRow.cellAt h (i*size+k) p,dB rows i k _ j f l];exact q
theorem aW.toQ {α : Type} {w:World} {B:Nat} {ty:TypeId} {size:Nat} {R:List Value->α->Prop} {v:Value} {xs:List α} {Q:Nat->Prop} (h:aW w B ty size R v xs) (I:∀b cs d,B<=b->w.heap[b]? = some (.cells cs ty d)->Q b):bW w Q size R v xs:=by obtain⟨A,f,h1,p,q,r⟩:=h;refine⟨A,f,h1,p,q,λG=>?_⟩;obtain⟨b,g,cs,d,s,y,l,z⟩:=r G;refine⟨b,g,s,I b cs d y l,λi x hi=>?_⟩;obtain⟨c,D,E,F⟩:=z i x hi;exact⟨c,D,E,λj u H=>(cell_of_row w b _ _ _ _ l).trans (F j u H)⟩
end
end Go.Proofs.YtijihlcdhppfgaaGreatDoor
