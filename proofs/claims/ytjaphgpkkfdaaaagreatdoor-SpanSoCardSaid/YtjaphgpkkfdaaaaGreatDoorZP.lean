/- Part of the walk of the given code: contracts of the functions that irun.Run reaches, and plain laws on what it reckons. -/
import Derived.Test.YtjaphgpkkfdaaaaGreatDoorZO
set_option maxHeartbeats 16000000
set_option maxRecDepth 100000
set_option linter.all false
namespace Go.Proofs.YtjaphgpkkfdaaaaGreatDoor
open Tryz
section
open Go.RowKit Go.Maps Go.WideMaps
def lN (w:World) (mb:Nat) (gs:List Int):Prop:=w.ownsMap prog 3 (plainElem prog 3) mb gs.length (jB mZ gs)
structure fB (mb:Nat) (w w':World):Prop where
 os:w'.os=w.os
 tape:w'.tape=w.tape
 output:w'.output=w.output
 size:w.heap.size<=w'.heap.size
 block:∀k,k<w.heap.size->k≠mb->w'.heap[k]? = w.heap[k]?
 cell:∀p:Addr,p.block<w.heap.size->w'.cell? p=w.cell? p
theorem fB.of {f:Nat} {w w':World} (h:Below w.heap.size w w'):fB f w w':=⟨h.os,h.tape,h.output,h.size,λk d _=>h.block k d,λ_ e=>h.cell e⟩
theorem fB.trans {d:Nat} {a b c:World} (h:fB d a b) (g:fB d b c):fB d a c:= ⟨g.os.trans h.os,g.tape.trans h.tape,g.output.trans h.output,Nat.le_trans h.size g.size,λk e f=>(g.block k (Nat.lt_of_lt_of_le e h.size) f).trans (h.block k e f),λp i=>(g.cell p (Nat.lt_of_lt_of_le i h.size)).trans (h.cell p i)⟩
theorem fB.then {d:Nat} {a b c:World} (h:fB d a b) (g:Below b.heap.size b c):fB d a c:=h.trans (fB.of g)
theorem lN.map {w:World} {f:Nat} {g:List Int} (h:lN w f g):∃e c,w.heap[f]? = some (.map e c):=by obtain⟨e,d,hb,-⟩:=h;exact⟨e,d,hb⟩
theorem wL {w:World} {p:Addr} {d:Array MapEntry} {c:Nat} (h:w.heap[p.block]? = some (.map d c)):w.cell? p=none:=by unfold World.cell?;rw[h]
theorem fB.grown {f:Nat} {w w':World} (d:w.grownBy w' (some f)) (h:∃g c,w.heap[f]? = some (.map g c)) (i:∃g c,w'.heap[f]? = some (.map g c)):fB f w w':=by
 refine⟨d.os,d.tape,d.output,d.size,λk j l=>d.block k j (λe=>l (by injection e)),λp m=>?_⟩;by_cases c:p.block=f;·obtain⟨g,s,h⟩:=h;obtain⟨q,r,i⟩:=i;rw[wL (by rw[c];exact i),wL (by rw[c];exact h)]
 ·exact World.cell?_of_block (d.block p.block m (λe=>c (by injection e)))
theorem lN.below {w w':World} {d:Nat} {e:List Int} (h:lN w d e) (f:Below w.heap.size w w'):lN w' d e:=mJ h f
theorem iJ.turn {w w':World} {e m:Nat} {S:aR} (h:iJ w e S) (t:fB m w w'):iJ w' e S:=by obtain⟨cs,f,d,g⟩:=h;exact⟨cs,λi v j=>(t.cell _ d).trans (f i v j),Nat.lt_of_lt_of_le d t.size,g.keep t.size (λp l=>t.cell p l)⟩
theorem iV.turn {w w':World} {f:Nat} {p:aW} {S:aR} {g z m:Nat} {j l:Value} (h:iV w f p S g m j l) (t:fB z w w'):iV w' f p S g m j l:=by obtain⟨⟨⟨a,b,c,q,r⟩,e,s⟩,u,x⟩:=h;exact⟨⟨⟨a,b,c,λi v y=>(t.cell _ e).trans (q i v y),r.keep t.size (λp d=>t.cell p d)⟩,Nat.lt_of_lt_of_le e t.size,s.turn t⟩,u.keep t.size (λp d=>t.cell p d),x.keep t.size (λp d=>t.cell p d)⟩
def kR (res:Option (List Int)) (mb:Nat) (w:World) (e:Ending) (w':World):Prop:=e=.returned (.bool res.isSome)/\(∀gs,res=some gs->lN w' mb gs)/\fB mb w w'
theorem jO {R:Val->Bool} {p:aW} {S:aR} {low:Option Int} {gens:List Int} {f:a8} {r:List a8} (h:dB R p S f=false\/aK f.tos (-1) (low.getD 0 - 1)=false\/(gD p (max 0 (min f.fn ((p.fns.length:Int) - 1)))).gen≠decide (0<=f.gen)\/f.gen < -1):b7 R p S low gens (f::r)=none:=by
 unfold b7;dsimp only;refine if_pos ?_;rcases h with h | h | h | h;·rw[h];rfl
 ·rw[h];simp
 ·rw[show((gD p (max 0 (min f.fn ((p.fns.length:Int) - 1)))).gen != decide (0<=f.gen))=true from bne_iff_ne.2 h];simp
 ·rw[decide_eq_true h];simp
theorem uM {R:Val->Bool} {p:aW} {S:aR} {low:Option Int} {gens:List Int} {f:a8} {r:List a8} (d:dB R p S f=true) (e:aK f.tos (-1) (low.getD 0 - 1)=true) (g:(gD p (max 0 (min f.fn ((p.fns.length:Int) - 1)))).gen=false) (h:decide (0<=f.gen)=false) (i:¬f.gen < -1):b7 R p S low gens (f::r)=b7 R p S (some f.regs.length) gens r:=by
 conv=>lhs;unfold b7
 dsimp only;rw[d,e,g,h,decide_eq_false i];rfl
theorem xA {R:Val->Bool} {p:aW} {S:aR} {low:Option Int} {gens:List Int} {f:a8} {r:List a8} (g:dB R p S f=true) (h:aK f.tos (-1) (low.getD 0 - 1)=true) (i:(gD p (max 0 (min f.fn ((p.fns.length:Int) - 1)))).gen=true) (d:decide (0<=f.gen)=true):b7 R p S low gens (f::r) = match bM S ⟨5,f.gen⟩ 5 with | none=>none | some c=>if low=none\/c.num≠1\/f.gen∈gens then none else b7 R p S (some f.regs.length) (gens++[f.gen]) r:=by
 have e:¬f.gen < -1:=by have:=of_decide_eq_true d;omega
 conv=>lhs;unfold b7
 dsimp only;rw[g,h,i,d,decide_eq_false e];rfl
theorem stack_c (A:Option Addr) (n7:Nat) (y:List a8) (gens:List Int) (p:aW) (S:aR) (lb sb J:Nat) (tv yv:Value) (w:World) (hs:aH w w.heap.size 8 (eR w w.heap.size) (.slice A y.length n7) y) (h:iV w lb p S sb J tv yv) (s:lN w J gens) (d4:i8 p) (C6:0<p.fns.length) (a4:gens.length+y.length<=1000000) : Calls prog 135 #[.pointer (some ⟨lb,0,none⟩),.slice A y.length n7] w (kR (b7 aG p S none gens y) J w):=by
 obtain⟨v,b6⟩:∃r,b7 aG p S none gens y=r:=⟨_,rfl⟩;rw[b6];unfold kR;have n9:=hI b6;have HS:=hI hs;have LT:=hI h;have HG:=hI s;have p8:=hI d4;have ll:=aP hs;obtain⟨pa,pb,pc,hl,m7⟩:=h.look.here;obtain⟨B8,v0,B9,C0,C1,C2,m8,f2,-⟩:=id m7;simp only[List.cons.injEq,and_true] at m8;obtain⟨rfl,rfl,rfl⟩:=m8;have p9:=hI f2;have HL:=hI hl;have A7:=aP f2;have d8:=h.look.size;have j1:=hI a4;clear hs h s d4 b6 hl m7 f2 a4;go_enter func135,ntmps135;go_wp2_with fail;go_loopw [13] (λk wr=>∃(j:Nat) (u:List Int),k=.int .i64 j/\j<=y.length/\Hid (b7 aG p S (if j=0 then none else(y[j - 1]?).map (λf=>(f.regs.length:Int))) u (y.drop j)=v)/\Hid (lN wr J u)/\Hid (u.length<=gens.length+j)/\Hid (fB J w wr)) (λk _=>y.length - (RowKit.intOf k).toNat);case atStart=>exact⟨0,gens,rfl,by omega,n9.o,HG.o,by show _<=_;omega,fB.of (Below.refl _ _)⟩
 case round=>
  obtain⟨j,u,rfl,hj,f3,f7,f8,F⟩:=hrel
  have l2:=F.o.size
  by_cases x0:j<y.length
  case neg=>
   have q3:¬(j:Int)<y.length:=by omega
   have e0:Hid (v=some u):=by
    have:=f3.o
    rw[List.drop_of_length_le (by omega)] at this
    exact this.symm
   go_wp2_with fail
   go_ret
   exact⟨by rw[e0.o];rfl,λg s=>by rw[e0.o] at s;injection s with s;exact s ▸ f7.o,F.o⟩
  have q3:(j:Int)<y.length:=by omega
  obtain⟨b,C,f,v1,rfl,hb,hx,-,hR,H⟩:=HS.o.at_ x0
  have q4:Hid (eR wr wr.heap.size v1 f):=hR.keep l2 (λp hp=>F.o.cell p hp)
  obtain⟨rv,C3,rfl,f9,n0,-⟩:=hR
  obtain⟨RA,rc,rfl,-⟩:=id f9
  obtain⟨TA,tc,rfl,-⟩:=id n0
  have A8:=aP f9
  have HX:=hI hx
  have g0:wr.cell? ⟨b,C+j*8,none⟩=some (.int .i64 f.fn):=(F.o.cell _ hb).trans (H 0 _ rfl)
  have g1:wr.cell? ⟨b,C+j*8+1,none⟩=some (.int .i64 f.at_):=(F.o.cell _ hb).trans (H 1 _ rfl)
  have g2:wr.cell? ⟨b,C+j*8+2,none⟩=some (.int .i64 f.tos):=(F.o.cell _ hb).trans (H 2 _ rfl)
  have g3:wr.cell? ⟨b,C+j*8+3,none⟩=some (.int .i64 f.gen):=(F.o.cell _ hb).trans (H 3 _ rfl)
  have g4:wr.cell? ⟨b,C+j*8+4,none⟩=some (.int .i64 f.self.kind):=(F.o.cell _ hb).trans (H 4 _ rfl)
  have g5:wr.cell? ⟨b,C+j*8+5,none⟩=some (.int .i64 f.self.n):=(F.o.cell _ hb).trans (H 5 _ rfl)
  have g6:wr.cell? ⟨b,C+j*8+6,none⟩=some (.slice RA f.regs.length rc):=(F.o.cell _ hb).trans (H 6 _ rfl)
  have g7:wr.cell? ⟨b,C+j*8+7,none⟩=some (.slice TA f.tries.length tc):=(F.o.cell _ hb).trans (H 7 _ rfl)
  have c6:y.drop j=f::y.drop (j+1):=by
   obtain⟨h1,h2⟩:=lE hx
   rw[List.drop_eq_getElem_cons h1,h2]
  obtain⟨low,c0⟩:∃low:Option Int,(if j=0 then none else(y[j - 1]?).map (λf=>(f.regs.length:Int)))=low:=⟨_,rfl⟩
  have z:Hid (b7 aG p S low u (f::y.drop (j+1))=v):=by have:=f3.o;rwa [c6,c0] at this
  have K:=hI c0
  have q6:b<wr.heap.size:=Nat.lt_of_lt_of_le hb l2
  clear H hx c6 c0 f3 f9 n0
  obtain⟨w1,X⟩:∃w1,w1=wr.alloc (.cells #[.int .i64 f.fn,.int .i64 f.at_,.int .i64 f.tos,.int .i64 f.gen,.int .i64 f.self.kind,.int .i64 f.self.n,.slice RA f.regs.length rc,.slice TA f.tries.length tc] 61):=⟨_,rfl⟩
  have K1:Hid (Below wr.heap.size wr w1):=by rw[X];exact aB _ _
  have l3:Hid (aA w1 wr.heap.size [.int .i64 f.fn,.int .i64 f.at_,.int .i64 f.tos,.int .i64 f.gen,.int .i64 f.self.kind,.int .i64 f.self.n,.slice RA f.regs.length rc,.slice TA f.tries.length tc]):=by rw[X];exact ad5 _ _ _
  have q7:=hI X
  have A9:wr.heap.size<w1.heap.size:=by rw[X];simp
  clear X
  go_upto_region 5 with fail
  rw[<-q7.o]
  clear g0 g1 g2 g3 g4 g5 g6 g7
  go_upto_if 19 with fail
  go_cut [7] (λa wx=>a=.int .i64 (low.getD 0)/\wx=w1)
  case first=>
   rcases Nat.eq_zero_or_pos j with h0 | h0
   ·subst h0
    have j3:low=none:=K.o.symm
    subst j3
    go_wp2_with fail
    go_meet
    case rel=>exact⟨rfl,rfl⟩
   ·obtain⟨N,rfl⟩:∃N,j=N+1:=⟨j - 1,by omega⟩
    obtain⟨b',c1,f',h4,hbo,C4,R,-,v3,h5⟩:=HS.o.at_ (i:=N) (by omega)
    obtain⟨rfl,rfl⟩:b=b'/\C=c1:=by injection hbo with hbo;injection hbo with h1 h2;exact⟨h1,h2⟩
    obtain⟨v4,v5,rfl,M,-⟩:=v3
    obtain⟨n1,n2,rfl,-⟩:=id M
    have y3:=aP M
    have l4:w1.cell? ⟨b,C+N*8+6,none⟩=some (.slice n1 f'.regs.length n2):=(K1.o.cell q6).trans ((F.o.cell _ hb).trans (h5 6 _ rfl))
    have c7:low.getD 0=(f'.regs.length:Int):=by
     rw[<-K.o,if_neg (by omega),show N+1 - 1=N by omega,R];rfl
    have j4:=hI c7
    clear c7
    have B1:(N:Int)+1 - 1=N:=by omega
    have B2:(N:Int)<y.length:=by omega
    have B3:(0:Int)<(N:Int)+1:=by omega
    clear h5 R M hbo
    go_wp2_with fail
    go_meet
    case rel=>exact⟨by rw[j4.o],rfl⟩
  case rest=>
   obtain⟨rfl,n3⟩:=hcut
   rw[n3]
   clear n3
   obtain⟨mn,d0⟩:∃m,min f.fn ((p.fns.length:Int) - 1)=m:=⟨_,rfl⟩
   have q8:0<=max 0 mn/\max 0 mn<p.fns.length:=by rw[<-d0];omega
   obtain⟨x,h6⟩:∃x:Nat,max 0 mn=(x:Int):=⟨(max 0 mn).toNat,by omega⟩
   have r1:x<p.fns.length:=by omega
   have B4:(x:Int)<p.fns.length:=by omega
   obtain⟨b2,h7,G,C5,v9,Y,n4,-,⟨CA,cn,OA,on_,rfl,-⟩,h8⟩:=p9.o.at_ r1
   subst v9
   have r2:Hid (gD p (max 0 (min f.fn ((p.fns.length:Int) - 1)))=G):=by show _=_;rw[d0,h6];unfold gD;rw[Int.toNat_natCast,n4];rfl
   have B5:=hI d0
   have B6:=hI h6
   have r3:=hI ((LT.o.turn F.o).below K1.o)
   have e3:=hI (F.o.then K1.o)
   have a0:∀E:Up w1,E.to.cell? ⟨lb,0,none⟩=some (.slice (some ⟨b2,h7,none⟩) p.fns.length v0):=λE=>E.cell ((e3.o.cell _ d8).trans (HL.o 0 _ rfl))
   have a1:=ecZ (l3.o 0 _ rfl)
   have a2:∀E:Up w1,E.to.cell? ⟨b2,h7+x*5+2,none⟩=some (.bool G.gen):=λE=>E.cell ((e3.o.cell _ Y).trans (h8 2 _ rfl))
   clear h8 n4 q8
   go_upto_region 7 with fail
   refine cV (λw'=>∃E:Up w1,w'=E.to) 20 [] [] (by kernel_rfl) (by decide) (by kernel_rfl) (λ_ _ d _ _ h=>by cases d <;> exact h) ⟨⟨_,(Below.refl _ w1).drew⟩,rfl⟩ ?_
   simp only[List.take_succ_cons,List.take_zero]
   generalize n8:(λa'=>gA _ _ _ _ _ _ a' _)=qq
   have l5:=hI n8
   clear n8
   repeat (go_big_quiet_step (fail))
   refine wpQuiet_nil ?_
   rw[<-l5.o]
   clear l5 qq a0 a1 a2 d0 h6
   refine bP [] _ _ (by kernel_rfl) (by kernel_rfl) ?_
   simp only[List.filterMap_nil]
   obtain⟨w2,h9⟩:∃w2,w2=w1.drew:=⟨_,rfl⟩
   have c8:Hid (Below w1.heap.size w1 w2):=by rw[h9];exact(Below.refl _ w1).drew
   rw[<-h9]
   clear h9
   have e4:=btZ K1 c8.o
   have r4:=hI (e3.o.then c8.o)
   have D:=hI (l3.o.on c8.o)
   have l9:=hI (r3.o.below c8.o)
   have e5:Hid (eR w2 w2.heap.size [.int .i64 f.fn,.int .i64 f.at_,.int .i64 f.tos,.int .i64 f.gen,.int .i64 f.self.kind,.int .i64 f.self.n,.slice RA f.regs.length rc,.slice TA f.tries.length tc] f):=q4.o.keep e4.o.size (λp hp=>e4.o.cell hp)
   have m0:Hid (wfi f.gen):=by obtain⟨r0,t0,-,-,-,-,-,-,h,-⟩:=e5.o;exact h
   have m1:=hI (zL _ f p S lb sb J _ _ w2 e5.o l9.o p8.o)
   have CW:Hid (∀W,Calls prog 95 #[.int .i64 f.tos,.int .i64 (-1),.int .i64 (low.getD 0 - 1)] W λe w'=>e=.returned (.bool (aK f.tos (-1) (low.getD 0 - 1)))/\W=w'):=λW=>iD _ _ _ W
   have r6:0<=low.getD 0/\low.getD 0<=9223372036854775807:=by
    rw[<-K.o]
    by_cases P:j=0
    ·rw[if_pos P];simp
    ·rw[if_neg P]
     obtain⟨b',c1,f',h4,-,-,R,-,⟨v4,v5,-,M,-⟩,-⟩:=HS.o.at_ (i:=j - 1) (by omega)
     obtain⟨n1,n2,rfl,h1,h2,-⟩:=M
     unfold maxLen at h2
     rw[R]
     show 0<=(f'.regs.length:Int)/\(f'.regs.length:Int)<=_
     omega
   obtain⟨z0,z1⟩:=r6
   obtain⟨q1,i0⟩:∃q,dB aG p S f=q:=⟨_,rfl⟩
   obtain⟨q2,i1⟩:∃q,aK f.tos (-1) (low.getD 0 - 1)=q:=⟨_,rfl⟩
   obtain⟨gg,i2⟩:∃g,G.gen=g:=⟨_,rfl⟩
   rw[i0] at m1
   rw[i1] at CW
   have e6:=hI i0
   have e7:=hI i1
   have c9:Hid ((gD p (max 0 (min f.fn ((p.fns.length:Int) - 1)))).gen=gg):=by show _=_;rw[r2.o,i2]
   have r7:=D.o 0 _ rfl
   have s0:=D.o 1 _ rfl
   have s1:=D.o 2 _ rfl
   have s2:=D.o 3 _ rfl
   have s3:=D.o 4 _ rfl
   have s4:=D.o 5 _ rfl
   have l4:=D.o 6 _ rfl
   have s5:=D.o 7 _ rfl
   rw[i2]
   clear i2 i0 i1
   go_wp2_with fail
   refine m1.o.mono ?_
   rintro e w3 ⟨rfl,k3⟩
   have s6:=hI k3
   have m2:=btZ e4 k3
   have L:=hI (r4.o.then k3)
   have e9:=hI (D.o.on k3)
   clear k3 r7 s0 s1 s2 s3 s4 l4 s5
   cases q1
   case false=>
    have l:Hid (v=none):=by rw[<-z.o];exact jO (.inl e6.o)
    go_wp2_with fail
    go_ret
    exact⟨by rw[l.o];rfl,(λu s=>by rw[l.o] at s;cases s),L.o⟩
   have t1:=e9.o 2 _ rfl
   have t2:=e9.o 3 _ rfl
   go_wp2_with fail
   refine(CW.o _).mono ?_
   rintro e w4 ⟨rfl,rfl⟩
   cases q2
   case false=>
    have l:Hid (v=none):=by rw[<-z.o];exact jO (.inr (.inl e7.o))
    go_wp2_with fail
    go_ret
    exact⟨by rw[l.o];rfl,(λu s=>by rw[l.o] at s;cases s),L.o⟩
   by_cases i9:0<=f.gen
   case neg=>
    have V:decide (0<=f.gen)=false:=decide_eq_false i9
    cases gg
    case true=>
     have l:Hid (v=none):=by rw[<-z.o];exact jO (.inr (.inr (.inl (by rw[c9.o,V];simp))))
     go_wp2_with fail
     go_ret
     exact⟨by rw[l.o];rfl,(λu s=>by rw[l.o] at s;cases s),L.o⟩
    by_cases d5:f.gen < -1
    ·have l:Hid (v=none):=by rw[<-z.o];exact jO (.inr (.inr (.inr d5)))
     go_wp2_with fail
     go_ret
     exact⟨by rw[l.o];rfl,(λu s=>by rw[l.o] at s;cases s),L.o⟩
    have o1:decide (f.gen < -1)=false:=decide_eq_false d5
    have f0:Hid (b7 aG p S (if j+1=0 then none else(y[j+1 - 1]?).map (λf=>(f.regs.length:Int))) u (y.drop (j+1))=v):=by
     rw[if_neg (by omega),show j+1 - 1=j from rfl,HX.o]
     show b7 aG p S (some (f.regs.length:Int)) u (y.drop (j+1))=v
     rw[<-z.o,uM e6.o e7.o c9.o V d5]
    clear i9 d5
    go_wp2_with fail
    go_roundw
    case rel=>exact⟨j+1,u,by go_num,by omega,f0.o,f7.o.below m2.o,by show _<=_;have:=f8.o;omega,L.o⟩
    case measure=>simp[RowKit.intOf];omega
   have V:decide (0<=f.gen)=true:=decide_eq_true i9
   cases gg
   case false=>
    have l:Hid (v=none):=by rw[<-z.o];exact jO (.inr (.inr (.inl (by rw[c9.o,V];simp))))
    go_wp2_with fail
    go_ret
    exact⟨by rw[l.o];rfl,(λu s=>by rw[l.o] at s;cases s),L.o⟩
   have o1:decide (f.gen < -1)=false:=decide_eq_false (by omega)
   have a9:=hI (xA (r:=y.drop (j+1)) (gens:=u) e6.o e7.o c9.o V)
   have CL:=hI (uU ⟨5,f.gen⟩ 5 p S lb sb J _ _ w3 (l9.o.below s6.o).look)
   go_wp2_with fail
   refine CL.o.mono ?_
   rintro e w4 ⟨ck,c3,vv,fv,i6,rfl,⟨VA,VN,VC,rfl⟩,⟨FA,FN,FC,rfl⟩,n5,n6,k4⟩
   have m3:=hI n5
   have t3:=hI n6
   have t4:=btZ m2 k4
   have t6:=hI (L.o.then k4)
   have t7:=hI (e9.o.on k4)
   clear t1 t2 n5 n6 k4
   go_upto_region 12 with fail
   obtain⟨w5,d1⟩:∃w5,w5=w4.alloc (.cells #[.int .i64 ck,.int .i64 c3,.slice VA VN VC,.slice FA FN FC] 55):=⟨_,rfl⟩
   have f1:Hid (Below w4.heap.size w4 w5):=by rw[d1];exact aB _ _
   have m4:=btZ t4 f1.o
   have O:=hI (t6.o.then f1.o)
   have m5:=hI (t7.o.on f1.o)
   have o2:Hid (w5.cell? ⟨w4.heap.size,1,none⟩=some (.int .i64 c3)):=by rw[d1];exact bL _ _ _ _
   have G5:=hI (f7.o.below m4.o)
   have u1:=hI d1
   clear d1
   rw[<-u1.o]
   have a0:=ecZ o2.o
   have a1:∀E:Up w5,E.to.cell? ⟨lb,6,none⟩=some (.map (some J)):=λE=>E.cell ((O.o.cell _ d8).trans (HL.o 6 _ rfl))
   have a2:=ecZ (m5.o 3 _ rfl)
   have a3:∀E:Up w5,(Instr.lookup 114 (.map (some J)) (.int .i64 f.gen) false).run prog E.to=.ok (.int .i64 (if f.gen∈u then 1 else 0)) E.to:=λE=>pA (mJ G5.o E.below) m0.o
   refine aD (by kernel_rfl) (by kernel_rfl) ?_
   repeat (go_big_quiet_step (fail))
   obtain⟨b0,d2⟩:∃b:Bool,((j:Int) == 0)=b:=⟨_,rfl⟩
   rw[d2]
   cases b0
   case true=>
    have l:Hid (v=none):=by
     have P:j=0:=by have:=beq_iff_eq.1 d2;omega
     have u2:low=none:=by rw[<-K.o,if_pos P]
     rw[<-z.o,a9.o,u2]
     cases bM S ⟨5,f.gen⟩ 5 with
     | none=>rfl
     | some c=>exact if_pos (.inl rfl)
    repeat (go_big_quiet_step (fail))
    refine wpQuiet_nil ?_
    (first | rintro _ ⟨E,rfl⟩ | intro E)
    have KE:=hI (O.o.then E.below)
    clear a0 a1 a2 a3
    go_wp2_with fail
    go_ret
    exact⟨by rw[l.o];rfl,(λu s=>by rw[l.o] at s;cases s),KE.o⟩
   repeat (go_big_quiet_step (fail))
   obtain⟨w0,c2⟩:∃b:Bool,(!i6)=b:=⟨_,rfl⟩
   rw[c2]
   cases w0
   case true=>
    obtain rfl:i6=false:=by simpa using c2
    have l:Hid (v=none):=by
     rw[<-z.o,a9.o]
     cases hq:bM S ⟨5,f.gen⟩ 5 with
     | none=>rfl
     | some c=>have:=m3.o;rw[hq] at this;cases this
    repeat (go_big_quiet_step (fail))
    refine wpQuiet_nil ?_
    (first | rintro _ ⟨E,rfl⟩ | intro E)
    have KE:=hI (O.o.then E.below)
    clear a0 a1 a2 a3
    go_wp2_with fail
    go_ret
    exact⟨by rw[l.o];rfl,(λu s=>by rw[l.o] at s;cases s),KE.o⟩
   obtain rfl:i6=true:=by simpa using c2
   obtain⟨c,hc⟩:∃c,bM S ⟨5,f.gen⟩ 5=some c:=by
    cases hq:bM S ⟨5,f.gen⟩ 5 with
    | none=>have:=m3.o;rw[hq] at this;cases this
    | some c=>exact⟨c,rfl⟩
   have b5:Hid ((if low=none\/c.num≠1\/f.gen∈u then none else b7 aG p S (some (f.regs.length:Int)) (u++[f.gen]) (y.drop (j+1)))=v):=by
    rw[<-z.o,a9.o,hc];rfl
   obtain rfl:c3=c.num:=t3.o c hc
   clear hc
   repeat (go_big_quiet_step (fail))
   obtain⟨b2,Y⟩:∃b:Bool,(c.num != 1)=b:=⟨_,rfl⟩
   rw[Y]
   cases b2
   case true=>
    have l:Hid (v=none):=by rw[<-b5.o];exact if_pos (.inr (.inl (bne_iff_ne.1 Y)))
    repeat (go_big_quiet_step (fail))
    refine wpQuiet_nil ?_
    (first | rintro _ ⟨E,rfl⟩ | intro E)
    have KE:=hI (O.o.then E.below)
    clear a0 a1 a2 a3
    go_wp2_with fail
    go_ret
    exact⟨by rw[l.o];rfl,(λu s=>by rw[l.o] at s;cases s),KE.o⟩
   by_cases I:f.gen∈u
   ·rw[if_pos I] at a3
    have l:Hid (v=none):=by rw[<-b5.o];exact if_pos (.inr (.inr I))
    clear I
    repeat (go_big_quiet_step (fail))
    refine wpQuiet_nil ?_
    (first | rintro _ ⟨E,rfl⟩ | intro E)
    have KE:=hI (O.o.then E.below)
    clear a0 a1 a2 a3
    go_wp2_with fail
    go_ret
    exact⟨by rw[l.o];rfl,(λu s=>by rw[l.o] at s;cases s),KE.o⟩
   rw[if_neg I] at a3
   have f0:Hid (b7 aG p S (if j+1=0 then none else(y[j+1 - 1]?).map (λf=>(f.regs.length:Int))) (u++[f.gen]) (y.drop (j+1))=v):=by
    rw[if_neg (by omega),show j+1 - 1=j from rfl,HX.o]
    show b7 aG p S (some (f.regs.length:Int)) (u++[f.gen]) (y.drop (j+1))=v
    rw[<-b5.o,if_neg]
    rintro (h | h | h)
    ·have P:j≠0:=λh0=>by rw[h0] at d2;cases d2
     obtain⟨b',c1,f',h4,-,-,R,-⟩:=HS.o.at_ (i:=j - 1) (by omega)
     rw[<-K.o,if_neg P,R] at h
     cases h
    ·exact h (by simpa using Y)
    ·exact I h
   clear I
   repeat (go_big_quiet_step (fail))
   refine wpQuiet_nil ?_
   rintro _ ⟨E,rfl⟩
   obtain⟨w6,k6⟩:=E
   dsimp only
   have B7:=btZ m4 k6
   have m6:=hI (O.o.then k6)
   have G6:=hI (G5.o.below k6)
   have u3:=hI (m5.o.on k6)
   clear a0 a1 a2 a3 k6
   have e1:∀E:Up w6,E.to.cell? ⟨lb,6,none⟩=some (.map (some J)):=λE=>E.cell ((m6.o.cell _ d8).trans (HL.o 6 _ rfl))
   have e2:=ecZ (u3.o 3 _ rfl)
   go_upto_region 14 with fail
   refine aL 6 (by kernel_rfl) (by kernel_rfl) ?_
   simp only[List.take_succ_cons,List.take_zero,List.drop_succ_cons,List.drop_zero]
   repeat (go_big_quiet_step (fail))
   refine wpQuiet_nil ?_
   (first | rintro _ ⟨E,rfl⟩ | intro E)
   obtain⟨w7,k7⟩:=E
   dsimp only
   have u4:=hI (m6.o.then k7)
   have G7:=hI (G6.o.below k7)
   have o3:=hI (nT m0.o)
   clear e1 e2 k7
   have u6:u.length<maxLen:=by have:=f8.o;have:=j1.o;unfold maxLen;omega
   go_wp2_with (first
    | (at_mapUpdate;refine wpList_mapUpdate_own _ rfl _ _ _ 114 rfl 3 3 xQ underlying114 _ J u.length _ rfl G7.o u6 _ _ _ rfl rfl o3.o _ [] (plainElem_int underlying3 (by decide)) ?_;intro w8 d3 Z)
    | fail)
   have G8:Hid (lN w8 J (u++[f.gen])):=by
    show w8.ownsMap _ _ _ _ _ _
    rw[nM,List.length_append];exact d3
   have u8:=hI (u4.o.trans (fB.grown Z G7.o.map G8.o.map))
   clear d3 Z
   go_wp2_with fail
   go_roundw
   case rel=>exact⟨j+1,u++[f.gen],by go_num,by omega,f0.o,G8.o,by show _<=_;have:=f8.o;rw[List.length_append];simp;omega,u8.o⟩
   case measure=>simp[RowKit.intOf];omega
end
section
open Go.RowKit Go.Maps Go.WideMaps
theorem abZ {v:Val} (f:(v.kind == 0)=true) (g:(v.n == 0)=true):v=⟨0,0⟩:=by obtain⟨a,b⟩:=v;have d:=beq_iff_eq.1 f;have e:=beq_iff_eq.1 g;dsimp only at d e;rw[d,e]
def jR (h:bW):Bool:=h.state == 3 || h.state == 4
theorem fK {R:Val->Bool} {p:aW} {S:aR} {gens:List Int} {h:bW} (hb:(jR h != h.frames.isEmpty)=true\/(jR h=false/\h.val≠⟨0,0⟩)\/dJ R S h.val=false\/aK h.state 0 4=false):eN R p S gens h=none:=by
 unfold eN;refine if_pos ?_;unfold jR at hb;rcases hb with e | ⟨e,d⟩ | e | e;·rw[e];rfl
 ·rw[e,show(h.val != ⟨0,0⟩)=true from bne_iff_ne.2 d];simp
 ·rw[e];simp
 ·rw[e];simp
theorem qX {R:Val->Bool} {p:aW} {S:aR} {gens:List Int} {h:bW} (d:(jR h != h.frames.isEmpty)=false) (f:jR h=true\/h.val=⟨0,0⟩) (g:dJ R S h.val=true) (i:aK h.state 0 4=true):eN R p S gens h = if h.state=1/\bM S ⟨5,h.on_⟩ 6=none then none else if h.state=2/\aK h.on_ 0 ((S.threads.length:Int) - 1)=false then none else if h.state≠1/\h.state≠2/\h.on_≠0 then none else b7 R p S none gens h.frames:=by
 unfold eN;refine if_neg ?_;unfold jR at d f;rw[d,g,i];rcases f with e | e;·rw[e];simp
 ·rw[e];simp
theorem ab3 (tcs:List Value) (h:bW) (gens:List Int) (p:aW) (S:aR) (lb V mb:Nat) (tv yv:Value) (w:World) (ht:g9 w w.heap.size tcs h) (hl:iV w lb p S V mb tv yv) (y:lN w mb gens) (b5:i8 p) (m4:0<p.fns.length) (f3:gens.length+h.frames.length<=1000000) : Calls prog 99 #[.pointer (some ⟨lb,0,none⟩),.agg ⟨tcs⟩] w (kR (eN aG p S gens h) mb w):=by
 obtain⟨f,Y⟩:∃r,eN aG p S gens h=r:=⟨_,rfl⟩;rw[Y];unfold kR;have j:=hI Y;obtain⟨fv,rfl,b4,-⟩:=ht;obtain⟨FA,fc,rfl,-⟩:=id b4;have lf:=aP b4;have HF:=hI b4;have LT:=hI hl;have HG:=hI y;have i3:=hI b5;obtain⟨pa,pb,pc,g4,j2⟩:=hl.look.here;have f9:=hl.look.size;have HL:=hI g4;obtain⟨A0,n0,A1,n1,A2,n2,A3,n3,A4,n4,A5,n5,hh,hb,s0,s1,s2,s3,-⟩:=hl.look.st.parts;have ls:=aP s3;have HH:=hI hh;obtain⟨w1,O⟩:∃w1,w1=w.alloc (.cells #[.slice FA h.frames.length fc,.int .i64 h.state,.int .i64 h.on_,.int .i64 h.val.kind,.int .i64 h.val.n] 57):=⟨_,rfl⟩;have K1:Hid (Below w.heap.size w w1):=by rw[O];exact aB _ _
 have K:Hid (aA w1 w.heap.size [.slice FA h.frames.length fc,.int .i64 h.state,.int .i64 h.on_,.int .i64 h.val.kind,.int .i64 h.val.n]):=by rw[O];exact ad5 _ _ _
 have p0:w.heap.size<w1.heap.size:=by rw[O];simp
 have i5:=hI O;clear O Y b4 hl y b5 g4 j2 hh s0 s1 s2 s3;go_enter func99,ntmps99;go_upto_region 1 with fail;rw[<-i5.o];go_cut [5] (λa wx=>a=.bool (jR h)/\wx=w1)
 case first=>
  have X:=K.o 1 _ rfl;by_cases c3:h.state=3;·rw[c3] at X;have HO:Hid (jR h=true):=(by unfold jR;rw[c3];rfl);go_wp2_with fail;go_meet;case rel=>exact⟨by rw[HO.o],rfl⟩
  ·have b3:(h.state == 3)=false:=bF c3;have HO:Hid (jR h=(h.state == 4)):=(by unfold jR;rw[b3];rfl);go_wp2_with fail;go_meet;case rel=>exact⟨by rw[HO.o],rfl⟩
 case rest=>
  obtain⟨rfl,g5⟩:=hcut
  rw[g5]
  clear g5
  obtain⟨ov,d6⟩:∃o,jR h=o:=⟨_,rfl⟩
  rw[d6]
  have L:=hI d6
  obtain⟨em,k1⟩:∃o,((h.frames.length:Int) == 0)=o:=⟨_,rfl⟩
  have g0:Hid (h.frames.isEmpty=em):=by rw[<-k1,gY];rfl
  have D:=ecZ (K.o 0 _ rfl)
  have F:=ecZ (K.o 1 _ rfl)
  have G:=ecZ (K.o 3 _ rfl)
  have H:=ecZ (K.o 4 _ rfl)
  have I:∀E:Up w1,E.to.cell? ⟨lb,3,none⟩=some (.pointer (some ⟨V,0,none⟩)):=λE=>E.cell ((K1.o.cell f9).trans (HL.o 3 _ rfl))
  have M:Hid (∀E:Up w1,Calls prog 133 #[.pointer (some ⟨V,0,none⟩),.agg #[.int .i64 h.val.kind,.int .i64 h.val.n]] E.to (aM (.bool (dJ aG S h.val)) E.to)):=λE=>zM h.val S V E.to (((LT.o.below K1.o).below E.below).look.st)
  have CW:Hid (∀W,Calls prog 95 #[.int .i64 h.state,.int .i64 0,.int .i64 4] W λe w'=>e=.returned (.bool (aK h.state 0 4))/\W=w'):=λW=>iD _ _ _ W
  obtain⟨qf,d7⟩:∃q,dJ aG S h.val=q:=⟨_,rfl⟩
  obtain⟨qw,d8⟩:∃q,aK h.state 0 4=q:=⟨_,rfl⟩
  rw[d7] at M
  rw[d8] at CW
  have a7:=hI d7
  have a9:=hI d8
  have J:=trivial
  clear d6 d7 d8
  go_upto_region 2 with fail
  go_cut [47] (λa wx=>∃bd:Bool,a=.bool bd/\Hid (bd=true->f=none)/\Hid (bd=false->(if h.state=1/\bM S ⟨5,h.on_⟩ 6=none then none
   else if h.state=2/\aK h.on_ 0 ((S.threads.length:Int) - 1)=false then none
   else if h.state≠1/\h.state≠2/\h.on_≠0 then none
   else b7 aG p S none gens h.frames)=f)/\Hid (Below w1.heap.size w1 wx))
  case first=>
   refine aD (by kernel_rfl) (by kernel_rfl) ?_
   repeat (go_big_quiet_step (fail))
   obtain⟨b1,e3⟩:∃b:Bool,(!(ov == em))=b:=⟨_,rfl⟩
   rw[e3]
   cases b1
   case true=>
    have d:Hid (f=none):=by rw[<-j.o];exact fK (.inl (by rw[L.o,g0.o];exact e3))
    repeat (go_big_quiet_step (fail))
    refine wpQuiet_nil ?_
    (first | rintro _ ⟨E,rfl⟩ | intro E)
    obtain⟨i,g⟩:=E
    dsimp only
    have l:=hI g
    clear D F G H I J g
    go_wp2_with fail
    go_meet
    case rel=>exact⟨true,rfl,(λ_=>d.o),(λh=>by cases h),l⟩
   have c7:Hid ((jR h != h.frames.isEmpty)=false):=by rw[L.o,g0.o];exact e3
   repeat (go_big_quiet_step (fail))
   obtain⟨k6,Z⟩:∃b:Bool,(!ov)=b:=⟨_,rfl⟩
   rw[Z]
   cases k6
   case true=>
    obtain rfl:ov=false:=by simpa using Z
    repeat (go_big_quiet_step (fail))
    obtain⟨bk,e4⟩:∃b,(h.val.kind == 0)=b:=⟨_,rfl⟩
    cases bk
    case false=>
     have d:Hid (f=none):=by rw[<-j.o];exact fK (.inr (.inl ⟨L.o,λe=>by rw[e] at e4;cases e4⟩))
     repeat (go_big_quiet_step (fail))
     refine wpQuiet_nil ?_
     (first | rintro _ ⟨E,rfl⟩ | intro E)
     obtain⟨i,g⟩:=E
     dsimp only
     have l:=hI g
     clear D F G H I J g
     go_wp2_with fail
     go_meet
     case rel=>exact⟨true,rfl,(λ_=>d.o),(λh=>by cases h),l⟩
    obtain⟨bn,e5⟩:∃b,(h.val.n == 0)=b:=⟨_,rfl⟩
    cases bn
    case false=>
     have d:Hid (f=none):=by rw[<-j.o];exact fK (.inr (.inl ⟨L.o,λe=>by rw[e] at e5;cases e5⟩))
     repeat (go_big_quiet_step (fail))
     refine wpQuiet_nil ?_
     (first | rintro _ ⟨E,rfl⟩ | intro E)
     obtain⟨i,g⟩:=E
     dsimp only
     have l:=hI g
     clear D F G H I J g
     go_wp2_with fail
     go_meet
     case rel=>exact⟨true,rfl,(λ_=>d.o),(λh=>by cases h),l⟩
    have c8:Hid (jR h=true\/h.val=⟨0,0⟩):=.inr (abZ e4 e5)
    repeat (go_big_quiet_step ((first | (go_at_call 133;with_reducible exact Calls.up (M.o _)) | (go_at_call 95;with_reducible exact ad6 (CW.o _)))))
    obtain⟨e6,v⟩:∃b:Bool,(!qf)=b:=⟨_,rfl⟩
    rw[v]
    cases e6
    case true=>
     obtain rfl:qf=false:=by simpa using v
     have d:Hid (f=none):=by rw[<-j.o];exact fK (.inr (.inr (.inl a7.o)))
     repeat (go_big_quiet_step (fail))
     refine wpQuiet_nil ?_
     (first | rintro _ ⟨E,rfl⟩ | intro E)
     obtain⟨i,g⟩:=E
     dsimp only
     have l:=hI g
     clear D F G H I J g
     go_wp2_with fail
     go_meet
     case rel=>exact⟨true,rfl,(λ_=>d.o),(λh=>by cases h),l⟩
    obtain rfl:qf=true:=by simpa using v
    repeat (go_big_quiet_step ((first | (go_at_call 133;with_reducible exact Calls.up (M.o _)) | (go_at_call 95;with_reducible exact ad6 (CW.o _)))))
    obtain⟨e7,x⟩:∃b:Bool,(!qw)=b:=⟨_,rfl⟩
    rw[x]
    cases e7
    case true=>
     obtain rfl:qw=false:=by simpa using x
     have d:Hid (f=none):=by rw[<-j.o];exact fK (.inr (.inr (.inr a9.o)))
     repeat (go_big_quiet_step (fail))
     refine wpQuiet_nil ?_
     (first | rintro _ ⟨E,rfl⟩ | intro E)
     obtain⟨i,g⟩:=E
     dsimp only
     have l:=hI g
     clear D F G H I J g
     go_wp2_with fail
     go_meet
     case rel=>exact⟨true,rfl,(λ_=>d.o),(λh=>by cases h),l⟩
    obtain rfl:qw=true:=by simpa using x
    repeat (go_big_quiet_step (fail))
    refine wpQuiet_nil ?_
    (first | rintro _ ⟨E,rfl⟩ | intro E)
    obtain⟨i,g⟩:=E
    dsimp only
    have l:=hI g
    clear D F G H I J g
    go_wp2_with fail
    go_meet
    case rel=>exact⟨false,rfl,(λh=>by cases h),(λ_=>by rw[<-j.o];exact(qX c7.o c8.o a7.o a9.o).symm),l⟩
   obtain rfl:ov=true:=by simpa using Z
   have c8:Hid (jR h=true\/h.val=⟨0,0⟩):=.inl L.o
   repeat (go_big_quiet_step ((first | (go_at_call 133;with_reducible exact Calls.up (M.o _)) | (go_at_call 95;with_reducible exact ad6 (CW.o _)))))
   obtain⟨e6,v⟩:∃b:Bool,(!qf)=b:=⟨_,rfl⟩
   rw[v]
   cases e6
   case true=>
    obtain rfl:qf=false:=by simpa using v
    have d:Hid (f=none):=by rw[<-j.o];exact fK (.inr (.inr (.inl a7.o)))
    repeat (go_big_quiet_step (fail))
    refine wpQuiet_nil ?_
    (first | rintro _ ⟨E,rfl⟩ | intro E)
    obtain⟨i,g⟩:=E
    dsimp only
    have l:=hI g
    clear D F G H I J g
    go_wp2_with fail
    go_meet
    case rel=>exact⟨true,rfl,(λ_=>d.o),(λh=>by cases h),l⟩
   obtain rfl:qf=true:=by simpa using v
   repeat (go_big_quiet_step ((first | (go_at_call 133;with_reducible exact Calls.up (M.o _)) | (go_at_call 95;with_reducible exact ad6 (CW.o _)))))
   obtain⟨e7,x⟩:∃b:Bool,(!qw)=b:=⟨_,rfl⟩
   rw[x]
   cases e7
   case true=>
    obtain rfl:qw=false:=by simpa using x
    have d:Hid (f=none):=by rw[<-j.o];exact fK (.inr (.inr (.inr a9.o)))
    repeat (go_big_quiet_step (fail))
    refine wpQuiet_nil ?_
    (first | rintro _ ⟨E,rfl⟩ | intro E)
    obtain⟨i,g⟩:=E
    dsimp only
    have l:=hI g
    clear D F G H I J g
    go_wp2_with fail
    go_meet
    case rel=>exact⟨true,rfl,(λ_=>d.o),(λh=>by cases h),l⟩
   obtain rfl:qw=true:=by simpa using x
   repeat (go_big_quiet_step (fail))
   refine wpQuiet_nil ?_
   (first | rintro _ ⟨E,rfl⟩ | intro E)
   obtain⟨i,g⟩:=E
   dsimp only
   have l:=hI g
   clear D F G H I J g
   go_wp2_with fail
   go_meet
   case rel=>exact⟨false,rfl,(λh=>by cases h),(λ_=>by rw[<-j.o];exact(qX c7.o c8.o a7.o a9.o).symm),l⟩
  case rest=>
   obtain⟨i,k7⟩:∃i,i=wc:=⟨_,rfl⟩
   subst k7
   obtain⟨bd,rfl,HT,g6,KC⟩:=hcut
   have u:=btZ K1 KC.o
   have c9:=hI (K.o.on KC.o)
   have i6:=hI (LT.o.below u.o)
   have p1:=hI (HF.o.keep u.o.size (λ_ hp=>u.o.cell hp) (λ_ _ h=>h))
   have G2:=hI (HG.o.below u.o)
   clear D F G H I J
   cases bd
   case true=>
    have d:Hid (f=none):=HT.o rfl
    go_wp2_with fail
    go_ret
    exact⟨by rw[d.o];rfl,(λgs y=>by rw[d.o] at y;cases y),fB.of u.o⟩
   have m:Hid ((if h.state=1/\bM S ⟨5,h.on_⟩ 6=none then none
   else if h.state=2/\aK h.on_ 0 ((S.threads.length:Int) - 1)=false then none
   else if h.state≠1/\h.state≠2/\h.on_≠0 then none
   else b7 aG p S none gens h.frames)=f):=g6.o rfl
   clear g6 HT
   have X:=c9.o 1 _ rfl
   have e2:=c9.o 2 _ rfl
   obtain⟨st,g7⟩:∃s,h.state=s:=⟨_,rfl⟩
   obtain⟨on,h0⟩:∃s,h.on_=s:=⟨_,rfl⟩
   have E1:=hI X
   rw[g7] at X m
   rw[h0] at e2 m
   have d1:Hid (∀W,Below i.heap.size i W->W.cell? ⟨w.heap.size,0,none⟩=some (.slice FA h.frames.length fc)):=λW k=>(c9.o.on k) 0 _ rfl
   have CS:Hid (∀W,Below i.heap.size i W->Calls prog 135 #[.pointer (some ⟨lb,0,none⟩),.slice FA h.frames.length fc] W (kR (b7 aG p S none gens h.frames) mb W)):=λW k=>by
    have kk:=btZ u k
    exact stack_c FA fc h.frames gens p S lb V mb _ _ W ((HF.o.keep kk.size (λ_ hp=>kk.cell hp) (λ_ _ h=>h.keep kk.size (λ_ hp=>kk.cell hp)))) (LT.o.below kk) (HG.o.below kk) i3.o m4 f3
   clear g7 h0
   by_cases s1:st=1
   ·subst s1
    have CL:=hI (uU ⟨5,on⟩ 6 p S lb V mb _ _ i i6.o.look)
    go_wp2_with fail
    refine CL.o.mono ?_
    rintro e w3 ⟨ck,f1,vv,fv,l2,rfl,⟨VA,VN,VC,rfl⟩,⟨h1,FN,FC,rfl⟩,h2,-,k3⟩
    have g1:=hI h2
    have g2:=hI k3
    have K3:=btZ u k3
    clear X e2 h2 k3
    cases l2
    case false=>
     have d:Hid (f=none):=by
      have j0:bM S ⟨5,on⟩ 6=none:=by
       cases hq:bM S ⟨5,on⟩ 6 with
       | none=>rfl
       | some c=>have:=g1.o;rw[hq] at this;cases this
      rw[<-m.o,j0]
      simp
      trivial
     have l:Hid (Below w.heap.size w (w3.alloc (.cells #[.int .i64 ck,.int .i64 f1,.slice VA VN VC,.slice h1 FN FC] 55))):=K3.o.alloc K3.o.size _
     go_wp2_with fail
     go_ret
     exact⟨by rw[d.o];rfl,(λgs y=>by rw[d.o] at y;cases y),fB.of l.o⟩
    have N:Hid (b7 aG p S none gens h.frames=f):=by
     show _=_
     rw[<-m.o,if_neg,if_neg (by simp),if_neg (by simp)]
     rintro ⟨-,hq⟩
     have:=g1.o
     rw[hq] at this;cases this
    obtain⟨P,f0⟩:∃P,P=w3.alloc (.cells #[.int .i64 ck,.int .i64 f1,.slice VA VN VC,.slice h1 FN FC] 55):=⟨_,rfl⟩
    have C:Hid (Below i.heap.size i P):=by rw[f0];exact g2.o.alloc g2.o.size _
    have j1:=hI f0
    clear f0
    go_upto_region 9 with fail
    rw[<-j1.o]
    have e0:=d1.o P C.o
    go_wp2_with fail
    refine(CS.o P C.o).mono ?_
    rintro e w5 ⟨rfl,A,R⟩
    have z:=hI A
    have K5:=hI ((fB.of (u.o.trans (C.o.mono u.o.size))).trans R)
    rw[N.o] at z ⊢
    clear A R e0
    go_wp2_with fail
    go_ret
    exact⟨rfl,z.o,K5.o⟩
   have m1:(st == 1)=false:=bF s1
   by_cases s2:st=2
   ·subst s2
    rw[if_neg (by simp)] at m
    have g3:Hid (∀W,Calls prog 95 #[.int .i64 on,.int .i64 0,.int .i64 ((S.threads.length:Int) - 1)] W λe w'=>e=.returned (.bool (aK on 0 ((S.threads.length:Int) - 1)))/\W=w'):=λW=>iD _ _ _ W
    obtain⟨q,hq⟩:∃q,aK on 0 ((S.threads.length:Int) - 1)=q:=⟨_,rfl⟩
    rw[hq] at g3 m
    clear hq
    have b0:=ecZ e2
    have b1:∀E:Up i,E.to.cell? ⟨lb,3,none⟩=some (.pointer (some ⟨V,0,none⟩)):=λE=>E.cell ((u.o.cell f9).trans (HL.o 3 _ rfl))
    have b2:∀E:Up i,E.to.cell? ⟨V,3,none⟩=some (.slice A3 S.threads.length n3):=λE=>E.cell ((u.o.cell hb).trans (HH.o 3 _ rfl))
    go_upto_region 12 with fail
    refine aD (by kernel_rfl) (by kernel_rfl) ?_
    repeat (go_big_quiet_step ((go_at_call 95;with_reducible exact ad6 (g3.o _))))
    refine wpQuiet_nil ?_
    (first | rintro _ ⟨E,rfl⟩ | intro E)
    obtain⟨P,k4⟩:=E
    dsimp only
    have C:=hI k4
    have K4:=btZ u k4
    clear b0 b1 b2 X e2 k4
    cases q
    case false=>
     have d:Hid (f=none):=by rw[<-m.o];exact if_pos (by simp)
     go_wp2_with fail
     go_ret
     exact⟨by rw[d.o];rfl,(λgs y=>by rw[d.o] at y;cases y),fB.of K4.o⟩
    have N:Hid (b7 aG p S none gens h.frames=f):=by
     show _=_
     rw[<-m.o,if_neg (by simp),if_neg (by simp)]
    have e0:=d1.o P C.o
    go_wp2_with fail
    refine(CS.o P C.o).mono ?_
    rintro e w5 ⟨rfl,A,R⟩
    have z:=hI A
    have K5:=hI ((fB.of (u.o.trans (C.o.mono u.o.size))).trans R)
    rw[N.o] at z ⊢
    clear A R e0
    go_wp2_with fail
    go_ret
    exact⟨rfl,z.o,K5.o⟩
   have m2:(st == 2)=false:=bF s2
   rw[if_neg (by rintro ⟨h,-⟩;exact s1 h),if_neg (by rintro ⟨h,-⟩;exact s2 h)] at m
   by_cases o0:on=0
   ·subst o0
    have N:Hid (b7 aG p S none gens h.frames=f):=by
     show _=_
     rw[<-m.o,if_neg (by simp)]
    have e0:=d1.o i (Below.refl _ _)
    go_wp2_with fail
    refine(CS.o i (Below.refl _ _)).mono ?_
    rintro e w5 ⟨rfl,A,R⟩
    have z:=hI A
    have K5:=hI ((fB.of u.o).trans R)
    rw[N.o] at z ⊢
    clear A R e0 X e2
    go_wp2_with fail
    go_ret
    exact⟨rfl,z.o,K5.o⟩
   ·have d:Hid (f=none):=by rw[<-m.o];exact if_pos ⟨s1,s2,o0⟩
    have mo:(on == 0)=false:=bF o0
    have p2:(on != 0)=true:=bne_iff_ne.2 o0
    go_wp2_with fail
    go_ret
    exact⟨by rw[d.o];rfl,(λgs y=>by rw[d.o] at y;cases y),fB.of u.o⟩
end
section
open Go.RowKit
def bK {α : Type} (w:World) (Q:Nat->Prop) (size:Nat) (R:List Value->α->Prop) (v:Value) (xs:List α):Prop:=
 ∃A cap,v=.slice A xs.length cap/\xs.length<=cap/\cap<=maxLen/\
  (0<xs.length->∃b off,A=some ⟨b,off,none⟩/\Q b/\∀i x,xs[i]? = some x->∃cs,cs.length=size/\R cs x/\hJ w b (off+i*size) cs)
theorem bK.keep {α : Type} {w w':World} {Q Q':Nat->Prop} {size:Nat} {R g:List Value->α->Prop} {v:Value} {xs:List α} (h:bK w Q size R v xs) (F:∀b,Q b->Q' b) (G:∀p:Addr,Q p.block->w'.cell? p=w.cell? p) (H:∀cs x,R cs x->g cs x):bK w' Q' size g v xs:=by obtain⟨A,d,l,m,q,r⟩:=h;refine⟨A,d,l,m,q,λD=>?_⟩;obtain⟨b,e,s,f,u⟩:=r D;refine⟨b,e,s,F b f,λi x hi=>?_⟩;obtain⟨cs,y,z,C⟩:=u i x hi;exact⟨cs,y,H cs x z,λj v E=>(G ⟨b,_,none⟩ f).trans (C j v E)⟩
theorem bK.toR {α : Type} {w:World} {Q:Nat->Prop} {B size:Nat} {R f:List Value->α->Prop} {v:Value} {xs:List α} (h:bK w Q size R v xs) (C:∀b,Q b->b<B) (D:∀cs x,R cs x->f cs x):aH w B size f v xs:=by obtain⟨A,d,g,j,l,m⟩:=h;refine⟨A,d,g,j,l,λz=>?_⟩;obtain⟨b,e,p,q,r⟩:=m z;refine⟨b,e,p,C b q,λi x hi=>?_⟩;obtain⟨cs,s,u,y⟩:=r i x hi;exact⟨cs,s,D cs x u,y⟩
theorem aH.toQ {α : Type} {w:World} {B size:Nat} {R:List Value->α->Prop} {v:Value} {xs:List α} (h:aH w B size R v xs):bK w (· < B) size R v xs:=h
theorem bK.nil {α : Type} (w:World) (Q:Nat->Prop) (size:Nat) (R:List Value->α->Prop):bK w Q size R (.slice none 0 0) []:=⟨none,0,rfl,Nat.le_refl _,by decide,by simp⟩
theorem fL {α : Type} {w:World} {Q:Nat->Prop} {base size:Nat} {e:TypeId} {A:Option Addr} {c:Nat} {rows:List (List Value)} {xs:List α} {R:List Value->α->Prop} (h:w.ownsRow base e size (.slice A xs.length c) xs.length (rows.flatMap id)) (hl:rows.length=xs.length) (j:∀r∈rows,r.length=size) (s:∀g cs,(.slice A xs.length c:Value).ownBlock=some g->base<=g->w.heap[g]? = some (.cells cs e (0,0))->Q g) (v:∀(i:Nat) (r:List Value) (x : α),rows[i]? = some r->xs[i]? = some x->R r x):bK w Q size R (.slice A xs.length c) xs:=by
 rcases h.2 with ⟨d,z⟩ | ⟨g,G,q,d,hb,C,D,E,J,K⟩;·have:xs=[]:=List.length_eq_zero_iff.1 z;subst this;rw[d];exact bK.nil _ _ _ _
 ·injection d with d I y
  subst d;subst y;refine⟨_,_,rfl,D,E,λH=>⟨g,0,rfl,s g q rfl hb C,λi x hi=>?_⟩⟩;have F:=(lE hi).1;have f:rows[i]? = some (rows[i]'(by omega)):=lG (by omega);refine⟨_,j _ (lM f),v i _ x f hi,λk u p=>?_⟩;have l:k<size:=by have:=(lE p).1;have:=j _ (lM f);omega
  have m:i*size+k<xs.length*size:=by have:(i+1)*size<=xs.length*size:=Nat.mul_le_mul_right _ (by omega);rw[Nat.succ_mul] at this;omega
  rw[Nat.zero_add,World.ownsRow.cellAt h (i*size+k) m,b9 rows i k _ j f l];exact p
theorem bI.toQ {α : Type} {w:World} {B:Nat} {l:TypeId} {size:Nat} {R:List Value->α->Prop} {v:Value} {xs:List α} {Q:Nat->Prop} (h:bI w B l size R v xs) (H:∀b cs d,B<=b->w.heap[b]? = some (.cells cs l d)->Q b):bK w Q size R v xs:=by obtain⟨A,e,m,p,q,r⟩:=h;refine⟨A,e,m,p,q,λF=>?_⟩;obtain⟨b,f,cs,d,s,y,g,z⟩:=r F;refine⟨b,f,s,H b cs d y g,λi x hi=>?_⟩;obtain⟨c,C,D,E⟩:=z i x hi;exact⟨c,C,D,λj u G=>(cell_of_row w b _ _ _ _ g).trans (E j u G)⟩
end
end Go.Proofs.YtjaphgpkkfdaaaaGreatDoor
