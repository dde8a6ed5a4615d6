/- Part of the walk of the given code: contracts of the functions that irun.Run reaches, and plain laws on what it reckons. -/
import Derived.Test.YtjaphgpkkfdaaaaGreatDoorZO
import Derived.Test.YtjaphgpkkfdaaaaGreatDoorZJ
set_option maxHeartbeats 16000000
set_option maxRecDepth 100000
set_option linter.all false
namespace Go.Proofs.YtjaphgpkkfdaaaaGreatDoor
section
open Go.RowKit Go.Maps Go.WideMaps
def lN (w:World) (mb:Nat) (gs:List Int):Prop:=w.ownsMap Tryz.prog 3 (plainElem Tryz.prog 3) mb gs.length (jB mZ gs)
structure fB (mb:Nat) (w w':World):Prop where
 os:w'.os=w.os
 tape:w'.tape=w.tape
 output:w'.output=w.output
 size:w.heap.size≤w'.heap.size
 block:∀k,k<w.heap.size→k≠mb→w'.heap[k]? = w.heap[k]?
 cell:∀p:Addr,p.block<w.heap.size→w'.cell? p=w.cell? p
theorem fB.of {mb:Nat} {w w':World} (h:Below w.heap.size w w'):fB mb w w':=⟨h.os,h.tape,h.output,h.size,fun k hk _=>h.block k hk,fun _ hp=>h.cell hp⟩
theorem fB.trans {mb:Nat} {a b c:World} (h:fB mb a b) (g:fB mb b c):fB mb a c:=
 ⟨g.os.trans h.os,g.tape.trans h.tape,g.output.trans h.output,Nat.le_trans h.size g.size,fun k hk hm=>(g.block k (Nat.lt_of_lt_of_le hk h.size) hm).trans (h.block k hk hm),fun p hp=>(g.cell p (Nat.lt_of_lt_of_le hp h.size)).trans (h.cell p hp)⟩
theorem fB.then {mb:Nat} {a b c:World} (h:fB mb a b) (g:Below b.heap.size b c):fB mb a c:=h.trans (fB.of g)
theorem lN.map {w:World} {mb:Nat} {gs:List Int} (h:lN w mb gs):∃es c,w.heap[mb]? = some (.map es c):=by
 obtain⟨es,clock,hb,-⟩:=h
 exact⟨es,clock,hb⟩
theorem wL {w:World} {p:Addr} {es:Array MapEntry} {c:Nat} (h:w.heap[p.block]? = some (.map es c)):w.cell? p=none:=by
 unfold World.cell?
 rw[h]
theorem fB.grown {mb:Nat} {w w':World} (hg:w.grownBy w' (some mb)) (h:∃es c,w.heap[mb]? = some (.map es c)) (h':∃es c,w'.heap[mb]? = some (.map es c)):fB mb w w':=by
 refine⟨hg.os,hg.tape,hg.output,hg.size,fun k hk hm=>hg.block k hk (fun e=>hm (by injection e)),fun p hp=>?_⟩
 by_cases c:p.block=mb
 ·obtain⟨es,cl,h⟩:=h
  obtain⟨es',cl',h'⟩:=h'
  rw[wL (by rw[c];exact h'),wL (by rw[c];exact h)]
 ·exact World.cell?_of_block (hg.block p.block hp (fun e=>c (by injection e)))
theorem lN.below {w w':World} {mb:Nat} {gs:List Int} (h:lN w mb gs) (hk:Below w.heap.size w w'):lN w' mb gs:=mJ h hk
theorem iJ.turn {w w':World} {sb mb:Nat} {S:aR} (h:iJ w sb S) (t:fB mb w w'):iJ w' sb S:=by
 obtain⟨cs,h1,h2,h3⟩:=h
 exact⟨cs,fun i v hv=>(t.cell _ h2).trans (h1 i v hv),Nat.lt_of_lt_of_le h2 t.size,h3.keep t.size (fun p hp=>t.cell p hp)⟩
theorem iV.turn {w w':World} {lb:Nat} {p:aW} {S:aR} {sb mb m:Nat} {tv yv:Value} (h:iV w lb p S sb m tv yv) (t:fB mb w w'):iV w' lb p S sb m tv yv:=by
 obtain⟨⟨⟨a,b,c,h1,h2⟩,h3,h4⟩,h5,h6⟩:=h
 exact⟨⟨⟨a,b,c,fun i v hv=>(t.cell _ h3).trans (h1 i v hv),h2.keep t.size (fun p hp=>t.cell p hp)⟩,Nat.lt_of_lt_of_le h3 t.size,h4.turn t⟩,h5.keep t.size (fun p hp=>t.cell p hp),h6.keep t.size (fun p hp=>t.cell p hp)⟩
def kR (res:Option (List Int)) (mb:Nat) (w:World) (e:Ending) (w':World):Prop:=e=.returned (.bool res.isSome)∧(∀gs,res=some gs→lN w' mb gs)∧fB mb w w'
theorem jO {R:Val→Bool} {p:aW} {S:aR} {low:Option Int} {gens:List Int} {f:a8} {r:List a8}
  (h:dB R p S f=false∨aK f.tos (-1) (low.getD 0 - 1)=false∨(gD p (max 0 (min f.fn ((p.fns.length:Int) - 1)))).gen≠decide (0≤f.gen)∨f.gen < -1):b7 R p S low gens (f::r)=none:=by
 unfold b7
 dsimp only
 refine if_pos ?_
 rcases h with h | h | h | h
 ·rw[h];rfl
 ·rw[h];simp
 ·rw[show((gD p (max 0 (min f.fn ((p.fns.length:Int) - 1)))).gen != decide (0≤f.gen))=true from bne_iff_ne.2 h];simp
 ·rw[decide_eq_true h];simp
theorem uM {R:Val→Bool} {p:aW} {S:aR} {low:Option Int} {gens:List Int} {f:a8} {r:List a8}
  (h1:dB R p S f=true) (h2:aK f.tos (-1) (low.getD 0 - 1)=true) (h3:(gD p (max 0 (min f.fn ((p.fns.length:Int) - 1)))).gen=false) (h4:decide (0≤f.gen)=false) (h5:¬f.gen < -1):b7 R p S low gens (f::r)=b7 R p S (some f.regs.length) gens r:=by
 conv=>lhs;unfold b7
 dsimp only
 rw[h1,h2,h3,h4,decide_eq_false h5]
 rfl
theorem xA {R:Val→Bool} {p:aW} {S:aR} {low:Option Int} {gens:List Int} {f:a8} {r:List a8}
  (h1:dB R p S f=true) (h2:aK f.tos (-1) (low.getD 0 - 1)=true) (h3:(gD p (max 0 (min f.fn ((p.fns.length:Int) - 1)))).gen=true) (h4:decide (0≤f.gen)=true):b7 R p S low gens (f::r) =
   match bM S ⟨5,f.gen⟩ 5 with
   | none=>none
   | some c=>if low=none∨c.num≠1∨f.gen∈gens then none else b7 R p S (some f.regs.length) (gens++[f.gen]) r:=by
 have h5:¬f.gen < -1:=by have:=of_decide_eq_true h4;omega
 conv=>lhs;unfold b7
 dsimp only
 rw[h1,h2,h3,h4,decide_eq_false h5]
 rfl
theorem stack_c (A:Option Addr) (cap:Nat) (fs:List a8) (gens:List Int) (p:aW) (S:aR) (lb sb mb:Nat) (tv yv:Value) (w:World) (hs:aH w w.heap.size 8 (eR w w.heap.size) (.slice A fs.length cap) fs) (h:iV w lb p S sb mb tv yv) (hg:lN w mb gens) (hlens:i8 p) (hp0:0<p.fns.length) (hsmall:gens.length+fs.length≤1000000) :
  Calls Tryz.prog 135 #[.pointer (some ⟨lb,0,none⟩),.slice A fs.length cap] w (kR (b7 aG p S none gens fs) mb w):=by
 obtain⟨res,hres⟩:∃r,b7 aG p S none gens fs=r:=⟨_,rfl⟩
 rw[hres]
 unfold kR
 have HRES:=hI hres
 have HS:=hI hs
 have LT:=hI h
 have HG:=hI hg
 have HLN:=hI hlens
 have ll:=aP hs
 obtain⟨pa,pb,pc,hl,hpr⟩:=h.look.here
 obtain⟨PA1,pn1,PA2,pn2,PA3,pn3,hpe,hpf,-⟩:=id hpr
 simp only[List.cons.injEq,and_true] at hpe
 obtain⟨rfl,rfl,rfl⟩:=hpe
 have HPF:=hI hpf
 have HL:=hI hl
 have lpf:=aP hpf
 have hlb:=h.look.size
 have SMALL:=hI hsmall
 clear hs h hg hlens hres hl hpr hpf hsmall
 go_enter Tryz.func135,Tryz.ntmps135
 go_wp2_with fail
 go_loopw [13] (fun k wr=>∃(j:Nat) (gs:List Int),k=.int .i64 j∧j≤fs.length∧Hid (b7 aG p S (if j=0 then none else(fs[j - 1]?).map (fun f=>(f.regs.length:Int))) gs (fs.drop j)=res)∧Hid (lN wr mb gs)∧Hid (gs.length≤gens.length+j)∧Hid (fB mb w wr)) (fun k _=>fs.length - (RowKit.intOf k).toNat)
 case atStart=>exact⟨0,gens,rfl,by omega,HRES.out,HG.out,by show _≤_;omega,fB.of (Below.refl _ _)⟩
 case round=>
  obtain⟨j,gs,rfl,hj,HST,HGS,HGL,KW⟩:=hrel
  have hsz:=KW.out.size
  by_cases hlt:j<fs.length
  case neg=>
   have hji:¬(j:Int)<fs.length:=by omega
   have HEND:Hid (res=some gs):=by
    have:=HST.out
    rw[List.drop_of_length_le (by omega)] at this
    exact this.symm
   go_wp2_with fail
   go_ret
   exact⟨by rw[HEND.out];rfl,fun g hg=>by rw[HEND.out] at hg;injection hg with hg;exact hg ▸ HGS.out,KW.out⟩
  have hji:(j:Int)<fs.length:=by omega
  obtain⟨b,off,f,fcs,rfl,hb,hx,-,hR,hat⟩:=HS.out.at_ hlt
  have HFR:Hid (eR wr wr.heap.size fcs f):=hR.keep hsz (fun p hp=>KW.out.cell p hp)
  obtain⟨rv,tv0,rfl,hrg,htr,-⟩:=hR
  obtain⟨RA,rc,rfl,-⟩:=id hrg
  obtain⟨TA,tc,rfl,-⟩:=id htr
  have lrg:=aP hrg
  have HX:=hI hx
  have g0:wr.cell? ⟨b,off+j*8,none⟩=some (.int .i64 f.fn):=(KW.out.cell _ hb).trans (hat 0 _ rfl)
  have g1:wr.cell? ⟨b,off+j*8+1,none⟩=some (.int .i64 f.at_):=(KW.out.cell _ hb).trans (hat 1 _ rfl)
  have g2:wr.cell? ⟨b,off+j*8+2,none⟩=some (.int .i64 f.tos):=(KW.out.cell _ hb).trans (hat 2 _ rfl)
  have g3:wr.cell? ⟨b,off+j*8+3,none⟩=some (.int .i64 f.gen):=(KW.out.cell _ hb).trans (hat 3 _ rfl)
  have g4:wr.cell? ⟨b,off+j*8+4,none⟩=some (.int .i64 f.self.kind):=(KW.out.cell _ hb).trans (hat 4 _ rfl)
  have g5:wr.cell? ⟨b,off+j*8+5,none⟩=some (.int .i64 f.self.n):=(KW.out.cell _ hb).trans (hat 5 _ rfl)
  have g6:wr.cell? ⟨b,off+j*8+6,none⟩=some (.slice RA f.regs.length rc):=(KW.out.cell _ hb).trans (hat 6 _ rfl)
  have g7:wr.cell? ⟨b,off+j*8+7,none⟩=some (.slice TA f.tries.length tc):=(KW.out.cell _ hb).trans (hat 7 _ rfl)
  have hdrop:fs.drop j=f::fs.drop (j+1):=by
   obtain⟨h1,h2⟩:=lE hx
   rw[List.drop_eq_getElem_cons h1,h2]
  obtain⟨low,hlow⟩:∃low:Option Int,(if j=0 then none else(fs[j - 1]?).map (fun f=>(f.regs.length:Int)))=low:=⟨_,rfl⟩
  have HST2:Hid (b7 aG p S low gs (f::fs.drop (j+1))=res):=by have:=HST.out;rwa [hdrop,hlow] at this
  have HLOW:=hI hlow
  have hzb:b<wr.heap.size:=Nat.lt_of_lt_of_le hb hsz
  clear hat hx hdrop hlow HST hrg htr
  obtain⟨w1,hw1⟩:∃w1,w1=wr.alloc (.cells #[.int .i64 f.fn,.int .i64 f.at_,.int .i64 f.tos,.int .i64 f.gen,.int .i64 f.self.kind,.int .i64 f.self.n,.slice RA f.regs.length rc,.slice TA f.tries.length tc] 61):=⟨_,rfl⟩
  have K1:Hid (Below wr.heap.size wr w1):=by rw[hw1];exact aB _ _
  have HB1:Hid (aA w1 wr.heap.size [.int .i64 f.fn,.int .i64 f.at_,.int .i64 f.tos,.int .i64 f.gen,.int .i64 f.self.kind,.int .i64 f.self.n,.slice RA f.regs.length rc,.slice TA f.tries.length tc]):=by rw[hw1];exact ad5 _ _ _
  have HW1:=hI hw1
  have hz1:wr.heap.size<w1.heap.size:=by rw[hw1];simp
  clear hw1
  go_upto_region 5 with fail
  rw[←HW1.out]
  clear g0 g1 g2 g3 g4 g5 g6 g7
  go_upto_if 19 with fail
  go_cut [7] (fun a wx=>a=.int .i64 (low.getD 0)∧wx=w1)
  case first=>
   rcases Nat.eq_zero_or_pos j with h0 | h0
   ·subst h0
    have hlow0:low=none:=HLOW.out.symm
    subst hlow0
    go_wp2_with fail
    go_meet
    case rel=>exact⟨rfl,rfl⟩
   ·obtain⟨j',rfl⟩:∃j',j=j'+1:=⟨j - 1,by omega⟩
    obtain⟨b',off',f',fcs',hbo,hb',hx',-,hR',hat'⟩:=HS.out.at_ (i:=j') (by omega)
    obtain⟨rfl,rfl⟩:b=b'∧off=off':=by injection hbo with hbo;injection hbo with h1 h2;exact⟨h1,h2⟩
    obtain⟨rv',tv',rfl,hrg',-⟩:=hR'
    obtain⟨RA',rc',rfl,-⟩:=id hrg'
    have lrg':=aP hrg'
    have hc6:w1.cell? ⟨b,off+j'*8+6,none⟩=some (.slice RA' f'.regs.length rc'):=(K1.out.cell hzb).trans ((KW.out.cell _ hb).trans (hat' 6 _ rfl))
    have hlow1:low.getD 0=(f'.regs.length:Int):=by
     rw[←HLOW.out,if_neg (by omega),show j'+1 - 1=j' by omega,hx'];rfl
    have HLOW1:=hI hlow1
    clear hlow1
    have hj1:(j':Int)+1 - 1=j':=by omega
    have hj2:(j':Int)<fs.length:=by omega
    have hj3:(0:Int)<(j':Int)+1:=by omega
    clear hat' hx' hrg' hbo
    go_wp2_with fail
    go_meet
    case rel=>exact⟨by rw[HLOW1.out],rfl⟩
  case rest=>
   obtain⟨rfl,hwc⟩:=hcut
   rw[hwc]
   clear hwc
   obtain⟨mn,hmn⟩:∃m,min f.fn ((p.fns.length:Int) - 1)=m:=⟨_,rfl⟩
   have hx0:0≤max 0 mn∧max 0 mn<p.fns.length:=by rw[←hmn];omega
   obtain⟨x,hxe⟩:∃x:Nat,max 0 mn=(x:Int):=⟨(max 0 mn).toNat,by omega⟩
   have hxl:x<p.fns.length:=by omega
   have hxi:(x:Int)<p.fns.length:=by omega
   obtain⟨b2,off2,G,gcs,hpa,hb2,hgx,-,⟨CA,cn,OA,on_,rfl,-⟩,hgat⟩:=HPF.out.at_ hxl
   subst hpa
   have HGA:Hid (gD p (max 0 (min f.fn ((p.fns.length:Int) - 1)))=G):=by show _=_;rw[hmn,hxe];unfold gD;rw[Int.toNat_natCast,hgx];rfl
   have HMN:=hI hmn
   have HXE:=hI hxe
   have LT1:=hI ((LT.out.turn KW.out).below K1.out)
   have KW1:=hI (KW.out.then K1.out)
   have a0:∀E:Up w1,E.to.cell? ⟨lb,0,none⟩=some (.slice (some ⟨b2,off2,none⟩) p.fns.length pn1):=fun E=>E.cell ((KW1.out.cell _ hlb).trans (HL.out 0 _ rfl))
   have a1:=ecZ (HB1.out 0 _ rfl)
   have a2:∀E:Up w1,E.to.cell? ⟨b2,off2+x*5+2,none⟩=some (.bool G.gen):=fun E=>E.cell ((KW1.out.cell _ hb2).trans (hgat 2 _ rfl))
   clear hgat hgx hx0
   go_upto_region 7 with fail
   refine cV (fun w'=>∃E:Up w1,w'=E.to) 20 [] [] (by kernel_rfl) (by decide) (by kernel_rfl) (fun _ _ d _ _ h=>by cases d <;> exact h) ⟨⟨_,(Below.refl _ w1).drew⟩,rfl⟩ ?_
   simp only[List.take_succ_cons,List.take_zero]
   generalize hqq:(fun a'=>gA _ _ _ _ _ _ a' _)=qq
   have HQQ:=hI hqq
   clear hqq
   repeat (go_big_quiet_step (fail))
   refine wpQuiet_nil ?_
   rw[←HQQ.out]
   clear HQQ qq a0 a1 a2 hmn hxe
   refine bP [] _ _ (by kernel_rfl) (by kernel_rfl) ?_
   simp only[List.filterMap_nil]
   obtain⟨w2,hw2⟩:∃w2,w2=w1.drew:=⟨_,rfl⟩
   have K12:Hid (Below w1.heap.size w1 w2):=by rw[hw2];exact(Below.refl _ w1).drew
   rw[←hw2]
   clear hw2
   have KR2:=btZ K1 K12.out
   have KW2:=hI (KW1.out.then K12.out)
   have HB2:=hI (HB1.out.on K12.out)
   have LT2:=hI (LT1.out.below K12.out)
   have HFR2:Hid (eR w2 w2.heap.size [.int .i64 f.fn,.int .i64 f.at_,.int .i64 f.tos,.int .i64 f.gen,.int .i64 f.self.kind,.int .i64 f.self.n,.slice RA f.regs.length rc,.slice TA f.tries.length tc] f):=HFR.out.keep KR2.out.size (fun p hp=>KR2.out.cell hp)
   have HWG:Hid (wfi f.gen):=by obtain⟨r0,t0,-,-,-,-,-,-,h,-⟩:=HFR2.out;exact h
   have CFR:=hI (zL _ f p S lb sb mb _ _ w2 HFR2.out LT2.out HLN.out)
   have CW:Hid (∀W,Calls Tryz.prog 95 #[.int .i64 f.tos,.int .i64 (-1),.int .i64 (low.getD 0 - 1)] W fun e w'=>e=.returned (.bool (aK f.tos (-1) (low.getD 0 - 1)))∧W=w'):=fun W=>iD _ _ _ W
   have hlw:0≤low.getD 0∧low.getD 0≤9223372036854775807:=by
    rw[←HLOW.out]
    by_cases hj0:j=0
    ·rw[if_pos hj0];simp
    ·rw[if_neg hj0]
     obtain⟨b',off',f',fcs',-,-,hx',-,⟨rv',tv',-,hrg',-⟩,-⟩:=HS.out.at_ (i:=j - 1) (by omega)
     obtain⟨RA',rc',rfl,h1,h2,-⟩:=hrg'
     unfold maxLen at h2
     rw[hx']
     show 0≤(f'.regs.length:Int)∧(f'.regs.length:Int)≤_
     omega
   obtain⟨hlw0,hlw1⟩:=hlw
   obtain⟨q1,hq1⟩:∃q,dB aG p S f=q:=⟨_,rfl⟩
   obtain⟨q2,hq2⟩:∃q,aK f.tos (-1) (low.getD 0 - 1)=q:=⟨_,rfl⟩
   obtain⟨gg,hgg⟩:∃g,G.gen=g:=⟨_,rfl⟩
   rw[hq1] at CFR
   rw[hq2] at CW
   have HQ1:=hI hq1
   have HQ2:=hI hq2
   have HGG:Hid ((gD p (max 0 (min f.fn ((p.fns.length:Int) - 1)))).gen=gg):=by show _=_;rw[HGA.out,hgg]
   have hc0:=HB2.out 0 _ rfl
   have hc1:=HB2.out 1 _ rfl
   have hc2:=HB2.out 2 _ rfl
   have hc3:=HB2.out 3 _ rfl
   have hc4:=HB2.out 4 _ rfl
   have hc5:=HB2.out 5 _ rfl
   have hc6:=HB2.out 6 _ rfl
   have hc7:=HB2.out 7 _ rfl
   rw[hgg]
   clear hgg hq1 hq2
   go_wp2_with fail
   refine CFR.out.mono ?_
   rintro e w3 ⟨rfl,k3⟩
   have K23:=hI k3
   have KR3:=btZ KR2 k3
   have KW3:=hI (KW2.out.then k3)
   have HB3:=hI (HB2.out.on k3)
   clear k3 hc0 hc1 hc2 hc3 hc4 hc5 hc6 hc7
   cases q1
   case false=>
    have HNONE:Hid (res=none):=by rw[←HST2.out];exact jO (.inl HQ1.out)
    go_wp2_with fail
    go_ret
    exact⟨by rw[HNONE.out];rfl,(fun gs hg=>by rw[HNONE.out] at hg;cases hg),KW3.out⟩
   have hd2:=HB3.out 2 _ rfl
   have hd3:=HB3.out 3 _ rfl
   go_wp2_with fail
   refine(CW.out _).mono ?_
   rintro e w4 ⟨rfl,rfl⟩
   cases q2
   case false=>
    have HNONE:Hid (res=none):=by rw[←HST2.out];exact jO (.inr (.inl HQ2.out))
    go_wp2_with fail
    go_ret
    exact⟨by rw[HNONE.out];rfl,(fun gs hg=>by rw[HNONE.out] at hg;cases hg),KW3.out⟩
   by_cases hge:0≤f.gen
   case neg=>
    have hgd:decide (0≤f.gen)=false:=decide_eq_false hge
    cases gg
    case true=>
     have HNONE:Hid (res=none):=by rw[←HST2.out];exact jO (.inr (.inr (.inl (by rw[HGG.out,hgd];simp))))
     go_wp2_with fail
     go_ret
     exact⟨by rw[HNONE.out];rfl,(fun gs hg=>by rw[HNONE.out] at hg;cases hg),KW3.out⟩
    by_cases hg1:f.gen < -1
    ·have HNONE:Hid (res=none):=by rw[←HST2.out];exact jO (.inr (.inr (.inr hg1)))
     go_wp2_with fail
     go_ret
     exact⟨by rw[HNONE.out];rfl,(fun gs hg=>by rw[HNONE.out] at hg;cases hg),KW3.out⟩
    have hgd1:decide (f.gen < -1)=false:=decide_eq_false hg1
    have HNX:Hid (b7 aG p S (if j+1=0 then none else(fs[j+1 - 1]?).map (fun f=>(f.regs.length:Int))) gs (fs.drop (j+1))=res):=by
     rw[if_neg (by omega),show j+1 - 1=j from rfl,HX.out]
     show b7 aG p S (some (f.regs.length:Int)) gs (fs.drop (j+1))=res
     rw[←HST2.out,uM HQ1.out HQ2.out HGG.out hgd hg1]
    clear hge hg1
    go_wp2_with fail
    go_roundw
    case rel=>exact⟨j+1,gs,by go_num,by omega,HNX.out,HGS.out.below KR3.out,by show _≤_;have:=HGL.out;omega,KW3.out⟩
    case measure=>simp[RowKit.intOf];omega
   have hgd:decide (0≤f.gen)=true:=decide_eq_true hge
   cases gg
   case false=>
    have HNONE:Hid (res=none):=by rw[←HST2.out];exact jO (.inr (.inr (.inl (by rw[HGG.out,hgd];simp))))
    go_wp2_with fail
    go_ret
    exact⟨by rw[HNONE.out];rfl,(fun gs hg=>by rw[HNONE.out] at hg;cases hg),KW3.out⟩
   have hgd1:decide (f.gen < -1)=false:=decide_eq_false (by omega)
   have HST3:=hI (xA (r:=fs.drop (j+1)) (gens:=gs) HQ1.out HQ2.out HGG.out hgd)
   have CL:=hI (uU ⟨5,f.gen⟩ 5 p S lb sb mb _ _ w3 (LT2.out.below K23.out).look)
   go_wp2_with fail
   refine CL.out.mono ?_
   rintro e w4 ⟨ck,cnum,vv,fv,isb,rfl,⟨VA,VN,VC,rfl⟩,⟨FA,FN,FC,rfl⟩,hib,hcn,k4⟩
   have HIB:=hI hib
   have HCN:=hI hcn
   have KR4:=btZ KR3 k4
   have KW4:=hI (KW3.out.then k4)
   have HB4:=hI (HB3.out.on k4)
   clear hd2 hd3 hib hcn k4
   go_upto_region 12 with fail
   obtain⟨w5,hw5⟩:∃w5,w5=w4.alloc (.cells #[.int .i64 ck,.int .i64 cnum,.slice VA VN VC,.slice FA FN FC] 55):=⟨_,rfl⟩
   have K45:Hid (Below w4.heap.size w4 w5):=by rw[hw5];exact aB _ _
   have KR5:=btZ KR4 K45.out
   have KW5:=hI (KW4.out.then K45.out)
   have HB5:=hI (HB4.out.on K45.out)
   have CNUM:Hid (w5.cell? ⟨w4.heap.size,1,none⟩=some (.int .i64 cnum)):=by rw[hw5];exact bL _ _ _ _
   have G5:=hI (HGS.out.below KR5.out)
   have HW5:=hI hw5
   clear hw5
   rw[←HW5.out]
   have a0:=ecZ CNUM.out
   have a1:∀E:Up w5,E.to.cell? ⟨lb,6,none⟩=some (.map (some mb)):=fun E=>E.cell ((KW5.out.cell _ hlb).trans (HL.out 6 _ rfl))
   have a2:=ecZ (HB5.out 3 _ rfl)
   have a3:∀E:Up w5,(Instr.lookup 114 (.map (some mb)) (.int .i64 f.gen) false).run Tryz.prog E.to=.ok (.int .i64 (if f.gen∈gs then 1 else 0)) E.to:=fun E=>pA (mJ G5.out E.below) HWG.out
   refine aD (by kernel_rfl) (by kernel_rfl) ?_
   repeat (go_big_quiet_step (fail))
   obtain⟨b0,hb0⟩:∃b:Bool,((j:Int) == 0)=b:=⟨_,rfl⟩
   rw[hb0]
   cases b0
   case true=>
    have HNONE:Hid (res=none):=by
     have hj0:j=0:=by have:=beq_iff_eq.1 hb0;omega
     have hl0:low=none:=by rw[←HLOW.out,if_pos hj0]
     rw[←HST2.out,HST3.out,hl0]
     cases bM S ⟨5,f.gen⟩ 5 with
     | none=>rfl
     | some c=>exact if_pos (.inl rfl)
    repeat (go_big_quiet_step (fail))
    refine wpQuiet_nil ?_
    (first | rintro _ ⟨E,rfl⟩ | intro E)
    have KE:=hI (KW5.out.then E.below)
    clear a0 a1 a2 a3
    go_wp2_with fail
    go_ret
    exact⟨by rw[HNONE.out];rfl,(fun gs hg=>by rw[HNONE.out] at hg;cases hg),KE.out⟩
   repeat (go_big_quiet_step (fail))
   obtain⟨nb1,hnb1⟩:∃b:Bool,(!isb)=b:=⟨_,rfl⟩
   rw[hnb1]
   cases nb1
   case true=>
    obtain rfl:isb=false:=by simpa using hnb1
    have HNONE:Hid (res=none):=by
     rw[←HST2.out,HST3.out]
     cases hq:bM S ⟨5,f.gen⟩ 5 with
     | none=>rfl
     | some c=>have:=HIB.out;rw[hq] at this;cases this
    repeat (go_big_quiet_step (fail))
    refine wpQuiet_nil ?_
    (first | rintro _ ⟨E,rfl⟩ | intro E)
    have KE:=hI (KW5.out.then E.below)
    clear a0 a1 a2 a3
    go_wp2_with fail
    go_ret
    exact⟨by rw[HNONE.out];rfl,(fun gs hg=>by rw[HNONE.out] at hg;cases hg),KE.out⟩
   obtain rfl:isb=true:=by simpa using hnb1
   obtain⟨c,hc⟩:∃c,bM S ⟨5,f.gen⟩ 5=some c:=by
    cases hq:bM S ⟨5,f.gen⟩ 5 with
    | none=>have:=HIB.out;rw[hq] at this;cases this
    | some c=>exact⟨c,rfl⟩
   have HST4:Hid ((if low=none∨c.num≠1∨f.gen∈gs then none else b7 aG p S (some (f.regs.length:Int)) (gs++[f.gen]) (fs.drop (j+1)))=res):=by
    rw[←HST2.out,HST3.out,hc];rfl
   obtain rfl:cnum=c.num:=HCN.out c hc
   clear hc
   repeat (go_big_quiet_step (fail))
   obtain⟨b2,hb2⟩:∃b:Bool,(c.num != 1)=b:=⟨_,rfl⟩
   rw[hb2]
   cases b2
   case true=>
    have HNONE:Hid (res=none):=by rw[←HST4.out];exact if_pos (.inr (.inl (bne_iff_ne.1 hb2)))
    repeat (go_big_quiet_step (fail))
    refine wpQuiet_nil ?_
    (first | rintro _ ⟨E,rfl⟩ | intro E)
    have KE:=hI (KW5.out.then E.below)
    clear a0 a1 a2 a3
    go_wp2_with fail
    go_ret
    exact⟨by rw[HNONE.out];rfl,(fun gs hg=>by rw[HNONE.out] at hg;cases hg),KE.out⟩
   by_cases hmem:f.gen∈gs
   ·rw[if_pos hmem] at a3
    have HNONE:Hid (res=none):=by rw[←HST4.out];exact if_pos (.inr (.inr hmem))
    clear hmem
    repeat (go_big_quiet_step (fail))
    refine wpQuiet_nil ?_
    (first | rintro _ ⟨E,rfl⟩ | intro E)
    have KE:=hI (KW5.out.then E.below)
    clear a0 a1 a2 a3
    go_wp2_with fail
    go_ret
    exact⟨by rw[HNONE.out];rfl,(fun gs hg=>by rw[HNONE.out] at hg;cases hg),KE.out⟩
   rw[if_neg hmem] at a3
   have HNX:Hid (b7 aG p S (if j+1=0 then none else(fs[j+1 - 1]?).map (fun f=>(f.regs.length:Int))) (gs++[f.gen]) (fs.drop (j+1))=res):=by
    rw[if_neg (by omega),show j+1 - 1=j from rfl,HX.out]
    show b7 aG p S (some (f.regs.length:Int)) (gs++[f.gen]) (fs.drop (j+1))=res
    rw[←HST4.out,if_neg]
    rintro (h | h | h)
    ·have hj0:j≠0:=fun h0=>by rw[h0] at hb0;cases hb0
     obtain⟨b',off',f',fcs',-,-,hx',-⟩:=HS.out.at_ (i:=j - 1) (by omega)
     rw[←HLOW.out,if_neg hj0,hx'] at h
     cases h
    ·exact h (by simpa using hb2)
    ·exact hmem h
   clear hmem
   repeat (go_big_quiet_step (fail))
   refine wpQuiet_nil ?_
   rintro _ ⟨E,rfl⟩
   obtain⟨w6,k6⟩:=E
   dsimp only
   have KR6:=btZ KR5 k6
   have KW6:=hI (KW5.out.then k6)
   have G6:=hI (G5.out.below k6)
   have HB6:=hI (HB5.out.on k6)
   clear a0 a1 a2 a3 k6
   have e1:∀E:Up w6,E.to.cell? ⟨lb,6,none⟩=some (.map (some mb)):=fun E=>E.cell ((KW6.out.cell _ hlb).trans (HL.out 6 _ rfl))
   have e2:=ecZ (HB6.out 3 _ rfl)
   go_upto_region 14 with fail
   refine aL 6 (by kernel_rfl) (by kernel_rfl) ?_
   simp only[List.take_succ_cons,List.take_zero,List.drop_succ_cons,List.drop_zero]
   repeat (go_big_quiet_step (fail))
   refine wpQuiet_nil ?_
   (first | rintro _ ⟨E,rfl⟩ | intro E)
   obtain⟨w7,k7⟩:=E
   dsimp only
   have KW7:=hI (KW6.out.then k7)
   have G7:=hI (G6.out.below k7)
   have hkey:=hI (nT HWG.out)
   clear e1 e2 k7
   have hn7:gs.length<maxLen:=by have:=HGL.out;have:=SMALL.out;unfold maxLen;omega
   go_wp2_with (first
    | (at_mapUpdate;refine wpList_mapUpdate_own _ rfl _ _ _ 114 rfl 3 3 xQ Tryz.underlying114 _ mb gs.length _ rfl G7.out hn7 _ _ _ rfl rfl hkey.out _ [] (plainElem_int Tryz.underlying3 (by decide)) ?_;intro w8 hown8 hgrow8)
    | fail)
   have G8:Hid (lN w8 mb (gs++[f.gen])):=by
    show w8.ownsMap _ _ _ _ _ _
    rw[nM,List.length_append];exact hown8
   have KW8:=hI (KW7.out.trans (fB.grown hgrow8 G7.out.map G8.out.map))
   clear hown8 hgrow8
   go_wp2_with fail
   go_roundw
   case rel=>exact⟨j+1,gs++[f.gen],by go_num,by omega,HNX.out,G8.out,by show _≤_;have:=HGL.out;rw[List.length_append];simp;omega,KW8.out⟩
   case measure=>simp[RowKit.intOf];omega
end
section
open Go.RowKit Go.Maps Go.WideMaps
theorem abZ {v:Val} (h1:(v.kind == 0)=true) (h2:(v.n == 0)=true):v=⟨0,0⟩:=by
 obtain⟨a,b⟩:=v
 have e1:=beq_iff_eq.1 h1
 have e2:=beq_iff_eq.1 h2
 dsimp only at e1 e2
 rw[e1,e2]
def jR (h:bW):Bool:=h.state == 3 || h.state == 4
theorem fK {R:Val→Bool} {p:aW} {S:aR} {gens:List Int} {h:bW}
  (hb:(jR h != h.frames.isEmpty)=true∨(jR h=false∧h.val≠⟨0,0⟩)∨dJ R S h.val=false∨aK h.state 0 4=false):eN R p S gens h=none:=by
 unfold eN
 refine if_pos ?_
 unfold jR at hb
 rcases hb with e | ⟨e,e2⟩ | e | e
 ·rw[e];rfl
 ·rw[e,show(h.val != ⟨0,0⟩)=true from bne_iff_ne.2 e2];simp
 ·rw[e];simp
 ·rw[e];simp
theorem qX {R:Val→Bool} {p:aW} {S:aR} {gens:List Int} {h:bW}
  (h1:(jR h != h.frames.isEmpty)=false) (h2:jR h=true∨h.val=⟨0,0⟩) (h3:dJ R S h.val=true) (h4:aK h.state 0 4=true):eN R p S gens h =
   if h.state=1∧bM S ⟨5,h.on_⟩ 6=none then none
   else if h.state=2∧aK h.on_ 0 ((S.threads.length:Int) - 1)=false then none
   else if h.state≠1∧h.state≠2∧h.on_≠0 then none
   else b7 R p S none gens h.frames:=by
 unfold eN
 refine if_neg ?_
 unfold jR at h1 h2
 rw[h1,h3,h4]
 rcases h2 with e | e
 ·rw[e];simp
 ·rw[e];simp
theorem ab3 (tcs:List Value) (h:bW) (gens:List Int) (p:aW) (S:aR) (lb sb mb:Nat) (tv yv:Value) (w:World) (ht:g9 w w.heap.size tcs h) (hl:iV w lb p S sb mb tv yv) (hg:lN w mb gens) (hlens:i8 p) (hp0:0<p.fns.length) (hsmall:gens.length+h.frames.length≤1000000) :
  Calls Tryz.prog 99 #[.pointer (some ⟨lb,0,none⟩),.agg ⟨tcs⟩] w (kR (eN aG p S gens h) mb w):=by
 obtain⟨res,hres⟩:∃r,eN aG p S gens h=r:=⟨_,rfl⟩
 rw[hres]
 unfold kR
 have HRES:=hI hres
 obtain⟨fv,rfl,hfr,-⟩:=ht
 obtain⟨FA,fc,rfl,-⟩:=id hfr
 have lf:=aP hfr
 have HF:=hI hfr
 have LT:=hI hl
 have HG:=hI hg
 have HLN:=hI hlens
 obtain⟨pa,pb,pc,hll,hpr⟩:=hl.look.here
 have hlb:=hl.look.size
 have HL:=hI hll
 obtain⟨A0,n0,A1,n1,A2,n2,A3,n3,A4,n4,A5,n5,hh,hb,s0,s1,s2,s3,-⟩:=hl.look.st.parts
 have ls:=aP s3
 have HH:=hI hh
 obtain⟨w1,hw1⟩:∃w1,w1=w.alloc (.cells #[.slice FA h.frames.length fc,.int .i64 h.state,.int .i64 h.on_,.int .i64 h.val.kind,.int .i64 h.val.n] 57):=⟨_,rfl⟩
 have K1:Hid (Below w.heap.size w w1):=by rw[hw1];exact aB _ _
 have HB1:Hid (aA w1 w.heap.size [.slice FA h.frames.length fc,.int .i64 h.state,.int .i64 h.on_,.int .i64 h.val.kind,.int .i64 h.val.n]):=by rw[hw1];exact ad5 _ _ _
 have hz1:w.heap.size<w1.heap.size:=by rw[hw1];simp
 have HW1:=hI hw1
 clear hw1 hres hfr hl hg hlens hll hpr hh s0 s1 s2 s3
 go_enter Tryz.func99,Tryz.ntmps99
 go_upto_region 1 with fail
 rw[←HW1.out]
 go_cut [5] (fun a wx=>a=.bool (jR h)∧wx=w1)
 case first=>
  have e1:=HB1.out 1 _ rfl
  by_cases c3:h.state=3
  ·rw[c3] at e1
   have HO:Hid (jR h=true):=by unfold jR;rw[c3];rfl
   go_wp2_with fail
   go_meet
   case rel=>exact⟨by rw[HO.out],rfl⟩
  ·have b3:(h.state == 3)=false:=beq_eq_false_iff_ne.2 c3
   have HO:Hid (jR h=(h.state == 4)):=by unfold jR;rw[b3];rfl
   go_wp2_with fail
   go_meet
   case rel=>exact⟨by rw[HO.out],rfl⟩
 case rest=>
  obtain⟨rfl,hwc⟩:=hcut
  rw[hwc]
  clear hwc
  obtain⟨ov,hov⟩:∃o,jR h=o:=⟨_,rfl⟩
  rw[hov]
  have HOV:=hI hov
  obtain⟨em,hem⟩:∃o,((h.frames.length:Int) == 0)=o:=⟨_,rfl⟩
  have HEM:Hid (h.frames.isEmpty=em):=by rw[←hem,gY];rfl
  have a0:=ecZ (HB1.out 0 _ rfl)
  have a1:=ecZ (HB1.out 1 _ rfl)
  have a2:=ecZ (HB1.out 3 _ rfl)
  have a3:=ecZ (HB1.out 4 _ rfl)
  have a4:∀E:Up w1,E.to.cell? ⟨lb,3,none⟩=some (.pointer (some ⟨sb,0,none⟩)):=fun E=>E.cell ((K1.out.cell hlb).trans (HL.out 3 _ rfl))
  have CFT:Hid (∀E:Up w1,Calls Tryz.prog 133 #[.pointer (some ⟨sb,0,none⟩),.agg #[.int .i64 h.val.kind,.int .i64 h.val.n]] E.to (aM (.bool (dJ aG S h.val)) E.to)):=fun E=>zM h.val S sb E.to (((LT.out.below K1.out).below E.below).look.st)
  have CW:Hid (∀W,Calls Tryz.prog 95 #[.int .i64 h.state,.int .i64 0,.int .i64 4] W fun e w'=>e=.returned (.bool (aK h.state 0 4))∧W=w'):=fun W=>iD _ _ _ W
  obtain⟨qf,hqf⟩:∃q,dJ aG S h.val=q:=⟨_,rfl⟩
  obtain⟨qw,hqw⟩:∃q,aK h.state 0 4=q:=⟨_,rfl⟩
  rw[hqf] at CFT
  rw[hqw] at CW
  have HQF:=hI hqf
  have HQW:=hI hqw
  have a5:=trivial
  clear hov hqf hqw
  go_upto_region 2 with fail
  go_cut [47] (fun a wx=>∃bd:Bool,a=.bool bd∧Hid (bd=true→res=none)∧Hid (bd=false→(if h.state=1∧bM S ⟨5,h.on_⟩ 6=none then none
   else if h.state=2∧aK h.on_ 0 ((S.threads.length:Int) - 1)=false then none
   else if h.state≠1∧h.state≠2∧h.on_≠0 then none
   else b7 aG p S none gens h.frames)=res)∧Hid (Below w1.heap.size w1 wx))
  case first=>
   refine aD (by kernel_rfl) (by kernel_rfl) ?_
   repeat (go_big_quiet_step (fail))
   obtain⟨b1,hb1⟩:∃b:Bool,(!(ov == em))=b:=⟨_,rfl⟩
   rw[hb1]
   cases b1
   case true=>
    have HNONE:Hid (res=none):=by rw[←HRES.out];exact fK (.inl (by rw[HOV.out,HEM.out];exact hb1))
    repeat (go_big_quiet_step (fail))
    refine wpQuiet_nil ?_
    (first | rintro _ ⟨E,rfl⟩ | intro E)
    obtain⟨w2,k2⟩:=E
    dsimp only
    have KE:=hI k2
    clear a0 a1 a2 a3 a4 a5 k2
    go_wp2_with fail
    go_meet
    case rel=>exact⟨true,rfl,(fun _=>HNONE.out),(fun h=>by cases h),KE⟩
   have HB1':Hid ((jR h != h.frames.isEmpty)=false):=by rw[HOV.out,HEM.out];exact hb1
   repeat (go_big_quiet_step (fail))
   obtain⟨nov,hnov⟩:∃b:Bool,(!ov)=b:=⟨_,rfl⟩
   rw[hnov]
   cases nov
   case true=>
    obtain rfl:ov=false:=by simpa using hnov
    repeat (go_big_quiet_step (fail))
    obtain⟨bk,hbk⟩:∃b,(h.val.kind == 0)=b:=⟨_,rfl⟩
    cases bk
    case false=>
     have HNONE:Hid (res=none):=by rw[←HRES.out];exact fK (.inr (.inl ⟨HOV.out,fun e=>by rw[e] at hbk;cases hbk⟩))
     repeat (go_big_quiet_step (fail))
     refine wpQuiet_nil ?_
     (first | rintro _ ⟨E,rfl⟩ | intro E)
     obtain⟨w2,k2⟩:=E
     dsimp only
     have KE:=hI k2
     clear a0 a1 a2 a3 a4 a5 k2
     go_wp2_with fail
     go_meet
     case rel=>exact⟨true,rfl,(fun _=>HNONE.out),(fun h=>by cases h),KE⟩
    obtain⟨bn,hbn⟩:∃b,(h.val.n == 0)=b:=⟨_,rfl⟩
    cases bn
    case false=>
     have HNONE:Hid (res=none):=by rw[←HRES.out];exact fK (.inr (.inl ⟨HOV.out,fun e=>by rw[e] at hbn;cases hbn⟩))
     repeat (go_big_quiet_step (fail))
     refine wpQuiet_nil ?_
     (first | rintro _ ⟨E,rfl⟩ | intro E)
     obtain⟨w2,k2⟩:=E
     dsimp only
     have KE:=hI k2
     clear a0 a1 a2 a3 a4 a5 k2
     go_wp2_with fail
     go_meet
     case rel=>exact⟨true,rfl,(fun _=>HNONE.out),(fun h=>by cases h),KE⟩
    have HV0:Hid (jR h=true∨h.val=⟨0,0⟩):=.inr (abZ hbk hbn)
    repeat (go_big_quiet_step ((first | (go_at_call 133;with_reducible exact Calls.up (CFT.out _)) | (go_at_call 95;with_reducible exact ad6 (CW.out _)))))
    obtain⟨nqf,hnqf⟩:∃b:Bool,(!qf)=b:=⟨_,rfl⟩
    rw[hnqf]
    cases nqf
    case true=>
     obtain rfl:qf=false:=by simpa using hnqf
     have HNONE:Hid (res=none):=by rw[←HRES.out];exact fK (.inr (.inr (.inl HQF.out)))
     repeat (go_big_quiet_step (fail))
     refine wpQuiet_nil ?_
     (first | rintro _ ⟨E,rfl⟩ | intro E)
     obtain⟨w2,k2⟩:=E
     dsimp only
     have KE:=hI k2
     clear a0 a1 a2 a3 a4 a5 k2
     go_wp2_with fail
     go_meet
     case rel=>exact⟨true,rfl,(fun _=>HNONE.out),(fun h=>by cases h),KE⟩
    obtain rfl:qf=true:=by simpa using hnqf
    repeat (go_big_quiet_step ((first | (go_at_call 133;with_reducible exact Calls.up (CFT.out _)) | (go_at_call 95;with_reducible exact ad6 (CW.out _)))))
    obtain⟨nqw,hnqw⟩:∃b:Bool,(!qw)=b:=⟨_,rfl⟩
    rw[hnqw]
    cases nqw
    case true=>
     obtain rfl:qw=false:=by simpa using hnqw
     have HNONE:Hid (res=none):=by rw[←HRES.out];exact fK (.inr (.inr (.inr HQW.out)))
     repeat (go_big_quiet_step (fail))
     refine wpQuiet_nil ?_
     (first | rintro _ ⟨E,rfl⟩ | intro E)
     obtain⟨w2,k2⟩:=E
     dsimp only
     have KE:=hI k2
     clear a0 a1 a2 a3 a4 a5 k2
     go_wp2_with fail
     go_meet
     case rel=>exact⟨true,rfl,(fun _=>HNONE.out),(fun h=>by cases h),KE⟩
    obtain rfl:qw=true:=by simpa using hnqw
    repeat (go_big_quiet_step (fail))
    refine wpQuiet_nil ?_
    (first | rintro _ ⟨E,rfl⟩ | intro E)
    obtain⟨w2,k2⟩:=E
    dsimp only
    have KE:=hI k2
    clear a0 a1 a2 a3 a4 a5 k2
    go_wp2_with fail
    go_meet
    case rel=>exact⟨false,rfl,(fun h=>by cases h),(fun _=>by rw[←HRES.out];exact(qX HB1'.out HV0.out HQF.out HQW.out).symm),KE⟩
   obtain rfl:ov=true:=by simpa using hnov
   have HV0:Hid (jR h=true∨h.val=⟨0,0⟩):=.inl HOV.out
   repeat (go_big_quiet_step ((first | (go_at_call 133;with_reducible exact Calls.up (CFT.out _)) | (go_at_call 95;with_reducible exact ad6 (CW.out _)))))
   obtain⟨nqf,hnqf⟩:∃b:Bool,(!qf)=b:=⟨_,rfl⟩
   rw[hnqf]
   cases nqf
   case true=>
    obtain rfl:qf=false:=by simpa using hnqf
    have HNONE:Hid (res=none):=by rw[←HRES.out];exact fK (.inr (.inr (.inl HQF.out)))
    repeat (go_big_quiet_step (fail))
    refine wpQuiet_nil ?_
    (first | rintro _ ⟨E,rfl⟩ | intro E)
    obtain⟨w2,k2⟩:=E
    dsimp only
    have KE:=hI k2
    clear a0 a1 a2 a3 a4 a5 k2
    go_wp2_with fail
    go_meet
    case rel=>exact⟨true,rfl,(fun _=>HNONE.out),(fun h=>by cases h),KE⟩
   obtain rfl:qf=true:=by simpa using hnqf
   repeat (go_big_quiet_step ((first | (go_at_call 133;with_reducible exact Calls.up (CFT.out _)) | (go_at_call 95;with_reducible exact ad6 (CW.out _)))))
   obtain⟨nqw,hnqw⟩:∃b:Bool,(!qw)=b:=⟨_,rfl⟩
   rw[hnqw]
   cases nqw
   case true=>
    obtain rfl:qw=false:=by simpa using hnqw
    have HNONE:Hid (res=none):=by rw[←HRES.out];exact fK (.inr (.inr (.inr HQW.out)))
    repeat (go_big_quiet_step (fail))
    refine wpQuiet_nil ?_
    (first | rintro _ ⟨E,rfl⟩ | intro E)
    obtain⟨w2,k2⟩:=E
    dsimp only
    have KE:=hI k2
    clear a0 a1 a2 a3 a4 a5 k2
    go_wp2_with fail
    go_meet
    case rel=>exact⟨true,rfl,(fun _=>HNONE.out),(fun h=>by cases h),KE⟩
   obtain rfl:qw=true:=by simpa using hnqw
   repeat (go_big_quiet_step (fail))
   refine wpQuiet_nil ?_
   (first | rintro _ ⟨E,rfl⟩ | intro E)
   obtain⟨w2,k2⟩:=E
   dsimp only
   have KE:=hI k2
   clear a0 a1 a2 a3 a4 a5 k2
   go_wp2_with fail
   go_meet
   case rel=>exact⟨false,rfl,(fun h=>by cases h),(fun _=>by rw[←HRES.out];exact(qX HB1'.out HV0.out HQF.out HQW.out).symm),KE⟩
  case rest=>
   obtain⟨w2,hw2⟩:∃w2,w2=wc:=⟨_,rfl⟩
   subst hw2
   obtain⟨bd,rfl,HT,HF2,KC⟩:=hcut
   have K2:=btZ K1 KC.out
   have HB2:=hI (HB1.out.on KC.out)
   have LT2:=hI (LT.out.below K2.out)
   have HF3:=hI (HF.out.keep K2.out.size (fun _ hp=>K2.out.cell hp) (fun _ _ h=>h))
   have G2:=hI (HG.out.below K2.out)
   clear a0 a1 a2 a3 a4 a5
   cases bd
   case true=>
    have HNONE:Hid (res=none):=HT.out rfl
    go_wp2_with fail
    go_ret
    exact⟨by rw[HNONE.out];rfl,(fun gs hg=>by rw[HNONE.out] at hg;cases hg),fB.of K2.out⟩
   have HFF:Hid ((if h.state=1∧bM S ⟨5,h.on_⟩ 6=none then none
   else if h.state=2∧aK h.on_ 0 ((S.threads.length:Int) - 1)=false then none
   else if h.state≠1∧h.state≠2∧h.on_≠0 then none
   else b7 aG p S none gens h.frames)=res):=HF2.out rfl
   clear HF2 HT
   have e1:=HB2.out 1 _ rfl
   have e2:=HB2.out 2 _ rfl
   obtain⟨st,hst⟩:∃s,h.state=s:=⟨_,rfl⟩
   obtain⟨on,hon⟩:∃s,h.on_=s:=⟨_,rfl⟩
   have E1:=hI e1
   rw[hst] at e1 HFF
   rw[hon] at e2 HFF
   have HB3:Hid (∀W,Below w2.heap.size w2 W→W.cell? ⟨w.heap.size,0,none⟩=some (.slice FA h.frames.length fc)):=fun W k=>(HB2.out.on k) 0 _ rfl
   have CS:Hid (∀W,Below w2.heap.size w2 W→Calls Tryz.prog 135 #[.pointer (some ⟨lb,0,none⟩),.slice FA h.frames.length fc] W (kR (b7 aG p S none gens h.frames) mb W)):=fun W k=>by
    have kk:=btZ K2 k
    exact stack_c FA fc h.frames gens p S lb sb mb _ _ W ((HF.out.keep kk.size (fun _ hp=>kk.cell hp) (fun _ _ h=>h.keep kk.size (fun _ hp=>kk.cell hp)))) (LT.out.below kk) (HG.out.below kk) HLN.out hp0 hsmall
   clear hst hon
   by_cases s1:st=1
   ·subst s1
    have CL:=hI (uU ⟨5,on⟩ 6 p S lb sb mb _ _ w2 LT2.out.look)
    go_wp2_with fail
    refine CL.out.mono ?_
    rintro e w3 ⟨ck,cnum,vv,fv,isb,rfl,⟨VA,VN,VC,rfl⟩,⟨FA',FN,FC,rfl⟩,hib,-,k3⟩
    have HIB:=hI hib
    have K23:=hI k3
    have K3:=btZ K2 k3
    clear e1 e2 hib k3
    cases isb
    case false=>
     have HNONE:Hid (res=none):=by
      have hq0:bM S ⟨5,on⟩ 6=none:=by
       cases hq:bM S ⟨5,on⟩ 6 with
       | none=>rfl
       | some c=>have:=HIB.out;rw[hq] at this;cases this
      rw[←HFF.out,hq0]
      simp
      trivial
     have KE:Hid (Below w.heap.size w (w3.alloc (.cells #[.int .i64 ck,.int .i64 cnum,.slice VA VN VC,.slice FA' FN FC] 55))):=K3.out.alloc K3.out.size _
     go_wp2_with fail
     go_ret
     exact⟨by rw[HNONE.out];rfl,(fun gs hg=>by rw[HNONE.out] at hg;cases hg),fB.of KE.out⟩
    have HSK:Hid (b7 aG p S none gens h.frames=res):=by
     show _=_
     rw[←HFF.out,if_neg,if_neg (by simp),if_neg (by simp)]
     rintro ⟨-,hq⟩
     have:=HIB.out
     rw[hq] at this;cases this
    obtain⟨w4,hw4⟩:∃w4,w4=w3.alloc (.cells #[.int .i64 ck,.int .i64 cnum,.slice VA VN VC,.slice FA' FN FC] 55):=⟨_,rfl⟩
    have K24:Hid (Below w2.heap.size w2 w4):=by rw[hw4];exact K23.out.alloc K23.out.size _
    have HW4:=hI hw4
    clear hw4
    go_upto_region 9 with fail
    rw[←HW4.out]
    have e0:=HB3.out w4 K24.out
    go_wp2_with fail
    refine(CS.out w4 K24.out).mono ?_
    rintro e w5 ⟨rfl,hgs,k5⟩
    have HGS:=hI hgs
    have K5:=hI ((fB.of (K2.out.trans (K24.out.mono K2.out.size))).trans k5)
    rw[HSK.out] at HGS ⊢
    clear hgs k5 e0
    go_wp2_with fail
    go_ret
    exact⟨rfl,HGS.out,K5.out⟩
   have m1:(st == 1)=false:=beq_eq_false_iff_ne.2 s1
   by_cases s2:st=2
   ·subst s2
    rw[if_neg (by simp)] at HFF
    have CWN:Hid (∀W,Calls Tryz.prog 95 #[.int .i64 on,.int .i64 0,.int .i64 ((S.threads.length:Int) - 1)] W fun e w'=>e=.returned (.bool (aK on 0 ((S.threads.length:Int) - 1)))∧W=w'):=fun W=>iD _ _ _ W
    obtain⟨q,hq⟩:∃q,aK on 0 ((S.threads.length:Int) - 1)=q:=⟨_,rfl⟩
    rw[hq] at CWN HFF
    clear hq
    have b0:=ecZ e2
    have b1:∀E:Up w2,E.to.cell? ⟨lb,3,none⟩=some (.pointer (some ⟨sb,0,none⟩)):=fun E=>E.cell ((K2.out.cell hlb).trans (HL.out 3 _ rfl))
    have b2:∀E:Up w2,E.to.cell? ⟨sb,3,none⟩=some (.slice A3 S.threads.length n3):=fun E=>E.cell ((K2.out.cell hb).trans (HH.out 3 _ rfl))
    go_upto_region 12 with fail
    refine aD (by kernel_rfl) (by kernel_rfl) ?_
    repeat (go_big_quiet_step ((go_at_call 95;with_reducible exact ad6 (CWN.out _))))
    refine wpQuiet_nil ?_
    (first | rintro _ ⟨E,rfl⟩ | intro E)
    obtain⟨w4,k4⟩:=E
    dsimp only
    have K24:=hI k4
    have K4:=btZ K2 k4
    clear b0 b1 b2 e1 e2 k4
    cases q
    case false=>
     have HNONE:Hid (res=none):=by rw[←HFF.out];exact if_pos (by simp)
     go_wp2_with fail
     go_ret
     exact⟨by rw[HNONE.out];rfl,(fun gs hg=>by rw[HNONE.out] at hg;cases hg),fB.of K4.out⟩
    have HSK:Hid (b7 aG p S none gens h.frames=res):=by
     show _=_
     rw[←HFF.out,if_neg (by simp),if_neg (by simp)]
    have e0:=HB3.out w4 K24.out
    go_wp2_with fail
    refine(CS.out w4 K24.out).mono ?_
    rintro e w5 ⟨rfl,hgs,k5⟩
    have HGS:=hI hgs
    have K5:=hI ((fB.of (K2.out.trans (K24.out.mono K2.out.size))).trans k5)
    rw[HSK.out] at HGS ⊢
    clear hgs k5 e0
    go_wp2_with fail
    go_ret
    exact⟨rfl,HGS.out,K5.out⟩
   have m2:(st == 2)=false:=beq_eq_false_iff_ne.2 s2
   rw[if_neg (by rintro ⟨h,-⟩;exact s1 h),if_neg (by rintro ⟨h,-⟩;exact s2 h)] at HFF
   by_cases o0:on=0
   ·subst o0
    have HSK:Hid (b7 aG p S none gens h.frames=res):=by
     show _=_
     rw[←HFF.out,if_neg (by simp)]
    have e0:=HB3.out w2 (Below.refl _ _)
    go_wp2_with fail
    refine(CS.out w2 (Below.refl _ _)).mono ?_
    rintro e w5 ⟨rfl,hgs,k5⟩
    have HGS:=hI hgs
    have K5:=hI ((fB.of K2.out).trans k5)
    rw[HSK.out] at HGS ⊢
    clear hgs k5 e0 e1 e2
    go_wp2_with fail
    go_ret
    exact⟨rfl,HGS.out,K5.out⟩
   ·have HNONE:Hid (res=none):=by rw[←HFF.out];exact if_pos ⟨s1,s2,o0⟩
    have mo:(on == 0)=false:=beq_eq_false_iff_ne.2 o0
    have mo':(on != 0)=true:=bne_iff_ne.2 o0
    go_wp2_with fail
    go_ret
    exact⟨by rw[HNONE.out];rfl,(fun gs hg=>by rw[HNONE.out] at hg;cases hg),fB.of K2.out⟩
end
section
open Go.RowKit
def bK {α : Type} (w:World) (Q:Nat→Prop) (size:Nat) (R:List Value→α→Prop) (v:Value) (xs:List α):Prop:=
 ∃A cap,v=.slice A xs.length cap∧xs.length≤cap∧cap≤maxLen∧
  (0<xs.length→∃b off,A=some ⟨b,off,none⟩∧Q b∧∀i x,xs[i]? = some x→∃cs,cs.length=size∧R cs x∧hJ w b (off+i*size) cs)
theorem bK.keep {α : Type} {w w':World} {Q Q':Nat→Prop} {size:Nat} {R R':List Value→α→Prop} {v:Value} {xs:List α} (h:bK w Q size R v xs) (hQ:∀b,Q b→Q' b) (hk:∀p:Addr,Q p.block→w'.cell? p=w.cell? p)
  (hR:∀cs x,R cs x→R' cs x):bK w' Q' size R' v xs:=by
 obtain⟨A,cap,h1,h2,h3,h4⟩:=h
 refine⟨A,cap,h1,h2,h3,fun hp=>?_⟩
 obtain⟨b,off,h5,h6,h7⟩:=h4 hp
 refine⟨b,off,h5,hQ b h6,fun i x hi=>?_⟩
 obtain⟨cs,c1,c2,c3⟩:=h7 i x hi
 exact⟨cs,c1,hR cs x c2,fun j v hj=>(hk ⟨b,_,none⟩ h6).trans (c3 j v hj)⟩
theorem bK.toR {α : Type} {w:World} {Q:Nat→Prop} {B size:Nat} {R R':List Value→α→Prop} {v:Value} {xs:List α} (h:bK w Q size R v xs) (hQ:∀b,Q b→b<B) (hR:∀cs x,R cs x→R' cs x):aH w B size R' v xs:=by
 obtain⟨A,cap,h1,h2,h3,h4⟩:=h
 refine⟨A,cap,h1,h2,h3,fun hp=>?_⟩
 obtain⟨b,off,h5,h6,h7⟩:=h4 hp
 refine⟨b,off,h5,hQ b h6,fun i x hi=>?_⟩
 obtain⟨cs,c1,c2,c3⟩:=h7 i x hi
 exact⟨cs,c1,hR cs x c2,c3⟩
theorem aH.toQ {α : Type} {w:World} {B size:Nat} {R:List Value→α→Prop} {v:Value} {xs:List α} (h:aH w B size R v xs):bK w (· < B) size R v xs:=h
theorem bK.nil {α : Type} (w:World) (Q:Nat→Prop) (size:Nat) (R:List Value→α→Prop):bK w Q size R (.slice none 0 0) []:=⟨none,0,rfl,Nat.le_refl _,by decide,by simp⟩
theorem fL {α : Type} {w:World} {Q:Nat→Prop} {base size:Nat} {e:TypeId} {A:Option Addr} {c:Nat} {rows:List (List Value)} {xs:List α} {R:List Value→α→Prop}
  (h:w.ownsRow base e size (.slice A xs.length c) xs.length (rows.flatMap id)) (hl:rows.length=xs.length) (hs:∀r∈rows,r.length=size) (hQ:∀g cs,(.slice A xs.length c:Value).ownBlock=some g→base≤g→w.heap[g]? = some (.cells cs e (0,0))→Q g)
  (hR:∀(i:Nat) (r:List Value) (x : α),rows[i]? = some r→xs[i]? = some x→R r x):bK w Q size R (.slice A xs.length c) xs:=by
 rcases h.2 with ⟨e0,h0⟩ | ⟨g,cap,cur,e0,hb,hg,h1,h2,h3,h5⟩
 ·have:xs=[]:=List.length_eq_zero_iff.1 h0
  subst this
  rw[e0]
  exact bK.nil _ _ _ _
 ·injection e0 with e0 e1 e2
  subst e0;subst e2
  refine⟨_,_,rfl,h1,h2,fun hp=>⟨g,0,rfl,hQ g cur rfl hb hg,fun i x hi=>?_⟩⟩
  have hi':=(lE hi).1
  have hr:rows[i]? = some (rows[i]'(by omega)):=lG (by omega)
  refine⟨_,hs _ (List.mem_of_getElem? hr),hR i _ x hr hi,fun k u hk=>?_⟩
  have hk8:k<size:=by have:=(lE hk).1;have:=hs _ (List.mem_of_getElem? hr);omega
  have hlt:i*size+k<xs.length*size:=by
   have:(i+1)*size≤xs.length*size:=Nat.mul_le_mul_right _ (by omega)
   rw[Nat.succ_mul] at this
   omega
  rw[Nat.zero_add,World.ownsRow.cellAt h (i*size+k) hlt,b9 rows i k _ hs hr hk8]
  exact hk
theorem bI.toQ {α : Type} {w:World} {B:Nat} {ty:TypeId} {size:Nat} {R:List Value→α→Prop} {v:Value} {xs:List α} {Q:Nat→Prop} (h:bI w B ty size R v xs) (hQ:∀b cs fr,B≤b→w.heap[b]? = some (.cells cs ty fr)→Q b):bK w Q size R v xs:=by
 obtain⟨A,cap,h1,h2,h3,h4⟩:=h
 refine⟨A,cap,h1,h2,h3,fun hp=>?_⟩
 obtain⟨b,off,cs,fr,h5,h6,h7,h8⟩:=h4 hp
 refine⟨b,off,h5,hQ b cs fr h6 h7,fun i x hi=>?_⟩
 obtain⟨c,c1,c2,c3⟩:=h8 i x hi
 exact⟨c,c1,c2,fun j u hj=>(cell_of_row w b _ _ _ _ h7).trans (c3 j u hj)⟩
end
end Go.Proofs.YtjaphgpkkfdaaaaGreatDoor
