/- A part of the walk. -/
import Derived.Test.YtijihlcdhppfgaaGreatDoorZBE
import Derived.Test.YtijihlcdhppfgaaGreatDoorZBF
import Derived.Test.YtijihlcdhppfgaaGreatDoorZBG
set_option maxHeartbeats 16000000
set_option maxRecDepth 100000
set_option linter.all false
namespace Go.Proofs.YtijihlcdhppfgaaGreatDoor
open Tryz
section
open Go.RowKit
theorem aeV:(prog.info? 26).map (·.size)=some 3:=by kernel_rfl
theorem iG:(prog.info? 34).map (·.size)=some 13:=by kernel_rfl
def sQ (r:aP×Int×Int×Int) (w:World) (e:Ending) (w':World):Prop:=∃cs,e=.returned (.tuple #[.agg ⟨cs⟩,.int .i64 r.2.1,.int .i64 r.2.2.1,.int .i64 r.2.2.2])/\(∀w2:World,(∀b,w.heap.size<=b->b<w'.heap.size->w2.heap[b]? = w'.heap[b]?)->w'.heap.size<=w2.heap.size->eB w2 w2.heap.size cs r.1)/\Below w.heap.size w w'
theorem sQ.here {r:aP×Int×Int×Int} {w:World} {e:Ending} {w':World} (h:sQ r w e w'):∃cs,e=.returned (.tuple #[.agg ⟨cs⟩,.int .i64 r.2.1,.int .i64 r.2.2.1,.int .i64 r.2.2.2])/\eB w' w'.heap.size cs r.1/\Below w.heap.size w w':=by obtain⟨cs,h1,d,f⟩:=h;exact⟨cs,h1,d w' (λ_ _ _=>rfl) (Nat.le_refl _),f⟩
def x9 (p:aZ) (t:aH):Int:=cQ aF (bH p) (p.fns.map gI) t
def rZ (p:aZ) (S:aP):Int:=eN aF p S dI (bH p)
def arM:List Value:=[.slice none 0 0,.slice none 0 0,.slice none 0 0,.slice none 0 0,.slice none 0 0,.slice none 0 0,.int .i64 0,.int .i64 0]
theorem arL {e:Int} {r:aP×Int×Int×Int} {w w':World} (h:(fA,(0:Int),(0:Int),e)=r) (k:Below w.heap.size w w'):sQ r w (.returned (.tuple #[.agg ⟨arM⟩,.int .i64 0,.int .i64 0,.int .i64 e])) w':=by subst h;exact⟨_,rfl,λd _ _=>jQ d,k⟩
namespace Bx
open Tryz
variable {P:Program} {ops:Array Oper} {rest:List Oper} {o:Oper} {a:Act} {w0 w:World} {Q:Exit->Act->World->Prop} {l l':List (Nat×List Value×TypeId)} {g:Nat} {cs:List Value} {t:TypeId}
theorem stR {ty:TypeId} {x y:Operand} {d:List Value} (X:Bx w0 w l) (h:Bx w0 (w.setRow g ⟨d⟩) l'->wpList P ops Q rest (a.put o.dst undef) (w.setRow g ⟨d⟩)) (j:o.guard=none:=by rfl) (r:o.op=.store ty x y:=by rfl) (s:a.eval x=.pointer (some ⟨g,0,none⟩):=by rfl) (u:a.eval y=.agg ⟨d⟩:=by rfl) (f:St3 g cs d t l l':=by repeat (first | exact .hd _ | apply St3.tl)) (hi:(P.info? ty).map (·.size)=some d.length:=by kernel_rfl) (hl:cs.length=d.length:=by rfl) (h1:d.all (·.oneCell')=true:=by simp[Value.oneCell']):wpList P ops Q (o::rest) a w:= wpList_store_row j ty x y r g ⟨d⟩ s u t ⟨cs⟩ (X.at_ _ _ _ f.i).2 hi hl (by simpa using h1) (h (X.set f ⟨rfl,rfl,rfl,by simp[World.setRow]⟩ (setRow_heap _ _ _ _ _ _ (X.at_ _ _ _ f.i).2) (λq p=>setRow_other _ _ _ _ p)))
theorem one (k:Below w0.heap.size w0 w) (h:w.heap[g]? = some (.cells ⟨cs⟩ t (0,0))) (f:w0.heap.size<=g):Bx w0 w [(g,cs,t)]:= ⟨k,by simp,λq c u d=>by cases d with | hd=>exact⟨f,h⟩ | tl _ d=>cases d⟩
theorem rt4 {fn:Func} {s p q r:Nat} {T:TypeId} {d:TypeDesc} {f h j:Value} {R:Ending->World->Prop} (X:Bx w0 w l) (A:R (.returned (.tuple #[.agg ⟨cs⟩,f,h,j])) w) (hf:fn.results=#[.cell s T,.tmp p,.tmp q,.tmp r]:=by rfl) (u:a.tmps.getD s undef=.pointer (some ⟨g,0,none⟩):=by rfl) (h1:a.tmps.getD p undef=f:=by rfl) (x:a.tmps.getD q undef=h:=by rfl) (y:a.tmps.getD r undef=j:=by rfl) (D:In3 g cs t l:=by repeat (first | exact .hd _ | apply In3.tl)) (E:P.underlying T=some d:=by rfl) (F:d.isRow=true:=by rfl) (hi:(P.info? T).map (·.size)=some cs.length:=by kernel_rfl) (z:a.defers=[]:=by rfl):bodyPost P fn R .ret a w:= bodyPost_ret (v:=.tuple #[.agg ⟨cs⟩,f,h,j]) (by rw[Array.getD_eq_getD_getElem?] at u h1 x y;simp[results,hf,u,h1,x,y,asAddr,X.lv D E F hi]) z A
end Bx
theorem ai6 (s6 tcs t0:List Value) (p:aZ) (t:aH) (S:aP) (th tu:Int) (w:World) (H:fL w w.heap.size s6 p) (ht:bI w w.heap.size tcs t) (N:eB w w.heap.size t0 S) (t1:wfi th) (G6:wfi tu) (t2:Tab w) : Calls prog 35 #[.agg ⟨s6⟩,.agg ⟨tcs⟩,.agg ⟨t0⟩,.int .i64 th,.int .i64 tu] w (sQ (mC cU (x9 p t) (rZ p S) t S th tu) w):=by
 have i5:=hI H;have i6:=hI ht;have i9:=hI N;obtain⟨PA,pn,PB,pm,PD,pk,rfl,-⟩:=id H;obtain⟨B1,m1,B2,m2,B3,m3,B4,m4,B5,m5,B6,m6,rfl,-⟩:=ht.cells6;obtain⟨c,s,x,tv,en,sa,rfl,hc,r3,r4,k7,r5,r6,z,ws⟩:=id N;obtain⟨CA,cc,rfl,-⟩:=id hc;obtain⟨SA,sc,rfl,-⟩:=id r3;obtain⟨XA,xc,rfl,-⟩:=id r4;obtain⟨TA,tc,rfl,-⟩:=id k7;obtain⟨EA,ec,rfl,-⟩:=id r5;obtain⟨AA,ac,rfl,-⟩:=id r6;obtain⟨r,hr⟩:∃r,mC cU (x9 p t) (rZ p S) t S th tu=r:=⟨_,rfl⟩;rw[hr];have HR:=hI hr;have t6:=hI t1;have T0:=hI t2;have CK:Hid (∀W,Below w.heap.size w W->Calls prog 13 _ W (aK (.int .i64 (x9 p t)) W)):=λW k=>aaW _ _ p t W (i5.o.below k) (i6.o.below k) (T0.o.below k);have SK:Hid (∀W,Below w.heap.size w W->Calls prog 36 _ W (aK (.int .i64 (rZ p S)) W)):=λW k=>ah9 _ _ p S W (i5.o.below k) (i9.o.below k) (T0.o.below k);obtain⟨k9,b5⟩:∃q,x9 p t=q:=⟨_,rfl⟩;obtain⟨stc,b6⟩:∃q,rZ p S=q:=⟨_,rfl⟩;rw[b5] at CK;rw[b6] at SK;have j0:=hI b5;have j1:=hI b6;clear H ht N hc r3 r4 k7 r5 r6 z ws hr t2 t1 b5 b6;go_enter func35,ntmps35;go_upto_region 1 with fail;generalize h:World.alloc _ _=w1;have X:=Bx.of4 h;clear h;go_wp2_with (first | (refine X.ld (hi:=aeV) ?_) | (refine X.ld (hi:=iG) ?_) | fail);refine X.call (CK.o _ X.k) λw2 X=>?_;by_cases h1:k9=0
 case neg=>
  have hb:(k9 != 0)=true:=bne_iff_ne.2 h1;have A:Hid ((fA,(0:Int),(0:Int),(k9:Int))=r):=by show _=_;rw[<-HR.o];unfold mC;rw[if_pos (by rw[j0.o];exact h1),j0.o]
  clear h1;go_wp2_with (first | (refine X.st (hi:=fX) λ_ X=>?_) | fail);exact X.rt4 (hi:=fX) (arL A.o X.k)
 subst h1;have v:Hid (x9 p t=0):=j0.o;go_wp2_with (first | (refine X.ld (hi:=aeV) ?_) | (refine X.ld (hi:=fX) ?_) | fail);refine X.call (SK.o _ X.k) λw3 X=>?_;by_cases l:stc=0
 case neg=>
  have hb:(stc != 0)=true:=bne_iff_ne.2 l;have A:Hid ((fA,(0:Int),(0:Int),(stc:Int))=r):=by show _=_;rw[<-HR.o];unfold mC;rw[if_neg (λh=>h v.o)];rw[if_pos (by rw[j1.o];exact l),j1.o]
  clear l;go_wp2_with (first | (refine X.st (hi:=fX) λ_ X=>?_) | fail);exact X.rt4 (hi:=fX) (arL A.o X.k)
 subst l;have y:Hid (rZ p S=0):=j1.o;by_cases t3:th<0
 ·have A:Hid ((fA,(0:Int),(0:Int),(5:Int))=r):=by show _=_;rw[<-HR.o];unfold mC;rw[if_neg (λh=>h v.o)];rw[if_neg (λh=>h y.o)];rw[if_pos t3]
  go_wp2_with (first | (refine X.st (hi:=fX) λ_ X=>?_) | fail);exact X.rt4 (hi:=fX) (arL A.o X.k)
 obtain⟨k,rfl⟩:∃k:Nat,th=(k:Int):=⟨th.toNat,by omega⟩;clear t3;have s3:w3.cell? ⟨(w.heap.size+1+1),3,none⟩=some (.slice TA S.threads.length tc):=X.cl;by_cases hk:k<S.threads.length
 case neg=>
  have v4:¬(k:Int)<S.threads.length:=by omega
  have A6:(S.threads.length:Int)<=(k:Int):=by omega
  have A:Hid ((fA,(0:Int),(0:Int),(5:Int))=r):=by show _=_;rw[<-HR.o];unfold mC;rw[if_neg (λh=>h v.o)];rw[if_neg (λh=>h y.o)];rw[if_neg (show ¬(k:Int)<0 by omega),Int.toNat_natCast,List.getElem?_eq_none (by omega)]
  go_wp2_with (first | (refine X.st (hi:=fX) λ_ X=>?_) | fail);exact X.rt4 (hi:=fX) (arL A.o X.k)
 obtain⟨h,hh⟩:∃h,S.threads[k]? = some h:=⟨_,lG hk⟩;have HH:=hI hh;have v4:(k:Int)<S.threads.length:=by omega
 have SM:Hid (ad5 S):=afQ (W:=dI) y.o (agK i5.o (by
  have h:=y.o;unfold rZ eN at h;split at h;·exact absurd h (by assumption)
  ·rename_i c;omega))
 have ST:Hid (∀W,Below w.heap.size w W->Calls prog 67 _ W (aK (.bool (iL t S (k:Int))) W)):=λW q=>ahZ _ _ t S (k:Int) W (i6.o.below q) (i9.o.below q) t6.o SM.o.threads;obtain⟨sb,l0⟩:∃b,iL t S (k:Int)=b:=⟨_,rfl⟩;rw[l0] at ST;have f3:=hI l0;clear l0 hh;go_wp2_with (first | (refine X.ld (hi:=iG) ?_) | (refine X.ld (hi:=fX) ?_) | fail);clear s3;refine X.call (ST.o _ X.k) λw4 X=>?_;have K4:=hI X.k;have m8:=hI (X.at_ _ _ _ (.tl _ (.tl _ (.hd _)))).2;have f7:=hI (X.at_ _ _ _ (.tl _ (.hd _))).2;have f8:=hI (X.at_ _ _ _ (.hd _)).2;have c2:Hid (w.heap.size+4<=w4.heap.size):=by have:=aY f8.o;show _<=_;omega
 cases sb with
 | false=>
  have A:Hid ((fA,(0:Int),(0:Int),(8:Int))=r):=by
   show _=_
   rw[<-HR.o];unfold mC
   rw[if_neg (λh=>h v.o)];rw[if_neg (λh=>h y.o)];rw[if_neg (show ¬(k:Int)<0 by omega),Int.toNat_natCast,HH.o];dsimp only;rw[if_pos f3.o]
  go_wp2_with (first | (refine X.st (hi:=fX) λ_ X=>?_) | fail)
  exact X.rt4 (hi:=fX) (arL A.o X.k)
 | true=>
  have e9:Hid (¬iL t S (k:Int)=false):=by show ¬_;rw[f3.o];decide
  by_cases t4:tu<0
  ·have A:Hid ((fA,(0:Int),(0:Int),(1:Int))=r):=by
    show _=_
    rw[<-HR.o];unfold mC
    rw[if_neg (λh=>h v.o)];rw[if_neg (λh=>h y.o)];rw[if_neg (show ¬(k:Int)<0 by omega),Int.toNat_natCast,HH.o];dsimp only;rw[if_neg e9.o,if_pos (.inl t4)]
   go_wp2_with (first | (refine X.st (hi:=fX) λ_ X=>?_) | fail)
   exact X.rt4 (hi:=fX) (arL A.o X.k)
  obtain⟨n,rfl⟩:∃n:Nat,tu=(n:Int):=⟨tu.toNat,by omega⟩
  by_cases hn:n<=1000
  case neg=>
   have j2:(1000:Int)<(n:Int):=by omega
   have A:Hid ((fA,(0:Int),(0:Int),(1:Int))=r):=by
    show _=_
    rw[<-HR.o];unfold mC
    rw[if_neg (λh=>h v.o)];rw[if_neg (λh=>h y.o)];rw[if_neg (show ¬(k:Int)<0 by omega),Int.toNat_natCast,HH.o];dsimp only;rw[if_neg e9.o,if_pos (.inr j2)]
   go_wp2_with (first | (refine X.st (hi:=fX) λ_ X=>?_) | fail)
   exact X.rt4 (hi:=fX) (arL A.o X.k)
  have j2:¬(1000:Int)<(n:Int):=by omega
  obtain⟨f,h4,u5,r7,u6⟩:∃f,h.frames.getLast? = some f/\h.state=0/\f.fn=t.fn/\f.at_=t.at_:=by
   have N:=f3.o
   unfold iL at N
   rw[if_neg (show ¬(k:Int)<0 by omega),Int.toNat_natCast,HH.o] at N
   dsimp only at N
   split at N
   ·cases N
   ·rename_i f e
    simp only[Bool.and_eq_true,beq_iff_eq] at N
    exact⟨f,e,N.1.1,N.1.2,N.2⟩
  have w0:=hI r7
  have a9:=hI h4
  have f9:Hid ((if(cH cU t f.self S.shapes n 0 (gG t S f)).2.2.2=2 then(fA,(0:Int),(0:Int),(8:Int)) else if 1000000000<S.steps+(cH cU t f.self S.shapes n 0 (gG t S f)).1.steps then(fA,0,0,2) else(jS S k (cH cU t f.self S.shapes n 0 (gG t S f)).1,(cH cU t f.self S.shapes n 0 (gG t S f)).2.1,(cH cU t f.self S.shapes n 0 (gG t S f)).2.2.1,0))=r):=by
   have h:=HR.o
   unfold mC at h
   rw[if_neg (λh=>h v.o),if_neg (λh=>h y.o),if_neg (show ¬(k:Int)<0 by omega),Int.toNat_natCast,HH.o] at h
   dsimp only at h
   rw[if_neg e9.o,if_neg (λh=>h.elim t4 j2),a9.o] at h
   exact h
  clear h4 u5 r7 u6 f3 HR X
  have OC:=hI (ac3 _ S w4 (i9.o.below K4.o) SM.o)
  have p8:=rrZ f7
  go_wp2_with (first | (refine wpList_load_mid rfl 40 _ rfl (w.heap.size+1+1) 0 rfl [.slice CA S.cells.length cc,.slice SA S.shapes.length sc,.slice XA S.texts.length xc,.slice TA S.threads.length tc,.slice EA S.ends.length ec,.slice AA S.said.length ac,.int .i64 S.asked,.int .i64 S.steps] _ p8.o underlying40 rfl fX ?_) | fail)
  clear p8
  refine OC.o.mono ?_
  rintro e w5 ⟨G0,co,lo,cv,G1,rows,h9,shv,G2,G3,G4,rfl,F,k5⟩
  have K5:=btZ K4 k5
  have n0:=rkZ m8 k5
  have g0:=rkZ f7 k5
  have n1:=rkZ f8 k5
  have O5:=hI F
  have x0:Hid (w4.heap.size<=w5.heap.size):=k5.size
  have x1:=F.cells
  obtain⟨Y,Z,rfl⟩:=cJ F.crow
  obtain⟨TG,tg,rfl⟩:=cJ F.trow
  obtain⟨U5,c5,rfl,-⟩:=id F.shapes
  obtain⟨U6,c6,rfl,-⟩:=id F.texts
  obtain⟨U7,c7,rfl,-⟩:=id F.ends
  obtain⟨U8,c8,rfl,-⟩:=id F.said
  subst x1
  clear F k5
  go_upto_region 14 with (first | (refine wpList_store_row rfl 40 _ _ rfl (w.heap.size+1+1) #[.slice Y S.cells.length Z,.slice U5 S.shapes.length c5,.slice U6 S.texts.length c6,.slice TG S.threads.length tg,.slice U7 S.ends.length c7,.slice U8 S.said.length c8,.int .i64 S.asked,.int .i64 S.steps] rfl rfl 40 _ g0.o fX rfl (oCz (by simp[Value.oneCell'])) ?_) | fail)
  generalize V:World.setRow _ _ _=w6
  have K6:Hid (Below w.heap.size w w6):=by rw[<-V];exact Below.set_row K5.o (by omega) _
  have O:=shZ V g0
  have b0:=soZ V n0 (by omega)
  have n2:=soZ V n1 (by omega)
  have j3:w6.heap.size=w5.heap.size:=by rw[<-V];simp
  have O6:Hid (xO w6 w4.heap.size [.slice Y S.cells.length Z,.slice U5 S.shapes.length c5,.slice U6 S.texts.length c6,.slice TG S.threads.length tg,.slice U7 S.ends.length c7,.slice U8 S.said.length c8,.int .i64 S.asked,.int .i64 S.steps] S co lo (.slice Y S.cells.length Z) (.slice TG S.threads.length tg) rows h9 (.slice U5 S.shapes.length c5) (.slice U6 S.texts.length c6) (.slice U7 S.ends.length c7) (.slice U8 S.said.length c8)):=O5.o.kept (λb hb _=>by rw[<-V];exact setRow_other _ _ _ _ (by have:=c2.o;omega)) j3
  have p9:Hid (w4.heap.size<=w6.heap.size):=by show _<=_;rw[j3];exact x0.o
  clear V j3 O5
  (try dsimp only [Act.put])
  obtain⟨tf,htf,rs,ts,h5⟩:=O6.o.tpart k h HH.o
  obtain⟨j,hj⟩:∃j,h.frames.length=j+1:=by
   cases e:h.frames.length with
   | zero=>have:=a9.o;rw[List.length_eq_zero_iff.1 e] at this;cases this
   | succ j=>exact⟨j,rfl⟩
  have q2:h.frames[j]? = some f:=by have l:=a9.o;rw[List.getLast?_eq_getElem?,hj] at l;exact l
  obtain⟨fb,l2,c0,-,F6⟩:=h5.at_.row.form (by omega)
  rw[hj] at c0
  obtain⟨rv,hrv⟩:∃rv,rs[j]? = some rv:=⟨_,lG (by rw[h5.at_.lr,hj];omega)⟩
  obtain⟨a3,F7,l3,-,E7⟩:=O6.o.trow.form (by omega)
  injection l3 with l3 _ A5
  subst l3
  subst A5
  have s3:=crZ O 3 rfl
  have q0:w6.cell? ⟨a3,k*5,none⟩=some (.slice (some ⟨fb,0,none⟩) (j+1) l2):=by
   have l:=O6.o.trow.cellAt (k*5+0) (by omega)
   rw[dB _ k 0 _ O6.o.t5 htf (by decide)] at l
   rw[<-c0]
   exact l
  have HJ:=hI hj
  have q3:=hI q2
  have x3:=hI htf
  have x4:=hI h5
  have t9:=hI c0
  have x5:=hI hrv
  clear htf h5 hj q2 c0 hrv
  go_upto_region 15 with fail
  clear s3 q0
  have x6:j+1<=30:=by have l:=(SM.o.tframes h (lM HH.o)).1;rw[HJ.o] at l;exact l
  have x7:wrap64 (j:Int)=(j:Int):=by unfold wrap64;omega
  have y0:(j:Int)<(j:Int)+1:=by omega
  have y1:t.ins.length<=300:=by obtain⟨l,-⟩:=fD v.o;exact l
  have q4:Hid (∀E:Up w6,E.to.rangeAt (w.heap.size+1) 0 [.int .i64 t.fn,.int .i64 t.at_,.int .i64 t.loop,.slice B1 t.ins.length m1,.slice B2 t.exits.length m2,.int .i64 t.turn.at_,.int .i64 t.turn.steps,.slice B3 t.turn.sets.length m3,.slice B4 t.turn.makes.length m4,.int .i64 t.back.at_,.int .i64 t.back.steps,.slice B5 t.back.sets.length m5,.slice B6 t.back.makes.length m6]):=λE=>(akZ ((E.below.block _ (aY b0.o)).trans b0.o)).range
  have d0:=ecZ (crZ O 0 rfl)
  have d1:=ecZ (crZ O 1 rfl)
  have d3:=ecZ (crZ b0 3 rfl)
  refine cE (λw'=>∃E:Up w6,w'=E.to) 13 [13,14,15,16] [13] (by kernel_rfl) (by decide) (by kernel_rfl) (λ_ _ d _ _ h=>by cases d <;> exact h) ⟨⟨_,(Below.refl _ w6).drew⟩,rfl⟩ ?_
  simp only[List.take_succ_cons,List.take_zero]
  generalize e6:(λa'=>gT _ _ _ _ _ _ a' _)=qq
  have c3:=hI e6
  clear e6
  repeat (first
   | (refine dE 34 _ rfl rfl (w.heap.size+1) 0 rfl [.int .i64 t.fn,.int .i64 t.at_,.int .i64 t.loop,.slice B1 t.ins.length m1,.slice B2 t.exits.length m2,.int .i64 t.turn.at_,.int .i64 t.turn.steps,.slice B3 t.turn.sets.length m3,.slice B4 t.turn.makes.length m4,.int .i64 t.back.at_,.int .i64 t.back.steps,.slice B5 t.back.sets.length m5,.slice B6 t.back.makes.length m6] _ q4.o underlying34 rfl iG ?_;go_simp)
   | go_big_quiet_step (fail))
  refine wpQuiet_nil ?_
  rw[<-c3.o]
  clear c3 qq d0 d1 d3 q4
  have y2:=λW=>mk_vals t.ins.length (by omega) W
  refine aR rfl (λK hK=>?_)
  go_simp
  obtain⟨z,h6⟩:∃z,z=(w6.alloc (.cells ⟨(List.replicate t.ins.length (⟨0,0⟩:Val)).flatMap bE⟩ 51)).drew:=⟨_,rfl⟩
  have KA:Hid (Below w6.heap.size w6 z):=by rw[h6];exact((Below.refl _ w6).alloc (Nat.le_refl _) _).drew
  have BA:Hid (z.heap[w6.heap.size]? = some (.cells ⟨(List.replicate t.ins.length (⟨0,0⟩:Val)).flatMap bE⟩ 51 (0,0))):=by rw[h6];exact aS w6 _
  have q5:=hI h6
  clear h6 y2
  refine hK _ _ (λ_=>⟨⟨z,KA.o⟩,q5.o.symm⟩) ?_
  clear hK K
  have k0:w6.drew.heap.size=w6.heap.size:=rfl
  (try rw[k0])
  rw[<-q5.o]
  clear k0
  refine bG [14,15,16] _ _ (by kernel_rfl) (by kernel_rfl) ?_
  simp only[List.filterMap_cons,List.filterMap_nil,List.getElem?_toArray,List.getElem?_cons_zero,List.getElem?_cons_succ]
  obtain⟨w8,h7⟩:∃w8,w8=z.alloc (.cells #[.int .i64 t.fn,.int .i64 t.at_,.int .i64 t.loop,.slice B1 t.ins.length m1,.slice B2 t.exits.length m2,.int .i64 t.turn.at_,.int .i64 t.turn.steps,.slice B3 t.turn.sets.length m3,.slice B4 t.turn.makes.length m4,.int .i64 t.back.at_,.int .i64 t.back.steps,.slice B5 t.back.sets.length m5,.slice B6 t.back.makes.length m6,.slice Y S.cells.length Z,.slice U5 S.shapes.length c5,.pointer (some ⟨fb,j*8,none⟩),.int .i64 0,.slice (some ⟨w6.heap.size,0,none⟩) t.ins.length t.ins.length] 147):=⟨_,rfl⟩
  have q6:Hid (Below z.heap.size z w8):=by rw[h7];exact aA _ _
  have B8:Hid (w8.heap[z.heap.size]? = some (.cells #[.int .i64 t.fn,.int .i64 t.at_,.int .i64 t.loop,.slice B1 t.ins.length m1,.slice B2 t.exits.length m2,.int .i64 t.turn.at_,.int .i64 t.turn.steps,.slice B3 t.turn.sets.length m3,.slice B4 t.turn.makes.length m4,.int .i64 t.back.at_,.int .i64 t.back.steps,.slice B5 t.back.sets.length m5,.slice B6 t.back.makes.length m6,.slice Y S.cells.length Z,.slice U5 S.shapes.length c5,.pointer (some ⟨fb,j*8,none⟩),.int .i64 0,.slice (some ⟨w6.heap.size,0,none⟩) t.ins.length t.ins.length] 147 (0,0))):=by rw[h7];exact aS _ _
  have g1:=btZ KA q6.o
  have K8:=btZ K6 g1.o
  have g3:=rkZ O g1.o
  have g4:=rkZ n2 g1.o
  have y5:=hI h7
  have k1:Hid (w6.heap.size<z.heap.size):=aY BA.o
  clear h7
  go_upto_region 16 with fail
  rw[<-y5.o]
  clear x7 y0
  have VR:Hid (w8.ownsRow w6.heap.size 51 2 (.slice (some ⟨w6.heap.size,0,none⟩) t.ins.length t.ins.length) t.ins.length ((List.replicate t.ins.length (⟨0,0⟩:Val)).flatMap bE)):=by
   have k2:((List.replicate t.ins.length (⟨0,0⟩:Val)).flatMap bE).length=t.ins.length*2:=by
    rw[<-eS,abI (size:=2) _ (λr hr=>by obtain⟨x,-,rfl⟩:=List.mem_map.1 hr;rfl),List.length_map,List.length_replicate]
   refine⟨k2,.inr ⟨w6.heap.size,t.ins.length,_,rfl,Nat.le_refl _,(q6.o.block _ k1.o).trans BA.o,Nat.le_refl _,by unfold maxLen;omega,k2,?_⟩⟩
   show List.take _ ((List.replicate t.ins.length (⟨0,0⟩:Val)).flatMap bE)=_
   rw[<-k2,List.take_length]
  have I:Hid (dO w6 w8 w.heap.size w4.heap.size _ S co lo _ _ rows h9 _ _ _ _ k h f j fb l2 z.heap.size tf rv (.slice (some ⟨w6.heap.size,0,none⟩) t.ins.length t.ins.length) rs ts _ t):=
   { own:=O6.o,hB:=by have:=c2.o;omega,hO:=p9.o,below:=g1.o,hth:=HH.o,hl:=HJ.o,hf:=q3.o,ht:=x3.o,fin:=x4.o,htf:=t9.o,hrv:=x5.o,vrow:=VR.o,wrow:=B8.o,wnew:=Nat.le_of_lt k1.o,tl:=rfl,tr:=i6.o.keep (Nat.le_refl _) (λ_ H=>K8.o.cell H) }
  obtain⟨fn,-,f0,s0⟩:=adY v.o
  have k3:(gG t S f).regs.length=fn.regs.toNat:=by
   have l:=adL ((sN y.o).2 h (lM HH.o) f (lM q3.o))
   rw[w0.o] at l
   unfold i8 at l
   rw[List.getElem?_map] at f0
   obtain⟨g,hg,rfl⟩:=Option.map_eq_some_iff.1 f0
   rw[hg] at l
   have h3:(f.regs.length:Int)=g.regs:=l
   show f.regs.length=g.regs.toNat
   omega
  have LM:Lim t fn.regs.toNat (gG t S f):=⟨by simp[gG],SM.o.cells,k3⟩
  have RC:Hid (Calls _ _ _ _ (RPost _ (cH cU t f.self S.shapes n 0 (gG t S f)) _)):=hI (run_c I.o.fix I.o.lay s0 (pM v.o) LM hn rfl)
  have b2:=hI (λhw=>af0 v.o cU f.self S.shapes (turns:=n) hn (W:=gG t S f) rfl hw)
  have F4:=(sN y.o).1
  obtain⟨D,ex,dn,how,hD⟩:∃D ex dn how,cH cU t f.self S.shapes n 0 (gG t S f)=(D,ex,dn,how):=⟨_,_,_,_,rfl⟩
  rw[hD] at RC b2 f9
  unfold RPost at RC
  dsimp only at RC b2 f9
  clear hD f0 s0 k3 LM y1 x6
  go_wp2_with fail
  refine RC.o.mono ?_
  rintro e w9 ⟨rfl,⟨G5,s2,s4,s5,l4⟩,G⟩
  have L9:=hI l4
  have F5:=hI G
  have g5:Hid (w9.heap[(w.heap.size+1+1)]? = some (.cells #[.slice Y S.cells.length Z,.slice U5 S.shapes.length c5,.slice U6 S.texts.length c6,.slice (some ⟨a3,0,none⟩) S.threads.length tg,.slice U7 S.ends.length c7,.slice U8 S.said.length c8,.int .i64 S.asked,.int .i64 S.steps] 40 (0,0))):=(G.block _ _ _ _ g3.o (by decide) (by decide) (by decide) (by decide)).trans g3.o
  have b3:Hid (w9.heap[(w.heap.size+1+1+1)]? = some (.cells #[.slice none 0 0,.slice none 0 0,.slice none 0 0,.slice none 0 0,.slice none 0 0,.slice none 0 0,.int .i64 0,.int .i64 0] 40 (0,0))):=(G.block _ _ _ _ g4.o (by decide) (by decide) (by decide) (by decide)).trans g4.o
  have K9:Hid (Below w.heap.size w w9):=⟨G.os.trans K8.o.os,G.tape.trans K8.o.tape,G.output.trans K8.o.output,Nat.le_trans K8.o.size G.size,λb hb=>(l4.fixed b (I.o.q_old hb)).trans (K8.o.block b hb)⟩
  clear l4 G
  by_cases h8:how=2
  ·have A:Hid ((fA,(0:Int),(0:Int),(8:Int))=r):=by have l:=f9.o;rw[if_pos h8] at l;exact l
   subst h8
   have X:=Bx.one K9.o b3.o (by omega)
   go_wp2_with (first | (refine X.st (hi:=fX) λ_ X=>?_) | fail)
   exact X.rt4 (hi:=fX) (arL A.o X.k)
  obtain⟨A0,F8,F9⟩:=b2.o h8
  subst A0
  have C3:wrap64 (S.steps+D.steps)=S.steps+D.steps:=by unfold wrap64;omega
  have q7:Hid ((if 1000000000<S.steps+D.steps then(fA,(0:Int),(0:Int),(2:Int)) else(jS S k D,ex,dn,0))=r):=by have l:=f9.o;rw[if_neg h8] at l;exact l
  clear h8
  obtain⟨CN,cn,rfl⟩:=cJ L9.o.crow
  go_upto_region 19 with fail
  have d7:=ecZ (crZ g5 7 rfl)
  have g6:∀E:Up w9,E.to.cell? ⟨z.heap.size,16,none⟩=some (.int .i64 D.steps):=λE=>E.cell (L9.o.own I.o.fix 3)
  by_cases m0:1000000000<S.steps+D.steps
  ·have A:Hid ((fA,(0:Int),(0:Int),(2:Int))=r):=by have l:=q7.o;rw[if_pos m0] at l;exact l
   refine aD (by kernel_rfl) (by kernel_rfl) ?_
   repeat (go_big_quiet_step (fail))
   refine wpQuiet_nil ?_
   rintro _ ⟨E,rfl⟩
   obtain⟨M,kA⟩:=E
   dsimp only
   have g7:=btZ K9 kA
   have b4:=rkZ b3 kA
   clear kA d7 g6
   have X:=Bx.one g7.o b4.o (by omega)
   go_wp2_with (first | (refine X.st (hi:=fX) λ_ X=>?_) | fail)
   exact X.rt4 (hi:=fX) (arL A.o X.k)
  have A:Hid ((jS S k D,ex,dn,(0:Int))=r):=by have l:=q7.o;rw[if_neg m0] at l;exact l
  refine aD (by kernel_rfl) (by kernel_rfl) ?_
  repeat (go_big_quiet_step (fail))
  refine wpQuiet_nil ?_
  rintro _ ⟨E,rfl⟩
  obtain⟨M,kA⟩:=E
  dsimp only
  have g7:=btZ K9 kA
  have b4:=rkZ b3 kA
  have J:=rkZ g5 kA
  have LA:=hI (L9.o.below I.o.fix kA)
  clear kA d7 g6
  go_upto_region 21 with fail
  obtain⟨L,hL⟩:∃L:List (Addr×Value),L=[(⟨z.heap.size,13,none⟩,.slice CN D.cells.length cn),(⟨z.heap.size,16,none⟩,.int .i64 D.steps),(⟨(w.heap.size+1+1),7,none⟩,.int .i64 S.steps)]:=⟨_,rfl⟩
  have q8:(w.heap.size+1+1)≠z.heap.size:=by have:=p9.o;have:=c2.o;have:=k1.o;omega
  have c9:Hid (∀p∈L,M.cell? p.1=some p.2/\p.1.block<M.heap.size):=by
   show ∀p∈L,_
   rw[hL]
   intro p H
   simp only[List.mem_cons,List.not_mem_nil,or_false] at H
   rcases H with rfl | rfl | rfl
   ·exact⟨LA.o.own I.o.fix 0,aY LA.o.row⟩
   ·exact⟨LA.o.own I.o.fix 3,aY LA.o.row⟩
   ·exact⟨cell_of_row M _ 7 _ _ _ J.o,aY J.o⟩
  have k6:Hid (∀W',Below M.heap.size M W'->∃E:dP L,W'=E.wd):=λW' k=>⟨⟨W',λp H=>(k.cell (c9.o p H).2).trans (c9.o p H).1⟩,rfl⟩
  have r0:Hid (∀W' u,Below M.heap.size M W'->∃E:dP L,W'.setCell ⟨(w.heap.size+1+1),0,none⟩ u=E.wd):=λW' u k=>by
   have u3:W'.heap[(w.heap.size+1+1)]? = some (.cells #[.slice Y S.cells.length Z,.slice U5 S.shapes.length c5,.slice U6 S.texts.length c6,.slice (some ⟨a3,0,none⟩) S.threads.length tg,.slice U7 S.ends.length c7,.slice U8 S.said.length c8,.int .i64 S.asked,.int .i64 S.steps] 40 (0,0)):=(k.block _ (aY J.o)).trans J.o
   refine⟨⟨W'.setCell ⟨(w.heap.size+1+1),0,none⟩ u,λp H=>?_⟩,rfl⟩
   have h1:=(k.cell (c9.o p H).2).trans (c9.o p H).1
   rw[hL] at H
   simp only[List.mem_cons,List.not_mem_nil,or_false] at H
   rcases H with rfl | rfl | rfl
   ·exact(World.cell?_of_block (heap_setCell_other _ _ _ _ (Ne.symm q8))).trans h1
   ·exact(World.cell?_of_block (heap_setCell_other _ _ _ _ (Ne.symm q8))).trans h1
   ·rw[cell_of_row _ _ 7 _ _ _ (heap_setCell_same _ _ _ _ _ _ u3)];rfl
  have y7:∀E:dP L,E.wd.cell? ⟨z.heap.size,13,none⟩=some (.slice CN D.cells.length cn):=λE=>E.here (_,_) (by rw[hL];simp)
  have g6:∀E:dP L,E.wd.cell? ⟨z.heap.size,16,none⟩=some (.int .i64 D.steps):=λE=>E.here (_,_) (by rw[hL];simp)
  have d7:∀E:dP L,E.wd.cell? ⟨(w.heap.size+1+1),7,none⟩=some (.int .i64 S.steps):=λE=>E.here (_,_) (by rw[hL];simp)
  clear hL
  haveI:Nonempty (dP L):=⟨(k6.o M (Below.refl _ _)).choose⟩
  refine cE (λw'=>∃E:dP L,w'=E.wd) 12 [12,13,14] [12] (by kernel_rfl) (by decide) (by kernel_rfl) (λ_ _ d _ _ h=>by cases d <;> exact h) (k6.o _ (Below.refl _ M).drew) ?_
  simp only[List.take_succ_cons,List.take_zero]
  generalize e6:(λa'=>gT _ _ _ _ _ _ a' _)=qq
  have c3:=hI e6
  clear e6
  repeat (go_big_quiet_step (fail))
  refine wpQuiet_nil ?_
  rw[<-c3.o]
  clear c3 qq d7 y7 g6
  obtain⟨wd,e4⟩:∃wd,wd=M.drew:=⟨_,rfl⟩
  have KD:Hid (Below M.heap.size M wd):=by rw[e4];exact(Below.refl _ M).drew
  have P:Hid (wd.heap[(w.heap.size+1+1)]? = some (.cells #[.slice Y S.cells.length Z,.slice U5 S.shapes.length c5,.slice U6 S.texts.length c6,.slice (some ⟨a3,0,none⟩) S.threads.length tg,.slice U7 S.ends.length c7,.slice U8 S.said.length c8,.int .i64 S.asked,.int .i64 S.steps] 40 (0,0))):=by rw[e4];exact J.o
  have n5:Hid (wd.heap[(w.heap.size+1+1+1)]? = some (.cells #[.slice none 0 0,.slice none 0 0,.slice none 0 0,.slice none 0 0,.slice none 0 0,.slice none 0 0,.int .i64 0,.int .i64 0] 40 (0,0))):=by rw[e4];exact b4.o
  rw[<-e4]
  clear e4
  have e0:=crZ P 0 rfl
  have z0:wd.frozen? ⟨(w.heap.size+1+1),0,none⟩=false:=frozen_of_row wd _ _ _ _ P.o
  refine aR rfl (λK hK=>?_)
  go_simp
  refine hK _ _ (λ_=>r0.o wd _ KD.o) ?_
  clear hK K k6 r0 c9 e0 z0
  generalize a4:World.setCell _ _ _=wB
  have hbs:¬QOf w8 w.heap.size w4.heap.size z.heap.size fb rv (.slice (some ⟨w6.heap.size,0,none⟩) t.ins.length t.ins.length) (.slice Y S.cells.length Z) (jD rows) (w.heap.size+1+1):=λhq=>by
   have h1:=hq.1.2
   have:=c2.o
   omega
  have r1:¬QOf w8 w.heap.size w4.heap.size z.heap.size fb rv (.slice (some ⟨w6.heap.size,0,none⟩) t.ins.length t.ins.length) (.slice Y S.cells.length Z) (jD rows) (w.heap.size+1+1+1):=λhq=>by
   have h1:=hq.1.2
   have:=c2.o
   omega
  have z1:=hI r1
  have r2:=hI hbs
  have R:Hid (wB.heap[(w.heap.size+1+1)]? = some (.cells #[.slice CN D.cells.length cn,.slice U5 S.shapes.length c5,.slice U6 S.texts.length c6,.slice (some ⟨a3,0,none⟩) S.threads.length tg,.slice U7 S.ends.length c7,.slice U8 S.said.length c8,.int .i64 S.asked,.int .i64 S.steps] 40 (0,0))):=by
   rw[<-a4]
   exact(heap_setCell_same _ _ _ _ _ _ P.o).trans rfl
  have n6:Hid (wB.heap[(w.heap.size+1+1+1)]? = some (.cells #[.slice none 0 0,.slice none 0 0,.slice none 0 0,.slice none 0 0,.slice none 0 0,.slice none 0 0,.int .i64 0,.int .i64 0] 40 (0,0))):=by rw[<-a4];exact(heap_setCell_other _ _ _ _ (by show(w.heap.size+1+1+1)≠(w.heap.size+1+1);omega)).trans n5.o
  have LB:Hid (cC _ wB D (.slice CN D.cells.length cn) s2 s4 s5):=ak1 (LA.o.below I.o.fix KD.o) P.o (λk hk=>by rw[<-a4];exact heap_setCell_other _ _ _ _ hk) (by rw[<-a4];simp[World.setCell]) r2.o
  have KB:Hid (Below w.heap.size w wB):=by rw[<-a4];exact(g7.o.trans (KD.o.mono g7.o.size)).setCell (by show w.heap.size<=(w.heap.size+1+1);omega) _
  clear a4 r1 hbs
  refine bG [13,14] _ _ (by kernel_rfl) (by kernel_rfl) ?_
  simp only[List.filterMap_cons,List.filterMap_nil,List.getElem?_toArray,List.getElem?_cons_zero,List.getElem?_cons_succ]
  have e7:=crZ R 7 rfl
  have z7:wB.frozen? ⟨(w.heap.size+1+1),7,none⟩=false:=frozen_of_row wB _ _ _ _ R.o
  go_upto_region 22 with fail
  generalize a5:World.setCell _ _ _=wC
  have n7:Hid (wC.heap[(w.heap.size+1+1)]? = some (.cells #[.slice CN D.cells.length cn,.slice U5 S.shapes.length c5,.slice U6 S.texts.length c6,.slice (some ⟨a3,0,none⟩) S.threads.length tg,.slice U7 S.ends.length c7,.slice U8 S.said.length c8,.int .i64 S.asked,.int .i64 (S.steps+D.steps)] 40 (0,0))):=by
   rw[<-a5]
   exact(heap_setCell_same _ _ _ _ _ _ R.o).trans rfl
  have h0:Hid (wC.heap[(w.heap.size+1+1+1)]? = some (.cells #[.slice none 0 0,.slice none 0 0,.slice none 0 0,.slice none 0 0,.slice none 0 0,.slice none 0 0,.int .i64 0,.int .i64 0] 40 (0,0))):=by rw[<-a5];exact(heap_setCell_other _ _ _ _ (by show(w.heap.size+1+1+1)≠(w.heap.size+1+1);omega)).trans n6.o
  have LC:Hid (cC _ wC D (.slice CN D.cells.length cn) s2 s4 s5):=ak1 LB.o R.o (λk hk=>by rw[<-a5];exact heap_setCell_other _ _ _ _ hk) (by rw[<-a5];simp[World.setCell]) r2.o
  have KC:Hid (Below w.heap.size w wC):=by rw[<-a5];exact KB.o.setCell (by show w.heap.size<=(w.heap.size+1+1);omega) _
  clear a5 e7 z7
  (try dsimp only [Act.put])
  have XS:=Bx.one KC.o n7.o (by omega)
  have XR:=Bx.one KC.o h0.o (by omega)
  go_wp2_with (first | (refine XS.ld (hi:=fX) ?_) | (refine XR.stR (hi:=fX) λX=>?_) | fail)
  have hN:=A.o
  subst hN
  exact X.rt4 (hi:=fX) ⟨_,rfl,λw2 g2 gz=>I.o.o (ak1 LC.o h0.o (λk hk=>setRow_other _ _ _ _ hk) (by simp) z1.o) (by unfold wfi;omega) g2 gz,X.k⟩
end
end Go.Proofs.YtijihlcdhppfgaaGreatDoor
