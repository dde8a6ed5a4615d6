/- A part of the walk. -/
import Derived.Test.YtijihlcdhppfgaaGreatDoorZE
import Derived.Laws.MakeOwn
import Derived.Lib.Builder
import Derived.Deep.LoopGhost
set_option maxHeartbeats 16000000
set_option maxRecDepth 100000
set_option linter.all false
namespace Go.Proofs.YtijihlcdhppfgaaGreatDoor
open Tryz
section
open Go.RowKit
theorem ajG:(prog.info? 4).map (λi=>(i.zero,i.size,i.bytes))=some (some (.bool false),1,1):=by kernel_rfl
theorem agM:(prog.info? 143).map (λi=>(i.zero,i.size,i.bytes))=some (some (.slice none 0 0),1,24):=by kernel_rfl
theorem mU (z:Value) (n:Nat):madeCells #[z] n=⟨List.replicate n z⟩:=by
 apply Array.toList_inj.1;apply List.ext_getElem;·simp[madeCells]
 ·intro i h1 d;simp[madeCells,Nat.mod_one]
theorem aiR (n:Nat) (l:n<=600) (W:World):(Instr.makeSlice 88 (.int .i64 (n:Int)) (.int .i64 (n:Int))).run prog W=.ok (.slice (some ⟨W.heap.size,0,none⟩) n n) (W.alloc (.cells ⟨List.replicate n (.bool false)⟩ 4)):=by obtain⟨j,hi,d,f,g⟩:=info_parts ajG;have h:=run_make (P:=prog) W 88 4 j (.bool false) underlying88 hi d .i64 .i64 n n (by omega) (Int.le_refl _) (by rw[g];omega) (by omega);rw[Int.toNat_natCast,f,Nat.mul_one] at h;rw[h,show(Value.bool false).cells=#[.bool false] from rfl,mU]
theorem aiQ (n:Nat) (l:n<=600) (W:World):(Instr.makeSlice 213 (.int .i64 (n:Int)) (.int .i64 (n:Int))).run prog W=.ok (.slice (some ⟨W.heap.size,0,none⟩) n n) (W.alloc (.cells ⟨List.replicate n (.slice none 0 0)⟩ 143)):=by obtain⟨j,hi,d,f,g⟩:=info_parts agM;have h:=run_make (P:=prog) W 213 143 j (.slice none 0 0) underlying213 hi d .i64 .i64 n n (by omega) (Int.le_refl _) (by rw[g];omega) (by omega);rw[Int.toNat_natCast,f,Nat.mul_one] at h;rw[h,show(Value.slice none 0 0).cells=#[.slice none 0 0] from rfl,mU]
theorem b9.pop {w:World} {B b:Nat} {y z A D:Value} {E:Option Addr} {n F:Nat} {s:cW} {j p:Nat} {g m d:Nat} {q:List Value} (h:b9 w B b y z A D E n F s j p (.slice (some ⟨g,0,none⟩) m d) q) : b9 (w.setCell ⟨b,7,none⟩ (.slice (some ⟨g,0,none⟩) (m - 1) d)) B b y z A D E n F (nZ s) j p (.slice (some ⟨g,0,none⟩) (m - 1) d) q/\aX B w (w.setCell ⟨b,7,none⟩ (.slice (some ⟨g,0,none⟩) (m - 1) d)):=by
 have r:aX B w (w.setCell ⟨b,7,none⟩ (.slice (some ⟨g,0,none⟩) (m - 1) d)):=(aX.refl B w).set_ h.hb h.here (by decide) _ _;have u:j≠b:=by rintro rfl;have:=h.here;rw[h.seen] at this;injection this with this;injection this with _ this _;exact absurd this (by decide)
 have x:p≠b:=by rintro rfl;have:=h.here;rw[h.outs] at this;injection this with this;injection this with _ this _;exact absurd this (by decide)
 have I:w.ownsRow B 3 1 (.slice (some ⟨g,0,none⟩) (m - 1) d) (nZ s).todo.length ((nZ s).todo.map (.int .i64)):=by
  obtain⟨h1,K⟩:=h.todo;rcases K with ⟨e,_⟩ | ⟨V,c',H,e,N,O,X,P,R,S⟩;·cases e
  ·injection e with f G M
   injection f with f
   injection f with f
   subst f;subst M;have hl:(nZ s).todo.length=m - 1:=(by rw[G];simp[nZ]);refine⟨by simp,.inr ⟨g,d,H,by rw[hl],N,O,by omega,P,R,?_⟩⟩;rw[hl];have J:(nZ s).todo=s.todo.take (m - 1):=(by rw[G];exact List.dropLast_eq_take);rw[J,List.map_take,<-S,List.take_take];congr 1;omega
 refine⟨⟨h.hb,?_,h.hbs,?_,h.hbo,?_,h.olen,λi v l L hl=>r.tries (h.out i v l L hl),cY I h.here (by decide) _ _⟩,r⟩;·rw[heap_setCell_same w b 7 _ _ _ h.here];rfl
 ·rw[heap_setCell_other w _ j _ u];exact h.seen
 ·rw[heap_setCell_other w _ p _ x];exact h.outs
theorem lP (w:World) (a b c d:Obj):((((w.alloc a).alloc b).alloc c).alloc d).heap[w.heap.size+1]? = some b/\((((w.alloc a).alloc b).alloc c).alloc d).heap[w.heap.size+1+1]? = some c/\((((w.alloc a).alloc b).alloc c).alloc d).heap[w.heap.size+1+1+1]? = some d:=by have h:=heap_alloc2_new w a b;have f:=heap_alloc2_new (w.alloc a) b c;have g:=heap_alloc2_new ((w.alloc a).alloc b) c d;simp only[World.size_alloc] at f g;exact⟨(Lib.alloc_old _ d _ (by simp)).trans ((Lib.alloc_old _ c _ (by simp)).trans h),(Lib.alloc_old _ d _ (by simp)).trans f,g⟩
theorem b9.drew {w:World} {B b:Nat} {f g j l:Value} {p:Option Addr} {n q:Nat} {s:cW} {r u:Nat} {v:Value} {d:List Value} (h:b9 w B b f g j l p n q s r u v d):b9 w.drew B b f g j l p n q s r u v d:= ⟨h.hb,h.here,h.hbs,h.seen,h.hbo,h.outs,h.olen,h.out,h.todo⟩
theorem vL {w:World} {B b:Nat} {g h j p:Value} {q:Option Addr} {n r d f:Nat} (hb:B<=b) (hbs:B<=d) (hbo:B<=f) (h1:w.heap[b]? = some (.cells #[g,h,j,p,.slice q n r,.slice (some ⟨d,0,none⟩) n n,.slice (some ⟨f,0,none⟩) n n,.slice none 0 0,.bool false] 273)) (y:w.heap[d]? = some (.cells (Array.replicate n (.bool false)) 4)) (z:w.heap[f]? = some (.cells (Array.replicate n (.slice none 0 0)) 143)) : b9 w B b g h j p q n r ⟨List.replicate n false,List.replicate n [],[],false⟩ d f (.slice none 0 0) (List.replicate n (.slice none 0 0)):=by
 refine⟨hb,h1,hbs,?_,hbo,?_,by simp,λi v l x hl=>?_,World.ownsRow_nil _ _ _ _⟩;·rw[y,List.map_replicate];rfl
 ·rw[z];rfl
 ·have s:=(List.mem_replicate.1 (lM x)).2;have u:=(List.mem_replicate.1 (lM hl)).2;subst s;subst u;exact aW.nil _ _ _ _ _
def ahM (n:Nat) (s:cW) (w:World) (e:Ending) (w':World):Prop:=
 ∃bs bo ovs,e=.returned (.tuple #[.slice (some ⟨bo,0,none⟩) n n,.slice (some ⟨bs,0,none⟩) n n,.bool (!s.bad)])/\w'.heap[bs]? = some (.cells ⟨s.seen.map .bool⟩ 4 (0,0))/\w'.heap[bo]? = some (.cells ⟨ovs⟩ 143 (0,0))/\ovs.length=n/\
  (∀(i:Nat) v l,ovs[i]? = some v->s.out[i]? = some l->aW w' w.heap.size 223 2 kH v l)/\WOk n s/\Below w.heap.size w w'
theorem aeE (h5:List Value) (f:CFn) (w:World) (hf:FnR w w.heap.size h5 f) (hn:f.code.length<=600) (hj:kN f.code) : Calls prog 117 #[.agg ⟨h5⟩] w (ahM f.code.length (dY f.code) w):=by
 obtain⟨J,K,L,M,rfl,q1,q2,w1,w2⟩:=hf;obtain⟨n,d5⟩:∃n,f.code.length=n:=⟨_,rfl⟩;have HT:Hid (dY f.code=rE f.code (gH (lV n)) (lV n)):=by rw[<-d5];rfl
 rw[d5] at hn q2 ⊢;obtain⟨Y,h4⟩:∃Y,dY f.code=Y:=⟨_,rfl⟩;rw[h4] at HT ⊢;have HC:=hI q2;have h3:=hI d5;have HJ:=hI hj;have l2:=λW=>aiR n hn W;have l3:=λW=>aiQ n hn W;have m0:(n:Int)<=600:=by omega
 have d6:Hid (WOk n ⟨List.replicate n false,List.replicate n [],[],false⟩):=⟨by simp,by simp,by simp,by simp,by simp[gH],by simp⟩;clear q1 q2 d5 h4 hj;go_enter func117,ntmps117;go_wp2_with fail;go_region;go_wp2_with fail
 ·refine(mV w.heap.size (w.heap.size+1+1+1) (.int .i64 f.params) (.int .i64 f.regs) (.bool f.gen) (.slice J f.caught.length K) L n M _ (w.heap.size+1) (w.heap.size+1+1) _ _ 0 _ [] _ (vL (by omega) (by omega) (by omega) (lP w _ _ _ _).2.2 (lP w _ _ _ _).1 (lP w _ _ _ _).2.1).drew d6.out hn (by omega) (aW.nil _ _ _ _ _) (by simp;omega)).mono ?_;rintro e w5 ⟨rfl,⟨v,d,A⟩,F⟩;have K1:Hid (∃j l v d,b9 w5 w.heap.size (w.heap.size+1+1+1) (.int .i64 f.params) (.int .i64 f.regs) (.bool f.gen) (.slice J f.caught.length K) L n M (lV n) j l v d):=⟨_,_,v,d,A⟩;have K2:Hid (aX w.heap.size w w5):=by refine aX.trans (aX.of_below ?_) F;repeat (first | exact Below.refl _ _ | refine Below.drew ?_ | refine Below.alloc ?_ (by simp <;> omega) _)
  clear A F;go_wp2_with fail;have L0:Hid (∃s j l v d,b9 w5 w.heap.size (w.heap.size+1+1+1) (.int .i64 f.params) (.int .i64 f.regs) (.bool f.gen) (.slice J f.caught.length K) L n M s j l v d/\WOk n s/\gH s=gH (lV n)/\rE f.code (gH s) s=Y):=by obtain⟨j,l,v,d,A⟩:=K1.out;exact⟨_,j,l,v,d,A,s7 n,rfl,HT.out.symm⟩
  go_loopg [6] (gH (lV n)) (λk _ wr=>Hid (∃s j l v d,b9 wr w.heap.size (w.heap.size+1+1+1) (.int .i64 f.params) (.int .i64 f.regs) (.bool f.gen) (.slice J f.caught.length K) L n M s j l v d/\WOk n s/\gH s=k/\rE f.code (gH s) s=Y)/\Hid (aX w.heap.size w wr));case atStart=>exact⟨L0,K2⟩
  case round=>
   clear L0 K1 K2;obtain⟨KS,KW⟩:=hrel;obtain⟨s,j,l,v,d,ka,b2,km,kr⟩:=KS.out;have u:=hI ka;have H:=hI b2;have KM:=hI km;have KR:=hI kr;clear KS ka b2 km kr;obtain⟨tA,y,rfl⟩:∃tA y,v=.slice tA s.todo.length y:=by
    rcases u.out.todo.2 with ⟨e,h0⟩ | ⟨g,c,_,e,_⟩;·rw[e,h0];exact⟨_,_,rfl⟩
    ·exact⟨_,_,e⟩
   have hl:s.todo.length<=600:=(by have:=H.out.small;unfold gH at this;omega);have a5:(s.todo.length:Int)<=600:=(by omega);have O:=crZ u.out.here 7 rfl;have N:=crZ u.out.here 8 rfl;have Z:=crZ u.out.here 5 rfl;have c6:=crZ u.out.here 6 rfl;by_cases G:s.todo≠[]/\s.bad=false
   ·obtain⟨S,r⟩:=G;obtain⟨t,ht⟩:∃t,s.todo.getLast? = some t:=⟨_,List.getLast?_eq_some_getLast S⟩;have b4:0<s.todo.length:=List.length_pos_iff.2 S;have e6:(0:Int)<s.todo.length:=(by omega);obtain⟨g,rfl,D⟩:∃g,tA=some ⟨g,0,none⟩/\wr.cell? ⟨g,s.todo.length - 1,none⟩=some (.int .i64 t):=by
     rcases u.out.todo.2 with ⟨e,h0⟩ | ⟨g,c,b3,e,A,F,k3,k4,k5,k6⟩;·omega
     ·injection e with e1 e2 e3
      refine⟨g,e1,?_⟩;rw[cell_of_row wr g _ _ _ _ F,<-Array.getElem?_toList];have h7:(b3.toList.take (s.todo.length*1))[s.todo.length - 1]? = some (.int .i64 t):=(by rw[k6,List.getElem?_map,<-List.getLast?_eq_getElem?,ht];rfl);rw[List.getElem?_take,if_pos (by omega)] at h7;exact h7
    have f0:=H.out.todo t (List.mem_of_getLast? ht);obtain⟨tn,rfl⟩:∃tn:Nat,t=tn:=⟨t.toNat,by omega⟩;have b5:tn<n:=(by omega);obtain⟨q,hq⟩:∃q,q+1=s.todo.length:=⟨s.todo.length - 1,by omega⟩;have a6:s.todo.length - 1=q:=(by omega);have HQ:=hI hq;rw[a6] at D;have KP:=hI (u.out.pop);have c0:s.todo.length<=y/\y<=maxLen:=by
     rcases u.out.todo.2 with ⟨e,h0⟩ | ⟨g',c,b3,e,A,F,k3,k4,k5,k6⟩;·cases e
     ·injection e with e1 e2 e3;subst e3;exact⟨k3,k4⟩
    have j4:wr.frozen? ⟨w.heap.size+1+1+1,7,none⟩=false:=frozen_of_row wr _ 7 _ _ u.out.here;obtain⟨a3,a4⟩:=c0;unfold maxLen at a4;have f1:=hI ht;have P:=hI r;rw[r] at N;have f7:=ecZ O;have fg:=ecZ D;rw[<-hq] at O f7;have k0:q+1<=y:=(by omega);clear S ht f0 b4 e6 hq a6 r hl a5 a3;have k7:((q:Int)+1 - 1)=q:=(by omega);have k8:(q:Int)<(q:Int)+1:=(by omega);have k9:(q:Int)<=599:=(by have:=HQ.out;have:=H.out.small;unfold gH at this;omega);go_wp2_with fail;refine aD (by kernel_rfl) (by kernel_rfl) ?_;repeat (go_big_quiet_step (fail))
    refine wpQuiet_nil ?_;rintro _ ⟨E,rfl⟩;have I:=hI E.below;have a7:∀x:Up E.to,x.to.cell? ⟨w.heap.size+1+1+1,7,none⟩=some (.slice (some ⟨g,0,none⟩) (q+1) y):=λx=>x.cell (f7 E);clear f7 fg D Z c6 O N;go_wp2_with fail;refine aU 12 (by kernel_rfl) (by kernel_rfl) ?_;simp only[List.take_succ_cons,List.take_zero,List.drop_succ_cons,List.drop_zero];repeat (go_big_quiet_step (fail))
    refine wpQuiet_nil ?_;rintro _ ⟨x,rfl⟩;have R:Hid (Below wr.heap.size wr x.to):=jB I.out x;have a9:Hid (b9 (x.to.setCell ⟨w.heap.size+1+1+1,7,none⟩ (.slice (some ⟨g,0,none⟩) q y)) w.heap.size (w.heap.size+1+1+1) (.int .i64 f.params) (.int .i64 f.regs) (.bool f.gen) (.slice J f.caught.length K) L n M (nZ s) j l (.slice (some ⟨g,0,none⟩) q y) d/\aX w.heap.size x.to (x.to.setCell ⟨w.heap.size+1+1+1,7,none⟩ (.slice (some ⟨g,0,none⟩) q y))):=(by have:=(u.out.below R.out).pop;rwa [show s.todo.length - 1=q from by have:=HQ.out;omega] at this);have d7:x.to.cell? ⟨w.heap.size+1+1+1,7,none⟩=some (.slice (some ⟨g,0,none⟩) (q+1) y):=a7 x;have e7:x.to.frozen? ⟨w.heap.size+1+1+1,7,none⟩=false:=frozen_of_row _ _ 7 _ _ (u.out.below R.out).here;have W6:Hid (aX w.heap.size w (x.to.setCell ⟨w.heap.size+1+1+1,7,none⟩ (.slice (some ⟨g,0,none⟩) q y))):=(KW.out.below_ R.out).trans a9.out.2;clear a7;go_wp2_with fail;refine(ajI w.heap.size (w.heap.size+1+1+1) (.int .i64 f.params) (.int .i64 f.regs) (.bool f.gen) (.slice J f.caught.length K) L n M (nZ s) j l _ d tn f.code _ a9.out.1 H.out.pop hn b5 h3.out.symm (HC.out.keep (Nat.le_refl _) (λp hp=>(W6.out.under (Nat.le_refl _)).cell hp) (λ_ _ h=>h)) HJ.out W6.out.size).mono ?_;rintro e w8 ⟨rfl,⟨g1,d2,A⟩,F⟩;have K8:Hid (∃V j l v d,b9 w8 w.heap.size (w.heap.size+1+1+1) (.int .i64 f.params) (.int .i64 f.regs) (.bool f.gen) (.slice J f.caught.length K) L n M V j l v d/\WOk n V/\gH V=s.todo.length - 1+s.seen.count false/\rE f.code (gH V) V=Y):=by
     refine⟨_,j,l,g1,d2,A,H.out.pop.from_ HJ.out (by omega),?_,?_⟩;·rw[tJ];simp[gH,nZ];omega
     ·rw[<-abH f1.out P.out];exact KR.out
    have K9:=hI (W6.out.trans F);clear A F d7 e7;go_wp2_with fail;go_roundg (s.todo.length - 1+s.seen.count false);case measure=>have h1:=KM.out;have h2:=HQ.out;unfold gH at h1;omega
    case rel=>exact⟨K8,K9⟩
   ·have b0:Hid (Y=s):=by
     rw[<-KR.out];exact aeI (by
      by_cases h:s.todo=[];·exact .inl h
      ·right;cases hb:s.bad;·exact absurd ⟨h,hb⟩ G
       ·rfl) _
    have f5:=ecZ Z;have f6:=ecZ c6;have f8:=ecZ N;by_cases X:s.todo.length=0
    ·have hx:¬(0:Int)<s.todo.length:=(by omega);clear G X hl a5;go_wp2_with fail;refine aD (by kernel_rfl) (by kernel_rfl) ?_;repeat (go_big_quiet_step (fail))
     refine wpQuiet_nil ?_;rintro _ ⟨E,rfl⟩;have I:=hI E.below;clear f5 f6 f8 Z c6 O N;go_wp2_with fail;go_ret3;rw[b0.out];have z:=u.out.below I.out;exact⟨j,l,d,rfl,z.seen,z.outs,z.olen,z.out,H.out,(KW.out.below_ I.out).under (Nat.le_refl _)⟩
    ·have hx:(0:Int)<s.todo.length:=(by omega);have r:s.bad=true:=by
      cases hb:s.bad;·exact absurd ⟨λe=>X (by rw[e];rfl),hb⟩ G
      ·rfl
     rw[r] at N f8;have P:=hI r;clear G X hl r;go_wp2_with fail;refine aD (by kernel_rfl) (by kernel_rfl) ?_;repeat (go_big_quiet_step (fail))
     refine wpQuiet_nil ?_;rintro _ ⟨E,rfl⟩;have I:=hI E.below;clear f5 f6 f8 Z c6 O N;go_wp2_with fail;go_ret3;rw[b0.out];have z:=u.out.below I.out;exact⟨j,l,d,by rw[P.out];rfl,z.seen,z.outs,z.olen,z.out,H.out,(KW.out.below_ I.out).under (Nat.le_refl _)⟩
 ·refine(mV w.heap.size (w.heap.size+1+1+1) (.int .i64 f.params) (.int .i64 f.regs) (.bool f.gen) (.slice J f.caught.length K) L n M _ (w.heap.size+1+1) (w.heap.size+1) _ _ 0 _ [] _ (vL (by omega) (by omega) (by omega) (lP w _ _ _ _).2.2 (lP w _ _ _ _).2.1 (lP w _ _ _ _).1).drew d6.out hn (by omega) (aW.nil _ _ _ _ _) (by simp;omega)).mono ?_;rintro e w5 ⟨rfl,⟨v,d,A⟩,F⟩;have K1:Hid (∃j l v d,b9 w5 w.heap.size (w.heap.size+1+1+1) (.int .i64 f.params) (.int .i64 f.regs) (.bool f.gen) (.slice J f.caught.length K) L n M (lV n) j l v d):=⟨_,_,v,d,A⟩;have K2:Hid (aX w.heap.size w w5):=by refine aX.trans (aX.of_below ?_) F;repeat (first | exact Below.refl _ _ | refine Below.drew ?_ | refine Below.alloc ?_ (by simp <;> omega) _)
  clear A F;go_wp2_with fail;have L0:Hid (∃s j l v d,b9 w5 w.heap.size (w.heap.size+1+1+1) (.int .i64 f.params) (.int .i64 f.regs) (.bool f.gen) (.slice J f.caught.length K) L n M s j l v d/\WOk n s/\gH s=gH (lV n)/\rE f.code (gH s) s=Y):=by obtain⟨j,l,v,d,A⟩:=K1.out;exact⟨_,j,l,v,d,A,s7 n,rfl,HT.out.symm⟩
  go_loopg [6] (gH (lV n)) (λk _ wr=>Hid (∃s j l v d,b9 wr w.heap.size (w.heap.size+1+1+1) (.int .i64 f.params) (.int .i64 f.regs) (.bool f.gen) (.slice J f.caught.length K) L n M s j l v d/\WOk n s/\gH s=k/\rE f.code (gH s) s=Y)/\Hid (aX w.heap.size w wr));case atStart=>exact⟨L0,K2⟩
  case round=>
   clear L0 K1 K2;obtain⟨KS,KW⟩:=hrel;obtain⟨s,j,l,v,d,ka,b2,km,kr⟩:=KS.out;have u:=hI ka;have H:=hI b2;have KM:=hI km;have KR:=hI kr;clear KS ka b2 km kr;obtain⟨tA,y,rfl⟩:∃tA y,v=.slice tA s.todo.length y:=by
    rcases u.out.todo.2 with ⟨e,h0⟩ | ⟨g,c,_,e,_⟩;·rw[e,h0];exact⟨_,_,rfl⟩
    ·exact⟨_,_,e⟩
   have hl:s.todo.length<=600:=(by have:=H.out.small;unfold gH at this;omega);have a5:(s.todo.length:Int)<=600:=(by omega);have O:=crZ u.out.here 7 rfl;have N:=crZ u.out.here 8 rfl;have Z:=crZ u.out.here 5 rfl;have c6:=crZ u.out.here 6 rfl;by_cases G:s.todo≠[]/\s.bad=false
   ·obtain⟨S,r⟩:=G;obtain⟨t,ht⟩:∃t,s.todo.getLast? = some t:=⟨_,List.getLast?_eq_some_getLast S⟩;have b4:0<s.todo.length:=List.length_pos_iff.2 S;have e6:(0:Int)<s.todo.length:=(by omega);obtain⟨g,rfl,D⟩:∃g,tA=some ⟨g,0,none⟩/\wr.cell? ⟨g,s.todo.length - 1,none⟩=some (.int .i64 t):=by
     rcases u.out.todo.2 with ⟨e,h0⟩ | ⟨g,c,b3,e,A,F,k3,k4,k5,k6⟩;·omega
     ·injection e with e1 e2 e3
      refine⟨g,e1,?_⟩;rw[cell_of_row wr g _ _ _ _ F,<-Array.getElem?_toList];have h7:(b3.toList.take (s.todo.length*1))[s.todo.length - 1]? = some (.int .i64 t):=(by rw[k6,List.getElem?_map,<-List.getLast?_eq_getElem?,ht];rfl);rw[List.getElem?_take,if_pos (by omega)] at h7;exact h7
    have f0:=H.out.todo t (List.mem_of_getLast? ht);obtain⟨tn,rfl⟩:∃tn:Nat,t=tn:=⟨t.toNat,by omega⟩;have b5:tn<n:=(by omega);obtain⟨q,hq⟩:∃q,q+1=s.todo.length:=⟨s.todo.length - 1,by omega⟩;have a6:s.todo.length - 1=q:=(by omega);have HQ:=hI hq;rw[a6] at D;have KP:=hI (u.out.pop);have c0:s.todo.length<=y/\y<=maxLen:=by
     rcases u.out.todo.2 with ⟨e,h0⟩ | ⟨g',c,b3,e,A,F,k3,k4,k5,k6⟩;·cases e
     ·injection e with e1 e2 e3;subst e3;exact⟨k3,k4⟩
    have j4:wr.frozen? ⟨w.heap.size+1+1+1,7,none⟩=false:=frozen_of_row wr _ 7 _ _ u.out.here;obtain⟨a3,a4⟩:=c0;unfold maxLen at a4;have f1:=hI ht;have P:=hI r;rw[r] at N;have f7:=ecZ O;have fg:=ecZ D;rw[<-hq] at O f7;have k0:q+1<=y:=(by omega);clear S ht f0 b4 e6 hq a6 r hl a5 a3;have k7:((q:Int)+1 - 1)=q:=(by omega);have k8:(q:Int)<(q:Int)+1:=(by omega);have k9:(q:Int)<=599:=(by have:=HQ.out;have:=H.out.small;unfold gH at this;omega);go_wp2_with fail;refine aD (by kernel_rfl) (by kernel_rfl) ?_;repeat (go_big_quiet_step (fail))
    refine wpQuiet_nil ?_;rintro _ ⟨E,rfl⟩;have I:=hI E.below;have a7:∀x:Up E.to,x.to.cell? ⟨w.heap.size+1+1+1,7,none⟩=some (.slice (some ⟨g,0,none⟩) (q+1) y):=λx=>x.cell (f7 E);clear f7 fg D Z c6 O N;go_wp2_with fail;refine aU 12 (by kernel_rfl) (by kernel_rfl) ?_;simp only[List.take_succ_cons,List.take_zero,List.drop_succ_cons,List.drop_zero];repeat (go_big_quiet_step (fail))
    refine wpQuiet_nil ?_;rintro _ ⟨x,rfl⟩;have R:Hid (Below wr.heap.size wr x.to):=jB I.out x;have a9:Hid (b9 (x.to.setCell ⟨w.heap.size+1+1+1,7,none⟩ (.slice (some ⟨g,0,none⟩) q y)) w.heap.size (w.heap.size+1+1+1) (.int .i64 f.params) (.int .i64 f.regs) (.bool f.gen) (.slice J f.caught.length K) L n M (nZ s) j l (.slice (some ⟨g,0,none⟩) q y) d/\aX w.heap.size x.to (x.to.setCell ⟨w.heap.size+1+1+1,7,none⟩ (.slice (some ⟨g,0,none⟩) q y))):=(by have:=(u.out.below R.out).pop;rwa [show s.todo.length - 1=q from by have:=HQ.out;omega] at this);have d7:x.to.cell? ⟨w.heap.size+1+1+1,7,none⟩=some (.slice (some ⟨g,0,none⟩) (q+1) y):=a7 x;have e7:x.to.frozen? ⟨w.heap.size+1+1+1,7,none⟩=false:=frozen_of_row _ _ 7 _ _ (u.out.below R.out).here;have W6:Hid (aX w.heap.size w (x.to.setCell ⟨w.heap.size+1+1+1,7,none⟩ (.slice (some ⟨g,0,none⟩) q y))):=(KW.out.below_ R.out).trans a9.out.2;clear a7;go_wp2_with fail;refine(ajI w.heap.size (w.heap.size+1+1+1) (.int .i64 f.params) (.int .i64 f.regs) (.bool f.gen) (.slice J f.caught.length K) L n M (nZ s) j l _ d tn f.code _ a9.out.1 H.out.pop hn b5 h3.out.symm (HC.out.keep (Nat.le_refl _) (λp hp=>(W6.out.under (Nat.le_refl _)).cell hp) (λ_ _ h=>h)) HJ.out W6.out.size).mono ?_;rintro e w8 ⟨rfl,⟨g1,d2,A⟩,F⟩;have K8:Hid (∃V j l v d,b9 w8 w.heap.size (w.heap.size+1+1+1) (.int .i64 f.params) (.int .i64 f.regs) (.bool f.gen) (.slice J f.caught.length K) L n M V j l v d/\WOk n V/\gH V=s.todo.length - 1+s.seen.count false/\rE f.code (gH V) V=Y):=by
     refine⟨_,j,l,g1,d2,A,H.out.pop.from_ HJ.out (by omega),?_,?_⟩;·rw[tJ];simp[gH,nZ];omega
     ·rw[<-abH f1.out P.out];exact KR.out
    have K9:=hI (W6.out.trans F);clear A F d7 e7;go_wp2_with fail;go_roundg (s.todo.length - 1+s.seen.count false);case measure=>have h1:=KM.out;have h2:=HQ.out;unfold gH at h1;omega
    case rel=>exact⟨K8,K9⟩
   ·have b0:Hid (Y=s):=by
     rw[<-KR.out];exact aeI (by
      by_cases h:s.todo=[];·exact .inl h
      ·right;cases hb:s.bad;·exact absurd ⟨h,hb⟩ G
       ·rfl) _
    have f5:=ecZ Z;have f6:=ecZ c6;have f8:=ecZ N;by_cases X:s.todo.length=0
    ·have hx:¬(0:Int)<s.todo.length:=(by omega);clear G X hl a5;go_wp2_with fail;refine aD (by kernel_rfl) (by kernel_rfl) ?_;repeat (go_big_quiet_step (fail))
     refine wpQuiet_nil ?_;rintro _ ⟨E,rfl⟩;have I:=hI E.below;clear f5 f6 f8 Z c6 O N;go_wp2_with fail;go_ret3;rw[b0.out];have z:=u.out.below I.out;exact⟨j,l,d,rfl,z.seen,z.outs,z.olen,z.out,H.out,(KW.out.below_ I.out).under (Nat.le_refl _)⟩
    ·have hx:(0:Int)<s.todo.length:=(by omega);have r:s.bad=true:=by
      cases hb:s.bad;·exact absurd ⟨λe=>X (by rw[e];rfl),hb⟩ G
      ·rfl
     rw[r] at N f8;have P:=hI r;clear G X hl r;go_wp2_with fail;refine aD (by kernel_rfl) (by kernel_rfl) ?_;repeat (go_big_quiet_step (fail))
     refine wpQuiet_nil ?_;rintro _ ⟨E,rfl⟩;have I:=hI E.below;clear f5 f6 f8 Z c6 O N;go_wp2_with fail;go_ret3;rw[b0.out];have z:=u.out.below I.out;exact⟨j,l,d,by rw[P.out];rfl,z.seen,z.outs,z.olen,z.out,H.out,(KW.out.below_ I.out).under (Nat.le_refl _)⟩
end
section
open Go.RowKit
theorem afM (w:World) (A B C:Array Value) (t u v:TypeId):(∀i,(((w.alloc (.cells A t)).alloc (.cells B u)).alloc (.cells C v)).cell? ⟨w.heap.size,i,none⟩=A[i]?)/\(∀i,(((w.alloc (.cells A t)).alloc (.cells B u)).alloc (.cells C v)).cell? ⟨w.heap.size+1,i,none⟩=B[i]?)/\ (∀i,(((w.alloc (.cells A t)).alloc (.cells B u)).alloc (.cells C v)).cell? ⟨w.heap.size+1+1,i,none⟩=C[i]?)/\Below w.heap.size w (((w.alloc (.cells A t)).alloc (.cells B u)).alloc (.cells C v)):=by
 refine⟨λi=>?_,λi=>?_,λi=>?_,(bV w _ _).alloc (by simp;omega) _⟩;·rw[World.cell?_alloc_lt _ _ _ (by simp;omega)];exact jI w A t _ i
 ·rw[World.cell?_alloc_lt _ _ _ (by simp)];exact lN w B u _ i
 ·have h:=cA ((w.alloc (.cells A t)).alloc (.cells B u)) C v i;simp only[World.size_alloc] at h;exact h
theorem uX {α : Type} {q : α×Nat->Bool} : ∀(l:List α) (k:Nat),((l.zipIdx k).all q=true↔∀i x,l[i]? = some x->q (x,k+i)=true)
 | [],k=>by simp
 | y::l,k=>by
  rw[List.zipIdx_cons,List.all_cons,Bool.and_eq_true,uX l (k+1)]
  constructor
  ·rintro ⟨h1,f⟩ i x d
   cases i with
   | zero=>simp at d;subst d;exact h1
   | succ i=>have:=f i x (by simpa using d);rwa [show k+1+i=k+(i+1) by omega] at this
  ·intro h
   exact⟨h 0 y rfl,λi x d=>by have:=h (i+1) x (by simpa using d);rwa [show k+(i+1)=k+1+i by omega] at this⟩
theorem adK (a5 a6:List Value) (p:aZ) (f:CFn) (w:World) (hp:fL w w.heap.size a5 p) (hf:FnR w w.heap.size a6 f) (hn:f.code.length<=600) (d5:f.regs<=60) : Calls prog 62 #[.agg ⟨a5⟩,.agg ⟨a6⟩] w (aK (.bool (eH p f)) w):=by
 obtain⟨r,hr⟩:∃r,eH p f=r:=⟨_,rfl⟩;rw[hr];have HR:=hI hr;have HP:=hI hp;have Y:=hI hf;clear hr;obtain⟨G,H,I,J,K,L,rfl,-⟩:=hp;obtain⟨y,z,O,A,rfl,q1,q2,v1,v2⟩:=hf;have HC:=hI q2;have l5:=aM q2;have TB:=afM w #[.slice G p.fns.length H,.slice I p.consts.length J,.slice K p.texts.length L] #[.int .i64 f.params,.int .i64 f.regs,.bool f.gen,.slice y f.caught.length z,.slice O f.code.length A] #[.slice G p.fns.length H,.slice I p.consts.length J,.slice K p.texts.length L,.int .i64 f.params,.int .i64 f.regs,.bool f.gen,.slice y f.caught.length z,.slice O f.code.length A] 26 72 209;obtain⟨w0,D⟩:∃w0,w0=((w.alloc (.cells #[.slice G p.fns.length H,.slice I p.consts.length J,.slice K p.texts.length L] 26)).alloc (.cells #[.int .i64 f.params,.int .i64 f.regs,.bool f.gen,.slice y f.caught.length z,.slice O f.code.length A] 72)).alloc (.cells #[.slice G p.fns.length H,.slice I p.consts.length J,.slice K p.texts.length L,.int .i64 f.params,.int .i64 f.regs,.bool f.gen,.slice y f.caught.length z,.slice O f.code.length A] 209):=⟨_,rfl⟩;rw[<-D] at TB;obtain⟨-,a0,a1,a2⟩:=TB;have M:=hI a0;have u:=hI a1;have E:=hI a2;have Z:Hid (w0.heap.size=w.heap.size+1+1+1):=by rw[D];simp[Hid]
 have R:=hI D;clear q1 q2 a0 a1 a2 D;by_cases hb:f.params<0\/f.regs<1\/f.regs<f.params
 ·have N:Hid (r=false):=by rw[<-HR.o];unfold eH Hid;rcases hb with h | h | h <;> simp[h]
  by_cases h1:f.params<0;·clear hb;go_enter func62,ntmps62;go_wp2_with fail;go_ret;rw[<-R.o];exact⟨by rw[N.o];rfl,E.o⟩
  by_cases h2:f.regs<1;·clear hb;go_enter func62,ntmps62;go_wp2_with fail;go_ret;rw[<-R.o];exact⟨by rw[N.o];rfl,E.o⟩
  ·have h3:f.regs<f.params:=(by omega);clear hb;go_enter func62,ntmps62;go_wp2_with fail;go_ret;rw[<-R.o];exact⟨by rw[N.o];rfl,E.o⟩
 ·have h1:¬f.params<0:=by omega
  have h2:¬f.regs<1:=by omega
  have h3:¬f.regs<f.params:=by omega
  have h4:1<=f.regs:=by omega
  clear hb;have N:Hid ((f.code.zipIdx.all λx=>jE p f x.2 x.1)=false->r=false):=λe=>by rw[<-HR.o];unfold eH;rw[e];simp
  have HG:Hid ((f.code.zipIdx.all λx=>jE p f x.2 x.1)=true->r = !(dY f.code).bad):=λe=>by rw[<-HR.o];unfold eH;rw[e];simp[h1,h2,h3]
  have e1:(f.code.length:Int)<=600:=by omega
  go_enter func62,ntmps62;go_wp2_with fail;rw[<-R.o];go_loopw [32] (λk wr=>∃g:Nat,k=.int .i64 g/\g<=f.code.length/\Hid (∀j i,j<g->f.code[j]? = some i->jE p f j i=true)/\Hid (Below w0.heap.size w0 wr)) (λk _=>f.code.length - (RowKit.intOf k).toNat);case atStart=>exact⟨0,rfl,by omega,λj i hj _=>by omega,Below.refl _ _⟩
  case round=>
   obtain⟨g,rfl,hk,KP,d⟩:=hrel;have q:=btZ E d.o;by_cases d6:g<f.code.length
   ·obtain⟨b,l,i,g5,rfl,hb,a3,-,X,s⟩:=HC.o.at_ d6;have HI:=hI X;obtain⟨rfl,-⟩:=X;have g0:wr.cell? ⟨b,l+g*5,none⟩=some (.int .i64 i.op):=(q.o.cell hb).trans (s 0 _ rfl);have g1:wr.cell? ⟨b,l+g*5+1,none⟩=some (.int .i64 i.a):=(q.o.cell hb).trans (s 1 _ rfl);have g2:wr.cell? ⟨b,l+g*5+2,none⟩=some (.int .i64 i.b):=(q.o.cell hb).trans (s 2 _ rfl);have g3:wr.cell? ⟨b,l+g*5+3,none⟩=some (.int .i64 i.c):=(q.o.cell hb).trans (s 3 _ rfl);have g4:wr.cell? ⟨b,l+g*5+4,none⟩=some (.int .i64 i.line):=(q.o.cell hb).trans (s 4 _ rfl);have c9:w.heap.size+1+1<wr.heap.size:=(by have:=d.o.size;have:=Z.o;omega);have t0:wr.cell? ⟨w.heap.size+1+1,0,none⟩=some (.slice G p.fns.length H):=aC d.o (u.o 0);have t1:wr.cell? ⟨w.heap.size+1+1,1,none⟩=some (.slice I p.consts.length J):=aC d.o (u.o 1);have t2:wr.cell? ⟨w.heap.size+1+1,2,none⟩=some (.slice K p.texts.length L):=aC d.o (u.o 2);have t3:wr.cell? ⟨w.heap.size+1+1,3,none⟩=some (.int .i64 f.params):=aC d.o (u.o 3);have t4:wr.cell? ⟨w.heap.size+1+1,4,none⟩=some (.int .i64 f.regs):=aC d.o (u.o 4);have t5:wr.cell? ⟨w.heap.size+1+1,5,none⟩=some (.bool f.gen):=aC d.o (u.o 5);have t6:wr.cell? ⟨w.heap.size+1+1,6,none⟩=some (.slice y f.caught.length z):=aC d.o (u.o 6);have t7:wr.cell? ⟨w.heap.size+1+1,7,none⟩=some (.slice (some ⟨b,l,none⟩) f.code.length A):=aC d.o (u.o 7);have HX:=hI a3;have KL:Hid (∀W,Below wr.heap.size wr W->hG W W.heap.size [.slice G p.fns.length H,.slice I p.consts.length J,.slice K p.texts.length L,.int .i64 f.params,.int .i64 f.regs,.bool f.gen,.slice y f.caught.length z,.slice (some ⟨b,l,none⟩) f.code.length A] p f):=λW k=>by have S:Below w.heap.size w W:=q.o.trans (k.mono q.o.size);exact⟨_,_,rfl,HP.o.keep S.size (λ_ h=>S.cell h),Y.o.keep S.size (λ_ h=>S.cell h)⟩
    clear a3 s;go_wp2_with fail;refine(order_c _ _ p f g i _ (KL.o _ (by repeat (first | exact Below.refl _ _ | refine Below.drew ?_ | refine Below.alloc ?_ (by simp) _))) h4 d5 HI.o).mono ?_;rintro e w5 ⟨rfl,P⟩;have V:Hid (Below w0.heap.size w0 w5):=(by refine d.o.trans (Below.trans (b:=wr.alloc _) ?_ (P.mono ?_));exact Below.alloc (Below.refl _ _) d.o.size _;(have:=d.o.size;simp;omega));clear P g0 g1 g2 g3 g4 t0 t1 t2 t3 t4 t5 t6 t7;cases F:jE p f g i
    ·have HO:=hI F;clear F;go_wp2_with fail;go_ret;refine⟨?_,E.o.trans (V.o.mono E.o.size)⟩;rw[N.o (by
      cases hq:(f.code.zipIdx.all λx=>jE p f x.2 x.1);·rfl
      ·have:=(uX f.code 0).1 hq g i HX.o;simp only[Nat.zero_add] at this;rw[HO.o] at this;cases this)]
     rfl
    ·have HO:=hI F;clear F;go_wp2_with fail;go_roundw
     case rel=>exact⟨g+1,by go_num,by omega,λj x hj v=>by
      rcases Nat.lt_or_ge j g with h | h;·exact KP.o j x h v
      ·have:j=g:=by omega
       subst this;rw[HX.o] at v;injection v with v;subst v;exact HO.o,V⟩
     case measure=>simp[RowKit.intOf];omega
   ·have b6:Hid ((f.code.zipIdx.all λx=>jE p f x.2 x.1)=true):=(uX f.code 0).2 (λi x v=>by rw[Nat.zero_add];exact KP.o i x (by have:=(lE v).1;omega) v);have hj:Hid (kN f.code):=λi hi=>by obtain⟨j,a4⟩:=List.getElem?_of_mem hi;have f9:=(lE a4).1;have F:=KP.o j i (by omega) a4;obtain⟨o1,o2⟩:=uK F;obtain⟨cs,X⟩:=HC.o.mem hi;obtain⟨-,-,wa,wb,-⟩:=X;exact⟨λh=>⟨(o1 h).1,wa.2⟩,λh=>⟨(o2 h).1,wb.2⟩,wa⟩
    have c9:w.heap.size+1<wr.heap.size:=(by have:=d.o.size;have:=Z.o;omega);have t0:wr.cell? ⟨w.heap.size+1,0,none⟩=some (.int .i64 f.params):=aC d.o (M.o 0);have t1:wr.cell? ⟨w.heap.size+1,1,none⟩=some (.int .i64 f.regs):=aC d.o (M.o 1);have t2:wr.cell? ⟨w.heap.size+1,2,none⟩=some (.bool f.gen):=aC d.o (M.o 2);have t3:wr.cell? ⟨w.heap.size+1,3,none⟩=some (.slice y f.caught.length z):=aC d.o (M.o 3);have t4:wr.cell? ⟨w.heap.size+1,4,none⟩=some (.slice O f.code.length A):=aC d.o (M.o 4);have d1:=hI (Y.o.keep q.o.size (λ_ h=>q.o.cell h));go_wp2_with fail;refine(aeE _ f wr d1.o hn hj.o).mono ?_;rintro e w5 ⟨bs,bo,g6,rfl,-,-,-,-,-,P⟩;have V:=btZ q P;clear P t0 t1 t2 t3 t4;go_wp2_with fail;go_ret;exact⟨by rw[HG.o b6.o];rfl,V.o⟩
end
end Go.Proofs.YtijihlcdhppfgaaGreatDoor
