/- A part of the walk. -/
import Derived.Test.YtjaphgpkkfdaaaaGreatDoorZE
import Derived.Laws.MakeOwn
import Derived.Lib.Builder
import Derived.Deep.LoopGhost
set_option maxHeartbeats 16000000
set_option maxRecDepth 100000
set_option linter.all false
namespace Go.Proofs.YtjaphgpkkfdaaaaGreatDoor
open Tryz
section
open Go.RowKit
theorem ac3:(prog.info? 4).map (λi=>(i.zero,i.size,i.bytes))=some (some (.bool false),1,1):=by kernel_rfl
theorem aa6:(prog.info? 59).map (λi=>(i.zero,i.size,i.bytes))=some (some (.slice none 0 0),1,24):=by kernel_rfl
theorem nE (z:Value) (n:Nat):madeCells #[z] n=⟨List.replicate n z⟩:=by
 apply Array.toList_inj.1;apply List.ext_getElem;·simp[madeCells]
 ·intro i d e;simp[madeCells,Nat.mod_one]
theorem acM (n:Nat) (i:n<=600) (W:World):(Instr.makeSlice 171 (.int .i64 (n:Int)) (.int .i64 (n:Int))).run prog W=.ok (.slice (some ⟨W.heap.size,0,none⟩) n n) (W.alloc (.cells ⟨List.replicate n (.bool false)⟩ 4)):=by obtain⟨g,hi,d,e,f⟩:=info_parts ac3;have h:=run_make (P:=prog) W 171 4 g (.bool false) underlying171 hi d .i64 .i64 n n (by omega) (Int.le_refl _) (by rw[f];omega) (by omega);rw[Int.toNat_natCast,e,Nat.mul_one] at h;rw[h,show(Value.bool false).cells=#[.bool false] from rfl,nE]
theorem acL (n:Nat) (i:n<=600) (W:World):(Instr.makeSlice 170 (.int .i64 (n:Int)) (.int .i64 (n:Int))).run prog W=.ok (.slice (some ⟨W.heap.size,0,none⟩) n n) (W.alloc (.cells ⟨List.replicate n (.slice none 0 0)⟩ 59)):=by obtain⟨g,hi,d,e,f⟩:=info_parts aa6;have h:=run_make (P:=prog) W 170 59 g (.slice none 0 0) underlying170 hi d .i64 .i64 n n (by omega) (Int.le_refl _) (by rw[f];omega) (by omega);rw[Int.toNat_natCast,e,Nat.mul_one] at h;rw[h,show(Value.slice none 0 0).cells=#[.slice none 0 0] from rfl,nE]
theorem bN.pop {w:World} {B b:Nat} {y z A C:Value} {D:Option Addr} {n E:Nat} {s:bZ} {j p:Nat} {g m d:Nat} {q:List Value} (h:bN w B b y z A C D n E s j p (.slice (some ⟨g,0,none⟩) m d) q) : bN (w.setCell ⟨b,7,none⟩ (.slice (some ⟨g,0,none⟩) (m - 1) d)) B b y z A C D n E (kX s) j p (.slice (some ⟨g,0,none⟩) (m - 1) d) q/\aU B w (w.setCell ⟨b,7,none⟩ (.slice (some ⟨g,0,none⟩) (m - 1) d)):=by
 have r:aU B w (w.setCell ⟨b,7,none⟩ (.slice (some ⟨g,0,none⟩) (m - 1) d)):=(aU.refl B w).set_ h.hb h.here (by decide) _ _;have u:j≠b:=by rintro rfl;have:=h.here;rw[h.seen] at this;injection this with this;injection this with _ this _;exact absurd this (by decide)
 have x:p≠b:=by rintro rfl;have:=h.here;rw[h.outs] at this;injection this with this;injection this with _ this _;exact absurd this (by decide)
 have H:w.ownsRow B 3 1 (.slice (some ⟨g,0,none⟩) (m - 1) d) (kX s).todo.length ((kX s).todo.map (.int .i64)):=by
  obtain⟨S,J⟩:=h.todo;rcases J with ⟨e,_⟩ | ⟨V,c',G,e,M,N,W,O,P,R⟩;·cases e
  ·injection e with f F L
   injection f with f
   injection f with f
   subst f;subst L;have hl:(kX s).todo.length=m - 1:=(by rw[F];simp[kX]);refine⟨by simp,.inr ⟨g,d,G,by rw[hl],M,N,by omega,O,P,?_⟩⟩;rw[hl];have I:(kX s).todo=s.todo.take (m - 1):=(by rw[F];exact List.dropLast_eq_take);rw[I,List.map_take,<-R,List.take_take];congr 1;omega
 refine⟨⟨h.hb,?_,h.hbs,?_,h.hbo,?_,h.olen,λi v l K hl=>r.tries (h.out i v l K hl),gI H h.here (by decide) _ _⟩,r⟩;·rw[heap_setCell_same w b 7 _ _ _ h.here];rfl
 ·rw[heap_setCell_other w _ j _ u];exact h.seen
 ·rw[heap_setCell_other w _ p _ x];exact h.outs
theorem jH (w:World) (a b c d:Obj):((((w.alloc a).alloc b).alloc c).alloc d).heap[w.heap.size+1]? = some b/\((((w.alloc a).alloc b).alloc c).alloc d).heap[w.heap.size+1+1]? = some c/\((((w.alloc a).alloc b).alloc c).alloc d).heap[w.heap.size+1+1+1]? = some d:=by have g:=heap_alloc2_new w a b;have e:=heap_alloc2_new (w.alloc a) b c;have f:=heap_alloc2_new ((w.alloc a).alloc b) c d;simp only[World.size_alloc] at e f;exact⟨(Lib.alloc_old _ d _ (by simp)).trans ((Lib.alloc_old _ c _ (by simp)).trans g),(Lib.alloc_old _ d _ (by simp)).trans e,f⟩
theorem bN.drew {w:World} {B b:Nat} {e f g i:Value} {j:Option Addr} {n l:Nat} {s:bZ} {m p:Nat} {q:Value} {d:List Value} (h:bN w B b e f g i j n l s m p q d):bN w.drew B b e f g i j n l s m p q d:= ⟨h.hb,h.here,h.hbs,h.seen,h.hbo,h.outs,h.olen,h.out,h.todo⟩
theorem qV {w:World} {B b:Nat} {f g h j:Value} {m:Option Addr} {n p d e:Nat} (hb:B<=b) (hbs:B<=d) (hbo:B<=e) (u:w.heap[b]? = some (.cells #[f,g,h,j,.slice m n p,.slice (some ⟨d,0,none⟩) n n,.slice (some ⟨e,0,none⟩) n n,.slice none 0 0,.bool false] 206)) (x:w.heap[d]? = some (.cells (Array.replicate n (.bool false)) 4)) (y:w.heap[e]? = some (.cells (Array.replicate n (.slice none 0 0)) 59)) : bN w B b f g h j m n p ⟨List.replicate n false,List.replicate n [],[],false⟩ d e (.slice none 0 0) (List.replicate n (.slice none 0 0)):=by
 refine⟨hb,u,hbs,?_,hbo,?_,by simp,λi v l s hl=>?_,World.ownsRow_nil _ _ _ _⟩;·rw[x,List.map_replicate];rfl
 ·rw[y];rfl
 ·have q:=(List.mem_replicate.1 (lM s)).2;have r:=(List.mem_replicate.1 (lM hl)).2;subst q;subst r;exact bI.nil _ _ _ _ _
def abW (n:Nat) (s:bZ) (w:World) (e:Ending) (w':World):Prop:=
 ∃bs bo ovs,e=.returned (.tuple #[.slice (some ⟨bo,0,none⟩) n n,.slice (some ⟨bs,0,none⟩) n n,.bool (!s.bad)])/\w'.heap[bs]? = some (.cells ⟨s.seen.map .bool⟩ 4 (0,0))/\w'.heap[bo]? = some (.cells ⟨ovs⟩ 59 (0,0))/\ovs.length=n/\
  (∀(i:Nat) v l,ovs[i]? = some v->s.out[i]? = some l->bI w' w.heap.size 96 2 jW v l)/\WOk n s/\Below w.heap.size w w'
theorem yU (g7:List Value) (f:CFn) (w:World) (hf:FnR w w.heap.size g7 f) (hn:f.code.length<=600) (hj:iP f.code) : Calls prog 94 #[.agg ⟨g7⟩] w (abW f.code.length (cY f.code) w):=by
 obtain⟨G,H,I,J,rfl,q1,q2,w1,w2⟩:=hf;obtain⟨n,d2⟩:∃n,f.code.length=n:=⟨_,rfl⟩;have HT:Hid (cY f.code=nP f.code (eM (jN n)) (jN n)):=by rw[<-d2];rfl
 rw[d2] at hn q2 ⊢;obtain⟨S,g6⟩:∃S,cY f.code=S:=⟨_,rfl⟩;rw[g6] at HT ⊢;have HC:=hI q2;have g5:=hI d2;have HJ:=hI hj;have k9:=λW=>acM n hn W;have l0:=λW=>acL n hn W;have l4:(n:Int)<=600:=by omega
 have d3:Hid (WOk n ⟨List.replicate n false,List.replicate n [],[],false⟩):=⟨by simp,by simp,by simp,by simp,by simp[eM],by simp⟩;clear q1 q2 d2 g6 hj;go_enter func94,ntmps94;go_wp2_with fail;go_region;go_wp2_with fail
 ·refine(kH w.heap.size (w.heap.size+1+1+1) (.int .i64 f.params) (.int .i64 f.regs) (.bool f.gen) (.slice G f.caught.length H) I n J _ (w.heap.size+1) (w.heap.size+1+1) _ _ 0 _ [] _ (qV (by omega) (by omega) (by omega) (jH w _ _ _ _).2.2 (jH w _ _ _ _).1 (jH w _ _ _ _).2.1).drew d3.out hn (by omega) (bI.nil _ _ _ _ _) (by simp;omega)).mono ?_;rintro e w5 ⟨rfl,⟨r,d,y⟩,A⟩;have K1:Hid (∃i j r d,bN w5 w.heap.size (w.heap.size+1+1+1) (.int .i64 f.params) (.int .i64 f.regs) (.bool f.gen) (.slice G f.caught.length H) I n J (jN n) i j r d):=⟨_,_,r,d,y⟩;have K2:Hid (aU w.heap.size w w5):=by refine aU.trans (ad7 ?_) A;repeat (first | exact Below.refl _ _ | refine Below.drew ?_ | refine Below.alloc ?_ (by simp <;> omega) _)
  clear y A;go_wp2_with fail;have L0:Hid (∃s i j r d,bN w5 w.heap.size (w.heap.size+1+1+1) (.int .i64 f.params) (.int .i64 f.regs) (.bool f.gen) (.slice G f.caught.length H) I n J s i j r d/\WOk n s/\eM s=eM (jN n)/\nP f.code (eM s) s=S):=by obtain⟨i,j,r,d,y⟩:=K1.out;exact⟨_,i,j,r,d,y,o6 n,rfl,HT.out.symm⟩
  go_loopg [6] (eM (jN n)) (λk _ wr=>Hid (∃s i j r d,bN wr w.heap.size (w.heap.size+1+1+1) (.int .i64 f.params) (.int .i64 f.regs) (.bool f.gen) (.slice G f.caught.length H) I n J s i j r d/\WOk n s/\eM s=k/\nP f.code (eM s) s=S)/\Hid (aU w.heap.size w wr));case atStart=>exact⟨L0,K2⟩
  case round=>
   clear L0 K1 K2;obtain⟨KS,KW⟩:=hrel;obtain⟨s,i,j,r,d,ka,a7,km,kr⟩:=KS.out;have m:=hI ka;have D:=hI a7;have KM:=hI km;have KR:=hI kr;clear KS ka a7 km kr;obtain⟨Y,v,rfl⟩:∃Y v,r=.slice Y s.todo.length v:=by
    rcases m.out.todo.2 with ⟨e,h0⟩ | ⟨g,c,_,e,_⟩;·rw[e,h0];exact⟨_,_,rfl⟩
    ·exact⟨_,_,e⟩
   have hl:s.todo.length<=600:=(by have:=D.out.small;unfold eM at this;omega);have a2:(s.todo.length:Int)<=600:=(by omega);have L:=crZ m.out.here 7 rfl;have K:=crZ m.out.here 8 rfl;have V:=crZ m.out.here 5 rfl;have X:=crZ m.out.here 6 rfl;by_cases C:s.todo≠[]/\s.bad=false
   ·obtain⟨O,l⟩:=C;obtain⟨t,ht⟩:∃t,s.todo.getLast? = some t:=⟨_,List.getLast?_eq_some_getLast O⟩;have b0:0<s.todo.length:=List.length_pos_iff.2 O;have e0:(0:Int)<s.todo.length:=(by omega);obtain⟨g,rfl,z⟩:∃g,Y=some ⟨g,0,none⟩/\wr.cell? ⟨g,s.todo.length - 1,none⟩=some (.int .i64 t):=by
     rcases m.out.todo.2 with ⟨e,h0⟩ | ⟨g,c,a9,e,y,A,k3,k4,k5,k6⟩;·omega
     ·injection e with e1 e2 e3
      refine⟨g,e1,?_⟩;rw[cell_of_row wr g _ _ _ _ A,<-Array.getElem?_toList];have h7:(a9.toList.take (s.todo.length*1))[s.todo.length - 1]? = some (.int .i64 t):=(by rw[k6,List.getElem?_map,<-List.getLast?_eq_getElem?,ht];rfl);rw[List.getElem?_take,if_pos (by omega)] at h7;exact h7
    have e5:=D.out.todo t (List.mem_of_getLast? ht);obtain⟨Z,rfl⟩:∃Z:Nat,t=Z:=⟨t.toNat,by omega⟩;have b2:Z<n:=(by omega);obtain⟨q,hq⟩:∃q,q+1=s.todo.length:=⟨s.todo.length - 1,by omega⟩;have a3:s.todo.length - 1=q:=(by omega);have HQ:=hI hq;rw[a3] at z;have KP:=hI (m.out.pop);have b4:s.todo.length<=v/\v<=maxLen:=by
     rcases m.out.todo.2 with ⟨e,h0⟩ | ⟨g',c,a9,e,y,A,k3,k4,k5,k6⟩;·cases e
     ·injection e with e1 e2 e3;subst e3;exact⟨k3,k4⟩
    have j2:wr.frozen? ⟨w.heap.size+1+1+1,7,none⟩=false:=frozen_of_row wr _ 7 _ _ m.out.here;obtain⟨a0,a1⟩:=b4;unfold maxLen at a1;have e6:=hI ht;have M:=hI l;rw[l] at K;have f7:=ecZ L;have fg:=ecZ z;rw[<-hq] at L f7;have j3:q+1<=v:=(by omega);clear O ht e5 b0 e0 hq a3 l hl a2 a0;have j4:((q:Int)+1 - 1)=q:=(by omega);have k0:(q:Int)<(q:Int)+1:=(by omega);have k7:(q:Int)<=599:=(by have:=HQ.out;have:=D.out.small;unfold eM at this;omega);go_wp2_with fail;refine aD (by kernel_rfl) (by kernel_rfl) ?_;repeat (go_big_quiet_step (fail))
    refine wpQuiet_nil ?_;rintro _ ⟨E,rfl⟩;have F:=hI E.below;have a4:∀u:Up E.to,u.to.cell? ⟨w.heap.size+1+1+1,7,none⟩=some (.slice (some ⟨g,0,none⟩) (q+1) v):=λu=>u.cell (f7 E);clear f7 fg z V X L K;go_wp2_with fail;refine aL 12 (by kernel_rfl) (by kernel_rfl) ?_;simp only[List.take_succ_cons,List.take_zero,List.drop_succ_cons,List.drop_zero];repeat (go_big_quiet_step (fail))
    refine wpQuiet_nil ?_;rintro _ ⟨u,rfl⟩;have N:Hid (Below wr.heap.size wr u.to):=oV F.out u;have a5:Hid (bN (u.to.setCell ⟨w.heap.size+1+1+1,7,none⟩ (.slice (some ⟨g,0,none⟩) q v)) w.heap.size (w.heap.size+1+1+1) (.int .i64 f.params) (.int .i64 f.regs) (.bool f.gen) (.slice G f.caught.length H) I n J (kX s) i j (.slice (some ⟨g,0,none⟩) q v) d/\aU w.heap.size u.to (u.to.setCell ⟨w.heap.size+1+1+1,7,none⟩ (.slice (some ⟨g,0,none⟩) q v))):=(by have:=(m.out.below N.out).pop;rwa [show s.todo.length - 1=q from by have:=HQ.out;omega] at this);have d7:u.to.cell? ⟨w.heap.size+1+1+1,7,none⟩=some (.slice (some ⟨g,0,none⟩) (q+1) v):=a4 u;have e7:u.to.frozen? ⟨w.heap.size+1+1+1,7,none⟩=false:=frozen_of_row _ _ 7 _ _ (m.out.below N.out).here;have W6:Hid (aU w.heap.size w (u.to.setCell ⟨w.heap.size+1+1+1,7,none⟩ (.slice (some ⟨g,0,none⟩) q v))):=(KW.out.below_ N.out).trans a5.out.2;clear a4;go_wp2_with fail;refine(ac5 w.heap.size (w.heap.size+1+1+1) (.int .i64 f.params) (.int .i64 f.regs) (.bool f.gen) (.slice G f.caught.length H) I n J (kX s) i j _ d Z f.code _ a5.out.1 D.out.pop hn b2 g5.out.symm (HC.out.keep (Nat.le_refl _) (λp hp=>(W6.out.under (Nat.le_refl _)).cell hp) (λ_ _ h=>h)) HJ.out W6.out.size).mono ?_;rintro e w8 ⟨rfl,⟨f3,c9,y⟩,A⟩;have K8:Hid (∃P i j r d,bN w8 w.heap.size (w.heap.size+1+1+1) (.int .i64 f.params) (.int .i64 f.regs) (.bool f.gen) (.slice G f.caught.length H) I n J P i j r d/\WOk n P/\eM P=s.todo.length - 1+s.seen.count false/\nP f.code (eM P) P=S):=by
     refine⟨_,i,j,f3,c9,y,D.out.pop.from_ HJ.out (by omega),?_,?_⟩;·rw[pH];simp[eM,kX];omega
     ·rw[<-vS e6.out M.out];exact KR.out
    have K9:=hI (W6.out.trans A);clear y A d7 e7;go_wp2_with fail;go_roundg (s.todo.length - 1+s.seen.count false);case measure=>have h1:=KM.out;have h2:=HQ.out;unfold eM at h1;omega
    case rel=>exact⟨K8,K9⟩
   ·have a6:Hid (S=s):=by
     rw[<-KR.out];exact yW (by
      by_cases h:s.todo=[];·exact .inl h
      ·right;cases hb:s.bad;·exact absurd ⟨h,hb⟩ C
       ·rfl) _
    have f5:=ecZ V;have f6:=ecZ X;have f8:=ecZ K;by_cases R:s.todo.length=0
    ·have hx:¬(0:Int)<s.todo.length:=(by omega);clear C R hl a2;go_wp2_with fail;refine aD (by kernel_rfl) (by kernel_rfl) ?_;repeat (go_big_quiet_step (fail))
     refine wpQuiet_nil ?_;rintro _ ⟨E,rfl⟩;have F:=hI E.below;clear f5 f6 f8 V X L K;go_wp2_with fail;go_ret3;rw[a6.out];have x:=m.out.below F.out;exact⟨i,j,d,rfl,x.seen,x.outs,x.olen,x.out,D.out,(KW.out.below_ F.out).under (Nat.le_refl _)⟩
    ·have hx:(0:Int)<s.todo.length:=(by omega);have l:s.bad=true:=by
      cases hb:s.bad;·exact absurd ⟨λe=>R (by rw[e];rfl),hb⟩ C
      ·rfl
     rw[l] at K f8;have M:=hI l;clear C R hl l;go_wp2_with fail;refine aD (by kernel_rfl) (by kernel_rfl) ?_;repeat (go_big_quiet_step (fail))
     refine wpQuiet_nil ?_;rintro _ ⟨E,rfl⟩;have F:=hI E.below;clear f5 f6 f8 V X L K;go_wp2_with fail;go_ret3;rw[a6.out];have x:=m.out.below F.out;exact⟨i,j,d,by rw[M.out];rfl,x.seen,x.outs,x.olen,x.out,D.out,(KW.out.below_ F.out).under (Nat.le_refl _)⟩
 ·refine(kH w.heap.size (w.heap.size+1+1+1) (.int .i64 f.params) (.int .i64 f.regs) (.bool f.gen) (.slice G f.caught.length H) I n J _ (w.heap.size+1+1) (w.heap.size+1) _ _ 0 _ [] _ (qV (by omega) (by omega) (by omega) (jH w _ _ _ _).2.2 (jH w _ _ _ _).2.1 (jH w _ _ _ _).1).drew d3.out hn (by omega) (bI.nil _ _ _ _ _) (by simp;omega)).mono ?_;rintro e w5 ⟨rfl,⟨r,d,y⟩,A⟩;have K1:Hid (∃i j r d,bN w5 w.heap.size (w.heap.size+1+1+1) (.int .i64 f.params) (.int .i64 f.regs) (.bool f.gen) (.slice G f.caught.length H) I n J (jN n) i j r d):=⟨_,_,r,d,y⟩;have K2:Hid (aU w.heap.size w w5):=by refine aU.trans (ad7 ?_) A;repeat (first | exact Below.refl _ _ | refine Below.drew ?_ | refine Below.alloc ?_ (by simp <;> omega) _)
  clear y A;go_wp2_with fail;have L0:Hid (∃s i j r d,bN w5 w.heap.size (w.heap.size+1+1+1) (.int .i64 f.params) (.int .i64 f.regs) (.bool f.gen) (.slice G f.caught.length H) I n J s i j r d/\WOk n s/\eM s=eM (jN n)/\nP f.code (eM s) s=S):=by obtain⟨i,j,r,d,y⟩:=K1.out;exact⟨_,i,j,r,d,y,o6 n,rfl,HT.out.symm⟩
  go_loopg [6] (eM (jN n)) (λk _ wr=>Hid (∃s i j r d,bN wr w.heap.size (w.heap.size+1+1+1) (.int .i64 f.params) (.int .i64 f.regs) (.bool f.gen) (.slice G f.caught.length H) I n J s i j r d/\WOk n s/\eM s=k/\nP f.code (eM s) s=S)/\Hid (aU w.heap.size w wr));case atStart=>exact⟨L0,K2⟩
  case round=>
   clear L0 K1 K2;obtain⟨KS,KW⟩:=hrel;obtain⟨s,i,j,r,d,ka,a7,km,kr⟩:=KS.out;have m:=hI ka;have D:=hI a7;have KM:=hI km;have KR:=hI kr;clear KS ka a7 km kr;obtain⟨Y,v,rfl⟩:∃Y v,r=.slice Y s.todo.length v:=by
    rcases m.out.todo.2 with ⟨e,h0⟩ | ⟨g,c,_,e,_⟩;·rw[e,h0];exact⟨_,_,rfl⟩
    ·exact⟨_,_,e⟩
   have hl:s.todo.length<=600:=(by have:=D.out.small;unfold eM at this;omega);have a2:(s.todo.length:Int)<=600:=(by omega);have L:=crZ m.out.here 7 rfl;have K:=crZ m.out.here 8 rfl;have V:=crZ m.out.here 5 rfl;have X:=crZ m.out.here 6 rfl;by_cases C:s.todo≠[]/\s.bad=false
   ·obtain⟨O,l⟩:=C;obtain⟨t,ht⟩:∃t,s.todo.getLast? = some t:=⟨_,List.getLast?_eq_some_getLast O⟩;have b0:0<s.todo.length:=List.length_pos_iff.2 O;have e0:(0:Int)<s.todo.length:=(by omega);obtain⟨g,rfl,z⟩:∃g,Y=some ⟨g,0,none⟩/\wr.cell? ⟨g,s.todo.length - 1,none⟩=some (.int .i64 t):=by
     rcases m.out.todo.2 with ⟨e,h0⟩ | ⟨g,c,a9,e,y,A,k3,k4,k5,k6⟩;·omega
     ·injection e with e1 e2 e3
      refine⟨g,e1,?_⟩;rw[cell_of_row wr g _ _ _ _ A,<-Array.getElem?_toList];have h7:(a9.toList.take (s.todo.length*1))[s.todo.length - 1]? = some (.int .i64 t):=(by rw[k6,List.getElem?_map,<-List.getLast?_eq_getElem?,ht];rfl);rw[List.getElem?_take,if_pos (by omega)] at h7;exact h7
    have e5:=D.out.todo t (List.mem_of_getLast? ht);obtain⟨Z,rfl⟩:∃Z:Nat,t=Z:=⟨t.toNat,by omega⟩;have b2:Z<n:=(by omega);obtain⟨q,hq⟩:∃q,q+1=s.todo.length:=⟨s.todo.length - 1,by omega⟩;have a3:s.todo.length - 1=q:=(by omega);have HQ:=hI hq;rw[a3] at z;have KP:=hI (m.out.pop);have b4:s.todo.length<=v/\v<=maxLen:=by
     rcases m.out.todo.2 with ⟨e,h0⟩ | ⟨g',c,a9,e,y,A,k3,k4,k5,k6⟩;·cases e
     ·injection e with e1 e2 e3;subst e3;exact⟨k3,k4⟩
    have j2:wr.frozen? ⟨w.heap.size+1+1+1,7,none⟩=false:=frozen_of_row wr _ 7 _ _ m.out.here;obtain⟨a0,a1⟩:=b4;unfold maxLen at a1;have e6:=hI ht;have M:=hI l;rw[l] at K;have f7:=ecZ L;have fg:=ecZ z;rw[<-hq] at L f7;have j3:q+1<=v:=(by omega);clear O ht e5 b0 e0 hq a3 l hl a2 a0;have j4:((q:Int)+1 - 1)=q:=(by omega);have k0:(q:Int)<(q:Int)+1:=(by omega);have k7:(q:Int)<=599:=(by have:=HQ.out;have:=D.out.small;unfold eM at this;omega);go_wp2_with fail;refine aD (by kernel_rfl) (by kernel_rfl) ?_;repeat (go_big_quiet_step (fail))
    refine wpQuiet_nil ?_;rintro _ ⟨E,rfl⟩;have F:=hI E.below;have a4:∀u:Up E.to,u.to.cell? ⟨w.heap.size+1+1+1,7,none⟩=some (.slice (some ⟨g,0,none⟩) (q+1) v):=λu=>u.cell (f7 E);clear f7 fg z V X L K;go_wp2_with fail;refine aL 12 (by kernel_rfl) (by kernel_rfl) ?_;simp only[List.take_succ_cons,List.take_zero,List.drop_succ_cons,List.drop_zero];repeat (go_big_quiet_step (fail))
    refine wpQuiet_nil ?_;rintro _ ⟨u,rfl⟩;have N:Hid (Below wr.heap.size wr u.to):=oV F.out u;have a5:Hid (bN (u.to.setCell ⟨w.heap.size+1+1+1,7,none⟩ (.slice (some ⟨g,0,none⟩) q v)) w.heap.size (w.heap.size+1+1+1) (.int .i64 f.params) (.int .i64 f.regs) (.bool f.gen) (.slice G f.caught.length H) I n J (kX s) i j (.slice (some ⟨g,0,none⟩) q v) d/\aU w.heap.size u.to (u.to.setCell ⟨w.heap.size+1+1+1,7,none⟩ (.slice (some ⟨g,0,none⟩) q v))):=(by have:=(m.out.below N.out).pop;rwa [show s.todo.length - 1=q from by have:=HQ.out;omega] at this);have d7:u.to.cell? ⟨w.heap.size+1+1+1,7,none⟩=some (.slice (some ⟨g,0,none⟩) (q+1) v):=a4 u;have e7:u.to.frozen? ⟨w.heap.size+1+1+1,7,none⟩=false:=frozen_of_row _ _ 7 _ _ (m.out.below N.out).here;have W6:Hid (aU w.heap.size w (u.to.setCell ⟨w.heap.size+1+1+1,7,none⟩ (.slice (some ⟨g,0,none⟩) q v))):=(KW.out.below_ N.out).trans a5.out.2;clear a4;go_wp2_with fail;refine(ac5 w.heap.size (w.heap.size+1+1+1) (.int .i64 f.params) (.int .i64 f.regs) (.bool f.gen) (.slice G f.caught.length H) I n J (kX s) i j _ d Z f.code _ a5.out.1 D.out.pop hn b2 g5.out.symm (HC.out.keep (Nat.le_refl _) (λp hp=>(W6.out.under (Nat.le_refl _)).cell hp) (λ_ _ h=>h)) HJ.out W6.out.size).mono ?_;rintro e w8 ⟨rfl,⟨f3,c9,y⟩,A⟩;have K8:Hid (∃P i j r d,bN w8 w.heap.size (w.heap.size+1+1+1) (.int .i64 f.params) (.int .i64 f.regs) (.bool f.gen) (.slice G f.caught.length H) I n J P i j r d/\WOk n P/\eM P=s.todo.length - 1+s.seen.count false/\nP f.code (eM P) P=S):=by
     refine⟨_,i,j,f3,c9,y,D.out.pop.from_ HJ.out (by omega),?_,?_⟩;·rw[pH];simp[eM,kX];omega
     ·rw[<-vS e6.out M.out];exact KR.out
    have K9:=hI (W6.out.trans A);clear y A d7 e7;go_wp2_with fail;go_roundg (s.todo.length - 1+s.seen.count false);case measure=>have h1:=KM.out;have h2:=HQ.out;unfold eM at h1;omega
    case rel=>exact⟨K8,K9⟩
   ·have a6:Hid (S=s):=by
     rw[<-KR.out];exact yW (by
      by_cases h:s.todo=[];·exact .inl h
      ·right;cases hb:s.bad;·exact absurd ⟨h,hb⟩ C
       ·rfl) _
    have f5:=ecZ V;have f6:=ecZ X;have f8:=ecZ K;by_cases R:s.todo.length=0
    ·have hx:¬(0:Int)<s.todo.length:=(by omega);clear C R hl a2;go_wp2_with fail;refine aD (by kernel_rfl) (by kernel_rfl) ?_;repeat (go_big_quiet_step (fail))
     refine wpQuiet_nil ?_;rintro _ ⟨E,rfl⟩;have F:=hI E.below;clear f5 f6 f8 V X L K;go_wp2_with fail;go_ret3;rw[a6.out];have x:=m.out.below F.out;exact⟨i,j,d,rfl,x.seen,x.outs,x.olen,x.out,D.out,(KW.out.below_ F.out).under (Nat.le_refl _)⟩
    ·have hx:(0:Int)<s.todo.length:=(by omega);have l:s.bad=true:=by
      cases hb:s.bad;·exact absurd ⟨λe=>R (by rw[e];rfl),hb⟩ C
      ·rfl
     rw[l] at K f8;have M:=hI l;clear C R hl l;go_wp2_with fail;refine aD (by kernel_rfl) (by kernel_rfl) ?_;repeat (go_big_quiet_step (fail))
     refine wpQuiet_nil ?_;rintro _ ⟨E,rfl⟩;have F:=hI E.below;clear f5 f6 f8 V X L K;go_wp2_with fail;go_ret3;rw[a6.out];have x:=m.out.below F.out;exact⟨i,j,d,by rw[M.out];rfl,x.seen,x.outs,x.olen,x.out,D.out,(KW.out.below_ F.out).under (Nat.le_refl _)⟩
end
section
open Go.RowKit
theorem aaB (w:World) (A B C:Array Value) (t u v:TypeId):(∀i,(((w.alloc (.cells A t)).alloc (.cells B u)).alloc (.cells C v)).cell? ⟨w.heap.size,i,none⟩=A[i]?)/\(∀i,(((w.alloc (.cells A t)).alloc (.cells B u)).alloc (.cells C v)).cell? ⟨w.heap.size+1,i,none⟩=B[i]?)/\ (∀i,(((w.alloc (.cells A t)).alloc (.cells B u)).alloc (.cells C v)).cell? ⟨w.heap.size+1+1,i,none⟩=C[i]?)/\Below w.heap.size w (((w.alloc (.cells A t)).alloc (.cells B u)).alloc (.cells C v)):=by
 refine⟨λi=>?_,λi=>?_,λi=>?_,(bE w _ _).alloc (by simp;omega) _⟩;·rw[World.cell?_alloc_lt _ _ _ (by simp;omega)];exact kK w A t _ i
 ·rw[World.cell?_alloc_lt _ _ _ (by simp)];exact mM w B u _ i
 ·have h:=bL ((w.alloc (.cells A t)).alloc (.cells B u)) C v i;simp only[World.size_alloc] at h;exact h
theorem qK {α : Type} {q : α×Nat->Bool} : ∀(l:List α) (k:Nat),((l.zipIdx k).all q=true↔∀i x,l[i]? = some x->q (x,k+i)=true)
 | [],k=>by simp
 | y::l,k=>by
  rw[List.zipIdx_cons,List.all_cons,Bool.and_eq_true,qK l (k+1)]
  constructor
  ·rintro ⟨e,f⟩ i x d
   cases i with
   | zero=>simp at d;subst d;exact e
   | succ i=>have:=f i x (by simpa using d);rwa [show k+1+i=k+(i+1) by omega] at this
  ·intro h
   exact⟨h 0 y rfl,λi x d=>by have:=h (i+1) x (by simpa using d);rwa [show k+(i+1)=k+1+i by omega] at this⟩
theorem xX (a4 a5:List Value) (p:aW) (f:CFn) (w:World) (hp:eL w w.heap.size a4 p) (hf:FnR w w.heap.size a5 f) (hn:f.code.length<=600) (d5:f.regs<=60) : Calls prog 77 #[.agg ⟨a4⟩,.agg ⟨a5⟩] w (aM (.bool (dF p f)) w):=by
 obtain⟨r,hr⟩:∃r,dF p f=r:=⟨_,rfl⟩;rw[hr];have HR:=hI hr;have HP:=hI hp;have X:=hI hf;clear hr;obtain⟨F,G,H,I,J,K,rfl,-⟩:=hp;obtain⟨v,y,N,z,rfl,q1,q2,v1,v2⟩:=hf;have HC:=hI q2;have l5:=aP q2;have TB:=aaB w #[.slice F p.fns.length G,.slice H p.consts.length I,.slice J p.texts.length K] #[.int .i64 f.params,.int .i64 f.regs,.bool f.gen,.slice v f.caught.length y,.slice N f.code.length z] #[.slice F p.fns.length G,.slice H p.consts.length I,.slice J p.texts.length K,.int .i64 f.params,.int .i64 f.regs,.bool f.gen,.slice v f.caught.length y,.slice N f.code.length z] 26 99 191;obtain⟨A,C⟩:∃A,A=((w.alloc (.cells #[.slice F p.fns.length G,.slice H p.consts.length I,.slice J p.texts.length K] 26)).alloc (.cells #[.int .i64 f.params,.int .i64 f.regs,.bool f.gen,.slice v f.caught.length y,.slice N f.code.length z] 99)).alloc (.cells #[.slice F p.fns.length G,.slice H p.consts.length I,.slice J p.texts.length K,.int .i64 f.params,.int .i64 f.regs,.bool f.gen,.slice v f.caught.length y,.slice N f.code.length z] 191):=⟨_,rfl⟩;rw[<-C] at TB;obtain⟨-,Z,a0,a1⟩:=TB;have L:=hI Z;have s:=hI a0;have D:=hI a1;have Y:Hid (A.heap.size=w.heap.size+1+1+1):=by rw[C];simp[Hid]
 have P:=hI C;clear q1 q2 Z a0 a1 C;by_cases hb:f.params<0\/f.regs<1\/f.regs<f.params
 ·have M:Hid (r=false):=by rw[<-HR.o];unfold dF Hid;rcases hb with h | h | h <;> simp[h]
  by_cases h1:f.params<0;·clear hb;go_enter func77,ntmps77;go_wp2_with fail;go_ret;rw[<-P.o];exact⟨by rw[M.o];rfl,D.o⟩
  by_cases h2:f.regs<1;·clear hb;go_enter func77,ntmps77;go_wp2_with fail;go_ret;rw[<-P.o];exact⟨by rw[M.o];rfl,D.o⟩
  ·have h3:f.regs<f.params:=(by omega);clear hb;go_enter func77,ntmps77;go_wp2_with fail;go_ret;rw[<-P.o];exact⟨by rw[M.o];rfl,D.o⟩
 ·have h1:¬f.params<0:=by omega
  have h2:¬f.regs<1:=by omega
  have h3:¬f.regs<f.params:=by omega
  have h4:1<=f.regs:=by omega
  clear hb;have M:Hid ((f.code.zipIdx.all λx=>gJ p f x.2 x.1)=false->r=false):=λe=>by rw[<-HR.o];unfold dF;rw[e];simp
  have HG:Hid ((f.code.zipIdx.all λx=>gJ p f x.2 x.1)=true->r = !(cY f.code).bad):=λe=>by rw[<-HR.o];unfold dF;rw[e];simp[h1,h2,h3]
  have e1:(f.code.length:Int)<=600:=by omega
  go_enter func77,ntmps77;go_wp2_with fail;rw[<-P.o];go_loopw [32] (λk wr=>∃g:Nat,k=.int .i64 g/\g<=f.code.length/\Hid (∀j i,j<g->f.code[j]? = some i->gJ p f j i=true)/\Hid (Below A.heap.size A wr)) (λk _=>f.code.length - (RowKit.intOf k).toNat);case atStart=>exact⟨0,rfl,by omega,λj i hj _=>by omega,Below.refl _ _⟩
  case round=>
   obtain⟨g,rfl,hk,KP,d⟩:=hrel;have m:=btZ D d.o;by_cases d6:g<f.code.length
   ·obtain⟨b,l,i,g5,rfl,hb,a2,-,V,q⟩:=HC.o.at_ d6;have HI:=hI V;obtain⟨rfl,-⟩:=V;have g0:wr.cell? ⟨b,l+g*5,none⟩=some (.int .i64 i.op):=(m.o.cell hb).trans (q 0 _ rfl);have g1:wr.cell? ⟨b,l+g*5+1,none⟩=some (.int .i64 i.a):=(m.o.cell hb).trans (q 1 _ rfl);have g2:wr.cell? ⟨b,l+g*5+2,none⟩=some (.int .i64 i.b):=(m.o.cell hb).trans (q 2 _ rfl);have g3:wr.cell? ⟨b,l+g*5+3,none⟩=some (.int .i64 i.c):=(m.o.cell hb).trans (q 3 _ rfl);have g4:wr.cell? ⟨b,l+g*5+4,none⟩=some (.int .i64 i.line):=(m.o.cell hb).trans (q 4 _ rfl);have c9:w.heap.size+1+1<wr.heap.size:=(by have:=d.o.size;have:=Y.o;omega);have t0:wr.cell? ⟨w.heap.size+1+1,0,none⟩=some (.slice F p.fns.length G):=aC d.o (s.o 0);have t1:wr.cell? ⟨w.heap.size+1+1,1,none⟩=some (.slice H p.consts.length I):=aC d.o (s.o 1);have t2:wr.cell? ⟨w.heap.size+1+1,2,none⟩=some (.slice J p.texts.length K):=aC d.o (s.o 2);have t3:wr.cell? ⟨w.heap.size+1+1,3,none⟩=some (.int .i64 f.params):=aC d.o (s.o 3);have t4:wr.cell? ⟨w.heap.size+1+1,4,none⟩=some (.int .i64 f.regs):=aC d.o (s.o 4);have t5:wr.cell? ⟨w.heap.size+1+1,5,none⟩=some (.bool f.gen):=aC d.o (s.o 5);have t6:wr.cell? ⟨w.heap.size+1+1,6,none⟩=some (.slice v f.caught.length y):=aC d.o (s.o 6);have t7:wr.cell? ⟨w.heap.size+1+1,7,none⟩=some (.slice (some ⟨b,l,none⟩) f.code.length z):=aC d.o (s.o 7);have HX:=hI a2;have KL:Hid (∀W,Below wr.heap.size wr W->fC W W.heap.size [.slice F p.fns.length G,.slice H p.consts.length I,.slice J p.texts.length K,.int .i64 f.params,.int .i64 f.regs,.bool f.gen,.slice v f.caught.length y,.slice (some ⟨b,l,none⟩) f.code.length z] p f):=λW k=>by have R:Below w.heap.size w W:=m.o.trans (k.mono m.o.size);exact⟨_,_,rfl,HP.o.keep R.size (λ_ h=>R.cell h),X.o.keep R.size (λ_ h=>R.cell h)⟩
    clear a2 q;go_wp2_with fail;refine(order_c _ _ p f g i _ (KL.o _ (by repeat (first | exact Below.refl _ _ | refine Below.drew ?_ | refine Below.alloc ?_ (by simp) _))) h4 d5 HI.o).mono ?_;rintro e w5 ⟨rfl,O⟩;have S:Hid (Below A.heap.size A w5):=(by refine d.o.trans (Below.trans (b:=wr.alloc _) ?_ (O.mono ?_));exact Below.alloc (Below.refl _ _) d.o.size _;(have:=d.o.size;simp;omega));clear O g0 g1 g2 g3 g4 t0 t1 t2 t3 t4 t5 t6 t7;cases E:gJ p f g i
    ·have HO:=hI E;clear E;go_wp2_with fail;go_ret;refine⟨?_,D.o.trans (S.o.mono D.o.size)⟩;rw[M.o (by
      cases hq:(f.code.zipIdx.all λx=>gJ p f x.2 x.1);·rfl
      ·have:=(qK f.code 0).1 hq g i HX.o;simp only[Nat.zero_add] at this;rw[HO.o] at this;cases this)]
     rfl
    ·have HO:=hI E;clear E;go_wp2_with fail;go_roundw
     case rel=>exact⟨g+1,by go_num,by omega,λj x hj u=>by
      rcases Nat.lt_or_ge j g with h | h;·exact KP.o j x h u
      ·have:j=g:=by omega
       subst this;rw[HX.o] at u;injection u with u;subst u;exact HO.o,S⟩
     case measure=>simp[RowKit.intOf];omega
   ·have b5:Hid ((f.code.zipIdx.all λx=>gJ p f x.2 x.1)=true):=(qK f.code 0).2 (λi x u=>by rw[Nat.zero_add];exact KP.o i x (by have:=(lE u).1;omega) u);have hj:Hid (iP f.code):=λi hi=>by obtain⟨j,a3⟩:=List.getElem?_of_mem hi;have f9:=(lE a3).1;have E:=KP.o j i (by omega) a3;obtain⟨o1,o2⟩:=qA E;obtain⟨cs,V⟩:=HC.o.mem hi;obtain⟨-,-,wa,wb,-⟩:=V;exact⟨λh=>⟨(o1 h).1,wa.2⟩,λh=>⟨(o2 h).1,wb.2⟩,wa⟩
    have c9:w.heap.size+1<wr.heap.size:=(by have:=d.o.size;have:=Y.o;omega);have t0:wr.cell? ⟨w.heap.size+1,0,none⟩=some (.int .i64 f.params):=aC d.o (L.o 0);have t1:wr.cell? ⟨w.heap.size+1,1,none⟩=some (.int .i64 f.regs):=aC d.o (L.o 1);have t2:wr.cell? ⟨w.heap.size+1,2,none⟩=some (.bool f.gen):=aC d.o (L.o 2);have t3:wr.cell? ⟨w.heap.size+1,3,none⟩=some (.slice v f.caught.length y):=aC d.o (L.o 3);have t4:wr.cell? ⟨w.heap.size+1,4,none⟩=some (.slice N f.code.length z):=aC d.o (L.o 4);have d1:=hI (X.o.keep m.o.size (λ_ h=>m.o.cell h));go_wp2_with fail;refine(yU _ f wr d1.o hn hj.o).mono ?_;rintro e w5 ⟨bs,bo,g6,rfl,-,-,-,-,-,O⟩;have S:=btZ m O;clear O t0 t1 t2 t3 t4;go_wp2_with fail;go_ret;exact⟨by rw[HG.o b5.o];rfl,S.o⟩
end
end Go.Proofs.YtjaphgpkkfdaaaaGreatDoor
