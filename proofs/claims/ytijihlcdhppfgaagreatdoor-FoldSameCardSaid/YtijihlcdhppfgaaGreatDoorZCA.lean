/- A part of the walk. -/
import Derived.Test.YtijihlcdhppfgaaGreatDoorZBH
set_option maxHeartbeats 16000000
set_option maxRecDepth 100000
set_option linter.all false
namespace Go.Proofs.YtijihlcdhppfgaaGreatDoor
open Tryz
section
open Go.RowKit
theorem tR (A u:Option Addr) (r j:Nat) (xs:List Val) (w:World) (h1:aB w w.heap.size 2 hU (.slice A xs.length r) xs) (v:aB w w.heap.size 2 hU (.slice u xs.length j) xs) : Calls prog 78 #[.slice A xs.length r,.slice u xs.length j] w (aK (.bool true) w):=by
 have y:=hI h1;have z:=hI v;have M:=aM h1;clear h1 v;go_enter func78,ntmps78;go_wp2_with fail;go_loopw [13] (λk wr=>∃i:Nat,k=.int .i64 i/\i<=xs.length/\Hid (Below w.heap.size w wr)) (λk _=>xs.length - (RowKit.intOf k).toNat);case atStart=>exact⟨0,rfl,by omega,Below.refl _ _⟩
 case round=>
  obtain⟨i,rfl,hi,f⟩:=hrel;by_cases s:i<xs.length
  ·obtain⟨b,l,x,cs,rfl,hb,I,-,⟨rfl,-⟩,p⟩:=y.o.at_ s;obtain⟨b',g,x',L,rfl,q,d,-,⟨rfl,-⟩,h⟩:=z.o.at_ s;rw[I] at d;injection d with d;subst d
   have J:(i:Int)<xs.length:=(by omega);go_upto_region 6 with fail;have D:∀E:Up wr,E.to.cell? ⟨b,l+i*2,none⟩=some (.int .i64 x.kind):=λE=>E.cell ((f.o.cell hb).trans (p 0 _ rfl));have F:∀E:Up wr,E.to.cell? ⟨b,l+i*2+1,none⟩=some (.int .i64 x.n):=λE=>E.cell ((f.o.cell hb).trans (p 1 _ rfl));have G:∀E:Up wr,E.to.cell? ⟨b',g+i*2,none⟩=some (.int .i64 x.kind):=λE=>E.cell ((f.o.cell q).trans (h 0 _ rfl));have b1:∀E:Up wr,E.to.cell? ⟨b',g+i*2+1,none⟩=some (.int .i64 x.n):=λE=>E.cell ((f.o.cell q).trans (h 1 _ rfl));refine aD (by kernel_rfl) (by kernel_rfl) ?_;repeat (go_big_quiet_step (fail))
   refine wpQuiet_nil ?_;rintro _ ⟨E,rfl⟩;have H:=btZ f E.below;clear D G F b1;go_wp2_with fail;go_roundw;case rel=>exact⟨i+1,by go_num,by omega,H⟩
   case measure=>simp[RowKit.intOf];omega
  ·obtain rfl:i=xs.length:=by omega
   have K:¬(xs.length:Int)<xs.length:=(by omega);go_wp2_with fail;go_ret;exact⟨rfl,f.o⟩
theorem agT (A u:Option Addr) (r j:Nat) (xs:List aO) (w:World) (h1:aB w w.heap.size 2 jG (.slice A xs.length r) xs) (v:aB w w.heap.size 2 jG (.slice u xs.length j) xs) : Calls prog 80 #[.slice A xs.length r,.slice u xs.length j] w (aK (.bool true) w):=by
 have y:=hI h1;have z:=hI v;have M:=aM h1;clear h1 v;go_enter func80,ntmps80;go_wp2_with fail;go_loopw [13] (λk wr=>∃i:Nat,k=.int .i64 i/\i<=xs.length/\Hid (Below w.heap.size w wr)) (λk _=>xs.length - (RowKit.intOf k).toNat);case atStart=>exact⟨0,rfl,by omega,Below.refl _ _⟩
 case round=>
  obtain⟨i,rfl,hi,f⟩:=hrel;by_cases s:i<xs.length
  ·obtain⟨b,l,x,cs,rfl,hb,I,-,⟨rfl,-⟩,p⟩:=y.o.at_ s;obtain⟨b',g,x',L,rfl,q,d,-,⟨rfl,-⟩,h⟩:=z.o.at_ s;rw[I] at d;injection d with d;subst d
   have J:(i:Int)<xs.length:=(by omega);go_upto_region 6 with fail;have D:∀E:Up wr,E.to.cell? ⟨b,l+i*2,none⟩=some (.int .i64 x.up):=λE=>E.cell ((f.o.cell hb).trans (p 0 _ rfl));have F:∀E:Up wr,E.to.cell? ⟨b,l+i*2+1,none⟩=some (.int .i64 x.name):=λE=>E.cell ((f.o.cell hb).trans (p 1 _ rfl));have G:∀E:Up wr,E.to.cell? ⟨b',g+i*2,none⟩=some (.int .i64 x.up):=λE=>E.cell ((f.o.cell q).trans (h 0 _ rfl));have b1:∀E:Up wr,E.to.cell? ⟨b',g+i*2+1,none⟩=some (.int .i64 x.name):=λE=>E.cell ((f.o.cell q).trans (h 1 _ rfl));refine aD (by kernel_rfl) (by kernel_rfl) ?_;repeat (go_big_quiet_step (fail))
   refine wpQuiet_nil ?_;rintro _ ⟨E,rfl⟩;have H:=btZ f E.below;clear D G F b1;go_wp2_with fail;go_roundw;case rel=>exact⟨i+1,by go_num,by omega,H⟩
   case measure=>simp[RowKit.intOf];omega
  ·obtain rfl:i=xs.length:=by omega
   have K:¬(xs.length:Int)<xs.length:=(by omega);go_wp2_with fail;go_ret;exact⟨rfl,f.o⟩
theorem agS (A u:Option Addr) (h f:Nat) (xs:List ByteArray) (w:World) (h1:aB w w.heap.size 1 nM (.slice A xs.length h) xs) (v:aB w w.heap.size 1 nM (.slice u xs.length f) xs) : Calls prog 81 #[.slice A xs.length h,.slice u xs.length f] w (aK (.bool true) w):=by
 have y:=hI h1;have z:=hI v;have L:=aM h1;clear h1 v;go_enter func81,ntmps81;go_wp2_with fail;go_loopw [13] (λk wr=>∃i:Nat,k=.int .i64 i/\i<=xs.length/\Hid (Below w.heap.size w wr)) (λk _=>xs.length - (RowKit.intOf k).toNat);case atStart=>exact⟨0,rfl,by omega,Below.refl _ _⟩
 case round=>
  obtain⟨i,rfl,hi,g⟩:=hrel;by_cases j:i<xs.length
  ·obtain⟨b,q,x,cs,rfl,hb,H,-,⟨rfl,-⟩,r⟩:=y.o.at_ j;obtain⟨b',l,x',K,rfl,s,d,-,⟨rfl,-⟩,p⟩:=z.o.at_ j;rw[H] at d;injection d with d;subst d
   have I:(i:Int)<xs.length:=(by omega);go_upto_region 6 with fail;have D:∀E:Up wr,E.to.cell? ⟨b,q+i,none⟩=some (.string x):=λE=>E.cell ((g.o.cell hb).trans (by simpa using r 0 _ rfl));have F:∀E:Up wr,E.to.cell? ⟨b',l+i,none⟩=some (.string x):=λE=>E.cell ((g.o.cell s).trans (by simpa using p 0 _ rfl));refine aD (by kernel_rfl) (by kernel_rfl) ?_;repeat (go_big_quiet_step (fail))
   refine wpQuiet_nil ?_;rintro _ ⟨E,rfl⟩;have G:=btZ g E.below;clear D F;go_wp2_with fail;go_roundw;case rel=>exact⟨i+1,by go_num,by omega,G⟩
   case measure=>simp[RowKit.intOf];omega
  ·obtain rfl:i=xs.length:=by omega
   have J:¬(xs.length:Int)<xs.length:=(by omega);go_wp2_with fail;go_ret;exact⟨rfl,g.o⟩
theorem agU (A u:Option Addr) (r q:Nat) (xs:List ad6) (w:World) (h1:aB w w.heap.size 3 yM (.slice A xs.length r) xs) (v:aB w w.heap.size 3 yM (.slice u xs.length q) xs) : Calls prog 84 #[.slice A xs.length r,.slice u xs.length q] w (aK (.bool true) w):=by
 have y:=hI h1;have z:=hI v;have O:=aM h1;clear h1 v;go_enter func84,ntmps84;go_wp2_with fail;go_loopw [13] (λk wr=>∃i:Nat,k=.int .i64 i/\i<=xs.length/\Hid (Below w.heap.size w wr)) (λk _=>xs.length - (RowKit.intOf k).toNat);case atStart=>exact⟨0,rfl,by omega,Below.refl _ _⟩
 case round=>
  obtain⟨i,rfl,hi,d⟩:=hrel;by_cases s:i<xs.length
  ·obtain⟨b,j,x,cs,rfl,hb,K,-,⟨rfl,-⟩,l⟩:=y.o.at_ s;obtain⟨b',f,x',N,rfl,p,h,-,⟨rfl,-⟩,g⟩:=z.o.at_ s;rw[K] at h;injection h with h;subst h
   have L:(i:Int)<xs.length:=(by omega);go_upto_region 6 with fail;have D:∀E:Up wr,E.to.cell? ⟨b,j+i*3,none⟩=some (.int .i64 x.cell):=λE=>E.cell ((d.o.cell hb).trans (l 0 _ rfl));have F:∀E:Up wr,E.to.cell? ⟨b,j+i*3+1,none⟩=some (.int .i64 x.fn.kind):=λE=>E.cell ((d.o.cell hb).trans (l 1 _ rfl));have G:∀E:Up wr,E.to.cell? ⟨b,j+i*3+2,none⟩=some (.int .i64 x.fn.n):=λE=>E.cell ((d.o.cell hb).trans (l 2 _ rfl));have H:∀E:Up wr,E.to.cell? ⟨b',f+i*3,none⟩=some (.int .i64 x.cell):=λE=>E.cell ((d.o.cell p).trans (g 0 _ rfl));have b1:∀E:Up wr,E.to.cell? ⟨b',f+i*3+1,none⟩=some (.int .i64 x.fn.kind):=λE=>E.cell ((d.o.cell p).trans (g 1 _ rfl));have I:∀E:Up wr,E.to.cell? ⟨b',f+i*3+2,none⟩=some (.int .i64 x.fn.n):=λE=>E.cell ((d.o.cell p).trans (g 2 _ rfl));refine aD (by kernel_rfl) (by kernel_rfl) ?_;repeat (go_big_quiet_step (fail))
   refine wpQuiet_nil ?_;rintro _ ⟨E,rfl⟩;have J:=btZ d E.below;clear D H F b1 G I;go_wp2_with fail;go_roundw;case rel=>exact⟨i+1,by go_num,by omega,J⟩
   case measure=>simp[RowKit.intOf];omega
  ·obtain rfl:i=xs.length:=by omega
   have M:¬(xs.length:Int)<xs.length:=(by omega);go_wp2_with fail;go_ret;exact⟨rfl,d.o⟩
theorem agR (A u:Option Addr) (r j:Nat) (xs:List iV) (w:World) (h1:aB w w.heap.size 2 kH (.slice A xs.length r) xs) (v:aB w w.heap.size 2 kH (.slice u xs.length j) xs) : Calls prog 155 #[.slice A xs.length r,.slice u xs.length j] w (aK (.bool true) w):=by
 have y:=hI h1;have z:=hI v;have M:=aM h1;clear h1 v;go_enter func155,ntmps155;go_wp2_with fail;go_loopw [13] (λk wr=>∃i:Nat,k=.int .i64 i/\i<=xs.length/\Hid (Below w.heap.size w wr)) (λk _=>xs.length - (RowKit.intOf k).toNat);case atStart=>exact⟨0,rfl,by omega,Below.refl _ _⟩
 case round=>
  obtain⟨i,rfl,hi,f⟩:=hrel;by_cases s:i<xs.length
  ·obtain⟨b,l,x,cs,rfl,hb,I,-,⟨rfl,-⟩,p⟩:=y.o.at_ s;obtain⟨b',g,x',L,rfl,q,d,-,⟨rfl,-⟩,h⟩:=z.o.at_ s;rw[I] at d;injection d with d;subst d
   have J:(i:Int)<xs.length:=(by omega);go_upto_region 6 with fail;have D:∀E:Up wr,E.to.cell? ⟨b,l+i*2,none⟩=some (.int .i64 x.reg):=λE=>E.cell ((f.o.cell hb).trans (p 0 _ rfl));have F:∀E:Up wr,E.to.cell? ⟨b,l+i*2+1,none⟩=some (.int .i64 x.at_):=λE=>E.cell ((f.o.cell hb).trans (p 1 _ rfl));have G:∀E:Up wr,E.to.cell? ⟨b',g+i*2,none⟩=some (.int .i64 x.reg):=λE=>E.cell ((f.o.cell q).trans (h 0 _ rfl));have b1:∀E:Up wr,E.to.cell? ⟨b',g+i*2+1,none⟩=some (.int .i64 x.at_):=λE=>E.cell ((f.o.cell q).trans (h 1 _ rfl));refine aD (by kernel_rfl) (by kernel_rfl) ?_;repeat (go_big_quiet_step (fail))
   refine wpQuiet_nil ?_;rintro _ ⟨E,rfl⟩;have H:=btZ f E.below;clear D G F b1;go_wp2_with fail;go_roundw;case rel=>exact⟨i+1,by go_num,by omega,H⟩
   case measure=>simp[RowKit.intOf];omega
  ·obtain rfl:i=xs.length:=by omega
   have K:¬(xs.length:Int)<xs.length:=(by omega);go_wp2_with fail;go_ret;exact⟨rfl,f.o⟩
set_option maxHeartbeats 4000000
set_option maxRecDepth 100000
theorem dD.cs {w:World} {B:Nat} {cs:List Value} {x:bC} (h:dD w B cs x):(prog.info? 145).map (·.size)=some cs.length/\8=cs.length/\cs.all (·.oneCell')=true:=by obtain⟨_,_,rfl,h1,d,-⟩:=h;obtain⟨_,_,rfl,-⟩:=h1;obtain⟨_,_,rfl,-⟩:=d;exact⟨by kernel_rfl,rfl,rfl⟩
theorem afU {cs l:List Value} {x:bC} {w0 w:World} (h1:dD w0 w0.heap.size cs x) (q:dD w0 w0.heap.size l x) (j:Below w0.heap.size w0 w):Calls prog 154 #[.agg ⟨cs⟩,.agg ⟨l⟩] w (aK (.bool true) w):=by replace h1:=h1.keep j.size (λ_ d=>j.cell d);replace q:=q.keep j.size (λ_ d=>j.cell d);obtain⟨r,t,rfl,p,ht,-⟩:=h1;obtain⟨v,y,rfl,f,g,-⟩:=q;obtain⟨_,_,rfl,-⟩:=id p;obtain⟨_,_,rfl,-⟩:=id ht;obtain⟨_,_,rfl,-⟩:=id f;obtain⟨_,_,rfl,-⟩:=id g;have s:=hI (λW (k:Below w.heap.size w W)=>tR _ _ _ _ _ W (p.keep k.size (λ_ d=>k.cell d) (λ_ _ h=>h)) (f.keep k.size (λ_ d=>k.cell d) (λ_ _ h=>h)));have u:=hI (λW (k:Below w.heap.size w W)=>agR _ _ _ _ _ W (ht.keep k.size (λ_ d=>k.cell d) (λ_ _ h=>h)) (g.keep k.size (λ_ d=>k.cell d) (λ_ _ h=>h)));clear p ht f g;go_enter func154,ntmps154;go_upto_region 1 with fail;generalize h:World.alloc _ _=w1;have X:=Bx.of2 h;clear h j;go_wp2_with (first | (go_at_call 78;refine X.call (s.o _ X.k) λ_ X=>?_) | (go_at_call 155;refine X.call (u.o _ X.k) λ_ X=>?_) | (refine Bx.lm [.int .i64 x.self.kind,.int .i64 x.self.n] X ?_) | (refine X.l1 ?_) | (refine X.l1g ?_) | fail);go_ret;exact⟨rfl,X.k⟩
theorem sents_f:∀args W,(callFunc 154 args).run prog W=.ok (.enter 154 args) W:=enters_of func154 (by kernel_rfl) rfl
theorem sents_1:∀args W,(callFunc 77 args).run prog W=.ok (.enter 77 args) W:=enters_of func77 (by kernel_rfl) rfl
theorem sents_2:∀args W,(callFunc 83 args).run prog W=.ok (.enter 83 args) W:=enters_of func83 (by kernel_rfl) rfl
theorem yH {A O:Option Addr} {s q:Nat} {xs:List bC} {h:FuncId} (P:∀args W,(callFunc h args).run prog W=.ok (.enter h args) W) {w:World} (h1:aB w w.heap.size 8 (dD w w.heap.size) (.slice A xs.length s) xs) (R:aB w w.heap.size 8 (dD w w.heap.size) (.slice O xs.length q) xs) (S:∀(w1:World),Below w.heap.size w w1->∀(x:bC) (cs f:List Value),dD w w.heap.size cs x->dD w w.heap.size f x->Calls prog h #[.agg ⟨cs⟩,.agg ⟨f⟩] w1 (aK (.bool true) w1)) : Calls prog 153 #[.slice A xs.length s,.slice O xs.length q,.func (.func h) #[] #[]] w (aK (.bool true) w):=by
 have V:=hI h1;have Y:=hI R;have Z:=hI S;have ll:=aM h1;clear h1 R S;go_enter func153,ntmps153;go_wp2_with fail;go_loopw [17] (λk wr=>∃i:Nat,k=.int .i64 i/\i<=xs.length/\Hid (Below w.heap.size w wr)) (λk _=>xs.length - (RowKit.intOf k).toNat);case atStart=>exact⟨0,rfl,by omega,Below.refl _ _⟩
 case round=>
  obtain⟨i,rfl,hi,d⟩:=hrel;by_cases u:i<xs.length
  ·have a7:(i:Int)<xs.length:=(by omega);obtain⟨b,G,x,cs,rfl,hb,H,-,D,r⟩:=V.o.at_ u;obtain⟨b',E,x',f,rfl,I,g,-,l,p⟩:=Y.o.at_ u;rw[H] at g;injection g with g;subst g
   obtain⟨J,l1,K⟩:=D.cs;obtain⟨L,M,N⟩:=l.cs;have HC:=hI (λW k=>Z.o W k x cs f D l);have RA:Hid (∀W,Below w.heap.size w W->W.rangeAt b (G+i*8) cs):=λW k j v F=>(k.cell hb).trans (r j v F);have RB:Hid (∀W,Below w.heap.size w W->W.rangeAt b' (E+i*8) f):=λW k j v F=>(k.cell I).trans (p j v F);have X:Bx wr wr []:=Bx.nil wr;have y:=hI J;have z:=hI L;have O1:=hI K;have O2:=hI N;have L1:=hI l1;have L2:=hI M;clear r p H D l J L K N l1 M;have EN:=P;go_wp2_with (first | (refine X.ld (hi:=y.o) ?_) | (refine X.ld (hi:=z.o) ?_) | (refine Bx.ldr (RA.o _ (d.o.trans (X.k.mono d.o.size))) ?_ y.o) | (refine Bx.ldr (RB.o _ (d.o.trans (X.k.mono d.o.size))) ?_ z.o) | (refine X.sta (hi:=y.o) (hl:=L1.o) (h1:=O1.o) λ_ X _=>?_) | (refine X.sta (hi:=z.o) (hl:=L2.o) (h1:=O2.o) λ_ X _=>?_) | (refine X.call (HC.o _ (d.o.trans (X.k.mono d.o.size))) λ_ X=>?_) | fail);go_roundw;case rel=>exact⟨i+1,by go_num,by omega,d.o.trans (X.k.mono d.o.size)⟩
   case measure=>simp[RowKit.intOf];omega
  ·obtain rfl:i=xs.length:=by omega
   have a9:¬(xs.length:Int)<xs.length:=(by omega);go_wp2_with fail;go_ret;exact⟨rfl,d.o⟩
theorem yS {A g:Option Addr} {f d:Nat} {xs:List bC} {w:World} (h1:aB w w.heap.size 8 (dD w w.heap.size) (.slice A xs.length f) xs) (h:aB w w.heap.size 8 (dD w w.heap.size) (.slice g xs.length d) xs) : Calls prog 79 #[.slice A xs.length f,.slice g xs.length d] w (aK (.bool true) w):=by have j:=hI (yH sents_f h1 h (λw1 k x cs l a b=>afU a b k));clear h1 h;go_enter func79,ntmps79;have X:Bx w w []:=Bx.nil w;go_wp2_with (first | (refine X.call j.o λ_ X=>?_) | fail);go_ret;exact⟨rfl,X.k⟩
theorem hM.cs {w:World} {B:Nat} {cs:List Value} {x:bJ} (h:hM w B cs x):(prog.info? 166).map (·.size)=some cs.length/\4=cs.length/\cs.all (·.oneCell')=true:=by obtain⟨_,_,rfl,h1,d,-⟩:=h;obtain⟨_,_,rfl,-⟩:=h1;obtain⟨_,_,rfl,-⟩:=d;exact⟨by kernel_rfl,rfl,rfl⟩
theorem eM.cs {w:World} {B:Nat} {cs:List Value} {x:cD} (h:eM w B cs x):(prog.info? 140).map (·.size)=some cs.length/\5=cs.length/\cs.all (·.oneCell')=true:=by obtain⟨_,rfl,h1,-⟩:=h;obtain⟨_,_,rfl,-⟩:=h1;exact⟨by kernel_rfl,rfl,rfl⟩
theorem wZ {A O:Option Addr} {s q:Nat} {xs:List bJ} {h:FuncId} (P:∀args W,(callFunc h args).run prog W=.ok (.enter h args) W) {w:World} (h1:aB w w.heap.size 4 (hM w w.heap.size) (.slice A xs.length s) xs) (R:aB w w.heap.size 4 (hM w w.heap.size) (.slice O xs.length q) xs) (S:∀(w1:World),Below w.heap.size w w1->∀(x:bJ) (cs f:List Value),hM w w.heap.size cs x->hM w w.heap.size f x->Calls prog h #[.agg ⟨cs⟩,.agg ⟨f⟩] w1 (aK (.bool true) w1)) : Calls prog 76 #[.slice A xs.length s,.slice O xs.length q,.func (.func h) #[] #[]] w (aK (.bool true) w):=by
 have V:=hI h1;have Y:=hI R;have Z:=hI S;have ll:=aM h1;clear h1 R S;go_enter func76,ntmps76;go_wp2_with fail;go_loopw [17] (λk wr=>∃i:Nat,k=.int .i64 i/\i<=xs.length/\Hid (Below w.heap.size w wr)) (λk _=>xs.length - (RowKit.intOf k).toNat);case atStart=>exact⟨0,rfl,by omega,Below.refl _ _⟩
 case round=>
  obtain⟨i,rfl,hi,d⟩:=hrel;by_cases u:i<xs.length
  ·have a7:(i:Int)<xs.length:=(by omega);obtain⟨b,G,x,cs,rfl,hb,H,-,D,r⟩:=V.o.at_ u;obtain⟨b',E,x',f,rfl,I,g,-,l,p⟩:=Y.o.at_ u;rw[H] at g;injection g with g;subst g
   obtain⟨J,l1,K⟩:=D.cs;obtain⟨L,M,N⟩:=l.cs;have HC:=hI (λW k=>Z.o W k x cs f D l);have RA:Hid (∀W,Below w.heap.size w W->W.rangeAt b (G+i*4) cs):=λW k j v F=>(k.cell hb).trans (r j v F);have RB:Hid (∀W,Below w.heap.size w W->W.rangeAt b' (E+i*4) f):=λW k j v F=>(k.cell I).trans (p j v F);have X:Bx wr wr []:=Bx.nil wr;have y:=hI J;have z:=hI L;have O1:=hI K;have O2:=hI N;have L1:=hI l1;have L2:=hI M;clear r p H D l J L K N l1 M;have EN:=P;go_wp2_with (first | (refine X.ld (hi:=y.o) ?_) | (refine X.ld (hi:=z.o) ?_) | (refine Bx.ldr (RA.o _ (d.o.trans (X.k.mono d.o.size))) ?_ y.o) | (refine Bx.ldr (RB.o _ (d.o.trans (X.k.mono d.o.size))) ?_ z.o) | (refine X.sta (hi:=y.o) (hl:=L1.o) (h1:=O1.o) λ_ X _=>?_) | (refine X.sta (hi:=z.o) (hl:=L2.o) (h1:=O2.o) λ_ X _=>?_) | (refine X.call (HC.o _ (d.o.trans (X.k.mono d.o.size))) λ_ X=>?_) | fail);go_roundw;case rel=>exact⟨i+1,by go_num,by omega,d.o.trans (X.k.mono d.o.size)⟩
   case measure=>simp[RowKit.intOf];omega
  ·obtain rfl:i=xs.length:=by omega
   have a9:¬(xs.length:Int)<xs.length:=(by omega);go_wp2_with fail;go_ret;exact⟨rfl,d.o⟩
theorem yG {A O:Option Addr} {s q:Nat} {xs:List cD} {h:FuncId} (P:∀args W,(callFunc h args).run prog W=.ok (.enter h args) W) {w:World} (h1:aB w w.heap.size 5 (eM w w.heap.size) (.slice A xs.length s) xs) (R:aB w w.heap.size 5 (eM w w.heap.size) (.slice O xs.length q) xs) (S:∀(w1:World),Below w.heap.size w w1->∀(x:cD) (cs f:List Value),eM w w.heap.size cs x->eM w w.heap.size f x->Calls prog h #[.agg ⟨cs⟩,.agg ⟨f⟩] w1 (aK (.bool true) w1)) : Calls prog 82 #[.slice A xs.length s,.slice O xs.length q,.func (.func h) #[] #[]] w (aK (.bool true) w):=by
 have V:=hI h1;have Y:=hI R;have Z:=hI S;have ll:=aM h1;clear h1 R S;go_enter func82,ntmps82;go_wp2_with fail;go_loopw [17] (λk wr=>∃i:Nat,k=.int .i64 i/\i<=xs.length/\Hid (Below w.heap.size w wr)) (λk _=>xs.length - (RowKit.intOf k).toNat);case atStart=>exact⟨0,rfl,by omega,Below.refl _ _⟩
 case round=>
  obtain⟨i,rfl,hi,d⟩:=hrel;by_cases u:i<xs.length
  ·have a7:(i:Int)<xs.length:=(by omega);obtain⟨b,G,x,cs,rfl,hb,H,-,D,r⟩:=V.o.at_ u;obtain⟨b',E,x',f,rfl,I,g,-,l,p⟩:=Y.o.at_ u;rw[H] at g;injection g with g;subst g
   obtain⟨J,l1,K⟩:=D.cs;obtain⟨L,M,N⟩:=l.cs;have HC:=hI (λW k=>Z.o W k x cs f D l);have RA:Hid (∀W,Below w.heap.size w W->W.rangeAt b (G+i*5) cs):=λW k j v F=>(k.cell hb).trans (r j v F);have RB:Hid (∀W,Below w.heap.size w W->W.rangeAt b' (E+i*5) f):=λW k j v F=>(k.cell I).trans (p j v F);have X:Bx wr wr []:=Bx.nil wr;have y:=hI J;have z:=hI L;have O1:=hI K;have O2:=hI N;have L1:=hI l1;have L2:=hI M;clear r p H D l J L K N l1 M;have EN:=P;go_wp2_with (first | (refine X.ld (hi:=y.o) ?_) | (refine X.ld (hi:=z.o) ?_) | (refine Bx.ldr (RA.o _ (d.o.trans (X.k.mono d.o.size))) ?_ y.o) | (refine Bx.ldr (RB.o _ (d.o.trans (X.k.mono d.o.size))) ?_ z.o) | (refine X.sta (hi:=y.o) (hl:=L1.o) (h1:=O1.o) λ_ X _=>?_) | (refine X.sta (hi:=z.o) (hl:=L2.o) (h1:=O2.o) λ_ X _=>?_) | (refine X.call (HC.o _ (d.o.trans (X.k.mono d.o.size))) λ_ X=>?_) | fail);go_roundw;case rel=>exact⟨i+1,by go_num,by omega,d.o.trans (X.k.mono d.o.size)⟩
   case measure=>simp[RowKit.intOf];omega
  ·obtain rfl:i=xs.length:=by omega
   have a9:¬(xs.length:Int)<xs.length:=(by omega);go_wp2_with fail;go_ret;exact⟨rfl,d.o⟩
theorem same1_c {cs p:List Value} {x:bJ} {w0 w:World} (h1:hM w0 w0.heap.size cs x) (r:hM w0 w0.heap.size p x) (l:Below w0.heap.size w0 w):Calls prog 77 #[.agg ⟨cs⟩,.agg ⟨p⟩] w (aK (.bool true) w):=by replace h1:=h1.keep l.size (λ_ d=>l.cell d);replace r:=r.keep l.size (λ_ d=>l.cell d);obtain⟨v,f,rfl,q,hf,-⟩:=h1;obtain⟨y,z,rfl,g,j,-⟩:=r;obtain⟨_,_,rfl,-⟩:=id q;obtain⟨_,_,rfl,-⟩:=id hf;obtain⟨_,_,rfl,-⟩:=id g;obtain⟨_,_,rfl,-⟩:=id j;have s:=hI (λW (k:Below w.heap.size w W)=>tR _ _ _ _ _ W (q.keep k.size (λ_ d=>k.cell d) (λ_ _ h=>h)) (g.keep k.size (λ_ d=>k.cell d) (λ_ _ h=>h)));have u:=hI (λW (k:Below w.heap.size w W)=>yS (hf.keep k.size (λ_ d=>k.cell d) (λ_ _ h=>h.keep k.size (λ_ d=>k.cell d))) (j.keep k.size (λ_ d=>k.cell d) (λ_ _ h=>h.keep k.size (λ_ d=>k.cell d))));clear q hf g j;go_enter func77,ntmps77;go_upto_region 1 with fail;generalize h:World.alloc _ _=w1;have X:=Bx.of2 h;clear h l;go_wp2_with (first | (go_at_call 78;refine X.call (s.o _ X.k) λ_ X=>?_) | (go_at_call 79;refine X.call (u.o _ X.k) λ_ X=>?_) | (refine X.l1 ?_) | (refine X.l1g ?_) | fail);go_ret;exact⟨rfl,X.k⟩
theorem same2_c {cs l:List Value} {x:cD} {w0 w:World} (h1:eM w0 w0.heap.size cs x) (p:eM w0 w0.heap.size l x) (j:Below w0.heap.size w0 w):Calls prog 83 #[.agg ⟨cs⟩,.agg ⟨l⟩] w (aK (.bool true) w):=by replace h1:=h1.keep j.size (λ_ d=>j.cell d);replace p:=p.keep j.size (λ_ d=>j.cell d);obtain⟨f,rfl,hf,-⟩:=h1;obtain⟨r,rfl,g,-⟩:=p;obtain⟨_,_,rfl,-⟩:=id hf;obtain⟨_,_,rfl,-⟩:=id g;have q:=hI (λW (k:Below w.heap.size w W)=>yS (hf.keep k.size (λ_ d=>k.cell d) (λ_ _ h=>h.keep k.size (λ_ d=>k.cell d))) (g.keep k.size (λ_ d=>k.cell d) (λ_ _ h=>h.keep k.size (λ_ d=>k.cell d))));clear hf g;go_enter func83,ntmps83;go_upto_region 1 with fail;generalize h:World.alloc _ _=w1;have X:=Bx.of2 h;clear h j;go_wp2_with (first | (go_at_call 79;refine X.call (q.o _ X.k) λ_ X=>?_) | (refine Bx.lm [.int .i64 x.val.kind,.int .i64 x.val.n] X ?_) | (refine X.l1 ?_) | (refine X.l1g ?_) | fail);go_ret;exact⟨rfl,X.k⟩
theorem same_c {cs q:List Value} {S:aP} {w:World} (h1:eB w w.heap.size cs S) (J:eB w w.heap.size q S):Calls prog 38 #[.agg ⟨cs⟩,.agg ⟨q⟩] w (aK (.bool true) w):=by obtain⟨_,_,_,_,_,_,rfl,z,r,s,hth,u,v,-⟩:=h1;obtain⟨_,_,_,_,_,_,rfl,y,f,g,j,l,p,-⟩:=J;obtain⟨_,_,rfl,-⟩:=id z;obtain⟨_,_,rfl,-⟩:=id y;obtain⟨_,_,rfl,-⟩:=id r;obtain⟨_,_,rfl,-⟩:=id f;obtain⟨_,_,rfl,-⟩:=id s;obtain⟨_,_,rfl,-⟩:=id g;obtain⟨_,_,rfl,-⟩:=id hth;obtain⟨_,_,rfl,-⟩:=id j;obtain⟨_,_,rfl,-⟩:=id u;obtain⟨_,_,rfl,-⟩:=id l;obtain⟨_,_,rfl,-⟩:=id v;obtain⟨_,_,rfl,-⟩:=id p;have D:=hI (λW (k:Below w.heap.size w W)=>wZ sents_1 (z.keep k.size (λ_ d=>k.cell d) (λ_ _ h=>h.keep k.size (λ_ d=>k.cell d))) (y.keep k.size (λ_ d=>k.cell d) (λ_ _ h=>h.keep k.size (λ_ d=>k.cell d))) (λw1 A x cs q a b=>same1_c a b A));have E:=hI (λW (k:Below w.heap.size w W)=>agT _ _ _ _ _ W (r.keep k.size (λ_ d=>k.cell d) (λ_ _ h=>h)) (f.keep k.size (λ_ d=>k.cell d) (λ_ _ h=>h)));have F:=hI (λW (k:Below w.heap.size w W)=>agS _ _ _ _ _ W (s.keep k.size (λ_ d=>k.cell d) (λ_ _ h=>h)) (g.keep k.size (λ_ d=>k.cell d) (λ_ _ h=>h)));have G:=hI (λW (k:Below w.heap.size w W)=>yG sents_2 (hth.keep k.size (λ_ d=>k.cell d) (λ_ _ h=>h.keep k.size (λ_ d=>k.cell d))) (j.keep k.size (λ_ d=>k.cell d) (λ_ _ h=>h.keep k.size (λ_ d=>k.cell d))) (λw1 A x cs q a b=>same2_c a b A));have H:=hI (λW (k:Below w.heap.size w W)=>agU _ _ _ _ _ W (u.keep k.size (λ_ d=>k.cell d) (λ_ _ h=>h)) (l.keep k.size (λ_ d=>k.cell d) (λ_ _ h=>h)));have I:=hI (λW (k:Below w.heap.size w W)=>tR _ _ _ _ _ W (v.keep k.size (λ_ d=>k.cell d) (λ_ _ h=>h)) (p.keep k.size (λ_ d=>k.cell d) (λ_ _ h=>h)));clear z r s hth u v y f g j l p;go_enter func38,ntmps38;go_upto_region 1 with fail;generalize h:World.alloc _ _=w1;have X:=Bx.of2 h;clear h;go_wp2_with (first | (go_at_call 76;refine X.call (D.o _ X.k) λ_ X=>?_) | (go_at_call 80;refine X.call (E.o _ X.k) λ_ X=>?_) | (go_at_call 81;refine X.call (F.o _ X.k) λ_ X=>?_) | (go_at_call 82;refine X.call (G.o _ X.k) λ_ X=>?_) | (go_at_call 84;refine X.call (H.o _ X.k) λ_ X=>?_) | (go_at_call 78;refine X.call (I.o _ X.k) λ_ X=>?_) | (refine X.l1 ?_) | (refine X.l1g ?_) | fail);go_ret;exact⟨rfl,X.k⟩
end
section
open Go.RowKit
def oO (n m:Int):Int:=if n.tmod m<0 then n.tmod m+m else n.tmod m
theorem uL (n:Int) {m:Int} (d:0<m) : -m<n.tmod m:=by
 by_cases h:0<=n;·have:=Int.tmod_nonneg m h;omega
 ·have h1:n = -(-n):=by omega
  have f:=Int.tmod_lt_of_pos (-n) d;rw[h1,Int.neg_tmod];omega
theorem rest_c (n m:Int) (w:World) (g:0<m) (p:m<=1000000) : Calls prog 34 #[.int .i64 n,.int .i64 m] w (aK (.int .i64 (oO n m)) w):=by
 have h1:=Int.tmod_lt_of_pos n g;have q : -m<n.tmod m:=uL n g;have d:n.tmod m<0->oO n m=n.tmod m+m:=λh=>by simp[oO,h]
 have f:0<=n.tmod m->oO n m=n.tmod m:=λh=>by simp[oO,Int.not_lt.2 h]
 have j:=hI d;have l:=hI f;clear d f;go_enter func34,ntmps34;go_wp2;all_goals go_ret
 all_goals refine⟨?_,Below.refl _ _⟩
 ·rw[j.o ‹_›];rfl
 ·rw[l.o ‹_›];rfl
end
section
open Go.RowKit
set_option maxHeartbeats 8000000
set_option maxRecDepth 100000
theorem eB.size8 {w:World} {B:Nat} {cs:List Value} {S:aP} (h:eB w B cs S):(prog.info? 40).map (·.size)=some cs.length:=by obtain⟨_,_,_,_,_,_,rfl,-⟩:=h;kernel_rfl
theorem eB.len {w:World} {B:Nat} {cs:List Value} {S:aP} (h:eB w B cs S):8=cs.length:=by obtain⟨_,_,_,_,_,_,rfl,-⟩:=h;rfl
theorem eB.one {w:World} {B:Nat} {cs:List Value} {S:aP} (h:eB w B cs S):cs.all (·.oneCell')=true:=by obtain⟨_,_,_,_,_,_,rfl,d,f,g,ht,j,l,-⟩:=h;obtain⟨_,_,rfl,-⟩:=d;obtain⟨_,_,rfl,-⟩:=f;obtain⟨_,_,rfl,-⟩:=g;obtain⟨_,_,rfl,-⟩:=ht;obtain⟨_,_,rfl,-⟩:=j;obtain⟨_,_,rfl,-⟩:=l;rfl
theorem rest6 (n:Int):0<=oO n 6/\oO n 6<6:=by have h1:=Int.tmod_lt_of_pos n (show(0:Int)<6 by decide);have d:=uL n (show(0:Int)<6 by decide);unfold oO;split <;> omega
theorem same_l {f tcs y g:List Value} {p:aZ} {t u:aH} {S:aP} {th s:Int} {w:World} (K:fL w w.heap.size f p) (ht:bI w w.heap.size tcs t) (L:bI w w.heap.size y u) (M:eB w w.heap.size g S) (E:wfi th) (a9:wfi s) (F:Tab w) (H:∀x a n,mC cU (x9 p t) (rZ p S) t S th (oO s 6)=(x,a,n,0)->∃b,mC cU (x9 p u) (rZ p S) u S th (oO s 6)=(x,b,n,0)/\decide (b<0)=decide (a<0)) : Calls prog 14 #[.agg ⟨f⟩,.agg ⟨tcs⟩,.agg ⟨y⟩,.agg ⟨g⟩,.int .i64 th,.int .i64 s,.bool false] w (aK (.bool true) w):=by
 have HT:=hI ht;have HU:=hI L;have N:=hI K;have O:=hI M;have P:=hI F;have R:=hI E;have V:=hI K.size3;have It:=hI ht.size13;have Iu:=hI L.size13;have Y:=hI M.size8;have G:wfi (oO s 6):=by have:=rest6 s;unfold wfi;omega
 have Z:=λW=>rest_c s 6 W (by decide) (by decide);generalize oO s 6=q at H G Z;have WQ:=hI G;obtain⟨⟨x,a,n,e⟩,I⟩:∃r,mC cU (x9 p t) (rZ p S) t S th q=r:=⟨_,rfl⟩;have R1:Hid (∀W,Below w.heap.size w W->Calls prog 35 #[.agg ⟨f⟩,.agg ⟨tcs⟩,.agg ⟨g⟩,.int .i64 th,.int .i64 q] W (sQ (x,a,n,e) W)):=λW k=>by rw[<-I];exact ai6 f tcs g p t S th q W (N.o.below k) (HT.o.below k) (O.o.below k) R.o WQ.o (P.o.below k)
 have H2:Hid (e=0->∃b,(∀W,Below w.heap.size w W->Calls prog 35 #[.agg ⟨f⟩,.agg ⟨y⟩,.agg ⟨g⟩,.int .i64 th,.int .i64 q] W (sQ (x,b,n,0) W))/\decide (b<0)=decide (a<0)):=λD=>by obtain⟨b,h1,h2⟩:=H x a n (D ▸ I);exact⟨b,λW k=>by rw[<-h1];exact ai6 f y g p u S th q W (N.o.below k) (HU.o.below k) (O.o.below k) R.o WQ.o (P.o.below k),h2⟩
 clear K ht L M E a9 F H G I;go_enter func14,ntmps14;go_upto_region 1 with fail;generalize h:World.alloc _ _=w1;have X:=Bx.of4 h;clear h;go_upto_region 2 with (first | (go_at_call 34;refine X.call (Z _) λ_ X=>?_) | fail);go_wp2_with (first | (refine X.ld (hi:=V.o) ?_) | (refine X.ld (hi:=It.o) ?_) | (refine X.ld (hi:=Y.o) ?_) | fail);refine(R1.o _ X.k).mono ?_;intro e1 w2 d;obtain⟨cs,rfl,A,j⟩:=d.here;have v:=hI A;have X:=X.on j;have l8:=A.len;have o8:=A.one;have I8:=hI A.size8;clear d A j;have L8:=hI l8;have O8:=hI o8;clear l8 o8;go_upto_region 3 with (first | (refine X.sta (hi:=I8.o) (hl:=L8.o) (h1:=O8.o) λ_ X j=>?_) | fail);(try dsimp only [Act.put]);replace v:=hI (v.o.below j);clear j;by_cases D:e=0;case neg=>have hb:(e != 0)=true:=bne_iff_ne.2 D;go_wp2_with fail;go_ret;exact⟨rfl,X.k⟩
 obtain⟨b,r2,a7⟩:=H2.o D;have R2:=hI r2;subst D;clear H2 R1 r2;go_wp2_with (first | (refine X.ld (hi:=V.o) ?_) | (refine X.ld (hi:=Iu.o) ?_) | (refine X.ld (hi:=Y.o) ?_) | fail);refine(R2.o _ X.k).mono ?_;intro e1 w4 d;obtain⟨c7,rfl,l,J⟩:=d.here;have z:=hI l;have X:=X.on J;replace v:=hI (v.o.below J);have L9:=hI l.len;have O9:=hI l.one;have I9:=hI l.size8;clear d l J;go_upto_region 6 with (first | (refine X.sta (hi:=I9.o) (hl:=L9.o) (h1:=O9.o) λ_ X j=>?_) | fail);(try dsimp only [Act.put]);replace v:=hI (v.o.below j);replace z:=hI (z.o.below j);clear j;have hn:(n != n)=false:=by simp
 have c3:(decide (a<0) != decide (b<0))=false:=by rw[a7];simp
 go_wp2_with (first | (refine X.ld (hi:=I8.o) ?_) | (refine X.ld (hi:=I9.o) ?_) | (go_at_call 38;refine X.call (same_c v.o z.o) λ_ X=>?_) | fail);go_ret;exact⟨rfl,X.k⟩
end
end Go.Proofs.YtijihlcdhppfgaaGreatDoor
