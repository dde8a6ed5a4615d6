/- A part of the walk. -/
import Derived.Test.YtjaphgpkkfdaaaaGreatDoorZU
set_option maxHeartbeats 16000000
set_option maxRecDepth 100000
set_option linter.all false
namespace Go.Proofs.YtjaphgpkkfdaaaaGreatDoor
open Tryz
section
open Go.RowKit Go.IntWalk
theorem qL (v:Val) (w:World):Calls prog 169 #[.agg #[.int .i64 v.kind,.int .i64 v.n]] w (aM (.agg #[.int .i64 (dD v).kind,.int .i64 (dD v).n]) w):=by
 obtain⟨k,n⟩:=v;unfold dD;have q:=hI (qO ⟨k,n⟩);cases h:aG ⟨k,n⟩
 ·simp only[↓reduceIte,Bool.false_eq_true];rw[h] at q;clear h;obtain⟨f,d⟩:∃f,f=(w.alloc (.cells #[.int .i64 k,.int .i64 n] 48)).alloc (.cells #[.int .i64 0,.int .i64 0] 48):=⟨_,rfl⟩;have s:Hid (Below w.heap.size w f):=by rw[d];exact bE _ _ _
  have B0:Hid (f.heap[w.heap.size]? = some (.cells #[.int .i64 k,.int .i64 n] 48 (0,0))):=by rw[d];exact aY (aJ _ _) _
  have l:Hid (f.heap[w.heap.size+1]? = some (.cells #[.int .i64 0,.int .i64 0] 48 (0,0))):=by rw[d];exact cQ _ _ _
  have C:w.heap.size+1<f.heap.size:=(aE l.o).1;have u:=rrZ B0;have D:=rrZ l;have x:=hI d;clear d;go_enter func169,ntmps169;go_upto_region 1 with fail;rw[<-x.o];go_wp2_with (first | (refine wpList_load_mid rfl 48 _ rfl (w.heap.size) 0 rfl [.int .i64 k,.int .i64 n] _ u.o underlying48 rfl aF ?_) | fail);refine(q.o _).mono ?_;rintro e E ⟨rfl,j⟩;have y:=btZ s j;have m:=rkZ B0 j;have r:=rrZ m;have g:=rkZ l j;have A:=rrZ g;clear j;go_wp2_with (first | (refine wpList_store_row rfl 48 _ _ rfl (w.heap.size+1) #[.int .i64 0,.int .i64 0] rfl rfl 48 _ g.o aF rfl (oC (by simp[Value.oneCell'])) ?_));generalize i:World.setRow _ _ _=w9;have p:=shZ i g;have z:Hid (Below w.heap.size w w9):=by rw[<-i];exact Below.set_row y.o (by omega) _
  clear i;go_wp2_with fail;have q0:=crZ p 0 rfl;have q1:=crZ p 1 rfl;refine bodyPost_ret (v:=(.agg #[.int .i64 0,.int .i64 0])) (by simp[results,results169,go_sem,q0,q1]) rfl ⟨rfl,z.o⟩
 ·simp only[↓reduceIte,Bool.false_eq_true];rw[h] at q;clear h;obtain⟨f,d⟩:∃f,f=(w.alloc (.cells #[.int .i64 k,.int .i64 n] 48)).alloc (.cells #[.int .i64 0,.int .i64 0] 48):=⟨_,rfl⟩;have s:Hid (Below w.heap.size w f):=by rw[d];exact bE _ _ _
  have B0:Hid (f.heap[w.heap.size]? = some (.cells #[.int .i64 k,.int .i64 n] 48 (0,0))):=by rw[d];exact aY (aJ _ _) _
  have l:Hid (f.heap[w.heap.size+1]? = some (.cells #[.int .i64 0,.int .i64 0] 48 (0,0))):=by rw[d];exact cQ _ _ _
  have C:w.heap.size+1<f.heap.size:=(aE l.o).1;have u:=rrZ B0;have D:=rrZ l;have x:=hI d;clear d;go_enter func169,ntmps169;go_upto_region 1 with fail;rw[<-x.o];go_wp2_with (first | (refine wpList_load_mid rfl 48 _ rfl (w.heap.size) 0 rfl [.int .i64 k,.int .i64 n] _ u.o underlying48 rfl aF ?_) | fail);refine(q.o _).mono ?_;rintro e E ⟨rfl,j⟩;have y:=btZ s j;have m:=rkZ B0 j;have r:=rrZ m;have g:=rkZ l j;have A:=rrZ g;clear j;go_wp2_with (first | (refine wpList_load_mid rfl 48 _ rfl (w.heap.size) 0 rfl [.int .i64 k,.int .i64 n] _ r.o underlying48 rfl aF ?_) | (refine wpList_store_row rfl 48 _ _ rfl (w.heap.size+1) #[.int .i64 k,.int .i64 n] rfl rfl 48 _ g.o aF rfl (oC (by simp[Value.oneCell'])) ?_));generalize i:World.setRow _ _ _=w9;have p:=shZ i g;have z:Hid (Below w.heap.size w w9):=by rw[<-i];exact Below.set_row y.o (by omega) _
  clear i;go_wp2_with fail;have q0:=crZ p 0 rfl;have q1:=crZ p 1 rfl;refine bodyPost_ret (v:=(.agg #[.int .i64 k,.int .i64 n])) (by simp[results,results169,go_sem,q0,q1]) rfl ⟨rfl,z.o⟩
theorem tru_c (v:Val) (w:World):Calls prog 168 #[.agg #[.int .i64 v.kind,.int .i64 v.n]] w (aM (.bool (lF v)) w):=by
 obtain⟨r,M⟩:∃r,dD v=r:=⟨_,rfl⟩;have H:=qL v;unfold lF;rw[M] at H;rw[M];clear M;obtain⟨k,n⟩:=v;obtain⟨q,p⟩:=r;have A:=hI H;clear H;dsimp only;have I:Hid (∀W,Calls prog 171 #[.bool false] W (aM (.agg #[.int .i64 1,.int .i64 0]) W)):=λW=>fO false W;by_cases G:q=0
 ·skip;subst G;obtain⟨g,d⟩:∃g,g=w.alloc (.cells #[.int .i64 k,.int .i64 n] 48):=⟨_,rfl⟩;have s:Hid (Below w.heap.size w g):=by rw[d];exact aB _ _
  have B0:Hid (g.heap[w.heap.size]? = some (.cells #[.int .i64 k,.int .i64 n] 48 (0,0))):=by rw[d];exact aJ _ _
  have J:w.heap.size<g.heap.size:=(aE B0.o).1;have x:=rrZ B0;have y:=hI d;clear d;go_enter func168,ntmps168;go_upto_region 1 with fail;rw[<-y.o];go_wp2_with (first | (refine wpList_load_mid rfl 48 _ rfl (w.heap.size) 0 rfl [.int .i64 k,.int .i64 n] _ x.o underlying48 rfl aF ?_) | fail);refine(A.o _).mono ?_;rintro e N ⟨rfl,i⟩;have z:=btZ s i;have f:=rkZ B0 i;have C:=rrZ f;clear i;go_wp2_with (first | (refine wpList_store_row rfl 48 _ _ rfl (w.heap.size) #[.int .i64 0,.int .i64 p] rfl rfl 48 _ f.o aF rfl (oC (by simp[Value.oneCell'])) ?_) | fail);generalize j:World.setRow _ _ _=w6;have l:Hid (Below w.heap.size w w6):=by rw[<-j];exact Below.set_row z.o (by omega) _
  have h:=shZ j f;have m:=rrZ h;clear j;have K:∀E:Up w6,E.to.cell? ⟨w.heap.size,0,none⟩=some (.int .i64 0):=λE=>E.cell (cell_of_row w6 w.heap.size 0 _ _ _ h.o);go_upto_region 2 with fail;dsimp only [Act.put];refine aD (by kernel_rfl) (by kernel_rfl) ?_;repeat (go_big_quiet_step (fail))
  refine wpQuiet_nil ?_;first | (rintro _ ⟨E,rfl⟩) | (intro E) | (rename_i E)
  go_wp2_with fail;go_ret;exact⟨by first | rfl | simp,l.o.trans (E.below.mono l.o.size)⟩
 ·skip;have L:(q != 0)=true:=bne_iff_ne.2 G;by_cases O:q=1
  ·subst O;by_cases P:p=0
   ·subst P;clear G L;obtain⟨g,d⟩:∃g,g=w.alloc (.cells #[.int .i64 k,.int .i64 n] 48):=⟨_,rfl⟩;have s:Hid (Below w.heap.size w g):=(by rw[d];exact aB _ _);have B0:Hid (g.heap[w.heap.size]? = some (.cells #[.int .i64 k,.int .i64 n] 48 (0,0))):=(by rw[d];exact aJ _ _);have J:w.heap.size<g.heap.size:=(aE B0.o).1;have x:=rrZ B0;have y:=hI d;clear d;go_enter func168,ntmps168;go_upto_region 1 with fail;rw[<-y.o];go_wp2_with (first | (refine wpList_load_mid rfl 48 _ rfl (w.heap.size) 0 rfl [.int .i64 k,.int .i64 n] _ x.o underlying48 rfl aF ?_) | fail);refine(A.o _).mono ?_;rintro e N ⟨rfl,i⟩;have z:=btZ s i;have f:=rkZ B0 i;have C:=rrZ f;clear i;go_wp2_with (first | (refine wpList_store_row rfl 48 _ _ rfl (w.heap.size) #[.int .i64 1,.int .i64 0] rfl rfl 48 _ f.o aF rfl (oC (by simp[Value.oneCell'])) ?_) | fail);generalize j:World.setRow _ _ _=w6;have l:Hid (Below w.heap.size w w6):=(by rw[<-j];exact Below.set_row z.o (by omega) _);have h:=shZ j f;have m:=rrZ h;clear j;have K:∀E:Up w6,E.to.cell? ⟨w.heap.size,0,none⟩=some (.int .i64 1):=λE=>E.cell (cell_of_row w6 w.heap.size 0 _ _ _ h.o);have D:Hid (∀E:Up w6,E.to.rangeAt w.heap.size 0 [.int .i64 1,.int .i64 0]):=λE a u F=>E.cell (m.o a u F);go_upto_region 2 with fail;dsimp only [Act.put];refine aD (by kernel_rfl) (by kernel_rfl) ?_
    repeat (first
     | (refine aO 48 _ rfl rfl w.heap.size 0 rfl [.int .i64 1,.int .i64 0] _ D.o underlying48 rfl aF ?_;go_simp)
     | go_big_quiet_step ((go_at_call 171;exact Calls.up (I.o _))))
    refine wpQuiet_nil ?_;first | (rintro _ ⟨E,rfl⟩) | (intro E) | (rename_i E)
    go_wp2_with fail;go_ret;exact⟨by simp,l.o.trans (E.below.mono l.o.size)⟩
   ·have R:(p == 0)=false:=bF P;clear G P L;obtain⟨g,d⟩:∃g,g=w.alloc (.cells #[.int .i64 k,.int .i64 n] 48):=⟨_,rfl⟩;have s:Hid (Below w.heap.size w g):=(by rw[d];exact aB _ _);have B0:Hid (g.heap[w.heap.size]? = some (.cells #[.int .i64 k,.int .i64 n] 48 (0,0))):=(by rw[d];exact aJ _ _);have J:w.heap.size<g.heap.size:=(aE B0.o).1;have x:=rrZ B0;have y:=hI d;clear d;go_enter func168,ntmps168;go_upto_region 1 with fail;rw[<-y.o];go_wp2_with (first | (refine wpList_load_mid rfl 48 _ rfl (w.heap.size) 0 rfl [.int .i64 k,.int .i64 n] _ x.o underlying48 rfl aF ?_) | fail);refine(A.o _).mono ?_;rintro e N ⟨rfl,i⟩;have z:=btZ s i;have f:=rkZ B0 i;have C:=rrZ f;clear i;go_wp2_with (first | (refine wpList_store_row rfl 48 _ _ rfl (w.heap.size) #[.int .i64 1,.int .i64 p] rfl rfl 48 _ f.o aF rfl (oC (by simp[Value.oneCell'])) ?_) | fail);generalize j:World.setRow _ _ _=w6;have l:Hid (Below w.heap.size w w6):=(by rw[<-j];exact Below.set_row z.o (by omega) _);have h:=shZ j f;have m:=rrZ h;clear j;have K:∀E:Up w6,E.to.cell? ⟨w.heap.size,0,none⟩=some (.int .i64 1):=λE=>E.cell (cell_of_row w6 w.heap.size 0 _ _ _ h.o);have D:Hid (∀E:Up w6,E.to.rangeAt w.heap.size 0 [.int .i64 1,.int .i64 p]):=λE a u F=>E.cell (m.o a u F);go_upto_region 2 with fail;dsimp only [Act.put];refine aD (by kernel_rfl) (by kernel_rfl) ?_
    repeat (first
     | (refine aO 48 _ rfl rfl w.heap.size 0 rfl [.int .i64 1,.int .i64 p] _ D.o underlying48 rfl aF ?_;go_simp)
     | go_big_quiet_step ((go_at_call 171;exact Calls.up (I.o _))))
    refine wpQuiet_nil ?_;first | (rintro _ ⟨E,rfl⟩) | (intro E) | (rename_i E)
    go_wp2_with fail;go_ret;exact⟨by rw[R];rfl,l.o.trans (E.below.mono l.o.size)⟩
  ·have S:(q == 1)=false:=bF O;clear G O;obtain⟨g,d⟩:∃g,g=w.alloc (.cells #[.int .i64 k,.int .i64 n] 48):=⟨_,rfl⟩;have s:Hid (Below w.heap.size w g):=(by rw[d];exact aB _ _);have B0:Hid (g.heap[w.heap.size]? = some (.cells #[.int .i64 k,.int .i64 n] 48 (0,0))):=(by rw[d];exact aJ _ _);have J:w.heap.size<g.heap.size:=(aE B0.o).1;have x:=rrZ B0;have y:=hI d;clear d;go_enter func168,ntmps168;go_upto_region 1 with fail;rw[<-y.o];go_wp2_with (first | (refine wpList_load_mid rfl 48 _ rfl (w.heap.size) 0 rfl [.int .i64 k,.int .i64 n] _ x.o underlying48 rfl aF ?_) | fail);refine(A.o _).mono ?_;rintro e N ⟨rfl,i⟩;have z:=btZ s i;have f:=rkZ B0 i;have C:=rrZ f;clear i;go_wp2_with (first | (refine wpList_store_row rfl 48 _ _ rfl (w.heap.size) #[.int .i64 q,.int .i64 p] rfl rfl 48 _ f.o aF rfl (oC (by simp[Value.oneCell'])) ?_) | fail);generalize j:World.setRow _ _ _=w6;have l:Hid (Below w.heap.size w w6):=(by rw[<-j];exact Below.set_row z.o (by omega) _);have h:=shZ j f;have m:=rrZ h;clear j;have K:∀E:Up w6,E.to.cell? ⟨w.heap.size,0,none⟩=some (.int .i64 q):=λE=>E.cell (cell_of_row w6 w.heap.size 0 _ _ _ h.o);have D:Hid (∀E:Up w6,E.to.rangeAt w.heap.size 0 [.int .i64 q,.int .i64 p]):=λE a u F=>E.cell (m.o a u F);go_upto_region 2 with fail;dsimp only [Act.put];refine aD (by kernel_rfl) (by kernel_rfl) ?_
   repeat (first
    | (refine aO 48 _ rfl rfl w.heap.size 0 rfl [.int .i64 q,.int .i64 p] _ D.o underlying48 rfl aF ?_;go_simp)
    | go_big_quiet_step ((go_at_call 171;exact Calls.up (I.o _))))
   refine wpQuiet_nil ?_;first | (rintro _ ⟨E,rfl⟩) | (intro E) | (rename_i E)
   go_wp2_with fail;go_ret;exact⟨by rw[L,S];rfl,l.o.trans (E.below.mono l.o.size)⟩
theorem abY (op a b:Int) (w:World):Calls prog 172 #[.int .i64 op,.int .i64 a,.int .i64 b] w (bB (gR op a b) w):=by
 by_cases D:op=3
 ·subst D;obtain⟨r,p⟩:∃r,dS (wrap64 (a+b))=r:=⟨_,rfl⟩;have l:=kM (wrap64 (a+b));rw[p] at l;show Calls _ _ _ _ (bB (dS (wrap64 (a+b))) w);rw[p];clear p;obtain⟨⟨q,s⟩,C⟩:=r;have f:=hI l;clear l;unfold bB at f ⊢;dsimp only at f ⊢;obtain⟨h,d⟩:∃h,h=w.alloc (.cells #[.int .i64 0,.int .i64 0] 48):=⟨_,rfl⟩;have u:Hid (Below w.heap.size w h):=by rw[d];exact aB _ _
  have B0:Hid (h.heap[w.heap.size]? = some (.cells #[.int .i64 0,.int .i64 0] 48 (0,0))):=by rw[d];exact aJ _ _
  have E:w.heap.size<h.heap.size:=(aE B0.o).1;have F:=rrZ B0;have x:=hI d;clear d;go_enter func172,ntmps172;go_upto_region 1 with fail;rw[<-x.o];go_wp2_with (first | fail);refine(f.o _).mono ?_;rintro e G ⟨rfl,j⟩;have y:=btZ u j;have g:=rkZ B0 j;have A:=rrZ g;clear j;go_wp2_with (first | (refine wpList_store_row rfl 48 _ _ rfl (w.heap.size) #[.int .i64 q,.int .i64 s] rfl rfl 48 _ g.o aF rfl (oC (by simp[Value.oneCell'])) ?_));generalize i:World.setRow _ _ _=w9;have m:=shZ i g;have z:Hid (Below w.heap.size w w9):=by rw[<-i];exact Below.set_row y.o (by omega) _
  clear i;go_wp2_with fail;have q0:=crZ m 0 rfl;have q1:=crZ m 1 rfl;refine bodyPost_ret (v:=(.tuple #[.agg #[.int .i64 q,.int .i64 s],.int .i64 C])) (by simp[results,results172,go_sem,q0,q1]) rfl ⟨rfl,z.o⟩
 by_cases c4:op=4
 ·subst c4;clear D;obtain⟨r,p⟩:∃r,dS (wrap64 (a - b))=r:=⟨_,rfl⟩;have l:=kM (wrap64 (a - b));rw[p] at l;show Calls _ _ _ _ (bB (dS (wrap64 (a - b))) w);rw[p];clear p;obtain⟨⟨q,s⟩,C⟩:=r;have f:=hI l;clear l;unfold bB at f ⊢;dsimp only at f ⊢;obtain⟨h,d⟩:∃h,h=w.alloc (.cells #[.int .i64 0,.int .i64 0] 48):=⟨_,rfl⟩;have u:Hid (Below w.heap.size w h):=by rw[d];exact aB _ _
  have B0:Hid (h.heap[w.heap.size]? = some (.cells #[.int .i64 0,.int .i64 0] 48 (0,0))):=by rw[d];exact aJ _ _
  have E:w.heap.size<h.heap.size:=(aE B0.o).1;have F:=rrZ B0;have x:=hI d;clear d;go_enter func172,ntmps172;go_upto_region 1 with fail;rw[<-x.o];go_wp2_with (first | fail);refine(f.o _).mono ?_;rintro e G ⟨rfl,j⟩;have y:=btZ u j;have g:=rkZ B0 j;have A:=rrZ g;clear j;go_wp2_with (first | (refine wpList_store_row rfl 48 _ _ rfl (w.heap.size) #[.int .i64 q,.int .i64 s] rfl rfl 48 _ g.o aF rfl (oC (by simp[Value.oneCell'])) ?_));generalize i:World.setRow _ _ _=w9;have m:=shZ i g;have z:Hid (Below w.heap.size w w9):=by rw[<-i];exact Below.set_row y.o (by omega) _
  clear i;go_wp2_with fail;have q0:=crZ m 0 rfl;have q1:=crZ m 1 rfl;refine bodyPost_ret (v:=(.tuple #[.agg #[.int .i64 q,.int .i64 s],.int .i64 C])) (by simp[results,results172,go_sem,q0,q1]) rfl ⟨rfl,z.o⟩
 by_cases H:op=5
 ·subst H;clear D;clear c4;obtain⟨r,p⟩:∃r,dS (wrap64 (a*b))=r:=⟨_,rfl⟩;have l:=kM (wrap64 (a*b));rw[p] at l;show Calls _ _ _ _ (bB (dS (wrap64 (a*b))) w);rw[p];clear p;obtain⟨⟨q,s⟩,C⟩:=r;have f:=hI l;clear l;unfold bB at f ⊢;dsimp only at f ⊢;obtain⟨h,d⟩:∃h,h=w.alloc (.cells #[.int .i64 0,.int .i64 0] 48):=⟨_,rfl⟩;have u:Hid (Below w.heap.size w h):=by rw[d];exact aB _ _
  have B0:Hid (h.heap[w.heap.size]? = some (.cells #[.int .i64 0,.int .i64 0] 48 (0,0))):=by rw[d];exact aJ _ _
  have E:w.heap.size<h.heap.size:=(aE B0.o).1;have F:=rrZ B0;have x:=hI d;clear d;go_enter func172,ntmps172;go_upto_region 1 with fail;rw[<-x.o];go_wp2_with (first | fail);refine(f.o _).mono ?_;rintro e G ⟨rfl,j⟩;have y:=btZ u j;have g:=rkZ B0 j;have A:=rrZ g;clear j;go_wp2_with (first | (refine wpList_store_row rfl 48 _ _ rfl (w.heap.size) #[.int .i64 q,.int .i64 s] rfl rfl 48 _ g.o aF rfl (oC (by simp[Value.oneCell'])) ?_));generalize i:World.setRow _ _ _=w9;have m:=shZ i g;have z:Hid (Below w.heap.size w w9):=by rw[<-i];exact Below.set_row y.o (by omega) _
  clear i;go_wp2_with fail;have q0:=crZ m 0 rfl;have q1:=crZ m 1 rfl;refine bodyPost_ret (v:=(.tuple #[.agg #[.int .i64 q,.int .i64 s],.int .i64 C])) (by simp[results,results172,go_sem,q0,q1]) rfl ⟨rfl,z.o⟩
 by_cases I:op=6
 ·subst I;clear D;clear c4;clear H;by_cases hb:b=0;·subst hb;show Calls _ _ _ _ (bB (⟨0,0⟩,2) w);have f:=hI (iN 2);unfold bB at f ⊢;dsimp only at f ⊢;obtain⟨h,d⟩:∃h,h=w.alloc (.cells #[.int .i64 0,.int .i64 0] 48):=⟨_,rfl⟩;have u:Hid (Below w.heap.size w h):=(by rw[d];exact aB _ _);have B0:Hid (h.heap[w.heap.size]? = some (.cells #[.int .i64 0,.int .i64 0] 48 (0,0))):=(by rw[d];exact aJ _ _);have E:w.heap.size<h.heap.size:=(aE B0.o).1;have F:=rrZ B0;have x:=hI d;clear d;go_enter func172,ntmps172;go_upto_region 1 with fail;rw[<-x.o];go_wp2_with (first | fail);refine(f.o _).mono ?_;rintro e G ⟨rfl,j⟩;have y:=btZ u j;have g:=rkZ B0 j;have A:=rrZ g;clear j;go_wp2_with (first | (refine wpList_store_row rfl 48 _ _ rfl (w.heap.size) #[.int .i64 0,.int .i64 0] rfl rfl 48 _ g.o aF rfl (oC (by simp[Value.oneCell'])) ?_));generalize i:World.setRow _ _ _=w9;have m:=shZ i g;have z:Hid (Below w.heap.size w w9):=(by rw[<-i];exact Below.set_row y.o (by omega) _);clear i;go_wp2_with fail;have q0:=crZ m 0 rfl;have q1:=crZ m 1 rfl;refine bodyPost_ret (v:=(.tuple #[.agg #[.int .i64 0,.int .i64 0],.int .i64 2])) (by simp[results,results172,go_sem,q0,q1]) rfl ⟨rfl,z.o⟩
  ·have K:(b == 0)=false:=bF hb;rw[show gR 6 a b=dS (wrap64 (a.tdiv b)) from by unfold gR;rw[if_neg (by decide),if_neg (by decide),if_neg (by decide),if_pos (by decide),if_neg hb,if_pos rfl]];obtain⟨r,p⟩:∃r,dS (wrap64 (a.tdiv b))=r:=⟨_,rfl⟩;have l:=kM (wrap64 (a.tdiv b));rw[p] at l;show Calls _ _ _ _ (bB (dS (wrap64 (a.tdiv b))) w);rw[p];clear p;obtain⟨⟨q,s⟩,C⟩:=r;have f:=hI l;clear l;unfold bB at f ⊢;dsimp only at f ⊢;obtain⟨h,d⟩:∃h,h=w.alloc (.cells #[.int .i64 0,.int .i64 0] 48):=⟨_,rfl⟩;have u:Hid (Below w.heap.size w h):=(by rw[d];exact aB _ _);have B0:Hid (h.heap[w.heap.size]? = some (.cells #[.int .i64 0,.int .i64 0] 48 (0,0))):=(by rw[d];exact aJ _ _);have E:w.heap.size<h.heap.size:=(aE B0.o).1;have F:=rrZ B0;have x:=hI d;clear d;go_enter func172,ntmps172;go_upto_region 1 with fail;rw[<-x.o];go_wp2_with (first | fail);refine(f.o _).mono ?_;rintro e G ⟨rfl,j⟩;have y:=btZ u j;have g:=rkZ B0 j;have A:=rrZ g;clear j;go_wp2_with (first | (refine wpList_store_row rfl 48 _ _ rfl (w.heap.size) #[.int .i64 q,.int .i64 s] rfl rfl 48 _ g.o aF rfl (oC (by simp[Value.oneCell'])) ?_));generalize i:World.setRow _ _ _=w9;have m:=shZ i g;have z:Hid (Below w.heap.size w w9):=(by rw[<-i];exact Below.set_row y.o (by omega) _);clear i;go_wp2_with fail;have q0:=crZ m 0 rfl;have q1:=crZ m 1 rfl;refine bodyPost_ret (v:=(.tuple #[.agg #[.int .i64 q,.int .i64 s],.int .i64 C])) (by simp[results,results172,go_sem,q0,q1]) rfl ⟨rfl,z.o⟩
 by_cases J:op=7
 ·subst J;clear D;clear c4;clear H;clear I;by_cases hb:b=0;·subst hb;show Calls _ _ _ _ (bB (⟨0,0⟩,2) w);have f:=hI (iN 2);unfold bB at f ⊢;dsimp only at f ⊢;obtain⟨h,d⟩:∃h,h=w.alloc (.cells #[.int .i64 0,.int .i64 0] 48):=⟨_,rfl⟩;have u:Hid (Below w.heap.size w h):=(by rw[d];exact aB _ _);have B0:Hid (h.heap[w.heap.size]? = some (.cells #[.int .i64 0,.int .i64 0] 48 (0,0))):=(by rw[d];exact aJ _ _);have E:w.heap.size<h.heap.size:=(aE B0.o).1;have F:=rrZ B0;have x:=hI d;clear d;go_enter func172,ntmps172;go_upto_region 1 with fail;rw[<-x.o];go_wp2_with (first | fail);refine(f.o _).mono ?_;rintro e G ⟨rfl,j⟩;have y:=btZ u j;have g:=rkZ B0 j;have A:=rrZ g;clear j;go_wp2_with (first | (refine wpList_store_row rfl 48 _ _ rfl (w.heap.size) #[.int .i64 0,.int .i64 0] rfl rfl 48 _ g.o aF rfl (oC (by simp[Value.oneCell'])) ?_));generalize i:World.setRow _ _ _=w9;have m:=shZ i g;have z:Hid (Below w.heap.size w w9):=(by rw[<-i];exact Below.set_row y.o (by omega) _);clear i;go_wp2_with fail;have q0:=crZ m 0 rfl;have q1:=crZ m 1 rfl;refine bodyPost_ret (v:=(.tuple #[.agg #[.int .i64 0,.int .i64 0],.int .i64 2])) (by simp[results,results172,go_sem,q0,q1]) rfl ⟨rfl,z.o⟩
  ·have K:(b == 0)=false:=bF hb;rw[show gR 7 a b=dS (a.tmod b) from by unfold gR;rw[if_neg (by decide),if_neg (by decide),if_neg (by decide),if_pos (by decide),if_neg hb,if_neg (by decide)]];obtain⟨r,p⟩:∃r,dS (a.tmod b)=r:=⟨_,rfl⟩;have l:=kM (a.tmod b);rw[p] at l;show Calls _ _ _ _ (bB (dS (a.tmod b)) w);rw[p];clear p;obtain⟨⟨q,s⟩,C⟩:=r;have f:=hI l;clear l;unfold bB at f ⊢;dsimp only at f ⊢;obtain⟨h,d⟩:∃h,h=w.alloc (.cells #[.int .i64 0,.int .i64 0] 48):=⟨_,rfl⟩;have u:Hid (Below w.heap.size w h):=(by rw[d];exact aB _ _);have B0:Hid (h.heap[w.heap.size]? = some (.cells #[.int .i64 0,.int .i64 0] 48 (0,0))):=(by rw[d];exact aJ _ _);have E:w.heap.size<h.heap.size:=(aE B0.o).1;have F:=rrZ B0;have x:=hI d;clear d;go_enter func172,ntmps172;go_upto_region 1 with fail;rw[<-x.o];go_wp2_with (first | fail);refine(f.o _).mono ?_;rintro e G ⟨rfl,j⟩;have y:=btZ u j;have g:=rkZ B0 j;have A:=rrZ g;clear j;go_wp2_with (first | (refine wpList_store_row rfl 48 _ _ rfl (w.heap.size) #[.int .i64 q,.int .i64 s] rfl rfl 48 _ g.o aF rfl (oC (by simp[Value.oneCell'])) ?_));generalize i:World.setRow _ _ _=w9;have m:=shZ i g;have z:Hid (Below w.heap.size w w9):=(by rw[<-i];exact Below.set_row y.o (by omega) _);clear i;go_wp2_with fail;have q0:=crZ m 0 rfl;have q1:=crZ m 1 rfl;refine bodyPost_ret (v:=(.tuple #[.agg #[.int .i64 q,.int .i64 s],.int .i64 C])) (by simp[results,results172,go_sem,q0,q1]) rfl ⟨rfl,z.o⟩
 rw[show gR op a b=eA op (decide (a<b)) (decide (a<=b)) from by unfold gR;rw[if_neg D,if_neg c4,if_neg H,if_neg (by omega)]];have L:(op == 3)=false:=bF D;clear D;have M:(op == 4)=false:=bF c4;clear c4;have N:(op == 5)=false:=bF H;clear H;have O:(op == 6)=false:=bF I;clear I;have P:(op == 7)=false:=bF J;clear J;obtain⟨r,p⟩:∃r,eA op (decide (a<b)) (decide (a<=b))=r:=⟨_,rfl⟩;have l:=aaR op a b;rw[p] at l;show Calls _ _ _ _ (bB (eA op (decide (a<b)) (decide (a<=b))) w);rw[p];clear p;obtain⟨⟨q,s⟩,C⟩:=r;have f:=hI l;clear l;unfold bB at f ⊢;dsimp only at f ⊢;obtain⟨h,d⟩:∃h,h=w.alloc (.cells #[.int .i64 0,.int .i64 0] 48):=⟨_,rfl⟩;have u:Hid (Below w.heap.size w h):=by rw[d];exact aB _ _
 have B0:Hid (h.heap[w.heap.size]? = some (.cells #[.int .i64 0,.int .i64 0] 48 (0,0))):=by rw[d];exact aJ _ _
 have E:w.heap.size<h.heap.size:=(aE B0.o).1;have F:=rrZ B0;have x:=hI d;clear d;go_enter func172,ntmps172;go_upto_region 1 with fail;rw[<-x.o];go_wp2_with (first | fail);refine(f.o _).mono ?_;rintro e G ⟨rfl,j⟩;have y:=btZ u j;have g:=rkZ B0 j;have A:=rrZ g;clear j;go_wp2_with (first | (refine wpList_store_row rfl 48 _ _ rfl (w.heap.size) #[.int .i64 q,.int .i64 s] rfl rfl 48 _ g.o aF rfl (oC (by simp[Value.oneCell'])) ?_));generalize i:World.setRow _ _ _=w9;have m:=shZ i g;have z:Hid (Below w.heap.size w w9):=by rw[<-i];exact Below.set_row y.o (by omega) _
 clear i;go_wp2_with fail;have q0:=crZ m 0 rfl;have q1:=crZ m 1 rfl;refine bodyPost_ret (v:=(.tuple #[.agg #[.int .i64 q,.int .i64 s],.int .i64 C])) (by simp[results,results172,go_sem,q0,q1]) rfl ⟨rfl,z.o⟩
theorem adB (op:Int) (x y:Nat) (w:World):Calls prog 170 #[.int .i64 op,.float .f64 x,.float .f64 y] w (bB (lI op x y) w):=by
 by_cases N:op=3
 ·subst N;show Calls _ _ _ _ (bB (ofB .add x y,-1) w);unfold ofB;cases h:floatBits .add .f64 x y with
  | some q=>
   have hb:∀W,(binOp .add 214 (.float .f64 x) (.float .f64 y)).run prog W=.ok (.float .f64 q) W:=λW=>run_float_arith W .add 214 .f64 x y q h
   dsimp only
   obtain⟨r,s⟩:∃r,ofM q=r:=⟨_,rfl⟩
   have l:=oN q
   rw[s] at l
   rw[s]
   clear s h
   obtain⟨D,E⟩:=r
   have j:=hI l
   clear l
   unfold bB
   dsimp only at j ⊢
   obtain⟨d,f⟩:∃d,d=w.alloc (.cells #[.int .i64 0,.int .i64 0] 48):=⟨_,rfl⟩
   have u:Hid (Below w.heap.size w d):=by rw[f];exact aB _ _
   have B0:Hid (d.heap[w.heap.size]? = some (.cells #[.int .i64 0,.int .i64 0] 48 (0,0))):=by rw[f];exact aJ _ _
   have L:w.heap.size<d.heap.size:=(aE B0.o).1
   have M:=rrZ B0
   have z:=hI f
   clear f
   go_enter func170,ntmps170
   go_upto_region 1 with fail
   rw[<-z.o]
   go_wp2_with (first | fail)
   refine(j.o _).mono ?_
   rintro e G ⟨rfl,m⟩
   have A:=btZ u m
   have g:=rkZ B0 m
   have F:=rrZ g
   clear m
   go_wp2_with (first | (refine wpList_store_row rfl 48 _ _ rfl (w.heap.size) #[.int .i64 D,.int .i64 E] rfl rfl 48 _ g.o aF rfl (oC (by simp[Value.oneCell'])) ?_))
   generalize i:World.setRow _ _ _=w9
   have p:=shZ i g
   have C:Hid (Below w.heap.size w w9):=by rw[<-i];exact Below.set_row A.o (by omega) _
   clear i
   go_wp2_with fail
   have q0:=crZ p 0 rfl
   have q1:=crZ p 1 rfl
   refine bodyPost_ret (v:=(.tuple #[.agg #[.int .i64 D,.int .i64 E],.int .i64 (-1)])) (by simp[results,results170,go_sem,q0,q1]) rfl ⟨rfl,C.o⟩
  | none=>
   dsimp only
   have H:=hI h
   clear h
   unfold bB
   dsimp only
   obtain⟨d,f⟩:∃d,d=w.alloc (.cells #[.int .i64 0,.int .i64 0] 48):=⟨_,rfl⟩
   have u:Hid (Below w.heap.size w d):=by rw[f];exact aB _ _
   have B0:Hid (d.heap[w.heap.size]? = some (.cells #[.int .i64 0,.int .i64 0] 48 (0,0))):=by rw[f];exact aJ _ _
   have L:w.heap.size<d.heap.size:=(aE B0.o).1
   have M:=rrZ B0
   have z:=hI f
   clear f
   go_enter func170,ntmps170
   go_upto_region 1 with fail
   rw[<-z.o]
   obtain⟨b,I,hb⟩:∃b,(FloatKind.f64.format.order b b == some .eq)=false/\(binOp .add 214 (.float .f64 x) (.float .f64 y)).run prog d=.ok (.float .f64 b) d.drew:=by
    rcases iL (P:=prog) .add 214 x y (by simp) d with ⟨r,K,_⟩ | ⟨_,O⟩
    ·rw[H.o] at K;cases K
    ·exact O
   have l:=oN b d.drew
   rw[show ofM b=⟨3,kZ⟩ from by unfold ofM;rw[I];rfl] at l
   have j:=hI l
   clear l I
   dsimp only at j
   go_wp2_with fail
   refine j.o.mono ?_
   rintro e G ⟨rfl,J⟩
   have m:Below d.heap.size d G:=((Below.refl _ d).drew).trans J
   clear J
   have A:=btZ u m
   have g:=rkZ B0 m
   have F:=rrZ g
   clear m
   go_wp2_with (first | (refine wpList_store_row rfl 48 _ _ rfl (w.heap.size) #[.int .i64 3,.int .i64 kZ] rfl rfl 48 _ g.o aF rfl (oC (by simp[Value.oneCell'])) ?_))
   generalize i:World.setRow _ _ _=w9
   have p:=shZ i g
   have C:Hid (Below w.heap.size w w9):=by rw[<-i];exact Below.set_row A.o (by omega) _
   clear i
   go_wp2_with fail
   have q0:=crZ p 0 rfl
   have q1:=crZ p 1 rfl
   refine bodyPost_ret (v:=(.tuple #[.agg #[.int .i64 3,.int .i64 kZ],.int .i64 (-1)])) (by simp[results,results170,go_sem,q0,q1]) rfl ⟨rfl,C.o⟩
 by_cases c4:op=4
 ·subst c4;clear N;show Calls _ _ _ _ (bB (ofB .sub x y,-1) w);unfold ofB;cases h:floatBits .sub .f64 x y with
  | some q=>
   have hb:∀W,(binOp .sub 214 (.float .f64 x) (.float .f64 y)).run prog W=.ok (.float .f64 q) W:=λW=>run_float_arith W .sub 214 .f64 x y q h
   dsimp only
   obtain⟨r,s⟩:∃r,ofM q=r:=⟨_,rfl⟩
   have l:=oN q
   rw[s] at l
   rw[s]
   clear s h
   obtain⟨D,E⟩:=r
   have j:=hI l
   clear l
   unfold bB
   dsimp only at j ⊢
   obtain⟨d,f⟩:∃d,d=w.alloc (.cells #[.int .i64 0,.int .i64 0] 48):=⟨_,rfl⟩
   have u:Hid (Below w.heap.size w d):=by rw[f];exact aB _ _
   have B0:Hid (d.heap[w.heap.size]? = some (.cells #[.int .i64 0,.int .i64 0] 48 (0,0))):=by rw[f];exact aJ _ _
   have L:w.heap.size<d.heap.size:=(aE B0.o).1
   have M:=rrZ B0
   have z:=hI f
   clear f
   go_enter func170,ntmps170
   go_upto_region 1 with fail
   rw[<-z.o]
   go_wp2_with (first | fail)
   refine(j.o _).mono ?_
   rintro e G ⟨rfl,m⟩
   have A:=btZ u m
   have g:=rkZ B0 m
   have F:=rrZ g
   clear m
   go_wp2_with (first | (refine wpList_store_row rfl 48 _ _ rfl (w.heap.size) #[.int .i64 D,.int .i64 E] rfl rfl 48 _ g.o aF rfl (oC (by simp[Value.oneCell'])) ?_))
   generalize i:World.setRow _ _ _=w9
   have p:=shZ i g
   have C:Hid (Below w.heap.size w w9):=by rw[<-i];exact Below.set_row A.o (by omega) _
   clear i
   go_wp2_with fail
   have q0:=crZ p 0 rfl
   have q1:=crZ p 1 rfl
   refine bodyPost_ret (v:=(.tuple #[.agg #[.int .i64 D,.int .i64 E],.int .i64 (-1)])) (by simp[results,results170,go_sem,q0,q1]) rfl ⟨rfl,C.o⟩
  | none=>
   dsimp only
   have H:=hI h
   clear h
   unfold bB
   dsimp only
   obtain⟨d,f⟩:∃d,d=w.alloc (.cells #[.int .i64 0,.int .i64 0] 48):=⟨_,rfl⟩
   have u:Hid (Below w.heap.size w d):=by rw[f];exact aB _ _
   have B0:Hid (d.heap[w.heap.size]? = some (.cells #[.int .i64 0,.int .i64 0] 48 (0,0))):=by rw[f];exact aJ _ _
   have L:w.heap.size<d.heap.size:=(aE B0.o).1
   have M:=rrZ B0
   have z:=hI f
   clear f
   go_enter func170,ntmps170
   go_upto_region 1 with fail
   rw[<-z.o]
   obtain⟨b,I,hb⟩:∃b,(FloatKind.f64.format.order b b == some .eq)=false/\(binOp .sub 214 (.float .f64 x) (.float .f64 y)).run prog d=.ok (.float .f64 b) d.drew:=by
    rcases iL (P:=prog) .sub 214 x y (by simp) d with ⟨r,K,_⟩ | ⟨_,O⟩
    ·rw[H.o] at K;cases K
    ·exact O
   have l:=oN b d.drew
   rw[show ofM b=⟨3,kZ⟩ from by unfold ofM;rw[I];rfl] at l
   have j:=hI l
   clear l I
   dsimp only at j
   go_wp2_with fail
   refine j.o.mono ?_
   rintro e G ⟨rfl,J⟩
   have m:Below d.heap.size d G:=((Below.refl _ d).drew).trans J
   clear J
   have A:=btZ u m
   have g:=rkZ B0 m
   have F:=rrZ g
   clear m
   go_wp2_with (first | (refine wpList_store_row rfl 48 _ _ rfl (w.heap.size) #[.int .i64 3,.int .i64 kZ] rfl rfl 48 _ g.o aF rfl (oC (by simp[Value.oneCell'])) ?_))
   generalize i:World.setRow _ _ _=w9
   have p:=shZ i g
   have C:Hid (Below w.heap.size w w9):=by rw[<-i];exact Below.set_row A.o (by omega) _
   clear i
   go_wp2_with fail
   have q0:=crZ p 0 rfl
   have q1:=crZ p 1 rfl
   refine bodyPost_ret (v:=(.tuple #[.agg #[.int .i64 3,.int .i64 kZ],.int .i64 (-1)])) (by simp[results,results170,go_sem,q0,q1]) rfl ⟨rfl,C.o⟩
 by_cases R:op=5
 ·subst R;clear N;clear c4;show Calls _ _ _ _ (bB (ofB .mul x y,-1) w);unfold ofB;cases h:floatBits .mul .f64 x y with
  | some q=>
   have hb:∀W,(binOp .mul 214 (.float .f64 x) (.float .f64 y)).run prog W=.ok (.float .f64 q) W:=λW=>run_float_arith W .mul 214 .f64 x y q h
   dsimp only
   obtain⟨r,s⟩:∃r,ofM q=r:=⟨_,rfl⟩
   have l:=oN q
   rw[s] at l
   rw[s]
   clear s h
   obtain⟨D,E⟩:=r
   have j:=hI l
   clear l
   unfold bB
   dsimp only at j ⊢
   obtain⟨d,f⟩:∃d,d=w.alloc (.cells #[.int .i64 0,.int .i64 0] 48):=⟨_,rfl⟩
   have u:Hid (Below w.heap.size w d):=by rw[f];exact aB _ _
   have B0:Hid (d.heap[w.heap.size]? = some (.cells #[.int .i64 0,.int .i64 0] 48 (0,0))):=by rw[f];exact aJ _ _
   have L:w.heap.size<d.heap.size:=(aE B0.o).1
   have M:=rrZ B0
   have z:=hI f
   clear f
   go_enter func170,ntmps170
   go_upto_region 1 with fail
   rw[<-z.o]
   go_wp2_with (first | fail)
   refine(j.o _).mono ?_
   rintro e G ⟨rfl,m⟩
   have A:=btZ u m
   have g:=rkZ B0 m
   have F:=rrZ g
   clear m
   go_wp2_with (first | (refine wpList_store_row rfl 48 _ _ rfl (w.heap.size) #[.int .i64 D,.int .i64 E] rfl rfl 48 _ g.o aF rfl (oC (by simp[Value.oneCell'])) ?_))
   generalize i:World.setRow _ _ _=w9
   have p:=shZ i g
   have C:Hid (Below w.heap.size w w9):=by rw[<-i];exact Below.set_row A.o (by omega) _
   clear i
   go_wp2_with fail
   have q0:=crZ p 0 rfl
   have q1:=crZ p 1 rfl
   refine bodyPost_ret (v:=(.tuple #[.agg #[.int .i64 D,.int .i64 E],.int .i64 (-1)])) (by simp[results,results170,go_sem,q0,q1]) rfl ⟨rfl,C.o⟩
  | none=>
   dsimp only
   have H:=hI h
   clear h
   unfold bB
   dsimp only
   obtain⟨d,f⟩:∃d,d=w.alloc (.cells #[.int .i64 0,.int .i64 0] 48):=⟨_,rfl⟩
   have u:Hid (Below w.heap.size w d):=by rw[f];exact aB _ _
   have B0:Hid (d.heap[w.heap.size]? = some (.cells #[.int .i64 0,.int .i64 0] 48 (0,0))):=by rw[f];exact aJ _ _
   have L:w.heap.size<d.heap.size:=(aE B0.o).1
   have M:=rrZ B0
   have z:=hI f
   clear f
   go_enter func170,ntmps170
   go_upto_region 1 with fail
   rw[<-z.o]
   obtain⟨b,I,hb⟩:∃b,(FloatKind.f64.format.order b b == some .eq)=false/\(binOp .mul 214 (.float .f64 x) (.float .f64 y)).run prog d=.ok (.float .f64 b) d.drew:=by
    rcases iL (P:=prog) .mul 214 x y (by simp) d with ⟨r,K,_⟩ | ⟨_,O⟩
    ·rw[H.o] at K;cases K
    ·exact O
   have l:=oN b d.drew
   rw[show ofM b=⟨3,kZ⟩ from by unfold ofM;rw[I];rfl] at l
   have j:=hI l
   clear l I
   dsimp only at j
   go_wp2_with fail
   refine j.o.mono ?_
   rintro e G ⟨rfl,J⟩
   have m:Below d.heap.size d G:=((Below.refl _ d).drew).trans J
   clear J
   have A:=btZ u m
   have g:=rkZ B0 m
   have F:=rrZ g
   clear m
   go_wp2_with (first | (refine wpList_store_row rfl 48 _ _ rfl (w.heap.size) #[.int .i64 3,.int .i64 kZ] rfl rfl 48 _ g.o aF rfl (oC (by simp[Value.oneCell'])) ?_))
   generalize i:World.setRow _ _ _=w9
   have p:=shZ i g
   have C:Hid (Below w.heap.size w w9):=by rw[<-i];exact Below.set_row A.o (by omega) _
   clear i
   go_wp2_with fail
   have q0:=crZ p 0 rfl
   have q1:=crZ p 1 rfl
   refine bodyPost_ret (v:=(.tuple #[.agg #[.int .i64 3,.int .i64 kZ],.int .i64 (-1)])) (by simp[results,results170,go_sem,q0,q1]) rfl ⟨rfl,C.o⟩
 by_cases S:op=6
 ·subst S;clear N;clear c4;clear R;show Calls _ _ _ _ (bB (ofB .quo x y,-1) w);unfold ofB;cases h:floatBits .quo .f64 x y with
  | some q=>
   have hb:∀W,(binOp .quo 214 (.float .f64 x) (.float .f64 y)).run prog W=.ok (.float .f64 q) W:=λW=>run_float_arith W .quo 214 .f64 x y q h
   dsimp only
   obtain⟨r,s⟩:∃r,ofM q=r:=⟨_,rfl⟩
   have l:=oN q
   rw[s] at l
   rw[s]
   clear s h
   obtain⟨D,E⟩:=r
   have j:=hI l
   clear l
   unfold bB
   dsimp only at j ⊢
   obtain⟨d,f⟩:∃d,d=w.alloc (.cells #[.int .i64 0,.int .i64 0] 48):=⟨_,rfl⟩
   have u:Hid (Below w.heap.size w d):=by rw[f];exact aB _ _
   have B0:Hid (d.heap[w.heap.size]? = some (.cells #[.int .i64 0,.int .i64 0] 48 (0,0))):=by rw[f];exact aJ _ _
   have L:w.heap.size<d.heap.size:=(aE B0.o).1
   have M:=rrZ B0
   have z:=hI f
   clear f
   go_enter func170,ntmps170
   go_upto_region 1 with fail
   rw[<-z.o]
   go_wp2_with (first | fail)
   refine(j.o _).mono ?_
   rintro e G ⟨rfl,m⟩
   have A:=btZ u m
   have g:=rkZ B0 m
   have F:=rrZ g
   clear m
   go_wp2_with (first | (refine wpList_store_row rfl 48 _ _ rfl (w.heap.size) #[.int .i64 D,.int .i64 E] rfl rfl 48 _ g.o aF rfl (oC (by simp[Value.oneCell'])) ?_))
   generalize i:World.setRow _ _ _=w9
   have p:=shZ i g
   have C:Hid (Below w.heap.size w w9):=by rw[<-i];exact Below.set_row A.o (by omega) _
   clear i
   go_wp2_with fail
   have q0:=crZ p 0 rfl
   have q1:=crZ p 1 rfl
   refine bodyPost_ret (v:=(.tuple #[.agg #[.int .i64 D,.int .i64 E],.int .i64 (-1)])) (by simp[results,results170,go_sem,q0,q1]) rfl ⟨rfl,C.o⟩
  | none=>
   dsimp only
   have H:=hI h
   clear h
   unfold bB
   dsimp only
   obtain⟨d,f⟩:∃d,d=w.alloc (.cells #[.int .i64 0,.int .i64 0] 48):=⟨_,rfl⟩
   have u:Hid (Below w.heap.size w d):=by rw[f];exact aB _ _
   have B0:Hid (d.heap[w.heap.size]? = some (.cells #[.int .i64 0,.int .i64 0] 48 (0,0))):=by rw[f];exact aJ _ _
   have L:w.heap.size<d.heap.size:=(aE B0.o).1
   have M:=rrZ B0
   have z:=hI f
   clear f
   go_enter func170,ntmps170
   go_upto_region 1 with fail
   rw[<-z.o]
   obtain⟨b,I,hb⟩:∃b,(FloatKind.f64.format.order b b == some .eq)=false/\(binOp .quo 214 (.float .f64 x) (.float .f64 y)).run prog d=.ok (.float .f64 b) d.drew:=by
    rcases iL (P:=prog) .quo 214 x y (by simp) d with ⟨r,K,_⟩ | ⟨_,O⟩
    ·rw[H.o] at K;cases K
    ·exact O
   have l:=oN b d.drew
   rw[show ofM b=⟨3,kZ⟩ from by unfold ofM;rw[I];rfl] at l
   have j:=hI l
   clear l I
   dsimp only at j
   go_wp2_with fail
   refine j.o.mono ?_
   rintro e G ⟨rfl,J⟩
   have m:Below d.heap.size d G:=((Below.refl _ d).drew).trans J
   clear J
   have A:=btZ u m
   have g:=rkZ B0 m
   have F:=rrZ g
   clear m
   go_wp2_with (first | (refine wpList_store_row rfl 48 _ _ rfl (w.heap.size) #[.int .i64 3,.int .i64 kZ] rfl rfl 48 _ g.o aF rfl (oC (by simp[Value.oneCell'])) ?_))
   generalize i:World.setRow _ _ _=w9
   have p:=shZ i g
   have C:Hid (Below w.heap.size w w9):=by rw[<-i];exact Below.set_row A.o (by omega) _
   clear i
   go_wp2_with fail
   have q0:=crZ p 0 rfl
   have q1:=crZ p 1 rfl
   refine bodyPost_ret (v:=(.tuple #[.agg #[.int .i64 3,.int .i64 kZ],.int .i64 (-1)])) (by simp[results,results170,go_sem,q0,q1]) rfl ⟨rfl,C.o⟩
 by_cases V:op=8
 ·subst V;clear N c4 R S;show Calls _ _ _ _ (bB (cP (FloatKind.f64.format.order x y == some .eq),-1) w);obtain⟨r,s⟩:∃r,cP (FloatKind.f64.format.order x y == some .eq)=r:=⟨_,rfl⟩;have l:=fO (FloatKind.f64.format.order x y == some .eq);rw[s] at l;rw[s];clear s;obtain⟨D,E⟩:=r;have j:=hI l;clear l;unfold bB;dsimp only at j ⊢;obtain⟨d,f⟩:∃d,d=w.alloc (.cells #[.int .i64 0,.int .i64 0] 48):=⟨_,rfl⟩;have u:Hid (Below w.heap.size w d):=by rw[f];exact aB _ _
  have B0:Hid (d.heap[w.heap.size]? = some (.cells #[.int .i64 0,.int .i64 0] 48 (0,0))):=by rw[f];exact aJ _ _
  have L:w.heap.size<d.heap.size:=(aE B0.o).1;have M:=rrZ B0;have z:=hI f;clear f;go_enter func170,ntmps170;go_upto_region 1 with fail;rw[<-z.o];go_wp2_with (first | fail);refine(j.o _).mono ?_;rintro e G ⟨rfl,m⟩;have A:=btZ u m;have g:=rkZ B0 m;have F:=rrZ g;clear m;go_wp2_with (first | (refine wpList_store_row rfl 48 _ _ rfl (w.heap.size) #[.int .i64 D,.int .i64 E] rfl rfl 48 _ g.o aF rfl (oC (by simp[Value.oneCell'])) ?_));generalize i:World.setRow _ _ _=w9;have p:=shZ i g;have C:Hid (Below w.heap.size w w9):=by rw[<-i];exact Below.set_row A.o (by omega) _
  clear i;go_wp2_with fail;have q0:=crZ p 0 rfl;have q1:=crZ p 1 rfl;refine bodyPost_ret (v:=(.tuple #[.agg #[.int .i64 D,.int .i64 E],.int .i64 (-1)])) (by simp[results,results170,go_sem,q0,q1]) rfl ⟨rfl,C.o⟩
 rw[show lI op x y=eA op (ltF x y) (ltF x y || eqF x y) from by unfold lI;rw[if_neg N,if_neg c4,if_neg R,if_neg S,if_neg V]];have Y:(op == 3)=false:=bF N;clear N;have Z:(op == 4)=false:=bF c4;clear c4;have n5:(op == 5)=false:=bF R;clear R;have n6:(op == 6)=false:=bF S;clear S;have n8:(op == 8)=false:=bF V;clear V;obtain⟨r,s⟩:∃r,eA op (ltF x y) (ltF x y || eqF x y)=r:=⟨_,rfl⟩;have l:=aaS op x y;rw[s] at l;show Calls _ _ _ _ (bB (eA op (ltF x y) (ltF x y || eqF x y)) w);rw[s];clear s;obtain⟨⟨D,E⟩,X⟩:=r;have j:=hI l;clear l;unfold bB at j ⊢;dsimp only at j ⊢;obtain⟨d,f⟩:∃d,d=w.alloc (.cells #[.int .i64 0,.int .i64 0] 48):=⟨_,rfl⟩;have u:Hid (Below w.heap.size w d):=by rw[f];exact aB _ _
 have B0:Hid (d.heap[w.heap.size]? = some (.cells #[.int .i64 0,.int .i64 0] 48 (0,0))):=by rw[f];exact aJ _ _
 have L:w.heap.size<d.heap.size:=(aE B0.o).1;have M:=rrZ B0;have z:=hI f;clear f;go_enter func170,ntmps170;go_upto_region 1 with fail;rw[<-z.o];go_wp2_with (first | fail);refine(j.o _).mono ?_;rintro e G ⟨rfl,m⟩;have A:=btZ u m;have g:=rkZ B0 m;have F:=rrZ g;clear m;go_wp2_with (first | (refine wpList_store_row rfl 48 _ _ rfl (w.heap.size) #[.int .i64 D,.int .i64 E] rfl rfl 48 _ g.o aF rfl (oC (by simp[Value.oneCell'])) ?_));generalize i:World.setRow _ _ _=w9;have p:=shZ i g;have C:Hid (Below w.heap.size w w9):=by rw[<-i];exact Below.set_row A.o (by omega) _
 clear i;go_wp2_with fail;have q0:=crZ p 0 rfl;have q1:=crZ p 1 rfl;refine bodyPost_ret (v:=(.tuple #[.agg #[.int .i64 D,.int .i64 E],.int .i64 X])) (by simp[results,results170,go_sem,q0,q1]) rfl ⟨rfl,C.o⟩
end
end Go.Proofs.YtjaphgpkkfdaaaaGreatDoor
