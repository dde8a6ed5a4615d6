/- A part of the walk. -/
import Derived.Test.YtjaphgpkkfdaaaaGreatDoorZBE
import Derived.Test.YtjaphgpkkfdaaaaGreatDoorZBF
import Derived.Test.YtjaphgpkkfdaaaaGreatDoorZBG
set_option maxHeartbeats 16000000
set_option maxRecDepth 100000
set_option linter.all false
namespace Go.Proofs.YtjaphgpkkfdaaaaGreatDoor
open Tryz
section
open Go.RowKit
theorem zF:(prog.info? 26).map (·.size)=some 3:=by kernel_rfl
theorem rP:(prog.info? 34).map (·.size)=some 13:=by kernel_rfl
def aeG (r:aR×Int×Int×Int) (w:World) (e:Ending) (w':World):Prop:=∃cs,e=.returned (.tuple #[.agg ⟨cs⟩,.int .i64 r.2.1,.int .i64 r.2.2.1,.int .i64 r.2.2.2])/\(∀w2:World,(∀b,w.heap.size<=b->b<w'.heap.size->w2.heap[b]? = w'.heap[b]?)->w'.heap.size<=w2.heap.size->gK w2 w2.heap.size cs r.1)/\Below w.heap.size w w'
theorem aeG.here {r:aR×Int×Int×Int} {w:World} {e:Ending} {w':World} (h:aeG r w e w'):∃cs,e=.returned (.tuple #[.agg ⟨cs⟩,.int .i64 r.2.1,.int .i64 r.2.2.1,.int .i64 r.2.2.2])/\gK w' w'.heap.size cs r.1/\Below w.heap.size w w':=by obtain⟨cs,d,f,g⟩:=h;exact⟨cs,d,f w' (λ_ _ _=>rfl) (Nat.le_refl _),g⟩
def acT (p:aW) (t:aN):Int:=fA aG (bH p) (p.fns.map eZ) t
def wZ (p:aW) (S:aR):Int:=dG aG p S cC (bH p)
theorem irun_c (D0 tcs D1:List Value) (p:aW) (t:aN) (S:aR) (th tu:Int) (w:World) (hp:eL w w.heap.size D0 p) (ht:cT w w.heap.size tcs t) (hs:gK w w.heap.size D1 S) (D2:wfi th) (N8:wfi tu) (x0:Tab w) : Calls prog 12 #[.agg ⟨D0⟩,.agg ⟨tcs⟩,.agg ⟨D1⟩,.int .i64 th,.int .i64 tu] w (aeG (mY cJ (acT p t) (wZ p S) t S th tu) w):=by
 have q2:=hI hp;have A3:=hI ht;have q3:=hI hs;obtain⟨PA,pn,PB,pm,PD,pk,rfl,-⟩:=id hp;obtain⟨B1,m1,B2,m2,B3,m3,B4,m4,B5,m5,B6,m6,rfl,-⟩:=ht.cells6;obtain⟨c,s,x,tv,en,sa,rfl,hc,C4,C5,t2,C6,C7,y,ws⟩:=id hs;obtain⟨CA,cc,rfl,-⟩:=id hc;obtain⟨SA,sc,rfl,-⟩:=id C4;obtain⟨XA,xc,rfl,-⟩:=id C5;obtain⟨TA,tc,rfl,-⟩:=id t2;obtain⟨EA,ec,rfl,-⟩:=id C6;obtain⟨AA,ac,rfl,-⟩:=id C7;obtain⟨r,hr⟩:∃r,mY cJ (acT p t) (wZ p S) t S th tu=r:=⟨_,rfl⟩;rw[hr];have HR:=hI hr;have D5:=hI D2;obtain⟨w1,n9⟩:∃w1,w1=(((w.alloc (.cells #[.slice PA p.fns.length pn,.slice PB p.consts.length pm,.slice PD p.texts.length pk] 26)).alloc (.cells #[.int .i64 t.fn,.int .i64 t.at_,.int .i64 t.loop,.slice B1 t.ins.length m1,.slice B2 t.exits.length m2,.int .i64 t.turn.at_,.int .i64 t.turn.steps,.slice B3 t.turn.sets.length m3,.slice B4 t.turn.makes.length m4,.int .i64 t.back.at_,.int .i64 t.back.steps,.slice B5 t.back.sets.length m5,.slice B6 t.back.makes.length m6] 34)).alloc (.cells #[.slice CA S.cells.length cc,.slice SA S.shapes.length sc,.slice XA S.texts.length xc,.slice TA S.threads.length tc,.slice EA S.ends.length ec,.slice AA S.said.length ac,.int .i64 S.asked,.int .i64 S.steps] 40)).alloc (.cells #[.slice none 0 0,.slice none 0 0,.slice none 0 0,.slice none 0 0,.slice none 0 0,.slice none 0 0,.int .i64 0,.int .i64 0] 40):=⟨_,rfl⟩;have FB:=xZ w (.cells #[.slice PA p.fns.length pn,.slice PB p.consts.length pm,.slice PD p.texts.length pk] 26) (.cells #[.int .i64 t.fn,.int .i64 t.at_,.int .i64 t.loop,.slice B1 t.ins.length m1,.slice B2 t.exits.length m2,.int .i64 t.turn.at_,.int .i64 t.turn.steps,.slice B3 t.turn.sets.length m3,.slice B4 t.turn.makes.length m4,.int .i64 t.back.at_,.int .i64 t.back.steps,.slice B5 t.back.sets.length m5,.slice B6 t.back.makes.length m6] 34) (.cells #[.slice CA S.cells.length cc,.slice SA S.shapes.length sc,.slice XA S.texts.length xc,.slice TA S.threads.length tc,.slice EA S.ends.length ec,.slice AA S.said.length ac,.int .i64 S.asked,.int .i64 S.steps] 40) (.cells #[.slice none 0 0,.slice none 0 0,.slice none 0 0,.slice none 0 0,.slice none 0 0,.slice none 0 0,.int .i64 0,.int .i64 0] 40);rw[<-n9] at FB;obtain⟨f1,f2,f3,f4,f5⟩:=FB;have l3:=hI f1;have l4:=hI f2;have x3:=hI f3;have x4:=hI f4;have K1:Hid (Below w.heap.size w w1):=by rw[n9];exact((((Below.refl _ w).alloc (Nat.le_refl _) _).alloc (by rw[World.size_alloc];omega) _).alloc (by rw[World.size_alloc,World.size_alloc];omega) _).alloc (by rw[World.size_alloc,World.size_alloc,World.size_alloc];omega) _
 have M5:=hI f5;have E9:=hI n9;have T0:=hI x0;have q4:fA aG (bH p) (p.fns.map eZ) t=acT p t:=rfl;have h6:dG aG p S cC (bH p)=wZ p S:=rfl;obtain⟨o0,i5⟩:∃q,acT p t=q:=⟨_,rfl⟩;obtain⟨o1,o2⟩:∃q,wZ p S=q:=⟨_,rfl⟩;have CK:=hI (check_c _ _ p t w1 (q2.out.below K1.out) (ht.below K1.out) (x0.below K1.out));rw[q4,i5] at CK;have q5:=hI i5;have l5:=hI o2;clear hp ht hs hc C4 C5 t2 C6 C7 y ws n9 hr f1 f2 f3 f4 f5 x0 D2 q4 h6 i5 o2;go_enter func12,ntmps12;go_upto_region 1 with fail;rw[<-E9.out];have j0:=rrZ l3;have j1:=rrZ l4;go_wp2_with (first | (refine wpList_load_mid rfl 26 _ rfl w.heap.size 0 rfl [.slice PA p.fns.length pn,.slice PB p.consts.length pm,.slice PD p.texts.length pk] _ j0.out underlying26 rfl zF ?_) | (refine wpList_load_mid rfl 34 _ rfl (w.heap.size+1) 0 rfl [.int .i64 t.fn,.int .i64 t.at_,.int .i64 t.loop,.slice B1 t.ins.length m1,.slice B2 t.exits.length m2,.int .i64 t.turn.at_,.int .i64 t.turn.steps,.slice B3 t.turn.sets.length m3,.slice B4 t.turn.makes.length m4,.int .i64 t.back.at_,.int .i64 t.back.steps,.slice B5 t.back.sets.length m5,.slice B6 t.back.makes.length m6] _ j1.out underlying34 rfl rP ?_) | fail);clear j0 j1;refine CK.out.mono ?_;rintro e F ⟨rfl,k2⟩;have K2:=btZ K1 k2;have l9:=rkZ l3 k2;have x6:=rkZ l4 k2;have m0:=rkZ x3 k2;have h7:=rkZ x4 k2;clear k2;by_cases h1:o0=0
 case neg=>
  have hb:(o0 != 0)=true:=bne_iff_ne.2 h1;have G:Hid ((dL,(0:Int),(0:Int),(o0:Int))=r):=by show _=_;rw[<-HR.out];unfold mY;rw[if_pos (by rw[q5.out];exact h1),q5.out]
  clear h1;go_wp2_with (first | (refine wpList_store_row rfl 40 _ _ rfl (w.heap.size+1+1+1) #[.slice none 0 0,.slice none 0 0,.slice none 0 0,.slice none 0 0,.slice none 0 0,.slice none 0 0,.int .i64 0,.int .i64 0] rfl rfl 40 _ h7.out eC rfl (oC (by simp[Value.oneCell'])) ?_) | fail);generalize l:World.setRow _ _ _=wz;have i:=shZ l h7;have H:Hid (Below w.heap.size w wz):=by rw[<-l];exact Below.set_row K2.out (by omega) _
  clear l;go_wp2_with fail;have I:=crZ i 0 rfl;have J:=crZ i 1 rfl;have M:=crZ i 2 rfl;have N:=crZ i 3 rfl;have O:=crZ i 4 rfl;have P:=crZ i 5 rfl;have R:=crZ i 6 rfl;have V:=crZ i 7 rfl;refine bodyPost_ret (v:=.tuple #[.agg ⟨[.slice none 0 0,.slice none 0 0,.slice none 0 0,.slice none 0 0,.slice none 0 0,.slice none 0 0,.int .i64 0,.int .i64 0]⟩,.int .i64 0,.int .i64 0,.int .i64 o0]) (by simp[results,results12,go_sem,I,J,M,N,O,P,R,V]) rfl ?_;have X:=G.out;subst X;exact⟨_,rfl,λF _ _=>gU F,H.out⟩
 subst h1;have z:Hid (acT p t=0):=q5.out;have SK:=hI (acD _ _ p S F (q2.out.below K2.out) (q3.out.below K2.out) (T0.out.below K2.out));have h6:dG aG p S cC (bH p)=wZ p S:=rfl;rw[h6,l5.out] at SK;clear h6;have j0:=rrZ l9;have a2:=rrZ m0;go_wp2_with (first | (refine wpList_load_mid rfl 26 _ rfl w.heap.size 0 rfl [.slice PA p.fns.length pn,.slice PB p.consts.length pm,.slice PD p.texts.length pk] _ j0.out underlying26 rfl zF ?_) | (refine wpList_load_mid rfl 40 _ rfl (w.heap.size+1+1) 0 rfl [.slice CA S.cells.length cc,.slice SA S.shapes.length sc,.slice XA S.texts.length xc,.slice TA S.threads.length tc,.slice EA S.ends.length ec,.slice AA S.said.length ac,.int .i64 S.asked,.int .i64 S.steps] _ a2.out underlying40 rfl eC ?_) | fail);clear j0 a2;refine SK.out.mono ?_;rintro e w3 ⟨rfl,k3⟩;have K3:=btZ K2 k3;have x7:=rkZ l9 k3;have m7:=rkZ x6 k3;have h9:=rkZ m0 k3;have A:=rkZ h7 k3;clear k3;by_cases m:o1=0
 case neg=>
  have hb:(o1 != 0)=true:=bne_iff_ne.2 m;have G:Hid ((dL,(0:Int),(0:Int),(o1:Int))=r):=by show _=_;rw[<-HR.out];unfold mY;rw[if_neg (λh=>h z.out)];rw[if_pos (by rw[l5.out];exact m),l5.out]
  clear m;go_wp2_with (first | (refine wpList_store_row rfl 40 _ _ rfl (w.heap.size+1+1+1) #[.slice none 0 0,.slice none 0 0,.slice none 0 0,.slice none 0 0,.slice none 0 0,.slice none 0 0,.int .i64 0,.int .i64 0] rfl rfl 40 _ A.out eC rfl (oC (by simp[Value.oneCell'])) ?_) | fail);generalize l:World.setRow _ _ _=wz;have i:=shZ l A;have H:Hid (Below w.heap.size w wz):=by rw[<-l];exact Below.set_row K3.out (by omega) _
  clear l;go_wp2_with fail;have I:=crZ i 0 rfl;have J:=crZ i 1 rfl;have M:=crZ i 2 rfl;have N:=crZ i 3 rfl;have O:=crZ i 4 rfl;have P:=crZ i 5 rfl;have R:=crZ i 6 rfl;have V:=crZ i 7 rfl;refine bodyPost_ret (v:=.tuple #[.agg ⟨[.slice none 0 0,.slice none 0 0,.slice none 0 0,.slice none 0 0,.slice none 0 0,.slice none 0 0,.int .i64 0,.int .i64 0]⟩,.int .i64 0,.int .i64 0,.int .i64 o1]) (by simp[results,results12,go_sem,I,J,M,N,O,P,R,V]) rfl ?_;have X:=G.out;subst X;exact⟨_,rfl,λF _ _=>gU F,H.out⟩
 subst m;have C:Hid (wZ p S=0):=l5.out;by_cases D3:th<0
 ·have G:Hid ((dL,(0:Int),(0:Int),(5:Int))=r):=by show _=_;rw[<-HR.out];unfold mY;rw[if_neg (λh=>h z.out)];rw[if_neg (λh=>h C.out)];rw[if_pos D3]
  go_wp2_with (first | (refine wpList_store_row rfl 40 _ _ rfl (w.heap.size+1+1+1) #[.slice none 0 0,.slice none 0 0,.slice none 0 0,.slice none 0 0,.slice none 0 0,.slice none 0 0,.int .i64 0,.int .i64 0] rfl rfl 40 _ A.out eC rfl (oC (by simp[Value.oneCell'])) ?_) | fail);generalize l:World.setRow _ _ _=wz;have i:=shZ l A;have H:Hid (Below w.heap.size w wz):=by rw[<-l];exact Below.set_row K3.out (by omega) _
  clear l;go_wp2_with fail;have I:=crZ i 0 rfl;have J:=crZ i 1 rfl;have M:=crZ i 2 rfl;have N:=crZ i 3 rfl;have O:=crZ i 4 rfl;have P:=crZ i 5 rfl;have R:=crZ i 6 rfl;have V:=crZ i 7 rfl;refine bodyPost_ret (v:=.tuple #[.agg ⟨[.slice none 0 0,.slice none 0 0,.slice none 0 0,.slice none 0 0,.slice none 0 0,.slice none 0 0,.int .i64 0,.int .i64 0]⟩,.int .i64 0,.int .i64 0,.int .i64 5]) (by simp[results,results12,go_sem,I,J,M,N,O,P,R,V]) rfl ?_;have X:=G.out;subst X;exact⟨_,rfl,λF _ _=>gU F,H.out⟩
 obtain⟨k,rfl⟩:∃k:Nat,th=(k:Int):=⟨th.toNat,by omega⟩;clear D3;have s3:=crZ h9 3 rfl;by_cases hk:k<S.threads.length
 case neg=>
  have F2:¬(k:Int)<S.threads.length:=by omega
  have I8:(S.threads.length:Int)<=(k:Int):=by omega
  have G:Hid ((dL,(0:Int),(0:Int),(5:Int))=r):=by show _=_;rw[<-HR.out];unfold mY;rw[if_neg (λh=>h z.out)];rw[if_neg (λh=>h C.out)];rw[if_neg (show ¬(k:Int)<0 by omega),Int.toNat_natCast,List.getElem?_eq_none (by omega)]
  go_wp2_with (first | (refine wpList_store_row rfl 40 _ _ rfl (w.heap.size+1+1+1) #[.slice none 0 0,.slice none 0 0,.slice none 0 0,.slice none 0 0,.slice none 0 0,.slice none 0 0,.int .i64 0,.int .i64 0] rfl rfl 40 _ A.out eC rfl (oC (by simp[Value.oneCell'])) ?_) | fail);generalize l:World.setRow _ _ _=wz;have i:=shZ l A;have H:Hid (Below w.heap.size w wz):=by rw[<-l];exact Below.set_row K3.out (by omega) _
  clear l;go_wp2_with fail;have I:=crZ i 0 rfl;have J:=crZ i 1 rfl;have M:=crZ i 2 rfl;have N:=crZ i 3 rfl;have O:=crZ i 4 rfl;have P:=crZ i 5 rfl;have R:=crZ i 6 rfl;have V:=crZ i 7 rfl;refine bodyPost_ret (v:=.tuple #[.agg ⟨[.slice none 0 0,.slice none 0 0,.slice none 0 0,.slice none 0 0,.slice none 0 0,.slice none 0 0,.int .i64 0,.int .i64 0]⟩,.int .i64 0,.int .i64 0,.int .i64 5]) (by simp[results,results12,go_sem,I,J,M,N,O,P,R,V]) rfl ?_;have X:=G.out;subst X;exact⟨_,rfl,λF _ _=>gU F,H.out⟩
 obtain⟨h,hh⟩:∃h,S.threads[k]? = some h:=⟨_,lG hk⟩;have HH:=hI hh;have F2:(k:Int)<S.threads.length:=by omega
 have SM:Hid (yO S):=aaF (W:=cC) C.out (aa3 q2.out (by
  have h:=C.out;unfold wZ dG at h;split at h;·exact absurd h (by assumption)
  ·rename_i c;omega))
 have ST:=hI (ab5 _ _ t S (k:Int) w3 (A3.out.below K3.out) (q3.out.below K3.out) D5.out SM.out.threads);obtain⟨sb,v0⟩:∃b,gV t S (k:Int)=b:=⟨_,rfl⟩;rw[v0] at ST;have m8:=hI v0;clear v0 hh;have j1:=rrZ m7;have a2:=rrZ h9;go_wp2_with (first | (refine wpList_load_mid rfl 34 _ rfl (w.heap.size+1) 0 rfl [.int .i64 t.fn,.int .i64 t.at_,.int .i64 t.loop,.slice B1 t.ins.length m1,.slice B2 t.exits.length m2,.int .i64 t.turn.at_,.int .i64 t.turn.steps,.slice B3 t.turn.sets.length m3,.slice B4 t.turn.makes.length m4,.int .i64 t.back.at_,.int .i64 t.back.steps,.slice B5 t.back.sets.length m5,.slice B6 t.back.makes.length m6] _ j1.out underlying34 rfl rP ?_) | (refine wpList_load_mid rfl 40 _ rfl (w.heap.size+1+1) 0 rfl [.slice CA S.cells.length cc,.slice SA S.shapes.length sc,.slice XA S.texts.length xc,.slice TA S.threads.length tc,.slice EA S.ends.length ec,.slice AA S.said.length ac,.int .i64 S.asked,.int .i64 S.steps] _ a2.out underlying40 rfl eC ?_) | fail);clear j1 a2 s3;refine ST.out.mono ?_;rintro e w4 ⟨rfl,k4⟩;have K4:=btZ K3 k4;have y1:=rkZ x7 k4;have y2:=rkZ m7 k4;have n0:=rkZ h9 k4;have Y:=rkZ A k4;have j2:Hid (w.heap.size+4<=w4.heap.size):=by have:=(k4.size:w3.heap.size<=w4.heap.size);have:=aV A.out;show _<=_;omega
 clear k4;have F4:Hid ((match if(k:Int)<0 then none else S.threads[(k:Int).toNat]? with | none=>(none:Option bW) | some h=>some h)=some h):=by
  show _=_
  rw[if_neg (show ¬(k:Int)<0 by omega),Int.toNat_natCast,HH.out]
 cases sb with
 | false=>
  have G:Hid ((dL,(0:Int),(0:Int),(8:Int))=r):=by
   show _=_
   rw[<-HR.out];unfold mY
   rw[if_neg (λh=>h z.out)];rw[if_neg (λh=>h C.out)];rw[if_neg (show ¬(k:Int)<0 by omega),Int.toNat_natCast,HH.out];dsimp only;rw[if_pos m8.out]
  go_wp2_with (first | (refine wpList_store_row rfl 40 _ _ rfl (w.heap.size+1+1+1) #[.slice none 0 0,.slice none 0 0,.slice none 0 0,.slice none 0 0,.slice none 0 0,.slice none 0 0,.int .i64 0,.int .i64 0] rfl rfl 40 _ Y.out eC rfl (oC (by simp[Value.oneCell'])) ?_) | fail)
  generalize l:World.setRow _ _ _=wz
  have i:=shZ l Y
  have H:Hid (Below w.heap.size w wz):=by rw[<-l];exact Below.set_row K4.out (by omega) _
  clear l
  go_wp2_with fail
  have I:=crZ i 0 rfl
  have J:=crZ i 1 rfl
  have M:=crZ i 2 rfl
  have N:=crZ i 3 rfl
  have O:=crZ i 4 rfl
  have P:=crZ i 5 rfl
  have R:=crZ i 6 rfl
  have V:=crZ i 7 rfl
  refine bodyPost_ret (v:=.tuple #[.agg ⟨[.slice none 0 0,.slice none 0 0,.slice none 0 0,.slice none 0 0,.slice none 0 0,.slice none 0 0,.int .i64 0,.int .i64 0]⟩,.int .i64 0,.int .i64 0,.int .i64 8]) (by simp[results,results12,go_sem,I,J,M,N,O,P,R,V]) rfl ?_
  have X:=G.out
  subst X
  exact⟨_,rfl,λF _ _=>gU F,H.out⟩
 | true=>
  have k6:Hid (¬gV t S (k:Int)=false):=by show ¬_;rw[m8.out];decide
  by_cases D4:tu<0
  ·have G:Hid ((dL,(0:Int),(0:Int),(1:Int))=r):=by
    show _=_
    rw[<-HR.out];unfold mY
    rw[if_neg (λh=>h z.out)];rw[if_neg (λh=>h C.out)];rw[if_neg (show ¬(k:Int)<0 by omega),Int.toNat_natCast,HH.out];dsimp only;rw[if_neg k6.out,if_pos (.inl D4)]
   go_wp2_with (first | (refine wpList_store_row rfl 40 _ _ rfl (w.heap.size+1+1+1) #[.slice none 0 0,.slice none 0 0,.slice none 0 0,.slice none 0 0,.slice none 0 0,.slice none 0 0,.int .i64 0,.int .i64 0] rfl rfl 40 _ Y.out eC rfl (oC (by simp[Value.oneCell'])) ?_) | fail)
   generalize l:World.setRow _ _ _=wz
   have i:=shZ l Y
   have H:Hid (Below w.heap.size w wz):=by rw[<-l];exact Below.set_row K4.out (by omega) _
   clear l
   go_wp2_with fail
   have I:=crZ i 0 rfl
   have J:=crZ i 1 rfl
   have M:=crZ i 2 rfl
   have N:=crZ i 3 rfl
   have O:=crZ i 4 rfl
   have P:=crZ i 5 rfl
   have R:=crZ i 6 rfl
   have V:=crZ i 7 rfl
   refine bodyPost_ret (v:=.tuple #[.agg ⟨[.slice none 0 0,.slice none 0 0,.slice none 0 0,.slice none 0 0,.slice none 0 0,.slice none 0 0,.int .i64 0,.int .i64 0]⟩,.int .i64 0,.int .i64 0,.int .i64 1]) (by simp[results,results12,go_sem,I,J,M,N,O,P,R,V]) rfl ?_
   have X:=G.out
   subst X
   exact⟨_,rfl,λF _ _=>gU F,H.out⟩
  obtain⟨n,rfl⟩:∃n:Nat,tu=(n:Int):=⟨tu.toNat,by omega⟩
  by_cases hn:n<=1000
  case neg=>
   have q8:(1000:Int)<(n:Int):=by omega
   have G:Hid ((dL,(0:Int),(0:Int),(1:Int))=r):=by
    show _=_
    rw[<-HR.out];unfold mY
    rw[if_neg (λh=>h z.out)];rw[if_neg (λh=>h C.out)];rw[if_neg (show ¬(k:Int)<0 by omega),Int.toNat_natCast,HH.out];dsimp only;rw[if_neg k6.out,if_pos (.inr q8)]
   go_wp2_with (first | (refine wpList_store_row rfl 40 _ _ rfl (w.heap.size+1+1+1) #[.slice none 0 0,.slice none 0 0,.slice none 0 0,.slice none 0 0,.slice none 0 0,.slice none 0 0,.int .i64 0,.int .i64 0] rfl rfl 40 _ Y.out eC rfl (oC (by simp[Value.oneCell'])) ?_) | fail)
   generalize l:World.setRow _ _ _=wz
   have i:=shZ l Y
   have H:Hid (Below w.heap.size w wz):=by rw[<-l];exact Below.set_row K4.out (by omega) _
   clear l
   go_wp2_with fail
   have I:=crZ i 0 rfl
   have J:=crZ i 1 rfl
   have M:=crZ i 2 rfl
   have N:=crZ i 3 rfl
   have O:=crZ i 4 rfl
   have P:=crZ i 5 rfl
   have R:=crZ i 6 rfl
   have V:=crZ i 7 rfl
   refine bodyPost_ret (v:=.tuple #[.agg ⟨[.slice none 0 0,.slice none 0 0,.slice none 0 0,.slice none 0 0,.slice none 0 0,.slice none 0 0,.int .i64 0,.int .i64 0]⟩,.int .i64 0,.int .i64 0,.int .i64 1]) (by simp[results,results12,go_sem,I,J,M,N,O,P,R,V]) rfl ?_
   have X:=G.out
   subst X
   exact⟨_,rfl,λF _ _=>gU F,H.out⟩
  have q8:¬(1000:Int)<(n:Int):=by omega
  obtain⟨f,o3,E2,C8,E3⟩:∃f,h.frames.getLast? = some f/\h.state=0/\f.fn=t.fn/\f.at_=t.at_:=by
   have hs:=m8.out
   unfold gV at hs
   rw[if_neg (show ¬(k:Int)<0 by omega),Int.toNat_natCast,HH.out] at hs
   dsimp only at hs
   split at hs
   ·cases hs
   ·rename_i f e
    simp only[Bool.and_eq_true,beq_iff_eq] at hs
    exact⟨f,e,hs.1.1,hs.1.2,hs.2⟩
  have F5:=hI C8
  have i0:=hI o3
  have n1:Hid ((if(bQ cJ t f.self S.shapes n 0 (cL t S f)).2.2.2=2 then(dL,(0:Int),(0:Int),(8:Int)) else if 1000000000<S.steps+(bQ cJ t f.self S.shapes n 0 (cL t S f)).1.steps then(dL,0,0,2) else(gX S k (bQ cJ t f.self S.shapes n 0 (cL t S f)).1,(bQ cJ t f.self S.shapes n 0 (cL t S f)).2.1,(bQ cJ t f.self S.shapes n 0 (cL t S f)).2.2.1,0))=r):=by
   have h:=HR.out
   unfold mY at h
   rw[if_neg (λh=>h z.out),if_neg (λh=>h C.out),if_neg (show ¬(k:Int)<0 by omega),Int.toNat_natCast,HH.out] at h
   dsimp only at h
   rw[if_neg k6.out,if_neg (λh=>h.elim D4 q8),i0.out] at h
   exact h
  clear o3 E2 C8 E3 m8 HR F4
  have OC:=hI (xG _ S w4 (q3.out.below K4.out) SM.out)
  have a2:=rrZ n0
  go_wp2_with (first | (refine wpList_load_mid rfl 40 _ rfl (w.heap.size+1+1) 0 rfl [.slice CA S.cells.length cc,.slice SA S.shapes.length sc,.slice XA S.texts.length xc,.slice TA S.threads.length tc,.slice EA S.ends.length ec,.slice AA S.said.length ac,.int .i64 S.asked,.int .i64 S.steps] _ a2.out underlying40 rfl eC ?_) | fail)
  clear a2
  refine OC.out.mono ?_
  rintro e w5 ⟨N2,co,lo,cv,N3,rows,p0,shv,N4,N5,N6,rfl,Z,k5⟩
  have K5:=btZ K4 k5
  have I6:=rkZ y1 k5
  have y3:=rkZ y2 k5
  have n2:=rkZ n0 k5
  have y4:=rkZ Y k5
  have O5:=hI Z
  have F7:Hid (w4.heap.size<=w5.heap.size):=k5.size
  have F8:=Z.cells
  obtain⟨CG,cg,rfl⟩:=bV Z.crow
  obtain⟨TG,tg,rfl⟩:=bV Z.trow
  obtain⟨U5,c5,rfl,-⟩:=id Z.shapes
  obtain⟨U6,c6,rfl,-⟩:=id Z.texts
  obtain⟨U7,c7,rfl,-⟩:=id Z.ends
  obtain⟨U8,c8,rfl,-⟩:=id Z.said
  subst F8
  clear Z k5
  go_upto_region 14 with (first | (refine wpList_store_row rfl 40 _ _ rfl (w.heap.size+1+1) #[.slice CG S.cells.length cg,.slice U5 S.shapes.length c5,.slice U6 S.texts.length c6,.slice TG S.threads.length tg,.slice U7 S.ends.length c7,.slice U8 S.said.length c8,.int .i64 S.asked,.int .i64 S.steps] rfl rfl 40 _ n2.out eC rfl (oC (by simp[Value.oneCell'])) ?_) | fail)
  generalize g3:World.setRow _ _ _=w6
  have K6:Hid (Below w.heap.size w w6):=by rw[<-g3];exact Below.set_row K5.out (by omega) _
  have f0:=shZ g3 n2
  have i1:=soZ g3 y3 (by omega)
  have y5:=soZ g3 y4 (by omega)
  have s0:w6.heap.size=w5.heap.size:=by rw[<-g3];simp
  have O6:Hid (sL w6 w4.heap.size [.slice CG S.cells.length cg,.slice U5 S.shapes.length c5,.slice U6 S.texts.length c6,.slice TG S.threads.length tg,.slice U7 S.ends.length c7,.slice U8 S.said.length c8,.int .i64 S.asked,.int .i64 S.steps] S co lo (.slice CG S.cells.length cg) (.slice TG S.threads.length tg) rows p0 (.slice U5 S.shapes.length c5) (.slice U6 S.texts.length c6) (.slice U7 S.ends.length c7) (.slice U8 S.said.length c8)):=O5.out.kept (λb hb _=>by rw[<-g3];exact setRow_other _ _ _ _ (by have:=j2.out;omega)) s0
  have A4:Hid (w4.heap.size<=w6.heap.size):=by show _<=_;rw[s0];exact F7.out
  clear g3 s0 O5
  (try dsimp only [Act.put])
  obtain⟨tf,htf,rs,ts,o7⟩:=O6.out.tpart k h HH.out
  obtain⟨j,hj⟩:∃j,h.frames.length=j+1:=by
   cases e:h.frames.length with
   | zero=>have:=i0.out;rw[List.length_eq_zero_iff.1 e] at this;cases this
   | succ j=>exact⟨j,rfl⟩
  have A5:h.frames[j]? = some f:=by have m:=i0.out;rw[List.getLast?_eq_getElem?,hj] at m;exact m
  obtain⟨fb,v2,i6,-,M8⟩:=o7.at_.row.form (by omega)
  rw[hj] at i6
  obtain⟨rv,hrv⟩:∃rv,rs[j]? = some rv:=⟨_,lG (by rw[o7.at_.lr,hj];omega)⟩
  obtain⟨a3,M9,v3,-,M0⟩:=O6.out.trow.form (by omega)
  injection v3 with v3 _ I5
  subst v3
  subst I5
  have s3:=crZ f0 3 rfl
  have q0:w6.cell? ⟨a3,k*5,none⟩=some (.slice (some ⟨fb,0,none⟩) (j+1) v2):=by
   have m:=O6.out.trow.cellAt (k*5+0) (by omega)
   rw[b9 _ k 0 _ O6.out.t5 htf (by decide)] at m
   rw[<-i6]
   exact m
  have HJ:=hI hj
  have A6:=hI A5
  have G0:=hI htf
  have G1:=hI o7
  have D7:=hI i6
  have G2:=hI hrv
  clear htf o7 hj A5 i6 hrv
  go_upto_region 15 with fail
  clear s3 q0
  have G3:j+1<=30:=by have m:=(SM.out.tframes h (lM HH.out)).1;rw[HJ.out] at m;exact m
  have G4:wrap64 (j:Int)=(j:Int):=by unfold wrap64;omega
  have G5:(j:Int)<(j:Int)+1:=by omega
  have G6:t.ins.length<=300:=by obtain⟨m,-⟩:=gZ z.out;exact m
  have A7:Hid (∀E:Up w6,E.to.rangeAt (w.heap.size+1) 0 [.int .i64 t.fn,.int .i64 t.at_,.int .i64 t.loop,.slice B1 t.ins.length m1,.slice B2 t.exits.length m2,.int .i64 t.turn.at_,.int .i64 t.turn.steps,.slice B3 t.turn.sets.length m3,.slice B4 t.turn.makes.length m4,.int .i64 t.back.at_,.int .i64 t.back.steps,.slice B5 t.back.sets.length m5,.slice B6 t.back.makes.length m6]):=λE=>(aeA ((E.below.block _ (aV i1.out)).trans i1.out)).range
  have d0:=ecZ (crZ f0 0 rfl)
  have d1:=ecZ (crZ f0 1 rfl)
  have d3:=ecZ (crZ i1 3 rfl)
  refine cV (λw'=>∃E:Up w6,w'=E.to) 13 [13,14,15,16] [13] (by kernel_rfl) (by decide) (by kernel_rfl) (λ_ _ d _ _ h=>by cases d <;> exact h) ⟨⟨_,(Below.refl _ w6).drew⟩,rfl⟩ ?_
  simp only[List.take_succ_cons,List.take_zero]
  generalize k1:(λa'=>gA _ _ _ _ _ _ a' _)=qq
  have j3:=hI k1
  clear k1
  repeat (first
   | (refine aO 34 _ rfl rfl (w.heap.size+1) 0 rfl [.int .i64 t.fn,.int .i64 t.at_,.int .i64 t.loop,.slice B1 t.ins.length m1,.slice B2 t.exits.length m2,.int .i64 t.turn.at_,.int .i64 t.turn.steps,.slice B3 t.turn.sets.length m3,.slice B4 t.turn.makes.length m4,.int .i64 t.back.at_,.int .i64 t.back.steps,.slice B5 t.back.sets.length m5,.slice B6 t.back.makes.length m6] _ A7.out underlying34 rfl rP ?_;go_simp)
   | go_big_quiet_step (fail))
  refine wpQuiet_nil ?_
  rw[<-j3.out]
  clear j3 qq d0 d1 d3 A7
  have G7:=λW=>mk_vals t.ins.length (by omega) W
  refine bA rfl (λK hK=>?_)
  go_simp
  obtain⟨y,o8⟩:∃y,y=(w6.alloc (.cells ⟨(List.replicate t.ins.length (⟨0,0⟩:Val)).flatMap aZ⟩ 48)).drew:=⟨_,rfl⟩
  have KA:Hid (Below w6.heap.size w6 y):=by rw[o8];exact((Below.refl _ w6).alloc (Nat.le_refl _) _).drew
  have BA:Hid (y.heap[w6.heap.size]? = some (.cells ⟨(List.replicate t.ins.length (⟨0,0⟩:Val)).flatMap aZ⟩ 48 (0,0))):=by rw[o8];exact aJ w6 _
  have A8:=hI o8
  clear o8 G7
  refine hK _ _ (λ_=>⟨⟨y,KA.out⟩,A8.out.symm⟩) ?_
  clear hK K
  have s2:w6.drew.heap.size=w6.heap.size:=rfl
  (try rw[s2])
  rw[<-A8.out]
  clear s2
  refine bP [14,15,16] _ _ (by kernel_rfl) (by kernel_rfl) ?_
  simp only[List.filterMap_cons,List.filterMap_nil,List.getElem?_toArray,List.getElem?_cons_zero,List.getElem?_cons_succ]
  obtain⟨w8,o9⟩:∃w8,w8=y.alloc (.cells #[.int .i64 t.fn,.int .i64 t.at_,.int .i64 t.loop,.slice B1 t.ins.length m1,.slice B2 t.exits.length m2,.int .i64 t.turn.at_,.int .i64 t.turn.steps,.slice B3 t.turn.sets.length m3,.slice B4 t.turn.makes.length m4,.int .i64 t.back.at_,.int .i64 t.back.steps,.slice B5 t.back.sets.length m5,.slice B6 t.back.makes.length m6,.slice CG S.cells.length cg,.slice U5 S.shapes.length c5,.pointer (some ⟨fb,j*8,none⟩),.int .i64 0,.slice (some ⟨w6.heap.size,0,none⟩) t.ins.length t.ins.length] 85):=⟨_,rfl⟩
  have A9:Hid (Below y.heap.size y w8):=by rw[o9];exact aB _ _
  have B8:Hid (w8.heap[y.heap.size]? = some (.cells #[.int .i64 t.fn,.int .i64 t.at_,.int .i64 t.loop,.slice B1 t.ins.length m1,.slice B2 t.exits.length m2,.int .i64 t.turn.at_,.int .i64 t.turn.steps,.slice B3 t.turn.sets.length m3,.slice B4 t.turn.makes.length m4,.int .i64 t.back.at_,.int .i64 t.back.steps,.slice B5 t.back.sets.length m5,.slice B6 t.back.makes.length m6,.slice CG S.cells.length cg,.slice U5 S.shapes.length c5,.pointer (some ⟨fb,j*8,none⟩),.int .i64 0,.slice (some ⟨w6.heap.size,0,none⟩) t.ins.length t.ins.length] 85 (0,0))):=by rw[o9];exact aJ _ _
  have n3:=btZ KA A9.out
  have K8:=btZ K6 n3.out
  have n4:=rkZ f0 n3.out
  have n5:=rkZ y5 n3.out
  have H0:=hI o9
  have s4:Hid (w6.heap.size<y.heap.size):=aV BA.out
  clear o9
  go_upto_region 16 with fail
  rw[<-H0.out]
  clear G4 G5
  have VR:Hid (w8.ownsRow w6.heap.size 48 2 (.slice (some ⟨w6.heap.size,0,none⟩) t.ins.length t.ins.length) t.ins.length ((List.replicate t.ins.length (⟨0,0⟩:Val)).flatMap aZ)):=by
   have s5:((List.replicate t.ins.length (⟨0,0⟩:Val)).flatMap aZ).length=t.ins.length*2:=by
    rw[<-dI,vT (size:=2) _ (λr hr=>by obtain⟨x,-,rfl⟩:=List.mem_map.1 hr;rfl),List.length_map,List.length_replicate]
   refine⟨s5,.inr ⟨w6.heap.size,t.ins.length,_,rfl,Nat.le_refl _,(A9.out.block _ s4.out).trans BA.out,Nat.le_refl _,by unfold maxLen;omega,s5,?_⟩⟩
   show List.take _ ((List.replicate t.ins.length (⟨0,0⟩:Val)).flatMap aZ)=_
   rw[<-s5,List.take_length]
  have a9:Hid (cH w6 w8 w.heap.size w4.heap.size [.slice CG S.cells.length cg,.slice U5 S.shapes.length c5,.slice U6 S.texts.length c6,.slice (some ⟨a3,0,none⟩) S.threads.length tg,.slice U7 S.ends.length c7,.slice U8 S.said.length c8,.int .i64 S.asked,.int .i64 S.steps] S co lo (.slice CG S.cells.length cg) (.slice (some ⟨a3,0,none⟩) S.threads.length tg) rows p0 (.slice U5 S.shapes.length c5) (.slice U6 S.texts.length c6) (.slice U7 S.ends.length c7) (.slice U8 S.said.length c8) k h f j fb v2 y.heap.size tf rv (.slice (some ⟨w6.heap.size,0,none⟩) t.ins.length t.ins.length) rs ts [.int .i64 t.fn,.int .i64 t.at_,.int .i64 t.loop,.slice B1 t.ins.length m1,.slice B2 t.exits.length m2,.int .i64 t.turn.at_,.int .i64 t.turn.steps,.slice B3 t.turn.sets.length m3,.slice B4 t.turn.makes.length m4,.int .i64 t.back.at_,.int .i64 t.back.steps,.slice B5 t.back.sets.length m5,.slice B6 t.back.makes.length m6] t):=
   { own:=O6.out,hB:=by have:=j2.out;omega,hO:=A4.out,below:=n3.out,hth:=HH.out,hl:=HJ.out,hf:=A6.out,ht:=G0.out,fin:=G1.out,htf:=D7.out,hrv:=G2.out,vrow:=VR.out,wrow:=B8.out,wnew:=Nat.le_of_lt s4.out,tl:=rfl,tr:=A3.out.keep (Nat.le_refl _) (λ_ hp=>K8.out.cell hp) }
  obtain⟨fn,-,k7,C9⟩:=yJ z.out
  have s6:(cL t S f).regs.length=fn.regs.toNat:=by
   have m:=xY ((oQ C.out).2 h (lM HH.out) f (lM A6.out))
   rw[F5.out] at m
   unfold gD at m
   rw[List.getElem?_map] at k7
   obtain⟨g,hg,rfl⟩:=Option.map_eq_some_iff.1 k7
   rw[hg] at m
   have h3:(f.regs.length:Int)=g.regs:=m
   show f.regs.length=g.regs.toNat
   omega
  have LM:Lim t fn.regs.toNat (cL t S f):=⟨by simp[cL],SM.out.cells,s6⟩
  have RC:=hI (run_c a9.out.fix a9.out.lay C9 (qI z.out) LM hn rfl)
  have i2:=hI (λhw=>aaN z.out cJ f.self S.shapes (turns:=n) hn (W:=cL t S f) rfl hw)
  have M6:=(oQ C.out).1
  obtain⟨D,ex,dn,how,hD⟩:∃D ex dn how,bQ cJ t f.self S.shapes n 0 (cL t S f)=(D,ex,dn,how):=⟨_,_,_,_,rfl⟩
  have B7:bQ cJ (sD w8 w.heap.size w4.heap.size (.slice CG S.cells.length cg) rows (.slice U5 S.shapes.length c5) S f j fb y.heap.size rv (.slice (some ⟨w6.heap.size,0,none⟩) t.ins.length t.ins.length) [.int .i64 t.fn,.int .i64 t.at_,.int .i64 t.loop,.slice B1 t.ins.length m1,.slice B2 t.exits.length m2,.int .i64 t.turn.at_,.int .i64 t.turn.steps,.slice B3 t.turn.sets.length m3,.slice B4 t.turn.makes.length m4,.int .i64 t.back.at_,.int .i64 t.back.steps,.slice B5 t.back.sets.length m5,.slice B6 t.back.makes.length m6] t).t (sD w8 w.heap.size w4.heap.size (.slice CG S.cells.length cg) rows (.slice U5 S.shapes.length c5) S f j fb y.heap.size rv (.slice (some ⟨w6.heap.size,0,none⟩) t.ins.length t.ins.length) [.int .i64 t.fn,.int .i64 t.at_,.int .i64 t.loop,.slice B1 t.ins.length m1,.slice B2 t.exits.length m2,.int .i64 t.turn.at_,.int .i64 t.turn.steps,.slice B3 t.turn.sets.length m3,.slice B4 t.turn.makes.length m4,.int .i64 t.back.at_,.int .i64 t.back.steps,.slice B5 t.back.sets.length m5,.slice B6 t.back.makes.length m6] t).self (sD w8 w.heap.size w4.heap.size (.slice CG S.cells.length cg) rows (.slice U5 S.shapes.length c5) S f j fb y.heap.size rv (.slice (some ⟨w6.heap.size,0,none⟩) t.ins.length t.ins.length) [.int .i64 t.fn,.int .i64 t.at_,.int .i64 t.loop,.slice B1 t.ins.length m1,.slice B2 t.exits.length m2,.int .i64 t.turn.at_,.int .i64 t.turn.steps,.slice B3 t.turn.sets.length m3,.slice B4 t.turn.makes.length m4,.int .i64 t.back.at_,.int .i64 t.back.steps,.slice B5 t.back.sets.length m5,.slice B6 t.back.makes.length m6] t).shapes n 0 (cL t S f)=(D,ex,dn,how):=hD
  rw[B7] at RC
  rw[hD] at i2 n1
  unfold RPost at RC
  dsimp only at RC i2 n1
  clear hD B7 k7 C9 s6 LM G6 G3
  go_wp2_with fail
  refine RC.out.mono ?_
  rintro e w9 ⟨rfl,⟨N7,v4,v5,v9,w0⟩,a4⟩
  have L9:=hI w0
  have M7:=hI a4
  have n6:Hid (w9.heap[(w.heap.size+1+1)]? = some (.cells #[.slice CG S.cells.length cg,.slice U5 S.shapes.length c5,.slice U6 S.texts.length c6,.slice (some ⟨a3,0,none⟩) S.threads.length tg,.slice U7 S.ends.length c7,.slice U8 S.said.length c8,.int .i64 S.asked,.int .i64 S.steps] 40 (0,0))):=(a4.block _ _ _ _ n4.out (by decide) (by decide) (by decide) (by decide)).trans n4.out
  have f7:Hid (w9.heap[(w.heap.size+1+1+1)]? = some (.cells #[.slice none 0 0,.slice none 0 0,.slice none 0 0,.slice none 0 0,.slice none 0 0,.slice none 0 0,.int .i64 0,.int .i64 0] 40 (0,0))):=(a4.block _ _ _ _ n5.out (by decide) (by decide) (by decide) (by decide)).trans n5.out
  have K9:Hid (Below w.heap.size w w9):=⟨a4.os.trans K8.out.os,a4.tape.trans K8.out.tape,a4.output.trans K8.out.output,Nat.le_trans K8.out.size a4.size,λb hb=>(w0.fixed b (a9.out.q_old hb)).trans (K8.out.block b hb)⟩
  clear w0 a4
  by_cases h8:how=2
  ·have G:Hid ((dL,(0:Int),(0:Int),(8:Int))=r):=by have m:=n1.out;rw[if_pos h8] at m;exact m
   subst h8
   go_wp2_with (first | (refine wpList_store_row rfl 40 _ _ rfl (w.heap.size+1+1+1) #[.slice none 0 0,.slice none 0 0,.slice none 0 0,.slice none 0 0,.slice none 0 0,.slice none 0 0,.int .i64 0,.int .i64 0] rfl rfl 40 _ f7.out eC rfl (oC (by simp[Value.oneCell'])) ?_) | fail)
   generalize l:World.setRow _ _ _=wz
   have i:=shZ l f7
   have H:Hid (Below w.heap.size w wz):=by rw[<-l];exact Below.set_row K9.out (by omega) _
   clear l
   go_wp2_with fail
   have I:=crZ i 0 rfl
   have J:=crZ i 1 rfl
   have M:=crZ i 2 rfl
   have N:=crZ i 3 rfl
   have O:=crZ i 4 rfl
   have P:=crZ i 5 rfl
   have R:=crZ i 6 rfl
   have V:=crZ i 7 rfl
   refine bodyPost_ret (v:=.tuple #[.agg ⟨[.slice none 0 0,.slice none 0 0,.slice none 0 0,.slice none 0 0,.slice none 0 0,.slice none 0 0,.int .i64 0,.int .i64 0]⟩,.int .i64 0,.int .i64 0,.int .i64 8]) (by simp[results,results12,go_sem,I,J,M,N,O,P,R,V]) rfl ?_
   have X:=G.out
   subst X
   exact⟨_,rfl,λF _ _=>gU F,H.out⟩
  obtain⟨H9,N0,N1⟩:=i2.out h8
  subst H9
  have J7:wrap64 (S.steps+D.steps)=S.steps+D.steps:=by unfold wrap64;omega
  have B9:Hid ((if 1000000000<S.steps+D.steps then(dL,(0:Int),(0:Int),(2:Int)) else(gX S k D,ex,dn,0))=r):=by have m:=n1.out;rw[if_neg h8] at m;exact m
  clear h8
  obtain⟨CN,cn,rfl⟩:=bV L9.out.crow
  go_upto_region 19 with fail
  have d7:=ecZ (crZ n6 7 rfl)
  have n7:∀E:Up w9,E.to.cell? ⟨y.heap.size,16,none⟩=some (.int .i64 D.steps):=λE=>E.cell (L9.out.own a9.out.fix 3)
  by_cases x2:1000000000<S.steps+D.steps
  ·have G:Hid ((dL,(0:Int),(0:Int),(2:Int))=r):=by have m:=B9.out;rw[if_pos x2] at m;exact m
   refine aD (by kernel_rfl) (by kernel_rfl) ?_
   repeat (go_big_quiet_step (fail))
   refine wpQuiet_nil ?_
   rintro _ ⟨E,rfl⟩
   obtain⟨wA,kA⟩:=E
   dsimp only
   have n8:=btZ K9 kA
   have f8:=rkZ f7 kA
   clear kA d7 n7
   go_wp2_with (first | (refine wpList_store_row rfl 40 _ _ rfl (w.heap.size+1+1+1) #[.slice none 0 0,.slice none 0 0,.slice none 0 0,.slice none 0 0,.slice none 0 0,.slice none 0 0,.int .i64 0,.int .i64 0] rfl rfl 40 _ f8.out eC rfl (oC (by simp[Value.oneCell'])) ?_) | fail)
   generalize l:World.setRow _ _ _=wz
   have i:=shZ l f8
   have H:Hid (Below w.heap.size w wz):=by rw[<-l];exact Below.set_row n8.out (by omega) _
   clear l
   go_wp2_with fail
   have I:=crZ i 0 rfl
   have J:=crZ i 1 rfl
   have M:=crZ i 2 rfl
   have N:=crZ i 3 rfl
   have O:=crZ i 4 rfl
   have P:=crZ i 5 rfl
   have R:=crZ i 6 rfl
   have V:=crZ i 7 rfl
   refine bodyPost_ret (v:=.tuple #[.agg ⟨[.slice none 0 0,.slice none 0 0,.slice none 0 0,.slice none 0 0,.slice none 0 0,.slice none 0 0,.int .i64 0,.int .i64 0]⟩,.int .i64 0,.int .i64 0,.int .i64 2]) (by simp[results,results12,go_sem,I,J,M,N,O,P,R,V]) rfl ?_
   have X:=G.out
   subst X
   exact⟨_,rfl,λF _ _=>gU F,H.out⟩
  have G:Hid ((gX S k D,ex,dn,(0:Int))=r):=by have m:=B9.out;rw[if_neg x2] at m;exact m
  refine aD (by kernel_rfl) (by kernel_rfl) ?_
  repeat (go_big_quiet_step (fail))
  refine wpQuiet_nil ?_
  rintro _ ⟨E,rfl⟩
  obtain⟨wA,kA⟩:=E
  dsimp only
  have n8:=btZ K9 kA
  have f8:=rkZ f7 kA
  have b0:=rkZ n6 kA
  have LA:=hI (L9.out.below a9.out.fix kA)
  clear kA d7 n7
  go_upto_region 21 with fail
  obtain⟨L,hL⟩:∃L:List (Addr×Value),L=[(⟨y.heap.size,13,none⟩,.slice CN D.cells.length cn),(⟨y.heap.size,16,none⟩,.int .i64 D.steps),(⟨(w.heap.size+1+1),7,none⟩,.int .i64 S.steps)]:=⟨_,rfl⟩
  have C0:(w.heap.size+1+1)≠y.heap.size:=by have:=A4.out;have:=j2.out;have:=s4.out;omega
  have j4:Hid (∀p∈L,wA.cell? p.1=some p.2/\p.1.block<wA.heap.size):=by
   show ∀p∈L,_
   rw[hL]
   intro p hp
   simp only[List.mem_cons,List.not_mem_nil,or_false] at hp
   rcases hp with rfl | rfl | rfl
   ·exact⟨LA.out.own a9.out.fix 0,aV LA.out.row⟩
   ·exact⟨LA.out.own a9.out.fix 3,aV LA.out.row⟩
   ·exact⟨cell_of_row wA _ 7 _ _ _ b0.out,aV b0.out⟩
  have t1:Hid (∀W',Below wA.heap.size wA W'->∃E:cI L,W'=E.wd):=λW' k=>⟨⟨W',λp hp=>(k.cell (j4.out p hp).2).trans (j4.out p hp).1⟩,rfl⟩
  have C1:Hid (∀W' u,Below wA.heap.size wA W'->∃E:cI L,W'.setCell ⟨(w.heap.size+1+1),0,none⟩ u=E.wd):=λW' u k=>by
   have E0:W'.heap[(w.heap.size+1+1)]? = some (.cells #[.slice CG S.cells.length cg,.slice U5 S.shapes.length c5,.slice U6 S.texts.length c6,.slice (some ⟨a3,0,none⟩) S.threads.length tg,.slice U7 S.ends.length c7,.slice U8 S.said.length c8,.int .i64 S.asked,.int .i64 S.steps] 40 (0,0)):=(k.block _ (aV b0.out)).trans b0.out
   refine⟨⟨W'.setCell ⟨(w.heap.size+1+1),0,none⟩ u,λp hp=>?_⟩,rfl⟩
   have h1:=(k.cell (j4.out p hp).2).trans (j4.out p hp).1
   rw[hL] at hp
   simp only[List.mem_cons,List.not_mem_nil,or_false] at hp
   rcases hp with rfl | rfl | rfl
   ·exact(World.cell?_of_block (heap_setCell_other _ _ _ _ (Ne.symm C0))).trans h1
   ·exact(World.cell?_of_block (heap_setCell_other _ _ _ _ (Ne.symm C0))).trans h1
   ·rw[cell_of_row _ _ 7 _ _ _ (heap_setCell_same _ _ _ _ _ _ E0)];rfl
  have H2:∀E:cI L,E.wd.cell? ⟨y.heap.size,13,none⟩=some (.slice CN D.cells.length cn):=λE=>E.here (_,_) (by rw[hL];simp)
  have n7:∀E:cI L,E.wd.cell? ⟨y.heap.size,16,none⟩=some (.int .i64 D.steps):=λE=>E.here (_,_) (by rw[hL];simp)
  have d7:∀E:cI L,E.wd.cell? ⟨(w.heap.size+1+1),7,none⟩=some (.int .i64 S.steps):=λE=>E.here (_,_) (by rw[hL];simp)
  clear hL
  haveI:Nonempty (cI L):=⟨(t1.out wA (Below.refl _ _)).choose⟩
  refine cV (λw'=>∃E:cI L,w'=E.wd) 12 [12,13,14] [12] (by kernel_rfl) (by decide) (by kernel_rfl) (λ_ _ d _ _ h=>by cases d <;> exact h) (t1.out _ (Below.refl _ wA).drew) ?_
  simp only[List.take_succ_cons,List.take_zero]
  generalize k1:(λa'=>gA _ _ _ _ _ _ a' _)=qq
  have j3:=hI k1
  clear k1
  repeat (go_big_quiet_step (fail))
  refine wpQuiet_nil ?_
  rw[<-j3.out]
  clear j3 qq d7 H2 n7
  obtain⟨wd,k0⟩:∃wd,wd=wA.drew:=⟨_,rfl⟩
  have KD:Hid (Below wA.heap.size wA wd):=by rw[k0];exact(Below.refl _ wA).drew
  have f9:Hid (wd.heap[(w.heap.size+1+1)]? = some (.cells #[.slice CG S.cells.length cg,.slice U5 S.shapes.length c5,.slice U6 S.texts.length c6,.slice (some ⟨a3,0,none⟩) S.threads.length tg,.slice U7 S.ends.length c7,.slice U8 S.said.length c8,.int .i64 S.asked,.int .i64 S.steps] 40 (0,0))):=by rw[k0];exact b0.out
  have z1:Hid (wd.heap[(w.heap.size+1+1+1)]? = some (.cells #[.slice none 0 0,.slice none 0 0,.slice none 0 0,.slice none 0 0,.slice none 0 0,.slice none 0 0,.int .i64 0,.int .i64 0] 40 (0,0))):=by rw[k0];exact f8.out
  rw[<-k0]
  clear k0
  have e0:=crZ f9 0 rfl
  have z0:wd.frozen? ⟨(w.heap.size+1+1),0,none⟩=false:=frozen_of_row wd _ _ _ _ f9.out
  refine bA rfl (λK hK=>?_)
  go_simp
  refine hK _ _ (λ_=>C1.out wd _ KD.out) ?_
  clear hK K t1 C1 j4 e0 z0
  generalize h0:World.setCell _ _ _=wB
  have hbs:¬QOf w8 w.heap.size w4.heap.size y.heap.size fb rv (.slice (some ⟨w6.heap.size,0,none⟩) t.ins.length t.ins.length) (.slice CG S.cells.length cg) (hM rows) (w.heap.size+1+1):=λhq=>by
   have h1:=hq.1.2
   have:=j2.out
   omega
  have C2:¬QOf w8 w.heap.size w4.heap.size y.heap.size fb rv (.slice (some ⟨w6.heap.size,0,none⟩) t.ins.length t.ins.length) (.slice CG S.cells.length cg) (hM rows) (w.heap.size+1+1+1):=λhq=>by
   have h1:=hq.1.2
   have:=j2.out
   omega
  have H3:=hI C2
  have C3:=hI hbs
  have g0:Hid (wB.heap[(w.heap.size+1+1)]? = some (.cells #[.slice CN D.cells.length cn,.slice U5 S.shapes.length c5,.slice U6 S.texts.length c6,.slice (some ⟨a3,0,none⟩) S.threads.length tg,.slice U7 S.ends.length c7,.slice U8 S.said.length c8,.int .i64 S.asked,.int .i64 S.steps] 40 (0,0))):=by
   rw[<-h0]
   exact(heap_setCell_same _ _ _ _ _ _ f9.out).trans rfl
  have z2:Hid (wB.heap[(w.heap.size+1+1+1)]? = some (.cells #[.slice none 0 0,.slice none 0 0,.slice none 0 0,.slice none 0 0,.slice none 0 0,.slice none 0 0,.int .i64 0,.int .i64 0] 40 (0,0))):=by rw[<-h0];exact(heap_setCell_other _ _ _ _ (by show(w.heap.size+1+1+1)≠(w.heap.size+1+1);omega)).trans z1.out
  have LB:Hid (bO _ wB D (.slice CN D.cells.length cn) v4 v5 v9):=aeE (LA.out.below a9.out.fix KD.out) f9.out (λk hk=>by rw[<-h0];exact heap_setCell_other _ _ _ _ hk) (by rw[<-h0];simp[World.setCell]) C3.out
  have KB:Hid (Below w.heap.size w wB):=by rw[<-h0];exact(n8.out.trans (KD.out.mono n8.out.size)).setCell (by show w.heap.size<=(w.heap.size+1+1);omega) _
  clear h0 C2 hbs
  refine bP [13,14] _ _ (by kernel_rfl) (by kernel_rfl) ?_
  simp only[List.filterMap_cons,List.filterMap_nil,List.getElem?_toArray,List.getElem?_cons_zero,List.getElem?_cons_succ]
  have e7:=crZ g0 7 rfl
  have z7:wB.frozen? ⟨(w.heap.size+1+1),7,none⟩=false:=frozen_of_row wB _ _ _ _ g0.out
  go_upto_region 22 with fail
  generalize h4:World.setCell _ _ _=wC
  have z3:Hid (wC.heap[(w.heap.size+1+1)]? = some (.cells #[.slice CN D.cells.length cn,.slice U5 S.shapes.length c5,.slice U6 S.texts.length c6,.slice (some ⟨a3,0,none⟩) S.threads.length tg,.slice U7 S.ends.length c7,.slice U8 S.said.length c8,.int .i64 S.asked,.int .i64 (S.steps+D.steps)] 40 (0,0))):=by
   rw[<-h4]
   exact(heap_setCell_same _ _ _ _ _ _ g0.out).trans rfl
  have i4:Hid (wC.heap[(w.heap.size+1+1+1)]? = some (.cells #[.slice none 0 0,.slice none 0 0,.slice none 0 0,.slice none 0 0,.slice none 0 0,.slice none 0 0,.int .i64 0,.int .i64 0] 40 (0,0))):=by rw[<-h4];exact(heap_setCell_other _ _ _ _ (by show(w.heap.size+1+1+1)≠(w.heap.size+1+1);omega)).trans z2.out
  have LC:Hid (bO _ wC D (.slice CN D.cells.length cn) v4 v5 v9):=aeE LB.out g0.out (λk hk=>by rw[<-h4];exact heap_setCell_other _ _ _ _ hk) (by rw[<-h4];simp[World.setCell]) C3.out
  have KC:Hid (Below w.heap.size w wC):=by rw[<-h4];exact KB.out.setCell (by show w.heap.size<=(w.heap.size+1+1);omega) _
  clear h4 e7 z7
  (try dsimp only [Act.put])
  have a2:=rrZ z3
  go_wp2_with (first | (refine wpList_load_mid rfl 40 _ rfl (w.heap.size+1+1) 0 rfl [.slice CN D.cells.length cn,.slice U5 S.shapes.length c5,.slice U6 S.texts.length c6,.slice (some ⟨a3,0,none⟩) S.threads.length tg,.slice U7 S.ends.length c7,.slice U8 S.said.length c8,.int .i64 S.asked,.int .i64 (S.steps+D.steps)] _ a2.out underlying40 rfl eC ?_) | (refine wpList_store_row rfl 40 _ _ rfl (w.heap.size+1+1+1) #[.slice CN D.cells.length cn,.slice U5 S.shapes.length c5,.slice U6 S.texts.length c6,.slice (some ⟨a3,0,none⟩) S.threads.length tg,.slice U7 S.ends.length c7,.slice U8 S.said.length c8,.int .i64 S.asked,.int .i64 (S.steps+D.steps)] rfl rfl 40 _ i4.out eC rfl (oC (by simp[Value.oneCell'])) ?_) | fail)
  generalize l:World.setRow _ _ _=wz
  have i:=shZ l i4
  have LZ:Hid (bO _ wz D (.slice CN D.cells.length cn) v4 v5 v9):=aeE LC.out i4.out (λk hk=>by rw[<-l];exact setRow_other _ _ _ _ hk) (by rw[<-l];simp) H3.out
  have H:Hid (Below w.heap.size w wz):=by rw[<-l];exact Below.set_row KC.out (by omega) _
  clear l a2
  go_wp2_with fail
  have I:=crZ i 0 rfl
  have J:=crZ i 1 rfl
  have M:=crZ i 2 rfl
  have N:=crZ i 3 rfl
  have O:=crZ i 4 rfl
  have P:=crZ i 5 rfl
  have R:=crZ i 6 rfl
  have V:=crZ i 7 rfl
  refine bodyPost_ret (v:=.tuple #[.agg ⟨[.slice CN D.cells.length cn,.slice U5 S.shapes.length c5,.slice U6 S.texts.length c6,.slice (some ⟨a3,0,none⟩) S.threads.length tg,.slice U7 S.ends.length c7,.slice U8 S.said.length c8,.int .i64 S.asked,.int .i64 (S.steps+D.steps)]⟩,.int .i64 ex,.int .i64 dn,.int .i64 0]) (by simp[results,results12,go_sem,I,J,M,N,O,P,R,V]) rfl ?_
  have X:=G.out
  subst X
  exact⟨_,rfl,λF g2 gz=>a9.out.o LZ.out (by unfold wfi;omega) g2 gz,H.out⟩
end
end Go.Proofs.YtjaphgpkkfdaaaaGreatDoor
