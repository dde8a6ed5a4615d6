/- A part of the walk. -/
import Derived.Test.YtijihlcdhppfgaaGreatDoorZBE
import Derived.Test.YtijihlcdhppfgaaGreatDoorZBF
import Derived.Test.YtijihlcdhppfgaaGreatDoorZBG
set_option maxHeartbeats 16000000
set_option maxRecDepth 100000
set_option linter.all false
namespace Go.Proofs.YtijihlcdhppfgaaGreatDoor
open Tryz
section
open Go.RowKit
theorem aeV:(prog.info? 26).map (·.size)=some 3:=by kernel_rfl
theorem iG:(prog.info? 34).map (·.size)=some 13:=by kernel_rfl
def sQ (r:aP×Int×Int×Int) (w:World) (e:Ending) (w':World):Prop:=∃cs,e=.returned (.tuple #[.agg ⟨cs⟩,.int .i64 r.2.1,.int .i64 r.2.2.1,.int .i64 r.2.2.2])/\(∀w2:World,(∀b,w.heap.size<=b->b<w'.heap.size->w2.heap[b]? = w'.heap[b]?)->w'.heap.size<=w2.heap.size->eB w2 w2.heap.size cs r.1)/\Below w.heap.size w w'
theorem sQ.here {r:aP×Int×Int×Int} {w:World} {e:Ending} {w':World} (h:sQ r w e w'):∃cs,e=.returned (.tuple #[.agg ⟨cs⟩,.int .i64 r.2.1,.int .i64 r.2.2.1,.int .i64 r.2.2.2])/\eB w' w'.heap.size cs r.1/\Below w.heap.size w w':=by obtain⟨cs,h1,d,f⟩:=h;exact⟨cs,h1,d w' (λ_ _ _=>rfl) (Nat.le_refl _),f⟩
def x9 (p:aZ) (t:aH):Int:=cQ aF (bH p) (p.fns.map gI) t
def rZ (p:aZ) (S:aP):Int:=eN aF p S dI (bH p)
theorem ai6 (D2 tcs D3:List Value) (p:aZ) (t:aH) (S:aP) (th tu:Int) (w:World) (hp:fL w w.heap.size D2 p) (ht:bI w w.heap.size tcs t) (hs:eB w w.heap.size D3 S) (D4:wfi th) (O0:wfi tu) (x2:Tab w) : Calls prog 35 #[.agg ⟨D2⟩,.agg ⟨tcs⟩,.agg ⟨D3⟩,.int .i64 th,.int .i64 tu] w (sQ (mC cU (x9 p t) (rZ p S) t S th tu) w):=by
 have q3:=hI hp;have A5:=hI ht;have q4:=hI hs;obtain⟨PA,pn,PB,pm,PD,pk,rfl,-⟩:=id hp;obtain⟨B1,m1,B2,m2,B3,m3,B4,m4,B5,m5,B6,m6,rfl,-⟩:=ht.cells6;obtain⟨c,s,x,tv,en,sa,rfl,hc,C6,C7,t4,C8,C9,A,ws⟩:=id hs;obtain⟨CA,cc,rfl,-⟩:=id hc;obtain⟨SA,sc,rfl,-⟩:=id C6;obtain⟨XA,xc,rfl,-⟩:=id C7;obtain⟨TA,tc,rfl,-⟩:=id t4;obtain⟨EA,ec,rfl,-⟩:=id C8;obtain⟨AA,ac,rfl,-⟩:=id C9;obtain⟨r,hr⟩:∃r,mC cU (x9 p t) (rZ p S) t S th tu=r:=⟨_,rfl⟩;rw[hr];have HR:=hI hr;have D7:=hI D4;obtain⟨w1,o1⟩:∃w1,w1=(((w.alloc (.cells #[.slice PA p.fns.length pn,.slice PB p.consts.length pm,.slice PD p.texts.length pk] 26)).alloc (.cells #[.int .i64 t.fn,.int .i64 t.at_,.int .i64 t.loop,.slice B1 t.ins.length m1,.slice B2 t.exits.length m2,.int .i64 t.turn.at_,.int .i64 t.turn.steps,.slice B3 t.turn.sets.length m3,.slice B4 t.turn.makes.length m4,.int .i64 t.back.at_,.int .i64 t.back.steps,.slice B5 t.back.sets.length m5,.slice B6 t.back.makes.length m6] 34)).alloc (.cells #[.slice CA S.cells.length cc,.slice SA S.shapes.length sc,.slice XA S.texts.length xc,.slice TA S.threads.length tc,.slice EA S.ends.length ec,.slice AA S.said.length ac,.int .i64 S.asked,.int .i64 S.steps] 40)).alloc (.cells #[.slice none 0 0,.slice none 0 0,.slice none 0 0,.slice none 0 0,.slice none 0 0,.slice none 0 0,.int .i64 0,.int .i64 0] 40):=⟨_,rfl⟩;have FB:=adM w (.cells #[.slice PA p.fns.length pn,.slice PB p.consts.length pm,.slice PD p.texts.length pk] 26) (.cells #[.int .i64 t.fn,.int .i64 t.at_,.int .i64 t.loop,.slice B1 t.ins.length m1,.slice B2 t.exits.length m2,.int .i64 t.turn.at_,.int .i64 t.turn.steps,.slice B3 t.turn.sets.length m3,.slice B4 t.turn.makes.length m4,.int .i64 t.back.at_,.int .i64 t.back.steps,.slice B5 t.back.sets.length m5,.slice B6 t.back.makes.length m6] 34) (.cells #[.slice CA S.cells.length cc,.slice SA S.shapes.length sc,.slice XA S.texts.length xc,.slice TA S.threads.length tc,.slice EA S.ends.length ec,.slice AA S.said.length ac,.int .i64 S.asked,.int .i64 S.steps] 40) (.cells #[.slice none 0 0,.slice none 0 0,.slice none 0 0,.slice none 0 0,.slice none 0 0,.slice none 0 0,.int .i64 0,.int .i64 0] 40);rw[<-o1] at FB;obtain⟨f1,f2,f3,f4,f5⟩:=FB;have l5:=hI f1;have l9:=hI f2;have x5:=hI f3;have x6:=hI f4;have K1:Hid (Below w.heap.size w w1):=by rw[o1];exact((((Below.refl _ w).alloc (Nat.le_refl _) _).alloc (by rw[World.size_alloc];omega) _).alloc (by rw[World.size_alloc,World.size_alloc];omega) _).alloc (by rw[World.size_alloc,World.size_alloc,World.size_alloc];omega) _
 have M7:=hI f5;have F1:=hI o1;have T0:=hI x2;have q5:cQ aF (bH p) (p.fns.map gI) t=x9 p t:=rfl;have i0:eN aF p S dI (bH p)=rZ p S:=rfl;obtain⟨o2,i9⟩:∃q,x9 p t=q:=⟨_,rfl⟩;obtain⟨stc,o3⟩:∃q,rZ p S=q:=⟨_,rfl⟩;have CK:=hI (aaW _ _ p t w1 (q3.out.below K1.out) (ht.below K1.out) (x2.below K1.out));rw[q5,i9] at CK;have q6:=hI i9;have m0:=hI o3;clear hp ht hs hc C6 C7 t4 C8 C9 A ws o1 hr f1 f2 f3 f4 f5 x2 D4 q5 i0 i9 o3;go_enter func35,ntmps35;go_upto_region 1 with fail;rw[<-F1.out];have j2:=rrZ l5;have j3:=rrZ l9;go_wp2_with (first | (refine wpList_load_mid rfl 26 _ rfl w.heap.size 0 rfl [.slice PA p.fns.length pn,.slice PB p.consts.length pm,.slice PD p.texts.length pk] _ j2.out underlying26 rfl aeV ?_) | (refine wpList_load_mid rfl 34 _ rfl (w.heap.size+1) 0 rfl [.int .i64 t.fn,.int .i64 t.at_,.int .i64 t.loop,.slice B1 t.ins.length m1,.slice B2 t.exits.length m2,.int .i64 t.turn.at_,.int .i64 t.turn.steps,.slice B3 t.turn.sets.length m3,.slice B4 t.turn.makes.length m4,.int .i64 t.back.at_,.int .i64 t.back.steps,.slice B5 t.back.sets.length m5,.slice B6 t.back.makes.length m6] _ j3.out underlying34 rfl iG ?_) | fail);clear j2 j3;refine CK.out.mono ?_;rintro e I ⟨rfl,k2⟩;have K2:=btZ K1 k2;have m7:=rkZ l5 k2;have y0:=rkZ l9 k2;have m8:=rkZ x5 k2;have i1:=rkZ x6 k2;clear k2;by_cases h1:o2=0
 case neg=>
  have hb:(o2 != 0)=true:=bne_iff_ne.2 h1;have J:Hid ((fA,(0:Int),(0:Int),(o2:Int))=r):=by show _=_;rw[<-HR.out];unfold mC;rw[if_pos (by rw[q6.out];exact h1),q6.out]
  clear h1;go_wp2_with (first | (refine wpList_store_row rfl 40 _ _ rfl (w.heap.size+1+1+1) #[.slice none 0 0,.slice none 0 0,.slice none 0 0,.slice none 0 0,.slice none 0 0,.slice none 0 0,.int .i64 0,.int .i64 0] rfl rfl 40 _ i1.out fX rfl (oCz (by simp[Value.oneCell'])) ?_) | fail);generalize y:World.setRow _ _ _=wz;have l:=shZ y i1;have M:Hid (Below w.heap.size w wz):=by rw[<-y];exact Below.set_row K2.out (by omega) _
  clear y;go_wp2_with fail;have N:=crZ l 0 rfl;have O:=crZ l 1 rfl;have P:=crZ l 2 rfl;have R:=crZ l 3 rfl;have V:=crZ l 4 rfl;have X:=crZ l 5 rfl;have Y:=crZ l 6 rfl;have Z:=crZ l 7 rfl;refine bodyPost_ret (v:=.tuple #[.agg ⟨[.slice none 0 0,.slice none 0 0,.slice none 0 0,.slice none 0 0,.slice none 0 0,.slice none 0 0,.int .i64 0,.int .i64 0]⟩,.int .i64 0,.int .i64 0,.int .i64 o2]) (by simp[results,results35,go_sem,N,O,P,R,V,X,Y,Z]) rfl ?_;have hN:=J.out;subst hN;exact⟨_,rfl,λI _ _=>jQ I,M.out⟩
 subst h1;have F:Hid (x9 p t=0):=q6.out;have SK:=hI (ah9 _ _ p S I (q3.out.below K2.out) (q4.out.below K2.out) (T0.out.below K2.out));have i0:eN aF p S dI (bH p)=rZ p S:=rfl;rw[i0,m0.out] at SK;clear i0;have j2:=rrZ m7;have a5:=rrZ m8;go_wp2_with (first | (refine wpList_load_mid rfl 26 _ rfl w.heap.size 0 rfl [.slice PA p.fns.length pn,.slice PB p.consts.length pm,.slice PD p.texts.length pk] _ j2.out underlying26 rfl aeV ?_) | (refine wpList_load_mid rfl 40 _ rfl (w.heap.size+1+1) 0 rfl [.slice CA S.cells.length cc,.slice SA S.shapes.length sc,.slice XA S.texts.length xc,.slice TA S.threads.length tc,.slice EA S.ends.length ec,.slice AA S.said.length ac,.int .i64 S.asked,.int .i64 S.steps] _ a5.out underlying40 rfl fX ?_) | fail);clear j2 a5;refine SK.out.mono ?_;rintro e w3 ⟨rfl,k3⟩;have K3:=btZ K2 k3;have y1:=rkZ m7 k3;have n0:=rkZ y0 k3;have i2:=rkZ m8 k3;have G:=rkZ i1 k3;clear k3;by_cases z:stc=0
 case neg=>
  have hb:(stc != 0)=true:=bne_iff_ne.2 z;have J:Hid ((fA,(0:Int),(0:Int),(stc:Int))=r):=by show _=_;rw[<-HR.out];unfold mC;rw[if_neg (λh=>h F.out)];rw[if_pos (by rw[m0.out];exact z),m0.out]
  clear z;go_wp2_with (first | (refine wpList_store_row rfl 40 _ _ rfl (w.heap.size+1+1+1) #[.slice none 0 0,.slice none 0 0,.slice none 0 0,.slice none 0 0,.slice none 0 0,.slice none 0 0,.int .i64 0,.int .i64 0] rfl rfl 40 _ G.out fX rfl (oCz (by simp[Value.oneCell'])) ?_) | fail);generalize y:World.setRow _ _ _=wz;have l:=shZ y G;have M:Hid (Below w.heap.size w wz):=by rw[<-y];exact Below.set_row K3.out (by omega) _
  clear y;go_wp2_with fail;have N:=crZ l 0 rfl;have O:=crZ l 1 rfl;have P:=crZ l 2 rfl;have R:=crZ l 3 rfl;have V:=crZ l 4 rfl;have X:=crZ l 5 rfl;have Y:=crZ l 6 rfl;have Z:=crZ l 7 rfl;refine bodyPost_ret (v:=.tuple #[.agg ⟨[.slice none 0 0,.slice none 0 0,.slice none 0 0,.slice none 0 0,.slice none 0 0,.slice none 0 0,.int .i64 0,.int .i64 0]⟩,.int .i64 0,.int .i64 0,.int .i64 stc]) (by simp[results,results35,go_sem,N,O,P,R,V,X,Y,Z]) rfl ?_;have hN:=J.out;subst hN;exact⟨_,rfl,λI _ _=>jQ I,M.out⟩
 subst z;have H:Hid (rZ p S=0):=m0.out;by_cases D5:th<0
 ·have J:Hid ((fA,(0:Int),(0:Int),(5:Int))=r):=by show _=_;rw[<-HR.out];unfold mC;rw[if_neg (λh=>h F.out)];rw[if_neg (λh=>h H.out)];rw[if_pos D5]
  go_wp2_with (first | (refine wpList_store_row rfl 40 _ _ rfl (w.heap.size+1+1+1) #[.slice none 0 0,.slice none 0 0,.slice none 0 0,.slice none 0 0,.slice none 0 0,.slice none 0 0,.int .i64 0,.int .i64 0] rfl rfl 40 _ G.out fX rfl (oCz (by simp[Value.oneCell'])) ?_) | fail);generalize y:World.setRow _ _ _=wz;have l:=shZ y G;have M:Hid (Below w.heap.size w wz):=by rw[<-y];exact Below.set_row K3.out (by omega) _
  clear y;go_wp2_with fail;have N:=crZ l 0 rfl;have O:=crZ l 1 rfl;have P:=crZ l 2 rfl;have R:=crZ l 3 rfl;have V:=crZ l 4 rfl;have X:=crZ l 5 rfl;have Y:=crZ l 6 rfl;have Z:=crZ l 7 rfl;refine bodyPost_ret (v:=.tuple #[.agg ⟨[.slice none 0 0,.slice none 0 0,.slice none 0 0,.slice none 0 0,.slice none 0 0,.slice none 0 0,.int .i64 0,.int .i64 0]⟩,.int .i64 0,.int .i64 0,.int .i64 5]) (by simp[results,results35,go_sem,N,O,P,R,V,X,Y,Z]) rfl ?_;have hN:=J.out;subst hN;exact⟨_,rfl,λI _ _=>jQ I,M.out⟩
 obtain⟨k,rfl⟩:∃k:Nat,th=(k:Int):=⟨th.toNat,by omega⟩;clear D5;have s3:=crZ i2 3 rfl;by_cases hk:k<S.threads.length
 case neg=>
  have F4:¬(k:Int)<S.threads.length:=by omega
  have J0:(S.threads.length:Int)<=(k:Int):=by omega
  have J:Hid ((fA,(0:Int),(0:Int),(5:Int))=r):=by show _=_;rw[<-HR.out];unfold mC;rw[if_neg (λh=>h F.out)];rw[if_neg (λh=>h H.out)];rw[if_neg (show ¬(k:Int)<0 by omega),Int.toNat_natCast,List.getElem?_eq_none (by omega)]
  go_wp2_with (first | (refine wpList_store_row rfl 40 _ _ rfl (w.heap.size+1+1+1) #[.slice none 0 0,.slice none 0 0,.slice none 0 0,.slice none 0 0,.slice none 0 0,.slice none 0 0,.int .i64 0,.int .i64 0] rfl rfl 40 _ G.out fX rfl (oCz (by simp[Value.oneCell'])) ?_) | fail);generalize y:World.setRow _ _ _=wz;have l:=shZ y G;have M:Hid (Below w.heap.size w wz):=by rw[<-y];exact Below.set_row K3.out (by omega) _
  clear y;go_wp2_with fail;have N:=crZ l 0 rfl;have O:=crZ l 1 rfl;have P:=crZ l 2 rfl;have R:=crZ l 3 rfl;have V:=crZ l 4 rfl;have X:=crZ l 5 rfl;have Y:=crZ l 6 rfl;have Z:=crZ l 7 rfl;refine bodyPost_ret (v:=.tuple #[.agg ⟨[.slice none 0 0,.slice none 0 0,.slice none 0 0,.slice none 0 0,.slice none 0 0,.slice none 0 0,.int .i64 0,.int .i64 0]⟩,.int .i64 0,.int .i64 0,.int .i64 5]) (by simp[results,results35,go_sem,N,O,P,R,V,X,Y,Z]) rfl ?_;have hN:=J.out;subst hN;exact⟨_,rfl,λI _ _=>jQ I,M.out⟩
 obtain⟨h,hh⟩:∃h,S.threads[k]? = some h:=⟨_,lG hk⟩;have HH:=hI hh;have F4:(k:Int)<S.threads.length:=by omega
 have SM:Hid (ad5 S):=afQ (W:=dI) H.out (agK q3.out (by
  have h:=H.out;unfold rZ eN at h;split at h;·exact absurd h (by assumption)
  ·rename_i c;omega))
 have ST:=hI (ahZ _ _ t S (k:Int) w3 (A5.out.below K3.out) (q4.out.below K3.out) D7.out SM.out.threads);obtain⟨sb,v2⟩:∃b,iL t S (k:Int)=b:=⟨_,rfl⟩;rw[v2] at ST;have n1:=hI v2;clear v2 hh;have j3:=rrZ n0;have a5:=rrZ i2;go_wp2_with (first | (refine wpList_load_mid rfl 34 _ rfl (w.heap.size+1) 0 rfl [.int .i64 t.fn,.int .i64 t.at_,.int .i64 t.loop,.slice B1 t.ins.length m1,.slice B2 t.exits.length m2,.int .i64 t.turn.at_,.int .i64 t.turn.steps,.slice B3 t.turn.sets.length m3,.slice B4 t.turn.makes.length m4,.int .i64 t.back.at_,.int .i64 t.back.steps,.slice B5 t.back.sets.length m5,.slice B6 t.back.makes.length m6] _ j3.out underlying34 rfl iG ?_) | (refine wpList_load_mid rfl 40 _ rfl (w.heap.size+1+1) 0 rfl [.slice CA S.cells.length cc,.slice SA S.shapes.length sc,.slice XA S.texts.length xc,.slice TA S.threads.length tc,.slice EA S.ends.length ec,.slice AA S.said.length ac,.int .i64 S.asked,.int .i64 S.steps] _ a5.out underlying40 rfl fX ?_) | fail);clear j3 a5 s3;refine ST.out.mono ?_;rintro e w4 ⟨rfl,k4⟩;have K4:=btZ K3 k4;have y3:=rkZ y1 k4;have y4:=rkZ n0 k4;have n2:=rkZ i2 k4;have a1:=rkZ G k4;have j4:Hid (w.heap.size+4<=w4.heap.size):=by have:=(k4.size:w3.heap.size<=w4.heap.size);have:=aY G.out;show _<=_;omega
 clear k4;have F6:Hid ((match if(k:Int)<0 then none else S.threads[(k:Int).toNat]? with | none=>(none:Option cD) | some h=>some h)=some h):=by
  show _=_
  rw[if_neg (show ¬(k:Int)<0 by omega),Int.toNat_natCast,HH.out]
 cases sb with
 | false=>
  have J:Hid ((fA,(0:Int),(0:Int),(8:Int))=r):=by
   show _=_
   rw[<-HR.out];unfold mC
   rw[if_neg (λh=>h F.out)];rw[if_neg (λh=>h H.out)];rw[if_neg (show ¬(k:Int)<0 by omega),Int.toNat_natCast,HH.out];dsimp only;rw[if_pos n1.out]
  go_wp2_with (first | (refine wpList_store_row rfl 40 _ _ rfl (w.heap.size+1+1+1) #[.slice none 0 0,.slice none 0 0,.slice none 0 0,.slice none 0 0,.slice none 0 0,.slice none 0 0,.int .i64 0,.int .i64 0] rfl rfl 40 _ a1.out fX rfl (oCz (by simp[Value.oneCell'])) ?_) | fail)
  generalize y:World.setRow _ _ _=wz
  have l:=shZ y a1
  have M:Hid (Below w.heap.size w wz):=by rw[<-y];exact Below.set_row K4.out (by omega) _
  clear y
  go_wp2_with fail
  have N:=crZ l 0 rfl
  have O:=crZ l 1 rfl
  have P:=crZ l 2 rfl
  have R:=crZ l 3 rfl
  have V:=crZ l 4 rfl
  have X:=crZ l 5 rfl
  have Y:=crZ l 6 rfl
  have Z:=crZ l 7 rfl
  refine bodyPost_ret (v:=.tuple #[.agg ⟨[.slice none 0 0,.slice none 0 0,.slice none 0 0,.slice none 0 0,.slice none 0 0,.slice none 0 0,.int .i64 0,.int .i64 0]⟩,.int .i64 0,.int .i64 0,.int .i64 8]) (by simp[results,results35,go_sem,N,O,P,R,V,X,Y,Z]) rfl ?_
  have hN:=J.out
  subst hN
  exact⟨_,rfl,λI _ _=>jQ I,M.out⟩
 | true=>
  have k8:Hid (¬iL t S (k:Int)=false):=by show ¬_;rw[n1.out];decide
  by_cases D6:tu<0
  ·have J:Hid ((fA,(0:Int),(0:Int),(1:Int))=r):=by
    show _=_
    rw[<-HR.out];unfold mC
    rw[if_neg (λh=>h F.out)];rw[if_neg (λh=>h H.out)];rw[if_neg (show ¬(k:Int)<0 by omega),Int.toNat_natCast,HH.out];dsimp only;rw[if_neg k8.out,if_pos (.inl D6)]
   go_wp2_with (first | (refine wpList_store_row rfl 40 _ _ rfl (w.heap.size+1+1+1) #[.slice none 0 0,.slice none 0 0,.slice none 0 0,.slice none 0 0,.slice none 0 0,.slice none 0 0,.int .i64 0,.int .i64 0] rfl rfl 40 _ a1.out fX rfl (oCz (by simp[Value.oneCell'])) ?_) | fail)
   generalize y:World.setRow _ _ _=wz
   have l:=shZ y a1
   have M:Hid (Below w.heap.size w wz):=by rw[<-y];exact Below.set_row K4.out (by omega) _
   clear y
   go_wp2_with fail
   have N:=crZ l 0 rfl
   have O:=crZ l 1 rfl
   have P:=crZ l 2 rfl
   have R:=crZ l 3 rfl
   have V:=crZ l 4 rfl
   have X:=crZ l 5 rfl
   have Y:=crZ l 6 rfl
   have Z:=crZ l 7 rfl
   refine bodyPost_ret (v:=.tuple #[.agg ⟨[.slice none 0 0,.slice none 0 0,.slice none 0 0,.slice none 0 0,.slice none 0 0,.slice none 0 0,.int .i64 0,.int .i64 0]⟩,.int .i64 0,.int .i64 0,.int .i64 1]) (by simp[results,results35,go_sem,N,O,P,R,V,X,Y,Z]) rfl ?_
   have hN:=J.out
   subst hN
   exact⟨_,rfl,λI _ _=>jQ I,M.out⟩
  obtain⟨n,rfl⟩:∃n:Nat,tu=(n:Int):=⟨tu.toNat,by omega⟩
  by_cases hn:n<=1000
  case neg=>
   have s0:(1000:Int)<(n:Int):=by omega
   have J:Hid ((fA,(0:Int),(0:Int),(1:Int))=r):=by
    show _=_
    rw[<-HR.out];unfold mC
    rw[if_neg (λh=>h F.out)];rw[if_neg (λh=>h H.out)];rw[if_neg (show ¬(k:Int)<0 by omega),Int.toNat_natCast,HH.out];dsimp only;rw[if_neg k8.out,if_pos (.inr s0)]
   go_wp2_with (first | (refine wpList_store_row rfl 40 _ _ rfl (w.heap.size+1+1+1) #[.slice none 0 0,.slice none 0 0,.slice none 0 0,.slice none 0 0,.slice none 0 0,.slice none 0 0,.int .i64 0,.int .i64 0] rfl rfl 40 _ a1.out fX rfl (oCz (by simp[Value.oneCell'])) ?_) | fail)
   generalize y:World.setRow _ _ _=wz
   have l:=shZ y a1
   have M:Hid (Below w.heap.size w wz):=by rw[<-y];exact Below.set_row K4.out (by omega) _
   clear y
   go_wp2_with fail
   have N:=crZ l 0 rfl
   have O:=crZ l 1 rfl
   have P:=crZ l 2 rfl
   have R:=crZ l 3 rfl
   have V:=crZ l 4 rfl
   have X:=crZ l 5 rfl
   have Y:=crZ l 6 rfl
   have Z:=crZ l 7 rfl
   refine bodyPost_ret (v:=.tuple #[.agg ⟨[.slice none 0 0,.slice none 0 0,.slice none 0 0,.slice none 0 0,.slice none 0 0,.slice none 0 0,.int .i64 0,.int .i64 0]⟩,.int .i64 0,.int .i64 0,.int .i64 1]) (by simp[results,results35,go_sem,N,O,P,R,V,X,Y,Z]) rfl ?_
   have hN:=J.out
   subst hN
   exact⟨_,rfl,λI _ _=>jQ I,M.out⟩
  have s0:¬(1000:Int)<(n:Int):=by omega
  obtain⟨f,o7,E4,D0,E5⟩:∃f,h.frames.getLast? = some f/\h.state=0/\f.fn=t.fn/\f.at_=t.at_:=by
   have hs:=n1.out
   unfold iL at hs
   rw[if_neg (show ¬(k:Int)<0 by omega),Int.toNat_natCast,HH.out] at hs
   dsimp only at hs
   split at hs
   ·cases hs
   ·rename_i f e
    simp only[Bool.and_eq_true,beq_iff_eq] at hs
    exact⟨f,e,hs.1.1,hs.1.2,hs.2⟩
  have F7:=hI D0
  have i3:=hI o7
  have n3:Hid ((if(cH cU t f.self S.shapes n 0 (gG t S f)).2.2.2=2 then(fA,(0:Int),(0:Int),(8:Int)) else if 1000000000<S.steps+(cH cU t f.self S.shapes n 0 (gG t S f)).1.steps then(fA,0,0,2) else(jS S k (cH cU t f.self S.shapes n 0 (gG t S f)).1,(cH cU t f.self S.shapes n 0 (gG t S f)).2.1,(cH cU t f.self S.shapes n 0 (gG t S f)).2.2.1,0))=r):=by
   have h:=HR.out
   unfold mC at h
   rw[if_neg (λh=>h F.out),if_neg (λh=>h H.out),if_neg (show ¬(k:Int)<0 by omega),Int.toNat_natCast,HH.out] at h
   dsimp only at h
   rw[if_neg k8.out,if_neg (λh=>h.elim D6 s0),i3.out] at h
   exact h
  clear o7 E4 D0 E5 n1 HR F6
  have OC:=hI (ac3 _ S w4 (q4.out.below K4.out) SM.out)
  have a5:=rrZ n2
  go_wp2_with (first | (refine wpList_load_mid rfl 40 _ rfl (w.heap.size+1+1) 0 rfl [.slice CA S.cells.length cc,.slice SA S.shapes.length sc,.slice XA S.texts.length xc,.slice TA S.threads.length tc,.slice EA S.ends.length ec,.slice AA S.said.length ac,.int .i64 S.asked,.int .i64 S.steps] _ a5.out underlying40 rfl fX ?_) | fail)
  clear a5
  refine OC.out.mono ?_
  rintro e w5 ⟨N4,co,lo,cv,N5,rows,p1,shv,N6,N7,N8,rfl,a2,k5⟩
  have K5:=btZ K4 k5
  have I8:=rkZ y3 k5
  have y5:=rkZ y4 k5
  have n4:=rkZ n2 k5
  have y6:=rkZ a1 k5
  have O5:=hI a2
  have F9:Hid (w4.heap.size<=w5.heap.size):=k5.size
  have G0:=a2.cells
  obtain⟨CG,cg,rfl⟩:=cJ a2.crow
  obtain⟨TG,tg,rfl⟩:=cJ a2.trow
  obtain⟨U5,c5,rfl,-⟩:=id a2.shapes
  obtain⟨U6,c6,rfl,-⟩:=id a2.texts
  obtain⟨U7,c7,rfl,-⟩:=id a2.ends
  obtain⟨U8,c8,rfl,-⟩:=id a2.said
  subst G0
  clear a2 k5
  go_upto_region 14 with (first | (refine wpList_store_row rfl 40 _ _ rfl (w.heap.size+1+1) #[.slice CG S.cells.length cg,.slice U5 S.shapes.length c5,.slice U6 S.texts.length c6,.slice TG S.threads.length tg,.slice U7 S.ends.length c7,.slice U8 S.said.length c8,.int .i64 S.asked,.int .i64 S.steps] rfl rfl 40 _ n4.out fX rfl (oCz (by simp[Value.oneCell'])) ?_) | fail)
  generalize g6:World.setRow _ _ _=w6
  have K6:Hid (Below w.heap.size w w6):=by rw[<-g6];exact Below.set_row K5.out (by omega) _
  have f9:=shZ g6 n4
  have i4:=soZ g6 y5 (by omega)
  have y7:=soZ g6 y6 (by omega)
  have s2:w6.heap.size=w5.heap.size:=by rw[<-g6];simp
  have O6:Hid (xO w6 w4.heap.size [.slice CG S.cells.length cg,.slice U5 S.shapes.length c5,.slice U6 S.texts.length c6,.slice TG S.threads.length tg,.slice U7 S.ends.length c7,.slice U8 S.said.length c8,.int .i64 S.asked,.int .i64 S.steps] S co lo (.slice CG S.cells.length cg) (.slice TG S.threads.length tg) rows p1 (.slice U5 S.shapes.length c5) (.slice U6 S.texts.length c6) (.slice U7 S.ends.length c7) (.slice U8 S.said.length c8)):=O5.out.kept (λb hb _=>by rw[<-g6];exact setRow_other _ _ _ _ (by have:=j4.out;omega)) s2
  have A6:Hid (w4.heap.size<=w6.heap.size):=by show _<=_;rw[s2];exact F9.out
  clear g6 s2 O5
  (try dsimp only [Act.put])
  obtain⟨tf,htf,rs,ts,o8⟩:=O6.out.tpart k h HH.out
  obtain⟨j,hj⟩:∃j,h.frames.length=j+1:=by
   cases e:h.frames.length with
   | zero=>have:=i3.out;rw[List.length_eq_zero_iff.1 e] at this;cases this
   | succ j=>exact⟨j,rfl⟩
  have A7:h.frames[j]? = some f:=by have z:=i3.out;rw[List.getLast?_eq_getElem?,hj] at z;exact z
  obtain⟨fb,v4,j0,-,N0⟩:=o8.at_.row.form (by omega)
  rw[hj] at j0
  obtain⟨rv,hrv⟩:∃rv,rs[j]? = some rv:=⟨_,lG (by rw[o8.at_.lr,hj];omega)⟩
  obtain⟨a6,N1,v5,-,M2⟩:=O6.out.trow.form (by omega)
  injection v5 with v5 _ I7
  subst v5
  subst I7
  have s3:=crZ f9 3 rfl
  have q0:w6.cell? ⟨a6,k*5,none⟩=some (.slice (some ⟨fb,0,none⟩) (j+1) v4):=by
   have z:=O6.out.trow.cellAt (k*5+0) (by omega)
   rw[dB _ k 0 _ O6.out.t5 htf (by decide)] at z
   rw[<-j0]
   exact z
  have HJ:=hI hj
  have A8:=hI A7
  have G2:=hI htf
  have G3:=hI o8
  have D9:=hI j0
  have G4:=hI hrv
  clear htf o8 hj A7 j0 hrv
  go_upto_region 15 with fail
  clear s3 q0
  have G5:j+1<=30:=by have z:=(SM.out.tframes h (lM HH.out)).1;rw[HJ.out] at z;exact z
  have G6:wrap64 (j:Int)=(j:Int):=by unfold wrap64;omega
  have G7:(j:Int)<(j:Int)+1:=by omega
  have G8:t.ins.length<=300:=by obtain⟨z,-⟩:=fD F.out;exact z
  have A9:Hid (∀E:Up w6,E.to.rangeAt (w.heap.size+1) 0 [.int .i64 t.fn,.int .i64 t.at_,.int .i64 t.loop,.slice B1 t.ins.length m1,.slice B2 t.exits.length m2,.int .i64 t.turn.at_,.int .i64 t.turn.steps,.slice B3 t.turn.sets.length m3,.slice B4 t.turn.makes.length m4,.int .i64 t.back.at_,.int .i64 t.back.steps,.slice B5 t.back.sets.length m5,.slice B6 t.back.makes.length m6]):=λE=>(akZ ((E.below.block _ (aY i4.out)).trans i4.out)).range
  have d0:=ecZ (crZ f9 0 rfl)
  have d1:=ecZ (crZ f9 1 rfl)
  have d3:=ecZ (crZ i4 3 rfl)
  refine cE (λw'=>∃E:Up w6,w'=E.to) 13 [13,14,15,16] [13] (by kernel_rfl) (by decide) (by kernel_rfl) (λ_ _ d _ _ h=>by cases d <;> exact h) ⟨⟨_,(Below.refl _ w6).drew⟩,rfl⟩ ?_
  simp only[List.take_succ_cons,List.take_zero]
  generalize k7:(λa'=>gT _ _ _ _ _ _ a' _)=qq
  have k0:=hI k7
  clear k7
  repeat (first
   | (refine dE 34 _ rfl rfl (w.heap.size+1) 0 rfl [.int .i64 t.fn,.int .i64 t.at_,.int .i64 t.loop,.slice B1 t.ins.length m1,.slice B2 t.exits.length m2,.int .i64 t.turn.at_,.int .i64 t.turn.steps,.slice B3 t.turn.sets.length m3,.slice B4 t.turn.makes.length m4,.int .i64 t.back.at_,.int .i64 t.back.steps,.slice B5 t.back.sets.length m5,.slice B6 t.back.makes.length m6] _ A9.out underlying34 rfl iG ?_;go_simp)
   | go_big_quiet_step (fail))
  refine wpQuiet_nil ?_
  rw[<-k0.out]
  clear k0 qq d0 d1 d3 A9
  have G9:=λW=>mk_vals t.ins.length (by omega) W
  refine aR rfl (λK hK=>?_)
  go_simp
  obtain⟨A,o9⟩:∃A,A=(w6.alloc (.cells ⟨(List.replicate t.ins.length (⟨0,0⟩:Val)).flatMap bE⟩ 51)).drew:=⟨_,rfl⟩
  have KA:Hid (Below w6.heap.size w6 A):=by rw[o9];exact((Below.refl _ w6).alloc (Nat.le_refl _) _).drew
  have BA:Hid (A.heap[w6.heap.size]? = some (.cells ⟨(List.replicate t.ins.length (⟨0,0⟩:Val)).flatMap bE⟩ 51 (0,0))):=by rw[o9];exact aS w6 _
  have B7:=hI o9
  clear o9 G9
  refine hK _ _ (λ_=>⟨⟨A,KA.out⟩,B7.out.symm⟩) ?_
  clear hK K
  have s5:w6.drew.heap.size=w6.heap.size:=rfl
  (try rw[s5])
  rw[<-B7.out]
  clear s5
  refine bG [14,15,16] _ _ (by kernel_rfl) (by kernel_rfl) ?_
  simp only[List.filterMap_cons,List.filterMap_nil,List.getElem?_toArray,List.getElem?_cons_zero,List.getElem?_cons_succ]
  obtain⟨w8,p0⟩:∃w8,w8=A.alloc (.cells #[.int .i64 t.fn,.int .i64 t.at_,.int .i64 t.loop,.slice B1 t.ins.length m1,.slice B2 t.exits.length m2,.int .i64 t.turn.at_,.int .i64 t.turn.steps,.slice B3 t.turn.sets.length m3,.slice B4 t.turn.makes.length m4,.int .i64 t.back.at_,.int .i64 t.back.steps,.slice B5 t.back.sets.length m5,.slice B6 t.back.makes.length m6,.slice CG S.cells.length cg,.slice U5 S.shapes.length c5,.pointer (some ⟨fb,j*8,none⟩),.int .i64 0,.slice (some ⟨w6.heap.size,0,none⟩) t.ins.length t.ins.length] 147):=⟨_,rfl⟩
  have B9:Hid (Below A.heap.size A w8):=by rw[p0];exact aA _ _
  have B8:Hid (w8.heap[A.heap.size]? = some (.cells #[.int .i64 t.fn,.int .i64 t.at_,.int .i64 t.loop,.slice B1 t.ins.length m1,.slice B2 t.exits.length m2,.int .i64 t.turn.at_,.int .i64 t.turn.steps,.slice B3 t.turn.sets.length m3,.slice B4 t.turn.makes.length m4,.int .i64 t.back.at_,.int .i64 t.back.steps,.slice B5 t.back.sets.length m5,.slice B6 t.back.makes.length m6,.slice CG S.cells.length cg,.slice U5 S.shapes.length c5,.pointer (some ⟨fb,j*8,none⟩),.int .i64 0,.slice (some ⟨w6.heap.size,0,none⟩) t.ins.length t.ins.length] 147 (0,0))):=by rw[p0];exact aS _ _
  have n5:=btZ KA B9.out
  have K8:=btZ K6 n5.out
  have n6:=rkZ f9 n5.out
  have n7:=rkZ y7 n5.out
  have H2:=hI p0
  have s6:Hid (w6.heap.size<A.heap.size):=aY BA.out
  clear p0
  go_upto_region 16 with fail
  rw[<-H2.out]
  clear G6 G7
  have VR:Hid (w8.ownsRow w6.heap.size 51 2 (.slice (some ⟨w6.heap.size,0,none⟩) t.ins.length t.ins.length) t.ins.length ((List.replicate t.ins.length (⟨0,0⟩:Val)).flatMap bE)):=by
   have t0:((List.replicate t.ins.length (⟨0,0⟩:Val)).flatMap bE).length=t.ins.length*2:=by
    rw[<-eS,abI (size:=2) _ (λr hr=>by obtain⟨x,-,rfl⟩:=List.mem_map.1 hr;rfl),List.length_map,List.length_replicate]
   refine⟨t0,.inr ⟨w6.heap.size,t.ins.length,_,rfl,Nat.le_refl _,(B9.out.block _ s6.out).trans BA.out,Nat.le_refl _,by unfold maxLen;omega,t0,?_⟩⟩
   show List.take _ ((List.replicate t.ins.length (⟨0,0⟩:Val)).flatMap bE)=_
   rw[<-t0,List.take_length]
  have b3:Hid (dO w6 w8 w.heap.size w4.heap.size [.slice CG S.cells.length cg,.slice U5 S.shapes.length c5,.slice U6 S.texts.length c6,.slice (some ⟨a6,0,none⟩) S.threads.length tg,.slice U7 S.ends.length c7,.slice U8 S.said.length c8,.int .i64 S.asked,.int .i64 S.steps] S co lo (.slice CG S.cells.length cg) (.slice (some ⟨a6,0,none⟩) S.threads.length tg) rows p1 (.slice U5 S.shapes.length c5) (.slice U6 S.texts.length c6) (.slice U7 S.ends.length c7) (.slice U8 S.said.length c8) k h f j fb v4 A.heap.size tf rv (.slice (some ⟨w6.heap.size,0,none⟩) t.ins.length t.ins.length) rs ts [.int .i64 t.fn,.int .i64 t.at_,.int .i64 t.loop,.slice B1 t.ins.length m1,.slice B2 t.exits.length m2,.int .i64 t.turn.at_,.int .i64 t.turn.steps,.slice B3 t.turn.sets.length m3,.slice B4 t.turn.makes.length m4,.int .i64 t.back.at_,.int .i64 t.back.steps,.slice B5 t.back.sets.length m5,.slice B6 t.back.makes.length m6] t):=
   { own:=O6.out,hB:=by have:=j4.out;omega,hO:=A6.out,below:=n5.out,hth:=HH.out,hl:=HJ.out,hf:=A8.out,ht:=G2.out,fin:=G3.out,htf:=D9.out,hrv:=G4.out,vrow:=VR.out,wrow:=B8.out,wnew:=Nat.le_of_lt s6.out,tl:=rfl,tr:=A5.out.keep (Nat.le_refl _) (λ_ hp=>K8.out.cell hp) }
  obtain⟨fn,-,k9,D1⟩:=adY F.out
  have t1:(gG t S f).regs.length=fn.regs.toNat:=by
   have z:=adL ((sN H.out).2 h (lM HH.out) f (lM A8.out))
   rw[F7.out] at z
   unfold i8 at z
   rw[List.getElem?_map] at k9
   obtain⟨g,hg,rfl⟩:=Option.map_eq_some_iff.1 k9
   rw[hg] at z
   have h3:(f.regs.length:Int)=g.regs:=z
   show f.regs.length=g.regs.toNat
   omega
  have LM:Lim t fn.regs.toNat (gG t S f):=⟨by simp[gG],SM.out.cells,t1⟩
  have RC:=hI (run_c b3.out.fix b3.out.lay D1 (pM F.out) LM hn rfl)
  have i5:=hI (λhw=>af0 F.out cU f.self S.shapes (turns:=n) hn (W:=gG t S f) rfl hw)
  have M8:=(sN H.out).1
  obtain⟨D,ex,dn,how,hD⟩:∃D ex dn how,cH cU t f.self S.shapes n 0 (gG t S f)=(D,ex,dn,how):=⟨_,_,_,_,rfl⟩
  have C0:cH cU (xD w8 w.heap.size w4.heap.size (.slice CG S.cells.length cg) rows (.slice U5 S.shapes.length c5) S f j fb A.heap.size rv (.slice (some ⟨w6.heap.size,0,none⟩) t.ins.length t.ins.length) [.int .i64 t.fn,.int .i64 t.at_,.int .i64 t.loop,.slice B1 t.ins.length m1,.slice B2 t.exits.length m2,.int .i64 t.turn.at_,.int .i64 t.turn.steps,.slice B3 t.turn.sets.length m3,.slice B4 t.turn.makes.length m4,.int .i64 t.back.at_,.int .i64 t.back.steps,.slice B5 t.back.sets.length m5,.slice B6 t.back.makes.length m6] t).t (xD w8 w.heap.size w4.heap.size (.slice CG S.cells.length cg) rows (.slice U5 S.shapes.length c5) S f j fb A.heap.size rv (.slice (some ⟨w6.heap.size,0,none⟩) t.ins.length t.ins.length) [.int .i64 t.fn,.int .i64 t.at_,.int .i64 t.loop,.slice B1 t.ins.length m1,.slice B2 t.exits.length m2,.int .i64 t.turn.at_,.int .i64 t.turn.steps,.slice B3 t.turn.sets.length m3,.slice B4 t.turn.makes.length m4,.int .i64 t.back.at_,.int .i64 t.back.steps,.slice B5 t.back.sets.length m5,.slice B6 t.back.makes.length m6] t).self (xD w8 w.heap.size w4.heap.size (.slice CG S.cells.length cg) rows (.slice U5 S.shapes.length c5) S f j fb A.heap.size rv (.slice (some ⟨w6.heap.size,0,none⟩) t.ins.length t.ins.length) [.int .i64 t.fn,.int .i64 t.at_,.int .i64 t.loop,.slice B1 t.ins.length m1,.slice B2 t.exits.length m2,.int .i64 t.turn.at_,.int .i64 t.turn.steps,.slice B3 t.turn.sets.length m3,.slice B4 t.turn.makes.length m4,.int .i64 t.back.at_,.int .i64 t.back.steps,.slice B5 t.back.sets.length m5,.slice B6 t.back.makes.length m6] t).shapes n 0 (gG t S f)=(D,ex,dn,how):=hD
  rw[C0] at RC
  rw[hD] at i5 n3
  unfold RPost at RC
  dsimp only at RC i5 n3
  clear hD C0 k9 D1 t1 LM G8 G5
  go_wp2_with fail
  refine RC.out.mono ?_
  rintro e w9 ⟨rfl,⟨N9,v9,w0,w7,x0⟩,a7⟩
  have L9:=hI x0
  have M9:=hI a7
  have n8:Hid (w9.heap[(w.heap.size+1+1)]? = some (.cells #[.slice CG S.cells.length cg,.slice U5 S.shapes.length c5,.slice U6 S.texts.length c6,.slice (some ⟨a6,0,none⟩) S.threads.length tg,.slice U7 S.ends.length c7,.slice U8 S.said.length c8,.int .i64 S.asked,.int .i64 S.steps] 40 (0,0))):=(a7.block _ _ _ _ n6.out (by decide) (by decide) (by decide) (by decide)).trans n6.out
  have g0:Hid (w9.heap[(w.heap.size+1+1+1)]? = some (.cells #[.slice none 0 0,.slice none 0 0,.slice none 0 0,.slice none 0 0,.slice none 0 0,.slice none 0 0,.int .i64 0,.int .i64 0] 40 (0,0))):=(a7.block _ _ _ _ n7.out (by decide) (by decide) (by decide) (by decide)).trans n7.out
  have K9:Hid (Below w.heap.size w w9):=⟨a7.os.trans K8.out.os,a7.tape.trans K8.out.tape,a7.output.trans K8.out.output,Nat.le_trans K8.out.size a7.size,λb hb=>(x0.fixed b (b3.out.q_old hb)).trans (K8.out.block b hb)⟩
  clear x0 a7
  by_cases h8:how=2
  ·have J:Hid ((fA,(0:Int),(0:Int),(8:Int))=r):=by have z:=n3.out;rw[if_pos h8] at z;exact z
   subst h8
   go_wp2_with (first | (refine wpList_store_row rfl 40 _ _ rfl (w.heap.size+1+1+1) #[.slice none 0 0,.slice none 0 0,.slice none 0 0,.slice none 0 0,.slice none 0 0,.slice none 0 0,.int .i64 0,.int .i64 0] rfl rfl 40 _ g0.out fX rfl (oCz (by simp[Value.oneCell'])) ?_) | fail)
   generalize y:World.setRow _ _ _=wz
   have l:=shZ y g0
   have M:Hid (Below w.heap.size w wz):=by rw[<-y];exact Below.set_row K9.out (by omega) _
   clear y
   go_wp2_with fail
   have N:=crZ l 0 rfl
   have O:=crZ l 1 rfl
   have P:=crZ l 2 rfl
   have R:=crZ l 3 rfl
   have V:=crZ l 4 rfl
   have X:=crZ l 5 rfl
   have Y:=crZ l 6 rfl
   have Z:=crZ l 7 rfl
   refine bodyPost_ret (v:=.tuple #[.agg ⟨[.slice none 0 0,.slice none 0 0,.slice none 0 0,.slice none 0 0,.slice none 0 0,.slice none 0 0,.int .i64 0,.int .i64 0]⟩,.int .i64 0,.int .i64 0,.int .i64 8]) (by simp[results,results35,go_sem,N,O,P,R,V,X,Y,Z]) rfl ?_
   have hN:=J.out
   subst hN
   exact⟨_,rfl,λI _ _=>jQ I,M.out⟩
  obtain⟨I1,N2,N3⟩:=i5.out h8
  subst I1
  have J9:wrap64 (S.steps+D.steps)=S.steps+D.steps:=by unfold wrap64;omega
  have C1:Hid ((if 1000000000<S.steps+D.steps then(fA,(0:Int),(0:Int),(2:Int)) else(jS S k D,ex,dn,0))=r):=by have z:=n3.out;rw[if_neg h8] at z;exact z
  clear h8
  obtain⟨CN,cn,rfl⟩:=cJ L9.out.crow
  go_upto_region 19 with fail
  have d7:=ecZ (crZ n8 7 rfl)
  have n9:∀E:Up w9,E.to.cell? ⟨A.heap.size,16,none⟩=some (.int .i64 D.steps):=λE=>E.cell (L9.out.own b3.out.fix 3)
  by_cases x4:1000000000<S.steps+D.steps
  ·have J:Hid ((fA,(0:Int),(0:Int),(2:Int))=r):=by have z:=C1.out;rw[if_pos x4] at z;exact z
   refine aD (by kernel_rfl) (by kernel_rfl) ?_
   repeat (go_big_quiet_step (fail))
   refine wpQuiet_nil ?_
   rintro _ ⟨E,rfl⟩
   obtain⟨wA,kA⟩:=E
   dsimp only
   have o0:=btZ K9 kA
   have g1:=rkZ g0 kA
   clear kA d7 n9
   go_wp2_with (first | (refine wpList_store_row rfl 40 _ _ rfl (w.heap.size+1+1+1) #[.slice none 0 0,.slice none 0 0,.slice none 0 0,.slice none 0 0,.slice none 0 0,.slice none 0 0,.int .i64 0,.int .i64 0] rfl rfl 40 _ g1.out fX rfl (oCz (by simp[Value.oneCell'])) ?_) | fail)
   generalize y:World.setRow _ _ _=wz
   have l:=shZ y g1
   have M:Hid (Below w.heap.size w wz):=by rw[<-y];exact Below.set_row o0.out (by omega) _
   clear y
   go_wp2_with fail
   have N:=crZ l 0 rfl
   have O:=crZ l 1 rfl
   have P:=crZ l 2 rfl
   have R:=crZ l 3 rfl
   have V:=crZ l 4 rfl
   have X:=crZ l 5 rfl
   have Y:=crZ l 6 rfl
   have Z:=crZ l 7 rfl
   refine bodyPost_ret (v:=.tuple #[.agg ⟨[.slice none 0 0,.slice none 0 0,.slice none 0 0,.slice none 0 0,.slice none 0 0,.slice none 0 0,.int .i64 0,.int .i64 0]⟩,.int .i64 0,.int .i64 0,.int .i64 2]) (by simp[results,results35,go_sem,N,O,P,R,V,X,Y,Z]) rfl ?_
   have hN:=J.out
   subst hN
   exact⟨_,rfl,λI _ _=>jQ I,M.out⟩
  have J:Hid ((jS S k D,ex,dn,(0:Int))=r):=by have z:=C1.out;rw[if_neg x4] at z;exact z
  refine aD (by kernel_rfl) (by kernel_rfl) ?_
  repeat (go_big_quiet_step (fail))
  refine wpQuiet_nil ?_
  rintro _ ⟨E,rfl⟩
  obtain⟨wA,kA⟩:=E
  dsimp only
  have o0:=btZ K9 kA
  have g1:=rkZ g0 kA
  have b4:=rkZ n8 kA
  have LA:=hI (L9.out.below b3.out.fix kA)
  clear kA d7 n9
  go_upto_region 21 with fail
  obtain⟨L,hL⟩:∃L:List (Addr×Value),L=[(⟨A.heap.size,13,none⟩,.slice CN D.cells.length cn),(⟨A.heap.size,16,none⟩,.int .i64 D.steps),(⟨(w.heap.size+1+1),7,none⟩,.int .i64 S.steps)]:=⟨_,rfl⟩
  have C2:(w.heap.size+1+1)≠A.heap.size:=by have:=A6.out;have:=j4.out;have:=s6.out;omega
  have k1:Hid (∀p∈L,wA.cell? p.1=some p.2/\p.1.block<wA.heap.size):=by
   show ∀p∈L,_
   rw[hL]
   intro p hp
   simp only[List.mem_cons,List.not_mem_nil,or_false] at hp
   rcases hp with rfl | rfl | rfl
   ·exact⟨LA.out.own b3.out.fix 0,aY LA.out.row⟩
   ·exact⟨LA.out.own b3.out.fix 3,aY LA.out.row⟩
   ·exact⟨cell_of_row wA _ 7 _ _ _ b4.out,aY b4.out⟩
  have t3:Hid (∀W',Below wA.heap.size wA W'->∃E:dP L,W'=E.wd):=λW' k=>⟨⟨W',λp hp=>(k.cell (k1.out p hp).2).trans (k1.out p hp).1⟩,rfl⟩
  have C3:Hid (∀W' u,Below wA.heap.size wA W'->∃E:dP L,W'.setCell ⟨(w.heap.size+1+1),0,none⟩ u=E.wd):=λW' u k=>by
   have E2:W'.heap[(w.heap.size+1+1)]? = some (.cells #[.slice CG S.cells.length cg,.slice U5 S.shapes.length c5,.slice U6 S.texts.length c6,.slice (some ⟨a6,0,none⟩) S.threads.length tg,.slice U7 S.ends.length c7,.slice U8 S.said.length c8,.int .i64 S.asked,.int .i64 S.steps] 40 (0,0)):=(k.block _ (aY b4.out)).trans b4.out
   refine⟨⟨W'.setCell ⟨(w.heap.size+1+1),0,none⟩ u,λp hp=>?_⟩,rfl⟩
   have h1:=(k.cell (k1.out p hp).2).trans (k1.out p hp).1
   rw[hL] at hp
   simp only[List.mem_cons,List.not_mem_nil,or_false] at hp
   rcases hp with rfl | rfl | rfl
   ·exact(World.cell?_of_block (heap_setCell_other _ _ _ _ (Ne.symm C2))).trans h1
   ·exact(World.cell?_of_block (heap_setCell_other _ _ _ _ (Ne.symm C2))).trans h1
   ·rw[cell_of_row _ _ 7 _ _ _ (heap_setCell_same _ _ _ _ _ _ E2)];rfl
  have H4:∀E:dP L,E.wd.cell? ⟨A.heap.size,13,none⟩=some (.slice CN D.cells.length cn):=λE=>E.here (_,_) (by rw[hL];simp)
  have n9:∀E:dP L,E.wd.cell? ⟨A.heap.size,16,none⟩=some (.int .i64 D.steps):=λE=>E.here (_,_) (by rw[hL];simp)
  have d7:∀E:dP L,E.wd.cell? ⟨(w.heap.size+1+1),7,none⟩=some (.int .i64 S.steps):=λE=>E.here (_,_) (by rw[hL];simp)
  clear hL
  haveI:Nonempty (dP L):=⟨(t3.out wA (Below.refl _ _)).choose⟩
  refine cE (λw'=>∃E:dP L,w'=E.wd) 12 [12,13,14] [12] (by kernel_rfl) (by decide) (by kernel_rfl) (λ_ _ d _ _ h=>by cases d <;> exact h) (t3.out _ (Below.refl _ wA).drew) ?_
  simp only[List.take_succ_cons,List.take_zero]
  generalize k7:(λa'=>gT _ _ _ _ _ _ a' _)=qq
  have k0:=hI k7
  clear k7
  repeat (go_big_quiet_step (fail))
  refine wpQuiet_nil ?_
  rw[<-k0.out]
  clear k0 qq d7 H4 n9
  obtain⟨wd,k6⟩:∃wd,wd=wA.drew:=⟨_,rfl⟩
  have KD:Hid (Below wA.heap.size wA wd):=by rw[k6];exact(Below.refl _ wA).drew
  have g3:Hid (wd.heap[(w.heap.size+1+1)]? = some (.cells #[.slice CG S.cells.length cg,.slice U5 S.shapes.length c5,.slice U6 S.texts.length c6,.slice (some ⟨a6,0,none⟩) S.threads.length tg,.slice U7 S.ends.length c7,.slice U8 S.said.length c8,.int .i64 S.asked,.int .i64 S.steps] 40 (0,0))):=by rw[k6];exact b4.out
  have z3:Hid (wd.heap[(w.heap.size+1+1+1)]? = some (.cells #[.slice none 0 0,.slice none 0 0,.slice none 0 0,.slice none 0 0,.slice none 0 0,.slice none 0 0,.int .i64 0,.int .i64 0] 40 (0,0))):=by rw[k6];exact g1.out
  rw[<-k6]
  clear k6
  have e0:=crZ g3 0 rfl
  have z0:wd.frozen? ⟨(w.heap.size+1+1),0,none⟩=false:=frozen_of_row wd _ _ _ _ g3.out
  refine aR rfl (λK hK=>?_)
  go_simp
  refine hK _ _ (λ_=>C3.out wd _ KD.out) ?_
  clear hK K t3 C3 k1 e0 z0
  generalize h6:World.setCell _ _ _=wB
  have hbs:¬QOf w8 w.heap.size w4.heap.size A.heap.size fb rv (.slice (some ⟨w6.heap.size,0,none⟩) t.ins.length t.ins.length) (.slice CG S.cells.length cg) (jD rows) (w.heap.size+1+1):=λhq=>by
   have h1:=hq.1.2
   have:=j4.out
   omega
  have C4:¬QOf w8 w.heap.size w4.heap.size A.heap.size fb rv (.slice (some ⟨w6.heap.size,0,none⟩) t.ins.length t.ins.length) (.slice CG S.cells.length cg) (jD rows) (w.heap.size+1+1+1):=λhq=>by
   have h1:=hq.1.2
   have:=j4.out
   omega
  have H5:=hI C4
  have C5:=hI hbs
  have g4:Hid (wB.heap[(w.heap.size+1+1)]? = some (.cells #[.slice CN D.cells.length cn,.slice U5 S.shapes.length c5,.slice U6 S.texts.length c6,.slice (some ⟨a6,0,none⟩) S.threads.length tg,.slice U7 S.ends.length c7,.slice U8 S.said.length c8,.int .i64 S.asked,.int .i64 S.steps] 40 (0,0))):=by
   rw[<-h6]
   exact(heap_setCell_same _ _ _ _ _ _ g3.out).trans rfl
  have z4:Hid (wB.heap[(w.heap.size+1+1+1)]? = some (.cells #[.slice none 0 0,.slice none 0 0,.slice none 0 0,.slice none 0 0,.slice none 0 0,.slice none 0 0,.int .i64 0,.int .i64 0] 40 (0,0))):=by rw[<-h6];exact(heap_setCell_other _ _ _ _ (by show(w.heap.size+1+1+1)≠(w.heap.size+1+1);omega)).trans z3.out
  have LB:Hid (cC _ wB D (.slice CN D.cells.length cn) v9 w0 w7):=ak1 (LA.out.below b3.out.fix KD.out) g3.out (λk hk=>by rw[<-h6];exact heap_setCell_other _ _ _ _ hk) (by rw[<-h6];simp[World.setCell]) C5.out
  have KB:Hid (Below w.heap.size w wB):=by rw[<-h6];exact(o0.out.trans (KD.out.mono o0.out.size)).setCell (by show w.heap.size<=(w.heap.size+1+1);omega) _
  clear h6 C4 hbs
  refine bG [13,14] _ _ (by kernel_rfl) (by kernel_rfl) ?_
  simp only[List.filterMap_cons,List.filterMap_nil,List.getElem?_toArray,List.getElem?_cons_zero,List.getElem?_cons_succ]
  have e7:=crZ g4 7 rfl
  have z7:wB.frozen? ⟨(w.heap.size+1+1),7,none⟩=false:=frozen_of_row wB _ _ _ _ g4.out
  go_upto_region 22 with fail
  generalize h7:World.setCell _ _ _=wC
  have z5:Hid (wC.heap[(w.heap.size+1+1)]? = some (.cells #[.slice CN D.cells.length cn,.slice U5 S.shapes.length c5,.slice U6 S.texts.length c6,.slice (some ⟨a6,0,none⟩) S.threads.length tg,.slice U7 S.ends.length c7,.slice U8 S.said.length c8,.int .i64 S.asked,.int .i64 (S.steps+D.steps)] 40 (0,0))):=by
   rw[<-h7]
   exact(heap_setCell_same _ _ _ _ _ _ g4.out).trans rfl
  have i6:Hid (wC.heap[(w.heap.size+1+1+1)]? = some (.cells #[.slice none 0 0,.slice none 0 0,.slice none 0 0,.slice none 0 0,.slice none 0 0,.slice none 0 0,.int .i64 0,.int .i64 0] 40 (0,0))):=by rw[<-h7];exact(heap_setCell_other _ _ _ _ (by show(w.heap.size+1+1+1)≠(w.heap.size+1+1);omega)).trans z4.out
  have LC:Hid (cC _ wC D (.slice CN D.cells.length cn) v9 w0 w7):=ak1 LB.out g4.out (λk hk=>by rw[<-h7];exact heap_setCell_other _ _ _ _ hk) (by rw[<-h7];simp[World.setCell]) C5.out
  have KC:Hid (Below w.heap.size w wC):=by rw[<-h7];exact KB.out.setCell (by show w.heap.size<=(w.heap.size+1+1);omega) _
  clear h7 e7 z7
  (try dsimp only [Act.put])
  have a5:=rrZ z5
  go_wp2_with (first | (refine wpList_load_mid rfl 40 _ rfl (w.heap.size+1+1) 0 rfl [.slice CN D.cells.length cn,.slice U5 S.shapes.length c5,.slice U6 S.texts.length c6,.slice (some ⟨a6,0,none⟩) S.threads.length tg,.slice U7 S.ends.length c7,.slice U8 S.said.length c8,.int .i64 S.asked,.int .i64 (S.steps+D.steps)] _ a5.out underlying40 rfl fX ?_) | (refine wpList_store_row rfl 40 _ _ rfl (w.heap.size+1+1+1) #[.slice CN D.cells.length cn,.slice U5 S.shapes.length c5,.slice U6 S.texts.length c6,.slice (some ⟨a6,0,none⟩) S.threads.length tg,.slice U7 S.ends.length c7,.slice U8 S.said.length c8,.int .i64 S.asked,.int .i64 (S.steps+D.steps)] rfl rfl 40 _ i6.out fX rfl (oCz (by simp[Value.oneCell'])) ?_) | fail)
  generalize y:World.setRow _ _ _=wz
  have l:=shZ y i6
  have LZ:Hid (cC _ wz D (.slice CN D.cells.length cn) v9 w0 w7):=ak1 LC.out i6.out (λk hk=>by rw[<-y];exact setRow_other _ _ _ _ hk) (by rw[<-y];simp) H5.out
  have M:Hid (Below w.heap.size w wz):=by rw[<-y];exact Below.set_row KC.out (by omega) _
  clear y a5
  go_wp2_with fail
  have N:=crZ l 0 rfl
  have O:=crZ l 1 rfl
  have P:=crZ l 2 rfl
  have R:=crZ l 3 rfl
  have V:=crZ l 4 rfl
  have X:=crZ l 5 rfl
  have Y:=crZ l 6 rfl
  have Z:=crZ l 7 rfl
  refine bodyPost_ret (v:=.tuple #[.agg ⟨[.slice CN D.cells.length cn,.slice U5 S.shapes.length c5,.slice U6 S.texts.length c6,.slice (some ⟨a6,0,none⟩) S.threads.length tg,.slice U7 S.ends.length c7,.slice U8 S.said.length c8,.int .i64 S.asked,.int .i64 (S.steps+D.steps)]⟩,.int .i64 ex,.int .i64 dn,.int .i64 0]) (by simp[results,results35,go_sem,N,O,P,R,V,X,Y,Z]) rfl ?_
  have hN:=J.out
  subst hN
  exact⟨_,rfl,λI g2 gz=>b3.out.o LZ.out (by unfold wfi;omega) g2 gz,M.out⟩
end
end Go.Proofs.YtijihlcdhppfgaaGreatDoor
