/- Part of the walk of the given code: contracts, and plain laws. -/
import Derived.Test.YtijihlcdhppfgaaGreatDoorZDA
import Derived.Test.YtijihlcdhppfgaaGreatDoorZR
set_option maxHeartbeats 16000000
set_option maxRecDepth 100000
set_option linter.all false
namespace Go.Proofs.YtijihlcdhppfgaaGreatDoor
open Go.Proofs.Tryz
section
open Go.RowKit
theorem insC_ok {at_:List Int} (h:∀a∈at_,-1<=a/\a<=300) {x:aT} (hx:kX x):kX (oE at_ x):=by
 obtain⟨d,g,hb,hc,f⟩:=hx;have b:∀v,wfi (bO at_ v):=λv=>by have:=av0 h v;unfold wfi;omega
 refine⟨d,?_,?_,?_,f⟩
 all_goals
  unfold oE iA;dsimp only;split;·exact b _
  ·assumption
theorem awC {at_:List Int} (h:∀a∈at_,-1<=a/\a<=300) {w:World} {B:Nat} {cs:List Value} {x:bX} (hx:fM w B cs x):wfX (dM at_ x):=by
 obtain⟨s,m,-,hs,hm,g,wb⟩:=hx;have b:∀v,wfi (bO at_ v):=λv=>by have:=av0 h v;unfold wfi;omega
 refine⟨g,wb,λs d=>?_,λm f=>?_⟩;·obtain⟨y,hy,rfl⟩:=List.mem_map.1 d;obtain⟨_,-,h1,-⟩:=hs.mem hy;exact⟨h1,b _⟩
 ·obtain⟨y,hy,rfl⟩:=List.mem_map.1 f;obtain⟨_,_,-,-,-,h1,j⟩:=hm.mem hy;refine⟨⟨b _,h1,j⟩,λv hv=>?_⟩;obtain⟨u,-,rfl⟩:=List.mem_map.1 hv;exact b _
theorem avT (v:Value) (xs:List Int) (a:Int):(⟨3,1,v,xs.length+1,(xs.flatMap λx=>[.int .i64 x])++[.int .i64 a]⟩:Og)=OgI v (xs++[a]):=by unfold OgI;simp
theorem av3 {w0 w:World} {bc:Nat} {tv:Value} {f:Bool} {l:List (Nat×List Value×TypeId)} {os:List Og} (_:Bo w0 w l os):∀E:Bk w0 bc tv f l os,E.wd.cell? ⟨bc,0,none⟩=some tv:=λE=>E.bo.bx.cl E.st.symm.i rfl
theorem Bk.of {w0 w:World} {bc:Nat} {tv v:Value} {f:Bool} {l:List (Nat×List Value×TypeId)} {os:List Og} {p:Addr} (_:Bo w0 w l os) (h:∀ {w':World} {l'},Bo w0 w' l' os->w'.cell? p=some v):∀E:Bk w0 bc tv f l os,E.wd.cell? p=some v:=λE=>h E.bo
theorem av1 {t:aH} {tl:List Int} (hc:iU t.loop t.ins tl ⟨[],true,0,[]⟩=none):g9 t tl=(mT,3):=by
 unfold g9;split;·rfl
 ·rw[hc]
def av2 (t:aH) (tl:List Int) (w:World) (e:Ending) (w':World):Prop:=
 ∃cs,e=.returned (.tuple #[.agg ⟨cs⟩,.int .i64 (g9 t tl).2])/\Below w.heap.size w w'/\∀w2:World,(∀k,w.heap.size<=k->k<w'.heap.size->w2.heap[k]? = w'.heap[k]?)->bI w2 w2.heap.size cs (g9 t tl).1
def zero13:List Value:=[.int .i64 0,.int .i64 0,.int .i64 0,.slice none 0 0,.slice none 0 0,.int .i64 0,.int .i64 0,.slice none 0 0,.slice none 0 0,.int .i64 0,.int .i64 0,.slice none 0 0,.slice none 0 0]
theorem avV (w:World) (B:Nat):bI w B zero13 mT:=by
 have z:wfi 0:=by unfold wfi;omega
 have d:fM w B [.int .i64 0,.int .i64 0,.slice none 0 0,.slice none 0 0] ajP:=⟨_,_,rfl,aB.nil _ _ _ _,aB.nil _ _ _ _,z,z⟩;exact⟨_,_,_,_,rfl,aB.nil _ _ _ _,aB.nil _ _ _ _,d,d,z,z,z⟩
theorem cut_b (ca:List Value) (t:aH) (v:Value) (tl:List Int) (w:World) (ht:bI w w.heap.size ca t) (hv:aB w w.heap.size 1 gB v tl) (u6:t.ins.length<=300) (v3:t.exits.length<=200) (SX:∀x,x=t.back\/x=t.turn\/x∈t.exits->x.sets.length<=1000/\x.makes.length<=1000/\∀m∈x.makes,m.vals.length<=1000) : Calls prog 24 #[.agg ⟨ca⟩,v] w (av2 t tl w):=by
 have SM:=hI SX;have HT:=hI ht;have HV:=hI hv;obtain⟨V,cV,rfl,n2,n3,-⟩:=hv;obtain⟨i,e,ct,cb,rfl,hi,he,hu,hb,wf⟩:=id ht;have QI:=hI hi;have QE:=hI he;have QB:=hI hb;have QT:=hI hu;have WF:=hI wf;obtain⟨Ai,ni,rfl,r6,j0,-⟩:=hi;obtain⟨Ae,ne,rfl,r7,j1,-⟩:=he;obtain⟨s1,m1,rfl,⟨S1,k1,rfl,-⟩,⟨M1,d1,rfl,-⟩,-⟩:=hu;obtain⟨s2,m2,rfl,⟨S2,k2,rfl,-⟩,⟨M2,d2,rfl,-⟩,-⟩:=hb;unfold maxLen at n3 j0 j1;clear ht SX wf;try dsimp only [List.cons_append,List.nil_append]
 by_cases L:tl.length=t.ins.length
 case neg=>
  have hn:((tl.length:Int) != (t.ins.length:Int))=true:=by rw[bne_iff_ne];omega
  have HE:Hid (g9 t tl=(mT,3)):=by unfold g9 Hid;rw[if_pos L]
  clear L;go_enter func24,ntmps24;go_upto_region 1 with fail;generalize h:World.alloc _ _=w1;have X:=(Bo.of (Bx.nil w)).al2 h;clear h;go_wp2_with (first | (refine X.bx.l1 ?_) | (refine X.st λ_ X=>?_) | fail);refine X.bx.rt2 ⟨_,by rw[HE.o],X.bx.k,λ_ _=>?_⟩;rw[HE.o];exact avV _ _
 have g7:=hI L;rw[L] at n2 ⊢;have HV:Hid (aB w w.heap.size 1 gB (.slice V t.ins.length cV) tl):=L ▸ HV.o;clear L;go_enter func24,ntmps24;go_upto_region 1 with fail;generalize h:World.alloc _ _=w1;have X:=(Bo.of (Bx.nil w)).al2 h;clear h;go_upto_region 4 with (first | (refine X.bx.l1 ?_) | fail);generalize h:World.alloc _ _=w2;have X:=X.al1 h;clear h;go_upto_region 5 with (first | (refine X.bx.l1 ?_) | (refine X.sta λw3 X=>?_) | fail);(try dsimp only [Act.put]);have X:=(X.nw 53 8).nw 3 1;go_wp2_with (first | (refine X.bx.l1 ?_) | fail);go_loopw [30] (λi wr=>∃(j:Nat) (S:mX) (tv iv:Value),i=.int .i64 j/\j<=t.ins.length/\S.at_.length=j/\S.ins.length<=j/\(0<=S.loop/\S.loop<=300)/\Hid (iU t.loop (t.ins.drop j) (tl.drop j) S=iU t.loop t.ins tl ⟨[],true,0,[]⟩)/\Hid (∀x∈S.ins,kX x)/\Hid (∀a∈S.at_,-1<=a/\a<=300)/\ Bo w wr ((w2.heap.size,[.int .i64 t.fn,.int .i64 t.at_,.int .i64 S.loop,iv,.slice none 0 0,.int .i64 0,.int .i64 0,.slice none 0 0,.slice none 0 0,.int .i64 0,.int .i64 0,.slice none 0 0,.slice none 0 0],34)::(w1.heap.size,[tv,.bool S.fine],119)::_::_::[]) [OgI tv S.at_,⟨53,8,iv,S.ins.length,S.ins.flatMap bA⟩]) (λi _=>t.ins.length - (RowKit.intOf i).toNat);case atStart=>exact⟨0,⟨[],true,0,[]⟩,_,_,rfl,by omega,rfl,by simp,⟨by simp,by simp⟩,rfl,λx hx=>by simp at hx,λa ha=>by simp at ha,X⟩
 case round=>
  clear X
  obtain⟨j,S,tv,iv,rfl,hj,hS,u8,⟨v0,v1⟩,SR,SW,G,X⟩:=hrel
  have HS:=hI hS
  have k8:S.at_.length<=j:=by omega
  have k9:j<=S.at_.length:=by omega
  clear hS
  obtain⟨M,N,rfl⟩:=X.isv (.tail _ List.mem_cons_self)
  obtain⟨l,o0⟩:∃l,l=tv:=⟨_,rfl⟩
  subst o0
  by_cases a9:j<t.ins.length
  ·have h0:(j:Int)<t.ins.length:=by omega
   obtain⟨b,e9,x,xs,rfl,hb,hx,-,⟨rfl,wx⟩,I⟩:=QI.o.at_ a9
   unfold bA at I
   have RG:Hid (wr.rangeAt b (e9+j*8) _):=λk u hk=>(X.bx.k.cell hb).trans (I k u hk)
   obtain⟨b2,f0,n,ns,rfl,o2,f1,-,⟨rfl,wn⟩,f2⟩:=HV.o.at_ (i:=j) (by have:=g7.o;omega)
   have n0:w.cell? ⟨b2,f0+j,none⟩=some (.int .i64 n):=by simpa using f2 0 _ rfl
   have e0:Hid (∀S',gK t.loop S x n=some S'->iU t.loop (t.ins.drop (j+1)) (tl.drop (j+1)) S'=iU t.loop t.ins tl ⟨[],true,0,[]⟩):=λS' e=>by
    rw[<-SR.o,oI hx,oI f1]
    show _=(match gK t.loop S x n with | none=>none | some s'=>iU t.loop _ _ s')
    rw[e]
   have l5:Hid (gK t.loop S x n=none->g9 t tl=(mT,3)):=λe=>av1 (by
    rw[<-SR.o,oI hx,oI f1]
    show(match gK t.loop S x n with | none=>none | some s'=>iU t.loop _ _ s')=none
    rw[e])
   have WX:=hI wx
   clear I f2 hx wx f1 wn SR
   go_upto_region 8 with (first | (refine Bx.ldr RG.o ?_) | (refine X.sta λwa X=>?_) | fail)
   (try dsimp only [Act.put])
   obtain⟨H,f3⟩:∃H,H=(if(j:Int)=t.loop then(S.ins.length:Int) else S.loop):=⟨_,rfl⟩
   have a0:=hI f3
   have l9:0<=H/\H<=300:=by rw[f3];split <;> omega
   obtain⟨b5,b6⟩:=l9
   have m0:S.ins.length<=300:=by omega
   clear f3
   go_upto_if 38 with (first | (refine X.bx.l1 ?_) | fail)
   go_cut [] (λwx=>Bo w wx ((wr.heap.size,[.int .i64 x.op,.int .i64 x.a,.int .i64 x.b,.int .i64 x.c,.int .i64 x.n,.int .i64 x.exit,.int .i64 x.k.kind,.int .i64 x.k.n],53)::(w2.heap.size,[.int .i64 t.fn,.int .i64 t.at_,.int .i64 H,.slice M S.ins.length N,.slice none 0 0,.int .i64 0,.int .i64 0,.slice none 0 0,.slice none 0 0,.int .i64 0,.int .i64 0,.slice none 0 0,.slice none 0 0],34)::(w1.heap.size,[l,.bool S.fine],119)::_::_::[]) [OgI l S.at_,⟨53,8,.slice M S.ins.length N,S.ins.length,S.ins.flatMap bA⟩])
   case first=>
    by_cases cl:(j:Int)=t.loop
    ·have m5:((j:Int) == t.loop)=true:=beq_iff_eq.2 cl
     obtain rfl:H=S.ins.length:=by rw[a0.o,if_pos cl]
     clear cl
     go_wp2_with (first | (refine X.bx.l1 ?_) | (refine X.s1 λ_ X=>?_) | fail)
     go_meet
     exact X
    ·have m5:((j:Int) == t.loop)=false:=beq_eq_false_iff_ne.2 cl
     obtain rfl:H=S.loop:=by rw[a0.o,if_neg cl]
     go_wp2_with fail
     go_meet
     exact X
   case rest=>
    have X:=hcut
    have nI:wc.cell? ⟨b2,f0+j,none⟩=some (.int .i64 n):=(X.bx.k.cell o2).trans n0
    clear n0
    by_cases cj:n=(j:Int)
    ·subst cj
     go_upto_region 13 with fail
     clear nI
     have q0:=av3 (bc:=w1.heap.size) (tv:=l) (f:=S.fine) X
     have q3:=Bk.cl (bc:=w1.heap.size) (tv:=l) (f:=S.fine) X (g:=w2.heap.size) (j:=3)
     have NK:Nonempty (Bk w w1.heap.size l S.fine _ _):=⟨⟨_,_,_,.tl _ <| .tl _ <| .hd _,X⟩⟩
     refine fP (λw'=>∃E:Bk w w1.heap.size l S.fine _ _,w'=E.wd) [0] [1,2,3,4,5,6,7] [8,9,10,11,12] [8] _ (by kernel_rfl) (by kernel_rfl) (by simp only[List.cons_append,List.nil_append,List.filterMap_cons,List.filterMap_nil,List.getElem?_toArray,List.getElem?_cons_zero,List.getElem?_cons_succ];rfl) (λ_ _ d _ _ h=>by cases d <;> exact h) ⟨⟨_,_,_,.tl _ <| .tl _ <| .hd _,X.dr⟩,rfl⟩ ?_
     show wpQuiet _ _ _ _ [_,_,_,_,_,_,_,_] _
     generalize D:(λF=>gT _ _ _ _ _ _ F _)=qq
     have A:=hI D
     clear D
     repeat (go_big_quiet_step (fail))
     refine wpQuiet_nil ?_
     rw[<-A.o]
     clear A qq q0 q3
     have X:=X.dr
     generalize World.drew _=wd at X ⊢
     refine aR rfl (λK p=>?_)
     go_simp
     refine p _ _ (λ_=>⟨⟨_,_,_,.tl _ <| .tl _ <| .hd _,(X.al _ _).tl1⟩,rfl⟩) ?_
     clear p K
     refine bG [9,10,11,12] _ _ (by kernel_rfl) (by kernel_rfl) ?_
     simp only[List.filterMap_cons,List.filterMap_nil,List.getElem?_toArray,List.getElem?_cons_zero,List.getElem?_cons_succ]
     show wpList _ _ _ [_,_,_,_] _ _
     go_upto_region 14 with (first | (at_builtin;refine X.app qC λA' c' wb X=>?_) | (refine X.s1 λ_ X=>?_) | fail)
     (try dsimp only [Act.put])
     have X:Bo w _ (_::_::(w1.heap.size,[.slice A' (S.at_.length+1) c',.bool S.fine],119)::_::_::[]) _:=X
     rw[avT] at X
     have e5:Hid (∀a∈S.at_++[(S.ins.length:Int)],-1<=a/\a<=300):=λa ha=>by
      rcases List.mem_append.1 ha with ha | ha
      ·exact G.o a ha
      ·simp at ha;omega
     have q3:=Bk.cl (bc:=w1.heap.size) (tv:=.slice A' (S.at_.length+1) c') (f:=S.fine) X (g:=w2.heap.size) (j:=3)
     have RX:=hI (Bk.rm (bc:=w1.heap.size) (tv:=.slice A' (S.at_.length+1) c') (f:=S.fine) X (g:=wr.heap.size) (j:=0) (vs:=[.int .i64 x.op,.int .i64 x.a,.int .i64 x.b,.int .i64 x.c,.int .i64 x.n,.int .i64 x.exit,.int .i64 x.k.kind,.int .i64 x.k.n]))
     have NK:Nonempty (Bk w w1.heap.size (.slice A' (S.at_.length+1) c') S.fine _ _):=⟨⟨_,_,_,.tl _ <| .tl _ <| .hd _,X⟩⟩
     refine cE (λw'=>∃E:Bk w w1.heap.size (.slice A' (S.at_.length+1) c') S.fine _ _,w'=E.wd) 4 [4,5,6,7,8] [4,5] (by kernel_rfl) (by decide) (by kernel_rfl) (λ_ _ d _ _ h=>by cases d <;> exact h) ⟨⟨_,_,_,.tl _ <| .tl _ <| .hd _,X.dr⟩,rfl⟩ ?_
     simp only[List.take_succ_cons,List.take_zero]
     generalize D:(λF=>gT _ _ _ _ _ _ F _)=qq
     have A:=hI D
     clear D
     repeat (first | (refine lqC (λw' ⟨E,e⟩=>e ▸ RX.o E) ?_;go_simp) | go_big_quiet_step (fail))
     refine wpQuiet_nil ?_
     rw[<-A.o]
     clear A qq q3 RX
     have X:=X.dr
     generalize World.drew _=wd at X ⊢
     refine aR rfl (λK p=>?_)
     go_simp
     refine avP (ins_b (x:=x) e5.o List.mem_cons_self X (.tl _ <| .tl _ <| .hd _)) λw5 X'=>?_
     unfold yA
     refine p _ _ (λ_=>⟨⟨w5,_,_,.tl _ <| .tl _ <| .hd _,X'⟩,rfl⟩) ?_
     clear p K X
     refine aR rfl (λK p=>?_)
     go_simp
     refine p _ _ (λ_=>⟨⟨_,_,_,.tl _ <| .tl _ <| .hd _,(X'.al _ _).tl1⟩,rfl⟩) ?_
     clear p K
     refine bG [6,7,8] _ _ (by kernel_rfl) (by kernel_rfl) ?_
     simp only[List.filterMap_cons,List.filterMap_nil,List.getElem?_toArray,List.getElem?_cons_zero,List.getElem?_cons_succ]
     show wpList _ _ _ [_,_,_] _ _
     go_wp2_with (first | (at_builtin;refine X'.app av7 λA2 c2 w6 X=>?_) | (refine X.s1 λ_ X=>?_) | fail)
     go_roundw
     case rel=>
      refine⟨j+1,⟨S.at_++[(S.ins.length:Int)],S.fine && mJ (S.at_++[(S.ins.length:Int)]) x,H,S.ins++[oE (S.at_++[(S.ins.length:Int)]) x]⟩,?_,?_,by go_num,by omega,by rw[List.length_append,HS.o];rfl,by simp;omega,⟨b5,b6⟩,e0.o _ (by unfold gK;dsimp only;rw[HS.o,if_pos rfl,<-a0.o]),?aw1,?aw2,?aw3⟩
      case aw3=>
       rw[List.length_append,List.flatMap_append];exact X.tl1
      case aw1=>
       intro z hz
       rcases List.mem_append.1 hz with hz | hz
       ·exact SW.o z hz
       ·simp at hz;subst hz;exact insC_ok e5.o WX.o
      case aw2=>
       exact e5.o
     case measure=>simp[RowKit.intOf];omega
    ·by_cases d8:n = -1
     ·subst d8
      have cn:((-1:Int) == (j:Int))=false:=beq_eq_false_iff_ne.2 (by omega)
      go_wp2_with (first | (refine X.bx.l1 ?_) | (at_builtin;refine X.app qC λA' c' wb X=>?_) | (refine X.s1 λ_ X=>?_) | fail)
      go_roundw
      case rel=>
       refine⟨j+1,⟨S.at_++[-1],S.fine,H,S.ins⟩,?_,?_,by go_num,by omega,by rw[List.length_append,HS.o];rfl,by simp;omega,⟨b5,b6⟩,e0.o _ (by unfold gK;dsimp only;rw[HS.o,if_neg (by omega),if_pos rfl,<-a0.o]),?bw1,?bw2,?bw3⟩
       case bw3=>
        rw[<-avT];exact X.tl1
       case bw1=>
        exact SW.o
       case bw2=>
        intro a ha
        rcases List.mem_append.1 ha with ha | ha
        ·exact G.o a ha
        ·simp at ha;omega
      case measure=>simp[RowKit.intOf];omega
     ·by_cases f9:0<=n/\n<(j:Int)
      ·obtain⟨d0,d4⟩:=f9
       obtain⟨k,rfl⟩:=Int.eq_ofNat_of_zero_le d0
       obtain⟨a,ha⟩:∃a,S.at_[k]? = some a:=⟨_,lG (by omega)⟩
       obtain⟨b3,c3,rfl,h5⟩:=X.ir List.mem_cons_self ha
       have HA:=hI ha
       have u7:(k:Int)<S.at_.length:=by omega
       have cn:((k:Int) == (j:Int))=false:=beq_eq_false_iff_ne.2 cj
       have m8:((k:Int) == -1)=false:=beq_eq_false_iff_ne.2 d8
       clear ha
       go_upto_region 18 with fail
       clear nI
       have q0:=av3 (bc:=w1.heap.size) (tv:=(.slice (some ⟨b3,0,none⟩) S.at_.length c3)) (f:=S.fine) X
       have q3:=Bk.of (bc:=w1.heap.size) (tv:=.slice (some ⟨b3,0,none⟩) S.at_.length c3) (f:=S.fine) X h5
       clear h5
       have NK:Nonempty (Bk w w1.heap.size (.slice (some ⟨b3,0,none⟩) S.at_.length c3) S.fine _ _):=⟨⟨_,_,_,.tl _ <| .tl _ <| .hd _,X⟩⟩
       refine fP (λw'=>∃E:Bk w w1.heap.size (.slice (some ⟨b3,0,none⟩) S.at_.length c3) S.fine _ _,w'=E.wd) [0] [1,2,3,4,5,6,7,8,9,10,11] [12,13,14,15,16] [12] _ (by kernel_rfl) (by kernel_rfl) (by simp only[List.cons_append,List.nil_append,List.filterMap_cons,List.filterMap_nil,List.getElem?_toArray,List.getElem?_cons_zero,List.getElem?_cons_succ];rfl) (λ_ _ d _ _ h=>by cases d <;> exact h) ⟨⟨_,_,_,.tl _ <| .tl _ <| .hd _,X.dr⟩,rfl⟩ ?_
       show wpQuiet _ _ _ _ [_,_,_,_,_,_,_,_,_,_,_,_] _
       generalize D:(λF=>gT _ _ _ _ _ _ F _)=qq
       have A:=hI D
       clear D
       repeat (go_big_quiet_step (fail))
       refine wpQuiet_nil ?_
       rw[<-A.o]
       clear A qq q0 q3
       have X:=X.dr
       generalize World.drew _=wd at X ⊢
       refine aR rfl (λK p=>?_)
       go_simp
       refine p _ _ (λ_=>⟨⟨_,_,_,.tl _ <| .tl _ <| .hd _,(X.al _ _).tl1⟩,rfl⟩) ?_
       clear p K
       refine bG [13,14,15,16] _ _ (by kernel_rfl) (by kernel_rfl) ?_
       simp only[List.filterMap_cons,List.filterMap_nil,List.getElem?_toArray,List.getElem?_cons_zero,List.getElem?_cons_succ]
       show wpList _ _ _ [_,_,_,_] _ _
       go_wp2_with (first | (at_builtin;refine X.app qC λA' c' wb X=>?_) | (refine X.s1 λ_ X=>?_) | fail)
       go_roundw
       case rel=>
        refine⟨j+1,⟨S.at_++[a],S.fine,H,S.ins⟩,?_,?_,by go_num,by omega,by rw[List.length_append,HS.o];rfl,by simp;omega,⟨b5,b6⟩,e0.o _ (by unfold gK;dsimp only;rw[HS.o,if_neg (by omega),if_neg (by omega),if_pos (by omega),Int.toNat_natCast,List.getD_eq_getElem?_getD,HA.o,Option.getD_some,<-a0.o]),?cw1,?cw2,?cw3⟩
        case cw3=>
         rw[<-avT];exact X.tl1
        case cw1=>
         exact SW.o
        case cw2=>
         intro F ha
         rcases List.mem_append.1 ha with ha | ha
         ·exact G.o F ha
         ·simp at ha;subst ha;exact G.o _ (List.mem_of_getElem? HA.o)
       case measure=>simp[RowKit.intOf];omega
      ·have HN:=hI (l5.o (by unfold gK;dsimp only;rw[HS.o,if_neg cj,if_neg d8,if_neg f9]))
       have cn:(n == (j:Int))=false:=beq_eq_false_iff_ne.2 cj
       have m8:(n == -1)=false:=beq_eq_false_iff_ne.2 d8
       by_cases d0:0<=n
       all_goals
        (first | have d3:(j:Int)<=n:=by omega | have d3:n<0:=by omega)
        clear f9
        go_wp2_with (first | (refine X.st λ_ X=>?_) | fail)
        refine X.bx.rt2 ⟨_,by rw[HN.o],X.bx.k,λ_ _=>?_⟩
        rw[HN.o]
        exact avV _ _
  ·obtain rfl:j=t.ins.length:=by omega
   have h0:¬(t.ins.length:Int)<t.ins.length:=by omega
   have HC:Hid (iU t.loop t.ins tl ⟨[],true,0,[]⟩=some S):=by
    rw[show Hid _=_ from rfl,<-SR.o,List.drop_length]
    cases tl.drop t.ins.length <;> rfl
   obtain⟨a2,O⟩:∃x,x=(if(t.ins.length:Int)<=t.loop then(S.ins.length:Int) else S.loop):=⟨_,rfl⟩
   obtain⟨J,P⟩:∃x,x=(if t.loop<=0 then 0 else a2):=⟨_,rfl⟩
   have h1:=hI O
   have h2:=hI P
   have m0:S.ins.length<=300:=by omega
   have HL:Hid ((bK t S).loop=J/\wfi J):=⟨by unfold bK;dsimp only;rw[P,O],by unfold wfi;rw[P,O];split <;> (try split) <;> omega⟩
   clear O P SR
   have l2:=X.bx.cl (g:=w.heap.size) (j:=2)
   have l3:=X.bx.cl (g:=w.heap.size) (j:=3)
   go_upto_if 114 with fail
   clear l2 l3 h0 a9 hj k8 k9
   go_cut [] (λwx=>Bo w wx ((w2.heap.size,[.int .i64 t.fn,.int .i64 t.at_,.int .i64 a2,.slice M S.ins.length N,.slice none 0 0,.int .i64 0,.int .i64 0,.slice none 0 0,.slice none 0 0,.int .i64 0,.int .i64 0,.slice none 0 0,.slice none 0 0],34)::(w1.heap.size,[l,.bool S.fine],119)::_::_::[]) [OgI l S.at_,⟨53,8,.slice M S.ins.length N,S.ins.length,S.ins.flatMap bA⟩])
   case first=>
    by_cases b1:(t.ins.length:Int)<=t.loop
    ·obtain rfl:a2=S.ins.length:=by rw[h1.o,if_pos b1]
     have a3:=X.bx.cl (g:=w2.heap.size) (j:=3)
     go_wp2_with (first | (refine X.s1 λ_ X=>?_) | fail)
     go_meet
     exact X
    ·obtain rfl:a2=S.loop:=by rw[h1.o,if_neg b1]
     replace b1:=Int.not_le.1 b1
     go_wp2_with fail
     go_meet
     exact X
   case rest=>
    have X:=hcut
    have l2:=X.bx.cl (g:=w.heap.size) (j:=2)
    go_upto_if 121 with fail
    clear l2
    go_cut [] (λwx=>Bo w wx ((w2.heap.size,[.int .i64 t.fn,.int .i64 t.at_,.int .i64 J,.slice M S.ins.length N,.slice none 0 0,.int .i64 0,.int .i64 0,.slice none 0 0,.slice none 0 0,.int .i64 0,.int .i64 0,.slice none 0 0,.slice none 0 0],34)::(w1.heap.size,[l,.bool S.fine],119)::_::_::[]) [OgI l S.at_,⟨53,8,.slice M S.ins.length N,S.ins.length,S.ins.flatMap bA⟩])
    case first=>
     by_cases b1:t.loop<=0
     ·obtain rfl:J=0:=by rw[h2.o,if_pos b1]
      go_wp2_with (first | (refine X.s1 λ_ X=>?_) | fail)
      go_meet
      exact X
     ·obtain rfl:J=a2:=by rw[h2.o,if_neg b1]
      replace b1:=Int.not_le.1 b1
      go_wp2_with fail
      go_meet
      exact X
    case rest=>
     have X:=hcut.nw 32 4
     have l4:=X.bx.cl (g:=w.heap.size) (j:=4)
     go_wp2_with fail
     clear l4
     go_loopw [126] (λi wr=>∃(j:Nat) (ev:Value) (rows:List (List Value)) (a4:List Og),i=.int .i64 j/\j<=t.exits.length/\Hid (avD (ExO a4) rows ((t.exits.take j).map (dM S.at_)))/\Bo w wr ((w2.heap.size,[.int .i64 t.fn,.int .i64 t.at_,.int .i64 J,.slice M S.ins.length N,ev,.int .i64 0,.int .i64 0,.slice none 0 0,.slice none 0 0,.int .i64 0,.int .i64 0,.slice none 0 0,.slice none 0 0],34)::(w1.heap.size,[l,.bool (S.fine && (t.exits.take j).all (dF S.at_))],119)::_::_::[]) (a4++⟨32,4,ev,j,rows.flatten⟩::[OgI l S.at_,⟨53,8,.slice M S.ins.length N,S.ins.length,S.ins.flatMap bA⟩])) (λi _=>t.exits.length - (RowKit.intOf i).toNat)
     case atStart=>exact⟨0,_,[],[],rfl,by omega,.nil,by rw[List.take_zero,List.all_nil,Bool.and_true];exact X⟩
     case round=>
      clear X
      obtain⟨j,ev,rows,a4,rfl,hj,AL,X⟩:=hrel
      have HO:Hid (OgI l S.at_∈a4++⟨32,4,ev,j,rows.flatten⟩::[OgI l S.at_,⟨53,8,.slice M S.ins.length N,S.ins.length,S.ins.flatMap bA⟩]):=List.mem_append_right _ (.tail _ List.mem_cons_self)
      by_cases a9:j<t.exits.length
      ·have i3:(j:Int)<t.exits.length:=by omega
       obtain⟨b,e9,y,v2,rfl,hb,hy,-,f7,I⟩:=QE.o.at_ a9
       obtain⟨s,m,rfl,⟨S3,cS,rfl,-⟩,⟨M3,cM,rfl,-⟩,-⟩:=id f7
       have RG:Hid (wr.rangeAt b (e9+j*4) _):=λk u hk=>(X.bx.k.cell hb).trans (I k u hk)
       have HY:=hI hy
       have XR:=hI f7
       have SY:=hI (SM.o y (.inr (.inr (List.mem_of_getElem? hy))))
       generalize b0:(S.fine && (t.exits.take j).all (dF S.at_))=ff at X
       have HF:Hid ((S.fine && (t.exits.take (j+1)).all (dF S.at_))=(ff && dF S.at_ y)):=by
        rw[avO hy,<-Bool.and_assoc,b0];rfl
       clear I hy f7 b0
       go_upto_region 27 with (first | (refine Bx.ldr RG.o ?_) | (refine X.sta λwa X=>?_) | fail)
       (try dsimp only [Act.put])
       have q4:=Bk.cl (bc:=w1.heap.size) (tv:=l) (f:=ff) X (g:=w2.heap.size) (j:=4)
       have RX:=hI (Bk.rm (bc:=w1.heap.size) (tv:=l) (f:=ff) X (g:=wr.heap.size) (j:=0) (vs:=[.int .i64 y.at_,.int .i64 y.steps,.slice S3 y.sets.length cS,.slice M3 y.makes.length cM]))
       have NK:Nonempty (Bk w w1.heap.size l ff _ _):=⟨⟨_,_,_,.tl _ <| .tl _ <| .hd _,X⟩⟩
       refine cE (λw'=>∃E:Bk w w1.heap.size l ff _ _,w'=E.wd) 4 [4,5,6,7,8] [4,5] (by kernel_rfl) (by decide) (by kernel_rfl) (λ_ _ d _ _ h=>by cases d <;> exact h) ⟨⟨_,_,_,.tl _ <| .tl _ <| .hd _,X.dr⟩,rfl⟩ ?_
       simp only[List.take_succ_cons,List.take_zero]
       generalize D:(λF=>gT _ _ _ _ _ _ F _)=qq
       have A:=hI D
       clear D
       repeat (first | (refine lqC (λw' ⟨E,e⟩=>e ▸ RX.o E) ?_;go_simp) | go_big_quiet_step (fail))
       refine wpQuiet_nil ?_
       rw[<-A.o]
       clear A qq q4 RX
       have X:=X.dr
       generalize World.drew _=wd at X ⊢
       refine aR rfl (λK p=>?_)
       go_simp
       refine(avY (x:=y) G.o HO.o X (.tl _ <| .tl _ <| .hd _) XR.o SY.o.1 SY.o.2.1 SY.o.2.2).mono ?_
       rintro _ w5 ⟨_,p1,rfl,d5,Y⟩
       obtain⟨s3,m3,r3,rfl,e1,e2,e3⟩:=id d5;obtain⟨A9,c9,rfl⟩:=Y.isv (List.mem_append_left _ e1);obtain⟨A0,c0,rfl⟩:=Y.isv (List.mem_append_left _ e2)
       clear e1 e2 e3
       have d5:=hI d5
       refine p _ _ (λ_=>⟨⟨w5,_,_,.tl _ <| .tl _ <| .hd _,Y.dp _⟩,rfl⟩) ?_
       clear p K X
       refine aR rfl (λK p=>?_)
       go_simp
       refine p _ _ (λ_=>⟨⟨_,_,_,.tl _ <| .tl _ <| .hd _,(Y.al _ _).tl1.dp _⟩,rfl⟩) ?_
       clear p K
       refine bG [6,7,8] _ _ (by kernel_rfl) (by kernel_rfl) ?_
       simp only[List.filterMap_cons,List.filterMap_nil,List.getElem?_toArray,List.getElem?_cons_zero,List.getElem?_cons_succ]
       show wpList _ _ _ [_,_,_] _ _
       go_wp2_with (first | (at_builtin;refine Y.app av8 λA' c' w6 X=>?_) | (refine X.s1 λ_ X=>?_) | fail)
       go_roundw
       case rel=>
        refine⟨j+1,_,rows++[[.int .i64 (dM S.at_ y).at_,.int .i64 (dM S.at_ y).steps,.slice A9 (dM S.at_ y).sets.length c9,.slice A0 (dM S.at_ y).makes.length c0]],p1++a4,by go_num,by omega,?_,by rw[HF.o,List.flatten_append,List.append_assoc];exact X.tl1⟩
        rw[avQ HY.o]
        exact(AL.o.imp λ_ _ _ h=>h.more λ_=>List.mem_append_right _).snoc (d5.o.more λ_=>List.mem_append_left _)
       case measure=>simp[RowKit.intOf];omega
      ·obtain rfl:j=t.exits.length:=by omega
       have i3:¬(t.exits.length:Int)<t.exits.length:=by omega
       rw[List.take_of_length_le (Nat.le_refl _)] at AL X
       obtain⟨A5,c5,rfl⟩:=X.isv (List.mem_append_right _ List.mem_cons_self)
       generalize b0:(S.fine && t.exits.all (dF S.at_))=ff at X
       have HM:Hid (g9 t tl=if(ff && dF S.at_ t.turn && dF S.at_ t.back) then(bK t S,0) else(mT,3)):=by
        unfold g9 Hid
        rw[if_neg (λh=>h g7.o),HC.o,<-b0]
       have ST:=hI (SM.o _ (.inr (.inl rfl)))
       have SK:=hI (SM.o _ (.inl rfl))
       clear b0 hj a9
       go_upto_region 29 with fail
       have h3:=hI (Bk.rm (bc:=w1.heap.size) (tv:=l) (f:=ff) X (g:=w.heap.size) (j:=5) (vs:=[.int .i64 t.turn.at_,.int .i64 t.turn.steps,.slice S1 t.turn.sets.length k1,.slice M1 t.turn.makes.length d1]))
       have h4:=hI (Bk.rm (bc:=w1.heap.size) (tv:=l) (f:=ff) X (g:=w.heap.size) (j:=9) (vs:=[.int .i64 t.back.at_,.int .i64 t.back.steps,.slice S2 t.back.sets.length k2,.slice M2 t.back.makes.length d2]))
       have NK:Nonempty (Bk w w1.heap.size l ff _ _):=⟨⟨_,_,_,.tl _ <| .hd _,X⟩⟩
       refine fS (λw'=>∃E:Bk w w1.heap.size l ff _ _,w'=E.wd) [0,1,2,4,5,6] [3,8] 6 #[true,true,true,false,true,true,true,false,false,false,false,false] _ (by kernel_rfl) (by kernel_rfl) (by simp only[List.filterMap_cons,List.filterMap_nil,List.getElem?_toArray,List.getElem?_cons_zero,List.getElem?_cons_succ];rfl) (λ_ _ d _ _ h=>by cases d <;> exact h) ⟨⟨_,_,_,.tl _ <| .hd _,X.dr⟩,rfl⟩ ?_
       generalize D:(λF=>dH _ _ _ _ _ _ _ _ F _)=qq
       have A:=hI D
       clear D
       show wpQuiet _ _ _ _ [_,_,_,_,_,_] _
       repeat (first | (refine lqC (λw' ⟨E,e⟩=>e ▸ h3.o E) ?_;go_simp) | (refine lqC (λw' ⟨E,e⟩=>e ▸ h4.o E) ?_;go_simp) | go_big_quiet_step (fail))
       refine wpQuiet_nil ?_
       rw[<-A.o]
       clear A qq h3 h4
       have X:=X.dr
       generalize World.drew _=wd at X ⊢
       refine j9 (i:=3) (by decide +kernel) rfl (λK p=>?_)
       go_simp
       refine(avY (x:=t.turn) G.o HO.o X (.tl _ <| .hd _) QT.o ST.o.1 ST.o.2.1 ST.o.2.2).mono ?_
       rintro _ w5 ⟨_,ot,rfl,d6,Y⟩
       obtain⟨s3,m3,r3,rfl,e1,e2,e3⟩:=id d6;obtain⟨A9,c9,rfl⟩:=Y.isv (List.mem_append_left _ e1);obtain⟨A0,c0,rfl⟩:=Y.isv (List.mem_append_left _ e2)
       clear e1 e2 e3 X
       have d6:=hI d6
       refine p _ _ (λ_=>⟨⟨w5,_,_,.tl _ <| .hd _,Y.dp _⟩,rfl⟩) ?_
       clear p K
       have CB:Hid (Calls prog 55 #[.pointer (some ⟨w1.heap.size,0,none⟩),.agg ⟨[.int .i64 t.back.at_,.int .i64 t.back.steps,.slice S2 t.back.sets.length k2,.slice M2 t.back.makes.length d2]⟩] w5 _):=avY (x:=t.back) G.o (List.mem_append_right _ HO.o) Y (.tl _ <| .hd _) QB.o SK.o.1 SK.o.2.1 SK.o.2.2
       repeat' (first
        | (refine lR (i:=7) (k:=8) (by decide +kernel) rfl rfl (λK p=>?_) (λK p=>?_))
        | (refine cT [8,9,10,11] _ _ _ (by decide +kernel) ?_;refine aR rfl (λK p=>?_))
        | (refine cT [7,9,10,11] _ _ _ (by decide +kernel) ?_;refine aR rfl (λK p=>?_))
        | (refine bG [9,10,11] _ _ (by kernel_rfl) (by kernel_rfl) ?_)
        | (go_simp;refine CB.o.mono ?_;rintro _ w6 ⟨_,ob,rfl,d7,Z⟩;obtain⟨s4,m4,r4,rfl,e1,e2,e3⟩:=id d7;obtain⟨A7,c7,rfl⟩:=Z.isv (List.mem_append_left _ e1);obtain⟨A8,c8,rfl⟩:=Z.isv (List.mem_append_left _ e2);clear e1 e2 e3;have d7:=hI d7;refine p _ _ (λh=>by cases h) ?_;clear p K)
        | (go_simp;refine p _ _ (λ_=>by first | exact⟨⟨w5,_,_,.tl _ <| .hd _,Y.dp _⟩,rfl⟩ | exact⟨⟨_,_,_,.tl _ <| .hd _,(Z.dp _).dp _⟩,rfl⟩) ?_;clear p K))
       all_goals
        simp only[List.filterMap_cons,List.filterMap_nil,List.getElem?_toArray,List.getElem?_cons_zero,List.getElem?_cons_succ]
        show wpList _ _ _ [_,_,_] _ _
        go_upto_region 30 with (first | (refine Z.sm λ_ Z=>?_) | fail)
        (try dsimp only [Act.put])
        have fc:=Z.bx.cl (g:=w1.heap.size) (j:=1)
        generalize (ff && dF S.at_ t.turn && dF S.at_ t.back)=fb at Z fc HM
        cases fb
        ·have HN:Hid (g9 t tl=(mT,3)):=HM.o
         go_wp2_with (first | (refine Z.st λ_ Z=>?_) | fail)
         refine Z.bx.rt2 ⟨_,by rw[HN.o],Z.bx.k,λ_ _=>?_⟩
         rw[HN.o]
         exact avV _ _
        ·have HN:Hid (g9 t tl=(bK t S,0)):=HM.o
         go_wp2_with (first | (refine Z.bx.ld ?_) | (refine Z.st λ_ Z=>?_) | fail)
         refine Z.bx.rt2 ⟨_,by rw[HN.o],Z.bx.k,λw9 h9=>?_⟩
         rw[HN.o]
         have OW:=λq R=>avJ (w':=w9) (Z.ow q R) λg hg=>h9 g (Z.lt R hg).1 (Z.lt R hg).2
         have TR:=awD (t:=bK t S) (rows:=rows) OW (List.mem_append_right _ (List.mem_append_right _ (List.mem_append_right _ (.tail _ (.tail _ List.mem_cons_self))))) SW.o (by show(⟨_,_,_,(t.exits.map _).length,_⟩:Og)∈_;rw[List.length_map];exact List.mem_append_right _ (List.mem_append_right _ (List.mem_append_right _ List.mem_cons_self)))
          (AL.o.imp λc x hx h=>⟨h.len,(h.more λ_ R=>List.mem_append_right _ (List.mem_append_right _ (List.mem_append_left _ R))).r OW (by obtain⟨y,hy,rfl⟩:=List.mem_map.1 hx;obtain⟨_,hr⟩:=QE.o.mem hy;exact awC G.o hr)⟩)
          ((d6.o.more λ_ R=>List.mem_append_right _ (List.mem_append_left _ R)).r OW (awC G.o QT.o)) ((d7.o.more λ_ R=>List.mem_append_left _ R).r OW (awC G.o QB.o)) ⟨WF.o.1,WF.o.2.1,by rw[HL.o.1];exact HL.o.2⟩
         rw[HL.o.1] at TR
         exact TR
end
end Go.Proofs.YtijihlcdhppfgaaGreatDoor
