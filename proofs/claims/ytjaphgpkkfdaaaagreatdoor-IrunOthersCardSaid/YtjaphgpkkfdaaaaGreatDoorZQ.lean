/- Part of the walk of the given code: contracts of the functions that irun.Run reaches, and plain laws on what it reckons. -/
import Derived.Test.YtjaphgpkkfdaaaaGreatDoorZP
set_option maxHeartbeats 16000000
set_option maxRecDepth 100000
set_option linter.all false
namespace Go.Proofs.YtjaphgpkkfdaaaaGreatDoor
section
open Go.RowKit
theorem ac0:(Tryz.prog.info? 170).map (fun i=>(i.zero,i.size,i.bytes))=some (some (.slice none 0 0),1,24):=by kernel_rfl
theorem ac4:(Tryz.prog.info? 171).map (fun i=>(i.zero,i.size,i.bytes))=some (some (.slice none 0 0),1,24):=by kernel_rfl
def oA (w:World) (C:Nat) (v:Value) (f:CFn):Prop:=∃bo ovs,v=.slice (some ⟨bo,0,none⟩) f.code.length f.code.length∧f.code.length≤600∧w.heap[bo]? = some (.cells ⟨ovs⟩ 59 (0,0))∧ovs.length=f.code.length∧(cY f.code).out.length=f.code.length∧
 ∀(i:Nat) v l,ovs[i]? = some v→(cY f.code).out[i]? = some l→bI w C 96 2 jW v l
def sH (w:World) (v:Value) (f:CFn):Prop:=∃bs,v=.slice (some ⟨bs,0,none⟩) f.code.length f.code.length∧f.code.length≤600∧w.heap[bs]? = some (.cells ⟨(cY f.code).seen.map .bool⟩ 4 (0,0))∧(cY f.code).seen.length=f.code.length
theorem oA.keep {w w':World} {C:Nat} {v:Value} {f:CFn} (h:oA w C v f) (hk:∀(k:Nat) (cs:Array Value) (t:TypeId) (fr:Nat×Nat),t=59∨t=96→w.heap[k]? = some (.cells cs t fr)→w'.heap[k]? = w.heap[k]?):oA w' C v f:=by
 obtain⟨bo,ovs,h1,h2,h3,h4,h5,h6⟩:=h
 exact⟨bo,ovs,h1,h2,(hk _ _ _ _ (.inl rfl) h3).trans h3,h4,h5,fun i v l hv hl=>(h6 i v l hv hl).keep (fun k cs fr _ hh=>hk _ _ _ _ (.inr rfl) hh) (fun _ _ h=>h)⟩
theorem sH.keep {w w':World} {v:Value} {f:CFn} (h:sH w v f) (hk:∀(k:Nat) (cs:Array Value) (t:TypeId) (fr:Nat×Nat),t=4→w.heap[k]? = some (.cells cs t fr)→w'.heap[k]? = w.heap[k]?):sH w' v f:=by
 obtain⟨bs,h1,h2,h3,h4⟩:=h
 exact⟨bs,h1,h2,(hk _ _ _ _ rfl h3).trans h3,h4⟩
theorem yY {w w':World} {B:Nat} {e t:TypeId} {size n:Nat} {v:Value} {xs:List Value} (hown:w.ownsRow B e size v n xs) (hg:w.grownBy w' v.ownBlock) {k:Nat} {cs:Array Value} {fr:Nat×Nat}
  (hk:w.heap[k]? = some (.cells cs t fr)) (ht:t≠e):w'.heap[k]? = w.heap[k]?:=
 hg.block k (aE hk).1 (fun e=>by
  obtain⟨_,cs',fr',h2⟩:=jD hown k e.symm
  rw[hk] at h2;injection h2 with h2;injection h2 with _ h2 _;exact ht h2)
theorem pC {w w':World} {B C:Nat} {e e2:TypeId} {size sz n m:Nat} {v u:Value} {xs cs:List Value} (h:w.ownsRow B e size v n xs) (hown:w.ownsRow C e2 sz u m cs) (hg:w.grownBy w' u.ownBlock) (ht:e≠e2):w'.ownsRow B e size v n xs:=by
 cases hb:v.ownBlock with
 | none=>exact h.kept hg (.inl hb)
 | some k=>
  refine h.kept hg (.inr (fun hx=>?_))
  obtain⟨_,c1,f1,h1⟩:=jD h _ hb
  obtain⟨_,c2,f2,h2⟩:=jD hown _ (hx.symm.trans hb)
  rw[h1] at h2;injection h2 with h2;injection h2 with _ h2 _;exact ht h2
theorem cZ {w w':World} {B n size:Nat} {e:TypeId} {v:Value} {xs:List Value} (h:w.ownsRow B e size v n xs) (hk:Below w.heap.size w w'):w'.ownsRow B e size v n xs:=by
 obtain⟨hl,h2⟩:=h
 refine⟨hl,?_⟩
 rcases h2 with ⟨rfl,h0⟩ | ⟨g,cap,cur,rfl,hb,hg,h1⟩
 ·exact .inl ⟨rfl,h0⟩
 ·exact .inr ⟨g,cap,cur,rfl,hb,(hk.block g (aE hg).1).trans hg,h1⟩
def fY (w:World) (b:Nat):Prop:=∃cs t fr,w.heap[b]? = some (.cells cs t fr)∧t≠118
def vE (w:World) (Q:Nat→Prop) (tv:Value) (p:aW):Prop:=bK w Q 1 (fun cs (o:List (List gM))=>∃v,cs=[v]∧bK w Q 1 (fun cs t=>∃v,cs=[v]∧bK w Q 2 jW v t) v o) tv (p.fns.map fun f=>(cY f.code).out)
def zT (w:World) (Q:Nat→Prop) (yv:Value) (p:aW):Prop:=bK w Q 1 (fun cs (o:List Bool)=>∃v,cs=[v]∧bK w Q 1 sP v o) yv (p.fns.map fun f=>(cY f.code).seen)
theorem vE.toR {w w':World} {Q:Nat→Prop} {B:Nat} {tv:Value} {p:aW} (h:vE w Q tv p) (hQ:∀b,Q b→b<B) (hk:∀p:Addr,Q p.block→w'.cell? p=w.cell? p):sK w' B tv p:=
 (bK.keep (Q':=Q) h (fun _ h=>h) hk (fun _ _ h=>h)).toR hQ (fun _ _ ⟨v,e,h⟩=>⟨v,e,(h.keep (Q':=Q) (fun _ h=>h) hk (fun _ _ h=>h)).toR hQ (fun _ _ ⟨v,e,h⟩=>⟨v,e,(h.keep (Q':=Q) (fun _ h=>h) hk (fun _ _ h=>h)).toR hQ (fun _ _ h=>h)⟩)⟩)
theorem zT.toR {w w':World} {Q:Nat→Prop} {B:Nat} {yv:Value} {p:aW} (h:zT w Q yv p) (hQ:∀b,Q b→b<B) (hk:∀p:Addr,Q p.block→w'.cell? p=w.cell? p):wN w' B yv p:=
 (bK.keep (Q':=Q) h (fun _ h=>h) hk (fun _ _ h=>h)).toR hQ (fun _ _ ⟨v,e,h⟩=>⟨v,e,(h.keep (Q':=Q) (fun _ h=>h) hk (fun _ _ h=>h)).toR hQ (fun _ _ h=>h)⟩)
theorem oA.reads {w:World} {C:Nat} {v:Value} {f:CFn} (h:oA w C v f):bK w (fY w) 1 (fun cs t=>∃v,cs=[v]∧bK w (fY w) 2 jW v t) v (cY f.code).out:=by
 obtain⟨bo,ovs,rfl,h2,h3,h4,h5,h6⟩:=h
 refine⟨_,f.code.length,by rw[h5],by omega,by unfold maxLen;omega,fun hp=>⟨bo,0,rfl,⟨_,_,_,h3,by decide⟩,fun i x hx=>?_⟩⟩
 have hi:=(lE hx).1
 have hv:ovs[i]? = some (ovs[i]'(by omega)):=lG (by omega)
 refine⟨[ovs[i]'(by omega)],rfl,⟨_,rfl,(h6 i _ x hv hx).toQ (fun b cs fr _ hb=>⟨_,_,_,hb,by decide⟩)⟩,fun j u hj=>?_⟩
 match j,hj with
 | 0,hj=>
  simp only[List.getElem?_cons_zero,Option.some.injEq] at hj
  subst hj
  rw[cell_of_row w bo _ _ _ _ h3,show 0+i*1+0=i by omega]
  simp
theorem sH.reads {w:World} {v:Value} {f:CFn} (h:sH w v f):bK w (fY w) 1 sP v (cY f.code).seen:=by
 obtain⟨bs,rfl,h2,h3,h4⟩:=h
 refine⟨_,f.code.length,by rw[h4],by omega,by unfold maxLen;omega,fun hp=>⟨bs,0,rfl,⟨_,_,_,h3,by decide⟩,fun i x hx=>⟨[.bool x],rfl,rfl,fun j u hj=>?_⟩⟩⟩
 match j,hj with
 | 0,hj=>
  simp only[List.getElem?_cons_zero,Option.some.injEq] at hj
  subst hj
  rw[cell_of_row w bs _ _ _ _ h3,show 0+i*1+0=i by omega]
  simp[hx]
theorem wE {w:World} {B:Nat} {v:Value} {p:aW} {f:CFn} (h:dF p f=true) (hc:aH w B 5 iA v f.code):iP f.code:=fun i hi=>by
 obtain⟨j,hji⟩:=List.getElem?_of_mem hi
 unfold dF at h
 simp only[Bool.and_eq_true] at h
 have ho:=(qK f.code 0).1 h.1.2 j i hji
 obtain⟨o1,o2⟩:=qA ho
 obtain⟨cs,hR⟩:=hc.mem hi
 obtain⟨-,-,wa,wb,-⟩:=hR
 exact⟨fun h=>⟨(o1 h).1,wa.2⟩,fun h=>⟨(o2 h).1,wb.2⟩,wa⟩
theorem iO {p:aW} (h:bH p=0):0<p.fns.length∧∀f∈p.fns,dF p f=true∧f.code.length≤600∧f.regs≤60:=by
 unfold bH at h
 split at h
 ·cases h
 ·rename_i h1
  split at h
  ·cases h
  ·rename_i h2
   split at h
   ·cases h
   ·rename_i h3
    refine⟨?_,fun f hf=>⟨?_,(v8 (by simpa using h1)).2 f hf⟩⟩
    ·cases hp:p.fns with
     | nil=>unfold tS at h2;rw[hp] at h2;simp at h2
     | cons a b=>simp
    ·have h4:p.fns.any (fun f=>!dF p f)=false:=by simpa using h3
     have:=List.any_eq_false.1 h4 f hf
     simpa using this
def AllPost (p:aW) (w:World) (e:Ending) (w':World):Prop:=∃tv yv,e=.returned (.tuple #[tv,yv])∧vE w' (fY w') tv p∧zT w' (fY w') yv p∧i8 p∧Below w.heap.size w w'
theorem abG (pcs:List Value) (p:aW) (w:World) (hp:eL w w.heap.size pcs p) (hc:bH p=0):Calls Tryz.prog 50 #[.agg ⟨pcs⟩] w (AllPost p w):=by
 obtain⟨-,hfs⟩:=iO hc
 have HFS:=hI hfs
 obtain⟨A1,n1,A2,n2,A3,n3,rfl,q1,-⟩:=hp
 have lf:=aP q1
 have HF:=hI q1
 have hl60:p.fns.length≤60:=by
  have:lB p=false:=by
   unfold bH at hc
   split at hc
   ·cases hc
   ·rename_i h;simpa using h
  unfold lB at this
  simp only[Bool.or_eq_false_iff,decide_eq_false_iff_not] at this
  omega
 obtain⟨w0,hw0⟩:∃w0,w0=w.alloc (.cells #[.slice A1 p.fns.length n1,.slice A2 p.consts.length n2,.slice A3 p.texts.length n3] 26):=⟨_,rfl⟩
 have k0:Hid (Below w.heap.size w w0):=by rw[hw0];exact aB w _
 have c0:w0.cell? ⟨w.heap.size,0,none⟩=some (.slice A1 p.fns.length n1):=by rw[hw0];exact bL _ _ _ _
 have HW:=hI hw0
 obtain⟨i0,hi0,hi1,hi2,hi3⟩:=info_parts ac0
 obtain⟨j0,hj0,hj1,hj2,hj3⟩:=info_parts ac4
 clear hw0 q1 hc hfs
 go_enter Tryz.func50,Tryz.ntmps50
 go_upto_region 3 with fail
 rw[←HW.out]
 go_wp2_with fail
 go_loopw [4,5,14] (fun a b k wr=>∃(kn:Nat) (ts ys:List Value),k=.int .i64 kn∧kn≤p.fns.length∧Hid (ts.length=kn∧ys.length=kn)∧Hid (wr.ownsRow w0.heap.size 170 1 a kn ts)∧Hid (wr.ownsRow w0.heap.size 171 1 b kn ys)∧
  Hid (∀(i:Nat) v f,ts[i]? = some v→p.fns[i]? = some f→oA wr w0.heap.size v f)∧Hid (∀(i:Nat) v f,ys[i]? = some v→p.fns[i]? = some f→sH wr v f)∧Hid (Below w0.heap.size w0 wr)) (fun _ _ k _=>p.fns.length - (RowKit.intOf k).toNat)
 case atStart=>exact⟨0,[],[],rfl,by omega,⟨rfl,rfl⟩,World.ownsRow_nil _ _ _ _,World.ownsRow_nil _ _ _ _,fun i v f h=>by simp at h,fun i v f h=>by simp at h,Below.refl _ _⟩
 case round=>
  obtain⟨kn,ts,ys,rfl,hk,HL,OA,OB,HT,HY,KW⟩:=hrel
  obtain⟨AA,ca,rfl⟩:=bV OA.out
  obtain⟨AB,cb,rfl⟩:=bV OB.out
  have hsz:=KW.out.size
  have KK:=btZ k0 KW.out
  clear c0
  by_cases hlt:kn<p.fns.length
  ·obtain⟨b,off,f,fcs,rfl,hb,hx,-,hR,hat⟩:=HF.out.at_ hlt
   have HFN:Hid (FnR wr wr.heap.size fcs f):=hR.keep KK.out.size (fun _ hp=>KK.out.cell hp)
   obtain⟨hf1,hf2,-⟩:=HFS.out f (List.mem_of_getElem? hx)
   obtain⟨CA,cn,OC,oc,rfl,-,hcode,-⟩:=hR
   have hji:(kn:Int)<p.fns.length:=by omega
   have HJ:=hI (wE hf1 hcode)
   have g0:wr.cell? ⟨b,off+kn*5,none⟩=some (.int .i64 f.params):=(KK.out.cell hb).trans (hat 0 _ rfl)
   have g1:wr.cell? ⟨b,off+kn*5+1,none⟩=some (.int .i64 f.regs):=(KK.out.cell hb).trans (hat 1 _ rfl)
   have g2:wr.cell? ⟨b,off+kn*5+2,none⟩=some (.bool f.gen):=(KK.out.cell hb).trans (hat 2 _ rfl)
   have g3:wr.cell? ⟨b,off+kn*5+3,none⟩=some (.slice CA f.caught.length cn):=(KK.out.cell hb).trans (hat 3 _ rfl)
   have g4:wr.cell? ⟨b,off+kn*5+4,none⟩=some (.slice OC f.code.length oc):=(KK.out.cell hb).trans (hat 4 _ rfl)
   have hzb:b<wr.heap.size:=Nat.lt_of_lt_of_le hb KK.out.size
   have HX:=hI hx
   obtain⟨w1,hw1⟩:∃w1,w1=wr.alloc (.cells #[.int .i64 f.params,.int .i64 f.regs,.bool f.gen,.slice CA f.caught.length cn,.slice OC f.code.length oc] 99):=⟨_,rfl⟩
   have K1:Hid (Below wr.heap.size wr w1):=by rw[hw1];exact aB _ _
   have HB1:Hid (aA w1 wr.heap.size [.int .i64 f.params,.int .i64 f.regs,.bool f.gen,.slice CA f.caught.length cn,.slice OC f.code.length oc]):=by rw[hw1];exact ad5 _ _ _
   have HW1:=hI hw1
   have CT:=hI (yU _ f w1 (HFN.out.keep K1.out.size (fun _ hp=>K1.out.cell hp)) hf2 HJ.out)
   have HF2:=hI hf2
   clear hat hx hcode hf1 hw1
   go_upto_region 6 with fail
   rw[←HW1.out]
   have e0:=HB1.out 0 _ rfl
   have e1:=HB1.out 1 _ rfl
   have e2:=HB1.out 2 _ rfl
   have e3:=HB1.out 3 _ rfl
   have e4:=HB1.out 4 _ rfl
   clear g0 g1 g2 g3 g4
   go_wp2_with fail
   refine CT.out.mono ?_
   rintro e w2 ⟨bs,bo,ovs,rfl,h1,h2,h3,h4,h5,k2⟩
   have K2:=btZ K1 k2
   have TC2:Hid (oA w2 w0.heap.size (.slice (some ⟨bo,0,none⟩) f.code.length f.code.length) f):=⟨bo,ovs,rfl,HF2.out,h2,h3,h5.out,fun i v l hv hl=>by
    obtain⟨A,cap,e1,e2,e3,e4⟩:=h4 i v l hv hl
    exact⟨A,cap,e1,e2,e3,fun hp=>by
     obtain⟨b,off,cs,fr,e5,e6,e7⟩:=e4 hp
     exact⟨b,off,cs,fr,e5,by have:=K1.out.size;omega,e7⟩⟩⟩
   have WC2:Hid (sH w2 (.slice (some ⟨bs,0,none⟩) f.code.length f.code.length) f):=⟨bs,rfl,HF2.out,h1,h5.seen⟩
   have hz2:w0.heap.size≤w2.heap.size:=Nat.le_trans hsz K2.out.size
   have OA2:=hI (cZ OA.out K2.out)
   have OB2:=hI (cZ OB.out K2.out)
   have hn6:=HF2.out
   clear e0 e1 e2 e3 e4 h1 h2 h3 h4 h5 k2
   go_wp2_with (at_builtin;refine wpList_append_own _ rfl _ _ 115 rfl w0.heap.size 170 i0 (.slice none 0 0) 1 24 Tryz.underlying115 hi0 hi1 hi2 hi3 rfl (by decide) (.slice AA kn ca) kn ts rfl (OA2.out.alloc _) ⟨w2.heap.size,0,none⟩ 1 1 [.slice (some ⟨bo,0,none⟩) f.code.length f.code.length] rfl rfl ?c1 ?c2 ?c3 ?c4 ?c5 ?_)
   case c1=>exact World.news_of_block (cs:=#[.slice (some ⟨bo,0,none⟩) f.code.length f.code.length]) (aJ _ _)
   case c2=>intro u hu;simp at hu;subst hu;rfl
   case c3=>unfold maxLen;omega
   case c4=>omega
   case c5=>simp;omega
   intro v3 w3 hown3 hg3 _
   have O3:=hI hown3
   have K23:=hI (mO (B':=w0.heap.size) (OA2.out.alloc (.cells #[.slice (some ⟨bo,0,none⟩) f.code.length f.code.length] 170)) hg3 (Nat.le_refl _) (by simp;omega))
   have KA3:Hid (∀(k:Nat) (cs:Array Value) (t:TypeId) (fr:Nat×Nat),t≠170→w2.heap[k]? = some (.cells cs t fr)→w3.heap[k]? = w2.heap[k]?):=fun k cs t fr ht hk=>by
    have h0:(w2.alloc (.cells #[.slice (some ⟨bo,0,none⟩) f.code.length f.code.length] 170)).heap[k]? = some (.cells cs t fr):=aY hk _
    rw[yY (OA2.out.alloc _) hg3 h0 ht,h0,hk]
   have OB3:Hid (w3.ownsRow w0.heap.size 171 1 (.slice AB kn cb) kn ys):=pC (OB2.out.alloc _) (OA2.out.alloc _) hg3 (by decide)
   have K03:Hid (Below w0.heap.size w0 w3):=((KW.out.trans (K2.out.mono hsz)).alloc hz2 _).trans K23.out
   have hz3:w0.heap.size≤w3.heap.size:=K03.out.size
   have hz3':w2.heap.size≤w3.heap.size:=by have:=hg3.size;simp at this;omega
   obtain⟨A3',c3',rfl⟩:=bV hown3
   clear hown3 hg3
   go_wp2_with (at_builtin;refine wpList_append_own _ rfl _ _ 116 rfl w0.heap.size 171 j0 (.slice none 0 0) 1 24 Tryz.underlying116 hj0 hj1 hj2 hj3 rfl (by decide) (.slice AB kn cb) kn ys rfl (OB3.out.alloc _) ⟨w3.heap.size,0,none⟩ 1 1 [.slice (some ⟨bs,0,none⟩) f.code.length f.code.length] rfl rfl ?d1 ?d2 ?d3 ?d4 ?d5 ?_)
   case d1=>exact World.news_of_block (cs:=#[.slice (some ⟨bs,0,none⟩) f.code.length f.code.length]) (aJ _ _)
   case d2=>intro u hu;simp at hu;subst hu;rfl
   case d3=>unfold maxLen;omega
   case d4=>omega
   case d5=>simp;omega
   intro v4 w4 hown4 hg4 _
   have O4:=hI hown4
   have K34:=hI (mO (B':=w0.heap.size) (OB3.out.alloc (.cells #[.slice (some ⟨bs,0,none⟩) f.code.length f.code.length] 171)) hg4 (Nat.le_refl _) (by simp;omega))
   have KB4:Hid (∀(k:Nat) (cs:Array Value) (t:TypeId) (fr:Nat×Nat),t≠171→w3.heap[k]? = some (.cells cs t fr)→w4.heap[k]? = w3.heap[k]?):=fun k cs t fr ht hk=>by
    have h0:(w3.alloc (.cells #[.slice (some ⟨bs,0,none⟩) f.code.length f.code.length] 171)).heap[k]? = some (.cells cs t fr):=aY hk _
    rw[yY (OB3.out.alloc _) hg4 h0 ht,h0,hk]
   have OA4:Hid (w4.ownsRow w0.heap.size 170 1 (.slice A3' (kn+1) c3') (kn+1) (ts++[.slice (some ⟨bo,0,none⟩) f.code.length f.code.length])):=pC (O3.out.alloc _) (OB3.out.alloc _) hg4 (by decide)
   have K04:Hid (Below w0.heap.size w0 w4):=(K03.out.alloc hz3 _).trans K34.out
   have KAB:Hid (∀(k:Nat) (cs:Array Value) (t:TypeId) (fr:Nat×Nat),t≠170→t≠171→w2.heap[k]? = some (.cells cs t fr)→w4.heap[k]? = w2.heap[k]?):=fun k cs t fr h1 h2 hk=>by
    have h3:=(KA3.out k cs t fr h1 hk).trans hk
    rw[KB4.out k cs t fr h2 h3,h3,hk]
   clear hown4 hg4
   go_wp2_with fail
   go_roundw
   case rel=>
    refine⟨kn+1,ts++[.slice (some ⟨bo,0,none⟩) f.code.length f.code.length],ys++[.slice (some ⟨bs,0,none⟩) f.code.length f.code.length],by go_num,by omega,?_,OA4,O4,?_,?_,K04⟩
    ·exact⟨by rw[List.length_append,HL.out.1];rfl,by rw[List.length_append,HL.out.2];rfl⟩
    ·intro i v g hv hg
     rcases Nat.lt_or_ge i kn with h | h
     ·rw[List.getElem?_append_left (by rw[HL.out.1];exact h)] at hv
      have h0:=HT.out i v g hv hg
      refine h0.keep (fun k cs t fr ht hh=>?_)
      have hh2:w2.heap[k]? = some (.cells cs t fr):=(K2.out.block k (aE hh).1).trans hh
      rw[KAB.out k cs t fr (by rcases ht with h | h <;> rw[h] <;> decide) (by rcases ht with h | h <;> rw[h] <;> decide) hh2,hh2,hh]
     ·have hi:i=kn:=by
       have:=(lE hv).1
       rw[List.length_append,HL.out.1] at this
       simp at this;omega
      subst hi
      rw[List.getElem?_append_right (by rw[HL.out.1];exact Nat.le_refl _),HL.out.1] at hv
      simp at hv
      subst hv
      rw[HX.out] at hg;injection hg with hg;subst hg
      exact TC2.out.keep (fun k cs t fr ht hh=>KAB.out k cs t fr (by rcases ht with h | h <;> rw[h] <;> decide) (by rcases ht with h | h <;> rw[h] <;> decide) hh)
    ·intro i v g hv hg
     rcases Nat.lt_or_ge i kn with h | h
     ·rw[List.getElem?_append_left (by rw[HL.out.2];exact h)] at hv
      have h0:=HY.out i v g hv hg
      refine h0.keep (fun k cs t fr ht hh=>?_)
      have hh2:w2.heap[k]? = some (.cells cs t fr):=(K2.out.block k (aE hh).1).trans hh
      rw[KAB.out k cs t fr (by rw[ht];decide) (by rw[ht];decide) hh2,hh2,hh]
     ·have hi:i=kn:=by
       have:=(lE hv).1
       rw[List.length_append,HL.out.2] at this
       simp at this;omega
      subst hi
      rw[List.getElem?_append_right (by rw[HL.out.2];exact Nat.le_refl _),HL.out.2] at hv
      simp at hv
      subst hv
      rw[HX.out] at hg;injection hg with hg;subst hg
      exact WC2.out.keep (fun k cs t fr ht hh=>KAB.out k cs t fr (by rw[ht];decide) (by rw[ht];decide) hh)
   case measure=>simp[RowKit.intOf];omega
  ·have hke:kn=p.fns.length:=by omega
   have hji:¬(kn:Int)<p.fns.length:=by omega
   subst hke
   have RT:Hid (vE wr (fY wr) (.slice AA p.fns.length ca) p):=by
    have:=fL (Q:=fY wr) (xs:=p.fns.map fun f=>(cY f.code).out) (R:=fun cs (o:List (List gM))=>∃v,cs=[v]∧bK wr (fY wr) 1 (fun cs t=>∃v,cs=[v]∧bK wr (fY wr) 2 jW v t) v o) (rows:=ts.map fun v=>[v]) (A:=AA) (c:=ca) (base:=w0.heap.size) (e:=170) (w:=wr) (size:=1) (by
     have h:=OA.out
     have e1:∀l:List Value,(l.map fun v=>[v]).flatMap id=l:=fun l=>by induction l with | nil=>rfl | cons x t ih=>rw[List.map_cons,List.flatMap_cons,ih];rfl
     rw[List.length_map,e1];exact h) (by rw[List.length_map,List.length_map,HL.out.1]) (by simp) (fun g cs _ _ hg=>⟨_,_,_,hg,by decide⟩) (fun i r x hr hx=>by
     rw[List.getElem?_map] at hr hx
     obtain⟨v,hv,rfl⟩:=Option.map_eq_some_iff.1 hr
     obtain⟨f,hf,rfl⟩:=Option.map_eq_some_iff.1 hx
     exact⟨v,rfl,(HT.out i v f hv hf).reads⟩)
    rw[List.length_map] at this
    exact this
   have RY:Hid (zT wr (fY wr) (.slice AB p.fns.length cb) p):=by
    have:=fL (Q:=fY wr) (xs:=p.fns.map fun f=>(cY f.code).seen) (R:=fun cs (o:List Bool)=>∃v,cs=[v]∧bK wr (fY wr) 1 sP v o) (rows:=ys.map fun v=>[v]) (A:=AB) (c:=cb) (base:=w0.heap.size) (e:=171) (w:=wr) (size:=1) (by
     have h:=OB.out
     have e1:∀l:List Value,(l.map fun v=>[v]).flatMap id=l:=fun l=>by induction l with | nil=>rfl | cons x t ih=>rw[List.map_cons,List.flatMap_cons,ih];rfl
     rw[List.length_map,e1];exact h) (by rw[List.length_map,List.length_map,HL.out.2]) (by simp) (fun g cs _ _ hg=>⟨_,_,_,hg,by decide⟩) (fun i r x hr hx=>by
     rw[List.getElem?_map] at hr hx
     obtain⟨v,hv,rfl⟩:=Option.map_eq_some_iff.1 hr
     obtain⟨f,hf,rfl⟩:=Option.map_eq_some_iff.1 hx
     exact⟨v,rfl,(HY.out i v f hv hf).reads⟩)
    rw[List.length_map] at this
    exact this
   have LO:Hid (i8 p):=fun f hf=>by
    obtain⟨i,hi⟩:=List.getElem?_of_mem hf
    have hil:=(lE hi).1
    have h1:ts[i]? = some (ts[i]'(by rw[HL.out.1];exact hil)):=lG _
    have h2:ys[i]? = some (ys[i]'(by rw[HL.out.2];exact hil)):=lG _
    obtain⟨_,_,-,-,-,-,l1,-⟩:=HT.out i _ f h1 hi
    obtain⟨_,-,-,-,l2⟩:=HY.out i _ f h2 hi
    exact⟨l1,l2⟩
   go_wp2_with fail
   go_ret2
   exact⟨_,_,rfl,RT.out,RY.out,LO.out,KK.out⟩
end
section
open Go.RowKit Go.Maps Go.WideMaps
theorem nK {R:Val→Bool} {p:aW} {S:aR} : ∀(fs:List a8) (low:Option Int) (gens gs:List Int),b7 R p S low gens fs=some gs→gs.length≤gens.length+fs.length
 | [],_,gens,gs,h=>by unfold b7 at h;injection h with h;subst h;simp
 | f::r,low,gens,gs,h=>by
  unfold b7 at h
  dsimp only at h
  split at h
  ·cases h
  ·split at h
   ·have:=nK r _ gens gs h
    rw[List.length_cons];omega
   ·split at h
    ·cases h
    ·split at h
     ·cases h
     ·have:=nK r _ _ gs h
      rw[List.length_append] at this
      simp only[List.length_cons,List.length_nil] at this ⊢
      omega
theorem vM {R:Val→Bool} {p:aW} {S:aR} {gens gs:List Int} {h:bW} (e:eN R p S gens h=some gs):gs.length≤gens.length+h.frames.length:=by
 unfold eN at e
 dsimp only at e
 split at e
 ·cases e
 ·split at e
  ·cases e
  ·split at e
   ·cases e
   ·split at e
    ·cases e
    ·exact nK _ _ _ _ e
theorem ents_rt2:∀args W,(callFunc 98 args).run Tryz.prog W=.ok (.enter 98 args) W:=enters_of Tryz.func98 (by kernel_rfl) rfl
def qS (res:Option (List Int)) (mb:Nat) (w:World) (e:Ending) (w':World):Prop:=e=.returned (.bool (!res.isSome))∧(∀gs,res=some gs→lN w' mb gs)∧fB mb w w'
theorem acE (tcs:List Value) (h:bW) (gens:List Int) (p:aW) (S:aR) (lb sb mb pb:Nat) (tv yv:Value) (w:World) (ht:g9 w w.heap.size tcs h) (hl:iV w lb p S sb mb tv yv) (hg:lN w mb gens) (hlens:i8 p) (hp0:0<p.fns.length) (hsmall:gens.length+h.frames.length≤1000000) (hp:w.cell? ⟨pb,0,none⟩=some (.pointer (some ⟨lb,0,none⟩))) :
  Calls Tryz.prog 98 #[.agg ⟨tcs⟩,.pointer (some ⟨pb,0,none⟩)] w (qS (eN aG p S gens h) mb w):=by
 unfold qS
 obtain⟨w0,hw0⟩:∃w0,w0=w.alloc (.cells ⟨tcs⟩ 57):=⟨_,rfl⟩
 have k0:Hid (Below w.heap.size w w0):=by rw[hw0];exact aB w _
 have C:=hI (ab3 tcs h gens p S lb sb mb _ _ w0 (ht.keep k0.out.size (fun _ hp=>k0.out.cell hp)) (hl.below k0.out) (hg.below k0.out) hlens hp0 hsmall)
 obtain⟨fv,rfl,hfr,-⟩:=ht
 obtain⟨FA,fc,rfl,-⟩:=id hfr
 have HW:=hI hw0
 have hlb:pb<w.heap.size:=dP hp
 clear hw0 hl hg hfr
 go_enter Tryz.func98,Tryz.ntmps98
 go_wp2_with fail
 rw[←HW.out]
 refine C.out.mono ?_
 rintro e w1 ⟨he,h1,h2⟩
 obtain⟨b,hb⟩:∃b,(eN aG p S gens h).isSome=b:=⟨_,rfl⟩
 rw[hb] at he
 subst he
 have HB:=hI hb
 have H1:=hI h1
 have H2:=hI ((fB.of k0.out).trans h2)
 clear h1 h2 hb
 go_wp2_with fail
 go_ret
 exact⟨by rw[HB.out];rfl,H1.out,H2.out⟩
def zW (res:Option (List Int)) (mb:Nat) (w:World) (e:Ending) (w':World):Prop:=∃k:Int,e=.returned (.int .i64 k)∧(0≤k↔res=none)∧(∀gs,res=some gs→lN w' mb gs)∧fB mb w w'
theorem nA {R:Val→Bool} {p:aW} {S:aR} {gens:List Int} {h:bW} {r:List bW} (e:eN R p S gens h=none):cE R p S gens (h::r)=none:=by unfold cE;rw[e]
theorem m9 {R:Val→Bool} {p:aW} {S:aR} {gens gs:List Int} {h:bW} {r:List bW} (e:eN R p S gens h=some gs):cE R p S gens (h::r)=cE R p S gs r:=by
 conv=>lhs;unfold cE
 rw[e]
theorem xW (A:Option Addr) (cap:Nat) (ths:List bW) (gens:List Int) (p:aW) (S:aR) (lb sb mb pb:Nat) (tv yv:Value) (w:World) (hs:aH w w.heap.size 5 (g9 w w.heap.size) (.slice A ths.length cap) ths) (hl:iV w lb p S sb mb tv yv) (hg:lN w mb gens) (hlens:i8 p) (hp0:0<p.fns.length)
  (hsm:∀h∈ths,h.frames.length≤30) (hlen:ths.length≤5) (hgl:gens.length≤1000) (hp:w.cell? ⟨pb,0,none⟩=some (.pointer (some ⟨lb,0,none⟩))) :
  Calls Tryz.prog 93 #[.slice A ths.length cap,.func (.func 98) #[] #[.pointer (some ⟨pb,0,none⟩)]] w (zW (cE aG p S gens ths) mb w):=by
 obtain⟨res,hres⟩:∃r,cE aG p S gens ths=r:=⟨_,rfl⟩
 rw[hres]
 unfold zW
 have HRES:=hI hres
 have HS:=hI hs
 have LT:=hI hl
 have HG:=hI hg
 have HLN:=hI hlens
 have HSM:=hI hsm
 have HP:=hI hp
 have hpb:pb<w.heap.size:=dP hp
 have ll:=aP hs
 clear hs hl hg hlens hres hsm hp
 go_enter Tryz.func93,Tryz.ntmps93
 go_wp2_with fail
 go_loopw [8] (fun k wr=>∃(kn:Nat) (gs:List Int),k=.int .i64 kn∧kn≤ths.length∧Hid (cE aG p S gs (ths.drop kn)=res)∧Hid (lN wr mb gs)∧Hid (gs.length≤gens.length+30*kn)∧Hid (fB mb w wr)) (fun k _=>ths.length - (RowKit.intOf k).toNat)
 case atStart=>exact⟨0,gens,rfl,by omega,by rw[List.drop_zero];exact HRES.out,HG.out,by show _≤_;omega,fB.of (Below.refl _ _)⟩
 case round=>
  obtain⟨kn,gs,rfl,hk,HT,HGS,HGL,KW⟩:=hrel
  by_cases hlt:kn<ths.length
  ·obtain⟨b,off,x,cs,rfl,hb,hx,hcl,hR,hat⟩:=HS.out.at_ hlt
   match cs,hcl with
   | [c0,c1,c2,c3,c4],_=>
    have hi1:(kn:Int)<ths.length:=by omega
    have g0:wr.cell? ⟨b,off+kn*5,none⟩=some c0:=(KW.out.cell _ hb).trans (hat 0 _ rfl)
    have g1:wr.cell? ⟨b,off+kn*5+1,none⟩=some c1:=(KW.out.cell _ hb).trans (hat 1 _ rfl)
    have g2:wr.cell? ⟨b,off+kn*5+2,none⟩=some c2:=(KW.out.cell _ hb).trans (hat 2 _ rfl)
    have g3:wr.cell? ⟨b,off+kn*5+3,none⟩=some c3:=(KW.out.cell _ hb).trans (hat 3 _ rfl)
    have g4:wr.cell? ⟨b,off+kn*5+4,none⟩=some c4:=(KW.out.cell _ hb).trans (hat 4 _ rfl)
    have C:=hI (acE [c0,c1,c2,c3,c4] x gs p S lb sb mb pb _ _ wr (hR.keep KW.out.size (fun p hp=>KW.out.cell p hp)) (LT.out.turn KW.out) HGS.out HLN.out hp0 (by have:=HGL.out;have:=HSM.out x (List.mem_of_getElem? hx);omega) ((KW.out.cell _ hpb).trans HP.out))
    have hdrop:ths.drop kn=x::ths.drop (kn+1):=by
     obtain⟨h1,h2⟩:=lE hx
     rw[List.drop_eq_getElem_cons h1,h2]
    have HT2:Hid (cE aG p S gs (x::ths.drop (kn+1))=res):=by have:=HT.out;rwa [hdrop] at this
    have HXL:=hI (HSM.out x (List.mem_of_getElem? hx))
    obtain⟨rt,hrt⟩:∃r,eN aG p S gs x=r:=⟨_,rfl⟩
    rw[hrt] at C
    have HRT:=hI hrt
    clear hx hat hR hdrop hrt HT
    cases rt with
    | none=>
     have HN:Hid (res=none):=by rw[←HT2.out];exact nA HRT.out
     go_wp2_with fail
     refine C.out.mono ?_
     rintro e w2 ⟨rfl,-,k2⟩
     have K2:=hI (KW.out.trans k2)
     clear k2 g0 g1 g2 g3 g4
     go_wp2_with fail
     go_ret
     exact⟨_,rfl,⟨fun _=>HN.out,fun _=>by omega⟩,(fun g hg=>by rw[HN.out] at hg;cases hg),K2.out⟩
    | some g2'=>
     have HT3:Hid (cE aG p S g2' (ths.drop (kn+1))=res):=by rw[←HT2.out];exact(m9 HRT.out).symm
     go_wp2_with fail
     refine C.out.mono ?_
     rintro e w2 ⟨rfl,h2,k2⟩
     have K2:=hI (KW.out.trans k2)
     have H2:=hI (h2 g2' rfl)
     clear k2 h2 g0 g1 g2 g3 g4
     go_wp2_with fail
     go_roundw
     case rel=>exact⟨kn+1,g2',by go_num,by omega,HT3,H2,by show _≤_;have:=HGL.out;have:=vM HRT.out;have:=HXL.out;omega,K2⟩
     case measure=>simp[RowKit.intOf];omega
  ·have hi1:¬(kn:Int)<ths.length:=by omega
   have HN:Hid (res=some gs):=by
    have:=HT.out
    rw[List.drop_of_length_le (by omega)] at this
    exact this.symm
   go_wp2_with fail
   go_ret
   exact⟨_,rfl,⟨fun h=>by omega,fun h=>by rw[HN.out] at h;cases h⟩,(fun g hg=>by rw[HN.out] at hg;injection hg with hg;exact hg ▸ HGS.out),KW.out⟩
theorem s8 (A:Option Addr) (cap:Nat) (ths:List bW) (gens:List Int) (p:aW) (S:aR) (lb sb mb pb:Nat) (tv yv:Value) (w:World) (hs:aH w w.heap.size 5 (g9 w w.heap.size) (.slice A ths.length cap) ths) (hl:iV w lb p S sb mb tv yv) (hg:lN w mb gens) (hlens:i8 p) (hp0:0<p.fns.length)
  (hsm:∀h∈ths,h.frames.length≤30) (hlen:ths.length≤5) (hgl:gens.length≤1000) (hp:w.cell? ⟨pb,0,none⟩=some (.pointer (some ⟨lb,0,none⟩))) :
  Calls Tryz.prog 48 #[.slice A ths.length cap,.func (.func 98) #[] #[.pointer (some ⟨pb,0,none⟩)]] w (qS (cE aG p S gens ths) mb w):=by
 have HC:=hI (xW A cap ths gens p S lb sb mb pb tv yv w hs hl hg hlens hp0 hsm hlen hgl hp)
 unfold qS
 clear hs hl hg hlens hsm hp
 go_enter Tryz.func48,Tryz.ntmps48
 go_wp2_with fail
 refine HC.out.mono ?_
 rintro e w1 ⟨k,rfl,h1,h2,h3⟩
 have H1:=hI h1
 have H2:=hI h2
 have H3:=hI h3
 clear h1 h2 h3
 go_wp2_with fail
 go_ret
 refine⟨?_,H2.out,H3.out⟩
 cases hq:cE aG p S gens ths with
 | none=>rw[show decide (0≤k)=true from decide_eq_true (H1.out.2 hq)];rfl
 | some g=>rw[show decide (0≤k)=false from decide_eq_false (fun h=>by have:=H1.out.1 h;rw[hq] at this;cases this)];rfl
theorem right_m (p:aW) (S:aR) (lb sb mb:Nat) (tv yv:Value) (w:World) (hl:iV w lb p S sb mb tv yv) (hg:lN w mb []) (hlens:i8 p) (hp0:0<p.fns.length) (hcells:∀c∈S.cells,kE aG S c=true) (hlen:S.threads.length≤5) (hsm:∀h∈S.threads,h.frames.length≤30) (hw1:wfi S.steps) (hw2:wfi S.asked) :
  Calls Tryz.prog 51 #[.pointer (some ⟨lb,0,none⟩)] w (fun e w'=>e=.returned (.bool (mF aG p S))∧fB mb w w'):=by
 obtain⟨r,hr⟩:∃r,mF aG p S=r:=⟨_,rfl⟩
 rw[hr]
 unfold mF at hr
 have LT:=hI hl
 have HG:=hI hg
 have HLN:=hI hlens
 have HC:=hI hcells
 have HSM:=hI hsm
 obtain⟨⟨pa,pb,pc,hll,hpr⟩,hlb,hst⟩:=hl.look
 obtain⟨PA1,pn1,PA2,pn2,PA3,pn3,hpe,-,-,hpt⟩:=id hpr
 simp only[List.cons.injEq,and_true] at hpe
 obtain⟨rfl,rfl,rfl⟩:=hpe
 have HPT:=hI hpt
 have HL:=hI hll
 have lpt:=aP hpt
 obtain⟨A0,n0,A1,n1,A2,n2,A3,n3,A4,n4,A5,n5,hh,hb,s0,s1,s2,s3,-⟩:=hst.parts
 have HH:=hI hh
 have S0:=hI s0
 have S2:=hI s2
 have S3:=hI s3
 have l0:=aP s0
 have l2:=aP s2
 have l3:=aP s3
 have hcap2:S.texts.length≤n2:=(s2.len).2.1
 have h67:w.cell? ⟨sb,6,none⟩=some (.int .i64 S.asked):=hh 6 _ rfl
 have h68:w.cell? ⟨sb,7,none⟩=some (.int .i64 S.steps):=hh 7 _ rfl
 obtain⟨w1,hw1'⟩:∃w1,w1=w.alloc (.cells #[.pointer (some ⟨lb,0,none⟩)] 112):=⟨_,rfl⟩
 have K1:Hid (Below w.heap.size w w1):=by rw[hw1'];exact aB _ _
 have HB:Hid (w1.cell? ⟨w.heap.size,0,none⟩=some (.pointer (some ⟨lb,0,none⟩))):=by rw[hw1'];exact bL _ _ _ _
 have hz1:w.heap.size<w1.heap.size:=by rw[hw1'];simp
 have HW1:=hI hw1'
 have H6:=hI h67
 have H7:=hI h68
 have HR:=hI hr
 clear hr hl hg hlens hcells hsm hll hpr hpt hst hh s0 s1 s2 s3 h67 h68 hw1'
 have e0:=HB.out
 have e1:w1.cell? ⟨lb,2,none⟩=some (.slice PA3 p.texts.length pn3):=(K1.out.cell hlb).trans (HL.out 2 _ rfl)
 go_enter Tryz.func51,Tryz.ntmps51
 go_upto_region 1 with fail
 rw[←HW1.out]
 go_upto_region 2 with fail
 have a0:=ecZ HB.out
 have a1:∀E:Up w1,E.to.cell? ⟨lb,3,none⟩=some (.pointer (some ⟨sb,0,none⟩)):=fun E=>E.cell ((K1.out.cell hlb).trans (HL.out 3 _ rfl))
 have a2:∀E:Up w1,E.to.cell? ⟨sb,2,none⟩=some (.slice A2 S.texts.length n2):=fun E=>E.cell ((K1.out.cell hb).trans (HH.out 2 _ rfl))
 have a3:∀E:Up w1,E.to.cell? ⟨lb,2,none⟩=some (.slice PA3 p.texts.length pn3):=fun E=>E.cell ((K1.out.cell hlb).trans (HL.out 2 _ rfl))
 have a4:∀E:Up w1,E.to.cell? ⟨sb,7,none⟩=some (.int .i64 S.steps):=fun E=>E.cell ((K1.out.cell hb).trans H7.out)
 have a5:∀E:Up w1,E.to.cell? ⟨sb,6,none⟩=some (.int .i64 S.asked):=fun E=>E.cell ((K1.out.cell hb).trans H6.out)
 have a6:∀E:Up w1,E.to.cell? ⟨sb,3,none⟩=some (.slice A3 S.threads.length n3):=fun E=>E.cell ((K1.out.cell hb).trans (HH.out 3 _ rfl))
 clear e0 e1
 have HR0:Hid ((if(decide (S.texts.length<p.texts.length) || decide (S.texts.take p.texts.length≠p.texts) || !aK S.steps 0 1000000000 || !aK S.asked 0 1000000000 || S.threads.isEmpty)=true then false
  else if S.cells.any (fun c=>!lQ aG p S c) then false
  else match cE aG p S [] S.threads with
   | none=>false
   | some gens=>jC gens 0 S.cells)=r):=HR.out
 refine aD (by kernel_rfl) (by kernel_rfl) ?_
 repeat (go_big_quiet_step (fail))
 obtain⟨b1,hb1⟩:∃b:Bool,(decide (S.texts.length<p.texts.length))=b:=⟨_,rfl⟩
 rw[hb1]
 cases b1
 case true=>
  have HN:Hid (false=r):=by rw[←HR0.out,hb1];rfl
  repeat (go_big_quiet_step (fail))
  refine wpQuiet_nil ?_
  (first | rintro _ ⟨E,rfl⟩ | intro E)
  have KE:=btZ K1 E.below
  clear a0 a1 a2 a3 a4 a5 a6
  go_wp2_with fail
  go_ret
  exact⟨by rw[←HN.out];rfl,fB.of KE.out⟩
 have hle:p.texts.length≤S.texts.length:=by have:=of_decide_eq_false hb1;omega
 have hle2:p.texts.length≤n2:=by omega
 have hle3:(p.texts.length:Int)≤n2:=by omega
 have CE:Hid (∀E:Up w1,Calls Tryz.prog 42 #[.slice A2 p.texts.length n2,.slice PA3 p.texts.length pn3] E.to (aM (.bool (decide (S.texts.take p.texts.length=p.texts))) E.to)):=fun E=>by
  have KE:=btZ K1 E.below
  exact qG _ _ _ _ E.to ((S2.out.take hle).below KE) (HPT.out.below KE)
 have CWS:Hid (∀W,Calls Tryz.prog 95 #[.int .i64 S.steps,.int .i64 0,.int .i64 1000000000] W fun e w'=>e=.returned (.bool (aK S.steps 0 1000000000))∧W=w'):=fun W=>iD _ _ _ W
 have CWA:Hid (∀W,Calls Tryz.prog 95 #[.int .i64 S.asked,.int .i64 0,.int .i64 1000000000] W fun e w'=>e=.returned (.bool (aK S.asked 0 1000000000))∧W=w'):=fun W=>iD _ _ _ W
 obtain⟨m1,hm1⟩:∃m,decide (S.texts.take p.texts.length=p.texts)=m:=⟨_,rfl⟩
 obtain⟨m2,hm2⟩:∃m,aK S.steps 0 1000000000=m:=⟨_,rfl⟩
 obtain⟨m3,hm3⟩:∃m,aK S.asked 0 1000000000=m:=⟨_,rfl⟩
 rw[hm1] at CE
 rw[hm2] at CWS HR0
 rw[hm3] at CWA HR0
 rw[hb1,show decide (S.texts.take p.texts.length≠p.texts) = !m1 by rw[←hm1];simp] at HR0
 clear hm1 hm2 hm3
 repeat (go_big_quiet_step ((first | (go_at_call 42;with_reducible exact Calls.up (CE.out _)) | (go_at_call 95;with_reducible exact ad6 (CWS.out _)) | (go_at_call 95;with_reducible exact ad6 (CWA.out _)))))
 obtain⟨nm1,hnm1⟩:∃b:Bool,(!m1)=b:=⟨_,rfl⟩
 rw[hnm1]
 cases nm1
 case true=>
  obtain rfl:m1=false:=by simpa using hnm1
  have HN:Hid (false=r):=by rw[←HR0.out];rfl
  repeat (go_big_quiet_step (fail))
  refine wpQuiet_nil ?_
  (first | rintro _ ⟨E,rfl⟩ | intro E)
  have KE:=btZ K1 E.below
  clear a0 a1 a2 a3 a4 a5 a6
  go_wp2_with fail
  go_ret
  exact⟨by rw[←HN.out];rfl,fB.of KE.out⟩
 obtain rfl:m1=true:=by simpa using hnm1
 repeat (go_big_quiet_step ((first | (go_at_call 42;with_reducible exact Calls.up (CE.out _)) | (go_at_call 95;with_reducible exact ad6 (CWS.out _)) | (go_at_call 95;with_reducible exact ad6 (CWA.out _)))))
 obtain⟨nm2,hnm2⟩:∃b:Bool,(!m2)=b:=⟨_,rfl⟩
 rw[hnm2]
 cases nm2
 case true=>
  obtain rfl:m2=false:=by simpa using hnm2
  have HN:Hid (false=r):=by rw[←HR0.out];rfl
  repeat (go_big_quiet_step (fail))
  refine wpQuiet_nil ?_
  (first | rintro _ ⟨E,rfl⟩ | intro E)
  have KE:=btZ K1 E.below
  clear a0 a1 a2 a3 a4 a5 a6
  go_wp2_with fail
  go_ret
  exact⟨by rw[←HN.out];rfl,fB.of KE.out⟩
 obtain rfl:m2=true:=by simpa using hnm2
 repeat (go_big_quiet_step ((first | (go_at_call 42;with_reducible exact Calls.up (CE.out _)) | (go_at_call 95;with_reducible exact ad6 (CWS.out _)) | (go_at_call 95;with_reducible exact ad6 (CWA.out _)))))
 obtain⟨nm3,hnm3⟩:∃b:Bool,(!m3)=b:=⟨_,rfl⟩
 rw[hnm3]
 cases nm3
 case true=>
  obtain rfl:m3=false:=by simpa using hnm3
  have HN:Hid (false=r):=by rw[←HR0.out];rfl
  repeat (go_big_quiet_step (fail))
  refine wpQuiet_nil ?_
  (first | rintro _ ⟨E,rfl⟩ | intro E)
  have KE:=btZ K1 E.below
  clear a0 a1 a2 a3 a4 a5 a6
  go_wp2_with fail
  go_ret
  exact⟨by rw[←HN.out];rfl,fB.of KE.out⟩
 obtain rfl:m3=true:=by simpa using hnm3
 repeat (go_big_quiet_step ((first | (go_at_call 42;with_reducible exact Calls.up (CE.out _)) | (go_at_call 95;with_reducible exact ad6 (CWS.out _)) | (go_at_call 95;with_reducible exact ad6 (CWA.out _)))))
 refine wpQuiet_nil ?_
 (first | rintro _ ⟨E,rfl⟩ | intro E)
 obtain⟨w2,k2⟩:=E
 dsimp only
 have K12:=hI k2
 have K2:=btZ K1 k2
 clear a0 a1 a2 a3 a4 a5 a6 k2
 rw[show S.threads.isEmpty=((S.threads.length:Int) == 0) from(gY _).symm] at HR0
 obtain⟨m4,hm4⟩:∃m,((S.threads.length:Int) == 0)=m:=⟨_,rfl⟩
 rw[hm4] at HR0 ⊢
 cases m4
 case true=>
  have HN:Hid (false=r):=by rw[←HR0.out];rfl
  go_wp2_with fail
  go_ret
  exact⟨by rw[←HN.out];rfl,fB.of K2.out⟩
 clear hm4
 have HR1:Hid ((if S.cells.any (fun c=>!lQ aG p S c) then false
  else match cE aG p S [] S.threads with
   | none=>false
   | some gens=>jC gens 0 S.cells)=r):=HR0.out
 have LT2:=hI (LT.out.below K2.out)
 have c0:w2.cell? ⟨w.heap.size,0,none⟩=some (.pointer (some ⟨lb,0,none⟩)):=aC K12.out HB.out
 have c1:w2.cell? ⟨lb,3,none⟩=some (.pointer (some ⟨sb,0,none⟩)):=(K2.out.cell hlb).trans (HL.out 3 _ rfl)
 have c2:w2.cell? ⟨sb,0,none⟩=some (.slice A0 S.cells.length n0):=(K2.out.cell hb).trans (HH.out 0 _ rfl)
 have C1:=hI (iH (jY w w.heap.size) (fun c=>!lQ aG p S c) A0 n0 S.cells 96 adD #[.pointer (some ⟨w.heap.size,0,none⟩)] w2 (S0.out.below K2.out) (fun w5 k5 x cs hx hR=>by
  have kk:=btZ K2 k5
  exact acF cs x p S lb sb mb w.heap.size _ _ w5 (hR.keep kk.size (fun _ hp=>kk.cell hp)) (LT.out.below kk) HLN.out (HC.out x hx) (aC (K12.out.trans (k5.mono K12.out.size)) HB.out)))
 obtain⟨m5,hm5⟩:∃m,S.cells.any (fun c=>!lQ aG p S c)=m:=⟨_,rfl⟩
 rw[hm5] at C1 HR1
 clear hm5
 go_wp2_with fail
 refine C1.out.mono ?_
 rintro e w3 ⟨rfl,k3⟩
 have K13:=btZ K12 k3
 have K3:=btZ K2 k3
 clear k3 c0 c1 c2
 cases m5
 case true=>
  have HN:Hid (false=r):=by rw[←HR1.out];rfl
  go_wp2_with fail
  go_ret
  exact⟨by rw[←HN.out];rfl,fB.of K3.out⟩
 have HR2:Hid ((match cE aG p S [] S.threads with
   | none=>false
   | some gens=>jC gens 0 S.cells)=r):=HR1.out
 have c0:w3.cell? ⟨w.heap.size,0,none⟩=some (.pointer (some ⟨lb,0,none⟩)):=aC K13.out HB.out
 have c1:w3.cell? ⟨lb,3,none⟩=some (.pointer (some ⟨sb,0,none⟩)):=(K3.out.cell hlb).trans (HL.out 3 _ rfl)
 have c2:w3.cell? ⟨sb,3,none⟩=some (.slice A3 S.threads.length n3):=(K3.out.cell hb).trans (HH.out 3 _ rfl)
 have CT:=hI (s8 A3 n3 S.threads [] p S lb sb mb w.heap.size _ _ w3 ((S3.out.keep K3.out.size (fun _ hp=>K3.out.cell hp) (fun _ _ h=>h.keep K3.out.size (fun _ hp=>K3.out.cell hp)))) (LT.out.below K3.out) (HG.out.below K3.out) HLN.out hp0 HSM.out hlen (by simp) c0)
 obtain⟨res,hres⟩:∃m,cE aG p S [] S.threads=m:=⟨_,rfl⟩
 rw[hres] at CT HR2
 clear hres
 cases res with
 | none=>
  have HN:Hid (false=r):=HR2.out
  go_wp2_with fail
  refine CT.out.mono ?_
  rintro e w4 ⟨rfl,-,k4⟩
  have K4:=hI ((fB.of K3.out).trans k4)
  clear k4 c0 c1 c2
  go_wp2_with fail
  go_ret
  exact⟨by rw[←HN.out];rfl,K4.out⟩
 | some gens=>
  have HR3:Hid (jC gens 0 S.cells=r):=HR2.out
  go_wp2_with fail
  refine CT.out.mono ?_
  rintro e w4 ⟨rfl,h4,k4⟩
  have G4:=hI (h4 gens rfl)
  have K4:=hI ((fB.of K3.out).trans k4)
  have hz3:w.heap.size<w3.heap.size:=Nat.lt_of_lt_of_le hz1 K13.out.size
  have B4:Hid (w4.cell? ⟨w.heap.size,0,none⟩=some (.pointer (some ⟨lb,0,none⟩))):=(k4.cell _ hz3).trans c0
  have hz4:w.heap.size<w4.heap.size:=Nat.lt_of_lt_of_le hz3 k4.size
  clear h4 k4 c0 c1 c2
  have d0:=B4.out
  have d1:w4.cell? ⟨lb,3,none⟩=some (.pointer (some ⟨sb,0,none⟩)):=(K4.out.cell _ hlb).trans (HL.out 3 _ rfl)
  have d2:w4.cell? ⟨sb,0,none⟩=some (.slice A0 S.cells.length n0):=(K4.out.cell _ hb).trans (HH.out 0 _ rfl)
  have S04:Hid (aH w4 w4.heap.size 4 (jY w4 w4.heap.size) (.slice A0 S.cells.length n0) S.cells):=S0.out.keep K4.out.size (fun p hp=>K4.out.cell p hp) (fun _ _ h=>h.keep K4.out.size (fun p hp=>K4.out.cell p hp))
  have hlb4:lb<w4.heap.size:=Nat.lt_of_lt_of_le hlb K4.out.size
  go_wp2_with fail
  clear d0 d1 d2
  go_loopw [101] (fun k wr=>∃kn:Nat,k=.int .i64 kn∧kn≤S.cells.length∧Hid (jC gens kn (S.cells.drop kn)=r)∧Hid (Below w4.heap.size w4 wr)) (fun k _=>S.cells.length - (RowKit.intOf k).toNat)
  case atStart=>exact⟨0,rfl,by omega,by rw[List.drop_zero];exact HR3.out,Below.refl _ _⟩
  case round=>
   obtain⟨kn,rfl,hk,HF,KW⟩:=hrel
   have hsz:=KW.out.size
   by_cases hlt:kn<S.cells.length
   ·obtain⟨b,off,c,cs,rfl,hbb,hx,-,⟨VV,FV,rfl,hvv,hfv,-⟩,hat⟩:=S04.out.at_ hlt
    obtain⟨VA,vc,rfl,-⟩:=hvv
    obtain⟨FA,fc,rfl,-⟩:=hfv
    have hji:(kn:Int)<S.cells.length:=by omega
    have g0:wr.cell? ⟨b,off+kn*4,none⟩=some (.int .i64 c.kind):=(KW.out.cell hbb).trans (hat 0 _ rfl)
    have g1:wr.cell? ⟨b,off+kn*4+1,none⟩=some (.int .i64 c.num):=(KW.out.cell hbb).trans (hat 1 _ rfl)
    have g2:wr.cell? ⟨b,off+kn*4+2,none⟩=some (.slice VA c.vals.length vc):=(KW.out.cell hbb).trans (hat 2 _ rfl)
    have g3:wr.cell? ⟨b,off+kn*4+3,none⟩=some (.slice FA c.frames.length fc):=(KW.out.cell hbb).trans (hat 3 _ rfl)
    have hzb:b<wr.heap.size:=Nat.lt_of_lt_of_le hbb hsz
    have hdrop:S.cells.drop kn=c::S.cells.drop (kn+1):=by
     obtain⟨h1,h2⟩:=lE hx
     rw[List.drop_eq_getElem_cons h1,h2]
    have HF2:Hid ((!(c.kind == 5 && c.num == 1 && !decide ((kn:Int)∈gens)) && jC gens (kn+1) (S.cells.drop (kn+1)))=r):=by have:=HF.out;rw[hdrop] at this;exact this
    obtain⟨w5,hw5⟩:∃w5,w5=wr.alloc (.cells #[.int .i64 c.kind,.int .i64 c.num,.slice VA c.vals.length vc,.slice FA c.frames.length fc] 55):=⟨_,rfl⟩
    have K5:Hid (Below wr.heap.size wr w5):=by rw[hw5];exact aB _ _
    have KW5:=hI (KW.out.trans (K5.out.mono hsz))
    have HB5:Hid (aA w5 wr.heap.size [.int .i64 c.kind,.int .i64 c.num,.slice VA c.vals.length vc,.slice FA c.frames.length fc]):=by rw[hw5];exact ad5 _ _ _
    have HW5:=hI hw5
    have hkw:wfi (kn:Int):=by unfold wfi;omega
    have hrun:=pA (mJ (mJ G4.out KW.out) K5.out) hkw
    have KT5:=hI (K4.out.then KW5.out)
    clear hat hx hdrop HF hw5 hkw
    go_upto_region 9 with fail
    rw[←HW5.out]
    have f0:=HB5.out 0 _ rfl
    have f1:=HB5.out 1 _ rfl
    have f2:w5.cell? ⟨w.heap.size,0,none⟩=some (.pointer (some ⟨lb,0,none⟩)):=(KW5.out.cell hz4).trans B4.out
    have f3:w5.cell? ⟨lb,6,none⟩=some (.map (some mb)):=(KT5.out.cell _ hlb).trans (HL.out 6 _ rfl)
    clear g0 g1 g2 g3
    have FIN:Hid ((c.kind == 5 && c.num == 1 && !decide ((kn:Int)∈gens))=false→jC gens (kn+1) (S.cells.drop (kn+1))=r):=fun h=>by rw[←HF2.out,h];rfl
    by_cases c5:c.kind=5
    case neg=>
     have HNX:=hI (FIN.out (by rw[show(c.kind == 5)=false from beq_eq_false_iff_ne.2 c5];rfl))
     have m5':(c.kind == 5)=false:=beq_eq_false_iff_ne.2 c5
     go_wp2_with fail
     go_roundw
     case rel=>exact⟨kn+1,by go_num,by omega,HNX.out,KW5.out⟩
     case measure=>simp[RowKit.intOf];omega
    rw[c5] at f0
    by_cases c1:c.num=1
    case neg=>
     have HNX:=hI (FIN.out (by rw[show(c.num == 1)=false from beq_eq_false_iff_ne.2 c1];simp))
     have m1':(c.num == 1)=false:=beq_eq_false_iff_ne.2 c1
     go_wp2_with fail
     go_roundw
     case rel=>exact⟨kn+1,by go_num,by omega,HNX.out,KW5.out⟩
     case measure=>simp[RowKit.intOf];omega
    rw[c1] at f1
    by_cases hm:(kn:Int)∈gens
    ·rw[if_pos hm] at hrun
     have HNX:=hI (FIN.out (by rw[decide_eq_true hm];simp))
     clear hm
     go_wp2_with fail
     go_roundw
     case rel=>exact⟨kn+1,by go_num,by omega,HNX.out,KW5.out⟩
     case measure=>simp[RowKit.intOf];omega
    ·rw[if_neg hm] at hrun
     have HN:Hid (false=r):=by rw[←HF2.out,c5,c1,decide_eq_false hm];rfl
     clear hm
     go_wp2_with fail
     go_ret
     exact⟨by rw[←HN.out];rfl,KT5.out⟩
   ·have hji:¬(kn:Int)<S.cells.length:=by omega
    have HN:Hid (true=r):=by rw[←HF.out,List.drop_of_length_le (by omega)];rfl
    have KT:=hI (K4.out.then KW.out)
    go_wp2_with fail
    go_ret
    exact⟨by rw[←HN.out];rfl,KT.out⟩
end
end Go.Proofs.YtjaphgpkkfdaaaaGreatDoor
