/- A part of the walk. -/
import Derived.Test.YtjaphgpkkfdaaaaGreatDoorYQB
import Derived.Test.YtjaphgpkkfdaaaaGreatDoorYQH
set_option maxHeartbeats 16000000
set_option maxRecDepth 100000
set_option linter.all false
namespace Go.Proofs.YtjaphgpkkfdaaaaGreatDoor
section
open Go.RowKit
def agO (l:List Int) (k:Nat):List pS:=(List.range k).map (fun i:Nat=>⟨(i:Int),l.getD i 0⟩)
def agY (x:pS):List Value:=[.int .i64 x.reg,.int .i64 x.val]
theorem ag6 (l:List Int) (k:Nat):(agO l (k+1)).flatMap agY=(agO l k).flatMap agY++[.int .i64 k,.int .i64 (l.getD k 0)]:=by
 unfold agO
 rw[List.range_succ,List.map_append,List.flatMap_append];rfl
theorem ag2 (n:Int):RowKit.intOf (.int .i64 n)=n:=rfl
theorem meas_lt {l j:Nat} (h:j<l) (hw:wrap64 ((j:Int)+1)=(j:Int)+1):l - (RowKit.intOf (.int .i64 (wrap64 ((j:Int)+1)))).toNat<l - (RowKit.intOf (.int .i64 (j:Int))).toNat:=by
 rw[ag2,ag2,hw]
 clear hw
 omega
theorem ahD (l:List Int) (k:Nat):(agO l k).length=k:=by simp[agO]
def agV (t:aN) (s:List pS):aN:={ t with back:=⟨t.at_,1,s,[]⟩ }
def agL (t:aN) (v:Int):Bool:=decide (0≤v) && decide (v<t.ins.length) && iC (jE t v).op
def ahO (p:aW) (t:aN) (l:List Int) (w:World) (e:Ending) (w':World):Prop:=∃(b:Bool) (cs:List Value) (T:aN),e=.returned (.tuple #[.agg ⟨cs⟩,.bool b])∧cT w' w'.heap.size cs T∧Below w.heap.size w w'∧
 (b=true→T=agX t l∧acT p t=0∧t.loop≤0∧∀v∈l,agL t v=true)
def setsL (cs:List Value):Nat→List Value→List Value
 | _,[]=>cs
 | o,v::vs=>setsL (cs.set o v) (o+1) vs
theorem agM (g:Nat) (t:TypeId):∀(vs:List Value) (o:Nat) (w:World) (cs:List Value),w.heap[g]? = some (.cells ⟨cs⟩ t (0,0))→(w.setCells g o vs).heap[g]? = some (.cells ⟨setsL cs o vs⟩ t (0,0))
 | [],_,_,_,h=>h
 | v::vs,o,w,cs,h=>agM g t vs (o+1) _ _ (by
  rw[heap_setCell_same w g o _ t v h]
  congr 2
  exact List.setIfInBounds_toArray ..)
theorem agK (g k:Nat) (hk:k≠g):∀(vs:List Value) (o:Nat) (w:World),(w.setCells g o vs).heap[k]? = w.heap[k]?
 | [],_,_=>rfl
 | v::vs,o,w=>(agK g k hk vs (o+1) _).trans (heap_setCell_other w ⟨g,o,none⟩ k v hk)
theorem ahC {w:World} {g:Nat} {cs:List Value} {ty:TypeId} (h:w.heap[g]? = some (.cells ⟨cs⟩ ty (0,0))) (o n:Nat) (hn:o+n≤cs.length):w.there g o n:=fun j hj=>by
 rw[cell_of_row w g (o+j) _ _ _ h,frozen_of_row w g (o+j) _ _ h]
 exact⟨by simp;omega,rfl⟩
theorem ag3 {w w':World} {B:Nat} {e t:TypeId} {size n:Nat} {v:Value} {xs:List Value} (hown:w.ownsRow B e size v n xs) (hg:w.grownBy w' v.ownBlock) {k:Nat} {cs:Array Value} {fr:Nat×Nat}
  (hk:w.heap[k]? = some (.cells cs t fr)) (ht:t≠e):w'.heap[k]? = some (.cells cs t fr):=
 (hg.block k (aE hk).1 (fun e=>by
  obtain⟨_,cs',fr',h2⟩:=jD hown k e.symm
  rw[hk] at h2;injection h2 with h2;injection h2 with _ h2 _;exact ht h2)).trans hk
theorem ag0 {w w':World} {t:aN} {B1 B2 B3 B4:Option Addr} {m1 m2 m3 m4:Nat} {c5 c6 c7 c8:Value} {sv:Value} {s:List pS}
  (h:cT w w.heap.size [.int .i64 t.fn,.int .i64 t.at_,.int .i64 t.loop,.slice B1 t.ins.length m1,.slice B2 t.exits.length m2,.int .i64 t.turn.at_,.int .i64 t.turn.steps,.slice B3 t.turn.sets.length m3,.slice B4 t.turn.makes.length m4,c5,c6,c7,c8] t) (k:Below w.heap.size w w') (hs:bI w' w.heap.size 66 2 SetR sv s):cT w' w'.heap.size [.int .i64 t.fn,.int .i64 t.at_,.int .i64 t.loop,.slice B1 t.ins.length m1,.slice B2 t.exits.length m2,.int .i64 t.turn.at_,.int .i64 t.turn.steps,.slice B3 t.turn.sets.length m3,.slice B4 t.turn.makes.length m4,.int .i64 t.at_,.int .i64 1,sv,.slice none 0 0] (agV t s):=by
 obtain⟨i,e,ct,cb,he,h1,h2,h3,h4,h5,h6,h7⟩:=h.below k
 have g3:=h3
 have g4:=h4
 obtain⟨s1,k1,rfl,-⟩:=h3
 obtain⟨s2,k2,rfl,-⟩:=h4
 simp only[List.cons_append,List.nil_append,List.cons.injEq,and_true] at he
 obtain⟨-,-,-,rfl,rfl,-,-,rfl,rfl,-⟩:=he
 exact⟨_,_,_,[.int .i64 t.at_,.int .i64 1,sv,.slice none 0 0],rfl,h1,h2,g3,⟨_,_,rfl,hs.slice,⟨none,0,rfl,Nat.le_refl _,by decide,fun h=>absurd h (Nat.lt_irrefl 0)⟩,h6,by show wfi 1;unfold wfi;omega⟩,h5,h6,h7⟩
theorem ahL:(Tryz.prog.info? 66).map (fun i=>(i.zero,i.size,i.bytes))=some (some (.agg #[.int .i64 0,.int .i64 0]),2,16):=by kernel_rfl
theorem own_on {w w':World} {base e:Nat} {size n:Nat} {v:Value} {xs:List Value} (h:w.ownsRow base e size v n xs) (k:Below w.heap.size w w'):w'.ownsRow base e size v n xs:=
 h.kept (row:=none) ⟨k.os,k.tape,k.output,k.size,fun b hb _=>k.block b hb⟩ (Classical.em _)
theorem agS {w:World} {B:Nat} {e:TypeId} {size n:Nat} {v:Value} {xs:List Value} (hown:w.ownsRow B e size v n xs):∃A n c,v=.slice A n c:=by
 rcases hown.2 with ⟨e,_⟩ | ⟨g,cp,_,e,_⟩ <;> exact⟨_,_,_,e⟩
theorem ag7 {w w':World} {B B':Nat} {e:TypeId} {size n:Nat} {v:Value} {xs:List Value} (hown:w.ownsRow B e size v n xs) (hg:w.grownBy w' v.ownBlock) (h:B'≤B) (hw:B'≤w.heap.size):Below B' w w':=
 ⟨hg.os,hg.tape,hg.output,hg.size,fun k hk=>hg.block k (by omega) (fun e=>by have:=(jD hown k e.symm).1;omega)⟩
theorem Below.set_at4 {B g:Nat} {w w':World} (h:Below B w w') (hg:B≤g) (i:Nat) (u:Value):Below B w (w'.setCell ⟨g,i,none⟩ u):=by
 refine Below.setCell h ?_ _;exact hg
theorem ag1 {w:World} {base j:Nat} {sv:Value} {l:List Int} (h:w.ownsRow base 66 2 sv j ((agO l j).flatMap agY)) (hw:∀v∈l,wfi v) (hj:j≤l.length) (hl:l.length≤1000):bI w base 66 2 SetR sv (agO l j):=
 qZ (f:=agY) (by decide) (fun _ _=>rfl) (fun x hx=>by
  obtain⟨i,hi,rfl⟩:=List.mem_map.1 hx
  have hi:=List.mem_range.1 hi
  refine⟨rfl,by unfold wfi;show _≤(i:Int)∧(i:Int)≤_;omega,?_⟩
  show wfi (l.getD i 0)
  rw[List.getD_eq_getElem?_getD,lG (by omega)]
  exact hw _ (List.getElem_mem _)) (by rw[ahD];exact h)
theorem bI.row_off {α : Type} {w:World} {B C:Nat} {ty t:TypeId} {size:Nat} {R:List Value→α→Prop} {v:Value} {xs:List α} (h:bI w B ty size R v xs) {g:Nat} {cs:Array Value} {fr:Nat×Nat} (hg:w.heap[g]? = some (.cells cs t fr)) (ht:t≠ty) (new:Array Value) (hC:C≤B):bI (w.setRow g new) C ty size R v xs:=
 (h.keep (fun k c fr _ hk=>setRow_other w g k new (by rintro rfl;rw[hg] at hk;injection hk with hk;injection hk with _ hk _;exact ht hk)) (fun _ _ h=>h)).more hC
theorem ktold_c (pcs tcs:List Value) (p:aW) (t:aN) (VA:Option Addr) (vc:Nat) (l:List Int) (w:World) (hp:eL w w.heap.size pcs p) (ht:cT w w.heap.size tcs t) (hv:aH w w.heap.size 1 hY (.slice VA l.length vc) l) (hl:l.length≤1000) (tab:Tab w) :
  Calls Tryz.prog 20 #[.agg ⟨pcs⟩,.agg ⟨tcs⟩,.slice VA l.length vc] w (ahO p t l w):=by
 have HP0:=hI hp
 have HT0:=hI ht
 have HV:=hI hv
 obtain⟨PA,pn,PB,pm,PD,pk,rfl,hpf,-⟩:=id hp
 obtain⟨B1,m1,B2,m2,B3,m3,B4,m4,B5,m5,B6,m6,rfl,-⟩:=ht.cells6
 have HIN:Hid (aH w w.heap.size 8 wR (.slice B1 t.ins.length m1) t.ins):=by
  obtain⟨Ai,ni,hc,hq⟩:=ht.at3
  have hc:some (Value.slice B1 t.ins.length m1)=some (.slice Ai t.ins.length ni):=hc
  rw[Option.some.inj hc]
  exact hq
 obtain⟨w1,hw1⟩:∃w1,w1=((w.alloc (.cells #[.slice PA p.fns.length pn,.slice PB p.consts.length pm,.slice PD p.texts.length pk] 26)).alloc (.cells #[.int .i64 t.fn,.int .i64 t.at_,.int .i64 t.loop,.slice B1 t.ins.length m1,.slice B2 t.exits.length m2,.int .i64 t.turn.at_,.int .i64 t.turn.steps,.slice B3 t.turn.sets.length m3,.slice B4 t.turn.makes.length m4,.int .i64 t.back.at_,.int .i64 t.back.steps,.slice B5 t.back.sets.length m5,.slice B6 t.back.makes.length m6] 34)).alloc (.cells #[.int .i64 0,.int .i64 0,.int .i64 0,.slice none 0 0,.slice none 0 0,.int .i64 0,.int .i64 0,.slice none 0 0,.slice none 0 0,.int .i64 0,.int .i64 0,.slice none 0 0,.slice none 0 0] 34):=⟨_,rfl⟩
 have FB:=aeI w (.cells #[.slice PA p.fns.length pn,.slice PB p.consts.length pm,.slice PD p.texts.length pk] 26) (.cells #[.int .i64 t.fn,.int .i64 t.at_,.int .i64 t.loop,.slice B1 t.ins.length m1,.slice B2 t.exits.length m2,.int .i64 t.turn.at_,.int .i64 t.turn.steps,.slice B3 t.turn.sets.length m3,.slice B4 t.turn.makes.length m4,.int .i64 t.back.at_,.int .i64 t.back.steps,.slice B5 t.back.sets.length m5,.slice B6 t.back.makes.length m6] 34) (.cells #[.int .i64 0,.int .i64 0,.int .i64 0,.slice none 0 0,.slice none 0 0,.int .i64 0,.int .i64 0,.slice none 0 0,.slice none 0 0,.int .i64 0,.int .i64 0,.slice none 0 0,.slice none 0 0] 34)
 rw[←hw1] at FB
 obtain⟨f1,f2,f3,f5⟩:=FB
 have ROWP1:=hI f1
 have ROWT1:=hI f2
 have ROWR1:=hI f3
 have K1:=hI f5
 have HW1:=hI hw1
 have HPF:=hI hpf
 have HWL:Hid (∀v∈l,wfi v):=fun v hv=>by
  obtain⟨cs,_,h1,h2⟩:=HV.out.mem hv
  exact⟨h1,h2⟩
 have HLL:=hI hl
 have HZ1:Hid (w.heap.size+1+1<w1.heap.size):=aV ROWR1.out
 clear hp ht hv hpf f1 f2 f3 f5 hl
 obtain⟨irc,hirc⟩:∃r,acT p t=r:=⟨_,rfl⟩
 have CK:=hI (check_c _ _ p t w1 (HP0.out.below K1.out) (HT0.out.below K1.out) (tab.below K1.out))
 change Hid (Calls _ _ _ _ (aM (.int .i64 (acT p t)) w1)) at CK
 rw[hirc] at CK
 have HIRC:=hI hirc
 clear hirc hw1 tab
 go_enter Tryz.func20,Tryz.ntmps20
 go_upto_region 1 with fail
 rw[←HW1.out]
 have RGP:=rrZ ROWP1
 have RGT:=rrZ ROWT1
 go_cut [30] (fun c wx=>∃b:Bool,c=.bool b∧(b=false→irc=0∧t.loop≤0)∧Hid (Below w1.heap.size w1 wx))
 case first=>
  go_wp2_with (first | (refine wpList_load_mid rfl 26 _ rfl w.heap.size 0 rfl _ _ RGP.out Tryz.underlying26 rfl zF ?_) | (refine wpList_load_mid rfl 34 _ rfl (w.heap.size+1) 0 rfl _ _ RGT.out Tryz.underlying34 rfl rP ?_) | fail)
  refine CK.out.mono ?_
  rintro e w2 ⟨rfl,k2⟩
  have K2:=hI k2
  clear k2 RGP RGT
  have ROWP2:=rkZ ROWP1 K2.out
  have ROWT2:=rkZ ROWT1 K2.out
  by_cases hi:irc=0
  case neg=>
   have hb:(irc != 0)=true:=bne_iff_ne.2 hi
   clear hi
   go_wp2_with fail
   go_meet
   case rel=>exact⟨_,rfl,nofun,K2⟩
  subst hi
  have t2:=crZ ROWT2 2 rfl
  by_cases c:0<t.loop
  ·go_wp2_with fail
   go_meet
   case rel=>exact⟨_,rfl,nofun,K2⟩
  obtain⟨fn,hf0,hfn,-⟩:=yJ HIRC.out
  rw[List.getElem?_map] at hfn
  obtain⟨g,hg,rfl⟩:=Option.map_eq_some_iff.1 hfn
  obtain⟨q,hq⟩:∃q:Nat,t.fn=(q:Int):=⟨t.fn.toNat,by omega⟩
  rw[hq,Int.toNat_natCast] at hg
  have hql:=(lE hg).1
  obtain⟨fb,fo,g',gcs,rfl,hfb,hg',-,⟨_,_,_,_,rfl,-⟩,gat⟩:=HPF.out.at_ hql
  rw[hg] at hg'
  injection hg' with hg'
  subst hg'
  have p0:=crZ ROWP2 0 rfl
  have t0:w2.cell? ⟨(w.heap.size+1),0,none⟩=some (.int .i64 q):=by rw[←hq];exact cell_of_row w2 _ 0 _ _ _ ROWT2.out
  have f1:w2.cell? ⟨fb,fo+q*5+1,none⟩=some (.int .i64 g.regs):=((K1.out.trans (K2.out.mono K1.out.size)).cell hfb).trans (gat 1 _ rfl)
  have hqi:(q:Int)<p.fns.length:=by omega
  have HLO:Hid (t.loop≤0):=by show t.loop≤0;omega
  clear hfn hg gat hf0 hq
  go_wp2_with fail
  go_meet
  case rel=>exact⟨_,rfl,(fun _=>⟨by trivial,HLO.out⟩),K2⟩
 case rest=>
 obtain⟨w2,hw2⟩:∃wd,wd=wc:=⟨_,rfl⟩
 subst hw2
 obtain⟨b,rfl,hb,K12⟩:=hcut
 have KW:=btZ K1 K12.out
 have ROWT2:=rkZ ROWT1 K12.out
 have ROWR2:=hI ((K12.out.block _ (aV ROWR1.out)).trans ROWR1.out)
 clear RGP RGT
 have HB:=hI hb
 clear hb
 have HZ2:Hid (w.heap.size+1+1<w2.heap.size):=aV ROWR2.out
 cases b
 case true=>
  have ROWT:=ROWT2
  have ROWR:=ROWR2
  have RGT:=hI (aeA ROWT.out).range
  go_wp2_with (first
   | (refine wpList_load_mid rfl 34 _ rfl (w.heap.size+1) 0 rfl [.int .i64 t.fn,.int .i64 t.at_,.int .i64 t.loop,.slice B1 t.ins.length m1,.slice B2 t.exits.length m2,.int .i64 t.turn.at_,.int .i64 t.turn.steps,.slice B3 t.turn.sets.length m3,.slice B4 t.turn.makes.length m4,.int .i64 t.back.at_,.int .i64 t.back.steps,.slice B5 t.back.sets.length m5,.slice B6 t.back.makes.length m6] _ RGT.out Tryz.underlying34 rfl rP ?_)
   | (refine wpList_store_row rfl 34 _ _ rfl (w.heap.size+1+1) #[.int .i64 t.fn,.int .i64 t.at_,.int .i64 t.loop,.slice B1 t.ins.length m1,.slice B2 t.exits.length m2,.int .i64 t.turn.at_,.int .i64 t.turn.steps,.slice B3 t.turn.sets.length m3,.slice B4 t.turn.makes.length m4,.int .i64 t.back.at_,.int .i64 t.back.steps,.slice B5 t.back.sets.length m5,.slice B6 t.back.makes.length m6] rfl rfl 34 _ ROWR.out rP rfl (oC (by simp[Value.oneCell'])) ?_)
   | fail)
  generalize hw9:World.setRow _ _ _=w9
  have K9:Hid (Below w.heap.size w w9):=by rw[←hw9];exact Below.set_row KW.out (by omega) _
  have QR:=shZ hw9 ROWR
  have TR:Hid (cT w9 w9.heap.size [.int .i64 t.fn,.int .i64 t.at_,.int .i64 t.loop,.slice B1 t.ins.length m1,.slice B2 t.exits.length m2,.int .i64 t.turn.at_,.int .i64 t.turn.steps,.slice B3 t.turn.sets.length m3,.slice B4 t.turn.makes.length m4,.int .i64 t.back.at_,.int .i64 t.back.steps,.slice B5 t.back.sets.length m5,.slice B6 t.back.makes.length m6] t):=by rw[←hw9];exact(HT0.out.below (Below.set_row KW.out (by omega) _))
  clear hw9
  have r0:=crZ QR 0 rfl
  have r1:=crZ QR 1 rfl
  have r2:=crZ QR 2 rfl
  have r3:=crZ QR 3 rfl
  have r4:=crZ QR 4 rfl
  have r5:=crZ QR 5 rfl
  have r6:=crZ QR 6 rfl
  have r7:=crZ QR 7 rfl
  have r8:=crZ QR 8 rfl
  have r9:=crZ QR 9 rfl
  have r10:=crZ QR 10 rfl
  have r11:=crZ QR 11 rfl
  have r12:=crZ QR 12 rfl
  go_wp2_with fail
  refine bodyPost_ret (v:=.tuple #[.agg ⟨[.int .i64 t.fn,.int .i64 t.at_,.int .i64 t.loop,.slice B1 t.ins.length m1,.slice B2 t.exits.length m2,.int .i64 t.turn.at_,.int .i64 t.turn.steps,.slice B3 t.turn.sets.length m3,.slice B4 t.turn.makes.length m4,.int .i64 t.back.at_,.int .i64 t.back.steps,.slice B5 t.back.sets.length m5,.slice B6 t.back.makes.length m6]⟩,.bool false]) (by simp[results,Tryz.results20,go_sem,r0,r1,r2,r3,r4,r5,r6,r7,r8,r9,r10,r11,r12]) rfl ⟨false,_,_,rfl,TR.out,K9.out,nofun⟩
 have t1:=crZ ROWT2 1 rfl
 have TH:Hid (w2.there (w.heap.size+1) 9 4):=ahC ROWT2.out 9 4 (Nat.le_refl 13)
 go_upto_region 4 with (first | (refine wpList_store_mid rfl 32 _ _ rfl (w.heap.size+1) 9 _ rfl rfl TH.out rT (oC (by simp[Value.oneCell'])) ?_) | fail)
 obtain⟨w3,hw3⟩:∃w3,w3=w2.setCells (w.heap.size+1) 9 [.int .i64 t.at_,.int .i64 1,.slice none 0 0,.slice none 0 0]:=⟨_,rfl⟩
 have ROWT3:Hid (w3.heap[(w.heap.size+1)]? = some (.cells #[.int .i64 t.fn,.int .i64 t.at_,.int .i64 t.loop,.slice B1 t.ins.length m1,.slice B2 t.exits.length m2,.int .i64 t.turn.at_,.int .i64 t.turn.steps,.slice B3 t.turn.sets.length m3,.slice B4 t.turn.makes.length m4,.int .i64 t.at_,.int .i64 1,.slice none 0 0,.slice none 0 0] 34 (0,0))):=by rw[hw3];exact agM _ _ _ 9 _ _ ROWT2.out
 have ROWR3:Hid (w3.heap[(w.heap.size+1+1)]? = some (.cells #[.int .i64 0,.int .i64 0,.int .i64 0,.slice none 0 0,.slice none 0 0,.int .i64 0,.int .i64 0,.slice none 0 0,.slice none 0 0,.int .i64 0,.int .i64 0,.slice none 0 0,.slice none 0 0] 34 (0,0))):=by rw[hw3];exact(agK _ _ (by omega) _ _ _).trans ROWR2.out
 have K3:Hid (Below w.heap.size w w3):=by rw[hw3];exact ad9 (by omega) _ _ _ KW.out
 have HW3:=hI hw3
 clear TH t1 hw3 ROWT2 ROWR2 KW ROWT1 ROWR1 K12
 try dsimp only [Act.put]
 rw[←HW3.out]
 go_wp2_with fail
 go_loopw [38] (fun i wr=>∃(j:Nat) (sv:Value),i=.int .i64 j∧j≤l.length∧Hid (wr.heap[(w.heap.size+1)]? = some (.cells #[.int .i64 t.fn,.int .i64 t.at_,.int .i64 t.loop,.slice B1 t.ins.length m1,.slice B2 t.exits.length m2,.int .i64 t.turn.at_,.int .i64 t.turn.steps,.slice B3 t.turn.sets.length m3,.slice B4 t.turn.makes.length m4,.int .i64 t.at_,.int .i64 1,sv,.slice none 0 0] 34 (0,0)))∧Hid (wr.heap[(w.heap.size+1+1)]? = some (.cells #[.int .i64 0,.int .i64 0,.int .i64 0,.slice none 0 0,.slice none 0 0,.int .i64 0,.int .i64 0,.slice none 0 0,.slice none 0 0,.int .i64 0,.int .i64 0,.slice none 0 0,.slice none 0 0] 34 (0,0)))∧
   Hid (wr.ownsRow (w.heap.size+1+1) 66 2 sv j ((agO l j).flatMap agY))∧Hid (Below w.heap.size w wr)∧Hid (∀v∈l.take j,agL t v=true)) (fun i _=>l.length - (RowKit.intOf i).toNat)
 case atStart=>exact⟨0,_,rfl,by omega,ROWT3.out,ROWR3.out,World.ownsRow_nil _ _ _ _,K3.out,fun v hv=>by simp at hv⟩
 case round=>
  obtain⟨j,sv,rfl,hj,ROWT,ROWR,OW,KW,OK⟩:=hrel
  have HZR:Hid (w.heap.size+1+1<wr.heap.size):=aV ROWR.out
  by_cases hlt:j<l.length
  ·have hji:(j:Int)<l.length:=by omega
   have HJ:=hI hlt
   have hw9:wrap64 ((j:Int)+1)=(j:Int)+1:=by have:=HLL.out;unfold wrap64;omega
   obtain⟨b,off,y,ys,rfl,hb,hy,-,⟨rfl,wy⟩,hat⟩:=HV.out.at_ hlt
   have g0:wr.cell? ⟨b,off+j,none⟩=some (.int .i64 y):=(KW.out.cell hb).trans (by simpa using hat 0 _ rfl)
   have t3:=crZ ROWT 3 rfl
   have HY:=hI hy
   clear hy hat
   go_upto_region 7 with fail
   clear g0
   go_cut [61] (fun c wx=>∃b:Bool,c=.bool b∧(b=false→agL t y=true)∧Hid (Below wr.heap.size wr wx))
   case first=>
    by_cases y0:y<0
    ·go_wp2_with fail
     go_meet
     case rel=>exact⟨_,rfl,nofun,Below.refl _ _⟩
    obtain⟨n,rfl⟩:∃n:Nat,y=(n:Int):=⟨y.toNat,by omega⟩
    by_cases hn:n<t.ins.length
    case neg=>
     have hni:(t.ins.length:Int)≤n:=by omega
     go_wp2_with fail
     go_meet
     case rel=>exact⟨_,rfl,nofun,Below.refl _ _⟩
    obtain⟨ib,io,x,rfl,hib,hx,-,xat⟩:=rN HIN.out hn
    have x0:wr.cell? ⟨ib,io+n*8,none⟩=some (.int .i64 x.op):=(KW.out.cell hib).trans (by simpa using xat 0 _ rfl)
    have hni:(n:Int)<t.ins.length:=by omega
    have hni2:decide ((t.ins.length:Int)≤n)=false:=decide_eq_false (by omega)
    have HT5:Hid ((!iC x.op)=false→agL t n=true):=fun h=>by
     unfold agL jE
     rw[Int.toNat_natCast,hx]
     simp at h
     simp[h,hn]
    clear xat hx
    go_wp2_with fail
    refine(uK x.op wr).mono ?_
    rintro e w2 ⟨rfl,k2⟩
    have K2:=hI k2
    clear k2 x0
    go_wp2_with fail
    go_meet
    case rel=>exact⟨_,rfl,(fun h=>HT5.out (by simp only[Bool.or_eq_false_iff] at h;exact h.2)),K2⟩
   case rest=>
   obtain⟨w5,hw5⟩:∃wd,wd=wc:=⟨_,rfl⟩
   subst hw5
   obtain⟨bb,rfl,hbb,K5⟩:=hcut
   have ROWT5:=hI ((K5.out.block _ (aV ROWT.out)).trans ROWT.out)
   have ROWR5:=hI ((K5.out.block _ (aV ROWR.out)).trans ROWR.out)
   have OW5:=hI (own_on OW.out K5.out)
   have KW5:=btZ KW K5.out
   have HZ5:Hid (w.heap.size+1+1<w5.heap.size):=aV ROWR5.out
   have HBB:=hI hbb
   have WY:=hI wy
   clear hbb wy t3 ROWT ROWR OW KW
   cases bb
   case true=>
    have ROWT:=ROWT5
    have ROWR:=ROWR5
    have KW:=KW5
    obtain⟨A',n',c',rfl⟩:=agS OW5.out
    have RGT:=hI (aeA ROWT.out).range
    go_wp2_with (first
     | (refine wpList_load_mid rfl 34 _ rfl (w.heap.size+1) 0 rfl [.int .i64 t.fn,.int .i64 t.at_,.int .i64 t.loop,.slice B1 t.ins.length m1,.slice B2 t.exits.length m2,.int .i64 t.turn.at_,.int .i64 t.turn.steps,.slice B3 t.turn.sets.length m3,.slice B4 t.turn.makes.length m4,.int .i64 t.at_,.int .i64 1,(.slice A' n' c'),.slice none 0 0] _ RGT.out Tryz.underlying34 rfl rP ?_)
     | (refine wpList_store_row rfl 34 _ _ rfl (w.heap.size+1+1) #[.int .i64 t.fn,.int .i64 t.at_,.int .i64 t.loop,.slice B1 t.ins.length m1,.slice B2 t.exits.length m2,.int .i64 t.turn.at_,.int .i64 t.turn.steps,.slice B3 t.turn.sets.length m3,.slice B4 t.turn.makes.length m4,.int .i64 t.at_,.int .i64 1,(.slice A' n' c'),.slice none 0 0] rfl rfl 34 _ ROWR.out rP rfl (oC (by simp[Value.oneCell'])) ?_)
     | fail)
    generalize hw9:World.setRow _ _ _=w9
    have K9:Hid (Below w.heap.size w w9):=by rw[←hw9];exact Below.set_row KW.out (by omega) _
    have QR:=shZ hw9 ROWR
    have TR:Hid (cT w9 w9.heap.size [.int .i64 t.fn,.int .i64 t.at_,.int .i64 t.loop,.slice B1 t.ins.length m1,.slice B2 t.exits.length m2,.int .i64 t.turn.at_,.int .i64 t.turn.steps,.slice B3 t.turn.sets.length m3,.slice B4 t.turn.makes.length m4,.int .i64 t.at_,.int .i64 1,(.slice A' n' c'),.slice none 0 0] (agV t (agO l j))):=by rw[←hw9];exact(ag0 HT0.out (Below.set_row KW.out (by omega) _) ((ag1 OW5.out HWL.out (by omega) HLL.out).row_off ROWR.out (by decide) _ (by omega)))
    clear hw9
    have r0:=crZ QR 0 rfl
    have r1:=crZ QR 1 rfl
    have r2:=crZ QR 2 rfl
    have r3:=crZ QR 3 rfl
    have r4:=crZ QR 4 rfl
    have r5:=crZ QR 5 rfl
    have r6:=crZ QR 6 rfl
    have r7:=crZ QR 7 rfl
    have r8:=crZ QR 8 rfl
    have r9:=crZ QR 9 rfl
    have r10:=crZ QR 10 rfl
    have r11:=crZ QR 11 rfl
    have r12:=crZ QR 12 rfl
    go_wp2_with fail
    refine bodyPost_ret (v:=.tuple #[.agg ⟨[.int .i64 t.fn,.int .i64 t.at_,.int .i64 t.loop,.slice B1 t.ins.length m1,.slice B2 t.exits.length m2,.int .i64 t.turn.at_,.int .i64 t.turn.steps,.slice B3 t.turn.sets.length m3,.slice B4 t.turn.makes.length m4,.int .i64 t.at_,.int .i64 1,(.slice A' n' c'),.slice none 0 0]⟩,.bool false]) (by simp[results,Tryz.results20,go_sem,r0,r1,r2,r3,r4,r5,r6,r7,r8,r9,r10,r11,r12]) rfl ⟨false,_,_,rfl,TR.out,K9.out,nofun⟩
   have c11:=crZ ROWT5 11 rfl
   obtain⟨i0,hi,hz0,hz1,hz2⟩:=info_parts ahL
   have O6:Hid ((w5.alloc (.cells #[.int .i64 j,.int .i64 y] 66)).ownsRow (w.heap.size+1+1) 66 2 sv j ((agO l j).flatMap agY)):=OW5.out.alloc _
   have T6:Hid ((w5.alloc (.cells #[.int .i64 j,.int .i64 y] 66)).heap[(w.heap.size+1)]? = _):=aY ROWT5.out _
   have R6:Hid ((w5.alloc (.cells #[.int .i64 j,.int .i64 y] 66)).heap[(w.heap.size+1+1)]? = _):=aY ROWR5.out _
   go_wp2_with (at_builtin;refine wpList_append_own _ rfl _ _ 29 rfl (w.heap.size+1+1) 66 i0 (.agg #[.int .i64 0,.int .i64 0]) 2 16 Tryz.underlying29 hi hz0 hz1 hz2 rfl (by decide) sv j ((agO l j).flatMap agY) rfl O6.out ⟨w5.heap.size,0,none⟩ 1 1 [.int .i64 j,.int .i64 y] rfl rfl (World.news_of_block (cs:=#[.int .i64 j,.int .i64 y]) (aJ w5 _)) (by intro u hu;simp at hu;rcases hu with rfl | rfl <;> rfl) (by unfold maxLen;have:=HLL.out;omega) (by have:=HLL.out;omega) (by have:=HZ5.out;simp;omega) ?_)
   intro v' w6 hown hg _
   have O7:=hI hown
   have T7:=hI (ag3 O6.out hg T6.out (by decide))
   have R7:=hI (ag3 O6.out hg R6.out (by decide))
   obtain⟨A',n',c',rfl⟩:=agS hown
   have K7:Hid (Below w.heap.size w w6):=(KW5.out.alloc KW5.out.size _).trans ((ag7 O6.out hg (by omega) (by have:=HZ5.out;simp;omega)))
   have c7:=crZ T7 11 rfl
   have f7:=fzZ T7 11
   clear hown hg hi hz0 hz1 hz2
   go_wp2_with fail
   go_roundw
   case rel=>
    refine⟨j+1,.slice A' n' c',(by have:=HLL.out;go_num),HJ.out,?_,?_,?_,?_,?_⟩
    ·show _=_
     rw[heap_setCell_same w6 (w.heap.size+1) 11 _ _ _ T7.out];rfl
    ·show _=_
     rw[heap_setCell_other w6 _ _ _ (by show _≠w.heap.size+1;omega)];exact R7.out
    ·have e:l.getD j 0=y:=by rw[List.getD_eq_getElem?_getD,HY.out];rfl
     rw[ag6,e]
     exact gI O7.out T7.out (by decide) _ _
    ·exact Below.set_at4 K7.out (by omega) _ _
    ·intro v hv
     rw[List.take_add_one,HY.out] at hv
     rcases List.mem_append.1 hv with h | h
     ·exact OK.out v h
     ·simp at h;rw[h];first | exact HBB.out rfl | exact HBB.out trivial
   case measure=>exact meas_lt HJ.out hw9
  ·obtain rfl:j=l.length:=by omega
   have hji:¬(l.length:Int)<l.length:=by omega
   obtain⟨A',n',c',rfl⟩:=agS OW.out
   have e:=HB.out trivial
   have IRC:Hid (irc=0):=e.1
   have LP:Hid (t.loop≤0):=e.2
   have OK':Hid (∀v∈l,agL t v=true):=by have:=OK.out;rwa [List.take_length] at this
   clear e hlt hj
   have RGT:=hI (aeA ROWT.out).range
   go_wp2_with (first
    | (refine wpList_load_mid rfl 34 _ rfl (w.heap.size+1) 0 rfl [.int .i64 t.fn,.int .i64 t.at_,.int .i64 t.loop,.slice B1 t.ins.length m1,.slice B2 t.exits.length m2,.int .i64 t.turn.at_,.int .i64 t.turn.steps,.slice B3 t.turn.sets.length m3,.slice B4 t.turn.makes.length m4,.int .i64 t.at_,.int .i64 1,(.slice A' n' c'),.slice none 0 0] _ RGT.out Tryz.underlying34 rfl rP ?_)
    | (refine wpList_store_row rfl 34 _ _ rfl (w.heap.size+1+1) #[.int .i64 t.fn,.int .i64 t.at_,.int .i64 t.loop,.slice B1 t.ins.length m1,.slice B2 t.exits.length m2,.int .i64 t.turn.at_,.int .i64 t.turn.steps,.slice B3 t.turn.sets.length m3,.slice B4 t.turn.makes.length m4,.int .i64 t.at_,.int .i64 1,(.slice A' n' c'),.slice none 0 0] rfl rfl 34 _ ROWR.out rP rfl (oC (by simp[Value.oneCell'])) ?_)
    | fail)
   generalize hw9:World.setRow _ _ _=w9
   have K9:Hid (Below w.heap.size w w9):=by rw[←hw9];exact Below.set_row KW.out (by omega) _
   have QR:=shZ hw9 ROWR
   have TR:Hid (cT w9 w9.heap.size [.int .i64 t.fn,.int .i64 t.at_,.int .i64 t.loop,.slice B1 t.ins.length m1,.slice B2 t.exits.length m2,.int .i64 t.turn.at_,.int .i64 t.turn.steps,.slice B3 t.turn.sets.length m3,.slice B4 t.turn.makes.length m4,.int .i64 t.at_,.int .i64 1,(.slice A' n' c'),.slice none 0 0] (agV t (agO l l.length))):=by rw[←hw9];exact(ag0 HT0.out (Below.set_row KW.out (by omega) _) ((ag1 OW.out HWL.out (by omega) HLL.out).row_off ROWR.out (by decide) _ (by omega)))
   clear hw9
   have r0:=crZ QR 0 rfl
   have r1:=crZ QR 1 rfl
   have r2:=crZ QR 2 rfl
   have r3:=crZ QR 3 rfl
   have r4:=crZ QR 4 rfl
   have r5:=crZ QR 5 rfl
   have r6:=crZ QR 6 rfl
   have r7:=crZ QR 7 rfl
   have r8:=crZ QR 8 rfl
   have r9:=crZ QR 9 rfl
   have r10:=crZ QR 10 rfl
   have r11:=crZ QR 11 rfl
   have r12:=crZ QR 12 rfl
   go_wp2_with fail
   refine bodyPost_ret (v:=.tuple #[.agg ⟨[.int .i64 t.fn,.int .i64 t.at_,.int .i64 t.loop,.slice B1 t.ins.length m1,.slice B2 t.exits.length m2,.int .i64 t.turn.at_,.int .i64 t.turn.steps,.slice B3 t.turn.sets.length m3,.slice B4 t.turn.makes.length m4,.int .i64 t.at_,.int .i64 1,(.slice A' n' c'),.slice none 0 0]⟩,.bool true]) (by simp[results,Tryz.results20,go_sem,r0,r1,r2,r3,r4,r5,r6,r7,r8,r9,r10,r11,r12]) rfl ⟨true,_,_,rfl,TR.out,K9.out,fun _=>⟨rfl,HIRC.out.trans IRC.out,LP.out,OK'.out⟩⟩
end
section
open Go.RowKit
theorem vals_R {w:World} {g:Nat} {xs:List Int} {n:Nat} (h:w.heap[g]? = some (.cells ⟨xs.map (.int .i64)⟩ 3 (0,0))) (hw:∀x∈xs,wfi x) (hn:xs.length≤n∧n≤xs.length∧xs.length≤maxLen):aH w w.heap.size 1 hY (.slice (some ⟨g,0,none⟩) xs.length n) xs:=by
 obtain rfl:n=xs.length:=by omega
 exact sS (base:=g) (e:=3) ⟨by simp,.inr ⟨g,xs.length,⟨xs.map (.int .i64)⟩,rfl,Nat.le_refl _,h,Nat.le_refl _,hn.2.2,by simp,by rw[Nat.mul_one];exact List.take_of_length_le (by rw[List.length_map];exact Nat.le_refl _)⟩⟩ hw
theorem ahB {p:aW} {t:aN} {S out:aR} {l:List Int} {th exit n:Int} {hd:bW} {f:a8} (h:mY cJ (acT p (agX t l)) (wZ p S) (agX t l) S th 1=(out,exit,n,0)) (h1:S.threads[th.toNat]? = some hd) (h2:hd.frames.getLast? = some f):l.length≤f.regs.length:=by
 obtain⟨hirc,hstc,-,-,-,hd',f',e1,e2,-,hfn,-⟩:=uN h
 rw[h1] at e1;injection e1 with e1;subst e1
 rw[h2] at e2;injection e2 with e2;subst e2
 obtain⟨fn,-,hfnn,hfine⟩:=yK hirc
 have h3:=xY ((oQ hstc).2 hd (lM h1) f (List.mem_of_getLast? h2))
 rw[hfn] at h3
 unfold gD at h3
 rw[List.getElem?_map] at hfnn
 obtain⟨g,hg,rfl⟩:=Option.map_eq_some_iff.1 hfnn
 rw[hg] at h3
 have h4:(f.regs.length:Int)=g.regs:=h3
 rcases Nat.eq_zero_or_pos l.length with e | e
 ·omega
 ·have:=(hfine.back.sets ⟨((l.length - 1:Nat):Int),l.getD (l.length - 1) 0⟩ (List.mem_map.2 ⟨l.length - 1,List.mem_range.2 (by omega),rfl⟩)).2.1
  have h5:((l.length - 1:Nat):Int)<g.regs:=this
  omega
theorem ahE {p:aW} {t:aN} (h:acT p t=0) (hl:t.loop≤0):t.loop=0:=by
 obtain⟨_,_,_,hf⟩:=yJ h
 have:=hf.loop
 omega
theorem aiC {a:hV} {irc stc:Int} {t:aN} {S:aR} {th:Int} (h:(mY a irc stc t S th 1).2.2.2=0):mY a irc stc t S th 1=((mY a irc stc t S th 1).1,(mY a irc stc t S th 1).2.1,(mY a irc stc t S th 1).2.2.1,0):=by
 rw[←h]
theorem ag5 {r:aR×Int×Int×Int} {th:Int} {many:Nat} {w':World} {e:Ending} (h:(∃hd f b off c,r.2.2.2=0∧r.2.1<0∧r.1.threads[th.toNat]? = some hd∧hd.frames.getLast? = some f∧many≤f.regs.length∧e=.returned (.tuple #[.slice (some ⟨b,off,none⟩) many c,.bool true])∧aH w' w'.heap.size 2 hU (.slice (some ⟨b,off,none⟩) f.regs.length c) f.regs)∨
 (¬(r.2.2.2=0∧r.2.1<0)∧e=.returned (.tuple #[.slice none 0 0,.bool false]))) :
  ∃(sl:Value) (bb:Bool),e=.returned (.tuple #[sl,.bool bb])∧(bb=true→∃hd f b off c,r.2.2.2=0∧r.2.1<0∧r.1.threads[th.toNat]? = some hd∧hd.frames.getLast? = some f∧many≤f.regs.length∧sl=.slice (some ⟨b,off,none⟩) many c∧aH w' w'.heap.size 2 hU (.slice (some ⟨b,off,none⟩) f.regs.length c) f.regs):=by
 rcases h with ⟨hd,f,b,off,c,h1,h2,h3,h4,h5,rfl,h6⟩ | ⟨-,rfl⟩
 ·exact⟨_,_,rfl,fun _=>⟨hd,f,b,off,c,h1,h2,h3,h4,h5,rfl,h6⟩⟩
 ·exact⟨_,_,rfl,fun h=>by cases h⟩
end
section
open Go.RowKit
theorem spanSo_walk (pcs tcs scs:List Value) (p:aW) (t:aN) (S:aR) (th v:Int) (w:World) (hp:eL w w.heap.size pcs p) (ht:cT w w.heap.size tcs t) (hs:gK w w.heap.size scs S) (wth:wfi th) (wv:wfi v) (tab:Tab w) :
  Calls Tryz.prog 11 #[.agg ⟨pcs⟩,.agg ⟨tcs⟩,.agg ⟨scs⟩,.int .i64 th,.int .i64 v] w (aM (.bool true) w):=by
 have HP0:=hI hp
 have HT0:=hI ht
 have HS0:=hI hs
 obtain⟨PA,pn,PB,pm,PD,pk,rfl,-⟩:=id hp
 obtain⟨B1,m1,B2,m2,B3,m3,B4,m4,B5,m5,B6,m6,rfl,-⟩:=ht.cells6
 obtain⟨c,s,x,tv,en,sa,rfl,hc,hsh,htx,hth',hen,hsa,wa,ws⟩:=id hs
 obtain⟨CA,cc,rfl,-⟩:=id hc
 obtain⟨SA,sc,rfl,-⟩:=id hsh
 obtain⟨XA,xc,rfl,-⟩:=id htx
 obtain⟨TA,tc,rfl,-⟩:=id hth'
 obtain⟨EA,ec,rfl,-⟩:=id hen
 obtain⟨AA,ac,rfl,-⟩:=id hsa
 obtain⟨w1,hw1⟩:∃w1,w1=((w.alloc (.cells #[.slice PA p.fns.length pn,.slice PB p.consts.length pm,.slice PD p.texts.length pk] 26)).alloc (.cells #[.int .i64 t.fn,.int .i64 t.at_,.int .i64 t.loop,.slice B1 t.ins.length m1,.slice B2 t.exits.length m2,.int .i64 t.turn.at_,.int .i64 t.turn.steps,.slice B3 t.turn.sets.length m3,.slice B4 t.turn.makes.length m4,.int .i64 t.back.at_,.int .i64 t.back.steps,.slice B5 t.back.sets.length m5,.slice B6 t.back.makes.length m6] 34)).alloc (.cells #[.slice CA S.cells.length cc,.slice SA S.shapes.length sc,.slice XA S.texts.length xc,.slice TA S.threads.length tc,.slice EA S.ends.length ec,.slice AA S.said.length ac,.int .i64 S.asked,.int .i64 S.steps] 40):=⟨_,rfl⟩
 have FB:=aeI w (.cells #[.slice PA p.fns.length pn,.slice PB p.consts.length pm,.slice PD p.texts.length pk] 26) (.cells #[.int .i64 t.fn,.int .i64 t.at_,.int .i64 t.loop,.slice B1 t.ins.length m1,.slice B2 t.exits.length m2,.int .i64 t.turn.at_,.int .i64 t.turn.steps,.slice B3 t.turn.sets.length m3,.slice B4 t.turn.makes.length m4,.int .i64 t.back.at_,.int .i64 t.back.steps,.slice B5 t.back.sets.length m5,.slice B6 t.back.makes.length m6] 34) (.cells #[.slice CA S.cells.length cc,.slice SA S.shapes.length sc,.slice XA S.texts.length xc,.slice TA S.threads.length tc,.slice EA S.ends.length ec,.slice AA S.said.length ac,.int .i64 S.asked,.int .i64 S.steps] 40)
 rw[←hw1] at FB
 obtain⟨f1,f2,f3,f5⟩:=FB
 have ROWP1:=hI f1
 have ROWT1:=hI f2
 have ROWS1:=hI f3
 have K1:=hI f5
 have HW1:=hI hw1
 have T0:=hI tab
 clear hp ht hs hc hsh htx hth' hen hsa wa ws hw1 f1 f2 f3 f5 tab
 go_enter Tryz.func11,Tryz.ntmps11
 go_upto_region 1 with fail
 rw[←HW1.out]
 go_wp2_with fail
 refine(irred_c w1).mono ?_
 rintro e w2 ⟨rfl,kk⟩
 have K2:=btZ K1 kk
 have ROWP2:=rkZ ROWP1 kk
 have ROWT2:=rkZ ROWT1 kk
 have ROWS2:=rkZ ROWS1 kk
 clear kk
 have K2a:Hid (Below w.heap.size w (w2.alloc (.cells #[.int .i64 v] 3))):=K2.out.alloc K2.out.size _
 have KA:Hid (Below w2.heap.size w2 (w2.alloc (.cells #[.int .i64 v] 3))):=aB _ _
 have VR:Hid (aH (w2.alloc (.cells #[.int .i64 v] 3)) ((w2.alloc (.cells #[.int .i64 v] 3))).heap.size 1 hY (.slice (some ⟨w2.heap.size,0,none⟩) [v].length 1) [v]):=vals_R (aJ _ _) (by simp only[List.mem_cons,List.not_mem_nil,or_false];rintro _ rfl <;> assumption) (by simp[maxLen])
 have TD:=hI (ktold_c _ _ p t _ _ [v] (w2.alloc (.cells #[.int .i64 v] 3)) (HP0.out.below K2a.out) (HT0.out.below K2a.out) VR.out (by simp) (T0.out.below K2a.out))
 have RGP:=rrZ ROWP2
 have RGT:=rrZ ROWT2
 go_wp2_with (first | (refine wpList_load_mid rfl 26 _ rfl w.heap.size 0 rfl _ _ RGP.out Tryz.underlying26 rfl zF ?_) | (refine wpList_load_mid rfl 34 _ rfl (w.heap.size+1) 0 rfl _ _ RGT.out Tryz.underlying34 rfl rP ?_) | fail)
 clear RGP RGT
 refine TD.out.mono ?_
 rintro e w3 ⟨b,cs,T,rfl,hT,kk,hb⟩
 have K3:=btZ K2a kk
 have KK:=btZ KA kk
 have HT2:=hI hT
 have HB:=hI hb
 have ROWP3:=rkZ ROWP2 KK.out
 have ROWT3:=rkZ ROWT2 KK.out
 have ROWS3:=rkZ ROWS2 KK.out
 obtain⟨D1,d1,D2,d2,D3,d3,D4,d4,D5,d5,D6,d6,rfl,-⟩:=hT.cells6
 clear kk hT hb TD VR KA K2a KK
 obtain⟨w4,hw4⟩:∃ww,ww=w3.alloc (.cells #[.int .i64 T.fn,.int .i64 T.at_,.int .i64 T.loop,.slice D1 T.ins.length d1,.slice D2 T.exits.length d2,.int .i64 T.turn.at_,.int .i64 T.turn.steps,.slice D3 T.turn.sets.length d3,.slice D4 T.turn.makes.length d4,.int .i64 T.back.at_,.int .i64 T.back.steps,.slice D5 T.back.sets.length d5,.slice D6 T.back.makes.length d6] 34):=⟨_,rfl⟩
 have KB:Hid (Below w3.heap.size w3 w4):=by rw[hw4];exact aB _ _
 have ROWU4:Hid (w4.heap[w3.heap.size]? = some (.cells #[.int .i64 T.fn,.int .i64 T.at_,.int .i64 T.loop,.slice D1 T.ins.length d1,.slice D2 T.exits.length d2,.int .i64 T.turn.at_,.int .i64 T.turn.steps,.slice D3 T.turn.sets.length d3,.slice D4 T.turn.makes.length d4,.int .i64 T.back.at_,.int .i64 T.back.steps,.slice D5 T.back.sets.length d5,.slice D6 T.back.makes.length d6] 34 (0,0))):=by rw[hw4];exact aJ _ _
 have K4:=btZ K3 KB.out
 have HT4:=hI (HT2.out.below KB.out)
 have ROWP4:=rkZ ROWP3 KB.out
 have ROWT4:=rkZ ROWT3 KB.out
 have ROWS4:=rkZ ROWS3 KB.out
 have HW4:=hI hw4
 clear hw4 HT2
 go_upto_region 4 with fail
 rw[←HW4.out]
 cases b
 case false=>
  go_wp2_with fail
  refine(irred_c w4).mono ?_
  rintro e w5 ⟨rfl,kk⟩
  have K5:=btZ K4 kk
  clear kk
  go_wp2_with fail
  go_ret
  exact⟨rfl,K5.out⟩
 have HTE:Hid (T=agX t [v]):=(HB.out rfl).1
 have HIRC:Hid (acT p t=0):=(HB.out rfl).2.1
 have HLO:Hid (t.loop≤0):=(HB.out rfl).2.2.1
 have HTL:Hid (agL t v=true):=(HB.out rfl).2.2.2 v (by simp)
 clear HB
 have VS:=hI (ahF _ _ _ p T S th 1 w4 (HP0.out.below K4.out) HT4.out (HS0.out.below K4.out) wth (by decide) (fun out exit n hd f h h1 h2=>by rw[HTE.out] at h;exact ahB h h1 h2) (T0.out.below K4.out))
 have RGP:=rrZ ROWP4
 have RGS:=rrZ ROWS4
 have RGU:=hI (aeA ROWU4.out).range
 go_wp2_with (first | (refine wpList_load_mid rfl 26 _ rfl w.heap.size 0 rfl _ _ RGP.out Tryz.underlying26 rfl zF ?_) | (refine wpList_load_mid rfl 40 _ rfl (w.heap.size+1+1) 0 rfl _ _ RGS.out Tryz.underlying40 rfl eC ?_) | (refine wpList_load_mid rfl 34 _ rfl w3.heap.size 0 rfl _ _ RGU.out Tryz.underlying34 rfl rP ?_) | fail)
 clear RGP RGS RGU
 refine VS.out.mono ?_
 rintro e w5 ⟨kk,hv⟩
 have K5:=btZ K4 kk
 have ROWT5:=rkZ ROWT4 kk
 obtain⟨sl,bb,rfl,hv2⟩:=ag5 hv
 have HV:=hI hv2
 clear hv hv2 kk VS
 have t3:=crZ ROWT5 3 rfl
 have htl:=HTL.out
 simp only[agL,Bool.and_eq_true,decide_eq_true_eq] at htl
 obtain⟨⟨hv0,hv1⟩,hv2⟩:=htl
 obtain⟨v,rfl⟩:∃n:Nat,v=(n:Int):=⟨v.toNat,by omega⟩
 have hl3:t.ins.length≤300:=by obtain⟨h2,-⟩:=gZ HIRC.out;exact h2
 have SC:=hI (al2 _ t v t.ins.length w5 (HT0.out.below K5.out) (amF HIRC.out) hl3 (fine_ok HIRC.out) (by omega) (Nat.le_refl _))
 have hof:al3 t.ins (v:Int) (t.ins.length:Int)=ai0 t.ins (v:Int) (t.ins.length:Int):=by
  unfold al3
  rw[if_pos (by rw[←hv2];unfold nQ jE;rw[Int.toNat_natCast];cases t.ins[v]? <;> rfl)]
 rw[hof] at SC
 obtain⟨sp,hsp⟩:∃sp,ai0 t.ins (v:Int) (t.ins.length:Int)=sp:=⟨_,rfl⟩
 rw[hsp] at SC
 have HSP:=hI hsp
 clear hsp hof hv0 hv1 hv2 hl3
 have RGT:=rrZ ROWT5
 go_wp2_with (first | (refine wpList_load_mid rfl 34 _ rfl (w.heap.size+1) 0 rfl _ _ RGT.out Tryz.underlying34 rfl rP ?_) | fail)
 refine SC.out.mono ?_
 rintro e w6 ⟨rfl,kk⟩
 have K6:=btZ K5 kk
 have K56:=hI kk
 clear kk t3 SC RGT
 go_wp2_with fail
 refine(irred_c w6).mono ?_
 rintro e w7 ⟨rfl,kk⟩
 have K7:=btZ K6 kk
 have K57:=btZ K56 kk
 clear kk
 cases bb
 case false=>
  go_wp2_with fail
  go_ret
  exact⟨rfl,K7.out⟩
 obtain⟨hd',f',b,off,c,h0,hex,e1,e2,hm,rfl,PR⟩:=HV.out (by trivial)
 obtain⟨x,hx⟩:∃x,f'.regs[0]? = some x:=⟨_,lG (by omega)⟩
 have hin:x.kind=2→sp.1≤x.n∧x.n≤sp.2:=by
  rw[HTE.out] at h0 hex e1
  obtain⟨hd2,f2,-,g1,g2,g3⟩:=alV (E:=cJ) ops_ok span_ok (qI HIRC.out) (af1 HIRC.out) (ahH HIRC.out) (alC HIRC.out) (alD (uN (aiC h0)).2.1) (ahE HIRC.out HLO.out) (aiC h0) hex
  rw[e1] at g1;injection g1 with g1;subst g1
  rw[e2] at g2;injection g2 with g2;subst g2
  rw[←HSP.out];exact g3 x hx
 obtain⟨_,_,x',_,hbb,hb0,hx',-,⟨rfl,-⟩,hat⟩:=PR.at_ (i:=0) (by omega)
 injection hbb with hbb
 injection hbb with e3 e4
 subst e3 e4
 rw[hx] at hx';injection hx' with hx';subst hx'
 have g0:w7.cell? ⟨b,off,none⟩=some (.int .i64 x.kind):=(K57.out.cell hb0).trans (by simpa using hat 0 _ rfl)
 have g1:w7.cell? ⟨b,off+1,none⟩=some (.int .i64 x.n):=(K57.out.cell hb0).trans (by simpa using hat 1 _ rfl)
 clear h0 hex e1 e2 hm PR hx hat
 by_cases hk2:x.kind=2
 case neg=>
  have hk:(x.kind != 2)=true:=bne_iff_ne.2 hk2
  clear hin hk2
  go_wp2_with fail
  go_ret
  exact⟨rfl,K7.out⟩
 have h1:decide (sp.1≤x.n)=true:=decide_eq_true (hin hk2).1
 have h2:decide (x.n≤sp.2)=true:=decide_eq_true (hin hk2).2
 have hk:(x.kind != 2)=false:=by rw[hk2];rfl
 clear hin hk2
 go_wp2_with fail
 go_ret
 exact⟨rfl,K7.out⟩
end
end Go.Proofs.YtjaphgpkkfdaaaaGreatDoor
