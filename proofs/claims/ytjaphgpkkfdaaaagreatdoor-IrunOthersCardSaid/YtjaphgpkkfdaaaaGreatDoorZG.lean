/- Part of the walk of the given code: contracts of the functions that irun.Run reaches, and plain laws on what it reckons. -/
import Derived.Test.YtjaphgpkkfdaaaaGreatDoorZF
import Derived.Test.YtjaphgpkkfdaaaaGreatDoorZA
import Derived.WalkLawsBesides
import Derived.Laws.Externs
import Derived.Maps.OwnOps
import Derived.Maps.Views
import Derived.Test.YtjaphgpkkfdaaaaGreatDoorZD
set_option maxHeartbeats 16000000
set_option maxRecDepth 100000
set_option linter.all false
namespace Go.Proofs.YtjaphgpkkfdaaaaGreatDoor
section
open Go.RowKit
theorem sV {α : Type} (R:List Value→α→Prop) (p : α→Bool) (A:Option Addr) (cap:Nat) (xs:List α) (fid:FuncId) (hen:∀args W,(callFunc fid args).run Tryz.prog W=.ok (.enter fid args) W) (caps:Array Value) (w:World) (hs:aH w w.heap.size 5 R (.slice A xs.length cap) xs)
  (hp:∀(w1:World),Below w.heap.size w w1→∀(x : α) (cs:List Value),x∈xs→R cs x→Calls Tryz.prog fid (#[.agg ⟨cs⟩]++caps) w1 (aM (.bool (p x)) w1)) :
  Calls Tryz.prog 93 #[.slice A xs.length cap,.func (.func fid) #[] caps] w (aM (.int .i64 (jU p xs)) w):=by
 have HS:=hI hs
 have HP:=hI hp
 have hl:xs.length≤cap∧cap≤maxLen:=by obtain⟨A',c',e,e1,e2,-⟩:=hs;injection e with _ _ e3;subst e3;exact⟨e1,e2⟩
 obtain⟨hl1,hl0⟩:=hl
 unfold maxLen at hl0
 clear hs hp
 go_enter Tryz.func93,Tryz.ntmps93
 go_wp2_with fail
 go_loopw [8] (fun k wr=>∃kn:Nat,k=.int .i64 kn∧kn≤xs.length∧Hid (∀i x,i<kn→xs[i]? = some x→p x=false)∧Hid (Below w.heap.size w wr)) (fun k _=>xs.length - (RowKit.intOf k).toNat)
 case atStart=>exact⟨0,rfl,by omega,fun i x hi _=>by omega,Below.refl _ _⟩
 case round=>
  obtain⟨kn,rfl,hk,KP,KW⟩:=hrel
  by_cases hlt:kn<xs.length
  ·obtain⟨b,off,x,cs,rfl,hb,hx0,hcl,hR,hat⟩:=HS.out.at_ hlt
   match cs,hcl with
   | [c0,c1,c2,c3,c4],_=>
    have hi1:(kn:Int)<xs.length:=by omega
    have g0:wr.cell? ⟨b,off+kn*5,none⟩=some c0:=(KW.out.cell hb).trans (hat 0 _ rfl)
    have g1:wr.cell? ⟨b,off+kn*5+1,none⟩=some c1:=(KW.out.cell hb).trans (hat 1 _ rfl)
    have g2:wr.cell? ⟨b,off+kn*5+2,none⟩=some c2:=(KW.out.cell hb).trans (hat 2 _ rfl)
    have g3:wr.cell? ⟨b,off+kn*5+3,none⟩=some c3:=(KW.out.cell hb).trans (hat 3 _ rfl)
    have g4:wr.cell? ⟨b,off+kn*5+4,none⟩=some c4:=(KW.out.cell hb).trans (hat 4 _ rfl)
    have HC:=hI (HP.out wr KW.out x _ (List.mem_of_getElem? hx0) hR)
    have HX:=hI hx0
    clear hx0 hat hR
    cases hpx:p x
    ·have HF:=hI hpx
     rw[hpx] at HC
     clear hpx
     go_wp2_with fail
     refine HC.out.mono ?_
     rintro e w2 ⟨rfl,k2⟩
     have K2:=hI (Below.trans KW.out (k2.mono KW.out.size))
     clear k2 g0 g1 g2 g3 g4
     go_wp2_with fail
     go_roundw
     case rel=>exact⟨kn+1,by go_num,by omega,fun i y hi hy=>by
      rcases Nat.lt_or_ge i kn with h | h
      ·exact KP.out i y h hy
      ·have:i=kn:=by omega
       subst this
       rw[HX.out] at hy
       injection hy with hy
       subst hy
       exact HF.out,K2⟩
     case measure=>simp[RowKit.intOf];omega
    ·have HF:=hI (fU KP.out HX.out hpx)
     rw[hpx] at HC
     clear hpx
     go_wp2_with fail
     refine HC.out.mono ?_
     rintro e w2 ⟨rfl,k2⟩
     have K2:=hI (Below.trans KW.out (k2.mono KW.out.size))
     clear k2 g0 g1 g2 g3 g4
     go_wp2_with fail
     go_ret
     exact⟨by rw[HF.out];rfl,K2.out⟩
  ·have HF:=hI (e8 (p:=p) (xs:=xs) (fun i x hi=>KP.out i x (by have:=(lE hi).1;omega) hi))
   go_wp2_with fail
   go_ret
   exact⟨by rw[HF.out];rfl,KW.out⟩
theorem pO {α : Type} (R:List Value→α→Prop) (p : α→Bool) (A:Option Addr) (cap:Nat) (xs:List α) (fid:FuncId) (hen:∀args W,(callFunc fid args).run Tryz.prog W=.ok (.enter fid args) W) (caps:Array Value) (w:World) (hs:aH w w.heap.size 5 R (.slice A xs.length cap) xs)
  (hp:∀(w1:World),Below w.heap.size w w1→∀(x : α) (cs:List Value),x∈xs→R cs x→Calls Tryz.prog fid (#[.agg ⟨cs⟩]++caps) w1 (aM (.bool (p x)) w1)) :
  Calls Tryz.prog 48 #[.slice A xs.length cap,.func (.func fid) #[] caps] w (aM (.bool (xs.any p)) w):=by
 have HC:=hI (sV R p A cap xs fid hen caps w hs hp)
 have HB:=hI (fV p xs)
 clear hs hp hen
 go_enter Tryz.func48,Tryz.ntmps48
 go_wp2_with fail
 refine HC.out.mono ?_
 rintro e w1 ⟨rfl,k1⟩
 have K1:=hI k1
 clear k1
 go_wp2_with fail
 go_ret
 exact⟨by rw[HB.out];rfl,K1.out⟩
theorem sX {α : Type} (R:List Value→α→Prop) (p : α→Bool) (A:Option Addr) (cap:Nat) (xs:List α) (fid:FuncId) (hen:∀args W,(callFunc fid args).run Tryz.prog W=.ok (.enter fid args) W) (caps:Array Value) (w:World) (hs:aH w w.heap.size 8 R (.slice A xs.length cap) xs)
  (hp:∀(w1:World),Below w.heap.size w w1→∀(x : α) (cs:List Value),x∈xs→R cs x→Calls Tryz.prog fid (#[.agg ⟨cs⟩]++caps) w1 (aM (.bool (p x)) w1)) :
  Calls Tryz.prog 163 #[.slice A xs.length cap,.func (.func fid) #[] caps] w (aM (.int .i64 (jU p xs)) w):=by
 have HS:=hI hs
 have HP:=hI hp
 have hl:xs.length≤cap∧cap≤maxLen:=by obtain⟨A',c',e,e1,e2,-⟩:=hs;injection e with _ _ e3;subst e3;exact⟨e1,e2⟩
 obtain⟨hl1,hl0⟩:=hl
 unfold maxLen at hl0
 clear hs hp
 go_enter Tryz.func163,Tryz.ntmps163
 go_wp2_with fail
 go_loopw [8] (fun k wr=>∃kn:Nat,k=.int .i64 kn∧kn≤xs.length∧Hid (∀i x,i<kn→xs[i]? = some x→p x=false)∧Hid (Below w.heap.size w wr)) (fun k _=>xs.length - (RowKit.intOf k).toNat)
 case atStart=>exact⟨0,rfl,by omega,fun i x hi _=>by omega,Below.refl _ _⟩
 case round=>
  obtain⟨kn,rfl,hk,KP,KW⟩:=hrel
  by_cases hlt:kn<xs.length
  ·obtain⟨b,off,x,cs,rfl,hb,hx0,hcl,hR,hat⟩:=HS.out.at_ hlt
   match cs,hcl with
   | [c0,c1,c2,c3,c4,c5,c6,c7],_=>
    have hi1:(kn:Int)<xs.length:=by omega
    have g0:wr.cell? ⟨b,off+kn*8,none⟩=some c0:=(KW.out.cell hb).trans (hat 0 _ rfl)
    have g1:wr.cell? ⟨b,off+kn*8+1,none⟩=some c1:=(KW.out.cell hb).trans (hat 1 _ rfl)
    have g2:wr.cell? ⟨b,off+kn*8+2,none⟩=some c2:=(KW.out.cell hb).trans (hat 2 _ rfl)
    have g3:wr.cell? ⟨b,off+kn*8+3,none⟩=some c3:=(KW.out.cell hb).trans (hat 3 _ rfl)
    have g4:wr.cell? ⟨b,off+kn*8+4,none⟩=some c4:=(KW.out.cell hb).trans (hat 4 _ rfl)
    have g5:wr.cell? ⟨b,off+kn*8+5,none⟩=some c5:=(KW.out.cell hb).trans (hat 5 _ rfl)
    have g6:wr.cell? ⟨b,off+kn*8+6,none⟩=some c6:=(KW.out.cell hb).trans (hat 6 _ rfl)
    have g7:wr.cell? ⟨b,off+kn*8+7,none⟩=some c7:=(KW.out.cell hb).trans (hat 7 _ rfl)
    have HC:=hI (HP.out wr KW.out x _ (List.mem_of_getElem? hx0) hR)
    have HX:=hI hx0
    clear hx0 hat hR
    cases hpx:p x
    ·have HF:=hI hpx
     rw[hpx] at HC
     clear hpx
     go_wp2_with fail
     refine HC.out.mono ?_
     rintro e w2 ⟨rfl,k2⟩
     have K2:=hI (Below.trans KW.out (k2.mono KW.out.size))
     clear k2 g0 g1 g2 g3 g4 g5 g6 g7
     go_wp2_with fail
     go_roundw
     case rel=>exact⟨kn+1,by go_num,by omega,fun i y hi hy=>by
      rcases Nat.lt_or_ge i kn with h | h
      ·exact KP.out i y h hy
      ·have:i=kn:=by omega
       subst this
       rw[HX.out] at hy
       injection hy with hy
       subst hy
       exact HF.out,K2⟩
     case measure=>simp[RowKit.intOf];omega
    ·have HF:=hI (fU KP.out HX.out hpx)
     rw[hpx] at HC
     clear hpx
     go_wp2_with fail
     refine HC.out.mono ?_
     rintro e w2 ⟨rfl,k2⟩
     have K2:=hI (Below.trans KW.out (k2.mono KW.out.size))
     clear k2 g0 g1 g2 g3 g4 g5 g6 g7
     go_wp2_with fail
     go_ret
     exact⟨by rw[HF.out];rfl,K2.out⟩
  ·have HF:=hI (e8 (p:=p) (xs:=xs) (fun i x hi=>KP.out i x (by have:=(lE hi).1;omega) hi))
   go_wp2_with fail
   go_ret
   exact⟨by rw[HF.out];rfl,KW.out⟩
theorem pQ {α : Type} (R:List Value→α→Prop) (p : α→Bool) (A:Option Addr) (cap:Nat) (xs:List α) (fid:FuncId) (hen:∀args W,(callFunc fid args).run Tryz.prog W=.ok (.enter fid args) W) (caps:Array Value) (w:World) (hs:aH w w.heap.size 8 R (.slice A xs.length cap) xs)
  (hp:∀(w1:World),Below w.heap.size w w1→∀(x : α) (cs:List Value),x∈xs→R cs x→Calls Tryz.prog fid (#[.agg ⟨cs⟩]++caps) w1 (aM (.bool (p x)) w1)) :
  Calls Tryz.prog 126 #[.slice A xs.length cap,.func (.func fid) #[] caps] w (aM (.bool (xs.any p)) w):=by
 have HC:=hI (sX R p A cap xs fid hen caps w hs hp)
 have HB:=hI (fV p xs)
 clear hs hp hen
 go_enter Tryz.func126,Tryz.ntmps126
 go_wp2_with fail
 refine HC.out.mono ?_
 rintro e w1 ⟨rfl,k1⟩
 have K1:=hI k1
 clear k1
 go_wp2_with fail
 go_ret
 exact⟨by rw[HB.out];rfl,K1.out⟩
theorem sZ {α : Type} (R:List Value→α→Prop) (p : α→Bool) (A:Option Addr) (cap:Nat) (xs:List α) (fid:FuncId) (hen:∀args W,(callFunc fid args).run Tryz.prog W=.ok (.enter fid args) W) (caps:Array Value) (w:World) (hs:aH w w.heap.size 4 R (.slice A xs.length cap) xs)
  (hp:∀(w1:World),Below w.heap.size w w1→∀(x : α) (cs:List Value),x∈xs→R cs x→Calls Tryz.prog fid (#[.agg ⟨cs⟩]++caps) w1 (aM (.bool (p x)) w1)) :
  Calls Tryz.prog 121 #[.slice A xs.length cap,.func (.func fid) #[] caps] w (aM (.int .i64 (jU p xs)) w):=by
 have HS:=hI hs
 have HP:=hI hp
 have hl:xs.length≤cap∧cap≤maxLen:=by obtain⟨A',c',e,e1,e2,-⟩:=hs;injection e with _ _ e3;subst e3;exact⟨e1,e2⟩
 obtain⟨hl1,hl0⟩:=hl
 unfold maxLen at hl0
 clear hs hp
 go_enter Tryz.func121,Tryz.ntmps121
 go_wp2_with fail
 go_loopw [8] (fun k wr=>∃kn:Nat,k=.int .i64 kn∧kn≤xs.length∧Hid (∀i x,i<kn→xs[i]? = some x→p x=false)∧Hid (Below w.heap.size w wr)) (fun k _=>xs.length - (RowKit.intOf k).toNat)
 case atStart=>exact⟨0,rfl,by omega,fun i x hi _=>by omega,Below.refl _ _⟩
 case round=>
  obtain⟨kn,rfl,hk,KP,KW⟩:=hrel
  by_cases hlt:kn<xs.length
  ·obtain⟨b,off,x,cs,rfl,hb,hx0,hcl,hR,hat⟩:=HS.out.at_ hlt
   match cs,hcl with
   | [c0,c1,c2,c3],_=>
    have hi1:(kn:Int)<xs.length:=by omega
    have g0:wr.cell? ⟨b,off+kn*4,none⟩=some c0:=(KW.out.cell hb).trans (hat 0 _ rfl)
    have g1:wr.cell? ⟨b,off+kn*4+1,none⟩=some c1:=(KW.out.cell hb).trans (hat 1 _ rfl)
    have g2:wr.cell? ⟨b,off+kn*4+2,none⟩=some c2:=(KW.out.cell hb).trans (hat 2 _ rfl)
    have g3:wr.cell? ⟨b,off+kn*4+3,none⟩=some c3:=(KW.out.cell hb).trans (hat 3 _ rfl)
    have HC:=hI (HP.out wr KW.out x _ (List.mem_of_getElem? hx0) hR)
    have HX:=hI hx0
    clear hx0 hat hR
    cases hpx:p x
    ·have HF:=hI hpx
     rw[hpx] at HC
     clear hpx
     go_wp2_with fail
     refine HC.out.mono ?_
     rintro e w2 ⟨rfl,k2⟩
     have K2:=hI (Below.trans KW.out (k2.mono KW.out.size))
     clear k2 g0 g1 g2 g3
     go_wp2_with fail
     go_roundw
     case rel=>exact⟨kn+1,by go_num,by omega,fun i y hi hy=>by
      rcases Nat.lt_or_ge i kn with h | h
      ·exact KP.out i y h hy
      ·have:i=kn:=by omega
       subst this
       rw[HX.out] at hy
       injection hy with hy
       subst hy
       exact HF.out,K2⟩
     case measure=>simp[RowKit.intOf];omega
    ·have HF:=hI (fU KP.out HX.out hpx)
     rw[hpx] at HC
     clear hpx
     go_wp2_with fail
     refine HC.out.mono ?_
     rintro e w2 ⟨rfl,k2⟩
     have K2:=hI (Below.trans KW.out (k2.mono KW.out.size))
     clear k2 g0 g1 g2 g3
     go_wp2_with fail
     go_ret
     exact⟨by rw[HF.out];rfl,K2.out⟩
  ·have HF:=hI (e8 (p:=p) (xs:=xs) (fun i x hi=>KP.out i x (by have:=(lE hi).1;omega) hi))
   go_wp2_with fail
   go_ret
   exact⟨by rw[HF.out];rfl,KW.out⟩
theorem iH {α : Type} (R:List Value→α→Prop) (p : α→Bool) (A:Option Addr) (cap:Nat) (xs:List α) (fid:FuncId) (hen:∀args W,(callFunc fid args).run Tryz.prog W=.ok (.enter fid args) W) (caps:Array Value) (w:World) (hs:aH w w.heap.size 4 R (.slice A xs.length cap) xs)
  (hp:∀(w1:World),Below w.heap.size w w1→∀(x : α) (cs:List Value),x∈xs→R cs x→Calls Tryz.prog fid (#[.agg ⟨cs⟩]++caps) w1 (aM (.bool (p x)) w1)) :
  Calls Tryz.prog 83 #[.slice A xs.length cap,.func (.func fid) #[] caps] w (aM (.bool (xs.any p)) w):=by
 have HC:=hI (sZ R p A cap xs fid hen caps w hs hp)
 have HB:=hI (fV p xs)
 clear hs hp hen
 go_enter Tryz.func83,Tryz.ntmps83
 go_wp2_with fail
 refine HC.out.mono ?_
 rintro e w1 ⟨rfl,k1⟩
 have K1:=hI k1
 clear k1
 go_wp2_with fail
 go_ret
 exact⟨by rw[HB.out];rfl,K1.out⟩
theorem sW {α : Type} (R:List Value→α→Prop) (p : α→Bool) (A:Option Addr) (cap:Nat) (xs:List α) (fid:FuncId) (hen:∀args W,(callFunc fid args).run Tryz.prog W=.ok (.enter fid args) W) (caps:Array Value) (w:World) (hs:aH w w.heap.size 2 R (.slice A xs.length cap) xs)
  (hp:∀(w1:World),Below w.heap.size w w1→∀(x : α) (cs:List Value),x∈xs→R cs x→Calls Tryz.prog fid (#[.agg ⟨cs⟩]++caps) w1 (aM (.bool (p x)) w1)) :
  Calls Tryz.prog 120 #[.slice A xs.length cap,.func (.func fid) #[] caps] w (aM (.int .i64 (jU p xs)) w):=by
 have HS:=hI hs
 have HP:=hI hp
 have hl:xs.length≤cap∧cap≤maxLen:=by obtain⟨A',c',e,e1,e2,-⟩:=hs;injection e with _ _ e3;subst e3;exact⟨e1,e2⟩
 obtain⟨hl1,hl0⟩:=hl
 unfold maxLen at hl0
 clear hs hp
 go_enter Tryz.func120,Tryz.ntmps120
 go_wp2_with fail
 go_loopw [8] (fun k wr=>∃kn:Nat,k=.int .i64 kn∧kn≤xs.length∧Hid (∀i x,i<kn→xs[i]? = some x→p x=false)∧Hid (Below w.heap.size w wr)) (fun k _=>xs.length - (RowKit.intOf k).toNat)
 case atStart=>exact⟨0,rfl,by omega,fun i x hi _=>by omega,Below.refl _ _⟩
 case round=>
  obtain⟨kn,rfl,hk,KP,KW⟩:=hrel
  by_cases hlt:kn<xs.length
  ·obtain⟨b,off,x,cs,rfl,hb,hx0,hcl,hR,hat⟩:=HS.out.at_ hlt
   match cs,hcl with
   | [c0,c1],_=>
    have hi1:(kn:Int)<xs.length:=by omega
    have g0:wr.cell? ⟨b,off+kn*2,none⟩=some c0:=(KW.out.cell hb).trans (hat 0 _ rfl)
    have g1:wr.cell? ⟨b,off+kn*2+1,none⟩=some c1:=(KW.out.cell hb).trans (hat 1 _ rfl)
    have HC:=hI (HP.out wr KW.out x _ (List.mem_of_getElem? hx0) hR)
    have HX:=hI hx0
    clear hx0 hat hR
    cases hpx:p x
    ·have HF:=hI hpx
     rw[hpx] at HC
     clear hpx
     go_wp2_with fail
     refine HC.out.mono ?_
     rintro e w2 ⟨rfl,k2⟩
     have K2:=hI (Below.trans KW.out (k2.mono KW.out.size))
     clear k2 g0 g1
     go_wp2_with fail
     go_roundw
     case rel=>exact⟨kn+1,by go_num,by omega,fun i y hi hy=>by
      rcases Nat.lt_or_ge i kn with h | h
      ·exact KP.out i y h hy
      ·have:i=kn:=by omega
       subst this
       rw[HX.out] at hy
       injection hy with hy
       subst hy
       exact HF.out,K2⟩
     case measure=>simp[RowKit.intOf];omega
    ·have HF:=hI (fU KP.out HX.out hpx)
     rw[hpx] at HC
     clear hpx
     go_wp2_with fail
     refine HC.out.mono ?_
     rintro e w2 ⟨rfl,k2⟩
     have K2:=hI (Below.trans KW.out (k2.mono KW.out.size))
     clear k2 g0 g1
     go_wp2_with fail
     go_ret
     exact⟨by rw[HF.out];rfl,K2.out⟩
  ·have HF:=hI (e8 (p:=p) (xs:=xs) (fun i x hi=>KP.out i x (by have:=(lE hi).1;omega) hi))
   go_wp2_with fail
   go_ret
   exact⟨by rw[HF.out];rfl,KW.out⟩
theorem pP {α : Type} (R:List Value→α→Prop) (p : α→Bool) (A:Option Addr) (cap:Nat) (xs:List α) (fid:FuncId) (hen:∀args W,(callFunc fid args).run Tryz.prog W=.ok (.enter fid args) W) (caps:Array Value) (w:World) (hs:aH w w.heap.size 2 R (.slice A xs.length cap) xs)
  (hp:∀(w1:World),Below w.heap.size w w1→∀(x : α) (cs:List Value),x∈xs→R cs x→Calls Tryz.prog fid (#[.agg ⟨cs⟩]++caps) w1 (aM (.bool (p x)) w1)) :
  Calls Tryz.prog 81 #[.slice A xs.length cap,.func (.func fid) #[] caps] w (aM (.bool (xs.any p)) w):=by
 have HC:=hI (sW R p A cap xs fid hen caps w hs hp)
 have HB:=hI (fV p xs)
 clear hs hp hen
 go_enter Tryz.func81,Tryz.ntmps81
 go_wp2_with fail
 refine HC.out.mono ?_
 rintro e w1 ⟨rfl,k1⟩
 have K1:=hI k1
 clear k1
 go_wp2_with fail
 go_ret
 exact⟨by rw[HB.out];rfl,K1.out⟩
theorem rX {α : Type} (R:List Value→α→Prop) (p : α→Bool) (A:Option Addr) (cap:Nat) (xs:List α) (fid:FuncId) (hen:∀args W,(callFunc fid args).run Tryz.prog W=.ok (.enter fid args) W) (caps:Array Value) (w:World) (hs:aH w w.heap.size 3 R (.slice A xs.length cap) xs)
  (hp:∀(w1:World),Below w.heap.size w w1→∀(x : α) (cs:List Value),x∈xs→R cs x→Calls Tryz.prog fid (#[.agg ⟨cs⟩]++caps) w1 (aM (.bool (p x)) w1)) :
  Calls Tryz.prog 129 #[.slice A xs.length cap,.func (.func fid) #[] caps] w (aM (.int .i64 (jU p xs)) w):=by
 have HS:=hI hs
 have HP:=hI hp
 have hl:xs.length≤cap∧cap≤maxLen:=by obtain⟨A',c',e,e1,e2,-⟩:=hs;injection e with _ _ e3;subst e3;exact⟨e1,e2⟩
 obtain⟨hl1,hl0⟩:=hl
 unfold maxLen at hl0
 clear hs hp
 go_enter Tryz.func129,Tryz.ntmps129
 go_wp2_with fail
 go_loopw [8] (fun k wr=>∃kn:Nat,k=.int .i64 kn∧kn≤xs.length∧Hid (∀i x,i<kn→xs[i]? = some x→p x=false)∧Hid (Below w.heap.size w wr)) (fun k _=>xs.length - (RowKit.intOf k).toNat)
 case atStart=>exact⟨0,rfl,by omega,fun i x hi _=>by omega,Below.refl _ _⟩
 case round=>
  obtain⟨kn,rfl,hk,KP,KW⟩:=hrel
  by_cases hlt:kn<xs.length
  ·obtain⟨b,off,x,cs,rfl,hb,hx0,hcl,hR,hat⟩:=HS.out.at_ hlt
   match cs,hcl with
   | [c0,c1,c2],_=>
    have hi1:(kn:Int)<xs.length:=by omega
    have g0:wr.cell? ⟨b,off+kn*3,none⟩=some c0:=(KW.out.cell hb).trans (hat 0 _ rfl)
    have g1:wr.cell? ⟨b,off+kn*3+1,none⟩=some c1:=(KW.out.cell hb).trans (hat 1 _ rfl)
    have g2:wr.cell? ⟨b,off+kn*3+2,none⟩=some c2:=(KW.out.cell hb).trans (hat 2 _ rfl)
    have HC:=hI (HP.out wr KW.out x _ (List.mem_of_getElem? hx0) hR)
    have HX:=hI hx0
    clear hx0 hat hR
    cases hpx:p x
    ·have HF:=hI hpx
     rw[hpx] at HC
     clear hpx
     go_wp2_with fail
     refine HC.out.mono ?_
     rintro e w2 ⟨rfl,k2⟩
     have K2:=hI (Below.trans KW.out (k2.mono KW.out.size))
     clear k2 g0 g1 g2
     go_wp2_with fail
     go_roundw
     case rel=>exact⟨kn+1,by go_num,by omega,fun i y hi hy=>by
      rcases Nat.lt_or_ge i kn with h | h
      ·exact KP.out i y h hy
      ·have:i=kn:=by omega
       subst this
       rw[HX.out] at hy
       injection hy with hy
       subst hy
       exact HF.out,K2⟩
     case measure=>simp[RowKit.intOf];omega
    ·have HF:=hI (fU KP.out HX.out hpx)
     rw[hpx] at HC
     clear hpx
     go_wp2_with fail
     refine HC.out.mono ?_
     rintro e w2 ⟨rfl,k2⟩
     have K2:=hI (Below.trans KW.out (k2.mono KW.out.size))
     clear k2 g0 g1 g2
     go_wp2_with fail
     go_ret
     exact⟨by rw[HF.out];rfl,K2.out⟩
  ·have HF:=hI (e8 (p:=p) (xs:=xs) (fun i x hi=>KP.out i x (by have:=(lE hi).1;omega) hi))
   go_wp2_with fail
   go_ret
   exact⟨by rw[HF.out];rfl,KW.out⟩
theorem oP {α : Type} (R:List Value→α→Prop) (p : α→Bool) (A:Option Addr) (cap:Nat) (xs:List α) (fid:FuncId) (hen:∀args W,(callFunc fid args).run Tryz.prog W=.ok (.enter fid args) W) (caps:Array Value) (w:World) (hs:aH w w.heap.size 3 R (.slice A xs.length cap) xs)
  (hp:∀(w1:World),Below w.heap.size w w1→∀(x : α) (cs:List Value),x∈xs→R cs x→Calls Tryz.prog fid (#[.agg ⟨cs⟩]++caps) w1 (aM (.bool (p x)) w1)) :
  Calls Tryz.prog 89 #[.slice A xs.length cap,.func (.func fid) #[] caps] w (aM (.bool (xs.any p)) w):=by
 have HC:=hI (rX R p A cap xs fid hen caps w hs hp)
 have HB:=hI (fV p xs)
 clear hs hp hen
 go_enter Tryz.func89,Tryz.ntmps89
 go_wp2_with fail
 refine HC.out.mono ?_
 rintro e w1 ⟨rfl,k1⟩
 have K1:=hI k1
 clear k1
 go_wp2_with fail
 go_ret
 exact⟨by rw[HB.out];rfl,K1.out⟩
end
section
structure FnM where
 regs:Int
 len:Int
def nQ (ins:List bG) (v:Int):Int:=((ins[v.toNat]?).map (·.op)).getD 0
def fF (ins:List bG) (v at_:Int):Bool:=decide (0≤v) && decide (v<at_) && decide (v<ins.length) && iC (nQ ins v)
def gT (ins:List bG) (l:List Int) (at_:Int):Bool:=l.all (fF ins · at_)
def nD (ins:List bG) (m:fZ) (at_:Int):Bool:=
 fF ins m.cell at_ && nQ ins m.cell == 18 && !(decide (m.kind<1) || decide (3<m.kind) || decide (m.num<0) || (decide (0<m.num) && m.kind != 1)) &&
 decide (m.vals.length≤100) && gT ins m.vals at_
def nC (regs:Int) (ins:List bG) (at_:Int):Int→List pS→Bool
 | _,[]=>true
 | last,s::l=>decide (last<s.reg) && decide (s.reg<regs) && fF ins s.val at_ && nC regs ins at_ s.reg l
def iE (ins:List bG) (at_:Int):Int→List fZ→Bool
 | _,[]=>true
 | last,m::l=>decide (last<m.cell) && nD ins m at_ && iE ins at_ m.cell l
def bR (fn:FnM) (ins:List bG) (x:cW) (at_:Int):Bool:=
 !(decide (x.at_<0) || decide (fn.len≤x.at_) || decide (x.steps<0) || decide (200<x.steps)) && nC fn.regs ins at_ (-1) x.sets && iE ins at_ (-1) x.makes
def eW (x:bG) (k:Nat) (v:Int):Bool:=
 if k == 1 && (x.op == 19 || (x.op == 9 && x.n == 1)) then decide (0≤v) else v == -1
def eO (x:bG) (f:Form):Bool:=
 (decide (0<f.asks) || eW x 0 x.a) && (decide (1<f.asks) || eW x 1 x.b) && (decide (2<f.asks) || eW x 2 x.c)
def eY (aG:Val→Bool) (fn:FnM) (t:aN) (x:bG) (at_:Int):Bool:=
 let f:=cF x.op
 gT t.ins (iU x) at_ && eO x f &&
 !(decide (x.n<f.low) || decide (f.high<x.n) || (x.op == 1 && decide (fn.regs≤x.n))) &&
 !((!f.k && x.k != ⟨0,0⟩) || (f.k && !aG x.k) || (x.op == 2 && x.k.kind == 5)) &&
 (if f.exit == 0 || (f.exit == 1 && x.exit == -1) then x.exit == -1
 else decide (0≤x.exit) && decide (x.exit<t.exits.length) && (t.exits[x.exit.toNat]?).any (bR fn t.ins · at_))
def rO (aG:Val→Bool) (fn:FnM) (t:aN):Nat→List bG→Int
 | _,[]=>0
 | i,x::l=>if !lU x.op then 7 else if !eY aG fn t x i then 3 else rO aG fn t (i+1) l
def lT (x:cW):Bool:=x.at_ == 0 && x.steps == 0 && x.sets.isEmpty && x.makes.isEmpty
def fA (aG:Val→Bool) (ce:Int) (fns:List FnM) (t:aN):Int:=
 if ce≠0 then ce else
 if 300<t.ins.length∨200<t.exits.length then 2 else
 match if t.fn<0 then none else fns[t.fn.toNat]? with
 | none=>3
 | some fn=>
  if t.at_<0∨fn.len≤t.at_∨t.loop<0∨(t.ins.length:Int)<t.loop then 3 else
  let e:=rO aG fn t 0 t.ins
  if e≠0 then e else
  if(t.loop=0∧lT t.turn=false)∨(0<t.loop∧(t.turn.at_≠t.at_∨bR fn t.ins t.turn t.loop=false)) then 3 else
  if t.back.at_≠t.at_∨bR fn t.ins t.back t.ins.length=false then 3 else
  if t.exits.all (bR fn t.ins · t.ins.length) then 0 else 3
theorem fQ {aG:Val→Bool} {fn:FnM} {t:aN} : ∀(l:List bG) (i:Nat),rO aG fn t i l=0→∀k x,l[k]? = some x→lU x.op=true∧eY aG fn t x ((i+k:Nat):Int)=true
 | [],_,_,_,_,hx=>by simp at hx
 | y::l,i,h,k,x,hx=>by
  unfold rO at h
  split at h
  ·cases h
  split at h
  ·cases h
  rename_i h1 h2
  cases k with
  | zero=>
   simp only[List.getElem?_cons_zero,Option.some.injEq] at hx
   subst hx
   exact⟨by simpa using h1,by simpa using h2⟩
  | succ k=>
   have:=fQ l (i+1) h k x (by simpa using hx)
   rwa [show i+1+k=i+(k+1) by omega] at this
theorem nX {aG:Val→Bool} {ce:Int} {fns:List FnM} {t:aN} (h:fA aG ce fns t=0) :
  t.ins.length≤300∧∃fn,rO aG fn t 0 t.ins=0:=by
 unfold fA at h
 split at h
 ·omega
 split at h
 ·cases h
 split at h
 ·cases h
 split at h
 ·cases h
 rename_i fn _ _
 simp only at h
 split at h
 ·rename_i h1
  exact(h1 h).elim
 ·rename_i h1
  exact⟨by omega,fn,by simpa using h1⟩
theorem oS {aG:Val→Bool} {ce:Int} {fns:List FnM} {t:aN} (h:fA aG ce fns t=0) {i:Nat} {x:bG} (hx:t.ins[i]? = some x) :
  ∀v∈iU x,0≤v∧v<i∧v<t.ins.length∧iC (nQ t.ins v)=true:=by
 obtain⟨_,fn,h1⟩:=nX h
 obtain⟨_,h2⟩:=fQ t.ins 0 h1 i x hx
 simp only[eY,Bool.and_eq_true,Nat.zero_add] at h2
 intro v hv
 have h3:=h2.1.1.1.1
 unfold gT at h3
 have h4:=List.all_eq_true.1 h3 v hv
 simp only[fF,Bool.and_eq_true,decide_eq_true_eq] at h4
 exact⟨h4.1.1.1,h4.1.1.2,h4.1.2,h4.2⟩
end
section
structure hV where
 U:Int→Val→Val×Int
 B:Int→Val→Val→Val×Int
 T:Val→Bool
structure aI where
 cells:List bC
 vals:List Val
 regs:List Val
 at_:Int
 steps:Int
def jE (t:aN) (i:Int):bG:=(t.ins[i.toNat]?).getD ⟨0,0,0,0,0,0,⟨0,0⟩⟩
def cX (w:aI) (v:Int):Val:=(w.vals[v.toNat]?).getD ⟨0,0⟩
def eF (w:aI) (v:Int):Option (Nat×bC):=
 if(cX w v).kind=5∧0≤(cX w v).n then(w.cells[(cX w v).n.toNat]?).map (fun c=>((cX w v).n.toNat,c)) else none
def fS (w:aI) (i:Nat) (v:Val):aI:={ w with vals:=w.vals.set i v }
def setCW (w:aI) (n:Nat) (c:bC):aI:={ w with cells:=w.cells.set n c }
def dX (w:aI) (i:Nat) (kind:Int):aI×Int:=
 if 300≤w.cells.length then(w,1) else({ w with vals:=w.vals.set i ⟨5,w.cells.length⟩,cells:=w.cells++[⟨kind,0,[],[]⟩] },0)
def isW (b:Bool) (how:Int):Int:=if b then 0 else how
def iY (E:hV) (w:aI) (x:bG):Bool:=
 if x.op=4 then(cX w x.a).kind == x.n
 else if x.op=5 then E.T (cX w x.a) == (x.n == 1)
 else if x.op=6 then decide (cX w x.a=x.k)
 else match eF w x.a with | none=>false | some (_,c)=>c.kind == x.n && (x.n != 1 || c.num == x.b)
def iQ (w:aI) (i:Nat) (exit:Int) (r:Val×Int):aI×Int:=(fS w i r.1,if r.2<0 then 0 else if exit<0 then 2 else 1)
def gW (w:aI) (i:Nat) (x:bG):aI×Int:=
 match eF w x.a with
 | none=>(w,2)
 | some (n,c)=>
  if x.op≠15∧(c.vals.length:Int)≤x.n then(w,2)
  else if x.op=10 then(fS w i (c.vals.getD x.n.toNat ⟨0,0⟩),0)
  else if x.op=11 then(setCW w n { c with vals:=c.vals.set x.n.toNat (cX w x.b) },0)
  else(fS w i ⟨2,c.vals.length⟩,0)
def jT (shapes:List aT) (w:aI) (x:bG):aI×Int:=
 match eF w x.a with
 | none=>(w,2)
 | some (n,c)=>
  if c.kind≠1 then(w,2)
  else match shapes[x.n.toNat]? with
   | none=>(w,1)
   | some s=>if s.up≠c.num∨100≤c.vals.length then(w,1) else(setCW w n { c with num:=x.n,vals:=c.vals++[cX w x.b] },0)
def iT (w:aI) (x:bG):aI×Int:=
 match eF w x.a with
 | none=>(w,2)
 | some (n,c)=>
  if c.kind≠2∧c.kind≠3 then(w,2)
  else if c.vals.length<100 then(setCW w n { c with vals:=c.vals++[cX w x.b] },0)
  else if x.exit<0 then(w,2) else(w,1)
def lP (w:aI) (i:Nat) (x:bG):aI×Int:=
 match eF w x.a with
 | none=>(w,2)
 | some (n,c)=>
  if c.kind≠2 then(w,2)
  else if ¬((cX w x.b).kind=2∧0≤(cX w x.b).n∧(cX w x.b).n<c.vals.length) then(w,1)
  else if x.op=13 then(fS w i (c.vals.getD (cX w x.b).n.toNat ⟨0,0⟩),0)
  else(setCW w n { c with vals:=c.vals.set (cX w x.b).n.toNat (cX w x.c) },0)
def doI (E:hV) (self:Val) (shapes:List aT) (w:aI) (i:Nat) (x:bG):aI×Int:=
 if x.op=1 then(fS w i (w.regs.getD x.n.toNat ⟨0,0⟩),0)
 else if x.op=2 then(fS w i x.k,0)
 else if x.op=3 then(fS w i self,0)
 else if x.op=4∨x.op=5∨x.op=6∨x.op=9 then(w,isW (iY E w x) 1)
 else if x.op=7 then iQ w i x.exit (E.B x.n (cX w x.a) (cX w x.b))
 else if x.op=8 then iQ w i x.exit (E.U x.n (cX w x.a))
 else if x.op=10∨x.op=11∨x.op=15 then gW w i x
 else if x.op=12 then jT shapes w x
 else if x.op=13∨x.op=14 then lP w i x
 else if x.op=16 then dX w i x.n
 else if x.op=17 then iT w x
 else if x.op=19 then(w,isW (match shapes[x.n.toNat]? with | none=>false | some s=>s.up == x.b) 1)
 else dX w i 0
def doW (E:hV) (t:aN) (self:Val) (shapes:List aT) (w:aI) (i:Nat):aI×Int:=doI E self shapes w i (jE t i)
def fP (w:aI) (m:fZ):aI×Int:=
 match eF w m.cell with
 | none=>(w,2)
 | some (n,c)=>if c.kind≠0 then(w,2) else(setCW w n ⟨m.kind,m.num,m.vals.map (cX w),[]⟩,0)
def eK:aI→List fZ→aI×Int
 | w,[]=>(w,0)
 | w,m::l=>if(fP w m).2≠0 then fP w m else eK (fP w m).1 l
def fN (w:aI) (l:List pS):aI:=l.foldl (fun w s=>{ w with regs:=w.regs.set s.reg.toNat (cX w s.val) }) w
def iG (w:aI) (x:cW):aI×Int:=
 if(eK w x.makes).2≠0 then eK w x.makes
 else({ fN (eK w x.makes).1 x.sets with at_:=x.at_,steps:=(fN (eK w x.makes).1 x.sets).steps+x.steps },0)
def dM (E:hV) (t:aN) (self:Val) (shapes:List aT) (fin:cW):Nat→Nat→aI→aI×Int×Int
 | 0,_,w=>((iG w fin).1,-1,(iG w fin).2)
 | k+1,i,w=>
  if(doW E t self shapes w i).2=2 then((doW E t self shapes w i).1,0,2)
  else if(doW E t self shapes w i).2=1 then
   match t.exits[(jE t i).exit.toNat]? with
   | none=>((doW E t self shapes w i).1,(jE t i).exit,2)
   | some x=>((iG (doW E t self shapes w i).1 x).1,(jE t i).exit,(iG (doW E t self shapes w i).1 x).2)
  else dM E t self shapes fin k (i+1) (doW E t self shapes w i).1
def dN (E:hV) (t:aN) (self:Val) (shapes:List aT) (done:Nat) (w:aI):aI×Int×Int:=
 if done=0∧0<t.loop then dM E t self shapes t.turn t.loop.toNat 0 w
 else dM E t self shapes t.back (t.ins.length - t.loop.toNat) t.loop.toNat w
def bQ (E:hV) (t:aN) (self:Val) (shapes:List aT):Nat→Nat→aI→aI×Int×Int×Int
 | 0,done,w=>(w,-1,(done:Int),0)
 | k+1,done,w=>
  let r:=dN E t self shapes done w
  if r.2.2=2∨0≤r.2.1 then(r.1,r.2.1,(done:Int),r.2.2)
  else bQ E t self shapes k (done+1) r.1
def gV (t:aN) (S:aR) (th:Int):Bool:=
 if th<0 then false else match S.threads[th.toNat]? with
 | none=>false
 | some h=>match h.frames.getLast? with | none=>false | some f=>h.state == 0 && f.fn == t.fn && f.at_ == t.at_
def dL:aR:=⟨[],[],[],[],[],[],0,0⟩
def gX (S:aR) (th:Nat) (w:aI):aR:=
 match S.threads[th]? with
 | none=>S
 | some h=>match h.frames.getLast? with
  | none=>S
  | some f=>{ S with cells:=w.cells,steps:=S.steps+w.steps,threads:=S.threads.set th { h with frames:=h.frames.dropLast++[{ f with at_:=w.at_,regs:=w.regs }] } }
def cL (t:aN) (S:aR) (f:a8):aI:=⟨S.cells,List.replicate t.ins.length ⟨0,0⟩,f.regs,f.at_,0⟩
def mY (E:hV) (irc stc:Int) (t:aN) (S:aR) (th turns:Int):aR×Int×Int×Int:=
 if irc≠0 then(dL,0,0,irc)
 else if stc≠0 then(dL,0,0,stc)
 else match if th<0 then none else S.threads[th.toNat]? with
  | none=>(dL,0,0,5)
  | some h=>
   if gV t S th=false then(dL,0,0,8)
   else if turns<0∨1000<turns then(dL,0,0,1)
   else match h.frames.getLast? with
    | none=>(dL,0,0,8)
    | some f=>
     let r:=bQ E t f.self S.shapes turns.toNat 0 (cL t S f)
     if r.2.2.2=2 then(dL,0,0,8)
     else if 1000000000<S.steps+r.1.steps then(dL,0,0,2)
     else(gX S th.toNat r.1,r.2.1,r.2.2.1,0)
end
section
open Go.RowKit
theorem mT (n lo hi:Int) (w:World):Calls Tryz.prog 91 #[.int .i64 n,.int .i64 lo,.int .i64 hi] w fun e w'=>e=.returned (.bool (aK n lo hi))∧w=w':=by
 unfold aK
 obtain⟨r,hr⟩:∃r:Bool,(decide (lo≤n) && decide (n≤hi))=r:=⟨_,rfl⟩
 rw[hr]
 by_cases h:lo≤n
 ·have hr':decide (n≤hi)=r:=by rw[←hr];simp[h]
  have HR:=hI hr'
  clear hr hr'
  go_enter Tryz.func91,Tryz.ntmps91
  go_wp2
  go_ret
  exact⟨by rw[←HR.out];rfl,rfl⟩
 ·have hr':false=r:=by rw[←hr];simp[h]
  subst hr'
  have h':decide (lo≤n)=false:=by simpa using h
  clear hr
  go_enter Tryz.func91,Tryz.ntmps91
  go_wp2
  go_ret
  exact⟨rfl,rfl⟩
theorem iD (n lo hi:Int) (w:World):Calls Tryz.prog 95 #[.int .i64 n,.int .i64 lo,.int .i64 hi] w fun e w'=>e=.returned (.bool (aK n lo hi))∧w=w':=by
 unfold aK
 obtain⟨r,hr⟩:∃r:Bool,(decide (lo≤n) && decide (n≤hi))=r:=⟨_,rfl⟩
 rw[hr]
 by_cases h:lo≤n
 ·have hr':decide (n≤hi)=r:=by rw[←hr];simp[h]
  have HR:=hI hr'
  clear hr hr'
  go_enter Tryz.func95,Tryz.ntmps95
  go_wp2
  go_ret
  exact⟨by rw[←HR.out];rfl,rfl⟩
 ·have hr':false=r:=by rw[←hr];simp[h]
  subst hr'
  have h':decide (lo≤n)=false:=by simpa using h
  clear hr
  go_enter Tryz.func95,Tryz.ntmps95
  go_wp2
  go_ret
  exact⟨rfl,rfl⟩
theorem uV (b:Bool) (how:Int) (w:World):Calls Tryz.prog 142 #[.bool b,.int .i64 how] w fun e w'=>e=.returned (.int .i64 (isW b how))∧w=w':=by
 cases b
 ·go_enter Tryz.func142,Tryz.ntmps142
  go_wp2
  go_ret
  exact⟨rfl,rfl⟩
 ·go_enter Tryz.func142,Tryz.ntmps142
  go_wp2
  go_ret
  exact⟨rfl,rfl⟩
end
end Go.Proofs.YtjaphgpkkfdaaaaGreatDoor
