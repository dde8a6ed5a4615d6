/- Part of the walk of the given code: contracts of the functions that irun.Run reaches, and plain laws on what it reckons. -/
import Derived.Test.YtjaphgpkkfdaaaaGreatDoorZS
import Derived.Test.YtjaphgpkkfdaaaaGreatDoorZG
set_option maxHeartbeats 16000000
set_option maxRecDepth 100000
set_option linter.all false
namespace Go.Proofs.YtjaphgpkkfdaaaaGreatDoor
section
open Go.RowKit
theorem cT.cells4 {w:World} {B:Nat} {cs:List Value} {z:aN} (h:cT w B cs z):∃B1 m1 B2 m2 B3 m3 B4 m4 B5 m5 B6 m6,cs=[.int .i64 z.fn,.int .i64 z.at_,.int .i64 z.loop,.slice B1 z.ins.length m1,.slice B2 z.exits.length m2,.int .i64 z.turn.at_,.int .i64 z.turn.steps,.slice B3 z.turn.sets.length m3,.slice B4 z.turn.makes.length m4,.int .i64 z.back.at_,.int .i64 z.back.steps,.slice B5 z.back.sets.length m5,.slice B6 z.back.makes.length m6]∧aH w B 8 wR (.slice B1 z.ins.length m1) z.ins:=by
 obtain⟨i,e,ct,cb,rfl,hi,⟨A2,n2,rfl,-⟩,⟨s1,m1,rfl,⟨A3,n3,rfl,-⟩,⟨A4,n4,rfl,-⟩,-⟩,⟨s2,m2,rfl,⟨A5,n5,rfl,-⟩,⟨A6,n6,rfl,-⟩,-⟩,-⟩:=h
 obtain⟨A1,n1,rfl,-⟩:=id hi
 exact⟨A1,n1,A2,n2,A3,n3,A4,n4,A5,n5,A6,n6,rfl,hi⟩
theorem ab5 (tcs cs:List Value) (t:aN) (S:aR) (th:Int) (w:World) (ht:cT w w.heap.size tcs t) (h:gK w w.heap.size cs S) (hth:wfi th) (h5:S.threads.length≤5) :
  Calls Tryz.prog 28 #[.agg ⟨tcs⟩,.agg ⟨cs⟩,.int .i64 th] w (aM (.bool (gV t S th)) w):=by
 obtain⟨B1,m1,B2,m2,B3,m3,B4,m4,B5,m5,B6,m6,rfl,lz⟩:=ht.cells4
 obtain⟨c,s,x,tv,en,sa,rfl,hc,hsh,htx,hth',hen,hsa,wa,ws⟩:=h
 have HT:=hI hth'
 obtain⟨CA,cc,rfl,-⟩:=id hc
 obtain⟨SA,sc,rfl,-⟩:=id hsh
 obtain⟨XA,xc,rfl,-⟩:=id htx
 obtain⟨TA,tc,rfl,-⟩:=id hth'
 obtain⟨EA,ec,rfl,-⟩:=id hen
 obtain⟨AA,ac,rfl,-⟩:=id hsa
 obtain⟨r,hr⟩:∃r,gV t S th=r:=⟨_,rfl⟩
 rw[hr]
 have HR:=hI hr
 clear hc hsh htx hth' hen hsa lz ht hr
 obtain⟨w1,hw1⟩:∃w1,w1=(w.alloc (.cells #[.int .i64 t.fn,.int .i64 t.at_,.int .i64 t.loop,.slice B1 t.ins.length m1,.slice B2 t.exits.length m2,.int .i64 t.turn.at_,.int .i64 t.turn.steps,.slice B3 t.turn.sets.length m3,.slice B4 t.turn.makes.length m4,.int .i64 t.back.at_,.int .i64 t.back.steps,.slice B5 t.back.sets.length m5,.slice B6 t.back.makes.length m6] 34)).alloc (.cells #[.slice CA S.cells.length cc,.slice SA S.shapes.length sc,.slice XA S.texts.length xc,.slice TA S.threads.length tc,.slice EA S.ends.length ec,.slice AA S.said.length ac,.int .i64 S.asked,.int .i64 S.steps] 40):=⟨_,rfl⟩
 have K1:Hid (Below w.heap.size w w1):=by rw[hw1];exact bE w _ _
 have HT1:Hid (aA w1 w.heap.size [.int .i64 t.fn,.int .i64 t.at_,.int .i64 t.loop,.slice B1 t.ins.length m1,.slice B2 t.exits.length m2,.int .i64 t.turn.at_,.int .i64 t.turn.steps,.slice B3 t.turn.sets.length m3,.slice B4 t.turn.makes.length m4,.int .i64 t.back.at_,.int .i64 t.back.steps,.slice B5 t.back.sets.length m5,.slice B6 t.back.makes.length m6]):=by rw[hw1];exact fun i v hv=>by rw[kK];simpa using hv
 have HS1:Hid (aA w1 (w.heap.size+1) [.slice CA S.cells.length cc,.slice SA S.shapes.length sc,.slice XA S.texts.length xc,.slice TA S.threads.length tc,.slice EA S.ends.length ec,.slice AA S.said.length ac,.int .i64 S.asked,.int .i64 S.steps]):=by rw[hw1];exact fun i v hv=>by rw[mM];simpa using hv
 have HW1:=hI hw1
 have s3:=HS1.out 3 _ rfl
 clear hw1
 go_enter Tryz.func28,Tryz.ntmps28
 go_upto_region 1 with fail
 rw[←HW1.out]
 by_cases h0:th<0
 ·have HN:Hid (false=r):=by show _=_;rw[←HR.out];unfold gV;rw[if_pos h0]
  go_wp2_with fail
  go_ret
  exact⟨by rw[←HN.out];rfl,K1.out⟩
 ·obtain⟨k,rfl⟩:∃k:Nat,th=(k:Int):=⟨th.toNat,by omega⟩
  by_cases hk:k<S.threads.length
  ·obtain⟨hm,hhm⟩:∃hm,S.threads[k]? = some hm:=⟨_,lG hk⟩
   obtain⟨tb,to_,h',hcs,hTA,htb,hh',-,⟨fv,rfl,hfr,-⟩,hat⟩:=HT.out.at_ (i:=k) hk
   rw[hhm] at hh';injection hh' with hh';subst hh'
   subst hTA
   obtain⟨FA,fc,rfl,-⟩:=id hfr
   have HF:=hI hfr
   have HH:=hI hhm
   have hki:(k:Int)<S.threads.length:=by omega
   have g0:w1.cell? ⟨tb,to_+k*5,none⟩=some (.slice FA hm.frames.length fc):=(K1.out.cell htb).trans (hat 0 _ rfl)
   have g1:w1.cell? ⟨tb,to_+k*5+1,none⟩=some (.int .i64 hm.state):=(K1.out.cell htb).trans (hat 1 _ rfl)
   have g2:w1.cell? ⟨tb,to_+k*5+2,none⟩=some (.int .i64 hm.on_):=(K1.out.cell htb).trans (hat 2 _ rfl)
   have g3:w1.cell? ⟨tb,to_+k*5+3,none⟩=some (.int .i64 hm.val.kind):=(K1.out.cell htb).trans (hat 3 _ rfl)
   have g4:w1.cell? ⟨tb,to_+k*5+4,none⟩=some (.int .i64 hm.val.n):=(K1.out.cell htb).trans (hat 4 _ rfl)
   obtain⟨w3,hw3⟩:∃w3,w3=w1.alloc (.cells #[.slice FA hm.frames.length fc,.int .i64 hm.state,.int .i64 hm.on_,.int .i64 hm.val.kind,.int .i64 hm.val.n] 57):=⟨_,rfl⟩
   have K31:Hid (Below w1.heap.size w1 w3):=by rw[hw3];exact aB _ _
   have HB3:Hid (aA w3 w1.heap.size [.slice FA hm.frames.length fc,.int .i64 hm.state,.int .i64 hm.on_,.int .i64 hm.val.kind,.int .i64 hm.val.n]):=by rw[hw3];exact ad5 _ _ _
   have K3:=btZ K1 K31.out
   have HW3:=hI hw3
   have HST:Hid ((match hm.frames.getLast? with | none=>false | some f=>hm.state == 0 && f.fn == t.fn && f.at_ == t.at_)=r):=by
    show _=_
    rw[←HR.out];unfold gV;rw[if_neg h0,Int.toNat_natCast,hhm];rfl
   clear hfr hat hw3 hhm
   go_upto_region 5 with fail
   rw[←HW3.out]
   clear g0 g1 g2 g3 g4 s3
   by_cases hs:hm.state=0
   ·have HS0:=hI hs
    clear hs
    cases hl:hm.frames.length with
    | zero=>
     have HN:Hid (false=r):=by show _=_;rw[←HST.out,List.length_eq_zero_iff.1 hl];rfl
     have HL:=hI hl
     clear hl
     have a0:∀E:Up w3,E.to.cell? ⟨w1.heap.size,1,none⟩=some (.int .i64 0):=fun E=>E.cell (by rw[←HS0.out];exact HB3.out 1 _ rfl)
     have a1:∀E:Up w3,E.to.cell? ⟨w1.heap.size,0,none⟩=some (.slice FA 0 fc):=fun E=>E.cell (by have h:=HB3.out 0 _ rfl;rw[HL.out] at h;exact h)
     have a2:∀E:Up w3,E.to.cell? ⟨w.heap.size,0,none⟩=some (.int .i64 t.fn):=fun E=>E.cell (aC K31.out (HT1.out 0 _ rfl))
     have a3:∀E:Up w3,E.to.cell? ⟨w.heap.size,1,none⟩=some (.int .i64 t.at_):=fun E=>E.cell (aC K31.out (HT1.out 1 _ rfl))
     refine aD (by kernel_rfl) (by kernel_rfl) ?_
     repeat (go_big_quiet_step (fail))
     refine wpQuiet_nil ?_
     rintro _ ⟨E,rfl⟩
     have KE:=btZ K3 E.below
     clear a0 a1 a2 a3
     go_wp2_with fail
     go_ret
     exact⟨by rw[←HN.out];rfl,KE.out⟩
    | succ j=>
     obtain⟨fb,fo,f,fcs,hFA,hfb,hff,-,⟨rg,tr,rfl,-⟩,hfat⟩:=HF.out.at_ (i:=j) (by omega)
     subst hFA
     have hjb:j+1≤9223372036854775807:=by
      obtain⟨_,cap,-,hle,hmx,-⟩:=HF.out
      unfold maxLen at hmx
      omega
     have hwr:wrap64 (j:Int)=(j:Int):=by unfold wrap64;omega
     have hjj:(j:Int)<(j:Int)+1:=by omega
     have hlast:hm.frames.getLast? = some f:=by rw[List.getLast?_eq_getElem?,hl];exact hff
     have HS1:Hid ((hm.state == 0 && f.fn == t.fn && f.at_ == t.at_)=r):=by show _=_;rw[←HST.out,hlast]
     have c0:w3.cell? ⟨fb,fo+j*8,none⟩=some (.int .i64 f.fn):=(K3.out.cell hfb).trans (hfat 0 _ rfl)
     have c1:w3.cell? ⟨fb,fo+j*8+1,none⟩=some (.int .i64 f.at_):=(K3.out.cell hfb).trans (hfat 1 _ rfl)
     have HL:=hI hl
     clear hlast hfat hff hl
     by_cases hfn:f.fn=t.fn
     ·rw[hfn] at c0
      have HFN:=hI hfn
      clear hfn
      have HN:Hid ((f.at_ == t.at_)=r):=by show _=_;rw[←HS1.out,HS0.out,HFN.out];simp
      have a0:∀E:Up w3,E.to.cell? ⟨w1.heap.size,1,none⟩=some (.int .i64 0):=fun E=>E.cell (by rw[←HS0.out];exact HB3.out 1 _ rfl)
      have a1:∀E:Up w3,E.to.cell? ⟨w1.heap.size,0,none⟩=some (.slice (some ⟨fb,fo,none⟩) (j+1) fc):=fun E=>E.cell (by have h:=HB3.out 0 _ rfl;rw[HL.out] at h;exact h)
      have a2:∀E:Up w3,E.to.cell? ⟨w.heap.size,0,none⟩=some (.int .i64 t.fn):=fun E=>E.cell (aC K31.out (HT1.out 0 _ rfl))
      have a3:∀E:Up w3,E.to.cell? ⟨w.heap.size,1,none⟩=some (.int .i64 t.at_):=fun E=>E.cell (aC K31.out (HT1.out 1 _ rfl))
      have a4:=ecZ c0
      have a5:=ecZ c1
      refine aD (by kernel_rfl) (by kernel_rfl) ?_
      repeat (go_big_quiet_step (fail))
      refine wpQuiet_nil ?_
      rintro _ ⟨E,rfl⟩
      have KE:=btZ K3 E.below
      clear a0 a1 a2 a3 a4 a5
      go_wp2_with fail
      go_ret
      exact⟨by rw[←HN.out];rfl,KE.out⟩
     ·have HN:Hid (false=r):=by show _=_;rw[←HS1.out,show(f.fn == t.fn)=false by simpa using hfn];simp
      have hfb':(f.fn == t.fn)=false:=by simpa using hfn
      have a0:∀E:Up w3,E.to.cell? ⟨w1.heap.size,1,none⟩=some (.int .i64 0):=fun E=>E.cell (by rw[←HS0.out];exact HB3.out 1 _ rfl)
      have a1:∀E:Up w3,E.to.cell? ⟨w1.heap.size,0,none⟩=some (.slice (some ⟨fb,fo,none⟩) (j+1) fc):=fun E=>E.cell (by have h:=HB3.out 0 _ rfl;rw[HL.out] at h;exact h)
      have a2:∀E:Up w3,E.to.cell? ⟨w.heap.size,0,none⟩=some (.int .i64 t.fn):=fun E=>E.cell (aC K31.out (HT1.out 0 _ rfl))
      have a3:∀E:Up w3,E.to.cell? ⟨w.heap.size,1,none⟩=some (.int .i64 t.at_):=fun E=>E.cell (aC K31.out (HT1.out 1 _ rfl))
      have a4:=ecZ c0
      have a5:=ecZ c1
      refine aD (by kernel_rfl) (by kernel_rfl) ?_
      repeat (go_big_quiet_step (fail))
      refine wpQuiet_nil ?_
      rintro _ ⟨E,rfl⟩
      have KE:=btZ K3 E.below
      clear a0 a1 a2 a3 a4 a5
      go_wp2_with fail
      go_ret
      exact⟨by rw[←HN.out];rfl,KE.out⟩
   ·have HN:Hid (false=r):=by
     show _=_
     rw[←HST.out,show(hm.state == 0)=false by simpa using hs]
     cases hm.frames.getLast? <;> simp
    have hsb:(hm.state == 0)=false:=by simpa using hs
    have a0:=ecZ (HB3.out 1 _ rfl)
    have a1:=ecZ (HB3.out 0 _ rfl)
    have a2:∀E:Up w3,E.to.cell? ⟨w.heap.size,0,none⟩=some (.int .i64 t.fn):=fun E=>E.cell (aC K31.out (HT1.out 0 _ rfl))
    have a3:∀E:Up w3,E.to.cell? ⟨w.heap.size,1,none⟩=some (.int .i64 t.at_):=fun E=>E.cell (aC K31.out (HT1.out 1 _ rfl))
    refine aD (by kernel_rfl) (by kernel_rfl) ?_
    repeat (go_big_quiet_step (fail))
    refine wpQuiet_nil ?_
    rintro _ ⟨E,rfl⟩
    have KE:=btZ K3 E.below
    clear a0 a1 a2 a3
    go_wp2_with fail
    go_ret
    exact⟨by rw[←HN.out];rfl,KE.out⟩
  ·have HN:Hid (false=r):=by show _=_;rw[←HR.out];unfold gV;rw[if_neg h0,Int.toNat_natCast,List.getElem?_eq_none (Nat.le_of_not_lt hk)]
   have hki:¬(k:Int)<S.threads.length:=by omega
   go_wp2_with fail
   go_ret
   exact⟨by rw[←HN.out];rfl,K1.out⟩
end
end Go.Proofs.YtjaphgpkkfdaaaaGreatDoor
