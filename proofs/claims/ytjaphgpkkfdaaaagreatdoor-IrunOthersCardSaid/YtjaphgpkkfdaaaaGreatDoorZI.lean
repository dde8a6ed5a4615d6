/- Part of the walk of the given code: contracts of the functions that irun.Run reaches, and plain laws on what it reckons. -/
import Derived.Test.YtjaphgpkkfdaaaaGreatDoorZD
import Derived.Test.YtjaphgpkkfdaaaaGreatDoorZH
import Derived.Test.YtjaphgpkkfdaaaaGreatDoorZG
import Derived.Test.YtjaphgpkkfdaaaaGreatDoorZC
import Derived.Deep.MidRow
set_option maxHeartbeats 16000000
set_option maxRecDepth 100000
set_option linter.all false
namespace Go.Proofs.YtjaphgpkkfdaaaaGreatDoor
section
open Go.RowKit
theorem aaM (cs:List Value) (x:bW) (B:Nat) (w0 w:World) (h:g9 w0 B cs x):Calls Tryz.prog 49 #[.agg ⟨cs⟩] w (aM (.bool (decide (30<x.frames.length))) w):=by
 obtain⟨f,rfl,hf,-⟩:=h
 obtain⟨A,n,rfl,-⟩:=id hf
 obtain⟨r,hr⟩:∃r,decide (30<x.frames.length)=r:=⟨_,rfl⟩
 rw[hr]
 have HR:Hid (decide ((30:Int)<x.frames.length)=r):=by rw[←hr];show decide _=decide _;congr 1;rw[eq_iff_iff];omega
 clear hr hf
 go_enter Tryz.func49,Tryz.ntmps49
 go_wp2
 go_ret
 exact⟨by rw[←HR.out];rfl,aB _ _⟩
theorem yM:∀args W,(callFunc 116 args).run Tryz.prog W=.ok (.enter 116 args) W:=enters_of Tryz.func116 (by kernel_rfl) rfl
theorem yL:∀args W,(callFunc 117 args).run Tryz.prog W=.ok (.enter 117 args) W:=enters_of Tryz.func117 (by kernel_rfl) rfl
theorem aaJ:∀args W,(callFunc 49 args).run Tryz.prog W=.ok (.enter 49 args) W:=enters_of Tryz.func49 (by kernel_rfl) rfl
theorem abO (s:ByteArray) (hs:s.size≤9223372036854775807) (w:World):Calls Tryz.prog 116 #[.string s] w (aM (.bool (decide (200<s.size))) w):=by
 obtain⟨r,hr⟩:∃r,decide (200<s.size)=r:=⟨_,rfl⟩
 rw[hr]
 have HR:Hid (decide ((200:Int)<s.size)=r):=by rw[←hr];show decide _=decide _;congr 1;rw[eq_iff_iff];omega
 clear hr
 go_enter Tryz.func116,Tryz.ntmps116
 go_wp2
 go_ret
 exact⟨by rw[←HR.out];rfl,Below.refl _ _⟩
theorem abN (cs:List Value) (c:bC) (B:Nat) (w0 w:World) (h:jY w0 B cs c):Calls Tryz.prog 117 #[.agg ⟨cs⟩] w (aM (.bool (decide (100<c.vals.length) && (c.kind != 7 || decide (600<c.vals.length)))) w):=by
 obtain⟨v,f,rfl,hv,-⟩:=h
 obtain⟨A,n,rfl,-⟩:=id hv
 clear hv
 by_cases h1:(100:Int)<c.vals.length
 ·rw[decide_eq_true (show 100<c.vals.length by omega),Bool.true_and]
  by_cases h2:c.kind=7
  ·obtain⟨r,hr⟩:∃r,(c.kind != 7 || decide (600<c.vals.length))=r:=⟨_,rfl⟩
   rw[hr]
   have HR:Hid (decide ((600:Int)<c.vals.length)=r):=by rw[←hr,h2,bne_self_eq_false,Bool.false_or];show decide _=decide _;congr 1;rw[eq_iff_iff];omega
   clear hr
   go_enter Tryz.func117,Tryz.ntmps117
   go_wp2
   go_ret
   exact⟨by rw[←HR.out];rfl,aB _ _⟩
  ·rw[show(c.kind != 7)=true from bne_iff_ne.2 h2,Bool.true_or]
   go_enter Tryz.func117,Tryz.ntmps117
   go_wp2
   go_ret
   exact⟨rfl,aB _ _⟩
 ·rw[decide_eq_false (show ¬ 100<c.vals.length by omega),Bool.false_and]
  go_enter Tryz.func117,Tryz.ntmps117
  go_wp2
  go_ret
  exact⟨rfl,aB _ _⟩
end
section
open Go.RowKit
def iJ (w:World) (sb:Nat) (S:aR):Prop:=∃cs,aA w sb cs∧sb<w.heap.size∧gK w w.heap.size cs S
theorem iJ.below {w w':World} {sb:Nat} {S:aR} (h:iJ w sb S) (k:Below w.heap.size w w'):iJ w' sb S:=by
 obtain⟨cs,h1,h2,h3⟩:=h
 exact⟨cs,fun i v hv=>(k.cell h2).trans (h1 i v hv),Nat.lt_of_lt_of_le h2 k.size,h3.below k⟩
theorem iJ.parts {w:World} {sb:Nat} {S:aR} (h:iJ w sb S):∃A0 n0 A1 n1 A2 n2 A3 n3 A4 n4 A5 n5,
  aA w sb [.slice A0 S.cells.length n0,.slice A1 S.shapes.length n1,.slice A2 S.texts.length n2,.slice A3 S.threads.length n3,.slice A4 S.ends.length n4,.slice A5 S.said.length n5,.int .i64 S.asked,.int .i64 S.steps]∧sb<w.heap.size∧
  aH w w.heap.size 4 (jY w w.heap.size) (.slice A0 S.cells.length n0) S.cells∧aH w w.heap.size 2 jX (.slice A1 S.shapes.length n1) S.shapes∧aH w w.heap.size 1 lV (.slice A2 S.texts.length n2) S.texts∧
  aH w w.heap.size 5 (g9 w w.heap.size) (.slice A3 S.threads.length n3) S.threads∧aH w w.heap.size 3 abX (.slice A4 S.ends.length n4) S.ends∧aH w w.heap.size 2 hU (.slice A5 S.said.length n5) S.said:=by
 obtain⟨cs,h1,h2,c,s,t,g,e,a,rfl,i1,i2,i3,i4,i5,i6,-⟩:=h
 obtain⟨A0,n0,rfl,-⟩:=id i1
 obtain⟨A1,n1,rfl,-⟩:=id i2
 obtain⟨A2,n2,rfl,-⟩:=id i3
 obtain⟨A3,n3,rfl,-⟩:=id i4
 obtain⟨A4,n4,rfl,-⟩:=id i5
 obtain⟨A5,n5,rfl,-⟩:=id i6
 exact⟨A0,n0,A1,n1,A2,n2,A3,n3,A4,n4,A5,n5,h1,h2,i1,i2,i3,i4,i5,i6⟩
theorem iJ.kind {w:World} {B:Nat} {A0:Option Addr} {n0:Nat} {l:List bC} (h:aH w B 4 (jY w B) (.slice A0 l.length n0) l) {m:Nat} (hm:m<l.length) :
  ∃b off,A0=some ⟨b,off,none⟩∧b<B∧w.cell? ⟨b,off+m*4,none⟩=some (.int .i64 (((l[m]?).map (·.kind)).getD 0)):=by
 obtain⟨b,off,x,cs,rfl,hb,hx,-,⟨v,f,rfl,-⟩,hat⟩:=h.at_ hm
 refine⟨b,off,rfl,hb,?_⟩
 rw[hx]
 have:=hat 0 _ rfl
 simpa using this
theorem r8 (v:Val) (S:aR) (sb:Nat) (w:World) (h:iJ w sb S):Calls Tryz.prog 88 #[.pointer (some ⟨sb,0,none⟩),.agg #[.int .i64 v.kind,.int .i64 v.n]] w (aM (.bool (dJ aG S v)) w):=by
 obtain⟨k,n⟩:=v
 obtain⟨r,hr⟩:∃r,dJ aG S ⟨k,n⟩=r:=⟨_,rfl⟩
 rw[hr]
 unfold dJ at hr
 dsimp only at hr
 obtain⟨q,hq⟩:∃q,aG ⟨k,n⟩=q:=⟨_,rfl⟩
 rw[hq] at hr
 obtain⟨A0,n0,A1,n1,A2,n2,A3,n3,A4,n4,A5,n5,hh,hb,s0,s1,s2,-⟩:=h.parts
 have lc:=aP s0
 have lt:=aP s2
 have HH:=hI hh
 have S0:=hI s0
 obtain⟨w0,hw0⟩:∃w0,w0=w.alloc (.cells #[.int .i64 k,.int .i64 n] 48):=⟨_,rfl⟩
 have C:Hid (Calls Tryz.prog 104 #[.agg #[.int .i64 k,.int .i64 n]] w0 (aM (.bool q) w0)):=by rw[←hq];exact qO ⟨k,n⟩ w0
 have k0:Hid (Below w.heap.size w w0):=by rw[hw0];exact aB w _
 have f0:w0.cell? ⟨w.heap.size,0,none⟩=some (.int .i64 k):=by rw[hw0];exact bL _ _ _ _
 have f1:w0.cell? ⟨w.heap.size,1,none⟩=some (.int .i64 n):=by rw[hw0];exact bL _ _ _ _
 have F0:=hI f0
 have F1:=hI f1
 have HW:=hI hw0
 have HQ:=hI hq
 clear hw0 hq hh s0 s1 s2 h f0 f1
 cases q
 ·have HR:Hid (false=r):=by rw[←hr];rfl
  clear hr
  go_enter Tryz.func88,Tryz.ntmps88
  go_wp2_with fail
  rw[←HW.out]
  refine C.out.mono ?_
  rintro e w1 ⟨rfl,k1⟩
  have K:=btZ k0 k1
  clear k1
  go_wp2_with fail
  go_ret
  exact⟨by rw[←HR.out];rfl,K.out⟩
 rw[Bool.true_and] at hr
 by_cases h4:k=4
 ·rw[if_pos h4] at hr
  have HR:Hid (decide (n<S.texts.length)=r):=hr
  subst h4
  clear hr
  go_enter Tryz.func88,Tryz.ntmps88
  go_wp2_with fail
  rw[←HW.out]
  refine C.out.mono ?_
  rintro e w1 ⟨rfl,k1⟩
  have K:=btZ k0 k1
  have g0:=aC k1 F0.out
  have g1:=aC k1 F1.out
  have d1:∀E:Up w1,E.to.cell? ⟨w.heap.size,1,none⟩=some (.int .i64 n):=fun E=>E.cell (aC k1 F1.out)
  have d2:∀E:Up w1,E.to.cell? ⟨sb,2,none⟩=some (.slice A2 S.texts.length n2):=fun E=>E.cell ((K.out.cell hb).trans (HH.out 2 _ rfl))
  clear k1
  go_wp2_with fail
  refine aD (by kernel_rfl) (by kernel_rfl) ?_
  repeat (go_big_quiet_step (fail))
  refine wpQuiet_nil ?_
  rintro _ ⟨E,rfl⟩
  have KE:=btZ K E.below
  clear d1 d2 g0 g1
  go_wp2_with fail
  go_ret
  exact⟨by rw[←HR.out];rfl,KE.out⟩
 rw[if_neg h4] at hr
 by_cases h5:k=5
 ·rw[if_pos h5] at hr
  subst h5
  have hn0:0≤n:=by
   have:=HQ.out
   unfold aG at this
   simpa using this
  obtain⟨m,rfl⟩:=Int.eq_ofNat_of_zero_le hn0
  by_cases hm:m<S.cells.length
  ·have him:(m:Int)<S.cells.length:=by omega
   obtain⟨b,off,rfl,hbb,hc⟩:=iJ.kind S0.out hm
   have HR:Hid ((lD S m != 0)=r):=by rw[←hr];unfold Hid;rw[decide_eq_true him,Bool.true_and]
   have e1:(((S.cells[m]?).map (·.kind)).getD 0)=lD S m:=by unfold lD;rw[Int.toNat_natCast]
   rw[e1] at hc
   have HC:=hI hc
   have hd:decide ((m:Int)<S.cells.length)=true:=decide_eq_true him
   clear hr h4 e1 hc
   go_enter Tryz.func88,Tryz.ntmps88
   go_wp2_with fail
   rw[←HW.out]
   refine C.out.mono ?_
   rintro e w1 ⟨rfl,k1⟩
   have K:=btZ k0 k1
   have g0:=aC k1 F0.out
   have d1:∀E:Up w1,E.to.cell? ⟨w.heap.size,1,none⟩=some (.int .i64 m):=fun E=>E.cell (aC k1 F1.out)
   have d2:∀E:Up w1,E.to.cell? ⟨sb,0,none⟩=some (.slice (some ⟨b,off,none⟩) S.cells.length n0):=fun E=>E.cell ((K.out.cell hb).trans (HH.out 0 _ rfl))
   have d3:∀E:Up w1,E.to.cell? ⟨b,off+m*4,none⟩=some (.int .i64 (lD S m)):=fun E=>E.cell ((K.out.cell hbb).trans HC.out)
   clear k1
   go_wp2_with fail
   refine aD (by kernel_rfl) (by kernel_rfl) ?_
   repeat (go_big_quiet_step (fail))
   refine wpQuiet_nil ?_
   rintro _ ⟨E,rfl⟩
   have KE:=btZ K E.below
   clear d1 d2 d3 g0
   go_wp2_with fail
   go_ret
   exact⟨by rw[←HR.out];rfl,KE.out⟩
  ·have him:¬(m:Int)<S.cells.length:=by omega
   have HR:Hid (false=r):=by rw[←hr];unfold Hid;rw[decide_eq_false him,Bool.false_and]
   have hd:decide ((m:Int)<S.cells.length)=false:=decide_eq_false him
   clear hr h4
   go_enter Tryz.func88,Tryz.ntmps88
   go_wp2_with fail
   rw[←HW.out]
   refine C.out.mono ?_
   rintro e w1 ⟨rfl,k1⟩
   have K:=btZ k0 k1
   have g0:=aC k1 F0.out
   have d1:∀E:Up w1,E.to.cell? ⟨w.heap.size,1,none⟩=some (.int .i64 m):=fun E=>E.cell (aC k1 F1.out)
   have d2:∀E:Up w1,E.to.cell? ⟨sb,0,none⟩=some (.slice A0 S.cells.length n0):=fun E=>E.cell ((K.out.cell hb).trans (HH.out 0 _ rfl))
   clear k1
   go_wp2_with fail
   refine aD (by kernel_rfl) (by kernel_rfl) ?_
   repeat (go_big_quiet_step (fail))
   refine wpQuiet_nil ?_
   rintro _ ⟨E,rfl⟩
   have KE:=btZ K E.below
   clear d1 d2 g0
   go_wp2_with fail
   go_ret
   exact⟨by rw[←HR.out];rfl,KE.out⟩
 rw[if_neg h5] at hr
 have HR:Hid (true=r):=hr
 have n4:(k == 4)=false:=by simpa using h4
 have n5:(k == 5)=false:=by simpa using h5
 clear hr h4 h5
 go_enter Tryz.func88,Tryz.ntmps88
 go_wp2_with fail
 rw[←HW.out]
 refine C.out.mono ?_
 rintro e w1 ⟨rfl,k1⟩
 have K:=btZ k0 k1
 have g0:=aC k1 F0.out
 clear k1
 go_wp2_with fail
 go_ret
 exact⟨by rw[←HR.out];rfl,K.out⟩
end
section
open Go.RowKit
theorem zM (v:Val) (S:aR) (sb:Nat) (w:World) (h:iJ w sb S):Calls Tryz.prog 133 #[.pointer (some ⟨sb,0,none⟩),.agg #[.int .i64 v.kind,.int .i64 v.n]] w (aM (.bool (dJ aG S v)) w):=by
 obtain⟨w0,hw0⟩:∃w0,w0=w.alloc (.cells #[.int .i64 v.kind,.int .i64 v.n] 48):=⟨_,rfl⟩
 have k0:Hid (Below w.heap.size w w0):=by rw[hw0];exact aB w _
 have C:=hI (r8 v S sb w0 (h.below k0.out))
 have HW:=hI hw0
 clear hw0 h
 go_enter Tryz.func133,Tryz.ntmps133
 go_wp2_with fail
 rw[←HW.out]
 refine C.out.mono ?_
 rintro e w1 ⟨rfl,k1⟩
 have K:=btZ k0 k1
 clear k1
 go_wp2_with fail
 go_ret
 exact⟨rfl,K.out⟩
theorem aa9 {S:aR} {k n:Int} (h:dJ aG S ⟨k,n⟩=true) (hk:k=5):∃m:Nat,n=m∧m<S.cells.length:=by
 subst hk
 unfold dJ at h
 simp only[Bool.and_eq_true] at h
 obtain⟨h1,h2⟩:=h
 unfold aG at h1
 have h1':0≤n:=by simpa using h1
 have h2':=h2
 simp at h2'
 exact⟨n.toNat,by omega,by omega⟩
theorem cis_c (v:Val) (kind:Int) (S:aR) (sb:Nat) (w:World) (h:iJ w sb S):Calls Tryz.prog 92 #[.pointer (some ⟨sb,0,none⟩),.agg #[.int .i64 v.kind,.int .i64 v.n],.int .i64 kind] w (aM (.bool (oL aG S v kind)) w):=by
 obtain⟨k,n⟩:=v
 obtain⟨r,hr⟩:∃r,oL aG S ⟨k,n⟩ kind=r:=⟨_,rfl⟩
 rw[hr]
 unfold oL at hr
 obtain⟨q,hq⟩:∃q,dJ aG S ⟨k,n⟩=q:=⟨_,rfl⟩
 rw[hq] at hr
 obtain⟨A0,n0,A1,n1,A2,n2,A3,n3,A4,n4,A5,n5,hh,hb,s0,-⟩:=h.parts
 have lc:=aP s0
 have HH:=hI hh
 have S0:=hI s0
 obtain⟨w0,hw0⟩:∃w0,w0=w.alloc (.cells #[.int .i64 k,.int .i64 n] 48):=⟨_,rfl⟩
 have k0:Hid (Below w.heap.size w w0):=by rw[hw0];exact aB w _
 have C:Hid (∀E:Up w0,Calls Tryz.prog 88 #[.pointer (some ⟨sb,0,none⟩),.agg #[.int .i64 k,.int .i64 n]] E.to (aM (.bool q) E.to)):=fun E=>by rw[←hq];exact r8 ⟨k,n⟩ S sb E.to ((h.below k0.out).below E.below)
 have f0:∀E:Up w0,E.to.cell? ⟨w.heap.size,0,none⟩=some (.int .i64 k):=fun E=>E.cell (by rw[hw0];exact bL _ _ _ _)
 have f1:∀E:Up w0,E.to.cell? ⟨w.heap.size,1,none⟩=some (.int .i64 n):=fun E=>E.cell (by rw[hw0];exact bL _ _ _ _)
 have f2:∀E:Up w0,E.to.cell? ⟨sb,0,none⟩=some (.slice A0 S.cells.length n0):=fun E=>E.cell ((k0.out.cell hb).trans (hh 0 _ rfl))
 have HW:=hI hw0
 have HQ:=hI hq
 have HR:=hI hr
 clear hw0 hq hh s0 h hr
 go_enter Tryz.func92,Tryz.ntmps92
 go_wp2_with fail
 rw[←HW.out]
 refine aD (by kernel_rfl) (by kernel_rfl) ?_
 repeat (go_big_quiet_step ((go_at_call 88;with_reducible exact Calls.up (C.out _))))
 cases q
 case false=>
  repeat (go_big_quiet_step (fail))
  refine wpQuiet_nil ?_
  rintro _ ⟨E,rfl⟩
  have KE:=btZ k0 E.below
  clear f0 f1 f2
  go_wp2_with fail
  go_ret
  exact⟨by rw[←HR.out];rfl,KE.out⟩
 repeat (go_big_quiet_step (fail))
 obtain⟨b5,hb5⟩:∃b:Bool,(k == 5)=b:=⟨_,rfl⟩
 rw[hb5]
 cases b5
 case false=>
  repeat (go_big_quiet_step (fail))
  refine wpQuiet_nil ?_
  rintro _ ⟨E,rfl⟩
  have KE:=btZ k0 E.below
  clear f0 f1 f2
  go_wp2_with fail
  go_ret
  exact⟨by rw[←HR.out,hb5];rfl,KE.out⟩
 obtain rfl:k=5:=by simpa using hb5
 obtain⟨m,rfl,hm⟩:=aa9 HQ.out rfl
 obtain⟨b,off,rfl,hbb,hc⟩:=iJ.kind S0.out hm
 have e1:(((S.cells[m]?).map (·.kind)).getD 0)=lD S m:=by unfold lD;rw[Int.toNat_natCast]
 rw[e1] at hc
 have d3:∀E:Up w0,E.to.cell? ⟨b,off+m*4,none⟩=some (.int .i64 (lD S m)):=fun E=>E.cell ((k0.out.cell hbb).trans hc)
 have hm':(m:Int)<S.cells.length:=by omega
 clear hc e1 hm
 repeat (go_big_quiet_step (fail))
 refine wpQuiet_nil ?_
 rintro _ ⟨E,rfl⟩
 have KE:=btZ k0 E.below
 clear f0 f1 f2 d3
 go_wp2_with fail
 go_ret
 exact⟨by rw[←HR.out];rfl,KE.out⟩
end
section
open Go.RowKit
theorem abB:∀args W,(callFunc 162 args).run Tryz.prog W=.ok (.enter 162 args) W:=enters_of Tryz.func162 (by kernel_rfl) rfl
theorem x9:∀args W,(callFunc 123 args).run Tryz.prog W=.ok (.enter 123 args) W:=enters_of Tryz.func123 (by kernel_rfl) rfl
theorem x8:∀args W,(callFunc 127 args).run Tryz.prog W=.ok (.enter 127 args) W:=enters_of Tryz.func127 (by kernel_rfl) rfl
theorem adI:∀args W,(callFunc 82 args).run Tryz.prog W=.ok (.enter 82 args) W:=enters_of Tryz.func82 (by kernel_rfl) rfl
theorem adH:∀args W,(callFunc 84 args).run Tryz.prog W=.ok (.enter 84 args) W:=enters_of Tryz.func84 (by kernel_rfl) rfl
theorem adG:∀args W,(callFunc 87 args).run Tryz.prog W=.ok (.enter 87 args) W:=enters_of Tryz.func87 (by kernel_rfl) rfl
theorem adF:∀args W,(callFunc 90 args).run Tryz.prog W=.ok (.enter 90 args) W:=enters_of Tryz.func90 (by kernel_rfl) rfl
theorem all1_c (v:Val) (S:aR) (sb pb:Nat) (w:World) (h:iJ w sb S) (hp:w.cell? ⟨pb,0,none⟩=some (.pointer (some ⟨sb,0,none⟩))) :
  Calls Tryz.prog 162 #[.agg #[.int .i64 v.kind,.int .i64 v.n],.pointer (some ⟨pb,0,none⟩)] w (aM (.bool (!dJ aG S v)) w):=by
 obtain⟨w0,hw0⟩:∃w0,w0=w.alloc (.cells #[.int .i64 v.kind,.int .i64 v.n] 48):=⟨_,rfl⟩
 have k0:Hid (Below w.heap.size w w0):=by rw[hw0];exact aB w _
 have C:=hI (r8 v S sb w0 (h.below k0.out))
 have HW:=hI hw0
 have hl:pb<w.heap.size:=dP hp
 clear hw0 h
 go_enter Tryz.func162,Tryz.ntmps162
 go_wp2_with fail
 rw[←HW.out]
 refine C.out.mono ?_
 rintro e w1 ⟨rfl,k1⟩
 have K:=btZ k0 k1
 go_wp2_with fail
 go_ret
 exact⟨rfl,K.out⟩
theorem adW (A:Option Addr) (cap:Nat) (l:List Val) (S:aR) (sb:Nat) (w:World) (h:iJ w sb S) (hs:aH w w.heap.size 2 hU (.slice A l.length cap) l) :
  Calls Tryz.prog 125 #[.pointer (some ⟨sb,0,none⟩),.slice A l.length cap] w (aM (.bool (lL aG S l)) w):=by
 obtain⟨w0,hw0⟩:∃w0,w0=w.alloc (.cells #[.pointer (some ⟨sb,0,none⟩)] 113):=⟨_,rfl⟩
 have k0:Hid (Below w.heap.size w w0):=by rw[hw0];exact aB w _
 have C:=hI (eE hU (fun v=>!dJ aG S v) A cap l 162 abB #[.pointer (some ⟨w.heap.size,0,none⟩)] w0 (hs.below k0.out) (fun w1 k1 x cs hx hR=>by
  obtain⟨rfl,-⟩:=hR
  exact all1_c x S sb w.heap.size w1 ((h.below k0.out).below k1) (aC k1 (by rw[hw0];exact bL _ _ _ _))))
 have HR:Hid ((!l.any fun v=>!dJ aG S v)=lL aG S l):=by unfold lL Hid;rw[List.all_eq_not_any_not]
 have HW:=hI hw0
 clear hw0 h hs
 go_enter Tryz.func125,Tryz.ntmps125
 go_wp2_with fail
 rw[←HW.out]
 refine C.out.mono ?_
 rintro e w1 ⟨rfl,k1⟩
 have K:=btZ k0 k1
 go_wp2_with fail
 go_ret
 exact⟨by rw[←HR.out];rfl,K.out⟩
theorem cell1_c (v:Val) (S:aR) (sb pb:Nat) (w:World) (h:iJ w sb S) (hp:w.cell? ⟨pb,0,none⟩=some (.pointer (some ⟨sb,0,none⟩))) :
  Calls Tryz.prog 123 #[.agg #[.int .i64 v.kind,.int .i64 v.n],.pointer (some ⟨pb,0,none⟩)] w (aM (.bool (!oL aG S v 3)) w):=by
 obtain⟨w0,hw0⟩:∃w0,w0=w.alloc (.cells #[.int .i64 v.kind,.int .i64 v.n] 48):=⟨_,rfl⟩
 have k0:Hid (Below w.heap.size w w0):=by rw[hw0];exact aB w _
 have C:=hI (cis_c v 3 S sb w0 (h.below k0.out))
 have HW:=hI hw0
 have hl:pb<w.heap.size:=dP hp
 clear hw0 h
 go_enter Tryz.func123,Tryz.ntmps123
 go_wp2_with fail
 rw[←HW.out]
 refine C.out.mono ?_
 rintro e w1 ⟨rfl,k1⟩
 have K:=btZ k0 k1
 go_wp2_with fail
 go_ret
 exact⟨rfl,K.out⟩
theorem cell2_c (cs:List Value) (f:a8) (S:aR) (sb pb:Nat) (w:World) (hf:eR w w.heap.size cs f) (h:iJ w sb S) (hp:w.cell? ⟨pb,0,none⟩=some (.pointer (some ⟨sb,0,none⟩))) :
  Calls Tryz.prog 127 #[.agg ⟨cs⟩,.pointer (some ⟨pb,0,none⟩)] w (aM (.bool (!gP aG S f)) w):=by
 obtain⟨rv,tv,rfl,hr,-⟩:=hf
 obtain⟨r,hrr⟩:∃r,(!gP aG S f)=r:=⟨_,rfl⟩
 rw[hrr]
 unfold gP at hrr
 obtain⟨A,cap,rfl,-⟩:=id hr
 obtain⟨w0,hw0⟩:∃w0,w0=w.alloc (.cells #[.int .i64 f.fn,.int .i64 f.at_,.int .i64 f.tos,.int .i64 f.gen,.int .i64 f.self.kind,.int .i64 f.self.n,.slice A f.regs.length cap,tv] 61):=⟨_,rfl⟩
 have k0:Hid (Below w.heap.size w w0):=by rw[hw0];exact aB w _
 have C1:=hI (adW A cap f.regs S sb w0 (h.below k0.out) (hr.below k0.out))
 have C2:Hid (∀w1,Below w0.heap.size w0 w1→Calls Tryz.prog 88 #[.pointer (some ⟨sb,0,none⟩),.agg #[.int .i64 f.self.kind,.int .i64 f.self.n]] w1 (aM (.bool (dJ aG S f.self)) w1)):=fun w1 k=>r8 f.self S sb w1 ((h.below k0.out).below k)
 obtain⟨q1,hq1⟩:∃q,lL aG S f.regs=q:=⟨_,rfl⟩
 obtain⟨q2,hq2⟩:∃q,dJ aG S f.self=q:=⟨_,rfl⟩
 rw[hq1] at C1 hrr
 rw[hq2] at C2 hrr
 have HH:Hid (aA w0 w.heap.size [.int .i64 f.fn,.int .i64 f.at_,.int .i64 f.tos,.int .i64 f.gen,.int .i64 f.self.kind,.int .i64 f.self.n,.slice A f.regs.length cap,tv]):=by rw[hw0];exact ad5 _ _ _
 have HP:Hid (w0.cell? ⟨pb,0,none⟩=some (.pointer (some ⟨sb,0,none⟩))):=aC k0.out hp
 have HW:=hI hw0
 have HR:=hI hrr
 have hl:pb<w.heap.size:=dP hp
 clear hw0 h hr hq1 hq2 hrr
 go_enter Tryz.func127,Tryz.ntmps127
 go_wp2_with fail
 rw[←HW.out]
 refine C1.out.mono ?_
 rintro e w1 ⟨rfl,k1⟩
 have K1:=hI k1
 have K:=btZ k0 k1
 cases q1
 case false=>
  clear k1
  go_wp2_with fail
  go_ret
  exact⟨by rw[←HR.out];rfl,K.out⟩
 have g0:=(HH.out.on k1) 4 _ rfl
 have g1:=(HH.out.on k1) 5 _ rfl
 have g2:=aC k1 HP.out
 clear k1
 go_wp2_with fail
 refine(C2.out w1 K1.out).mono ?_
 rintro e w2 ⟨rfl,k2⟩
 have K2:=btZ K k2
 clear k2 g0 g1 g2
 go_wp2_with fail
 go_ret
 exact⟨by rw[←HR.out];rfl,K2.out⟩
theorem ck1_c (x:aT) (S:aR) (sb:Nat) (w:World) (h:iJ w sb S) :
  Calls Tryz.prog 82 #[.agg #[.int .i64 x.up,.int .i64 x.name],.pointer (some ⟨sb,0,none⟩)] w (aM (.bool (decide ((S.texts.length:Int)≤x.name))) w):=by
 obtain⟨A0,n0,A1,n1,A2,n2,A3,n3,A4,n4,A5,n5,hh,hb,s0,s1,s2,-⟩:=h.parts
 have lt:=aP s2
 have h2:w.cell? ⟨sb,2,none⟩=some (.slice A2 S.texts.length n2):=hh 2 _ rfl
 clear hh h s0 s1 s2
 go_enter Tryz.func82,Tryz.ntmps82
 go_wp2_with fail
 go_ret
 exact⟨rfl,aB _ _⟩
theorem ck3_c (v:Val) (S:aR) (sb:Nat) (w:World) (h:iJ w sb S) :
  Calls Tryz.prog 87 #[.agg #[.int .i64 v.kind,.int .i64 v.n],.pointer (some ⟨sb,0,none⟩)] w (aM (.bool (v.kind != 4 || !dJ aG S v)) w):=by
 obtain⟨r,hrr⟩:∃r,(v.kind != 4 || !dJ aG S v)=r:=⟨_,rfl⟩
 rw[hrr]
 obtain⟨w0,hw0⟩:∃w0,w0=w.alloc (.cells #[.int .i64 v.kind,.int .i64 v.n] 48):=⟨_,rfl⟩
 have k0:Hid (Below w.heap.size w w0):=by rw[hw0];exact aB w _
 have C:=hI (r8 v S sb w0 (h.below k0.out))
 have HW:=hI hw0
 clear hw0 h
 by_cases h4:v.kind=4
 ·rw[h4] at HW C hrr ⊢
  have HR:Hid ((!dJ aG S v)=r):=hrr
  clear hrr h4
  go_enter Tryz.func87,Tryz.ntmps87
  go_wp2_with fail
  rw[←HW.out]
  refine C.out.mono ?_
  rintro e w1 ⟨rfl,k1⟩
  have K:=btZ k0 k1
  clear k1
  go_wp2_with fail
  go_ret
  exact⟨by rw[←HR.out];rfl,K.out⟩
 ·have HR:Hid (true=r):=by rw[←hrr];unfold Hid;rw[show(v.kind != 4)=true from bne_iff_ne.2 h4];rfl
  clear hrr
  go_enter Tryz.func87,Tryz.ntmps87
  go_wp2_with fail
  go_ret
  exact⟨by rw[←HR.out];rfl,aB _ _⟩
theorem ck4_c (x:ad4) (S:aR) (sb:Nat) (w:World) (h:iJ w sb S) :
  Calls Tryz.prog 90 #[.agg #[.int .i64 x.cell,.int .i64 x.fn.kind,.int .i64 x.fn.n],.pointer (some ⟨sb,0,none⟩)] w (aM (.bool (!yA aG S x)) w):=by
 obtain⟨r,hrr⟩:∃r,(!yA aG S x)=r:=⟨_,rfl⟩
 rw[hrr]
 unfold yA at hrr
 obtain⟨w0,hw0⟩:∃w0,w0=w.alloc (.cells #[.int .i64 x.cell,.int .i64 x.fn.kind,.int .i64 x.fn.n] 107):=⟨_,rfl⟩
 have k0:Hid (Below w.heap.size w w0):=by rw[hw0];exact aB w _
 obtain⟨A0,n0,A1,n1,A2,n2,A3,n3,A4,n4,A5,n5,hh,hb,s0,-⟩:=h.parts
 have lc:=aP s0
 have h0:w.cell? ⟨sb,0,none⟩=some (.slice A0 S.cells.length n0):=hh 0 _ rfl
 have C:=hI (cis_c x.fn 4 S sb w0 (h.below k0.out))
 obtain⟨q1,hq1⟩:∃q,aK x.cell 0 ((S.cells.length:Int) - 1)=q:=⟨_,rfl⟩
 have W1:=hI (mT x.cell 0 ((S.cells.length:Int) - 1) w0)
 rw[hq1] at W1 hrr
 have HW:=hI hw0
 have HR:=hI hrr
 have g0:=aC k0.out h0
 have G0:=hI g0
 have HH:Hid (aA w0 w.heap.size [.int .i64 x.cell,.int .i64 x.fn.kind,.int .i64 x.fn.n]):=by rw[hw0];exact ad5 _ _ _
 clear hw0 h hh s0 hq1 hrr g0
 go_enter Tryz.func90,Tryz.ntmps90
 go_wp2_with fail
 rw[←HW.out]
 refine W1.out.mono ?_
 rintro e w1 ⟨rfl,rfl⟩
 cases q1
 case false=>
  go_wp2_with fail
  go_ret
  exact⟨by rw[←HR.out];rfl,k0.out⟩
 have g1:=HH.out 1 _ rfl
 have g2:=HH.out 2 _ rfl
 clear h0
 go_wp2_with fail
 refine C.out.mono ?_
 rintro e w2 ⟨rfl,k2⟩
 have K2:=btZ k0 k2
 clear k2 g1 g2
 go_wp2_with fail
 go_ret
 exact⟨by rw[←HR.out];rfl,K2.out⟩
end
section
open Go.RowKit
section
variable {P:Program} {ops:Array Oper} {md:Region.Mode} {C:World→Prop} {Q:Exit→Act→World→Prop}
def j6 (o:Oper):Bool:=match o.op with
 | .move _ | .assign _ | .pick _ _ _ | .build _ _ | .load _ _ | .binOp _ _ _ _ _ | .unOp _ _ _ | .convert _ _ _ | .fieldAddr _ _ _ | .field _ _ _ | .indexAddr _ _ _ | .index _ _ _ | .extract _ _ | .slice _ _ _ _ _ | .lookup _ _ _ _=>true
 | .nilCheck _=>true
 | .call c=>match c.callee with | .builtin .len=>true | .builtin .cap=>true | .builtin .min=>true | .builtin .max=>true | _=>false
 | _=>false
def cR (P:Program) (ops:Array Oper) (C:World→Prop) (o:Oper) (v:Value) (a:Act):Prop:=
 (Region.wanted o (yielded ops a.tmps)=true∧∀w,C w→(execOp a.eval o).run P w=.ok (.value v) w)∨(Region.wanted o (yielded ops a.tmps)=false∧v=undef)
theorem mE {α β : Type} {s:Sem α} {f : α→Sem β} {P:Program} {w w':World} {n : β} (h:(s >>= f).run P w=.ok n w'):∃u w1,s.run P w=.ok u w1∧(f u).run P w1=.ok n w':=by
 rw[Sem.run_bind] at h
 cases hs:s.run P w with
 | ok u w1=>rw[hs] at h;exact⟨u,w1,rfl,h⟩
 | halt x w1=>rw[hs] at h;cases h
theorem run_v {s:Sem Value} {P:Program} {w w':World} {n:Next} (h:((do pure (Next.value (←s))):Sem Next).run P w=.ok n w'):∃u,n=.value u:=by
 simp only[Sem.run_bind,Sem.run_pure] at h
 cases hs:s.run P w with
 | ok u w1=>rw[hs] at h;simp only[Result.andThen_ok] at h;injection h with h1 h2;exact⟨u,h1.symm⟩
 | halt x w1=>rw[hs] at h;cases h
theorem sU {o:Oper} (ho:j6 o=true) {ρ : Operand→Value} {w w':World} {n:Next} (h:(execOp ρ o).run P w=.ok n w'):∃u,n=.value u:=by
 obtain⟨dst,op,type,pos,after,guard⟩:=o
 cases op <;> simp only[j6] at ho <;> (first | (cases ho;done) | skip) <;> simp only[execOp] at h
 case move=>simp only[Sem.run_pure] at h;injection h with h;exact⟨_,h.symm⟩
 case assign=>simp only[Sem.run_pure] at h;injection h with h;exact⟨_,h.symm⟩
 case pick c x y=>
  simp only[Sem.run_bind,Sem.run_pure] at h
  cases hs:(asBool (ρ c)).run P w with
  | ok u w1=>rw[hs] at h;simp only[Result.andThen_ok] at h;injection h with h1 h2;exact⟨_,h1.symm⟩
  | halt x w1=>rw[hs] at h;cases h
 case nilCheck x=>
  split at h
  ·exact absurd h (by simp[go_sem])
  ·exact absurd h (by simp[go_sem])
  ·exact absurd h (by simp[go_sem])
  ·split at h
   ·exact absurd h (by simp[go_sem])
   ·obtain⟨u1,w1,-,h⟩:=mE h
    obtain⟨u2,w2,-,h⟩:=mE h
    split at h
    ·obtain⟨u3,w3,-,h⟩:=mE h
     simp only[Sem.run_pure] at h;injection h with h;exact⟨_,h.symm⟩
    ·simp only[Sem.run_pure] at h;injection h with h;exact⟨_,h.symm⟩
   ·simp only[Sem.run_pure] at h;injection h with h;exact⟨_,h.symm⟩
  ·simp only[Sem.run_pure] at h;injection h with h;exact⟨_,h.symm⟩
 case call c=>
  obtain⟨callee,args,argTypes⟩:=c
  cases callee with
  | builtin b=>
   simp only[Sem.run_bind,resolve,Sem.run_pure,Result.andThen_ok,invoke] at h
   cases b <;> simp only[] at ho <;> (first | (cases ho;done) | exact run_v h)
  | value f=>simp only[] at ho;cases ho
  | invoke r m=>simp only[] at ho;cases ho
 all_goals exact run_v h
theorem cR.of_same {o:Oper} {v:Value} {a a':Act} (hy:cR P ops C o v a) (he:execOp a'.eval o=execOp a.eval o)
  (hw:Region.wanted o (yielded ops a'.tmps)=Region.wanted o (yielded ops a.tmps)):cR P ops C o v a':=by
 unfold cR at *
 rw[he,hw]
 exact hy
theorem ad8 {o:Oper} {v:Value} {a:Act} (ho:j6 o=true) (hy:YieldsIn P ops C o v a):cR P ops C o v a:=by
 rcases hy with ⟨h1,h2⟩ | h
 ·refine .inl ⟨h1,fun w hw=>?_⟩
  have h3:=h2 w hw
  unfold Oper.quietAt at h3
  cases hr:(execOp a.eval o).run P w with
  | ok n w'=>
   rw[hr] at h3
   obtain⟨u,rfl⟩:=sU ho hr
   simp only[Oper.quietUpon] at h3
   rw[h3.1,h3.2]
  | halt x w'=>rw[hr] at h3;exact h3.elim
 ·exact .inr h
theorem cR.wpOp {i:Nat} {o:Oper} {v:Value} {a:Act} (hi:ops[i]? = some o) (hy:cR P ops C o v a) {K:Act→World→Prop} {w:World} (hw:C w) (h:K (a.put o.dst v) w):wpOp P ops Q i K a w:=by
 unfold Go.wpOp
 simp only[hi]
 rcases hy with ⟨hg,hv⟩ | ⟨hg,rfl⟩
 ·simp only[hg,if_true,Oper.wp,hv w hw,Oper.upon];exact .inl h
 ·simp only[hg,Bool.false_eq_true,if_false];exact h
theorem oY {j:Nat} {oi oj:Oper} {v:Value} (hj:ops[j]? = some oj) (hap:oi.apart ops oj=true)
  (hsi:∀cs b,oi.op≠.select cs b) (hsj:∀cs b,oj.op≠.select cs b)
  (hQ:∀c a w,Q (.panic c) (a.put oi.dst v) w→Q (.panic c) a w) {K:Act→World→Prop} {a:Act} {w:World}
  (hy:cR P ops C oi v a) (h:wpOp P ops Q j K (a.put oi.dst v) w) :
  wpOp P ops Q j (fun a' w'=>cR P ops C oi v a'∧K (a'.put oi.dst v) w') a w:=by
 obtain⟨h1,h2,h3⟩:=Oper.apart_spec hap
 have keep:∀(a:Act),cR P ops C oi v a→∀u,cR P ops C oi v (a.put oj.dst u):=fun a hy u=>
  hy.of_same (execOp_put oi hsi a oj.dst u h3) (wanted_put oi a oj.dst u h3)
 have keepD:∀d,cR P ops C oi v { a with defers:=d::a.defers }:=fun d=>hy.of_same rfl rfl
 unfold wpOp at *
 simp only[hj] at *
 rw[wanted_put oj a oi.dst v h1] at h
 split
 ·rename_i hw
  simp only[hw,if_true] at h
  rcases h with h | ⟨hasks,hlets⟩
  case inr=>exact .inr ⟨by unfold Oper.asks at *;rw[execOp_put oj hsj a oi.dst v h1] at hasks;exact hasks,hlets⟩
  refine .inl ?_
  unfold Oper.wp at *
  rw[execOp_put oj hsj a oi.dst v h1] at h
  generalize (execOp a.eval oj).run P w=r at *
  cases r with
  | ok n w'=>
   cases n <;> simp only[Oper.upon] at h ⊢
   case value u=>exact⟨keep a hy u,by rw[←Act.put_comm a v u h2];exact h⟩
   case skip=>exact⟨keep a hy _,by rw[←Act.put_comm a v undef h2];exact h⟩
   case defer d=>
    refine⟨keep _ (keepD d) _,?_⟩
    rw[←Act.put_comm _ v undef h2,←Act.put_defers]
    exact h
   case enter f args=>
    refine Calls.mono h fun e w'' he=>?_
    cases e with
    | returned u=>exact⟨keep a hy u,by rw[←Act.put_comm a v u h2];exact he⟩
    | panicked c=>exact hQ _ _ _ he
    | outgrown=>exact he
   case row row args=>exact Rows.mono h fun u w'' he=>⟨keep a hy u,by rw[←Act.put_comm a v u h2];exact he⟩
  | halt x w'=>
   cases x <;> simp only[Oper.upon] at h ⊢
   case panic u=>exact hQ _ _ _ h
 ·rename_i hw
  simp only[hw] at h
  exact⟨keep a hy _,by rw[←Act.put_comm a v undef h2];exact h⟩
def cN (P:Program) (md:Region.Mode) (ops:Array Oper) (C:World→Prop) (F:Nat→Bool) (Q:Exit→Act→World→Prop):Nat→Array Bool→Act→World→Prop
 | 0,listed,a,w=>Region.ready md ops listed=[]∧Q .normal a w
 | f+1,listed,a,w=>(Region.ready md ops listed=[]→Q .normal a w)∧
  ∀i∈Region.ready md ops listed,wpOp P ops Q i (fun a' w'=>(F i=true→C w')∧cN P md ops C F Q f (listed.setIfInBounds i true) a' w') a w
theorem kS {F:Nat→Bool} : ∀(f:Nat) (listed:Array Bool) (a:Act) (w:World),cN P md ops C F Q f listed a w→wpAny P md ops Q f listed a w
 | 0,_,_,_,h=>h
 | f+1,_,_,_,h=>⟨h.1,fun i hi=>wpOp_mono (fun a' w' h'=>kS f _ a' w' h'.2) (h.2 i hi)⟩
def gL (md:Region.Mode) (ops:Array Oper) (listed:Array Bool):Prop:=∀j oj,ops[j]? = some oj→listed.getD j false=true→∀e∈oj.after,Region.binds md e=true→listed.getD e.on false=true
theorem gL.set {listed:Array Bool} {i:Nat} (h:gL md ops listed) (hi:i∈Region.ready md ops listed):gL md ops (listed.setIfInBounds i true):=by
 intro j oj hj hl e he hb
 obtain⟨_,oi,hoi,hall⟩:=mem_ready.1 hi
 by_cases hij:i=j
 ·subst hij
  rw[hj] at hoi;injection hoi with hoi;subst hoi
  exact getD_set_true (hall e he hb)
 ·rw[getD_set_ne false hij] at hl
  exact getD_set_true (h j oj hj hl e he hb)
def vC (md:Region.Mode) (ops:Array Oper):Nat→Nat→List Nat
 | 0,_=>[]
 | f+1,j=>match ops[j]? with
  | none=>[]
  | some o=>o.after.toList.flatMap fun e=>if Region.binds md e then e.on::vC md ops f e.on else []
theorem nJ {listed:Array Bool} (hc:gL md ops listed):∀(f j:Nat),(∀oj,ops[j]? = some oj→∀e∈oj.after,Region.binds md e=true→listed.getD e.on false=true)→∀i∈vC md ops f j,listed.getD i false=true
 | 0,_,_,_,hi=>by cases hi
 | f+1,j,h,i,hi=>by
  unfold vC at hi
  split at hi
  ·cases hi
  ·rename_i o ho
   obtain⟨e,he,hie⟩:=List.mem_flatMap.1 hi
   split at hie
   ·rename_i hb
    have he':e∈o.after:=by simpa using he
    have h1:=h o ho e he' hb
    rcases List.mem_cons.1 hie with rfl | hie
    ·exact h1
    ·exact nJ hc f e.on (fun oj hoj e' he'' hb'=>hc e.on oj hoj h1 e' he'' hb') i hie
   ·cases hie
def v7 (md:Region.Mode) (ops:Array Oper) (F:Nat→Bool) (f:Nat) (qs:List Nat):Bool:=
 (List.range ops.size).all fun j=>F j || qs.contains j || qs.all fun i=>(match ops[j]? with | none=>false | some o=>o.after.any fun e=>Region.binds md e && e.on == i) || (vC md ops f j).contains i
theorem mQ {F:Nat→Bool} {f:Nat} {qs:List Nat} (h:v7 md ops F f qs=true) {listed:Array Bool} (hc:gL md ops listed) {i j:Nat} (hi:i∈qs) (hu:listed.getD i true=false) (hj:j∈Region.ready md ops listed) (hjq:j∉qs):F j=true:=by
 obtain⟨_,oj,hoj,hall⟩:=mem_ready.1 hj
 have hlt:j<ops.size:=(aE hoj).1
 have hu':listed.getD i false=false:=by
  rcases Nat.lt_or_ge i listed.size with h' | h'
  ·simp[h'] at hu ⊢;exact hu
  ·simp[Array.getElem?_eq_none h']
 have h1:=List.all_eq_true.1 h j (List.mem_range.2 hlt)
 simp only[Bool.or_eq_true] at h1
 rcases h1 with (h1 | h1) | h1
 ·exact h1
 ·exact absurd (by simpa using h1) hjq
 ·have h2:=List.all_eq_true.1 h1 i hi
  simp only[hoj,Bool.or_eq_true] at h2
  rcases h2 with h2 | h2
  ·obtain⟨e,he,hb⟩:=Array.any_eq_true'.1 h2
   simp only[Bool.and_eq_true,beq_iff_eq] at hb
   have:=hall e he hb.1
   rw[hb.2,hu'] at this;cases this
  ·have:=nJ hc f j (fun oj' hoj' e he hb=>by rw[hoj] at hoj';injection hoj' with hoj';subst hoj';exact hall e he hb) i (by simpa using h2)
   rw[hu'] at this;cases this
theorem oH {F:Nat→Bool} {i:Nat} {oi:Oper} {v:Value} (hi:ops[i]? = some oi) (hsel:∀(j:Nat) (o:Oper) cs b,ops[j]? = some o→o.op≠.select cs b)
  (hQ:∀c a w,Q (.panic c) (a.put oi.dst v) w→Q (.panic c) a w)
  (hlate:∀listed j,gL md ops listed→listed.getD i true=false→j∈Region.ready md ops listed→F j=true) :
  ∀(fuel:Nat) (listed:Array Bool) (a:Act) (w:World),gL md ops listed→C w→
   (∀j oj,ops[j]? = some oj→j≠i→listed.getD j true=false→(∀e∈oj.after,Region.binds md e=true→e.on≠i)→oi.apart ops oj=true)→
   i∈Region.ready md ops listed→cR P ops C oi v a→
   cN P md ops C F Q fuel (listed.setIfInBounds i true) (a.put oi.dst v) w→cN P md ops C F Q (fuel+1) listed a w:=by
 intro fuel
 induction fuel with
 | zero=>
  intro listed a w _ hw _ hr hy H
  refine⟨fun h=>(by rw[h] at hr;cases hr),fun j hj=>?_⟩
  by_cases hji:j=i
  ·subst hji;exact hy.wpOp hi hw ⟨fun _=>hw,H⟩
  ·have:=ready_mono hj hji
   rw[H.1] at this
   cases this
 | succ fuel ih=>
  intro listed a w hc hw hfree hr hy H
  refine⟨fun h=>(by rw[h] at hr;cases hr),fun j hj=>?_⟩
  by_cases hji:j=i
  ·subst hji;exact hy.wpOp hi hw ⟨fun _=>hw,H⟩
  ·have h1:=H.2 j (ready_mono hj hji)
   obtain⟨hjun,oj,hoj,hall⟩:=mem_ready.1 hj
   have hnot:∀e∈oj.after,Region.binds md e=true→e.on≠i:=fun e he hb heq=>by
    have h1:=hall e he hb
    have h0:=(mem_ready.1 hr).1
    rw[heq] at h1
    rcases Nat.lt_or_ge i listed.size with h' | h'
    ·simp[h'] at h0 h1;rw[h0] at h1;cases h1
    ·simp[Array.getElem?_eq_none h'] at h1
   have h2:=oY hoj (hfree j oj hoj hji hjun hnot) (fun cs b=>hsel i oi cs b hi) (fun cs b=>hsel j oj cs b hoj) hQ hy h1
   have hfree':∀k ok,ops[k]? = some ok→k≠i→(listed.setIfInBounds j true).getD k true=false→
     (∀e∈ok.after,Region.binds md e=true→e.on≠i)→oi.apart ops ok=true:=fun k ok hk hki hun hno=>by
    refine hfree k ok hk hki ?_ hno
    by_cases hjk:j=k
    ·subst hjk;exact hjun
    ·rw[getD_set_ne true hjk] at hun;exact hun
   have hF:=hlate listed j hc (mem_ready.1 hr).1 hj
   refine wpOp_mono (fun a' w' h3=>⟨h3.2.1,ih (listed.setIfInBounds j true) a' w' (hc.set hj) (h3.2.1 hF) hfree' (ready_mono hr (Ne.symm hji)) h3.1 ?_⟩) h2
   rw[Array.setIfInBounds_comm _ _ hji]
   exact h3.2.2
def gA (P:Program) (ops:Array Oper) (C:World→Prop) (F:Nat→Bool) (Q:Exit→Act→World→Prop):List Nat→Act→World→Prop
 | [],a,w=>Q .normal a w
 | i::rest,a,w=>wpOp P ops Q i (fun a' w'=>(F i=true→C w')∧gA P ops C F Q rest a' w') a w
def acC (md:Region.Mode) (ops:Array Oper):List Nat→Array Bool→Bool
 | [],listed=>(Region.ready md ops listed).isEmpty
 | i::rest,listed=>decide (Region.ready md ops listed=[i]) && acC md ops rest (listed.setIfInBounds i true)
theorem d9 {F:Nat→Bool} : ∀(ms:List Nat) (listed:Array Bool) (a:Act) (w:World),acC md ops ms listed=true→gA P ops C F Q ms a w→cN P md ops C F Q ms.length listed a w
 | [],listed,a,w,hB,h=>⟨by simpa [acC] using hB,h⟩
 | i::rest,listed,a,w,hB,h=>by
  simp only[acC,Bool.and_eq_true,decide_eq_true_eq] at hB
  refine⟨fun h1=>(by rw[hB.1] at h1;cases h1),fun j hj=>?_⟩
  rw[hB.1] at hj
  obtain rfl:j=i:=by simpa using hj
  exact wpOp_mono (fun a' w' h'=>⟨h'.1,d9 rest _ a' w' hB.2 h'.2⟩) h
def rG (md:Region.Mode) (ops:Array Oper) (ms:List Nat):List Nat→Array Bool→Bool
 | [],listed=>acC md ops ms listed
 | i::rest,listed=>(Region.ready md ops listed).contains i && Region.free md ops listed i && ((ops[i]?).map j6).getD false && rG md ops ms rest (listed.setIfInBounds i true)
def adO (md:Region.Mode) (ops:Array Oper) (qs ms fl:List Nat):Bool:=
 Region.noSelect ops && v7 md ops (fun j=>qs.contains j || fl.contains j) ops.size qs && rG md ops ms qs (Array.replicate ops.size false) && decide (qs.length+ms.length=ops.size)
theorem pV {F:Nat→Bool} {ms qs0:List Nat} (hsel:Region.noSelect ops=true) (hQ:∀(c:_) (a:Act) (d:Option Tmp) (v:Value) (w:World),Q (.panic c) (a.put d v) w→Q (.panic c) a w)
  (hlate:∀listed i j,i∈qs0→gL md ops listed→listed.getD i true=false→j∈Region.ready md ops listed→F j=true) {w:World} (hw:C w) :
  ∀(qs:List Nat) (listed:Array Bool) (a:Act),(∀i∈qs,i∈qs0)→gL md ops listed→rG md ops ms qs listed=true→
   wpQuiet P ops C (fun a'=>gA P ops C F Q ms a' w) (qs.filterMap (ops[·]?)) a→cN P md ops C F Q (qs.length+ms.length) listed a w
 | [],listed,a,_,_,hB,h=>by
  rw[List.length_nil,Nat.zero_add]
  exact d9 ms listed a w hB h
 | i::rest,listed,a,hsub,hc,hB,h=>by
  simp only[rG,Bool.and_eq_true] at hB
  obtain⟨⟨⟨hr,hf⟩,hn⟩,hB'⟩:=hB
  have hr':i∈Region.ready md ops listed:=by simpa using hr
  cases ho:ops[i]? with
  | none=>rw[ho] at hn;cases hn
  | some o=>
   rw[ho] at hn
   have hn':j6 o=true:=hn
   simp only[List.filterMap_cons,ho] at h
   have hst:qOp P ops C i (wpQuiet P ops C (fun a'=>gA P ops C F Q ms a' w) (rest.filterMap (ops[·]?))) a:=by unfold qOp;simp only[ho];exact h
   obtain⟨v,hy,hK⟩:=yieldsIn_of_qOp ho hst
   rw[List.length_cons,show rest.length+1+ms.length=(rest.length+ms.length)+1 by omega]
   exact oH ho (Region.noSelect_spec hsel) (fun c a w=>hQ c a _ _ w) (fun l j hcl hu hj=>hlate l i j (hsub i (by simp)) hcl hu hj) _ listed a w hc hw (Region.free_spec ho hf) hr' (ad8 hn' hy)
    (pV hsel hQ hlate hw rest _ _ (fun k hk=>hsub k (by simp[hk])) (hc.set hr') hB' hK)
theorem fI {id:Nat} {a:Act} {w:World} {l:List Oper} (C:World→Prop) (qs ms fl:List Nat) (hm:P.follows .mixedOrders=true) (hB:adO .any l.toArray qs ms fl=true)
  (hQ:∀(c:_) (a:Act) (d:Option Tmp) (v:Value) (w:World),Q (.panic c) (a.put d v) w→Q (.panic c) a w) (hC:C w.drew)
  (h:wpQuiet P l.toArray C (fun a'=>gA P l.toArray C (fun j=>qs.contains j || fl.contains j) Q ms a' w.drew) (qs.filterMap (l.toArray[·]?)) a):(Code.region id l.toArray true).wp P Q a w:=by
 simp only[adO,Bool.and_eq_true,decide_eq_true_eq] at hB
 obtain⟨⟨⟨hsel,hlate⟩,hread⟩,hlen⟩:=hB
 have H:=pV (md:=.any) (qs0:=qs) (ms:=ms) (F:=fun j=>qs.contains j || fl.contains j) (Q:=Q) hsel hQ (fun listed i j hi hc hu hj=>by
  by_cases hjq:j∈qs
  ·simp[hjq]
  ·exact mQ hlate hc hi hu hj hjq) hC qs (Array.replicate l.toArray.size false) a (fun _ h=>h) (by
  intro j oj _ hl
  rw[getD_replicate_false] at hl
  cases hl) hread h
 rw[hlen] at H
 exact wp_region_any hm (kS _ _ _ _ H)
theorem rH (l:List Oper):∀n,n≤l.length→(List.range n).filterMap (l.toArray[·]?)=l.take n
 | 0,_=>rfl
 | n+1,h=>by
  have hn:n<l.length:=by omega
  rw[List.range_succ,List.filterMap_append,rH l n (by omega),List.take_succ_eq_append_getElem hn]
  have e:l.toArray[n]? = some l[n]:=by rw[List.getElem?_toArray];exact lG hn
  rw[List.filterMap_cons,e]
  rfl
theorem cV {id:Nat} {a:Act} {w:World} {l:List Oper} (C:World→Prop) (n:Nat) (ms fl:List Nat) (hm:P.follows .mixedOrders=true) (hn:n≤l.length) (hB:adO .any l.toArray (List.range n) ms fl=true)
  (hQ:∀(c:_) (a:Act) (d:Option Tmp) (v:Value) (w:World),Q (.panic c) (a.put d v) w→Q (.panic c) a w) (hC:C w.drew)
  (h:wpQuiet P l.toArray C (fun a'=>gA P l.toArray C (fun j=>(List.range n).contains j || fl.contains j) Q ms a' w.drew) (l.take n) a):(Code.region id l.toArray true).wp P Q a w:=
 fI C (List.range n) ms fl hm hB hQ hC (by rw[rH l n hn];exact h)
def pF (md:Region.Mode) (ops:Array Oper) (last:Array Bool):List Nat→Array Bool→Bool
 | [],listed=>listed == last
 | i::rest,listed=>(Region.ready md ops listed).contains i && Region.free md ops listed i && ((ops[i]?).map j6).getD false && pF md ops last rest (listed.setIfInBounds i true)
def adN (md:Region.Mode) (ops:Array Oper) (qs fl:List Nat) (m:Nat) (last:Array Bool):Bool:=
 Region.noSelect ops && v7 md ops (fun j=>qs.contains j || fl.contains j) ops.size qs && pF md ops last qs (Array.replicate ops.size false) && decide (qs.length+m=ops.size)
theorem kT {F:Nat→Bool} {qs0:List Nat} {m:Nat} {last:Array Bool} (hsel:Region.noSelect ops=true) (hQ:∀(c:_) (a:Act) (d:Option Tmp) (v:Value) (w:World),Q (.panic c) (a.put d v) w→Q (.panic c) a w)
  (hlate:∀listed i j,i∈qs0→gL md ops listed→listed.getD i true=false→j∈Region.ready md ops listed→F j=true) {w:World} (hw:C w) :
  ∀(qs:List Nat) (listed:Array Bool) (a:Act),(∀i∈qs,i∈qs0)→gL md ops listed→pF md ops last qs listed=true→
   wpQuiet P ops C (fun a'=>cN P md ops C F Q m last a' w) (qs.filterMap (ops[·]?)) a→cN P md ops C F Q (qs.length+m) listed a w
 | [],listed,a,_,_,hB,h=>by
  rw[List.length_nil,Nat.zero_add]
  have e:listed=last:=by simpa [pF] using hB
  rw[e]
  exact h
 | i::rest,listed,a,hsub,hc,hB,h=>by
  simp only[pF,Bool.and_eq_true] at hB
  obtain⟨⟨⟨hr,hf⟩,hn⟩,hB'⟩:=hB
  have hr':i∈Region.ready md ops listed:=by simpa using hr
  cases ho:ops[i]? with
  | none=>rw[ho] at hn;cases hn
  | some o=>
   rw[ho] at hn
   have hn':j6 o=true:=hn
   simp only[List.filterMap_cons,ho] at h
   have hst:qOp P ops C i (wpQuiet P ops C (fun a'=>cN P md ops C F Q m last a' w) (rest.filterMap (ops[·]?))) a:=by unfold qOp;simp only[ho];exact h
   obtain⟨v,hy,hK⟩:=yieldsIn_of_qOp ho hst
   rw[List.length_cons,show rest.length+1+m=(rest.length+m)+1 by omega]
   exact oH ho (Region.noSelect_spec hsel) (fun c a w=>hQ c a _ _ w) (fun l j hcl hu hj=>hlate l i j (hsub i (by simp)) hcl hu hj) _ listed a w hc hw (Region.free_spec ho hf) hr' (ad8 hn' hy)
    (kT hsel hQ hlate hw rest _ _ (fun k hk=>hsub k (by simp[hk])) (hc.set hr') hB' hK)
theorem gQ {id:Nat} {a:Act} {w:World} {l:List Oper} (C:World→Prop) (qs fl:List Nat) (m:Nat) (last:Array Bool) (lq:List Oper) (hm:P.follows .mixedOrders=true) (hB:adN .any l.toArray qs fl m last=true)
  (hq:qs.filterMap (l.toArray[·]?)=lq) (hQ:∀(c:_) (a:Act) (d:Option Tmp) (v:Value) (w:World),Q (.panic c) (a.put d v) w→Q (.panic c) a w) (hC:C w.drew)
  (h:wpQuiet P l.toArray C (fun a'=>cN P .any l.toArray C (fun j=>qs.contains j || fl.contains j) Q m last a' w.drew) lq a):(Code.region id l.toArray true).wp P Q a w:=by
 subst hq
 simp only[adN,Bool.and_eq_true,decide_eq_true_eq] at hB
 obtain⟨⟨⟨hsel,hlate⟩,hread⟩,hlen⟩:=hB
 have H:=kT (md:=.any) (qs0:=qs) (m:=m) (F:=fun j=>qs.contains j || fl.contains j) (Q:=Q) hsel hQ (fun listed i j hi hc hu hj=>by
  by_cases hjq:j∈qs
  ·simp[hjq]
  ·exact mQ hlate hc hi hu hj hjq) hC qs (Array.replicate l.toArray.size false) a (fun _ h=>h) (by
  intro j oj _ hl
  rw[getD_replicate_false] at hl
  cases hl) hread h
 rw[hlen] at H
 exact wp_region_any hm (kS _ _ _ _ H)
theorem qU {F:Nat→Bool} {f i k:Nat} {oi ok:Oper} {listed:Array Bool} {a:Act} {w:World} (hr:Region.ready md ops listed=[i,k]) (hi:ops[i]? = some oi) (hk:ops[k]? = some ok)
  (h1:∀K:Act→World→Prop,(∀a w,(F i=true→C w)→cN P md ops C F Q f (listed.setIfInBounds i true) a w→K a w)→if Region.wanted oi (yielded ops a.tmps) then oi.wp P a w K Q else K (a.put oi.dst undef) w)
  (h2:∀K:Act→World→Prop,(∀a w,(F k=true→C w)→cN P md ops C F Q f (listed.setIfInBounds k true) a w→K a w)→if Region.wanted ok (yielded ops a.tmps) then ok.wp P a w K Q else K (a.put ok.dst undef) w) :
  cN P md ops C F Q (f+1) listed a w:=by
 refine⟨fun h=>(by rw[hr] at h;cases h),fun j hj=>?_⟩
 rw[hr] at hj
 rcases List.mem_cons.1 hj with rfl | hj
 ·have:=h1 (fun a' w'=>(F j=true→C w')∧cN P md ops C F Q f (listed.setIfInBounds j true) a' w') (fun _ _ h1 h2=>⟨h1,h2⟩)
  unfold wpOp
  simp only[hi]
  split
  ·rename_i hw;rw[if_pos hw] at this;exact .inl this
  ·rename_i hw;rw[if_neg hw] at this;exact this
 ·obtain rfl:j=k:=by simpa using hj
  have:=h2 (fun a' w'=>(F j=true→C w')∧cN P md ops C F Q f (listed.setIfInBounds j true) a' w') (fun _ _ h1 h2=>⟨h1,h2⟩)
  unfold wpOp
  simp only[hk]
  split
  ·rename_i hw;rw[if_pos hw] at this;exact .inl this
  ·rename_i hw;rw[if_neg hw] at this;exact this
theorem bA {F:Nat→Bool} {i:Nat} {o:Oper} {rest:List Nat} {a:Act} {w:World} (ho:ops[i]? = some o)
  (h:∀K:Act→World→Prop,(∀a w,(F i=true→C w)→gA P ops C F Q rest a w→K a w)→if Region.wanted o (yielded ops a.tmps) then o.wp P a w K Q else K (a.put o.dst undef) w):gA P ops C F Q (i::rest) a w:=by
 have:=h (fun a' w'=>(F i=true→C w')∧gA P ops C F Q rest a' w') (fun _ _ h1 h2=>⟨h1,h2⟩)
 show wpOp P ops Q i (fun a' w'=>(F i=true→C w')∧gA P ops C F Q rest a' w') a w
 unfold wpOp
 simp only[ho]
 split
 ·rename_i hw;rw[if_pos hw] at this;exact .inl this
 ·rename_i hw;rw[if_neg hw] at this;exact this
theorem bP {F:Nat→Bool} : ∀(ms:List Nat) (a:Act) (w:World),(ms.all fun j=>!F j)=true→(ms.all fun j=>(ops[j]?).isSome)=true→wpList P ops Q (ms.filterMap (ops[·]?)) a w→gA P ops C F Q ms a w
 | [],_,_,_,_,h=>h
 | i::rest,a,w,hF,hS,h=>by
  simp only[List.all_cons,Bool.and_eq_true,Bool.not_eq_true'] at hF hS
  cases ho:ops[i]? with
  | none=>rw[ho] at hS;cases hS.1
  | some o=>
   simp only[List.filterMap_cons,ho] at h
   show wpOp P ops Q i _ a w
   unfold wpOp
   simp only[ho]
   have h':if Region.wanted o (yielded ops a.tmps) then o.wp P a w (wpList P ops Q (rest.filterMap (ops[·]?))) Q∨(o.asks P a w∧LetsOut Q) else wpList P ops Q (rest.filterMap (ops[·]?)) (a.put o.dst undef) w:=h
   split
   ·rename_i hw
    rw[if_pos hw] at h'
    exact h'.imp (Oper.wp_mono fun a' w' h2=>⟨fun e=>(by rw[hF.1] at e;cases e),bP rest a' w' hF.2 hS.2 h2⟩) id
   ·rename_i hw
    rw[if_neg hw] at h'
    exact⟨fun e=>(by rw[hF.1] at e;cases e),bP rest _ _ hF.2 hS.2 h'⟩
end
theorem ad9 {B b:Nat} (hB:B≤b) {w0:World} : ∀(vs:List Value) (o:Nat) (w:World),Below B w0 w→Below B w0 (w.setCells b o vs)
 | [],_,_,h=>h
 | v::r,o,w,h=>by
  rw[World.setCells]
  exact ad9 hB r (o+1) _ (h.setCell hB _)
theorem uJ {w:World} {g:Nat} {cs:Array Value} {t:TypeId} {n:Nat} (h:w.heap[g]? = some (.cells cs t (0,0))) (hn:n≤cs.size):w.there g 0 n:=fun j hj=>by
 rw[Nat.zero_add]
 refine⟨?_,frozen_of_row w g j _ _ h⟩
 rw[cell_of_row w g j _ _ _ h,Array.getElem?_eq_getElem (by omega)]
 rfl
theorem wG (w:World) (o:Obj):(w.alloc o).drew.heap[w.heap.size]? = some o:=by
 show(w.heap.push o)[w.heap.size]? = some o
 exact Array.getElem?_push_size
end
section
open Go.RowKit
theorem aJ (w:World) (o:Obj):(w.alloc o).heap[w.heap.size]? = some o:=by
 show(w.heap.push o)[w.heap.size]? = some o
 exact Array.getElem?_push_size
theorem aY {w:World} {k:Nat} {o:Obj} (h:w.heap[k]? = some o) (p:Obj):(w.alloc p).heap[k]? = some o:=
 ((aB w p).block k (aE h).1).trans h
theorem Below.set_row {B g:Nat} {w w':World} (h:Below B w w') (hg:B≤g) (cs:Array Value):Below B w (w'.setRow g cs):=
 ⟨h.os,h.tape,h.output,by rw[size_setRow];exact h.size,fun k hk=>(setRow_other w' g k cs (by omega)).trans (h.block k hk)⟩
end
end Go.Proofs.YtjaphgpkkfdaaaaGreatDoor
