/- Part of the walk of the given code: contracts of the functions that irun.Run reaches, and plain laws on what it reckons. -/
import Derived.Test.YtjaphgpkkfdaaaaGreatDoorZC
import Derived.WalkSpells
import Derived.Lib.Strings
import Derived.Test.YtjaphgpkkfdaaaaGreatDoorZA
set_option maxHeartbeats 16000000
set_option maxRecDepth 100000
set_option linter.all false
namespace Go.Proofs.YtjaphgpkkfdaaaaGreatDoor
section
open Go.RowKit
theorem ad6 {P:Program} {f:FuncId} {args:Array Value} {w:World} {E:Up w} {v:Value}
  (h:Calls P f args E.to fun e w'=>e=.returned v∧E.to=w'):Calls P f args E.to fun e w''=>e=.returned v∧∃E':Up w,w''=E'.to:=
 h.mono fun _ _ ⟨he,hb⟩=>⟨he,E,hb.symm⟩
theorem zG (s:ByteArray) (x y z:UInt8) (h:s.data.toList=[x,y,z]):s.size=3∧∀(n:Nat) (hn:n<s.size),s[n]=[x,y,z][n]'(by have:s.size=3:=(by have:=congrArg List.length h;simpa using this);simp;omega):=by
 have hs:s.size=3:=by have:=congrArg List.length h;simpa using this
 refine⟨hs,fun n hn=>?_⟩
 have e:s.data.toList[n]'(by simpa using hn)=[x,y,z][n]'(by simp;omega):=by simp[h]
 rw[←e]
 rfl
theorem acH (cs ics:List Value) (p:aW) (f:CFn) (at_:Int) (i:fE) (w:World) (h:fC w w.heap.size cs p f) (hr:1≤f.regs) (hr2:f.regs≤60) (hi:iA ics i) (hn:mI p f i=false) :
  Calls Tryz.prog 115 #[.agg ⟨cs⟩,.int .i64 at_,.agg ⟨ics⟩] w (aM (.bool false) w):=by
 obtain⟨w0,hw0⟩:∃w0,w0=(w.alloc (.cells ⟨cs⟩ 191)).alloc (.cells ⟨ics⟩ 193):=⟨_,rfl⟩
 have k0:Hid (Below w.heap.size w w0):=by rw[hw0];exact bE w _ _
 have h1:Hid (aA w0 w.heap.size cs):=by rw[hw0];exact(ad5 w cs _).old _
 have h2:Hid (aA w0 (w.heap.size+1) ics):=by rw[hw0];exact fun i v hv=>by rw[mM];simpa using hv
 have HL:Hid (∀w',Below w0.heap.size w0 w'→fC w' w'.heap.size cs p f):=fun w' k=>h.keep (Nat.le_trans k0.out.size k.size) (fun _ h=>(k.cell (Nat.lt_of_lt_of_le h k0.out.size)).trans (k0.out.cell h))
 obtain⟨rfl,v1,v2,v3,v4,v5⟩:=hi
 obtain⟨pc,fc,rfl,⟨A1,n1,A2,n2,A3,n3,rfl,p1,p2,p3⟩,⟨A4,n4,A5,n5,rfl,q1,q2,w1',w2'⟩⟩:=h
 have l1:=aP p1
 have P1:=hI p1
 clear p1 p2 p3 q1 q2
 simp only[List.cons_append,List.nil_append] at hw0 h1 HL
 have HW:=hI hw0
 clear hw0
 rcases qE i.op with hf | ⟨x,y,z,hf⟩
 ·have HF:=hI hf
  clear hf hn
  go_enter Tryz.func115,Tryz.ntmps115
  go_wp2_with fail
  rw[←HW.out]
  refine(pL i.op w0).mono ?_
  rw[HF.out]
  rintro e w1 ⟨rfl,k1⟩
  have K1:=hI k1
  have c0:∀E:Up w1,E.to.cell? ⟨w.heap.size,0,none⟩=some (.slice A1 p.fns.length n1):=fun E=>E.cell (h1.out.on k1 0 _ rfl)
  have c1:∀E:Up w1,E.to.cell? ⟨w.heap.size,1,none⟩=some (.slice A2 p.consts.length n2):=fun E=>E.cell (h1.out.on k1 1 _ rfl)
  have c2:∀E:Up w1,E.to.cell? ⟨w.heap.size,2,none⟩=some (.slice A3 p.texts.length n3):=fun E=>E.cell (h1.out.on k1 2 _ rfl)
  have c3:∀E:Up w1,E.to.cell? ⟨w.heap.size,3,none⟩=some (.int .i64 f.params):=fun E=>E.cell (h1.out.on k1 3 _ rfl)
  have c4:∀E:Up w1,E.to.cell? ⟨w.heap.size,4,none⟩=some (.int .i64 f.regs):=fun E=>E.cell (h1.out.on k1 4 _ rfl)
  have c5:∀E:Up w1,E.to.cell? ⟨w.heap.size,5,none⟩=some (.bool f.gen):=fun E=>E.cell (h1.out.on k1 5 _ rfl)
  have c6:∀E:Up w1,E.to.cell? ⟨w.heap.size,6,none⟩=some (.slice A4 f.caught.length n4):=fun E=>E.cell (h1.out.on k1 6 _ rfl)
  have c7:∀E:Up w1,E.to.cell? ⟨w.heap.size,7,none⟩=some (.slice A5 f.code.length n5):=fun E=>E.cell (h1.out.on k1 7 _ rfl)
  have d0:∀E:Up w1,E.to.cell? ⟨w.heap.size+1,0,none⟩=some (.int .i64 i.op):=fun E=>E.cell (h2.out.on k1 0 _ rfl)
  have d1:∀E:Up w1,E.to.cell? ⟨w.heap.size+1,1,none⟩=some (.int .i64 i.a):=fun E=>E.cell (h2.out.on k1 1 _ rfl)
  have d2:∀E:Up w1,E.to.cell? ⟨w.heap.size+1,2,none⟩=some (.int .i64 i.b):=fun E=>E.cell (h2.out.on k1 2 _ rfl)
  have d3:∀E:Up w1,E.to.cell? ⟨w.heap.size+1,3,none⟩=some (.int .i64 i.c):=fun E=>E.cell (h2.out.on k1 3 _ rfl)
  have d4:∀E:Up w1,E.to.cell? ⟨w.heap.size+1,4,none⟩=some (.int .i64 i.line):=fun E=>E.cell (h2.out.on k1 4 _ rfl)
  clear k1
  go_wp2_with fail
  refine aD (by kernel_rfl) (by kernel_rfl) ?_
  repeat (go_big_quiet_step (fail))
  refine wpQuiet_nil ?_
  rintro _ ⟨E,rfl⟩
  have KF:=hI (k0.out.trans ((K1.out.trans (E.below.mono K1.out.size)).mono k0.out.size))
  clear c0 c1 c2 c3 c4 c5 c6 c7 d0 d1 d2 d3 d4
  go_wp2_with fail
  go_ret
  exact⟨rfl,KF.out⟩
 ·have HF:=hI hf
  have hn':(aK i.line 0 2000 && cD p f x i.a && cD p f y i.b && cD p f z i.c)=false:=by rw[←hn];simp[mI,hf]
  clear hf hn
  obtain⟨sz,six⟩:=zG ⟨#[x,y,z]⟩ x y z rfl
  have i0:∀W,(Instr.index 9 (.string ⟨#[x,y,z]⟩) (.int .i64 0)).run Tryz.prog W=.ok (.int .u8 x.toNat) W:=fun W=>by rw[run_index_string _ _ _ _ _ Tryz.underlying9,dif_pos ⟨by omega,by rw[sz];decide⟩];rfl
  have i1:∀W,(Instr.index 9 (.string ⟨#[x,y,z]⟩) (.int .i64 1)).run Tryz.prog W=.ok (.int .u8 y.toNat) W:=fun W=>by rw[run_index_string _ _ _ _ _ Tryz.underlying9,dif_pos ⟨by omega,by rw[sz];decide⟩];rfl
  have i2:∀W,(Instr.index 9 (.string ⟨#[x,y,z]⟩) (.int .i64 2)).run Tryz.prog W=.ok (.int .u8 z.toNat) W:=fun W=>by rw[run_index_string _ _ _ _ _ Tryz.underlying9,dif_pos ⟨by omega,by rw[sz];decide⟩];rfl
  clear sz six
  cases b0:aK i.line 0 2000
  ·clear hn'
   go_enter Tryz.func115,Tryz.ntmps115
   go_wp2_with fail
   rw[←HW.out]
   refine(pL i.op w0).mono ?_
   rw[HF.out]
   rintro e w1 ⟨rfl,k1⟩
   have K1:=hI k1
   have c0:∀E:Up w1,E.to.cell? ⟨w.heap.size,0,none⟩=some (.slice A1 p.fns.length n1):=fun E=>E.cell (h1.out.on k1 0 _ rfl)
   have c1:∀E:Up w1,E.to.cell? ⟨w.heap.size,1,none⟩=some (.slice A2 p.consts.length n2):=fun E=>E.cell (h1.out.on k1 1 _ rfl)
   have c2:∀E:Up w1,E.to.cell? ⟨w.heap.size,2,none⟩=some (.slice A3 p.texts.length n3):=fun E=>E.cell (h1.out.on k1 2 _ rfl)
   have c3:∀E:Up w1,E.to.cell? ⟨w.heap.size,3,none⟩=some (.int .i64 f.params):=fun E=>E.cell (h1.out.on k1 3 _ rfl)
   have c4:∀E:Up w1,E.to.cell? ⟨w.heap.size,4,none⟩=some (.int .i64 f.regs):=fun E=>E.cell (h1.out.on k1 4 _ rfl)
   have c5:∀E:Up w1,E.to.cell? ⟨w.heap.size,5,none⟩=some (.bool f.gen):=fun E=>E.cell (h1.out.on k1 5 _ rfl)
   have c6:∀E:Up w1,E.to.cell? ⟨w.heap.size,6,none⟩=some (.slice A4 f.caught.length n4):=fun E=>E.cell (h1.out.on k1 6 _ rfl)
   have c7:∀E:Up w1,E.to.cell? ⟨w.heap.size,7,none⟩=some (.slice A5 f.code.length n5):=fun E=>E.cell (h1.out.on k1 7 _ rfl)
   have d0:∀E:Up w1,E.to.cell? ⟨w.heap.size+1,0,none⟩=some (.int .i64 i.op):=fun E=>E.cell (h2.out.on k1 0 _ rfl)
   have d1:∀E:Up w1,E.to.cell? ⟨w.heap.size+1,1,none⟩=some (.int .i64 i.a):=fun E=>E.cell (h2.out.on k1 1 _ rfl)
   have d2:∀E:Up w1,E.to.cell? ⟨w.heap.size+1,2,none⟩=some (.int .i64 i.b):=fun E=>E.cell (h2.out.on k1 2 _ rfl)
   have d3:∀E:Up w1,E.to.cell? ⟨w.heap.size+1,3,none⟩=some (.int .i64 i.c):=fun E=>E.cell (h2.out.on k1 3 _ rfl)
   have d4:∀E:Up w1,E.to.cell? ⟨w.heap.size+1,4,none⟩=some (.int .i64 i.line):=fun E=>E.cell (h2.out.on k1 4 _ rfl)
   clear k1
   have B0:Hid (∀E:Up w1,Calls Tryz.prog 156 #[.int .i64 i.line,.int .i64 0,.int .i64 2000] E.to fun e w'=>e=.returned (.bool (aK i.line 0 2000))∧E.to=w'):=fun E=>dR _ _ _ _
   have B1:Hid (∀E:Up w1,Calls Tryz.prog 157 #[.agg ⟨_⟩,.int .u8 x.toNat,.int .i64 i.a] E.to (aM (.bool (cD p f x i.a)) E.to)):=fun E=>eX _ p f x i.a E.to (HL.out _ (K1.out.trans (E.below.mono K1.out.size))) hr
   have B2:Hid (∀E:Up w1,Calls Tryz.prog 157 #[.agg ⟨_⟩,.int .u8 y.toNat,.int .i64 i.b] E.to (aM (.bool (cD p f y i.b)) E.to)):=fun E=>eX _ p f y i.b E.to (HL.out _ (K1.out.trans (E.below.mono K1.out.size))) hr
   have B3:Hid (∀E:Up w1,Calls Tryz.prog 157 #[.agg ⟨_⟩,.int .u8 z.toNat,.int .i64 i.c] E.to (aM (.bool (cD p f z i.c)) E.to)):=fun E=>eX _ p f z i.c E.to (HL.out _ (K1.out.trans (E.below.mono K1.out.size))) hr
   rw[b0] at B0
   clear b0
   go_wp2_with fail
   refine aD (by kernel_rfl) (by kernel_rfl) ?_
   repeat (go_big_quiet_step ((first
    | (go_at_call 156;with_reducible exact ad6 (B0.out _))
    | (go_at_call 157;with_reducible exact Calls.up (B1.out _))
    | (go_at_call 157;with_reducible exact Calls.up (B2.out _))
    | (go_at_call 157;with_reducible exact Calls.up (B3.out _)))))
   refine wpQuiet_nil ?_
   rintro _ ⟨E,rfl⟩
   have KE:=btZ K1 E.below
   have KF:=btZ k0 KE.out
   clear c0 c1 c2 c3 c4 c5 c6 c7 d0 d1 d2 d3 d4
   go_wp2_with fail
   go_ret
   exact⟨rfl,KF.out⟩
  ·have tt0:=trivial
   cases b1:cD p f x i.a
   ·clear hn'
    go_enter Tryz.func115,Tryz.ntmps115
    go_wp2_with fail
    rw[←HW.out]
    refine(pL i.op w0).mono ?_
    rw[HF.out]
    rintro e w1 ⟨rfl,k1⟩
    have K1:=hI k1
    have c0:∀E:Up w1,E.to.cell? ⟨w.heap.size,0,none⟩=some (.slice A1 p.fns.length n1):=fun E=>E.cell (h1.out.on k1 0 _ rfl)
    have c1:∀E:Up w1,E.to.cell? ⟨w.heap.size,1,none⟩=some (.slice A2 p.consts.length n2):=fun E=>E.cell (h1.out.on k1 1 _ rfl)
    have c2:∀E:Up w1,E.to.cell? ⟨w.heap.size,2,none⟩=some (.slice A3 p.texts.length n3):=fun E=>E.cell (h1.out.on k1 2 _ rfl)
    have c3:∀E:Up w1,E.to.cell? ⟨w.heap.size,3,none⟩=some (.int .i64 f.params):=fun E=>E.cell (h1.out.on k1 3 _ rfl)
    have c4:∀E:Up w1,E.to.cell? ⟨w.heap.size,4,none⟩=some (.int .i64 f.regs):=fun E=>E.cell (h1.out.on k1 4 _ rfl)
    have c5:∀E:Up w1,E.to.cell? ⟨w.heap.size,5,none⟩=some (.bool f.gen):=fun E=>E.cell (h1.out.on k1 5 _ rfl)
    have c6:∀E:Up w1,E.to.cell? ⟨w.heap.size,6,none⟩=some (.slice A4 f.caught.length n4):=fun E=>E.cell (h1.out.on k1 6 _ rfl)
    have c7:∀E:Up w1,E.to.cell? ⟨w.heap.size,7,none⟩=some (.slice A5 f.code.length n5):=fun E=>E.cell (h1.out.on k1 7 _ rfl)
    have d0:∀E:Up w1,E.to.cell? ⟨w.heap.size+1,0,none⟩=some (.int .i64 i.op):=fun E=>E.cell (h2.out.on k1 0 _ rfl)
    have d1:∀E:Up w1,E.to.cell? ⟨w.heap.size+1,1,none⟩=some (.int .i64 i.a):=fun E=>E.cell (h2.out.on k1 1 _ rfl)
    have d2:∀E:Up w1,E.to.cell? ⟨w.heap.size+1,2,none⟩=some (.int .i64 i.b):=fun E=>E.cell (h2.out.on k1 2 _ rfl)
    have d3:∀E:Up w1,E.to.cell? ⟨w.heap.size+1,3,none⟩=some (.int .i64 i.c):=fun E=>E.cell (h2.out.on k1 3 _ rfl)
    have d4:∀E:Up w1,E.to.cell? ⟨w.heap.size+1,4,none⟩=some (.int .i64 i.line):=fun E=>E.cell (h2.out.on k1 4 _ rfl)
    clear k1
    have B0:Hid (∀E:Up w1,Calls Tryz.prog 156 #[.int .i64 i.line,.int .i64 0,.int .i64 2000] E.to fun e w'=>e=.returned (.bool (aK i.line 0 2000))∧E.to=w'):=fun E=>dR _ _ _ _
    have B1:Hid (∀E:Up w1,Calls Tryz.prog 157 #[.agg ⟨_⟩,.int .u8 x.toNat,.int .i64 i.a] E.to (aM (.bool (cD p f x i.a)) E.to)):=fun E=>eX _ p f x i.a E.to (HL.out _ (K1.out.trans (E.below.mono K1.out.size))) hr
    have B2:Hid (∀E:Up w1,Calls Tryz.prog 157 #[.agg ⟨_⟩,.int .u8 y.toNat,.int .i64 i.b] E.to (aM (.bool (cD p f y i.b)) E.to)):=fun E=>eX _ p f y i.b E.to (HL.out _ (K1.out.trans (E.below.mono K1.out.size))) hr
    have B3:Hid (∀E:Up w1,Calls Tryz.prog 157 #[.agg ⟨_⟩,.int .u8 z.toNat,.int .i64 i.c] E.to (aM (.bool (cD p f z i.c)) E.to)):=fun E=>eX _ p f z i.c E.to (HL.out _ (K1.out.trans (E.below.mono K1.out.size))) hr
    rw[b0] at B0
    rw[b1] at B1
    clear b0 b1
    go_wp2_with fail
    refine aD (by kernel_rfl) (by kernel_rfl) ?_
    repeat (go_big_quiet_step ((first
     | (go_at_call 156;with_reducible exact ad6 (B0.out _))
     | (go_at_call 157;with_reducible exact Calls.up (B1.out _))
     | (go_at_call 157;with_reducible exact Calls.up (B2.out _))
     | (go_at_call 157;with_reducible exact Calls.up (B3.out _)))))
    refine wpQuiet_nil ?_
    rintro _ ⟨E,rfl⟩
    have KE:=btZ K1 E.below
    have KF:=btZ k0 KE.out
    clear c0 c1 c2 c3 c4 c5 c6 c7 d0 d1 d2 d3 d4
    go_wp2_with fail
    go_ret
    exact⟨rfl,KF.out⟩
   ·have tt1:=trivial
    cases b2:cD p f y i.b
    ·clear hn'
     go_enter Tryz.func115,Tryz.ntmps115
     go_wp2_with fail
     rw[←HW.out]
     refine(pL i.op w0).mono ?_
     rw[HF.out]
     rintro e w1 ⟨rfl,k1⟩
     have K1:=hI k1
     have c0:∀E:Up w1,E.to.cell? ⟨w.heap.size,0,none⟩=some (.slice A1 p.fns.length n1):=fun E=>E.cell (h1.out.on k1 0 _ rfl)
     have c1:∀E:Up w1,E.to.cell? ⟨w.heap.size,1,none⟩=some (.slice A2 p.consts.length n2):=fun E=>E.cell (h1.out.on k1 1 _ rfl)
     have c2:∀E:Up w1,E.to.cell? ⟨w.heap.size,2,none⟩=some (.slice A3 p.texts.length n3):=fun E=>E.cell (h1.out.on k1 2 _ rfl)
     have c3:∀E:Up w1,E.to.cell? ⟨w.heap.size,3,none⟩=some (.int .i64 f.params):=fun E=>E.cell (h1.out.on k1 3 _ rfl)
     have c4:∀E:Up w1,E.to.cell? ⟨w.heap.size,4,none⟩=some (.int .i64 f.regs):=fun E=>E.cell (h1.out.on k1 4 _ rfl)
     have c5:∀E:Up w1,E.to.cell? ⟨w.heap.size,5,none⟩=some (.bool f.gen):=fun E=>E.cell (h1.out.on k1 5 _ rfl)
     have c6:∀E:Up w1,E.to.cell? ⟨w.heap.size,6,none⟩=some (.slice A4 f.caught.length n4):=fun E=>E.cell (h1.out.on k1 6 _ rfl)
     have c7:∀E:Up w1,E.to.cell? ⟨w.heap.size,7,none⟩=some (.slice A5 f.code.length n5):=fun E=>E.cell (h1.out.on k1 7 _ rfl)
     have d0:∀E:Up w1,E.to.cell? ⟨w.heap.size+1,0,none⟩=some (.int .i64 i.op):=fun E=>E.cell (h2.out.on k1 0 _ rfl)
     have d1:∀E:Up w1,E.to.cell? ⟨w.heap.size+1,1,none⟩=some (.int .i64 i.a):=fun E=>E.cell (h2.out.on k1 1 _ rfl)
     have d2:∀E:Up w1,E.to.cell? ⟨w.heap.size+1,2,none⟩=some (.int .i64 i.b):=fun E=>E.cell (h2.out.on k1 2 _ rfl)
     have d3:∀E:Up w1,E.to.cell? ⟨w.heap.size+1,3,none⟩=some (.int .i64 i.c):=fun E=>E.cell (h2.out.on k1 3 _ rfl)
     have d4:∀E:Up w1,E.to.cell? ⟨w.heap.size+1,4,none⟩=some (.int .i64 i.line):=fun E=>E.cell (h2.out.on k1 4 _ rfl)
     clear k1
     have B0:Hid (∀E:Up w1,Calls Tryz.prog 156 #[.int .i64 i.line,.int .i64 0,.int .i64 2000] E.to fun e w'=>e=.returned (.bool (aK i.line 0 2000))∧E.to=w'):=fun E=>dR _ _ _ _
     have B1:Hid (∀E:Up w1,Calls Tryz.prog 157 #[.agg ⟨_⟩,.int .u8 x.toNat,.int .i64 i.a] E.to (aM (.bool (cD p f x i.a)) E.to)):=fun E=>eX _ p f x i.a E.to (HL.out _ (K1.out.trans (E.below.mono K1.out.size))) hr
     have B2:Hid (∀E:Up w1,Calls Tryz.prog 157 #[.agg ⟨_⟩,.int .u8 y.toNat,.int .i64 i.b] E.to (aM (.bool (cD p f y i.b)) E.to)):=fun E=>eX _ p f y i.b E.to (HL.out _ (K1.out.trans (E.below.mono K1.out.size))) hr
     have B3:Hid (∀E:Up w1,Calls Tryz.prog 157 #[.agg ⟨_⟩,.int .u8 z.toNat,.int .i64 i.c] E.to (aM (.bool (cD p f z i.c)) E.to)):=fun E=>eX _ p f z i.c E.to (HL.out _ (K1.out.trans (E.below.mono K1.out.size))) hr
     rw[b0] at B0
     rw[b1] at B1
     rw[b2] at B2
     clear b0 b1 b2
     go_wp2_with fail
     refine aD (by kernel_rfl) (by kernel_rfl) ?_
     repeat (go_big_quiet_step ((first
      | (go_at_call 156;with_reducible exact ad6 (B0.out _))
      | (go_at_call 157;with_reducible exact Calls.up (B1.out _))
      | (go_at_call 157;with_reducible exact Calls.up (B2.out _))
      | (go_at_call 157;with_reducible exact Calls.up (B3.out _)))))
     refine wpQuiet_nil ?_
     rintro _ ⟨E,rfl⟩
     have KE:=btZ K1 E.below
     have KF:=btZ k0 KE.out
     clear c0 c1 c2 c3 c4 c5 c6 c7 d0 d1 d2 d3 d4
     go_wp2_with fail
     go_ret
     exact⟨rfl,KF.out⟩
    ·have tt2:=trivial
     cases b3:cD p f z i.c
     ·clear hn'
      go_enter Tryz.func115,Tryz.ntmps115
      go_wp2_with fail
      rw[←HW.out]
      refine(pL i.op w0).mono ?_
      rw[HF.out]
      rintro e w1 ⟨rfl,k1⟩
      have K1:=hI k1
      have c0:∀E:Up w1,E.to.cell? ⟨w.heap.size,0,none⟩=some (.slice A1 p.fns.length n1):=fun E=>E.cell (h1.out.on k1 0 _ rfl)
      have c1:∀E:Up w1,E.to.cell? ⟨w.heap.size,1,none⟩=some (.slice A2 p.consts.length n2):=fun E=>E.cell (h1.out.on k1 1 _ rfl)
      have c2:∀E:Up w1,E.to.cell? ⟨w.heap.size,2,none⟩=some (.slice A3 p.texts.length n3):=fun E=>E.cell (h1.out.on k1 2 _ rfl)
      have c3:∀E:Up w1,E.to.cell? ⟨w.heap.size,3,none⟩=some (.int .i64 f.params):=fun E=>E.cell (h1.out.on k1 3 _ rfl)
      have c4:∀E:Up w1,E.to.cell? ⟨w.heap.size,4,none⟩=some (.int .i64 f.regs):=fun E=>E.cell (h1.out.on k1 4 _ rfl)
      have c5:∀E:Up w1,E.to.cell? ⟨w.heap.size,5,none⟩=some (.bool f.gen):=fun E=>E.cell (h1.out.on k1 5 _ rfl)
      have c6:∀E:Up w1,E.to.cell? ⟨w.heap.size,6,none⟩=some (.slice A4 f.caught.length n4):=fun E=>E.cell (h1.out.on k1 6 _ rfl)
      have c7:∀E:Up w1,E.to.cell? ⟨w.heap.size,7,none⟩=some (.slice A5 f.code.length n5):=fun E=>E.cell (h1.out.on k1 7 _ rfl)
      have d0:∀E:Up w1,E.to.cell? ⟨w.heap.size+1,0,none⟩=some (.int .i64 i.op):=fun E=>E.cell (h2.out.on k1 0 _ rfl)
      have d1:∀E:Up w1,E.to.cell? ⟨w.heap.size+1,1,none⟩=some (.int .i64 i.a):=fun E=>E.cell (h2.out.on k1 1 _ rfl)
      have d2:∀E:Up w1,E.to.cell? ⟨w.heap.size+1,2,none⟩=some (.int .i64 i.b):=fun E=>E.cell (h2.out.on k1 2 _ rfl)
      have d3:∀E:Up w1,E.to.cell? ⟨w.heap.size+1,3,none⟩=some (.int .i64 i.c):=fun E=>E.cell (h2.out.on k1 3 _ rfl)
      have d4:∀E:Up w1,E.to.cell? ⟨w.heap.size+1,4,none⟩=some (.int .i64 i.line):=fun E=>E.cell (h2.out.on k1 4 _ rfl)
      clear k1
      have B0:Hid (∀E:Up w1,Calls Tryz.prog 156 #[.int .i64 i.line,.int .i64 0,.int .i64 2000] E.to fun e w'=>e=.returned (.bool (aK i.line 0 2000))∧E.to=w'):=fun E=>dR _ _ _ _
      have B1:Hid (∀E:Up w1,Calls Tryz.prog 157 #[.agg ⟨_⟩,.int .u8 x.toNat,.int .i64 i.a] E.to (aM (.bool (cD p f x i.a)) E.to)):=fun E=>eX _ p f x i.a E.to (HL.out _ (K1.out.trans (E.below.mono K1.out.size))) hr
      have B2:Hid (∀E:Up w1,Calls Tryz.prog 157 #[.agg ⟨_⟩,.int .u8 y.toNat,.int .i64 i.b] E.to (aM (.bool (cD p f y i.b)) E.to)):=fun E=>eX _ p f y i.b E.to (HL.out _ (K1.out.trans (E.below.mono K1.out.size))) hr
      have B3:Hid (∀E:Up w1,Calls Tryz.prog 157 #[.agg ⟨_⟩,.int .u8 z.toNat,.int .i64 i.c] E.to (aM (.bool (cD p f z i.c)) E.to)):=fun E=>eX _ p f z i.c E.to (HL.out _ (K1.out.trans (E.below.mono K1.out.size))) hr
      rw[b0] at B0
      rw[b1] at B1
      rw[b2] at B2
      rw[b3] at B3
      clear b0 b1 b2 b3
      go_wp2_with fail
      refine aD (by kernel_rfl) (by kernel_rfl) ?_
      repeat (go_big_quiet_step ((first
       | (go_at_call 156;with_reducible exact ad6 (B0.out _))
       | (go_at_call 157;with_reducible exact Calls.up (B1.out _))
       | (go_at_call 157;with_reducible exact Calls.up (B2.out _))
       | (go_at_call 157;with_reducible exact Calls.up (B3.out _)))))
      refine wpQuiet_nil ?_
      rintro _ ⟨E,rfl⟩
      have KE:=btZ K1 E.below
      have KF:=btZ k0 KE.out
      clear c0 c1 c2 c3 c4 c5 c6 c7 d0 d1 d2 d3 d4
      go_wp2_with fail
      go_ret
      exact⟨rfl,KF.out⟩
     ·exact absurd hn' (by rw[b0,b1,b2,b3];decide)
end
section
open Go.RowKit
theorem acI (cs ics:List Value) (p:aW) (f:CFn) (at_:Int) (i:fE) (w:World) (h:fC w w.heap.size cs p f) (hr:1≤f.regs) (hr2:f.regs≤60) (hi:iA ics i) (hn:mI p f i=true) :
  Calls Tryz.prog 115 #[.agg ⟨cs⟩,.int .i64 at_,.agg ⟨ics⟩] w (aM (.bool (gJ p f at_ i)) w):=by
 obtain⟨w0,hw0⟩:∃w0,w0=(w.alloc (.cells ⟨cs⟩ 191)).alloc (.cells ⟨ics⟩ 193):=⟨_,rfl⟩
 have k0:Hid (Below w.heap.size w w0):=by rw[hw0];exact bE w _ _
 have h1:Hid (aA w0 w.heap.size cs):=by rw[hw0];exact(ad5 w cs _).old _
 have h2:Hid (aA w0 (w.heap.size+1) ics):=by rw[hw0];exact fun i v hv=>by rw[mM];simpa using hv
 have HL:Hid (∀w',Below w0.heap.size w0 w'→fC w' w'.heap.size cs p f):=fun w' k=>h.keep (Nat.le_trans k0.out.size k.size) (fun _ h=>(k.cell (Nat.lt_of_lt_of_le h k0.out.size)).trans (k0.out.cell h))
 obtain⟨rfl,v1,v2,v3,v4,v5⟩:=hi
 obtain⟨pc,fc,rfl,⟨A1,n1,A2,n2,A3,n3,rfl,p1,p2,p3⟩,⟨A4,n4,A5,n5,rfl,q1,q2,w1',w2'⟩⟩:=h
 have l1:=aP p1
 have P1:=hI p1
 clear p1 p2 p3 q1 q2
 simp only[List.cons_append,List.nil_append] at hw0 h1 HL
 have HW:=hI hw0
 clear hw0
 obtain⟨x,y,z,hf⟩:∃x y z,kB i.op=[x,y,z]:=by
  rcases qE i.op with hf | hf
  ·simp[mI,hf] at hn
  ·exact hf
 have HF:=hI hf
 have hn':(aK i.line 0 2000 && cD p f x i.a && cD p f y i.b && cD p f z i.c)=true:=by rw[←hn];simp[mI,hf]
 simp only[Bool.and_eq_true] at hn'
 obtain⟨⟨⟨b0,b1⟩,b2⟩,b3⟩:=hn'
 have BY:=hI b2
 have BZ:=hI b3
 obtain⟨r,hrr⟩:∃r,gJ p f at_ i=r:=⟨_,rfl⟩
 have HO:Hid ((if i.op=14 then decide (i.a≤at_) else if i.op=19 then decide (i.b+i.c≤f.regs) else if i.op=27 then uO f (i.b+i.c) else if i.op=26 then(match p.fns[i.b.toNat]? with | some g=>qR f g | none=>false) else if i.op=32 then f.gen else true)=r):=by
  show _=_
  rw[←hrr]
  unfold gJ
  rw[hn,Bool.true_and]
  rfl
 rw[hrr]
 clear hf hn hrr
 obtain⟨sz,six⟩:=zG ⟨#[x,y,z]⟩ x y z rfl
 have i0:∀W,(Instr.index 9 (.string ⟨#[x,y,z]⟩) (.int .i64 0)).run Tryz.prog W=.ok (.int .u8 x.toNat) W:=fun W=>by rw[run_index_string _ _ _ _ _ Tryz.underlying9,dif_pos ⟨by omega,by rw[sz];decide⟩];rfl
 have i1:∀W,(Instr.index 9 (.string ⟨#[x,y,z]⟩) (.int .i64 1)).run Tryz.prog W=.ok (.int .u8 y.toNat) W:=fun W=>by rw[run_index_string _ _ _ _ _ Tryz.underlying9,dif_pos ⟨by omega,by rw[sz];decide⟩];rfl
 have i2:∀W,(Instr.index 9 (.string ⟨#[x,y,z]⟩) (.int .i64 2)).run Tryz.prog W=.ok (.int .u8 z.toNat) W:=fun W=>by rw[run_index_string _ _ _ _ _ Tryz.underlying9,dif_pos ⟨by omega,by rw[sz];decide⟩];rfl
 clear sz six
 go_enter Tryz.func115,Tryz.ntmps115
 go_wp2_with fail
 rw[←HW.out]
 refine(pL i.op w0).mono ?_
 rw[HF.out]
 rintro e w1 ⟨rfl,k1⟩
 have K1:=hI k1
 have c0:∀E:Up w1,E.to.cell? ⟨w.heap.size,0,none⟩=some (.slice A1 p.fns.length n1):=fun E=>E.cell (h1.out.on k1 0 _ rfl)
 have c1:∀E:Up w1,E.to.cell? ⟨w.heap.size,1,none⟩=some (.slice A2 p.consts.length n2):=fun E=>E.cell (h1.out.on k1 1 _ rfl)
 have c2:∀E:Up w1,E.to.cell? ⟨w.heap.size,2,none⟩=some (.slice A3 p.texts.length n3):=fun E=>E.cell (h1.out.on k1 2 _ rfl)
 have c3:∀E:Up w1,E.to.cell? ⟨w.heap.size,3,none⟩=some (.int .i64 f.params):=fun E=>E.cell (h1.out.on k1 3 _ rfl)
 have c4:∀E:Up w1,E.to.cell? ⟨w.heap.size,4,none⟩=some (.int .i64 f.regs):=fun E=>E.cell (h1.out.on k1 4 _ rfl)
 have c5:∀E:Up w1,E.to.cell? ⟨w.heap.size,5,none⟩=some (.bool f.gen):=fun E=>E.cell (h1.out.on k1 5 _ rfl)
 have c6:∀E:Up w1,E.to.cell? ⟨w.heap.size,6,none⟩=some (.slice A4 f.caught.length n4):=fun E=>E.cell (h1.out.on k1 6 _ rfl)
 have c7:∀E:Up w1,E.to.cell? ⟨w.heap.size,7,none⟩=some (.slice A5 f.code.length n5):=fun E=>E.cell (h1.out.on k1 7 _ rfl)
 have d0:∀E:Up w1,E.to.cell? ⟨w.heap.size+1,0,none⟩=some (.int .i64 i.op):=fun E=>E.cell (h2.out.on k1 0 _ rfl)
 have d1:∀E:Up w1,E.to.cell? ⟨w.heap.size+1,1,none⟩=some (.int .i64 i.a):=fun E=>E.cell (h2.out.on k1 1 _ rfl)
 have d2:∀E:Up w1,E.to.cell? ⟨w.heap.size+1,2,none⟩=some (.int .i64 i.b):=fun E=>E.cell (h2.out.on k1 2 _ rfl)
 have d3:∀E:Up w1,E.to.cell? ⟨w.heap.size+1,3,none⟩=some (.int .i64 i.c):=fun E=>E.cell (h2.out.on k1 3 _ rfl)
 have d4:∀E:Up w1,E.to.cell? ⟨w.heap.size+1,4,none⟩=some (.int .i64 i.line):=fun E=>E.cell (h2.out.on k1 4 _ rfl)
 clear k1
 have B0:Hid (∀E:Up w1,Calls Tryz.prog 156 #[.int .i64 i.line,.int .i64 0,.int .i64 2000] E.to fun e w'=>e=.returned (.bool (aK i.line 0 2000))∧E.to=w'):=fun E=>dR _ _ _ _
 have B1:Hid (∀E:Up w1,Calls Tryz.prog 157 #[.agg ⟨_⟩,.int .u8 x.toNat,.int .i64 i.a] E.to (aM (.bool (cD p f x i.a)) E.to)):=fun E=>eX _ p f x i.a E.to (HL.out _ (K1.out.trans (E.below.mono K1.out.size))) hr
 have B2:Hid (∀E:Up w1,Calls Tryz.prog 157 #[.agg ⟨_⟩,.int .u8 y.toNat,.int .i64 i.b] E.to (aM (.bool (cD p f y i.b)) E.to)):=fun E=>eX _ p f y i.b E.to (HL.out _ (K1.out.trans (E.below.mono K1.out.size))) hr
 have B3:Hid (∀E:Up w1,Calls Tryz.prog 157 #[.agg ⟨_⟩,.int .u8 z.toNat,.int .i64 i.c] E.to (aM (.bool (cD p f z i.c)) E.to)):=fun E=>eX _ p f z i.c E.to (HL.out _ (K1.out.trans (E.below.mono K1.out.size))) hr
 rw[b0] at B0
 rw[b1] at B1
 rw[b2] at B2
 rw[b3] at B3
 clear b0 b1 b2 b3
 go_wp2_with fail
 refine aD (by kernel_rfl) (by kernel_rfl) ?_
 repeat (go_big_quiet_step ((first
  | (go_at_call 156;with_reducible exact ad6 (B0.out _))
  | (go_at_call 157;with_reducible exact Calls.up (B1.out _))
  | (go_at_call 157;with_reducible exact Calls.up (B2.out _))
  | (go_at_call 157;with_reducible exact Calls.up (B3.out _)))))
 refine wpQuiet_nil ?_
 rintro _ ⟨E,rfl⟩
 have KE:=btZ K1 E.below
 have KF:=btZ k0 KE.out
 clear c0 c1 c2 c3 c4 c5 c6 c7 d0 d1 d2 d3 d4
 clear i0 i1 i2
 by_cases o14:i.op=14
 ·have HR:=HO
  rw[if_pos o14] at HR
  have d0:E.to.cell? ⟨w.heap.size+1,0,none⟩=some (.int .i64 14):=by rw[←o14];exact h2.out.on KE.out 0 _ rfl
  have d1:E.to.cell? ⟨w.heap.size+1,1,none⟩=some (.int .i64 i.a):=h2.out.on KE.out 1 _ rfl
  clear o14
  go_wp2_with fail
  go_ret
  exact⟨by rw[←HR.out];rfl,KF.out⟩
 rw[if_neg o14] at HO
 by_cases o19:i.op=19
 ·have HR:=HO
  rw[if_pos o19] at HR
  have d0:E.to.cell? ⟨w.heap.size+1,0,none⟩=some (.int .i64 19):=by rw[←o19];exact h2.out.on KE.out 0 _ rfl
  have hq:0≤i.b∧i.b≤f.regs∧0≤i.c∧i.c≤f.regs:=by
   have e:=HF.out
   rw[o19] at e
   have e':kB 19=[114,108,110]:=by decide
   rw[e'] at e
   injection e with e1 e
   injection e with e2 e
   injection e with e3 _
   have g1:=BY.out
   have g2:=BZ.out
   rw[←e2] at g1
   rw[←e3] at g2
   have g1':aK i.b 0 f.regs=true:=g1
   have g2':aK i.c 0 f.regs=true:=g2
   rw[eS] at g1' g2'
   exact⟨g1'.1,g1'.2,g2'.1,g2'.2⟩
  obtain⟨t1,t2,t3,t4⟩:=hq
  have c4:E.to.cell? ⟨w.heap.size,4,none⟩=some (.int .i64 f.regs):=h1.out.on KE.out 4 _ rfl
  have d2:E.to.cell? ⟨w.heap.size+1,2,none⟩=some (.int .i64 i.b):=h2.out.on KE.out 2 _ rfl
  have d3:E.to.cell? ⟨w.heap.size+1,3,none⟩=some (.int .i64 i.c):=h2.out.on KE.out 3 _ rfl
  clear o14 o19
  go_wp2_with fail
  go_ret
  exact⟨by rw[←HR.out];rfl,KF.out⟩
 rw[if_neg o19] at HO
 by_cases o27:i.op=27
 ·have HR:=HO
  rw[if_pos o27] at HR
  have d0:E.to.cell? ⟨w.heap.size+1,0,none⟩=some (.int .i64 27):=by rw[←o27];exact h2.out.on KE.out 0 _ rfl
  have hq:0≤i.b∧i.b≤f.regs∧0≤i.c∧i.c≤f.regs:=by
   have e:=HF.out
   rw[o27] at e
   have e':kB 27=[114,99,110]:=by decide
   rw[e'] at e
   injection e with e1 e
   injection e with e2 e
   injection e with e3 _
   have g1:=BY.out
   have g2:=BZ.out
   rw[←e2] at g1
   rw[←e3] at g2
   have g1':aK i.b 0 f.regs=true:=g1
   have g2':aK i.c 0 f.regs=true:=g2
   rw[eS] at g1' g2'
   exact⟨g1'.1,g1'.2,g2'.1,g2'.2⟩
  obtain⟨t1,t2,t3,t4⟩:=hq
  have c0:E.to.cell? ⟨w.heap.size,0,none⟩=some (.slice A1 p.fns.length n1):=h1.out.on KE.out 0 _ rfl
  have c1:E.to.cell? ⟨w.heap.size,1,none⟩=some (.slice A2 p.consts.length n2):=h1.out.on KE.out 1 _ rfl
  have c2:E.to.cell? ⟨w.heap.size,2,none⟩=some (.slice A3 p.texts.length n3):=h1.out.on KE.out 2 _ rfl
  have c3:E.to.cell? ⟨w.heap.size,3,none⟩=some (.int .i64 f.params):=h1.out.on KE.out 3 _ rfl
  have c4:E.to.cell? ⟨w.heap.size,4,none⟩=some (.int .i64 f.regs):=h1.out.on KE.out 4 _ rfl
  have c5:E.to.cell? ⟨w.heap.size,5,none⟩=some (.bool f.gen):=h1.out.on KE.out 5 _ rfl
  have c6:E.to.cell? ⟨w.heap.size,6,none⟩=some (.slice A4 f.caught.length n4):=h1.out.on KE.out 6 _ rfl
  have c7:E.to.cell? ⟨w.heap.size,7,none⟩=some (.slice A5 f.code.length n5):=h1.out.on KE.out 7 _ rfl
  have d2:E.to.cell? ⟨w.heap.size+1,2,none⟩=some (.int .i64 i.b):=h2.out.on KE.out 2 _ rfl
  have d3:E.to.cell? ⟨w.heap.size+1,3,none⟩=some (.int .i64 i.c):=h2.out.on KE.out 3 _ rfl
  clear o14 o19 o27
  go_wp2_with fail
  refine(xO _ p f _ E.to (HL.out _ KE.out) hr).mono ?_
  rintro e w5 ⟨rfl,k5⟩
  have K5:=btZ KF k5
  clear k5 c0 c1 c2 c3 c4 c5 c6 c7 d0 d2 d3
  go_wp2_with fail
  go_ret
  exact⟨by rw[←HR.out];rfl,K5.out⟩
 rw[if_neg o27] at HO
 by_cases o26:i.op=26
 ·have HR:=HO
  rw[if_pos o26] at HR
  have hq:1≤i.b∧i.b≤(p.fns.length:Int) - 1:=by
   have e:=HF.out
   rw[o26] at e
   have e':kB 26=[114,102,45]:=by decide
   rw[e'] at e
   injection e with e1 e
   injection e with e2 e
   have g1:=BY.out
   rw[←e2] at g1
   have g1':aK i.b 1 ((p.fns.length:Int) - 1)=true:=g1
   rwa [eS] at g1'
  obtain⟨t1,t2⟩:=hq
  obtain⟨bn,hbn⟩:∃bn:Nat,i.b=bn:=⟨i.b.toNat,by omega⟩
  rw[hbn] at t1 t2
  have t3:bn<p.fns.length:=by omega
  obtain⟨bb,off,g,gcs,hA1,hb,hx0,hcl,hR,hat⟩:=P1.out.at_ t3
  rw[hbn,Int.toNat_natCast,hx0] at HR
  subst hA1
  have hR':Hid (∀E2:Up E.to,FnR E2.to E2.to.heap.size gcs g):=fun E2=>hR.keep (Nat.le_trans KF.out.size E2.below.size) (fun _ h=>(E2.below.cell (Nat.lt_of_lt_of_le h KF.out.size)).trans (KF.out.cell h))
  have CC:Hid (∀E2:Up E.to,Calls Tryz.prog 159 #[.agg ⟨_⟩,.agg ⟨gcs⟩] E2.to (aM (.bool (qR f g)) E2.to)):=fun E2=>adV _ gcs p f g E2.to (HL.out _ (KE.out.trans (E2.below.mono KE.out.size))) hr (hR'.out E2)
  have gat:Hid (∀E2:Up E.to,∀j v,gcs[j]? = some v→E2.to.cell? ⟨bb,off+bn*5+j,none⟩=some v):=fun E2 j v hv=>(E2.below.cell (Nat.lt_of_lt_of_le hb KF.out.size)).trans ((KF.out.cell hb).trans (hat j v hv))
  obtain⟨ga,gn,gc,gm,rfl,-⟩:=hR
  have d0:E.to.cell? ⟨w.heap.size+1,0,none⟩=some (.int .i64 26):=by rw[←o26];exact h2.out.on KE.out 0 _ rfl
  have e2:∀E2:Up E.to,E2.to.cell? ⟨w.heap.size+1,2,none⟩=some (.int .i64 bn):=fun E2=>by rw[←hbn];exact E2.cell (h2.out.on KE.out 2 _ rfl)
  have c0:∀E2:Up E.to,E2.to.cell? ⟨w.heap.size,0,none⟩=some (.slice (some ⟨bb,off,none⟩) p.fns.length n1):=fun E2=>E2.cell (h1.out.on KE.out 0 _ rfl)
  have c1:∀E2:Up E.to,E2.to.cell? ⟨w.heap.size,1,none⟩=some (.slice A2 p.consts.length n2):=fun E2=>E2.cell (h1.out.on KE.out 1 _ rfl)
  have c2:∀E2:Up E.to,E2.to.cell? ⟨w.heap.size,2,none⟩=some (.slice A3 p.texts.length n3):=fun E2=>E2.cell (h1.out.on KE.out 2 _ rfl)
  have c3:∀E2:Up E.to,E2.to.cell? ⟨w.heap.size,3,none⟩=some (.int .i64 f.params):=fun E2=>E2.cell (h1.out.on KE.out 3 _ rfl)
  have c4:∀E2:Up E.to,E2.to.cell? ⟨w.heap.size,4,none⟩=some (.int .i64 f.regs):=fun E2=>E2.cell (h1.out.on KE.out 4 _ rfl)
  have c5:∀E2:Up E.to,E2.to.cell? ⟨w.heap.size,5,none⟩=some (.bool f.gen):=fun E2=>E2.cell (h1.out.on KE.out 5 _ rfl)
  have c6:∀E2:Up E.to,E2.to.cell? ⟨w.heap.size,6,none⟩=some (.slice A4 f.caught.length n4):=fun E2=>E2.cell (h1.out.on KE.out 6 _ rfl)
  have c7:∀E2:Up E.to,E2.to.cell? ⟨w.heap.size,7,none⟩=some (.slice A5 f.code.length n5):=fun E2=>E2.cell (h1.out.on KE.out 7 _ rfl)
  have g0:∀E2:Up E.to,E2.to.cell? ⟨bb,off+bn*5,none⟩=some (.int .i64 g.params):=fun E2=>gat.out E2 0 _ rfl
  have g1:∀E2:Up E.to,E2.to.cell? ⟨bb,off+bn*5+1,none⟩=some (.int .i64 g.regs):=fun E2=>gat.out E2 1 _ rfl
  have g2:∀E2:Up E.to,E2.to.cell? ⟨bb,off+bn*5+2,none⟩=some (.bool g.gen):=fun E2=>gat.out E2 2 _ rfl
  have g3:∀E2:Up E.to,E2.to.cell? ⟨bb,off+bn*5+3,none⟩=some (.slice ga g.caught.length gn):=fun E2=>gat.out E2 3 _ rfl
  have g4:∀E2:Up E.to,E2.to.cell? ⟨bb,off+bn*5+4,none⟩=some (.slice gc g.code.length gm):=fun E2=>gat.out E2 4 _ rfl
  have t4:(bn:Int)<p.fns.length:=by omega
  clear o14 o19 o27 o26 hx0 hat hcl hbn
  go_wp2_with fail
  refine aD (by kernel_rfl) (by kernel_rfl) ?_
  repeat (go_big_quiet_step ((go_at_call 159;with_reducible exact Calls.up (CC.out _))))
  refine wpQuiet_nil ?_
  rintro _ ⟨E2,rfl⟩
  have K5:=btZ KF E2.below
  clear e2 g0 g1 g2 g3 g4 c0 c1 c2 c3 c4 c5 c6 c7 d0
  go_wp2_with fail
  go_ret
  exact⟨by rw[←HR.out];rfl,K5.out⟩
 rw[if_neg o26] at HO
 by_cases o32:i.op=32
 ·have HR:=HO
  rw[if_pos o32] at HR
  have d0:E.to.cell? ⟨w.heap.size+1,0,none⟩=some (.int .i64 32):=by rw[←o32];exact h2.out.on KE.out 0 _ rfl
  have c5:E.to.cell? ⟨w.heap.size,5,none⟩=some (.bool f.gen):=h1.out.on KE.out 5 _ rfl
  clear o14 o19 o27 o26 o32
  go_wp2_with fail
  go_ret
  exact⟨by rw[←HR.out];rfl,KF.out⟩
 rw[if_neg o32] at HO
 have HR:=HO
 have u14:(i.op == 14)=false:=by simpa using o14
 have u19:(i.op == 19)=false:=by simpa using o19
 have u27:(i.op == 27)=false:=by simpa using o27
 have u26:(i.op == 26)=false:=by simpa using o26
 have u32:(i.op == 32)=false:=by simpa using o32
 have d0:E.to.cell? ⟨w.heap.size+1,0,none⟩=some (.int .i64 i.op):=h2.out.on KE.out 0 _ rfl
 clear o14 o19 o27 o26 o32
 go_wp2_with fail
 go_ret
 exact⟨by rw[←HR.out];rfl,KF.out⟩
theorem order_c (cs ics:List Value) (p:aW) (f:CFn) (at_:Int) (i:fE) (w:World) (h:fC w w.heap.size cs p f) (hr:1≤f.regs) (hr2:f.regs≤60) (hi:iA ics i) :
  Calls Tryz.prog 115 #[.agg ⟨cs⟩,.int .i64 at_,.agg ⟨ics⟩] w (aM (.bool (gJ p f at_ i)) w):=by
 cases hn:mI p f i
 ·have e:gJ p f at_ i=false:=by unfold gJ;rw[hn];rfl
  rw[e]
  exact acH cs ics p f at_ i w h hr hr2 hi hn
 ·exact acI cs ics p f at_ i w h hr hr2 hi hn
end
section
open Go.RowKit
def jW (cs:List Value) (x:gM):Prop:=cs=[.int .i64 x.reg,.int .i64 x.at_]∧wfi x.reg∧wfi x.at_
theorem p6 {α : Type} {xs ys:List α} {k:Nat} (h:xs.take k=ys.take k) (h1:xs.length≤k) (h2:ys.length≤k):xs=ys:=by
 rwa [List.take_of_length_le h1,List.take_of_length_le h2] at h
theorem yV {α : Type} {xs ys:List α} {k:Nat} {x y : α} (hx:xs[k]? = some x) (hy:ys[k]? = some y) (h:x≠y):xs≠ys:=fun e=>by
 rw[e,hy] at hx;injection hx with hx;exact h hx.symm
theorem tF {α : Type} {xs ys:List α} {k:Nat} {x : α} (h:xs.take k=ys.take k) (hx:xs[k]? = some x) (hy:ys[k]? = some x):xs.take (k+1)=ys.take (k+1):=by
 rw[List.take_add_one,List.take_add_one,h,hx,hy]
theorem qF (v u:Value) (xs ys:List gM) (w:World) (hx:aH w w.heap.size 2 jW v xs) (hy:aH w w.heap.size 2 jW u ys) :
  Calls Tryz.prog 72 #[v,u] w (aM (.bool (decide (xs=ys))) w):=by
 obtain⟨A,cap,rfl,hc1,hc2,-⟩:=id hx
 obtain⟨A',cap',rfl,hc1',hc2',-⟩:=id hy
 unfold maxLen at hc2 hc2'
 have HX:=hI hx
 have HY:=hI hy
 clear hx hy
 obtain⟨r,hr⟩:∃r:Bool,decide (xs=ys)=r:=⟨_,rfl⟩
 rw[hr]
 have HR:=hI hr
 clear hr
 by_cases hl:xs.length=ys.length
 ·have hl1:xs.length≤ys.length:=by omega
  have hl2:ys.length≤xs.length:=by omega
  have hb1:((xs.length:Int) != (ys.length:Int))=false:=by simp;omega
  clear hl
  go_enter Tryz.func72,Tryz.ntmps72
  go_wp2_with fail
  go_loopw [13] (fun k wr=>∃kn:Nat,k=.int .i64 kn∧kn≤xs.length∧Hid (xs.take kn=ys.take kn)∧Hid (Below w.heap.size w wr)) (fun k _=>xs.length - (intOf k).toNat)
  case atStart=>exact⟨0,rfl,by omega,hI rfl,Below.refl _ _⟩
  case round=>
   obtain⟨kn,rfl,hk,he,KW⟩:=hrel
   by_cases hlt:kn<xs.length
   ·obtain⟨b,off,x,cs,rfl,hb,hx0,-,⟨rfl,-⟩,hat⟩:=HX.out.at_ hlt
    obtain⟨b',off',y,cs',rfl,hb',hy0,-,⟨rfl,-⟩,hat'⟩:=HY.out.at_ (i:=kn) (by omega)
    have KE:∀E:Up wr,Below w.heap.size w E.to:=fun E=>oV KW.out E
    have g0:∀E:Up wr,E.to.cell? ⟨b,off+kn*2,none⟩=some (.int .i64 x.reg):=fun E=>((KE E).cell hb).trans (hat 0 _ rfl)
    have g1:∀E:Up wr,E.to.cell? ⟨b,off+kn*2+1,none⟩=some (.int .i64 x.at_):=fun E=>((KE E).cell hb).trans (hat 1 _ rfl)
    have g2:∀E:Up wr,E.to.cell? ⟨b',off'+kn*2,none⟩=some (.int .i64 y.reg):=fun E=>((KE E).cell hb').trans (hat' 0 _ rfl)
    have g3:∀E:Up wr,E.to.cell? ⟨b',off'+kn*2+1,none⟩=some (.int .i64 y.at_):=fun E=>((KE E).cell hb').trans (hat' 1 _ rfl)
    have HX0:=hI hx0
    have HY0:=hI hy0
    have KE':=hI KE
    have hi1:(kn:Int)<xs.length:=by omega
    have hi2:(kn:Int)<ys.length:=by omega
    clear hx0 hy0 hat hat' KE
    by_cases hxy:x=y
    ·subst hxy
     go_wp2_with fail
     refine aD (by kernel_rfl) (by kernel_rfl) ?_
     repeat (go_big_quiet_step (fail))
     refine wpQuiet_nil ?_
     rintro _ ⟨E,rfl⟩
     have KF:=hI (KE'.out E)
     clear g0 g1 g2 g3
     go_wp2_with fail
     go_roundw
     case rel=>exact⟨kn+1,by go_num,by omega,tF he.out HX0.out HY0.out,KF⟩
     case measure=>simp[intOf];omega
    ·have HF:Hid (r=false):=by rw[←HR.out];exact decide_eq_false (yV HX0.out HY0.out hxy)
     by_cases h1:x.reg=y.reg
     ·have n1:(x.at_ == y.at_)=false:=by
       simp only[beq_eq_false_iff_ne]
       intro e;apply hxy;cases x;cases y;simp only at h1 e;rw[h1,e]
      rw[h1] at g0
      clear hxy h1
      go_wp2_with fail
      refine aD (by kernel_rfl) (by kernel_rfl) ?_
      repeat (go_big_quiet_step (fail))
      refine wpQuiet_nil ?_
      rintro _ ⟨E,rfl⟩
      have KF:=hI (KE'.out E)
      clear g0 g1 g2 g3
      go_wp2_with fail
      go_ret
      exact⟨by rw[HF.out];rfl,KF.out⟩
     ·have n1:(x.reg == y.reg)=false:=by simpa using h1
      clear hxy h1
      go_wp2_with fail
      refine aD (by kernel_rfl) (by kernel_rfl) ?_
      repeat (go_big_quiet_step (fail))
      refine wpQuiet_nil ?_
      rintro _ ⟨E,rfl⟩
      have KF:=hI (KE'.out E)
      clear g0 g1 g2 g3
      go_wp2_with fail
      go_ret
      exact⟨by rw[HF.out];rfl,KF.out⟩
   ·have HF:Hid (r=true):=by rw[←HR.out];exact decide_eq_true (p6 he.out (by omega) (by omega))
    go_wp2_with fail
    go_ret
    exact⟨by rw[HF.out];rfl,KW.out⟩
 ·have hb1:((xs.length:Int) != (ys.length:Int))=true:=by simp;omega
  have HF:Hid (r=false):=by rw[←HR.out];exact decide_eq_false (fun e=>hl (by rw[e]))
  clear hl
  go_enter Tryz.func72,Tryz.ntmps72
  go_wp2_with fail
  go_ret
  exact⟨by rw[HF.out];rfl,Below.refl _ _⟩
theorem qG (v u:Value) (xs ys:List ByteArray) (w:World) (hx:aH w w.heap.size 1 lV v xs) (hy:aH w w.heap.size 1 lV u ys) :
  Calls Tryz.prog 42 #[v,u] w (aM (.bool (decide (xs=ys))) w):=by
 obtain⟨A,cap,rfl,hc1,hc2,-⟩:=id hx
 obtain⟨A',cap',rfl,hc1',hc2',-⟩:=id hy
 unfold maxLen at hc2 hc2'
 have HX:=hI hx
 have HY:=hI hy
 clear hx hy
 obtain⟨r,hr⟩:∃r:Bool,decide (xs=ys)=r:=⟨_,rfl⟩
 rw[hr]
 have HR:=hI hr
 clear hr
 by_cases hl:xs.length=ys.length
 ·have hl1:xs.length≤ys.length:=by omega
  have hl2:ys.length≤xs.length:=by omega
  have hb1:((xs.length:Int) != (ys.length:Int))=false:=by simp;omega
  clear hl
  go_enter Tryz.func42,Tryz.ntmps42
  go_wp2_with fail
  go_loopw [13] (fun k wr=>∃kn:Nat,k=.int .i64 kn∧kn≤xs.length∧Hid (xs.take kn=ys.take kn)∧Hid (Below w.heap.size w wr)) (fun k _=>xs.length - (intOf k).toNat)
  case atStart=>exact⟨0,rfl,by omega,hI rfl,Below.refl _ _⟩
  case round=>
   obtain⟨kn,rfl,hk,he,KW⟩:=hrel
   by_cases hlt:kn<xs.length
   ·obtain⟨b,off,x,cs,rfl,hb,hx0,-,⟨rfl,-⟩,hat⟩:=HX.out.at_ hlt
    obtain⟨b',off',y,cs',rfl,hb',hy0,-,⟨rfl,-⟩,hat'⟩:=HY.out.at_ (i:=kn) (by omega)
    have KE:∀E:Up wr,Below w.heap.size w E.to:=fun E=>oV KW.out E
    have g0:∀E:Up wr,E.to.cell? ⟨b,off+kn,none⟩=some (.string x):=fun E=>((KE E).cell hb).trans (by simpa using hat 0 _ rfl)
    have g2:∀E:Up wr,E.to.cell? ⟨b',off'+kn,none⟩=some (.string y):=fun E=>((KE E).cell hb').trans (by simpa using hat' 0 _ rfl)
    have HX0:=hI hx0
    have HY0:=hI hy0
    have KE':=hI KE
    have hi1:(kn:Int)<xs.length:=by omega
    have hi2:(kn:Int)<ys.length:=by omega
    clear hx0 hy0 hat hat' KE
    by_cases hxy:x=y
    ·subst hxy
     go_wp2_with fail
     refine aD (by kernel_rfl) (by kernel_rfl) ?_
     repeat (go_big_quiet_step (fail))
     refine wpQuiet_nil ?_
     rintro _ ⟨E,rfl⟩
     have KF:=hI (KE'.out E)
     clear g0 g2
     go_wp2_with fail
     go_roundw
     case rel=>exact⟨kn+1,by go_num,by omega,tF he.out HX0.out HY0.out,KF⟩
     case measure=>simp[intOf];omega
    ·have HF:Hid (r=false):=by rw[←HR.out];exact decide_eq_false (yV HX0.out HY0.out hxy)
     have n1:(x.toList == y.toList)=false:=by
      simp only[beq_eq_false_iff_ne]
      intro e;apply hxy
      rw[Lib.toList_data,Lib.toList_data] at e
      have e2:x.data=y.data:=Array.toList_inj.1 e
      cases x;cases y;simp only at e2;rw[e2]
     clear hxy
     go_wp2_with fail
     refine aD (by kernel_rfl) (by kernel_rfl) ?_
     repeat (go_big_quiet_step (fail))
     refine wpQuiet_nil ?_
     rintro _ ⟨E,rfl⟩
     have KF:=hI (KE'.out E)
     clear g0 g2
     go_wp2_with fail
     go_ret
     exact⟨by rw[HF.out];rfl,KF.out⟩
   ·have HF:Hid (r=true):=by rw[←HR.out];exact decide_eq_true (p6 he.out (by omega) (by omega))
    go_wp2_with fail
    go_ret
    exact⟨by rw[HF.out];rfl,KW.out⟩
 ·have hb1:((xs.length:Int) != (ys.length:Int))=true:=by simp;omega
  have HF:Hid (r=false):=by rw[←HR.out];exact decide_eq_false (fun e=>hl (by rw[e]))
  clear hl
  go_enter Tryz.func42,Tryz.ntmps42
  go_wp2_with fail
  go_ret
  exact⟨by rw[HF.out];rfl,Below.refl _ _⟩
end
section
structure a8 where
 fn:Int
 at_:Int
 tos:Int
 gen:Int
 self:Val
 regs:List Val
 tries:List gM
deriving DecidableEq
structure bC where
 kind:Int
 num:Int
 vals:List Val
 frames:List a8
deriving DecidableEq
structure bW where
 frames:List a8
 state:Int
 on_:Int
 val:Val
deriving DecidableEq
structure aT where
 up:Int
 name:Int
deriving DecidableEq
structure ad4 where
 cell:Int
 fn:Val
deriving DecidableEq
structure aR where
 cells:List bC
 shapes:List aT
 texts:List ByteArray
 threads:List bW
 ends:List ad4
 said:List Val
 asked:Int
 steps:Int
def upM (l:List aT):Nat→Int→List Int
 | 0,_=>[]
 | f+1,s=>if s≤0 then [] else match l[s.toNat]? with | none=>[] | some x=>x.name::upM l f x.up
def lA (l:List aT) (s:Int):List Int:=(upM l (s.toNat+1) s).reverse
def dE (l:List aT):Nat→List aT→List aT→Bool
 | _,_,[]=>true
 | k,seen,s::r=>!(decide (s.up<0) || decide ((k:Int)<s.up) || decide (s.name<0) || decide (s∈seen) || decide (s.name∈lA l s.up)) && dE l (k+1) (seen++[s]) r
def bT (l:List aT):Int:=
 if 100<l.length then 2
 else match l with
  | []=>3
  | x::r=>if x≠⟨-1,-1⟩ then 3 else if dE l 0 [] r then 0 else 3
def fM (l:List aT) (s:Int):List Int:=if bT l≠0∨s<0∨(l.length:Int)≤s then [] else lA l s
section
variable (R:Val→Bool) (S:aR)
def lD (n:Int):Int:=((S.cells[n.toNat]?).map (·.kind)).getD 0
def dJ (v:Val):Bool:=
 R v && (if v.kind=4 then decide (v.n<S.texts.length) else if v.kind=5 then decide (v.n<S.cells.length) && lD S v.n != 0 else true)
def lL (l:List Val):Bool:=l.all (dJ R S)
def oL (v:Val) (kind:Int):Bool:=dJ R S v && v.kind == 5 && lD S v.n == kind
end
def gS:List Int→List Val→Bool
 | _,[]=>true
 | seen,[k]=>k.kind == 5 && !decide (k.n∈seen) && false
 | seen,k::_::r=>k.kind == 5 && !decide (k.n∈seen) && gS (k.n::seen) r
section
variable (R:Val→Bool) (S:aR)
def gP (f:a8):Bool:=lL R S f.regs && dJ R S f.self
def kE (c:bC):Bool:=
 (if c.kind=0 then c.num == 0 && c.vals.isEmpty && c.frames.isEmpty
 else if c.kind=1 then aK c.num 0 ((S.shapes.length:Int) - 1) && decide (c.vals.length=(fM S.shapes c.num).length) && c.frames.isEmpty
 else if c.kind=2 then c.num == 0 && c.frames.isEmpty
 else if c.kind=3 then c.num == 0 && decide (c.vals.length=1) && c.frames.isEmpty
 else if c.kind=4 then decide (0≤c.num) && c.vals.all (oL R S · 3) && c.frames.isEmpty
 else if c.kind=5 then aK c.num 0 2 && c.vals.isEmpty && decide (c.frames.length=if c.num=0 then 1 else 0)
 else if c.kind=6 then aK c.num (-1) 4 && c.vals.isEmpty && c.frames.isEmpty
 else if c.kind=7 then c.num == 0 && gS [] c.vals && c.frames.isEmpty
 else false) && lL R S c.vals && c.frames.all (gP R S)
def nS:Bool:=
 decide (300<S.cells.length) || decide (300<S.texts.length) || decide (200<S.said.length) || decide (100<S.ends.length) || S.texts.any (fun t=>decide (200<t.size)) ||
  S.cells.any (fun c=>decide (100<c.vals.length) && (c.kind != 7 || decide (600<c.vals.length)))
def jL (W:List ByteArray) (l:List ByteArray):Bool:=decide (W.length≤l.length) && decide (l.take W.length=W) && decide l.Nodup
def yA (e:ad4):Bool:=aK e.cell 0 ((S.cells.length:Int) - 1) && oL R S e.fn 4
def cG (W:List ByteArray):Int:=
 if nS S then 2
 else if bT S.shapes≠0 then bT S.shapes
 else if !jL W S.texts || S.shapes.any (fun x=>decide ((S.texts.length:Int)≤x.name)) || S.cells.any (fun c=>!kE R S c) then 3
 else if S.said.any (fun v=>v.kind != 4 || !dJ R S v) then 3
 else if S.ends.any (fun e=>!yA R S e) then 3
 else 0
end
section
variable (R:Val→Bool) (p:aW) (S:aR)
def gD (n:Int):CFn:=(p.fns[n.toNat]?).getD ⟨0,0,false,[],[]⟩
def bM (v:Val) (kind:Int):Option bC:=
 if v.kind≠5∨v.n<0∨(S.cells.length:Int)≤v.n then none else match S.cells[v.n.toNat]? with | none=>none | some c=>if c.kind=kind then some c else none
def dB (f:a8):Bool:=
 aK f.fn 0 ((p.fns.length:Int) - 1) &&
 (match bM S f.self 4 with | none=>false | some c=>c.num == f.fn) &&
 decide ((f.regs.length:Int)=(gD p f.fn).regs) && aK f.at_ 0 (((gD p f.fn).code.length:Int) - 1) &&
 ((cY (gD p f.fn).code).seen.getD f.at_.toNat false) &&
 decide (f.tries=(cY (gD p f.fn).code).out.getD f.at_.toNat []) && f.regs.all (dJ R S)
def nO (f:a8):Bool:=
 dB R p S f && f.tos == -1 && f.gen == -1 && (gD p f.fn).gen && (f.at_ == 0 || (((gD p f.fn).code[(f.at_ - 1).toNat]?).map (·.op)).getD 0 == 32)
def lQ (c:bC):Bool:=
 if c.kind=4 then decide (c.num<p.fns.length) && decide (c.vals.length=(gD p c.num).caught.length)
 else if c.kind=5 then c.num != 0 || (match c.frames with | []=>false | f::_=>nO R p S f)
 else true
def b7:Option Int→List Int→List a8→Option (List Int)
 | _,gens,[]=>some gens
 | low,gens,f::r=>
  let gen:=(gD p (max 0 (min f.fn ((p.fns.length:Int) - 1)))).gen
  if !dB R p S f || !aK f.tos (-1) (low.getD 0 - 1) || gen != decide (0≤f.gen) || decide (f.gen < -1) then none
  else if !gen then b7 (some f.regs.length) gens r
  else match bM S ⟨5,f.gen⟩ 5 with
   | none=>none
   | some c=>if low=none∨c.num≠1∨f.gen∈gens then none else b7 (some f.regs.length) (gens++[f.gen]) r
def eN (gens:List Int) (h:bW):Option (List Int):=
 let over:=h.state == 3 || h.state == 4
 if over != h.frames.isEmpty || (!over && h.val != ⟨0,0⟩) || !dJ R S h.val || !aK h.state 0 4 then none
 else if h.state=1∧bM S ⟨5,h.on_⟩ 6=none then none
 else if h.state=2∧aK h.on_ 0 ((S.threads.length:Int) - 1)=false then none
 else if h.state≠1∧h.state≠2∧h.on_≠0 then none
 else b7 R p S none gens h.frames
def cE:List Int→List bW→Option (List Int)
 | gens,[]=>some gens
 | gens,h::r=>match eN R p S gens h with | none=>none | some g=>cE g r
def jC (gens:List Int):Nat→List bC→Bool
 | _,[]=>true
 | k,c::r=>!(c.kind == 5 && c.num == 1 && !decide ((k:Int)∈gens)) && jC gens (k+1) r
def mF:Bool:=
 if decide (S.texts.length<p.texts.length) || decide (S.texts.take p.texts.length≠p.texts) || !aK S.steps 0 1000000000 || !aK S.asked 0 1000000000 || S.threads.isEmpty then false
 else if S.cells.any (fun c=>!lQ R p S c) then false
 else match cE R p S [] S.threads with
  | none=>false
  | some gens=>jC gens 0 S.cells
def dG (W:List ByteArray) (cc:Int):Int:=
 if cc≠0 then cc
 else if cG R S W≠0 then cG R S W
 else if 5<S.threads.length∨S.threads.any (fun h=>decide (30<h.frames.length)) then 2
 else if mF R p S then 0 else 3
end
end
section
open Go.RowKit
def jX (cs:List Value) (x:aT):Prop:=cs=[.int .i64 x.up,.int .i64 x.name]∧wfi x.up∧wfi x.name
def abX (cs:List Value) (x:ad4):Prop:=cs=[.int .i64 x.cell,.int .i64 x.fn.kind,.int .i64 x.fn.n]∧wfi x.cell∧wfi x.fn.kind∧wfi x.fn.n
def eR (w:World) (B:Nat) (cs:List Value) (x:a8):Prop:=
 ∃r t,cs=[.int .i64 x.fn,.int .i64 x.at_,.int .i64 x.tos,.int .i64 x.gen,.int .i64 x.self.kind,.int .i64 x.self.n,r,t]∧aH w B 2 hU r x.regs∧aH w B 2 jW t x.tries∧
  wfi x.fn∧wfi x.at_∧wfi x.tos∧wfi x.gen∧wfi x.self.kind∧wfi x.self.n
def jY (w:World) (B:Nat) (cs:List Value) (x:bC):Prop:=
 ∃v f,cs=[.int .i64 x.kind,.int .i64 x.num,v,f]∧aH w B 2 hU v x.vals∧aH w B 8 (eR w B) f x.frames∧wfi x.kind∧wfi x.num
def g9 (w:World) (B:Nat) (cs:List Value) (x:bW):Prop:=
 ∃f,cs=[f,.int .i64 x.state,.int .i64 x.on_,.int .i64 x.val.kind,.int .i64 x.val.n]∧aH w B 8 (eR w B) f x.frames∧wfi x.state∧wfi x.on_∧wfi x.val.kind∧wfi x.val.n
def gK (w:World) (B:Nat) (cs:List Value) (x:aR):Prop:=
 ∃c s t h e a,cs=[c,s,t,h,e,a,.int .i64 x.asked,.int .i64 x.steps]∧aH w B 4 (jY w B) c x.cells∧aH w B 2 jX s x.shapes∧aH w B 1 lV t x.texts∧
  aH w B 5 (g9 w B) h x.threads∧aH w B 3 abX e x.ends∧aH w B 2 hU a x.said∧wfi x.asked∧wfi x.steps
theorem eR.keep {w w':World} {B B':Nat} {cs:List Value} {x:a8} (h:eR w B cs x) (hB:B≤B') (hk:∀p:Addr,p.block<B→w'.cell? p=w.cell? p):eR w' B' cs x:=by
 obtain⟨r,t,h1,h2,h3,h4⟩:=h
 exact⟨r,t,h1,h2.keep hB hk (fun _ _ h=>h),h3.keep hB hk (fun _ _ h=>h),h4⟩
theorem jY.keep {w w':World} {B B':Nat} {cs:List Value} {x:bC} (h:jY w B cs x) (hB:B≤B') (hk:∀p:Addr,p.block<B→w'.cell? p=w.cell? p):jY w' B' cs x:=by
 obtain⟨v,f,h1,h2,h3,h4⟩:=h
 exact⟨v,f,h1,h2.keep hB hk (fun _ _ h=>h),h3.keep hB hk (fun _ _ h=>h.keep hB hk),h4⟩
theorem g9.keep {w w':World} {B B':Nat} {cs:List Value} {x:bW} (h:g9 w B cs x) (hB:B≤B') (hk:∀p:Addr,p.block<B→w'.cell? p=w.cell? p):g9 w' B' cs x:=by
 obtain⟨f,h1,h3,h4⟩:=h
 exact⟨f,h1,h3.keep hB hk (fun _ _ h=>h.keep hB hk),h4⟩
theorem gK.keep {w w':World} {B B':Nat} {cs:List Value} {x:aR} (h:gK w B cs x) (hB:B≤B') (hk:∀p:Addr,p.block<B→w'.cell? p=w.cell? p):gK w' B' cs x:=by
 obtain⟨c,s,t,g,e,a,h1,h2,h3,h4,h5,h6,h7,h8⟩:=h
 exact⟨c,s,t,g,e,a,h1,h2.keep hB hk (fun _ _ h=>h.keep hB hk),h3.keep hB hk (fun _ _ h=>h),h4.keep hB hk (fun _ _ h=>h),h5.keep hB hk (fun _ _ h=>h.keep hB hk),h6.keep hB hk (fun _ _ h=>h),h7.keep hB hk (fun _ _ h=>h),h8⟩
theorem gK.below {w w':World} {cs:List Value} {x:aR} (h:gK w w.heap.size cs x) (hb:Below w.heap.size w w'):gK w' w'.heap.size cs x:=
 h.keep hb.size (fun _ hp=>hb.cell hp)
end
end Go.Proofs.YtjaphgpkkfdaaaaGreatDoor
