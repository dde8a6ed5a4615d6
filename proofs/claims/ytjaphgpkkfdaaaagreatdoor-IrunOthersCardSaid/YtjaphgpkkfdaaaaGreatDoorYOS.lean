/- Part of the walk of the given code: plain laws, and what a state's parts are. -/
import Derived.Test.YtjaphgpkkfdaaaaGreatDoorZR
set_option maxHeartbeats 16000000
set_option maxRecDepth 100000
set_option linter.all false
namespace Go.Proofs.YtjaphgpkkfdaaaaGreatDoor
section
open Go.RowKit
theorem aiX (A A':Option Addr) (cap cap':Nat) (xs:List Val) (w:World) (h1:aH w w.heap.size 2 hU (.slice A xs.length cap) xs) (h2:aH w w.heap.size 2 hU (.slice A' xs.length cap') xs) :
  Calls Tryz.prog 15 #[.slice A xs.length cap,.slice A' xs.length cap'] w (aM (.bool true) w):=by
 have H1:=hI h1
 have H2:=hI h2
 have ll:=aP h1
 clear h1 h2
 go_enter Tryz.func15,Tryz.ntmps15
 go_wp2_with fail
 go_loopw [14] (fun k wr=>∃i:Nat,k=.int .i64 i∧i≤xs.length∧Hid (Below w.heap.size w wr)) (fun k _=>xs.length - (RowKit.intOf k).toNat)
 case atStart=>exact⟨0,rfl,by omega,Below.refl _ _⟩
 case round=>
  obtain⟨i,rfl,hi,KW⟩:=hrel
  by_cases hlt:i<xs.length
  ·obtain⟨b,off,x,cs,rfl,hb,hx,-,⟨rfl,-⟩,hat⟩:=H1.out.at_ hlt
   obtain⟨b',off',x',cs',rfl,hb',hx',-,⟨rfl,-⟩,hat'⟩:=H2.out.at_ hlt
   rw[hx] at hx';injection hx' with hx';subst hx'
   have hii:(i:Int)<xs.length:=by omega
   have g0:wr.cell? ⟨b,off+i*2,none⟩=some (.int .i64 x.kind):=(KW.out.cell hb).trans (hat 0 _ rfl)
   have g1:wr.cell? ⟨b,off+i*2+1,none⟩=some (.int .i64 x.n):=(KW.out.cell hb).trans (hat 1 _ rfl)
   obtain⟨w2,hw2⟩:∃w2,w2=wr.alloc (.cells #[.int .i64 x.kind,.int .i64 x.n] 48):=⟨_,rfl⟩
   have K2:Hid (Below wr.heap.size wr w2):=by rw[hw2];exact aB _ _
   have HB2:Hid (aA w2 wr.heap.size [.int .i64 x.kind,.int .i64 x.n]):=by rw[hw2];exact ad5 _ _ _
   have KW2:=btZ KW K2.out
   have HW2:=hI hw2
   clear hw2
   go_upto_region 6 with fail
   rw[←HW2.out]
   clear g0 g1
   have a0:=ecZ (HB2.out 0 _ rfl)
   have a1:=ecZ (HB2.out 1 _ rfl)
   have b0:∀E:Up w2,E.to.cell? ⟨b',off'+i*2,none⟩=some (.int .i64 x.kind):=fun E=>E.cell ((KW2.out.cell hb').trans (hat' 0 _ rfl))
   have b1:∀E:Up w2,E.to.cell? ⟨b',off'+i*2+1,none⟩=some (.int .i64 x.n):=fun E=>E.cell ((KW2.out.cell hb').trans (hat' 1 _ rfl))
   refine aD (by kernel_rfl) (by kernel_rfl) ?_
   repeat (go_big_quiet_step (fail))
   refine wpQuiet_nil ?_
   rintro _ ⟨E,rfl⟩
   have KE:=btZ KW2 E.below
   clear a0 b0 a1 b1
   go_wp2_with fail
   go_roundw
   case rel=>exact⟨i+1,by go_num,by omega,KE⟩
   case measure=>simp[RowKit.intOf];omega
  ·obtain rfl:i=xs.length:=by omega
   have hnl:¬(xs.length:Int)<xs.length:=by omega
   go_wp2_with fail
   go_ret
   exact⟨rfl,KW.out⟩
theorem req_shp (A A':Option Addr) (cap cap':Nat) (xs:List aT) (w:World) (h1:aH w w.heap.size 2 jX (.slice A xs.length cap) xs) (h2:aH w w.heap.size 2 jX (.slice A' xs.length cap') xs) :
  Calls Tryz.prog 16 #[.slice A xs.length cap,.slice A' xs.length cap'] w (aM (.bool true) w):=by
 have H1:=hI h1
 have H2:=hI h2
 have ll:=aP h1
 clear h1 h2
 go_enter Tryz.func16,Tryz.ntmps16
 go_wp2_with fail
 go_loopw [14] (fun k wr=>∃i:Nat,k=.int .i64 i∧i≤xs.length∧Hid (Below w.heap.size w wr)) (fun k _=>xs.length - (RowKit.intOf k).toNat)
 case atStart=>exact⟨0,rfl,by omega,Below.refl _ _⟩
 case round=>
  obtain⟨i,rfl,hi,KW⟩:=hrel
  by_cases hlt:i<xs.length
  ·obtain⟨b,off,x,cs,rfl,hb,hx,-,⟨rfl,-⟩,hat⟩:=H1.out.at_ hlt
   obtain⟨b',off',x',cs',rfl,hb',hx',-,⟨rfl,-⟩,hat'⟩:=H2.out.at_ hlt
   rw[hx] at hx';injection hx' with hx';subst hx'
   have hii:(i:Int)<xs.length:=by omega
   have g0:wr.cell? ⟨b,off+i*2,none⟩=some (.int .i64 x.up):=(KW.out.cell hb).trans (hat 0 _ rfl)
   have g1:wr.cell? ⟨b,off+i*2+1,none⟩=some (.int .i64 x.name):=(KW.out.cell hb).trans (hat 1 _ rfl)
   obtain⟨w2,hw2⟩:∃w2,w2=wr.alloc (.cells #[.int .i64 x.up,.int .i64 x.name] 51):=⟨_,rfl⟩
   have K2:Hid (Below wr.heap.size wr w2):=by rw[hw2];exact aB _ _
   have HB2:Hid (aA w2 wr.heap.size [.int .i64 x.up,.int .i64 x.name]):=by rw[hw2];exact ad5 _ _ _
   have KW2:=btZ KW K2.out
   have HW2:=hI hw2
   clear hw2
   go_upto_region 6 with fail
   rw[←HW2.out]
   clear g0 g1
   have a0:=ecZ (HB2.out 0 _ rfl)
   have a1:=ecZ (HB2.out 1 _ rfl)
   have b0:∀E:Up w2,E.to.cell? ⟨b',off'+i*2,none⟩=some (.int .i64 x.up):=fun E=>E.cell ((KW2.out.cell hb').trans (hat' 0 _ rfl))
   have b1:∀E:Up w2,E.to.cell? ⟨b',off'+i*2+1,none⟩=some (.int .i64 x.name):=fun E=>E.cell ((KW2.out.cell hb').trans (hat' 1 _ rfl))
   refine aD (by kernel_rfl) (by kernel_rfl) ?_
   repeat (go_big_quiet_step (fail))
   refine wpQuiet_nil ?_
   rintro _ ⟨E,rfl⟩
   have KE:=btZ KW2 E.below
   clear a0 b0 a1 b1
   go_wp2_with fail
   go_roundw
   case rel=>exact⟨i+1,by go_num,by omega,KE⟩
   case measure=>simp[RowKit.intOf];omega
  ·obtain rfl:i=xs.length:=by omega
   have hnl:¬(xs.length:Int)<xs.length:=by omega
   go_wp2_with fail
   go_ret
   exact⟨rfl,KW.out⟩
theorem req_str (A A':Option Addr) (cap cap':Nat) (xs:List ByteArray) (w:World) (h1:aH w w.heap.size 1 lV (.slice A xs.length cap) xs) (h2:aH w w.heap.size 1 lV (.slice A' xs.length cap') xs) :
  Calls Tryz.prog 17 #[.slice A xs.length cap,.slice A' xs.length cap'] w (aM (.bool true) w):=by
 have H1:=hI h1
 have H2:=hI h2
 have ll:=aP h1
 clear h1 h2
 go_enter Tryz.func17,Tryz.ntmps17
 go_wp2_with fail
 go_loopw [14] (fun k wr=>∃i:Nat,k=.int .i64 i∧i≤xs.length∧Hid (Below w.heap.size w wr)) (fun k _=>xs.length - (RowKit.intOf k).toNat)
 case atStart=>exact⟨0,rfl,by omega,Below.refl _ _⟩
 case round=>
  obtain⟨i,rfl,hi,KW⟩:=hrel
  by_cases hlt:i<xs.length
  ·obtain⟨b,off,x,cs,rfl,hb,hx,-,⟨rfl,-⟩,hat⟩:=H1.out.at_ hlt
   obtain⟨b',off',x',cs',rfl,hb',hx',-,⟨rfl,-⟩,hat'⟩:=H2.out.at_ hlt
   rw[hx] at hx';injection hx' with hx';subst hx'
   have hii:(i:Int)<xs.length:=by omega
   have g0:wr.cell? ⟨b,off+i,none⟩=some (.string x):=(KW.out.cell hb).trans (by simpa using hat 0 _ rfl)
   have e0:wr.cell? ⟨b',off'+i,none⟩=some (.string x):=(KW.out.cell hb').trans (by simpa using hat' 0 _ rfl)
   go_wp2_with fail
   go_roundw
   case rel=>exact⟨i+1,by go_num,by omega,KW⟩
   case measure=>simp[RowKit.intOf];omega
  ·obtain rfl:i=xs.length:=by omega
   have hnl:¬(xs.length:Int)<xs.length:=by omega
   go_wp2_with fail
   go_ret
   exact⟨rfl,KW.out⟩
theorem req_try (A A':Option Addr) (cap cap':Nat) (xs:List gM) (w:World) (h1:aH w w.heap.size 2 jW (.slice A xs.length cap) xs) (h2:aH w w.heap.size 2 jW (.slice A' xs.length cap') xs) :
  Calls Tryz.prog 34 #[.slice A xs.length cap,.slice A' xs.length cap'] w (aM (.bool true) w):=by
 have H1:=hI h1
 have H2:=hI h2
 have ll:=aP h1
 clear h1 h2
 go_enter Tryz.func34,Tryz.ntmps34
 go_wp2_with fail
 go_loopw [14] (fun k wr=>∃i:Nat,k=.int .i64 i∧i≤xs.length∧Hid (Below w.heap.size w wr)) (fun k _=>xs.length - (RowKit.intOf k).toNat)
 case atStart=>exact⟨0,rfl,by omega,Below.refl _ _⟩
 case round=>
  obtain⟨i,rfl,hi,KW⟩:=hrel
  by_cases hlt:i<xs.length
  ·obtain⟨b,off,x,cs,rfl,hb,hx,-,⟨rfl,-⟩,hat⟩:=H1.out.at_ hlt
   obtain⟨b',off',x',cs',rfl,hb',hx',-,⟨rfl,-⟩,hat'⟩:=H2.out.at_ hlt
   rw[hx] at hx';injection hx' with hx';subst hx'
   have hii:(i:Int)<xs.length:=by omega
   have g0:wr.cell? ⟨b,off+i*2,none⟩=some (.int .i64 x.reg):=(KW.out.cell hb).trans (hat 0 _ rfl)
   have g1:wr.cell? ⟨b,off+i*2+1,none⟩=some (.int .i64 x.at_):=(KW.out.cell hb).trans (hat 1 _ rfl)
   obtain⟨w2,hw2⟩:∃w2,w2=wr.alloc (.cells #[.int .i64 x.reg,.int .i64 x.at_] 96):=⟨_,rfl⟩
   have K2:Hid (Below wr.heap.size wr w2):=by rw[hw2];exact aB _ _
   have HB2:Hid (aA w2 wr.heap.size [.int .i64 x.reg,.int .i64 x.at_]):=by rw[hw2];exact ad5 _ _ _
   have KW2:=btZ KW K2.out
   have HW2:=hI hw2
   clear hw2
   go_upto_region 6 with fail
   rw[←HW2.out]
   clear g0 g1
   have a0:=ecZ (HB2.out 0 _ rfl)
   have a1:=ecZ (HB2.out 1 _ rfl)
   have b0:∀E:Up w2,E.to.cell? ⟨b',off'+i*2,none⟩=some (.int .i64 x.reg):=fun E=>E.cell ((KW2.out.cell hb').trans (hat' 0 _ rfl))
   have b1:∀E:Up w2,E.to.cell? ⟨b',off'+i*2+1,none⟩=some (.int .i64 x.at_):=fun E=>E.cell ((KW2.out.cell hb').trans (hat' 1 _ rfl))
   refine aD (by kernel_rfl) (by kernel_rfl) ?_
   repeat (go_big_quiet_step (fail))
   refine wpQuiet_nil ?_
   rintro _ ⟨E,rfl⟩
   have KE:=btZ KW2 E.below
   clear a0 b0 a1 b1
   go_wp2_with fail
   go_roundw
   case rel=>exact⟨i+1,by go_num,by omega,KE⟩
   case measure=>simp[RowKit.intOf];omega
  ·obtain rfl:i=xs.length:=by omega
   have hnl:¬(xs.length:Int)<xs.length:=by omega
   go_wp2_with fail
   go_ret
   exact⟨rfl,KW.out⟩
theorem aiV (cs cs':List Value) (x:a8) (w0 w:World) (h1:eR w0 w0.heap.size cs x) (h2:eR w0 w0.heap.size cs' x) (k0:Below w0.heap.size w0 w):Calls Tryz.prog 18 #[.agg ⟨cs⟩,.agg ⟨cs'⟩] w (aM (.bool true) w):=by
 have q1:=h1.keep k0.size (fun _ hp=>k0.cell hp)
 have q2:=h2.keep k0.size (fun _ hp=>k0.cell hp)
 obtain⟨r,t,rfl,hr,ht,-⟩:=q1
 obtain⟨r',t',rfl,hr',ht',-⟩:=q2
 obtain⟨RA,rc,rfl,-⟩:=id hr
 obtain⟨QA,qc,rfl,-⟩:=id ht
 obtain⟨RA',rc',rfl,-⟩:=id hr'
 obtain⟨QA',qc',rfl,-⟩:=id ht'
 obtain⟨w1,hw1⟩:∃w1,w1=(w.alloc (.cells #[.int .i64 x.fn,.int .i64 x.at_,.int .i64 x.tos,.int .i64 x.gen,.int .i64 x.self.kind,.int .i64 x.self.n,.slice RA x.regs.length rc,.slice QA x.tries.length qc] 61)).alloc (.cells #[.int .i64 x.fn,.int .i64 x.at_,.int .i64 x.tos,.int .i64 x.gen,.int .i64 x.self.kind,.int .i64 x.self.n,.slice RA' x.regs.length rc',.slice QA' x.tries.length qc'] 61):=⟨_,rfl⟩
 have TB:=jZ w [.int .i64 x.fn,.int .i64 x.at_,.int .i64 x.tos,.int .i64 x.gen,.int .i64 x.self.kind,.int .i64 x.self.n,.slice RA x.regs.length rc,.slice QA x.tries.length qc] [.int .i64 x.fn,.int .i64 x.at_,.int .i64 x.tos,.int .i64 x.gen,.int .i64 x.self.kind,.int .i64 x.self.n,.slice RA' x.regs.length rc',.slice QA' x.tries.length qc'] 61 61
 have hw1':w1=(w.alloc (.cells ⟨[.int .i64 x.fn,.int .i64 x.at_,.int .i64 x.tos,.int .i64 x.gen,.int .i64 x.self.kind,.int .i64 x.self.n,.slice RA x.regs.length rc,.slice QA x.tries.length qc]⟩ 61)).alloc (.cells ⟨[.int .i64 x.fn,.int .i64 x.at_,.int .i64 x.tos,.int .i64 x.gen,.int .i64 x.self.kind,.int .i64 x.self.n,.slice RA' x.regs.length rc',.slice QA' x.tries.length qc']⟩ 61):=hw1
 rw[←hw1'] at TB
 obtain⟨t1,t2,t3⟩:=TB
 have HB1:=hI t1
 have HB2:=hI t2
 have K1:=hI t3
 have HW1:=hI hw1
 have HR:Hid (∀W,Below w.heap.size w W→Calls Tryz.prog 15 #[.slice RA x.regs.length rc,.slice RA' x.regs.length rc'] W (aM (.bool true) W)):=fun W k=>aiX _ _ _ _ _ W (hr.keep k.size (fun _ hp=>k.cell hp) (fun _ _ h=>h)) (hr'.keep k.size (fun _ hp=>k.cell hp) (fun _ _ h=>h))
 have HT:Hid (∀W,Below w.heap.size w W→Calls Tryz.prog 34 #[.slice QA x.tries.length qc,.slice QA' x.tries.length qc'] W (aM (.bool true) W)):=fun W k=>req_try _ _ _ _ _ W (ht.keep k.size (fun _ hp=>k.cell hp) (fun _ _ h=>h)) (ht'.keep k.size (fun _ hp=>k.cell hp) (fun _ _ h=>h))
 clear t1 t2 t3 hw1 hw1' h1 h2 k0 hr ht hr' ht'
 go_enter Tryz.func18,Tryz.ntmps18
 go_upto_region 1 with fail
 rw[←HW1.out]
 have x0:=HB1.out 0 _ rfl
 have x1:=HB1.out 1 _ rfl
 have x2:=HB1.out 2 _ rfl
 have x3:=HB1.out 3 _ rfl
 have x4:=HB1.out 4 _ rfl
 have x5:=HB1.out 5 _ rfl
 have x6:=HB1.out 6 _ rfl
 have x7:=HB1.out 7 _ rfl
 have y0:w1.cell? ⟨w.heap.size+1,0,none⟩=some (.int .i64 x.fn):=HB2.out 0 _ rfl
 have y1:=HB2.out 1 _ rfl
 have y2:=HB2.out 2 _ rfl
 have y3:=HB2.out 3 _ rfl
 have y4:=HB2.out 4 _ rfl
 have y5:=HB2.out 5 _ rfl
 have y6:=HB2.out 6 _ rfl
 have y7:=HB2.out 7 _ rfl
 go_wp2_with fail
 refine(HR.out w1 K1.out).mono ?_
 rintro e w2 ⟨rfl,kk⟩
 have K2:=btZ K1 kk
 have x7:=aC kk x7
 have y7:=aC kk y7
 clear kk
 go_wp2_with fail
 refine(HT.out w2 K2.out).mono ?_
 rintro e w3 ⟨rfl,kk⟩
 have KK:=btZ K2 kk
 clear kk
 go_wp2_with fail
 go_ret
 exact⟨rfl,KK.out⟩
end
end Go.Proofs.YtjaphgpkkfdaaaaGreatDoor
