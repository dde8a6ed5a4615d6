/- Part of the walk of the given code: contracts of the functions that irun.Run reaches, and plain laws on what it reckons. -/
import Derived.Test.YtjaphgpkkfdaaaaGreatDoorZR
set_option maxHeartbeats 16000000
set_option maxRecDepth 100000
set_option linter.all false
namespace Go.Proofs.YtjaphgpkkfdaaaaGreatDoor
section
open Go.RowKit
theorem aeL (A A':Option Addr) (cap cap':Nat) (xs:List Val) (w:World) (h1:aH w w.heap.size 2 hU (.slice A xs.length cap) xs) (h2:aH w w.heap.size 2 hU (.slice A' xs.length cap') xs) :
  Calls Tryz.prog 39 #[.slice A xs.length cap,.slice A' xs.length cap'] w (aM (.bool true) w):=by
 have H1:=hI h1
 have H2:=hI h2
 have ll:=aP h1
 clear h1 h2
 go_enter Tryz.func39,Tryz.ntmps39
 go_wp2_with fail
 go_loopw [13] (fun k wr=>∃i:Nat,k=.int .i64 i∧i≤xs.length∧Hid (Below w.heap.size w wr)) (fun k _=>xs.length - (RowKit.intOf k).toNat)
 case atStart=>exact⟨0,rfl,by omega,Below.refl _ _⟩
 case round=>
  obtain⟨i,rfl,hi,KW⟩:=hrel
  by_cases hlt:i<xs.length
  ·obtain⟨b,off,x,cs,rfl,hb,hx,-,⟨rfl,-⟩,hat⟩:=H1.out.at_ hlt
   obtain⟨b',off',x',cs',rfl,hb',hx',-,⟨rfl,-⟩,hat'⟩:=H2.out.at_ hlt
   rw[hx] at hx';injection hx' with hx';subst hx'
   have hii:(i:Int)<xs.length:=by omega
   go_upto_region 6 with fail
   have a0:∀E:Up wr,E.to.cell? ⟨b,off+i*2,none⟩=some (.int .i64 x.kind):=fun E=>E.cell ((KW.out.cell hb).trans (hat 0 _ rfl))
   have a1:∀E:Up wr,E.to.cell? ⟨b,off+i*2+1,none⟩=some (.int .i64 x.n):=fun E=>E.cell ((KW.out.cell hb).trans (hat 1 _ rfl))
   have b0:∀E:Up wr,E.to.cell? ⟨b',off'+i*2,none⟩=some (.int .i64 x.kind):=fun E=>E.cell ((KW.out.cell hb').trans (hat' 0 _ rfl))
   have b1:∀E:Up wr,E.to.cell? ⟨b',off'+i*2+1,none⟩=some (.int .i64 x.n):=fun E=>E.cell ((KW.out.cell hb').trans (hat' 1 _ rfl))
   refine aD (by kernel_rfl) (by kernel_rfl) ?_
   repeat (go_big_quiet_step (fail))
   refine wpQuiet_nil ?_
   rintro _ ⟨E,rfl⟩
   have KE:=btZ KW E.below
   clear a0 b0 a1 b1
   go_wp2_with fail
   go_roundw
   case rel=>exact⟨i+1,by go_num,by omega,KE⟩
   case measure=>simp[RowKit.intOf];omega
  ·obtain rfl:i=xs.length:=by omega
   have hnl:¬(xs.length:Int)<xs.length:=by omega
   go_wp2_with fail
   go_ret
   exact⟨rfl,KW.out⟩
theorem afA (A A':Option Addr) (cap cap':Nat) (xs:List aT) (w:World) (h1:aH w w.heap.size 2 jX (.slice A xs.length cap) xs) (h2:aH w w.heap.size 2 jX (.slice A' xs.length cap') xs) :
  Calls Tryz.prog 41 #[.slice A xs.length cap,.slice A' xs.length cap'] w (aM (.bool true) w):=by
 have H1:=hI h1
 have H2:=hI h2
 have ll:=aP h1
 clear h1 h2
 go_enter Tryz.func41,Tryz.ntmps41
 go_wp2_with fail
 go_loopw [13] (fun k wr=>∃i:Nat,k=.int .i64 i∧i≤xs.length∧Hid (Below w.heap.size w wr)) (fun k _=>xs.length - (RowKit.intOf k).toNat)
 case atStart=>exact⟨0,rfl,by omega,Below.refl _ _⟩
 case round=>
  obtain⟨i,rfl,hi,KW⟩:=hrel
  by_cases hlt:i<xs.length
  ·obtain⟨b,off,x,cs,rfl,hb,hx,-,⟨rfl,-⟩,hat⟩:=H1.out.at_ hlt
   obtain⟨b',off',x',cs',rfl,hb',hx',-,⟨rfl,-⟩,hat'⟩:=H2.out.at_ hlt
   rw[hx] at hx';injection hx' with hx';subst hx'
   have hii:(i:Int)<xs.length:=by omega
   go_upto_region 6 with fail
   have a0:∀E:Up wr,E.to.cell? ⟨b,off+i*2,none⟩=some (.int .i64 x.up):=fun E=>E.cell ((KW.out.cell hb).trans (hat 0 _ rfl))
   have a1:∀E:Up wr,E.to.cell? ⟨b,off+i*2+1,none⟩=some (.int .i64 x.name):=fun E=>E.cell ((KW.out.cell hb).trans (hat 1 _ rfl))
   have b0:∀E:Up wr,E.to.cell? ⟨b',off'+i*2,none⟩=some (.int .i64 x.up):=fun E=>E.cell ((KW.out.cell hb').trans (hat' 0 _ rfl))
   have b1:∀E:Up wr,E.to.cell? ⟨b',off'+i*2+1,none⟩=some (.int .i64 x.name):=fun E=>E.cell ((KW.out.cell hb').trans (hat' 1 _ rfl))
   refine aD (by kernel_rfl) (by kernel_rfl) ?_
   repeat (go_big_quiet_step (fail))
   refine wpQuiet_nil ?_
   rintro _ ⟨E,rfl⟩
   have KE:=btZ KW E.below
   clear a0 b0 a1 b1
   go_wp2_with fail
   go_roundw
   case rel=>exact⟨i+1,by go_num,by omega,KE⟩
   case measure=>simp[RowKit.intOf];omega
  ·obtain rfl:i=xs.length:=by omega
   have hnl:¬(xs.length:Int)<xs.length:=by omega
   go_wp2_with fail
   go_ret
   exact⟨rfl,KW.out⟩
theorem ae9 (A A':Option Addr) (cap cap':Nat) (xs:List ByteArray) (w:World) (h1:aH w w.heap.size 1 lV (.slice A xs.length cap) xs) (h2:aH w w.heap.size 1 lV (.slice A' xs.length cap') xs) :
  Calls Tryz.prog 42 #[.slice A xs.length cap,.slice A' xs.length cap'] w (aM (.bool true) w):=by
 have H1:=hI h1
 have H2:=hI h2
 have ll:=aP h1
 clear h1 h2
 go_enter Tryz.func42,Tryz.ntmps42
 go_wp2_with fail
 go_loopw [13] (fun k wr=>∃i:Nat,k=.int .i64 i∧i≤xs.length∧Hid (Below w.heap.size w wr)) (fun k _=>xs.length - (RowKit.intOf k).toNat)
 case atStart=>exact⟨0,rfl,by omega,Below.refl _ _⟩
 case round=>
  obtain⟨i,rfl,hi,KW⟩:=hrel
  by_cases hlt:i<xs.length
  ·obtain⟨b,off,x,cs,rfl,hb,hx,-,⟨rfl,-⟩,hat⟩:=H1.out.at_ hlt
   obtain⟨b',off',x',cs',rfl,hb',hx',-,⟨rfl,-⟩,hat'⟩:=H2.out.at_ hlt
   rw[hx] at hx';injection hx' with hx';subst hx'
   have hii:(i:Int)<xs.length:=by omega
   go_upto_region 6 with fail
   have a0:∀E:Up wr,E.to.cell? ⟨b,off+i,none⟩=some (.string x):=fun E=>E.cell ((KW.out.cell hb).trans (by simpa using hat 0 _ rfl))
   have b0:∀E:Up wr,E.to.cell? ⟨b',off'+i,none⟩=some (.string x):=fun E=>E.cell ((KW.out.cell hb').trans (by simpa using hat' 0 _ rfl))
   refine aD (by kernel_rfl) (by kernel_rfl) ?_
   repeat (go_big_quiet_step (fail))
   refine wpQuiet_nil ?_
   rintro _ ⟨E,rfl⟩
   have KE:=btZ KW E.below
   clear a0 b0
   go_wp2_with fail
   go_roundw
   case rel=>exact⟨i+1,by go_num,by omega,KE⟩
   case measure=>simp[RowKit.intOf];omega
  ·obtain rfl:i=xs.length:=by omega
   have hnl:¬(xs.length:Int)<xs.length:=by omega
   go_wp2_with fail
   go_ret
   exact⟨rfl,KW.out⟩
theorem afB (A A':Option Addr) (cap cap':Nat) (xs:List ad4) (w:World) (h1:aH w w.heap.size 3 abX (.slice A xs.length cap) xs) (h2:aH w w.heap.size 3 abX (.slice A' xs.length cap') xs) :
  Calls Tryz.prog 45 #[.slice A xs.length cap,.slice A' xs.length cap'] w (aM (.bool true) w):=by
 have H1:=hI h1
 have H2:=hI h2
 have ll:=aP h1
 clear h1 h2
 go_enter Tryz.func45,Tryz.ntmps45
 go_wp2_with fail
 go_loopw [13] (fun k wr=>∃i:Nat,k=.int .i64 i∧i≤xs.length∧Hid (Below w.heap.size w wr)) (fun k _=>xs.length - (RowKit.intOf k).toNat)
 case atStart=>exact⟨0,rfl,by omega,Below.refl _ _⟩
 case round=>
  obtain⟨i,rfl,hi,KW⟩:=hrel
  by_cases hlt:i<xs.length
  ·obtain⟨b,off,x,cs,rfl,hb,hx,-,⟨rfl,-⟩,hat⟩:=H1.out.at_ hlt
   obtain⟨b',off',x',cs',rfl,hb',hx',-,⟨rfl,-⟩,hat'⟩:=H2.out.at_ hlt
   rw[hx] at hx';injection hx' with hx';subst hx'
   have hii:(i:Int)<xs.length:=by omega
   go_upto_region 6 with fail
   have a0:∀E:Up wr,E.to.cell? ⟨b,off+i*3,none⟩=some (.int .i64 x.cell):=fun E=>E.cell ((KW.out.cell hb).trans (hat 0 _ rfl))
   have a1:∀E:Up wr,E.to.cell? ⟨b,off+i*3+1,none⟩=some (.int .i64 x.fn.kind):=fun E=>E.cell ((KW.out.cell hb).trans (hat 1 _ rfl))
   have a2:∀E:Up wr,E.to.cell? ⟨b,off+i*3+2,none⟩=some (.int .i64 x.fn.n):=fun E=>E.cell ((KW.out.cell hb).trans (hat 2 _ rfl))
   have b0:∀E:Up wr,E.to.cell? ⟨b',off'+i*3,none⟩=some (.int .i64 x.cell):=fun E=>E.cell ((KW.out.cell hb').trans (hat' 0 _ rfl))
   have b1:∀E:Up wr,E.to.cell? ⟨b',off'+i*3+1,none⟩=some (.int .i64 x.fn.kind):=fun E=>E.cell ((KW.out.cell hb').trans (hat' 1 _ rfl))
   have b2:∀E:Up wr,E.to.cell? ⟨b',off'+i*3+2,none⟩=some (.int .i64 x.fn.n):=fun E=>E.cell ((KW.out.cell hb').trans (hat' 2 _ rfl))
   refine aD (by kernel_rfl) (by kernel_rfl) ?_
   repeat (go_big_quiet_step (fail))
   refine wpQuiet_nil ?_
   rintro _ ⟨E,rfl⟩
   have KE:=btZ KW E.below
   clear a0 b0 a1 b1 a2 b2
   go_wp2_with fail
   go_roundw
   case rel=>exact⟨i+1,by go_num,by omega,KE⟩
   case measure=>simp[RowKit.intOf];omega
  ·obtain rfl:i=xs.length:=by omega
   have hnl:¬(xs.length:Int)<xs.length:=by omega
   go_wp2_with fail
   go_ret
   exact⟨rfl,KW.out⟩
theorem ae8 (A A':Option Addr) (cap cap':Nat) (xs:List gM) (w:World) (h1:aH w w.heap.size 2 jW (.slice A xs.length cap) xs) (h2:aH w w.heap.size 2 jW (.slice A' xs.length cap') xs) :
  Calls Tryz.prog 72 #[.slice A xs.length cap,.slice A' xs.length cap'] w (aM (.bool true) w):=by
 have H1:=hI h1
 have H2:=hI h2
 have ll:=aP h1
 clear h1 h2
 go_enter Tryz.func72,Tryz.ntmps72
 go_wp2_with fail
 go_loopw [13] (fun k wr=>∃i:Nat,k=.int .i64 i∧i≤xs.length∧Hid (Below w.heap.size w wr)) (fun k _=>xs.length - (RowKit.intOf k).toNat)
 case atStart=>exact⟨0,rfl,by omega,Below.refl _ _⟩
 case round=>
  obtain⟨i,rfl,hi,KW⟩:=hrel
  by_cases hlt:i<xs.length
  ·obtain⟨b,off,x,cs,rfl,hb,hx,-,⟨rfl,-⟩,hat⟩:=H1.out.at_ hlt
   obtain⟨b',off',x',cs',rfl,hb',hx',-,⟨rfl,-⟩,hat'⟩:=H2.out.at_ hlt
   rw[hx] at hx';injection hx' with hx';subst hx'
   have hii:(i:Int)<xs.length:=by omega
   go_upto_region 6 with fail
   have a0:∀E:Up wr,E.to.cell? ⟨b,off+i*2,none⟩=some (.int .i64 x.reg):=fun E=>E.cell ((KW.out.cell hb).trans (hat 0 _ rfl))
   have a1:∀E:Up wr,E.to.cell? ⟨b,off+i*2+1,none⟩=some (.int .i64 x.at_):=fun E=>E.cell ((KW.out.cell hb).trans (hat 1 _ rfl))
   have b0:∀E:Up wr,E.to.cell? ⟨b',off'+i*2,none⟩=some (.int .i64 x.reg):=fun E=>E.cell ((KW.out.cell hb').trans (hat' 0 _ rfl))
   have b1:∀E:Up wr,E.to.cell? ⟨b',off'+i*2+1,none⟩=some (.int .i64 x.at_):=fun E=>E.cell ((KW.out.cell hb').trans (hat' 1 _ rfl))
   refine aD (by kernel_rfl) (by kernel_rfl) ?_
   repeat (go_big_quiet_step (fail))
   refine wpQuiet_nil ?_
   rintro _ ⟨E,rfl⟩
   have KE:=btZ KW E.below
   clear a0 b0 a1 b1
   go_wp2_with fail
   go_roundw
   case rel=>exact⟨i+1,by go_num,by omega,KE⟩
   case measure=>simp[RowKit.intOf];omega
  ·obtain rfl:i=xs.length:=by omega
   have hnl:¬(xs.length:Int)<xs.length:=by omega
   go_wp2_with fail
   go_ret
   exact⟨rfl,KW.out⟩
theorem aeQ (A A':Option Addr) (cap cap':Nat) (xs:List a8) (fid:FuncId) (hen:∀args W,(callFunc fid args).run Tryz.prog W=.ok (.enter fid args) W) (w:World) (h1:aH w w.heap.size 8 (eR w w.heap.size) (.slice A xs.length cap) xs) (h2:aH w w.heap.size 8 (eR w w.heap.size) (.slice A' xs.length cap') xs)
  (hp:∀(w1:World),Below w.heap.size w w1→∀(x:a8) (cs cs':List Value),eR w w.heap.size cs x→eR w w.heap.size cs' x→Calls Tryz.prog fid #[.agg ⟨cs⟩,.agg ⟨cs'⟩] w1 (aM (.bool true) w1)) :
  Calls Tryz.prog 70 #[.slice A xs.length cap,.slice A' xs.length cap',.func (.func fid) #[] #[]] w (aM (.bool true) w):=by
 have H1:=hI h1
 have H2:=hI h2
 have HP:=hI hp
 have ll:=aP h1
 clear h1 h2 hp
 go_enter Tryz.func70,Tryz.ntmps70
 go_wp2_with fail
 go_loopw [17] (fun k wr=>∃i:Nat,k=.int .i64 i∧i≤xs.length∧Hid (Below w.heap.size w wr)) (fun k _=>xs.length - (RowKit.intOf k).toNat)
 case atStart=>exact⟨0,rfl,by omega,Below.refl _ _⟩
 case round=>
  obtain⟨i,rfl,hi,KW⟩:=hrel
  by_cases hlt:i<xs.length
  ·have hii:(i:Int)<xs.length:=by omega
   obtain⟨b,off,x,cs,rfl,hb,hx,-,hR,hat⟩:=H1.out.at_ hlt
   obtain⟨b',off',x',cs',rfl,hb',hx',-,hR',hat'⟩:=H2.out.at_ hlt
   rw[hx] at hx';injection hx' with hx';subst hx'
   have HC:=hI (fun W k=>HP.out W k x cs cs' hR hR')
   obtain⟨r,t,rfl,hr,ht,-⟩:=hR
   obtain⟨r',t',rfl,hr',ht',-⟩:=hR'
   obtain⟨RA,rc,rfl,-⟩:=id hr
   obtain⟨QA,qc,rfl,-⟩:=id ht
   obtain⟨RA',rc',rfl,-⟩:=id hr'
   obtain⟨QA',qc',rfl,-⟩:=id ht'
   obtain⟨w2,hw2⟩:∃w2,w2=wr.alloc (.cells #[.int .i64 x.fn,.int .i64 x.at_,.int .i64 x.tos,.int .i64 x.gen,.int .i64 x.self.kind,.int .i64 x.self.n,.slice RA x.regs.length rc,.slice QA x.tries.length qc] 61):=⟨_,rfl⟩
   have K2:Hid (Below wr.heap.size wr w2):=by rw[hw2];exact aB _ _
   have HB2:Hid (aA w2 wr.heap.size [.int .i64 x.fn,.int .i64 x.at_,.int .i64 x.tos,.int .i64 x.gen,.int .i64 x.self.kind,.int .i64 x.self.n,.slice RA x.regs.length rc,.slice QA x.tries.length qc]):=by rw[hw2];exact ad5 _ _ _
   have KW2:=btZ KW K2.out
   have HW2:=hI hw2
   have g0:wr.cell? ⟨b,off+i*8,none⟩=some (.int .i64 x.fn):=(KW.out.cell hb).trans (hat 0 _ rfl)
   have g1:wr.cell? ⟨b,off+i*8+1,none⟩=some (.int .i64 x.at_):=(KW.out.cell hb).trans (hat 1 _ rfl)
   have g2:wr.cell? ⟨b,off+i*8+2,none⟩=some (.int .i64 x.tos):=(KW.out.cell hb).trans (hat 2 _ rfl)
   have g3:wr.cell? ⟨b,off+i*8+3,none⟩=some (.int .i64 x.gen):=(KW.out.cell hb).trans (hat 3 _ rfl)
   have g4:wr.cell? ⟨b,off+i*8+4,none⟩=some (.int .i64 x.self.kind):=(KW.out.cell hb).trans (hat 4 _ rfl)
   have g5:wr.cell? ⟨b,off+i*8+5,none⟩=some (.int .i64 x.self.n):=(KW.out.cell hb).trans (hat 5 _ rfl)
   have g6:wr.cell? ⟨b,off+i*8+6,none⟩=some (.slice RA x.regs.length rc):=(KW.out.cell hb).trans (hat 6 _ rfl)
   have g7:wr.cell? ⟨b,off+i*8+7,none⟩=some (.slice QA x.tries.length qc):=(KW.out.cell hb).trans (hat 7 _ rfl)
   have e0:w2.cell? ⟨b',off'+i*8,none⟩=some (.int .i64 x.fn):=(KW2.out.cell hb').trans (hat' 0 _ rfl)
   have e1:w2.cell? ⟨b',off'+i*8+1,none⟩=some (.int .i64 x.at_):=(KW2.out.cell hb').trans (hat' 1 _ rfl)
   have e2:w2.cell? ⟨b',off'+i*8+2,none⟩=some (.int .i64 x.tos):=(KW2.out.cell hb').trans (hat' 2 _ rfl)
   have e3:w2.cell? ⟨b',off'+i*8+3,none⟩=some (.int .i64 x.gen):=(KW2.out.cell hb').trans (hat' 3 _ rfl)
   have e4:w2.cell? ⟨b',off'+i*8+4,none⟩=some (.int .i64 x.self.kind):=(KW2.out.cell hb').trans (hat' 4 _ rfl)
   have e5:w2.cell? ⟨b',off'+i*8+5,none⟩=some (.int .i64 x.self.n):=(KW2.out.cell hb').trans (hat' 5 _ rfl)
   have e6:w2.cell? ⟨b',off'+i*8+6,none⟩=some (.slice RA' x.regs.length rc'):=(KW2.out.cell hb').trans (hat' 6 _ rfl)
   have e7:w2.cell? ⟨b',off'+i*8+7,none⟩=some (.slice QA' x.tries.length qc'):=(KW2.out.cell hb').trans (hat' 7 _ rfl)
   obtain⟨w3,hw3⟩:∃w3,w3=w2.alloc (.cells #[.int .i64 x.fn,.int .i64 x.at_,.int .i64 x.tos,.int .i64 x.gen,.int .i64 x.self.kind,.int .i64 x.self.n,.slice RA' x.regs.length rc',.slice QA' x.tries.length qc'] 61):=⟨_,rfl⟩
   have K3:Hid (Below w2.heap.size w2 w3):=by rw[hw3];exact aB _ _
   have HB3:Hid (aA w3 w2.heap.size [.int .i64 x.fn,.int .i64 x.at_,.int .i64 x.tos,.int .i64 x.gen,.int .i64 x.self.kind,.int .i64 x.self.n,.slice RA' x.regs.length rc',.slice QA' x.tries.length qc']):=by rw[hw3];exact ad5 _ _ _
   have KW3:=btZ KW2 K3.out
   have HW3:=hI hw3
   clear hw2 hw3 hat hat' hx hr ht hr' ht'
   go_upto_region 6 with fail
   rw[←HW2.out]
   clear g0 g1 g2 g3 g4 g5 g6 g7
   go_upto_region 7 with fail
   rw[←HW3.out]
   clear e0 e1 e2 e3 e4 e5 e6 e7
   have x0:w3.cell? ⟨wr.heap.size,0,none⟩=some (.int .i64 x.fn):=aC K3.out (HB2.out 0 _ rfl)
   have x1:w3.cell? ⟨wr.heap.size,1,none⟩=some (.int .i64 x.at_):=aC K3.out (HB2.out 1 _ rfl)
   have x2:w3.cell? ⟨wr.heap.size,2,none⟩=some (.int .i64 x.tos):=aC K3.out (HB2.out 2 _ rfl)
   have x3:w3.cell? ⟨wr.heap.size,3,none⟩=some (.int .i64 x.gen):=aC K3.out (HB2.out 3 _ rfl)
   have x4:w3.cell? ⟨wr.heap.size,4,none⟩=some (.int .i64 x.self.kind):=aC K3.out (HB2.out 4 _ rfl)
   have x5:w3.cell? ⟨wr.heap.size,5,none⟩=some (.int .i64 x.self.n):=aC K3.out (HB2.out 5 _ rfl)
   have x6:w3.cell? ⟨wr.heap.size,6,none⟩=some (.slice RA x.regs.length rc):=aC K3.out (HB2.out 6 _ rfl)
   have x7:w3.cell? ⟨wr.heap.size,7,none⟩=some (.slice QA x.tries.length qc):=aC K3.out (HB2.out 7 _ rfl)
   have y0:=HB3.out 0 _ rfl
   have y1:=HB3.out 1 _ rfl
   have y2:=HB3.out 2 _ rfl
   have y3:=HB3.out 3 _ rfl
   have y4:=HB3.out 4 _ rfl
   have y5:=HB3.out 5 _ rfl
   have y6:=HB3.out 6 _ rfl
   have y7:=HB3.out 7 _ rfl
   go_wp2_with fail
   refine(HC.out w3 KW3.out).mono ?_
   rintro e w4 ⟨rfl,k4⟩
   have KW4:=btZ KW3 k4
   clear k4 x0 y0 x1 y1 x2 y2 x3 y3 x4 y4 x5 y5 x6 y6 x7 y7
   go_wp2_with fail
   go_roundw
   case rel=>exact⟨i+1,by go_num,by omega,KW4⟩
   case measure=>simp[RowKit.intOf];omega
  ·obtain rfl:i=xs.length:=by omega
   have hnl:¬(xs.length:Int)<xs.length:=by omega
   go_wp2_with fail
   go_ret
   exact⟨rfl,KW.out⟩
theorem ae5 (cs cs':List Value) (x:a8) (w0 w:World) (h1:eR w0 w0.heap.size cs x) (h2:eR w0 w0.heap.size cs' x) (k0:Below w0.heap.size w0 w):Calls Tryz.prog 71 #[.agg ⟨cs⟩,.agg ⟨cs'⟩] w (aM (.bool true) w):=by
 have q1:=h1.keep k0.size (fun _ hp=>k0.cell hp)
 have q2:=h2.keep k0.size (fun _ hp=>k0.cell hp)
 obtain⟨r,t,rfl,hr,ht,-⟩:=q1
 obtain⟨r',t',rfl,hr',ht',-⟩:=q2
 obtain⟨RA,rc,rfl,-⟩:=id hr
 obtain⟨QA,qc,rfl,-⟩:=id ht
 obtain⟨RA',rc',rfl,-⟩:=id hr'
 obtain⟨QA',qc',rfl,-⟩:=id ht'
 obtain⟨w1,hw1⟩:∃w1,w1=(w.alloc (.cells #[.int .i64 x.fn,.int .i64 x.at_,.int .i64 x.tos,.int .i64 x.gen,.int .i64 x.self.kind,.int .i64 x.self.n,.slice RA x.regs.length rc,.slice QA x.tries.length qc] 61)).alloc (.cells #[.int .i64 x.fn,.int .i64 x.at_,.int .i64 x.tos,.int .i64 x.gen,.int .i64 x.self.kind,.int .i64 x.self.n,.slice RA' x.regs.length rc',.slice QA' x.tries.length qc'] 61):=⟨_,rfl⟩
 have TB:=jZ w [.int .i64 x.fn,.int .i64 x.at_,.int .i64 x.tos,.int .i64 x.gen,.int .i64 x.self.kind,.int .i64 x.self.n,.slice RA x.regs.length rc,.slice QA x.tries.length qc] [.int .i64 x.fn,.int .i64 x.at_,.int .i64 x.tos,.int .i64 x.gen,.int .i64 x.self.kind,.int .i64 x.self.n,.slice RA' x.regs.length rc',.slice QA' x.tries.length qc'] 61 61
 have hw1':w1=(w.alloc (.cells ⟨[.int .i64 x.fn,.int .i64 x.at_,.int .i64 x.tos,.int .i64 x.gen,.int .i64 x.self.kind,.int .i64 x.self.n,.slice RA x.regs.length rc,.slice QA x.tries.length qc]⟩ 61)).alloc (.cells ⟨[.int .i64 x.fn,.int .i64 x.at_,.int .i64 x.tos,.int .i64 x.gen,.int .i64 x.self.kind,.int .i64 x.self.n,.slice RA' x.regs.length rc',.slice QA' x.tries.length qc']⟩ 61):=hw1
 rw[←hw1'] at TB
 obtain⟨t1,t2,t3⟩:=TB
 have HB1:=hI t1
 have HB2:=hI t2
 have K1:=hI t3
 have HW1:=hI hw1
 have HR:Hid (∀W,Below w.heap.size w W→Calls Tryz.prog 39 #[.slice RA x.regs.length rc,.slice RA' x.regs.length rc'] W (aM (.bool true) W)):=fun W k=>aeL _ _ _ _ _ W (hr.keep k.size (fun _ hp=>k.cell hp) (fun _ _ h=>h)) (hr'.keep k.size (fun _ hp=>k.cell hp) (fun _ _ h=>h))
 have HT:Hid (∀W,Below w.heap.size w W→Calls Tryz.prog 72 #[.slice QA x.tries.length qc,.slice QA' x.tries.length qc'] W (aM (.bool true) W)):=fun W k=>ae8 _ _ _ _ _ W (ht.keep k.size (fun _ hp=>k.cell hp) (fun _ _ h=>h)) (ht'.keep k.size (fun _ hp=>k.cell hp) (fun _ _ h=>h))
 clear t1 t2 t3 hw1 hw1' h1 h2 k0 hr ht hr' ht'
 go_enter Tryz.func71,Tryz.ntmps71
 go_upto_region 1 with fail
 rw[←HW1.out]
 have x0:=HB1.out 0 _ rfl
 have x1:=HB1.out 1 _ rfl
 have x2:=HB1.out 2 _ rfl
 have x3:=HB1.out 3 _ rfl
 have x4:=HB1.out 4 _ rfl
 have x5:=HB1.out 5 _ rfl
 have x6:=HB1.out 6 _ rfl
 have x7:=HB1.out 7 _ rfl
 have y0:w1.cell? ⟨w.heap.size+1,0,none⟩=some (.int .i64 x.fn):=HB2.out 0 _ rfl
 have y1:=HB2.out 1 _ rfl
 have y2:=HB2.out 2 _ rfl
 have y3:=HB2.out 3 _ rfl
 have y4:=HB2.out 4 _ rfl
 have y5:=HB2.out 5 _ rfl
 have y6:=HB2.out 6 _ rfl
 have y7:=HB2.out 7 _ rfl
 go_wp2_with fail
 refine(HR.out w1 K1.out).mono ?_
 rintro e w2 ⟨rfl,kk⟩
 have K2:=btZ K1 kk
 have x7:=aC kk x7
 have y7:=aC kk y7
 clear kk
 go_wp2_with fail
 refine(HT.out w2 K2.out).mono ?_
 rintro e w3 ⟨rfl,kk⟩
 have KK:=btZ K2 kk
 clear kk
 go_wp2_with fail
 go_ret
 exact⟨rfl,KK.out⟩
theorem sents_f:∀args W,(callFunc 71 args).run Tryz.prog W=.ok (.enter 71 args) W:=enters_of Tryz.func71 (by kernel_rfl) rfl
theorem ae1:∀args W,(callFunc 38 args).run Tryz.prog W=.ok (.enter 38 args) W:=enters_of Tryz.func38 (by kernel_rfl) rfl
theorem ae0:∀args W,(callFunc 44 args).run Tryz.prog W=.ok (.enter 44 args) W:=enters_of Tryz.func44 (by kernel_rfl) rfl
theorem aeR (A A':Option Addr) (cap cap':Nat) (xs:List a8) (w:World) (h1:aH w w.heap.size 8 (eR w w.heap.size) (.slice A xs.length cap) xs) (h2:aH w w.heap.size 8 (eR w w.heap.size) (.slice A' xs.length cap') xs) :
  Calls Tryz.prog 40 #[.slice A xs.length cap,.slice A' xs.length cap'] w (aM (.bool true) w):=by
 have HC:=hI (aeQ A A' cap cap' xs 71 sents_f w h1 h2 (fun w1 k x cs cs' a b=>ae5 cs cs' x w w1 a b k))
 clear h1 h2
 go_enter Tryz.func40,Tryz.ntmps40
 go_wp2_with fail
 refine HC.out.mono ?_
 rintro e w2 ⟨rfl,k2⟩
 have K2:=hI k2
 clear k2
 go_wp2_with fail
 go_ret
 exact⟨rfl,K2.out⟩
theorem aeO (A A':Option Addr) (cap cap':Nat) (xs:List bC) (fid:FuncId) (hen:∀args W,(callFunc fid args).run Tryz.prog W=.ok (.enter fid args) W) (w:World) (h1:aH w w.heap.size 4 (jY w w.heap.size) (.slice A xs.length cap) xs) (h2:aH w w.heap.size 4 (jY w w.heap.size) (.slice A' xs.length cap') xs)
  (hp:∀(w1:World),Below w.heap.size w w1→∀(x:bC) (cs cs':List Value),jY w w.heap.size cs x→jY w w.heap.size cs' x→Calls Tryz.prog fid #[.agg ⟨cs⟩,.agg ⟨cs'⟩] w1 (aM (.bool true) w1)) :
  Calls Tryz.prog 37 #[.slice A xs.length cap,.slice A' xs.length cap',.func (.func fid) #[] #[]] w (aM (.bool true) w):=by
 have H1:=hI h1
 have H2:=hI h2
 have HP:=hI hp
 have ll:=aP h1
 clear h1 h2 hp
 go_enter Tryz.func37,Tryz.ntmps37
 go_wp2_with fail
 go_loopw [17] (fun k wr=>∃i:Nat,k=.int .i64 i∧i≤xs.length∧Hid (Below w.heap.size w wr)) (fun k _=>xs.length - (RowKit.intOf k).toNat)
 case atStart=>exact⟨0,rfl,by omega,Below.refl _ _⟩
 case round=>
  obtain⟨i,rfl,hi,KW⟩:=hrel
  by_cases hlt:i<xs.length
  ·have hii:(i:Int)<xs.length:=by omega
   obtain⟨b,off,x,cs,rfl,hb,hx,-,hR,hat⟩:=H1.out.at_ hlt
   obtain⟨b',off',x',cs',rfl,hb',hx',-,hR',hat'⟩:=H2.out.at_ hlt
   rw[hx] at hx';injection hx' with hx';subst hx'
   have HC:=hI (fun W k=>HP.out W k x cs cs' hR hR')
   obtain⟨v,f,rfl,hv,hf,-⟩:=hR
   obtain⟨v',f',rfl,hv',hf',-⟩:=hR'
   obtain⟨VA,vc,rfl,-⟩:=id hv
   obtain⟨FA,fc,rfl,-⟩:=id hf
   obtain⟨VA',vc',rfl,-⟩:=id hv'
   obtain⟨FA',fc',rfl,-⟩:=id hf'
   obtain⟨w2,hw2⟩:∃w2,w2=wr.alloc (.cells #[.int .i64 x.kind,.int .i64 x.num,.slice VA x.vals.length vc,.slice FA x.frames.length fc] 55):=⟨_,rfl⟩
   have K2:Hid (Below wr.heap.size wr w2):=by rw[hw2];exact aB _ _
   have HB2:Hid (aA w2 wr.heap.size [.int .i64 x.kind,.int .i64 x.num,.slice VA x.vals.length vc,.slice FA x.frames.length fc]):=by rw[hw2];exact ad5 _ _ _
   have KW2:=btZ KW K2.out
   have HW2:=hI hw2
   have g0:wr.cell? ⟨b,off+i*4,none⟩=some (.int .i64 x.kind):=(KW.out.cell hb).trans (hat 0 _ rfl)
   have g1:wr.cell? ⟨b,off+i*4+1,none⟩=some (.int .i64 x.num):=(KW.out.cell hb).trans (hat 1 _ rfl)
   have g2:wr.cell? ⟨b,off+i*4+2,none⟩=some (.slice VA x.vals.length vc):=(KW.out.cell hb).trans (hat 2 _ rfl)
   have g3:wr.cell? ⟨b,off+i*4+3,none⟩=some (.slice FA x.frames.length fc):=(KW.out.cell hb).trans (hat 3 _ rfl)
   have e0:w2.cell? ⟨b',off'+i*4,none⟩=some (.int .i64 x.kind):=(KW2.out.cell hb').trans (hat' 0 _ rfl)
   have e1:w2.cell? ⟨b',off'+i*4+1,none⟩=some (.int .i64 x.num):=(KW2.out.cell hb').trans (hat' 1 _ rfl)
   have e2:w2.cell? ⟨b',off'+i*4+2,none⟩=some (.slice VA' x.vals.length vc'):=(KW2.out.cell hb').trans (hat' 2 _ rfl)
   have e3:w2.cell? ⟨b',off'+i*4+3,none⟩=some (.slice FA' x.frames.length fc'):=(KW2.out.cell hb').trans (hat' 3 _ rfl)
   obtain⟨w3,hw3⟩:∃w3,w3=w2.alloc (.cells #[.int .i64 x.kind,.int .i64 x.num,.slice VA' x.vals.length vc',.slice FA' x.frames.length fc'] 55):=⟨_,rfl⟩
   have K3:Hid (Below w2.heap.size w2 w3):=by rw[hw3];exact aB _ _
   have HB3:Hid (aA w3 w2.heap.size [.int .i64 x.kind,.int .i64 x.num,.slice VA' x.vals.length vc',.slice FA' x.frames.length fc']):=by rw[hw3];exact ad5 _ _ _
   have KW3:=btZ KW2 K3.out
   have HW3:=hI hw3
   clear hw2 hw3 hat hat' hx hv hf hv' hf'
   go_upto_region 6 with fail
   rw[←HW2.out]
   clear g0 g1 g2 g3
   go_upto_region 7 with fail
   rw[←HW3.out]
   clear e0 e1 e2 e3
   have x0:w3.cell? ⟨wr.heap.size,0,none⟩=some (.int .i64 x.kind):=aC K3.out (HB2.out 0 _ rfl)
   have x1:w3.cell? ⟨wr.heap.size,1,none⟩=some (.int .i64 x.num):=aC K3.out (HB2.out 1 _ rfl)
   have x2:w3.cell? ⟨wr.heap.size,2,none⟩=some (.slice VA x.vals.length vc):=aC K3.out (HB2.out 2 _ rfl)
   have x3:w3.cell? ⟨wr.heap.size,3,none⟩=some (.slice FA x.frames.length fc):=aC K3.out (HB2.out 3 _ rfl)
   have y0:=HB3.out 0 _ rfl
   have y1:=HB3.out 1 _ rfl
   have y2:=HB3.out 2 _ rfl
   have y3:=HB3.out 3 _ rfl
   go_wp2_with fail
   refine(HC.out w3 KW3.out).mono ?_
   rintro e w4 ⟨rfl,k4⟩
   have KW4:=btZ KW3 k4
   clear k4 x0 y0 x1 y1 x2 y2 x3 y3
   go_wp2_with fail
   go_roundw
   case rel=>exact⟨i+1,by go_num,by omega,KW4⟩
   case measure=>simp[RowKit.intOf];omega
  ·obtain rfl:i=xs.length:=by omega
   have hnl:¬(xs.length:Int)<xs.length:=by omega
   go_wp2_with fail
   go_ret
   exact⟨rfl,KW.out⟩
theorem aeP (A A':Option Addr) (cap cap':Nat) (xs:List bW) (fid:FuncId) (hen:∀args W,(callFunc fid args).run Tryz.prog W=.ok (.enter fid args) W) (w:World) (h1:aH w w.heap.size 5 (g9 w w.heap.size) (.slice A xs.length cap) xs) (h2:aH w w.heap.size 5 (g9 w w.heap.size) (.slice A' xs.length cap') xs)
  (hp:∀(w1:World),Below w.heap.size w w1→∀(x:bW) (cs cs':List Value),g9 w w.heap.size cs x→g9 w w.heap.size cs' x→Calls Tryz.prog fid #[.agg ⟨cs⟩,.agg ⟨cs'⟩] w1 (aM (.bool true) w1)) :
  Calls Tryz.prog 43 #[.slice A xs.length cap,.slice A' xs.length cap',.func (.func fid) #[] #[]] w (aM (.bool true) w):=by
 have H1:=hI h1
 have H2:=hI h2
 have HP:=hI hp
 have ll:=aP h1
 clear h1 h2 hp
 go_enter Tryz.func43,Tryz.ntmps43
 go_wp2_with fail
 go_loopw [17] (fun k wr=>∃i:Nat,k=.int .i64 i∧i≤xs.length∧Hid (Below w.heap.size w wr)) (fun k _=>xs.length - (RowKit.intOf k).toNat)
 case atStart=>exact⟨0,rfl,by omega,Below.refl _ _⟩
 case round=>
  obtain⟨i,rfl,hi,KW⟩:=hrel
  by_cases hlt:i<xs.length
  ·have hii:(i:Int)<xs.length:=by omega
   obtain⟨b,off,x,cs,rfl,hb,hx,-,hR,hat⟩:=H1.out.at_ hlt
   obtain⟨b',off',x',cs',rfl,hb',hx',-,hR',hat'⟩:=H2.out.at_ hlt
   rw[hx] at hx';injection hx' with hx';subst hx'
   have HC:=hI (fun W k=>HP.out W k x cs cs' hR hR')
   obtain⟨f,rfl,hf,-⟩:=hR
   obtain⟨f',rfl,hf',-⟩:=hR'
   obtain⟨FA,fc,rfl,-⟩:=id hf
   obtain⟨FA',fc',rfl,-⟩:=id hf'
   obtain⟨w2,hw2⟩:∃w2,w2=wr.alloc (.cells #[.slice FA x.frames.length fc,.int .i64 x.state,.int .i64 x.on_,.int .i64 x.val.kind,.int .i64 x.val.n] 57):=⟨_,rfl⟩
   have K2:Hid (Below wr.heap.size wr w2):=by rw[hw2];exact aB _ _
   have HB2:Hid (aA w2 wr.heap.size [.slice FA x.frames.length fc,.int .i64 x.state,.int .i64 x.on_,.int .i64 x.val.kind,.int .i64 x.val.n]):=by rw[hw2];exact ad5 _ _ _
   have KW2:=btZ KW K2.out
   have HW2:=hI hw2
   have g0:wr.cell? ⟨b,off+i*5,none⟩=some (.slice FA x.frames.length fc):=(KW.out.cell hb).trans (hat 0 _ rfl)
   have g1:wr.cell? ⟨b,off+i*5+1,none⟩=some (.int .i64 x.state):=(KW.out.cell hb).trans (hat 1 _ rfl)
   have g2:wr.cell? ⟨b,off+i*5+2,none⟩=some (.int .i64 x.on_):=(KW.out.cell hb).trans (hat 2 _ rfl)
   have g3:wr.cell? ⟨b,off+i*5+3,none⟩=some (.int .i64 x.val.kind):=(KW.out.cell hb).trans (hat 3 _ rfl)
   have g4:wr.cell? ⟨b,off+i*5+4,none⟩=some (.int .i64 x.val.n):=(KW.out.cell hb).trans (hat 4 _ rfl)
   have e0:w2.cell? ⟨b',off'+i*5,none⟩=some (.slice FA' x.frames.length fc'):=(KW2.out.cell hb').trans (hat' 0 _ rfl)
   have e1:w2.cell? ⟨b',off'+i*5+1,none⟩=some (.int .i64 x.state):=(KW2.out.cell hb').trans (hat' 1 _ rfl)
   have e2:w2.cell? ⟨b',off'+i*5+2,none⟩=some (.int .i64 x.on_):=(KW2.out.cell hb').trans (hat' 2 _ rfl)
   have e3:w2.cell? ⟨b',off'+i*5+3,none⟩=some (.int .i64 x.val.kind):=(KW2.out.cell hb').trans (hat' 3 _ rfl)
   have e4:w2.cell? ⟨b',off'+i*5+4,none⟩=some (.int .i64 x.val.n):=(KW2.out.cell hb').trans (hat' 4 _ rfl)
   obtain⟨w3,hw3⟩:∃w3,w3=w2.alloc (.cells #[.slice FA' x.frames.length fc',.int .i64 x.state,.int .i64 x.on_,.int .i64 x.val.kind,.int .i64 x.val.n] 57):=⟨_,rfl⟩
   have K3:Hid (Below w2.heap.size w2 w3):=by rw[hw3];exact aB _ _
   have HB3:Hid (aA w3 w2.heap.size [.slice FA' x.frames.length fc',.int .i64 x.state,.int .i64 x.on_,.int .i64 x.val.kind,.int .i64 x.val.n]):=by rw[hw3];exact ad5 _ _ _
   have KW3:=btZ KW2 K3.out
   have HW3:=hI hw3
   clear hw2 hw3 hat hat' hx hf hf'
   go_upto_region 6 with fail
   rw[←HW2.out]
   clear g0 g1 g2 g3 g4
   go_upto_region 7 with fail
   rw[←HW3.out]
   clear e0 e1 e2 e3 e4
   have x0:w3.cell? ⟨wr.heap.size,0,none⟩=some (.slice FA x.frames.length fc):=aC K3.out (HB2.out 0 _ rfl)
   have x1:w3.cell? ⟨wr.heap.size,1,none⟩=some (.int .i64 x.state):=aC K3.out (HB2.out 1 _ rfl)
   have x2:w3.cell? ⟨wr.heap.size,2,none⟩=some (.int .i64 x.on_):=aC K3.out (HB2.out 2 _ rfl)
   have x3:w3.cell? ⟨wr.heap.size,3,none⟩=some (.int .i64 x.val.kind):=aC K3.out (HB2.out 3 _ rfl)
   have x4:w3.cell? ⟨wr.heap.size,4,none⟩=some (.int .i64 x.val.n):=aC K3.out (HB2.out 4 _ rfl)
   have y0:=HB3.out 0 _ rfl
   have y1:=HB3.out 1 _ rfl
   have y2:=HB3.out 2 _ rfl
   have y3:=HB3.out 3 _ rfl
   have y4:=HB3.out 4 _ rfl
   go_wp2_with fail
   refine(HC.out w3 KW3.out).mono ?_
   rintro e w4 ⟨rfl,k4⟩
   have KW4:=btZ KW3 k4
   clear k4 x0 y0 x1 y1 x2 y2 x3 y3 x4 y4
   go_wp2_with fail
   go_roundw
   case rel=>exact⟨i+1,by go_num,by omega,KW4⟩
   case measure=>simp[RowKit.intOf];omega
  ·obtain rfl:i=xs.length:=by omega
   have hnl:¬(xs.length:Int)<xs.length:=by omega
   go_wp2_with fail
   go_ret
   exact⟨rfl,KW.out⟩
theorem same1_c (cs cs':List Value) (x:bC) (w0 w:World) (h1:jY w0 w0.heap.size cs x) (h2:jY w0 w0.heap.size cs' x) (k0:Below w0.heap.size w0 w):Calls Tryz.prog 38 #[.agg ⟨cs⟩,.agg ⟨cs'⟩] w (aM (.bool true) w):=by
 have q1:=h1.keep k0.size (fun _ hp=>k0.cell hp)
 have q2:=h2.keep k0.size (fun _ hp=>k0.cell hp)
 obtain⟨v,f,rfl,hv,hf,-⟩:=q1
 obtain⟨v',f',rfl,hv',hf',-⟩:=q2
 obtain⟨VA,vc,rfl,-⟩:=id hv
 obtain⟨FA,fc,rfl,-⟩:=id hf
 obtain⟨VA',vc',rfl,-⟩:=id hv'
 obtain⟨FA',fc',rfl,-⟩:=id hf'
 obtain⟨w1,hw1⟩:∃w1,w1=(w.alloc (.cells #[.int .i64 x.kind,.int .i64 x.num,.slice VA x.vals.length vc,.slice FA x.frames.length fc] 55)).alloc (.cells #[.int .i64 x.kind,.int .i64 x.num,.slice VA' x.vals.length vc',.slice FA' x.frames.length fc'] 55):=⟨_,rfl⟩
 have TB:=jZ w [.int .i64 x.kind,.int .i64 x.num,.slice VA x.vals.length vc,.slice FA x.frames.length fc] [.int .i64 x.kind,.int .i64 x.num,.slice VA' x.vals.length vc',.slice FA' x.frames.length fc'] 55 55
 have hw1':w1=(w.alloc (.cells ⟨[.int .i64 x.kind,.int .i64 x.num,.slice VA x.vals.length vc,.slice FA x.frames.length fc]⟩ 55)).alloc (.cells ⟨[.int .i64 x.kind,.int .i64 x.num,.slice VA' x.vals.length vc',.slice FA' x.frames.length fc']⟩ 55):=hw1
 rw[←hw1'] at TB
 obtain⟨t1,t2,t3⟩:=TB
 have HB1:=hI t1
 have HB2:=hI t2
 have K1:=hI t3
 have HW1:=hI hw1
 have HV:Hid (∀W,Below w.heap.size w W→Calls Tryz.prog 39 #[.slice VA x.vals.length vc,.slice VA' x.vals.length vc'] W (aM (.bool true) W)):=fun W k=>aeL _ _ _ _ _ W (hv.keep k.size (fun _ hp=>k.cell hp) (fun _ _ h=>h)) (hv'.keep k.size (fun _ hp=>k.cell hp) (fun _ _ h=>h))
 have HF:Hid (∀W,Below w.heap.size w W→Calls Tryz.prog 40 #[.slice FA x.frames.length fc,.slice FA' x.frames.length fc'] W (aM (.bool true) W)):=fun W k=>aeR _ _ _ _ _ W (hf.keep k.size (fun _ hp=>k.cell hp) (fun _ _ h=>h.keep k.size (fun _ hp=>k.cell hp))) (hf'.keep k.size (fun _ hp=>k.cell hp) (fun _ _ h=>h.keep k.size (fun _ hp=>k.cell hp)))
 clear t1 t2 t3 hw1 hw1' h1 h2 k0 hv hf hv' hf'
 go_enter Tryz.func38,Tryz.ntmps38
 go_upto_region 1 with fail
 rw[←HW1.out]
 have x0:=HB1.out 0 _ rfl
 have x1:=HB1.out 1 _ rfl
 have x2:=HB1.out 2 _ rfl
 have x3:=HB1.out 3 _ rfl
 have y0:w1.cell? ⟨w.heap.size+1,0,none⟩=some (.int .i64 x.kind):=HB2.out 0 _ rfl
 have y1:=HB2.out 1 _ rfl
 have y2:=HB2.out 2 _ rfl
 have y3:=HB2.out 3 _ rfl
 go_wp2_with fail
 refine(HV.out w1 K1.out).mono ?_
 rintro e w2 ⟨rfl,kk⟩
 have K2:=btZ K1 kk
 have x3:=aC kk x3
 have y3:=aC kk y3
 clear kk
 go_wp2_with fail
 refine(HF.out w2 K2.out).mono ?_
 rintro e w3 ⟨rfl,kk⟩
 have KK:=btZ K2 kk
 clear kk
 go_wp2_with fail
 go_ret
 exact⟨rfl,KK.out⟩
theorem same2_c (cs cs':List Value) (x:bW) (w0 w:World) (h1:g9 w0 w0.heap.size cs x) (h2:g9 w0 w0.heap.size cs' x) (k0:Below w0.heap.size w0 w):Calls Tryz.prog 44 #[.agg ⟨cs⟩,.agg ⟨cs'⟩] w (aM (.bool true) w):=by
 have q1:=h1.keep k0.size (fun _ hp=>k0.cell hp)
 have q2:=h2.keep k0.size (fun _ hp=>k0.cell hp)
 obtain⟨f,rfl,hf,-⟩:=q1
 obtain⟨f',rfl,hf',-⟩:=q2
 obtain⟨FA,fc,rfl,-⟩:=id hf
 obtain⟨FA',fc',rfl,-⟩:=id hf'
 obtain⟨w1,hw1⟩:∃w1,w1=(w.alloc (.cells #[.slice FA x.frames.length fc,.int .i64 x.state,.int .i64 x.on_,.int .i64 x.val.kind,.int .i64 x.val.n] 57)).alloc (.cells #[.slice FA' x.frames.length fc',.int .i64 x.state,.int .i64 x.on_,.int .i64 x.val.kind,.int .i64 x.val.n] 57):=⟨_,rfl⟩
 have TB:=jZ w [.slice FA x.frames.length fc,.int .i64 x.state,.int .i64 x.on_,.int .i64 x.val.kind,.int .i64 x.val.n] [.slice FA' x.frames.length fc',.int .i64 x.state,.int .i64 x.on_,.int .i64 x.val.kind,.int .i64 x.val.n] 57 57
 have hw1':w1=(w.alloc (.cells ⟨[.slice FA x.frames.length fc,.int .i64 x.state,.int .i64 x.on_,.int .i64 x.val.kind,.int .i64 x.val.n]⟩ 57)).alloc (.cells ⟨[.slice FA' x.frames.length fc',.int .i64 x.state,.int .i64 x.on_,.int .i64 x.val.kind,.int .i64 x.val.n]⟩ 57):=hw1
 rw[←hw1'] at TB
 obtain⟨t1,t2,t3⟩:=TB
 have HB1:=hI t1
 have HB2:=hI t2
 have K1:=hI t3
 have HW1:=hI hw1
 have HF:Hid (∀W,Below w.heap.size w W→Calls Tryz.prog 40 #[.slice FA x.frames.length fc,.slice FA' x.frames.length fc'] W (aM (.bool true) W)):=fun W k=>aeR _ _ _ _ _ W (hf.keep k.size (fun _ hp=>k.cell hp) (fun _ _ h=>h.keep k.size (fun _ hp=>k.cell hp))) (hf'.keep k.size (fun _ hp=>k.cell hp) (fun _ _ h=>h.keep k.size (fun _ hp=>k.cell hp)))
 clear t1 t2 t3 hw1 hw1' h1 h2 k0 hf hf'
 go_enter Tryz.func44,Tryz.ntmps44
 go_upto_region 1 with fail
 rw[←HW1.out]
 have x0:=HB1.out 0 _ rfl
 have x1:=HB1.out 1 _ rfl
 have x2:=HB1.out 2 _ rfl
 have x3:=HB1.out 3 _ rfl
 have x4:=HB1.out 4 _ rfl
 have y0:w1.cell? ⟨w.heap.size+1,0,none⟩=some (.slice FA' x.frames.length fc'):=HB2.out 0 _ rfl
 have y1:=HB2.out 1 _ rfl
 have y2:=HB2.out 2 _ rfl
 have y3:=HB2.out 3 _ rfl
 have y4:=HB2.out 4 _ rfl
 go_wp2_with fail
 refine(HF.out w1 K1.out).mono ?_
 rintro e w2 ⟨rfl,kk⟩
 have KK:=btZ K1 kk
 clear kk
 go_wp2_with fail
 go_ret
 exact⟨rfl,KK.out⟩
theorem aeY (cs cs':List Value) (S:aR) (w:World) (h1:gK w w.heap.size cs S) (h2:gK w w.heap.size cs' S):Calls Tryz.prog 23 #[.agg ⟨cs⟩,.agg ⟨cs'⟩] w (aM (.bool true) w):=by
 obtain⟨c,s,x,tv,en,sa,rfl,hc,hsh,htx,hth,hen,hsa,-⟩:=h1
 obtain⟨CA,cc,rfl,-⟩:=id hc
 obtain⟨SA,sc,rfl,-⟩:=id hsh
 obtain⟨XA,xc,rfl,-⟩:=id htx
 obtain⟨TA,tc,rfl,-⟩:=id hth
 obtain⟨EA,ec,rfl,-⟩:=id hen
 obtain⟨AA,ac,rfl,-⟩:=id hsa
 obtain⟨c',s',x',tv',en',sa',rfl,hc',hsh',htx',hth',hen',hsa',-⟩:=h2
 obtain⟨CA',cc',rfl,-⟩:=id hc'
 obtain⟨SA',sc',rfl,-⟩:=id hsh'
 obtain⟨XA',xc',rfl,-⟩:=id htx'
 obtain⟨TA',tc',rfl,-⟩:=id hth'
 obtain⟨EA',ec',rfl,-⟩:=id hen'
 obtain⟨AA',ac',rfl,-⟩:=id hsa'
 obtain⟨w1,hw1⟩:∃w1,w1=(w.alloc (.cells #[.slice CA S.cells.length cc,.slice SA S.shapes.length sc,.slice XA S.texts.length xc,.slice TA S.threads.length tc,.slice EA S.ends.length ec,.slice AA S.said.length ac,.int .i64 S.asked,.int .i64 S.steps] 40)).alloc (.cells #[.slice CA' S.cells.length cc',.slice SA' S.shapes.length sc',.slice XA' S.texts.length xc',.slice TA' S.threads.length tc',.slice EA' S.ends.length ec',.slice AA' S.said.length ac',.int .i64 S.asked,.int .i64 S.steps] 40):=⟨_,rfl⟩
 have TB:=jZ w [.slice CA S.cells.length cc,.slice SA S.shapes.length sc,.slice XA S.texts.length xc,.slice TA S.threads.length tc,.slice EA S.ends.length ec,.slice AA S.said.length ac,.int .i64 S.asked,.int .i64 S.steps] [.slice CA' S.cells.length cc',.slice SA' S.shapes.length sc',.slice XA' S.texts.length xc',.slice TA' S.threads.length tc',.slice EA' S.ends.length ec',.slice AA' S.said.length ac',.int .i64 S.asked,.int .i64 S.steps] 40 40
 have hw1':w1=(w.alloc (.cells ⟨[.slice CA S.cells.length cc,.slice SA S.shapes.length sc,.slice XA S.texts.length xc,.slice TA S.threads.length tc,.slice EA S.ends.length ec,.slice AA S.said.length ac,.int .i64 S.asked,.int .i64 S.steps]⟩ 40)).alloc (.cells ⟨[.slice CA' S.cells.length cc',.slice SA' S.shapes.length sc',.slice XA' S.texts.length xc',.slice TA' S.threads.length tc',.slice EA' S.ends.length ec',.slice AA' S.said.length ac',.int .i64 S.asked,.int .i64 S.steps]⟩ 40):=hw1
 rw[←hw1'] at TB
 obtain⟨t1,t2,t3⟩:=TB
 have HB1:=hI t1
 have HB2:=hI t2
 have K1:=hI t3
 have HW1:=hI hw1
 have HCL:Hid (∀W,Below w.heap.size w W→Calls Tryz.prog 37 #[.slice CA S.cells.length cc,.slice CA' S.cells.length cc',.func (.func 38) #[] #[]] W (aM (.bool true) W)):=fun W k=>aeO _ _ _ _ _ _ ae1 W (hc.keep k.size (fun _ hp=>k.cell hp) (fun _ _ h=>h.keep k.size (fun _ hp=>k.cell hp))) (hc'.keep k.size (fun _ hp=>k.cell hp) (fun _ _ h=>h.keep k.size (fun _ hp=>k.cell hp))) (fun w1 kk x cs cs' a b=>same1_c cs cs' x W w1 a b kk)
 have HSH:Hid (∀W,Below w.heap.size w W→Calls Tryz.prog 41 #[.slice SA S.shapes.length sc,.slice SA' S.shapes.length sc'] W (aM (.bool true) W)):=fun W k=>afA _ _ _ _ _ W (hsh.keep k.size (fun _ hp=>k.cell hp) (fun _ _ h=>h)) (hsh'.keep k.size (fun _ hp=>k.cell hp) (fun _ _ h=>h))
 have HTX:Hid (∀W,Below w.heap.size w W→Calls Tryz.prog 42 #[.slice XA S.texts.length xc,.slice XA' S.texts.length xc'] W (aM (.bool true) W)):=fun W k=>ae9 _ _ _ _ _ W (htx.keep k.size (fun _ hp=>k.cell hp) (fun _ _ h=>h)) (htx'.keep k.size (fun _ hp=>k.cell hp) (fun _ _ h=>h))
 have HTR:Hid (∀W,Below w.heap.size w W→Calls Tryz.prog 43 #[.slice TA S.threads.length tc,.slice TA' S.threads.length tc',.func (.func 44) #[] #[]] W (aM (.bool true) W)):=fun W k=>aeP _ _ _ _ _ _ ae0 W (hth.keep k.size (fun _ hp=>k.cell hp) (fun _ _ h=>h.keep k.size (fun _ hp=>k.cell hp))) (hth'.keep k.size (fun _ hp=>k.cell hp) (fun _ _ h=>h.keep k.size (fun _ hp=>k.cell hp))) (fun w1 kk x cs cs' a b=>same2_c cs cs' x W w1 a b kk)
 have HEN:Hid (∀W,Below w.heap.size w W→Calls Tryz.prog 45 #[.slice EA S.ends.length ec,.slice EA' S.ends.length ec'] W (aM (.bool true) W)):=fun W k=>afB _ _ _ _ _ W (hen.keep k.size (fun _ hp=>k.cell hp) (fun _ _ h=>h)) (hen'.keep k.size (fun _ hp=>k.cell hp) (fun _ _ h=>h))
 have HSA:Hid (∀W,Below w.heap.size w W→Calls Tryz.prog 39 #[.slice AA S.said.length ac,.slice AA' S.said.length ac'] W (aM (.bool true) W)):=fun W k=>aeL _ _ _ _ _ W (hsa.keep k.size (fun _ hp=>k.cell hp) (fun _ _ h=>h)) (hsa'.keep k.size (fun _ hp=>k.cell hp) (fun _ _ h=>h))
 clear t1 t2 t3 hw1 hw1' hc hsh htx hth hen hsa hc' hsh' htx' hth' hen' hsa'
 have hen1:=ae1
 have hen2:=ae0
 go_enter Tryz.func23,Tryz.ntmps23
 go_upto_region 1 with fail
 rw[←HW1.out]
 have x0:=HB1.out 0 _ rfl
 have x1:=HB1.out 1 _ rfl
 have x2:=HB1.out 2 _ rfl
 have x3:=HB1.out 3 _ rfl
 have x4:=HB1.out 4 _ rfl
 have x5:=HB1.out 5 _ rfl
 have x6:=HB1.out 6 _ rfl
 have x7:=HB1.out 7 _ rfl
 have y0:w1.cell? ⟨w.heap.size+1,0,none⟩=some (.slice CA' S.cells.length cc'):=HB2.out 0 _ rfl
 have y1:=HB2.out 1 _ rfl
 have y2:=HB2.out 2 _ rfl
 have y3:=HB2.out 3 _ rfl
 have y4:=HB2.out 4 _ rfl
 have y5:=HB2.out 5 _ rfl
 have y6:=HB2.out 6 _ rfl
 have y7:=HB2.out 7 _ rfl
 go_wp2_with fail
 refine(HCL.out w1 K1.out).mono ?_
 rintro e w2 ⟨rfl,kk⟩
 have K2:=btZ K1 kk
 have x1:=aC kk x1
 have y1:=aC kk y1
 have x2:=aC kk x2
 have y2:=aC kk y2
 have x3:=aC kk x3
 have y3:=aC kk y3
 have x4:=aC kk x4
 have y4:=aC kk y4
 have x5:=aC kk x5
 have y5:=aC kk y5
 have x6:=aC kk x6
 have y6:=aC kk y6
 have x7:=aC kk x7
 have y7:=aC kk y7
 clear kk
 go_wp2_with fail
 refine(HSH.out w2 K2.out).mono ?_
 rintro e w3 ⟨rfl,kk⟩
 have K3:=btZ K2 kk
 have x2:=aC kk x2
 have y2:=aC kk y2
 have x3:=aC kk x3
 have y3:=aC kk y3
 have x4:=aC kk x4
 have y4:=aC kk y4
 have x5:=aC kk x5
 have y5:=aC kk y5
 have x6:=aC kk x6
 have y6:=aC kk y6
 have x7:=aC kk x7
 have y7:=aC kk y7
 clear kk
 go_wp2_with fail
 refine(HTX.out w3 K3.out).mono ?_
 rintro e w4 ⟨rfl,kk⟩
 have K4:=btZ K3 kk
 have x3:=aC kk x3
 have y3:=aC kk y3
 have x4:=aC kk x4
 have y4:=aC kk y4
 have x5:=aC kk x5
 have y5:=aC kk y5
 have x6:=aC kk x6
 have y6:=aC kk y6
 have x7:=aC kk x7
 have y7:=aC kk y7
 clear kk
 go_wp2_with fail
 refine(HTR.out w4 K4.out).mono ?_
 rintro e w5 ⟨rfl,kk⟩
 have K5:=btZ K4 kk
 have x4:=aC kk x4
 have y4:=aC kk y4
 have x5:=aC kk x5
 have y5:=aC kk y5
 have x6:=aC kk x6
 have y6:=aC kk y6
 have x7:=aC kk x7
 have y7:=aC kk y7
 clear kk
 go_wp2_with fail
 refine(HEN.out w5 K5.out).mono ?_
 rintro e w6 ⟨rfl,kk⟩
 have K6:=btZ K5 kk
 have x5:=aC kk x5
 have y5:=aC kk y5
 have x6:=aC kk x6
 have y6:=aC kk y6
 have x7:=aC kk x7
 have y7:=aC kk y7
 clear kk
 go_wp2_with fail
 refine(HSA.out w6 K6.out).mono ?_
 rintro e w7 ⟨rfl,kk⟩
 have K7:=btZ K6 kk
 have x6:=aC kk x6
 have y6:=aC kk y6
 have x7:=aC kk x7
 have y7:=aC kk y7
 clear kk
 go_wp2_with fail
 go_ret
 exact⟨rfl,K7.out⟩
end
end Go.Proofs.YtjaphgpkkfdaaaaGreatDoor
