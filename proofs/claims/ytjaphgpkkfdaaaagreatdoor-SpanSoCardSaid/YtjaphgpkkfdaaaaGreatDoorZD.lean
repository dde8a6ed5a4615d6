/- A part of the walk. -/
import Derived.Test.YtjaphgpkkfdaaaaGreatDoorZC
import Derived.Lib.Strings
set_option maxHeartbeats 16000000
set_option maxRecDepth 100000
set_option linter.all false
namespace Go.Proofs.YtjaphgpkkfdaaaaGreatDoor
open Tryz
section
open Go.RowKit
theorem ad6 {P:Program} {f:FuncId} {d:Array Value} {w:World} {E:Up w} {v:Value} (h:Calls P f d E.to λe w'=>e=.returned v/\E.to=w'):Calls P f d E.to λe g=>e=.returned v/\∃j:Up w,g=j.to:= h.mono λ_ _ ⟨i,hb⟩=>⟨i,E,hb.symm⟩
theorem zG (s:ByteArray) (x y z:UInt8) (h:s.data.toList=[x,y,z]):s.size=3/\∀(n:Nat) (d:n<s.size),s[n]=[x,y,z][n]'(by have:s.size=3:=(by have:=congrArg List.length h;simpa using this);simp;omega):=by
 have f:s.size=3:=by have:=congrArg List.length h;simpa using this
 refine⟨f,λn d=>?_⟩;have e:s.data.toList[n]'(by simpa using d)=[x,y,z][n]'(by simp;omega):=by simp[h]
 rw[<-e];rfl
theorem acH (cs Z:List Value) (p:aW) (f:CFn) (at_:Int) (i:fE) (w:World) (h:fC w w.heap.size cs p f) (r:1<=f.regs) (f0:f.regs<=60) (hi:iA Z i) (hn:mI p f i=false) : Calls prog 115 #[.agg ⟨cs⟩,.int .i64 at_,.agg ⟨Z⟩] w (aM (.bool false) w):=by
 obtain⟨q,u⟩:∃q,q=(w.alloc (.cells ⟨cs⟩ 191)).alloc (.cells ⟨Z⟩ 193):=⟨_,rfl⟩;have A:Hid (Below w.heap.size w q):=by rw[u];exact bE w _ _
 have g:Hid (aA q w.heap.size cs):=by rw[u];exact(ad5 w cs _).old _
 have l:Hid (aA q (w.heap.size+1) Z):=by rw[u];exact λi v hv=>by rw[mM];simpa using hv
 have m:Hid (∀w',Below q.heap.size q w'->fC w' w'.heap.size cs p f):=λw' k=>h.keep (Nat.le_trans A.o.size k.size) (λ_ h=>(k.cell (Nat.lt_of_lt_of_le h A.o.size)).trans (A.o.cell h));obtain⟨rfl,v1,v2,v3,v4,v5⟩:=hi;obtain⟨pc,fc,rfl,⟨A1,n1,A2,n2,A3,n3,rfl,p1,p2,p3⟩,⟨A4,n4,A5,n5,rfl,q1,q2,e7,e9⟩⟩:=h;have l1:=aP p1;have P1:=hI p1;clear p1 p2 p3 q1 q2;simp only[List.cons_append,List.nil_append] at u g m;have HW:=hI u;clear u;rcases qE i.op with hf | ⟨x,y,z,hf⟩
 ·have HF:=hI hf;clear hf hn;go_enter func115,ntmps115;go_wp2_with fail;rw[<-HW.o];refine(pL i.op q).mono ?_;rw[HF.o];rintro e w1 ⟨rfl,d⟩;have j:=hI d;have C:=ecZ (g.o.on d 0 _ rfl);have D:=ecZ (g.o.on d 1 _ rfl);have F:=ecZ (g.o.on d 2 _ rfl);have G:=ecZ (g.o.on d 3 _ rfl);have c4:=ecZ (g.o.on d 4 _ rfl);have H:=ecZ (g.o.on d 5 _ rfl);have I:=ecZ (g.o.on d 6 _ rfl);have J:=ecZ (g.o.on d 7 _ rfl);have K:=ecZ (l.o.on d 0 _ rfl);have L:=ecZ (l.o.on d 1 _ rfl);have M:=ecZ (l.o.on d 2 _ rfl);have N:=ecZ (l.o.on d 3 _ rfl);have O:=ecZ (l.o.on d 4 _ rfl);clear d;go_wp2_with fail;refine aD (by kernel_rfl) (by kernel_rfl) ?_;repeat (go_big_quiet_step (fail))
  refine wpQuiet_nil ?_;rintro _ ⟨E,rfl⟩;have P:=hI (A.o.trans ((j.o.trans (E.below.mono j.o.size)).mono A.o.size));clear C D F G c4 H I J K L M N O;go_wp2_with fail;go_ret;exact⟨rfl,P.o⟩
 ·have HF:=hI hf;have V:(aK i.line 0 2000 && cD p f x i.a && cD p f y i.b && cD p f z i.c)=false:=by rw[<-hn];simp[mI,hf]
  clear hf hn;obtain⟨sz,d8⟩:=zG ⟨#[x,y,z]⟩ x y z rfl;have i0:∀W,(Instr.index 9 (.string ⟨#[x,y,z]⟩) (.int .i64 0)).run prog W=.ok (.int .u8 x.toNat) W:=λW=>by rw[run_index_string _ _ _ _ _ underlying9,dif_pos ⟨by omega,by rw[sz];decide⟩];rfl
  have i1:∀W,(Instr.index 9 (.string ⟨#[x,y,z]⟩) (.int .i64 1)).run prog W=.ok (.int .u8 y.toNat) W:=λW=>by rw[run_index_string _ _ _ _ _ underlying9,dif_pos ⟨by omega,by rw[sz];decide⟩];rfl
  have i2:∀W,(Instr.index 9 (.string ⟨#[x,y,z]⟩) (.int .i64 2)).run prog W=.ok (.int .u8 z.toNat) W:=λW=>by rw[run_index_string _ _ _ _ _ underlying9,dif_pos ⟨by omega,by rw[sz];decide⟩];rfl
  clear sz d8;cases S:aK i.line 0 2000
  ·clear V;go_enter func115,ntmps115;go_wp2_with fail;rw[<-HW.o];refine(pL i.op q).mono ?_;rw[HF.o];rintro e w1 ⟨rfl,d⟩;have j:=hI d;have C:=ecZ (g.o.on d 0 _ rfl);have D:=ecZ (g.o.on d 1 _ rfl);have F:=ecZ (g.o.on d 2 _ rfl);have G:=ecZ (g.o.on d 3 _ rfl);have c4:=ecZ (g.o.on d 4 _ rfl);have H:=ecZ (g.o.on d 5 _ rfl);have I:=ecZ (g.o.on d 6 _ rfl);have J:=ecZ (g.o.on d 7 _ rfl);have K:=ecZ (l.o.on d 0 _ rfl);have L:=ecZ (l.o.on d 1 _ rfl);have M:=ecZ (l.o.on d 2 _ rfl);have N:=ecZ (l.o.on d 3 _ rfl);have O:=ecZ (l.o.on d 4 _ rfl);clear d;have B0:Hid (∀E:Up w1,Calls prog 156 #[.int .i64 i.line,.int .i64 0,.int .i64 2000] E.to λe w'=>e=.returned (.bool (aK i.line 0 2000))/\E.to=w'):=λE=>dR _ _ _ _;have s:Hid (∀E:Up w1,Calls prog 157 #[.agg ⟨_⟩,.int .u8 x.toNat,.int .i64 i.a] E.to (aM (.bool (cD p f x i.a)) E.to)):=λE=>eX _ p f x i.a E.to (m.o _ (j.o.trans (E.below.mono j.o.size))) r;have R:Hid (∀E:Up w1,Calls prog 157 #[.agg ⟨_⟩,.int .u8 y.toNat,.int .i64 i.b] E.to (aM (.bool (cD p f y i.b)) E.to)):=λE=>eX _ p f y i.b E.to (m.o _ (j.o.trans (E.below.mono j.o.size))) r;have X:Hid (∀E:Up w1,Calls prog 157 #[.agg ⟨_⟩,.int .u8 z.toNat,.int .i64 i.c] E.to (aM (.bool (cD p f z i.c)) E.to)):=λE=>eX _ p f z i.c E.to (m.o _ (j.o.trans (E.below.mono j.o.size))) r;rw[S] at B0;clear S;go_wp2_with fail;refine aD (by kernel_rfl) (by kernel_rfl) ?_
   repeat (go_big_quiet_step ((first
    | (go_at_call 156;with_reducible exact ad6 (B0.o _))
    | (go_at_call 157;with_reducible exact Calls.up (s.o _))
    | (go_at_call 157;with_reducible exact Calls.up (R.o _))
    | (go_at_call 157;with_reducible exact Calls.up (X.o _)))))
   refine wpQuiet_nil ?_;rintro _ ⟨E,rfl⟩;have Y:=btZ j E.below;have P:=btZ A Y.o;clear C D F G c4 H I J K L M N O;go_wp2_with fail;go_ret;exact⟨rfl,P.o⟩
  ·have e4:=trivial;cases b1:cD p f x i.a
   ·clear V;go_enter func115,ntmps115;go_wp2_with fail;rw[<-HW.o];refine(pL i.op q).mono ?_;rw[HF.o];rintro e w1 ⟨rfl,d⟩;have j:=hI d;have C:=ecZ (g.o.on d 0 _ rfl);have D:=ecZ (g.o.on d 1 _ rfl);have F:=ecZ (g.o.on d 2 _ rfl);have G:=ecZ (g.o.on d 3 _ rfl);have c4:=ecZ (g.o.on d 4 _ rfl);have H:=ecZ (g.o.on d 5 _ rfl);have I:=ecZ (g.o.on d 6 _ rfl);have J:=ecZ (g.o.on d 7 _ rfl);have K:=ecZ (l.o.on d 0 _ rfl);have L:=ecZ (l.o.on d 1 _ rfl);have M:=ecZ (l.o.on d 2 _ rfl);have N:=ecZ (l.o.on d 3 _ rfl);have O:=ecZ (l.o.on d 4 _ rfl);clear d;have B0:Hid (∀E:Up w1,Calls prog 156 #[.int .i64 i.line,.int .i64 0,.int .i64 2000] E.to λe w'=>e=.returned (.bool (aK i.line 0 2000))/\E.to=w'):=λE=>dR _ _ _ _;have s:Hid (∀E:Up w1,Calls prog 157 #[.agg ⟨_⟩,.int .u8 x.toNat,.int .i64 i.a] E.to (aM (.bool (cD p f x i.a)) E.to)):=λE=>eX _ p f x i.a E.to (m.o _ (j.o.trans (E.below.mono j.o.size))) r;have R:Hid (∀E:Up w1,Calls prog 157 #[.agg ⟨_⟩,.int .u8 y.toNat,.int .i64 i.b] E.to (aM (.bool (cD p f y i.b)) E.to)):=λE=>eX _ p f y i.b E.to (m.o _ (j.o.trans (E.below.mono j.o.size))) r;have X:Hid (∀E:Up w1,Calls prog 157 #[.agg ⟨_⟩,.int .u8 z.toNat,.int .i64 i.c] E.to (aM (.bool (cD p f z i.c)) E.to)):=λE=>eX _ p f z i.c E.to (m.o _ (j.o.trans (E.below.mono j.o.size))) r;rw[S] at B0;rw[b1] at s;clear S b1;go_wp2_with fail;refine aD (by kernel_rfl) (by kernel_rfl) ?_
    repeat (go_big_quiet_step ((first
     | (go_at_call 156;with_reducible exact ad6 (B0.o _))
     | (go_at_call 157;with_reducible exact Calls.up (s.o _))
     | (go_at_call 157;with_reducible exact Calls.up (R.o _))
     | (go_at_call 157;with_reducible exact Calls.up (X.o _)))))
    refine wpQuiet_nil ?_;rintro _ ⟨E,rfl⟩;have Y:=btZ j E.below;have P:=btZ A Y.o;clear C D F G c4 H I J K L M N O;go_wp2_with fail;go_ret;exact⟨rfl,P.o⟩
   ·have e5:=trivial;cases b2:cD p f y i.b
    ·clear V;go_enter func115,ntmps115;go_wp2_with fail;rw[<-HW.o];refine(pL i.op q).mono ?_;rw[HF.o];rintro e w1 ⟨rfl,d⟩;have j:=hI d;have C:=ecZ (g.o.on d 0 _ rfl);have D:=ecZ (g.o.on d 1 _ rfl);have F:=ecZ (g.o.on d 2 _ rfl);have G:=ecZ (g.o.on d 3 _ rfl);have c4:=ecZ (g.o.on d 4 _ rfl);have H:=ecZ (g.o.on d 5 _ rfl);have I:=ecZ (g.o.on d 6 _ rfl);have J:=ecZ (g.o.on d 7 _ rfl);have K:=ecZ (l.o.on d 0 _ rfl);have L:=ecZ (l.o.on d 1 _ rfl);have M:=ecZ (l.o.on d 2 _ rfl);have N:=ecZ (l.o.on d 3 _ rfl);have O:=ecZ (l.o.on d 4 _ rfl);clear d;have B0:Hid (∀E:Up w1,Calls prog 156 #[.int .i64 i.line,.int .i64 0,.int .i64 2000] E.to λe w'=>e=.returned (.bool (aK i.line 0 2000))/\E.to=w'):=λE=>dR _ _ _ _;have s:Hid (∀E:Up w1,Calls prog 157 #[.agg ⟨_⟩,.int .u8 x.toNat,.int .i64 i.a] E.to (aM (.bool (cD p f x i.a)) E.to)):=λE=>eX _ p f x i.a E.to (m.o _ (j.o.trans (E.below.mono j.o.size))) r;have R:Hid (∀E:Up w1,Calls prog 157 #[.agg ⟨_⟩,.int .u8 y.toNat,.int .i64 i.b] E.to (aM (.bool (cD p f y i.b)) E.to)):=λE=>eX _ p f y i.b E.to (m.o _ (j.o.trans (E.below.mono j.o.size))) r;have X:Hid (∀E:Up w1,Calls prog 157 #[.agg ⟨_⟩,.int .u8 z.toNat,.int .i64 i.c] E.to (aM (.bool (cD p f z i.c)) E.to)):=λE=>eX _ p f z i.c E.to (m.o _ (j.o.trans (E.below.mono j.o.size))) r;rw[S] at B0;rw[b1] at s;rw[b2] at R;clear S b1 b2;go_wp2_with fail;refine aD (by kernel_rfl) (by kernel_rfl) ?_
     repeat (go_big_quiet_step ((first
      | (go_at_call 156;with_reducible exact ad6 (B0.o _))
      | (go_at_call 157;with_reducible exact Calls.up (s.o _))
      | (go_at_call 157;with_reducible exact Calls.up (R.o _))
      | (go_at_call 157;with_reducible exact Calls.up (X.o _)))))
     refine wpQuiet_nil ?_;rintro _ ⟨E,rfl⟩;have Y:=btZ j E.below;have P:=btZ A Y.o;clear C D F G c4 H I J K L M N O;go_wp2_with fail;go_ret;exact⟨rfl,P.o⟩
    ·have e6:=trivial;cases b3:cD p f z i.c
     ·clear V;go_enter func115,ntmps115;go_wp2_with fail;rw[<-HW.o];refine(pL i.op q).mono ?_;rw[HF.o];rintro e w1 ⟨rfl,d⟩;have j:=hI d;have C:=ecZ (g.o.on d 0 _ rfl);have D:=ecZ (g.o.on d 1 _ rfl);have F:=ecZ (g.o.on d 2 _ rfl);have G:=ecZ (g.o.on d 3 _ rfl);have c4:=ecZ (g.o.on d 4 _ rfl);have H:=ecZ (g.o.on d 5 _ rfl);have I:=ecZ (g.o.on d 6 _ rfl);have J:=ecZ (g.o.on d 7 _ rfl);have K:=ecZ (l.o.on d 0 _ rfl);have L:=ecZ (l.o.on d 1 _ rfl);have M:=ecZ (l.o.on d 2 _ rfl);have N:=ecZ (l.o.on d 3 _ rfl);have O:=ecZ (l.o.on d 4 _ rfl);clear d;have B0:Hid (∀E:Up w1,Calls prog 156 #[.int .i64 i.line,.int .i64 0,.int .i64 2000] E.to λe w'=>e=.returned (.bool (aK i.line 0 2000))/\E.to=w'):=λE=>dR _ _ _ _;have s:Hid (∀E:Up w1,Calls prog 157 #[.agg ⟨_⟩,.int .u8 x.toNat,.int .i64 i.a] E.to (aM (.bool (cD p f x i.a)) E.to)):=λE=>eX _ p f x i.a E.to (m.o _ (j.o.trans (E.below.mono j.o.size))) r;have R:Hid (∀E:Up w1,Calls prog 157 #[.agg ⟨_⟩,.int .u8 y.toNat,.int .i64 i.b] E.to (aM (.bool (cD p f y i.b)) E.to)):=λE=>eX _ p f y i.b E.to (m.o _ (j.o.trans (E.below.mono j.o.size))) r;have X:Hid (∀E:Up w1,Calls prog 157 #[.agg ⟨_⟩,.int .u8 z.toNat,.int .i64 i.c] E.to (aM (.bool (cD p f z i.c)) E.to)):=λE=>eX _ p f z i.c E.to (m.o _ (j.o.trans (E.below.mono j.o.size))) r;rw[S] at B0;rw[b1] at s;rw[b2] at R;rw[b3] at X;clear S b1 b2 b3;go_wp2_with fail;refine aD (by kernel_rfl) (by kernel_rfl) ?_
      repeat (go_big_quiet_step ((first
       | (go_at_call 156;with_reducible exact ad6 (B0.o _))
       | (go_at_call 157;with_reducible exact Calls.up (s.o _))
       | (go_at_call 157;with_reducible exact Calls.up (R.o _))
       | (go_at_call 157;with_reducible exact Calls.up (X.o _)))))
      refine wpQuiet_nil ?_;rintro _ ⟨E,rfl⟩;have Y:=btZ j E.below;have P:=btZ A Y.o;clear C D F G c4 H I J K L M N O;go_wp2_with fail;go_ret;exact⟨rfl,P.o⟩
     ·exact absurd V (by rw[S,b1,b2,b3];decide)
end
section
open Go.RowKit
theorem acI (cs a2:List Value) (p:aW) (f:CFn) (at_:Int) (i:fE) (w:World) (h:fC w w.heap.size cs p f) (hr:1<=f.regs) (o3:f.regs<=60) (hi:iA a2 i) (hn:mI p f i=true) : Calls prog 115 #[.agg ⟨cs⟩,.int .i64 at_,.agg ⟨a2⟩] w (aM (.bool (gJ p f at_ i)) w):=by
 obtain⟨S,N⟩:∃S,S=(w.alloc (.cells ⟨cs⟩ 191)).alloc (.cells ⟨a2⟩ 193):=⟨_,rfl⟩;have k0:Hid (Below w.heap.size w S):=by rw[N];exact bE w _ _
 have m:Hid (aA S w.heap.size cs):=by rw[N];exact(ad5 w cs _).old _
 have q:Hid (aA S (w.heap.size+1) a2):=by rw[N];exact λi v hv=>by rw[mM];simpa using hv
 have HL:Hid (∀w',Below S.heap.size S w'->fC w' w'.heap.size cs p f):=λw' k=>h.keep (Nat.le_trans k0.o.size k.size) (λ_ h=>(k.cell (Nat.lt_of_lt_of_le h k0.o.size)).trans (k0.o.cell h));obtain⟨rfl,v1,v2,v3,v4,v5⟩:=hi;obtain⟨pc,fc,rfl,⟨A1,n1,A2,n2,A3,n3,rfl,p1,p2,p3⟩,⟨A4,n4,A5,n5,rfl,q1,q2,o1,o2⟩⟩:=h;have l1:=aP p1;have P1:=hI p1;clear p1 p2 p3 q1 q2;simp only[List.cons_append,List.nil_append] at N m HL;have HW:=hI N;clear N;obtain⟨x,y,z,hf⟩:∃x y z,kB i.op=[x,y,z]:=by
  rcases qE i.op with hf | hf;·simp[mI,hf] at hn
  ·exact hf
 have HF:=hI hf;have e6:(aK i.line 0 2000 && cD p f x i.a && cD p f y i.b && cD p f z i.c)=true:=by rw[<-hn];simp[mI,hf]
 simp only[Bool.and_eq_true] at e6;obtain⟨⟨⟨b0,b1⟩,b2⟩,b3⟩:=e6;have BY:=hI b2;have BZ:=hI b3;obtain⟨r,c9⟩:∃r,gJ p f at_ i=r:=⟨_,rfl⟩;have H:Hid ((if i.op=14 then decide (i.a<=at_) else if i.op=19 then decide (i.b+i.c<=f.regs) else if i.op=27 then uO f (i.b+i.c) else if i.op=26 then(match p.fns[i.b.toNat]? with | some g=>qR f g | none=>false) else if i.op=32 then f.gen else true)=r):=by
  show _=_
  rw[<-c9]
  unfold gJ
  rw[hn,Bool.true_and]
  rfl
 rw[c9];clear hf hn c9;obtain⟨sz,k2⟩:=zG ⟨#[x,y,z]⟩ x y z rfl;have i0:∀W,(Instr.index 9 (.string ⟨#[x,y,z]⟩) (.int .i64 0)).run prog W=.ok (.int .u8 x.toNat) W:=λW=>by rw[run_index_string _ _ _ _ _ underlying9,dif_pos ⟨by omega,by rw[sz];decide⟩];rfl
 have i1:∀W,(Instr.index 9 (.string ⟨#[x,y,z]⟩) (.int .i64 1)).run prog W=.ok (.int .u8 y.toNat) W:=λW=>by rw[run_index_string _ _ _ _ _ underlying9,dif_pos ⟨by omega,by rw[sz];decide⟩];rfl
 have i2:∀W,(Instr.index 9 (.string ⟨#[x,y,z]⟩) (.int .i64 2)).run prog W=.ok (.int .u8 z.toNat) W:=λW=>by rw[run_index_string _ _ _ _ _ underlying9,dif_pos ⟨by omega,by rw[sz];decide⟩];rfl
 clear sz k2;go_enter func115,ntmps115;go_wp2_with fail;rw[<-HW.o];refine(pL i.op S).mono ?_;rw[HF.o];rintro e w1 ⟨rfl,C⟩;have V:=hI C;have c0:=ecZ (m.o.on C 0 _ rfl);have c1:=ecZ (m.o.on C 1 _ rfl);have c2:=ecZ (m.o.on C 2 _ rfl);have c3:=ecZ (m.o.on C 3 _ rfl);have c4:=ecZ (m.o.on C 4 _ rfl);have c5:=ecZ (m.o.on C 5 _ rfl);have c6:=ecZ (m.o.on C 6 _ rfl);have c7:=ecZ (m.o.on C 7 _ rfl);have P:=ecZ (q.o.on C 0 _ rfl);have d1:=ecZ (q.o.on C 1 _ rfl);have d2:=ecZ (q.o.on C 2 _ rfl);have d3:=ecZ (q.o.on C 3 _ rfl);have d4:=ecZ (q.o.on C 4 _ rfl);clear C;have B0:Hid (∀E:Up w1,Calls prog 156 #[.int .i64 i.line,.int .i64 0,.int .i64 2000] E.to λe w'=>e=.returned (.bool (aK i.line 0 2000))/\E.to=w'):=λE=>dR _ _ _ _;have B1:Hid (∀E:Up w1,Calls prog 157 #[.agg ⟨_⟩,.int .u8 x.toNat,.int .i64 i.a] E.to (aM (.bool (cD p f x i.a)) E.to)):=λE=>eX _ p f x i.a E.to (HL.o _ (V.o.trans (E.below.mono V.o.size))) hr;have B2:Hid (∀E:Up w1,Calls prog 157 #[.agg ⟨_⟩,.int .u8 y.toNat,.int .i64 i.b] E.to (aM (.bool (cD p f y i.b)) E.to)):=λE=>eX _ p f y i.b E.to (HL.o _ (V.o.trans (E.below.mono V.o.size))) hr;have B3:Hid (∀E:Up w1,Calls prog 157 #[.agg ⟨_⟩,.int .u8 z.toNat,.int .i64 i.c] E.to (aM (.bool (cD p f z i.c)) E.to)):=λE=>eX _ p f z i.c E.to (HL.o _ (V.o.trans (E.below.mono V.o.size))) hr;rw[b0] at B0;rw[b1] at B1;rw[b2] at B2;rw[b3] at B3;clear b0 b1 b2 b3;go_wp2_with fail;refine aD (by kernel_rfl) (by kernel_rfl) ?_
 repeat (go_big_quiet_step ((first
  | (go_at_call 156;with_reducible exact ad6 (B0.o _))
  | (go_at_call 157;with_reducible exact Calls.up (B1.o _))
  | (go_at_call 157;with_reducible exact Calls.up (B2.o _))
  | (go_at_call 157;with_reducible exact Calls.up (B3.o _)))))
 refine wpQuiet_nil ?_;rintro _ ⟨E,rfl⟩;have l:=btZ V E.below;have I:=btZ k0 l.o;clear c0 c1 c2 c3 c4 c5 c6 c7 P d1 d2 d3 d4;clear i0 i1 i2;by_cases u:i.op=14
 ·have s:=H;rw[if_pos u] at s;have P:E.to.cell? ⟨w.heap.size+1,0,none⟩=some (.int .i64 14):=by rw[<-u];exact q.o.on l.o 0 _ rfl
  have d1:E.to.cell? ⟨w.heap.size+1,1,none⟩=some (.int .i64 i.a):=q.o.on l.o 1 _ rfl;clear u;go_wp2_with fail;go_ret;exact⟨by rw[<-s.o];rfl,I.o⟩
 rw[if_neg u] at H;by_cases A:i.op=19
 ·have s:=H;rw[if_pos A] at s;have P:E.to.cell? ⟨w.heap.size+1,0,none⟩=some (.int .i64 19):=by rw[<-A];exact q.o.on l.o 0 _ rfl
  have hq:0<=i.b/\i.b<=f.regs/\0<=i.c/\i.c<=f.regs:=by
   have e:=HF.o;rw[A] at e;have e':kB 19=[114,108,110]:=(by decide);rw[e'] at e;injection e with e1 e
   injection e with Y e
   injection e with e3 _
   have M:=BY.o;have X:=BZ.o;rw[<-Y] at M;rw[<-e3] at X;have D:aK i.b 0 f.regs=true:=M;have J:aK i.c 0 f.regs=true:=X;rw[eS] at D J;exact⟨D.1,D.2,J.1,J.2⟩
  obtain⟨t1,t2,t3,t4⟩:=hq;have c4:E.to.cell? ⟨w.heap.size,4,none⟩=some (.int .i64 f.regs):=m.o.on l.o 4 _ rfl;have d2:E.to.cell? ⟨w.heap.size+1,2,none⟩=some (.int .i64 i.b):=q.o.on l.o 2 _ rfl;have d3:E.to.cell? ⟨w.heap.size+1,3,none⟩=some (.int .i64 i.c):=q.o.on l.o 3 _ rfl;clear u A;go_wp2_with fail;go_ret;exact⟨by rw[<-s.o];rfl,I.o⟩
 rw[if_neg A] at H;by_cases F:i.op=27
 ·have s:=H;rw[if_pos F] at s;have P:E.to.cell? ⟨w.heap.size+1,0,none⟩=some (.int .i64 27):=by rw[<-F];exact q.o.on l.o 0 _ rfl
  have hq:0<=i.b/\i.b<=f.regs/\0<=i.c/\i.c<=f.regs:=by
   have e:=HF.o;rw[F] at e;have e':kB 27=[114,99,110]:=(by decide);rw[e'] at e;injection e with e1 e
   injection e with Y e
   injection e with e3 _
   have M:=BY.o;have X:=BZ.o;rw[<-Y] at M;rw[<-e3] at X;have D:aK i.b 0 f.regs=true:=M;have J:aK i.c 0 f.regs=true:=X;rw[eS] at D J;exact⟨D.1,D.2,J.1,J.2⟩
  obtain⟨t1,t2,t3,t4⟩:=hq;have c0:E.to.cell? ⟨w.heap.size,0,none⟩=some (.slice A1 p.fns.length n1):=m.o.on l.o 0 _ rfl;have c1:E.to.cell? ⟨w.heap.size,1,none⟩=some (.slice A2 p.consts.length n2):=m.o.on l.o 1 _ rfl;have c2:E.to.cell? ⟨w.heap.size,2,none⟩=some (.slice A3 p.texts.length n3):=m.o.on l.o 2 _ rfl;have c3:E.to.cell? ⟨w.heap.size,3,none⟩=some (.int .i64 f.params):=m.o.on l.o 3 _ rfl;have c4:E.to.cell? ⟨w.heap.size,4,none⟩=some (.int .i64 f.regs):=m.o.on l.o 4 _ rfl;have c5:E.to.cell? ⟨w.heap.size,5,none⟩=some (.bool f.gen):=m.o.on l.o 5 _ rfl;have c6:E.to.cell? ⟨w.heap.size,6,none⟩=some (.slice A4 f.caught.length n4):=m.o.on l.o 6 _ rfl;have c7:E.to.cell? ⟨w.heap.size,7,none⟩=some (.slice A5 f.code.length n5):=m.o.on l.o 7 _ rfl;have d2:E.to.cell? ⟨w.heap.size+1,2,none⟩=some (.int .i64 i.b):=q.o.on l.o 2 _ rfl;have d3:E.to.cell? ⟨w.heap.size+1,3,none⟩=some (.int .i64 i.c):=q.o.on l.o 3 _ rfl;clear u A F;go_wp2_with fail;refine(xO _ p f _ E.to (HL.o _ l.o) hr).mono ?_;rintro e w5 ⟨rfl,k5⟩;have K5:=btZ I k5;clear k5 c0 c1 c2 c3 c4 c5 c6 c7 P d2 d3;go_wp2_with fail;go_ret;exact⟨by rw[<-s.o];rfl,K5.o⟩
 rw[if_neg F] at H;by_cases G:i.op=26
 ·have s:=H;rw[if_pos G] at s;have hq:1<=i.b/\i.b<=(p.fns.length:Int) - 1:=by
   have e:=HF.o;rw[G] at e;have e':kB 26=[114,102,45]:=(by decide);rw[e'] at e;injection e with e1 e
   injection e with Y e
   have M:=BY.o;rw[<-Y] at M;have D:aK i.b 1 ((p.fns.length:Int) - 1)=true:=M;rwa [eS] at D
  obtain⟨t1,t2⟩:=hq;obtain⟨K,a0⟩:∃K:Nat,i.b=K:=⟨i.b.toNat,by omega⟩;rw[a0] at t1 t2;have t3:K<p.fns.length:=by omega
  obtain⟨Z,L,g,a1,k3,hb,e7,k4,hR,e9⟩:=P1.o.at_ t3;rw[a0,Int.toNat_natCast,e7] at s;subst k3;have j1:Hid (∀d:Up E.to,FnR d.to d.to.heap.size a1 g):=λd=>hR.keep (Nat.le_trans I.o.size d.below.size) (λ_ h=>(d.below.cell (Nat.lt_of_lt_of_le h I.o.size)).trans (I.o.cell h));have CC:Hid (∀d:Up E.to,Calls prog 159 #[.agg ⟨_⟩,.agg ⟨a1⟩] d.to (aM (.bool (qR f g)) d.to)):=λd=>adV _ a1 p f g d.to (HL.o _ (l.o.trans (d.below.mono l.o.size))) hr (j1.o d);have R:Hid (∀d:Up E.to,∀j v,a1[j]? = some v->d.to.cell? ⟨Z,L+K*5+j,none⟩=some v):=λd j v hv=>(d.below.cell (Nat.lt_of_lt_of_le hb I.o.size)).trans ((I.o.cell hb).trans (e9 j v hv));obtain⟨ga,gn,gc,gm,rfl,-⟩:=hR;have P:E.to.cell? ⟨w.heap.size+1,0,none⟩=some (.int .i64 26):=by rw[<-G];exact q.o.on l.o 0 _ rfl
  have Y:∀d:Up E.to,d.to.cell? ⟨w.heap.size+1,2,none⟩=some (.int .i64 K):=λd=>by rw[<-a0];exact d.cell (q.o.on l.o 2 _ rfl)
  have c0:∀d:Up E.to,d.to.cell? ⟨w.heap.size,0,none⟩=some (.slice (some ⟨Z,L,none⟩) p.fns.length n1):=λd=>d.cell (m.o.on l.o 0 _ rfl);have c1:∀d:Up E.to,d.to.cell? ⟨w.heap.size,1,none⟩=some (.slice A2 p.consts.length n2):=λd=>d.cell (m.o.on l.o 1 _ rfl);have c2:∀d:Up E.to,d.to.cell? ⟨w.heap.size,2,none⟩=some (.slice A3 p.texts.length n3):=λd=>d.cell (m.o.on l.o 2 _ rfl);have c3:∀d:Up E.to,d.to.cell? ⟨w.heap.size,3,none⟩=some (.int .i64 f.params):=λd=>d.cell (m.o.on l.o 3 _ rfl);have c4:∀d:Up E.to,d.to.cell? ⟨w.heap.size,4,none⟩=some (.int .i64 f.regs):=λd=>d.cell (m.o.on l.o 4 _ rfl);have c5:∀d:Up E.to,d.to.cell? ⟨w.heap.size,5,none⟩=some (.bool f.gen):=λd=>d.cell (m.o.on l.o 5 _ rfl);have c6:∀d:Up E.to,d.to.cell? ⟨w.heap.size,6,none⟩=some (.slice A4 f.caught.length n4):=λd=>d.cell (m.o.on l.o 6 _ rfl);have c7:∀d:Up E.to,d.to.cell? ⟨w.heap.size,7,none⟩=some (.slice A5 f.code.length n5):=λd=>d.cell (m.o.on l.o 7 _ rfl);have g0:∀d:Up E.to,d.to.cell? ⟨Z,L+K*5,none⟩=some (.int .i64 g.params):=λd=>R.o d 0 _ rfl;have M:∀d:Up E.to,d.to.cell? ⟨Z,L+K*5+1,none⟩=some (.int .i64 g.regs):=λd=>R.o d 1 _ rfl;have X:∀d:Up E.to,d.to.cell? ⟨Z,L+K*5+2,none⟩=some (.bool g.gen):=λd=>R.o d 2 _ rfl;have g3:∀d:Up E.to,d.to.cell? ⟨Z,L+K*5+3,none⟩=some (.slice ga g.caught.length gn):=λd=>R.o d 3 _ rfl;have g4:∀d:Up E.to,d.to.cell? ⟨Z,L+K*5+4,none⟩=some (.slice gc g.code.length gm):=λd=>R.o d 4 _ rfl;have t4:(K:Int)<p.fns.length:=by omega
  clear u A F G e7 e9 k4 a0;go_wp2_with fail;refine aD (by kernel_rfl) (by kernel_rfl) ?_;repeat (go_big_quiet_step ((go_at_call 159;with_reducible exact Calls.up (CC.o _))))
  refine wpQuiet_nil ?_;rintro _ ⟨d,rfl⟩;have K5:=btZ I d.below;clear Y g0 M X g3 g4 c0 c1 c2 c3 c4 c5 c6 c7 P;go_wp2_with fail;go_ret;exact⟨by rw[<-s.o];rfl,K5.o⟩
 rw[if_neg G] at H;by_cases O:i.op=32
 ·have s:=H;rw[if_pos O] at s;have P:E.to.cell? ⟨w.heap.size+1,0,none⟩=some (.int .i64 32):=by rw[<-O];exact q.o.on l.o 0 _ rfl
  have c5:E.to.cell? ⟨w.heap.size,5,none⟩=some (.bool f.gen):=m.o.on l.o 5 _ rfl;clear u A F G O;go_wp2_with fail;go_ret;exact⟨by rw[<-s.o];rfl,I.o⟩
 rw[if_neg O] at H;have s:=H;have n6:(i.op == 14)=false:=by simpa using u
 have n7:(i.op == 19)=false:=by simpa using A
 have n8:(i.op == 27)=false:=by simpa using F
 have n9:(i.op == 26)=false:=by simpa using G
 have o0:(i.op == 32)=false:=by simpa using O
 have P:E.to.cell? ⟨w.heap.size+1,0,none⟩=some (.int .i64 i.op):=q.o.on l.o 0 _ rfl;clear u A F G O;go_wp2_with fail;go_ret;exact⟨by rw[<-s.o];rfl,I.o⟩
theorem order_c (cs d:List Value) (p:aW) (f:CFn) (at_:Int) (i:fE) (w:World) (h:fC w w.heap.size cs p f) (l:1<=f.regs) (g:f.regs<=60) (hi:iA d i) : Calls prog 115 #[.agg ⟨cs⟩,.int .i64 at_,.agg ⟨d⟩] w (aM (.bool (gJ p f at_ i)) w):=by
 cases j:mI p f i
 ·have e:gJ p f at_ i=false:=by unfold gJ;rw[j];rfl
  rw[e];exact acH cs d p f at_ i w h l g hi j
 ·exact acI cs d p f at_ i w h l g hi j
end
section
open Go.RowKit
def jW (cs:List Value) (x:gM):Prop:=cs=[.int .i64 x.reg,.int .i64 x.at_]/\wfi x.reg/\wfi x.at_
theorem p6 {α : Type} {xs d:List α} {k:Nat} (h:xs.take k=d.take k) (e:xs.length<=k) (f:d.length<=k):xs=d:=by rwa [List.take_of_length_le e,List.take_of_length_le f] at h
theorem yV {α : Type} {xs f:List α} {k:Nat} {x y : α} (d:xs[k]? = some x) (g:f[k]? = some y) (h:x≠y):xs≠f:=λe=>by
 rw[e,g] at d;injection d with d;exact h d.symm
theorem tF {α : Type} {xs d:List α} {k:Nat} {x : α} (h:xs.take k=d.take k) (e:xs[k]? = some x) (f:d[k]? = some x):xs.take (k+1)=d.take (k+1):=by rw[List.take_add_one,List.take_add_one,h,e,f]
theorem qF (v u:Value) (xs f:List gM) (w:World) (R:aH w w.heap.size 2 jW v xs) (S:aH w w.heap.size 2 jW u f) : Calls prog 72 #[v,u] w (aM (.bool (decide (xs=f))) w):=by
 obtain⟨A,b2,rfl,b3,W,-⟩:=id R;obtain⟨A',a4,rfl,a5,O,-⟩:=id S;unfold maxLen at W O;have HX:=hI R;have HY:=hI S;clear R S;obtain⟨r,P⟩:∃r:Bool,decide (xs=f)=r:=⟨_,rfl⟩;rw[P];have K:=hI P;clear P;by_cases hl:xs.length=f.length
 ·have a6:xs.length<=f.length:=by omega
  have a7:f.length<=xs.length:=by omega
  have V:((xs.length:Int) != (f.length:Int))=false:=by simp;omega
  clear hl;go_enter func72,ntmps72;go_wp2_with fail;go_loopw [13] (λk wr=>∃d:Nat,k=.int .i64 d/\d<=xs.length/\Hid (xs.take d=f.take d)/\Hid (Below w.heap.size w wr)) (λk _=>xs.length - (intOf k).toNat);case atStart=>exact⟨0,rfl,by omega,hI rfl,Below.refl _ _⟩
  case round=>
   obtain⟨d,rfl,hk,X,Y⟩:=hrel;by_cases a0:d<xs.length
   ·obtain⟨b,G,x,cs,rfl,hb,H,-,⟨rfl,-⟩,s⟩:=HX.o.at_ a0;obtain⟨Z,z,y,b4,rfl,I,J,-,⟨rfl,-⟩,h⟩:=HY.o.at_ (i:=d) (by omega);have j:∀E:Up wr,Below w.heap.size w E.to:=λE=>oV Y.o E;have C:∀E:Up wr,E.to.cell? ⟨b,G+d*2,none⟩=some (.int .i64 x.reg):=λE=>((j E).cell hb).trans (s 0 _ rfl);have L:∀E:Up wr,E.to.cell? ⟨b,G+d*2+1,none⟩=some (.int .i64 x.at_):=λE=>((j E).cell hb).trans (s 1 _ rfl);have M:∀E:Up wr,E.to.cell? ⟨Z,z+d*2,none⟩=some (.int .i64 y.reg):=λE=>((j E).cell I).trans (h 0 _ rfl);have N:∀E:Up wr,E.to.cell? ⟨Z,z+d*2+1,none⟩=some (.int .i64 y.at_):=λE=>((j E).cell I).trans (h 1 _ rfl);have D:=hI H;have F:=hI J;have p:=hI j;have a9:(d:Int)<xs.length:=(by omega);have b0:(d:Int)<f.length:=(by omega);clear H J s h j;by_cases g:x=y
    ·subst g;go_wp2_with fail;refine aD (by kernel_rfl) (by kernel_rfl) ?_;repeat (go_big_quiet_step (fail))
     refine wpQuiet_nil ?_;rintro _ ⟨E,rfl⟩;have q:=hI (p.o E);clear C L M N;go_wp2_with fail;go_roundw;case rel=>exact⟨d+1,by go_num,by omega,tF X.o D.o F.o,q⟩
     case measure=>simp[intOf];omega
    ·have l:Hid (r=false):=(by rw[<-K.o];exact decide_eq_false (yV D.o F.o g));by_cases m:x.reg=y.reg
     ·have n1:(x.at_ == y.at_)=false:=(by simp only[beq_eq_false_iff_ne];intro e;apply g;cases x;cases y;simp only at m e;rw[m,e]);rw[m] at C;clear g m;go_wp2_with fail;refine aD (by kernel_rfl) (by kernel_rfl) ?_;repeat (go_big_quiet_step (fail))
      refine wpQuiet_nil ?_;rintro _ ⟨E,rfl⟩;have q:=hI (p.o E);clear C L M N;go_wp2_with fail;go_ret;exact⟨by rw[l.o];rfl,q.o⟩
     ·have n1:(x.reg == y.reg)=false:=(by simpa using m);clear g m;go_wp2_with fail;refine aD (by kernel_rfl) (by kernel_rfl) ?_;repeat (go_big_quiet_step (fail))
      refine wpQuiet_nil ?_;rintro _ ⟨E,rfl⟩;have q:=hI (p.o E);clear C L M N;go_wp2_with fail;go_ret;exact⟨by rw[l.o];rfl,q.o⟩
   ·have l:Hid (r=true):=(by rw[<-K.o];exact decide_eq_true (p6 X.o (by omega) (by omega)));go_wp2_with fail;go_ret;exact⟨by rw[l.o];rfl,Y.o⟩
 ·have V:((xs.length:Int) != (f.length:Int))=true:=by simp;omega
  have l:Hid (r=false):=by rw[<-K.o];exact decide_eq_false (λe=>hl (by rw[e]))
  clear hl;go_enter func72,ntmps72;go_wp2_with fail;go_ret;exact⟨by rw[l.o];rfl,Below.refl _ _⟩
theorem qG (v u:Value) (xs f:List ByteArray) (w:World) (J:aH w w.heap.size 1 lV v xs) (K:aH w w.heap.size 1 lV u f) : Calls prog 42 #[v,u] w (aM (.bool (decide (xs=f))) w):=by
 obtain⟨A,a7,rfl,a9,P,-⟩:=id J;obtain⟨A',a0,rfl,a1,G,-⟩:=id K;unfold maxLen at P G;have Y:=hI J;have Z:=hI K;clear J K;obtain⟨r,H⟩:∃r:Bool,decide (xs=f)=r:=⟨_,rfl⟩;rw[H];have D:=hI H;clear H;by_cases hl:xs.length=f.length
 ·have a3:xs.length<=f.length:=by omega
  have a4:f.length<=xs.length:=by omega
  have L:((xs.length:Int) != (f.length:Int))=false:=by simp;omega
  clear hl;go_enter func42,ntmps42;go_wp2_with fail;go_loopw [13] (λk wr=>∃d:Nat,k=.int .i64 d/\d<=xs.length/\Hid (xs.take d=f.take d)/\Hid (Below w.heap.size w wr)) (λk _=>xs.length - (intOf k).toNat);case atStart=>exact⟨0,rfl,by omega,hI rfl,Below.refl _ _⟩
  case round=>
   obtain⟨d,rfl,hk,R,S⟩:=hrel;by_cases X:d<xs.length
   ·obtain⟨b,V,x,cs,rfl,hb,s,-,⟨rfl,-⟩,z⟩:=Y.o.at_ X;obtain⟨b',I,y,b0,rfl,W,C,-,⟨rfl,-⟩,j⟩:=Z.o.at_ (i:=d) (by omega);have l:∀E:Up wr,Below w.heap.size w E.to:=λE=>oV S.o E;have M:∀E:Up wr,E.to.cell? ⟨b,V+d,none⟩=some (.string x):=λE=>((l E).cell hb).trans (by simpa using z 0 _ rfl);have N:∀E:Up wr,E.to.cell? ⟨b',I+d,none⟩=some (.string y):=λE=>((l E).cell W).trans (by simpa using j 0 _ rfl);have m:=hI s;have p:=hI C;have q:=hI l;have a5:(d:Int)<xs.length:=(by omega);have a6:(d:Int)<f.length:=(by omega);clear s C z j l;by_cases g:x=y
    ·subst g;go_wp2_with fail;refine aD (by kernel_rfl) (by kernel_rfl) ?_;repeat (go_big_quiet_step (fail))
     refine wpQuiet_nil ?_;rintro _ ⟨E,rfl⟩;have F:=hI (q.o E);clear M N;go_wp2_with fail;go_roundw;case rel=>exact⟨d+1,by go_num,by omega,tF R.o m.o p.o,F⟩
     case measure=>simp[intOf];omega
    ·have h:Hid (r=false):=(by rw[<-D.o];exact decide_eq_false (yV m.o p.o g));have n1:(x.toList == y.toList)=false:=(by simp only[beq_eq_false_iff_ne];intro e;apply g;rw[Lib.toList_data,Lib.toList_data] at e;have O:x.data=y.data:=Array.toList_inj.1 e;cases x;cases y;simp only at O;rw[O]);clear g;go_wp2_with fail;refine aD (by kernel_rfl) (by kernel_rfl) ?_;repeat (go_big_quiet_step (fail))
     refine wpQuiet_nil ?_;rintro _ ⟨E,rfl⟩;have F:=hI (q.o E);clear M N;go_wp2_with fail;go_ret;exact⟨by rw[h.o];rfl,F.o⟩
   ·have h:Hid (r=true):=(by rw[<-D.o];exact decide_eq_true (p6 R.o (by omega) (by omega)));go_wp2_with fail;go_ret;exact⟨by rw[h.o];rfl,S.o⟩
 ·have L:((xs.length:Int) != (f.length:Int))=true:=by simp;omega
  have h:Hid (r=false):=by rw[<-D.o];exact decide_eq_false (λe=>hl (by rw[e]))
  clear hl;go_enter func42,ntmps42;go_wp2_with fail;go_ret;exact⟨by rw[h.o];rfl,Below.refl _ _⟩
end
section
structure a8 where
 fn:Int
 at_:Int
 tos:Int
 gen:Int
 self:Val
 regs:List Val
 tries:List gM
deriving DecidableEq
structure bC where
 kind:Int
 num:Int
 vals:List Val
 frames:List a8
deriving DecidableEq
structure bW where
 frames:List a8
 state:Int
 on_:Int
 val:Val
deriving DecidableEq
structure aT where
 up:Int
 name:Int
deriving DecidableEq
structure ad4 where
 cell:Int
 fn:Val
deriving DecidableEq
structure aR where
 cells:List bC
 shapes:List aT
 texts:List ByteArray
 threads:List bW
 ends:List ad4
 said:List Val
 asked:Int
 steps:Int
def upM (l:List aT):Nat->Int->List Int
 | 0,_=>[]
 | f+1,s=>if s<=0 then [] else match l[s.toNat]? with | none=>[] | some x=>x.name::upM l f x.up
def lA (l:List aT) (s:Int):List Int:=(upM l (s.toNat+1) s).reverse
def dE (l:List aT):Nat->List aT->List aT->Bool
 | _,_,[]=>true
 | k,seen,s::r=>!(decide (s.up<0) || decide ((k:Int)<s.up) || decide (s.name<0) || decide (s∈seen) || decide (s.name∈lA l s.up)) && dE l (k+1) (seen++[s]) r
def bT (l:List aT):Int:=
 if 100<l.length then 2
 else match l with
  | []=>3
  | x::r=>if x≠⟨-1,-1⟩ then 3 else if dE l 0 [] r then 0 else 3
def fM (l:List aT) (s:Int):List Int:=if bT l≠0\/s<0\/(l.length:Int)<=s then [] else lA l s
section
variable (R:Val->Bool) (S:aR)
def lD (n:Int):Int:=((S.cells[n.toNat]?).map (·.kind)).getD 0
def dJ (v:Val):Bool:=
 R v && (if v.kind=4 then decide (v.n<S.texts.length) else if v.kind=5 then decide (v.n<S.cells.length) && lD S v.n != 0 else true)
def lL (l:List Val):Bool:=l.all (dJ R S)
def oL (v:Val) (kind:Int):Bool:=dJ R S v && v.kind == 5 && lD S v.n == kind
end
def gS:List Int->List Val->Bool
 | _,[]=>true
 | seen,[k]=>k.kind == 5 && !decide (k.n∈seen) && false
 | seen,k::_::r=>k.kind == 5 && !decide (k.n∈seen) && gS (k.n::seen) r
section
variable (R:Val->Bool) (S:aR)
def gP (f:a8):Bool:=lL R S f.regs && dJ R S f.self
def kE (c:bC):Bool:=
 (if c.kind=0 then c.num == 0 && c.vals.isEmpty && c.frames.isEmpty
 else if c.kind=1 then aK c.num 0 ((S.shapes.length:Int) - 1) && decide (c.vals.length=(fM S.shapes c.num).length) && c.frames.isEmpty
 else if c.kind=2 then c.num == 0 && c.frames.isEmpty
 else if c.kind=3 then c.num == 0 && decide (c.vals.length=1) && c.frames.isEmpty
 else if c.kind=4 then decide (0<=c.num) && c.vals.all (oL R S · 3) && c.frames.isEmpty
 else if c.kind=5 then aK c.num 0 2 && c.vals.isEmpty && decide (c.frames.length=if c.num=0 then 1 else 0)
 else if c.kind=6 then aK c.num (-1) 4 && c.vals.isEmpty && c.frames.isEmpty
 else if c.kind=7 then c.num == 0 && gS [] c.vals && c.frames.isEmpty
 else false) && lL R S c.vals && c.frames.all (gP R S)
def nS:Bool:=
 decide (300<S.cells.length) || decide (300<S.texts.length) || decide (200<S.said.length) || decide (100<S.ends.length) || S.texts.any (λt=>decide (200<t.size)) ||
  S.cells.any (λc=>decide (100<c.vals.length) && (c.kind != 7 || decide (600<c.vals.length)))
def jL (W:List ByteArray) (l:List ByteArray):Bool:=decide (W.length<=l.length) && decide (l.take W.length=W) && decide l.Nodup
def yA (e:ad4):Bool:=aK e.cell 0 ((S.cells.length:Int) - 1) && oL R S e.fn 4
def cG (W:List ByteArray):Int:=
 if nS S then 2
 else if bT S.shapes≠0 then bT S.shapes
 else if !jL W S.texts || S.shapes.any (λx=>decide ((S.texts.length:Int)<=x.name)) || S.cells.any (λc=>!kE R S c) then 3
 else if S.said.any (λv=>v.kind != 4 || !dJ R S v) then 3
 else if S.ends.any (λe=>!yA R S e) then 3
 else 0
end
section
variable (R:Val->Bool) (p:aW) (S:aR)
def gD (n:Int):CFn:=(p.fns[n.toNat]?).getD ⟨0,0,false,[],[]⟩
def bM (v:Val) (kind:Int):Option bC:=
 if v.kind≠5\/v.n<0\/(S.cells.length:Int)<=v.n then none else match S.cells[v.n.toNat]? with | none=>none | some c=>if c.kind=kind then some c else none
def dB (f:a8):Bool:=
 aK f.fn 0 ((p.fns.length:Int) - 1) &&
 (match bM S f.self 4 with | none=>false | some c=>c.num == f.fn) &&
 decide ((f.regs.length:Int)=(gD p f.fn).regs) && aK f.at_ 0 (((gD p f.fn).code.length:Int) - 1) &&
 ((cY (gD p f.fn).code).seen.getD f.at_.toNat false) &&
 decide (f.tries=(cY (gD p f.fn).code).out.getD f.at_.toNat []) && f.regs.all (dJ R S)
def nO (f:a8):Bool:=
 dB R p S f && f.tos == -1 && f.gen == -1 && (gD p f.fn).gen && (f.at_ == 0 || (((gD p f.fn).code[(f.at_ - 1).toNat]?).map (·.op)).getD 0 == 32)
def lQ (c:bC):Bool:=
 if c.kind=4 then decide (c.num<p.fns.length) && decide (c.vals.length=(gD p c.num).caught.length)
 else if c.kind=5 then c.num != 0 || (match c.frames with | []=>false | f::_=>nO R p S f)
 else true
def b7:Option Int->List Int->List a8->Option (List Int)
 | _,gens,[]=>some gens
 | low,gens,f::r=>
  let gen:=(gD p (max 0 (min f.fn ((p.fns.length:Int) - 1)))).gen
  if !dB R p S f || !aK f.tos (-1) (low.getD 0 - 1) || gen != decide (0<=f.gen) || decide (f.gen < -1) then none
  else if !gen then b7 (some f.regs.length) gens r
  else match bM S ⟨5,f.gen⟩ 5 with
   | none=>none
   | some c=>if low=none\/c.num≠1\/f.gen∈gens then none else b7 (some f.regs.length) (gens++[f.gen]) r
def eN (gens:List Int) (h:bW):Option (List Int):=
 let over:=h.state == 3 || h.state == 4
 if over != h.frames.isEmpty || (!over && h.val != ⟨0,0⟩) || !dJ R S h.val || !aK h.state 0 4 then none
 else if h.state=1/\bM S ⟨5,h.on_⟩ 6=none then none
 else if h.state=2/\aK h.on_ 0 ((S.threads.length:Int) - 1)=false then none
 else if h.state≠1/\h.state≠2/\h.on_≠0 then none
 else b7 R p S none gens h.frames
def cE:List Int->List bW->Option (List Int)
 | gens,[]=>some gens
 | gens,h::r=>match eN R p S gens h with | none=>none | some g=>cE g r
def jC (gens:List Int):Nat->List bC->Bool
 | _,[]=>true
 | k,c::r=>!(c.kind == 5 && c.num == 1 && !decide ((k:Int)∈gens)) && jC gens (k+1) r
def mF:Bool:=
 if decide (S.texts.length<p.texts.length) || decide (S.texts.take p.texts.length≠p.texts) || !aK S.steps 0 1000000000 || !aK S.asked 0 1000000000 || S.threads.isEmpty then false
 else if S.cells.any (λc=>!lQ R p S c) then false
 else match cE R p S [] S.threads with
  | none=>false
  | some gens=>jC gens 0 S.cells
def dG (W:List ByteArray) (cc:Int):Int:=
 if cc≠0 then cc
 else if cG R S W≠0 then cG R S W
 else if 5<S.threads.length\/S.threads.any (λh=>decide (30<h.frames.length)) then 2
 else if mF R p S then 0 else 3
end
end
section
open Go.RowKit
def jX (cs:List Value) (x:aT):Prop:=cs=[.int .i64 x.up,.int .i64 x.name]/\wfi x.up/\wfi x.name
def abX (cs:List Value) (x:ad4):Prop:=cs=[.int .i64 x.cell,.int .i64 x.fn.kind,.int .i64 x.fn.n]/\wfi x.cell/\wfi x.fn.kind/\wfi x.fn.n
def eR (w:World) (B:Nat) (cs:List Value) (x:a8):Prop:=
 ∃r t,cs=[.int .i64 x.fn,.int .i64 x.at_,.int .i64 x.tos,.int .i64 x.gen,.int .i64 x.self.kind,.int .i64 x.self.n,r,t]/\aH w B 2 hU r x.regs/\aH w B 2 jW t x.tries/\
  wfi x.fn/\wfi x.at_/\wfi x.tos/\wfi x.gen/\wfi x.self.kind/\wfi x.self.n
def jY (w:World) (B:Nat) (cs:List Value) (x:bC):Prop:=
 ∃v f,cs=[.int .i64 x.kind,.int .i64 x.num,v,f]/\aH w B 2 hU v x.vals/\aH w B 8 (eR w B) f x.frames/\wfi x.kind/\wfi x.num
def g9 (w:World) (B:Nat) (cs:List Value) (x:bW):Prop:=
 ∃f,cs=[f,.int .i64 x.state,.int .i64 x.on_,.int .i64 x.val.kind,.int .i64 x.val.n]/\aH w B 8 (eR w B) f x.frames/\wfi x.state/\wfi x.on_/\wfi x.val.kind/\wfi x.val.n
def gK (w:World) (B:Nat) (cs:List Value) (x:aR):Prop:=
 ∃c s t h e a,cs=[c,s,t,h,e,a,.int .i64 x.asked,.int .i64 x.steps]/\aH w B 4 (jY w B) c x.cells/\aH w B 2 jX s x.shapes/\aH w B 1 lV t x.texts/\
  aH w B 5 (g9 w B) h x.threads/\aH w B 3 abX e x.ends/\aH w B 2 hU a x.said/\wfi x.asked/\wfi x.steps
theorem eR.keep {w w':World} {B B':Nat} {cs:List Value} {x:a8} (h:eR w B cs x) (hB:B<=B') (d:∀p:Addr,p.block<B->w'.cell? p=w.cell? p):eR w' B' cs x:=by obtain⟨r,t,e,f,g,i⟩:=h;exact⟨r,t,e,f.keep hB d (λ_ _ h=>h),g.keep hB d (λ_ _ h=>h),i⟩
theorem jY.keep {w w':World} {B B':Nat} {cs:List Value} {x:bC} (h:jY w B cs x) (hB:B<=B') (d:∀p:Addr,p.block<B->w'.cell? p=w.cell? p):jY w' B' cs x:=by obtain⟨v,f,e,g,i,j⟩:=h;exact⟨v,f,e,g.keep hB d (λ_ _ h=>h),i.keep hB d (λ_ _ h=>h.keep hB d),j⟩
theorem g9.keep {w w':World} {B B':Nat} {cs:List Value} {x:bW} (h:g9 w B cs x) (hB:B<=B') (d:∀p:Addr,p.block<B->w'.cell? p=w.cell? p):g9 w' B' cs x:=by obtain⟨f,e,g,i⟩:=h;exact⟨f,e,g.keep hB d (λ_ _ h=>h.keep hB d),i⟩
theorem gK.keep {w w':World} {B B':Nat} {cs:List Value} {x:aR} (h:gK w B cs x) (hB:B<=B') (d:∀p:Addr,p.block<B->w'.cell? p=w.cell? p):gK w' B' cs x:=by obtain⟨c,s,t,g,e,a,f,i,j,l,m,q,r,u⟩:=h;exact⟨c,s,t,g,e,a,f,i.keep hB d (λ_ _ h=>h.keep hB d),j.keep hB d (λ_ _ h=>h),l.keep hB d (λ_ _ h=>h),m.keep hB d (λ_ _ h=>h.keep hB d),q.keep hB d (λ_ _ h=>h),r.keep hB d (λ_ _ h=>h),u⟩
theorem gK.below {w w':World} {cs:List Value} {x:aR} (h:gK w w.heap.size cs x) (hb:Below w.heap.size w w'):gK w' w'.heap.size cs x:= h.keep hb.size (λ_ d=>hb.cell d)
end
end Go.Proofs.YtjaphgpkkfdaaaaGreatDoor
