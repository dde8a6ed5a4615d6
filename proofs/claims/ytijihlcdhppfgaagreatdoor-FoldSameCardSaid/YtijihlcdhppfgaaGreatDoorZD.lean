/- A part of the walk. -/
import Derived.Test.YtijihlcdhppfgaaGreatDoorZC
import Derived.Lib.Strings
set_option maxHeartbeats 16000000
set_option maxRecDepth 100000
set_option linter.all false
namespace Go.Proofs.YtijihlcdhppfgaaGreatDoor
open Tryz
section
open Go.RowKit
theorem akW {P:Program} {f:FuncId} {args:Array Value} {w:World} {E:Up w} {v:Value} (h:Calls P f args E.to λe w'=>e=.returned v/\E.to=w'):Calls P f args E.to λe d=>e=.returned v/\∃j:Up w,d=j.to:= h.mono λ_ _ ⟨g,hb⟩=>⟨g,E,hb.symm⟩
theorem aeW (s:ByteArray) (x y z:UInt8) (h:s.data.toList=[x,y,z]):s.size=3/\∀(n:Nat) (d:n<s.size),s[n]=[x,y,z][n]'(by have:s.size=3:=(by have:=congrArg List.length h;simpa using this);simp;omega):=by
 have f:s.size=3:=by have:=congrArg List.length h;simpa using this
 refine⟨f,λn d=>?_⟩;have e:s.data.toList[n]'(by simpa using d)=[x,y,z][n]'(by simp;omega):=by simp[h]
 rw[<-e];rfl
theorem aiE (cs Z:List Value) (p:aZ) (f:CFn) (at_:Int) (i:hP) (w:World) (h:hG w w.heap.size cs p f) (q:1<=f.regs) (f0:f.regs<=60) (hi:j8 Z i) (hn:pE p f i=false) : Calls prog 116 #[.agg ⟨cs⟩,.int .i64 at_,.agg ⟨Z⟩] w (aK (.bool false) w):=by
 obtain⟨w0,s⟩:∃w0,w0=(w.alloc (.cells ⟨cs⟩ 209)).alloc (.cells ⟨Z⟩ 211):=⟨_,rfl⟩;have u:Hid (Below w.heap.size w w0):=by rw[s];exact bV w _ _
 have h1:Hid (aJ w0 w.heap.size cs):=by rw[s];exact(akV w cs _).old _
 have j:Hid (aJ w0 (w.heap.size+1) Z):=by rw[s];exact λi v hv=>by rw[lN];simpa using hv
 have l:Hid (∀w',Below w0.heap.size w0 w'->hG w' w'.heap.size cs p f):=λw' k=>h.keep (Nat.le_trans u.o.size k.size) (λ_ h=>(k.cell (Nat.lt_of_lt_of_le h u.o.size)).trans (u.o.cell h));obtain⟨rfl,v1,v2,v3,v4,v5⟩:=hi;obtain⟨pc,fc,rfl,⟨A1,n1,A2,n2,A3,n3,rfl,p1,p2,p3⟩,⟨A4,n4,A5,n5,rfl,q1,q2,e7,e9⟩⟩:=h;have l1:=aM p1;have P1:=hI p1;clear p1 p2 p3 q1 q2;simp only[List.cons_append,List.nil_append] at s h1 l;have HW:=hI s;clear s;rcases uQ i.op with hf | ⟨x,y,z,hf⟩
 ·have HF:=hI hf;clear hf hn;go_enter func116,ntmps116;go_wp2_with fail;rw[<-HW.o];refine(tP i.op w0).mono ?_;rw[HF.o];rintro e w1 ⟨rfl,d⟩;have g:=hI d;have A:=ecZ (h1.o.on d 0 _ rfl);have D:=ecZ (h1.o.on d 1 _ rfl);have F:=ecZ (h1.o.on d 2 _ rfl);have G:=ecZ (h1.o.on d 3 _ rfl);have c4:=ecZ (h1.o.on d 4 _ rfl);have H:=ecZ (h1.o.on d 5 _ rfl);have I:=ecZ (h1.o.on d 6 _ rfl);have J:=ecZ (h1.o.on d 7 _ rfl);have K:=ecZ (j.o.on d 0 _ rfl);have L:=ecZ (j.o.on d 1 _ rfl);have M:=ecZ (j.o.on d 2 _ rfl);have N:=ecZ (j.o.on d 3 _ rfl);have O:=ecZ (j.o.on d 4 _ rfl);clear d;go_wp2_with fail;refine aD (by kernel_rfl) (by kernel_rfl) ?_;repeat (go_big_quiet_step (fail))
  refine wpQuiet_nil ?_;rintro _ ⟨E,rfl⟩;have P:=hI (u.o.trans ((g.o.trans (E.below.mono g.o.size)).mono u.o.size));clear A D F G c4 H I J K L M N O;go_wp2_with fail;go_ret;exact⟨rfl,P.o⟩
 ·have HF:=hI hf;have V:(aL i.line 0 2000 && dJ p f x i.a && dJ p f y i.b && dJ p f z i.c)=false:=by rw[<-hn];simp[pE,hf]
  clear hf hn;obtain⟨sz,d8⟩:=aeW ⟨#[x,y,z]⟩ x y z rfl;have i0:∀W,(Instr.index 9 (.string ⟨#[x,y,z]⟩) (.int .i64 0)).run prog W=.ok (.int .u8 x.toNat) W:=λW=>by rw[run_index_string _ _ _ _ _ underlying9,dif_pos ⟨by omega,by rw[sz];decide⟩];rfl
  have i1:∀W,(Instr.index 9 (.string ⟨#[x,y,z]⟩) (.int .i64 1)).run prog W=.ok (.int .u8 y.toNat) W:=λW=>by rw[run_index_string _ _ _ _ _ underlying9,dif_pos ⟨by omega,by rw[sz];decide⟩];rfl
  have i2:∀W,(Instr.index 9 (.string ⟨#[x,y,z]⟩) (.int .i64 2)).run prog W=.ok (.int .u8 z.toNat) W:=λW=>by rw[run_index_string _ _ _ _ _ underlying9,dif_pos ⟨by omega,by rw[sz];decide⟩];rfl
  clear sz d8;cases S:aL i.line 0 2000
  ·clear V;go_enter func116,ntmps116;go_wp2_with fail;rw[<-HW.o];refine(tP i.op w0).mono ?_;rw[HF.o];rintro e w1 ⟨rfl,d⟩;have g:=hI d;have A:=ecZ (h1.o.on d 0 _ rfl);have D:=ecZ (h1.o.on d 1 _ rfl);have F:=ecZ (h1.o.on d 2 _ rfl);have G:=ecZ (h1.o.on d 3 _ rfl);have c4:=ecZ (h1.o.on d 4 _ rfl);have H:=ecZ (h1.o.on d 5 _ rfl);have I:=ecZ (h1.o.on d 6 _ rfl);have J:=ecZ (h1.o.on d 7 _ rfl);have K:=ecZ (j.o.on d 0 _ rfl);have L:=ecZ (j.o.on d 1 _ rfl);have M:=ecZ (j.o.on d 2 _ rfl);have N:=ecZ (j.o.on d 3 _ rfl);have O:=ecZ (j.o.on d 4 _ rfl);clear d;have B0:Hid (∀E:Up w1,Calls prog 184 #[.int .i64 i.line,.int .i64 0,.int .i64 2000] E.to λe w'=>e=.returned (.bool (aL i.line 0 2000))/\E.to=w'):=λE=>fF _ _ _ _;have r:Hid (∀E:Up w1,Calls prog 185 #[.agg ⟨_⟩,.int .u8 x.toNat,.int .i64 i.a] E.to (aK (.bool (dJ p f x i.a)) E.to)):=λE=>gU _ p f x i.a E.to (l.o _ (g.o.trans (E.below.mono g.o.size))) q;have R:Hid (∀E:Up w1,Calls prog 185 #[.agg ⟨_⟩,.int .u8 y.toNat,.int .i64 i.b] E.to (aK (.bool (dJ p f y i.b)) E.to)):=λE=>gU _ p f y i.b E.to (l.o _ (g.o.trans (E.below.mono g.o.size))) q;have X:Hid (∀E:Up w1,Calls prog 185 #[.agg ⟨_⟩,.int .u8 z.toNat,.int .i64 i.c] E.to (aK (.bool (dJ p f z i.c)) E.to)):=λE=>gU _ p f z i.c E.to (l.o _ (g.o.trans (E.below.mono g.o.size))) q;rw[S] at B0;clear S;go_wp2_with fail;refine aD (by kernel_rfl) (by kernel_rfl) ?_
   repeat (go_big_quiet_step ((first
    | (go_at_call 184;with_reducible exact akW (B0.o _))
    | (go_at_call 185;with_reducible exact Calls.up (r.o _))
    | (go_at_call 185;with_reducible exact Calls.up (R.o _))
    | (go_at_call 185;with_reducible exact Calls.up (X.o _)))))
   refine wpQuiet_nil ?_;rintro _ ⟨E,rfl⟩;have Y:=btZ g E.below;have P:=btZ u Y.o;clear A D F G c4 H I J K L M N O;go_wp2_with fail;go_ret;exact⟨rfl,P.o⟩
  ·have e4:=trivial;cases b1:dJ p f x i.a
   ·clear V;go_enter func116,ntmps116;go_wp2_with fail;rw[<-HW.o];refine(tP i.op w0).mono ?_;rw[HF.o];rintro e w1 ⟨rfl,d⟩;have g:=hI d;have A:=ecZ (h1.o.on d 0 _ rfl);have D:=ecZ (h1.o.on d 1 _ rfl);have F:=ecZ (h1.o.on d 2 _ rfl);have G:=ecZ (h1.o.on d 3 _ rfl);have c4:=ecZ (h1.o.on d 4 _ rfl);have H:=ecZ (h1.o.on d 5 _ rfl);have I:=ecZ (h1.o.on d 6 _ rfl);have J:=ecZ (h1.o.on d 7 _ rfl);have K:=ecZ (j.o.on d 0 _ rfl);have L:=ecZ (j.o.on d 1 _ rfl);have M:=ecZ (j.o.on d 2 _ rfl);have N:=ecZ (j.o.on d 3 _ rfl);have O:=ecZ (j.o.on d 4 _ rfl);clear d;have B0:Hid (∀E:Up w1,Calls prog 184 #[.int .i64 i.line,.int .i64 0,.int .i64 2000] E.to λe w'=>e=.returned (.bool (aL i.line 0 2000))/\E.to=w'):=λE=>fF _ _ _ _;have r:Hid (∀E:Up w1,Calls prog 185 #[.agg ⟨_⟩,.int .u8 x.toNat,.int .i64 i.a] E.to (aK (.bool (dJ p f x i.a)) E.to)):=λE=>gU _ p f x i.a E.to (l.o _ (g.o.trans (E.below.mono g.o.size))) q;have R:Hid (∀E:Up w1,Calls prog 185 #[.agg ⟨_⟩,.int .u8 y.toNat,.int .i64 i.b] E.to (aK (.bool (dJ p f y i.b)) E.to)):=λE=>gU _ p f y i.b E.to (l.o _ (g.o.trans (E.below.mono g.o.size))) q;have X:Hid (∀E:Up w1,Calls prog 185 #[.agg ⟨_⟩,.int .u8 z.toNat,.int .i64 i.c] E.to (aK (.bool (dJ p f z i.c)) E.to)):=λE=>gU _ p f z i.c E.to (l.o _ (g.o.trans (E.below.mono g.o.size))) q;rw[S] at B0;rw[b1] at r;clear S b1;go_wp2_with fail;refine aD (by kernel_rfl) (by kernel_rfl) ?_
    repeat (go_big_quiet_step ((first
     | (go_at_call 184;with_reducible exact akW (B0.o _))
     | (go_at_call 185;with_reducible exact Calls.up (r.o _))
     | (go_at_call 185;with_reducible exact Calls.up (R.o _))
     | (go_at_call 185;with_reducible exact Calls.up (X.o _)))))
    refine wpQuiet_nil ?_;rintro _ ⟨E,rfl⟩;have Y:=btZ g E.below;have P:=btZ u Y.o;clear A D F G c4 H I J K L M N O;go_wp2_with fail;go_ret;exact⟨rfl,P.o⟩
   ·have e5:=trivial;cases b2:dJ p f y i.b
    ·clear V;go_enter func116,ntmps116;go_wp2_with fail;rw[<-HW.o];refine(tP i.op w0).mono ?_;rw[HF.o];rintro e w1 ⟨rfl,d⟩;have g:=hI d;have A:=ecZ (h1.o.on d 0 _ rfl);have D:=ecZ (h1.o.on d 1 _ rfl);have F:=ecZ (h1.o.on d 2 _ rfl);have G:=ecZ (h1.o.on d 3 _ rfl);have c4:=ecZ (h1.o.on d 4 _ rfl);have H:=ecZ (h1.o.on d 5 _ rfl);have I:=ecZ (h1.o.on d 6 _ rfl);have J:=ecZ (h1.o.on d 7 _ rfl);have K:=ecZ (j.o.on d 0 _ rfl);have L:=ecZ (j.o.on d 1 _ rfl);have M:=ecZ (j.o.on d 2 _ rfl);have N:=ecZ (j.o.on d 3 _ rfl);have O:=ecZ (j.o.on d 4 _ rfl);clear d;have B0:Hid (∀E:Up w1,Calls prog 184 #[.int .i64 i.line,.int .i64 0,.int .i64 2000] E.to λe w'=>e=.returned (.bool (aL i.line 0 2000))/\E.to=w'):=λE=>fF _ _ _ _;have r:Hid (∀E:Up w1,Calls prog 185 #[.agg ⟨_⟩,.int .u8 x.toNat,.int .i64 i.a] E.to (aK (.bool (dJ p f x i.a)) E.to)):=λE=>gU _ p f x i.a E.to (l.o _ (g.o.trans (E.below.mono g.o.size))) q;have R:Hid (∀E:Up w1,Calls prog 185 #[.agg ⟨_⟩,.int .u8 y.toNat,.int .i64 i.b] E.to (aK (.bool (dJ p f y i.b)) E.to)):=λE=>gU _ p f y i.b E.to (l.o _ (g.o.trans (E.below.mono g.o.size))) q;have X:Hid (∀E:Up w1,Calls prog 185 #[.agg ⟨_⟩,.int .u8 z.toNat,.int .i64 i.c] E.to (aK (.bool (dJ p f z i.c)) E.to)):=λE=>gU _ p f z i.c E.to (l.o _ (g.o.trans (E.below.mono g.o.size))) q;rw[S] at B0;rw[b1] at r;rw[b2] at R;clear S b1 b2;go_wp2_with fail;refine aD (by kernel_rfl) (by kernel_rfl) ?_
     repeat (go_big_quiet_step ((first
      | (go_at_call 184;with_reducible exact akW (B0.o _))
      | (go_at_call 185;with_reducible exact Calls.up (r.o _))
      | (go_at_call 185;with_reducible exact Calls.up (R.o _))
      | (go_at_call 185;with_reducible exact Calls.up (X.o _)))))
     refine wpQuiet_nil ?_;rintro _ ⟨E,rfl⟩;have Y:=btZ g E.below;have P:=btZ u Y.o;clear A D F G c4 H I J K L M N O;go_wp2_with fail;go_ret;exact⟨rfl,P.o⟩
    ·have e6:=trivial;cases b3:dJ p f z i.c
     ·clear V;go_enter func116,ntmps116;go_wp2_with fail;rw[<-HW.o];refine(tP i.op w0).mono ?_;rw[HF.o];rintro e w1 ⟨rfl,d⟩;have g:=hI d;have A:=ecZ (h1.o.on d 0 _ rfl);have D:=ecZ (h1.o.on d 1 _ rfl);have F:=ecZ (h1.o.on d 2 _ rfl);have G:=ecZ (h1.o.on d 3 _ rfl);have c4:=ecZ (h1.o.on d 4 _ rfl);have H:=ecZ (h1.o.on d 5 _ rfl);have I:=ecZ (h1.o.on d 6 _ rfl);have J:=ecZ (h1.o.on d 7 _ rfl);have K:=ecZ (j.o.on d 0 _ rfl);have L:=ecZ (j.o.on d 1 _ rfl);have M:=ecZ (j.o.on d 2 _ rfl);have N:=ecZ (j.o.on d 3 _ rfl);have O:=ecZ (j.o.on d 4 _ rfl);clear d;have B0:Hid (∀E:Up w1,Calls prog 184 #[.int .i64 i.line,.int .i64 0,.int .i64 2000] E.to λe w'=>e=.returned (.bool (aL i.line 0 2000))/\E.to=w'):=λE=>fF _ _ _ _;have r:Hid (∀E:Up w1,Calls prog 185 #[.agg ⟨_⟩,.int .u8 x.toNat,.int .i64 i.a] E.to (aK (.bool (dJ p f x i.a)) E.to)):=λE=>gU _ p f x i.a E.to (l.o _ (g.o.trans (E.below.mono g.o.size))) q;have R:Hid (∀E:Up w1,Calls prog 185 #[.agg ⟨_⟩,.int .u8 y.toNat,.int .i64 i.b] E.to (aK (.bool (dJ p f y i.b)) E.to)):=λE=>gU _ p f y i.b E.to (l.o _ (g.o.trans (E.below.mono g.o.size))) q;have X:Hid (∀E:Up w1,Calls prog 185 #[.agg ⟨_⟩,.int .u8 z.toNat,.int .i64 i.c] E.to (aK (.bool (dJ p f z i.c)) E.to)):=λE=>gU _ p f z i.c E.to (l.o _ (g.o.trans (E.below.mono g.o.size))) q;rw[S] at B0;rw[b1] at r;rw[b2] at R;rw[b3] at X;clear S b1 b2 b3;go_wp2_with fail;refine aD (by kernel_rfl) (by kernel_rfl) ?_
      repeat (go_big_quiet_step ((first
       | (go_at_call 184;with_reducible exact akW (B0.o _))
       | (go_at_call 185;with_reducible exact Calls.up (r.o _))
       | (go_at_call 185;with_reducible exact Calls.up (R.o _))
       | (go_at_call 185;with_reducible exact Calls.up (X.o _)))))
      refine wpQuiet_nil ?_;rintro _ ⟨E,rfl⟩;have Y:=btZ g E.below;have P:=btZ u Y.o;clear A D F G c4 H I J K L M N O;go_wp2_with fail;go_ret;exact⟨rfl,P.o⟩
     ·exact absurd V (by rw[S,b1,b2,b3];decide)
end
section
open Go.RowKit
theorem aiF (cs a2:List Value) (p:aZ) (f:CFn) (at_:Int) (i:hP) (w:World) (h:hG w w.heap.size cs p f) (hr:1<=f.regs) (o3:f.regs<=60) (hi:j8 a2 i) (hn:pE p f i=true) : Calls prog 116 #[.agg ⟨cs⟩,.int .i64 at_,.agg ⟨a2⟩] w (aK (.bool (jE p f at_ i)) w):=by
 obtain⟨w0,O⟩:∃w0,w0=(w.alloc (.cells ⟨cs⟩ 209)).alloc (.cells ⟨a2⟩ 211):=⟨_,rfl⟩;have k0:Hid (Below w.heap.size w w0):=by rw[O];exact bV w _ _
 have h1:Hid (aJ w0 w.heap.size cs):=by rw[O];exact(akV w cs _).old _
 have q:Hid (aJ w0 (w.heap.size+1) a2):=by rw[O];exact λi v hv=>by rw[lN];simpa using hv
 have HL:Hid (∀w',Below w0.heap.size w0 w'->hG w' w'.heap.size cs p f):=λw' k=>h.keep (Nat.le_trans k0.o.size k.size) (λ_ h=>(k.cell (Nat.lt_of_lt_of_le h k0.o.size)).trans (k0.o.cell h));obtain⟨rfl,v1,v2,v3,v4,v5⟩:=hi;obtain⟨pc,fc,rfl,⟨A1,n1,A2,n2,A3,n3,rfl,p1,p2,p3⟩,⟨A4,n4,A5,n5,rfl,q1,q2,o1,o2⟩⟩:=h;have l1:=aM p1;have P1:=hI p1;clear p1 p2 p3 q1 q2;simp only[List.cons_append,List.nil_append] at O h1 HL;have HW:=hI O;clear O;obtain⟨x,y,z,hf⟩:∃x y z,mI i.op=[x,y,z]:=by
  rcases uQ i.op with hf | hf;·simp[pE,hf] at hn
  ·exact hf
 have HF:=hI hf;have e6:(aL i.line 0 2000 && dJ p f x i.a && dJ p f y i.b && dJ p f z i.c)=true:=by rw[<-hn];simp[pE,hf]
 simp only[Bool.and_eq_true] at e6;obtain⟨⟨⟨b0,b1⟩,b2⟩,b3⟩:=e6;have BY:=hI b2;have BZ:=hI b3;obtain⟨r,c9⟩:∃r,jE p f at_ i=r:=⟨_,rfl⟩;have I:Hid ((if i.op=14 then decide (i.a<=at_) else if i.op=19 then decide (i.b+i.c<=f.regs) else if i.op=27 then aaA f (i.b+i.c) else if i.op=26 then(match p.fns[i.b.toNat]? with | some g=>vF f g | none=>false) else if i.op=32 then f.gen else true)=r):=by
  show _=_
  rw[<-c9]
  unfold jE
  rw[hn,Bool.true_and]
  rfl
 rw[c9];clear hf hn c9;obtain⟨sz,k2⟩:=aeW ⟨#[x,y,z]⟩ x y z rfl;have i0:∀W,(Instr.index 9 (.string ⟨#[x,y,z]⟩) (.int .i64 0)).run prog W=.ok (.int .u8 x.toNat) W:=λW=>by rw[run_index_string _ _ _ _ _ underlying9,dif_pos ⟨by omega,by rw[sz];decide⟩];rfl
 have i1:∀W,(Instr.index 9 (.string ⟨#[x,y,z]⟩) (.int .i64 1)).run prog W=.ok (.int .u8 y.toNat) W:=λW=>by rw[run_index_string _ _ _ _ _ underlying9,dif_pos ⟨by omega,by rw[sz];decide⟩];rfl
 have i2:∀W,(Instr.index 9 (.string ⟨#[x,y,z]⟩) (.int .i64 2)).run prog W=.ok (.int .u8 z.toNat) W:=λW=>by rw[run_index_string _ _ _ _ _ underlying9,dif_pos ⟨by omega,by rw[sz];decide⟩];rfl
 clear sz k2;go_enter func116,ntmps116;go_wp2_with fail;rw[<-HW.o];refine(tP i.op w0).mono ?_;rw[HF.o];rintro e w1 ⟨rfl,D⟩;have V:=hI D;have c0:=ecZ (h1.o.on D 0 _ rfl);have c1:=ecZ (h1.o.on D 1 _ rfl);have c2:=ecZ (h1.o.on D 2 _ rfl);have c3:=ecZ (h1.o.on D 3 _ rfl);have c4:=ecZ (h1.o.on D 4 _ rfl);have c5:=ecZ (h1.o.on D 5 _ rfl);have c6:=ecZ (h1.o.on D 6 _ rfl);have c7:=ecZ (h1.o.on D 7 _ rfl);have R:=ecZ (q.o.on D 0 _ rfl);have d1:=ecZ (q.o.on D 1 _ rfl);have d2:=ecZ (q.o.on D 2 _ rfl);have d3:=ecZ (q.o.on D 3 _ rfl);have d4:=ecZ (q.o.on D 4 _ rfl);clear D;have B0:Hid (∀E:Up w1,Calls prog 184 #[.int .i64 i.line,.int .i64 0,.int .i64 2000] E.to λe w'=>e=.returned (.bool (aL i.line 0 2000))/\E.to=w'):=λE=>fF _ _ _ _;have B1:Hid (∀E:Up w1,Calls prog 185 #[.agg ⟨_⟩,.int .u8 x.toNat,.int .i64 i.a] E.to (aK (.bool (dJ p f x i.a)) E.to)):=λE=>gU _ p f x i.a E.to (HL.o _ (V.o.trans (E.below.mono V.o.size))) hr;have B2:Hid (∀E:Up w1,Calls prog 185 #[.agg ⟨_⟩,.int .u8 y.toNat,.int .i64 i.b] E.to (aK (.bool (dJ p f y i.b)) E.to)):=λE=>gU _ p f y i.b E.to (HL.o _ (V.o.trans (E.below.mono V.o.size))) hr;have B3:Hid (∀E:Up w1,Calls prog 185 #[.agg ⟨_⟩,.int .u8 z.toNat,.int .i64 i.c] E.to (aK (.bool (dJ p f z i.c)) E.to)):=λE=>gU _ p f z i.c E.to (HL.o _ (V.o.trans (E.below.mono V.o.size))) hr;rw[b0] at B0;rw[b1] at B1;rw[b2] at B2;rw[b3] at B3;clear b0 b1 b2 b3;go_wp2_with fail;refine aD (by kernel_rfl) (by kernel_rfl) ?_
 repeat (go_big_quiet_step ((first
  | (go_at_call 184;with_reducible exact akW (B0.o _))
  | (go_at_call 185;with_reducible exact Calls.up (B1.o _))
  | (go_at_call 185;with_reducible exact Calls.up (B2.o _))
  | (go_at_call 185;with_reducible exact Calls.up (B3.o _)))))
 refine wpQuiet_nil ?_;rintro _ ⟨E,rfl⟩;have l:=btZ V E.below;have J:=btZ k0 l.o;clear c0 c1 c2 c3 c4 c5 c6 c7 R d1 d2 d3 d4;clear i0 i1 i2;by_cases u:i.op=14
 ·have s:=I;rw[if_pos u] at s;have R:E.to.cell? ⟨w.heap.size+1,0,none⟩=some (.int .i64 14):=by rw[<-u];exact q.o.on l.o 0 _ rfl
  have d1:E.to.cell? ⟨w.heap.size+1,1,none⟩=some (.int .i64 i.a):=q.o.on l.o 1 _ rfl;clear u;go_wp2_with fail;go_ret;exact⟨by rw[<-s.o];rfl,J.o⟩
 rw[if_neg u] at I;by_cases A:i.op=19
 ·have s:=I;rw[if_pos A] at s;have R:E.to.cell? ⟨w.heap.size+1,0,none⟩=some (.int .i64 19):=by rw[<-A];exact q.o.on l.o 0 _ rfl
  have hq:0<=i.b/\i.b<=f.regs/\0<=i.c/\i.c<=f.regs:=by
   have e:=HF.o;rw[A] at e;have e':mI 19=[114,108,110]:=(by decide);rw[e'] at e;injection e with e1 e
   injection e with Y e
   injection e with e3 _
   have N:=BY.o;have X:=BZ.o;rw[<-Y] at N;rw[<-e3] at X;have F:aL i.b 0 f.regs=true:=N;have K:aL i.c 0 f.regs=true:=X;rw[gQ] at F K;exact⟨F.1,F.2,K.1,K.2⟩
  obtain⟨t1,t2,t3,t4⟩:=hq;have c4:E.to.cell? ⟨w.heap.size,4,none⟩=some (.int .i64 f.regs):=h1.o.on l.o 4 _ rfl;have d2:E.to.cell? ⟨w.heap.size+1,2,none⟩=some (.int .i64 i.b):=q.o.on l.o 2 _ rfl;have d3:E.to.cell? ⟨w.heap.size+1,3,none⟩=some (.int .i64 i.c):=q.o.on l.o 3 _ rfl;clear u A;go_wp2_with fail;go_ret;exact⟨by rw[<-s.o];rfl,J.o⟩
 rw[if_neg A] at I;by_cases G:i.op=27
 ·have s:=I;rw[if_pos G] at s;have R:E.to.cell? ⟨w.heap.size+1,0,none⟩=some (.int .i64 27):=by rw[<-G];exact q.o.on l.o 0 _ rfl
  have hq:0<=i.b/\i.b<=f.regs/\0<=i.c/\i.c<=f.regs:=by
   have e:=HF.o;rw[G] at e;have e':mI 27=[114,99,110]:=(by decide);rw[e'] at e;injection e with e1 e
   injection e with Y e
   injection e with e3 _
   have N:=BY.o;have X:=BZ.o;rw[<-Y] at N;rw[<-e3] at X;have F:aL i.b 0 f.regs=true:=N;have K:aL i.c 0 f.regs=true:=X;rw[gQ] at F K;exact⟨F.1,F.2,K.1,K.2⟩
  obtain⟨t1,t2,t3,t4⟩:=hq;have c0:E.to.cell? ⟨w.heap.size,0,none⟩=some (.slice A1 p.fns.length n1):=h1.o.on l.o 0 _ rfl;have c1:E.to.cell? ⟨w.heap.size,1,none⟩=some (.slice A2 p.consts.length n2):=h1.o.on l.o 1 _ rfl;have c2:E.to.cell? ⟨w.heap.size,2,none⟩=some (.slice A3 p.texts.length n3):=h1.o.on l.o 2 _ rfl;have c3:E.to.cell? ⟨w.heap.size,3,none⟩=some (.int .i64 f.params):=h1.o.on l.o 3 _ rfl;have c4:E.to.cell? ⟨w.heap.size,4,none⟩=some (.int .i64 f.regs):=h1.o.on l.o 4 _ rfl;have c5:E.to.cell? ⟨w.heap.size,5,none⟩=some (.bool f.gen):=h1.o.on l.o 5 _ rfl;have c6:E.to.cell? ⟨w.heap.size,6,none⟩=some (.slice A4 f.caught.length n4):=h1.o.on l.o 6 _ rfl;have c7:E.to.cell? ⟨w.heap.size,7,none⟩=some (.slice A5 f.code.length n5):=h1.o.on l.o 7 _ rfl;have d2:E.to.cell? ⟨w.heap.size+1,2,none⟩=some (.int .i64 i.b):=q.o.on l.o 2 _ rfl;have d3:E.to.cell? ⟨w.heap.size+1,3,none⟩=some (.int .i64 i.c):=q.o.on l.o 3 _ rfl;clear u A G;go_wp2_with fail;refine(adB _ p f _ E.to (HL.o _ l.o) hr).mono ?_;rintro e w5 ⟨rfl,k5⟩;have K5:=btZ J k5;clear k5 c0 c1 c2 c3 c4 c5 c6 c7 R d2 d3;go_wp2_with fail;go_ret;exact⟨by rw[<-s.o];rfl,K5.o⟩
 rw[if_neg G] at I;by_cases H:i.op=26
 ·have s:=I;rw[if_pos H] at s;have hq:1<=i.b/\i.b<=(p.fns.length:Int) - 1:=by
   have e:=HF.o;rw[H] at e;have e':mI 26=[114,102,45]:=(by decide);rw[e'] at e;injection e with e1 e
   injection e with Y e
   have N:=BY.o;rw[<-Y] at N;have F:aL i.b 1 ((p.fns.length:Int) - 1)=true:=N;rwa [gQ] at F
  obtain⟨t1,t2⟩:=hq;obtain⟨L,a0⟩:∃L:Nat,i.b=L:=⟨i.b.toNat,by omega⟩;rw[a0] at t1 t2;have t3:L<p.fns.length:=by omega
  obtain⟨Z,M,g,a1,k3,hb,e7,k4,hR,e9⟩:=P1.o.at_ t3;rw[a0,Int.toNat_natCast,e7] at s;subst k3;have j1:Hid (∀d:Up E.to,FnR d.to d.to.heap.size a1 g):=λd=>hR.keep (Nat.le_trans J.o.size d.below.size) (λ_ h=>(d.below.cell (Nat.lt_of_lt_of_le h J.o.size)).trans (J.o.cell h));have CC:Hid (∀d:Up E.to,Calls prog 187 #[.agg ⟨_⟩,.agg ⟨a1⟩] d.to (aK (.bool (vF f g)) d.to)):=λd=>akC _ a1 p f g d.to (HL.o _ (l.o.trans (d.below.mono l.o.size))) hr (j1.o d);have S:Hid (∀d:Up E.to,∀j v,a1[j]? = some v->d.to.cell? ⟨Z,M+L*5+j,none⟩=some v):=λd j v hv=>(d.below.cell (Nat.lt_of_lt_of_le hb J.o.size)).trans ((J.o.cell hb).trans (e9 j v hv));obtain⟨ga,gn,gc,gm,rfl,-⟩:=hR;have R:E.to.cell? ⟨w.heap.size+1,0,none⟩=some (.int .i64 26):=by rw[<-H];exact q.o.on l.o 0 _ rfl
  have Y:∀d:Up E.to,d.to.cell? ⟨w.heap.size+1,2,none⟩=some (.int .i64 L):=λd=>by rw[<-a0];exact d.cell (q.o.on l.o 2 _ rfl)
  have c0:∀d:Up E.to,d.to.cell? ⟨w.heap.size,0,none⟩=some (.slice (some ⟨Z,M,none⟩) p.fns.length n1):=λd=>d.cell (h1.o.on l.o 0 _ rfl);have c1:∀d:Up E.to,d.to.cell? ⟨w.heap.size,1,none⟩=some (.slice A2 p.consts.length n2):=λd=>d.cell (h1.o.on l.o 1 _ rfl);have c2:∀d:Up E.to,d.to.cell? ⟨w.heap.size,2,none⟩=some (.slice A3 p.texts.length n3):=λd=>d.cell (h1.o.on l.o 2 _ rfl);have c3:∀d:Up E.to,d.to.cell? ⟨w.heap.size,3,none⟩=some (.int .i64 f.params):=λd=>d.cell (h1.o.on l.o 3 _ rfl);have c4:∀d:Up E.to,d.to.cell? ⟨w.heap.size,4,none⟩=some (.int .i64 f.regs):=λd=>d.cell (h1.o.on l.o 4 _ rfl);have c5:∀d:Up E.to,d.to.cell? ⟨w.heap.size,5,none⟩=some (.bool f.gen):=λd=>d.cell (h1.o.on l.o 5 _ rfl);have c6:∀d:Up E.to,d.to.cell? ⟨w.heap.size,6,none⟩=some (.slice A4 f.caught.length n4):=λd=>d.cell (h1.o.on l.o 6 _ rfl);have c7:∀d:Up E.to,d.to.cell? ⟨w.heap.size,7,none⟩=some (.slice A5 f.code.length n5):=λd=>d.cell (h1.o.on l.o 7 _ rfl);have g0:∀d:Up E.to,d.to.cell? ⟨Z,M+L*5,none⟩=some (.int .i64 g.params):=λd=>S.o d 0 _ rfl;have N:∀d:Up E.to,d.to.cell? ⟨Z,M+L*5+1,none⟩=some (.int .i64 g.regs):=λd=>S.o d 1 _ rfl;have X:∀d:Up E.to,d.to.cell? ⟨Z,M+L*5+2,none⟩=some (.bool g.gen):=λd=>S.o d 2 _ rfl;have g3:∀d:Up E.to,d.to.cell? ⟨Z,M+L*5+3,none⟩=some (.slice ga g.caught.length gn):=λd=>S.o d 3 _ rfl;have g4:∀d:Up E.to,d.to.cell? ⟨Z,M+L*5+4,none⟩=some (.slice gc g.code.length gm):=λd=>S.o d 4 _ rfl;have t4:(L:Int)<p.fns.length:=by omega
  clear u A G H e7 e9 k4 a0;go_wp2_with fail;refine aD (by kernel_rfl) (by kernel_rfl) ?_;repeat (go_big_quiet_step ((go_at_call 187;with_reducible exact Calls.up (CC.o _))))
  refine wpQuiet_nil ?_;rintro _ ⟨d,rfl⟩;have K5:=btZ J d.below;clear Y g0 N X g3 g4 c0 c1 c2 c3 c4 c5 c6 c7 R;go_wp2_with fail;go_ret;exact⟨by rw[<-s.o];rfl,K5.o⟩
 rw[if_neg H] at I;by_cases P:i.op=32
 ·have s:=I;rw[if_pos P] at s;have R:E.to.cell? ⟨w.heap.size+1,0,none⟩=some (.int .i64 32):=by rw[<-P];exact q.o.on l.o 0 _ rfl
  have c5:E.to.cell? ⟨w.heap.size,5,none⟩=some (.bool f.gen):=h1.o.on l.o 5 _ rfl;clear u A G H P;go_wp2_with fail;go_ret;exact⟨by rw[<-s.o];rfl,J.o⟩
 rw[if_neg P] at I;have s:=I;have n6:(i.op == 14)=false:=by simpa using u
 have n7:(i.op == 19)=false:=by simpa using A
 have n8:(i.op == 27)=false:=by simpa using G
 have n9:(i.op == 26)=false:=by simpa using H
 have o0:(i.op == 32)=false:=by simpa using P
 have R:E.to.cell? ⟨w.heap.size+1,0,none⟩=some (.int .i64 i.op):=q.o.on l.o 0 _ rfl;clear u A G H P;go_wp2_with fail;go_ret;exact⟨by rw[<-s.o];rfl,J.o⟩
theorem order_c (cs d:List Value) (p:aZ) (f:CFn) (at_:Int) (i:hP) (w:World) (h:hG w w.heap.size cs p f) (l:1<=f.regs) (g:f.regs<=60) (hi:j8 d i) : Calls prog 116 #[.agg ⟨cs⟩,.int .i64 at_,.agg ⟨d⟩] w (aK (.bool (jE p f at_ i)) w):=by
 cases j:pE p f i
 ·have e:jE p f at_ i=false:=by unfold jE;rw[j];rfl
  rw[e];exact aiE cs d p f at_ i w h l g hi j
 ·exact aiF cs d p f at_ i w h l g hi j
end
section
open Go.RowKit
def kH (cs:List Value) (x:iV):Prop:=cs=[.int .i64 x.reg,.int .i64 x.at_]/\wfi x.reg/\wfi x.at_
theorem uG {α : Type} {xs d:List α} {k:Nat} (h:xs.take k=d.take k) (h1:xs.length<=k) (f:d.length<=k):xs=d:=by rwa [List.take_of_length_le h1,List.take_of_length_le f] at h
theorem aeF {α : Type} {xs f:List α} {k:Nat} {x y : α} (d:xs[k]? = some x) (g:f[k]? = some y) (h:x≠y):xs≠f:=λe=>by
 rw[e,g] at d;injection d with d;exact h d.symm
theorem yP {α : Type} {xs d:List α} {k:Nat} {x : α} (h:xs.take k=d.take k) (f:xs[k]? = some x) (g:d[k]? = some x):xs.take (k+1)=d.take (k+1):=by rw[List.take_add_one,List.take_add_one,h,f,g]
theorem uR (v u:Value) (xs f:List iV) (w:World) (S:aB w w.heap.size 2 kH v xs) (V:aB w w.heap.size 2 kH u f) : Calls prog 155 #[v,u] w (aK (.bool (decide (xs=f))) w):=by
 obtain⟨A,b3,rfl,b4,Y,-⟩:=id S;obtain⟨A',a5,rfl,a6,P,-⟩:=id V;unfold maxLen at Y P;have HX:=hI S;have HY:=hI V;clear S V;obtain⟨r,R⟩:∃r:Bool,decide (xs=f)=r:=⟨_,rfl⟩;rw[R];have L:=hI R;clear R;by_cases hl:xs.length=f.length
 ·have a7:xs.length<=f.length:=by omega
  have a9:f.length<=xs.length:=by omega
  have X:((xs.length:Int) != (f.length:Int))=false:=by simp;omega
  clear hl;go_enter func155,ntmps155;go_wp2_with fail;go_loopw [13] (λk wr=>∃d:Nat,k=.int .i64 d/\d<=xs.length/\Hid (xs.take d=f.take d)/\Hid (Below w.heap.size w wr)) (λk _=>xs.length - (intOf k).toNat);case atStart=>exact⟨0,rfl,by omega,hI rfl,Below.refl _ _⟩
  case round=>
   obtain⟨d,rfl,hk,Z,KW⟩:=hrel;by_cases a1:d<xs.length
   ·obtain⟨b,H,x,cs,rfl,hb,I,-,⟨rfl,-⟩,s⟩:=HX.o.at_ a1;obtain⟨b',z,y,b5,rfl,J,K,-,⟨rfl,-⟩,h⟩:=HY.o.at_ (i:=d) (by omega);have j:∀E:Up wr,Below w.heap.size w E.to:=λE=>jB KW.o E;have D:∀E:Up wr,E.to.cell? ⟨b,H+d*2,none⟩=some (.int .i64 x.reg):=λE=>((j E).cell hb).trans (s 0 _ rfl);have M:∀E:Up wr,E.to.cell? ⟨b,H+d*2+1,none⟩=some (.int .i64 x.at_):=λE=>((j E).cell hb).trans (s 1 _ rfl);have N:∀E:Up wr,E.to.cell? ⟨b',z+d*2,none⟩=some (.int .i64 y.reg):=λE=>((j E).cell J).trans (h 0 _ rfl);have O:∀E:Up wr,E.to.cell? ⟨b',z+d*2+1,none⟩=some (.int .i64 y.at_):=λE=>((j E).cell J).trans (h 1 _ rfl);have F:=hI I;have G:=hI K;have p:=hI j;have b0:(d:Int)<xs.length:=(by omega);have b2:(d:Int)<f.length:=(by omega);clear I K s h j;by_cases g:x=y
    ·subst g;go_wp2_with fail;refine aD (by kernel_rfl) (by kernel_rfl) ?_;repeat (go_big_quiet_step (fail))
     refine wpQuiet_nil ?_;rintro _ ⟨E,rfl⟩;have q:=hI (p.o E);clear D M N O;go_wp2_with fail;go_roundw;case rel=>exact⟨d+1,by go_num,by omega,yP Z.o F.o G.o,q⟩
     case measure=>simp[intOf];omega
    ·have l:Hid (r=false):=(by rw[<-L.o];exact decide_eq_false (aeF F.o G.o g));by_cases h1:x.reg=y.reg
     ·have n1:(x.at_ == y.at_)=false:=(by simp only[beq_eq_false_iff_ne];intro e;apply g;cases x;cases y;simp only at h1 e;rw[h1,e]);rw[h1] at D;clear g h1;go_wp2_with fail;refine aD (by kernel_rfl) (by kernel_rfl) ?_;repeat (go_big_quiet_step (fail))
      refine wpQuiet_nil ?_;rintro _ ⟨E,rfl⟩;have q:=hI (p.o E);clear D M N O;go_wp2_with fail;go_ret;exact⟨by rw[l.o];rfl,q.o⟩
     ·have n1:(x.reg == y.reg)=false:=(by simpa using h1);clear g h1;go_wp2_with fail;refine aD (by kernel_rfl) (by kernel_rfl) ?_;repeat (go_big_quiet_step (fail))
      refine wpQuiet_nil ?_;rintro _ ⟨E,rfl⟩;have q:=hI (p.o E);clear D M N O;go_wp2_with fail;go_ret;exact⟨by rw[l.o];rfl,q.o⟩
   ·have l:Hid (r=true):=(by rw[<-L.o];exact decide_eq_true (uG Z.o (by omega) (by omega)));go_wp2_with fail;go_ret;exact⟨by rw[l.o];rfl,KW.o⟩
 ·have X:((xs.length:Int) != (f.length:Int))=true:=by simp;omega
  have l:Hid (r=false):=by rw[<-L.o];exact decide_eq_false (λe=>hl (by rw[e]))
  clear hl;go_enter func155,ntmps155;go_wp2_with fail;go_ret;exact⟨by rw[l.o];rfl,Below.refl _ _⟩
theorem uS (v u:Value) (xs f:List ByteArray) (w:World) (L:aB w w.heap.size 1 nM v xs) (M:aB w w.heap.size 1 nM u f) : Calls prog 81 #[v,u] w (aK (.bool (decide (xs=f))) w):=by
 obtain⟨A,b0,rfl,b2,S,-⟩:=id L;obtain⟨A',a3,rfl,a4,I,-⟩:=id M;unfold maxLen at S I;have HX:=hI L;have HY:=hI M;clear L M;obtain⟨r,J⟩:∃r:Bool,decide (xs=f)=r:=⟨_,rfl⟩;rw[J];have G:=hI J;clear J;by_cases hl:xs.length=f.length
 ·have a5:xs.length<=f.length:=by omega
  have a6:f.length<=xs.length:=by omega
  have N:((xs.length:Int) != (f.length:Int))=false:=by simp;omega
  clear hl;go_enter func81,ntmps81;go_wp2_with fail;go_loopw [13] (λk wr=>∃d:Nat,k=.int .i64 d/\d<=xs.length/\Hid (xs.take d=f.take d)/\Hid (Below w.heap.size w wr)) (λk _=>xs.length - (intOf k).toNat);case atStart=>exact⟨0,rfl,by omega,hI rfl,Below.refl _ _⟩
  case round=>
   obtain⟨d,rfl,hk,V,X⟩:=hrel;by_cases a0:d<xs.length
   ·obtain⟨b,Y,x,cs,rfl,hb,z,-,⟨rfl,-⟩,D⟩:=HX.o.at_ a0;obtain⟨b',K,y,b3,rfl,Z,F,-,⟨rfl,-⟩,j⟩:=HY.o.at_ (i:=d) (by omega);have l:∀E:Up wr,Below w.heap.size w E.to:=λE=>jB X.o E;have O:∀E:Up wr,E.to.cell? ⟨b,Y+d,none⟩=some (.string x):=λE=>((l E).cell hb).trans (by simpa using D 0 _ rfl);have P:∀E:Up wr,E.to.cell? ⟨b',K+d,none⟩=some (.string y):=λE=>((l E).cell Z).trans (by simpa using j 0 _ rfl);have p:=hI z;have q:=hI F;have s:=hI l;have a7:(d:Int)<xs.length:=(by omega);have a9:(d:Int)<f.length:=(by omega);clear z F D j l;by_cases g:x=y
    ·subst g;go_wp2_with fail;refine aD (by kernel_rfl) (by kernel_rfl) ?_;repeat (go_big_quiet_step (fail))
     refine wpQuiet_nil ?_;rintro _ ⟨E,rfl⟩;have H:=hI (s.o E);clear O P;go_wp2_with fail;go_roundw;case rel=>exact⟨d+1,by go_num,by omega,yP V.o p.o q.o,H⟩
     case measure=>simp[intOf];omega
    ·have h:Hid (r=false):=(by rw[<-G.o];exact decide_eq_false (aeF p.o q.o g));have n1:(x.toList == y.toList)=false:=(by simp only[beq_eq_false_iff_ne];intro e;apply g;rw[Lib.toList_data,Lib.toList_data] at e;have R:x.data=y.data:=Array.toList_inj.1 e;cases x;cases y;simp only at R;rw[R]);clear g;go_wp2_with fail;refine aD (by kernel_rfl) (by kernel_rfl) ?_;repeat (go_big_quiet_step (fail))
     refine wpQuiet_nil ?_;rintro _ ⟨E,rfl⟩;have H:=hI (s.o E);clear O P;go_wp2_with fail;go_ret;exact⟨by rw[h.o];rfl,H.o⟩
   ·have h:Hid (r=true):=(by rw[<-G.o];exact decide_eq_true (uG V.o (by omega) (by omega)));go_wp2_with fail;go_ret;exact⟨by rw[h.o];rfl,X.o⟩
 ·have N:((xs.length:Int) != (f.length:Int))=true:=by simp;omega
  have h:Hid (r=false):=by rw[<-G.o];exact decide_eq_false (λe=>hl (by rw[e]))
  clear hl;go_enter func81,ntmps81;go_wp2_with fail;go_ret;exact⟨by rw[h.o];rfl,Below.refl _ _⟩
end
section
structure bC where
 fn:Int
 at_:Int
 tos:Int
 gen:Int
 self:Val
 regs:List Val
 tries:List iV
deriving DecidableEq
structure bJ where
 kind:Int
 num:Int
 vals:List Val
 frames:List bC
deriving DecidableEq
structure cD where
 frames:List bC
 state:Int
 on_:Int
 val:Val
deriving DecidableEq
structure aO where
 up:Int
 name:Int
deriving DecidableEq
structure ad6 where
 cell:Int
 fn:Val
deriving DecidableEq
structure aP where
 cells:List bJ
 shapes:List aO
 texts:List ByteArray
 threads:List cD
 ends:List ad6
 said:List Val
 asked:Int
 steps:Int
def upM (l:List aO):Nat->Int->List Int
 | 0,_=>[]
 | f+1,s=>if s<=0 then [] else match l[s.toNat]? with | none=>[] | some x=>x.name::upM l f x.up
def oA (l:List aO) (s:Int):List Int:=(upM l (s.toNat+1) s).reverse
def eG (l:List aO):Nat->List aO->List aO->Bool
 | _,_,[]=>true
 | k,seen,s::r=>!(decide (s.up<0) || decide ((k:Int)<s.up) || decide (s.name<0) || decide (s∈seen) || decide (s.name∈oA l s.up)) && eG l (k+1) (seen++[s]) r
def cG (l:List aO):Int:=
 if 100<l.length then 2
 else match l with
  | []=>3
  | x::r=>if x≠⟨-1,-1⟩ then 3 else if eG l 0 [] r then 0 else 3
def iE (l:List aO) (s:Int):List Int:=if cG l≠0\/s<0\/(l.length:Int)<=s then [] else oA l s
section
variable (R:Val->Bool) (S:aP)
def oC (n:Int):Int:=((S.cells[n.toNat]?).map (·.kind)).getD 0
def eU (v:Val):Bool:=
 R v && (if v.kind=4 then decide (v.n<S.texts.length) else if v.kind=5 then decide (v.n<S.cells.length) && oC S v.n != 0 else true)
def oK (l:List Val):Bool:=l.all (eU R S)
def sI (v:Val) (kind:Int):Bool:=eU R S v && v.kind == 5 && oC S v.n == kind
end
def jP:List Int->List Val->Bool
 | _,[]=>true
 | seen,[k]=>k.kind == 5 && !decide (k.n∈seen) && false
 | seen,k::_::r=>k.kind == 5 && !decide (k.n∈seen) && jP (k.n::seen) r
section
variable (R:Val->Bool) (S:aP)
def jN (f:bC):Bool:=oK R S f.regs && eU R S f.self
def mN (c:bJ):Bool:=
 (if c.kind=0 then c.num == 0 && c.vals.isEmpty && c.frames.isEmpty
 else if c.kind=1 then aL c.num 0 ((S.shapes.length:Int) - 1) && decide (c.vals.length=(iE S.shapes c.num).length) && c.frames.isEmpty
 else if c.kind=2 then c.num == 0 && c.frames.isEmpty
 else if c.kind=3 then c.num == 0 && decide (c.vals.length=1) && c.frames.isEmpty
 else if c.kind=4 then decide (0<=c.num) && c.vals.all (sI R S · 3) && c.frames.isEmpty
 else if c.kind=5 then aL c.num 0 2 && c.vals.isEmpty && decide (c.frames.length=if c.num=0 then 1 else 0)
 else if c.kind=6 then aL c.num (-1) 4 && c.vals.isEmpty && c.frames.isEmpty
 else if c.kind=7 then c.num == 0 && jP [] c.vals && c.frames.isEmpty
 else false) && oK R S c.vals && c.frames.all (jN R S)
def rI:Bool:=
 decide (300<S.cells.length) || decide (300<S.texts.length) || decide (200<S.said.length) || decide (100<S.ends.length) || S.texts.any (λt=>decide (200<t.size)) ||
  S.cells.any (λc=>decide (100<c.vals.length) && (c.kind != 7 || decide (600<c.vals.length)))
def lT (W:List ByteArray) (l:List ByteArray):Bool:=decide (W.length<=l.length) && decide (l.take W.length=W) && decide l.Nodup
def adR (e:ad6):Bool:=aL e.cell 0 ((S.cells.length:Int) - 1) && sI R S e.fn 4
def dN (W:List ByteArray):Int:=
 if rI S then 2
 else if cG S.shapes≠0 then cG S.shapes
 else if !lT W S.texts || S.shapes.any (λx=>decide ((S.texts.length:Int)<=x.name)) || S.cells.any (λc=>!mN R S c) then 3
 else if S.said.any (λv=>v.kind != 4 || !eU R S v) then 3
 else if S.ends.any (λe=>!adR R S e) then 3
 else 0
end
section
variable (R:Val->Bool) (p:aZ) (S:aP)
def i8 (n:Int):CFn:=(p.fns[n.toNat]?).getD ⟨0,0,false,[],[]⟩
def bZ (v:Val) (kind:Int):Option bJ:=
 if v.kind≠5\/v.n<0\/(S.cells.length:Int)<=v.n then none else match S.cells[v.n.toNat]? with | none=>none | some c=>if c.kind=kind then some c else none
def eC (f:bC):Bool:=
 aL f.fn 0 ((p.fns.length:Int) - 1) &&
 (match bZ S f.self 4 with | none=>false | some c=>c.num == f.fn) &&
 decide ((f.regs.length:Int)=(i8 p f.fn).regs) && aL f.at_ 0 (((i8 p f.fn).code.length:Int) - 1) &&
 ((dY (i8 p f.fn).code).seen.getD f.at_.toNat false) &&
 decide (f.tries=(dY (i8 p f.fn).code).out.getD f.at_.toNat []) && f.regs.all (eU R S)
def rD (f:bC):Bool:=
 eC R p S f && f.tos == -1 && f.gen == -1 && (i8 p f.fn).gen && (f.at_ == 0 || (((i8 p f.fn).code[(f.at_ - 1).toNat]?).map (·.op)).getD 0 == 32)
def oP (c:bJ):Bool:=
 if c.kind=4 then decide (c.num<p.fns.length) && decide (c.vals.length=(i8 p c.num).caught.length)
 else if c.kind=5 then c.num != 0 || (match c.frames with | []=>false | f::_=>rD R p S f)
 else true
def cX:Option Int->List Int->List bC->Option (List Int)
 | _,gens,[]=>some gens
 | low,gens,f::r=>
  let gen:=(i8 p (max 0 (min f.fn ((p.fns.length:Int) - 1)))).gen
  if !eC R p S f || !aL f.tos (-1) (low.getD 0 - 1) || gen != decide (0<=f.gen) || decide (f.gen < -1) then none
  else if !gen then cX (some f.regs.length) gens r
  else match bZ S ⟨5,f.gen⟩ 5 with
   | none=>none
   | some c=>if low=none\/c.num≠1\/f.gen∈gens then none else cX (some f.regs.length) (gens++[f.gen]) r
def gJ (gens:List Int) (h:cD):Option (List Int):=
 let over:=h.state == 3 || h.state == 4
 if over != h.frames.isEmpty || (!over && h.val != ⟨0,0⟩) || !eU R S h.val || !aL h.state 0 4 then none
 else if h.state=1/\bZ S ⟨5,h.on_⟩ 6=none then none
 else if h.state=2/\aL h.on_ 0 ((S.threads.length:Int) - 1)=false then none
 else if h.state≠1/\h.state≠2/\h.on_≠0 then none
 else cX R p S none gens h.frames
def dK:List Int->List cD->Option (List Int)
 | gens,[]=>some gens
 | gens,h::r=>match gJ R p S gens h with | none=>none | some g=>dK g r
def lI (gens:List Int):Nat->List bJ->Bool
 | _,[]=>true
 | k,c::r=>!(c.kind == 5 && c.num == 1 && !decide ((k:Int)∈gens)) && lI gens (k+1) r
def pC:Bool:=
 if decide (S.texts.length<p.texts.length) || decide (S.texts.take p.texts.length≠p.texts) || !aL S.steps 0 1000000000 || !aL S.asked 0 1000000000 || S.threads.isEmpty then false
 else if S.cells.any (λc=>!oP R p S c) then false
 else match dK R p S [] S.threads with
  | none=>false
  | some gens=>lI gens 0 S.cells
def eN (W:List ByteArray) (cc:Int):Int:=
 if cc≠0 then cc
 else if dN R S W≠0 then dN R S W
 else if 5<S.threads.length\/S.threads.any (λh=>decide (30<h.frames.length)) then 2
 else if pC R p S then 0 else 3
end
end
section
open Go.RowKit
def jG (cs:List Value) (x:aO):Prop:=cs=[.int .i64 x.up,.int .i64 x.name]/\wfi x.up/\wfi x.name
def yM (cs:List Value) (x:ad6):Prop:=cs=[.int .i64 x.cell,.int .i64 x.fn.kind,.int .i64 x.fn.n]/\wfi x.cell/\wfi x.fn.kind/\wfi x.fn.n
def dD (w:World) (B:Nat) (cs:List Value) (x:bC):Prop:=
 ∃r t,cs=[.int .i64 x.fn,.int .i64 x.at_,.int .i64 x.tos,.int .i64 x.gen,.int .i64 x.self.kind,.int .i64 x.self.n,r,t]/\aB w B 2 hU r x.regs/\aB w B 2 kH t x.tries/\
  wfi x.fn/\wfi x.at_/\wfi x.tos/\wfi x.gen/\wfi x.self.kind/\wfi x.self.n
def hM (w:World) (B:Nat) (cs:List Value) (x:bJ):Prop:=
 ∃v f,cs=[.int .i64 x.kind,.int .i64 x.num,v,f]/\aB w B 2 hU v x.vals/\aB w B 8 (dD w B) f x.frames/\wfi x.kind/\wfi x.num
def eM (w:World) (B:Nat) (cs:List Value) (x:cD):Prop:=
 ∃f,cs=[f,.int .i64 x.state,.int .i64 x.on_,.int .i64 x.val.kind,.int .i64 x.val.n]/\aB w B 8 (dD w B) f x.frames/\wfi x.state/\wfi x.on_/\wfi x.val.kind/\wfi x.val.n
def eB (w:World) (B:Nat) (cs:List Value) (x:aP):Prop:=
 ∃c s t h e a,cs=[c,s,t,h,e,a,.int .i64 x.asked,.int .i64 x.steps]/\aB w B 4 (hM w B) c x.cells/\aB w B 2 jG s x.shapes/\aB w B 1 nM t x.texts/\
  aB w B 5 (eM w B) h x.threads/\aB w B 3 yM e x.ends/\aB w B 2 hU a x.said/\wfi x.asked/\wfi x.steps
theorem dD.keep {w w':World} {B B':Nat} {cs:List Value} {x:bC} (h:dD w B cs x) (hB:B<=B') (d:∀p:Addr,p.block<B->w'.cell? p=w.cell? p):dD w' B' cs x:=by obtain⟨r,t,h1,f,g,j⟩:=h;exact⟨r,t,h1,f.keep hB d (λ_ _ h=>h),g.keep hB d (λ_ _ h=>h),j⟩
theorem hM.keep {w w':World} {B B':Nat} {cs:List Value} {x:bJ} (h:hM w B cs x) (hB:B<=B') (d:∀p:Addr,p.block<B->w'.cell? p=w.cell? p):hM w' B' cs x:=by obtain⟨v,f,h1,g,j,l⟩:=h;exact⟨v,f,h1,g.keep hB d (λ_ _ h=>h),j.keep hB d (λ_ _ h=>h.keep hB d),l⟩
theorem eM.keep {w w':World} {B B':Nat} {cs:List Value} {x:cD} (h:eM w B cs x) (hB:B<=B') (d:∀p:Addr,p.block<B->w'.cell? p=w.cell? p):eM w' B' cs x:=by obtain⟨f,h1,g,j⟩:=h;exact⟨f,h1,g.keep hB d (λ_ _ h=>h.keep hB d),j⟩
theorem eB.keep {w w':World} {B B':Nat} {cs:List Value} {x:aP} (h:eB w B cs x) (hB:B<=B') (d:∀p:Addr,p.block<B->w'.cell? p=w.cell? p):eB w' B' cs x:=by obtain⟨c,s,t,g,e,a,h1,f,j,l,q,r,u,v⟩:=h;exact⟨c,s,t,g,e,a,h1,f.keep hB d (λ_ _ h=>h.keep hB d),j.keep hB d (λ_ _ h=>h),l.keep hB d (λ_ _ h=>h),q.keep hB d (λ_ _ h=>h.keep hB d),r.keep hB d (λ_ _ h=>h),u.keep hB d (λ_ _ h=>h),v⟩
theorem eB.below {w w':World} {cs:List Value} {x:aP} (h:eB w w.heap.size cs x) (hb:Below w.heap.size w w'):eB w' w'.heap.size cs x:= h.keep hb.size (λ_ d=>hb.cell d)
end
section
open Go.ChangeShapes Go.WideShapes Go.ChangeAt Go.RowKit
section
variable {H:Type} {enc:TypeId×Value->H} {w:World} {spare:Nat->Bool} {held:Bool}
theorem cTryS:prog.cellsOf 223=2:=by kernel_rfl
theorem ae9:prog.cellsOf 145=8:=by kernel_rfl
theorem akM:prog.cellsOf 166=4:=by kernel_rfl
theorem ae7:prog.cellsOf 172=2:=by kernel_rfl
theorem acE:prog.cellsOf 140=5:=by kernel_rfl
theorem cEndS:prog.cellsOf 178=3:=by kernel_rfl
theorem cStateS:prog.cellsOf 40=8:=by kernel_rfl
theorem akJ:prog.cellsOf 23=1:=by kernel_rfl
theorem akI:prog.cellsOf 24=1:=by kernel_rfl
theorem cLTry:prog.cellsOf 143=1:=by kernel_rfl
theorem aaX:prog.cellsOf 138=1:=by kernel_rfl
theorem akK:prog.cellsOf 35=1:=by kernel_rfl
theorem ae8:prog.cellsOf 36=1:=by kernel_rfl
theorem acF:prog.cellsOf 37=1:=by kernel_rfl
theorem cLEnd:prog.cellsOf 38=1:=by kernel_rfl
theorem o_tryS:dS enc prog w spare held 223 kH:=by
 intro j cs x h
 have hl:=dV underlying223 h
 refine⟨hl,?_⟩
 rw[cTryS] at hl
 obtain⟨f,d⟩:=aI underlying223 h 0 _ rfl dL
 obtain⟨g,h1⟩:=aI underlying223 h 1 _ rfl dL
 match cs,hl with
 | [c0,c1],_=>
  simp only[List.getElem_toArray,List.getElem_cons_zero,List.getElem_cons_succ,pN,gB,hU,List.drop_zero,List.take_succ_cons,List.take_zero,List.drop_succ_cons,List.cons.injEq,and_true] at d h1
  obtain⟨rfl,w0⟩:=d
  obtain⟨rfl,w1⟩:=h1
  exact⟨⟨f,g⟩,rfl,w0,w1⟩
theorem o_trysS:dS enc prog w spare held 143 (λcs (xs:List iV)=>∃v,cs=[v]/\aB w w.heap.size 2 kH v xs):=cO underlying143 cTryS (by decide) cLTry o_tryS
theorem aiK:dS enc prog w spare held 172 jG:=by
 intro j cs x h
 have hl:=dV underlying172 h
 refine⟨hl,?_⟩
 rw[ae7] at hl
 obtain⟨f,d⟩:=aI underlying172 h 0 _ rfl dL
 obtain⟨g,h1⟩:=aI underlying172 h 1 _ rfl dL
 match cs,hl with
 | [c0,c1],_=>
  simp only[List.getElem_toArray,List.getElem_cons_zero,List.getElem_cons_succ,pN,gB,hU,List.drop_zero,List.take_succ_cons,List.take_zero,List.drop_succ_cons,List.cons.injEq,and_true] at d h1
  obtain⟨rfl,w0⟩:=d
  obtain⟨rfl,w1⟩:=h1
  exact⟨⟨f,g⟩,rfl,w0,w1⟩
theorem af8:dS enc prog w spare held 36 (λcs (xs:List aO)=>∃v,cs=[v]/\aB w w.heap.size 2 jG v xs):=cO underlying36 ae7 (by decide) ae8 aiK
theorem o_endS:dS enc prog w spare held 178 yM:=by
 intro l cs x h
 have hl:=dV underlying178 h
 refine⟨hl,?_⟩
 rw[cEndS] at hl
 obtain⟨f,d⟩:=aI underlying178 h 0 _ rfl dL
 obtain⟨g,h1⟩:=aI underlying178 h 1 _ rfl abO
 match cs,hl with
 | [c0,c1,c2],_=>
  simp only[List.getElem_toArray,List.getElem_cons_zero,List.getElem_cons_succ,pN,ahH,gB,hU,List.drop_zero,List.take_succ_cons,List.take_zero,List.drop_succ_cons,List.cons.injEq,and_true] at d h1
  obtain⟨rfl,w0⟩:=d
  obtain⟨⟨rfl,rfl⟩,w1,j⟩:=h1
  exact⟨⟨f,g⟩,rfl,w0,w1,j⟩
theorem o_endsS:dS enc prog w spare held 38 (λcs (xs:List ad6)=>∃v,cs=[v]/\aB w w.heap.size 3 yM v xs):=cO underlying38 cEndS (by decide) cLEnd o_endS
theorem aiM:dS enc prog w spare held 145 (dD w w.heap.size):=by
 intro I cs x h
 have hl:=dV underlying145 h
 refine⟨hl,?_⟩
 rw[ae9] at hl
 obtain⟨q,d⟩:=aI underlying145 h 0 _ rfl dL
 obtain⟨r,h1⟩:=aI underlying145 h 1 _ rfl dL
 obtain⟨s,f⟩:=aI underlying145 h 2 _ rfl dL
 obtain⟨u,g⟩:=aI underlying145 h 3 _ rfl dL
 obtain⟨v,j⟩:=aI underlying145 h 4 _ rfl abO
 obtain⟨y,J,l,z⟩:=aI underlying145 h 5 _ rfl aaI
 obtain⟨A,v6,p,D⟩:=aI underlying145 h 6 _ rfl o_trysS
 match cs,hl with
 | [c0,c1,c2,c3,c4,c5,c6,c7],_=>
  simp only[List.getElem_toArray,List.getElem_cons_zero,List.getElem_cons_succ,pN,cLTry,akJ,ahH,gB,hU,List.drop_zero,List.take_succ_cons,List.take_zero,List.drop_succ_cons,List.cons.injEq,and_true] at d h1 f g j l p
  obtain⟨rfl,w0⟩:=d
  obtain⟨rfl,w1⟩:=h1
  obtain⟨rfl,E⟩:=f
  obtain⟨rfl,F⟩:=g
  obtain⟨⟨rfl,rfl⟩,G,H⟩:=j
  subst l
  subst p
  exact⟨⟨q,r,s,u,v,y,A⟩,_,_,rfl,z,D,w0,w1,E,F,G,H⟩
theorem y9:dS enc prog w spare held 138 (λcs (xs:List bC)=>∃v,cs=[v]/\aB w w.heap.size 8 (dD w w.heap.size) v xs):=cO underlying138 ae9 (by decide) aaX aiM
theorem o_cellS:dS enc prog w spare held 166 (hM w w.heap.size):=by
 intro u cs x h
 have hl:=dV underlying166 h
 refine⟨hl,?_⟩
 rw[akM] at hl
 obtain⟨j,d⟩:=aI underlying166 h 0 _ rfl dL
 obtain⟨l,h1⟩:=aI underlying166 h 1 _ rfl dL
 obtain⟨p,v,f,q⟩:=aI underlying166 h 2 _ rfl aaI
 obtain⟨r,y,g,s⟩:=aI underlying166 h 3 _ rfl y9
 match cs,hl with
 | [c0,c1,c2,c3],_=>
  simp only[List.getElem_toArray,List.getElem_cons_zero,List.getElem_cons_succ,pN,aaX,akJ,gB,hU,List.drop_zero,List.take_succ_cons,List.take_zero,List.drop_succ_cons,List.cons.injEq,and_true] at d h1 f g
  obtain⟨rfl,w0⟩:=d
  obtain⟨rfl,w1⟩:=h1
  subst f
  subst g
  exact⟨⟨j,l,p,r⟩,_,_,rfl,q,s,w0,w1⟩
theorem aiN:dS enc prog w spare held 35 (λcs (xs:List bJ)=>∃v,cs=[v]/\aB w w.heap.size 4 (hM w w.heap.size) v xs):=cO underlying35 akM (by decide) akK o_cellS
theorem af7:dS enc prog w spare held 140 (eM w w.heap.size):=by
 intro y cs x h
 have hl:=dV underlying140 h
 refine⟨hl,?_⟩
 rw[acE] at hl
 obtain⟨j,z,d,l⟩:=aI underlying140 h 0 _ rfl y9
 obtain⟨p,h1⟩:=aI underlying140 h 1 _ rfl dL
 obtain⟨q,f⟩:=aI underlying140 h 2 _ rfl dL
 obtain⟨r,g⟩:=aI underlying140 h 3 _ rfl abO
 match cs,hl with
 | [c0,c1,c2,c3,c4],_=>
  simp only[List.getElem_toArray,List.getElem_cons_zero,List.getElem_cons_succ,pN,aaX,ahH,gB,hU,List.drop_zero,List.take_succ_cons,List.take_zero,List.drop_succ_cons,List.cons.injEq,and_true] at d h1 f g
  subst d
  obtain⟨rfl,w1⟩:=h1
  obtain⟨rfl,s⟩:=f
  obtain⟨⟨rfl,rfl⟩,u,v⟩:=g
  exact⟨⟨j,p,q,r⟩,_,rfl,l,w1,s,u,v⟩
theorem ac6:dS enc prog w spare held 37 (λcs (xs:List cD)=>∃v,cs=[v]/\aB w w.heap.size 5 (eM w w.heap.size) v xs):=cO underlying37 acE (by decide) acF af7
theorem aiJ:dS enc prog w spare held 40 (eB w w.heap.size):=by
 intro L cs x h
 have hl:=dV underlying40 h
 refine⟨hl,?_⟩
 rw[cStateS] at hl
 obtain⟨r,M,d,s⟩:=aI underlying40 h 0 _ rfl aiN
 obtain⟨u,N,h1,s1⟩:=aI underlying40 h 1 _ rfl af8
 obtain⟨v,O,f,y⟩:=aI underlying40 h 2 _ rfl aiI
 obtain⟨z,P,g,A⟩:=aI underlying40 h 3 _ rfl ac6
 obtain⟨D,R,j,E⟩:=aI underlying40 h 4 _ rfl o_endsS
 obtain⟨F,S,l,G⟩:=aI underlying40 h 5 _ rfl aaI
 obtain⟨H,p⟩:=aI underlying40 h 6 _ rfl dL
 obtain⟨I,q⟩:=aI underlying40 h 7 _ rfl dL
 match cs,hl with
 | [c0,c1,c2,c3,c4,c5,c6,c7],_=>
  simp only[List.getElem_toArray,List.getElem_cons_zero,List.getElem_cons_succ,pN,akK,cLEnd,ae8,acF,akJ,akI,gB,hU,List.drop_zero,List.take_succ_cons,List.take_zero,List.drop_succ_cons,List.cons.injEq,and_true] at d h1 f g j l p q
  subst d
  subst h1
  subst f
  subst g
  subst j
  subst l
  obtain⟨rfl,J⟩:=p
  obtain⟨rfl,K⟩:=q
  exact⟨⟨r,u,v,z,D,F,H,I⟩,_,_,_,_,_,_,rfl,s,s1,y,A,E,G,J,K⟩
theorem open_state {v:Value} {d:DataW H} {g:List MemPlace} {r:Reach} {j:Nat} (l:Value.okWide prog w r j 40 v) (h:DataW.Trod enc prog w 0 spare held 40 v d g):∃cs s,v=.agg ⟨cs⟩/\eB w w.heap.size cs s:=by obtain⟨cs,rfl,_⟩:=okWide_struct underlying40 l;obtain⟨f,hf⟩:=h;obtain⟨_,t,ht⟩:=aiJ _ _ _ hf;exact⟨cs.toList,t,rfl,ht⟩
end
end
end Go.Proofs.YtijihlcdhppfgaaGreatDoor
