/- Part of the walk of the given code: contracts of the functions that irun.Run reaches, and plain laws on what it reckons. -/
import Derived.Test.YtjaphgpkkfdaaaaGreatDoorZBA
set_option maxHeartbeats 16000000
set_option maxRecDepth 100000
set_option linter.all false
namespace Go.Proofs.YtjaphgpkkfdaaaaGreatDoor
section
theorem tM {ins:List bG} {at_:Int} : ∀(last:Int) (l:List fZ),iE ins at_ last l=true→∀m∈l,0≤m.cell∧m.cell<at_∧nQ ins m.cell=18
 | _,[],_,_,hm=>by simp at hm
 | last,x::l,h,m,hm=>by
  have h0:=mP last (x::l) h m hm
  simp only[iE,Bool.and_eq_true,decide_eq_true_eq] at h
  rcases List.mem_cons.1 hm with rfl | hm
  ·have h2:=h.1.2
   simp only[nD,Bool.and_eq_true,beq_iff_eq] at h2
   exact⟨h0.1.1,h0.1.2.1,h2.1.1.1.2⟩
  ·exact tM _ l h.2 m hm
theorem tH {regs:Int} {ins:List bG} {at_:Int} : ∀(last:Int) (l:List pS),-1≤last→nC regs ins at_ last l=true→∀s∈l,0≤s.reg∧s.reg<regs∧0≤s.val∧s.val<at_∧s.val<ins.length
 | _,[],_,_,_,hs=>by simp at hs
 | last,x::l,hl,h,s,hs=>by
  have h0:=q9 last (x::l) h s hs
  simp only[nC,Bool.and_eq_true,decide_eq_true_eq] at h
  rcases List.mem_cons.1 hs with rfl | hs
  ·exact⟨by omega,h.1.1.2,h0⟩
  ·exact tH _ l (by omega) h.2 s hs
structure oW (regs:Int) (t:aN) (x:cW) (k:Nat):Prop where
 steps:0≤x.steps
 makes:mV t x k
 sets:∀s∈x.sets,0≤s.reg∧s.reg<regs∧0≤s.val∧s.val<k∧s.val<t.ins.length
theorem jQ {fn:FnM} {t:aN} {x:cW} {k:Nat} (h:bR fn t.ins x (k:Int)=true):oW fn.regs t x k:=by
 simp only[bR,Bool.and_eq_true,Bool.not_eq_true',Bool.or_eq_false_iff,decide_eq_false_iff_not] at h
 refine⟨by omega,fun m hm=>?_,fun s hs=>tH (-1) _ (by omega) h.1.2 s hs⟩
 have h1:=tM _ _ h.2 m hm
 refine⟨h1.1,h1.2.1,?_⟩
 have h2:=h1.2.2
 unfold nQ at h2
 unfold jE
 cases e:t.ins[m.cell.toNat]? with
 | none=>rw[e] at h2;cases h2
 | some y=>rw[e] at h2;exact h2
structure kQ (regs:Int) (t:aN):Prop where
 exits:∀(i:Nat) x e,t.ins[i]? = some x→0≤x.exit→t.exits[x.exit.toNat]? = some e→oW regs t e i
 turn:0<t.loop→oW regs t t.turn t.loop.toNat
 back:oW regs t t.back t.ins.length
 all:∀e∈t.exits,0≤e.steps∧∀s∈e.sets,0≤s.reg∧s.reg<regs
theorem yK {aG:Val→Bool} {ce:Int} {fns:List FnM} {t:aN} (h:fA aG ce fns t=0):∃fn,0≤t.fn∧fns[t.fn.toNat]? = some fn∧kQ fn.regs t:=by
 obtain⟨-,-,fn,hf,-,hl,hi,-,ht1,hb,hx⟩:=gZ h
 refine⟨fn,hf.1,hf.2,⟨fun i x e hxi h0 he=>?_,fun c=>?_,jQ (by exact hb.2),fun e he=>?_⟩⟩
 ·obtain⟨h1,h2⟩:=fQ t.ins 0 hi i x hxi
  rw[Nat.zero_add] at h2
  simp only[eY,Bool.and_eq_true] at h2
  have h3:=h2.2
  split at h3
  ·rw[beq_iff_eq] at h3;omega
  ·simp only[Bool.and_eq_true,decide_eq_true_eq] at h3
   rw[he] at h3
   exact jQ h3.2
 ·have:=(ht1 c).2
  have e:((t.loop.toNat:Nat):Int)=t.loop:=by omega
  rw[←e] at this
  exact jQ this
 ·have:=List.all_eq_true.1 hx e he
  have h2:=jQ this
  exact⟨h2.steps,fun s hs=>⟨(h2.sets s hs).1,(h2.sets s hs).2.1⟩⟩
theorem kQ.mk_ {regs:Int} {t:aN} (h:kQ regs t):vF t:=⟨fun i x e a b c=>(h.exits i x e a b c).makes,fun c=>(h.turn c).makes,h.back.makes⟩
theorem l7 {regs:Int} {t:aN} (h:kQ regs t):∀(k done:Nat),0≤dA t done k
 | 0,_=>by simp[dA]
 | k+1,done=>by
  have:=l7 h k (done+1)
  have h2:0≤(jV t done).steps:=by
   unfold jV
   split
   ·rename_i c;exact(h.turn c.2).steps
   ·exact h.back.steps
  simp only[dA];omega
theorem irun_others {E:hV} {irc stc:Int} {t:aN} {S out:aR} {th turns exit n:Int} {regs:Int} (hx:jA t) (ha:wT t) (hf:kQ regs t) (h:mY E irc stc t S th turns=(out,exit,n,0)) :
  S.steps≤out.steps∧out.said=S.said∧out.asked=S.asked∧out.shapes=S.shapes∧out.texts=S.texts∧hG S.cells out.cells∧out.threads.length=S.threads.length∧
   ∀(i:Nat) a,S.threads[i]? = some a→∃b,out.threads[i]? = some b∧b.frames.length=a.frames.length∧∀(k:Nat),((i:Int)≠th∨k+1<a.frames.length)→b.frames[k]? = a.frames[k]?:=by
 have hst:=xP hx ha h
 obtain⟨-,-,h0,ht,-,hd,f,h1,h2,-,-,hat,hw,-,e1,e2,e3⟩:=uN h
 rw[lK h1 h2] at e1
 have hkeep:hG S.cells (bQ E t f.self S.shapes turns.toNat 0 (cL t S f)).1.cells:=by
  refine zC E hx ha hf.mk_ f.self S.shapes turns.toNat 0 (cL t S f) ?_
  rw[if_pos rfl]
  exact⟨hG.refl _,by simp[cL],fun v hv=>by omega⟩
 refine⟨?_,by rw[e1],by rw[e1],by rw[e1],by rw[e1],by rw[e1];exact hkeep,by rw[e1];simp,fun i a hi=>?_⟩
 ·obtain⟨-,m,hd',f',-,-,-,hc⟩:=hst
  have hp:=l7 hf m 0
  rcases hc with ⟨-,-,g,-⟩ | ⟨x,-,-,-,hxx,g,-⟩
  ·omega
  ·have:=(hf.all x (List.mem_of_getElem? hxx)).1
   omega
 ·by_cases e:i=th.toNat
  ·subst e
   rw[h1] at hi;injection hi with hi;subst hi
   obtain⟨l,hl⟩:=List.getLast?_eq_some_iff.1 h2
   refine⟨_,by rw[e1];exact List.getElem?_set_self (lE h1).1,by rw[hl];simp,fun k hk=>?_⟩
   have hk':k+1<hd.frames.length:=by
    rcases hk with hk | hk
    ·omega
    ·exact hk
   rw[hl] at hk' ⊢
   simp only[List.length_append,List.length_cons,List.length_nil] at hk'
   simp only[List.dropLast_concat]
   rw[List.getElem?_append_left (by omega),List.getElem?_append_left (by omega)]
  ·exact⟨a,by rw[e1];show(S.threads.set th.toNat _)[i]? = _;rw[List.getElem?_set_ne (Ne.symm e)];exact hi,rfl,fun _ _=>rfl⟩
end
section
structure Lim (t:aN) (r:Nat) (w:aI):Prop where
 vals:w.vals.length=t.ins.length
 cells:w.cells.length≤300
 regs:w.regs.length=r
theorem setV_n {w:aI} (h:w.cells.length≤300) (i:Nat) (v:Val):(fS w i v).cells.length≤300:=h
theorem oI {w:aI} (h:w.cells.length≤300) (n:Nat) (c:bC):(setCW w n c).cells.length≤300:=by
 show(w.cells.set n c).length≤300;rw[List.length_set];exact h
theorem zI {w:aI} (h:w.cells.length≤300) (i:Nat) (k:Int):(dX w i k).1.cells.length≤300:=by
 unfold dX
 split
 ·exact h
 ·show(w.cells++[_]).length≤300;rw[List.length_append,List.length_singleton];omega
theorem slot_n {w:aI} (h:w.cells.length≤300) (i:Nat) (x:bG):(gW w i x).1.cells.length≤300:=by
 unfold gW
 split
 ·exact h
 ·split
  ·exact h
  ·split
   ·exact h
   ·split
    ·exact oI h _ _
    ·exact h
theorem grow_n {w:aI} (h:w.cells.length≤300) (sh:List aT) (x:bG):(jT sh w x).1.cells.length≤300:=by
 unfold jT
 split
 ·exact h
 ·split
  ·exact h
  ·split
   ·exact h
   ·split
    ·exact h
    ·exact oI h _ _
theorem push_n {w:aI} (h:w.cells.length≤300) (x:bG):(iT w x).1.cells.length≤300:=by
 unfold iT
 split
 ·exact h
 ·split
  ·exact h
  ·split
   ·exact oI h _ _
   ·split <;> exact h
theorem item_n {w:aI} (h:w.cells.length≤300) (i:Nat) (x:bG):(lP w i x).1.cells.length≤300:=by
 unfold lP
 split
 ·exact h
 ·split
  ·exact h
  ·split
   ·exact h
   ·split
    ·exact h
    ·exact oI h _ _
theorem do_n (E:hV) (self:Val) (shapes:List aT) {w:aI} (h:w.cells.length≤300) (i:Nat) (x:bG):(doI E self shapes w i x).1.cells.length≤300:=by
 unfold doI
 refine bU (fun r:aI×Int=>r.1.cells.length≤300) (fun _=>h) fun _=>?_
 refine bU (fun r:aI×Int=>r.1.cells.length≤300) (fun _=>h) fun _=>?_
 refine bU (fun r:aI×Int=>r.1.cells.length≤300) (fun _=>h) fun _=>?_
 refine bU (fun r:aI×Int=>r.1.cells.length≤300) (fun _=>h) fun _=>?_
 refine bU (fun r:aI×Int=>r.1.cells.length≤300) (fun _=>h) fun _=>?_
 refine bU (fun r:aI×Int=>r.1.cells.length≤300) (fun _=>h) fun _=>?_
 refine bU (fun r:aI×Int=>r.1.cells.length≤300) (fun _=>slot_n h _ _) fun _=>?_
 refine bU (fun r:aI×Int=>r.1.cells.length≤300) (fun _=>grow_n h _ _) fun _=>?_
 refine bU (fun r:aI×Int=>r.1.cells.length≤300) (fun _=>item_n h _ _) fun _=>?_
 refine bU (fun r:aI×Int=>r.1.cells.length≤300) (fun _=>zI h _ _) fun _=>?_
 refine bU (fun r:aI×Int=>r.1.cells.length≤300) (fun _=>push_n h _) fun _=>?_
 exact bU (fun r:aI×Int=>r.1.cells.length≤300) (fun _=>h) fun _=>zI h _ _
theorem Lim.do_ {t:aN} {r:Nat} {w:aI} (h:Lim t r w) (E:hV) (self:Val) (shapes:List aT) (i:Nat):Lim t r (doW E t self shapes w i).1:=
 ⟨(sB [] E self shapes w i (jE t i)).len.trans h.vals,do_n E self shapes h.cells i _,by rw[(sA E t self shapes w i).regs];exact h.regs⟩
structure zV (regs:Int) (t:aN) (i:Nat) (x:bG):Prop where
 op:1≤x.op∧x.op≤19
 a:1≤(cF x.op).asks→0≤x.a∧x.a<i
 b:2≤(cF x.op).asks→0≤x.b∧x.b<i
 c:3≤(cF x.op).asks→0≤x.c∧x.c<i
 n:(cF x.op).low≤x.n∧x.n≤(cF x.op).high
 reg:x.op=1→x.n<regs
structure wQ (t:aN) (m:fZ) (k:Nat):Prop where
 cell:0≤m.cell∧m.cell<k
 len:m.vals.length≤100
 vals:∀v∈m.vals,0≤v∧v<k
structure mX (regs:Int) (t:aN) (x:cW) (k:Nat):Prop where
 at_:0≤x.at_
 steps:0≤x.steps∧x.steps≤200
 sets:∀s∈x.sets,0≤s.reg∧s.reg<regs∧0≤s.val∧s.val<k
 makes:∀m∈x.makes,wQ t m k
structure sI (regs:Int) (t:aN):Prop where
 len:t.ins.length≤300
 loop:0≤t.loop∧t.loop≤t.ins.length
 ins:∀(i:Nat) x,t.ins[i]? = some x→zV regs t i x
 exits:∀(i:Nat) x e,t.ins[i]? = some x→0≤x.exit→t.exits[x.exit.toNat]? = some e→mX regs t e i
 turn:0<t.loop→mX regs t t.turn t.loop.toNat
 back:mX regs t t.back t.ins.length
theorem qB {ins:List bG} {t:aN} {k:Nat} : ∀(last:Int) (l:List fZ),iE ins (k:Int) last l=true→∀m∈l,wQ t m k
 | _,[],_,_,hm=>by simp at hm
 | last,x::l,h,m,hm=>by
  have h0:=mP last (x::l) h m hm
  simp only[iE,Bool.and_eq_true,decide_eq_true_eq] at h
  rcases List.mem_cons.1 hm with rfl | hm
  ·have h2:=h.1.2
   simp only[nD,Bool.and_eq_true,decide_eq_true_eq] at h2
   exact⟨⟨h0.1.1,h0.1.2.1⟩,h2.1.2,fun v hv=>⟨(h0.2 v hv).1,(h0.2 v hv).2.1⟩⟩
  ·exact qB _ l h.2 m hm
theorem pD {fn:FnM} {t:aN} {x:cW} {k:Nat} (h:bR fn t.ins x (k:Int)=true):mX fn.regs t x k:=by
 have h0:=jQ h
 simp only[bR,Bool.and_eq_true,Bool.not_eq_true',Bool.or_eq_false_iff,decide_eq_false_iff_not] at h
 exact⟨by omega,by omega,fun s hs=>⟨(h0.sets s hs).1,(h0.sets s hs).2.1,(h0.sets s hs).2.2.1,(h0.sets s hs).2.2.2.1⟩,qB _ _ h.2⟩
theorem yJ {aG:Val→Bool} {ce:Int} {fns:List FnM} {t:aN} (h:fA aG ce fns t=0):∃fn,0≤t.fn∧fns[t.fn.toNat]? = some fn∧sI fn.regs t:=by
 obtain⟨hlen,-,fn,hf,-,hl,hi,-,ht1,hb,hx⟩:=gZ h
 refine⟨fn,hf.1,hf.2,⟨hlen,hl,fun i x hxi=>?_,fun i x e hxi h0 he=>?_,fun c=>?_,pD (by exact hb.2)⟩⟩
 ·obtain⟨h1,h2⟩:=fQ t.ins 0 hi i x hxi
  have ha:=oS h hxi
  have has:∀v∈iU x,0≤v∧v<i:=fun v hv=>⟨(ha v hv).1,(ha v hv).2.1⟩
  unfold iU at has
  rw[Nat.zero_add] at h2
  simp only[eY,Bool.and_eq_true,Bool.not_eq_true',Bool.or_eq_false_iff,decide_eq_false_iff_not] at h2
  obtain⟨⟨⟨-,⟨h3,h4⟩,h5⟩,-⟩,-⟩:=h2
  refine⟨by simpa [lU] using h1,fun c=>has x.a ?_,fun c=>has x.b ?_,fun c=>has x.c ?_,⟨by omega,by omega⟩,fun c=>?_⟩
  ·generalize (cF x.op).asks=n at c
   obtain⟨m,rfl⟩:∃m:Nat,n=((m+1:Nat):Int):=⟨(n - 1).toNat,by omega⟩
   show x.a∈List.take (m+1) [x.a,x.b,x.c]
   simp
  ·generalize (cF x.op).asks=n at c
   obtain⟨m,rfl⟩:∃m:Nat,n=((m+2:Nat):Int):=⟨(n - 2).toNat,by omega⟩
   show x.b∈List.take (m+2) [x.a,x.b,x.c]
   simp
  ·generalize (cF x.op).asks=n at c
   obtain⟨m,rfl⟩:∃m:Nat,n=((m+3:Nat):Int):=⟨(n - 3).toNat,by omega⟩
   show x.c∈List.take (m+3) [x.a,x.b,x.c]
   simp
  ·rw[c] at h5
   simpa using h5
 ·obtain⟨h1,h2⟩:=fQ t.ins 0 hi i x hxi
  rw[Nat.zero_add] at h2
  simp only[eY,Bool.and_eq_true] at h2
  have h3:=h2.2
  split at h3
  ·rw[beq_iff_eq] at h3;omega
  ·simp only[Bool.and_eq_true,decide_eq_true_eq] at h3
   rw[he] at h3
   exact pD h3.2
 ·have:=(ht1 c).2
  have e:((t.loop.toNat:Nat):Int)=t.loop:=by omega
  rw[←e] at this
  exact pD this
end
end Go.Proofs.YtjaphgpkkfdaaaaGreatDoor
