/- A part of the walk. -/
import Derived.Test.YtjaphgpkkfdaaaaGreatDoorZBH
import Derived.Test.YtjaphgpkkfdaaaaGreatDoorRows
import Derived.SizedLaws
set_option maxHeartbeats 16000000
set_option maxRecDepth 100000
set_option linter.all false
namespace Go.Proofs.YtjaphgpkkfdaaaaGreatDoor
section
open Go.RowKit
end
section
open Go.RowKit
theorem aeI (w:World) (a b c:Obj):(((w.alloc a).alloc b).alloc c).heap[w.heap.size]? = some a∧(((w.alloc a).alloc b).alloc c).heap[w.heap.size+1]? = some b∧(((w.alloc a).alloc b).alloc c).heap[w.heap.size+1+1]? = some c∧Below w.heap.size w (((w.alloc a).alloc b).alloc c):=by
 refine⟨aY (aY (aJ _ _) _) _,?_,?_,?_⟩
 ·have h:=aJ (w.alloc a) b
  rw[World.size_alloc] at h
  exact aY h _
 ·have h:=aJ ((w.alloc a).alloc b) c
  rw[World.size_alloc,World.size_alloc] at h
  exact h
 ·exact(((Below.refl _ w).alloc (Nat.le_refl _) _).alloc (by rw[World.size_alloc];omega) _).alloc (by rw[World.size_alloc,World.size_alloc];omega) _
theorem cT.exit {w:World} {B:Nat} {A:Option Addr} {n:Nat} {cs:List Value} {t:aN} (h:cT w B cs t) (hc:cs[4]? = some (.slice A t.exits.length n)) {i:Nat} {x:cW} (hx:t.exits[i]? = some x) :
  ∃b off ecs,A=some ⟨b,off,none⟩∧b<B∧gF w B ecs x∧hJ w b (off+i*4) ecs:=by
 obtain⟨iv,ev,ct,cb,rfl,-,he,-⟩:=h
 have hc':some ev=some (.slice A t.exits.length n):=hc
 injection hc' with hc'
 subst hc'
 obtain⟨b,off,y,ecs,rfl,hb,hy,-,hR,hat⟩:=he.at_ (lE hx).1
 rw[hx] at hy;injection hy with hy;subst hy
 exact⟨b,off,ecs,rfl,hb,hR,hat⟩
theorem last_at {w:World} {B:Nat} {A:Option Addr} {c:Nat} {l:List bW} (h:aH w B 5 (g9 w B) (.slice A l.length c) l) {k j:Nat} {x:bW} {f:a8} (hx:l[k]? = some x) (hj:x.frames.length=j+1) (hf:x.frames.getLast? = some f) :
  ∃b off fb fo fc r t,A=some ⟨b,off,none⟩∧b<B∧fb<B∧w.cell? ⟨b,off+k*5,none⟩=some (.slice (some ⟨fb,fo,none⟩) (j+1) fc)∧
   hJ w fb (fo+j*8) [.int .i64 f.fn,.int .i64 f.at_,.int .i64 f.tos,.int .i64 f.gen,.int .i64 f.self.kind,.int .i64 f.self.n,r,t]∧aH w B 2 hU r f.regs∧j+1≤9223372036854775807:=by
 obtain⟨b,off,y,cs,rfl,hb,hy,-,⟨fv,rfl,hfr,-⟩,hat⟩:=h.at_ (lE hx).1
 rw[hx] at hy;injection hy with hy;subst hy
 obtain⟨FA,fc,rfl,-⟩:=id hfr
 have hle:=aP hfr
 have hfj:x.frames[j]? = some f:=by rw[List.getLast?_eq_getElem?,hj] at hf;exact hf
 obtain⟨fb,fo,g,gcs,rfl,hfb,hg,-,⟨r,t,rfl,hr,-⟩,gat⟩:=hfr.at_ (lE hfj).1
 rw[hfj] at hg;injection hg with hg;subst hg
 rw[hj] at hle
 exact⟨b,off,fb,fo,fc,r,t,rfl,hb,hfb,by have h0:=hat 0 _ rfl;rw[hj] at h0;exact h0,gat,hr,hle⟩
end
section
open Go.ChangeShapes Go.WideShapes Go.ChangeAt Go.RowKit
section
variable {H:Type} {enc:TypeId×Value→H} {w:World} {spare:Nat→Bool} {held:Bool}
theorem cTryS:Tryz.prog.cellsOf 96=2:=by kernel_rfl
theorem ae4:Tryz.prog.cellsOf 61=8:=by kernel_rfl
theorem afK:Tryz.prog.cellsOf 55=4:=by kernel_rfl
theorem ae2:Tryz.prog.cellsOf 51=2:=by kernel_rfl
theorem aeV:Tryz.prog.cellsOf 57=5:=by kernel_rfl
theorem cEndS:Tryz.prog.cellsOf 107=3:=by kernel_rfl
theorem cStateS:Tryz.prog.cellsOf 40=8:=by kernel_rfl
theorem afI:Tryz.prog.cellsOf 23=1:=by kernel_rfl
theorem afH:Tryz.prog.cellsOf 24=1:=by kernel_rfl
theorem cLTry:Tryz.prog.cellsOf 59=1:=by kernel_rfl
theorem aeT:Tryz.prog.cellsOf 53=1:=by kernel_rfl
theorem afJ:Tryz.prog.cellsOf 35=1:=by kernel_rfl
theorem ae3:Tryz.prog.cellsOf 36=1:=by kernel_rfl
theorem aeW:Tryz.prog.cellsOf 37=1:=by kernel_rfl
theorem cLEnd:Tryz.prog.cellsOf 38=1:=by kernel_rfl
theorem o_tryS:eQ enc Tryz.prog w spare held 96 jW:=by
 intro fuel cs x h
 have hl:=fT Tryz.underlying96 h
 refine⟨hl,?_⟩
 rw[cTryS] at hl
 obtain⟨a0,h0⟩:=aS Tryz.underlying96 h 0 _ rfl eT
 obtain⟨a1,h1⟩:=aS Tryz.underlying96 h 1 _ rfl eT
 match cs,hl with
 | [c0,c1],_=>
  simp only[List.getElem_toArray,List.getElem_cons_zero,List.getElem_cons_succ,tC,hY,hU,List.drop_zero,List.take_succ_cons,List.take_zero,List.drop_succ_cons,List.cons.injEq,and_true] at h0 h1
  obtain⟨rfl,w0⟩:=h0
  obtain⟨rfl,w1⟩:=h1
  exact⟨⟨a0,a1⟩,rfl,w0,w1⟩
theorem o_trysS:eQ enc Tryz.prog w spare held 59 (fun cs (xs:List gM)=>∃v,cs=[v]∧aH w w.heap.size 2 jW v xs):=eB Tryz.underlying59 cTryS (by decide) cLTry o_tryS
theorem afE:eQ enc Tryz.prog w spare held 51 jX:=by
 intro fuel cs x h
 have hl:=fT Tryz.underlying51 h
 refine⟨hl,?_⟩
 rw[ae2] at hl
 obtain⟨a0,h0⟩:=aS Tryz.underlying51 h 0 _ rfl eT
 obtain⟨a1,h1⟩:=aS Tryz.underlying51 h 1 _ rfl eT
 match cs,hl with
 | [c0,c1],_=>
  simp only[List.getElem_toArray,List.getElem_cons_zero,List.getElem_cons_succ,tC,hY,hU,List.drop_zero,List.take_succ_cons,List.take_zero,List.drop_succ_cons,List.cons.injEq,and_true] at h0 h1
  obtain⟨rfl,w0⟩:=h0
  obtain⟨rfl,w1⟩:=h1
  exact⟨⟨a0,a1⟩,rfl,w0,w1⟩
theorem ae7:eQ enc Tryz.prog w spare held 36 (fun cs (xs:List aT)=>∃v,cs=[v]∧aH w w.heap.size 2 jX v xs):=eB Tryz.underlying36 ae2 (by decide) ae3 afE
theorem o_endS:eQ enc Tryz.prog w spare held 107 abX:=by
 intro fuel cs x h
 have hl:=fT Tryz.underlying107 h
 refine⟨hl,?_⟩
 rw[cEndS] at hl
 obtain⟨a0,h0⟩:=aS Tryz.underlying107 h 0 _ rfl eT
 obtain⟨a1,h1⟩:=aS Tryz.underlying107 h 1 _ rfl o_val
 match cs,hl with
 | [c0,c1,c2],_=>
  simp only[List.getElem_toArray,List.getElem_cons_zero,List.getElem_cons_succ,tC,cVal,hY,hU,List.drop_zero,List.take_succ_cons,List.take_zero,List.drop_succ_cons,List.cons.injEq,and_true] at h0 h1
  obtain⟨rfl,w0⟩:=h0
  obtain⟨⟨rfl,rfl⟩,w1,u1⟩:=h1
  exact⟨⟨a0,a1⟩,rfl,w0,w1,u1⟩
theorem o_endsS:eQ enc Tryz.prog w spare held 38 (fun cs (xs:List ad4)=>∃v,cs=[v]∧aH w w.heap.size 3 abX v xs):=eB Tryz.underlying38 cEndS (by decide) cLEnd o_endS
theorem afF:eQ enc Tryz.prog w spare held 61 (eR w w.heap.size):=by
 intro fuel cs x h
 have hl:=fT Tryz.underlying61 h
 refine⟨hl,?_⟩
 rw[ae4] at hl
 obtain⟨a0,h0⟩:=aS Tryz.underlying61 h 0 _ rfl eT
 obtain⟨a1,h1⟩:=aS Tryz.underlying61 h 1 _ rfl eT
 obtain⟨a2,h2⟩:=aS Tryz.underlying61 h 2 _ rfl eT
 obtain⟨a3,h3⟩:=aS Tryz.underlying61 h 3 _ rfl eT
 obtain⟨a4,h4⟩:=aS Tryz.underlying61 h 4 _ rfl o_val
 obtain⟨a5,v5,h5,s5⟩:=aS Tryz.underlying61 h 5 _ rfl o_vals
 obtain⟨a6,v6,h6,s6⟩:=aS Tryz.underlying61 h 6 _ rfl o_trysS
 match cs,hl with
 | [c0,c1,c2,c3,c4,c5,c6,c7],_=>
  simp only[List.getElem_toArray,List.getElem_cons_zero,List.getElem_cons_succ,tC,cLTry,afI,cVal,hY,hU,List.drop_zero,List.take_succ_cons,List.take_zero,List.drop_succ_cons,List.cons.injEq,and_true] at h0 h1 h2 h3 h4 h5 h6
  obtain⟨rfl,w0⟩:=h0
  obtain⟨rfl,w1⟩:=h1
  obtain⟨rfl,w2⟩:=h2
  obtain⟨rfl,w3⟩:=h3
  obtain⟨⟨rfl,rfl⟩,w4,u4⟩:=h4
  subst h5
  subst h6
  exact⟨⟨a0,a1,a2,a3,a4,a5,a6⟩,_,_,rfl,s5,s6,w0,w1,w2,w3,w4,u4⟩
theorem aeS:eQ enc Tryz.prog w spare held 53 (fun cs (xs:List a8)=>∃v,cs=[v]∧aH w w.heap.size 8 (eR w w.heap.size) v xs):=eB Tryz.underlying53 ae4 (by decide) aeT afF
theorem o_cellS:eQ enc Tryz.prog w spare held 55 (jY w w.heap.size):=by
 intro fuel cs x h
 have hl:=fT Tryz.underlying55 h
 refine⟨hl,?_⟩
 rw[afK] at hl
 obtain⟨a0,h0⟩:=aS Tryz.underlying55 h 0 _ rfl eT
 obtain⟨a1,h1⟩:=aS Tryz.underlying55 h 1 _ rfl eT
 obtain⟨a2,v2,h2,s2⟩:=aS Tryz.underlying55 h 2 _ rfl o_vals
 obtain⟨a3,v3,h3,s3⟩:=aS Tryz.underlying55 h 3 _ rfl aeS
 match cs,hl with
 | [c0,c1,c2,c3],_=>
  simp only[List.getElem_toArray,List.getElem_cons_zero,List.getElem_cons_succ,tC,aeT,afI,hY,hU,List.drop_zero,List.take_succ_cons,List.take_zero,List.drop_succ_cons,List.cons.injEq,and_true] at h0 h1 h2 h3
  obtain⟨rfl,w0⟩:=h0
  obtain⟨rfl,w1⟩:=h1
  subst h2
  subst h3
  exact⟨⟨a0,a1,a2,a3⟩,_,_,rfl,s2,s3,w0,w1⟩
theorem afG:eQ enc Tryz.prog w spare held 35 (fun cs (xs:List bC)=>∃v,cs=[v]∧aH w w.heap.size 4 (jY w w.heap.size) v xs):=eB Tryz.underlying35 afK (by decide) afJ o_cellS
theorem ae6:eQ enc Tryz.prog w spare held 57 (g9 w w.heap.size):=by
 intro fuel cs x h
 have hl:=fT Tryz.underlying57 h
 refine⟨hl,?_⟩
 rw[aeV] at hl
 obtain⟨a0,v0,h0,s0⟩:=aS Tryz.underlying57 h 0 _ rfl aeS
 obtain⟨a1,h1⟩:=aS Tryz.underlying57 h 1 _ rfl eT
 obtain⟨a2,h2⟩:=aS Tryz.underlying57 h 2 _ rfl eT
 obtain⟨a3,h3⟩:=aS Tryz.underlying57 h 3 _ rfl o_val
 match cs,hl with
 | [c0,c1,c2,c3,c4],_=>
  simp only[List.getElem_toArray,List.getElem_cons_zero,List.getElem_cons_succ,tC,aeT,cVal,hY,hU,List.drop_zero,List.take_succ_cons,List.take_zero,List.drop_succ_cons,List.cons.injEq,and_true] at h0 h1 h2 h3
  subst h0
  obtain⟨rfl,w1⟩:=h1
  obtain⟨rfl,w2⟩:=h2
  obtain⟨⟨rfl,rfl⟩,w3,u3⟩:=h3
  exact⟨⟨a0,a1,a2,a3⟩,_,rfl,s0,w1,w2,w3,u3⟩
theorem aeZ:eQ enc Tryz.prog w spare held 37 (fun cs (xs:List bW)=>∃v,cs=[v]∧aH w w.heap.size 5 (g9 w w.heap.size) v xs):=eB Tryz.underlying37 aeV (by decide) aeW ae6
theorem afD:eQ enc Tryz.prog w spare held 40 (gK w w.heap.size):=by
 intro fuel cs x h
 have hl:=fT Tryz.underlying40 h
 refine⟨hl,?_⟩
 rw[cStateS] at hl
 obtain⟨a0,v0,h0,s0⟩:=aS Tryz.underlying40 h 0 _ rfl afG
 obtain⟨a1,v1,h1,s1⟩:=aS Tryz.underlying40 h 1 _ rfl ae7
 obtain⟨a2,v2,h2,s2⟩:=aS Tryz.underlying40 h 2 _ rfl o_strs
 obtain⟨a3,v3,h3,s3⟩:=aS Tryz.underlying40 h 3 _ rfl aeZ
 obtain⟨a4,v4,h4,s4⟩:=aS Tryz.underlying40 h 4 _ rfl o_endsS
 obtain⟨a5,v5,h5,s5⟩:=aS Tryz.underlying40 h 5 _ rfl o_vals
 obtain⟨a6,h6⟩:=aS Tryz.underlying40 h 6 _ rfl eT
 obtain⟨a7,h7⟩:=aS Tryz.underlying40 h 7 _ rfl eT
 match cs,hl with
 | [c0,c1,c2,c3,c4,c5,c6,c7],_=>
  simp only[List.getElem_toArray,List.getElem_cons_zero,List.getElem_cons_succ,tC,afJ,cLEnd,ae3,aeW,afI,afH,hY,hU,List.drop_zero,List.take_succ_cons,List.take_zero,List.drop_succ_cons,List.cons.injEq,and_true] at h0 h1 h2 h3 h4 h5 h6 h7
  subst h0
  subst h1
  subst h2
  subst h3
  subst h4
  subst h5
  obtain⟨rfl,w6⟩:=h6
  obtain⟨rfl,w7⟩:=h7
  exact⟨⟨a0,a1,a2,a3,a4,a5,a6,a7⟩,_,_,_,_,_,_,rfl,s0,s1,s2,s3,s4,s5,w6,w7⟩
theorem open_state {v:Value} {d:DataW H} {ps:List MemPlace} {r:Reach} {b0:Nat} (hv:Value.okWide Tryz.prog w r b0 40 v) (h:DataW.Trod enc Tryz.prog w 0 spare held 40 v d ps):∃cs s,v=.agg ⟨cs⟩∧gK w w.heap.size cs s:=by
 obtain⟨cs,rfl,_⟩:=okWide_struct Tryz.underlying40 hv
 obtain⟨fuel,hf⟩:=h
 obtain⟨_,t,ht⟩:=afD _ _ _ hf
 exact⟨cs.toList,t,rfl,ht⟩
end
end
section
open Go.ChangeShapes Go.WideShapes Go.ChangeAt Go.RowKit
section
variable {H:Type} {enc:TypeId×Value→H} {P:Program}
theorem aeJ (hl:laidOutB P=true) {W W':World} (hb:Below W.heap.size W W'):∀(ts:List TypeId) (vs:List Value) (ds:List (DataW H)) (ps:List MemPlace),
  (∀t∈ts,P.readableRec t=true∧t<P.types.size)→(∀x∈ps,x.block<W.heap.size)→
  DataW.TrodAll enc P W 0 (fun _=>true) true ts vs ds ps→DataW.TrodAll enc P W' 0 (fun b=>decide (b<W.heap.size)) true ts vs ds ps
 | [],[],[],_,_,_,h=>h
 | t::ts,v::vs,d::ds,ps,ht,hp,h=>by
  obtain⟨p,q,h1,h2,rfl⟩:=h
  exact⟨p,q,Below.trod hl (ht t (by simp)).1 (ht t (by simp)).2 h1 hb (fun x hx=>hp x (by simp[hx])),
   aeJ hl hb ts vs ds q (fun t ht'=>ht t (by simp[ht'])) (fun x hx=>hp x (by simp[hx])) h2,rfl⟩
 | [],_::_,_,_,_,_,h=>by cases h
 | [],[],_::_,_,_,_,h=>by cases h
 | _::_,[],_,_,_,_,h=>by cases h
 | _::_,_::_,[],_,_,_,h=>by cases h
theorem law_post {f:Func} {s:ChangeSpec} {W W':World} {args:Array Value} {ds gs:List (DataW H)} {vC:List MemPlace} {B:TypeId}
  (hl:laidOutB P=true) (hv:s.vars=[]) (hr:f.resultTypes=#[B]) (hB:P.underlying B=some .bool) (ht:∀t∈f.params.toList,P.readableRec t=true∧t<P.types.size)
  (hW:DataW.Whole enc P f.params.toList s.vars false W args.toList ds gs vC)
  (hs:(s.fn H (ds++gs)).results=[.lit (.bool true)]∧(s.fn H (ds++gs)).args=ds∧(s.fn H (ds++gs)).vars=[]) (hb:Below W.heap.size W W') :
  s.post enc P f false true false false W args (.bool true) W':=by
 have hW0:=hW
 obtain⟨p,q,hA,hV,rfl,hz,hn⟩:=hW
 have hlt:∀x∈p++q,x.block<W.heap.size:=fun x hx=>by simpa using hW0.lt x hx
 rw[hv] at hV
 obtain⟨rfl,rfl⟩:=trodVars_none hV
 refine⟨ds,[],p++[],[],p,[],hW0,?_,?_,?_,World.keptBut_mono (fun x hx=>⟨hx,?_⟩) (hb.frame (·∈p++[])),fun h=>by cases h⟩
 ·rw[hs.1,hr]
  exact trodAll_mk1 (shut_bool hB true)
 ·rw[hs.2.1]
  exact aeJ hl hb _ _ _ _ ht (fun x hx=>hlt x (by simp[hx])) hA
 ·rw[hv,hs.2.2]
  rfl
 ·simp at hx
  exact .inr (.inl hx)
end
end
end Go.Proofs.YtjaphgpkkfdaaaaGreatDoor
