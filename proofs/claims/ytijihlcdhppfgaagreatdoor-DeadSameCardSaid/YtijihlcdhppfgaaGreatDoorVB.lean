/- A part of the walk. -/
import Derived.RangeFuncBox
import Derived.RangeFuncLeaves
import Derived.OwnWalkIn
import Derived.TacticsInMore
import Derived.LoopNIn
import Derived.LoopIn
import Derived.RangeFuncMany
import Derived.RangeFuncKeeps
import Derived.Test.YtijihlcdhppfgaaGreatDoorVA
set_option maxHeartbeats 16000000
set_option maxRecDepth 100000
set_option linter.all false
namespace Go.Proofs.YtijihlcdhppfgaaGreatDoor
open Tryz
section
open Go.RowKit Go.Shelf
attribute [local go_sem] Oper.semAt_some
def aoP (zs:List aT) (k:Nat):List (Nat×aT):=(List.range k).map (λj=>(zs.length - 1 - j,zs.getD (zs.length - 1 - j) ⟨0,0,0,0,0,0,⟨0,0⟩⟩))
theorem apK (d:List aT) (k:Nat):aoP d (k+1)=aoP d k++[(d.length - 1 - k,d.getD (d.length - 1 - k) ⟨0,0,0,0,0,0,⟨0,0⟩⟩)]:=by simp[aoP,List.range_succ]
theorem aqZ (d:List aT) (k:Nat):(aoP d k).length=k:=by simp[aoP]
abbrev AtI (zs:List aT):={ p:Nat×aT // zs[p.1]? = some p.2 }
def KpB (B Bs:Nat) (W W':World):Prop:=Below B W W'/\W'.heap[Bs]? = W.heap[Bs]?
theorem KpB.refl (B d:Nat) (W:World):KpB B d W W:=⟨Below.refl _ _,rfl⟩
theorem KpB.trans {B d:Nat} {W f g:World} (h:KpB B d W f) (k:KpB B d f g):KpB B d W g:=⟨h.1.trans k.1,k.2.trans h.2⟩
theorem KpB.box {B d:Nat} {W f:World} (h:KpB B d W f) {i:Nat} {v:Value} (g:W.cell? ⟨d,i,none⟩=some v):f.cell? ⟨d,i,none⟩=some v:=by unfold World.cell? at g ⊢;rw[h.2];exact g
theorem kpB_b {B d:Nat} {w:World} (hB:B<=w.heap.size) (g:d<w.heap.size) (W:World) (l:Nat) (o f:Obj) (hl:w.heap.size<=l) (h:W.heap[l]? = some o) (_:o.isCells=false) (_:o.isWalk=false):KpB B d W (W.putObj l f):= ⟨(Below.refl B W).grown (grownBy_putObj' W l f) (by have:=(aE h).1;omega) (λk e=>by cases e;omega),(grownBy_putObj' W l f).block d (by have:=(aE h).1;omega) (by simp;omega)⟩
theorem aqE (F:Fence) (n:Nat) (h8:F.fn 85) (M:F.round=none) (hn:1<=n) (l u B:Nat) (A:Option Addr) (z:Nat) (d:List aT) (a6:d.length<=300) (J N:List (AtI d)->World->Prop) (hY:∀f x W,J f W->f.length<d.length->YieldAt F (n - 1) prog l #[.int .i64 (x.1.1:Int),yA x.1.2] W λe r=> (e=.returned (.bool true)/\J (f++[x]) r/\KpB B u W r)\/(e=.returned (.bool false)/\N (f++[x]) r)) (W:World) (O:W.cell? ⟨u,0,none⟩=some (.slice A d.length z)) (hc:aB W B 8 xP (.slice A d.length z) d) (h0:J [] W) : CallsIn F n prog 85 #[.func (.yield l) #[] #[],.pointer (some ⟨u,0,none⟩)] W λe r=>(∃v,e=.returned v)/\ ((∃L:List (AtI d),L.map (·.1)=aoP d d.length/\J L r)\/(∃f:List (AtI d),(∃k,k<=d.length/\f.map (·.1)=aoP d k)/\N f r)):=by
 refine callsIn_of_wp func85 rfl h8 ?_ M;simp only[ntmps85,List.size_toArray,List.length_cons,List.length_nil,Nat.reduceAdd,Nat.reduceSub,Array.replicate_succ,Array.replicate_zero,List.push_toArray,List.append_toArray,List.nil_append,List.cons_append];have a3:IntKind.i64.wrap ((d.length:Int) - 1)=(d.length:Int) - 1:=IntWalk.i64_in _ (by omega);gi_wp2;gi_loopw [3] (λi wr=>∃k:Nat,k<=d.length/\i=.int .i64 ((d.length:Int) - 1 - (k:Int))/\(∃f:List (AtI d),f.map (·.1)=aoP d k/\J f wr)/\KpB B u W wr) (λi _=>(intOf i+1).toNat);case atStart=>exact⟨0,Nat.zero_le _,by simp,⟨[],rfl,h0⟩,KpB.refl _ _ _⟩
 case round=>
  obtain⟨k,hk,rfl,⟨f,p,y⟩,g⟩:=hrel;have G:f.length=k:=by rw[<-aqZ d k,<-p,List.length_map]
  have s:=hI p;clear p;have hB:=g.box O;by_cases P:k<d.length
  ·obtain⟨m,I⟩:∃m:Nat,m=d.length - 1 - k:=⟨_,rfl⟩;have w:(d.length:Int) - 1 - (k:Int)=(m:Int):=(by omega);have H:m<d.length:=(by omega);have R:(m:Int)<d.length:=(by omega);rw[w];have D:=hI I;obtain⟨b,j,x,rfl,hb,E,wx,h⟩:=tN hc H;have S:d.getD m ⟨0,0,0,0,0,0,⟨0,0⟩⟩=x:=(by rw[List.getD_eq_getElem?_getD,E];rfl);have g0:wr.cell? ⟨b,j+m*8,none⟩=some (.int .i64 x.op):=(g.1.cell hb).trans (h 0 _ rfl);have g1:wr.cell? ⟨b,j+m*8+1,none⟩=some (.int .i64 x.a):=(g.1.cell hb).trans (h 1 _ rfl);have g2:wr.cell? ⟨b,j+m*8+2,none⟩=some (.int .i64 x.b):=(g.1.cell hb).trans (h 2 _ rfl);have g3:wr.cell? ⟨b,j+m*8+3,none⟩=some (.int .i64 x.c):=(g.1.cell hb).trans (h 3 _ rfl);have g4:wr.cell? ⟨b,j+m*8+4,none⟩=some (.int .i64 x.n):=(g.1.cell hb).trans (h 4 _ rfl);have g5:wr.cell? ⟨b,j+m*8+5,none⟩=some (.int .i64 x.exit):=(g.1.cell hb).trans (h 5 _ rfl);have g6:wr.cell? ⟨b,j+m*8+6,none⟩=some (.int .i64 x.k.kind):=(g.1.cell hb).trans (h 6 _ rfl);have g7:wr.cell? ⟨b,j+m*8+7,none⟩=some (.int .i64 x.k.n):=(g.1.cell hb).trans (h 7 _ rfl);obtain⟨fn,V,K,X,Y,Z⟩:=hY f ⟨(m,x),E⟩ wr y (by rw[G];exact P);have q:Hid ((f++[(⟨(m,x),E⟩:AtI d)]).map (·.1)=aoP d (k+1)):=(by rw[show Hid _=_ from rfl,List.map_append,s.o,apK,<-D.o,S];rfl);dsimp only [yA] at Y;have a4:IntKind.i64.wrap ((m:Int) - 1)=(m:Int) - 1:=IntWalk.i64_in _ (by omega);clear h I w;gi_wp2;refine Z.mono ?_;rintro e W3 (⟨rfl,hJ3,hk3⟩ | ⟨rfl,hJx3⟩)
   ·gi_wp2;go_roundw;case rel=>exact⟨k+1,by omega,by(have:=D.o;first | (congr 1;omega) | (simp;omega)),⟨_,q.o,hJ3⟩,g.trans hk3⟩
    case measure=>have:=D.o;(simp[intOf] <;> omega)
   ·gi_wp2;refine bodyPost_ret (results_none rfl _ _ _) rfl ?_;exact⟨⟨_,rfl⟩,.inr ⟨_,⟨k+1,by omega,q.o⟩,hJx3⟩⟩
  ·obtain rfl:k=d.length:=by omega
   have a5:¬(0:Int)<=(d.length:Int) - 1 - (d.length:Int):=(by omega);gi_wp2;go_end0;exact⟨⟨_,rfl⟩,.inl ⟨_,s.o,y⟩⟩
theorem aqY (A:Option Addr) (m c:Nat) (w:World):Calls prog 42 #[.slice A m c] w λe w'=>e=.returned (.func (.func 85) #[] #[.pointer (some ⟨w.heap.size,0,none⟩)])/\w'=w.alloc (.cells #[.slice A m c] 27):=by go_enter func42,ntmps42;go_wp2_with fail;go_ret;exact⟨rfl,rfl⟩
theorem apX (F:Fence) (n:Nat) (E:F.fn 85) (r:F.round=none) (G:1<=n) (f B:Nat) (A:Option Addr) (g:Nat) (d:List aT) (s:d.length<=300) (w:World) (hB:B<=w.heap.size) (u:f<w.heap.size) (H:w.cell? ⟨f,0,none⟩=some (.slice A d.length g)) (I:aB w B 8 xP (.slice A d.length g) d) : SeqStopsK F n prog 85 #[.pointer (some ⟨f,0,none⟩)] (λx:AtI d=>#[Value.int .i64 (x.1.1:Int),yA x.1.2]) (KpB B f) (λv=>v.map (·.1)=aoP d d.length) (λj=>∃k,k<=d.length/\j.map (·.1)=aoP d k) d.length w:=λl J y W q _ _ hY z=> aqE F n E r G l f B A g d s J y hY W ((q.cell (p:=⟨f,0,none⟩) u).trans H) (I.keep (Nat.le_refl _) (λp D=>q.cell (Nat.lt_of_lt_of_le D hB)) (λ_ _ h=>h)) z
end
section
def stM (t:aH) (s:List Int×List Int) (p:Nat×aT):List Int×List Int:=
 if ao2 t s.1 p.1 p.2 then(s.1++bU p.2,s.2.set p.1 (p.1:Int)) else(s.1,s.2.set p.1 (-1))
def aoU (t:aH) (pre:List (Nat×aT)):List Int×List Int:=pre.foldl (stM t) (ao1 t,List.replicate t.ins.length 0)
theorem apO (t:aH) (d:List (Nat×aT)) (p:Nat×aT):aoU t (d++[p])=stM t (aoU t d) p:=by unfold aoU;rw[List.foldl_append];rfl
theorem stM_len (t:aH) (s:List Int×List Int) (p:Nat×aT):(stM t s p).2.length=s.2.length:=by unfold stM;split <;> simp
theorem ap0 (t:aH) (d:List (Nat×aT)):(aoU t d).2.length=t.ins.length:=by
 have h:∀(d:List (Nat×aT)) (s:List Int×List Int),(d.foldl (stM t) s).2.length=s.2.length:=λd=>by
  induction d with
  | nil=>intro s;rfl
  | cons p r ih=>intro s;rw[List.foldl_cons,ih,stM_len]
 unfold aoU;rw[h];simp
theorem aqG (k:Nat) (d:List Int) (v:Int):(List.replicate (k+1) (0:Int)++d).set k v=List.replicate k 0++v::d:=by rw[List.replicate_succ',List.append_assoc,List.set_append_right _ _ (by simp)];simp
theorem apP (t:aH):∀k,k<=t.ins.length->∃f:List Int,(aoU t (aoP t.ins k)).2=List.replicate (t.ins.length - k) 0++f/\aoO t (t.ins.length - k) (aoU t (aoP t.ins k)).1 f=a9 t
 | 0,_=>⟨[],by simp[aoU,aoP],by simp[aoU,aoP,a9]⟩
 | k+1,h=>by
  obtain⟨f,h1,d⟩:=apP t k (by omega)
  obtain⟨m,q⟩:∃m,t.ins.length - k=m+1:=⟨t.ins.length - k - 1,by omega⟩
  have g:t.ins.length - (k+1)=m:=by omega
  have j:t.ins.length - 1 - k=m:=by omega
  have l:t.ins[m]? = some (t.ins[m]'(by omega)):=lG (by omega)
  have p:t.ins.getD m ⟨0,0,0,0,0,0,⟨0,0⟩⟩=t.ins[m]'(by omega):=by rw[List.getD_eq_getElem?_getD,l];rfl
  rw[apK,apO,g,j,p]
  rw[q] at h1 d
  unfold aoO at d
  rw[l] at d
  dsimp only at d
  unfold stM
  dsimp only
  rw[h1,aqG,aqG]
  by_cases c:ao2 t (aoU t (aoP t.ins k)).1 m (t.ins[m]'(by omega))=true
  ·rw[if_pos c] at d
   rw[if_pos c]
   exact⟨_,rfl,d⟩
  ·rw[if_neg c] at d
   rw[if_neg c]
   exact⟨_,rfl,d⟩
theorem ap4 (t:aH):(aoU t (aoP t.ins t.ins.length)).2=a9 t:=by obtain⟨f,h1,d⟩:=apP t t.ins.length (Nat.le_refl _);rw[Nat.sub_self] at h1 d;rw[h1,<-d];rfl
end
end Go.Proofs.YtijihlcdhppfgaaGreatDoor
