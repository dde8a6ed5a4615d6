/- A part of the walk. -/
import Derived.Test.YtjaphgpkkfdaaaaGreatDoorZJ
set_option maxHeartbeats 16000000
set_option maxRecDepth 100000
set_option linter.all false
namespace Go.Proofs.YtjaphgpkkfdaaaaGreatDoor
open Tryz
section
open Go.RowKit Go.Maps Go.WideMaps
theorem ab7 (S:aR) (l:Nat) (w:World) (h:iJ w l S):Calls prog 78 #[.pointer (some ⟨l,0,none⟩)] w (aM (.bool (nS S)) w):=by
 obtain⟨r,d⟩:∃r,nS S=r:=⟨_,rfl⟩;rw[d];unfold nS at d;obtain⟨z,A,A1,n1,G,H,A3,n3,Z,n4,A5,n5,i,hb,C,s1,D,s3,I,J⟩:=h.parts;have lc:=aP C;have lt:=aP D;have le:=aP I;have a7:=aP J;have HH:=hI i;have N:=i 0 _ rfl;have g2:=i 2 _ rfl;have g4:=i 4 _ rfl;have g5:=i 5 _ rfl;have F:=hI (kC lV (λt=>decide (200<t.size)) G H S.texts 116 yM #[] w D (λw1 k x cs hx E=>by obtain⟨rfl,hs⟩:=E;exact abO x (by unfold maxLen at hs;omega) w1));have O:Hid (∀w1,Below w.heap.size w w1->Calls prog 83 #[.slice z S.cells.length A,.func (.func 117) #[] #[]] w1 (aM (.bool (S.cells.any (λc=>decide (100<c.vals.length) && (c.kind != 7 || decide (600<c.vals.length))))) w1)):=λw1 j=> iH (jY w w.heap.size) (λc=>decide (100<c.vals.length) && (c.kind != 7 || decide (600<c.vals.length))) z A S.cells 117 yL #[] w1 (C.below j) (λL k x cs hx E=>abN cs x _ _ L E);clear C s1 D s3 I J i h;by_cases g:300<S.cells.length
 ·have f:Hid (true=r):=by rw[<-d];simp[g,Hid]
  have P:(300:Int)<S.cells.length:=by omega
  clear d g;go_enter func78,ntmps78;go_wp2_with fail;go_ret;exact⟨by rw[<-f.o];rfl,Below.refl _ _⟩
 have P:decide ((300:Int)<S.cells.length)=false:=by simp;omega
 by_cases m:300<S.texts.length
 ·have f:Hid (true=r):=by rw[<-d];simp[m,Hid]
  have R:(300:Int)<S.texts.length:=by omega
  clear d g m;go_enter func78,ntmps78;go_wp2_with fail;go_ret;exact⟨by rw[<-f.o];rfl,Below.refl _ _⟩
 have R:decide ((300:Int)<S.texts.length)=false:=by simp;omega
 by_cases s:200<S.said.length
 ·have f:Hid (true=r):=by rw[<-d];simp[s,Hid]
  have V:(200:Int)<S.said.length:=by omega
  clear d g m s;go_enter func78,ntmps78;go_wp2_with fail;go_ret;exact⟨by rw[<-f.o];rfl,Below.refl _ _⟩
 have V:decide ((200:Int)<S.said.length)=false:=by simp;omega
 by_cases u:100<S.ends.length
 ·have f:Hid (true=r):=by rw[<-d];simp[u,Hid]
  have W:(100:Int)<S.ends.length:=by omega
  clear d g m s u;go_enter func78,ntmps78;go_wp2_with fail;go_ret;exact⟨by rw[<-f.o];rfl,Below.refl _ _⟩
 have W:decide ((100:Int)<S.ends.length)=false:=by simp;omega
 have p:(S.texts.any (λt=>decide (200<t.size)) || S.cells.any (λc=>decide (100<c.vals.length) && (c.kind != 7 || decide (600<c.vals.length))))=r:=by rw[<-d];simp only[g,m,s,u,decide_false,Bool.false_or]
 clear d g m s u;obtain⟨q1,v⟩:∃q,S.texts.any (λt=>decide (200<t.size))=q:=⟨_,rfl⟩;rw[v] at F p;clear v;have f:=hI p;have y:=iI w;clear p;go_enter func78,ntmps78;go_wp2_with fail;refine F.o.mono ?_;rintro e w1 ⟨rfl,j⟩;have K:=btZ y j;cases q1;case true=>clear j;go_wp2_with fail;go_ret;exact⟨by rw[<-f.o];rfl,K.o⟩
 have X:=aC j N;clear j;go_wp2_with fail;refine(O.o w1 K.o).mono ?_;rintro e L ⟨rfl,M⟩;have Y:=btZ K M;clear M X;go_wp2_with fail;go_ret;exact⟨by rw[<-f.o];rfl,Y.o⟩
theorem aaO {W:World} {g:Nat} {n:Nat} {L:List ByteArray} (h:W.ownsMap prog 9 (plainElem prog 3) g n (mD L)) {x:ByteArray} (i:x.size<=maxLen) : ∃c:Int,(Instr.lookup 188 (.map (some g)) (.string x) false).run prog W=.ok (.int .i64 c) W/\(x∈L->c=1)/\(x∉L->c=0):=by
 obtain⟨c,e,d,-⟩:=h.lookup_int pI underlying188 underlying3 (qT W) (keyOf_string_mk underlying9 i);refine⟨c,e,λf=>?_,λf=>?_⟩;·rw[tJ f] at d;exact(j7 d).symm
 ·rw[rC f] at d;exact(j7 d).symm
theorem aaC {W l:List ByteArray} {k:Nat} {x y:ByteArray} (i:l[k]? = some x) (f:W[k]? = some y) (g:x≠y):jL W l=false:=by
 unfold jL;by_cases h:W.length<=l.length
 ·have:l.take W.length≠W:=λe=>g (by
   have d:(l.take W.length)[k]? = some x:=(by rw[List.getElem?_take,if_pos (lE f).1];exact i);rw[e,f] at d;injection d with d
   exact d.symm)
  rw[decide_eq_false this];simp
 ·rw[decide_eq_false h];rfl
theorem wY {W l:List ByteArray} (h:l.Nodup) (f:∀(i:Nat) x y,l[i]? = some x->W[i]? = some y->x=y):jL W l=decide (W.length<=l.length):=by
 unfold jL;rw[decide_eq_true h,Bool.and_true];by_cases c:W.length<=l.length
 ·rw[decide_eq_true c,Bool.true_and,decide_eq_true];apply List.ext_getElem?;intro i;rw[List.getElem?_take];by_cases hi:i<W.length;·rw[if_pos hi];have d:l[i]? = some (l[i]'(by omega)):=lG (by omega);have e:W[i]? = some W[i]:=lG hi;rw[d,e,f i _ _ d e]
  ·rw[if_neg hi,List.getElem?_eq_none (by omega)]
 ·rw[decide_eq_false c];rfl
theorem texts_c (A:Option Addr) (R:Nat) (l:List ByteArray) (w:World) (ht:Tab w) (hs:aH w w.heap.size 1 lV (.slice A l.length R) l) (d5:l.length<=300):Calls prog 80 #[.slice A l.length R] w (aM (.bool (jL cC l)) w):=by
 obtain⟨r,Y⟩:∃r,jL cC l=r:=⟨_,rfl⟩;rw[Y];obtain⟨w1,m⟩:∃w1,w1=w.alloc (.cells (cC.map Value.string).toArray 9):=⟨_,rfl⟩;have k1:Hid (Below w.heap.size w w1):=by rw[m];exact aB w _
 have C0:Hid (Calls prog 112 #[] w λe w'=>e=.returned (.slice (some ⟨w.heap.size,0,none⟩) 19 19)/\w'=w1):=by rw[m];exact yQ w ht
 have s1:Hid (aH w1 w1.heap.size 1 lV (.slice (some ⟨w.heap.size,0,none⟩) 19 19) cC):=by
  have:=pW w;rw[<-m] at this;have e:w1.heap.size=w.heap.size+1:=by rw[m];simp
  rw[e];exact this
 have s3:=hI (hs.below k1.o);have d6:w.heap.size<w1.heap.size:=by rw[m];simp
 have ll:=aP hs;have S:=hI Y;have d7:=@run_makeMap prog;clear hs m ht Y;go_enter func80,ntmps80;go_wp2_with fail;refine C0.o.mono ?_;rintro e w' ⟨rfl,rfl⟩;go_wp2_with fail;go_loopw [11] (λk wr=>∃d:Nat,k=.int .i64 d/\d<=l.length/\Hid ((l.take d).Nodup)/\Hid (∀(i:Nat) x y,i<d->l[i]? = some x->cC[i]? = some y->x=y)/\Hid (wr.ownsMap prog 9 (plainElem prog 3) w'.heap.size d (mD (l.take d)))/\Hid (Below w'.heap.size w' wr)) (λk _=>l.length - (RowKit.intOf k).toNat);case atStart=>exact⟨0,rfl,by omega,by show(l.take 0).Nodup;simp,λi x y h=>by omega,World.ownsMap_made _ _ _ _,aB w' _⟩
 case round=>
  obtain⟨d,rfl,hk,Z,KP,KO,q⟩:=hrel
  have d8:=q.o.size
  have V:=btZ k1 q.o
  by_cases c6:d<l.length
  ·obtain⟨b,c0,x,cs,rfl,hb,L,c1,hR,M⟩:=s3.o.at_ c6
   obtain⟨rfl,N⟩:=hR
   have e0:(d:Int)<l.length:=by omega
   have g0:wr.cell? ⟨b,c0+d,none⟩=some (.string x):=(q.o.cell hb).trans (by have:=M 0 _ rfl;simpa using this)
   have C:=hI L
   obtain⟨c,p,H,I⟩:=aaO KO.o N
   have F:=hI (keyOf_string_mk (P:=prog) (k:=9) underlying9 N)
   clear L M c1
   by_cases E:x∈l.take d
   ·have G:Hid (false=r):=by
     rw[<-S.o];unfold jL
     rw[decide_eq_false (tK C.o E),Bool.and_false];rfl
    rw[H E] at p
    clear E H I
    go_wp2_with fail
    go_ret
    exact⟨by rw[<-G.o];rfl,V.o⟩
   ·have HM:=hI E
    rw[I E] at p
    clear E H I
    by_cases c7:d<19
    ·obtain⟨b2,d3,y,ys,hbo,c2,O,-,c3,J⟩:=s1.o.at_ (i:=d) (by rw[jK];exact c7)
     injection hbo with hbo
     injection hbo with a5 a6
     subst a5;subst a6
     obtain⟨rfl,e3⟩:=c3
     have b3:(d:Int)<19:=by omega
     have g2:wr.cell? ⟨w.heap.size,d,none⟩=some (.string y):=(q.o.cell c2).trans (by have:=J 0 _ rfl;simpa using this)
     have HY:=hI O
     clear O J
     by_cases z:x=y
     ·have e1:=hI z
      subst z
      go_wp2_with (first
       | (at_mapUpdate;refine wpList_mapUpdate_own _ rfl _ _ _ 188 rfl 9 3 pI underlying188 _ w'.heap.size d _ rfl KO.o (by unfold maxLen;omega) _ _ _ rfl rfl F.o _ [] (plainElem_int underlying3 (by decide)) ?_;intro w3 g f)
       | fail)
      have W:Hid (w3.ownsMap prog 9 (plainElem prog 3) w'.heap.size (d+1) (mD (l.take (d+1)))):=by rw[jM C.o,nN];exact g
      have X:=hI (q.o.grown f q.o.size (λj hj=>by cases hj;exact Nat.le_refl _))
      clear g f g0 g2 p
      go_wp2_with fail
      go_roundw
      case rel=>exact⟨d+1,by go_num,by omega,nR Z.o C.o HM.o,λi u v hi D s=>by
       rcases Nat.lt_or_ge i d with h | h
       ·exact KP.o i u v h D s
       ·obtain rfl:i=d:=by omega
        rw[C.o] at D;rw[HY.o] at s
        injection D with D;injection s with s
        exact D.symm.trans s,W,X⟩
      case measure=>simp[RowKit.intOf];omega
     ·have G:Hid (false=r):=by rw[<-S.o];exact(aaC C.o HY.o z).symm
      have n1:(x.toList == y.toList)=false:=by
       simp only[beq_eq_false_iff_ne]
       intro e;apply z
       rw[Lib.toList_data,Lib.toList_data] at e
       have e2:x.data=y.data:=Array.toList_inj.1 e
       cases x;cases y;simp only at e2;rw[e2]
      clear z
      go_wp2_with fail
      go_ret
      exact⟨by rw[<-G.o];rfl,V.o⟩
    ·have b3:¬(d:Int)<19:=by omega
     go_wp2_with (first
      | (at_mapUpdate;refine wpList_mapUpdate_own _ rfl _ _ _ 188 rfl 9 3 pI underlying188 _ w'.heap.size d _ rfl KO.o (by unfold maxLen;omega) _ _ _ rfl rfl F.o _ [] (plainElem_int underlying3 (by decide)) ?_;intro w3 g f)
      | fail)
     have W:Hid (w3.ownsMap prog 9 (plainElem prog 3) w'.heap.size (d+1) (mD (l.take (d+1)))):=by rw[jM C.o,nN];exact g
     have X:=hI (q.o.grown f q.o.size (λj hj=>by cases hj;exact Nat.le_refl _))
     clear g f g0 p
     go_wp2_with fail
     go_roundw
     case rel=>exact⟨d+1,by go_num,by omega,nR Z.o C.o HM.o,λi u v hi D s=>by
      rcases Nat.lt_or_ge i d with h | h
      ·exact KP.o i u v h D s
      ·have:=(lE s).1
       rw[jK] at this
       omega,W,X⟩
     case measure=>simp[RowKit.intOf];omega
  ·have K:d=l.length:=by omega
   have G:Hid (decide ((19:Int)<=l.length)=r):=by
    have hd:=Z.o
    rw[K,List.take_length] at hd
    rw[<-S.o,wY hd (λi x y hx hy=>KP.o i x y (by have:=(lE hx).1;omega) hx hy),jK]
    show decide _=decide _
    congr 1
    rw[eq_iff_iff];omega
   clear K
   go_wp2_with fail
   go_ret
   exact⟨by rw[<-G.o];rfl,V.o⟩
end
section
open Go.RowKit Go.Maps Go.WideMaps
theorem pX:∀(n:Nat) (l:List Val) (a b:List Int),l.length<=n->(∀m,m∈a↔m∈b)->gS a l=gS b l
 | _,[],_,_,_,_=>rfl
 | _,[k],a,b,_,h=>by unfold gS;simp
 | 0,_::_::_,_,_,h,_=>by simp at h
 | n+1,k::y::r,a,b,hl,h=>by
  unfold gS
  rw[decide_eq_decide.2 (h k.n),pX n r (k.n::a) (k.n::b) (by simp at hl;omega) (λm=>by simp[h m])]
theorem wU (l:List Val) (a:List Int) (x:Int):gS (x::a) l=gS (a++[x]) l:=pX l.length l _ _ (Nat.le_refl _) (λm=>by simp[or_comm])
theorem weak_c (A:Option Addr) (H:Nat) (l:List Val) (ps:Value) (w:World) (N:aH w w.heap.size 2 hU (.slice A l.length H) l) (a7:l.length<=600):Calls prog 124 #[ps,.slice A l.length H] w (aM (.bool (gS [] l)) w):=by
 obtain⟨r,J⟩:∃r,gS [] l=r:=⟨_,rfl⟩;rw[J];have Y:=hI J;have Z:=hI N;obtain⟨-,b3,S⟩:=N.len;unfold maxLen at S;have a9:=@run_makeMap prog;clear N J;go_enter func124,ntmps124;go_wp2_with fail;go_loopw [6] (λk wr=>∃(d j:Nat) (e:List Int),k=.int .i64 d/\Hid (d=2*j)/\d<=l.length+1/\Hid (e.length=j)/\Hid (wr.ownsMap prog 3 (plainElem prog 3) w.heap.size j (jB mZ e))/\Hid ((d<=l.length/\gS e (l.drop d)=r)\/(d=l.length+1/\r=false))/\Hid (Below w.heap.size w wr)) (λk _=>l.length+1 - (RowKit.intOf k).toNat);case atStart=>exact⟨0,0,[],rfl,rfl,by omega,rfl,World.ownsMap_made _ _ _ _,.inl ⟨by omega,by rw[List.drop_zero];exact Y.o⟩,aB w _⟩
 case round=>
  obtain⟨d,j,e,rfl,K,hk,HA,V,L,g⟩:=hrel
  have b0:=g.o.size
  by_cases X:d<l.length
  ·obtain⟨b,F,x,ys,rfl,hb,W,-,⟨rfl,b4,G⟩,C⟩:=Z.o.at_ X
   have O:(d:Int)<l.length:=by omega
   have P:wr.cell? ⟨b,F+d*2,none⟩=some (.int .i64 x.kind):=(g.o.cell hb).trans (C 0 _ rfl)
   have g1:wr.cell? ⟨b,F+d*2+1,none⟩=some (.int .i64 x.n):=(g.o.cell hb).trans (C 1 _ rfl)
   have u:Hid (gS e (x::l.drop (d+1))=r):=by
    rcases L.o with ⟨-,h⟩ | ⟨h,-⟩
    ·obtain⟨M,D⟩:=lE W
     rw[<-h,List.drop_eq_getElem_cons M,D];rfl
    ·omega
   have f:=pA V.o G
   have I:=hI (nT G)
   clear W C L
   have v:Hid ((x.kind == 5)=false\/x.n∈e->false=r):=λh=>by
    rw[<-u.o]
    cases l.drop (d+1) with
    | nil=>unfold gS;rcases h with h | h <;> simp[h]
    | cons y t=>unfold gS;rcases h with h | h <;> simp[h]
   by_cases m:x.kind=5
   case neg=>
    have z:Hid (false=r):=v.o (.inl (bF m))
    have n5:(x.kind == 5)=false:=bF m
    have b2:(x.kind != 5)=true:=bne_iff_ne.2 m
    clear f
    go_wp2_with fail
    go_ret
    exact⟨by rw[<-z.o];rfl,g.o⟩
   rw[m] at P
   by_cases q:x.n∈e
   ·have z:Hid (false=r):=v.o (.inr q)
    rw[if_pos q] at f
    clear q m
    go_wp2_with fail
    go_ret
    exact⟨by rw[<-z.o];rfl,g.o⟩
   ·rw[if_neg q] at f
    have R:Hid ((d+2<=l.length/\gS (e++[x.n]) (l.drop (d+2))=r)\/(d+2=l.length+1/\r=false)):=by
     cases s:l.drop (d+1) with
     | nil=>
      right
      have hl:l.length<=d+1:=List.drop_eq_nil_iff.1 s
      refine⟨by omega,?_⟩
      rw[<-u.o,s];unfold gS;simp
     | cons y t=>
      left
      have hl:¬l.length<=d+1:=λh=>by rw[List.drop_of_length_le h] at s;cases s
      refine⟨by omega,?_⟩
      have ht:l.drop (d+2)=t:=by rw[show d+2=(d+1)+1 from rfl,<-List.drop_drop,s];rfl
      rw[ht,<-u.o,s,<-wU]
      conv=>rhs;unfold gS
      rw[show(x.kind == 5)=true from beq_iff_eq.2 m,decide_eq_false q];rfl
    clear q m
    have E:Hid (j<=9223372036854775806):=by show j<=_;have:=K.o;omega
    go_wp2_with (first
     | (at_mapUpdate;refine wpList_mapUpdate_own _ rfl _ _ _ 114 rfl 3 3 xQ underlying114 _ w.heap.size j _ rfl V.o (by have:=E.o;unfold maxLen;omega) _ _ _ rfl rfl I.o _ [] (plainElem_int underlying3 (by decide)) ?_;intro w3 p i)
     | fail)
    have R1:Hid (w3.ownsMap prog 3 (plainElem prog 3) w.heap.size (j+1) (jB mZ (e++[x.n]))):=by rw[nM];exact p
    have R2:=hI (g.o.grown i g.o.size (λj E=>by cases E;exact Nat.le_refl _))
    clear p i P g1 f
    go_wp2_with fail
    go_roundw
    case rel=>exact⟨d+2,j+1,e++[x.n],by go_num,by show d+2=_;have:=K.o;omega,by omega,by show(e++[x.n]).length=_;rw[List.length_append,HA.o];rfl,R1,R,R2⟩
    case measure=>simp[RowKit.intOf];omega
  ·have O:¬(d:Int)<l.length:=by omega
   have z:Hid (((l.length:Int) % 2 == 0)=r):=by
    have E:=K.o
    rcases L.o with ⟨M,D⟩ | ⟨M,D⟩
    ·rw[<-D,List.drop_of_length_le (by omega)]
     show(_ == _)=true
     exact beq_iff_eq.2 (by omega)
    ·rw[D];exact bF (by omega)
   have a3:Int.tmod (l.length:Int) 2=(l.length:Int) % 2:=by rw[Int.tmod_eq_emod_of_nonneg (by omega)]
   go_wp2_with fail
   go_ret
   exact⟨by rw[<-z.o];rfl,g.o⟩
end
section
open Go.RowKit
def dY (w:World) (B:Nat) (cs:List Value) (f:CFn) (t:aN):Prop:=∃fc tc,cs=fc++tc/\FnR w B fc f/\cT w B tc t
theorem dY.keep {w w':World} {B B':Nat} {cs:List Value} {f:CFn} {t:aN} (h:dY w B cs f t) (hB:B<=B') (d:∀p:Addr,p.block<B->w'.cell? p=w.cell? p):dY w' B' cs f t:=by obtain⟨e,g,i,j,l⟩:=h;exact⟨e,g,i,j.keep hB d,l.keep hB d⟩
theorem dY.below {w w':World} {cs:List Value} {f:CFn} {t:aN} (h:dY w w.heap.size cs f t) (k:Below w.heap.size w w'):dY w' w'.heap.size cs f t:=h.keep k.size (λ_ h=>k.cell h)
theorem dY.cells {w:World} {B:Nat} {cs:List Value} {f:CFn} {t:aN} (h:dY w B cs f t):∃p q d g j l m ne r s u v,cs=[.int .i64 f.params,.int .i64 f.regs,.bool f.gen,.slice p f.caught.length q,.slice d f.code.length g,.int .i64 t.fn,.int .i64 t.at_,.int .i64 t.loop,.slice j t.ins.length l,.slice m t.exits.length ne,.int .i64 t.turn.at_,.int .i64 t.turn.steps,r,s,.int .i64 t.back.at_,.int .i64 t.back.steps,u,v]/\ aH w B 5 iA (.slice d f.code.length g) f.code/\aH w B 8 wR (.slice j t.ins.length l) t.ins/\aH w B 4 (gF w B) (.slice m t.exits.length ne) t.exits:=by obtain⟨z,A,rfl,⟨p,q,d,g,rfl,C,y,-⟩,⟨i,e,D,cb,rfl,hi,x,⟨r,s,rfl,-⟩,⟨u,v,rfl,-⟩,-⟩⟩:=h;obtain⟨j,l,rfl,-⟩:=id hi;obtain⟨m,ne,rfl,-⟩:=id x;exact⟨p,q,d,g,j,l,m,ne,r,s,u,v,rfl,y,hi,x⟩
theorem uG (cs:List Value) (f:CFn) (t:aN) (v at_:Int) (w:World) (h:dY w w.heap.size cs f t) : Calls prog 105 #[.agg ⟨cs⟩,.int .i64 v,.int .i64 at_] w (aM (.bool (fF t.ins v at_)) w):=by
 obtain⟨r,d⟩:∃r,fF t.ins v at_=r:=⟨_,rfl⟩;rw[d];unfold fF at d;obtain⟨F,G,H,I,S,J,K,ne,L,M,N,O,rfl,-,q,-⟩:=h.cells;have P:=aP q;clear h;by_cases p:0<=v
 case neg=>
  have g:Hid (false=r):=by rw[<-d,decide_eq_false p];rfl
  clear d q;go_enter func105,ntmps105;go_wp2_with fail;go_ret;exact⟨by rw[<-g.o];rfl,aB w _⟩
 rw[decide_eq_true p,Bool.true_and] at d;by_cases y:v<at_
 case neg=>
  have g:Hid (false=r):=by rw[<-d,decide_eq_false y];rfl
  clear d q;go_enter func105,ntmps105;go_wp2_with fail;go_ret;exact⟨by rw[<-g.o];rfl,aB w _⟩
 rw[decide_eq_true y,Bool.true_and] at d;by_cases z:v<t.ins.length
 case neg=>
  have g:Hid (false=r):=by rw[<-d,decide_eq_false z];rfl
  clear d q;go_enter func105,ntmps105;go_wp2_with fail;go_ret;exact⟨by rw[<-g.o];rfl,aB w _⟩
 rw[decide_eq_true z,Bool.true_and] at d;obtain⟨k,rfl⟩:=Int.eq_ofNat_of_zero_le p;have A:k<t.ins.length:=by omega
 obtain⟨b,j,x,rfl,hb,s,-,l⟩:=rN q A;have R:w.cell? ⟨b,j+k*8,none⟩=some (.int .i64 x.op):=by have:=l 0 _ rfl;simpa using this
 have g:Hid (iC x.op=r):=by rw[<-d];unfold nQ Hid;rw[Int.toNat_natCast,s];rfl
 clear d q s l;obtain⟨m,i⟩:∃m,m=w.alloc (.cells #[.int .i64 f.params,.int .i64 f.regs,.bool f.gen,.slice F f.caught.length G,.slice H f.code.length I,.int .i64 t.fn,.int .i64 t.at_,.int .i64 t.loop,.slice (some ⟨b,j,none⟩) t.ins.length J,.slice K t.exits.length ne,.int .i64 t.turn.at_,.int .i64 t.turn.steps,L,M,.int .i64 t.back.at_,.int .i64 t.back.steps,N,O] 131):=⟨_,rfl⟩;have C:Hid (Below w.heap.size w m):=by rw[i];exact aB w _
 have D:=hI i;clear i;go_enter func105,ntmps105;go_wp2_with fail;rw[<-D.o];refine(uK _ _).mono ?_;rintro e w1 ⟨rfl,u⟩;have E:=btZ C u;clear u;go_wp2_with fail;go_ret;exact⟨by rw[<-g.o];rfl,E.o⟩
end
section
open Go.RowKit
theorem zS {α : Type} {p : α->Bool} {l:List α} {k:Nat} {x : α} (d:l[k]? = some x) (e:p x=false):l.all p=false:=by rw[List.all_eq_false];exact⟨x,lM d,by simp[e]⟩
theorem zR {α : Type} {p : α->Bool} {l:List α} {k:Nat} (e:k=l.length) (h:∀i x,i<k->l[i]? = some x->p x=true):l.all p=true:=by rw[List.all_eq_true];intro x d;obtain⟨i,hi⟩:=List.getElem?_of_mem d;exact h i x (by have:=(lE hi).1;omega) hi
theorem tE {α : Type} {p : α->Bool} {l:List α} {k:Nat} {x : α} (h:∀i x,i<k->l[i]? = some x->p x=true) (e:l[k]? = some x) (f:p x=true):∀i y,i<k+1->l[i]? = some y->p y=true:=λi y hi d=>by
 rcases Nat.lt_or_ge i k with h1 | h1
 ·exact h i y h1 d
 ·have:i=k:=by omega
  subst this
  rw[e] at d
  injection d with d
  exact d ▸ f
theorem b8 {P:Program} {ops:Array Oper} {rest:List Oper} {op:Oper} {a:Act} {w:World} {Q:Exit->Act->World->Prop} (e:TypeId) (x:Operand) (i:op.op=.load e x)
  (f:Region.wanted op (yielded ops a.tmps)=true)
  (b o:Nat) (j:a.eval x=.pointer (some ⟨b,o,none⟩)) (cs:List Value) (d:TypeDesc) (l:w.rangeAt b o cs)
  (m:P.underlying e=some d) (p:d.isRow=true) (hi:(P.info? e).map (·.size)=some cs.length)
  (h:wpList P ops Q rest (a.put op.dst (.agg cs.toArray)) w):wpList P ops Q (op::rest) a w:=
 wpList_step λK g=>by rw[if_pos f];exact wp_load_mid e x i b o j cs d l m p hi (g _ _ h)
theorem tR:(prog.info? 131).map (·.size)=some 18:=by kernel_rfl
theorem dY.len {w:World} {B:Nat} {cs:List Value} {f:CFn} {t:aN} (h:dY w B cs f t):(prog.info? 131).map (·.size)=some cs.length:=by obtain⟨d,e,g,i,j,l,m,ne,p,q,r,s,rfl,-⟩:=h.cells;exact tR
theorem aA.range {w:World} {g:Nat} {cs:List Value} (h:aA w g cs):w.rangeAt g 0 cs:=λj v d=>by rw[Nat.zero_add];exact h j v d
theorem vJ (cs:List Value) (f:CFn) (t:aN) (v:Value) (l:List Int) (at_:Int) (w:World) (h:dY w w.heap.size cs f t) (hl:aH w w.heap.size 1 hY v l) : Calls prog 103 #[.agg ⟨cs⟩,v,.int .i64 at_] w (aM (.bool (gT t.ins l at_)) w):=by
 obtain⟨r,G⟩:∃r,gT t.ins l at_=r:=⟨_,rfl⟩;rw[G];have I:=hI G;clear G;have S:=hI h;have V:=hI hl;obtain⟨A,a3,rfl,l1,Z,-⟩:=hl;unfold maxLen at Z;obtain⟨j,g⟩:∃j,j=w.alloc (.cells ⟨cs⟩ 131):=⟨_,rfl⟩;have z:Hid (Below w.heap.size w j):=by rw[g];exact aB w _
 have W:Hid (aA j w.heap.size cs):=by rw[g];exact ad5 _ _ _
 have hz:w.heap.size<j.heap.size:=by rw[g];simp
 have J:=hI h.len;have X:=hI g;clear g h;go_enter func103,ntmps103;go_wp2_with fail;rw[<-X.o];go_loopw [11] (λk wr=>∃d:Nat,k=.int .i64 d/\d<=l.length/\Hid (∀i x,i<d->l[i]? = some x->fF t.ins x at_=true)/\Hid (Below j.heap.size j wr)) (λk _=>l.length - (RowKit.intOf k).toNat);case atStart=>exact⟨0,rfl,by omega,λi x hi _=>by omega,Below.refl _ _⟩
 case round=>
  obtain⟨d,rfl,hk,N,p⟩:=hrel;by_cases R:d<l.length
  ·obtain⟨b,O,x,ys,rfl,hb,u,P,hR,y⟩:=V.o.at_ R;obtain⟨rfl,a4⟩:=hR;have a2:(d:Int)<l.length:=(by omega);have D:=btZ z p.o;have Y:wr.cell? ⟨b,O+d,none⟩=some (.int .i64 x):=(D.o.cell hb).trans (by simpa using y 0 _ rfl);have K:=hI (W.o.on p.o).range;have L:=hI u;have C:=hI (uG _ f t x at_ wr (S.o.below D.o));obtain⟨q,H⟩:∃q,fF t.ins x at_=q:=⟨_,rfl⟩;rw[H] at C;have M:=hI H;clear u y P H;cases q;·have E:Hid (false=r):=(by rw[<-I.o,gT,zS L.o M.o];rfl);go_wp2_with (refine wpList_load_mid rfl 131 _ rfl w.heap.size 0 rfl cs _ K.o underlying131 rfl J.o ?_);refine C.o.mono ?_;rintro e w2 ⟨rfl,m⟩;have F:=btZ D m;clear m;go_wp2_with fail;go_ret;exact⟨by rw[<-E.o];rfl,F.o⟩
   ·go_wp2_with (refine wpList_load_mid rfl 131 _ rfl w.heap.size 0 rfl cs _ K.o underlying131 rfl J.o ?_);refine C.o.mono ?_;rintro e w2 ⟨rfl,m⟩;have F:=btZ p m;clear m Y;go_wp2_with fail;go_roundw;case rel=>exact⟨d+1,by go_num,by omega,tE N.o L.o M.o,F⟩
    case measure=>simp[RowKit.intOf];omega
  ·have s:d=l.length:=(by omega);have E:Hid (true=r):=(by rw[<-I.o,gT,zR s N.o];rfl);clear s;go_wp2_with fail;go_ret;exact⟨by rw[<-E.o];rfl,z.o.trans (p.o.mono z.o.size)⟩
end
section
open Go.RowKit
theorem jZ (w:World) (A B:List Value) (t u:TypeId):aA ((w.alloc (.cells ⟨A⟩ t)).alloc (.cells ⟨B⟩ u)) w.heap.size A/\aA ((w.alloc (.cells ⟨A⟩ t)).alloc (.cells ⟨B⟩ u)) (w.heap.size+1) B/\Below w.heap.size w ((w.alloc (.cells ⟨A⟩ t)).alloc (.cells ⟨B⟩ u)):=by refine⟨(ad5 w A t).old _,?_,bE w _ _⟩;have:=ad5 (w.alloc (.cells ⟨A⟩ t)) B u;rwa [World.size_alloc] at this
theorem zZ {ins:List bG} {v at_:Int} (h:fF ins v at_=true):∃k:Nat,v=k/\(k:Int)<at_/\k<ins.length/\iC (nQ ins v)=true:=by unfold fF at h;simp only[Bool.and_eq_true,decide_eq_true_eq] at h;obtain⟨⟨⟨d,e⟩,g⟩,f⟩:=h;obtain⟨k,rfl⟩:=Int.eq_ofNat_of_zero_le d;exact⟨k,rfl,e,by omega,f⟩
theorem dY.at8 {w:World} {B:Nat} {cs:List Value} {f:CFn} {t:aN} (h:dY w B cs f t):∃d e,cs[8]? = some (.slice d t.ins.length e)/\aH w B 8 wR (.slice d t.ins.length e) t.ins:=by obtain⟨g,i,j,l,d,e,m,ne,p,q,r,s,rfl,-,h,-⟩:=h.cells;exact⟨d,e,rfl,h⟩
theorem make_c (cs ms:List Value) (f:CFn) (t:aN) (m:fZ) (at_:Int) (w:World) (h:dY w w.heap.size cs f t) (hm:sM w w.heap.size ms m) : Calls prog 106 #[.agg ⟨cs⟩,.agg ⟨ms⟩,.int .i64 at_] w (aM (.bool (nD t.ins m at_)) w):=by
 obtain⟨r,d⟩:∃r,nD t.ins m at_=r:=⟨_,rfl⟩;rw[d];unfold nD at d;have Y:=hI h;have H:=hI h.len;obtain⟨Ai,ni,p8,qs⟩:=h.at8;obtain⟨v,rfl,N,wc,wk,wn⟩:=hm;obtain⟨V,O,rfl,e4,a6,-⟩:=id N;unfold maxLen at a6;have HV:=hI N;have Z:=hI qs;obtain⟨P,p⟩:∃P,P=(w.alloc (.cells ⟨cs⟩ 131)).alloc (.cells #[.int .i64 m.cell,.int .i64 m.kind,.int .i64 m.num,.slice V m.vals.length O] 181):=⟨_,rfl⟩;have TB:=jZ w cs [.int .i64 m.cell,.int .i64 m.kind,.int .i64 m.num,.slice V m.vals.length O] 131 181;rw[<-p] at TB;obtain⟨t1,t2,t3⟩:=TB;have I:=hI t1;have z:=hI t2;have k0:=hI t3;have HW:=hI p;have R0:=hI I.o.range;have CV:=hI (uG _ f t m.cell at_ P (Y.o.below k0.o));obtain⟨q,R⟩:∃q,fF t.ins m.cell at_=q:=⟨_,rfl⟩;rw[R] at CV d;have a4:=hI R;clear h N p t1 t2 t3 qs R;go_enter func106,ntmps106;go_wp2_with (first | (refine wpList_load_mid rfl 131 _ rfl w.heap.size 0 rfl cs _ (by rw[<-HW.o];exact R0.o) underlying131 rfl H.o ?_) | fail);rw[<-HW.o];refine CV.o.mono ?_;rintro e w1 ⟨rfl,j⟩;have K:=btZ k0 j;cases q
 case false=>
  have i:Hid (false=r):=by rw[<-d];rfl
  clear d j;go_wp2_with fail;go_ret;exact⟨by rw[<-i.o];rfl,K.o⟩
 rw[Bool.true_and] at d;obtain⟨k,hk,-,c1,-⟩:=zZ a4.o;obtain⟨b,c2,x,rfl,hb,hx,-,G⟩:=rN Z.o c1;have g0:w1.cell? ⟨b,c2+k*8,none⟩=some (.int .i64 x.op):=(K.o.cell hb).trans (by have:=G 0 _ rfl;simpa using this);have d8:=(I.o.on j) 8 _ p8;have e0:=(z.o.on j) 0 _ rfl;have J:=(z.o.on j) 1 _ rfl;have e2:=(z.o.on j) 2 _ rfl;have e3:=(z.o.on j) 3 _ rfl;have ll:=aP Z.o;have A:nQ t.ins m.cell=x.op:=by unfold nQ;rw[hk,Int.toNat_natCast,hx];rfl
 rw[A] at d;have d4:=hI J;have d5:=hI e2;have d6:=hI e3;rw[hk] at e0;have C:=hI (I.o.on j).range;clear j A G hx;by_cases W:x.op=18
 case neg=>
  have i:Hid (false=r):=by rw[<-d,bF W];rfl
  clear d;go_wp2_with fail;go_ret;exact⟨by rw[<-i.o];rfl,K.o⟩
 rw[W,show((18:Int) == 18)=true from rfl,Bool.true_and] at d;rw[W] at g0;obtain⟨bad,g⟩:∃bad,(decide (m.kind<1) || decide (3<m.kind) || decide (m.num<0) || (decide (0<m.num) && m.kind != 1))=bad:=⟨_,rfl⟩;rw[g] at d;cases bad
 case true=>
  have i:Hid (false=r):=by rw[<-d];rfl
  clear d;by_cases b1:m.kind<1;·clear g;go_wp2_with fail;go_ret;exact⟨by rw[<-i.o];rfl,K.o⟩
  by_cases s:3<m.kind;·clear g;go_wp2_with fail;go_ret;exact⟨by rw[<-i.o];rfl,K.o⟩
  by_cases S:m.num<0;·clear g;go_wp2_with fail;go_ret;exact⟨by rw[<-i.o];rfl,K.o⟩
  have l:0<m.num/\(m.kind != 1)=true:=by simpa [b1,s,S] using g
  obtain⟨l,b5⟩:=l;clear g;go_wp2_with fail;go_ret;exact⟨by rw[<-i.o];rfl,K.o⟩
 simp only[Bool.or_eq_false_iff,decide_eq_false_iff_not] at g;obtain⟨⟨⟨b1,s⟩,S⟩,l⟩:=g;rw[Bool.not_false,Bool.true_and] at d;have D:(0<m.num/\m.kind=1)\/¬ 0<m.num:=by
  by_cases h:0<m.num;·left;refine⟨h,?_⟩;simpa [h] using l
  ·exact .inr h
 clear l;have E:decide (m.kind<1)=false:=decide_eq_false b1;have F:decide (3<m.kind)=false:=decide_eq_false s;have d7:decide (m.num<0)=false:=decide_eq_false S;have L:=hI (vJ _ f t (.slice V m.vals.length O) m.vals at_ w1 (Y.o.below K.o) (HV.o.below K.o));by_cases y:m.vals.length<=100
 case neg=>
  have a5:¬(m.vals.length:Int)<=100:=by omega
  have i:Hid (false=r):=by rw[<-d,decide_eq_false y];rfl
  clear d;rcases D with ⟨b5,X⟩ | b5;·rw[X] at J;clear b1 s E F;go_wp2_with fail;go_ret;exact⟨by rw[<-i.o];rfl,K.o⟩
  ·go_wp2_with fail;go_ret;exact⟨by rw[<-i.o];rfl,K.o⟩
 have a5:(m.vals.length:Int)<=100:=by omega
 rw[decide_eq_true y,Bool.true_and] at d;rw[d] at L;clear d;rcases D with ⟨b5,X⟩ | b5;·rw[X] at J;clear b1 s E F;go_wp2_with (refine b8 131 _ rfl rfl w.heap.size 0 rfl cs _ C.o underlying131 rfl H.o ?_);refine L.o.mono ?_;rintro e w2 ⟨rfl,u⟩;have M:=btZ K u;clear u;go_wp2_with fail;go_ret;exact⟨rfl,M.o⟩
 ·go_wp2_with (refine b8 131 _ rfl rfl w.heap.size 0 rfl cs _ C.o underlying131 rfl H.o ?_);refine L.o.mono ?_;rintro e w2 ⟨rfl,u⟩;have M:=btZ K u;clear u;go_wp2_with fail;go_ret;exact⟨rfl,M.o⟩
end
section
open Go.RowKit
theorem dY.at1 {w:World} {B:Nat} {cs:List Value} {f:CFn} {t:aN} (h:dY w B cs f t):cs[1]? = some (.int .i64 f.regs)/\∃d e,cs[4]? = some (.slice d f.code.length e)/\f.code.length<=9223372036854775807:=by obtain⟨g,i,d,e,j,l,m,ne,p,q,r,s,rfl,h,-⟩:=h.cells;exact⟨rfl,d,e,rfl,aP h⟩
theorem uZ {α : Type} {l:List α} {k:Nat} {x : α} (h:l[k]? = some x):l.drop k=x::l.drop (k+1):=by obtain⟨d,e⟩:=lE h;rw[<-e];exact List.drop_eq_getElem_cons d
def eZ (f:CFn):FnM:=⟨f.regs,f.code.length⟩
theorem qN (cs xs:List Value) (f:CFn) (t:aN) (x:cW) (at_:Int) (w:World) (h:dY w w.heap.size cs f t) (hx:gF w w.heap.size xs x) : Calls prog 58 #[.agg ⟨cs⟩,.agg ⟨xs⟩,.int .i64 at_] w (aM (.bool (bR (eZ f) t.ins x at_)) w):=by
 obtain⟨r,g⟩:∃r,bR (eZ f) t.ins x at_=r:=⟨_,rfl⟩;rw[g];unfold bR eZ at g;dsimp only at g;have HC:=hI h;have HI:=hI h.len;obtain⟨Ai,ni,p8,qs⟩:=h.at8;obtain⟨p1,A5,n5,p4,l5⟩:=h.at1;obtain⟨s,m,rfl,hs,hm,wa,ws⟩:=hx;have HS:=hI hs;have HM:=hI hm;obtain⟨S,cS,rfl,h7,e2,-⟩:=hs;obtain⟨M,cM,rfl,h8,e5,-⟩:=hm;unfold maxLen at e2 e5;obtain⟨K,Z⟩:∃K,K=(w.alloc (.cells ⟨cs⟩ 131)).alloc (.cells #[.int .i64 x.at_,.int .i64 x.steps,.slice S x.sets.length cS,.slice M x.makes.length cM] 32):=⟨_,rfl⟩;have TB:=jZ w cs [.int .i64 x.at_,.int .i64 x.steps,.slice S x.sets.length cS,.slice M x.makes.length cM] 131 32;rw[<-Z] at TB;obtain⟨t1,t2,t3⟩:=TB;have N:=hI t1;have H2:=hI t2;have u:=hI t3;have O:=hI Z;clear h Z t1 t2 t3 qs p1 p8;by_cases b1:x.at_<0
 ·have z:Hid (false=r):=by rw[<-g];simp[b1,Hid]
  clear g;go_enter func58,ntmps58;go_wp2_with fail;go_ret;exact⟨by rw[<-z.o];rfl,by rw[<-O.o];exact u.o⟩
 by_cases b2:(f.code.length:Int)<=x.at_
 ·have z:Hid (false=r):=by rw[<-g];simp[b2,Hid]
  clear g;go_enter func58,ntmps58;go_wp2_with fail;go_ret;exact⟨by rw[<-z.o];rfl,by rw[<-O.o];exact u.o⟩
 by_cases b3:x.steps<0
 ·have z:Hid (false=r):=by rw[<-g];simp[b3,Hid]
  clear g;go_enter func58,ntmps58;go_wp2_with fail;go_ret;exact⟨by rw[<-z.o];rfl,by rw[<-O.o];exact u.o⟩
 by_cases b4:200<x.steps
 ·have z:Hid (false=r):=by rw[<-g];simp[b4,Hid]
  clear g;go_enter func58,ntmps58;go_wp2_with fail;go_ret;exact⟨by rw[<-z.o];rfl,by rw[<-O.o];exact u.o⟩
 rw[decide_eq_false b1,decide_eq_false b2,decide_eq_false b3,decide_eq_false b4,Bool.or_false,Bool.or_false,Bool.or_false,Bool.not_false,Bool.true_and] at g;have z:=hI g;have P:=hI p4;clear g;go_enter func58,ntmps58;go_wp2_with fail;rw[<-O.o];clear p4 b1 b2 b3 b4;go_loopw [37,7] (λk la wr=>∃(C:Nat) (d:Int),k=.int .i64 C/\la=.int .i64 d/\C<=x.sets.length/\Hid (nC f.regs t.ins at_ d (x.sets.drop C)=nC f.regs t.ins at_ (-1) x.sets)/\Hid (Below K.heap.size K wr)) (λk _ _=>x.sets.length - (RowKit.intOf k).toNat);case atStart=>exact⟨0,-1,rfl,rfl,by omega,rfl,Below.refl _ _⟩
 case round=>
  obtain⟨C,d,rfl,rfl,hk,L,i⟩:=hrel;by_cases J:C<x.sets.length
  ·obtain⟨b,D,y,ys,rfl,hb,hy,a1,hR,j⟩:=HS.o.at_ J;obtain⟨rfl,h9,i0⟩:=hR;have d2:(C:Int)<x.sets.length:=(by omega);have l:=btZ u i.o;have hz:w.heap.size<wr.heap.size:=(by have:=dP (N.o 4 _ P.o);exact Nat.lt_of_lt_of_le this i.o.size);have d3:b<wr.heap.size:=(by omega);have g0:wr.cell? ⟨b,D+C*2,none⟩=some (.int .i64 y.reg):=(l.o.cell hb).trans (j 0 _ rfl);have g1:wr.cell? ⟨b,D+C*2+1,none⟩=some (.int .i64 y.val):=(l.o.cell hb).trans (j 1 _ rfl);have d1:wr.cell? ⟨w.heap.size,1,none⟩=some (.int .i64 f.regs):=aC i.o (N.o 1 _ HC.o.at1.1);have HB:=hI (N.o.on i.o);have E:Hid (nC f.regs t.ins at_ (-1) x.sets=(decide (d<y.reg) && decide (y.reg<f.regs) && fF t.ins y.val at_ && nC f.regs t.ins at_ y.reg (x.sets.drop (C+1)))):=(by rw[<-L.o,uZ hy];rfl);clear hy j a1;by_cases c1:d<y.reg;case neg=>have A:Hid (false=r):=(by rw[<-z.o,E.o,decide_eq_false c1];rfl);have H:y.reg<=d:=(by omega);go_wp2_with fail;go_ret;exact⟨by rw[<-A.o];rfl,(by repeat (first | exact l.o | refine Below.drew ?_ | refine Below.setCell ?_ (by first | omega | (simp;omega)) _ | refine Below.alloc ?_ (by first | omega | (simp;omega)) _))⟩
   by_cases c2:y.reg<f.regs;case neg=>have A:Hid (false=r):=(by rw[<-z.o,E.o,decide_eq_false c2,Bool.and_false];rfl);have H:¬y.reg<=d:=(by omega);have d4:f.regs<=y.reg:=(by omega);go_wp2_with fail;go_ret;exact⟨by rw[<-A.o];rfl,(by repeat (first | exact l.o | refine Below.drew ?_ | refine Below.setCell ?_ (by first | omega | (simp;omega)) _ | refine Below.alloc ?_ (by first | omega | (simp;omega)) _))⟩
   have R:Hid (∀W,Below wr.heap.size wr W->Calls prog 105 #[.agg ⟨cs⟩,.int .i64 y.val,.int .i64 at_] W (λe F=>e=.returned (.bool (fF t.ins y.val at_))/\Below wr.heap.size wr F/\Below W.heap.size W F)):=λW G=> (uG cs f t y.val at_ W (HC.o.below (l.o.trans (G.mono l.o.size)))).mono λe F ⟨h1,h2⟩=>⟨h1,G.trans (h2.mono G.size),h2⟩;obtain⟨q,hq⟩:∃q,fF t.ins y.val at_=q:=⟨_,rfl⟩;rw[hq] at R E;have H:¬y.reg<=d:=(by omega);have d4:¬f.regs<=y.reg:=(by omega);clear hq;go_wp2_with (refine b8 131 _ rfl rfl w.heap.size 0 rfl cs _ ((HB.o.on (by repeat (first | exact Below.refl _ _ | refine Below.drew ?_ | refine Below.setCell ?_ (by simp) _ | refine Below.alloc ?_ (by simp) _))).range) underlying131 rfl HI.o ?_);refine(R.o _ (by repeat (first | exact Below.refl _ _ | refine Below.drew ?_ | refine Below.setCell ?_ (by simp) _ | refine Below.alloc ?_ (by simp) _))).mono ?_;rintro e F ⟨rfl,k2,k3⟩;have X:=btZ i k2;have g2:=aC k3 (a:=⟨wr.heap.size,0,none⟩) (v:=.int .i64 y.reg) (bL _ _ _ _);clear k2 k3 g0 g1 d1;cases q;case false=>have A:Hid (false=r):=(by rw[<-z.o,E.o,Bool.and_false];rfl);go_wp2_with fail;go_ret;exact⟨by rw[<-A.o];rfl,u.o.trans (X.o.mono u.o.size)⟩
   go_wp2_with fail;go_roundw;case rel=>exact⟨C+1,y.reg,by go_num,rfl,by omega,by rw[E.o,decide_eq_true c1,decide_eq_true c2];rfl,X.o⟩
   case measure=>simp[RowKit.intOf];omega
  ·have I:x.sets.drop C=[]:=List.drop_eq_nil_of_le (by omega);have Y:Hid (iE t.ins at_ (-1) x.makes=r):=(by have e:=L.o;rw[I] at e;rw[<-z.o,<-e];rfl);have e3:=aC i.o (H2.o 3 _ rfl);clear L I;go_wp2_with fail;clear e3;go_loopw [67,7] (λk la wx=>∃(p:Nat) (d:Int),k=.int .i64 p/\la=.int .i64 d/\p<=x.makes.length/\Hid (iE t.ins at_ d (x.makes.drop p)=iE t.ins at_ (-1) x.makes)/\Hid (Below K.heap.size K wx)) (λk _ _=>x.makes.length - (RowKit.intOf k).toNat);case atStart=>exact⟨0,-1,rfl,rfl,by omega,rfl,i.o⟩
   case round=>
    rename_i wq;clear i J;obtain⟨p,d,rfl,rfl,hk,L,i⟩:=hrel;by_cases J:p<x.makes.length
    ·obtain⟨b,D,y,ys,rfl,hb,hy,a1,hR,j⟩:=HM.o.at_ J;have d6:=hI hR;obtain⟨v,rfl,hv,-⟩:=hR;obtain⟨V,cv,rfl,-⟩:=hv;have d2:(p:Int)<x.makes.length:=(by omega);have l:=btZ u i.o;have hz:w.heap.size<wr.heap.size:=(by have:=dP (N.o 4 _ P.o);exact Nat.lt_of_lt_of_le this i.o.size);have d3:b<wr.heap.size:=(by omega);have g0:wr.cell? ⟨b,D+p*4,none⟩=some (.int .i64 y.cell):=(l.o.cell hb).trans (j 0 _ rfl);have g1:wr.cell? ⟨b,D+p*4+1,none⟩=some (.int .i64 y.kind):=(l.o.cell hb).trans (j 1 _ rfl);have g2:wr.cell? ⟨b,D+p*4+2,none⟩=some (.int .i64 y.num):=(l.o.cell hb).trans (j 2 _ rfl);have g3:wr.cell? ⟨b,D+p*4+3,none⟩=some (.slice V y.vals.length cv):=(l.o.cell hb).trans (j 3 _ rfl);have HB:=hI (N.o.on i.o);have E:Hid (iE t.ins at_ (-1) x.makes=(decide (d<y.cell) && nD t.ins y at_ && iE t.ins at_ y.cell (x.makes.drop (p+1)))):=(by rw[<-L.o,uZ hy];rfl);clear hy j a1;by_cases c1:d<y.cell;case neg=>have A:Hid (false=r):=(by rw[<-Y.o,E.o,decide_eq_false c1];rfl);have H:y.cell<=d:=(by omega);go_wp2_with fail;go_ret;exact⟨by rw[<-A.o];rfl,(by repeat (first | exact l.o | refine Below.drew ?_ | refine Below.setCell ?_ (by first | omega | (simp;omega)) _ | refine Below.alloc ?_ (by first | omega | (simp;omega)) _))⟩
     have R:Hid (∀W,Below wr.heap.size wr W->Calls prog 106 #[.agg ⟨cs⟩,.agg #[.int .i64 y.cell,.int .i64 y.kind,.int .i64 y.num,.slice V y.vals.length cv],.int .i64 at_] W (λe F=>e=.returned (.bool (nD t.ins y at_))/\Below wr.heap.size wr F/\Below W.heap.size W F)):=λW G=> have kz:=btZ l G;(make_c cs _ f t y at_ W (HC.o.below kz) (d6.o.keep kz.size (λ_ h=>kz.cell h))).mono λe F ⟨h1,h2⟩=>⟨h1,G.trans (h2.mono G.size),h2⟩;obtain⟨q,hq⟩:∃q,nD t.ins y at_=q:=⟨_,rfl⟩;rw[hq] at R E;have H:¬y.cell<=d:=(by omega);clear hq;go_wp2_with (refine b8 131 _ rfl rfl w.heap.size 0 rfl cs _ ((HB.o.on (by repeat (first | exact Below.refl _ _ | refine Below.drew ?_ | refine Below.setCell ?_ (by simp) _ | refine Below.alloc ?_ (by simp) _))).range) underlying131 rfl HI.o ?_);refine(R.o _ (by repeat (first | exact Below.refl _ _ | refine Below.drew ?_ | refine Below.setCell ?_ (by simp) _ | refine Below.alloc ?_ (by simp) _))).mono ?_;rintro e F ⟨rfl,k2,k3⟩;have X:=btZ i k2;have g4:=aC k3 (a:=⟨wr.heap.size,0,none⟩) (v:=.int .i64 y.cell) (bL _ _ _ _);clear k2 k3 g0 g1 g2 g3;cases q;case false=>have A:Hid (false=r):=(by rw[<-Y.o,E.o,Bool.and_false];rfl);go_wp2_with fail;go_ret;exact⟨by rw[<-A.o];rfl,u.o.trans (X.o.mono u.o.size)⟩
     go_wp2_with fail;go_roundw;case rel=>exact⟨p+1,y.cell,by go_num,rfl,by omega,by rw[E.o,decide_eq_true c1];rfl,X.o⟩
     case measure=>simp[RowKit.intOf];omega
    ·have I:x.makes.drop p=[]:=List.drop_eq_nil_of_le (by omega);have A:Hid (true=r):=(by have e:=L.o;rw[I] at e;rw[<-Y.o,<-e];rfl);go_wp2_with fail;go_ret;exact⟨by rw[<-A.o];rfl,u.o.trans (i.o.mono u.o.size)⟩
end
section
open Go.RowKit
theorem aO {P:Program} {ops:Array Oper} {rest:List Oper} {o:Oper} {a:Act} {w:World} {Q:Act->Prop} (g:TypeId) (x:Operand) (l:o.op=.load g x)
  (i:Region.wanted o (yielded ops a.tmps)=true)
  (b f:Nat) (m:a.eval x=.pointer (some ⟨b,f,none⟩)) (cs:List Value) (d:TypeDesc) (p:∀E:Up w,E.to.rangeAt b f cs)
  (q:P.underlying g=some d) (r:d.isRow=true) (hi:(P.info? g).map (·.size)=some cs.length)
  (h:wpQuiet P ops (λw'=>∃E:Up w,w'=E.to) Q rest (a.put o.dst (.agg cs.toArray))):wpQuiet P ops (λw'=>∃E:Up w,w'=E.to) Q (o::rest) a:=
 wpQuiet_step λK j=>by
  rw[if_pos i]
  refine⟨.agg cs.toArray,λw' ⟨E,e⟩=>?_,j _ h⟩
  subst e
  unfold Oper.quietAt execOp
  simp only[l,m,Instr.loadAt,Instr.sureAddr,Sem.run_bind,Sem.run_pure,Result.andThen_ok,run_loadVar_mid E.to b f g cs d (p E) q r hi]
  exact⟨rfl,rfl⟩
theorem bare_c (xs:List Value) (x:cW) (w:World) (B:Nat) (w':World) (A:gF w' B xs x):Calls prog 57 #[.agg ⟨xs⟩] w (aM (.bool (lT x)) w):=by
 obtain⟨r,d⟩:∃r,lT x=r:=⟨_,rfl⟩;rw[d];unfold lT at d;obtain⟨s,m,rfl,y,z,I,J⟩:=A;obtain⟨S,K,rfl,G,l,-⟩:=y;obtain⟨M,L,rfl,H,p,-⟩:=z;unfold maxLen at l p;by_cases b1:x.at_=0
 case neg=>
  have e:Hid (false=r):=by rw[<-d,bF b1];rfl
  have C:(x.at_ == 0)=false:=bF b1;clear d;go_enter func57,ntmps57;go_wp2_with fail;go_ret;exact⟨by rw[<-e.o];rfl,aB w _⟩
 rw[b1,show((0:Int) == 0)=true from rfl,Bool.true_and] at d;rw[b1];by_cases f:x.steps=0
 case neg=>
  have e:Hid (false=r):=by rw[<-d,bF f];rfl
  have D:(x.steps == 0)=false:=bF f;clear d b1;go_enter func57,ntmps57;go_wp2_with fail;go_ret;exact⟨by rw[<-e.o];rfl,aB w _⟩
 rw[f,show((0:Int) == 0)=true from rfl,Bool.true_and] at d;rw[f];by_cases j:x.sets.length=0
 case neg=>
  have g:x.sets.isEmpty=false:=by cases h:x.sets <;> simp_all
  have e:Hid (false=r):=by rw[<-d,g];rfl
  have E:((x.sets.length:Int) == 0)=false:=by rw[beq_eq_false_iff_ne];omega
  have u:¬(x.sets.length:Int)=0:=by omega
  clear d b1 f;go_enter func57,ntmps57;go_wp2_with fail;go_ret;exact⟨by rw[<-e.o];rfl,aB w _⟩
 have g:x.sets.isEmpty=true:=by cases h:x.sets <;> simp_all
 rw[g,Bool.true_and] at d;rw[j];by_cases q:x.makes.length=0
 case neg=>
  have i:x.makes.isEmpty=false:=by cases h:x.makes <;> simp_all
  have e:Hid (false=r):=by rw[<-d,i];exact rfl
  have F:((x.makes.length:Int) == 0)=false:=by rw[beq_eq_false_iff_ne];omega
  have v:¬(x.makes.length:Int)=0:=by omega
  clear d b1 f j;go_enter func57,ntmps57;go_wp2_with fail;go_ret;refine⟨?_,aB w _⟩;rw[<-e.o];show Ending.returned (.bool _)=_;congr 2
 have i:x.makes.isEmpty=true:=by cases h:x.makes <;> simp_all
 have e:Hid (true=r):=by rw[<-d,i];exact rfl
 rw[q];clear d b1 f j q;go_enter func57,ntmps57;go_wp2_with fail;go_ret;exact⟨by rw[<-e.o];rfl,aB w _⟩
end
end Go.Proofs.YtjaphgpkkfdaaaaGreatDoor
