/- A part of the walk. -/
import Derived.Test.YtijihlcdhppfgaaGreatDoorZJ
set_option maxHeartbeats 16000000
set_option maxRecDepth 100000
set_option linter.all false
namespace Go.Proofs.YtijihlcdhppfgaaGreatDoor
open Tryz
section
open Go.RowKit Go.Maps Go.WideMaps
theorem ah1 (S:aP) (l:Nat) (w:World) (h:kI w l S):Calls prog 131 #[.pointer (some ⟨l,0,none⟩)] w (aK (.bool (rI S)) w):=by
 obtain⟨r,d⟩:∃r,rI S=r:=⟨_,rfl⟩;rw[d];unfold rI at d;obtain⟨A,D,A1,n1,I,J,A3,n3,A4,n4,A5,n5,g,hb,E,s1,F,s3,L,M⟩:=h.parts;have lc:=aM E;have lt:=aM F;have le:=aM L;have b0:=aM M;have HH:=hI g;have P:=g 0 _ rfl;have g2:=g 2 _ rfl;have g4:=g 4 _ rfl;have g5:=g 5 _ rfl;have H:=hI (mK nM (λt=>decide (200<t.size)) I J S.texts 193 ad2 #[] w F (λw1 k x cs hx G=>by obtain⟨rfl,hs⟩:=G;exact ahE x (by unfold maxLen at hs;omega) w1));have R:Hid (∀w1,Below w.heap.size w w1->Calls prog 136 #[.slice A S.cells.length D,.func (.func 194) #[] #[]] w1 (aK (.bool (S.cells.any (λc=>decide (100<c.vals.length) && (c.kind != 7 || decide (600<c.vals.length))))) w1)):=λw1 j=> kF (hM w w.heap.size) (λc=>decide (100<c.vals.length) && (c.kind != 7 || decide (600<c.vals.length))) A D S.cells 194 ad1 #[] w1 (E.below j) (λN k x cs hx G=>ahD cs x _ _ N G);clear E s1 F s3 L M g h;by_cases h1:300<S.cells.length
 ·have f:Hid (true=r):=by rw[<-d];simp[h1,Hid]
  have V:(300:Int)<S.cells.length:=by omega
  clear d h1;go_enter func131,ntmps131;go_wp2_with fail;go_ret;exact⟨by rw[<-f.o];rfl,Below.refl _ _⟩
 have V:decide ((300:Int)<S.cells.length)=false:=by simp;omega
 by_cases p:300<S.texts.length
 ·have f:Hid (true=r):=by rw[<-d];simp[p,Hid]
  have X:(300:Int)<S.texts.length:=by omega
  clear d h1 p;go_enter func131,ntmps131;go_wp2_with fail;go_ret;exact⟨by rw[<-f.o];rfl,Below.refl _ _⟩
 have X:decide ((300:Int)<S.texts.length)=false:=by simp;omega
 by_cases u:200<S.said.length
 ·have f:Hid (true=r):=by rw[<-d];simp[u,Hid]
  have Y:(200:Int)<S.said.length:=by omega
  clear d h1 p u;go_enter func131,ntmps131;go_wp2_with fail;go_ret;exact⟨by rw[<-f.o];rfl,Below.refl _ _⟩
 have Y:decide ((200:Int)<S.said.length)=false:=by simp;omega
 by_cases v:100<S.ends.length
 ·have f:Hid (true=r):=by rw[<-d];simp[v,Hid]
  have Z:(100:Int)<S.ends.length:=by omega
  clear d h1 p u v;go_enter func131,ntmps131;go_wp2_with fail;go_ret;exact⟨by rw[<-f.o];rfl,Below.refl _ _⟩
 have Z:decide ((100:Int)<S.ends.length)=false:=by simp;omega
 have s:(S.texts.any (λt=>decide (200<t.size)) || S.cells.any (λc=>decide (100<c.vals.length) && (c.kind != 7 || decide (600<c.vals.length))))=r:=by rw[<-d];simp only[h1,p,u,v,decide_false,Bool.false_or]
 clear d h1 p u v;obtain⟨q1,y⟩:∃q,S.texts.any (λt=>decide (200<t.size))=q:=⟨_,rfl⟩;rw[y] at H s;clear y;have f:=hI s;have z:=kG w;clear s;go_enter func131,ntmps131;go_wp2_with fail;refine H.o.mono ?_;rintro e w1 ⟨rfl,j⟩;have K:=btZ z j;cases q1;case true=>clear j;go_wp2_with fail;go_ret;exact⟨by rw[<-f.o];rfl,K.o⟩
 have e0:=aC j P;clear j;go_wp2_with fail;refine(R.o w1 K.o).mono ?_;rintro e N ⟨rfl,O⟩;have K2:=btZ K O;clear O e0;go_wp2_with fail;go_ret;exact⟨by rw[<-f.o];rfl,K2.o⟩
theorem af1 {W:World} {j:Nat} {n:Nat} {L:List ByteArray} (h:W.ownsMap prog 9 (plainElem prog 3) j n (o6 L)) {x:ByteArray} (l:x.size<=maxLen) : ∃c:Int,(Instr.lookup 205 (.map (some j)) (.string x) false).run prog W=.ok (.int .i64 c) W/\(x∈L->c=1)/\(x∉L->c=0):=by
 obtain⟨c,f,d,-⟩:=h.lookup_int tK underlying205 underlying3 (vK W) (keyOf_string_mk underlying9 l);refine⟨c,f,λg=>?_,λg=>?_⟩;·rw[yY g] at d;exact(lJ d).symm
 ·rw[vV g] at d;exact(lJ d).symm
theorem afN {W l:List ByteArray} {k:Nat} {x y:ByteArray} (g:l[k]? = some x) (d:W[k]? = some y) (f:x≠y):lT W l=false:=by
 unfold lT;by_cases h:W.length<=l.length
 ·have:l.take W.length≠W:=λe=>f (by
   have h1:(l.take W.length)[k]? = some x:=(by rw[List.getElem?_take,if_pos (lE d).1];exact g);rw[e,d] at h1;injection h1 with h1
   exact h1.symm)
  rw[decide_eq_false this];simp
 ·rw[decide_eq_false h];rfl
theorem acW {W l:List ByteArray} (h:l.Nodup) (f:∀(i:Nat) x y,l[i]? = some x->W[i]? = some y->x=y):lT W l=decide (W.length<=l.length):=by
 unfold lT;rw[decide_eq_true h,Bool.and_true];by_cases c:W.length<=l.length
 ·rw[decide_eq_true c,Bool.true_and,decide_eq_true];apply List.ext_getElem?;intro i;rw[List.getElem?_take];by_cases hi:i<W.length;·rw[if_pos hi];have h1:l[i]? = some (l[i]'(by omega)):=lG (by omega);have d:W[i]? = some W[i]:=lG hi;rw[h1,d,f i _ _ h1 d]
  ·rw[if_neg hi,List.getElem?_eq_none (by omega)]
 ·rw[decide_eq_false c];rfl
theorem texts_c (A:Option Addr) (V:Nat) (l:List ByteArray) (w:World) (ht:Tab w) (hs:aB w w.heap.size 1 nM (.slice A l.length V) l) (d7:l.length<=300):Calls prog 133 #[.slice A l.length V] w (aK (.bool (lT dI l)) w):=by
 obtain⟨r,hr⟩:∃r,lT dI l=r:=⟨_,rfl⟩;rw[hr];obtain⟨w1,p⟩:∃w1,w1=w.alloc (.cells (dI.map Value.string).toArray 9):=⟨_,rfl⟩;have k1:Hid (Below w.heap.size w w1):=by rw[p];exact aA w _
 have C0:Hid (Calls prog 112 #[] w λe w'=>e=.returned (.slice (some ⟨w.heap.size,0,none⟩) 19 19)/\w'=w1):=by rw[p];exact ad8 w ht
 have s1:Hid (aB w1 w1.heap.size 1 nM (.slice (some ⟨w.heap.size,0,none⟩) 19 19) dI):=by
  have:=uC w;rw[<-p] at this;have e:w1.heap.size=w.heap.size+1:=by rw[p];simp
  rw[e];exact this
 have s3:=hI (hs.below k1.o);have d8:w.heap.size<w1.heap.size:=by rw[p];simp
 have ll:=aM hs;have X:=hI hr;have e0:=@run_makeMap prog;clear hs p ht hr;go_enter func133,ntmps133;go_wp2_with fail;refine C0.o.mono ?_;rintro e w' ⟨rfl,rfl⟩;go_wp2_with fail;go_loopw [11] (λk wr=>∃d:Nat,k=.int .i64 d/\d<=l.length/\Hid ((l.take d).Nodup)/\Hid (∀(i:Nat) x y,i<d->l[i]? = some x->dI[i]? = some y->x=y)/\Hid (wr.ownsMap prog 9 (plainElem prog 3) w'.heap.size d (o6 (l.take d)))/\Hid (Below w'.heap.size w' wr)) (λk _=>l.length - (RowKit.intOf k).toNat);case atStart=>exact⟨0,rfl,by omega,by show(l.take 0).Nodup;simp,λi x y h=>by omega,World.ownsMap_made _ _ _ _,aA w' _⟩
 case round=>
  obtain⟨d,rfl,hk,KD,KP,KO,s⟩:=hrel
  have e1:=s.o.size
  have Y:=btZ k1 s.o
  by_cases c9:d<l.length
  ·obtain⟨b,c3,x,cs,rfl,hb,N,c5,hR,O⟩:=s3.o.at_ c9
   obtain⟨rfl,R⟩:=hR
   have e3:(d:Int)<l.length:=by omega
   have g0:wr.cell? ⟨b,c3+d,none⟩=some (.string x):=(s.o.cell hb).trans (by have:=O 0 _ rfl;simpa using this)
   have E:=hI N
   obtain⟨c,q,J,K⟩:=af1 KO.o R
   have H:=hI (keyOf_string_mk (P:=prog) (k:=9) underlying9 R)
   clear N O c5
   by_cases G:x∈l.take d
   ·have I:Hid (false=r):=by
     rw[<-X.o];unfold lT
     rw[decide_eq_false (zA E.o G),Bool.and_false];rfl
    rw[J G] at q
    clear G J K
    go_wp2_with fail
    go_ret
    exact⟨by rw[<-I.o];rfl,Y.o⟩
   ·have HM:=hI G
    rw[K G] at q
    clear G J K
    by_cases d0:d<19
    ·obtain⟨b2,d5,y,ys,hbo,c6,S,-,c7,L⟩:=s1.o.at_ (i:=d) (by rw[lS];exact d0)
     injection hbo with hbo
     injection hbo with a9 b0
     subst a9;subst b0
     obtain⟨rfl,e5⟩:=c7
     have b6:(d:Int)<19:=by omega
     have g2:wr.cell? ⟨w.heap.size,d,none⟩=some (.string y):=(s.o.cell c6).trans (by have:=L 0 _ rfl;simpa using this)
     have HY:=hI S
     clear S L
     by_cases D:x=y
     ·have e4:=hI D
      subst D
      go_wp2_with (first
       | (at_mapUpdate;refine wpList_mapUpdate_own _ rfl _ _ _ 205 rfl 9 3 tK underlying205 _ w'.heap.size d _ rfl KO.o (by unfold maxLen;omega) _ _ _ rfl rfl H.o _ [] (plainElem_int underlying3 (by decide)) ?_;intro w3 g f)
       | fail)
      have Z:Hid (w3.ownsMap prog 9 (plainElem prog 3) w'.heap.size (d+1) (o6 (l.take (d+1)))):=by rw[lU E.o,rB];exact g
      have R2:=hI (s.o.grown f s.o.size (λj hj=>by cases hj;exact Nat.le_refl _))
      clear g f g0 g2 q
      go_wp2_with fail
      go_roundw
      case rel=>exact⟨d+1,by go_num,by omega,rH KD.o E.o HM.o,λi u v hi F z=>by
       rcases Nat.lt_or_ge i d with h | h
       ·exact KP.o i u v h F z
       ·obtain rfl:i=d:=by omega
        rw[E.o] at F;rw[HY.o] at z
        injection F with F;injection z with z
        exact F.symm.trans z,Z,R2⟩
      case measure=>simp[RowKit.intOf];omega
     ·have I:Hid (false=r):=by rw[<-X.o];exact(afN E.o HY.o D).symm
      have n1:(x.toList == y.toList)=false:=by
       simp only[beq_eq_false_iff_ne]
       intro e;apply D
       rw[Lib.toList_data,Lib.toList_data] at e
       have e2:x.data=y.data:=Array.toList_inj.1 e
       cases x;cases y;simp only at e2;rw[e2]
      clear D
      go_wp2_with fail
      go_ret
      exact⟨by rw[<-I.o];rfl,Y.o⟩
    ·have b6:¬(d:Int)<19:=by omega
     go_wp2_with (first
      | (at_mapUpdate;refine wpList_mapUpdate_own _ rfl _ _ _ 205 rfl 9 3 tK underlying205 _ w'.heap.size d _ rfl KO.o (by unfold maxLen;omega) _ _ _ rfl rfl H.o _ [] (plainElem_int underlying3 (by decide)) ?_;intro w3 g f)
      | fail)
     have Z:Hid (w3.ownsMap prog 9 (plainElem prog 3) w'.heap.size (d+1) (o6 (l.take (d+1)))):=by rw[lU E.o,rB];exact g
     have R2:=hI (s.o.grown f s.o.size (λj hj=>by cases hj;exact Nat.le_refl _))
     clear g f g0 q
     go_wp2_with fail
     go_roundw
     case rel=>exact⟨d+1,by go_num,by omega,rH KD.o E.o HM.o,λi u v hi F z=>by
      rcases Nat.lt_or_ge i d with h | h
      ·exact KP.o i u v h F z
      ·have:=(lE z).1
       rw[lS] at this
       omega,Z,R2⟩
     case measure=>simp[RowKit.intOf];omega
  ·have M:d=l.length:=by omega
   have I:Hid (decide ((19:Int)<=l.length)=r):=by
    have hd:=KD.o
    rw[M,List.take_length] at hd
    rw[<-X.o,acW hd (λi x y hx hy=>KP.o i x y (by have:=(lE hx).1;omega) hx hy),lS]
    show decide _=decide _
    congr 1
    rw[eq_iff_iff];omega
   clear M
   go_wp2_with fail
   go_ret
   exact⟨by rw[<-I.o];rfl,Y.o⟩
end
section
open Go.RowKit Go.Maps Go.WideMaps
theorem uD:∀(n:Nat) (l:List Val) (a b:List Int),l.length<=n->(∀m,m∈a↔m∈b)->jP a l=jP b l
 | _,[],_,_,_,_=>rfl
 | _,[k],a,b,_,h=>by unfold jP;simp
 | 0,_::_::_,_,_,h,_=>by simp at h
 | n+1,k::y::r,a,b,hl,h=>by
  unfold jP
  rw[decide_eq_decide.2 (h k.n),uD n r (k.n::a) (k.n::b) (by simp at hl;omega) (λm=>by simp[h m])]
theorem acR (l:List Val) (a:List Int) (x:Int):jP (x::a) l=jP (a++[x]) l:=uD l.length l _ _ (Nat.le_refl _) (λm=>by simp[or_comm])
theorem weak_c (A:Option Addr) (L:Nat) (l:List Val) (ps:Value) (w:World) (R:aB w w.heap.size 2 hU (.slice A l.length L) l) (b3:l.length<=600):Calls prog 200 #[ps,.slice A l.length L] w (aK (.bool (jP [] l)) w):=by
 obtain⟨r,N⟩:∃r,jP [] l=r:=⟨_,rfl⟩;rw[N];have HR:=hI N;have HS:=hI R;obtain⟨-,c0,Y⟩:=R.len;unfold maxLen at Y;have b4:=@run_makeMap prog;clear R N;go_enter func200,ntmps200;go_wp2_with fail;go_loopw [6] (λk wr=>∃(d j:Nat) (f:List Int),k=.int .i64 d/\Hid (d=2*j)/\d<=l.length+1/\Hid (f.length=j)/\Hid (wr.ownsMap prog 3 (plainElem prog 3) w.heap.size j (lF qL f))/\Hid ((d<=l.length/\jP f (l.drop d)=r)\/(d=l.length+1/\r=false))/\Hid (Below w.heap.size w wr)) (λk _=>l.length+1 - (RowKit.intOf k).toNat);case atStart=>exact⟨0,0,[],rfl,rfl,by omega,rfl,World.ownsMap_made _ _ _ _,.inl ⟨by omega,by rw[List.drop_zero];exact HR.o⟩,aA w _⟩
 case round=>
  obtain⟨d,j,f,rfl,O,hk,HA,Z,P,p⟩:=hrel
  have b5:=p.o.size
  by_cases a1:d<l.length
  ·obtain⟨b,J,x,ys,rfl,hb,hx,-,⟨rfl,c1,K⟩,G⟩:=HS.o.at_ a1
   have S:(d:Int)<l.length:=by omega
   have V:wr.cell? ⟨b,J+d*2,none⟩=some (.int .i64 x.kind):=(p.o.cell hb).trans (G 0 _ rfl)
   have g1:wr.cell? ⟨b,J+d*2+1,none⟩=some (.int .i64 x.n):=(p.o.cell hb).trans (G 1 _ rfl)
   have D:Hid (jP f (x::l.drop (d+1))=r):=by
    rcases P.o with ⟨-,h⟩ | ⟨h,-⟩
    ·obtain⟨h1,H⟩:=lE hx
     rw[<-h,List.drop_eq_getElem_cons h1,H];rfl
    ·omega
   have g:=tC Z.o K
   have M:=hI (rJ K)
   clear hx G P
   have E:Hid ((x.kind == 5)=false\/x.n∈f->false=r):=λh=>by
    rw[<-D.o]
    cases l.drop (d+1) with
    | nil=>unfold jP;rcases h with h | h <;> simp[h]
    | cons y t=>unfold jP;rcases h with h | h <;> simp[h]
   by_cases s:x.kind=5
   case neg=>
    have F:Hid (false=r):=E.o (.inl (bF s))
    have n5:(x.kind == 5)=false:=bF s
    have b6:(x.kind != 5)=true:=bne_iff_ne.2 s
    clear g
    go_wp2_with fail
    go_ret
    exact⟨by rw[<-F.o];rfl,p.o⟩
   rw[s] at V
   by_cases v:x.n∈f
   ·have F:Hid (false=r):=E.o (.inr v)
    rw[if_pos v] at g
    clear v s
    go_wp2_with fail
    go_ret
    exact⟨by rw[<-F.o];rfl,p.o⟩
   ·rw[if_neg v] at g
    have X:Hid ((d+2<=l.length/\jP (f++[x.n]) (l.drop (d+2))=r)\/(d+2=l.length+1/\r=false)):=by
     cases z:l.drop (d+1) with
     | nil=>
      right
      have hl:l.length<=d+1:=List.drop_eq_nil_iff.1 z
      refine⟨by omega,?_⟩
      rw[<-D.o,z];unfold jP;simp
     | cons y t=>
      left
      have hl:¬l.length<=d+1:=λh=>by rw[List.drop_of_length_le h] at z;cases z
      refine⟨by omega,?_⟩
      have ht:l.drop (d+2)=t:=by rw[show d+2=(d+1)+1 from rfl,<-List.drop_drop,z];rfl
      rw[ht,<-D.o,z,<-acR]
      conv=>rhs;unfold jP
      rw[show(x.kind == 5)=true from beq_iff_eq.2 s,decide_eq_false v];rfl
    clear v s
    have I:Hid (j<=9223372036854775806):=by show j<=_;have:=O.o;omega
    go_wp2_with (first
     | (at_mapUpdate;refine wpList_mapUpdate_own _ rfl _ _ _ 155 rfl 3 3 adC underlying155 _ w.heap.size j _ rfl Z.o (by have:=I.o;unfold maxLen;omega) _ _ _ rfl rfl M.o _ [] (plainElem_int underlying3 (by decide)) ?_;intro w3 u q)
     | fail)
    have R1:Hid (w3.ownsMap prog 3 (plainElem prog 3) w.heap.size (j+1) (lF qL (f++[x.n]))):=by rw[rA];exact u
    have R2:=hI (p.o.grown q p.o.size (λj I=>by cases I;exact Nat.le_refl _))
    clear u q V g1 g
    go_wp2_with fail
    go_roundw
    case rel=>exact⟨d+2,j+1,f++[x.n],by go_num,by show d+2=_;have:=O.o;omega,by omega,by show(f++[x.n]).length=_;rw[List.length_append,HA.o];rfl,R1,X,R2⟩
    case measure=>simp[RowKit.intOf];omega
  ·have S:¬(d:Int)<l.length:=by omega
   have F:Hid (((l.length:Int) % 2 == 0)=r):=by
    have I:=O.o
    rcases P.o with ⟨h1,H⟩ | ⟨h1,H⟩
    ·rw[<-H,List.drop_of_length_le (by omega)]
     show(_ == _)=true
     exact beq_iff_eq.2 (by omega)
    ·rw[H];exact bF (by omega)
   have a7:Int.tmod (l.length:Int) 2=(l.length:Int) % 2:=by rw[Int.tmod_eq_emod_of_nonneg (by omega)]
   go_wp2_with fail
   go_ret
   exact⟨by rw[<-F.o];rfl,p.o⟩
end
section
open Go.RowKit
def fO (w:World) (B:Nat) (cs:List Value) (f:CFn) (t:aH):Prop:=∃fc tc,cs=fc++tc/\FnR w B fc f/\bI w B tc t
theorem fO.keep {w w':World} {B B':Nat} {cs:List Value} {f:CFn} {t:aH} (h:fO w B cs f t) (hB:B<=B') (d:∀p:Addr,p.block<B->w'.cell? p=w.cell? p):fO w' B' cs f t:=by obtain⟨g,j,h1,l,q⟩:=h;exact⟨g,j,h1,l.keep hB d,q.keep hB d⟩
theorem fO.below {w w':World} {cs:List Value} {f:CFn} {t:aH} (h:fO w w.heap.size cs f t) (k:Below w.heap.size w w'):fO w' w'.heap.size cs f t:=h.keep k.size (λ_ h=>k.cell h)
theorem fO.cells {w:World} {B:Nat} {cs:List Value} {f:CFn} {t:aH} (h:fO w B cs f t):∃q r d g j l p ne s1 s u v,cs=[.int .i64 f.params,.int .i64 f.regs,.bool f.gen,.slice q f.caught.length r,.slice d f.code.length g,.int .i64 t.fn,.int .i64 t.at_,.int .i64 t.loop,.slice j t.ins.length l,.slice p t.exits.length ne,.int .i64 t.turn.at_,.int .i64 t.turn.steps,s1,s,.int .i64 t.back.at_,.int .i64 t.back.steps,u,v]/\ aB w B 5 j8 (.slice d f.code.length g) f.code/\aB w B 8 xP (.slice j t.ins.length l) t.ins/\aB w B 4 (fM w B) (.slice p t.exits.length ne) t.exits:=by obtain⟨z,A,rfl,⟨q,r,d,g,rfl,D,y,-⟩,⟨i,e,E,cb,rfl,hi,x,⟨s1,s,rfl,-⟩,⟨u,v,rfl,-⟩,-⟩⟩:=h;obtain⟨j,l,rfl,-⟩:=id hi;obtain⟨p,ne,rfl,-⟩:=id x;exact⟨q,r,d,g,j,l,p,ne,s1,s,u,v,rfl,y,hi,x⟩
theorem zV (cs:List Value) (f:CFn) (t:aH) (v at_:Int) (w:World) (h:fO w w.heap.size cs f t) : Calls prog 65 #[.agg ⟨cs⟩,.int .i64 v,.int .i64 at_] w (aK (.bool (eZ t.ins v at_)) w):=by
 obtain⟨r,d⟩:∃r,eZ t.ins v at_=r:=⟨_,rfl⟩;rw[d];unfold eZ at d;obtain⟨G,H,I,J,S,K,L,ne,s1,M,N,O,rfl,-,q,-⟩:=h.cells;have P:=aM q;clear h;by_cases h1:0<=v
 case neg=>
  have g:Hid (false=r):=by rw[<-d,decide_eq_false h1];rfl
  clear d q;go_enter func65,ntmps65;go_wp2_with fail;go_ret;exact⟨by rw[<-g.o];rfl,aA w _⟩
 rw[decide_eq_true h1,Bool.true_and] at d;by_cases y:v<at_
 case neg=>
  have g:Hid (false=r):=by rw[<-d,decide_eq_false y];rfl
  clear d q;go_enter func65,ntmps65;go_wp2_with fail;go_ret;exact⟨by rw[<-g.o];rfl,aA w _⟩
 rw[decide_eq_true y,Bool.true_and] at d;by_cases z:v<t.ins.length
 case neg=>
  have g:Hid (false=r):=by rw[<-d,decide_eq_false z];rfl
  clear d q;go_enter func65,ntmps65;go_wp2_with fail;go_ret;exact⟨by rw[<-g.o];rfl,aA w _⟩
 rw[decide_eq_true z,Bool.true_and] at d;obtain⟨k,rfl⟩:=Int.eq_ofNat_of_zero_le h1;have A:k<t.ins.length:=by omega
 obtain⟨b,l,x,rfl,hb,s,-,p⟩:=tN q A;have R:w.cell? ⟨b,l+k*8,none⟩=some (.int .i64 x.op):=by have:=p 0 _ rfl;simpa using this
 have g:Hid (dZ x.op=r):=by rw[<-d];unfold l6 Hid;rw[Int.toNat_natCast,s];rfl
 clear d q s p;obtain⟨w0,j⟩:∃w0,w0=w.alloc (.cells #[.int .i64 f.params,.int .i64 f.regs,.bool f.gen,.slice G f.caught.length H,.slice I f.code.length J,.int .i64 t.fn,.int .i64 t.at_,.int .i64 t.loop,.slice (some ⟨b,l,none⟩) t.ins.length K,.slice L t.exits.length ne,.int .i64 t.turn.at_,.int .i64 t.turn.steps,s1,M,.int .i64 t.back.at_,.int .i64 t.back.steps,N,O] 74):=⟨_,rfl⟩;have D:Hid (Below w.heap.size w w0):=by rw[j];exact aA w _
 have E:=hI j;clear j;go_enter func65,ntmps65;go_wp2_with fail;rw[<-E.o];refine(zX _ _).mono ?_;rintro e w1 ⟨rfl,u⟩;have F:=btZ D u;clear u;go_wp2_with fail;go_ret;exact⟨by rw[<-g.o];rfl,F.o⟩
end
section
open Go.RowKit
theorem afB {α : Type} {p : α->Bool} {l:List α} {k:Nat} {x : α} (d:l[k]? = some x) (f:p x=false):l.all p=false:=by rw[List.all_eq_false];exact⟨x,lM d,by simp[f]⟩
theorem afA {α : Type} {p : α->Bool} {l:List α} {k:Nat} (f:k=l.length) (h:∀i x,i<k->l[i]? = some x->p x=true):l.all p=true:=by rw[List.all_eq_true];intro x d;obtain⟨i,hi⟩:=List.getElem?_of_mem d;exact h i x (by have:=(lE hi).1;omega) hi
theorem yO {α : Type} {p : α->Bool} {l:List α} {k:Nat} {x : α} (h:∀i x,i<k->l[i]? = some x->p x=true) (f:l[k]? = some x) (g:p x=true):∀i y,i<k+1->l[i]? = some y->p y=true:=λi y hi d=>by
 rcases Nat.lt_or_ge i k with h1 | h1
 ·exact h i y h1 d
 ·have:i=k:=by omega
  subst this
  rw[f] at d
  injection d with d
  exact d ▸ g
theorem cZ {P:Program} {ops:Array Oper} {rest:List Oper} {op:Oper} {a:Act} {w:World} {Q:Exit->Act->World->Prop} (ty:TypeId) (x:Operand) (j:op.op=.load ty x)
  (f:Region.wanted op (yielded ops a.tmps)=true)
  (b o:Nat) (l:a.eval x=.pointer (some ⟨b,o,none⟩)) (cs:List Value) (d:TypeDesc) (p:w.rangeAt b o cs)
  (q:P.underlying ty=some d) (r:d.isRow=true) (hi:(P.info? ty).map (·.size)=some cs.length)
  (h:wpList P ops Q rest (a.put op.dst (.agg cs.toArray)) w):wpList P ops Q (op::rest) a w:=
 wpList_step λK g=>by rw[if_pos f];exact wp_load_mid ty x j b o l cs d p q r hi (g _ _ h)
theorem zG:(prog.info? 74).map (·.size)=some 18:=by kernel_rfl
theorem fO.len {w:World} {B:Nat} {cs:List Value} {f:CFn} {t:aH} (h:fO w B cs f t):(prog.info? 74).map (·.size)=some cs.length:=by obtain⟨d,g,j,l,p,q,r,ne,s1,s,u,v,rfl,-⟩:=h.cells;exact zG
theorem aJ.range {w:World} {g:Nat} {cs:List Value} (h:aJ w g cs):w.rangeAt g 0 cs:=λj v d=>by rw[Nat.zero_add];exact h j v d
theorem aa6 (cs:List Value) (f:CFn) (t:aH) (v:Value) (l:List Int) (at_:Int) (w:World) (h:fO w w.heap.size cs f t) (hl:aB w w.heap.size 1 gB v l) : Calls prog 63 #[.agg ⟨cs⟩,v,.int .i64 at_] w (aK (.bool (fN t.ins l at_)) w):=by
 obtain⟨r,G⟩:∃r,fN t.ins l at_=r:=⟨_,rfl⟩;rw[G];have I:=hI G;clear G;have S:=hI h;have V:=hI hl;obtain⟨A,a4,rfl,l1,l2,-⟩:=hl;unfold maxLen at l2;obtain⟨w0,g⟩:∃w0,w0=w.alloc (.cells ⟨cs⟩ 74):=⟨_,rfl⟩;have z:Hid (Below w.heap.size w w0):=by rw[g];exact aA w _
 have X:Hid (aJ w0 w.heap.size cs):=by rw[g];exact akV _ _ _
 have hz:w.heap.size<w0.heap.size:=by rw[g];simp
 have J:=hI h.len;have Y:=hI g;clear g h;go_enter func63,ntmps63;go_wp2_with fail;rw[<-Y.o];go_loopw [11] (λk wr=>∃d:Nat,k=.int .i64 d/\d<=l.length/\Hid (∀i x,i<d->l[i]? = some x->eZ t.ins x at_=true)/\Hid (Below w0.heap.size w0 wr)) (λk _=>l.length - (RowKit.intOf k).toNat);case atStart=>exact⟨0,rfl,by omega,λi x hi _=>by omega,Below.refl _ _⟩
 case round=>
  obtain⟨d,rfl,hk,N,p⟩:=hrel;by_cases R:d<l.length
  ·obtain⟨b,O,x,ys,rfl,hb,u,P,hR,y⟩:=V.o.at_ R;obtain⟨rfl,a5⟩:=hR;have a3:(d:Int)<l.length:=(by omega);have D:=btZ z p.o;have Z:wr.cell? ⟨b,O+d,none⟩=some (.int .i64 x):=(D.o.cell hb).trans (by simpa using y 0 _ rfl);have K:=hI (X.o.on p.o).range;have L:=hI u;have C:=hI (zV _ f t x at_ wr (S.o.below D.o));obtain⟨q,H⟩:∃q,eZ t.ins x at_=q:=⟨_,rfl⟩;rw[H] at C;have M:=hI H;clear u y P H;cases q;·have E:Hid (false=r):=(by rw[<-I.o,fN,afB L.o M.o];rfl);go_wp2_with (refine wpList_load_mid rfl 74 _ rfl w.heap.size 0 rfl cs _ K.o underlying74 rfl J.o ?_);refine C.o.mono ?_;rintro e w2 ⟨rfl,j⟩;have F:=btZ D j;clear j;go_wp2_with fail;go_ret;exact⟨by rw[<-E.o];rfl,F.o⟩
   ·go_wp2_with (refine wpList_load_mid rfl 74 _ rfl w.heap.size 0 rfl cs _ K.o underlying74 rfl J.o ?_);refine C.o.mono ?_;rintro e w2 ⟨rfl,j⟩;have F:=btZ p j;clear j Z;go_wp2_with fail;go_roundw;case rel=>exact⟨d+1,by go_num,by omega,yO N.o L.o M.o,F⟩
    case measure=>simp[RowKit.intOf];omega
  ·have s:d=l.length:=(by omega);have E:Hid (true=r):=(by rw[<-I.o,fN,afA s N.o];rfl);clear s;go_wp2_with fail;go_ret;exact⟨by rw[<-E.o];rfl,z.o.trans (p.o.mono z.o.size)⟩
end
section
open Go.RowKit
theorem nR (w:World) (A B:List Value) (t u:TypeId):aJ ((w.alloc (.cells ⟨A⟩ t)).alloc (.cells ⟨B⟩ u)) w.heap.size A/\aJ ((w.alloc (.cells ⟨A⟩ t)).alloc (.cells ⟨B⟩ u)) (w.heap.size+1) B/\Below w.heap.size w ((w.alloc (.cells ⟨A⟩ t)).alloc (.cells ⟨B⟩ u)):=by refine⟨(akV w A t).old _,?_,bV w _ _⟩;have:=akV (w.alloc (.cells ⟨A⟩ t)) B u;rwa [World.size_alloc] at this
theorem afJ {ins:List aT} {v at_:Int} (h:eZ ins v at_=true):∃k:Nat,v=k/\(k:Int)<at_/\k<ins.length/\dZ (l6 ins v)=true:=by unfold eZ at h;simp only[Bool.and_eq_true,decide_eq_true_eq] at h;obtain⟨⟨⟨h1,d⟩,g⟩,f⟩:=h;obtain⟨k,rfl⟩:=Int.eq_ofNat_of_zero_le h1;exact⟨k,rfl,d,by omega,f⟩
theorem fO.at8 {w:World} {B:Nat} {cs:List Value} {f:CFn} {t:aH} (h:fO w B cs f t):∃d g,cs[8]? = some (.slice d t.ins.length g)/\aB w B 8 xP (.slice d t.ins.length g) t.ins:=by obtain⟨j,l,p,q,d,g,r,ne,s1,s,u,v,rfl,-,h,-⟩:=h.cells;exact⟨d,g,rfl,h⟩
theorem make_c (cs ms:List Value) (f:CFn) (t:aH) (m:dX) (at_:Int) (w:World) (h:fO w w.heap.size cs f t) (hm:qW w w.heap.size ms m) : Calls prog 66 #[.agg ⟨cs⟩,.agg ⟨ms⟩,.int .i64 at_] w (aK (.bool (mG t.ins m at_)) w):=by
 obtain⟨r,d⟩:∃r,mG t.ins m at_=r:=⟨_,rfl⟩;rw[d];unfold mG at d;have HC:=hI h;have J:=hI h.len;obtain⟨Ai,ni,p8,qs⟩:=h.at8;obtain⟨v,rfl,P,wc,wk,wn⟩:=hm;obtain⟨V,R,rfl,e6,a9,-⟩:=id P;unfold maxLen at a9;have HV:=hI P;have HQ:=hI qs;obtain⟨w0,s⟩:∃w0,w0=(w.alloc (.cells ⟨cs⟩ 74)).alloc (.cells #[.int .i64 m.cell,.int .i64 m.kind,.int .i64 m.num,.slice V m.vals.length R] 127):=⟨_,rfl⟩;have TB:=nR w cs [.int .i64 m.cell,.int .i64 m.kind,.int .i64 m.num,.slice V m.vals.length R] 74 127;rw[<-s] at TB;obtain⟨t1,t2,t3⟩:=TB;have L:=hI t1;have A:=hI t2;have k0:=hI t3;have HW:=hI s;have R0:=hI L.o.range;have CV:=hI (zV _ f t m.cell at_ w0 (HC.o.below k0.o));obtain⟨q,S⟩:∃q,eZ t.ins m.cell at_=q:=⟨_,rfl⟩;rw[S] at CV d;have a6:=hI S;clear h P s t1 t2 t3 qs S;go_enter func66,ntmps66;go_wp2_with (first | (refine wpList_load_mid rfl 74 _ rfl w.heap.size 0 rfl cs _ (by rw[<-HW.o];exact R0.o) underlying74 rfl J.o ?_) | fail);rw[<-HW.o];refine CV.o.mono ?_;rintro e w1 ⟨rfl,l⟩;have K:=btZ k0 l;cases q
 case false=>
  have j:Hid (false=r):=by rw[<-d];rfl
  clear d l;go_wp2_with fail;go_ret;exact⟨by rw[<-j.o];rfl,K.o⟩
 rw[Bool.true_and] at d;obtain⟨k,hk,-,c3,-⟩:=afJ a6.o;obtain⟨b,c5,x,rfl,hb,hx,-,I⟩:=tN HQ.o c3;have g0:w1.cell? ⟨b,c5+k*8,none⟩=some (.int .i64 x.op):=(K.o.cell hb).trans (by have:=I 0 _ rfl;simpa using this);have d8:=(L.o.on l) 8 _ p8;have e0:=(A.o.on l) 0 _ rfl;have M:=(A.o.on l) 1 _ rfl;have e2:=(A.o.on l) 2 _ rfl;have e3:=(A.o.on l) 3 _ rfl;have ll:=aM HQ.o;have D:l6 t.ins m.cell=x.op:=by unfold l6;rw[hk,Int.toNat_natCast,hx];rfl
 rw[D] at d;have d6:=hI M;have d7:=hI e2;have e4:=hI e3;rw[hk] at e0;have E:=hI (L.o.on l).range;clear l D I hx;by_cases Y:x.op=18
 case neg=>
  have j:Hid (false=r):=by rw[<-d,bF Y];rfl
  clear d;go_wp2_with fail;go_ret;exact⟨by rw[<-j.o];rfl,K.o⟩
 rw[Y,show((18:Int) == 18)=true from rfl,Bool.true_and] at d;rw[Y] at g0;obtain⟨bad,g⟩:∃bad,(decide (m.kind<1) || decide (3<m.kind) || decide (m.num<0) || (decide (0<m.num) && m.kind != 1))=bad:=⟨_,rfl⟩;rw[g] at d;cases bad
 case true=>
  have j:Hid (false=r):=by rw[<-d];rfl
  clear d;by_cases b1:m.kind<1;·clear g;go_wp2_with fail;go_ret;exact⟨by rw[<-j.o];rfl,K.o⟩
  by_cases u:3<m.kind;·clear g;go_wp2_with fail;go_ret;exact⟨by rw[<-j.o];rfl,K.o⟩
  by_cases X:m.num<0;·clear g;go_wp2_with fail;go_ret;exact⟨by rw[<-j.o];rfl,K.o⟩
  have p:0<m.num/\(m.kind != 1)=true:=by simpa [b1,u,X] using g
  obtain⟨p,b5⟩:=p;clear g;go_wp2_with fail;go_ret;exact⟨by rw[<-j.o];rfl,K.o⟩
 simp only[Bool.or_eq_false_iff,decide_eq_false_iff_not] at g;obtain⟨⟨⟨b1,u⟩,X⟩,p⟩:=g;rw[Bool.not_false,Bool.true_and] at d;have F:(0<m.num/\m.kind=1)\/¬ 0<m.num:=by
  by_cases h:0<m.num;·left;refine⟨h,?_⟩;simpa [h] using p
  ·exact .inr h
 clear p;have G:decide (m.kind<1)=false:=decide_eq_false b1;have H:decide (3<m.kind)=false:=decide_eq_false u;have e5:decide (m.num<0)=false:=decide_eq_false X;have N:=hI (aa6 _ f t (.slice V m.vals.length R) m.vals at_ w1 (HC.o.below K.o) (HV.o.below K.o));by_cases z:m.vals.length<=100
 case neg=>
  have a7:¬(m.vals.length:Int)<=100:=by omega
  have j:Hid (false=r):=by rw[<-d,decide_eq_false z];rfl
  clear d;rcases F with ⟨b5,Z⟩ | b5;·rw[Z] at M;clear b1 u G H;go_wp2_with fail;go_ret;exact⟨by rw[<-j.o];rfl,K.o⟩
  ·go_wp2_with fail;go_ret;exact⟨by rw[<-j.o];rfl,K.o⟩
 have a7:(m.vals.length:Int)<=100:=by omega
 rw[decide_eq_true z,Bool.true_and] at d;rw[d] at N;clear d;rcases F with ⟨b5,Z⟩ | b5;·rw[Z] at M;clear b1 u G H;go_wp2_with (refine cZ 74 _ rfl rfl w.heap.size 0 rfl cs _ E.o underlying74 rfl J.o ?_);refine N.o.mono ?_;rintro e w2 ⟨rfl,y⟩;have O:=btZ K y;clear y;go_wp2_with fail;go_ret;exact⟨rfl,O.o⟩
 ·go_wp2_with (refine cZ 74 _ rfl rfl w.heap.size 0 rfl cs _ E.o underlying74 rfl J.o ?_);refine N.o.mono ?_;rintro e w2 ⟨rfl,y⟩;have O:=btZ K y;clear y;go_wp2_with fail;go_ret;exact⟨rfl,O.o⟩
end
section
open Go.RowKit
theorem fO.at1 {w:World} {B:Nat} {cs:List Value} {f:CFn} {t:aH} (h:fO w B cs f t):cs[1]? = some (.int .i64 f.regs)/\∃d g,cs[4]? = some (.slice d f.code.length g)/\f.code.length<=9223372036854775807:=by obtain⟨j,l,d,g,p,q,r,ne,s1,s,u,v,rfl,h,-⟩:=h.cells;exact⟨rfl,d,g,rfl,aM h⟩
theorem oI {α : Type} {l:List α} {k:Nat} {x : α} (h:l[k]? = some x):l.drop k=x::l.drop (k+1):=by obtain⟨h1,d⟩:=lE h;rw[<-d];exact List.drop_eq_getElem_cons h1
def gI (f:CFn):FnM:=⟨f.regs,f.code.length⟩
theorem u0 (cs xs:List Value) (f:CFn) (t:aH) (x:bX) (at_:Int) (w:World) (h:fO w w.heap.size cs f t) (hx:fM w w.heap.size xs x) : Calls prog 33 #[.agg ⟨cs⟩,.agg ⟨xs⟩,.int .i64 at_] w (aK (.bool (bN (gI f) t.ins x at_)) w):=by
 obtain⟨r,g⟩:∃r,bN (gI f) t.ins x at_=r:=⟨_,rfl⟩;rw[g];unfold bN gI at g;dsimp only at g;have HC:=hI h;have HI:=hI h.len;obtain⟨Ai,ni,p8,qs⟩:=h.at8;obtain⟨p1,A5,n5,p4,l5⟩:=h.at1;obtain⟨s,m,rfl,hs,hm,wa,ws⟩:=hx;have HS:=hI hs;have HM:=hI hm;obtain⟨S,cS,rfl,h7,e2,-⟩:=hs;obtain⟨M,cM,rfl,h8,e5,-⟩:=hm;unfold maxLen at e2 e5;obtain⟨w0,a0⟩:∃w0,w0=(w.alloc (.cells ⟨cs⟩ 74)).alloc (.cells #[.int .i64 x.at_,.int .i64 x.steps,.slice S x.sets.length cS,.slice M x.makes.length cM] 32):=⟨_,rfl⟩;have TB:=nR w cs [.int .i64 x.at_,.int .i64 x.steps,.slice S x.sets.length cS,.slice M x.makes.length cM] 74 32;rw[<-a0] at TB;obtain⟨t1,t2,t3⟩:=TB;have O:=hI t1;have H2:=hI t2;have z:=hI t3;have R:=hI a0;clear h a0 t1 t2 t3 qs p1 p8;by_cases b1:x.at_<0
 ·have A:Hid (false=r):=by rw[<-g];simp[b1,Hid]
  clear g;go_enter func33,ntmps33;go_wp2_with fail;go_ret;exact⟨by rw[<-A.o];rfl,by rw[<-R.o];exact z.o⟩
 by_cases b2:(f.code.length:Int)<=x.at_
 ·have A:Hid (false=r):=by rw[<-g];simp[b2,Hid]
  clear g;go_enter func33,ntmps33;go_wp2_with fail;go_ret;exact⟨by rw[<-A.o];rfl,by rw[<-R.o];exact z.o⟩
 by_cases b3:x.steps<0
 ·have A:Hid (false=r):=by rw[<-g];simp[b3,Hid]
  clear g;go_enter func33,ntmps33;go_wp2_with fail;go_ret;exact⟨by rw[<-A.o];rfl,by rw[<-R.o];exact z.o⟩
 by_cases b4:200<x.steps
 ·have A:Hid (false=r):=by rw[<-g];simp[b4,Hid]
  clear g;go_enter func33,ntmps33;go_wp2_with fail;go_ret;exact⟨by rw[<-A.o];rfl,by rw[<-R.o];exact z.o⟩
 rw[decide_eq_false b1,decide_eq_false b2,decide_eq_false b3,decide_eq_false b4,Bool.or_false,Bool.or_false,Bool.or_false,Bool.not_false,Bool.true_and] at g;have A:=hI g;have P:=hI p4;clear g;go_enter func33,ntmps33;go_wp2_with fail;rw[<-R.o];clear p4 b1 b2 b3 b4;go_loopw [37,7] (λk la wr=>∃(E:Nat) (d:Int),k=.int .i64 E/\la=.int .i64 d/\E<=x.sets.length/\Hid (j5 f.regs t.ins at_ d (x.sets.drop E)=j5 f.regs t.ins at_ (-1) x.sets)/\Hid (Below w0.heap.size w0 wr)) (λk _ _=>x.sets.length - (RowKit.intOf k).toNat);case atStart=>exact⟨0,-1,rfl,rfl,by omega,rfl,Below.refl _ _⟩
 case round=>
  obtain⟨E,d,rfl,rfl,hk,N,j⟩:=hrel;by_cases L:E<x.sets.length
  ·obtain⟨b,F,y,ys,rfl,hb,hy,a2,hR,l⟩:=HS.o.at_ L;obtain⟨rfl,h9,i0⟩:=hR;have d2:(E:Int)<x.sets.length:=(by omega);have p:=btZ z j.o;have hz:w.heap.size<wr.heap.size:=(by have:=eL (O.o 4 _ P.o);exact Nat.lt_of_lt_of_le this j.o.size);have d3:b<wr.heap.size:=(by omega);have g0:wr.cell? ⟨b,F+E*2,none⟩=some (.int .i64 y.reg):=(p.o.cell hb).trans (l 0 _ rfl);have g1:wr.cell? ⟨b,F+E*2+1,none⟩=some (.int .i64 y.val):=(p.o.cell hb).trans (l 1 _ rfl);have d1:wr.cell? ⟨w.heap.size,1,none⟩=some (.int .i64 f.regs):=aC j.o (O.o 1 _ HC.o.at1.1);have HB:=hI (O.o.on j.o);have G:Hid (j5 f.regs t.ins at_ (-1) x.sets=(decide (d<y.reg) && decide (y.reg<f.regs) && eZ t.ins y.val at_ && j5 f.regs t.ins at_ y.reg (x.sets.drop (E+1)))):=(by rw[<-N.o,oI hy];rfl);clear hy l a2;by_cases c1:d<y.reg;case neg=>have D:Hid (false=r):=(by rw[<-A.o,G.o,decide_eq_false c1];rfl);have J:y.reg<=d:=(by omega);go_wp2_with fail;go_ret;exact⟨by rw[<-D.o];rfl,(by repeat (first | exact p.o | refine Below.drew ?_ | refine Below.setCell ?_ (by first | omega | (simp;omega)) _ | refine Below.alloc ?_ (by first | omega | (simp;omega)) _))⟩
   by_cases c2:y.reg<f.regs;case neg=>have D:Hid (false=r):=(by rw[<-A.o,G.o,decide_eq_false c2,Bool.and_false];rfl);have J:¬y.reg<=d:=(by omega);have d4:f.regs<=y.reg:=(by omega);go_wp2_with fail;go_ret;exact⟨by rw[<-D.o];rfl,(by repeat (first | exact p.o | refine Below.drew ?_ | refine Below.setCell ?_ (by first | omega | (simp;omega)) _ | refine Below.alloc ?_ (by first | omega | (simp;omega)) _))⟩
   have X:Hid (∀W,Below wr.heap.size wr W->Calls prog 65 #[.agg ⟨cs⟩,.int .i64 y.val,.int .i64 at_] W (λe H=>e=.returned (.bool (eZ t.ins y.val at_))/\Below wr.heap.size wr H/\Below W.heap.size W H)):=λW I=> (zV cs f t y.val at_ W (HC.o.below (p.o.trans (I.mono p.o.size)))).mono λe H ⟨h1,h2⟩=>⟨h1,I.trans (h2.mono I.size),h2⟩;obtain⟨q,hq⟩:∃q,eZ t.ins y.val at_=q:=⟨_,rfl⟩;rw[hq] at X G;have J:¬y.reg<=d:=(by omega);have d4:¬f.regs<=y.reg:=(by omega);clear hq;go_wp2_with (refine cZ 74 _ rfl rfl w.heap.size 0 rfl cs _ ((HB.o.on (by repeat (first | exact Below.refl _ _ | refine Below.drew ?_ | refine Below.setCell ?_ (by simp) _ | refine Below.alloc ?_ (by simp) _))).range) underlying74 rfl HI.o ?_);refine(X.o _ (by repeat (first | exact Below.refl _ _ | refine Below.drew ?_ | refine Below.setCell ?_ (by simp) _ | refine Below.alloc ?_ (by simp) _))).mono ?_;rintro e H ⟨rfl,k2,k3⟩;have Y:=btZ j k2;have g2:=aC k3 (a:=⟨wr.heap.size,0,none⟩) (v:=.int .i64 y.reg) (cA _ _ _ _);clear k2 k3 g0 g1 d1;cases q;case false=>have D:Hid (false=r):=(by rw[<-A.o,G.o,Bool.and_false];rfl);go_wp2_with fail;go_ret;exact⟨by rw[<-D.o];rfl,z.o.trans (Y.o.mono z.o.size)⟩
   go_wp2_with fail;go_roundw;case rel=>exact⟨E+1,y.reg,by go_num,rfl,by omega,by rw[G.o,decide_eq_true c1,decide_eq_true c2];rfl,Y.o⟩
   case measure=>simp[RowKit.intOf];omega
  ·have K:x.sets.drop E=[]:=List.drop_eq_nil_of_le (by omega);have Z:Hid (fI t.ins at_ (-1) x.makes=r):=(by have e:=N.o;rw[K] at e;rw[<-A.o,<-e];rfl);have e3:=aC j.o (H2.o 3 _ rfl);clear N K;go_wp2_with fail;clear e3;go_loopw [67,7] (λk la wx=>∃(u:Nat) (d:Int),k=.int .i64 u/\la=.int .i64 d/\u<=x.makes.length/\Hid (fI t.ins at_ d (x.makes.drop u)=fI t.ins at_ (-1) x.makes)/\Hid (Below w0.heap.size w0 wx)) (λk _ _=>x.makes.length - (RowKit.intOf k).toNat);case atStart=>exact⟨0,-1,rfl,rfl,by omega,rfl,j.o⟩
   case round=>
    rename_i wq;clear j L;obtain⟨u,d,rfl,rfl,hk,N,j⟩:=hrel;by_cases L:u<x.makes.length
    ·obtain⟨b,F,y,ys,rfl,hb,hy,a2,hR,l⟩:=HM.o.at_ L;have d6:=hI hR;obtain⟨v,rfl,hv,-⟩:=hR;obtain⟨V,cv,rfl,-⟩:=hv;have d2:(u:Int)<x.makes.length:=(by omega);have p:=btZ z j.o;have hz:w.heap.size<wr.heap.size:=(by have:=eL (O.o 4 _ P.o);exact Nat.lt_of_lt_of_le this j.o.size);have d3:b<wr.heap.size:=(by omega);have g0:wr.cell? ⟨b,F+u*4,none⟩=some (.int .i64 y.cell):=(p.o.cell hb).trans (l 0 _ rfl);have g1:wr.cell? ⟨b,F+u*4+1,none⟩=some (.int .i64 y.kind):=(p.o.cell hb).trans (l 1 _ rfl);have g2:wr.cell? ⟨b,F+u*4+2,none⟩=some (.int .i64 y.num):=(p.o.cell hb).trans (l 2 _ rfl);have g3:wr.cell? ⟨b,F+u*4+3,none⟩=some (.slice V y.vals.length cv):=(p.o.cell hb).trans (l 3 _ rfl);have HB:=hI (O.o.on j.o);have G:Hid (fI t.ins at_ (-1) x.makes=(decide (d<y.cell) && mG t.ins y at_ && fI t.ins at_ y.cell (x.makes.drop (u+1)))):=(by rw[<-N.o,oI hy];rfl);clear hy l a2;by_cases c1:d<y.cell;case neg=>have D:Hid (false=r):=(by rw[<-Z.o,G.o,decide_eq_false c1];rfl);have J:y.cell<=d:=(by omega);go_wp2_with fail;go_ret;exact⟨by rw[<-D.o];rfl,(by repeat (first | exact p.o | refine Below.drew ?_ | refine Below.setCell ?_ (by first | omega | (simp;omega)) _ | refine Below.alloc ?_ (by first | omega | (simp;omega)) _))⟩
     have X:Hid (∀W,Below wr.heap.size wr W->Calls prog 66 #[.agg ⟨cs⟩,.agg #[.int .i64 y.cell,.int .i64 y.kind,.int .i64 y.num,.slice V y.vals.length cv],.int .i64 at_] W (λe H=>e=.returned (.bool (mG t.ins y at_))/\Below wr.heap.size wr H/\Below W.heap.size W H)):=λW I=> have kz:=btZ p I;(make_c cs _ f t y at_ W (HC.o.below kz) (d6.o.keep kz.size (λ_ h=>kz.cell h))).mono λe H ⟨h1,h2⟩=>⟨h1,I.trans (h2.mono I.size),h2⟩;obtain⟨q,hq⟩:∃q,mG t.ins y at_=q:=⟨_,rfl⟩;rw[hq] at X G;have J:¬y.cell<=d:=(by omega);clear hq;go_wp2_with (refine cZ 74 _ rfl rfl w.heap.size 0 rfl cs _ ((HB.o.on (by repeat (first | exact Below.refl _ _ | refine Below.drew ?_ | refine Below.setCell ?_ (by simp) _ | refine Below.alloc ?_ (by simp) _))).range) underlying74 rfl HI.o ?_);refine(X.o _ (by repeat (first | exact Below.refl _ _ | refine Below.drew ?_ | refine Below.setCell ?_ (by simp) _ | refine Below.alloc ?_ (by simp) _))).mono ?_;rintro e H ⟨rfl,k2,k3⟩;have Y:=btZ j k2;have g4:=aC k3 (a:=⟨wr.heap.size,0,none⟩) (v:=.int .i64 y.cell) (cA _ _ _ _);clear k2 k3 g0 g1 g2 g3;cases q;case false=>have D:Hid (false=r):=(by rw[<-Z.o,G.o,Bool.and_false];rfl);go_wp2_with fail;go_ret;exact⟨by rw[<-D.o];rfl,z.o.trans (Y.o.mono z.o.size)⟩
     go_wp2_with fail;go_roundw;case rel=>exact⟨u+1,y.cell,by go_num,rfl,by omega,by rw[G.o,decide_eq_true c1];rfl,Y.o⟩
     case measure=>simp[RowKit.intOf];omega
    ·have K:x.makes.drop u=[]:=List.drop_eq_nil_of_le (by omega);have D:Hid (true=r):=(by have e:=N.o;rw[K] at e;rw[<-Z.o,<-e];rfl);go_wp2_with fail;go_ret;exact⟨by rw[<-D.o];rfl,z.o.trans (j.o.mono z.o.size)⟩
end
section
open Go.RowKit
theorem dE {P:Program} {ops:Array Oper} {rest:List Oper} {o:Oper} {a:Act} {w:World} {Q:Act->Prop} (ty:TypeId) (x:Operand) (l:o.op=.load ty x)
  (g:Region.wanted o (yielded ops a.tmps)=true)
  (b f:Nat) (p:a.eval x=.pointer (some ⟨b,f,none⟩)) (cs:List Value) (d:TypeDesc) (q:∀E:Up w,E.to.rangeAt b f cs)
  (r:P.underlying ty=some d) (s:d.isRow=true) (hi:(P.info? ty).map (·.size)=some cs.length)
  (h:wpQuiet P ops (λw'=>∃E:Up w,w'=E.to) Q rest (a.put o.dst (.agg cs.toArray))):wpQuiet P ops (λw'=>∃E:Up w,w'=E.to) Q (o::rest) a:=
 wpQuiet_step λK j=>by
  rw[if_pos g]
  refine⟨.agg cs.toArray,λw' ⟨E,e⟩=>?_,j _ h⟩
  subst e
  unfold Oper.quietAt execOp
  simp only[l,p,Instr.loadAt,Instr.sureAddr,Sem.run_bind,Sem.run_pure,Result.andThen_ok,run_loadVar_mid E.to b f ty cs d (q E) r s hi]
  exact⟨rfl,rfl⟩
theorem bare_c (xs:List Value) (x:bX) (w:World) (B:Nat) (w':World) (E:fM w' B xs x):Calls prog 32 #[.agg ⟨xs⟩] w (aK (.bool (kV x)) w):=by
 obtain⟨r,d⟩:∃r,kV x=r:=⟨_,rfl⟩;rw[d];unfold kV at d;obtain⟨s,m,rfl,A,D,L,N⟩:=E;obtain⟨S,O,rfl,J,q,-⟩:=A;obtain⟨M,P,rfl,K,u,-⟩:=D;unfold maxLen at q u;by_cases b1:x.at_=0
 case neg=>
  have f:Hid (false=r):=by rw[<-d,bF b1];rfl
  have F:(x.at_ == 0)=false:=bF b1;clear d;go_enter func32,ntmps32;go_wp2_with fail;go_ret;exact⟨by rw[<-f.o];rfl,aA w _⟩
 rw[b1,show((0:Int) == 0)=true from rfl,Bool.true_and] at d;rw[b1];by_cases g:x.steps=0
 case neg=>
  have f:Hid (false=r):=by rw[<-d,bF g];rfl
  have G:(x.steps == 0)=false:=bF g;clear d b1;go_enter func32,ntmps32;go_wp2_with fail;go_ret;exact⟨by rw[<-f.o];rfl,aA w _⟩
 rw[g,show((0:Int) == 0)=true from rfl,Bool.true_and] at d;rw[g];by_cases p:x.sets.length=0
 case neg=>
  have j:x.sets.isEmpty=false:=by cases h:x.sets <;> simp_all
  have f:Hid (false=r):=by rw[<-d,j];rfl
  have H:((x.sets.length:Int) == 0)=false:=by rw[beq_eq_false_iff_ne];omega
  have y:¬(x.sets.length:Int)=0:=by omega
  clear d b1 g;go_enter func32,ntmps32;go_wp2_with fail;go_ret;exact⟨by rw[<-f.o];rfl,aA w _⟩
 have j:x.sets.isEmpty=true:=by cases h:x.sets <;> simp_all
 rw[j,Bool.true_and] at d;rw[p];by_cases v:x.makes.length=0
 case neg=>
  have l:x.makes.isEmpty=false:=by cases h:x.makes <;> simp_all
  have f:Hid (false=r):=by rw[<-d,l];exact rfl
  have I:((x.makes.length:Int) == 0)=false:=by rw[beq_eq_false_iff_ne];omega
  have z:¬(x.makes.length:Int)=0:=by omega
  clear d b1 g p;go_enter func32,ntmps32;go_wp2_with fail;go_ret;refine⟨?_,aA w _⟩;rw[<-f.o];show Ending.returned (.bool _)=_;congr 2
 have l:x.makes.isEmpty=true:=by cases h:x.makes <;> simp_all
 have f:Hid (true=r):=by rw[<-d,l];exact rfl
 rw[v];clear d b1 g p v;go_enter func32,ntmps32;go_wp2_with fail;go_ret;exact⟨by rw[<-f.o];rfl,aA w _⟩
end
end Go.Proofs.YtijihlcdhppfgaaGreatDoor
