/- Part of the walk of the given code: contracts of the functions that irun.Run reaches, and plain laws on what it reckons. -/
import Derived.Test.YtjaphgpkkfdaaaaGreatDoorZI
import Derived.Test.YtjaphgpkkfdaaaaGreatDoorZJ
import Derived.Test.YtjaphgpkkfdaaaaGreatDoorZG
import Derived.Test.YtjaphgpkkfdaaaaGreatDoorZH
import Derived.Test.YtjaphgpkkfdaaaaGreatDoorZA
import Derived.Deep.MidRow
set_option maxHeartbeats 16000000
set_option maxRecDepth 100000
set_option linter.all false
namespace Go.Proofs.YtjaphgpkkfdaaaaGreatDoor
section
open Go.RowKit Go.Maps Go.WideMaps
theorem ab7 (S:aR) (sb:Nat) (w:World) (h:iJ w sb S):Calls Tryz.prog 78 #[.pointer (some ⟨sb,0,none⟩)] w (aM (.bool (nS S)) w):=by
 obtain⟨r,hr⟩:∃r,nS S=r:=⟨_,rfl⟩
 rw[hr]
 unfold nS at hr
 obtain⟨A0,n0,A1,n1,A2,n2,A3,n3,A4,n4,A5,n5,hh,hb,s0,s1,s2,s3,s4,s5⟩:=h.parts
 have lc:=aP s0
 have lt:=aP s2
 have le:=aP s4
 have lsa:=aP s5
 have HH:=hI hh
 have g0:w.cell? ⟨sb,0,none⟩=some (.slice A0 S.cells.length n0):=hh 0 _ rfl
 have g2:w.cell? ⟨sb,2,none⟩=some (.slice A2 S.texts.length n2):=hh 2 _ rfl
 have g4:w.cell? ⟨sb,4,none⟩=some (.slice A4 S.ends.length n4):=hh 4 _ rfl
 have g5:w.cell? ⟨sb,5,none⟩=some (.slice A5 S.said.length n5):=hh 5 _ rfl
 have C1:=hI (kC lV (fun t=>decide (200<t.size)) A2 n2 S.texts 116 yM #[] w s2 (fun w1 k x cs hx hR=>by
  obtain⟨rfl,hs⟩:=hR
  exact abO x (by unfold maxLen at hs;omega) w1))
 have C2:Hid (∀w1,Below w.heap.size w w1→Calls Tryz.prog 83 #[.slice A0 S.cells.length n0,.func (.func 117) #[] #[]] w1 (aM (.bool (S.cells.any (fun c=>decide (100<c.vals.length) && (c.kind != 7 || decide (600<c.vals.length))))) w1)):=fun w1 k1=>
  iH (jY w w.heap.size) (fun c=>decide (100<c.vals.length) && (c.kind != 7 || decide (600<c.vals.length))) A0 n0 S.cells 117 yL #[] w1 (s0.below k1) (fun w2 k x cs hx hR=>abN cs x _ _ w2 hR)
 clear s0 s1 s2 s3 s4 s5 hh h
 by_cases h1:300<S.cells.length
 ·have HR:Hid (true=r):=by rw[←hr];simp[h1,Hid]
  have i1:(300:Int)<S.cells.length:=by omega
  clear hr h1
  go_enter Tryz.func78,Tryz.ntmps78
  go_wp2_with fail
  go_ret
  exact⟨by rw[←HR.out];rfl,Below.refl _ _⟩
 have i1:decide ((300:Int)<S.cells.length)=false:=by simp;omega
 by_cases h2:300<S.texts.length
 ·have HR:Hid (true=r):=by rw[←hr];simp[h2,Hid]
  have i2:(300:Int)<S.texts.length:=by omega
  clear hr h1 h2
  go_enter Tryz.func78,Tryz.ntmps78
  go_wp2_with fail
  go_ret
  exact⟨by rw[←HR.out];rfl,Below.refl _ _⟩
 have i2:decide ((300:Int)<S.texts.length)=false:=by simp;omega
 by_cases h3:200<S.said.length
 ·have HR:Hid (true=r):=by rw[←hr];simp[h3,Hid]
  have i3:(200:Int)<S.said.length:=by omega
  clear hr h1 h2 h3
  go_enter Tryz.func78,Tryz.ntmps78
  go_wp2_with fail
  go_ret
  exact⟨by rw[←HR.out];rfl,Below.refl _ _⟩
 have i3:decide ((200:Int)<S.said.length)=false:=by simp;omega
 by_cases h4:100<S.ends.length
 ·have HR:Hid (true=r):=by rw[←hr];simp[h4,Hid]
  have i4:(100:Int)<S.ends.length:=by omega
  clear hr h1 h2 h3 h4
  go_enter Tryz.func78,Tryz.ntmps78
  go_wp2_with fail
  go_ret
  exact⟨by rw[←HR.out];rfl,Below.refl _ _⟩
 have i4:decide ((100:Int)<S.ends.length)=false:=by simp;omega
 have hr2:(S.texts.any (fun t=>decide (200<t.size)) || S.cells.any (fun c=>decide (100<c.vals.length) && (c.kind != 7 || decide (600<c.vals.length))))=r:=by
  rw[←hr];simp only[h1,h2,h3,h4,decide_false,Bool.false_or]
 clear hr h1 h2 h3 h4
 obtain⟨q1,hq1⟩:∃q,S.texts.any (fun t=>decide (200<t.size))=q:=⟨_,rfl⟩
 rw[hq1] at C1 hr2
 clear hq1
 have HR:=hI hr2
 have SELF:=iI w
 clear hr2
 go_enter Tryz.func78,Tryz.ntmps78
 go_wp2_with fail
 refine C1.out.mono ?_
 rintro e w1 ⟨rfl,k1⟩
 have K:=btZ SELF k1
 cases q1
 case true=>
  clear k1
  go_wp2_with fail
  go_ret
  exact⟨by rw[←HR.out];rfl,K.out⟩
 have e0:=aC k1 g0
 clear k1
 go_wp2_with fail
 refine(C2.out w1 K.out).mono ?_
 rintro e w2 ⟨rfl,k2⟩
 have K2:=btZ K k2
 clear k2 e0
 go_wp2_with fail
 go_ret
 exact⟨by rw[←HR.out];rfl,K2.out⟩
theorem aaO {W:World} {mb:Nat} {n:Nat} {L:List ByteArray} (h:W.ownsMap Tryz.prog 9 (plainElem Tryz.prog 3) mb n (mD L)) {x:ByteArray} (hx:x.size≤maxLen) :
  ∃c:Int,(Instr.lookup 188 (.map (some mb)) (.string x) false).run Tryz.prog W=.ok (.int .i64 c) W∧(x∈L→c=1)∧(x∉L→c=0):=by
 obtain⟨c,hrun,hat,-⟩:=h.lookup_int pI Tryz.underlying188 Tryz.underlying3 (qT W) (keyOf_string_mk Tryz.underlying9 hx)
 refine⟨c,hrun,fun hm=>?_,fun hm=>?_⟩
 ·rw[tJ hm] at hat
  exact(j7 hat).symm
 ·rw[rC hm] at hat
  exact(j7 hat).symm
theorem aaC {W l:List ByteArray} {k:Nat} {x y:ByteArray} (hx:l[k]? = some x) (hy:W[k]? = some y) (hne:x≠y):jL W l=false:=by
 unfold jL
 by_cases h:W.length≤l.length
 ·have:l.take W.length≠W:=fun e=>hne (by
   have h1:(l.take W.length)[k]? = some x:=by rw[List.getElem?_take,if_pos (lE hy).1];exact hx
   rw[e,hy] at h1
   injection h1 with h1
   exact h1.symm)
  rw[decide_eq_false this];simp
 ·rw[decide_eq_false h];rfl
theorem wY {W l:List ByteArray} (h:l.Nodup) (hp:∀(i:Nat) x y,l[i]? = some x→W[i]? = some y→x=y):jL W l=decide (W.length≤l.length):=by
 unfold jL
 rw[decide_eq_true h,Bool.and_true]
 by_cases c:W.length≤l.length
 ·rw[decide_eq_true c,Bool.true_and,decide_eq_true]
  apply List.ext_getElem?
  intro i
  rw[List.getElem?_take]
  by_cases hi:i<W.length
  ·rw[if_pos hi]
   have h1:l[i]? = some (l[i]'(by omega)):=lG (by omega)
   have h2:W[i]? = some W[i]:=lG hi
   rw[h1,h2,hp i _ _ h1 h2]
  ·rw[if_neg hi,List.getElem?_eq_none (by omega)]
 ·rw[decide_eq_false c];rfl
theorem texts_c (A:Option Addr) (cap:Nat) (l:List ByteArray) (w:World) (ht:Tab w) (hs:aH w w.heap.size 1 lV (.slice A l.length cap) l) (h300:l.length≤300):Calls Tryz.prog 80 #[.slice A l.length cap] w (aM (.bool (jL cC l)) w):=by
 obtain⟨r,hr⟩:∃r,jL cC l=r:=⟨_,rfl⟩
 rw[hr]
 obtain⟨w1,hw1⟩:∃w1,w1=w.alloc (.cells (cC.map Value.string).toArray 9):=⟨_,rfl⟩
 have k1:Hid (Below w.heap.size w w1):=by rw[hw1];exact aB w _
 have C0:Hid (Calls Tryz.prog 112 #[] w fun e w'=>e=.returned (.slice (some ⟨w.heap.size,0,none⟩) 19 19)∧w'=w1):=by rw[hw1];exact yQ w ht
 have s1:Hid (aH w1 w1.heap.size 1 lV (.slice (some ⟨w.heap.size,0,none⟩) 19 19) cC):=by
  have:=pW w
  rw[←hw1] at this
  have e:w1.heap.size=w.heap.size+1:=by rw[hw1];simp
  rw[e];exact this
 have s3:=hI (hs.below k1.out)
 have hz1:w.heap.size<w1.heap.size:=by rw[hw1];simp
 have ll:=aP hs
 have HR:=hI hr
 have hmm:=@run_makeMap Tryz.prog
 clear hs hw1 ht hr
 go_enter Tryz.func80,Tryz.ntmps80
 go_wp2_with fail
 refine C0.out.mono ?_
 rintro e w' ⟨rfl,rfl⟩
 go_wp2_with fail
 go_loopw [11] (fun k wr=>∃kn:Nat,k=.int .i64 kn∧kn≤l.length∧Hid ((l.take kn).Nodup)∧Hid (∀(i:Nat) x y,i<kn→l[i]? = some x→cC[i]? = some y→x=y)∧Hid (wr.ownsMap Tryz.prog 9 (plainElem Tryz.prog 3) w'.heap.size kn (mD (l.take kn)))∧Hid (Below w'.heap.size w' wr)) (fun k _=>l.length - (RowKit.intOf k).toNat)
 case atStart=>exact⟨0,rfl,by omega,by show(l.take 0).Nodup;simp,fun i x y h=>by omega,World.ownsMap_made _ _ _ _,aB w' _⟩
 case round=>
  obtain⟨kn,rfl,hk,KD,KP,KO,KW⟩:=hrel
  have hsz:=KW.out.size
  have KK:=btZ k1 KW.out
  by_cases hlt:kn<l.length
  ·obtain⟨b,off,x,cs,rfl,hb,hx0,hcl,hR,hat⟩:=s3.out.at_ hlt
   obtain⟨rfl,hxs⟩:=hR
   have hi1:(kn:Int)<l.length:=by omega
   have g0:wr.cell? ⟨b,off+kn,none⟩=some (.string x):=(KW.out.cell hb).trans (by have:=hat 0 _ rfl;simpa using this)
   have HX:=hI hx0
   obtain⟨c,hrun,hc1,hc0⟩:=aaO KO.out hxs
   have hkey:=hI (keyOf_string_mk (P:=Tryz.prog) (k:=9) Tryz.underlying9 hxs)
   clear hx0 hat hcl
   by_cases hm:x∈l.take kn
   ·have HN:Hid (false=r):=by
     rw[←HR.out];unfold jL
     rw[decide_eq_false (tK HX.out hm),Bool.and_false];rfl
    rw[hc1 hm] at hrun
    clear hm hc1 hc0
    go_wp2_with fail
    go_ret
    exact⟨by rw[←HN.out];rfl,KK.out⟩
   ·have HM:=hI hm
    rw[hc0 hm] at hrun
    clear hm hc1 hc0
    by_cases h19:kn<19
    ·obtain⟨b2,off2,y,ys,hbo,hb2,hy0,-,hR2,hat2⟩:=s1.out.at_ (i:=kn) (by rw[jK];exact h19)
     injection hbo with hbo
     injection hbo with hbo1 hbo2
     subst hbo1;subst hbo2
     obtain⟨rfl,hys⟩:=hR2
     have i19:(kn:Int)<19:=by omega
     have g2:wr.cell? ⟨w.heap.size,kn,none⟩=some (.string y):=(KW.out.cell hb2).trans (by have:=hat2 0 _ rfl;simpa using this)
     have HY:=hI hy0
     clear hy0 hat2
     by_cases hxy:x=y
     ·have HXY:=hI hxy
      subst hxy
      go_wp2_with (first
       | (at_mapUpdate;refine wpList_mapUpdate_own _ rfl _ _ _ 188 rfl 9 3 pI Tryz.underlying188 _ w'.heap.size kn _ rfl KO.out (by unfold maxLen;omega) _ _ _ rfl rfl hkey.out _ [] (plainElem_int Tryz.underlying3 (by decide)) ?_;intro w3 hown1 hgrow1)
       | fail)
      have R1:Hid (w3.ownsMap Tryz.prog 9 (plainElem Tryz.prog 3) w'.heap.size (kn+1) (mD (l.take (kn+1)))):=by rw[jM HX.out,nN];exact hown1
      have R2:=hI (KW.out.grown hgrow1 KW.out.size (fun j hj=>by cases hj;exact Nat.le_refl _))
      clear hown1 hgrow1 g0 g2 hrun
      go_wp2_with fail
      go_roundw
      case rel=>exact⟨kn+1,by go_num,by omega,nR KD.out HX.out HM.out,fun i u v hi hu hv=>by
       rcases Nat.lt_or_ge i kn with h | h
       ·exact KP.out i u v h hu hv
       ·obtain rfl:i=kn:=by omega
        rw[HX.out] at hu;rw[HY.out] at hv
        injection hu with hu;injection hv with hv
        exact hu.symm.trans hv,R1,R2⟩
      case measure=>simp[RowKit.intOf];omega
     ·have HN:Hid (false=r):=by rw[←HR.out];exact(aaC HX.out HY.out hxy).symm
      have n1:(x.toList == y.toList)=false:=by
       simp only[beq_eq_false_iff_ne]
       intro e;apply hxy
       rw[Lib.toList_data,Lib.toList_data] at e
       have e2:x.data=y.data:=Array.toList_inj.1 e
       cases x;cases y;simp only at e2;rw[e2]
      clear hxy
      go_wp2_with fail
      go_ret
      exact⟨by rw[←HN.out];rfl,KK.out⟩
    ·have i19:¬(kn:Int)<19:=by omega
     go_wp2_with (first
      | (at_mapUpdate;refine wpList_mapUpdate_own _ rfl _ _ _ 188 rfl 9 3 pI Tryz.underlying188 _ w'.heap.size kn _ rfl KO.out (by unfold maxLen;omega) _ _ _ rfl rfl hkey.out _ [] (plainElem_int Tryz.underlying3 (by decide)) ?_;intro w3 hown1 hgrow1)
      | fail)
     have R1:Hid (w3.ownsMap Tryz.prog 9 (plainElem Tryz.prog 3) w'.heap.size (kn+1) (mD (l.take (kn+1)))):=by rw[jM HX.out,nN];exact hown1
     have R2:=hI (KW.out.grown hgrow1 KW.out.size (fun j hj=>by cases hj;exact Nat.le_refl _))
     clear hown1 hgrow1 g0 hrun
     go_wp2_with fail
     go_roundw
     case rel=>exact⟨kn+1,by go_num,by omega,nR KD.out HX.out HM.out,fun i u v hi hu hv=>by
      rcases Nat.lt_or_ge i kn with h | h
      ·exact KP.out i u v h hu hv
      ·have:=(lE hv).1
       rw[jK] at this
       omega,R1,R2⟩
     case measure=>simp[RowKit.intOf];omega
  ·have hke:kn=l.length:=by omega
   have HN:Hid (decide ((19:Int)≤l.length)=r):=by
    have hd:=KD.out
    rw[hke,List.take_length] at hd
    rw[←HR.out,wY hd (fun i x y hx hy=>KP.out i x y (by have:=(lE hx).1;omega) hx hy),jK]
    show decide _=decide _
    congr 1
    rw[eq_iff_iff];omega
   clear hke
   go_wp2_with fail
   go_ret
   exact⟨by rw[←HN.out];rfl,KK.out⟩
end
section
open Go.RowKit Go.Maps Go.WideMaps
theorem pX:∀(n:Nat) (l:List Val) (a b:List Int),l.length≤n→(∀m,m∈a↔m∈b)→gS a l=gS b l
 | _,[],_,_,_,_=>rfl
 | _,[k],a,b,_,h=>by unfold gS;simp
 | 0,_::_::_,_,_,h,_=>by simp at h
 | n+1,k::y::r,a,b,hl,h=>by
  unfold gS
  rw[decide_eq_decide.2 (h k.n),pX n r (k.n::a) (k.n::b) (by simp at hl;omega) (fun m=>by simp[h m])]
theorem wU (l:List Val) (a:List Int) (x:Int):gS (x::a) l=gS (a++[x]) l:=pX l.length l _ _ (Nat.le_refl _) (fun m=>by simp[or_comm])
theorem weak_c (A:Option Addr) (cap:Nat) (l:List Val) (ps:Value) (w:World) (hs:aH w w.heap.size 2 hU (.slice A l.length cap) l) (h600:l.length≤600):Calls Tryz.prog 124 #[ps,.slice A l.length cap] w (aM (.bool (gS [] l)) w):=by
 obtain⟨r,hr⟩:∃r,gS [] l=r:=⟨_,rfl⟩
 rw[hr]
 have HR:=hI hr
 have HS:=hI hs
 obtain⟨-,hl1,hl2⟩:=hs.len
 unfold maxLen at hl2
 have hmm:=@run_makeMap Tryz.prog
 clear hs hr
 go_enter Tryz.func124,Tryz.ntmps124
 go_wp2_with fail
 go_loopw [6] (fun k wr=>∃(kn j:Nat) (acc:List Int),k=.int .i64 kn∧Hid (kn=2*j)∧kn≤l.length+1∧Hid (acc.length=j)∧Hid (wr.ownsMap Tryz.prog 3 (plainElem Tryz.prog 3) w.heap.size j (jB mZ acc))∧Hid ((kn≤l.length∧gS acc (l.drop kn)=r)∨(kn=l.length+1∧r=false))∧Hid (Below w.heap.size w wr)) (fun k _=>l.length+1 - (RowKit.intOf k).toNat)
 case atStart=>exact⟨0,0,[],rfl,rfl,by omega,rfl,World.ownsMap_made _ _ _ _,.inl ⟨by omega,by rw[List.drop_zero];exact HR.out⟩,aB w _⟩
 case round=>
  obtain⟨kn,j,acc,rfl,HJ,hk,HA,HM,HF,KW⟩:=hrel
  have hsz:=KW.out.size
  by_cases hlt:kn<l.length
  ·obtain⟨b,off,x,ys,rfl,hb,hx,-,⟨rfl,wx1,wx2⟩,hat⟩:=HS.out.at_ hlt
   have hi1:(kn:Int)<l.length:=by omega
   have g0:wr.cell? ⟨b,off+kn*2,none⟩=some (.int .i64 x.kind):=(KW.out.cell hb).trans (hat 0 _ rfl)
   have g1:wr.cell? ⟨b,off+kn*2+1,none⟩=some (.int .i64 x.n):=(KW.out.cell hb).trans (hat 1 _ rfl)
   have HF2:Hid (gS acc (x::l.drop (kn+1))=r):=by
    rcases HF.out with ⟨-,h⟩ | ⟨h,-⟩
    ·obtain⟨h1,h2⟩:=lE hx
     rw[←h,List.drop_eq_getElem_cons h1,h2];rfl
    ·omega
   have hrun:=pA HM.out wx2
   have hkey:=hI (nT wx2)
   clear hx hat HF
   have HBAD:Hid ((x.kind == 5)=false∨x.n∈acc→false=r):=fun h=>by
    rw[←HF2.out]
    cases l.drop (kn+1) with
    | nil=>unfold gS;rcases h with h | h <;> simp[h]
    | cons y t=>unfold gS;rcases h with h | h <;> simp[h]
   by_cases h5:x.kind=5
   case neg=>
    have HN:Hid (false=r):=HBAD.out (.inl (beq_eq_false_iff_ne.2 h5))
    have n5:(x.kind == 5)=false:=beq_eq_false_iff_ne.2 h5
    have n5':(x.kind != 5)=true:=bne_iff_ne.2 h5
    clear hrun
    go_wp2_with fail
    go_ret
    exact⟨by rw[←HN.out];rfl,KW.out⟩
   rw[h5] at g0
   by_cases hm:x.n∈acc
   ·have HN:Hid (false=r):=HBAD.out (.inr hm)
    rw[if_pos hm] at hrun
    clear hm h5
    go_wp2_with fail
    go_ret
    exact⟨by rw[←HN.out];rfl,KW.out⟩
   ·rw[if_neg hm] at hrun
    have HF3:Hid ((kn+2≤l.length∧gS (acc++[x.n]) (l.drop (kn+2))=r)∨(kn+2=l.length+1∧r=false)):=by
     cases hd:l.drop (kn+1) with
     | nil=>
      right
      have hl:l.length≤kn+1:=List.drop_eq_nil_iff.1 hd
      refine⟨by omega,?_⟩
      rw[←HF2.out,hd];unfold gS;simp
     | cons y t=>
      left
      have hl:¬l.length≤kn+1:=fun h=>by rw[List.drop_of_length_le h] at hd;cases hd
      refine⟨by omega,?_⟩
      have ht:l.drop (kn+2)=t:=by rw[show kn+2=(kn+1)+1 from rfl,←List.drop_drop,hd];rfl
      rw[ht,←HF2.out,hd,←wU]
      conv=>rhs;unfold gS
      rw[show(x.kind == 5)=true from beq_iff_eq.2 h5,decide_eq_false hm];rfl
    clear hm h5
    have hj:Hid (j≤9223372036854775806):=by show j≤_;have:=HJ.out;omega
    go_wp2_with (first
     | (at_mapUpdate;refine wpList_mapUpdate_own _ rfl _ _ _ 114 rfl 3 3 xQ Tryz.underlying114 _ w.heap.size j _ rfl HM.out (by have:=hj.out;unfold maxLen;omega) _ _ _ rfl rfl hkey.out _ [] (plainElem_int Tryz.underlying3 (by decide)) ?_;intro w3 hown1 hgrow1)
     | fail)
    have R1:Hid (w3.ownsMap Tryz.prog 3 (plainElem Tryz.prog 3) w.heap.size (j+1) (jB mZ (acc++[x.n]))):=by rw[nM];exact hown1
    have R2:=hI (KW.out.grown hgrow1 KW.out.size (fun j hj=>by cases hj;exact Nat.le_refl _))
    clear hown1 hgrow1 g0 g1 hrun
    go_wp2_with fail
    go_roundw
    case rel=>exact⟨kn+2,j+1,acc++[x.n],by go_num,by show kn+2=_;have:=HJ.out;omega,by omega,by show(acc++[x.n]).length=_;rw[List.length_append,HA.out];rfl,R1,HF3,R2⟩
    case measure=>simp[RowKit.intOf];omega
  ·have hi1:¬(kn:Int)<l.length:=by omega
   have HN:Hid (((l.length:Int) % 2 == 0)=r):=by
    have hj:=HJ.out
    rcases HF.out with ⟨h1,h2⟩ | ⟨h1,h2⟩
    ·rw[←h2,List.drop_of_length_le (by omega)]
     show(_ == _)=true
     exact beq_iff_eq.2 (by omega)
    ·rw[h2];exact beq_eq_false_iff_ne.2 (by omega)
   have hrem:Int.tmod (l.length:Int) 2=(l.length:Int) % 2:=by rw[Int.tmod_eq_emod_of_nonneg (by omega)]
   go_wp2_with fail
   go_ret
   exact⟨by rw[←HN.out];rfl,KW.out⟩
end
section
open Go.RowKit
def dY (w:World) (B:Nat) (cs:List Value) (f:CFn) (t:aN):Prop:=∃fc tc,cs=fc++tc∧FnR w B fc f∧cT w B tc t
theorem dY.keep {w w':World} {B B':Nat} {cs:List Value} {f:CFn} {t:aN} (h:dY w B cs f t) (hB:B≤B') (hk:∀p:Addr,p.block<B→w'.cell? p=w.cell? p):dY w' B' cs f t:=by
 obtain⟨fc,tc,h1,h2,h3⟩:=h
 exact⟨fc,tc,h1,h2.keep hB hk,h3.keep hB hk⟩
theorem dY.below {w w':World} {cs:List Value} {f:CFn} {t:aN} (h:dY w w.heap.size cs f t) (k:Below w.heap.size w w'):dY w' w'.heap.size cs f t:=h.keep k.size (fun _ h=>k.cell h)
theorem dY.cells {w:World} {B:Nat} {cs:List Value} {f:CFn} {t:aN} (h:dY w B cs f t):∃A4 n4 A5 n5 Ai ni Ae ne s1 m1 s2 m2,
  cs=[.int .i64 f.params,.int .i64 f.regs,.bool f.gen,.slice A4 f.caught.length n4,.slice A5 f.code.length n5,.int .i64 t.fn,.int .i64 t.at_,.int .i64 t.loop,.slice Ai t.ins.length ni,.slice Ae t.exits.length ne,
   .int .i64 t.turn.at_,.int .i64 t.turn.steps,s1,m1,.int .i64 t.back.at_,.int .i64 t.back.steps,s2,m2]∧
  aH w B 5 iA (.slice A5 f.code.length n5) f.code∧aH w B 8 wR (.slice Ai t.ins.length ni) t.ins∧aH w B 4 (gF w B) (.slice Ae t.exits.length ne) t.exits:=by
 obtain⟨fc,tc,rfl,⟨A4,n4,A5,n5,rfl,q4,q5,-⟩,⟨i,e,ct,cb,rfl,hi,he,⟨s1,m1,rfl,-⟩,⟨s2,m2,rfl,-⟩,-⟩⟩:=h
 obtain⟨Ai,ni,rfl,-⟩:=id hi
 obtain⟨Ae,ne,rfl,-⟩:=id he
 exact⟨A4,n4,A5,n5,Ai,ni,Ae,ne,s1,m1,s2,m2,rfl,q5,hi,he⟩
theorem uG (cs:List Value) (f:CFn) (t:aN) (v at_:Int) (w:World) (h:dY w w.heap.size cs f t) :
  Calls Tryz.prog 105 #[.agg ⟨cs⟩,.int .i64 v,.int .i64 at_] w (aM (.bool (fF t.ins v at_)) w):=by
 obtain⟨r,hr⟩:∃r,fF t.ins v at_=r:=⟨_,rfl⟩
 rw[hr]
 unfold fF at hr
 obtain⟨A4,n4,A5,n5,Ai,ni,Ae,ne,s1,m1,s2,m2,rfl,-,q,-⟩:=h.cells
 have ll:=aP q
 clear h
 by_cases h1:0≤v
 case neg=>
  have HR:Hid (false=r):=by rw[←hr,decide_eq_false h1];rfl
  clear hr q
  go_enter Tryz.func105,Tryz.ntmps105
  go_wp2_with fail
  go_ret
  exact⟨by rw[←HR.out];rfl,aB w _⟩
 rw[decide_eq_true h1,Bool.true_and] at hr
 by_cases h2:v<at_
 case neg=>
  have HR:Hid (false=r):=by rw[←hr,decide_eq_false h2];rfl
  clear hr q
  go_enter Tryz.func105,Tryz.ntmps105
  go_wp2_with fail
  go_ret
  exact⟨by rw[←HR.out];rfl,aB w _⟩
 rw[decide_eq_true h2,Bool.true_and] at hr
 by_cases h3:v<t.ins.length
 case neg=>
  have HR:Hid (false=r):=by rw[←hr,decide_eq_false h3];rfl
  clear hr q
  go_enter Tryz.func105,Tryz.ntmps105
  go_wp2_with fail
  go_ret
  exact⟨by rw[←HR.out];rfl,aB w _⟩
 rw[decide_eq_true h3,Bool.true_and] at hr
 obtain⟨k,rfl⟩:=Int.eq_ofNat_of_zero_le h1
 have hk:k<t.ins.length:=by omega
 obtain⟨b,off,x,rfl,hb,hx,-,hat⟩:=rN q hk
 have g0:w.cell? ⟨b,off+k*8,none⟩=some (.int .i64 x.op):=by have:=hat 0 _ rfl;simpa using this
 have HR:Hid (iC x.op=r):=by rw[←hr];unfold nQ Hid;rw[Int.toNat_natCast,hx];rfl
 clear hr q hx hat
 obtain⟨w0,hw0⟩:∃w0,w0=w.alloc (.cells #[.int .i64 f.params,.int .i64 f.regs,.bool f.gen,.slice A4 f.caught.length n4,.slice A5 f.code.length n5,.int .i64 t.fn,.int .i64 t.at_,.int .i64 t.loop,.slice (some ⟨b,off,none⟩) t.ins.length ni,.slice Ae t.exits.length ne,
   .int .i64 t.turn.at_,.int .i64 t.turn.steps,s1,m1,.int .i64 t.back.at_,.int .i64 t.back.steps,s2,m2] 131):=⟨_,rfl⟩
 have k0:Hid (Below w.heap.size w w0):=by rw[hw0];exact aB w _
 have HW:=hI hw0
 clear hw0
 go_enter Tryz.func105,Tryz.ntmps105
 go_wp2_with fail
 rw[←HW.out]
 refine(uK _ _).mono ?_
 rintro e w1 ⟨rfl,k1⟩
 have K1:=btZ k0 k1
 clear k1
 go_wp2_with fail
 go_ret
 exact⟨by rw[←HR.out];rfl,K1.out⟩
end
section
open Go.RowKit
theorem zS {α : Type} {p : α→Bool} {l:List α} {k:Nat} {x : α} (hx:l[k]? = some x) (hp:p x=false):l.all p=false:=by
 rw[List.all_eq_false]
 exact⟨x,List.mem_of_getElem? hx,by simp[hp]⟩
theorem zR {α : Type} {p : α→Bool} {l:List α} {k:Nat} (hk:k=l.length) (h:∀i x,i<k→l[i]? = some x→p x=true):l.all p=true:=by
 rw[List.all_eq_true]
 intro x hx
 obtain⟨i,hi⟩:=List.getElem?_of_mem hx
 exact h i x (by have:=(lE hi).1;omega) hi
theorem tE {α : Type} {p : α→Bool} {l:List α} {k:Nat} {x : α} (h:∀i x,i<k→l[i]? = some x→p x=true) (hx:l[k]? = some x) (hp:p x=true):∀i y,i<k+1→l[i]? = some y→p y=true:=fun i y hi hy=>by
 rcases Nat.lt_or_ge i k with h1 | h1
 ·exact h i y h1 hy
 ·have:i=k:=by omega
  subst this
  rw[hx] at hy
  injection hy with hy
  exact hy ▸ hp
theorem b8 {P:Program} {ops:Array Oper} {rest:List Oper} {op:Oper} {a:Act} {w:World} {Q:Exit→Act→World→Prop} (ty:TypeId) (x:Operand) (ho:op.op=.load ty x)
  (hgd:Region.wanted op (yielded ops a.tmps)=true)
  (b o:Nat) (hx:a.eval x=.pointer (some ⟨b,o,none⟩)) (cs:List Value) (d:TypeDesc) (hc:w.rangeAt b o cs)
  (hu:P.underlying ty=some d) (hd:d.isRow=true) (hi:(P.info? ty).map (·.size)=some cs.length)
  (h:wpList P ops Q rest (a.put op.dst (.agg cs.toArray)) w):wpList P ops Q (op::rest) a w:=
 wpList_step fun K hK=>by rw[if_pos hgd];exact wp_load_mid ty x ho b o hx cs d hc hu hd hi (hK _ _ h)
theorem tR:(Tryz.prog.info? 131).map (·.size)=some 18:=by kernel_rfl
theorem dY.len {w:World} {B:Nat} {cs:List Value} {f:CFn} {t:aN} (h:dY w B cs f t):(Tryz.prog.info? 131).map (·.size)=some cs.length:=by
 obtain⟨A4,n4,A5,n5,Ai,ni,Ae,ne,s1,m1,s2,m2,rfl,-⟩:=h.cells
 exact tR
theorem aA.range {w:World} {g:Nat} {cs:List Value} (h:aA w g cs):w.rangeAt g 0 cs:=fun j v hv=>by rw[Nat.zero_add];exact h j v hv
theorem vJ (cs:List Value) (f:CFn) (t:aN) (v:Value) (l:List Int) (at_:Int) (w:World) (h:dY w w.heap.size cs f t) (hl:aH w w.heap.size 1 hY v l) :
  Calls Tryz.prog 103 #[.agg ⟨cs⟩,v,.int .i64 at_] w (aM (.bool (gT t.ins l at_)) w):=by
 obtain⟨r,hr⟩:∃r,gT t.ins l at_=r:=⟨_,rfl⟩
 rw[hr]
 have HR:=hI hr
 clear hr
 have HC:=hI h
 have HS:=hI hl
 obtain⟨A,cap,rfl,l1,l2,-⟩:=hl
 unfold maxLen at l2
 obtain⟨w0,hw0⟩:∃w0,w0=w.alloc (.cells ⟨cs⟩ 131):=⟨_,rfl⟩
 have k0:Hid (Below w.heap.size w w0):=by rw[hw0];exact aB w _
 have H0:Hid (aA w0 w.heap.size cs):=by rw[hw0];exact ad5 _ _ _
 have hz:w.heap.size<w0.heap.size:=by rw[hw0];simp
 have HI:=hI h.len
 have HW:=hI hw0
 clear hw0 h
 go_enter Tryz.func103,Tryz.ntmps103
 go_wp2_with fail
 rw[←HW.out]
 go_loopw [11] (fun k wr=>∃kn:Nat,k=.int .i64 kn∧kn≤l.length∧Hid (∀i x,i<kn→l[i]? = some x→fF t.ins x at_=true)∧Hid (Below w0.heap.size w0 wr)) (fun k _=>l.length - (RowKit.intOf k).toNat)
 case atStart=>exact⟨0,rfl,by omega,fun i x hi _=>by omega,Below.refl _ _⟩
 case round=>
  obtain⟨kn,rfl,hk,KP,KW⟩:=hrel
  by_cases hlt:kn<l.length
  ·obtain⟨b,off,x,ys,rfl,hb,hx0,hcl,hR,hat⟩:=HS.out.at_ hlt
   obtain⟨rfl,hwx⟩:=hR
   have hi1:(kn:Int)<l.length:=by omega
   have kk:=btZ k0 KW.out
   have g0:wr.cell? ⟨b,off+kn,none⟩=some (.int .i64 x):=(kk.out.cell hb).trans (by simpa using hat 0 _ rfl)
   have h0:=hI (H0.out.on KW.out).range
   have HX:=hI hx0
   have C:=hI (uG _ f t x at_ wr (HC.out.below kk.out))
   obtain⟨q,hq⟩:∃q,fF t.ins x at_=q:=⟨_,rfl⟩
   rw[hq] at C
   have HQ:=hI hq
   clear hx0 hat hcl hq
   cases q
   ·have HN:Hid (false=r):=by rw[←HR.out,gT,zS HX.out HQ.out];rfl
    go_wp2_with (refine wpList_load_mid rfl 131 _ rfl w.heap.size 0 rfl cs _ h0.out Tryz.underlying131 rfl HI.out ?_)
    refine C.out.mono ?_
    rintro e w2 ⟨rfl,k2⟩
    have K2:=btZ kk k2
    clear k2
    go_wp2_with fail
    go_ret
    exact⟨by rw[←HN.out];rfl,K2.out⟩
   ·go_wp2_with (refine wpList_load_mid rfl 131 _ rfl w.heap.size 0 rfl cs _ h0.out Tryz.underlying131 rfl HI.out ?_)
    refine C.out.mono ?_
    rintro e w2 ⟨rfl,k2⟩
    have K2:=btZ KW k2
    clear k2 g0
    go_wp2_with fail
    go_roundw
    case rel=>exact⟨kn+1,by go_num,by omega,tE KP.out HX.out HQ.out,K2⟩
    case measure=>simp[RowKit.intOf];omega
  ·have hke:kn=l.length:=by omega
   have HN:Hid (true=r):=by rw[←HR.out,gT,zR hke KP.out];rfl
   clear hke
   go_wp2_with fail
   go_ret
   exact⟨by rw[←HN.out];rfl,k0.out.trans (KW.out.mono k0.out.size)⟩
end
section
open Go.RowKit
theorem jZ (w:World) (A B:List Value) (t u:TypeId):aA ((w.alloc (.cells ⟨A⟩ t)).alloc (.cells ⟨B⟩ u)) w.heap.size A∧aA ((w.alloc (.cells ⟨A⟩ t)).alloc (.cells ⟨B⟩ u)) (w.heap.size+1) B∧Below w.heap.size w ((w.alloc (.cells ⟨A⟩ t)).alloc (.cells ⟨B⟩ u)):=by
 refine⟨(ad5 w A t).old _,?_,bE w _ _⟩
 have:=ad5 (w.alloc (.cells ⟨A⟩ t)) B u
 rwa [World.size_alloc] at this
theorem zZ {ins:List bG} {v at_:Int} (h:fF ins v at_=true):∃k:Nat,v=k∧(k:Int)<at_∧k<ins.length∧iC (nQ ins v)=true:=by
 unfold fF at h
 simp only[Bool.and_eq_true,decide_eq_true_eq] at h
 obtain⟨⟨⟨h1,h2⟩,h3⟩,h4⟩:=h
 obtain⟨k,rfl⟩:=Int.eq_ofNat_of_zero_le h1
 exact⟨k,rfl,h2,by omega,h4⟩
theorem dY.at8 {w:World} {B:Nat} {cs:List Value} {f:CFn} {t:aN} (h:dY w B cs f t):∃Ai ni,cs[8]? = some (.slice Ai t.ins.length ni)∧aH w B 8 wR (.slice Ai t.ins.length ni) t.ins:=by
 obtain⟨A4,n4,A5,n5,Ai,ni,Ae,ne,s1,m1,s2,m2,rfl,-,h,-⟩:=h.cells
 exact⟨Ai,ni,rfl,h⟩
theorem make_c (cs ms:List Value) (f:CFn) (t:aN) (m:fZ) (at_:Int) (w:World) (h:dY w w.heap.size cs f t) (hm:sM w w.heap.size ms m) :
  Calls Tryz.prog 106 #[.agg ⟨cs⟩,.agg ⟨ms⟩,.int .i64 at_] w (aM (.bool (nD t.ins m at_)) w):=by
 obtain⟨r,hr⟩:∃r,nD t.ins m at_=r:=⟨_,rfl⟩
 rw[hr]
 unfold nD at hr
 have HC:=hI h
 have HI:=hI h.len
 obtain⟨Ai,ni,p8,qs⟩:=h.at8
 obtain⟨v,rfl,hv,wc,wk,wn⟩:=hm
 obtain⟨V,cv,rfl,hv1,hv2,-⟩:=id hv
 unfold maxLen at hv2
 have HV:=hI hv
 have HQ:=hI qs
 obtain⟨w0,hw0⟩:∃w0,w0=(w.alloc (.cells ⟨cs⟩ 131)).alloc (.cells #[.int .i64 m.cell,.int .i64 m.kind,.int .i64 m.num,.slice V m.vals.length cv] 181):=⟨_,rfl⟩
 have TB:=jZ w cs [.int .i64 m.cell,.int .i64 m.kind,.int .i64 m.num,.slice V m.vals.length cv] 131 181
 rw[←hw0] at TB
 obtain⟨t1,t2,t3⟩:=TB
 have H1:=hI t1
 have H2:=hI t2
 have k0:=hI t3
 have HW:=hI hw0
 have R0:=hI H1.out.range
 have CV:=hI (uG _ f t m.cell at_ w0 (HC.out.below k0.out))
 obtain⟨q,hq⟩:∃q,fF t.ins m.cell at_=q:=⟨_,rfl⟩
 rw[hq] at CV hr
 have HVM:=hI hq
 clear h hv hw0 t1 t2 t3 qs hq
 go_enter Tryz.func106,Tryz.ntmps106
 go_wp2_with (first | (refine wpList_load_mid rfl 131 _ rfl w.heap.size 0 rfl cs _ (by rw[←HW.out];exact R0.out) Tryz.underlying131 rfl HI.out ?_) | fail)
 rw[←HW.out]
 refine CV.out.mono ?_
 rintro e w1 ⟨rfl,k1⟩
 have K:=btZ k0 k1
 cases q
 case false=>
  have HR:Hid (false=r):=by rw[←hr];rfl
  clear hr k1
  go_wp2_with fail
  go_ret
  exact⟨by rw[←HR.out];rfl,K.out⟩
 rw[Bool.true_and] at hr
 obtain⟨k,hk,-,hlt,-⟩:=zZ HVM.out
 obtain⟨b,off,x,rfl,hb,hx,-,hat⟩:=rN HQ.out hlt
 have g0:w1.cell? ⟨b,off+k*8,none⟩=some (.int .i64 x.op):=(K.out.cell hb).trans (by have:=hat 0 _ rfl;simpa using this)
 have d8:=(H1.out.on k1) 8 _ p8
 have e0:=(H2.out.on k1) 0 _ rfl
 have e1:=(H2.out.on k1) 1 _ rfl
 have e2:=(H2.out.on k1) 2 _ rfl
 have e3:=(H2.out.on k1) 3 _ rfl
 have ll:=aP HQ.out
 have hop:nQ t.ins m.cell=x.op:=by unfold nQ;rw[hk,Int.toNat_natCast,hx];rfl
 rw[hop] at hr
 have hE1:=hI e1
 have hE2:=hI e2
 have hE3:=hI e3
 rw[hk] at e0
 have HB1:=hI (H1.out.on k1).range
 clear k1 hop hat hx
 by_cases ho:x.op=18
 case neg=>
  have HR:Hid (false=r):=by rw[←hr,beq_eq_false_iff_ne.2 ho];rfl
  clear hr
  go_wp2_with fail
  go_ret
  exact⟨by rw[←HR.out];rfl,K.out⟩
 rw[ho,show((18:Int) == 18)=true from rfl,Bool.true_and] at hr
 rw[ho] at g0
 obtain⟨bad,hbad⟩:∃bad,(decide (m.kind<1) || decide (3<m.kind) || decide (m.num<0) || (decide (0<m.num) && m.kind != 1))=bad:=⟨_,rfl⟩
 rw[hbad] at hr
 cases bad
 case true=>
  have HR:Hid (false=r):=by rw[←hr];rfl
  clear hr
  by_cases b1:m.kind<1
  ·clear hbad
   go_wp2_with fail
   go_ret
   exact⟨by rw[←HR.out];rfl,K.out⟩
  by_cases b2:3<m.kind
  ·clear hbad
   go_wp2_with fail
   go_ret
   exact⟨by rw[←HR.out];rfl,K.out⟩
  by_cases b3:m.num<0
  ·clear hbad
   go_wp2_with fail
   go_ret
   exact⟨by rw[←HR.out];rfl,K.out⟩
  have b4:0<m.num∧(m.kind != 1)=true:=by simpa [b1,b2,b3] using hbad
  obtain⟨b4,b5⟩:=b4
  clear hbad
  go_wp2_with fail
  go_ret
  exact⟨by rw[←HR.out];rfl,K.out⟩
 simp only[Bool.or_eq_false_iff,decide_eq_false_iff_not] at hbad
 obtain⟨⟨⟨b1,b2⟩,b3⟩,b4⟩:=hbad
 rw[Bool.not_false,Bool.true_and] at hr
 have hb6:(0<m.num∧m.kind=1)∨¬ 0<m.num:=by
  by_cases h:0<m.num
  ·left;refine⟨h,?_⟩;simpa [h] using b4
  ·exact .inr h
 clear b4
 have b1':decide (m.kind<1)=false:=decide_eq_false b1
 have b2':decide (3<m.kind)=false:=decide_eq_false b2
 have b3':decide (m.num<0)=false:=decide_eq_false b3
 have CS:=hI (vJ _ f t (.slice V m.vals.length cv) m.vals at_ w1 (HC.out.below K.out) (HV.out.below K.out))
 by_cases hlen:m.vals.length≤100
 case neg=>
  have hln:¬(m.vals.length:Int)≤100:=by omega
  have HR:Hid (false=r):=by rw[←hr,decide_eq_false hlen];rfl
  clear hr
  rcases hb6 with ⟨b5,b6⟩ | b5
  ·rw[b6] at e1
   clear b1 b2 b1' b2'
   go_wp2_with fail
   go_ret
   exact⟨by rw[←HR.out];rfl,K.out⟩
  ·go_wp2_with fail
   go_ret
   exact⟨by rw[←HR.out];rfl,K.out⟩
 have hln:(m.vals.length:Int)≤100:=by omega
 rw[decide_eq_true hlen,Bool.true_and] at hr
 rw[hr] at CS
 clear hr
 rcases hb6 with ⟨b5,b6⟩ | b5
 ·rw[b6] at e1
  clear b1 b2 b1' b2'
  go_wp2_with (refine b8 131 _ rfl rfl w.heap.size 0 rfl cs _ HB1.out Tryz.underlying131 rfl HI.out ?_)
  refine CS.out.mono ?_
  rintro e w2 ⟨rfl,k2⟩
  have K2:=btZ K k2
  clear k2
  go_wp2_with fail
  go_ret
  exact⟨rfl,K2.out⟩
 ·go_wp2_with (refine b8 131 _ rfl rfl w.heap.size 0 rfl cs _ HB1.out Tryz.underlying131 rfl HI.out ?_)
  refine CS.out.mono ?_
  rintro e w2 ⟨rfl,k2⟩
  have K2:=btZ K k2
  clear k2
  go_wp2_with fail
  go_ret
  exact⟨rfl,K2.out⟩
end
section
open Go.RowKit
theorem dY.at1 {w:World} {B:Nat} {cs:List Value} {f:CFn} {t:aN} (h:dY w B cs f t):cs[1]? = some (.int .i64 f.regs)∧∃A5 n5,cs[4]? = some (.slice A5 f.code.length n5)∧f.code.length≤9223372036854775807:=by
 obtain⟨A4,n4,A5,n5,Ai,ni,Ae,ne,s1,m1,s2,m2,rfl,h,-⟩:=h.cells
 exact⟨rfl,A5,n5,rfl,aP h⟩
theorem uZ {α : Type} {l:List α} {k:Nat} {x : α} (h:l[k]? = some x):l.drop k=x::l.drop (k+1):=by
 obtain⟨h1,h2⟩:=lE h
 rw[←h2]
 exact List.drop_eq_getElem_cons h1
def eZ (f:CFn):FnM:=⟨f.regs,f.code.length⟩
theorem qN (cs xs:List Value) (f:CFn) (t:aN) (x:cW) (at_:Int) (w:World) (h:dY w w.heap.size cs f t) (hx:gF w w.heap.size xs x) :
  Calls Tryz.prog 58 #[.agg ⟨cs⟩,.agg ⟨xs⟩,.int .i64 at_] w (aM (.bool (bR (eZ f) t.ins x at_)) w):=by
 obtain⟨r,hr⟩:∃r,bR (eZ f) t.ins x at_=r:=⟨_,rfl⟩
 rw[hr]
 unfold bR eZ at hr
 dsimp only at hr
 have HC:=hI h
 have HI:=hI h.len
 obtain⟨Ai,ni,p8,qs⟩:=h.at8
 obtain⟨p1,A5,n5,p4,l5⟩:=h.at1
 obtain⟨s,m,rfl,hs,hm,wa,ws⟩:=hx
 have HS:=hI hs
 have HM:=hI hm
 obtain⟨S,cS,rfl,ls1,ls2,-⟩:=hs
 obtain⟨M,cM,rfl,lm1,lm2,-⟩:=hm
 unfold maxLen at ls2 lm2
 obtain⟨w0,hw0⟩:∃w0,w0=(w.alloc (.cells ⟨cs⟩ 131)).alloc (.cells #[.int .i64 x.at_,.int .i64 x.steps,.slice S x.sets.length cS,.slice M x.makes.length cM] 32):=⟨_,rfl⟩
 have TB:=jZ w cs [.int .i64 x.at_,.int .i64 x.steps,.slice S x.sets.length cS,.slice M x.makes.length cM] 131 32
 rw[←hw0] at TB
 obtain⟨t1,t2,t3⟩:=TB
 have H1:=hI t1
 have H2:=hI t2
 have k0:=hI t3
 have HW:=hI hw0
 clear h hw0 t1 t2 t3 qs p1 p8
 by_cases b1:x.at_<0
 ·have HR:Hid (false=r):=by rw[←hr];simp[b1,Hid]
  clear hr
  go_enter Tryz.func58,Tryz.ntmps58
  go_wp2_with fail
  go_ret
  exact⟨by rw[←HR.out];rfl,by rw[←HW.out];exact k0.out⟩
 by_cases b2:(f.code.length:Int)≤x.at_
 ·have HR:Hid (false=r):=by rw[←hr];simp[b2,Hid]
  clear hr
  go_enter Tryz.func58,Tryz.ntmps58
  go_wp2_with fail
  go_ret
  exact⟨by rw[←HR.out];rfl,by rw[←HW.out];exact k0.out⟩
 by_cases b3:x.steps<0
 ·have HR:Hid (false=r):=by rw[←hr];simp[b3,Hid]
  clear hr
  go_enter Tryz.func58,Tryz.ntmps58
  go_wp2_with fail
  go_ret
  exact⟨by rw[←HR.out];rfl,by rw[←HW.out];exact k0.out⟩
 by_cases b4:200<x.steps
 ·have HR:Hid (false=r):=by rw[←hr];simp[b4,Hid]
  clear hr
  go_enter Tryz.func58,Tryz.ntmps58
  go_wp2_with fail
  go_ret
  exact⟨by rw[←HR.out];rfl,by rw[←HW.out];exact k0.out⟩
 rw[decide_eq_false b1,decide_eq_false b2,decide_eq_false b3,decide_eq_false b4,Bool.or_false,Bool.or_false,Bool.or_false,Bool.not_false,Bool.true_and] at hr
 have HR:=hI hr
 have P:=hI p4
 clear hr
 go_enter Tryz.func58,Tryz.ntmps58
 go_wp2_with fail
 rw[←HW.out]
 clear p4 b1 b2 b3 b4
 go_loopw [37,7] (fun k la wr=>∃(kn:Nat) (l0:Int),k=.int .i64 kn∧la=.int .i64 l0∧kn≤x.sets.length∧Hid (nC f.regs t.ins at_ l0 (x.sets.drop kn)=nC f.regs t.ins at_ (-1) x.sets)∧Hid (Below w0.heap.size w0 wr)) (fun k _ _=>x.sets.length - (RowKit.intOf k).toNat)
 case atStart=>exact⟨0,-1,rfl,rfl,by omega,rfl,Below.refl _ _⟩
 case round=>
  obtain⟨kn,l0,rfl,rfl,hk,KP,KW⟩:=hrel
  by_cases hlt:kn<x.sets.length
  ·obtain⟨b,off,y,ys,rfl,hb,hy,hcl,hR,hat⟩:=HS.out.at_ hlt
   obtain⟨rfl,wy1,wy2⟩:=hR
   have hi1:(kn:Int)<x.sets.length:=by omega
   have kk:=btZ k0 KW.out
   have hz:w.heap.size<wr.heap.size:=by have:=dP (H1.out 4 _ P.out);exact Nat.lt_of_lt_of_le this KW.out.size
   have hbr:b<wr.heap.size:=by omega
   have g0:wr.cell? ⟨b,off+kn*2,none⟩=some (.int .i64 y.reg):=(kk.out.cell hb).trans (hat 0 _ rfl)
   have g1:wr.cell? ⟨b,off+kn*2+1,none⟩=some (.int .i64 y.val):=(kk.out.cell hb).trans (hat 1 _ rfl)
   have d1:wr.cell? ⟨w.heap.size,1,none⟩=some (.int .i64 f.regs):=aC KW.out (H1.out 1 _ HC.out.at1.1)
   have HB:=hI (H1.out.on KW.out)
   have HY:Hid (nC f.regs t.ins at_ (-1) x.sets=(decide (l0<y.reg) && decide (y.reg<f.regs) && fF t.ins y.val at_ && nC f.regs t.ins at_ y.reg (x.sets.drop (kn+1)))):=by rw[←KP.out,uZ hy];rfl
   clear hy hat hcl
   by_cases c1:l0<y.reg
   case neg=>
    have HN:Hid (false=r):=by rw[←HR.out,HY.out,decide_eq_false c1];rfl
    have c1':y.reg≤l0:=by omega
    go_wp2_with fail
    go_ret
    exact⟨by rw[←HN.out];rfl,(by repeat (first | exact kk.out | refine Below.drew ?_ | refine Below.setCell ?_ (by first | omega | (simp;omega)) _ | refine Below.alloc ?_ (by first | omega | (simp;omega)) _))⟩
   by_cases c2:y.reg<f.regs
   case neg=>
    have HN:Hid (false=r):=by rw[←HR.out,HY.out,decide_eq_false c2,Bool.and_false];rfl
    have c1':¬y.reg≤l0:=by omega
    have c2':f.regs≤y.reg:=by omega
    go_wp2_with fail
    go_ret
    exact⟨by rw[←HN.out];rfl,(by repeat (first | exact kk.out | refine Below.drew ?_ | refine Below.setCell ?_ (by first | omega | (simp;omega)) _ | refine Below.alloc ?_ (by first | omega | (simp;omega)) _))⟩
   have CV:Hid (∀W,Below wr.heap.size wr W→Calls Tryz.prog 105 #[.agg ⟨cs⟩,.int .i64 y.val,.int .i64 at_] W (fun e w2=>e=.returned (.bool (fF t.ins y.val at_))∧Below wr.heap.size wr w2∧Below W.heap.size W w2)):=fun W kW=>
    (uG cs f t y.val at_ W (HC.out.below (kk.out.trans (kW.mono kk.out.size)))).mono fun e w2 ⟨h1,h2⟩=>⟨h1,kW.trans (h2.mono kW.size),h2⟩
   obtain⟨q,hq⟩:∃q,fF t.ins y.val at_=q:=⟨_,rfl⟩
   rw[hq] at CV HY
   have c1':¬y.reg≤l0:=by omega
   have c2':¬f.regs≤y.reg:=by omega
   clear hq
   go_wp2_with (refine b8 131 _ rfl rfl w.heap.size 0 rfl cs _ ((HB.out.on (by repeat (first | exact Below.refl _ _ | refine Below.drew ?_ | refine Below.setCell ?_ (by simp) _ | refine Below.alloc ?_ (by simp) _))).range) Tryz.underlying131 rfl HI.out ?_)
   refine(CV.out _ (by repeat (first | exact Below.refl _ _ | refine Below.drew ?_ | refine Below.setCell ?_ (by simp) _ | refine Below.alloc ?_ (by simp) _))).mono ?_
   rintro e w2 ⟨rfl,k2,k3⟩
   have K2:=btZ KW k2
   have g2:=aC k3 (a:=⟨wr.heap.size,0,none⟩) (v:=.int .i64 y.reg) (bL _ _ _ _)
   clear k2 k3 g0 g1 d1
   cases q
   case false=>
    have HN:Hid (false=r):=by rw[←HR.out,HY.out,Bool.and_false];rfl
    go_wp2_with fail
    go_ret
    exact⟨by rw[←HN.out];rfl,k0.out.trans (K2.out.mono k0.out.size)⟩
   go_wp2_with fail
   go_roundw
   case rel=>exact⟨kn+1,y.reg,by go_num,rfl,by omega,by rw[HY.out,decide_eq_true c1,decide_eq_true c2];rfl,K2.out⟩
   case measure=>simp[RowKit.intOf];omega
  ·have hke:x.sets.drop kn=[]:=List.drop_eq_nil_of_le (by omega)
   have HR2:Hid (iE t.ins at_ (-1) x.makes=r):=by
    have e:=KP.out
    rw[hke] at e
    rw[←HR.out,←e];rfl
   have e3:=aC KW.out (H2.out 3 _ rfl)
   clear KP hke
   go_wp2_with fail
   clear e3
   go_loopw [67,7] (fun k la wx=>∃(jn:Nat) (l0:Int),k=.int .i64 jn∧la=.int .i64 l0∧jn≤x.makes.length∧Hid (iE t.ins at_ l0 (x.makes.drop jn)=iE t.ins at_ (-1) x.makes)∧Hid (Below w0.heap.size w0 wx)) (fun k _ _=>x.makes.length - (RowKit.intOf k).toNat)
   case atStart=>exact⟨0,-1,rfl,rfl,by omega,rfl,KW.out⟩
   case round=>
    rename_i wq
    clear KW hlt
    obtain⟨jn,l0,rfl,rfl,hk,KP,KW⟩:=hrel
    by_cases hlt:jn<x.makes.length
    ·obtain⟨b,off,y,ys,rfl,hb,hy,hcl,hR,hat⟩:=HM.out.at_ hlt
     have HY0:=hI hR
     obtain⟨v,rfl,hv,-⟩:=hR
     obtain⟨V,cv,rfl,-⟩:=hv
     have hi1:(jn:Int)<x.makes.length:=by omega
     have kk:=btZ k0 KW.out
     have hz:w.heap.size<wr.heap.size:=by have:=dP (H1.out 4 _ P.out);exact Nat.lt_of_lt_of_le this KW.out.size
     have hbr:b<wr.heap.size:=by omega
     have g0:wr.cell? ⟨b,off+jn*4,none⟩=some (.int .i64 y.cell):=(kk.out.cell hb).trans (hat 0 _ rfl)
     have g1:wr.cell? ⟨b,off+jn*4+1,none⟩=some (.int .i64 y.kind):=(kk.out.cell hb).trans (hat 1 _ rfl)
     have g2:wr.cell? ⟨b,off+jn*4+2,none⟩=some (.int .i64 y.num):=(kk.out.cell hb).trans (hat 2 _ rfl)
     have g3:wr.cell? ⟨b,off+jn*4+3,none⟩=some (.slice V y.vals.length cv):=(kk.out.cell hb).trans (hat 3 _ rfl)
     have HB:=hI (H1.out.on KW.out)
     have HY:Hid (iE t.ins at_ (-1) x.makes=(decide (l0<y.cell) && nD t.ins y at_ && iE t.ins at_ y.cell (x.makes.drop (jn+1)))):=by rw[←KP.out,uZ hy];rfl
     clear hy hat hcl
     by_cases c1:l0<y.cell
     case neg=>
      have HN:Hid (false=r):=by rw[←HR2.out,HY.out,decide_eq_false c1];rfl
      have c1':y.cell≤l0:=by omega
      go_wp2_with fail
      go_ret
      exact⟨by rw[←HN.out];rfl,(by repeat (first | exact kk.out | refine Below.drew ?_ | refine Below.setCell ?_ (by first | omega | (simp;omega)) _ | refine Below.alloc ?_ (by first | omega | (simp;omega)) _))⟩
     have CV:Hid (∀W,Below wr.heap.size wr W→Calls Tryz.prog 106 #[.agg ⟨cs⟩,.agg #[.int .i64 y.cell,.int .i64 y.kind,.int .i64 y.num,.slice V y.vals.length cv],.int .i64 at_] W (fun e w2=>e=.returned (.bool (nD t.ins y at_))∧Below wr.heap.size wr w2∧Below W.heap.size W w2)):=fun W kW=>
      have kz:=btZ kk kW
      (make_c cs _ f t y at_ W (HC.out.below kz) (HY0.out.keep kz.size (fun _ h=>kz.cell h))).mono fun e w2 ⟨h1,h2⟩=>⟨h1,kW.trans (h2.mono kW.size),h2⟩
     obtain⟨q,hq⟩:∃q,nD t.ins y at_=q:=⟨_,rfl⟩
     rw[hq] at CV HY
     have c1':¬y.cell≤l0:=by omega
     clear hq
     go_wp2_with (refine b8 131 _ rfl rfl w.heap.size 0 rfl cs _ ((HB.out.on (by repeat (first | exact Below.refl _ _ | refine Below.drew ?_ | refine Below.setCell ?_ (by simp) _ | refine Below.alloc ?_ (by simp) _))).range) Tryz.underlying131 rfl HI.out ?_)
     refine(CV.out _ (by repeat (first | exact Below.refl _ _ | refine Below.drew ?_ | refine Below.setCell ?_ (by simp) _ | refine Below.alloc ?_ (by simp) _))).mono ?_
     rintro e w2 ⟨rfl,k2,k3⟩
     have K2:=btZ KW k2
     have g4:=aC k3 (a:=⟨wr.heap.size,0,none⟩) (v:=.int .i64 y.cell) (bL _ _ _ _)
     clear k2 k3 g0 g1 g2 g3
     cases q
     case false=>
      have HN:Hid (false=r):=by rw[←HR2.out,HY.out,Bool.and_false];rfl
      go_wp2_with fail
      go_ret
      exact⟨by rw[←HN.out];rfl,k0.out.trans (K2.out.mono k0.out.size)⟩
     go_wp2_with fail
     go_roundw
     case rel=>exact⟨jn+1,y.cell,by go_num,rfl,by omega,by rw[HY.out,decide_eq_true c1];rfl,K2.out⟩
     case measure=>simp[RowKit.intOf];omega
    ·have hke:x.makes.drop jn=[]:=List.drop_eq_nil_of_le (by omega)
     have HN:Hid (true=r):=by
      have e:=KP.out
      rw[hke] at e
      rw[←HR2.out,←e];rfl
     go_wp2_with fail
     go_ret
     exact⟨by rw[←HN.out];rfl,k0.out.trans (KW.out.mono k0.out.size)⟩
end
section
open Go.RowKit
theorem aO {P:Program} {ops:Array Oper} {rest:List Oper} {o:Oper} {a:Act} {w:World} {Q:Act→Prop} (ty:TypeId) (x:Operand) (ho:o.op=.load ty x)
  (hgd:Region.wanted o (yielded ops a.tmps)=true)
  (b off:Nat) (hx:a.eval x=.pointer (some ⟨b,off,none⟩)) (cs:List Value) (d:TypeDesc) (hc:∀E:Up w,E.to.rangeAt b off cs)
  (hu:P.underlying ty=some d) (hd:d.isRow=true) (hi:(P.info? ty).map (·.size)=some cs.length)
  (h:wpQuiet P ops (fun w'=>∃E:Up w,w'=E.to) Q rest (a.put o.dst (.agg cs.toArray))):wpQuiet P ops (fun w'=>∃E:Up w,w'=E.to) Q (o::rest) a:=
 wpQuiet_step fun K hK=>by
  rw[if_pos hgd]
  refine⟨.agg cs.toArray,fun w' ⟨E,e⟩=>?_,hK _ h⟩
  subst e
  unfold Oper.quietAt execOp
  simp only[ho,hx,Instr.loadAt,Instr.sureAddr,Sem.run_bind,Sem.run_pure,Result.andThen_ok,run_loadVar_mid E.to b off ty cs d (hc E) hu hd hi]
  exact⟨rfl,rfl⟩
theorem bare_c (xs:List Value) (x:cW) (w:World) (B:Nat) (w':World) (hx:gF w' B xs x):Calls Tryz.prog 57 #[.agg ⟨xs⟩] w (aM (.bool (lT x)) w):=by
 obtain⟨r,hr⟩:∃r,lT x=r:=⟨_,rfl⟩
 rw[hr]
 unfold lT at hr
 obtain⟨s,m,rfl,hs,hm,wa,ws⟩:=hx
 obtain⟨S,cS,rfl,ls1,ls2,-⟩:=hs
 obtain⟨M,cM,rfl,lm1,lm2,-⟩:=hm
 unfold maxLen at ls2 lm2
 by_cases b1:x.at_=0
 case neg=>
  have HR:Hid (false=r):=by rw[←hr,beq_eq_false_iff_ne.2 b1];rfl
  have b1':(x.at_ == 0)=false:=beq_eq_false_iff_ne.2 b1
  clear hr
  go_enter Tryz.func57,Tryz.ntmps57
  go_wp2_with fail
  go_ret
  exact⟨by rw[←HR.out];rfl,aB w _⟩
 rw[b1,show((0:Int) == 0)=true from rfl,Bool.true_and] at hr
 rw[b1]
 by_cases b2:x.steps=0
 case neg=>
  have HR:Hid (false=r):=by rw[←hr,beq_eq_false_iff_ne.2 b2];rfl
  have b2':(x.steps == 0)=false:=beq_eq_false_iff_ne.2 b2
  clear hr b1
  go_enter Tryz.func57,Tryz.ntmps57
  go_wp2_with fail
  go_ret
  exact⟨by rw[←HR.out];rfl,aB w _⟩
 rw[b2,show((0:Int) == 0)=true from rfl,Bool.true_and] at hr
 rw[b2]
 by_cases b3:x.sets.length=0
 case neg=>
  have e3:x.sets.isEmpty=false:=by cases h:x.sets <;> simp_all
  have HR:Hid (false=r):=by rw[←hr,e3];rfl
  have b3':((x.sets.length:Int) == 0)=false:=by rw[beq_eq_false_iff_ne];omega
  have b3'':¬(x.sets.length:Int)=0:=by omega
  clear hr b1 b2
  go_enter Tryz.func57,Tryz.ntmps57
  go_wp2_with fail
  go_ret
  exact⟨by rw[←HR.out];rfl,aB w _⟩
 have e3:x.sets.isEmpty=true:=by cases h:x.sets <;> simp_all
 rw[e3,Bool.true_and] at hr
 rw[b3]
 by_cases b4:x.makes.length=0
 case neg=>
  have e4:x.makes.isEmpty=false:=by cases h:x.makes <;> simp_all
  have HR:Hid (false=r):=by rw[←hr,e4];exact rfl
  have b4':((x.makes.length:Int) == 0)=false:=by rw[beq_eq_false_iff_ne];omega
  have b4'':¬(x.makes.length:Int)=0:=by omega
  clear hr b1 b2 b3
  go_enter Tryz.func57,Tryz.ntmps57
  go_wp2_with fail
  go_ret
  refine⟨?_,aB w _⟩
  rw[←HR.out]
  show Ending.returned (.bool _)=_
  congr 2
 have e4:x.makes.isEmpty=true:=by cases h:x.makes <;> simp_all
 have HR:Hid (true=r):=by rw[←hr,e4];exact rfl
 rw[b4]
 clear hr b1 b2 b3 b4
 go_enter Tryz.func57,Tryz.ntmps57
 go_wp2_with fail
 go_ret
 exact⟨by rw[←HR.out];rfl,aB w _⟩
end
end Go.Proofs.YtjaphgpkkfdaaaaGreatDoor
