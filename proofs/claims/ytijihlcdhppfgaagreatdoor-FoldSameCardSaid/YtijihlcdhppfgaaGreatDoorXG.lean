/- Part of the walk of the given code: contracts, and plain laws. -/
import Derived.Test.YtijihlcdhppfgaaGreatDoorZCB
import Derived.Test.YtijihlcdhppfgaaGreatDoorZM
import Derived.Test.YtijihlcdhppfgaaGreatDoorXR
import Derived.Test.YtijihlcdhppfgaaGreatDoorZU
set_option maxHeartbeats 16000000
set_option maxRecDepth 100000
set_option linter.all false
namespace Go.Proofs.YtijihlcdhppfgaaGreatDoor
section
structure alN (E:iH) (t:aH) (w:aG) (v:Nat):Prop where
 const:(bT t v).op=2→bL w v=(bT t v).k
 count:(bT t v).op=15→(bL w v).kind=2
 new:(bT t v).op=16∨(bT t v).op=18→(bL w v).kind=5
 bin:(bT t v).op=7→bL w v=(E.B (bT t v).n (bL w (bT t v).a) (bL w (bT t v).b)).1∧(E.B (bT t v).n (bL w (bT t v).a) (bL w (bT t v).b)).2<0
 un:(bT t v).op=8→bL w v=(E.U (bT t v).n (bL w (bT t v).a)).1∧(E.U (bT t v).n (bL w (bT t v).a)).2<0
 is_:(bT t v).op=4→(bL w (bT t v).a).kind=(bT t v).n
 same:(bT t v).op=6→bL w (bT t v).a=(bT t v).k
 cell:(bT t v).op=9→(bL w (bT t v).a).kind=5
theorem alE {w:aG} {i:Nat} (hi:i<w.vals.length) (v:Val):bL (setV w i v) (i:Int)=v:=by
 unfold bL setV
 rw[show(i:Int).toNat=i from rfl,List.getElem?_set_self hi];rfl
theorem anZ {w:aG} {v:Int} {nc:Nat×bJ} (h:dG w v=some nc):(bL w v).kind=5:=by
 unfold dG at h
 split at h
 ·rename_i c;exact c.1
 ·cases h
theorem am6 {E:iH} {t:aH} {w w':aG} {v:Nat} (h:alN E t w v) (hx:∀o∈bU (bT t v),0≤o∧o<v) (hv:∀u:Nat,u≤v→w'.vals[u]? = w.vals[u]?):alN E t w' v:=by
 have e0:bL w' (v:Int)=bL w v:=ad9 (hv v (Nat.le_refl _))
 have ea:0<(bP (bT t v).op).asks→bL w' (bT t v).a=bL w (bT t v).a:=fun c=>by
  obtain⟨a1,a2⟩:=hx _ (nL (k:=0) rfl c)
  obtain⟨n,hn⟩:=Int.eq_ofNat_of_zero_le a1
  rw[hn];exact ad9 (hv n (by omega))
 have eb:1<(bP (bT t v).op).asks→bL w' (bT t v).b=bL w (bT t v).b:=fun c=>by
  obtain⟨a1,a2⟩:=hx _ (nL (k:=1) rfl c)
  obtain⟨n,hn⟩:=Int.eq_ofNat_of_zero_le a1
  rw[hn];exact ad9 (hv n (by omega))
 refine⟨fun c=>?_,fun c=>?_,fun c=>?_,fun c=>?_,fun c=>?_,fun c=>?_,fun c=>?_,fun c=>?_⟩
 ·rw[e0];exact h.const c
 ·rw[e0];exact h.count c
 ·rw[e0];exact h.new c
 ·rw[e0,ea (by rw[c];decide),eb (by rw[c];decide)];exact h.bin c
 ·rw[e0,ea (by rw[c];decide)];exact h.un c
 ·rw[ea (by rw[c];decide)];exact h.is_ c
 ·rw[ea (by rw[c];decide)];exact h.same c
 ·rw[ea (by rw[c];decide)];exact h.cell c
theorem am7 {E:iH} {t:aH} {w:aG} {i:Nat} (hl:w.vals.length=t.ins.length) (hi:i<t.ins.length) (self:Val) (shapes:List aO) (hx:∀o∈bU (bT t i),0≤o∧o<i)
  (h0:(doW E t self shapes w i).2=0):alN E t (doW E t self shapes w i).1 i:=by
 have hs:=xB w.cells E self shapes w i (bT t i)
 change iS w.cells i w (doW E t self shapes w i).1 at hs
 have hw:i<w.vals.length:=by omega
 have ea:0<(bP (bT t i).op).asks→bL (doW E t self shapes w i).1 (bT t i).a=bL w (bT t i).a:=fun c=>by
  obtain⟨a1,a2⟩:=hx _ (nL (k:=0) rfl c)
  obtain⟨n,hn⟩:=Int.eq_ofNat_of_zero_le a1
  rw[hn];exact ad9 (hs.vals n (by omega))
 have eb:1<(bP (bT t i).op).asks→bL (doW E t self shapes w i).1 (bT t i).b=bL w (bT t i).b:=fun c=>by
  obtain⟨a1,a2⟩:=hx _ (nL (k:=1) rfl c)
  obtain⟨n,hn⟩:=Int.eq_ofNat_of_zero_le a1
  rw[hn];exact ad9 (hs.vals n (by omega))
 refine⟨fun c=>?_,fun c=>?_,fun c=>?_,fun c=>?_,fun c=>?_,fun c=>?_,fun c=>?_,fun c=>?_⟩
 ·have e:doW E t self shapes w i=(setV w i (bT t i).k,0):=by
   unfold doW doI
   rw[if_neg (by omega),if_pos c]
  rw[e];exact alE hw _
 ·have e:doW E t self shapes w i=jK w i (bT t i):=by
   unfold doW doI
   rw[if_neg (by omega),if_neg (by omega),if_neg (by omega),if_neg (by omega),if_neg (by omega),if_neg (by omega),if_pos (by omega)]
  rw[e] at h0 ⊢
  unfold jK at h0 ⊢
  cases hc:dG w (bT t i).a with
  | none=>rw[hc] at h0;cases h0
  | some nc=>
   obtain⟨n,cl⟩:=nc
   dsimp only
   rw[if_neg (by omega),if_neg (by omega),if_neg (by omega)]
   show(bL (setV w i _) (i:Int)).kind=2
   rw[alE hw]
 ·have hf:∀k,(eP w i k).2=0→(bL (eP w i k).1 (i:Int)).kind=5:=fun k hk=>by
   unfold eP at hk ⊢
   split at hk
   ·cases hk
   ·rename_i hc
    rw[if_neg hc]
    have:bL { w with vals:=w.vals.set i ⟨5,w.cells.length⟩,cells:=w.cells++[⟨k,0,[],[]⟩] } (i:Int)=⟨5,w.cells.length⟩:=by
     unfold bL
     rw[show(i:Int).toNat=i from rfl,List.getElem?_set_self hw];rfl
    rw[this]
  rcases c with c | c
  ·have e:doW E t self shapes w i=eP w i (bT t i).n:=by
    unfold doW doI
    rw[if_neg (by omega),if_neg (by omega),if_neg (by omega),if_neg (by omega),if_neg (by omega),if_neg (by omega),if_neg (by omega),if_neg (by omega),if_neg (by omega),if_pos c]
   rw[e] at h0 ⊢;exact hf _ h0
  ·have e:doW E t self shapes w i=eP w i 0:=by
    unfold doW doI
    rw[if_neg (by omega),if_neg (by omega),if_neg (by omega),if_neg (by omega),if_neg (by omega),if_neg (by omega),if_neg (by omega),if_neg (by omega),if_neg (by omega),if_neg (by omega),if_neg (by omega),if_neg (by omega)]
   rw[e] at h0 ⊢;exact hf _ h0
 ·rw[ea (by rw[c];decide),eb (by rw[c];decide)]
  have e:doW E t self shapes w i=gX w i (bT t i).exit (E.B (bT t i).n (bL w (bT t i).a) (bL w (bT t i).b)):=by
   unfold doW doI
   rw[if_neg (by omega),if_neg (by omega),if_neg (by omega),if_neg (by omega),if_pos c]
  rw[e] at h0 ⊢
  refine⟨alE hw _,?_⟩
  unfold gX at h0
  dsimp only at h0
  split at h0
  ·assumption
  ·split at h0 <;> cases h0
 ·rw[ea (by rw[c];decide)]
  have e:doW E t self shapes w i=gX w i (bT t i).exit (E.U (bT t i).n (bL w (bT t i).a)):=by
   unfold doW doI
   rw[if_neg (by omega),if_neg (by omega),if_neg (by omega),if_neg (by omega),if_neg (by omega),if_pos c]
  rw[e] at h0 ⊢
  refine⟨alE hw _,?_⟩
  unfold gX at h0
  dsimp only at h0
  split at h0
  ·assumption
  ·split at h0 <;> cases h0
 ·rw[ea (by rw[c];decide)]
  have e:doW E t self shapes w i=(w,isW (jF E w (bT t i)) 1):=by
   unfold doW doI
   rw[if_neg (by omega),if_neg (by omega),if_neg (by omega),if_pos (by omega)]
  rw[e] at h0
  unfold jF at h0
  rw[if_pos c] at h0
  unfold isW at h0
  dsimp only at h0
  split at h0
  ·rename_i q;simpa using q
  ·cases h0
 ·rw[ea (by rw[c];decide)]
  have e:doW E t self shapes w i=(w,isW (jF E w (bT t i)) 1):=by
   unfold doW doI
   rw[if_neg (by omega),if_neg (by omega),if_neg (by omega),if_pos (by omega)]
  rw[e] at h0
  unfold jF at h0
  rw[if_neg (by omega),if_neg (by omega),if_pos c] at h0
  unfold isW at h0
  dsimp only at h0
  split at h0
  ·rename_i q;simpa using q
  ·cases h0
 ·rw[ea (by rw[c];decide)]
  have e:doW E t self shapes w i=(w,isW (jF E w (bT t i)) 1):=by
   unfold doW doI
   rw[if_neg (by omega),if_neg (by omega),if_neg (by omega),if_pos (by omega)]
  rw[e] at h0
  unfold jF at h0
  rw[if_neg (by omega),if_neg (by omega),if_neg (by omega)] at h0
  cases hc:dG w (bT t i).a with
  | none=>rw[hc] at h0;cases h0
  | some nc=>exact anZ hc
structure amS (E:iH):Prop where
 not_:∀a,(E.U 11 a).1.kind=1
 neg:∀n a,n≠11→(E.U n a).2<0→(E.U n a).1.kind=a.kind
 cmp:∀n a b,8≤n→n≤10→(E.B n a b).2<0→(E.B n a b).1.kind=1
 arith:∀n a b,n<8→(E.B n a b).2<0→(E.B n a b).1.kind=a.kind
theorem amP (v:Int):∀(l:List aT),guardM v l≠-1→∃(i:Nat) (x:aT),l[i]? = some x∧x.a=v∧((x.op=4∧guardM v l=x.n)∨(x.op=6∧guardM v l=x.k.kind)∨(x.op=9∧guardM v l=5))
 | [],h=>absurd rfl h
 | x::l,h=>by
  have next:guardM v (x::l)=guardM v l→∃(i:Nat) (y:aT),(x::l)[i]? = some y∧y.a=v∧((y.op=4∧guardM v (x::l)=y.n)∨(y.op=6∧guardM v (x::l)=y.k.kind)∨(y.op=9∧guardM v (x::l)=5)):=fun e=>by
   rw[e] at h ⊢
   obtain⟨i,y,a,b,c⟩:=amP v l h
   exact⟨i+1,y,by simpa using a,b,c⟩
  by_cases ca:x.a=v
  ·by_cases c4:x.op=4
   ·exact⟨0,x,rfl,ca,.inl ⟨c4,by unfold guardM;rw[if_neg (by omega),if_pos c4]⟩⟩
   ·by_cases c6:x.op=6
    ·exact⟨0,x,rfl,ca,.inr (.inl ⟨c6,by unfold guardM;rw[if_neg (by omega),if_neg c4,if_pos c6]⟩)⟩
    ·by_cases c9:x.op=9
     ·exact⟨0,x,rfl,ca,.inr (.inr ⟨c9,by unfold guardM;rw[if_neg (by omega),if_neg c4,if_neg c6,if_pos c9]⟩)⟩
     ·exact next (by conv=>lhs;unfold guardM;rw[if_neg (show ¬x.a≠v by omega),if_neg c4,if_neg c6,if_neg c9])
  ·exact next (by conv=>lhs;unfold guardM;rw[if_pos ca])
def amX (t:aH):Prop:=∀(i:Nat) x,t.ins[i]? = some x→(x.op=7→3≤x.n∧x.n≤10)∧(x.op=8→11≤x.n∧x.n≤12)
theorem anY {aF:Val→Bool} {ce:Int} {fns:List FnM} {t:aH} (h:cQ aF ce fns t=0):amX t:=fun i x hx=>by
 obtain⟨_,fn,h1⟩:=xH h
 obtain⟨_,h2⟩:=fW t.ins 0 h1 i x hx
 simp only[eJ,Bool.and_eq_true,Bool.not_eq_true',Bool.or_eq_false_iff,decide_eq_false_iff_not] at h2
 have h3:=h2.1.1.2.1
 constructor
 ·intro c;rw[c] at h3;have e1:(bP 7).low=3:=by decide
  have e2:(bP 7).high=10:=by decide
  exact⟨by omega,by omega⟩
 ·intro c;rw[c] at h3;have e1:(bP 8).low=11:=by decide
  have e2:(bP 8).high=12:=by decide
  exact⟨by omega,by omega⟩
theorem am0 {E:iH} (ok:amS E) {t:aH} (ask:acO t) (num:amX t) {w:aG} {m:Nat} (hall:∀v<m,alN E t w v):∀(n:Nat) (v at_:Int),v<n→at_≤m→kindM t.ins v at_≠-1→(bL w v).kind=kindM t.ins v at_
 | 0,v,at_,hn,hm,h=>by
  rw[kindM_eq,if_pos (.inl (by omega))] at h
  exact absurd rfl h
 | n+1,v,at_,hn,hm,h=>by
  rw[kindM_eq] at h ⊢
  by_cases c:v<0∨at_≤v∨(t.ins.length:Int)<at_∨dZ (l6 t.ins v)=false
  ·rw[if_pos c] at h;exact absurd rfl h
  rw[if_neg c] at h ⊢
  have c1:0≤v:=by omega
  have c2:v<t.ins.length:=by omega
  obtain⟨kv,rfl⟩:=Int.eq_ofNat_of_zero_le c1
  have hk:kv<t.ins.length:=by omega
  have F:=hall kv (by omega)
  have hx:t.ins[kv]? = some (bT t kv):=by
   unfold bT
   rw[show(kv:Int).toNat=kv from rfl,lG hk];rfl
  have hi:insAt t.ins (kv:Int)=bT t kv:=rfl
  rw[hi] at h ⊢
  by_cases c3:0≤ownM (kindM t.ins · kv) (bT t kv)
  ·rw[if_pos c3] at h ⊢
   unfold ownM at c3 h ⊢
   by_cases o2:(bT t kv).op=2
   ·rw[if_pos o2,F.const o2]
   rw[if_neg o2] at c3 h ⊢
   by_cases o15:(bT t kv).op=15
   ·rw[if_pos o15,F.count o15]
   rw[if_neg o15] at c3 h ⊢
   by_cases o16:(bT t kv).op=16
   ·rw[if_pos o16,F.new (.inl o16)]
   rw[if_neg o16] at c3 h ⊢
   by_cases o18:(bT t kv).op=18
   ·rw[if_pos o18,F.new (.inr o18)]
   rw[if_neg o18] at c3 h ⊢
   by_cases o78:(bT t kv).op=7∨(bT t kv).op=8
   case neg=>rw[if_neg o78] at h;exact absurd rfl h
   rw[if_pos o78] at c3 h ⊢
   by_cases oc:(8≤(bT t kv).n∧(bT t kv).n≤10∧(bT t kv).op=7)∨((bT t kv).n=11∧(bT t kv).op=8)
   ·rw[if_pos oc]
    rcases oc with ⟨g1,g2,g3⟩ | ⟨g1,g2⟩
    ·rw[(F.bin g3).1];exact ok.cmp _ _ _ g1 g2 (F.bin g3).2
    ·rw[(F.un g2).1,g1];exact ok.not_ _
   rw[if_neg oc] at c3 h ⊢
   by_cases ok2:kindM t.ins (bT t kv).a kv=2∨kindM t.ins (bT t kv).a kv=3
   case neg=>rw[if_neg ok2] at h;exact absurd rfl h
   rw[if_pos ok2]
   have hask:=ask kv _ hx (bT t kv).a (nL (k:=0) rfl (by rcases o78 with o | o <;> rw[o] <;> decide))
   have ih:=am0 ok ask num hall n (bT t kv).a kv (by omega) (by omega) (by omega)
   rcases o78 with o | o
   ·have hr:=(num kv _ hx).1 o
    rw[(F.bin o).1,ok.arith _ _ _ (by omega) (F.bin o).2];exact ih
   ·have hr:=(num kv _ hx).2 o
    rw[(F.un o).1,ok.neg _ _ (by omega) (F.un o).2];exact ih
  ·rw[if_neg c3] at h ⊢
   obtain⟨i,x,e1,e2,e3⟩:=amP (kv:Int) _ h
   rw[List.getElem?_drop,List.getElem?_take] at e1
   split at e1
   case isFalse=>cases e1
   rename_i hit
   have hil:=(lE e1).1
   have hxi:bT t (((kv:Int).toNat+1+i:Nat):Int)=x:=by
    unfold bT
    rw[Int.toNat_natCast,e1];rfl
   have Fi:=hall ((kv:Int).toNat+1+i) (by omega)
   rcases e3 with ⟨o,e⟩ | ⟨o,e⟩ | ⟨o,e⟩
   ·have:=Fi.is_ (by rw[hxi];exact o)
    rw[hxi,e2] at this
    rw[this,e]
   ·have:=Fi.same (by rw[hxi];exact o)
    rw[hxi,e2] at this
    rw[this,e]
   ·have:=Fi.cell (by rw[hxi];exact o)
    rw[hxi,e2] at this
    rw[this,e]
end
section
theorem alB {n:Int} (h:(mR n).2<0):(mR n).1.kind=2:=by
 unfold mR at h ⊢
 split
 ·rfl
 ·rename_i c;rw[if_neg c] at h;exact absurd h (by decide)
theorem amY (b:Nat):(ofM b).kind=3:=by unfold ofM;split <;> rfl
theorem alC (b:Bool):(mS b).kind=1:=by cases b <;> rfl
theorem alL {v:Val} (h:(dQ v).kind≠0):dQ v=v:=by
 unfold dQ at h ⊢
 split
 ·rfl
 ·rename_i c;rw[if_neg c] at h;exact absurd rfl h
theorem alD {op:Int} {a b:Bool} (h:(kR op a b).2<0):(kR op a b).1.kind=1∧(op=9∨op=10):=by
 unfold kR at h ⊢
 split
 ·rename_i c;exact⟨alC _,.inl c⟩
 ·rename_i c1
  rw[if_neg c1] at h
  split
  ·rename_i c;exact⟨alC _,.inr c⟩
  ·rename_i c;rw[if_neg c] at h;exact absurd h (by decide)
theorem alQ (o:BinOp) (x y:Nat):(ofB o x y).kind=3:=by
 unfold ofB
 split
 ·exact amY _
 ·rfl
theorem an6:amS ⟨qY,jV,oD⟩:=by
 refine⟨fun a=>?_,fun n a hn h=>?_,fun n a b h1 h2 h=>?_,fun n a b h1 h=>?_⟩
 ·show(qY 11 a).1.kind=1
  unfold qY;rw[if_pos rfl];exact alC _
 ·change (qY n a).2<0 at h
  show(qY n a).1.kind=a.kind
  unfold qY at h ⊢
  rw[if_neg hn] at h ⊢
  split
  ·rename_i c
   rw[if_pos c] at h
   rw[alB h,←c.2,alL (by omega)]
  ·rename_i c
   rw[if_neg c] at h
   split
   ·rename_i c3
    show(ofM _).kind=_
    rw[amY,←c3.2,alL (by omega)]
   ·rename_i c3;rw[if_neg c3] at h;exact absurd h (by decide)
 ·change (jV n a b).2<0 at h
  show(jV n a b).1.kind=1
  unfold jV at h ⊢
  split
  ·rename_i c
   rw[if_pos c] at h
   unfold oH at h ⊢
   rw[if_neg (by omega),if_neg (by omega),if_neg (by omega),if_neg (by omega)] at h ⊢
   split
   ·exact alC _
   ·rename_i c8;rw[if_neg c8] at h;exact(alD h).1
  ·rename_i c
   rw[if_neg c] at h
   split
   ·exact alC _
   ·rename_i c8
    rw[if_neg c8] at h
    split
    ·rename_i c2
     rw[if_pos c2] at h
     unfold pR at h ⊢
     rw[if_neg (by omega),if_neg (by omega),if_neg (by omega),if_neg (by omega)] at h ⊢
     exact(alD h).1
    ·rename_i c2;rw[if_neg c2] at h;exact absurd h (by decide)
 ·change (jV n a b).2<0 at h
  show(jV n a b).1.kind=a.kind
  unfold jV at h ⊢
  split
  ·rename_i c
   rw[if_pos c] at h
   have ha:a.kind=3:=by rw[←c.1,alL (by omega)]
   rw[ha]
   unfold oH at h ⊢
   split
   ·exact alQ _ _ _
   split
   ·exact alQ _ _ _
   split
   ·exact alQ _ _ _
   split
   ·exact alQ _ _ _
   rename_i q1 q2 q3 q4
   rw[if_neg q1,if_neg q2,if_neg q3,if_neg q4,if_neg (by omega)] at h
   have:=(alD h).2
   omega
  ·rename_i c
   rw[if_neg c,if_neg (by omega)] at h
   rw[if_neg (show ¬n=8 by omega)]
   split
   ·rename_i c2
    rw[if_pos c2] at h
    have ha:a.kind=2:=by rw[←c2.1,alL (by omega)]
    rw[ha]
    unfold pR at h ⊢
    split
    ·rename_i q;rw[if_pos q] at h;exact alB h
    rename_i q1
    rw[if_neg q1] at h
    split
    ·rename_i q;rw[if_pos q] at h;exact alB h
    rename_i q2
    rw[if_neg q2] at h
    split
    ·rename_i q;rw[if_pos q] at h;exact alB h
    rename_i q3
    rw[if_neg q3] at h
    split
    ·rename_i q
     rw[if_pos q] at h
     split
     ·rename_i q0;rw[if_pos q0] at h;exact absurd h (by decide)
     ·rename_i q0
      rw[if_neg q0] at h
      split
      ·rename_i q6;rw[if_pos q6] at h;exact alB h
      ·rename_i q6;rw[if_neg q6] at h;exact alB h
    ·rename_i q
     rw[if_neg q] at h
     have:=(alD h).2
     omega
   ·rename_i c2;rw[if_neg c2] at h;exact absurd h (by decide)
end
section
structure anO (E:iH):Prop where
 un:∀n a,(E.U n a).1.kind≠5
 bin:∀n a b,(E.B n a b).1.kind≠5
end
section
theorem amL {R:Val→Bool} {p:aZ} {S:aP} : ∀(l:List bC) (low:Option Int) (gens g:List Int),cX R p S low gens l=some g→∀f∈l,eC R p S f=true
 | [],_,_,_,_,f,hf=>by simp at hf
 | y::r,low,gens,g,h,f,hf=>by
  unfold cX at h
  dsimp only at h
  split at h
  ·cases h
  rename_i c
  have h0:eC R p S y=true:=by
   cases e:eC R p S y with
   | true=>rfl
   | false=>rw[e] at c;exact absurd (by simp) c
  rcases List.mem_cons.1 hf with rfl | hf
  ·exact h0
  split at h
  ·exact amL r _ _ _ h f hf
  ·split at h
   ·cases h
   ·split at h
    ·cases h
    ·exact amL r _ _ _ h f hf
theorem anP {R:Val→Bool} {p:aZ} {S:aP} {gens g:List Int} {x:cD} (h:gJ R p S gens x=some g):∀f∈x.frames,eC R p S f=true:=by
 unfold gJ at h
 dsimp only at h
 split at h
 ·cases h
 split at h
 ·cases h
 split at h
 ·cases h
 split at h
 ·cases h
 exact amL _ _ _ _ h
theorem al2 {R:Val→Bool} {p:aZ} {S:aP} : ∀(l:List cD) (gens g:List Int),dK R p S gens l=some g→∀x∈l,∀f∈x.frames,eC R p S f=true
 | [],_,_,_,x,hx=>by simp at hx
 | y::r,gens,g,h,x,hx=>by
  unfold dK at h
  split at h
  ·cases h
  rename_i g' e
  rcases List.mem_cons.1 hx with rfl | hx
  ·exact anP e
  ·exact al2 r _ _ h x hx
theorem alO (b:Bool):(mS b).kind≠5:=by rw[alC];decide
theorem of_no (b:Nat):(ofM b).kind≠5:=by rw[amY];decide
theorem amZ (o:BinOp) (x y:Nat):(ofB o x y).kind≠5:=by rw[alQ];decide
theorem alH (n:Int):(mR n).1.kind≠5:=by
 unfold mR
 exact cI (fun r:Val×Int=>r.1.kind≠5) (fun _=>show(2:Int)≠5 by decide) fun _=>show(0:Int)≠5 by decide
theorem amO (op:Int) (a b:Bool):(kR op a b).1.kind≠5:=by
 unfold kR
 refine cI (fun r:Val×Int=>r.1.kind≠5) (fun _=>alO _) fun _=>?_
 exact cI (fun r:Val×Int=>r.1.kind≠5) (fun _=>alO _) fun _=>show(0:Int)≠5 by decide
theorem no_ref:anO ⟨qY,jV,oD⟩:=by
 refine⟨fun n a=>?_,fun n a b=>?_⟩
 ·show(qY n a).1.kind≠5
  unfold qY
  refine cI (fun r:Val×Int=>r.1.kind≠5) (fun _=>alO _) fun _=>?_
  refine cI (fun r:Val×Int=>r.1.kind≠5) (fun _=>alH _) fun _=>?_
  exact cI (fun r:Val×Int=>r.1.kind≠5) (fun _=>of_no _) fun _=>show(0:Int)≠5 by decide
 ·show(jV n a b).1.kind≠5
  unfold jV
  refine cI (fun r:Val×Int=>r.1.kind≠5) (fun _=>?_) fun _=>?_
  ·unfold oH
   refine cI (fun r:Val×Int=>r.1.kind≠5) (fun _=>amZ _ _ _) fun _=>?_
   refine cI (fun r:Val×Int=>r.1.kind≠5) (fun _=>amZ _ _ _) fun _=>?_
   refine cI (fun r:Val×Int=>r.1.kind≠5) (fun _=>amZ _ _ _) fun _=>?_
   refine cI (fun r:Val×Int=>r.1.kind≠5) (fun _=>amZ _ _ _) fun _=>?_
   exact cI (fun r:Val×Int=>r.1.kind≠5) (fun _=>alO _) fun _=>amO _ _ _
  refine cI (fun r:Val×Int=>r.1.kind≠5) (fun _=>alO _) fun _=>?_
  refine cI (fun r:Val×Int=>r.1.kind≠5) (fun _=>?_) fun _=>show(0:Int)≠5 by decide
  unfold pR
  refine cI (fun r:Val×Int=>r.1.kind≠5) (fun _=>alH _) fun _=>?_
  refine cI (fun r:Val×Int=>r.1.kind≠5) (fun _=>alH _) fun _=>?_
  refine cI (fun r:Val×Int=>r.1.kind≠5) (fun _=>alH _) fun _=>?_
  refine cI (fun r:Val×Int=>r.1.kind≠5) (fun _=>?_) fun _=>amO _ _ _
  refine cI (fun r:Val×Int=>r.1.kind≠5) (fun _=>show(0:Int)≠5 by decide) fun _=>?_
  exact cI (fun r:Val×Int=>r.1.kind≠5) (fun _=>alH _) fun _=>alH _
end
section
open Go.RowKit
structure QOk (Q:Val→Prop) (E:iH):Prop where
 zero:Q ⟨0,0⟩
 ref:∀n:Nat,Q ⟨5,n⟩
 num:∀n:Nat,n≤600→Q ⟨2,n⟩
 un:∀n a,Q (E.U n a).1
 bin:∀n a b,Q (E.B n a b).1
structure ak6 (Q:Val→Prop) (w:aG):Prop where
 cells:∀c∈w.cells,c.vals.length≤600∧∀v∈c.vals,Q v
 vals:∀v∈w.vals,Q v
 regs:∀v∈w.regs,Q v
section
variable {Q:Val→Prop} {w:aG}
theorem alZ {l:List Val} (q0:Q ⟨0,0⟩) (h:∀v∈l,Q v) (i:Nat):Q ((l[i]?).getD ⟨0,0⟩):=by
 cases e:l[i]? with
 | none=>exact q0
 | some v=>exact h v (List.mem_of_getElem? e)
theorem amW {l:List Val} {u:Val} (h:∀v∈l,Q v) (hu:Q u):∀v∈l++[u],Q v:=fun v hv=>by
 rcases List.mem_append.1 hv with hv | hv
 ·exact h v hv
 ·rw[List.mem_singleton.1 hv];exact hu
theorem alW {l:List Val} {u:Val} (h:∀v∈l,Q v) (i:Nat) (hu:Q u):∀v∈l.set i u,Q v:=fun v hv=>by
 rcases List.mem_or_eq_of_mem_set hv with hv | hv
 ·exact h v hv
 ·rw[hv];exact hu
theorem ak6.val (h:ak6 Q w) (q0:Q ⟨0,0⟩) (v:Int):Q (bL w v):=alZ q0 h.vals _
theorem ak6.setV (h:ak6 Q w) (i:Nat) {v:Val} (hv:Q v):ak6 Q (setV w i v):=⟨h.cells,alW h.vals i hv,h.regs⟩
theorem ak6.setCW (h:ak6 Q w) (n:Nat) {d:bJ} (hd:d.vals.length≤600∧∀v∈d.vals,Q v):ak6 Q (setCW w n d):=by
 refine⟨fun c hc=>?_,h.vals,h.regs⟩
 rcases List.mem_or_eq_of_mem_set hc with hc | hc
 ·exact h.cells c hc
 ·rw[hc];exact hd
theorem ak6.cell (h:ak6 Q w) {v:Int} {n:Nat} {c:bJ} (hc:dG w v=some (n,c)):c.vals.length≤600∧∀v∈c.vals,Q v:=h.cells c (List.mem_of_getElem? (ad4 hc).1)
theorem ak6.fresh (h:ak6 Q w) (q5:∀n:Nat,Q ⟨5,n⟩) (i:Nat) (k:Int):ak6 Q (eP w i k).1:=by
 unfold eP
 split
 ·exact h
 ·refine⟨fun c hc=>?_,alW h.vals i (q5 _),h.regs⟩
  rcases List.mem_append.1 hc with hc | hc
  ·exact h.cells c hc
  ·rw[List.mem_singleton.1 hc];exact⟨Nat.zero_le _,fun v hv=>by simp at hv⟩
theorem ak6.do_ (h:ak6 Q w) {E:iH} (qo:QOk Q E) {self:Val} (hs:Q self) (sh:List aO) (i:Nat) (x:aT) (hk:x.op=2→Q x.k):ak6 Q (doI E self sh w i x).1:=by
 have P:∀ {c:Prop} [Decidable c] {a b:aG×Int},(c→ak6 Q a.1)→(¬c→ak6 Q b.1)→ak6 Q (if c then a else b).1:=fun {c} _ {a b} h1 h2=>cI (fun r:aG×Int=>ak6 Q r.1) h1 h2
 unfold doI
 refine P (fun _=>h.setV i (alZ qo.zero h.regs _)) fun _=>?_
 refine P (fun e=>h.setV i (hk e)) fun _=>?_
 refine P (fun _=>h.setV i hs) fun _=>?_
 refine P (fun _=>h) fun _=>?_
 refine P (fun _=>h.setV i (qo.bin _ _ _)) fun _=>?_
 refine P (fun _=>h.setV i (qo.un _ _)) fun _=>?_
 refine P (fun _=>?_) fun _=>?_
 ·unfold jK
  cases hc:dG w x.a with
  | none=>exact h
  | some nc=>
   obtain⟨n,c⟩:=nc
   have hv:=h.cell hc
   dsimp only
   refine P (fun _=>h) fun _=>?_
   refine P (fun _=>h.setV i (alZ qo.zero hv.2 _)) fun _=>?_
   exact P (fun _=>h.setCW n ⟨by rw[List.length_set];exact hv.1,alW hv.2 _ (h.val qo.zero _)⟩) fun _=>h.setV i (qo.num _ hv.1)
 refine P (fun _=>?_) fun _=>?_
 ·unfold lH
  cases hc:dG w x.a with
  | none=>exact h
  | some nc=>
   obtain⟨n,c⟩:=nc
   have hv:=h.cell hc
   dsimp only
   refine P (fun _=>h) fun _=>?_
   cases sh[x.n.toNat]? with
   | none=>exact h
   | some s=>exact P (fun _=>h) fun q=>h.setCW n ⟨by rw[List.length_append,List.length_singleton];omega,amW hv.2 (h.val qo.zero _)⟩
 refine P (fun _=>?_) fun _=>?_
 ·unfold nE
  cases hc:dG w x.a with
  | none=>exact h
  | some nc=>
   obtain⟨n,c⟩:=nc
   have hv:=h.cell hc
   dsimp only
   refine P (fun _=>h) fun _=>?_
   refine P (fun _=>h) fun _=>?_
   exact P (fun _=>h.setV i (alZ qo.zero hv.2 _)) fun _=>h.setCW n ⟨by rw[List.length_set];exact hv.1,alW hv.2 _ (h.val qo.zero _)⟩
 refine P (fun _=>h.fresh qo.ref _ _) fun _=>?_
 refine P (fun _=>?_) fun _=>?_
 ·unfold j6
  cases hc:dG w x.a with
  | none=>exact h
  | some nc=>
   obtain⟨n,c⟩:=nc
   have hv:=h.cell hc
   dsimp only
   refine P (fun _=>h) fun _=>?_
   refine P (fun q=>h.setCW n ⟨by rw[List.length_append,List.length_singleton];omega,amW hv.2 (h.val qo.zero _)⟩) fun _=>?_
   exact P (fun _=>h) fun _=>h
 exact P (fun _=>h) fun _=>h.fresh qo.ref _ _
theorem ak6.make (h:ak6 Q w) (q0:Q ⟨0,0⟩) (m:dX) (hm:m.vals.length≤600):ak6 Q (gF w m).1:=by
 unfold gF
 split
 ·exact h
 ·split
  ·exact h
  ·refine h.setCW _ ⟨by simpa using hm,fun v hv=>?_⟩
   obtain⟨u,_,rfl⟩:=List.mem_map.1 hv
   exact h.val q0 u
theorem ak6.makes (q0:Q ⟨0,0⟩):∀(l:List dX) (w:aG),ak6 Q w→(∀m∈l,m.vals.length≤600)→ak6 Q (eO w l).1
 | [],_,h,_=>h
 | m::l,w,h,hm=>by
  unfold eO
  split
  ·exact h.make q0 m (hm m (by simp))
  ·exact ak6.makes q0 l _ (h.make q0 m (hm m (by simp))) (fun k hk=>hm k (by simp[hk]))
theorem ak6.sets (q0:Q ⟨0,0⟩):∀(l:List oL) (w:aG),ak6 Q w→ak6 Q (gY w l)
 | [],_,h=>h
 | s::l,w,h=>ak6.sets q0 l { w with regs:=w.regs.set s.reg.toNat (bL w s.val) } ⟨h.cells,h.vals,alW h.regs _ (h.val q0 _)⟩
theorem ak6.end_ (h:ak6 Q w) (q0:Q ⟨0,0⟩) (x:bX) (hx:∀m∈x.makes,m.vals.length≤600):ak6 Q (g8 w x).1:=by
 have h1:=ak6.makes q0 x.makes w h hx
 unfold g8
 split
 ·exact h1
 ·have h2:=ak6.sets q0 x.sets _ h1
  exact⟨h2.cells,h2.vals,h2.regs⟩
end
def amD (x:bX):Prop:=∀m∈x.makes,m.vals.length≤600
theorem amG {ins:List aT} {at_:Int} : ∀(last:Int) (l:List dX),fI ins at_ last l=true→∀m∈l,m.vals.length≤600
 | _,[],_,m,hm=>by simp at hm
 | last,k::l,h,m,hm=>by
  simp only[fI,Bool.and_eq_true] at h
  rcases List.mem_cons.1 hm with rfl | hm
  ·have h2:=h.1.2
   simp only[mG,Bool.and_eq_true,decide_eq_true_eq] at h2
   have:=h2.1.2
   omega
  ·exact amG _ l h.2 m hm
theorem amF {fn:FnM} {ins:List aT} {x:bX} {at_:Int} (h:bN fn ins x at_=true):amD x:=by
 simp only[bN,Bool.and_eq_true] at h
 exact amG _ _ h.2
theorem am8 {R:Val→Bool} {ce:Int} {fns:List FnM} {t:aH} (h:cQ R ce fns t=0):amD t.turn∧amD t.back:=by
 obtain⟨-,-,fn,-,-,hl,-,h1,h2,h3,-⟩:=fD h
 refine⟨?_,amF h3.2⟩
 by_cases c:t.loop=0
 ·have h4:=h1 c
  simp only[kV,Bool.and_eq_true,List.isEmpty_iff] at h4
  intro m hm
  rw[h4.2] at hm;simp at hm
 ·exact amF (h2 (by omega)).2
def KQ (Q:Val→Prop) (t:aH):Prop:=∀i:Nat,(bT t i).op=2→Q (bT t i).k
def ak5 (v:Val):Prop:=aF v=true
theorem am9 {ce:Int} {fns:List FnM} {t:aH} (h:cQ aF ce fns t=0):KQ ak5 t:=fun i=>by
 unfold bT
 rw[show(i:Int).toNat=i from rfl]
 cases hx:t.ins[i]? with
 | none=>intro c;exact absurd (show(0:Int)=2 from c) (by decide)
 | some x=>
  intro c
  obtain⟨_,fn,h1⟩:=xH h
  obtain⟨_,h2⟩:=fW t.ins 0 h1 i x hx
  simp only[eJ,Bool.and_eq_true,Bool.not_eq_true',Bool.or_eq_false_iff] at h2
  have h3:=h2.1.2.1.2
  rw[show x.op=2 from c,show(bP 2).k=true by decide] at h3
  show aF x.k=true
  simpa using h3
structure FitQ (Q:Val→Prop) (S:aP):Prop where
 cells:∀c∈S.cells,c.vals.length≤600∧∀v∈c.vals,Q v
 frames:∀h∈S.threads,∀f∈h.frames,Q f.self∧∀v∈f.regs,Q v
theorem anK {S:aP} {v:Val} (h:eU aF S v=true):ak5 v:=by
 simp only[eU,Bool.and_eq_true] at h
 exact h.1
theorem aoA {p:aZ} {S:aP} {f:bC} (h:eC aF p S f=true):ak5 f.self∧∀v∈f.regs,ak5 v:=by
 simp only[eC,Bool.and_eq_true] at h
 refine⟨?_,fun v hv=>anK (List.all_eq_true.1 h.2 v hv)⟩
 have h2:=h.1.1.1.1.1.2
 cases e:bZ S f.self 4 with
 | none=>rw[e] at h2;cases h2
 | some x=>
  unfold bZ at e
  split at e
  ·cases e
  ·rename_i c
   unfold ak5 aF
   rw[if_neg (by omega),if_neg (by omega),if_neg (by omega),if_neg (by omega),if_pos (by omega)]
   exact decide_eq_true (by omega)
theorem amR {p:aZ} {S:aP} {W:List ByteArray} {cc:Int} (h:eN aF p S W cc=0):FitQ ak5 S:=by
 unfold eN at h
 split at h
 ·exact absurd h (by assumption)
 split at h
 ·exact absurd h (by assumption)
 rename_i c1
 split at h
 ·exact absurd h (by decide)
 split at h
 case isFalse=>exact absurd h (by decide)
 rename_i c2
 refine⟨fun c hc=>?_,fun x hx f hf=>?_⟩
 ·have c1:dN aF S W=0:=by omega
  unfold dN at c1
  split at c1
  ·exact absurd c1 (by decide)
  rename_i large
  split at c1
  ·exact absurd c1 (by assumption)
  split at c1
  ·exact absurd c1 (by decide)
  rename_i q
  simp only[Bool.or_eq_true,not_or] at q
  have q2:mN aF S c=true:=by
   cases e:mN aF S c with
   | true=>rfl
   | false=>exact absurd (List.any_eq_true.2 ⟨c,hc,by rw[e];rfl⟩) q.2
  simp only[mN,Bool.and_eq_true] at q2
  refine⟨?_,fun v hv=>anK (List.all_eq_true.1 q2.1.2 v hv)⟩
  rcases Nat.lt_or_ge 600 c.vals.length with g | g
  ·refine absurd ?_ large
   unfold rI
   rw[Bool.or_eq_true]
   refine .inr (List.any_eq_true.2 ⟨c,hc,?_⟩)
   rw[Bool.and_eq_true,Bool.or_eq_true]
   exact⟨decide_eq_true (by omega),.inr (decide_eq_true g)⟩
  ·exact g
 ·unfold pC at c2
  split at c2
  ·cases c2
  split at c2
  ·cases c2
  split at c2
  ·cases c2
  rename_i g e
  exact aoA (al2 _ _ _ e x hx f hf)
theorem FitQ.begin {Q:Val→Prop} {S:aP} (h:FitQ Q S) (q0:Q ⟨0,0⟩) {th:Nat} {hd:cD} {f:bC} (t:aH) (h1:S.threads[th]? = some hd) (h2:hd.frames.getLast? = some f):Q f.self∧ak6 Q (gG t S f):=by
 have F:=h.frames hd (List.mem_of_getElem? h1) f (List.mem_of_getLast? h2)
 exact⟨F.1,h.cells,fun v hv=>by rw[List.eq_of_mem_replicate hv];exact q0,F.2⟩
theorem alP (b:Bool):ak5 (mS b):=by cases b <;> rfl
theorem bits_lt (n:Int):pO n<2 ^ 64:=by
 unfold pO
 rw[IntKind.wrap_u64]
 omega
theorem an0 {b:Nat} (h:b<2 ^ 64):pO (wrap64 b)=b:=by
 unfold pO wrap64
 rw[IntKind.wrap_u64]
 omega
theorem an5:ak5 ⟨3,nanM⟩:=by
 unfold ak5 aF nanM
 rw[if_neg (by decide),if_neg (by decide),if_neg (by decide),if_pos rfl]
 simp
theorem rq_of {b:Nat} (h:b<2 ^ 64):ak5 (ofM b):=by
 unfold ofM
 split
 ·rename_i c
  unfold ak5 aF
  rw[if_neg (show ¬(3:Int)=0 by decide),if_neg (show ¬(3:Int)=1 by decide),if_neg (show ¬(3:Int)=2 by decide),if_pos rfl]
  unfold isNum
  rw[show pO (wrap64 (b:Int))=b from an0 h,c];rfl
 ·exact an5
theorem rq_ofB (o:BinOp) (x y:Nat):ak5 (ofB o x y):=by
 unfold ofB
 split
 ·rename_i r h
  have:=floatBits_wf h
  exact rq_of (by simpa [Lit.wf] using this)
 ·exact an5
theorem alY:ak5 ⟨0,0⟩:=rfl
theorem al7 (n:Int):ak5 (mR n).1:=by
 unfold mR
 refine cI (fun r:Val×Int=>ak5 r.1) (fun c=>?_) fun _=>alY
 simpa [ak5,aF,aL] using c
theorem amN (op:Int) (a b:Bool):ak5 (kR op a b).1:=by
 unfold kR
 refine cI (fun r:Val×Int=>ak5 r.1) (fun _=>alP _) fun _=>?_
 exact cI (fun r:Val×Int=>ak5 r.1) (fun _=>alP _) fun _=>alY
theorem amU:QOk ak5 ⟨qY,jV,oD⟩ where
 zero:=alY
 ref n:=by
  unfold ak5 aF
  rw[if_neg (show ¬(5:Int)=0 by decide),if_neg (show ¬(5:Int)=1 by decide),if_neg (show ¬(5:Int)=2 by decide),if_neg (show ¬(5:Int)=3 by decide),if_pos (.inr rfl)]
  exact decide_eq_true (Int.natCast_nonneg n)
 num n h:=by
  unfold ak5 aF
  rw[if_neg (show ¬(2:Int)=0 by decide),if_neg (show ¬(2:Int)=1 by decide),if_pos rfl]
  simp;omega
 un n a:=by
  show ak5 (qY n a).1
  unfold qY
  refine cI (fun r:Val×Int=>ak5 r.1) (fun _=>alP _) fun _=>?_
  refine cI (fun r:Val×Int=>ak5 r.1) (fun _=>al7 _) fun _=>?_
  refine cI (fun r:Val×Int=>ak5 r.1) (fun _=>rq_of ?_) fun _=>alY
  exact Nat.xor_lt_two_pow (bits_lt _) (by decide)
 bin n a b:=by
  show ak5 (jV n a b).1
  unfold jV
  refine cI (fun r:Val×Int=>ak5 r.1) (fun _=>?_) fun _=>?_
  ·unfold oH
   iterate 4 refine cI (fun r:Val×Int=>ak5 r.1) (fun _=>rq_ofB _ _ _) fun _=>?_
   exact cI (fun r:Val×Int=>ak5 r.1) (fun _=>alP _) fun _=>amN _ _ _
  refine cI (fun r:Val×Int=>ak5 r.1) (fun _=>alP _) fun _=>?_
  refine cI (fun r:Val×Int=>ak5 r.1) (fun _=>?_) fun _=>alY
  unfold pR
  iterate 3 refine cI (fun r:Val×Int=>ak5 r.1) (fun _=>al7 _) fun _=>?_
  refine cI (fun r:Val×Int=>ak5 r.1) (fun _=>?_) fun _=>amN _ _ _
  refine cI (fun r:Val×Int=>ak5 r.1) (fun _=>alY) fun _=>?_
  exact cI (fun r:Val×Int=>ak5 r.1) (fun _=>al7 _) fun _=>al7 _
end
end Go.Proofs.YtijihlcdhppfgaaGreatDoor
