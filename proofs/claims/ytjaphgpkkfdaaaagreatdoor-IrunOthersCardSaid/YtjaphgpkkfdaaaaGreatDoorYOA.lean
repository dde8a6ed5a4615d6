/- Part of the walk of the given code: plain laws, and what a state's parts are. -/
import Derived.Test.YtjaphgpkkfdaaaaGreatDoorYOL
import Derived.Test.YtjaphgpkkfdaaaaGreatDoorYOS
import Derived.Test.YtjaphgpkkfdaaaaGreatDoorZV
set_option maxHeartbeats 16000000
set_option maxRecDepth 100000
set_option linter.all false
namespace Go.Proofs.YtjaphgpkkfdaaaaGreatDoor
section
open Go.RowKit
theorem aiZ (n:Int):RowKit.intOf (.int .i64 n)=n:=rfl
theorem aiW {l j:Nat} (h:j<l) (hw:wrap64 ((j:Int)+1)=(j:Int)+1):l - (RowKit.intOf (.int .i64 (wrap64 ((j:Int)+1)))).toNat<l - (RowKit.intOf (.int .i64 (j:Int))).toNat:=by
 rw[aiZ,aiZ,hw]
 clear hw
 omega
theorem aiY {j:Nat} (hw:wrap64 ((j:Int)+1)=(j:Int)+1):Value.int .i64 (wrap64 ((j:Int)+1))=.int .i64 ((j+1:Nat):Int):=by rw[hw];rfl
theorem aiU:(Tryz.prog.info? 61).map (·.size)=some 8:=by kernel_rfl
theorem run_err {E:hV} {irc stc:Int} {t:aN} {S out:aR} {th turns exit n err:Int} (h:mY E irc stc t S th turns=(out,exit,n,err)) (he:err≠0):out=dL∧exit=0:=by
 unfold mY at h
 split at h
 ·cases h;exact⟨rfl,rfl⟩
 split at h
 ·cases h;exact⟨rfl,rfl⟩
 split at h
 ·cases h;exact⟨rfl,rfl⟩
 split at h
 ·cases h;exact⟨rfl,rfl⟩
 split at h
 ·cases h;exact⟨rfl,rfl⟩
 split at h
 ·cases h;exact⟨rfl,rfl⟩
 dsimp only at h
 split at h
 ·cases h;exact⟨rfl,rfl⟩
 split at h
 ·cases h;exact⟨rfl,rfl⟩
 ·injection h with _ h;injection h with _ h;injection h with _ h;exact absurd h.symm he
theorem irunOthers_walk (pcs tcs scs:List Value) (p:aW) (t:aN) (S:aR) (th tu:Int) (w:World) (hp:eL w w.heap.size pcs p) (ht:cT w w.heap.size tcs t) (hs:gK w w.heap.size scs S) (wth:wfi th) (wtu:wfi tu) (tab:Tab w) :
  Calls Tryz.prog 3 #[.agg ⟨pcs⟩,.agg ⟨tcs⟩,.agg ⟨scs⟩,.int .i64 th,.int .i64 tu] w (aM (.bool true) w):=by
 have HP0:=hI hp
 have HT0:=hI ht
 have HS0:=hI hs
 obtain⟨PA,pn,PB,pm,PD,pk,rfl,-⟩:=id hp
 obtain⟨B1,m1,B2,m2,B3,m3,B4,m4,B5,m5,B6,m6,rfl,-⟩:=ht.cells6
 obtain⟨c,s,x,tv,en,sa,rfl,hc,hsh,htx,hth',hen,hsa,wa,ws⟩:=id hs
 obtain⟨CA,cc,rfl,-⟩:=id hc
 obtain⟨SA,sc,rfl,-⟩:=id hsh
 obtain⟨XA,xc,rfl,-⟩:=id htx
 obtain⟨TA,tc,rfl,-⟩:=id hth'
 obtain⟨EA,ec,rfl,-⟩:=id hen
 obtain⟨AA,ac,rfl,-⟩:=id hsa
 obtain⟨w1,hw1⟩:∃w1,w1=((w.alloc (.cells #[.slice PA p.fns.length pn,.slice PB p.consts.length pm,.slice PD p.texts.length pk] 26)).alloc (.cells #[.int .i64 t.fn,.int .i64 t.at_,.int .i64 t.loop,.slice B1 t.ins.length m1,.slice B2 t.exits.length m2,.int .i64 t.turn.at_,.int .i64 t.turn.steps,.slice B3 t.turn.sets.length m3,.slice B4 t.turn.makes.length m4,.int .i64 t.back.at_,.int .i64 t.back.steps,.slice B5 t.back.sets.length m5,.slice B6 t.back.makes.length m6] 34)).alloc (.cells #[.slice CA S.cells.length cc,.slice SA S.shapes.length sc,.slice XA S.texts.length xc,.slice TA S.threads.length tc,.slice EA S.ends.length ec,.slice AA S.said.length ac,.int .i64 S.asked,.int .i64 S.steps] 40):=⟨_,rfl⟩
 have FB:=aeI w (.cells #[.slice PA p.fns.length pn,.slice PB p.consts.length pm,.slice PD p.texts.length pk] 26) (.cells #[.int .i64 t.fn,.int .i64 t.at_,.int .i64 t.loop,.slice B1 t.ins.length m1,.slice B2 t.exits.length m2,.int .i64 t.turn.at_,.int .i64 t.turn.steps,.slice B3 t.turn.sets.length m3,.slice B4 t.turn.makes.length m4,.int .i64 t.back.at_,.int .i64 t.back.steps,.slice B5 t.back.sets.length m5,.slice B6 t.back.makes.length m6] 34) (.cells #[.slice CA S.cells.length cc,.slice SA S.shapes.length sc,.slice XA S.texts.length xc,.slice TA S.threads.length tc,.slice EA S.ends.length ec,.slice AA S.said.length ac,.int .i64 S.asked,.int .i64 S.steps] 40)
 rw[←hw1] at FB
 obtain⟨f1,f2,f3,f5⟩:=FB
 have ROWP1:=hI f1
 have ROWT1:=hI f2
 have ROWS1:=hI f3
 have K1:=hI f5
 have HW1:=hI hw1
 have T0:=hI tab
 clear hp ht hs hc hsh htx hth' hen hsa wa ws hw1 f1 f2 f3 f5 tab
 have rb:=aeU tu 8 (by decide)
 obtain⟨n0,hn0⟩:∃n:Nat,aeH tu 8=(n:Int):=⟨(aeH tu 8).toNat,by omega⟩
 have RS:Hid (∀W,Calls Tryz.prog 13 #[.int .i64 tu,.int .i64 8] W (aM (.int .i64 n0) W)):=fun W=>by rw[←hn0];exact afC tu 8 W (by decide) (by decide)
 rw[hn0] at rb
 clear hn0 wtu
 go_enter Tryz.func3,Tryz.ntmps3
 go_upto_region 1 with fail
 rw[←HW1.out]
 go_cut [11,12,13,14] (fun c11 c12 c13 c14 wx=>∃(out:aR) (exit n err:Int) (ob:Nat) (ocs:List Value),c11=.pointer (some ⟨ob,0,none⟩)∧c12=.int .i64 exit∧c13=.int .i64 n∧c14=.int .i64 err∧Hid (mY cJ (acT p t) (wZ p S) t S th (n0:Int)=(out,exit,n,err))∧Hid (wx.heap[ob]? = some (.cells ⟨ocs⟩ 40 (0,0)))∧Hid (gK wx wx.heap.size ocs out)∧Hid (Below w1.heap.size w1 wx))
 case first=>
  have RUP:Hid (∀E:Up w1,E.to.rangeAt w.heap.size 0 [.slice PA p.fns.length pn,.slice PB p.consts.length pm,.slice PD p.texts.length pk]):=fun E=>(aeA ((E.below.block _ (aV ROWP1.out)).trans ROWP1.out)).range
  have RUT:Hid (∀E:Up w1,E.to.rangeAt (w.heap.size+1) 0 [.int .i64 t.fn,.int .i64 t.at_,.int .i64 t.loop,.slice B1 t.ins.length m1,.slice B2 t.exits.length m2,.int .i64 t.turn.at_,.int .i64 t.turn.steps,.slice B3 t.turn.sets.length m3,.slice B4 t.turn.makes.length m4,.int .i64 t.back.at_,.int .i64 t.back.steps,.slice B5 t.back.sets.length m5,.slice B6 t.back.makes.length m6]):=fun E=>(aeA ((E.below.block _ (aV ROWT1.out)).trans ROWT1.out)).range
  have RUS:Hid (∀E:Up w1,E.to.rangeAt (w.heap.size+1+1) 0 [.slice CA S.cells.length cc,.slice SA S.shapes.length sc,.slice XA S.texts.length xc,.slice TA S.threads.length tc,.slice EA S.ends.length ec,.slice AA S.said.length ac,.int .i64 S.asked,.int .i64 S.steps]):=fun E=>(aeA ((E.below.block _ (aV ROWS1.out)).trans ROWS1.out)).range
  obtain⟨r,hr⟩:∃r,mY cJ (acT p t) (wZ p S) t S th (n0:Int)=r:=⟨_,rfl⟩
  have RN:Hid (∀W,Below w1.heap.size w1 W→Calls Tryz.prog 12 #[.agg ⟨[.slice PA p.fns.length pn,.slice PB p.consts.length pm,.slice PD p.texts.length pk]⟩,.agg ⟨[.int .i64 t.fn,.int .i64 t.at_,.int .i64 t.loop,.slice B1 t.ins.length m1,.slice B2 t.exits.length m2,.int .i64 t.turn.at_,.int .i64 t.turn.steps,.slice B3 t.turn.sets.length m3,.slice B4 t.turn.makes.length m4,.int .i64 t.back.at_,.int .i64 t.back.steps,.slice B5 t.back.sets.length m5,.slice B6 t.back.makes.length m6]⟩,.agg ⟨[.slice CA S.cells.length cc,.slice SA S.shapes.length sc,.slice XA S.texts.length xc,.slice TA S.threads.length tc,.slice EA S.ends.length ec,.slice AA S.said.length ac,.int .i64 S.asked,.int .i64 S.steps]⟩,.int .i64 th,.int .i64 n0] W (aeG (mY cJ (acT p t) (wZ p S) t S th (n0:Int)) W)):=fun W k=>irun_c _ _ _ p t S th (n0:Int) W (HP0.out.below (K1.out.trans (k.mono K1.out.size))) (HT0.out.below (K1.out.trans (k.mono K1.out.size))) (HS0.out.below (K1.out.trans (k.mono K1.out.size))) wth (by unfold wfi;omega) (T0.out.below (K1.out.trans (k.mono K1.out.size)))
  rw[hr] at RN
  obtain⟨out,exit,n,err⟩:=r
  have HR:=hI hr
  unfold aeG at RN
  dsimp only at RN
  clear hr
  refine gQ (fun w'=>∃E:Up w1,w'=E.to) [0,1,2,3,4] [5,6,7,8,9,10,11,12,13,14,15] 12 #[true,true,true,true,true,false,false,false,false,false,false,false,false,false,false,false,false] _ (by kernel_rfl) (by kernel_rfl) (by simp only[List.filterMap_cons,List.filterMap_nil,List.getElem?_toArray,List.getElem?_cons_zero,List.getElem?_cons_succ];rfl) (fun _ _ d _ _ h=>by cases d <;> exact h) ⟨⟨_,(Below.refl _ w1).drew⟩,rfl⟩ ?_
  generalize hqq:(fun a'=>cN _ _ _ _ _ _ _ _ a' _)=qq
  have HQQ:=hI hqq
  clear hqq
  show wpQuiet _ _ _ _ [_,_,_,_,_] _
  refine aO 26 _ rfl rfl w.heap.size 0 rfl [.slice PA p.fns.length pn,.slice PB p.consts.length pm,.slice PD p.texts.length pk] _ RUP.out Tryz.underlying26 rfl zF ?_
  go_simp
  refine aO 34 _ rfl rfl (w.heap.size+1) 0 rfl [.int .i64 t.fn,.int .i64 t.at_,.int .i64 t.loop,.slice B1 t.ins.length m1,.slice B2 t.exits.length m2,.int .i64 t.turn.at_,.int .i64 t.turn.steps,.slice B3 t.turn.sets.length m3,.slice B4 t.turn.makes.length m4,.int .i64 t.back.at_,.int .i64 t.back.steps,.slice B5 t.back.sets.length m5,.slice B6 t.back.makes.length m6] _ RUT.out Tryz.underlying34 rfl rP ?_
  go_simp
  refine aO 40 _ rfl rfl (w.heap.size+1+1) 0 rfl [.slice CA S.cells.length cc,.slice SA S.shapes.length sc,.slice XA S.texts.length xc,.slice TA S.threads.length tc,.slice EA S.ends.length ec,.slice AA S.said.length ac,.int .i64 S.asked,.int .i64 S.steps] _ RUS.out Tryz.underlying40 rfl eC ?_
  go_simp
  repeat (go_big_quiet_step (fail))
  refine wpQuiet_nil ?_
  rw[←HQQ.out]
  clear HQQ qq
  have K0:Hid (Below w1.heap.size w1 w1.drew):=(Below.refl _ w1).drew
  clear RUP RUT RUS
  refine qU (i:=5) (k:=12) (by kernel_rfl) rfl rfl (fun K hK=>?_) (fun K hK=>?_)
  ·go_simp
   refine(RS.out w1.drew).mono ?_
   rintro e w2 ⟨rfl,kk⟩
   have K2:=btZ K0 kk
   have kr:=hI kk
   clear kk
   refine hK _ _ (fun _=>⟨⟨w2,K2.out⟩,rfl⟩) ?_
   clear hK K
   have hz1:w1.heap.size≤w2.heap.size:=K2.out.size
   refine qU (i:=6) (k:=12) (by kernel_rfl) rfl rfl (fun K hK=>?_) (fun K hK=>?_)
   ·go_simp
    refine(RN.out w2 K2.out).mono ?_
    rintro e w3 ⟨ocs,rfl,hout',kk⟩
    have hout:=hout' w3 (fun _ _ _=>rfl) (Nat.le_refl _)
    have HO:=hI hout'
    have K3:=btZ K2 kk
    have KR:=hI kk
    obtain⟨c,s,x,tv,en,sa,rfl,hc,hsh,htx,hth',hen,hsa,-⟩:=id hout
    obtain⟨CO,co,rfl,-⟩:=id hc
    obtain⟨SO,so,rfl,-⟩:=id hsh
    obtain⟨XO,xo,rfl,-⟩:=id htx
    obtain⟨TO,uo,rfl,-⟩:=id hth'
    obtain⟨EO,eo,rfl,-⟩:=id hen
    obtain⟨AO,ao,rfl,-⟩:=id hsa
    have HTH:=hI hth'
    clear hc hsh htx hth' hen hsa
    clear kk hout hout' HTH
    refine hK _ _ (fun _=>⟨⟨w3,K3.out⟩,rfl⟩) ?_
    clear hK K
    refine fJ [7,8,9,10,11] 5 #[true,true,true,true,true,true,true,true,true,true,true,true,false,false,false,false,false] _ (by kernel_rfl) rfl (by simp only[List.filterMap_cons,List.filterMap_nil,List.getElem?_toArray,List.getElem?_cons_zero,List.getElem?_cons_succ];rfl) (fun _ _ d _ _ h=>by cases d <;> exact h) ⟨⟨w3,K3.out⟩,rfl⟩ ?_
    generalize hqq:(fun a'=>cN _ _ _ _ _ _ _ _ a' _)=qq
    have HQQ:=hI hqq
    clear hqq
    show wpQuiet _ _ _ _ [_,_,_,_,_] _
    repeat (go_big_quiet_step (fail))
    refine wpQuiet_nil ?_
    rw[←HQQ.out]
    clear HQQ qq
    refine d9 [12,13,14,15,16] _ _ _ (by kernel_rfl) ?_
    refine bA rfl (fun K hK=>?_)
    go_simp
    have hz3:w1.heap.size≤w3.heap.size:=K3.out.size
    refine hK _ _ (fun _=>⟨⟨_,K3.out.alloc hz3 _⟩,rfl⟩) ?_
    clear hK K
    have HR9:=hI (aJ w3 (.cells #[.slice none 0 0,.slice none 0 0,.slice none 0 0,.slice none 0 0,.slice none 0 0,.slice none 0 0,.int .i64 0,.int .i64 0] 40))
    refine bA rfl (fun K hK=>?_)
    rw[if_pos (by rfl)]
    refine wp_store_row 40 _ _ rfl w3.heap.size #[.slice CO out.cells.length co,.slice SO out.shapes.length so,.slice XO out.texts.length xo,.slice TO out.threads.length uo,.slice EO out.ends.length eo,.slice AO out.said.length ao,.int .i64 out.asked,.int .i64 out.steps] rfl rfl 40 _ HR9.out eC rfl (all_oneCell_toArray (by simp[Value.oneCell'])) ?_
    generalize hw9:World.setRow _ _ _=w9
    have ROW9:=shZ hw9 HR9
    have HO9:Hid (gK w9 w9.heap.size [.slice CO out.cells.length co,.slice SO out.shapes.length so,.slice XO out.texts.length xo,.slice TO out.threads.length uo,.slice EO out.ends.length eo,.slice AO out.said.length ao,.int .i64 out.asked,.int .i64 out.steps] out):=HO.out w9 (fun b h1 h2=>by rw[←hw9];exact(setRow_other _ _ _ _ (by omega)).trans ((aB w3 _).block b h2)) (by rw[←hw9];simp)
    have K9:Hid (Below w1.heap.size w1 w9):=by rw[←hw9];exact Below.set_row (K3.out.alloc hz3 _) (by omega) _
    clear hw9
    refine hK _ _ (fun _=>⟨⟨w9,K9.out⟩,rfl⟩) ?_
    clear hK K
    refine bA rfl (fun K hK=>?_)
    go_simp
    refine hK _ _ (fun _=>⟨⟨w9,K9.out⟩,rfl⟩) ?_
    clear hK K
    refine bA rfl (fun K hK=>?_)
    go_simp
    refine hK _ _ (fun _=>⟨⟨w9,K9.out⟩,rfl⟩) ?_
    clear hK K
    refine bP [16] _ _ (by kernel_rfl) (by kernel_rfl) ?_
    simp only[List.filterMap_cons,List.filterMap_nil,List.getElem?_toArray,List.getElem?_cons_zero,List.getElem?_cons_succ]
    show wpList _ _ _ [_] _ _
    go_wp2_with fail
    go_meet
    case rel=>exact⟨out,exit,n,err,w3.heap.size,_,rfl,rfl,rfl,rfl,HR,ROW9,HO9,K9⟩
   ·go_simp
    have K2a:Hid (Below w1.heap.size w1 (w2.alloc (.cells #[.slice none 0 0,.slice none 0 0,.slice none 0 0,.slice none 0 0,.slice none 0 0,.slice none 0 0,.int .i64 0,.int .i64 0] 40))):=K2.out.alloc hz1 _
    refine hK _ _ (fun _=>⟨⟨_,K2a.out⟩,rfl⟩) ?_
    clear hK K
    refine jJ (i:=6) (by kernel_rfl) rfl (fun K hK=>?_)
    go_simp
    refine(RN.out (w2.alloc (.cells #[.slice none 0 0,.slice none 0 0,.slice none 0 0,.slice none 0 0,.slice none 0 0,.slice none 0 0,.int .i64 0,.int .i64 0] 40)) K2a.out).mono ?_
    rintro e w3 ⟨ocs,rfl,hout',kk⟩
    have hout:=hout' w3 (fun _ _ _=>rfl) (Nat.le_refl _)
    have HO:=hI hout'
    have K3:=btZ K2a kk
    have KR:=hI kk
    obtain⟨c,s,x,tv,en,sa,rfl,hc,hsh,htx,hth',hen,hsa,-⟩:=id hout
    obtain⟨CO,co,rfl,-⟩:=id hc
    obtain⟨SO,so,rfl,-⟩:=id hsh
    obtain⟨XO,xo,rfl,-⟩:=id htx
    obtain⟨TO,uo,rfl,-⟩:=id hth'
    obtain⟨EO,eo,rfl,-⟩:=id hen
    obtain⟨AO,ao,rfl,-⟩:=id hsa
    have HTH:=hI hth'
    clear hc hsh htx hth' hen hsa
    clear kk hout hout' HTH
    refine hK _ _ (fun _=>⟨⟨w3,K3.out⟩,rfl⟩) ?_
    clear hK K
    refine fJ [7,8,9,10,11] 4 #[true,true,true,true,true,true,true,true,true,true,true,true,true,false,false,false,false] _ (by kernel_rfl) rfl (by simp only[List.filterMap_cons,List.filterMap_nil,List.getElem?_toArray,List.getElem?_cons_zero,List.getElem?_cons_succ];rfl) (fun _ _ d _ _ h=>by cases d <;> exact h) ⟨⟨w3,K3.out⟩,rfl⟩ ?_
    generalize hqq:(fun a'=>cN _ _ _ _ _ _ _ _ a' _)=qq
    have HQQ:=hI hqq
    clear hqq
    show wpQuiet _ _ _ _ [_,_,_,_,_] _
    repeat (go_big_quiet_step (fail))
    refine wpQuiet_nil ?_
    rw[←HQQ.out]
    clear HQQ qq
    refine d9 [13,14,15,16] _ _ _ (by kernel_rfl) ?_
    have HR9:=hI ((KR.out.block _ (by simp)).trans (aJ w2 (.cells #[.slice none 0 0,.slice none 0 0,.slice none 0 0,.slice none 0 0,.slice none 0 0,.slice none 0 0,.int .i64 0,.int .i64 0] 40)))
    refine bA rfl (fun K hK=>?_)
    rw[if_pos (by rfl)]
    refine wp_store_row 40 _ _ rfl w2.heap.size #[.slice CO out.cells.length co,.slice SO out.shapes.length so,.slice XO out.texts.length xo,.slice TO out.threads.length uo,.slice EO out.ends.length eo,.slice AO out.said.length ao,.int .i64 out.asked,.int .i64 out.steps] rfl rfl 40 _ HR9.out eC rfl (all_oneCell_toArray (by simp[Value.oneCell'])) ?_
    generalize hw9:World.setRow _ _ _=w9
    have ROW9:=shZ hw9 HR9
    have HO9:Hid (gK w9 w9.heap.size [.slice CO out.cells.length co,.slice SO out.shapes.length so,.slice XO out.texts.length xo,.slice TO out.threads.length uo,.slice EO out.ends.length eo,.slice AO out.said.length ao,.int .i64 out.asked,.int .i64 out.steps] out):=HO.out w9 (fun b h1 h2=>by rw[←hw9];exact setRow_other _ _ _ _ (by simp at h1;omega)) (by rw[←hw9];simp)
    have K9:Hid (Below w1.heap.size w1 w9):=by rw[←hw9];exact Below.set_row K3.out (by omega) _
    clear hw9
    refine hK _ _ (fun _=>⟨⟨w9,K9.out⟩,rfl⟩) ?_
    clear hK K
    refine bA rfl (fun K hK=>?_)
    go_simp
    refine hK _ _ (fun _=>⟨⟨w9,K9.out⟩,rfl⟩) ?_
    clear hK K
    refine bA rfl (fun K hK=>?_)
    go_simp
    refine hK _ _ (fun _=>⟨⟨w9,K9.out⟩,rfl⟩) ?_
    clear hK K
    refine bP [16] _ _ (by kernel_rfl) (by kernel_rfl) ?_
    simp only[List.filterMap_cons,List.filterMap_nil,List.getElem?_toArray,List.getElem?_cons_zero,List.getElem?_cons_succ]
    show wpList _ _ _ [_] _ _
    go_wp2_with fail
    go_meet
    case rel=>exact⟨out,exit,n,err,w2.heap.size,_,rfl,rfl,rfl,rfl,HR,ROW9,HO9,K9⟩
  ·go_simp
   have K1a:Hid (Below w1.heap.size w1 (w1.drew.alloc (.cells #[.slice none 0 0,.slice none 0 0,.slice none 0 0,.slice none 0 0,.slice none 0 0,.slice none 0 0,.int .i64 0,.int .i64 0] 40))):=K0.out.alloc (Nat.le_refl _) _
   refine hK _ _ (fun _=>⟨⟨_,K1a.out⟩,rfl⟩) ?_
   clear hK K
   refine jJ (i:=5) (by kernel_rfl) rfl (fun K hK=>?_)
   go_simp
   refine(RS.out (w1.drew.alloc (.cells #[.slice none 0 0,.slice none 0 0,.slice none 0 0,.slice none 0 0,.slice none 0 0,.slice none 0 0,.int .i64 0,.int .i64 0] 40))).mono ?_
   rintro e w2 ⟨rfl,kk⟩
   have K2:=btZ K1a kk
   have kr:=hI kk
   clear kk
   refine hK _ _ (fun _=>⟨⟨w2,K2.out⟩,rfl⟩) ?_
   clear hK K
   have hz2:w1.heap.size<w2.heap.size:=by have:=kr.out.size;simp at this;omega
   have R2:Hid (w2.heap[w1.heap.size]? = _):=(kr.out.block _ (by simp)).trans (aJ w1.drew (.cells #[.slice none 0 0,.slice none 0 0,.slice none 0 0,.slice none 0 0,.slice none 0 0,.slice none 0 0,.int .i64 0,.int .i64 0] 40))
   refine jJ (i:=6) (by kernel_rfl) rfl (fun K hK=>?_)
   go_simp
   refine(RN.out w2 K2.out).mono ?_
   rintro e w3 ⟨ocs,rfl,hout',kk⟩
   have hout:=hout' w3 (fun _ _ _=>rfl) (Nat.le_refl _)
   have HO:=hI hout'
   have K3:=btZ K2 kk
   have KR:=hI kk
   obtain⟨c,s,x,tv,en,sa,rfl,hc,hsh,htx,hth',hen,hsa,-⟩:=id hout
   obtain⟨CO,co,rfl,-⟩:=id hc
   obtain⟨SO,so,rfl,-⟩:=id hsh
   obtain⟨XO,xo,rfl,-⟩:=id htx
   obtain⟨TO,uo,rfl,-⟩:=id hth'
   obtain⟨EO,eo,rfl,-⟩:=id hen
   obtain⟨AO,ao,rfl,-⟩:=id hsa
   have HTH:=hI hth'
   clear hc hsh htx hth' hen hsa
   clear kk hout hout' HTH
   refine hK _ _ (fun _=>⟨⟨w3,K3.out⟩,rfl⟩) ?_
   clear hK K
   refine fJ [7,8,9,10,11] 4 #[true,true,true,true,true,true,true,true,true,true,true,true,true,false,false,false,false] _ (by kernel_rfl) rfl (by simp only[List.filterMap_cons,List.filterMap_nil,List.getElem?_toArray,List.getElem?_cons_zero,List.getElem?_cons_succ];rfl) (fun _ _ d _ _ h=>by cases d <;> exact h) ⟨⟨w3,K3.out⟩,rfl⟩ ?_
   generalize hqq:(fun a'=>cN _ _ _ _ _ _ _ _ a' _)=qq
   have HQQ:=hI hqq
   clear hqq
   show wpQuiet _ _ _ _ [_,_,_,_,_] _
   repeat (go_big_quiet_step (fail))
   refine wpQuiet_nil ?_
   rw[←HQQ.out]
   clear HQQ qq
   refine d9 [13,14,15,16] _ _ _ (by kernel_rfl) ?_
   have HR9:=hI ((KR.out.block _ hz2).trans R2.out)
   refine bA rfl (fun K hK=>?_)
   rw[if_pos (by rfl)]
   refine wp_store_row 40 _ _ rfl w1.heap.size #[.slice CO out.cells.length co,.slice SO out.shapes.length so,.slice XO out.texts.length xo,.slice TO out.threads.length uo,.slice EO out.ends.length eo,.slice AO out.said.length ao,.int .i64 out.asked,.int .i64 out.steps] rfl rfl 40 _ HR9.out eC rfl (all_oneCell_toArray (by simp[Value.oneCell'])) ?_
   generalize hw9:World.setRow _ _ _=w9
   have ROW9:=shZ hw9 HR9
   have HO9:Hid (gK w9 w9.heap.size [.slice CO out.cells.length co,.slice SO out.shapes.length so,.slice XO out.texts.length xo,.slice TO out.threads.length uo,.slice EO out.ends.length eo,.slice AO out.said.length ao,.int .i64 out.asked,.int .i64 out.steps] out):=HO.out w9 (fun b h1 h2=>by rw[←hw9];exact setRow_other _ _ _ _ (by omega)) (by rw[←hw9];simp)
   have K9:Hid (Below w1.heap.size w1 w9):=by rw[←hw9];exact Below.set_row K3.out (by omega) _
   clear hw9
   refine hK _ _ (fun _=>⟨⟨w9,K9.out⟩,rfl⟩) ?_
   clear hK K
   refine bA rfl (fun K hK=>?_)
   go_simp
   refine hK _ _ (fun _=>⟨⟨w9,K9.out⟩,rfl⟩) ?_
   clear hK K
   refine bA rfl (fun K hK=>?_)
   go_simp
   refine hK _ _ (fun _=>⟨⟨w9,K9.out⟩,rfl⟩) ?_
   clear hK K
   refine bP [16] _ _ (by kernel_rfl) (by kernel_rfl) ?_
   simp only[List.filterMap_cons,List.filterMap_nil,List.getElem?_toArray,List.getElem?_cons_zero,List.getElem?_cons_succ]
   show wpList _ _ _ [_] _ _
   go_wp2_with fail
   go_meet
   case rel=>exact⟨out,exit,n,err,w1.heap.size,_,rfl,rfl,rfl,rfl,HR,ROW9,HO9,K9⟩
 case rest=>
 obtain⟨w4,hw4⟩:∃ww,ww=wc:=⟨_,rfl⟩
 subst hw4
 obtain⟨out,exit,n,err,ob,ocs,rfl,rfl,rfl,rfl,HR,ROWO4,HOUT,K14⟩:=hcut
 have hout:=HOUT.out
 obtain⟨c,s,x,tv,en,sa,rfl,hc,hsh,htx,hth',hen,hsa,-⟩:=id hout
 obtain⟨CO,co,rfl,-⟩:=id hc
 obtain⟨SO,so,rfl,-⟩:=id hsh
 obtain⟨XO,xo,rfl,-⟩:=id htx
 obtain⟨TO,uo,rfl,-⟩:=id hth'
 obtain⟨EO,eo,rfl,-⟩:=id hen
 obtain⟨AO,ao,rfl,-⟩:=id hsa
 have HTH:=hI hth'
 clear hc hsh htx hth' hen hsa
 clear hout
 have K4:=btZ K1 K14.out
 have ROWS4:=rkZ ROWS1 K14.out
 by_cases he:err=0
 case neg=>
  obtain⟨rfl,rfl⟩:=run_err HR.out he
  have hb:(err != 0)=true:=bne_iff_ne.2 he
  clear he
  go_wp2_with fail
  refine(irred_c w4).mono ?_
  rintro e w5 ⟨rfl,kk⟩
  have K5:=btZ K4 kk
  have c0:w5.cell? ⟨ob,0,none⟩=some (.slice CO 0 co):=(kk.cell (aV ROWO4.out)).trans (cell_of_row w4 _ 0 _ _ _ ROWO4.out)
  have c3:w5.cell? ⟨ob,3,none⟩=some (.slice TO 0 uo):=(kk.cell (aV ROWO4.out)).trans (cell_of_row w4 _ 3 _ _ _ ROWO4.out)
  clear kk
  go_wp2_with fail
  go_ret
  exact⟨rfl,K5.out⟩
 subst he
 obtain⟨hirc,-⟩:=uN HR.out
 obtain⟨fn,-,-,hfine⟩:=yK hirc
 obtain⟨g1,g2,g3,g4,g5,g6,g7,g8⟩:=irun_others (qI hirc) (adR hirc) hfine HR.out
 obtain⟨oc,osh,ox,oth,oen,osd,oas,ost⟩:=out
 dsimp only at g1 g2 g3 g4 g5 g6 g7 g8 ROWO4 HOUT HTH
 subst g2 g3 g4 g5
 rw[g7] at ROWO4
 have H6:=hI g6
 have H8:=hI g8
 have HL:=hI g7
 have hcl:decide ((oc.length:Int)<S.cells.length)=false:=decide_eq_false (by have:=g6.len;omega)
 have hsl:decide (ost<S.steps)=false:=decide_eq_false (by omega)
 have hsl2:S.steps≤ost:=by omega
 have hcl2:S.cells.length≤oc.length:=g6.len
 clear g1 g6 g7 g8 hfine hirc fn HR
 obtain⟨_,_,_,_,_,_,hq,hC,hSh,hTx,hTh,-,hSa,-⟩:=HS0.out
 simp only[List.cons.injEq] at hq
 obtain⟨rfl,rfl,rfl,rfl,-,rfl,-⟩:=hq
 have lcs:=aP hC
 have lts:=aP hTh
 have LCS:=hI lcs
 have LTS:=hI lts
 clear lcs lts
 have SC0:=hI hC
 have SH0:=hI hSh
 have SX0:=hI hTx
 have ST0:=hI hTh
 have SA0:=hI hSa
 obtain⟨_,_,_,_,_,_,hq,hC,hSh,hTx,hTh,-,hSa,-⟩:=HOUT.out
 simp only[List.cons.injEq] at hq
 obtain⟨rfl,rfl,rfl,h3,-,rfl,-⟩:=hq
 rw[←h3] at hTh
 have OC0:=hI hC
 have OH0:=hI hSh
 have OX0:=hI hTx
 have OT0:=hI hTh
 have OA0:=hI hSa
 clear hC hSh hTx hTh hSa h3 HTH HOUT
 have KX4:Hid (Below w4.heap.size w4 w4):=Below.refl _ _
 have o0:=crZ ROWO4 0 rfl
 have o3:=crZ ROWO4 3 rfl
 have o5:=crZ ROWO4 5 rfl
 have s0:=crZ ROWS4 0 rfl
 have s3:=crZ ROWS4 3 rfl
 have s5:=crZ ROWS4 5 rfl
 go_wp2_with fail
 refine(aiX _ _ _ _ _ w4 (OA0.out.keep KX4.out.size (fun _ hp=>KX4.out.cell hp) (fun _ _ h=>h)) (SA0.out.keep K4.out.size (fun _ hp=>K4.out.cell hp) (fun _ _ h=>h))).mono ?_
 rintro e w5 ⟨rfl,kk⟩
 have K5:=btZ K4 kk
 have ROWS5:=rkZ ROWS4 kk
 have ROWO5:=rkZ ROWO4 kk
 have KY5:=hI kk
 clear kk o0 s0 o3 s3 o5 s5
 have KX5:=btZ KX4 KY5.out
 have o1:=crZ ROWO5 1 rfl
 have o6:=crZ ROWO5 6 rfl
 have s1:=crZ ROWS5 1 rfl
 have s6:=crZ ROWS5 6 rfl
 go_wp2_with fail
 refine(req_shp _ _ _ _ _ w5 (OH0.out.keep KX5.out.size (fun _ hp=>KX5.out.cell hp) (fun _ _ h=>h)) (SH0.out.keep K5.out.size (fun _ hp=>K5.out.cell hp) (fun _ _ h=>h))).mono ?_
 rintro e w6 ⟨rfl,kk⟩
 have K6:=btZ K5 kk
 have ROWS6:=rkZ ROWS5 kk
 have ROWO6:=rkZ ROWO5 kk
 have KY6:=hI kk
 clear kk o1 s1 o6 s6
 have KX6:=btZ KX5 KY6.out
 have o2:=crZ ROWO6 2 rfl
 have s2:=crZ ROWS6 2 rfl
 go_wp2_with fail
 refine(req_str _ _ _ _ _ w6 (OX0.out.keep KX6.out.size (fun _ hp=>KX6.out.cell hp) (fun _ _ h=>h)) (SX0.out.keep K6.out.size (fun _ hp=>K6.out.cell hp) (fun _ _ h=>h))).mono ?_
 rintro e w7 ⟨rfl,kk⟩
 have K7:=btZ K6 kk
 have ROWS7:=rkZ ROWS6 kk
 have ROWO7:=rkZ ROWO6 kk
 have KY7:=hI kk
 clear kk o2 s2
 have KX7:=btZ KX6 KY7.out
 have o7:=crZ ROWO7 7 rfl
 have s0:=crZ ROWS7 0 rfl
 have s7:=crZ ROWS7 7 rfl
 go_wp2_with fail
 clear o7 s0 s7
 go_loopw [106] (fun i wx=>∃a:Nat,i=.int .i64 a∧a≤S.cells.length∧Hid (Below w7.heap.size w7 wx)) (fun i _=>S.cells.length - (RowKit.intOf i).toNat)
 case atStart=>exact⟨0,rfl,by omega,Below.refl _ _⟩
 case round=>
  obtain⟨a,rfl,ha,KW⟩:=hrel
  by_cases hlt:a<S.cells.length
  ·have hai:(a:Int)<S.cells.length:=by omega
   have ROWSr:=hI ((KW.out.block _ (aV ROWS7.out)).trans ROWS7.out)
   have ROWOr:=hI ((KW.out.block _ (aV ROWO7.out)).trans ROWO7.out)
   have KSr:=btZ K7 KW.out
   have KOr:=btZ KX7 KW.out
   have HLT:=hI hlt
   have HWR:Hid (wrap64 ((a:Int)+1)=(a:Int)+1):=by show _=_;have:=LCS.out;unfold wrap64;omega
   obtain⟨b,off,y,ys,rfl,hb,hy,-,⟨_,_,rfl,⟨_,_,rfl,-⟩,-⟩,hat⟩:=SC0.out.at_ hlt
   obtain⟨y',hy',hk1,hk2⟩:=H6.out a y hy
   obtain⟨b',off',z,zs,rfl,hb',hz,-,⟨_,_,rfl,⟨_,_,rfl,-⟩,-⟩,hat'⟩:=OC0.out.at_ (lE hy').1
   rw[hy'] at hz;injection hz with hz;subst hz
   have hao:(a:Int)<oc.length:=by have:=(lE hy').1;omega
   have s0:=ecZ (crZ ROWSr 0 rfl)
   have o0:=ecZ (crZ ROWOr 0 rfl)
   have x0:∀E:Up wr,E.to.cell? ⟨b,off+a*4,none⟩=some (.int .i64 y.kind):=fun E=>E.cell ((KSr.out.cell hb).trans (hat 0 _ rfl))
   have x2:∀E:Up wr,E.to.cell? ⟨b,off+a*4+2,none⟩=_:=fun E=>E.cell ((KSr.out.cell hb).trans (hat 2 _ rfl))
   have y0:∀E:Up wr,E.to.cell? ⟨b',off'+a*4,none⟩=some (.int .i64 y.kind):=fun E=>E.cell ((KOr.out.cell hb').trans (by rw[←hk1];exact hat' 0 _ rfl))
   have y2:∀E:Up wr,E.to.cell? ⟨b',off'+a*4+2,none⟩=_:=fun E=>E.cell ((KOr.out.cell hb').trans (hat' 2 _ rfl))
   have hvl2:y.vals.length≤y'.vals.length:=hk2
   have hvl:decide ((y'.vals.length:Int)<y.vals.length)=false:=decide_eq_false (by omega)
   clear hat hat' hy hy' hk1 hk2
   go_upto_region 9 with fail
   refine aD (by kernel_rfl) (by kernel_rfl) ?_
   repeat (go_big_quiet_step (fail))
   refine wpQuiet_nil ?_
   rintro _ ⟨E,rfl⟩
   obtain⟨w8,k9⟩:=E
   dsimp only
   have K8:=hI k9
   clear k9 s0 o0 x0 x2 y0 y2
   go_wp2_with fail
   go_roundw
   case rel=>exact⟨a+1,(by first | exact aiY HWR.out | go_num),HLT.out,KW.out.trans (K8.out.mono KW.out.size)⟩
   case measure=>first | exact aiW HLT.out HWR.out | (simp[RowKit.intOf];omega)
  ·obtain rfl:a=S.cells.length:=by omega
   have hai:¬(S.cells.length:Int)<S.cells.length:=by omega
   have ROWSr:=hI ((KW.out.block _ (aV ROWS7.out)).trans ROWS7.out)
   have KSr:=btZ K7 KW.out
   have s3:=crZ ROWSr 3 rfl
   go_wp2_with fail
   clear s3 hai
   obtain⟨wb,hwb⟩:∃ww,ww=wr:=⟨_,rfl⟩
   rw[←hwb]
   have HWB:=hI hwb
   clear hwb
   rw[←HWB.out] at KW KSr ROWSr
   clear HWB
   go_loopw [143] (fun i wx=>∃a:Nat,i=.int .i64 a∧a≤S.threads.length∧Hid (Below w7.heap.size w7 wx)) (fun i _=>S.threads.length - (RowKit.intOf i).toNat)
   case atStart=>exact⟨0,rfl,by omega,KW.out⟩
   case round=>
    obtain⟨a,rfl,ha,KV⟩:=hrel
    by_cases hlt:a<S.threads.length
    ·have hai:(a:Int)<S.threads.length:=by omega
     have ROWSr:=hI ((KV.out.block _ (aV ROWS7.out)).trans ROWS7.out)
     have ROWOr:=hI ((KV.out.block _ (aV ROWO7.out)).trans ROWO7.out)
     have KSr:=btZ K7 KV.out
     have KOr:=btZ KX7 KV.out
     have HLT:=hI hlt
     have HWR:Hid (wrap64 ((a:Int)+1)=(a:Int)+1):=by show _=_;have:=LTS.out;unfold wrap64;omega
     obtain⟨b,off,y,ys,rfl,hb,hy,-,⟨_,rfl,hfy,-⟩,hat⟩:=ST0.out.at_ hlt
     obtain⟨y',hy',hk1,hk2⟩:=H8.out a y hy
     obtain⟨b',off',z,zs,rfl,hb',hz,-,⟨_,rfl,hfz,-⟩,hat'⟩:=OT0.out.at_ (show a<oth.length by have:=HL.out;omega)
     rw[hy'] at hz;injection hz with hz;subst hz
     obtain⟨FA,fc,rfl,-⟩:=id hfy
     obtain⟨GA,gc,rfl,-⟩:=id hfz
     rw[hk1] at hfz hat'
     have lf:=aP hfy
     have FY:=hI hfy
     have FZ:=hI hfz
     have HK2:=hI hk2
     have HK1:=hI hk1
     have s3:=ecZ (crZ ROWSr 3 rfl)
     have o3:=ecZ (crZ ROWOr 3 rfl)
     have x0:∀E:Up wr,E.to.cell? ⟨b,off+a*5,none⟩=some (.slice FA y.frames.length fc):=fun E=>E.cell ((KSr.out.cell hb).trans (hat 0 _ rfl))
     have y0:∀E:Up wr,E.to.cell? ⟨b',off'+a*5,none⟩=some (.slice GA y.frames.length gc):=fun E=>E.cell ((KOr.out.cell hb').trans (hat' 0 _ rfl))
     clear hat hat' hy hy' hk1 hk2 hfy hfz
     go_upto_region 15 with fail
     refine aD (by kernel_rfl) (by kernel_rfl) ?_
     repeat (go_big_quiet_step (fail))
     refine wpQuiet_nil ?_
     rintro _ ⟨E,rfl⟩
     obtain⟨w8,k9⟩:=E
     dsimp only
     have K8:=btZ KV k9
     clear k9 s3 o3 x0 y0
     go_wp2_with fail
     go_loopw [165] (fun i wx=>∃c:Nat,i=.int .i64 c∧c≤y.frames.length∧Hid (Below w7.heap.size w7 wx)) (fun i _=>y.frames.length - (RowKit.intOf i).toNat)
     case atStart=>exact⟨0,rfl,by omega,K8.out⟩
     case round=>
      obtain⟨c,rfl,hc,KU⟩:=hrel
      by_cases hlc:c<y.frames.length
      ·have hci:(c:Int)<y.frames.length:=by omega
       have HLC:=hI hlc
       have HWC:Hid (wrap64 ((c:Int)+1)=(c:Int)+1):=by show _=_;unfold wrap64;omega
       have hw1c:wrap64 ((y.frames.length:Int) - 1)=(y.frames.length:Int) - 1:=by unfold wrap64;omega
       have KS9:=btZ K7 KU.out
       have KO9:=btZ KX7 KU.out
       by_cases hq:(a:Int)=th∧y.frames.length≤c+1
       ·obtain⟨hq1,hq2⟩:=hq
        have e1:((a:Int) != th)=false:=by simp[hq1]
        have e2:decide ((c:Int)<(y.frames.length:Int) - 1)=false:=decide_eq_false (by omega)
        clear hq1 hq2
        go_upto_region 21 with fail
        refine aD (by kernel_rfl) (by kernel_rfl) ?_
        repeat (go_big_quiet_step (fail))
        refine wpQuiet_nil ?_
        rintro _ ⟨E,rfl⟩
        obtain⟨wy,k9⟩:=E
        dsimp only
        have K9:=hI k9
        clear k9 e1 e2
        go_wp2_with fail
        go_roundw
        case rel=>exact⟨c+1,(by first | exact aiY HWC.out | go_num),HLC.out,KU.out.trans (K9.out.mono KU.out.size)⟩
        case measure=>first | exact aiW HLC.out HWC.out | (simp[RowKit.intOf];omega)
       have hfe:=HK2.out c (by omega)
       obtain⟨fb,fo,f,fcs,rfl,hfb,hf,-,hfr,fat⟩:=FY.out.at_ hlc
       obtain⟨gb,go',g,gcs,rfl,hgb,hg,-,hgr,gat⟩:=FZ.out.at_ (show c<y'.frames.length by have:=HK1.out;omega)
       rw[hfe,hf] at hg
       injection hg with hg
       subst hg
       have FR:=hI (hfr.keep KS9.out.size (fun _ hp=>KS9.out.cell hp))
       have GR:=hI (hgr.keep KO9.out.size (fun _ hp=>KO9.out.cell hp))
       have SF:Hid (∀E:Up wr,Calls Tryz.prog 18 #[.agg ⟨fcs⟩,.agg ⟨gcs⟩] E.to (aM (.bool true) E.to)):=fun E=>aiV _ _ f wr E.to FR.out GR.out E.below
       have RF:Hid (∀E:Up wr,E.to.rangeAt fb (fo+c*8) fcs):=fun E j v hv=>E.cell ((KS9.out.cell hfb).trans (fat j v hv))
       have RG:Hid (∀E:Up wr,E.to.rangeAt gb (go'+c*8) gcs):=fun E j v hv=>E.cell ((KO9.out.cell hgb).trans (gat j v hv))
       obtain⟨_,_,rfl,-⟩:=hfr
       obtain⟨_,_,rfl,-⟩:=hgr
       clear fat gat hf hfe FR GR
       go_upto_region 21 with fail
       go_cut [189] (fun c wx=>c=.bool false∧Hid (Below wr.heap.size wr wx))
       case first=>
        by_cases e0:(a:Int)=th
        ·have e1:((a:Int) != th)=false:=by simp[e0]
         have e2:decide ((c:Int)<(y.frames.length:Int) - 1)=true:=decide_eq_true (by omega)
         clear e0 hq
         refine aD (by kernel_rfl) (by kernel_rfl) ?_
         iterate 14 (go_big_quiet_step (fail))
         refine aO 61 _ rfl rfl fb (fo+c*8) rfl _ _ RF.out Tryz.underlying61 rfl aiU ?_
         go_simp
         iterate 3 (go_big_quiet_step (fail))
         refine aO 61 _ rfl rfl gb (go'+c*8) rfl _ _ RG.out Tryz.underlying61 rfl aiU ?_
         go_simp
         repeat (go_big_quiet_step ((go_at_call 18;with_reducible exact Calls.up (SF.out _))))
         refine wpQuiet_nil ?_
         first | rintro _ ⟨E,rfl⟩ | intro E
         go_wp2_with fail
         go_meet
         case rel=>exact⟨rfl,E.below⟩
        ·have e1:((a:Int) != th)=true:=by simp[e0]
         clear e0 hq
         refine aD (by kernel_rfl) (by kernel_rfl) ?_
         iterate 14 (go_big_quiet_step (fail))
         refine aO 61 _ rfl rfl fb (fo+c*8) rfl _ _ RF.out Tryz.underlying61 rfl aiU ?_
         go_simp
         iterate 3 (go_big_quiet_step (fail))
         refine aO 61 _ rfl rfl gb (go'+c*8) rfl _ _ RG.out Tryz.underlying61 rfl aiU ?_
         go_simp
         repeat (go_big_quiet_step ((go_at_call 18;with_reducible exact Calls.up (SF.out _))))
         refine wpQuiet_nil ?_
         first | rintro _ ⟨E,rfl⟩ | intro E
         go_wp2_with fail
         go_meet
         case rel=>exact⟨rfl,E.below⟩
       case rest=>
       obtain⟨wy,hwy⟩:∃wd,wd=wc:=⟨_,rfl⟩
       subst hwy
       obtain⟨rfl,K9⟩:=hcut
       clear RF RG SF
       go_wp2_with fail
       go_roundw
       case rel=>exact⟨c+1,(by first | exact aiY HWC.out | go_num),HLC.out,KU.out.trans (K9.out.mono KU.out.size)⟩
       case measure=>first | exact aiW HLC.out HWC.out | (simp[RowKit.intOf];omega)
      ·obtain rfl:c=y.frames.length:=by omega
       have hci:¬(y.frames.length:Int)<y.frames.length:=by omega
       go_wp2_with fail
       go_roundw
       case rel=>exact⟨a+1,(by first | exact aiY HWR.out | go_num),HLT.out,KU.out⟩
       case measure=>first | exact aiW HLT.out HWR.out | (simp[RowKit.intOf];omega)
    ·obtain rfl:a=S.threads.length:=by omega
     have hai:¬(S.threads.length:Int)<S.threads.length:=by omega
     have KSr:=btZ K7 KV.out
     go_wp2_with fail
     refine(irred_c wr).mono ?_
     rintro e w9 ⟨rfl,kk⟩
     have K9:=btZ KSr kk
     clear kk
     go_wp2_with fail
     go_ret
     exact⟨rfl,K9.out⟩
end
end Go.Proofs.YtjaphgpkkfdaaaaGreatDoor
