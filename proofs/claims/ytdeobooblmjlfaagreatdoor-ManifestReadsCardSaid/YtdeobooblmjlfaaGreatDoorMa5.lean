/- Lemmas and contracts of functions, joined. -/
import Derived.Test.YtdeobooblmjlfaaGreatDoorMa4
set_option linter.unusedSimpArgs false
set_option linter.unusedVariables false
set_option linter.unusedSectionVars false
namespace Go.Proofs.YtdeobooblmjlfaaGreatDoor
open Go.Tan Go.RowKit
theorem nI:(Tryz.prog.info? 26).bind (·.zero)=some (.int .u64 0):=by kernel_rfl
theorem qB:aU Tryz.prog 69=true:=by kernel_rfl
theorem aCW:aU Tryz.prog 70=true:=by kernel_rfl
theorem rH:(cL Tryz.prog 43).isSome=true:=by kernel_rfl
theorem oY:cO Tryz.prog 104 0=some 0:=by kernel_rfl
set_option maxHeartbeats 2000000 in
theorem aMi (e:Edit) (ha hd:Sh) (G:PM) (he:EdR G e ha hd) (hla:e.add.length≤1000000) (hld:e.drop.length≤1000000) (hlm:(e.add.flatMap eF).length≤10000000000000):Ct Tryz.prog 25 ([e.val ha hd]:List Value).toArray G [] (fun G' μ' u=>∃ (s:Sh) (L:List Y),L=kU e∧μ'=[]∧u=s.val L.length∧SlR G' 1 aQ s L):=by
 refine Ct.of Tryz.func25 rfl Tryz.ntmps25 rfl fun w0 hs0=>?_
 have hea:=he.add; have hed:=he.drop; have hw:=he.wf; have hw1:=hw.log; have hw2:=hw.next; have hw3:=hw.seq; have hw4:=hw.least; have lgn:(jT e).length=5:=rfl
 refine .seq (bJ rfl rfl ?_)
 refine bX rfl rfl rfl ?_; intro b1
 refine aS rfl rfl (.nc (.seq ?_))
 refine fP .here (by intro b hb; cases hb) ?_; intro Gfb1 hleb1 hbb1
 have hea:=hea.mono hleb1
 have hed:=hed.mono hleb1
 have hgn:=aGS hbb1
 refine .g (fA rfl vO rfl (lN rfl bD rfl ((hbb1.rd (by rfl)).rd) ?_))
 refine fA rfl tX rfl (lN rfl bD rfl ((hbb1.rd (by rfl)).rd) ?_)
 refine fA rfl tY rfl (lN rfl bD rfl ((hbb1.rd (by rfl)).rd) ?_)
 refine fA rfl tZ rfl (lN rfl bD rfl ((hbb1.rd (by rfl)).rd) ?_)
 refine bQ [e.log,e.next,e.seq,e.least] rfl lQ nI (Evp.cons (.u rfl) (Evp.cons (.u rfl) (Evp.cons (.u rfl) (Evp.cons (.u rfl) Evp.nil)))) rfl rfl (by decide) ?_; intro G16 h16 hG16 hs16
 have hea:=hea.mono hG16
 have hed:=hed.mono hG16
 have hbb1:=hbb1.mono hG16
 have hgn:=hgn.mono hG16
 refine kc rfl qB (aB rfl (aB rfl aF)) (pQ ([]:List Y) ⟨none,0⟩ [e.log,e.next,e.seq,e.least] h16 _ SlR.nul hs16 (q4 hw1 hw2 hw3 hw4) (by simp only [List.length_cons,List.length_nil]; omega)) ?_
 rintro _ G17 μ17 hG17 ⟨h17,L17,eL17,rfl,rfl,hs17⟩
 have lL17:L17.length≤([]:List Y).length+10*([e.log,e.next,e.seq,e.least]:List Int).length:=by rw [eL17,List.length_append]; have:=iZ (ns:=[e.log,e.next,e.seq,e.least]) (q4 hw1 hw2 hw3 hw4); omega
 try simp only [List.length_cons,List.length_nil] at lL17
 have hea:=hea.mono hG17
 have hed:=hed.mono hG17
 have hbb1:=hbb1.mono hG17
 have hgn:=hgn.mono hG17
 refine aS rfl rfl (.nc (.seq (Wk.mix ⟨false,false⟩ aX (by kernel_rfl) ?_)))
 refine Wt.one 0 (by kernel_rfl) ?_
 refine mV rfl rfl (.nil (Wt.one 1 (by kernel_rfl) ?_))
 refine fA rfl uA rfl (.nil (Wt.one 2 (by kernel_rfl) ?_))
 refine lG rfl .no rA (.u rfl) (.nil (Wt.one 4 (by kernel_rfl) ?_))
 refine fA rfl fW rfl (.nil (Wt.one 5 (by kernel_rfl) ?_))
 refine lN rfl cM rfl ((hbb1.rd (by rfl)).rd) ?_
 refine .nil (Wt.one 6 (by kernel_rfl) ?_)
 refine lE rfl fH rfl (.nil (Wt.one 7 (by kernel_rfl) ?_))
 refine cw rfl .no gG (.u rfl) (fun _=>eD (by omega) (by omega)) ?_
 refine .nil (Wt.b2 3 8 (by kernel_rfl) ?_ ?_)
 ·refine kc rfl qB (aB rfl (aB rfl aF)) (pQ L17 h17 (jT e) ⟨some ⟨b1,4,none⟩,5⟩ _ hs17 hgn (uQ hw) (by show _+10*5≤_; omega)) ?_
  rintro _ G21 μ21 hG21 ⟨h21,L21,eL21,rfl,rfl,hs21⟩
  have lL21:L21.length≤L17.length+10*((jT e):List Int).length:=by rw [eL21,List.length_append]; have:=iZ (ns:=(jT e)) (uQ hw); omega
  try simp only [List.length_cons,List.length_nil] at lL21
  have hea:=hea.mono hG21
  have hed:=hed.mono hG21
  have hbb1:=hbb1.mono hG21
  have hgn:=hgn.mono hG21
  have hs17:=hs17.mono hG21
  refine .nil (Wt.b1 8 (by kernel_rfl) ?_)
  refine bQ [(e.add.length:Int)] rfl lQ nI (Evp.cons (.u rfl) Evp.nil) rfl rfl (by decide) ?_; intro G26 h26 hG26 hs26
  have hea:=hea.mono hG26
  have hed:=hed.mono hG26
  have hbb1:=hbb1.mono hG26
  have hgn:=hgn.mono hG26
  have hs17:=hs17.mono hG26
  have hs21:=hs21.mono hG26
  refine .nil (Wt.b1 9 (by kernel_rfl) ?_)
  refine kc rfl qB (aB rfl (aB rfl aF)) (pQ L21 h21 [(e.add.length:Int)] h26 _ hs21 hs26 (q1 (oS (by omega))) (by simp only [List.length_cons,List.length_nil]; omega)) ?_
  rintro _ G27 μ27 hG27 ⟨h27,L27,eL27,rfl,rfl,hs27⟩
  have lL27:L27.length≤L21.length+10*([(e.add.length:Int)]:List Int).length:=by rw [eL27,List.length_append]; have:=iZ (ns:=[(e.add.length:Int)]) (q1 (oS (by omega))); omega
  try simp only [List.length_cons,List.length_nil] at lL27
  have hea:=hea.mono hG27
  have hed:=hed.mono hG27
  have hbb1:=hbb1.mono hG27
  have hgn:=hgn.mono hG27
  have hs17:=hs17.mono hG27
  have hs21:=hs21.mono hG27
  have hs26:=hs26.mono hG27
  refine .nil (Wt.one 10 (by kernel_rfl) ?_)
  refine aS rfl rfl (.nil (Wt.last (by kernel_rfl) ?_))
  refine .g (fA rfl fW rfl (lN rfl cM rfl ((hbb1.rd (by rfl)).rd) ?_))
  refine lE rfl fH rfl (mV rfl rfl (.nc (.block ?_)))
  refine aV (α:=Nat×Sh×List Y) (fun gh=>[(3,true,gh.2.1.val gh.2.2.length),(31,true,.int .i64 (gh.1:Int))]) (fun _=>[])
   (fun gh Gl=>(gh.1≤e.add.length)∧(gh.2.2=L27++(e.add.take gh.1).flatMap eF)∧(SlR Gl 1 aQ gh.2.1 gh.2.2)) (fun gh=>e.add.length-gh.1) (0,h27,L27) [(1,true,_),(29,true,_),(30,true,_)] []
   (aA rfl (aK rfl (aA rfl (aA rfl (aA rfl eZ)))))
   mN ?_ ?_
  ·refine ⟨?_,?_,?_⟩
   ·(try dsimp only)<;>(first|omega|rfl|assumption|(simp; done))
   ·(try dsimp only)<;>(simp)
   (try dsimp only)<;>(exact hs27)
  intro gh N0 Gl0 hN0 hGl0 hF0
  obtain ⟨k,h3,L3⟩:=gh; dsimp only at hF0 hN0 ⊢
  obtain ⟨hk,eL,hsl⟩:=hF0
  have hea:=hea.mono hGl0
  have hed:=hed.mono hGl0
  have hbb1:=hbb1.mono hGl0
  have hgn:=hgn.mono hGl0
  have hs17:=hs17.mono hGl0
  have hs21:=hs21.mono hGl0
  have hs26:=hs26.mono hGl0
  have hs27:=hs27.mono hGl0
  have lk:=wO (f:=eF) (xs:=e.add) k
  have lL:L3.length=L27.length+((e.add.take k).flatMap eF).length:=by rw [eL,List.length_append]
  refine .g (cP rfl rfl rfl rfl (.g (cD rfl (fun c1=>?_) (fun c1=>?_))))
  ·have c1k:=c1
   try simp only [aC,aD] at c1
   refine .skip (.code (.seq (.block (.seq (gK rfl rfl (ih rfl .no aY (.u rfl) (.u rfl) (by omega) (by omega) (fun _=>hea.nn (k:=k) (by first|omega|(simp only [Bool.and_eq_true,decide_eq_true_eq] at hc; omega)|(simp only [List.length_cons,List.length_nil]; omega))) ?_))))))
   obtain ⟨m,em⟩:=iJ (k:=k) (xs:=e.add) (by omega)
   refine lA rfl .no dF (.u rfl) (fun _=>(hea.at (by omega) em).rd) (fun _=>Meta.len _) ?_
   refine al rfl qD ?_; intro b5
   refine sw rfl (.u rfl) (.u rfl) rfl jP .here rfl (Meta.one _) ?_
   refine .nil (.code (.seq ?_))
   refine fP .here (by intro b hb; cases hb) ?_; intro Gfb5 hleb5 hbb5
   have hea:=hea.mono hleb5
   have hed:=hed.mono hleb5
   have hbb1:=hbb1.mono hleb5
   have hgn:=hgn.mono hleb5
   have hs17:=hs17.mono hleb5
   have hs21:=hs21.mono hleb5
   have hs26:=hs26.mono hleb5
   have hs27:=hs27.mono hleb5
   have hsl:=hsl.mono hleb5
   have hwm:=hw.add m (List.mem_of_getElem? em); have w1:=hwm.level; have w2:=hwm.gen; have w3:=hwm.epoch; have w4:=hwm.number; have l6:=aEI hwm; have lt:=wN (f:=eF) em; have lg:=aC1 m
   refine .g (fA rfl gH rfl (lN rfl aZ rfl ((hbb5.rd (by rfl)).rd) ?_))
   refine cw rfl .no nZ (.u rfl) (fun _=>eD (by omega) (by omega)) ?_
   refine fA rfl vP rfl (lN rfl bD rfl ((hbb5.rd (by rfl)).rd) ?_)
   refine fA rfl aAf rfl (lN rfl bD rfl ((hbb5.rd (by rfl)).rd) ?_)
   refine fA rfl iR rfl (lN rfl bD rfl ((hbb5.rd (by rfl)).rd) ?_)
   refine fA rfl vQ rfl (lN rfl dH rfl ((hbb5.rd (by rfl)).rd) ?_)
   refine cv rfl .no gG (.u rfl) (fA rfl vR rfl (lN rfl dH rfl ((hbb5.rd (by rfl)).rd) ?_))
   refine cv rfl .no gG (.u rfl) ?_
   refine bQ [m.level,m.gen,m.epoch,m.number,IntKind.u64.wrap m.size,IntKind.u64.wrap m.count] rfl lQ nI (Evp.cons (.u rfl) (Evp.cons (.u rfl) (Evp.cons (.u rfl) (Evp.cons (.u rfl) (Evp.cons (.u rfl) (Evp.cons (.u rfl) Evp.nil)))))) rfl rfl (by decide) ?_; intro G51 h51 hG51 hs51
   have hea:=hea.mono hG51
   have hed:=hed.mono hG51
   have hbb1:=hbb1.mono hG51
   have hgn:=hgn.mono hG51
   have hs17:=hs17.mono hG51
   have hs21:=hs21.mono hG51
   have hs26:=hs26.mono hG51
   have hs27:=hs27.mono hG51
   have hsl:=hsl.mono hG51
   have hbb5:=hbb5.mono hG51
   refine kc rfl qB (aB rfl (aB rfl aF)) (pQ L3 h3 [m.level,m.gen,m.epoch,m.number,IntKind.u64.wrap m.size,IntKind.u64.wrap m.count] h51 _ hsl hs51 l6 (by simp only [List.length_cons,List.length_nil]; omega)) ?_
   rintro _ G52 μ52 hG52 ⟨h52,L52,eL52,rfl,rfl,hs52⟩
   have lL52:L52.length≤L3.length+10*([m.level,m.gen,m.epoch,m.number,IntKind.u64.wrap m.size,IntKind.u64.wrap m.count]:List Int).length:=by rw [eL52,List.length_append]; have:=iZ (ns:=[m.level,m.gen,m.epoch,m.number,IntKind.u64.wrap m.size,IntKind.u64.wrap m.count]) l6; omega
   try simp only [List.length_cons,List.length_nil] at lL52
   have hea:=hea.mono hG52
   have hed:=hed.mono hG52
   have hbb1:=hbb1.mono hG52
   have hgn:=hgn.mono hG52
   have hs17:=hs17.mono hG52
   have hs21:=hs21.mono hG52
   have hs26:=hs26.mono hG52
   have hs27:=hs27.mono hG52
   have hsl:=hsl.mono hG52
   have hbb5:=hbb5.mono hG52
   have hs51:=hs51.mono hG52
   refine .g (bA (mc:=⟨false,false⟩) [0,1,2,4,5,7,8,3,6,9,10] aX (by kernel_rfl) ?_)
   refine .p (fA rfl mM rfl (lN rfl iE rfl ((hbb5.rd (by rfl)).rd) ?_))
   refine fA rfl qA rfl (lN rfl iE rfl ((hbb5.rd (by rfl)).rd) ?_)
   refine fA rfl aAg rfl ?_
   refine kA rfl .no fU (.u rfl) hbb5 (aDW hwm) ?_; intro h61 L61 eL61 lL61 hs61
   have ly:=nE m.min; have ly2:=nE m.max
   refine kc rfl aCW (aB rfl (aB rfl aF)) (Ct.frzB (aA3 L52 h52 _ hs52 m.min (by omega))) ?_
   rintro _ G56 μ56 hG56 ⟨h56,L56,eL56,rfl,rfl,hs56⟩
   have hea:=hea.mono hG56
   have hed:=hed.mono hG56
   have hbb1:=hbb1.mono hG56
   have hgn:=hgn.mono hG56
   have hs17:=hs17.mono hG56
   have hs21:=hs21.mono hG56
   have hs26:=hs26.mono hG56
   have hs27:=hs27.mono hG56
   have hsl:=hsl.mono hG56
   have hbb5:=hbb5.mono hG56
   have hs51:=hs51.mono hG56
   have hs52:=hs52.mono hG56
   have hs61:=hs61.mono hG56
   have l56:L56.length≤L52.length+(m.min.size+10):=by rw [eL56,List.length_append]; have:=tK (xs:=yb m.min) (by omega); omega
   refine kc rfl aCW (aB rfl (aB rfl aF)) (jZ (aA3 L56 h56 _ hs56 m.max (by omega))) ?_
   rintro v59 G59 μ59 hG59 ⟨L59,ov59,eL59,rfl⟩
   have hea:=hea.mono hG59
   have hed:=hed.mono hG59
   have hbb1:=hbb1.mono hG59
   have hgn:=hgn.mono hG59
   have hs17:=hs17.mono hG59
   have hs21:=hs21.mono hG59
   have hs26:=hs26.mono hG59
   have hs27:=hs27.mono hG59
   have hsl:=hsl.mono hG59
   have hbb5:=hbb5.mono hG59
   have hs51:=hs51.mono hG59
   have hs52:=hs52.mono hG59
   have hs61:=hs61.mono hG59
   have hs56:=hs56.mono hG59
   have l59:L59.length≤L56.length+(m.max.size+10):=by rw [eL59,List.length_append]; have:=tK (xs:=yb m.max) (by omega); omega
   refine dC rfl aI bF (.u rfl) (.u rfl) .here hs61.sc (by (try simp only [bM,bK]); omega) ?_
   intro v62 L62 ov62 eL62
   have lL62:L62.length=L59.length+L61.length:=by rw [eL62,List.length_append]
   refine aS rfl rfl (.nil (.blk (.code ?_)))
   refine iP .here (by first|(intro b hb; cases hb; done) | simp [keys,Res.keys]) ?_; intro GfR59 hR59 hleR59 evR59 hsR59; subst evR59
   have hea:=hea.mono hleR59
   have hed:=hed.mono hleR59
   have hbb1:=hbb1.mono hleR59
   have hgn:=hgn.mono hleR59
   have hs17:=hs17.mono hleR59
   have hs21:=hs21.mono hleR59
   have hs26:=hs26.mono hleR59
   have hs27:=hs27.mono hleR59
   have hsl:=hsl.mono hleR59
   have hbb5:=hbb5.mono hleR59
   have hs51:=hs51.mono hleR59
   have hs52:=hs52.mono hleR59
   have hs61:=hs61.mono hleR59
   have hs56:=hs56.mono hleR59
   refine .g (aW (((k+1):Nat):Int) rfl rfl rfl rfl ?_)
   refine .g (aP (k+1,hR59,L62) ?_ ?_ ?_ ?_ ?_)
   ·exact (aA rfl (aK rfl (aA rfl (aA rfl (aA rfl eZ)))))
   ·exact mN
   ·first|omega|(dsimp only; omega)
   ·exact ((((((hGl0).trans hleb5).trans hG51).trans hG52).trans hG56).trans hG59).trans hleR59
   refine ⟨?_,?_,?_⟩
   ·(try dsimp only)<;>(first|omega|rfl|assumption|(simp; done))
   ·(try dsimp only)<;>(rw [eL62,eL59,eL56,eL52,eL61,aC0,eL,uP em,List.append_assoc])
   (try dsimp only)<;>(exact hsR59)
  have c1k:=c1
  try simp only [aC,aD] at c1
  refine .g (fA rfl kB rfl (lN rfl lP rfl ((hbb1.rd (by rfl)).rd) ?_))
  refine lE rfl rH rfl (cw rfl .no gG (.u rfl) (fun _=>eD (by omega) (by omega)) ?_)
  refine bQ [(e.drop.length:Int)] rfl lQ nI (Evp.cons (.u rfl) Evp.nil) rfl rfl (by decide) ?_; intro G69 h69 hG69 hs69
  have hea:=hea.mono hG69
  have hed:=hed.mono hG69
  have hbb1:=hbb1.mono hG69
  have hgn:=hgn.mono hG69
  have hs17:=hs17.mono hG69
  have hs21:=hs21.mono hG69
  have hs26:=hs26.mono hG69
  have hs27:=hs27.mono hG69
  have hsl:=hsl.mono hG69
  refine kc rfl qB (aB rfl (aB rfl aF)) (pQ L3 h3 [(e.drop.length:Int)] h69 _ hsl hs69 (q1 (oS (by omega))) (by simp only [List.length_cons,List.length_nil]; omega)) ?_
  rintro _ G70 μ70 hG70 ⟨h70,L70,eL70,rfl,rfl,hs70⟩
  have lL70:L70.length≤L3.length+10*([(e.drop.length:Int)]:List Int).length:=by rw [eL70,List.length_append]; have:=iZ (ns:=[(e.drop.length:Int)]) (q1 (oS (by omega))); omega
  try simp only [List.length_cons,List.length_nil] at lL70
  have hea:=hea.mono hG70
  have hed:=hed.mono hG70
  have hbb1:=hbb1.mono hG70
  have hgn:=hgn.mono hG70
  have hs17:=hs17.mono hG70
  have hs21:=hs21.mono hG70
  have hs26:=hs26.mono hG70
  have hs27:=hs27.mono hG70
  have hsl:=hsl.mono hG70
  have hs69:=hs69.mono hG70
  refine .g (fA rfl kB rfl (lN rfl lP rfl ((hbb1.rd (by rfl)).rd) ?_))
  refine lE rfl rH rfl (mV rfl rfl (.nc (.block ?_)))
  refine aV (α:=Nat×Sh×List Y) (fun gh=>[(3,true,gh.2.1.val gh.2.2.length),(74,true,.int .i64 (gh.1:Int))]) (fun _=>[])
   (fun gh Gl=>(gh.1≤e.drop.length)∧(gh.2.2=L70++(e.drop.take gh.1).flatMap gV)∧(SlR Gl 1 aQ gh.2.1 gh.2.2)) (fun gh=>e.drop.length-gh.1) (0,h70,L70) [(72,true,_),(73,true,_)] []
   (aA rfl (aK rfl (aA rfl (aA rfl eZ))))
   mN ?_ ?_
  ·refine ⟨?_,?_,?_⟩
   ·(try dsimp only)<;>(first|omega|rfl|assumption|(simp; done))
   ·(try dsimp only)<;>(simp)
   (try dsimp only)<;>(exact hs70)
  intro gh N1 Gl1 hN1 hGl1 hF1
  obtain ⟨j,h9,L9⟩:=gh; dsimp only at hF1 hN1 ⊢
  obtain ⟨hj,eL9,hsl2⟩:=hF1
  have hea:=hea.mono hGl1
  have hed:=hed.mono hGl1
  have hbb1:=hbb1.mono hGl1
  have hgn:=hgn.mono hGl1
  have hs17:=hs17.mono hGl1
  have hs21:=hs21.mono hGl1
  have hs26:=hs26.mono hGl1
  have hs27:=hs27.mono hGl1
  have hsl:=hsl.mono hGl1
  have hs69:=hs69.mono hGl1
  have hs70:=hs70.mono hGl1
  have lk2:=wO (f:=gV) (xs:=e.drop) j
  have ld2:=aBU hw.drop
  have lL9:L9.length=L70.length+((e.drop.take j).flatMap gV).length:=by rw [eL9,List.length_append]
  refine .g (cP rfl rfl rfl rfl (.g (cD rfl (fun c2=>?_) (fun c2=>?_))))
  ·have c2k:=c2
   try simp only [aC,aD] at c2
   refine .skip (.code (.seq (.block (.seq (gK rfl rfl (ih rfl .no pB (.u rfl) (.u rfl) (by omega) (by omega) (fun _=>hed.nn (k:=j) (by first|omega|(simp only [Bool.and_eq_true,decide_eq_true_eq] at hc; omega)|(simp only [List.length_cons,List.length_nil]; omega))) ?_))))))
   obtain ⟨g,eg⟩:=iJ (k:=j) (xs:=e.drop) (by omega)
   refine lA rfl .no aAZ (.u rfl) (fun _=>(hed.at (by omega) eg).rd) (fun _=>rfl) ?_
   refine al rfl aAv ?_; intro b7
   refine sw rfl (.u rfl) (.u rfl) rfl aAq .here rfl (uR) ?_
   refine .nil (.code ?_)
   refine fP .here (by intro b hb; cases hb) ?_; intro Gfb7 hleb7 hbb7
   have hea:=hea.mono hleb7
   have hed:=hed.mono hleb7
   have hbb1:=hbb1.mono hleb7
   have hgn:=hgn.mono hleb7
   have hs17:=hs17.mono hleb7
   have hs21:=hs21.mono hleb7
   have hs26:=hs26.mono hleb7
   have hs27:=hs27.mono hleb7
   have hsl:=hsl.mono hleb7
   have hs69:=hs69.mono hleb7
   have hs70:=hs70.mono hleb7
   have hsl2:=hsl2.mono hleb7
   have hwg:=hw.drop g (List.mem_of_getElem? eg); have w1:=hwg.level; have w2:=hwg.number; have lt:=wN (f:=gV) eg
   refine .g (fA rfl oY rfl (lN rfl aZ rfl ((hbb7.rd (by rfl)).rd) ?_))
   refine cw rfl .no nZ (.u rfl) (fun _=>eD (by omega) (by omega)) ?_
   refine fA rfl yJ rfl (lN rfl bD rfl ((hbb7.rd (by rfl)).rd) ?_)
   refine bQ [g.level,g.number] rfl lQ nI (Evp.cons (.u rfl) (Evp.cons (.u rfl) Evp.nil)) rfl rfl (by decide) ?_; intro G84 h84 hG84 hs84
   have hea:=hea.mono hG84
   have hed:=hed.mono hG84
   have hbb1:=hbb1.mono hG84
   have hgn:=hgn.mono hG84
   have hs17:=hs17.mono hG84
   have hs21:=hs21.mono hG84
   have hs26:=hs26.mono hG84
   have hs27:=hs27.mono hG84
   have hsl:=hsl.mono hG84
   have hs69:=hs69.mono hG84
   have hs70:=hs70.mono hG84
   have hsl2:=hsl2.mono hG84
   have hbb7:=hbb7.mono hG84
   refine kc rfl qB (aB rfl (aB rfl aF)) (pQ L9 h9 [g.level,g.number] h84 _ hsl2 hs84 (q2 ⟨by omega,by omega⟩ ⟨by omega,by omega⟩) (by simp only [List.length_cons,List.length_nil]; omega)) ?_
   rintro _ G85 μ85 hG85 ⟨h85,L85,eL85,rfl,rfl,hs85⟩
   have lL85:L85.length≤L9.length+10*([g.level,g.number]:List Int).length:=by rw [eL85,List.length_append]; have:=iZ (ns:=[g.level,g.number]) (q2 ⟨by omega,by omega⟩ ⟨by omega,by omega⟩); omega
   try simp only [List.length_cons,List.length_nil] at lL85
   have hea:=hea.mono hG85
   have hed:=hed.mono hG85
   have hbb1:=hbb1.mono hG85
   have hgn:=hgn.mono hG85
   have hs17:=hs17.mono hG85
   have hs21:=hs21.mono hG85
   have hs26:=hs26.mono hG85
   have hs27:=hs27.mono hG85
   have hsl:=hsl.mono hG85
   have hs69:=hs69.mono hG85
   have hs70:=hs70.mono hG85
   have hsl2:=hsl2.mono hG85
   have hbb7:=hbb7.mono hG85
   have hs84:=hs84.mono hG85
   refine .g (aW (((j+1):Nat):Int) rfl rfl rfl rfl ?_)
   refine .g (aP (j+1,h85,L85) ?_ ?_ ?_ ?_ ?_)
   ·exact (aA rfl (aK rfl (aA rfl (aA rfl eZ))))
   ·exact mN
   ·first|omega|(dsimp only; omega)
   ·exact (((hGl1).trans hleb7).trans hG84).trans hG85
   refine ⟨?_,?_,?_⟩
   ·(try dsimp only)<;>(first|omega|rfl|assumption|(simp; done))
   ·(try dsimp only)<;>(rw [eL85,aCz,eL9,uP eg,List.append_assoc])
   (try dsimp only)<;>(exact hs85)
  have c2k:=c2
  try simp only [aC,aD] at c2
  refine .exit (.xcode (.xlp (.xblk (.code (.seq (bJ rfl rfl (mV rfl rfl (aS rfl rfl (.nc (.ret (aM Tryz.results25 (.tmp rfl .nil) ?_)))))))))))
  obtain rfl:k=e.add.length:=by omega
  obtain rfl:j=e.drop.length:=by omega
  rw [List.take_length] at eL eL9
  exact ⟨h9,L9,by rw [eL9,eL70,eL,eL27,eL21,eL17,List.nil_append,aCy],rfl,rfl,hsl2⟩
 refine bQ [(e.add.length:Int)] rfl lQ nI (Evp.cons (.u rfl) Evp.nil) rfl rfl (by decide) ?_; intro G26 h26 hG26 hs26
 have hea:=hea.mono hG26
 have hed:=hed.mono hG26
 have hbb1:=hbb1.mono hG26
 have hgn:=hgn.mono hG26
 have hs17:=hs17.mono hG26
 refine .nil (Wt.b1 3 (by kernel_rfl) ?_)
 refine kc rfl qB (aB rfl (aB rfl aF)) (pQ L17 h17 (jT e) ⟨some ⟨b1,4,none⟩,5⟩ _ hs17 hgn (uQ hw) (by show _+10*5≤_; omega)) ?_
 rintro _ G21 μ21 hG21 ⟨h21,L21,eL21,rfl,rfl,hs21⟩
 have lL21:L21.length≤L17.length+10*((jT e):List Int).length:=by rw [eL21,List.length_append]; have:=iZ (ns:=(jT e)) (uQ hw); omega
 try simp only [List.length_cons,List.length_nil] at lL21
 have hea:=hea.mono hG21
 have hed:=hed.mono hG21
 have hbb1:=hbb1.mono hG21
 have hs26:=hs26.mono hG21
 refine .nil (Wt.b1 9 (by kernel_rfl) ?_)
 refine kc rfl qB (aB rfl (aB rfl aF)) (pQ L21 h21 [(e.add.length:Int)] h26 _ hs21 hs26 (q1 (oS (by omega))) (by simp only [List.length_cons,List.length_nil]; omega)) ?_
 rintro _ G27 μ27 hG27 ⟨h27,L27,eL27,rfl,rfl,hs27⟩
 have lL27:L27.length≤L21.length+10*([(e.add.length:Int)]:List Int).length:=by rw [eL27,List.length_append]; have:=iZ (ns:=[(e.add.length:Int)]) (q1 (oS (by omega))); omega
 try simp only [List.length_cons,List.length_nil] at lL27
 have hea:=hea.mono hG27
 have hed:=hed.mono hG27
 have hbb1:=hbb1.mono hG27
 refine .nil (Wt.one 10 (by kernel_rfl) ?_)
 refine aS rfl rfl (.nil (Wt.last (by kernel_rfl) ?_))
 refine .g (fA rfl fW rfl (lN rfl cM rfl ((hbb1.rd (by rfl)).rd) ?_))
 refine lE rfl fH rfl (mV rfl rfl (.nc (.block ?_)))
 refine aV (α:=Nat×Sh×List Y) (fun gh=>[(3,true,gh.2.1.val gh.2.2.length),(31,true,.int .i64 (gh.1:Int))]) (fun _=>[])
  (fun gh Gl=>(gh.1≤e.add.length)∧(gh.2.2=L27++(e.add.take gh.1).flatMap eF)∧(SlR Gl 1 aQ gh.2.1 gh.2.2)) (fun gh=>e.add.length-gh.1) (0,h27,L27) [(1,true,_),(29,true,_),(30,true,_)] []
  (aA rfl (aK rfl (aA rfl (aA rfl (aA rfl eZ)))))
  mN ?_ ?_
 ·refine ⟨?_,?_,?_⟩
  ·(try dsimp only)<;>(first|omega|rfl|assumption|(simp; done))
  ·(try dsimp only)<;>(simp)
  (try dsimp only)<;>(exact hs27)
 intro gh N0 Gl0 hN0 hGl0 hF0
 obtain ⟨k,h3,L3⟩:=gh; dsimp only at hF0 hN0 ⊢
 obtain ⟨hk,eL,hsl⟩:=hF0
 have hea:=hea.mono hGl0
 have hed:=hed.mono hGl0
 have hbb1:=hbb1.mono hGl0
 have lk:=wO (f:=eF) (xs:=e.add) k
 have lL:L3.length=L27.length+((e.add.take k).flatMap eF).length:=by rw [eL,List.length_append]
 refine .g (cP rfl rfl rfl rfl (.g (cD rfl (fun c1=>?_) (fun c1=>?_))))
 ·have c1k:=c1
  try simp only [aC,aD] at c1
  refine .skip (.code (.seq (.block (.seq (gK rfl rfl (ih rfl .no aY (.u rfl) (.u rfl) (by omega) (by omega) (fun _=>hea.nn (k:=k) (by first|omega|(simp only [Bool.and_eq_true,decide_eq_true_eq] at hc; omega)|(simp only [List.length_cons,List.length_nil]; omega))) ?_))))))
  obtain ⟨m,em⟩:=iJ (k:=k) (xs:=e.add) (by omega)
  refine lA rfl .no dF (.u rfl) (fun _=>(hea.at (by omega) em).rd) (fun _=>Meta.len _) ?_
  refine al rfl qD ?_; intro b5
  refine sw rfl (.u rfl) (.u rfl) rfl jP .here rfl (Meta.one _) ?_
  refine .nil (.code (.seq ?_))
  refine fP .here (by intro b hb; cases hb) ?_; intro Gfb5 hleb5 hbb5
  have hed:=hed.mono hleb5
  have hbb1:=hbb1.mono hleb5
  have hsl:=hsl.mono hleb5
  have hwm:=hw.add m (List.mem_of_getElem? em); have w1:=hwm.level; have w2:=hwm.gen; have w3:=hwm.epoch; have w4:=hwm.number; have l6:=aEI hwm; have lt:=wN (f:=eF) em; have lg:=aC1 m
  refine .g (fA rfl gH rfl (lN rfl aZ rfl ((hbb5.rd (by rfl)).rd) ?_))
  refine cw rfl .no nZ (.u rfl) (fun _=>eD (by omega) (by omega)) ?_
  refine fA rfl vP rfl (lN rfl bD rfl ((hbb5.rd (by rfl)).rd) ?_)
  refine fA rfl aAf rfl (lN rfl bD rfl ((hbb5.rd (by rfl)).rd) ?_)
  refine fA rfl iR rfl (lN rfl bD rfl ((hbb5.rd (by rfl)).rd) ?_)
  refine fA rfl vQ rfl (lN rfl dH rfl ((hbb5.rd (by rfl)).rd) ?_)
  refine cv rfl .no gG (.u rfl) (fA rfl vR rfl (lN rfl dH rfl ((hbb5.rd (by rfl)).rd) ?_))
  refine cv rfl .no gG (.u rfl) ?_
  refine bQ [m.level,m.gen,m.epoch,m.number,IntKind.u64.wrap m.size,IntKind.u64.wrap m.count] rfl lQ nI (Evp.cons (.u rfl) (Evp.cons (.u rfl) (Evp.cons (.u rfl) (Evp.cons (.u rfl) (Evp.cons (.u rfl) (Evp.cons (.u rfl) Evp.nil)))))) rfl rfl (by decide) ?_; intro G51 h51 hG51 hs51
  have hed:=hed.mono hG51
  have hbb1:=hbb1.mono hG51
  have hsl:=hsl.mono hG51
  have hbb5:=hbb5.mono hG51
  refine kc rfl qB (aB rfl (aB rfl aF)) (pQ L3 h3 [m.level,m.gen,m.epoch,m.number,IntKind.u64.wrap m.size,IntKind.u64.wrap m.count] h51 _ hsl hs51 l6 (by simp only [List.length_cons,List.length_nil]; omega)) ?_
  rintro _ G52 μ52 hG52 ⟨h52,L52,eL52,rfl,rfl,hs52⟩
  have lL52:L52.length≤L3.length+10*([m.level,m.gen,m.epoch,m.number,IntKind.u64.wrap m.size,IntKind.u64.wrap m.count]:List Int).length:=by rw [eL52,List.length_append]; have:=iZ (ns:=[m.level,m.gen,m.epoch,m.number,IntKind.u64.wrap m.size,IntKind.u64.wrap m.count]) l6; omega
  try simp only [List.length_cons,List.length_nil] at lL52
  have hed:=hed.mono hG52
  have hbb1:=hbb1.mono hG52
  have hsl:=hsl.mono hG52
  have hbb5:=hbb5.mono hG52
  refine .g (bA (mc:=⟨false,false⟩) [0,1,2,4,5,7,8,3,6,9,10] aX (by kernel_rfl) ?_)
  refine .p (fA rfl mM rfl (lN rfl iE rfl ((hbb5.rd (by rfl)).rd) ?_))
  refine fA rfl qA rfl (lN rfl iE rfl ((hbb5.rd (by rfl)).rd) ?_)
  refine fA rfl aAg rfl ?_
  refine kA rfl .no fU (.u rfl) hbb5 (aDW hwm) ?_; intro h61 L61 eL61 lL61 hs61
  have ly:=nE m.min; have ly2:=nE m.max
  refine kc rfl aCW (aB rfl (aB rfl aF)) (Ct.frzB (aA3 L52 h52 _ hs52 m.min (by omega))) ?_
  rintro _ G56 μ56 hG56 ⟨h56,L56,eL56,rfl,rfl,hs56⟩
  have hed:=hed.mono hG56
  have hbb1:=hbb1.mono hG56
  have hsl:=hsl.mono hG56
  have hs61:=hs61.mono hG56
  have l56:L56.length≤L52.length+(m.min.size+10):=by rw [eL56,List.length_append]; have:=tK (xs:=yb m.min) (by omega); omega
  refine kc rfl aCW (aB rfl (aB rfl aF)) (jZ (aA3 L56 h56 _ hs56 m.max (by omega))) ?_
  rintro v59 G59 μ59 hG59 ⟨L59,ov59,eL59,rfl⟩
  have hed:=hed.mono hG59
  have hbb1:=hbb1.mono hG59
  have hsl:=hsl.mono hG59
  have hs61:=hs61.mono hG59
  have l59:L59.length≤L56.length+(m.max.size+10):=by rw [eL59,List.length_append]; have:=tK (xs:=yb m.max) (by omega); omega
  refine dC rfl aI bF (.u rfl) (.u rfl) .here hs61.sc (by (try simp only [bM,bK]); omega) ?_
  intro v62 L62 ov62 eL62
  have lL62:L62.length=L59.length+L61.length:=by rw [eL62,List.length_append]
  refine aS rfl rfl (.nil (.blk (.code ?_)))
  refine iP .here (by first|(intro b hb; cases hb; done) | simp [keys,Res.keys]) ?_; intro GfR59 hR59 hleR59 evR59 hsR59; subst evR59
  have hed:=hed.mono hleR59
  have hbb1:=hbb1.mono hleR59
  have hsl:=hsl.mono hleR59
  refine .g (aW (((k+1):Nat):Int) rfl rfl rfl rfl ?_)
  refine .g (aP (k+1,hR59,L62) ?_ ?_ ?_ ?_ ?_)
  ·exact (aA rfl (aK rfl (aA rfl (aA rfl (aA rfl eZ)))))
  ·exact mN
  ·first|omega|(dsimp only; omega)
  ·exact ((((((hGl0).trans hleb5).trans hG51).trans hG52).trans hG56).trans hG59).trans hleR59
  refine ⟨?_,?_,?_⟩
  ·(try dsimp only)<;>(first|omega|rfl|assumption|(simp; done))
  ·(try dsimp only)<;>(rw [eL62,eL59,eL56,eL52,eL61,aC0,eL,uP em,List.append_assoc])
  (try dsimp only)<;>(exact hsR59)
 have c1k:=c1
 try simp only [aC,aD] at c1
 refine .g (fA rfl kB rfl (lN rfl lP rfl ((hbb1.rd (by rfl)).rd) ?_))
 refine lE rfl rH rfl (cw rfl .no gG (.u rfl) (fun _=>eD (by omega) (by omega)) ?_)
 refine bQ [(e.drop.length:Int)] rfl lQ nI (Evp.cons (.u rfl) Evp.nil) rfl rfl (by decide) ?_; intro G69 h69 hG69 hs69
 have hed:=hed.mono hG69
 have hbb1:=hbb1.mono hG69
 have hsl:=hsl.mono hG69
 refine kc rfl qB (aB rfl (aB rfl aF)) (pQ L3 h3 [(e.drop.length:Int)] h69 _ hsl hs69 (q1 (oS (by omega))) (by simp only [List.length_cons,List.length_nil]; omega)) ?_
 rintro _ G70 μ70 hG70 ⟨h70,L70,eL70,rfl,rfl,hs70⟩
 have lL70:L70.length≤L3.length+10*([(e.drop.length:Int)]:List Int).length:=by rw [eL70,List.length_append]; have:=iZ (ns:=[(e.drop.length:Int)]) (q1 (oS (by omega))); omega
 try simp only [List.length_cons,List.length_nil] at lL70
 have hed:=hed.mono hG70
 have hbb1:=hbb1.mono hG70
 refine .g (fA rfl kB rfl (lN rfl lP rfl ((hbb1.rd (by rfl)).rd) ?_))
 refine lE rfl rH rfl (mV rfl rfl (.nc (.block ?_)))
 refine aV (α:=Nat×Sh×List Y) (fun gh=>[(3,true,gh.2.1.val gh.2.2.length),(74,true,.int .i64 (gh.1:Int))]) (fun _=>[])
  (fun gh Gl=>(gh.1≤e.drop.length)∧(gh.2.2=L70++(e.drop.take gh.1).flatMap gV)∧(SlR Gl 1 aQ gh.2.1 gh.2.2)) (fun gh=>e.drop.length-gh.1) (0,h70,L70) [(72,true,_),(73,true,_)] []
  (aA rfl (aK rfl (aA rfl (aA rfl eZ))))
  mN ?_ ?_
 ·refine ⟨?_,?_,?_⟩
  ·(try dsimp only)<;>(first|omega|rfl|assumption|(simp; done))
  ·(try dsimp only)<;>(simp)
  (try dsimp only)<;>(exact hs70)
 intro gh N1 Gl1 hN1 hGl1 hF1
 obtain ⟨j,h9,L9⟩:=gh; dsimp only at hF1 hN1 ⊢
 obtain ⟨hj,eL9,hsl2⟩:=hF1
 have hed:=hed.mono hGl1
 have lk2:=wO (f:=gV) (xs:=e.drop) j
 have ld2:=aBU hw.drop
 have lL9:L9.length=L70.length+((e.drop.take j).flatMap gV).length:=by rw [eL9,List.length_append]
 refine .g (cP rfl rfl rfl rfl (.g (cD rfl (fun c2=>?_) (fun c2=>?_))))
 ·have c2k:=c2
  try simp only [aC,aD] at c2
  refine .skip (.code (.seq (.block (.seq (gK rfl rfl (ih rfl .no pB (.u rfl) (.u rfl) (by omega) (by omega) (fun _=>hed.nn (k:=j) (by first|omega|(simp only [Bool.and_eq_true,decide_eq_true_eq] at hc; omega)|(simp only [List.length_cons,List.length_nil]; omega))) ?_))))))
  obtain ⟨g,eg⟩:=iJ (k:=j) (xs:=e.drop) (by omega)
  refine lA rfl .no aAZ (.u rfl) (fun _=>(hed.at (by omega) eg).rd) (fun _=>rfl) ?_
  refine al rfl aAv ?_; intro b7
  refine sw rfl (.u rfl) (.u rfl) rfl aAq .here rfl (uR) ?_
  refine .nil (.code ?_)
  refine fP .here (by intro b hb; cases hb) ?_; intro Gfb7 hleb7 hbb7
  have hsl2:=hsl2.mono hleb7
  have hwg:=hw.drop g (List.mem_of_getElem? eg); have w1:=hwg.level; have w2:=hwg.number; have lt:=wN (f:=gV) eg
  refine .g (fA rfl oY rfl (lN rfl aZ rfl ((hbb7.rd (by rfl)).rd) ?_))
  refine cw rfl .no nZ (.u rfl) (fun _=>eD (by omega) (by omega)) ?_
  refine fA rfl yJ rfl (lN rfl bD rfl ((hbb7.rd (by rfl)).rd) ?_)
  refine bQ [g.level,g.number] rfl lQ nI (Evp.cons (.u rfl) (Evp.cons (.u rfl) Evp.nil)) rfl rfl (by decide) ?_; intro G84 h84 hG84 hs84
  have hsl2:=hsl2.mono hG84
  refine kc rfl qB (aB rfl (aB rfl aF)) (pQ L9 h9 [g.level,g.number] h84 _ hsl2 hs84 (q2 ⟨by omega,by omega⟩ ⟨by omega,by omega⟩) (by simp only [List.length_cons,List.length_nil]; omega)) ?_
  rintro _ G85 μ85 hG85 ⟨h85,L85,eL85,rfl,rfl,hs85⟩
  have lL85:L85.length≤L9.length+10*([g.level,g.number]:List Int).length:=by rw [eL85,List.length_append]; have:=iZ (ns:=[g.level,g.number]) (q2 ⟨by omega,by omega⟩ ⟨by omega,by omega⟩); omega
  try simp only [List.length_cons,List.length_nil] at lL85
  have hsl2:=hsl2.mono hG85
  refine .g (aW (((j+1):Nat):Int) rfl rfl rfl rfl ?_)
  refine .g (aP (j+1,h85,L85) ?_ ?_ ?_ ?_ ?_)
  ·exact (aA rfl (aK rfl (aA rfl (aA rfl eZ))))
  ·exact mN
  ·first|omega|(dsimp only; omega)
  ·exact (((hGl1).trans hleb7).trans hG84).trans hG85
  refine ⟨?_,?_,?_⟩
  ·(try dsimp only)<;>(first|omega|rfl|assumption|(simp; done))
  ·(try dsimp only)<;>(rw [eL85,aCz,eL9,uP eg,List.append_assoc])
  (try dsimp only)<;>(exact hs85)
 have c2k:=c2
 try simp only [aC,aD] at c2
 refine .exit (.xcode (.xlp (.xblk (.code (.seq (bJ rfl rfl (mV rfl rfl (aS rfl rfl (.nc (.ret (aM Tryz.results25 (.tmp rfl .nil) ?_)))))))))))
 obtain rfl:k=e.add.length:=by omega
 obtain rfl:j=e.drop.length:=by omega
 rw [List.take_length] at eL eL9
 exact ⟨h9,L9,by rw [eL9,eL70,eL,eL27,eL21,eL17,List.nil_append,aCy],rfl,rfl,hsl2⟩
theorem vX:dJ Tryz.prog 31=some (some 5):=by kernel_rfl
theorem aJ6:dJ Tryz.prog 120=some none:=by kernel_rfl
theorem aTF:aU Tryz.prog 25=true:=by kernel_rfl
theorem aTW:aU Tryz.prog 65=true:=by kernel_rfl
theorem aTw:dL Tryz.prog 120=some 1:=by kernel_rfl
theorem aT4:iD Tryz.prog 120=some ([.slice none 0 0]):=by kernel_rfl
theorem aKG:eS Tryz.prog 45 [0,1,2,3,4]=some (fE (fun _=>0)++[.slice none 0 0,.slice none 0 0],[(0,1),(1,1),(2,1),(3,1),(4,5)]):=by kernel_rfl
theorem aKo:aU Tryz.prog 64=true:=by kernel_rfl
theorem aKH:eS Tryz.prog 45 [5]=some (fE (fun _=>0)++[.slice none 0 0,.slice none 0 0],[(9,1)]):=by kernel_rfl
theorem aTX:aU Tryz.prog 66=true:=by kernel_rfl
theorem aFE (e:Edit) (ha hd:Sh) (L:List Dg) (v:Value) (bl:Nat) (G:PM) (he:EdR G e ha hd) (hla:e.add.length≤1000000) (hld:e.drop.length≤1000000) (hlm:(e.add.flatMap eF).length≤9000000000000) (hK:RdNP G 1 0 (wa 64 kW)) (hL:L.length≤1000000):Ct Tryz.prog 64 ([e.val ha hd,.pointer (some ⟨bl,0,none⟩)]:List Value).toArray G [.blk bl (cl [v] 120),rS 32 (ba 32) v 23 L] (fun _ μ' u=>∃ v',μ'=[.blk bl (cl [v'] 120),rS 32 (ba 32) v' 23 (L++[sY e])]∧u=.tuple #[]):=by
 refine Ct.of Tryz.func64 rfl Tryz.ntmps64 rfl fun w0 hs0=>?_
 have hle:=aBM he.wf hla hld
 refine .seq (aL rfl rfl ?_)
 refine bX rfl rfl rfl ?_; intro b2
 refine .g (bA (mc:=⟨false,false⟩) [0,1,2,3,4,5,6] aX (by kernel_rfl) ?_)
 refine lO rfl aJ6 rfl aE (by first|exact aJ rfl|rfl) ?_
 refine lA rfl .no oU (.u rfl) (fun _=>RdN.own .here) (fun _=>Edit.len) ?_
 refine kc rfl aTF (aB rfl aF) (aMi e ha hd _ he hla hld (by omega)) ?_
 rintro _ G5 μ5 hG5 ⟨h5,L5,eL5,rfl,rfl,hs5⟩
 have hK:=hK.mono hG5
 refine kV rfl aTW (aB rfl aF) (aNc _ _ _ hs5 hK (by rw [eL5]; omega)) ?_
 refine Go.Tan.b1 rfl mP vW (.u rfl) rfl rfl (by decide) ?_; intro b7
 refine eC (xs:=L) ((wT L5)) rfl mP vW rfl (.u rfl) (.u rfl) bB .here (bT _ _) (jR _ _) (by omega) (by unfold maxLen; omega) ?_; intro v8 ov8
 refine dE rfl (.u rfl) (.u rfl) .here aTw bB (by first|decide|(simp only [bV,bT,bM]; omega)) (rfl) ?_
 refine .g (We.fin Tryz.results64 .nil (mS .here rfl (mS .here rfl mN)) ?_)
 exact ⟨_,by rw [eL5]; rfl,rfl⟩
theorem aLQ (m:Meta) (b:Nat) (T:TypeId) (L:List Dg) (v:Value) (bl:Nat) (G:PM) (hw:m.wf) (hm:m.min.size+m.max.size≤900000000000) (hK:RdNP G 1 0 (wa 64 kW)) (hL:L.length≤1000000):Ct Tryz.prog 64 ([(lY m).val ⟨some ⟨b,0,none⟩,1⟩ ⟨none,0⟩]++[.pointer (some ⟨bl,0,none⟩)]:List Value).toArray G [.blk b (cl m.cells T),.blk bl (cl [v] 120),rS 32 (ba 32) v 23 L] (fun _ μ' u=>∃ v',μ'=[.blk bl (cl [v'] 120),rS 32 (ba 32) v' 23 (L++[sY (lY m)])]∧u=.tuple #[]):=by
 refine aCI fun hle=>?_
 have h1:=aDj hw
 exact aFE (lY m) ⟨some ⟨b,0,none⟩,1⟩ ⟨none,0⟩ L v bl _ ⟨SlR.one1 (enc:=Meta.cells) (x:=m),SlR.nul,aDk hw⟩ (by show 1≤_; decide) (by show 0≤_; decide) (by omega) (hK.mono hle) hL
theorem aNp (s:State) (hd:Nat→Sh) (G:PM) (hs:StR G s hd) (hn:StN s) (hl:StL s) (hK:RdNP G 1 0 (wa 64 kW)):Ct Tryz.prog 22 ([s.val hd]:List Value).toArray G [] (fun _ μ' u=>μ'=[]∧u=.agg (ba 32 (mG s)).toArray):=by
 refine Ct.of Tryz.func22 rfl Tryz.ntmps22 rfl fun w0 hs0=>?_
 have hf:=hl.few
 refine .seq (bJ rfl rfl ?_)
 refine bX rfl rfl rfl ?_; intro b1
 refine al rfl fQ ?_; intro b2
 refine .nil (.code (.seq (aL rfl rfl ?_)))
 refine al rfl aT4 ?_; intro b3
 refine .g (mf (vf:=#[]) (vc:=[Value.pointer (some ⟨b3,0,none⟩)].toArray) rfl .no (fun a ha _=>by simp) (fun a ha _=>by simp [(Ev.u (c:=true) rfl:Ev _ true (.tmp 3) _).eval ha rfl]) ?_)
 refine aS rfl rfl (.nc (.seq (nW 32 (ba 32) 23 ?_)))
 refine .g (fZ rfl tT rfl (lO rfl bD rfl bB (by first|exact aJ rfl|rfl) ?_))
 refine fZ rfl rE rfl (lO rfl bD rfl bB (by first|exact aJ rfl|rfl) ?_)
 refine fZ rfl tU rfl (lO rfl bD rfl bB (by first|exact aJ rfl|rfl) ?_)
 refine fZ rfl yK rfl (lO rfl bD rfl bB (by first|exact aJ rfl|rfl) ?_)
 refine fZ rfl tV rfl (lA rfl .no vX (.u rfl) (fun _=>RdN.part (n:=5) (cs':=(List.range 5).map (fun i=>.int .u64 (s.gens i))) bB (rfl)) (fun _=>rfl) (dK ((nO s).cells ⟨none,0⟩ ⟨none,0⟩) rfl .no aKG (.cons (.u rfl) rfl (.cons (.u rfl) rfl (.cons (.u rfl) rfl (.cons (.u rfl) rfl (.cons (.u rfl) rfl .nil))))) rfl (rfl) (kaf (vs:=[_]) (vc:=[.pointer (some ⟨b3,0,none⟩)]) rfl (.inr rfl) (.u rfl) aKo (aB rfl aF) (gT aE .here) (aFE (nO s) ⟨none,0⟩ ⟨none,0⟩ [] _ b3 _ ⟨SlR.nul,SlR.nul,aDG hn⟩ (by show 0≤_; decide) (by show 0≤_; decide) (by have:=aGb (s:=s); omega) hK (by simp)) ?_)))
 rintro _ G22 μ22 hG22 ⟨v22,rfl,rfl⟩
 have hs:=hs.mono hG22
 have hK:=hK.mono hG22
 refine .g (fZ rfl dI rfl (lA rfl .no aCL (.u rfl) (fun _=>RdN.part (n:=5) (cs':=(List.range 5).map (fun i=>(hd i).val (s.lv i).length)) bB (rfl)) (fun _=>rfl) ?_))
 refine mV rfl rfl (.nc (.block ?_))
 refine aV (α:=Nat×Value) (fun gh=>[(25,true,.int .i64 (gh.1:Int))]) (fun gh=>[.blk b3 (cl [gh.2] 120),rS 32 (ba 32) gh.2 23 (jU s gh.1 0)])
  (fun gh Gl=>(gh.1≤5)) (fun gh=>5-gh.1) (0,v22) [(2,true,_),(3,true,_),(4,true,_),(24,true,_)] [_,_]
  (aK rfl (aA rfl (aA rfl (aA rfl (aA rfl eZ)))))
  (mS .here rfl (mS .here (by rw [aGv]) (mS .here rfl (mS .here rfl mN)))) ?_ ?_
 ·(try dsimp only)<;>(first|omega|rfl|assumption|(simp; done))
 intro gh N0 Gl0 hN0 hGl0 hF0
 obtain ⟨k,v⟩:=gh; dsimp only at hF0 hN0 ⊢
 have hk:=hF0
 have hs:=hs.mono hGl0
 have hK:=hK.mono hGl0
 refine .g (cP rfl rfl rfl rfl (.g (cD rfl (fun c1=>?_) (fun c1=>?_))))
 ·have c1k:=c1
  try simp only [aC,aG,aD] at c1
  refine .skip (.code (.seq (.block (.seq ?_))))
  have hlv:=hs.lv k (by omega)
  have htl:=aJY (s:=s) (k:=k) (by omega)
  have htn:=xY s k
  refine .g (ix rfl .no cS cM (.u rfl) (.u rfl) (by omega) (by omega) (fun _=>(aNl s hd (k:=k) (by omega) (by omega))) ?_)
  refine .g (lE rfl fH rfl (mV rfl rfl (.nc (.block ?_))))
  refine aV (α:=Nat×Value) (fun gh=>[(30,true,.int .i64 (gh.1:Int))]) (fun gh=>[.blk b3 (cl [gh.2] 120),rS 32 (ba 32) gh.2 23 (jU s k gh.1)])
   (fun gh Gl=>(gh.1≤(s.lv k).length)) (fun gh=>(s.lv k).length-gh.1) (0,v) [(2,true,_),(3,true,_),(4,true,_),(24,true,_),(25,true,_),(28,true,_),(29,true,_)] [_,_]
   (aK rfl (aA rfl (aA rfl (aA rfl (aA rfl (aA rfl (aA rfl (aA rfl eZ))))))))
   (mS .here rfl (mS .here rfl (mS .here rfl (mS .here rfl mN)))) ?_ ?_
  ·(try dsimp only)<;>(first|omega|rfl|assumption|(simp; done))
  intro gh N1 Gl1 hN1 hGl1 hF1
  obtain ⟨j,w⟩:=gh; dsimp only at hF1 hN1 ⊢
  have hj:=hF1
  have hs:=hs.mono hGl1
  have hK:=hK.mono hGl1
  have hlv:=hlv.mono hGl1
  refine .g (cP rfl rfl rfl rfl (.g (cD rfl (fun c2=>?_) (fun c2=>?_))))
  ·have c2k:=c2
   try simp only [aC,aG,aD] at c2
   refine .skip (.code (.seq (.block (.seq (gK rfl rfl (ih rfl .no aY (.u rfl) (.u rfl) (by omega) (by omega) (fun _=>hlv.nn (k:=j) (by first|omega|(simp only [Bool.and_eq_true,decide_eq_true_eq] at hc; omega)|(simp only [List.length_cons,List.length_nil]; omega))) ?_))))))
   obtain ⟨m,em⟩:=iJ (k:=j) (xs:=s.lv k) (by omega)
   refine lA rfl .no dF (.u rfl) (fun _=>(hlv.at (by omega) em).rd) (fun _=>Meta.len _) ?_
   refine al rfl qD ?_; intro b8
   refine sw rfl (.u rfl) (.u rfl) rfl jP .here rfl (Meta.one _) ?_
   refine .g (lA rfl .no dF (.u rfl) (fun _=>RdN.own .here) (fun _=>Meta.len _) ?_)
   refine Go.Tan.b1 rfl aY cT (.u rfl) rfl rfl (by decide) ?_; intro b36
   refine dK ((lY m).cells ⟨some ⟨b36,0,none⟩,1⟩ ⟨none,0⟩) rfl .no aKH (.cons (.u rfl) rfl .nil) rfl (rfl) (kaf (vs:=[_]) (vc:=[.pointer (some ⟨b3,0,none⟩)]) rfl (.inr rfl) (.u rfl) aKo (aB rfl aF) (aHM .here aE aE) (aLQ m b36 _ (jU s k j) _ b3 _ (hs.wf k (by omega) m (List.mem_of_getElem? em)) (hl.short k (by omega) m (List.mem_of_getElem? em)) hK (by have:=aDO s k j; omega)) ?_)
   rintro _ G38 μ38 hG38 ⟨v38,rfl,rfl⟩
   have hK:=hK.mono hG38
   refine .g (aW (((j+1):Nat):Int) rfl rfl rfl rfl ?_)
   refine .g (aP (j+1,v38) ?_ ?_ ?_ ?_ ?_)
   ·exact (aK rfl (aA rfl (aA rfl (aA rfl (aA rfl (aA rfl (aA rfl (aA rfl eZ))))))))
   ·exact (mS .here rfl (mS .here (by rw [aGy em]) (mS aE rfl (mS aE rfl mN))))
   ·first|omega|(dsimp only; omega)
   ·exact (hGl1).trans hG38
   (try dsimp only)<;>(first|omega|rfl|assumption|(simp; done))
  have c2k:=c2
  try simp only [aC,aG,aD] at c2
  refine .g (aW (((k+1):Nat):Int) rfl rfl rfl rfl ?_)
  refine .g (aP (k+1,w) ?_ ?_ ?_ ?_ ?_)
  ·exact (aK rfl (aA rfl (aA rfl (aA rfl (aA rfl eZ)))))
  ·exact (mS .here rfl (mS .here (by rw [aGx (by omega)]) (mS .here rfl (mS .here rfl mN))))
  ·first|omega|(dsimp only; omega)
  ·exact (hGl0).trans hGl1
  (try dsimp only)<;>(first|omega|rfl|assumption|(simp; done))
 have c1k:=c1
 try simp only [aC,aG,aD] at c1
 refine .exit (.xcode (.xlp (.xblk (.code (.seq ?_)))))
 obtain rfl:k=5:=by omega
 rw [aGw]
 have hll:=aGu s
 refine mK aE (fun _ _=>rfl) (by intro b hb; cases hb) ?_; intro GfRL hRL hleRL evRL hsRL; subst evRL
 have hK:=hK.mono hleRL
 refine .g (lO rfl aJ6 rfl .here (by first|exact aJ rfl|rfl) ?_)
 refine kV rfl aTX (aB rfl aF) (aQA (sZ s) hRL _ hsRL hK (by omega)) ?_
 refine sW rfl rfl rfl rfl fB aE ?_
 refine .nil (.code (.ret (aM Tryz.results22 (.cell rfl (fun w hw=>bI dY (RdN.own .here) ((bT _ _)) hw) .nil) ?_)))
 exact ⟨rfl,rfl⟩
theorem yS:aU Tryz.prog 95=true:=by kernel_rfl
theorem aKY:aU Tryz.prog 124=true:=by kernel_rfl
theorem aTp:aU Tryz.prog 96=true:=by kernel_rfl
set_option maxHeartbeats 1000000 in
theorem aPT (m:Meta) (G:PM) (hwm:m.wf) (hlm:m.min.size+m.max.size≤10000000000000):Ct Tryz.prog 96 ([m.val]:List Value).toArray G [] (PR 5 (fun L=>L=eF m)):=by
 refine Ct.of Tryz.func96 rfl Tryz.ntmps96 rfl fun w0 hs0=>?_
 have w1:=hwm.level; have w2:=hwm.gen; have w3:=hwm.epoch; have w4:=hwm.number; have l6:=aEI hwm; have ly:=nE m.min; have ly2:=nE m.max
 refine .seq (bJ rfl rfl ?_)
 refine bX rfl rfl rfl ?_; intro b1
 refine aS rfl rfl (.nc (.seq ?_))
 refine fP .here (by intro b hb; cases hb) ?_; intro Gfb1 hleb1 hbb1
 refine .g (fA rfl gH rfl (lN rfl aZ rfl ((hbb1.rd (by rfl)).rd) ?_))
 refine cw rfl .no nZ (.u rfl) (fun _=>eD (by omega) (by omega)) ?_
 refine fA rfl vP rfl (lN rfl bD rfl ((hbb1.rd (by rfl)).rd) ?_)
 refine fA rfl aAf rfl (lN rfl bD rfl ((hbb1.rd (by rfl)).rd) ?_)
 refine fA rfl iR rfl (lN rfl bD rfl ((hbb1.rd (by rfl)).rd) ?_)
 refine fA rfl vQ rfl (lN rfl dH rfl ((hbb1.rd (by rfl)).rd) ?_)
 refine cv rfl .no gG (.u rfl) (fA rfl vR rfl (lN rfl dH rfl ((hbb1.rd (by rfl)).rd) ?_))
 refine cv rfl .no gG (.u rfl) ?_
 refine bQ [m.level,m.gen,m.epoch,m.number,IntKind.u64.wrap m.size,IntKind.u64.wrap m.count] rfl lQ nI (Evp.cons (.u rfl) (Evp.cons (.u rfl) (Evp.cons (.u rfl) (Evp.cons (.u rfl) (Evp.cons (.u rfl) (Evp.cons (.u rfl) Evp.nil)))))) rfl rfl (by decide) ?_; intro G19 h19 hG19 hs19
 have hbb1:=hbb1.mono hG19
 refine kc rfl yS (aB rfl aF) (jZ (wY [m.level,m.gen,m.epoch,m.number,IntKind.u64.wrap m.size,IntKind.u64.wrap m.count] h19 _ hs19 l6 (by simp only [List.length_cons,List.length_nil]; omega))) ?_
 rintro v20 G20 μ20 hG20 ⟨L20,ov20,eL20,rfl⟩
 have hbb1:=hbb1.mono hG20
 refine .g (fA rfl mM rfl (lN rfl iE rfl ((hbb1.rd (by rfl)).rd) ?_))
 refine kc rfl aKY (aB rfl aF) (Ct.frzB (aIa m.min _ (by omega))) ?_
 rintro _ G24 μ24 hG24 ⟨h24,L24,eL24,rfl,rfl,hs24⟩
 have hbb1:=hbb1.mono hG24
 have lL20:L20.length≤10*([m.level,m.gen,m.epoch,m.number,IntKind.u64.wrap m.size,IntKind.u64.wrap m.count]:List Int).length:=by rw [eL20]; exact iZ (ns:=[m.level,m.gen,m.epoch,m.number,IntKind.u64.wrap m.size,IntKind.u64.wrap m.count]) l6
 try simp only [List.length_cons,List.length_nil] at lL20
 have l24:L24.length≤m.min.size+10:=by rw [eL24]; have:=tK (xs:=yb m.min) (by omega); omega
 refine dC rfl aI bF (.u rfl) (.u rfl) .here hs24.sc (by (try simp only [bM,bK]); omega) ?_
 intro v25 L25 ov25 eL25
 have lL25:L25.length=L20.length+L24.length:=by rw [eL25,List.length_append]
 refine .g (fA rfl qA rfl (lN rfl iE rfl ((hbb1.rd (by rfl)).rd) ?_))
 refine kc rfl aKY (aB rfl aF) (Ct.frzB (aIa m.max _ (by omega))) ?_
 rintro _ G29 μ29 hG29 ⟨h29,L29,eL29,rfl,rfl,hs29⟩
 have hbb1:=hbb1.mono hG29
 have l29:L29.length≤m.max.size+10:=by rw [eL29]; have:=tK (xs:=yb m.max) (by omega); omega
 refine dC rfl aI bF (.u rfl) (.u rfl) .here hs29.sc (by (try simp only [bM,bK]); omega) ?_
 intro v30 L30 ov30 eL30
 have lL30:L30.length=L25.length+L29.length:=by rw [eL30,List.length_append]
 refine .g (fA rfl aAg rfl ?_)
 refine kA rfl .no fU (.u rfl) hbb1 (aDW hwm) ?_; intro h33 L33 eL33 lL33 hs33
 refine dC rfl aI bF (.u rfl) (.u rfl) .here hs33.sc (by (try simp only [bM,bK]); omega) ?_
 intro v34 L34 ov34 eL34
 have lL34:L34.length=L30.length+L33.length:=by rw [eL34,List.length_append]
 refine aS rfl rfl (.nc (.seq (bJ rfl rfl (mV rfl rfl (aS rfl rfl (.nc (.ret (We.fin Tryz.results96 (.tmp rfl .nil) (mS .here rfl mN) ?_))))))))
 exact ⟨L34,by have:=aC0 m []; rw [List.nil_append,List.nil_append] at this; rw [eL34,eL30,eL25,eL20,eL24,eL29,eL33,this],rfl⟩
set_option maxHeartbeats 2000000 in
theorem aDq (e:Edit) (ha hd:Sh) (G:PM) (he:EdR G e ha hd) (hla:e.add.length≤1000000) (hld:e.drop.length≤1000000) (hlm:(e.add.flatMap eF).length≤10000000000000):Ct Tryz.prog 53 ([e.val ha hd]:List Value).toArray G [] (PR 5 (fun L=>L=kU e)):=by
 refine Ct.of Tryz.func53 rfl Tryz.ntmps53 rfl fun w0 hs0=>?_
 have hea:=he.add; have hed:=he.drop; have hw:=he.wf; have hw1:=hw.log; have hw2:=hw.next; have hw3:=hw.seq; have hw4:=hw.least; have lgn:(jT e).length=5:=rfl
 refine .seq (bJ rfl rfl ?_)
 refine bX rfl rfl rfl ?_; intro b1
 refine aS rfl rfl (.nc (.seq ?_))
 refine fP .here (by intro b hb; cases hb) ?_; intro Gfb1 hleb1 hbb1
 have hea:=hea.mono hleb1
 have hed:=hed.mono hleb1
 have hgn:=aGS hbb1
 refine .g (fA rfl vO rfl (lN rfl bD rfl ((hbb1.rd (by rfl)).rd) ?_))
 refine fA rfl tX rfl (lN rfl bD rfl ((hbb1.rd (by rfl)).rd) ?_)
 refine fA rfl tY rfl (lN rfl bD rfl ((hbb1.rd (by rfl)).rd) ?_)
 refine fA rfl tZ rfl (lN rfl bD rfl ((hbb1.rd (by rfl)).rd) ?_)
 refine bQ [e.log,e.next,e.seq,e.least] rfl lQ nI (Evp.cons (.u rfl) (Evp.cons (.u rfl) (Evp.cons (.u rfl) (Evp.cons (.u rfl) Evp.nil)))) rfl rfl (by decide) ?_; intro G14 h14 hG14 hs14
 have hea:=hea.mono hG14
 have hed:=hed.mono hG14
 have hbb1:=hbb1.mono hG14
 have hgn:=hgn.mono hG14
 refine kc rfl yS (aB rfl aF) (jZ (wY [e.log,e.next,e.seq,e.least] h14 _ hs14 (q4 hw1 hw2 hw3 hw4) (by simp only [List.length_cons,List.length_nil]; omega))) ?_
 rintro v15 G15 μ15 hG15 ⟨L15,ov15,eL15,rfl⟩
 have hea:=hea.mono hG15
 have hed:=hed.mono hG15
 have hbb1:=hbb1.mono hG15
 have hgn:=hgn.mono hG15
 refine .g (fA rfl uA rfl (lG rfl .no rA (.u rfl) (kc rfl yS (aB rfl aF) (Ct.frzB (wY (jT e) ⟨some ⟨b1,4,none⟩,5⟩ _ hgn (uQ hw) (by show 10*5≤_; omega))) ?_)))
 rintro _ G19 μ19 hG19 ⟨h19,L19,eL19,rfl,rfl,hs19⟩
 have hea:=hea.mono hG19
 have hed:=hed.mono hG19
 have hbb1:=hbb1.mono hG19
 have lL15:L15.length≤10*([e.log,e.next,e.seq,e.least]:List Int).length:=by rw [eL15]; exact iZ (ns:=[e.log,e.next,e.seq,e.least]) (q4 hw1 hw2 hw3 hw4)
 try simp only [List.length_cons,List.length_nil] at lL15
 have lL19:L19.length≤10*((jT e):List Int).length:=by rw [eL19]; exact iZ (ns:=(jT e)) (uQ hw)
 try simp only [List.length_cons,List.length_nil] at lL19
 refine dC rfl aI bF (.u rfl) (.u rfl) .here hs19.sc (by (try simp only [bM,bK]); omega) ?_
 intro v20 L20 ov20 eL20
 have lL20:L20.length=L15.length+L19.length:=by rw [eL20,List.length_append]
 refine .g (fA rfl fW rfl (lN rfl cM rfl ((hbb1.rd (by rfl)).rd) ?_))
 refine lE rfl fH rfl (cw rfl .no gG (.u rfl) (fun _=>eD (by omega) (by omega)) ?_)
 refine bQ [(e.add.length:Int)] rfl lQ nI (Evp.cons (.u rfl) Evp.nil) rfl rfl (by decide) ?_; intro G26 h26 hG26 hs26
 have hea:=hea.mono hG26
 have hed:=hed.mono hG26
 have hbb1:=hbb1.mono hG26
 refine kc rfl yS (aB rfl aF) (Ct.frzB (wY [(e.add.length:Int)] h26 _ hs26 (q1 (oS (by omega))) (by simp only [List.length_cons,List.length_nil]; omega))) ?_
 rintro _ G27 μ27 hG27 ⟨h27,L27,eL27,rfl,rfl,hs27⟩
 have hea:=hea.mono hG27
 have hed:=hed.mono hG27
 have hbb1:=hbb1.mono hG27
 have lL27:L27.length≤10*([(e.add.length:Int)]:List Int).length:=by rw [eL27]; exact iZ (ns:=[(e.add.length:Int)]) (q1 (oS (by omega)))
 try simp only [List.length_cons,List.length_nil] at lL27
 refine dC rfl aI bF (.u rfl) (.u rfl) .here hs27.sc (by (try simp only [bM,bK]); omega) ?_
 intro v28 L28 ov28 eL28
 have lL28:L28.length=L20.length+L27.length:=by rw [eL28,List.length_append]
 refine aS rfl rfl (.nc (.seq (.seq (aL rfl rfl (aS rfl rfl (.nc (.block ?_)))))))
 refine aV (α:=Nat×Value×List Y) (fun gh=>[(3,true,gh.2.1),(4,true,.int .i64 (gh.1:Int))]) (fun gh=>[rB gh.2.1 5 gh.2.2])
  (fun gh Gl=>(gh.1≤e.add.length)∧(gh.2.2=L28++(e.add.take gh.1).flatMap eF)) (fun gh=>e.add.length-gh.1) (0,v28,L28) [(1,true,_)] []
  (aA rfl (aK rfl (aA rfl eZ)))
  (mS .here rfl mN) ?_ ?_
 ·refine ⟨?_,?_⟩
  ·(try dsimp only)<;>(first|omega|rfl|assumption|(simp; done))
  (try dsimp only)<;>(simp)
 intro gh N0 Gl0 hN0 hGl0 hF0
 obtain ⟨k,v3,L3⟩:=gh; dsimp only at hF0 hN0 ⊢
 obtain ⟨hk,eL⟩:=hF0
 have hea:=hea.mono hGl0
 have hed:=hed.mono hGl0
 have hbb1:=hbb1.mono hGl0
 have lk:=wO (f:=eF) (xs:=e.add) k
 have lL:L3.length=L28.length+((e.add.take k).flatMap eF).length:=by rw [eL,List.length_append]
 refine .g (fA rfl fW rfl (lN rfl cM rfl ((hbb1.rd (by rfl)).rd) ?_))
 refine lE rfl fH rfl (cP rfl rfl rfl rfl (.g (cD rfl (fun c1=>?_) (fun c1=>?_))))
 ·have c1k:=c1
  try simp only [aC,aD] at c1
  refine .g (fA rfl fW rfl (lN rfl cM rfl ((hbb1.rd (by rfl)).rd) ?_))
  refine mV rfl rfl (ih rfl .no aY (.u rfl) (.u rfl) (by omega) (by omega) (fun _=>hea.nn (k:=k) (by first|omega|(simp only [Bool.and_eq_true,decide_eq_true_eq] at hc; omega)|(simp only [List.length_cons,List.length_nil]; omega))) ?_)
  obtain ⟨m,em⟩:=iJ (k:=k) (xs:=e.add) (by omega)
  refine lA rfl .no dF (.u rfl) (fun _=>(hea.at (by omega) em).rd) (fun _=>Meta.len _) ?_
  have hwm:=hw.add m (List.mem_of_getElem? em); have lt:=wN (f:=eF) em; have lg:=aC1 m
  refine kc rfl aTp (aB rfl aF) (Ct.frzB (aPT m _ hwm (by omega))) ?_
  rintro _ G42 μ42 hG42 ⟨h42,L42,eL42,rfl,rfl,hs42⟩
  have hed:=hed.mono hG42
  have hbb1:=hbb1.mono hG42
  have l42:L42.length=(eF m).length:=by rw [eL42]
  refine dC rfl aI bF (.u rfl) (.u rfl) .here hs42.sc (by (try simp only [bM,bK]); omega) ?_
  intro v43 L43 ov43 eL43
  have lL43:L43.length=L3.length+L42.length:=by rw [eL43,List.length_append]
  refine .g (aW (((k+1):Nat):Int) rfl rfl rfl rfl ?_)
  refine .g (aP (k+1,v43,L43) ?_ ?_ ?_ ?_ ?_)
  ·exact (aA rfl (aK rfl (aA rfl eZ)))
  ·exact (mS .here rfl mN)
  ·first|omega|(dsimp only; omega)
  ·exact (hGl0).trans hG42
  refine ⟨?_,?_⟩
  ·(try dsimp only)<;>(first|omega|rfl|assumption|(simp; done))
  (try dsimp only)<;>(rw [eL43,eL42,eL,uP em,List.append_assoc])
 have c1k:=c1
 try simp only [aC,aD] at c1
 refine .g (fA rfl kB rfl (lN rfl lP rfl ((hbb1.rd (by rfl)).rd) ?_))
 refine lE rfl rH rfl (cw rfl .no gG (.u rfl) (fun _=>eD (by omega) (by omega)) ?_)
 refine bQ [(e.drop.length:Int)] rfl lQ nI (Evp.cons (.u rfl) Evp.nil) rfl rfl (by decide) ?_; intro G49 h49 hG49 hs49
 have hed:=hed.mono hG49
 have hbb1:=hbb1.mono hG49
 refine kc rfl yS (aB rfl aF) (Ct.frzB (wY [(e.drop.length:Int)] h49 _ hs49 (q1 (oS (by omega))) (by simp only [List.length_cons,List.length_nil]; omega))) ?_
 rintro _ G50 μ50 hG50 ⟨h50,L50,eL50,rfl,rfl,hs50⟩
 have hed:=hed.mono hG50
 have hbb1:=hbb1.mono hG50
 have lL50:L50.length≤10*([(e.drop.length:Int)]:List Int).length:=by rw [eL50]; exact iZ (ns:=[(e.drop.length:Int)]) (q1 (oS (by omega)))
 try simp only [List.length_cons,List.length_nil] at lL50
 refine dC rfl aI bF (.u rfl) (.u rfl) .here hs50.sc (by (try simp only [bM,bK]); omega) ?_
 intro v51 L51 ov51 eL51
 have lL51:L51.length=L3.length+L50.length:=by rw [eL51,List.length_append]
 refine aS rfl rfl (.nc (.seq (.seq (aL rfl rfl (aS rfl rfl (.nc (.block ?_)))))))
 refine aV (α:=Nat×Value×List Y) (fun gh=>[(3,true,gh.2.1),(5,true,.int .i64 (gh.1:Int))]) (fun gh=>[rB gh.2.1 5 gh.2.2])
  (fun gh Gl=>(gh.1≤e.drop.length)∧(gh.2.2=L51++(e.drop.take gh.1).flatMap gV)) (fun gh=>e.drop.length-gh.1) (0,v51,L51) [(1,true,_)] []
  (aA rfl (aK rfl (aA rfl eZ)))
  (mS .here rfl mN) ?_ ?_
 ·refine ⟨?_,?_⟩
  ·(try dsimp only)<;>(first|omega|rfl|assumption|(simp; done))
  (try dsimp only)<;>(simp)
 intro gh N1 Gl1 hN1 hGl1 hF1
 obtain ⟨j,v9,L9⟩:=gh; dsimp only at hF1 hN1 ⊢
 obtain ⟨hj,eL9⟩:=hF1
 have hed:=hed.mono hGl1
 have hbb1:=hbb1.mono hGl1
 have lk2:=wO (f:=gV) (xs:=e.drop) j
 have ld2:=aBU hw.drop
 have lL9:L9.length=L51.length+((e.drop.take j).flatMap gV).length:=by rw [eL9,List.length_append]
 refine .g (fA rfl kB rfl (lN rfl lP rfl ((hbb1.rd (by rfl)).rd) ?_))
 refine lE rfl rH rfl (cP rfl rfl rfl rfl (.g (cD rfl (fun c2=>?_) (fun c2=>?_))))
 ·have c2k:=c2
  try simp only [aC,aD] at c2
  refine .g (bA (mc:=⟨false,false⟩) [0,1,2,3,4,5,6,7,8,9,10,11,12,13,14,15,16,17] aX (by kernel_rfl) ?_)
  obtain ⟨g,eg⟩:=iJ (k:=j) (xs:=e.drop) (by omega)
  have hwg:=hw.drop g (List.mem_of_getElem? eg); have w1:=hwg.level; have w2:=hwg.number; have lt:=wN (f:=gV) eg
  refine .p (fA rfl kB rfl (lN rfl lP rfl ((hbb1.rd (by rfl)).rd) ?_))
  refine mV rfl rfl (ih rfl .no pB (.u rfl) (.u rfl) (by omega) (by omega) (fun _=>hed.nn (k:=j) (by first|omega|(simp only [Bool.and_eq_true,decide_eq_true_eq] at hc; omega)|(simp only [List.length_cons,List.length_nil]; omega))) ?_)
  refine fA rfl oY rfl (lN rfl aZ rfl ((hed.fat (by omega) eg 0 rfl).rd) ?_)
  refine cw rfl .no nZ (.u rfl) (fun _=>eD (by omega) (by omega)) ?_
  refine fA rfl kB rfl (lN rfl lP rfl ((hbb1.rd (by rfl)).rd) ?_)
  refine mV rfl rfl (ih rfl .no pB (.u rfl) (.u rfl) (by omega) (by omega) (fun _=>hed.nn (k:=j) (by first|omega|(simp only [Bool.and_eq_true,decide_eq_true_eq] at hc; omega)|(simp only [List.length_cons,List.length_nil]; omega))) ?_)
  refine fA rfl yJ rfl (lN rfl bD rfl ((hed.fat (by omega) eg 1 rfl).rd) ?_)
  refine bQ [g.level,g.number] rfl lQ nI (Evp.cons (.u rfl) (Evp.cons (.u rfl) Evp.nil)) rfl rfl (by decide) ?_; intro G73 h73 hG73 hs73
  refine kc rfl yS (aB rfl aF) (Ct.frzB (wY [g.level,g.number] h73 _ hs73 (q2 ⟨by omega,by omega⟩ ⟨by omega,by omega⟩) (by simp only [List.length_cons,List.length_nil]; omega))) ?_
  rintro _ G74 μ74 hG74 ⟨h74,L74,eL74,rfl,rfl,hs74⟩
  have lL74:L74.length≤10*([g.level,g.number]:List Int).length:=by rw [eL74]; exact iZ (ns:=[g.level,g.number]) (q2 ⟨by omega,by omega⟩ ⟨by omega,by omega⟩)
  try simp only [List.length_cons,List.length_nil] at lL74
  refine dC rfl aI bF (.u rfl) (.u rfl) .here hs74.sc (by (try simp only [bM,bK]); omega) ?_
  intro v75 L75 ov75 eL75
  have lL75:L75.length=L9.length+L74.length:=by rw [eL75,List.length_append]
  refine .g (aW (((j+1):Nat):Int) rfl rfl rfl rfl ?_)
  refine .g (aP (j+1,v75,L75) ?_ ?_ ?_ ?_ ?_)
  ·exact (aA rfl (aK rfl (aA rfl eZ)))
  ·exact (mS .here rfl mN)
  ·first|omega|(dsimp only; omega)
  ·exact ((hGl1).trans hG73).trans hG74
  refine ⟨?_,?_⟩
  ·(try dsimp only)<;>(first|omega|rfl|assumption|(simp; done))
  (try dsimp only)<;>(rw [eL75,eL74,aCz,eL9,uP eg,List.append_assoc])
 have c2k:=c2
 try simp only [aC,aD] at c2
 refine .exit (.xcode (.xlp (.xblk (.code (.seq (bJ rfl rfl (mV rfl rfl (aS rfl rfl (.nc (.ret (We.fin Tryz.results53 (.tmp rfl .nil) (mS .here rfl mN) ?_)))))))))))
 obtain rfl:k=e.add.length:=by omega
 obtain rfl:j=e.drop.length:=by omega
 rw [List.take_length] at eL eL9
 exact ⟨L9,by rw [eL9,eL51,eL50,eL,eL28,eL27,eL20,eL19,eL15,aCy],rfl⟩
theorem aSz:aU Tryz.prog 120=true:=by kernel_rfl
theorem aEs:aU Tryz.prog 93=true:=by kernel_rfl
theorem aS0:aU Tryz.prog 121=true:=by kernel_rfl
theorem aEr:aU Tryz.prog 53=true:=by kernel_rfl
theorem aKW:aU Tryz.prog 122=true:=by kernel_rfl
theorem aTo:aU Tryz.prog 94=true:=by kernel_rfl
theorem aH0 (xs:List Y) (v:Value) (G:PM) (hR:RdNP G 0 0 (wa 64 kW)) (hl:xs.length≤1000000000000):Ct Tryz.prog 119 ([v]:List Value).toArray G [rB v 5 xs] (fun _ μ' u=>∃ ν,μ'=rB v 5 xs :: ν∧ν=[]∧u=.agg (ba 32 (gM xs)).toArray) :=
 aCK (fun hx G2 hle hv hs=>by subst hv; exact aAD xs hx G2 hs (hR.mono hle) hl)
theorem aHx (p:List Y) (h:Sh) (G:PM) (hs:SlR G 1 aQ h p) (hR:RdNP G 0 0 (wa 64 kW)) (hl:p.length≤999999999999):Ct Tryz.prog 122 ([h.val p.length]:List Value).toArray G [] (fun _ μ' u=>μ'=[]∧u=.agg (ba 32 (wT p)).toArray):=by
 refine Ct.of Tryz.func122 rfl Tryz.ntmps122 rfl fun w0 hs0=>?_
 refine .seq (aL rfl rfl ?_)
 refine al rfl fQ ?_; intro b2
 refine .nil (.code (.seq (bJ rfl rfl ?_)))
 refine Go.Tan.b1 rfl aI bF (.u rfl) rfl rfl (by decide) ?_; intro b4
 refine aS rfl rfl (.nc (.seq (aCB [0#8] 1 .here rfl rfl (by decide) ?_)))
 have lR4:([0#8]:List Y).length=1:=rfl
 refine .g (dC rfl aI bF (.u rfl) (.u rfl) .here hs.sc (by (try simp only [bM,bK]); omega) ?_)
 intro v7 L7 ov7 eL7
 have lL7:L7.length=[0#8].length+p.length:=by rw [eL7,List.length_append]
 refine ka rfl (.inr rfl) yO (aB rfl aF) (bL .here) (aH0 L7 _ _ hR (by omega)) ?_
 rintro _ G8 μ8 hG8 ⟨_,rfl,rfl,rfl⟩
 refine sW rfl rfl rfl rfl fB aE ?_
 refine .nil (.code (.ret (aM Tryz.results122 (.cell rfl (fun w hw=>bI dY (RdN.own .here) ((by first|exact qE|exact qL|rfl)) hw) .nil) ?_)))
 exact ⟨rfl,by rw [eL7]; rfl⟩
theorem aPO (a b:Dg) (G:PM) (hR:RdNP G 0 0 (wa 64 kW)):Ct Tryz.prog 121 ([.agg (ba 32 a).toArray,.agg (ba 32 b).toArray]:List Value).toArray G [] (fun _ μ' u=>μ'=[]∧u=.agg (ba 32 (nP a b)).toArray):=by
 refine Ct.of Tryz.func121 rfl Tryz.ntmps121 rfl fun w0 hs0=>?_
 have l1:=bK 32 a; have l2:=bK 32 b
 refine .seq (dU rfl rfl ?_)
 refine bX rfl rfl rfl ?_; intro b2
 refine bX rfl rfl rfl ?_; intro b3
 refine al rfl fQ ?_; intro b4
 refine .nil (.code (.seq (bJ rfl rfl ?_)))
 refine Go.Tan.b1 rfl aI bF (.u rfl) rfl rfl (by decide) ?_; intro b6
 refine aS rfl rfl (.nc (.seq (aCB [1#8] 1 .here rfl rfl (by decide) ?_)))
 have lR6:([1#8]:List Y).length=1:=rfl
 refine .g (lG rfl .no fU (.u rfl) (dC rfl aI bF (.u rfl) (.u rfl) .here (Sc.arr bB) (by (try simp only [bM,bK]); omega) ?_))
 intro v9 L9 ov9 eL9
 have lL9:L9.length=[1#8].length+32:=by rw [eL9,List.length_append]; first|rfl | simp [bK]
 refine .g (lG rfl .no fU (.u rfl) (dC rfl aI bF (.u rfl) (.u rfl) .here (Sc.arr aN) (by (try simp only [bM,bK]); omega) ?_))
 intro v12 L12 ov12 eL12
 have lL12:L12.length=L9.length+32:=by rw [eL12,List.length_append]; first|rfl | simp [bK]
 refine .g (ka rfl (.inr rfl) yO (aB rfl aF) (bL .here) (aH0 L12 _ _ hR (by omega)) ?_)
 rintro _ G14 μ14 hG14 ⟨_,rfl,rfl,rfl⟩
 refine sW rfl rfl rfl rfl fB aE ?_
 refine .nil (.code (.ret (aM Tryz.results121 (.cell rfl (fun w hw=>bI dY (RdN.own .here) ((by first|exact qE|exact qL|rfl)) hw) .nil) ?_)))
 exact ⟨rfl,by rw [eL12,eL9]; rfl⟩
theorem aPW (n:Nat) (G:PM) (h2:2≤n) (hl:n≤1000000):Ct Tryz.prog 120 ([.int .i64 (n:Int)]:List Value).toArray G [] (fun _ μ' u=>μ'=[]∧u=.int .i64 (nA n:Int)):=by
 refine Ct.of Tryz.func120 rfl Tryz.ntmps120 rfl fun w0 hs0=>?_
 refine .seq (aL rfl rfl (aS rfl rfl (.nc (.seq (aL rfl rfl (aS rfl rfl (.nc (.seq (.block ?_)))))))))
 refine aV (α:=Nat×Nat) (fun gh=>[(3,true,.int .i64 (gh.1:Int))]) (fun _=>[])
  (fun gh Gl=>(nR gh.1 n gh.2=nA n)∧(n≤gh.1+gh.2)∧(1≤gh.1)∧(gh.1<n)) (fun gh=>gh.2) (1,n) [(0,true,_)] []
  (aK rfl (aA rfl eZ))
  mN ?_ ?_
 ·refine ⟨?_,?_,?_,?_⟩
  ·(try dsimp only)<;>(rfl)
  ·(try dsimp only)<;>(first|omega|rfl|assumption|(simp; done))
  ·(try dsimp only)<;>(first|omega|rfl|assumption|(simp; done))
  (try dsimp only)<;>(first|omega|rfl|assumption|(simp; done))
 intro gh N0 Gl0 hN0 hGl0 hF0
 obtain ⟨k,f⟩:=gh; dsimp only at hF0 hN0 ⊢
 obtain ⟨hp,hf,h1,hk⟩:=hF0
 refine .g (aR rfl rfl rfl rfl ?_)
 refine cP rfl rfl rfl rfl (.g (cD rfl (fun c1=>?_) (fun c1=>?_)))
 ·have c1k:=c1
  try simp only [aC,aD] at c1
  refine .g (aW (((k*2):Nat):Int) rfl rfl rfl rfl ?_)
  refine .g (aP (k*2,f-1) ?_ ?_ ?_ ?_ ?_)
  ·exact (aK rfl (aA rfl eZ))
  ·exact mN
  ·first|omega|(dsimp only; omega)
  ·exact hGl0
  refine ⟨?_,?_,?_,?_⟩
  ·(try dsimp only)<;>(rw [← (aHi h1 (by omega) hf).1]; exact hp)
  ·(try dsimp only)<;>(exact (aHi h1 (by omega) hf).2)
  ·(try dsimp only)<;>(first|omega|rfl|assumption|(simp; done))
  (try dsimp only)<;>(first|omega|rfl|assumption|(simp; done))
 have c1k:=c1
 try simp only [aC,aD] at c1
 refine .exit (.xcode (.xlp (.xblk (.code (.seq (bJ rfl rfl (mV rfl rfl (aS rfl rfl (.nc (.ret (aM Tryz.results120 (.tmp rfl .nil) ?_)))))))))))
 exact ⟨rfl,by rw [← hp,aOj (by omega)]; rfl⟩
theorem aQE (ds:List Dg) (h:Sh) (G:PM) (hs:SlR G 32 (ba 32) h ds) (hR:RdNP G 0 0 (wa 64 kW)) (hm:ds.length≤1000000) (ihr:∀ (ds2:List Dg) (h2:Sh) (G2:PM),SlR G2 32 (ba 32) h2 ds2→RdNP G2 0 0 (wa 64 kW)→ds2.length<ds.length→Ct Tryz.prog 93 ([h2.val ds2.length]:List Value).toArray G2 [] (fun _ μ' u=>μ'=[]∧u=.agg (ba 32 (fV ds2)).toArray)):Ct Tryz.prog 93 ([h.val ds.length]:List Value).toArray G [] (fun _ μ' u=>μ'=[]∧u=.agg (ba 32 (fV ds)).toArray):=by
 refine Ct.of Tryz.func93 rfl Tryz.ntmps93 rfl fun w0 hs0=>?_
 refine .seq (aL rfl rfl ?_)
 refine al rfl fQ ?_; intro b2
 refine .g (lE rfl sG rfl (cP rfl rfl rfl rfl (.g (cD rfl (fun c1=>?_) (fun c1=>?_)))))
 ·have c1k:=c1
  try simp only [aC,aD] at c1
  refine .seq (dU rfl rfl ?_)
  refine Go.Tan.b1 rfl aI bF (.u rfl) rfl rfl (by decide) ?_; intro b7
  refine ka rfl (.inr rfl) yO (aB rfl aF) (bL .here) (aCI fun hle=>aAD [2#8] ⟨some ⟨b7,0,none⟩,1⟩ _ (lR (gI _ _ _) (fun _ _=>rfl) (by simp)) (hR.mono hle) (by decide)) ?_
  rintro _ G8 μ8 hG8 ⟨rfl,rfl⟩
  have hs:=hs.mono hG8
  have hR:=hR.mono hG8
  refine sW rfl rfl rfl rfl fB .here ?_
  refine .nil (.code (.ret (aM Tryz.results93 (.cell rfl (fun w hw=>bI dY (RdN.own .here) ((by first|exact qE|exact qL|rfl)) hw) .nil) ?_)))
  obtain rfl:ds=[]:=List.eq_nil_of_length_eq_zero (by omega)
  exact ⟨rfl,by rw [aIR]; rfl⟩
 have c1k:=c1
 try simp only [aC,aD] at c1
 refine .g (lE rfl sG rfl (cP rfl rfl rfl rfl (.g (cD rfl (fun c2=>?_) (fun c2=>?_)))))
 ·have c2k:=c2
  try simp only [aC,aD] at c2
  refine .seq (gK rfl rfl (mV rfl rfl (ih rfl .no mP (.u rfl) (.u rfl) (by omega) (by omega) (fun _=>hs.nn (k:=0) (by first|omega|(simp only [Bool.and_eq_true,decide_eq_true_eq] at hc; omega)|(simp only [List.length_cons,List.length_nil]; omega))) ?_)))
  obtain ⟨x,ex⟩:=iJ (k:=0) (xs:=ds) (by omega)
  refine lA rfl .no dY (.u rfl) (fun _=>(hs.at (by decide) ex).rd) (fun _=>bT _ _) ?_
  refine sw rfl (.u rfl) (.u rfl) rfl fB .here rfl (jR _ _) ?_
  refine .nil (.code (.ret (aM Tryz.results93 (.cell rfl (fun w hw=>bI dY (RdN.own .here) ((by first|exact qE|exact qL|rfl)) hw) .nil) ?_)))
  exact ⟨rfl,by rw [show ds=[x] from by (match ds,ex,c2k with | [a],e,_=>(cases e; rfl) | [],e,_=>cases e | a :: b :: r,_,c=>(simp at c; omega))]; rw [aIS]; rfl⟩
 have c2k:=c2
 try simp only [aC,aD] at c2
 refine .g (lE rfl sG rfl (kV rfl aSz (aB rfl aF) (aPW ds.length _ (by omega) hm) ?_))
 refine aS rfl rfl (.nc (.seq ?_))
 have hp:=aBn (n:=ds.length) (by omega)
 have hp0:=aHk (n:=ds.length) (by omega)
 refine bA (mc:=⟨false,false⟩) [0,1,2,4,5,6,3,7,8,9] aX (by kernel_rfl) ?_
 refine .p (kE ((nA ds.length)) rfl .no mP hs (.u rfl) (.u rfl) (by omega) (by omega) ?_)
 intro h20 L20 eL20 lL20 hs20
 have lL20:=lL20 rfl
 refine .p (kD ((nA ds.length)) rfl .no mP hs (.u rfl) (.u rfl) (by omega) (by omega) ?_)
 intro h24 L24 eL24 lL24 hs24
 have lL24:=lL24 rfl
 refine kV rfl aEs (aB rfl aF) (ihr L20 h20 _ hs20 hR (by omega)) ?_
 refine kV rfl aEs (aB rfl aF) (ihr L24 h24 _ hs24 hR (by omega)) ?_
 refine kV rfl aS0 (aB rfl (aB rfl aF)) (aPO (fV L20) (fV L24) _ hR) ?_
 refine sW rfl rfl rfl rfl fB .here ?_
 refine .nil (.code (.ret (aM Tryz.results93 (.cell rfl (fun w hw=>bI dY (RdN.own .here) ((by first|exact qE|exact qL|rfl)) hw) .nil) ?_)))
 exact ⟨rfl,by rw [aIT (l:=ds) (by omega),eL20,eL24]; rfl⟩
theorem aIZ (ds:List Dg) (h:Sh) (G:PM) (hs:SlR G 32 (ba 32) h ds) (hR:RdNP G 0 0 (wa 64 kW)) (hm:ds.length≤1000000):Ct Tryz.prog 93 ([h.val ds.length]:List Value).toArray G [] (fun _ μ' u=>μ'=[]∧u=.agg (ba 32 (fV ds)).toArray) :=
 aQE ds h G hs hR hm (fun ds2 h2 G2 hs2 hR2 hlt=>aIZ ds2 h2 G2 hs2 hR2 (by omega))
termination_by ds.length
theorem aPJ (m:Meta) (b:Nat) (T:TypeId) (G:PM) (hw:m.wf) (hm:m.min.size+m.max.size≤900000000000):Ct Tryz.prog 53 ([(lY m).val ⟨some ⟨b,0,none⟩,1⟩ ⟨none,0⟩]:List Value).toArray G [.blk b (cl m.cells T)] (PS (fun L=>L=kU (lY m))):=by
 refine aCI fun hle=>?_
 have h1:=aDj hw
 exact Ct.frzB (aDq (lY m) ⟨some ⟨b,0,none⟩,1⟩ ⟨none,0⟩ _ ⟨SlR.one1 (enc:=Meta.cells) (x:=m),SlR.nul,aDk hw⟩ (by show 1≤_; decide) (by show 0≤_; decide) (by omega))
theorem aPQ (s:State) (hd:Nat→Sh) (G:PM) (hs:StR G s hd) (hn:StN s) (hl:StL s) (hR:RdNP G 0 0 (wa 64 kW)):Ct Tryz.prog 94 ([s.val hd]:List Value).toArray G [] (fun G' μ' u=>∃ (h':Sh) (L:List Dg),L=sZ s∧μ'=[]∧u=h'.val L.length∧SlR G' 32 (ba 32) h' L):=by
 refine Ct.of Tryz.func94 rfl Tryz.ntmps94 rfl fun w0 hs0=>?_
 have hf:=hl.few
 refine .seq (bJ rfl rfl ?_)
 refine bX rfl rfl rfl ?_; intro b1
 refine .g (fZ rfl tT rfl (lO rfl bD rfl .here (by first|exact aJ rfl|rfl) ?_))
 refine fZ rfl rE rfl (lO rfl bD rfl .here (by first|exact aJ rfl|rfl) ?_)
 refine fZ rfl tU rfl (lO rfl bD rfl .here (by first|exact aJ rfl|rfl) ?_)
 refine fZ rfl yK rfl (lO rfl bD rfl .here (by first|exact aJ rfl|rfl) ?_)
 refine fZ rfl tV rfl (lA rfl .no vX (.u rfl) (fun _=>RdN.part (n:=5) (cs':=(List.range 5).map (fun i=>.int .u64 (s.gens i))) .here (rfl)) (fun _=>rfl) (dK ((nO s).cells ⟨none,0⟩ ⟨none,0⟩) rfl .no aKG (.cons (.u rfl) rfl (.cons (.u rfl) rfl (.cons (.u rfl) rfl (.cons (.u rfl) rfl (.cons (.u rfl) rfl .nil))))) rfl (rfl) (kc rfl aEr (aB rfl aF) (Ct.frzB (aDq (nO s) ⟨none,0⟩ ⟨none,0⟩ _ ⟨SlR.nul,SlR.nul,aDG hn⟩ (by show 0≤_; decide) (by show 0≤_; decide) (by have:=aGb (s:=s); omega))) ?_)))
 rintro _ G17 μ17 hG17 ⟨h17,L17,eL17,rfl,rfl,hs17⟩
 have hs:=hs.mono hG17
 have hR:=hR.mono hG17
 refine kV rfl aKW (aB rfl aF) (aHx L17 h17 _ hs17 hR (by have:=aNE hn; rw [eL17]; omega)) ?_
 refine Go.Tan.b1 rfl mP vW (.u rfl) rfl rfl (by decide) ?_; intro b19
 refine aS rfl rfl (.nc (.seq (.seq (aSB (wT L17) .here (bT _ _) ?_))))
 have e17:=aGv s
 refine aL rfl rfl (aS rfl rfl (.nc (.block ?_)))
 refine aV (α:=Nat×Value) (fun gh=>[(3,true,gh.2),(4,true,.int .i64 (gh.1:Int))]) (fun gh=>[rS 32 (ba 32) gh.2 23 (jU s gh.1 0)])
  (fun gh Gl=>(gh.1≤5)) (fun gh=>5-gh.1) (0,.slice (some ⟨b19,0,none⟩) 1 1) [(1,true,_)] [_]
  (aA rfl (aK rfl (aA rfl eZ)))
  (mS .here (by rw [e17,eL17]; rfl) (mS .here rfl mN)) ?_ ?_
 ·(try dsimp only)<;>(first|omega|rfl|assumption|(simp; done))
 intro gh N0 Gl0 hN0 hGl0 hF0
 obtain ⟨k,v⟩:=gh; dsimp only at hF0 hN0 ⊢
 have hk:=hF0
 have hs:=hs.mono hGl0
 have hR:=hR.mono hGl0
 refine .g (cP rfl rfl rfl rfl (.g (cD rfl (fun c1=>?_) (fun c1=>?_))))
 ·have c1k:=c1
  try simp only [aC,aG,aD] at c1
  refine .skip (.code (.seq (.block (.seq (aL rfl rfl (aS rfl rfl (.nc (.block ?_))))))))
  refine aV (α:=Nat×Value) (fun gh=>[(3,true,gh.2),(5,true,.int .i64 (gh.1:Int))]) (fun gh=>[rS 32 (ba 32) gh.2 23 (jU s k gh.1)])
   (fun gh Gl=>(gh.1≤(s.lv k).length)) (fun gh=>(s.lv k).length-gh.1) (0,v) [(1,true,_),(4,true,_)] [_]
   (aA rfl (aK rfl (aA rfl (aA rfl eZ))))
   (mS .here rfl (mS .here rfl mN)) ?_ ?_
  ·(try dsimp only)<;>(first|omega|rfl|assumption|(simp; done))
  intro gh N1 Gl1 hN1 hGl1 hF1
  obtain ⟨j,w⟩:=gh; dsimp only at hF1 hN1 ⊢
  have hj:=hF1
  have hs:=hs.mono hGl1
  have hR:=hR.mono hGl1
  refine .seq (.seq ?_)
  have hlv:=hs.lv k (by omega)
  have htl:=aJY (s:=s) (k:=k) (by omega)
  have htn:=xY s k
  refine .g (fZ rfl dI rfl (iW rfl cS rfl rfl ?_))
  refine lO rfl cM rfl aE (s.cell_lv hd (k:=k) (by omega)) ?_
  refine lE rfl fH rfl (cP rfl rfl rfl rfl (.g (cD rfl (fun c2=>?_) (fun c2=>?_))))
  ·have c2k:=c2
   try simp only [aC,aG,aD] at c2
   refine .g (fZ rfl dI rfl (iW rfl cS rfl rfl ?_))
   refine lO rfl cM rfl aE (s.cell_lv hd (k:=k) (by omega)) ?_
   refine mV rfl rfl (ih rfl .no aY (.u rfl) (.u rfl) (by omega) (by omega) (fun _=>hlv.nn (k:=j) (by first|omega|(simp only [Bool.and_eq_true,decide_eq_true_eq] at hc; omega)|(simp only [List.length_cons,List.length_nil]; omega))) ?_)
   obtain ⟨m,em⟩:=iJ (k:=j) (xs:=s.lv k) (by omega)
   have hwm:=hs.wf k (by omega) m (List.mem_of_getElem? em)
   have hsm:=hl.short k (by omega) m (List.mem_of_getElem? em)
   have hoe:=aOQ hwm
   refine lA rfl .no dF (.u rfl) (fun _=>(hlv.at (by omega) em).rd) (fun _=>Meta.len _) ?_
   refine Go.Tan.b1 rfl aY cT (.u rfl) rfl rfl (by decide) ?_; intro b41
   refine dK ((lY m).cells ⟨some ⟨b41,0,none⟩,1⟩ ⟨none,0⟩) rfl .no aKH (.cons (.u rfl) rfl .nil) rfl (rfl) (ka rfl (.inr rfl) aEr (aB rfl aF) (bL .here) (aPJ m b41 _ _ hwm hsm) ?_)
   rintro _ G43 μ43 hG43 ⟨h43,L43,eL43,rfl,rfl,hs43⟩
   have hR:=hR.mono hG43
   refine kV rfl aKW (aB rfl aF) (aHx L43 h43 _ hs43 hR (by rw [eL43]; omega)) ?_
   refine Go.Tan.b1 rfl mP vW (.u rfl) rfl rfl (by decide) ?_; intro b45
   refine eC (xs:=(jU s k j)) ((wT L43)) rfl mP vW rfl (.u rfl) (.u rfl) aE .here (bT _ _) (jR _ _) (by have:=aDO s k j; omega) (by have:=aDO s k j; unfold maxLen; omega) ?_; intro v46 ov46
   refine .g (aW (((j+1):Nat):Int) rfl rfl rfl rfl ?_)
   refine .g (aP (j+1,v46) ?_ ?_ ?_ ?_ ?_)
   ·exact (aA rfl (aK rfl (aA rfl (aA rfl eZ))))
   ·exact (mS .here (by rw [← aGy em,eL43]; rfl) (mS aE rfl mN))
   ·first|omega|(dsimp only; omega)
   ·exact (hGl1).trans hG43
   (try dsimp only)<;>(first|omega|rfl|assumption|(simp; done))
  have c2k:=c2
  try simp only [aC,aG,aD] at c2
  refine .g (aW (((k+1):Nat):Int) rfl rfl rfl rfl ?_)
  refine .g (aP (k+1,w) ?_ ?_ ?_ ?_ ?_)
  ·exact (aA rfl (aK rfl (aA rfl eZ)))
  ·exact (mS .here (by rw [aGx (by omega)]) (mS .here rfl mN))
  ·first|omega|(dsimp only; omega)
  ·exact (hGl0).trans hGl1
  (try dsimp only)<;>(first|omega|rfl|assumption|(simp; done))
 have c1k:=c1
 try simp only [aC,aG,aD] at c1
 refine .exit (.xcode (.xlp (.xblk (.code (.seq (bJ rfl rfl (mV rfl rfl (aS rfl rfl (.nc (.ret ?_))))))))))
 refine aEP .here (fun _ _=>rfl) (by intro b hb; cases hb) ?_; intro GfRL hRL hleRL evRL hsRL; subst evRL
 refine aM Tryz.results94 (.tmp rfl .nil) ?_
 obtain rfl:k=5:=by omega
 exact ⟨_,_,aGw s,rfl,rfl,hsRL⟩
theorem aPF (s:State) (hd:Nat→Sh) (G:PM) (hs:StR G s hd) (hn:StN s) (hl:StL s) (hR:RdNP G 0 0 (wa 64 kW)):Ct Tryz.prog 52 ([s.val hd]:List Value).toArray G [] (fun _ μ' u=>μ'=[]∧u=.agg (ba 32 (mG s)).toArray):=by
 refine Ct.of Tryz.func52 rfl Tryz.ntmps52 rfl fun w0 hs0=>?_
 have hf:=hl.few; have hll:=aGu s
 refine .seq (bJ rfl rfl ?_)
 refine bX rfl rfl rfl ?_; intro b1
 refine al rfl fQ ?_; intro b2
 refine .g (lB rfl eQ rfl aE ?_)
 refine kc rfl aTo (aB rfl aF) (aPQ s hd _ hs hn hl hR) ?_
 rintro _ G4 μ4 hG4 ⟨h4,L4,eL4,rfl,rfl,hs4⟩
 have hR:=hR.mono hG4
 refine kV rfl aEs (aB rfl aF) (aIZ L4 h4 _ hs4 hR (by rw [eL4]; omega)) ?_
 refine sw rfl (.u rfl) (.u rfl) rfl fB .here rfl (jR _ _) ?_
 refine .nil (.code (.ret (aM Tryz.results52 (.cell rfl (fun w hw=>bI dY (RdN.own .here) ((bT _ _)) hw) .nil) ?_)))
 exact ⟨rfl,by rw [eL4]; rfl⟩
theorem aEl:aU Tryz.prog 149=true:=by kernel_rfl
theorem aED (P A Q B S:List Meta) (v fv:Value) (a b n:Int) (G:PM) (ha:a=P.length) (hb:b=((P.length+A.length+Q.length:Nat):Int)) (hn:n=A.length) (hAB:A.length=B.length) (xs:List Meta) (hx:xs=P++A++Q++B++S) (hl:xs.length≤1000000000):Ct Tryz.prog 149 ([v,.int .i64 a,.int .i64 b,.int .i64 n,fv]:List Value).toArray G [rS 40 Meta.cells v 98 xs] (fun _ μ' u=>μ'=[rS 40 Meta.cells v 98 (P++B++Q++A++S)]∧u=.tuple #[]):=by
 refine Ct.of Tryz.func149 rfl Tryz.ntmps149 rfl fun w0 hs0=>?_
 subst hx; subst ha; subst hb; subst hn; simp only [List.length_append] at hl
 refine .seq (aL rfl rfl (aS rfl rfl (.nc (.block ?_))))
 refine aV (α:=Nat) (fun k=>[(10,true,.int .i64 (k:Int))]) (fun k=>[rS 40 Meta.cells v 98 (lI P A Q B S k)])
  (fun k Gl=>(k≤A.length)) (fun k=>A.length-k) 0 [(0,true,_),(1,true,_),(2,true,_),(3,true,_)] []
  (aK rfl (aA rfl (aA rfl (aA rfl (aA rfl eZ)))))
  (mS .here (by rw [aRa]) mN) ?_ ?_
 ·(try dsimp only)<;>(first|omega|rfl|assumption|(simp; done))
 intro k N0 Gl0 hN0 hGl0 hF0
 try dsimp only at hF0 hN0 ⊢
 have hk:=hF0
 have hsl:=aRY P A Q B S hAB hk
 refine .g (cP rfl rfl rfl rfl (.g (cD rfl (fun c1=>?_) (fun c1=>?_))))
 ·have c1k:=c1
  try simp only [aC,aD] at c1
  refine .skip (.code (.seq (.block ?_)))
  refine nX .here (by omega) ?_; intro bbR capR evR lcR; subst evR
  refine bA (mc:=⟨false,false⟩) [0,1,2,3,4,5,6,7,8,9,10,11,12,13,14,15,16,17,18,19,20,21,22,23] aX (by kernel_rfl) ?_
  refine .p (aW (((P.length+k):Nat):Int) rfl rfl rfl rfl ?_)
  refine .p (aW (((P.length+A.length+Q.length+k):Nat):Int) rfl rfl rfl rfl ?_)
  refine .p (aW (((P.length+A.length+Q.length+k):Nat):Int) rfl rfl rfl rfl ?_)
  refine ia rfl .no aY (.u rfl) (.u rfl) (by omega) (by omega) ?_
  refine lA rfl .no dF (.u rfl) (fun _=>iF .here (fun _ _=>Meta.len _) (iI (z:=Meta.zero) (k:=(P.length+A.length+Q.length+k)) (by omega)) (by omega)) (fun _=>Meta.len _) ?_
  refine .p (aW (((P.length+k):Nat):Int) rfl rfl rfl rfl ?_)
  refine ia rfl .no aY (.u rfl) (.u rfl) (by omega) (by omega) ?_
  refine lA rfl .no dF (.u rfl) (fun _=>iF .here (fun _ _=>Meta.len _) (iI (z:=Meta.zero) (k:=(P.length+k)) (by omega)) (by omega)) (fun _=>Meta.len _) ?_
  refine ia rfl .no aY (.u rfl) (.u rfl) (by omega) (by omega) ?_
  refine tH (k:=(P.length+k)) (u:=((lI P A Q B S k).getD ((P.length+A.length+Q.length+k)) Meta.zero)) rfl (.u rfl) (.u rfl) rfl jP .here (fun _ _=>Meta.len _) (Meta.len _) (Meta.one _) (by omega) (by (try simp only [List.length_set]); omega) ?_
  refine ia rfl .no aY (.u rfl) (.u rfl) (by omega) (by omega) ?_
  refine tH (k:=(P.length+A.length+Q.length+k)) (u:=((lI P A Q B S k).getD ((P.length+k)) Meta.zero)) rfl (.u rfl) (.u rfl) rfl jP .here (fun _ _=>Meta.len _) (Meta.len _) (Meta.one _) (by omega) (by (try simp only [List.length_set]); omega) ?_
  refine .g (aW (((k+1):Nat):Int) rfl rfl rfl rfl ?_)
  refine .g (aP (k+1) ?_ ?_ ?_ ?_ ?_)
  ·exact (aK rfl (aA rfl (aA rfl (aA rfl (aA rfl eZ)))))
  ·exact (mS .here (by rw [aRZ hAB (by omega) rfl rfl]) mN)
  ·first|omega|(dsimp only; omega)
  ·exact hGl0
  (try dsimp only)<;>(first|omega|rfl|assumption|(simp; done))
 have c1k:=c1
 try simp only [aC,aD] at c1
 refine .g (We.fin Tryz.results149 .nil (mS .here rfl mN) ?_)
 rw [aRX hAB (by omega)]; exact ⟨rfl,rfl⟩
theorem aIV (P A B S:List Meta) (v fv:Value) (a m b:Int) (G:PM) (ha:a=P.length) (hm:m=((P.length+A.length:Nat):Int)) (hb:b=((P.length+A.length+B.length:Nat):Int)) (hA:0<A.length) (hB:0<B.length) (xs:List Meta) (hx:xs=P++A++B++S) (hl:xs.length≤1000000000):Ct Tryz.prog 139 ([v,.int .i64 a,.int .i64 m,.int .i64 b,fv]:List Value).toArray G [rS 40 Meta.cells v 98 xs] (fun _ μ' u=>μ'=[rS 40 Meta.cells v 98 (P++B++A++S)]∧u=.tuple #[]):=by
 refine Ct.of Tryz.func139 rfl Tryz.ntmps139 rfl fun w0 hs0=>?_
 subst hx; subst ha; subst hm; subst hb; simp only [List.length_append] at hl
 refine .g (aW ((A.length:Nat):Int) rfl rfl rfl rfl ?_)
 refine .g (aW ((B.length:Nat):Int) rfl rfl rfl rfl ?_)
 refine aS rfl rfl (.nc (.seq (.block ?_)))
 refine aV (α:=List Meta×List Meta×List Meta×List Meta) (fun gh=>[(10,true,.int .i64 (gh.2.1.length:Int)),(11,true,.int .i64 (gh.2.2.1.length:Int))]) (fun gh=>[rS 40 Meta.cells v 98 (gh.1++gh.2.1++gh.2.2.1++gh.2.2.2)])
  (fun gh Gl=>(0<gh.2.1.length)∧(0<gh.2.2.1.length)∧(gh.1.length+gh.2.1.length=P.length+A.length)∧(gh.1++gh.2.2.1++gh.2.1++gh.2.2.2=P++B++A++S)) (fun gh=>gh.2.1.length+gh.2.2.1.length) (P,A,B,S) [(0,true,_),(2,true,_),(4,true,_)] []
  (aK rfl (aK rfl (aA rfl (aA rfl (aA rfl eZ)))))
  (mS .here rfl mN) ?_ ?_
 ·refine ⟨?_,?_,?_,?_⟩
  ·(try dsimp only)<;>(first|omega|rfl|assumption|(simp; done))
  ·(try dsimp only)<;>(first|omega|rfl|assumption|(simp; done))
  ·(try dsimp only)<;>(first|omega|rfl|assumption|(simp; done))
  (try dsimp only)<;>(first|omega|rfl|assumption|(simp; done))
 intro gh N0 Gl0 hN0 hGl0 hF0
 obtain ⟨X,U,V,Y⟩:=gh; dsimp only at hF0 hN0 ⊢
 obtain ⟨hU,hV,hX,hT⟩:=hF0
 have hlen:=congrArg List.length hT; simp only [List.length_append] at hlen
 refine .g (cP rfl rfl rfl rfl (.g (cD rfl (fun c1=>?_) (fun c1=>?_))))
 ·have c1k:=c1
  try simp only [aC,aD] at c1
  refine .g (cP rfl rfl rfl rfl (.g (cD rfl (fun c2=>?_) (fun c2=>?_))))
  ·have c2k:=c2
   try simp only [aC,aD] at c2
   refine .g (aW ((X.length:Nat):Int) rfl rfl rfl rfl ?_)
   refine mV rfl rfl (mV rfl rfl (mV rfl rfl ?_))
   refine ka rfl (.inr rfl) aEl (aB rfl (aB rfl (aB rfl (aB rfl (aB rfl aF))))) (bL .here) (aED X (U.take V.length) (U.drop V.length) V Y _ _ _ _ _ _ (by first|omega|(simp only [aT,List.length_nil]<;>omega)) (by first|omega|(simp only [aT,List.length_nil]<;>omega)) (by first|omega|(simp only [aT,List.length_nil]<;>omega)) (by first|omega|(simp only [aT,List.length_nil]<;>omega)) _ (by rw [List.append_assoc X (U.take _) (U.drop _),List.take_append_drop]) (by first|omega|(simp only [aT,List.length_nil]<;>omega))) ?_
   rintro _ G31 μ31 hG31 ⟨rfl,rfl⟩
   refine .g (aW (((U.length-V.length):Nat):Int) rfl rfl rfl rfl ?_)
   refine .g (aP (X++V,U.drop V.length,U.take V.length,Y) ?_ ?_ ?_ ?_ ?_)
   ·exact (cI rfl (dA (by first|omega|(simp only [aT,List.length_nil]<;>omega))) (cI rfl (dA (by first|omega|(simp only [aT,List.length_nil]<;>omega))) (aA rfl (aA rfl (aA rfl eZ)))))
   ·exact (mS .here rfl mN)
   ·exact (by first|omega|(simp only [aT,List.length_nil]<;>omega))
   ·exact (hGl0).trans hG31
   refine ⟨?_,?_,?_,?_⟩
   ·(try dsimp only)<;>(exact (by first|omega|(simp only [aT,List.length_nil]<;>omega)))
   ·(try dsimp only)<;>(exact (by first|omega|(simp only [aT,List.length_nil]<;>omega)))
   ·(try dsimp only)<;>(exact (by first|omega|(simp only [aT,List.length_nil]<;>omega)))
   (try dsimp only)<;>(rw [List.append_assoc (X++V),List.take_append_drop]; exact hT)
  have c2k:=c2
  try simp only [aC,aD] at c2
  refine .g (aW ((X.length:Nat):Int) rfl rfl rfl rfl ?_)
  refine .p (aW (((P.length+A.length+V.length):Nat):Int) rfl rfl rfl rfl ?_)
  refine .p (cQ (((X.length+U.length+(V.length-U.length)):Nat):Int) rfl .no (.u rfl) (.u rfl) rfl (by omega) (fun _=>bO (by omega) (by omega)) ?_)
  refine mV rfl rfl (mV rfl rfl ?_)
  refine ka rfl (.inr rfl) aEl (aB rfl (aB rfl (aB rfl (aB rfl (aB rfl aF))))) (bL .here) (aED X U (V.take (V.length-U.length)) (V.drop (V.length-U.length)) Y _ _ _ _ _ _ (by first|omega|(simp only [aT,List.length_nil]<;>omega)) (by first|omega|(simp only [aT,List.length_nil]<;>omega)) (by first|omega|(simp only [aT,List.length_nil]<;>omega)) (by first|omega|(simp only [aT,List.length_nil]<;>omega)) _ (by rw [List.append_assoc (X++U) (V.take _) (V.drop _),List.take_append_drop]) (by first|omega|(simp only [aT,List.length_nil]<;>omega))) ?_
  rintro _ G46 μ46 hG46 ⟨rfl,rfl⟩
  refine .g (aW (((V.length-U.length):Nat):Int) rfl rfl rfl rfl ?_)
  refine .g (aP (X,V.drop (V.length-U.length),V.take (V.length-U.length),U++Y) ?_ ?_ ?_ ?_ ?_)
  ·exact (cI rfl (dA (by first|omega|(simp only [aT,List.length_nil]<;>omega))) (cI rfl (dA (by first|omega|(simp only [aT,List.length_nil]<;>omega))) (aA rfl (aA rfl (aA rfl eZ)))))
  ·exact (mS .here (by rw [← List.append_assoc (X++_++_) U Y]) mN)
  ·exact (by first|omega|(simp only [aT,List.length_nil]<;>omega))
  ·exact (hGl0).trans hG46
  refine ⟨?_,?_,?_,?_⟩
  ·(try dsimp only)<;>(exact (by first|omega|(simp only [aT,List.length_nil]<;>omega)))
  ·(try dsimp only)<;>(exact (by first|omega|(simp only [aT,List.length_nil]<;>omega)))
  ·(try dsimp only)<;>(exact (by first|omega|(simp only [aT,List.length_nil]<;>omega)))
  (try dsimp only)<;>(rw [List.append_assoc X,List.take_append_drop,←List.append_assoc]; exact hT)
 have c1k:=c1
 try simp only [aC,aD] at c1
 refine .g (aW ((X.length:Nat):Int) rfl rfl rfl rfl ?_)
 refine mV rfl rfl (mV rfl rfl (mV rfl rfl ?_))
 refine ka rfl (.inr rfl) aEl (aB rfl (aB rfl (aB rfl (aB rfl (aB rfl aF))))) (bL .here) (aED X U [] V Y _ _ _ _ _ _ (by first|omega|(simp only [aT,List.length_nil]<;>omega)) (by first|omega|(simp only [aT,List.length_nil]<;>omega)) (by first|omega|(simp only [aT,List.length_nil]<;>omega)) (by first|omega|(simp only [aT,List.length_nil]<;>omega)) _ (by simp) (by first|omega|(simp only [aT,List.length_nil]<;>omega))) ?_
 rintro _ G57 μ57 hG57 ⟨rfl,rfl⟩
 refine .g (We.fin Tryz.results139 .nil (mS .here rfl mN) ?_)
 rw [← hT,List.append_nil]; exact ⟨rfl,rfl⟩
theorem aGl (P S R:List TM) (v:Value) (a b:Int) (f:Nat) (hf:aU Tryz.prog f=true) (vc:List Value) (cv:Meta→Meta→Int) (G:PM) (hcm:CmpR Tryz.prog f vc cv G) (hw:Wk0 (cG cv)) (ha:a=P.length) (hb:b=((P.length+S.length:Nat):Int)) (hS:S.Pairwise fun x y=>x.2<y.2) (xs:List Meta) (hx:xs=ms (P++S++R)) (hl:xs.length≤1000000000):Ct Tryz.prog 125 ([v,.int .i64 a,.int .i64 b,.func (.func f) #[] vc.toArray]:List Value).toArray G [rS 40 Meta.cells v 98 xs] (fun _ μ' u=>∃ S',S'.Perm S∧Srt (cG cv) S'∧μ'=[rS 40 Meta.cells v 98 (ms (P++S'++R))]∧u=.tuple #[]):=by
 refine Ct.of Tryz.func125 rfl Tryz.ntmps125 rfl fun w0 hs0=>?_
 subst hx; subst ha; subst hb; rw [cN] at hl; simp only [List.length_append] at hl
 refine .g (aW (((P.length+1):Nat):Int) rfl rfl rfl rfl ?_)
 refine aS rfl rfl (.nc (.block ?_))
 refine aV (α:=Nat×List TM) (fun gh=>[(8,true,.int .i64 ((P.length+gh.1:Nat):Int))]) (fun gh=>[rS 40 Meta.cells v 98 (ms (P++(gh.2++S.drop gh.1)++R))])
  (fun gh Gl=>(1≤gh.1)∧(gh.1≤S.length∨S.length=0)∧(gh.2.Perm (S.take gh.1))∧(Srt (cG cv) gh.2)) (fun gh=>S.length-gh.1) (1,S.take 1) [(0,true,_),(1,true,_),(2,true,_),(3,true,_)] []
  (aK rfl (aA rfl (aA rfl (aA rfl (aA rfl eZ)))))
  (mS .here (by rw [List.take_append_drop]) mN) ?_ ?_
 ·refine ⟨?_,?_,?_,?_⟩
  ·(try dsimp only)<;>(first|omega|rfl|assumption|(simp; done))
  ·(try dsimp only)<;>(omega)
  ·(try dsimp only)<;>(exact List.Perm.refl _)
  (try dsimp only)<;>(exact aRB S)
 intro gh N0 Gl0 hN0 hGl0 hF0
 obtain ⟨q,S1⟩:=gh; dsimp only at hF0 hN0 ⊢
 obtain ⟨hq1,hq2,hp,hs⟩:=hF0
 have hcm:=hcm.mono hGl0
 have hS1:=hp.length_eq; rw [List.length_take] at hS1
 refine .g (cP rfl rfl rfl rfl (.g (cD rfl (fun c1=>?_) (fun c1=>?_))))
 ·have c1k:=c1
  try simp only [aC,aG,aD] at c1
  refine .skip (.code (.seq (.block (.seq (bJ rfl rfl (mV rfl rfl (aS rfl rfl (.nc (.block ?_)))))))))
  refine aV (α:=List TM×List TM) (fun gh=>[(9,true,.int .i64 ((P.length+gh.1.length:Nat):Int))]) (fun gh=>[rS 40 Meta.cells v 98 (ms (P++(gh.1++S.getD q z0 :: gh.2++S.drop (q+1))++R))])
   (fun gh Gl=>(gh.1++gh.2=S1)∧(∀ z∈gh.2,TL (cG cv) (S.getD q z0) z)) (fun gh=>gh.1.length) (S1,[]) [(0,true,_),(1,true,_),(2,true,_),(3,true,_),(8,true,_)] []
   (cI rfl (dA (by first|rfl|omega|(dsimp only; omega))) (aA rfl (aA rfl (aA rfl (aA rfl (aA rfl eZ))))))
   (mS .here (by rw [aBL (by omega)]; simp) mN) ?_ ?_
  ·refine ⟨?_,?_⟩
   ·(try dsimp only)<;>(simp)
   (try dsimp only)<;>(exact fun z h=>by cases h)
  intro gh N1 Gl1 hN1 hGl1 hF1
  obtain ⟨A,B⟩:=gh; dsimp only at hF1 hN1 ⊢
  obtain ⟨hAB,hB⟩:=hF1
  have hcm:=hcm.mono hGl1
  have hAl:=congrArg List.length hAB; rw [List.length_append] at hAl; have hLl:(ms (P++(A++S.getD q z0 :: B++S.drop (q+1))++R)).length=P.length+S.length+R.length:=by rw [cN]; simp only [List.length_append,List.length_cons,List.length_drop]; omega
  refine .seq (.seq ?_)
  refine nX .here (by omega) ?_; intro bbR capR evR lcR; subst evR
  refine bA (mc:=⟨false,false⟩) [0,1,2,3,4,5,6,7,8,9,10,11,12,13,14,15,16] aX (by kernel_rfl) ?_
  refine .p (cP rfl rfl rfl rfl (mV rfl rfl (mv rfl (.t rfl rfl) (.u rfl) (mv rfl (.t rfl rfl) (.u rfl) (mv rfl (.t rfl rfl) (.u rfl) (ia rfl (.t rfl rfl) aY (.s rfl) (.s rfl) (fun hc=>by (try simp only [Bool.and_eq_true,decide_eq_true_eq] at hc); omega) (fun hc=>by (try simp only [Bool.and_eq_true,decide_eq_true_eq] at hc); omega) ?_))))))
  refine lA rfl (.t rfl rfl) dF (.s rfl) (fun hc=>iF .here (fun _ _=>Meta.len _) (iI (z:=Meta.zero) (k:=((P.length+A.length:Nat))) (by (try simp only [Bool.and_eq_true,decide_eq_true_eq] at hc); omega)) (by (try simp only [Bool.and_eq_true,decide_eq_true_eq] at hc); omega)) (fun _=>Meta.len _) ?_
  refine mv rfl (.t rfl rfl) (.u rfl) (mv rfl (.t rfl rfl) (.u rfl) (cQ (((P.length+A.length-1):Nat):Int) rfl (.t rfl rfl) (.s rfl) (.u rfl) rfl (fun hc=>by (try simp only [Bool.and_eq_true,decide_eq_true_eq] at hc); omega) (fun hc=>bO (by (try simp only [Bool.and_eq_true,decide_eq_true_eq] at hc); omega) (by (try simp only [Bool.and_eq_true,decide_eq_true_eq] at hc); omega)) ?_))
  refine ia rfl (.t rfl rfl) aY (.s rfl) (.s rfl) (fun hc=>by (try simp only [Bool.and_eq_true,decide_eq_true_eq] at hc); omega) (fun hc=>by (try simp only [Bool.and_eq_true,decide_eq_true_eq] at hc); omega) ?_
  refine lA rfl (.t rfl rfl) dF (.s rfl) (fun hc=>iF .here (fun _ _=>Meta.len _) (iI (z:=Meta.zero) (k:=(P.length+A.length-1)) (by (try simp only [Bool.and_eq_true,decide_eq_true_eq] at hc); omega)) (by (try simp only [Bool.and_eq_true,decide_eq_true_eq] at hc); omega)) (fun _=>Meta.len _) ?_
  refine kf rfl (.t rfl rfl) (.s rfl) hf (Eva.cons (.s rfl) (Eva.cons (.s rfl) aF)) (fun _=>hcm.ok _ (PM.le.refl _) _ _) ?_
  refine cp rfl (.t rfl rfl) (.s rfl) (.u rfl) rfl (bR rfl .no (.u rfl) (.s rfl) (.g (cD rfl (fun c2=>?_) (fun c2=>?_))))
  ·have c2k:=c2
   try simp only [aC,aG,aD] at c2
   refine .g (bA (mc:=⟨false,false⟩) [0,1,2,3,4,5,6,7,8,9,10,11,12,13,14,15,16,17] aX (by kernel_rfl) ?_)
   refine .p (aW (((P.length+A.length-1):Nat):Int) rfl rfl rfl rfl ?_)
   refine .p (aW (((P.length+A.length-1):Nat):Int) rfl rfl rfl rfl ?_)
   refine ia rfl .no aY (.u rfl) (.u rfl) (by omega) (by omega) ?_
   refine lA rfl .no dF (.u rfl) (fun _=>iF .here (fun _ _=>Meta.len _) (iI (z:=Meta.zero) (k:=(P.length+A.length-1)) (by omega)) (by omega)) (fun _=>Meta.len _) ?_
   refine .p (ia rfl .no aY (.u rfl) (.u rfl) (by omega) (by omega) ?_)
   refine lA rfl .no dF (.u rfl) (fun _=>iF .here (fun _ _=>Meta.len _) (iI (z:=Meta.zero) (k:=((P.length+A.length:Nat))) (by omega)) (by omega)) (fun _=>Meta.len _) ?_
   refine ia rfl .no aY (.u rfl) (.u rfl) (by omega) (by omega) ?_
   refine tH (k:=((P.length+A.length:Nat))) (u:=((ms (P++(A++S.getD q z0 :: B++S.drop (q+1))++R)).getD ((P.length+A.length-1)) Meta.zero)) rfl (.u rfl) (.u rfl) rfl jP .here (fun _ _=>Meta.len _) (Meta.len _) (Meta.one _) (by omega) (by (try simp only [List.length_set]); omega) ?_
   refine ia rfl .no aY (.u rfl) (.u rfl) (by omega) (by omega) ?_
   refine tH (k:=(P.length+A.length-1)) (u:=((ms (P++(A++S.getD q z0 :: B++S.drop (q+1))++R)).getD (((P.length+A.length:Nat))) Meta.zero)) rfl (.u rfl) (.u rfl) rfl jP .here (fun _ _=>Meta.len _) (Meta.len _) (Meta.one _) (by omega) (by (try simp only [List.length_set]); omega) ?_
   refine .g (aW (((P.length+A.length-1):Nat):Int) rfl rfl rfl rfl ?_)
   refine .g (aP (A.take (A.length-1),A.getD (A.length-1) z0 :: B) ?_ ?_ ?_ ?_ ?_)
   ·exact (cI rfl (dA (by first|omega|(simp only [aT,List.length_nil]<;>omega))) (aA rfl (aA rfl (aA rfl (aA rfl (aA rfl eZ))))))
   ·exact (mS .here (by rw [aNR (by omega) rfl rfl]) mN)
   ·exact (by first|omega|(simp only [aT,List.length_nil]<;>omega))
   ·exact hGl1
   refine ⟨?_,?_⟩
   ·(try dsimp only)<;>(rw [← hAB]; exact aJQ (by omega))
   (try dsimp only)<;>(exact aNL (P:=P) (D:=S.drop (q+1)) (R:=R) hB ⟨by omega,c2.2⟩)
  have c2k:=c2
  try simp only [aC,aG,aD] at c2
  refine .g (cQ (((((P.length+q:Nat))+1):Nat):Int) rfl .no (.u rfl) (.u rfl) rfl (by omega) (fun _=>bO (by omega) (by omega)) ?_)
  refine .g (aP (q+1,A++S.getD q z0 :: B) ?_ ?_ ?_ ?_ ?_)
  ·exact (aK rfl (aA rfl (aA rfl (aA rfl (aA rfl eZ)))))
  ·exact (mS .here (by simp) mN)
  ·first|omega|(dsimp only; omega)
  ·exact (hGl0).trans hGl1
  refine ⟨?_,?_,?_,?_⟩
  ·(try dsimp only)<;>(first|omega|rfl|assumption|(simp; done))
  ·(try dsimp only)<;>(omega)
  ·(try dsimp only)<;>(exact aNN (by omega) hAB hp)
  (try dsimp only)<;>(exact aNQ (P:=P) (R:=R) hw hs hAB hB hS hp (by omega) (fun h0=>c2.resolve_left (by omega)))
 have c1k:=c1
 try simp only [aC,aG,aD] at c1
 refine .g (We.fin Tryz.results125 .nil (mS .here rfl mN) ?_)
 have hqq:S.length≤q:=by omega
 rw [List.take_of_length_le hqq] at hp
 exact ⟨S1,hp,hs,by rw [List.drop_of_length_le hqq,List.append_nil],rfl⟩
theorem aAz:jF Tryz.prog 84 3=some .i64:=by kernel_rfl
theorem aKf:aU Tryz.prog 139=true:=by kernel_rfl
theorem nG:aU Tryz.prog 126=true:=by kernel_rfl
structure SymI (v:Value) (f:Nat) (vc:List Value) (cv:Meta→Meta→Int) (N:Nat) (G:PM):Prop where
 ok:∀ G',PM.le G G'→∀ (P A B R:List TM) (a m b:Int) (xs:List Meta),A.length+B.length<N→a=P.length→m=((P.length+A.length:Nat):Int)→b=((P.length+A.length+B.length:Nat):Int)→0<A.length→0<B.length→Srt (cG cv) A→Srt (cG cv) B→(∀ x∈A,∀ y∈B,x.2<y.2)→xs=ms (P++A++B++R)→xs.length≤1000000000 →
  Ct Tryz.prog 126 #[v,.int .i64 a,.int .i64 m,.int .i64 b,.func (.func f) #[] vc.toArray] G' [rS 40 Meta.cells v 98 xs] (fun _ μ' u=>∃ S',S'.Perm (A++B)∧Srt (cG cv) S'∧μ'=[rS 40 Meta.cells v 98 (ms (P++S'++R))]∧u=.tuple #[])
theorem SymI.mono {v:Value} {f:Nat} {vc:List Value} {cv:Meta→Meta→Int} {N:Nat} {G G':PM} (h:SymI v f vc cv N G) (hle:PM.le G G'):SymI v f vc cv N G':=⟨fun G2 h2=>h.ok G2 (hle.trans h2)⟩
set_option maxHeartbeats 4000000 in
theorem aRb (P A B R:List TM) (v:Value) (a m b:Int) (f:Nat) (hf:aU Tryz.prog f=true) (vc:List Value) (cv:Meta→Meta→Int) (G:PM) (hcm:CmpR Tryz.prog f vc cv G) (hw:Wk0 (cG cv)) (ha:a=P.length) (hm:m=((P.length+A.length:Nat):Int)) (hb:b=((P.length+A.length+B.length:Nat):Int)) (hA:0<A.length) (hB:0<B.length) (sA:Srt (cG cv) A) (sB:Srt (cG cv) B) (ht:∀ x∈A,∀ y∈B,x.2<y.2) (xs:List Meta) (hx:xs=(ms (P++A++B++R))) (hl:xs.length≤1000000000) (ih:SymI v f vc cv (A.length+B.length) G):Ct Tryz.prog 126 ([v,.int .i64 a,.int .i64 m,.int .i64 b,.func (.func f) #[] vc.toArray]:List Value).toArray G [rS 40 Meta.cells v 98 xs] (fun _ μ' u=>∃ S',S'.Perm (A++B)∧Srt (cG cv) S'∧μ'=[rS 40 Meta.cells v 98 (ms (P++S'++R))]∧u=.tuple #[]):=by
 refine Ct.of Tryz.func126 rfl Tryz.ntmps126 rfl fun w0 hs0=>?_
 subst hx; subst ha; subst hm; subst hb; rw [cN] at hl; simp only [List.length_append] at hl
 have hlen:(ms (P++A++B++R)).length=P.length+A.length+B.length+R.length:=by rw [cN]; simp only [List.length_append]
 refine .g (aW ((A.length:Nat):Int) rfl rfl rfl rfl ?_)
 refine cP rfl rfl rfl rfl (.g (cD rfl (fun c1=>?_) (fun c1=>?_)))
 ·have c1k:=c1
  try simp only [aC,aG,aD] at c1
  refine .seq (bJ rfl rfl (mV rfl rfl (aS rfl rfl (.nc (.seq (bJ rfl rfl (mV rfl rfl (aS rfl rfl (.nc (.seq (.block ?_)))))))))))
  have hA1:A.length=1:=by omega
  refine aV (α:=Nat×Nat) (fun gh=>[(10,true,.int .i64 ((P.length+A.length+gh.1:Nat):Int)),(11,true,.int .i64 ((P.length+A.length+gh.2:Nat):Int))]) (fun _=>[])
   (fun gh Gl=>(gh.1≤gh.2)∧(gh.2≤B.length)∧(gh.1=0∨TL (cG cv) (B.getD (gh.1-1) z0) (A.getD 0 z0))∧(gh.2=B.length∨TL (cG cv) (A.getD 0 z0) (B.getD gh.2 z0))) (fun gh=>gh.2-gh.1) (0,B.length) [(0,true,_),(1,true,_),(4,true,_)] [_]
   (aK rfl (aK rfl (aA rfl (aA rfl (aA rfl eZ)))))
   (mS .here rfl mN) ?_ ?_
  ·refine ⟨?_,?_,?_,?_⟩
   ·(try dsimp only)<;>(first|omega|rfl|assumption|(simp; done))
   ·(try dsimp only)<;>(first|omega|rfl|assumption|(simp; done))
   ·(try dsimp only)<;>(exact .inl rfl)
   (try dsimp only)<;>(exact .inl rfl)
  intro gh N0 Gl0 hN0 hGl0 hF0
  obtain ⟨q,r⟩:=gh; dsimp only at hF0 hN0 ⊢
  obtain ⟨hq,hr,f1,f2⟩:=hF0
  have hcm:=hcm.mono hGl0
  have ih:=ih.mono hGl0
  refine .g (cP rfl rfl rfl rfl (.g (cD rfl (fun c2=>?_) (fun c2=>?_))))
  ·have c2k:=c2
   try simp only [aC,aG,aD] at c2
   refine .g (cQ (((((P.length+A.length+q:Nat))+((P.length+A.length+r:Nat))):Nat):Int) rfl .no (.u rfl) (.u rfl) rfl (by omega) (fun _=>bO (by omega) (by omega)) ?_)
   refine cw rfl .no yI (.u rfl) (fun _=>eD (by omega) (by omega)) ?_
   refine xS ((((P.length+A.length+q:Nat))+((P.length+A.length+r:Nat)))) rfl .no (.u rfl) (.u rfl) (by first|rfl|omega) rfl (by decide) ?_
   refine cw rfl .no aAz (.u rfl) (fun _=>bO (by omega) (by omega)) ?_
   refine aS rfl rfl (.nc (.seq ?_))
   obtain ⟨d,hd⟩ : ∃ d,((P.length+A.length+q)+(P.length+A.length+r)) / 2=P.length+A.length+d:=⟨(q+r) / 2,by omega⟩
   have hdq:q≤d∧d<r:=by omega
   rw [hd]
   have hg:=aBx (P:=P) (A:=A) (B:=B) (R:=R) (i:=d) (by omega)
   have hg0:=aQl (P:=P) (A:=A) (B:=B) (R:=R) hA
   refine nX .here (by omega) ?_; intro bbR capR evR lcR; subst evR
   refine bA (mc:=⟨false,false⟩) [0,1,2,3,4,5,6,7,8,9,10] aX (by kernel_rfl) ?_
   refine .p (ia rfl .no aY (.u rfl) (.u rfl) (by omega) (by omega) ?_)
   refine lA rfl .no dF (.u rfl) (fun _=>iF .here (fun _ _=>Meta.len _) (iI (z:=Meta.zero) (k:=(P.length+A.length+d)) (by omega)) (by omega)) (fun _=>Meta.len _) ?_
   refine .p (ia rfl .no aY (.u rfl) (.u rfl) (by omega) (by omega) ?_)
   refine lA rfl .no dF (.u rfl) (fun _=>iF .here (fun _ _=>Meta.len _) (iI (z:=Meta.zero) (k:=P.length) (by omega)) (by omega)) (fun _=>Meta.len _) ?_
   refine kf rfl .no (.u rfl) hf (aB rfl (aB rfl aF)) (fun _=>hcm.ok _ (PM.le.refl _) _ _) ?_
   refine cP rfl rfl rfl rfl (.g (cD rfl (fun c3=>?_) (fun c3=>?_)))
   ·have c3k:=c3
    try simp only [aC,aG,aD] at c3
    refine .g (cQ ((((P.length+A.length+d)+1):Nat):Int) rfl .no (.u rfl) (.u rfl) rfl (by omega) (fun _=>bO (by omega) (by omega)) ?_)
    refine .g (aP (d+1,r) ?_ ?_ ?_ ?_ ?_)
    ·exact (cI rfl (dA (by first|rfl|omega|(dsimp only; omega))) (cI rfl (dA (by first|rfl|omega|(dsimp only; omega))) (aA rfl (aA rfl (aA rfl eZ)))))
    ·exact (mS .here rfl mN)
    ·first|omega|(dsimp only; omega)
    ·exact hGl0
    refine ⟨?_,?_,?_,?_⟩
    ·(try dsimp only)<;>(first|omega|rfl|assumption|(simp; done))
    ·(try dsimp only)<;>(first|omega|rfl|assumption|(simp; done))
    ·(try dsimp only)<;>(exact .inr (by rw [show d+1-1=d by omega]; exact aA4 hw ht hA (by omega) (by rw [← hg,←hg0]; assumption)))
    (try dsimp only)<;>(exact f2)
   have c3k:=c3
   try simp only [aC,aG,aD] at c3
   refine .g (aP (q,d) ?_ ?_ ?_ ?_ ?_)
   ·exact (cI rfl (dA (by first|rfl|omega|(dsimp only; omega))) (cI rfl (dA (by first|rfl|omega|(dsimp only; omega))) (aA rfl (aA rfl (aA rfl eZ)))))
   ·exact (mS .here rfl mN)
   ·first|omega|(dsimp only; omega)
   ·exact hGl0
   refine ⟨?_,?_,?_,?_⟩
   ·(try dsimp only)<;>(first|omega|rfl|assumption|(simp; done))
   ·(try dsimp only)<;>(first|omega|rfl|assumption|(simp; done))
   ·(try dsimp only)<;>(exact f1)
   (try dsimp only)<;>(exact .inr (aA5 hw ht hA (by omega) (by rw [← hg,←hg0]; assumption)))
  have c2k:=c2
  try simp only [aC,aG,aD] at c2
  refine .exit (.xcode (.xlp (.xblk (.code (.seq (.seq (bJ rfl rfl (mV rfl rfl (aS rfl rfl (.nc (.block ?_)))))))))))
  obtain rfl:q=r:=by omega
  refine aV (α:=Nat) (fun k=>[(13,true,.int .i64 ((P.length+k:Nat):Int))]) (fun k=>[rS 40 Meta.cells v 98 (ms (P++(B.take k++A.getD 0 z0 :: B.drop k)++R))])
   (fun k Gl=>(k≤q)) (fun k=>q-k) 0 [(0,true,_),(10,true,_)] []
   (aK rfl (aA rfl (aA rfl eZ)))
   (mS .here (by rw [List.take_zero,List.drop_zero,List.nil_append,←List.singleton_append,←aBl hA1,←List.append_assoc]) mN) ?_ ?_
  ·(try dsimp only)<;>(first|omega|rfl|assumption|(simp; done))
  intro k N1 Gl1 hN1 hGl1 hF1
  try dsimp only at hF1 hN1 ⊢
  have hk:=hF1
  have hcm:=hcm.mono hGl1
  have ih:=ih.mono hGl1
  have hlu:(ms (P++(B.take k++A.getD 0 z0 :: B.drop k)++R)).length=P.length+B.length+1+R.length:=by rw [cN]; simp only [List.length_append,List.length_cons,List.length_take,List.length_drop]; omega
  refine .g (aW (((P.length+q):Nat):Int) rfl rfl rfl rfl ?_)
  refine cP rfl rfl rfl rfl (.g (cD rfl (fun c4=>?_) (fun c4=>?_)))
  ·have c4k:=c4
   try simp only [aC,aG,aD] at c4
   refine .skip (.code (.seq (.block ?_)))
   refine nX .here (by omega) ?_; intro bbR capR evR lcR; subst evR
   refine bA (mc:=⟨false,false⟩) [0,1,2,3,4,5,6,7,8,9,10,11,12,13,14,15,16,17] aX (by kernel_rfl) ?_
   refine .p (cQ (((((P.length+k:Nat))+1):Nat):Int) rfl .no (.u rfl) (.u rfl) rfl (by omega) (fun _=>bO (by omega) (by omega)) ?_)
   refine .p (cQ (((((P.length+k:Nat))+1):Nat):Int) rfl .no (.u rfl) (.u rfl) rfl (by omega) (fun _=>bO (by omega) (by omega)) ?_)
   refine ia rfl .no aY (.u rfl) (.u rfl) (by omega) (by omega) ?_
   refine lA rfl .no dF (.u rfl) (fun _=>iF .here (fun _ _=>Meta.len _) (iI (z:=Meta.zero) (k:=(((P.length+k:Nat))+1)) (by omega)) (by omega)) (fun _=>Meta.len _) ?_
   refine .p (ia rfl .no aY (.u rfl) (.u rfl) (by omega) (by omega) ?_)
   refine lA rfl .no dF (.u rfl) (fun _=>iF .here (fun _ _=>Meta.len _) (iI (z:=Meta.zero) (k:=((P.length+k:Nat))) (by omega)) (by omega)) (fun _=>Meta.len _) ?_
   refine ia rfl .no aY (.u rfl) (.u rfl) (by omega) (by omega) ?_
   refine tH (k:=((P.length+k:Nat))) (u:=((ms (P++(B.take k++A.getD 0 z0 :: B.drop k)++R)).getD ((((P.length+k:Nat))+1)) Meta.zero)) rfl (.u rfl) (.u rfl) rfl jP .here (fun _ _=>Meta.len _) (Meta.len _) (Meta.one _) (by omega) (by (try simp only [List.length_set]); omega) ?_
   refine ia rfl .no aY (.u rfl) (.u rfl) (by omega) (by omega) ?_
   refine tH (k:=(((P.length+k:Nat))+1)) (u:=((ms (P++(B.take k++A.getD 0 z0 :: B.drop k)++R)).getD (((P.length+k:Nat))) Meta.zero)) rfl (.u rfl) (.u rfl) rfl jP .here (fun _ _=>Meta.len _) (Meta.len _) (Meta.one _) (by omega) (by (try simp only [List.length_set]); omega) ?_
   refine .g (cQ (((((P.length+k:Nat))+1):Nat):Int) rfl .no (.u rfl) (.u rfl) rfl (by omega) (fun _=>bO (by omega) (by omega)) ?_)
   refine .g (aP (k+1) ?_ ?_ ?_ ?_ ?_)
   ·exact (cI rfl (dA (by omega)) (aA rfl (aA rfl eZ)))
   ·exact (mS .here (by rw [aQr (by omega) rfl rfl]) mN)
   ·first|omega|(dsimp only; omega)
   ·exact hGl1
   (try dsimp only)<;>(first|omega|rfl|assumption|(simp; done))
  have c4k:=c4
  try simp only [aC,aG,aD] at c4
  refine .exit (.xcode (.xlp (.xblk (.code (.ret (We.fin Tryz.results126 .nil (mS .here rfl mN) ?_))))))
  obtain rfl:k=q:=by omega
  exact ⟨_,aO2 hA1 k,aIy hw sB f1 f2 (by omega),rfl,rfl⟩
 have c1k:=c1
 try simp only [aC,aG,aD] at c1
 refine .g (aW ((B.length:Nat):Int) rfl rfl rfl rfl ?_)
 refine cP rfl rfl rfl rfl (.g (cD rfl (fun c5=>?_) (fun c5=>?_)))
 ·have c5k:=c5
  try simp only [aC,aG,aD] at c5
  refine .seq (bJ rfl rfl (mV rfl rfl (aS rfl rfl (.nc (.seq (bJ rfl rfl (mV rfl rfl (aS rfl rfl (.nc (.seq (.block ?_)))))))))))
  have hB1:B.length=1:=by omega
  refine aV (α:=Nat×Nat) (fun gh=>[(14,true,.int .i64 ((P.length+gh.1:Nat):Int)),(15,true,.int .i64 ((P.length+gh.2:Nat):Int))]) (fun _=>[])
   (fun gh Gl=>(gh.1≤gh.2)∧(gh.2≤A.length)∧(gh.1=0∨TL (cG cv) (A.getD (gh.1-1) z0) (B.getD 0 z0))∧(gh.2=A.length∨TL (cG cv) (B.getD 0 z0) (A.getD gh.2 z0))) (fun gh=>gh.2-gh.1) (0,A.length) [(0,true,_),(2,true,_),(4,true,_)] [_]
   (aK rfl (aK rfl (aA rfl (aA rfl (aA rfl eZ)))))
   (mS .here rfl mN) ?_ ?_
  ·refine ⟨?_,?_,?_,?_⟩
   ·(try dsimp only)<;>(first|omega|rfl|assumption|(simp; done))
   ·(try dsimp only)<;>(first|omega|rfl|assumption|(simp; done))
   ·(try dsimp only)<;>(exact .inl rfl)
   (try dsimp only)<;>(exact .inl rfl)
  intro gh N2 Gl2 hN2 hGl2 hF2
  obtain ⟨q,r⟩:=gh; dsimp only at hF2 hN2 ⊢
  obtain ⟨hq,hr,f1,f2⟩:=hF2
  have hcm:=hcm.mono hGl2
  have ih:=ih.mono hGl2
  refine .g (cP rfl rfl rfl rfl (.g (cD rfl (fun c6=>?_) (fun c6=>?_))))
  ·have c6k:=c6
   try simp only [aC,aG,aD] at c6
   refine .g (cQ (((((P.length+q:Nat))+((P.length+r:Nat))):Nat):Int) rfl .no (.u rfl) (.u rfl) rfl (by omega) (fun _=>bO (by omega) (by omega)) ?_)
   refine cw rfl .no yI (.u rfl) (fun _=>eD (by omega) (by omega)) ?_
   refine xS ((((P.length+q:Nat))+((P.length+r:Nat)))) rfl .no (.u rfl) (.u rfl) (by first|rfl|omega) rfl (by decide) ?_
   refine cw rfl .no aAz (.u rfl) (fun _=>bO (by omega) (by omega)) ?_
   refine aS rfl rfl (.nc (.seq ?_))
   obtain ⟨d,hd⟩ : ∃ d,((P.length+q)+(P.length+r)) / 2=P.length+d:=⟨(q+r) / 2,by omega⟩
   have hdq:q≤d∧d<r:=by omega
   rw [hd]
   have hg:=aBw (P:=P) (A:=A) (B:=B) (R:=R) (i:=d) (by omega)
   have hg0:=aQm (P:=P) (A:=A) (B:=B) (R:=R) hB
   refine nX .here (by omega) ?_; intro bbR capR evR lcR; subst evR
   refine bA (mc:=⟨false,false⟩) [0,1,2,3,4,5,6,7,8,9,10,11] aX (by kernel_rfl) ?_
   refine .p (ia rfl .no aY (.u rfl) (.u rfl) (by omega) (by omega) ?_)
   refine lA rfl .no dF (.u rfl) (fun _=>iF .here (fun _ _=>Meta.len _) (iI (z:=Meta.zero) (k:=(P.length+A.length)) (by omega)) (by omega)) (fun _=>Meta.len _) ?_
   refine .p (ia rfl .no aY (.u rfl) (.u rfl) (by omega) (by omega) ?_)
   refine lA rfl .no dF (.u rfl) (fun _=>iF .here (fun _ _=>Meta.len _) (iI (z:=Meta.zero) (k:=(P.length+d)) (by omega)) (by omega)) (fun _=>Meta.len _) ?_
   refine kf rfl .no (.u rfl) hf (aB rfl (aB rfl aF)) (fun _=>hcm.ok _ (PM.le.refl _) _ _) ?_
   refine cP rfl rfl rfl rfl (nt rfl .no (.u rfl) (.g (cD rfl (fun c7=>?_) (fun c7=>?_))))
   ·have c7k:=c7
    try simp only [aC,aG,aD] at c7
    refine .g (cQ ((((P.length+d)+1):Nat):Int) rfl .no (.u rfl) (.u rfl) rfl (by omega) (fun _=>bO (by omega) (by omega)) ?_)
    refine .g (aP (d+1,r) ?_ ?_ ?_ ?_ ?_)
    ·exact (cI rfl (dA (by first|rfl|omega|(dsimp only; omega))) (cI rfl (dA (by first|rfl|omega|(dsimp only; omega))) (aA rfl (aA rfl (aA rfl eZ)))))
    ·exact (mS .here rfl mN)
    ·first|omega|(dsimp only; omega)
    ·exact hGl2
    refine ⟨?_,?_,?_,?_⟩
    ·(try dsimp only)<;>(first|omega|rfl|assumption|(simp; done))
    ·(try dsimp only)<;>(first|omega|rfl|assumption|(simp; done))
    ·(try dsimp only)<;>(exact .inr (by rw [show d+1-1=d by omega]; exact aA5 hw ht (by omega) hB (by rw [← hg,←hg0]; assumption)))
    (try dsimp only)<;>(exact f2)
   have c7k:=c7
   try simp only [aC,aG,aD] at c7
   refine .g (aP (q,d) ?_ ?_ ?_ ?_ ?_)
   ·exact (cI rfl (dA (by first|rfl|omega|(dsimp only; omega))) (cI rfl (dA (by first|rfl|omega|(dsimp only; omega))) (aA rfl (aA rfl (aA rfl eZ)))))
   ·exact (mS .here rfl mN)
   ·first|omega|(dsimp only; omega)
   ·exact hGl2
   refine ⟨?_,?_,?_,?_⟩
   ·(try dsimp only)<;>(first|omega|rfl|assumption|(simp; done))
   ·(try dsimp only)<;>(first|omega|rfl|assumption|(simp; done))
   ·(try dsimp only)<;>(exact f1)
   (try dsimp only)<;>(exact .inr (aA4 hw ht (by omega) hB (by rw [← hg,←hg0]; assumption)))
  have c6k:=c6
  try simp only [aC,aG,aD] at c6
  refine .exit (.xcode (.xlp (.xblk (.code (.seq (.seq (bJ rfl rfl (mV rfl rfl (aS rfl rfl (.nc (.block ?_)))))))))))
  obtain rfl:q=r:=by omega
  refine aV (α:=Nat) (fun e=>[(17,true,.int .i64 ((P.length+e:Nat):Int))]) (fun e=>[rS 40 Meta.cells v 98 (ms (P++(A.take e++B.getD 0 z0 :: A.drop e)++R))])
   (fun e Gl=>(q≤e)∧(e≤A.length)) (fun e=>e) A.length [(0,true,_),(14,true,_)] []
   (aK rfl (aA rfl (aA rfl eZ)))
   (mS .here (by rw [List.take_length,List.drop_length,←aBl hB1,←List.append_assoc]) mN) ?_ ?_
  ·refine ⟨?_,?_⟩
   ·(try dsimp only)<;>(first|omega|rfl|assumption|(simp; done))
   (try dsimp only)<;>(first|omega|rfl|assumption|(simp; done))
  intro e N3 Gl3 hN3 hGl3 hF3
  try dsimp only at hF3 hN3 ⊢
  obtain ⟨he,hel⟩:=hF3
  have hcm:=hcm.mono hGl3
  have ih:=ih.mono hGl3
  have hld:(ms (P++(A.take e++B.getD 0 z0 :: A.drop e)++R)).length=P.length+A.length+1+R.length:=by rw [cN]; simp only [List.length_append,List.length_cons,List.length_take,List.length_drop]; omega
  refine .g (cP rfl rfl rfl rfl (.g (cD rfl (fun c8=>?_) (fun c8=>?_))))
  ·have c8k:=c8
   try simp only [aC,aG,aD] at c8
   refine .skip (.code (.seq (.block ?_)))
   refine nX .here (by omega) ?_; intro bbR capR evR lcR; subst evR
   refine bA (mc:=⟨false,false⟩) [0,1,2,3,4,5,6,7,8,9,10,11,12,13,14,15,16,17] aX (by kernel_rfl) ?_
   refine .p (aW (((P.length+e-1):Nat):Int) rfl rfl rfl rfl ?_)
   refine .p (aW (((P.length+e-1):Nat):Int) rfl rfl rfl rfl ?_)
   refine ia rfl .no aY (.u rfl) (.u rfl) (by omega) (by omega) ?_
   refine lA rfl .no dF (.u rfl) (fun _=>iF .here (fun _ _=>Meta.len _) (iI (z:=Meta.zero) (k:=(P.length+e-1)) (by omega)) (by omega)) (fun _=>Meta.len _) ?_
   refine .p (ia rfl .no aY (.u rfl) (.u rfl) (by omega) (by omega) ?_)
   refine lA rfl .no dF (.u rfl) (fun _=>iF .here (fun _ _=>Meta.len _) (iI (z:=Meta.zero) (k:=((P.length+e:Nat))) (by omega)) (by omega)) (fun _=>Meta.len _) ?_
   refine ia rfl .no aY (.u rfl) (.u rfl) (by omega) (by omega) ?_
   refine tH (k:=((P.length+e:Nat))) (u:=((ms (P++(A.take e++B.getD 0 z0 :: A.drop e)++R)).getD ((P.length+e-1)) Meta.zero)) rfl (.u rfl) (.u rfl) rfl jP .here (fun _ _=>Meta.len _) (Meta.len _) (Meta.one _) (by omega) (by (try simp only [List.length_set]); omega) ?_
   refine ia rfl .no aY (.u rfl) (.u rfl) (by omega) (by omega) ?_
   refine tH (k:=(P.length+e-1)) (u:=((ms (P++(A.take e++B.getD 0 z0 :: A.drop e)++R)).getD (((P.length+e:Nat))) Meta.zero)) rfl (.u rfl) (.u rfl) rfl jP .here (fun _ _=>Meta.len _) (Meta.len _) (Meta.one _) (by omega) (by (try simp only [List.length_set]); omega) ?_
   refine .g (aW (((P.length+e-1):Nat):Int) rfl rfl rfl rfl ?_)
   refine .g (aP (e-1) ?_ ?_ ?_ ?_ ?_)
   ·exact (cI rfl (dA (by omega)) (aA rfl (aA rfl eZ)))
   ·exact (mS .here (by rw [aQq (by omega) (by omega) rfl rfl]) mN)
   ·first|omega|(dsimp only; omega)
   ·exact hGl3
   refine ⟨?_,?_⟩
   ·(try dsimp only)<;>(first|omega|rfl|assumption|(simp; done))
   (try dsimp only)<;>(first|omega|rfl|assumption|(simp; done))
  have c8k:=c8
  try simp only [aC,aG,aD] at c8
  refine .exit (.xcode (.xlp (.xblk (.code (.ret (We.fin Tryz.results126 .nil (mS .here rfl mN) ?_))))))
  obtain rfl:e=q:=by omega
  exact ⟨_,aOw hB1 e,aIy hw sA f1 f2 (by omega),rfl,rfl⟩
 have c5k:=c5
 try simp only [aC,aG,aD] at c5
 refine .g (cQ (((P.length+(P.length+A.length+B.length)):Nat):Int) rfl .no (.u rfl) (.u rfl) rfl (by omega) (fun _=>bO (by omega) (by omega)) ?_)
 refine cw rfl .no yI (.u rfl) (fun _=>eD (by omega) (by omega)) ?_
 refine xS ((P.length+(P.length+A.length+B.length))) rfl .no (.u rfl) (.u rfl) (by first|rfl|omega) rfl (by decide) ?_
 refine cw rfl .no aAz (.u rfl) (fun _=>bO (by omega) (by omega)) ?_
 refine aS rfl rfl (.nc (.seq ?_))
 obtain ⟨h,hh⟩ : ∃ h,(P.length+(P.length+A.length+B.length)) / 2=P.length+h:=⟨(A.length+B.length) / 2,by omega⟩
 have hh2:A.length+B.length=2*h∨A.length+B.length=2*h+1:=by omega
 rw [hh]
 refine .g (cQ ((((P.length+h)+(P.length+A.length)):Nat):Int) rfl .no (.u rfl) (.u rfl) rfl (by omega) (fun _=>bO (by omega) (by omega)) ?_)
 refine .g (cP rfl rfl rfl rfl (.g (cD rfl (fun c9=>?_) (fun c9=>?_))))
 ·have c9k:=c9
  try simp only [aC,aG,aD] at c9
  refine .g (cQ (((P.length+(h-B.length)):Nat):Int) rfl .no (.u rfl) (.u rfl) rfl (by omega) (fun _=>bO (by omega) (by omega)) ?_)
  refine .g (cQ (((P.length+h+(P.length+A.length)-1):Nat):Int) rfl .no (.u rfl) (.u rfl) rfl (by omega) (fun _=>bO (by omega) (by omega)) ?_)
  refine aS rfl rfl (.nc (.seq (.block ?_)))
  refine aV (α:=Nat×Nat) (fun gh=>[(20,true,.int .i64 ((P.length+gh.1:Nat):Int)),(21,true,.int .i64 ((P.length+gh.2:Nat):Int))]) (fun _=>[])
   (fun gh Gl=>(h-B.length≤gh.1)∧(gh.1≤gh.2)∧(gh.2≤h)∧(gh.2≤A.length)∧(gh.1=h-B.length∨TL (cG cv) (A.getD (gh.1-1) z0) (B.getD (h-gh.1) z0))∧((gh.2=h∨gh.2=A.length)∨TL (cG cv) (B.getD (h-1-gh.2) z0) (A.getD gh.2 z0))) (fun gh=>gh.2-gh.1) (h-B.length,h) [(0,true,_),(1,true,_),(2,true,_),(3,true,_),(4,true,_),(18,true,_),(19,true,_),(22,true,_)] [_]
   (cI rfl (dA (by first|rfl|omega|(dsimp only; omega))) (cI rfl (dA (by first|rfl|omega|(dsimp only; omega))) (aA rfl (aA rfl (aA rfl (aA rfl (aA rfl (aA rfl (aA rfl (aA rfl eZ))))))))))
   (mS .here rfl mN) ?_ ?_
  ·refine ⟨?_,?_,?_,?_,?_,?_⟩
   ·(try dsimp only)<;>(first|omega|rfl|assumption|(simp; done))
   ·(try dsimp only)<;>(first|omega|rfl|assumption|(simp; done))
   ·(try dsimp only)<;>(first|omega|rfl|assumption|(simp; done))
   ·(try dsimp only)<;>(first|omega|rfl|assumption|(simp; done))
   ·(try dsimp only)<;>(exact .inl (by omega))
   (try dsimp only)<;>(exact .inl (by omega))
  intro gh N4 Gl4 hN4 hGl4 hF4
  obtain ⟨s,r⟩:=gh; dsimp only at hF4 hN4 ⊢
  obtain ⟨h1,h2,h3,h4,f1,f2⟩:=hF4
  have hcm:=hcm.mono hGl4
  have ih:=ih.mono hGl4
  refine .g (cP rfl rfl rfl rfl (.g (cD rfl (fun c10=>?_) (fun c10=>?_))))
  ·have c10k:=c10
   try simp only [aC,aG,aD] at c10
   refine .g (cQ (((((P.length+s:Nat))+((P.length+r:Nat))):Nat):Int) rfl .no (.u rfl) (.u rfl) rfl (by omega) (fun _=>bO (by omega) (by omega)) ?_)
   refine cw rfl .no yI (.u rfl) (fun _=>eD (by omega) (by omega)) ?_
   refine xS ((((P.length+s:Nat))+((P.length+r:Nat)))) rfl .no (.u rfl) (.u rfl) (by first|rfl|omega) rfl (by decide) ?_
   refine cw rfl .no aAz (.u rfl) (fun _=>bO (by omega) (by omega)) ?_
   refine aS rfl rfl (.nc (.seq ?_))
   obtain ⟨d,hd⟩ : ∃ d,((P.length+s)+(P.length+r)) / 2=P.length+d:=⟨(s+r) / 2,by omega⟩
   have hdq:s≤d∧d<r:=by omega
   rw [hd]
   have hg:=aBw (P:=P) (A:=A) (B:=B) (R:=R) (i:=d) (by omega)
   have hg0:=aBx (P:=P) (A:=A) (B:=B) (R:=R) (i:=h-1-d) (by omega)
   refine nX .here (by omega) ?_; intro bbR capR evR lcR; subst evR
   refine bA (mc:=⟨false,false⟩) [0,1,2,3,4,5,6,7,8,9,10,11,12,13] aX (by kernel_rfl) ?_
   refine .p (cQ (((P.length+A.length+(h-1-d)):Nat):Int) rfl .no (.u rfl) (.u rfl) rfl (by omega) (fun _=>bO (by omega) (by omega)) ?_)
   refine ia rfl .no aY (.u rfl) (.u rfl) (by omega) (by omega) ?_
   refine lA rfl .no dF (.u rfl) (fun _=>iF .here (fun _ _=>Meta.len _) (iI (z:=Meta.zero) (k:=(P.length+A.length+(h-1-d))) (by omega)) (by omega)) (fun _=>Meta.len _) ?_
   refine .p (ia rfl .no aY (.u rfl) (.u rfl) (by omega) (by omega) ?_)
   refine lA rfl .no dF (.u rfl) (fun _=>iF .here (fun _ _=>Meta.len _) (iI (z:=Meta.zero) (k:=(P.length+d)) (by omega)) (by omega)) (fun _=>Meta.len _) ?_
   refine kf rfl .no (.u rfl) hf (aB rfl (aB rfl aF)) (fun _=>hcm.ok _ (PM.le.refl _) _ _) ?_
   refine cP rfl rfl rfl rfl (nt rfl .no (.u rfl) (.g (cD rfl (fun c11=>?_) (fun c11=>?_))))
   ·have c11k:=c11
    try simp only [aC,aG,aD] at c11
    have hyes:=aA5 hw ht (i:=d) (j:=h-1-d) (by omega) (by omega) (by rw [← hg,←hg0]; assumption)
    refine .g (cQ ((((P.length+d)+1):Nat):Int) rfl .no (.u rfl) (.u rfl) rfl (by omega) (fun _=>bO (by omega) (by omega)) ?_)
    refine .g (aP (d+1,r) ?_ ?_ ?_ ?_ ?_)
    ·exact (cI rfl (dA (by first|rfl|omega|(dsimp only; omega))) (cI rfl (dA (by first|rfl|omega|(dsimp only; omega))) (aA rfl (aA rfl (aA rfl (aA rfl (aA rfl (aA rfl (aA rfl (aA rfl eZ))))))))))
    ·exact (mS .here rfl mN)
    ·first|omega|(dsimp only; omega)
    ·exact hGl4
    refine ⟨?_,?_,?_,?_,?_,?_⟩
    ·(try dsimp only)<;>(first|omega|rfl|assumption|(simp; done))
    ·(try dsimp only)<;>(first|omega|rfl|assumption|(simp; done))
    ·(try dsimp only)<;>(first|omega|rfl|assumption|(simp; done))
    ·(try dsimp only)<;>(first|omega|rfl|assumption|(simp; done))
    ·(try dsimp only)<;>(exact .inr (by rw [show d+1-1=d by omega,show h-(d+1)=h-1-d by omega]; exact hyes))
    (try dsimp only)<;>(exact f2)
   have c11k:=c11
   try simp only [aC,aG,aD] at c11
   have hno:=aA4 hw ht (i:=d) (j:=h-1-d) (by omega) (by omega) (by rw [← hg,←hg0]; assumption)
   refine .g (aP (s,d) ?_ ?_ ?_ ?_ ?_)
   ·exact (cI rfl (dA (by first|rfl|omega|(dsimp only; omega))) (cI rfl (dA (by first|rfl|omega|(dsimp only; omega))) (aA rfl (aA rfl (aA rfl (aA rfl (aA rfl (aA rfl (aA rfl (aA rfl eZ))))))))))
   ·exact (mS .here rfl mN)
   ·first|omega|(dsimp only; omega)
   ·exact hGl4
   refine ⟨?_,?_,?_,?_,?_,?_⟩
   ·(try dsimp only)<;>(first|omega|rfl|assumption|(simp; done))
   ·(try dsimp only)<;>(first|omega|rfl|assumption|(simp; done))
   ·(try dsimp only)<;>(first|omega|rfl|assumption|(simp; done))
   ·(try dsimp only)<;>(first|omega|rfl|assumption|(simp; done))
   ·(try dsimp only)<;>(exact f1)
   (try dsimp only)<;>(exact .inr hno)
  have c10k:=c10
  try simp only [aC,aG,aD] at c10
  refine .exit (.xcode (.xlp (.xblk (.code (.seq ?_)))))
  obtain rfl:s=r:=by omega
  have hcut:=aJD hw sA sB h1 h3 h4 f1 f2
  refine .g (cQ (((P.length+A.length+(h-s)):Nat):Int) rfl .no (.u rfl) (.u rfl) rfl (by omega) (fun _=>bO (by omega) (by omega)) ?_)
  refine .g (cP rfl rfl rfl rfl (mV rfl rfl (mv rfl (.t rfl rfl) (.u rfl) (mv rfl (.t rfl rfl) (.u rfl) (cp rfl (.t rfl rfl) (.s rfl) (.s rfl) rfl (bR rfl .no (.u rfl) (.s rfl) (.g (cD rfl (fun c12=>?_) (fun c12=>?_)))))))))
  ·have c12k:=c12
   try simp only [aC,aG,aD] at c12
   refine .g (ka rfl (.inr rfl) aKf (aB rfl (aB rfl (aB rfl (aB rfl (aB rfl aF))))) (bL .here) (aIV (ms (P++A.take s)) (ms (A.drop s)) (ms (B.take (h-s))) (ms (B.drop (h-s)++R)) _ _ _ _ _ _ (by simp only [cN,aT]; omega) (by simp only [cN,aT]; omega) (by simp only [cN,aT]; omega) (by simp only [cN,aT]; omega) (by simp only [cN,aT]; omega) _ aJE (by rw [hlen]; omega)) ?_)
   rintro _ G191 μ191 hG191 ⟨rfl,rfl⟩
   have hcm:=hcm.mono hG191
   have ih:=ih.mono hG191
   refine .nil (.code (.seq (.seq ?_)))
   rw [aJG (P:=P) (A:=A) (B:=B) (R:=R) (s:=s) (q:=h-s)]
   refine .g (cP rfl rfl rfl rfl (mV rfl rfl (mv rfl (.t rfl rfl) (.u rfl) (mv rfl (.t rfl rfl) (.u rfl) (cp rfl (.t rfl rfl) (.s rfl) (.s rfl) rfl (bR rfl .no (.u rfl) (.s rfl) (.g (cD rfl (fun c13=>?_) (fun c13=>?_)))))))))
   ·have c13k:=c13
    try simp only [aC,aG,aD] at c13
    refine gL rfl rfl (mV rfl rfl (mV rfl rfl (mV rfl rfl (mV rfl rfl (mV rfl rfl ?_)))))
    refine ka rfl (.inr rfl) nG (aB rfl (aB rfl (aB rfl (aB rfl (aB rfl aF))))) (bL .here) (ih.ok _ (PM.le.refl _) P (A.take s) (B.take (h-s)) (A.drop s++B.drop (h-s)++R) _ _ _ _ (by first|omega|(simp only [aT]<;>omega)) (by first|omega|(simp only [aT]<;>omega)) (by first|omega|(simp only [aT]<;>omega)) (by first|omega|(simp only [aT]<;>omega)) (by first|omega|(simp only [aT]<;>omega)) (by first|omega|(simp only [aT]<;>omega)) (cR sA s).1 (cR sB (h-s)).1 (fun x hx y hy=>ht x (List.mem_of_mem_take hx) y (List.mem_of_mem_take hy)) (by simp only [ms,List.map_append,List.append_assoc]) (by rw [cN]; simp only [aT]; omega)) ?_
    rintro _ G205 μ205 hG205 ⟨S205,p205,s205,rfl,rfl⟩
    have l205:=p205.length_eq; simp only [aT] at l205
    have hcm:=hcm.mono hG205
    have ih:=ih.mono hG205
    refine .g (cP rfl rfl rfl rfl (mV rfl rfl (mv rfl (.t rfl rfl) (.u rfl) (mv rfl (.t rfl rfl) (.u rfl) (cp rfl (.t rfl rfl) (.s rfl) (.s rfl) rfl (bR rfl .no (.u rfl) (.s rfl) (.g (cD rfl (fun c14=>?_) (fun c14=>?_)))))))))
    ·have c14k:=c14
     try simp only [aC,aG,aD] at c14
     refine gL rfl rfl (mV rfl rfl (mV rfl rfl (mV rfl rfl (mV rfl rfl (mV rfl rfl ?_)))))
     refine ka rfl (.inr rfl) nG (aB rfl (aB rfl (aB rfl (aB rfl (aB rfl aF))))) (bL .here) (ih.ok _ (PM.le.refl _) (P++S205) (A.drop s) (B.drop (h-s)) R _ _ _ _ (by first|omega|(simp only [aT]<;>omega)) (by first|omega|(simp only [aT]<;>omega)) (by first|omega|(simp only [aT]<;>omega)) (by first|omega|(simp only [aT]<;>omega)) (by first|omega|(simp only [aT]<;>omega)) (by first|omega|(simp only [aT]<;>omega)) (cR sA s).2.1 (cR sB (h-s)).2.1 (fun x hx y hy=>ht x (List.mem_of_mem_drop hx) y (List.mem_of_mem_drop hy)) (by simp only [ms,List.map_append,List.append_assoc]) (by rw [cN]; simp only [aT]; omega)) ?_
     rintro _ G219 μ219 hG219 ⟨S219,p219,s219,rfl,rfl⟩
     have l219:=p219.length_eq; simp only [aT] at l219
     have hcm:=hcm.mono hG219
     have ih:=ih.mono hG219
     refine .g (We.fin Tryz.results126 .nil (mS .here rfl mN) ?_)
     have hq1:s≤h:=by omega
     obtain ⟨a1,a2,_⟩:=cR sA s
     obtain ⟨b1,b2,_⟩:=cR sB (h-s)
     have p1:=p205; have s1:=s205
     have p2:=p219; have s2:=s219
     obtain ⟨q1,q2⟩:=lJ hcut p1 s1 p2 s2
     exact ⟨_,q1,q2,by simp only [ms,List.map_append,List.append_assoc],rfl⟩
    have c14k:=c14
    try simp only [aC,aG,aD] at c14
    refine .g (We.fin Tryz.results126 .nil (mS .here rfl mN) ?_)
    have hq1:s≤h:=by omega
    obtain ⟨a1,a2,_⟩:=cR sA s
    obtain ⟨b1,b2,_⟩:=cR sB (h-s)
    have p1:=p205; have s1:=s205
    have p2:=List.Perm.refl (A.drop s++B.drop (h-s))
    have s2:=lC a2 b2 (by simp only [List.length_drop]; omega)
    obtain ⟨q1,q2⟩:=lJ hcut p1 s1 p2 s2
    exact ⟨_,q1,q2,by simp only [ms,List.map_append,List.append_assoc],rfl⟩
   have c13k:=c13
   try simp only [aC,aG,aD] at c13
   refine .g (cP rfl rfl rfl rfl (mV rfl rfl (mv rfl (.t rfl rfl) (.u rfl) (mv rfl (.t rfl rfl) (.u rfl) (cp rfl (.t rfl rfl) (.s rfl) (.s rfl) rfl (bR rfl .no (.u rfl) (.s rfl) (.g (cD rfl (fun c15=>?_) (fun c15=>?_)))))))))
   ·have c15k:=c15
    try simp only [aC,aG,aD] at c15
    refine gL rfl rfl (mV rfl rfl (mV rfl rfl (mV rfl rfl (mV rfl rfl (mV rfl rfl ?_)))))
    refine ka rfl (.inr rfl) nG (aB rfl (aB rfl (aB rfl (aB rfl (aB rfl aF))))) (bL .here) (ih.ok _ (PM.le.refl _) (P++(A.take s++B.take (h-s))) (A.drop s) (B.drop (h-s)) R _ _ _ _ (by first|omega|(simp only [aT]<;>omega)) (by first|omega|(simp only [aT]<;>omega)) (by first|omega|(simp only [aT]<;>omega)) (by first|omega|(simp only [aT]<;>omega)) (by first|omega|(simp only [aT]<;>omega)) (by first|omega|(simp only [aT]<;>omega)) (cR sA s).2.1 (cR sB (h-s)).2.1 (fun x hx y hy=>ht x (List.mem_of_mem_drop hx) y (List.mem_of_mem_drop hy)) (by simp only [ms,List.map_append,List.append_assoc]) (by rw [cN]; simp only [aT]; omega)) ?_
    rintro _ G219 μ219 hG219 ⟨S219,p219,s219,rfl,rfl⟩
    have l219:=p219.length_eq; simp only [aT] at l219
    have hcm:=hcm.mono hG219
    have ih:=ih.mono hG219
    refine .g (We.fin Tryz.results126 .nil (mS .here rfl mN) ?_)
    have hq1:s≤h:=by omega
    obtain ⟨a1,a2,_⟩:=cR sA s
    obtain ⟨b1,b2,_⟩:=cR sB (h-s)
    have p1:=List.Perm.refl (A.take s++B.take (h-s))
    have s1:=lC a1 b1 (by simp only [List.length_take]; omega)
    have p2:=p219; have s2:=s219
    obtain ⟨q1,q2⟩:=lJ hcut p1 s1 p2 s2
    exact ⟨_,q1,q2,by simp only [ms,List.map_append,List.append_assoc],rfl⟩
   have c15k:=c15
   try simp only [aC,aG,aD] at c15
   refine .g (We.fin Tryz.results126 .nil (mS .here rfl mN) ?_)
   have hq1:s≤h:=by omega
   obtain ⟨a1,a2,_⟩:=cR sA s
   obtain ⟨b1,b2,_⟩:=cR sB (h-s)
   have p1:=List.Perm.refl (A.take s++B.take (h-s))
   have s1:=lC a1 b1 (by simp only [List.length_take]; omega)
   have p2:=List.Perm.refl (A.drop s++B.drop (h-s))
   have s2:=lC a2 b2 (by simp only [List.length_drop]; omega)
   obtain ⟨q1,q2⟩:=lJ hcut p1 s1 p2 s2
   exact ⟨_,q1,q2,by simp only [ms,List.map_append,List.append_assoc],rfl⟩
  have c12k:=c12
  try simp only [aC,aG,aD] at c12
  refine .skip (.code (.seq (.seq ?_)))
  rw [aJF (P:=P) (A:=A) (B:=B) (R:=R) (s:=s) (q:=h-s) (by omega)]
  refine .g (cP rfl rfl rfl rfl (mV rfl rfl (mv rfl (.t rfl rfl) (.u rfl) (mv rfl (.t rfl rfl) (.u rfl) (cp rfl (.t rfl rfl) (.s rfl) (.s rfl) rfl (bR rfl .no (.u rfl) (.s rfl) (.g (cD rfl (fun c16=>?_) (fun c16=>?_)))))))))
  ·have c16k:=c16
   try simp only [aC,aG,aD] at c16
   refine gL rfl rfl (mV rfl rfl (mV rfl rfl (mV rfl rfl (mV rfl rfl (mV rfl rfl ?_)))))
   refine ka rfl (.inr rfl) nG (aB rfl (aB rfl (aB rfl (aB rfl (aB rfl aF))))) (bL .here) (ih.ok _ (PM.le.refl _) P (A.take s) (B.take (h-s)) (A.drop s++B.drop (h-s)++R) _ _ _ _ (by first|omega|(simp only [aT]<;>omega)) (by first|omega|(simp only [aT]<;>omega)) (by first|omega|(simp only [aT]<;>omega)) (by first|omega|(simp only [aT]<;>omega)) (by first|omega|(simp only [aT]<;>omega)) (by first|omega|(simp only [aT]<;>omega)) (cR sA s).1 (cR sB (h-s)).1 (fun x hx y hy=>ht x (List.mem_of_mem_take hx) y (List.mem_of_mem_take hy)) (by simp only [ms,List.map_append,List.append_assoc]) (by rw [cN]; simp only [aT]; omega)) ?_
   rintro _ G205 μ205 hG205 ⟨S205,p205,s205,rfl,rfl⟩
   have l205:=p205.length_eq; simp only [aT] at l205
   have hcm:=hcm.mono hG205
   have ih:=ih.mono hG205
   refine .g (cP rfl rfl rfl rfl (mV rfl rfl (mv rfl (.t rfl rfl) (.u rfl) (mv rfl (.t rfl rfl) (.u rfl) (cp rfl (.t rfl rfl) (.s rfl) (.s rfl) rfl (bR rfl .no (.u rfl) (.s rfl) (.g (cD rfl (fun c17=>?_) (fun c17=>?_)))))))))
   ·have c17k:=c17
    try simp only [aC,aG,aD] at c17
    refine gL rfl rfl (mV rfl rfl (mV rfl rfl (mV rfl rfl (mV rfl rfl (mV rfl rfl ?_)))))
    refine ka rfl (.inr rfl) nG (aB rfl (aB rfl (aB rfl (aB rfl (aB rfl aF))))) (bL .here) (ih.ok _ (PM.le.refl _) (P++S205) (A.drop s) (B.drop (h-s)) R _ _ _ _ (by first|omega|(simp only [aT]<;>omega)) (by first|omega|(simp only [aT]<;>omega)) (by first|omega|(simp only [aT]<;>omega)) (by first|omega|(simp only [aT]<;>omega)) (by first|omega|(simp only [aT]<;>omega)) (by first|omega|(simp only [aT]<;>omega)) (cR sA s).2.1 (cR sB (h-s)).2.1 (fun x hx y hy=>ht x (List.mem_of_mem_drop hx) y (List.mem_of_mem_drop hy)) (by simp only [ms,List.map_append,List.append_assoc]) (by rw [cN]; simp only [aT]; omega)) ?_
    rintro _ G219 μ219 hG219 ⟨S219,p219,s219,rfl,rfl⟩
    have l219:=p219.length_eq; simp only [aT] at l219
    have hcm:=hcm.mono hG219
    have ih:=ih.mono hG219
    refine .g (We.fin Tryz.results126 .nil (mS .here rfl mN) ?_)
    have hq1:s≤h:=by omega
    obtain ⟨a1,a2,_⟩:=cR sA s
    obtain ⟨b1,b2,_⟩:=cR sB (h-s)
    have p1:=p205; have s1:=s205
    have p2:=p219; have s2:=s219
    obtain ⟨q1,q2⟩:=lJ hcut p1 s1 p2 s2
    exact ⟨_,q1,q2,by simp only [ms,List.map_append,List.append_assoc],rfl⟩
   have c17k:=c17
   try simp only [aC,aG,aD] at c17
   refine .g (We.fin Tryz.results126 .nil (mS .here rfl mN) ?_)
   have hq1:s≤h:=by omega
   obtain ⟨a1,a2,_⟩:=cR sA s
   obtain ⟨b1,b2,_⟩:=cR sB (h-s)
   have p1:=p205; have s1:=s205
   have p2:=List.Perm.refl (A.drop s++B.drop (h-s))
   have s2:=lC a2 b2 (by simp only [List.length_drop]; omega)
   obtain ⟨q1,q2⟩:=lJ hcut p1 s1 p2 s2
   exact ⟨_,q1,q2,by simp only [ms,List.map_append,List.append_assoc],rfl⟩
  have c16k:=c16
  try simp only [aC,aG,aD] at c16
  refine .g (cP rfl rfl rfl rfl (mV rfl rfl (mv rfl (.t rfl rfl) (.u rfl) (mv rfl (.t rfl rfl) (.u rfl) (cp rfl (.t rfl rfl) (.s rfl) (.s rfl) rfl (bR rfl .no (.u rfl) (.s rfl) (.g (cD rfl (fun c18=>?_) (fun c18=>?_)))))))))
  ·have c18k:=c18
   try simp only [aC,aG,aD] at c18
   refine gL rfl rfl (mV rfl rfl (mV rfl rfl (mV rfl rfl (mV rfl rfl (mV rfl rfl ?_)))))
   refine ka rfl (.inr rfl) nG (aB rfl (aB rfl (aB rfl (aB rfl (aB rfl aF))))) (bL .here) (ih.ok _ (PM.le.refl _) (P++(A.take s++B.take (h-s))) (A.drop s) (B.drop (h-s)) R _ _ _ _ (by first|omega|(simp only [aT]<;>omega)) (by first|omega|(simp only [aT]<;>omega)) (by first|omega|(simp only [aT]<;>omega)) (by first|omega|(simp only [aT]<;>omega)) (by first|omega|(simp only [aT]<;>omega)) (by first|omega|(simp only [aT]<;>omega)) (cR sA s).2.1 (cR sB (h-s)).2.1 (fun x hx y hy=>ht x (List.mem_of_mem_drop hx) y (List.mem_of_mem_drop hy)) (by simp only [ms,List.map_append,List.append_assoc]) (by rw [cN]; simp only [aT]; omega)) ?_
   rintro _ G219 μ219 hG219 ⟨S219,p219,s219,rfl,rfl⟩
   have l219:=p219.length_eq; simp only [aT] at l219
   have hcm:=hcm.mono hG219
   have ih:=ih.mono hG219
   refine .g (We.fin Tryz.results126 .nil (mS .here rfl mN) ?_)
   have hq1:s≤h:=by omega
   obtain ⟨a1,a2,_⟩:=cR sA s
   obtain ⟨b1,b2,_⟩:=cR sB (h-s)
   have p1:=List.Perm.refl (A.take s++B.take (h-s))
   have s1:=lC a1 b1 (by simp only [List.length_take]; omega)
   have p2:=p219; have s2:=s219
   obtain ⟨q1,q2⟩:=lJ hcut p1 s1 p2 s2
   exact ⟨_,q1,q2,by simp only [ms,List.map_append,List.append_assoc],rfl⟩
  have c18k:=c18
  try simp only [aC,aG,aD] at c18
  refine .g (We.fin Tryz.results126 .nil (mS .here rfl mN) ?_)
  have hq1:s≤h:=by omega
  obtain ⟨a1,a2,_⟩:=cR sA s
  obtain ⟨b1,b2,_⟩:=cR sB (h-s)
  have p1:=List.Perm.refl (A.take s++B.take (h-s))
  have s1:=lC a1 b1 (by simp only [List.length_take]; omega)
  have p2:=List.Perm.refl (A.drop s++B.drop (h-s))
  have s2:=lC a2 b2 (by simp only [List.length_drop]; omega)
  obtain ⟨q1,q2⟩:=lJ hcut p1 s1 p2 s2
  exact ⟨_,q1,q2,by simp only [ms,List.map_append,List.append_assoc],rfl⟩
 have c9k:=c9
 try simp only [aC,aG,aD] at c9
 refine .g (cQ (((P.length+h+(P.length+A.length)-1):Nat):Int) rfl .no (.u rfl) (.u rfl) rfl (by omega) (fun _=>bO (by omega) (by omega)) ?_)
 refine aS rfl rfl (.nc (.seq (.block ?_)))
 refine aV (α:=Nat×Nat) (fun gh=>[(20,true,.int .i64 ((P.length+gh.1:Nat):Int)),(21,true,.int .i64 ((P.length+gh.2:Nat):Int))]) (fun _=>[])
  (fun gh Gl=>(h-B.length≤gh.1)∧(gh.1≤gh.2)∧(gh.2≤h)∧(gh.2≤A.length)∧(gh.1=h-B.length∨TL (cG cv) (A.getD (gh.1-1) z0) (B.getD (h-gh.1) z0))∧((gh.2=h∨gh.2=A.length)∨TL (cG cv) (B.getD (h-1-gh.2) z0) (A.getD gh.2 z0))) (fun gh=>gh.2-gh.1) (0,A.length) [(0,true,_),(1,true,_),(2,true,_),(3,true,_),(4,true,_),(18,true,_),(19,true,_),(22,true,_)] [_]
  (cI rfl (dA (by first|rfl|omega|(dsimp only; omega))) (cI rfl (dA (by first|rfl|omega|(dsimp only; omega))) (aA rfl (aA rfl (aA rfl (aA rfl (aA rfl (aA rfl (aA rfl (aA rfl eZ))))))))))
  (mS .here rfl mN) ?_ ?_
 ·refine ⟨?_,?_,?_,?_,?_,?_⟩
  ·(try dsimp only)<;>(first|omega|rfl|assumption|(simp; done))
  ·(try dsimp only)<;>(first|omega|rfl|assumption|(simp; done))
  ·(try dsimp only)<;>(first|omega|rfl|assumption|(simp; done))
  ·(try dsimp only)<;>(first|omega|rfl|assumption|(simp; done))
  ·(try dsimp only)<;>(exact .inl (by omega))
  (try dsimp only)<;>(exact .inl (by omega))
 intro gh N5 Gl5 hN5 hGl5 hF5
 obtain ⟨s,r⟩:=gh; dsimp only at hF5 hN5 ⊢
 obtain ⟨h1,h2,h3,h4,f1,f2⟩:=hF5
 have hcm:=hcm.mono hGl5
 have ih:=ih.mono hGl5
 refine .g (cP rfl rfl rfl rfl (.g (cD rfl (fun c19=>?_) (fun c19=>?_))))
 ·have c19k:=c19
  try simp only [aC,aG,aD] at c19
  refine .g (cQ (((((P.length+s:Nat))+((P.length+r:Nat))):Nat):Int) rfl .no (.u rfl) (.u rfl) rfl (by omega) (fun _=>bO (by omega) (by omega)) ?_)
  refine cw rfl .no yI (.u rfl) (fun _=>eD (by omega) (by omega)) ?_
  refine xS ((((P.length+s:Nat))+((P.length+r:Nat)))) rfl .no (.u rfl) (.u rfl) (by first|rfl|omega) rfl (by decide) ?_
  refine cw rfl .no aAz (.u rfl) (fun _=>bO (by omega) (by omega)) ?_
  refine aS rfl rfl (.nc (.seq ?_))
  obtain ⟨d,hd⟩ : ∃ d,((P.length+s)+(P.length+r)) / 2=P.length+d:=⟨(s+r) / 2,by omega⟩
  have hdq:s≤d∧d<r:=by omega
  rw [hd]
  have hg:=aBw (P:=P) (A:=A) (B:=B) (R:=R) (i:=d) (by omega)
  have hg0:=aBx (P:=P) (A:=A) (B:=B) (R:=R) (i:=h-1-d) (by omega)
  refine nX .here (by omega) ?_; intro bbR capR evR lcR; subst evR
  refine bA (mc:=⟨false,false⟩) [0,1,2,3,4,5,6,7,8,9,10,11,12,13] aX (by kernel_rfl) ?_
  refine .p (cQ (((P.length+A.length+(h-1-d)):Nat):Int) rfl .no (.u rfl) (.u rfl) rfl (by omega) (fun _=>bO (by omega) (by omega)) ?_)
  refine ia rfl .no aY (.u rfl) (.u rfl) (by omega) (by omega) ?_
  refine lA rfl .no dF (.u rfl) (fun _=>iF .here (fun _ _=>Meta.len _) (iI (z:=Meta.zero) (k:=(P.length+A.length+(h-1-d))) (by omega)) (by omega)) (fun _=>Meta.len _) ?_
  refine .p (ia rfl .no aY (.u rfl) (.u rfl) (by omega) (by omega) ?_)
  refine lA rfl .no dF (.u rfl) (fun _=>iF .here (fun _ _=>Meta.len _) (iI (z:=Meta.zero) (k:=(P.length+d)) (by omega)) (by omega)) (fun _=>Meta.len _) ?_
  refine kf rfl .no (.u rfl) hf (aB rfl (aB rfl aF)) (fun _=>hcm.ok _ (PM.le.refl _) _ _) ?_
  refine cP rfl rfl rfl rfl (nt rfl .no (.u rfl) (.g (cD rfl (fun c20=>?_) (fun c20=>?_))))
  ·have c20k:=c20
   try simp only [aC,aG,aD] at c20
   have hyes:=aA5 hw ht (i:=d) (j:=h-1-d) (by omega) (by omega) (by rw [← hg,←hg0]; assumption)
   refine .g (cQ ((((P.length+d)+1):Nat):Int) rfl .no (.u rfl) (.u rfl) rfl (by omega) (fun _=>bO (by omega) (by omega)) ?_)
   refine .g (aP (d+1,r) ?_ ?_ ?_ ?_ ?_)
   ·exact (cI rfl (dA (by first|rfl|omega|(dsimp only; omega))) (cI rfl (dA (by first|rfl|omega|(dsimp only; omega))) (aA rfl (aA rfl (aA rfl (aA rfl (aA rfl (aA rfl (aA rfl (aA rfl eZ))))))))))
   ·exact (mS .here rfl mN)
   ·first|omega|(dsimp only; omega)
   ·exact hGl5
   refine ⟨?_,?_,?_,?_,?_,?_⟩
   ·(try dsimp only)<;>(first|omega|rfl|assumption|(simp; done))
   ·(try dsimp only)<;>(first|omega|rfl|assumption|(simp; done))
   ·(try dsimp only)<;>(first|omega|rfl|assumption|(simp; done))
   ·(try dsimp only)<;>(first|omega|rfl|assumption|(simp; done))
   ·(try dsimp only)<;>(exact .inr (by rw [show d+1-1=d by omega,show h-(d+1)=h-1-d by omega]; exact hyes))
   (try dsimp only)<;>(exact f2)
  have c20k:=c20
  try simp only [aC,aG,aD] at c20
  have hno:=aA4 hw ht (i:=d) (j:=h-1-d) (by omega) (by omega) (by rw [← hg,←hg0]; assumption)
  refine .g (aP (s,d) ?_ ?_ ?_ ?_ ?_)
  ·exact (cI rfl (dA (by first|rfl|omega|(dsimp only; omega))) (cI rfl (dA (by first|rfl|omega|(dsimp only; omega))) (aA rfl (aA rfl (aA rfl (aA rfl (aA rfl (aA rfl (aA rfl (aA rfl eZ))))))))))
  ·exact (mS .here rfl mN)
  ·first|omega|(dsimp only; omega)
  ·exact hGl5
  refine ⟨?_,?_,?_,?_,?_,?_⟩
  ·(try dsimp only)<;>(first|omega|rfl|assumption|(simp; done))
  ·(try dsimp only)<;>(first|omega|rfl|assumption|(simp; done))
  ·(try dsimp only)<;>(first|omega|rfl|assumption|(simp; done))
  ·(try dsimp only)<;>(first|omega|rfl|assumption|(simp; done))
  ·(try dsimp only)<;>(exact f1)
  (try dsimp only)<;>(exact .inr hno)
 have c19k:=c19
 try simp only [aC,aG,aD] at c19
 refine .exit (.xcode (.xlp (.xblk (.code (.seq ?_)))))
 obtain rfl:s=r:=by omega
 have hcut:=aJD hw sA sB h1 h3 h4 f1 f2
 refine .g (cQ (((P.length+A.length+(h-s)):Nat):Int) rfl .no (.u rfl) (.u rfl) rfl (by omega) (fun _=>bO (by omega) (by omega)) ?_)
 refine .g (cP rfl rfl rfl rfl (mV rfl rfl (mv rfl (.t rfl rfl) (.u rfl) (mv rfl (.t rfl rfl) (.u rfl) (cp rfl (.t rfl rfl) (.s rfl) (.s rfl) rfl (bR rfl .no (.u rfl) (.s rfl) (.g (cD rfl (fun c21=>?_) (fun c21=>?_)))))))))
 ·have c21k:=c21
  try simp only [aC,aG,aD] at c21
  refine .g (ka rfl (.inr rfl) aKf (aB rfl (aB rfl (aB rfl (aB rfl (aB rfl aF))))) (bL .here) (aIV (ms (P++A.take s)) (ms (A.drop s)) (ms (B.take (h-s))) (ms (B.drop (h-s)++R)) _ _ _ _ _ _ (by simp only [cN,aT]; omega) (by simp only [cN,aT]; omega) (by simp only [cN,aT]; omega) (by simp only [cN,aT]; omega) (by simp only [cN,aT]; omega) _ aJE (by rw [hlen]; omega)) ?_)
  rintro _ G191 μ191 hG191 ⟨rfl,rfl⟩
  have ih:=ih.mono hG191
  refine .nil (.code (.seq (.seq ?_)))
  rw [aJG (P:=P) (A:=A) (B:=B) (R:=R) (s:=s) (q:=h-s)]
  refine .g (cP rfl rfl rfl rfl (mV rfl rfl (mv rfl (.t rfl rfl) (.u rfl) (mv rfl (.t rfl rfl) (.u rfl) (cp rfl (.t rfl rfl) (.s rfl) (.s rfl) rfl (bR rfl .no (.u rfl) (.s rfl) (.g (cD rfl (fun c22=>?_) (fun c22=>?_)))))))))
  ·have c22k:=c22
   try simp only [aC,aG,aD] at c22
   refine gL rfl rfl (mV rfl rfl (mV rfl rfl (mV rfl rfl (mV rfl rfl (mV rfl rfl ?_)))))
   refine ka rfl (.inr rfl) nG (aB rfl (aB rfl (aB rfl (aB rfl (aB rfl aF))))) (bL .here) (ih.ok _ (PM.le.refl _) P (A.take s) (B.take (h-s)) (A.drop s++B.drop (h-s)++R) _ _ _ _ (by first|omega|(simp only [aT]<;>omega)) (by first|omega|(simp only [aT]<;>omega)) (by first|omega|(simp only [aT]<;>omega)) (by first|omega|(simp only [aT]<;>omega)) (by first|omega|(simp only [aT]<;>omega)) (by first|omega|(simp only [aT]<;>omega)) (cR sA s).1 (cR sB (h-s)).1 (fun x hx y hy=>ht x (List.mem_of_mem_take hx) y (List.mem_of_mem_take hy)) (by simp only [ms,List.map_append,List.append_assoc]) (by rw [cN]; simp only [aT]; omega)) ?_
   rintro _ G205 μ205 hG205 ⟨S205,p205,s205,rfl,rfl⟩
   have l205:=p205.length_eq; simp only [aT] at l205
   have ih:=ih.mono hG205
   refine .g (cP rfl rfl rfl rfl (mV rfl rfl (mv rfl (.t rfl rfl) (.u rfl) (mv rfl (.t rfl rfl) (.u rfl) (cp rfl (.t rfl rfl) (.s rfl) (.s rfl) rfl (bR rfl .no (.u rfl) (.s rfl) (.g (cD rfl (fun c23=>?_) (fun c23=>?_)))))))))
   ·have c23k:=c23
    try simp only [aC,aG,aD] at c23
    refine gL rfl rfl (mV rfl rfl (mV rfl rfl (mV rfl rfl (mV rfl rfl (mV rfl rfl ?_)))))
    refine ka rfl (.inr rfl) nG (aB rfl (aB rfl (aB rfl (aB rfl (aB rfl aF))))) (bL .here) (ih.ok _ (PM.le.refl _) (P++S205) (A.drop s) (B.drop (h-s)) R _ _ _ _ (by first|omega|(simp only [aT]<;>omega)) (by first|omega|(simp only [aT]<;>omega)) (by first|omega|(simp only [aT]<;>omega)) (by first|omega|(simp only [aT]<;>omega)) (by first|omega|(simp only [aT]<;>omega)) (by first|omega|(simp only [aT]<;>omega)) (cR sA s).2.1 (cR sB (h-s)).2.1 (fun x hx y hy=>ht x (List.mem_of_mem_drop hx) y (List.mem_of_mem_drop hy)) (by simp only [ms,List.map_append,List.append_assoc]) (by rw [cN]; simp only [aT]; omega)) ?_
    rintro _ G219 μ219 hG219 ⟨S219,p219,s219,rfl,rfl⟩
    have l219:=p219.length_eq; simp only [aT] at l219
    have ih:=ih.mono hG219
    refine .g (We.fin Tryz.results126 .nil (mS .here rfl mN) ?_)
    have hq1:s≤h:=by omega
    obtain ⟨a1,a2,_⟩:=cR sA s
    obtain ⟨b1,b2,_⟩:=cR sB (h-s)
    have p1:=p205; have s1:=s205
    have p2:=p219; have s2:=s219
    obtain ⟨q1,q2⟩:=lJ hcut p1 s1 p2 s2
    exact ⟨_,q1,q2,by simp only [ms,List.map_append,List.append_assoc],rfl⟩
   have c23k:=c23
   try simp only [aC,aG,aD] at c23
   refine .g (We.fin Tryz.results126 .nil (mS .here rfl mN) ?_)
   have hq1:s≤h:=by omega
   obtain ⟨a1,a2,_⟩:=cR sA s
   obtain ⟨b1,b2,_⟩:=cR sB (h-s)
   have p1:=p205; have s1:=s205
   have p2:=List.Perm.refl (A.drop s++B.drop (h-s))
   have s2:=lC a2 b2 (by simp only [List.length_drop]; omega)
   obtain ⟨q1,q2⟩:=lJ hcut p1 s1 p2 s2
   exact ⟨_,q1,q2,by simp only [ms,List.map_append,List.append_assoc],rfl⟩
  have c22k:=c22
  try simp only [aC,aG,aD] at c22
  refine .g (cP rfl rfl rfl rfl (mV rfl rfl (mv rfl (.t rfl rfl) (.u rfl) (mv rfl (.t rfl rfl) (.u rfl) (cp rfl (.t rfl rfl) (.s rfl) (.s rfl) rfl (bR rfl .no (.u rfl) (.s rfl) (.g (cD rfl (fun c24=>?_) (fun c24=>?_)))))))))
  ·have c24k:=c24
   try simp only [aC,aG,aD] at c24
   refine gL rfl rfl (mV rfl rfl (mV rfl rfl (mV rfl rfl (mV rfl rfl (mV rfl rfl ?_)))))
   refine ka rfl (.inr rfl) nG (aB rfl (aB rfl (aB rfl (aB rfl (aB rfl aF))))) (bL .here) (ih.ok _ (PM.le.refl _) (P++(A.take s++B.take (h-s))) (A.drop s) (B.drop (h-s)) R _ _ _ _ (by first|omega|(simp only [aT]<;>omega)) (by first|omega|(simp only [aT]<;>omega)) (by first|omega|(simp only [aT]<;>omega)) (by first|omega|(simp only [aT]<;>omega)) (by first|omega|(simp only [aT]<;>omega)) (by first|omega|(simp only [aT]<;>omega)) (cR sA s).2.1 (cR sB (h-s)).2.1 (fun x hx y hy=>ht x (List.mem_of_mem_drop hx) y (List.mem_of_mem_drop hy)) (by simp only [ms,List.map_append,List.append_assoc]) (by rw [cN]; simp only [aT]; omega)) ?_
   rintro _ G219 μ219 hG219 ⟨S219,p219,s219,rfl,rfl⟩
   have l219:=p219.length_eq; simp only [aT] at l219
   have ih:=ih.mono hG219
   refine .g (We.fin Tryz.results126 .nil (mS .here rfl mN) ?_)
   have hq1:s≤h:=by omega
   obtain ⟨a1,a2,_⟩:=cR sA s
   obtain ⟨b1,b2,_⟩:=cR sB (h-s)
   have p1:=List.Perm.refl (A.take s++B.take (h-s))
   have s1:=lC a1 b1 (by simp only [List.length_take]; omega)
   have p2:=p219; have s2:=s219
   obtain ⟨q1,q2⟩:=lJ hcut p1 s1 p2 s2
   exact ⟨_,q1,q2,by simp only [ms,List.map_append,List.append_assoc],rfl⟩
  have c24k:=c24
  try simp only [aC,aG,aD] at c24
  refine .g (We.fin Tryz.results126 .nil (mS .here rfl mN) ?_)
  have hq1:s≤h:=by omega
  obtain ⟨a1,a2,_⟩:=cR sA s
  obtain ⟨b1,b2,_⟩:=cR sB (h-s)
  have p1:=List.Perm.refl (A.take s++B.take (h-s))
  have s1:=lC a1 b1 (by simp only [List.length_take]; omega)
  have p2:=List.Perm.refl (A.drop s++B.drop (h-s))
  have s2:=lC a2 b2 (by simp only [List.length_drop]; omega)
  obtain ⟨q1,q2⟩:=lJ hcut p1 s1 p2 s2
  exact ⟨_,q1,q2,by simp only [ms,List.map_append,List.append_assoc],rfl⟩
 have c21k:=c21
 try simp only [aC,aG,aD] at c21
 refine .skip (.code (.seq (.seq ?_)))
 rw [aJF (P:=P) (A:=A) (B:=B) (R:=R) (s:=s) (q:=h-s) (by omega)]
 refine .g (cP rfl rfl rfl rfl (mV rfl rfl (mv rfl (.t rfl rfl) (.u rfl) (mv rfl (.t rfl rfl) (.u rfl) (cp rfl (.t rfl rfl) (.s rfl) (.s rfl) rfl (bR rfl .no (.u rfl) (.s rfl) (.g (cD rfl (fun c25=>?_) (fun c25=>?_)))))))))
 ·have c25k:=c25
  try simp only [aC,aG,aD] at c25
  refine gL rfl rfl (mV rfl rfl (mV rfl rfl (mV rfl rfl (mV rfl rfl (mV rfl rfl ?_)))))
  refine ka rfl (.inr rfl) nG (aB rfl (aB rfl (aB rfl (aB rfl (aB rfl aF))))) (bL .here) (ih.ok _ (PM.le.refl _) P (A.take s) (B.take (h-s)) (A.drop s++B.drop (h-s)++R) _ _ _ _ (by first|omega|(simp only [aT]<;>omega)) (by first|omega|(simp only [aT]<;>omega)) (by first|omega|(simp only [aT]<;>omega)) (by first|omega|(simp only [aT]<;>omega)) (by first|omega|(simp only [aT]<;>omega)) (by first|omega|(simp only [aT]<;>omega)) (cR sA s).1 (cR sB (h-s)).1 (fun x hx y hy=>ht x (List.mem_of_mem_take hx) y (List.mem_of_mem_take hy)) (by simp only [ms,List.map_append,List.append_assoc]) (by rw [cN]; simp only [aT]; omega)) ?_
  rintro _ G205 μ205 hG205 ⟨S205,p205,s205,rfl,rfl⟩
  have l205:=p205.length_eq; simp only [aT] at l205
  have ih:=ih.mono hG205
  refine .g (cP rfl rfl rfl rfl (mV rfl rfl (mv rfl (.t rfl rfl) (.u rfl) (mv rfl (.t rfl rfl) (.u rfl) (cp rfl (.t rfl rfl) (.s rfl) (.s rfl) rfl (bR rfl .no (.u rfl) (.s rfl) (.g (cD rfl (fun c26=>?_) (fun c26=>?_)))))))))
  ·have c26k:=c26
   try simp only [aC,aG,aD] at c26
   refine gL rfl rfl (mV rfl rfl (mV rfl rfl (mV rfl rfl (mV rfl rfl (mV rfl rfl ?_)))))
   refine ka rfl (.inr rfl) nG (aB rfl (aB rfl (aB rfl (aB rfl (aB rfl aF))))) (bL .here) (ih.ok _ (PM.le.refl _) (P++S205) (A.drop s) (B.drop (h-s)) R _ _ _ _ (by first|omega|(simp only [aT]<;>omega)) (by first|omega|(simp only [aT]<;>omega)) (by first|omega|(simp only [aT]<;>omega)) (by first|omega|(simp only [aT]<;>omega)) (by first|omega|(simp only [aT]<;>omega)) (by first|omega|(simp only [aT]<;>omega)) (cR sA s).2.1 (cR sB (h-s)).2.1 (fun x hx y hy=>ht x (List.mem_of_mem_drop hx) y (List.mem_of_mem_drop hy)) (by simp only [ms,List.map_append,List.append_assoc]) (by rw [cN]; simp only [aT]; omega)) ?_
   rintro _ G219 μ219 hG219 ⟨S219,p219,s219,rfl,rfl⟩
   have l219:=p219.length_eq; simp only [aT] at l219
   have ih:=ih.mono hG219
   refine .g (We.fin Tryz.results126 .nil (mS .here rfl mN) ?_)
   have hq1:s≤h:=by omega
   obtain ⟨a1,a2,_⟩:=cR sA s
   obtain ⟨b1,b2,_⟩:=cR sB (h-s)
   have p1:=p205; have s1:=s205
   have p2:=p219; have s2:=s219
   obtain ⟨q1,q2⟩:=lJ hcut p1 s1 p2 s2
   exact ⟨_,q1,q2,by simp only [ms,List.map_append,List.append_assoc],rfl⟩
  have c26k:=c26
  try simp only [aC,aG,aD] at c26
  refine .g (We.fin Tryz.results126 .nil (mS .here rfl mN) ?_)
  have hq1:s≤h:=by omega
  obtain ⟨a1,a2,_⟩:=cR sA s
  obtain ⟨b1,b2,_⟩:=cR sB (h-s)
  have p1:=p205; have s1:=s205
  have p2:=List.Perm.refl (A.drop s++B.drop (h-s))
  have s2:=lC a2 b2 (by simp only [List.length_drop]; omega)
  obtain ⟨q1,q2⟩:=lJ hcut p1 s1 p2 s2
  exact ⟨_,q1,q2,by simp only [ms,List.map_append,List.append_assoc],rfl⟩
 have c25k:=c25
 try simp only [aC,aG,aD] at c25
 refine .g (cP rfl rfl rfl rfl (mV rfl rfl (mv rfl (.t rfl rfl) (.u rfl) (mv rfl (.t rfl rfl) (.u rfl) (cp rfl (.t rfl rfl) (.s rfl) (.s rfl) rfl (bR rfl .no (.u rfl) (.s rfl) (.g (cD rfl (fun c27=>?_) (fun c27=>?_)))))))))
 ·have c27k:=c27
  try simp only [aC,aG,aD] at c27
  refine gL rfl rfl (mV rfl rfl (mV rfl rfl (mV rfl rfl (mV rfl rfl (mV rfl rfl ?_)))))
  refine ka rfl (.inr rfl) nG (aB rfl (aB rfl (aB rfl (aB rfl (aB rfl aF))))) (bL .here) (ih.ok _ (PM.le.refl _) (P++(A.take s++B.take (h-s))) (A.drop s) (B.drop (h-s)) R _ _ _ _ (by first|omega|(simp only [aT]<;>omega)) (by first|omega|(simp only [aT]<;>omega)) (by first|omega|(simp only [aT]<;>omega)) (by first|omega|(simp only [aT]<;>omega)) (by first|omega|(simp only [aT]<;>omega)) (by first|omega|(simp only [aT]<;>omega)) (cR sA s).2.1 (cR sB (h-s)).2.1 (fun x hx y hy=>ht x (List.mem_of_mem_drop hx) y (List.mem_of_mem_drop hy)) (by simp only [ms,List.map_append,List.append_assoc]) (by rw [cN]; simp only [aT]; omega)) ?_
  rintro _ G219 μ219 hG219 ⟨S219,p219,s219,rfl,rfl⟩
  have l219:=p219.length_eq; simp only [aT] at l219
  refine .g (We.fin Tryz.results126 .nil (mS .here rfl mN) ?_)
  have hq1:s≤h:=by omega
  obtain ⟨a1,a2,_⟩:=cR sA s
  obtain ⟨b1,b2,_⟩:=cR sB (h-s)
  have p1:=List.Perm.refl (A.take s++B.take (h-s))
  have s1:=lC a1 b1 (by simp only [List.length_take]; omega)
  have p2:=p219; have s2:=s219
  obtain ⟨q1,q2⟩:=lJ hcut p1 s1 p2 s2
  exact ⟨_,q1,q2,by simp only [ms,List.map_append,List.append_assoc],rfl⟩
 have c27k:=c27
 try simp only [aC,aG,aD] at c27
 refine .g (We.fin Tryz.results126 .nil (mS .here rfl mN) ?_)
 have hq1:s≤h:=by omega
 obtain ⟨a1,a2,_⟩:=cR sA s
 obtain ⟨b1,b2,_⟩:=cR sB (h-s)
 have p1:=List.Perm.refl (A.take s++B.take (h-s))
 have s1:=lC a1 b1 (by simp only [List.length_take]; omega)
 have p2:=List.Perm.refl (A.drop s++B.drop (h-s))
 have s2:=lC a2 b2 (by simp only [List.length_drop]; omega)
 obtain ⟨q1,q2⟩:=lJ hcut p1 s1 p2 s2
 exact ⟨_,q1,q2,by simp only [ms,List.map_append,List.append_assoc],rfl⟩
theorem aKZ:aU Tryz.prog 125=true:=by kernel_rfl
theorem aTs:aU Tryz.prog 99=true:=by kernel_rfl
theorem aJB {v:Value} {f:Nat} {vc:List Value} {cv:Meta→Meta→Int} {G:PM} (hf:aU Tryz.prog f=true) (hcm:CmpR Tryz.prog f vc cv G) (hw:Wk0 (cG cv)):∀ N,SymI v f vc cv N G
 | 0=>⟨fun G' hle P A B R a m b xs hN=>absurd hN (Nat.not_lt_zero _)⟩
 | N+1=>⟨fun G' hle P A B R a m b xs hN ha hm hb hA hB sA sB ht hx hl =>
   aRb P A B R v a m b f hf vc cv G' (hcm.mono hle) hw ha hm hb hA hB sA sB ht xs hx hl ⟨fun G2 h2 P' A' B' R' a' m' b' xs' hN'=>(aJB hf hcm hw N).ok G2 (hle.trans h2) P' A' B' R' a' m' b' xs' (by omega)⟩⟩
theorem aJC (P A B R:List TM) (v:Value) (a m b:Int) (f:Nat) (hf:aU Tryz.prog f=true) (vc:List Value) (cv:Meta→Meta→Int) (G:PM) (hcm:CmpR Tryz.prog f vc cv G) (hw:Wk0 (cG cv)) (ha:a=P.length) (hm:m=((P.length+A.length:Nat):Int)) (hb:b=((P.length+A.length+B.length:Nat):Int)) (hA:0<A.length) (hB:0<B.length) (sA:Srt (cG cv) A) (sB:Srt (cG cv) B) (ht:∀ x∈A,∀ y∈B,x.2<y.2) (xs:List Meta) (hx:xs=ms (P++A++B++R)) (hl:xs.length≤1000000000) :
  Ct Tryz.prog 126 #[v,.int .i64 a,.int .i64 m,.int .i64 b,.func (.func f) #[] vc.toArray] G [rS 40 Meta.cells v 98 xs] (fun _ μ' u=>∃ S',S'.Perm (A++B)∧Srt (cG cv) S'∧μ'=[rS 40 Meta.cells v 98 (ms (P++S'++R))]∧u=.tuple #[]):=(aJB hf hcm hw (A.length+B.length+1)).ok G (PM.le.refl G) P A B R a m b xs (by omega) ha hm hb hA hB sA sB ht hx hl
set_option maxHeartbeats 1000000 in
theorem aRM (xs:List Meta) (v:Value) (n:Int) (f:Nat) (hf:aU Tryz.prog f=true) (vc:List Value) (cv:Meta→Meta→Int) (G:PM) (hcm:CmpR Tryz.prog f vc cv G) (hw:Wk0 (cG cv)) (hn:n=xs.length) (hl:xs.length≤500000000):Ct Tryz.prog 99 ([v,.int .i64 n,.func (.func f) #[] vc.toArray]:List Value).toArray G [rS 40 Meta.cells v 98 xs] (fun _ μ' u=>μ'=[rS 40 Meta.cells v 98 (jI (cG cv) xs)]∧u=.tuple #[]):=by
 refine Ct.of Tryz.func99 rfl Tryz.ntmps99 rfl fun w0 hs0=>?_
 subst hn; have hT0:=aRf xs; have hT0l:(xs.zipIdx 0).length=xs.length:=List.length_zipIdx
 refine .seq (aL rfl rfl (aS rfl rfl (.nc (.seq (dU rfl rfl (mV rfl rfl (aS rfl rfl (aS rfl rfl (.nc (.seq (.block ?_)))))))))))
 refine aV (α:=List TM×List TM×List TM) (fun gh=>[(7,true,.int .i64 (gh.1.length:Int)),(8,true,.int .i64 ((gh.1.length+20:Nat):Int))]) (fun gh=>[rS 40 Meta.cells v 98 (ms (gh.1++gh.2.2))])
  (fun gh Gl=>(∀ r ro,Ck (cG cv) 20 r ro→Ck (cG cv) 20 (gh.1++r) (gh.2.1++ro))∧(gh.2.1++gh.2.2=(xs.zipIdx 0))∧(gh.1.length=gh.2.1.length)) (fun gh=>gh.2.2.length) ([],[],(xs.zipIdx 0)) [(0,true,_),(1,true,_),(2,true,_),(6,true,_)] []
  (aK rfl (aK rfl (aA rfl (aA rfl (aA rfl (aA rfl eZ))))))
  (mS .here (by rw [List.nil_append,aN2]) mN) ?_ ?_
 ·refine ⟨?_,?_,?_⟩
  ·(try dsimp only)<;>(exact fun r ro h=>h)
  ·(try dsimp only)<;>(rfl)
  (try dsimp only)<;>(rfl)
 intro gh N0 Gl0 hN0 hGl0 hF0
 obtain ⟨D,DO,T⟩:=gh; dsimp only at hF0 hN0 ⊢
 obtain ⟨hD,hT,hDl⟩:=hF0
 have hcm:=hcm.mono hGl0
 have hTl:=congrArg List.length hT; rw [List.length_append,hT0l] at hTl
 refine .g (cP rfl rfl rfl rfl (.g (cD rfl (fun c1=>?_) (fun c1=>?_))))
 ·have c1k:=c1
  try simp only [aC,aG,aD] at c1
  refine .skip (.code (.block (.seq (pW rfl rfl (mV rfl rfl (mV rfl rfl (mV rfl rfl (mV rfl rfl ?_))))))))
  refine ka rfl (.inr rfl) aKZ (aB rfl (aB rfl (aB rfl (aB rfl aF)))) (bL .here) (aGl D (T.take 20) (T.drop 20) _ _ _ f hf vc cv _ hcm hw (by first|omega|(simp only [aT,cN,List.length_nil]<;>omega)) (by first|omega|(simp only [aT,cN,List.length_nil]<;>omega)) (aJJ (X:=DO) (Z:=T.drop 20) hT0 (by rw [List.take_append_drop]; exact hT)) _ (by rw [List.append_assoc,List.take_append_drop]) (by first|omega|(simp only [aT,cN,List.length_nil]<;>omega))) ?_
  rintro _ G18 μ18 hG18 ⟨S',pS,sS,rfl,rfl⟩
  have lS:=pS.length_eq; (try simp only [List.length_take] at lS)
  have hcm:=hcm.mono hG18
  refine .g (cQ (((((D.length+20:Nat))+20):Nat):Int) rfl .no (.u rfl) (.u rfl) rfl (by omega) (fun _=>bO (by omega) (by omega)) ?_)
  refine .g (aP (D++S',DO++T.take 20,T.drop 20) ?_ ?_ ?_ ?_ ?_)
  ·exact (cI rfl (dA (by first|omega|(simp only [aT,cN,List.length_nil]<;>omega))) (cI rfl (dA (by first|omega|(simp only [aT,cN,List.length_nil]<;>omega))) (aA rfl (aA rfl (aA rfl (aA rfl eZ))))))
  ·exact (mS .here rfl mN)
  ·exact (by first|omega|(simp only [aT,cN,List.length_nil]<;>omega))
  ·exact (hGl0).trans hG18
  refine ⟨?_,?_,?_⟩
  ·(try dsimp only)<;>(exact fun r ro h=>by (rw [List.append_assoc,List.append_assoc]; exact hD _ _ (.cons (by omega) sS pS h)))
  ·(try dsimp only)<;>(rw [List.append_assoc,List.take_append_drop]; exact hT)
  (try dsimp only)<;>(exact (by first|omega|(simp only [aT,cN,List.length_nil]<;>omega)))
 have c1k:=c1
 try simp only [aC,aG,aD] at c1
 refine .exit (.xcode (.xlp (.xblk (.code (.seq (pW rfl rfl (mV rfl rfl (mV rfl rfl (mV rfl rfl (mV rfl rfl ?_))))))))))
 refine ka rfl (.inr rfl) aKZ (aB rfl (aB rfl (aB rfl (aB rfl aF)))) (bL .here) (aGl D T [] _ _ _ f hf vc cv _ hcm hw (by first|omega|(simp only [aT,cN,List.length_nil]<;>omega)) (by first|omega|(simp only [aT,cN,List.length_nil]<;>omega)) (aJJ (X:=DO) (Z:=[]) hT0 (by rw [List.append_nil]; exact hT)) _ (by rw [List.append_nil]) (by first|omega|(simp only [aT,cN,List.length_nil]<;>omega))) ?_
 rintro _ G27 μ27 hG27 ⟨S',pS,sS,rfl,rfl⟩
 have lS:=pS.length_eq; (try simp only [List.length_take] at lS)
 have hcm:=hcm.mono hG27
 refine .nil (.code (.block ?_))
 have hCk:=hD S' T (.last (by omega) sS pS)
 rw [hT] at hCk
 rw [List.append_nil]
 have hW:=hCk.perm.length_eq
 rw [hT0l] at hW
 refine aV (α:=Nat×List TM) (fun gh=>[(6,true,.int .i64 (gh.1:Int))]) (fun gh=>[rS 40 Meta.cells v 98 (ms gh.2)])
  (fun gh Gl=>(0<gh.1)∧(gh.1≤20+2*xs.length)∧(Ck (cG cv) gh.1 gh.2 (xs.zipIdx 0))) (fun gh=>xs.length-gh.1) (20,D++S') [(0,true,_),(1,true,_),(2,true,_)] []
  (aK rfl (aA rfl (aA rfl (aA rfl eZ))))
  (mS .here rfl mN) ?_ ?_
 ·refine ⟨?_,?_,?_⟩
  ·(try dsimp only)<;>(first|omega|rfl|assumption|(simp; done))
  ·(try dsimp only)<;>(first|omega|rfl|assumption|(simp; done))
  (try dsimp only)<;>(exact hCk)
 intro gh N1 Gl1 hN1 hGl1 hF1
 obtain ⟨bs,W⟩:=gh; dsimp only at hF1 hN1 ⊢
 obtain ⟨hb,hb2,hCk⟩:=hF1
 have hcm:=hcm.mono hGl1
 have hW:=hCk.perm.length_eq; rw [hT0l] at hW
 refine .g (cP rfl rfl rfl rfl (.g (cD rfl (fun c2=>?_) (fun c2=>?_))))
 ·have c2k:=c2
  try simp only [aC,aG,aD] at c2
  refine .g (aW (((bs+bs):Nat):Int) rfl rfl rfl rfl ?_)
  refine aS rfl rfl (aS rfl rfl (.nc (.seq (.block ?_))))
  refine aV (α:=List TM×List TM×List TM×List TM) (fun gh=>[(7,true,.int .i64 (gh.1.length:Int)),(8,true,.int .i64 ((gh.1.length+(bs+bs):Nat):Int))]) (fun gh=>[rS 40 Meta.cells v 98 (ms (gh.1++gh.2.2.1))])
   (fun gh Gl=>(∀ r ro,Ck (cG cv) (bs+bs) r ro→Ck (cG cv) (bs+bs) (gh.1++r) (gh.2.1++ro))∧(Ck (cG cv) bs gh.2.2.1 gh.2.2.2)∧(gh.2.1++gh.2.2.2=(xs.zipIdx 0))∧(gh.1.length+gh.2.2.1.length=xs.length)) (fun gh=>gh.2.2.1.length) ([],[],W,(xs.zipIdx 0)) [(0,true,_),(1,true,_),(2,true,_),(6,true,_)] []
   (aA rfl (cI rfl (dA (by first|rfl|omega|(dsimp only; omega)|(simp only [List.length_nil]; omega))) (aA rfl (aA rfl (aA rfl (aA rfl eZ))))))
   (mS .here (by rw [List.nil_append]) mN) ?_ ?_
  ·refine ⟨?_,?_,?_,?_⟩
   ·(try dsimp only)<;>(exact fun r ro h=>h)
   ·(try dsimp only)<;>(exact hCk)
   ·(try dsimp only)<;>(rfl)
   (try dsimp only)<;>(exact (by first|omega|(simp only [aT,cN,List.length_nil]<;>omega)))
  intro gh N2 Gl2 hN2 hGl2 hF2
  obtain ⟨D,DO,T,O⟩:=gh; dsimp only at hF2 hN2 ⊢
  obtain ⟨hD,hC,hO,hDT⟩:=hF2
  have hcm:=hcm.mono hGl2
  refine .g (cP rfl rfl rfl rfl (.g (cD rfl (fun c3=>?_) (fun c3=>?_))))
  ·have c3k:=c3
   try simp only [aC,aG,aD] at c3
   refine .skip (.code (.block (.seq ?_)))
   obtain ⟨s1,s2,o1,o2,T1,O1,rfl,rfl,l1,l2,l3,l4,hs1,hs2,hp1,hp2,hC1⟩:=hC.two hb (by omega)
   simp only [List.length_append] at hDT
   refine .g (aW (((D.length+bs):Nat):Int) rfl rfl rfl rfl ?_)
   refine mV rfl rfl (mV rfl rfl ?_)
   refine ka rfl (.inr rfl) nG (aB rfl (aB rfl (aB rfl (aB rfl (aB rfl aF))))) (bL .here) (aJC D s1 s2 T1 _ _ _ _ f hf vc cv _ hcm hw (by first|omega|(simp only [aT,cN,List.length_nil]<;>omega)) (by first|omega|(simp only [aT,cN,List.length_nil]<;>omega)) (by first|omega|(simp only [aT,cN,List.length_nil]<;>omega)) (by first|omega|(simp only [aT,cN,List.length_nil]<;>omega)) (by first|omega|(simp only [aT,cN,List.length_nil]<;>omega)) hs1 hs2 (aJI hT0 hO hp1 hp2) _ (by simp only [ms,List.map_append,List.append_assoc]) (by first|omega|(simp only [aT,cN,List.length_nil]<;>omega))) ?_
   rintro _ G43 μ43 hG43 ⟨S',pS,sS,rfl,rfl⟩
   have lS:=pS.length_eq; rw [List.length_append] at lS
   have hcm:=hcm.mono hG43
   refine .g (aW (((bs+bs):Nat):Int) rfl rfl rfl rfl ?_)
   refine cQ (((D.length+S'.length+(bs+bs)):Nat):Int) rfl .no (.u rfl) (.u rfl) rfl (fun _=>by (try simp only [List.length_append]); omega) (fun _=>bO (by omega) (by omega)) ?_
   refine .g (aP (D++S',DO++(o1++o2),T1,O1) ?_ ?_ ?_ ?_ ?_)
   ·exact (cI rfl (dA (by first|omega|(simp only [aT,cN,List.length_nil]<;>omega))) (cI rfl (dA (by first|omega|(simp only [aT,cN,List.length_nil]<;>omega))) (aA rfl (aA rfl (aA rfl (aA rfl eZ))))))
   ·exact (mS .here rfl mN)
   ·simp only [List.length_append] at hN2; dsimp only; omega
   ·exact (hGl2).trans hG43
   refine ⟨?_,?_,?_,?_⟩
   ·(try dsimp only)<;>(exact fun r ro h=>by (rw [List.append_assoc,List.append_assoc]; exact hD _ _ (.cons (by omega) sS (pS.trans (hp1.append hp2)) h)))
   ·(try dsimp only)<;>(exact hC1)
   ·(try dsimp only)<;>(rw [List.append_assoc]; exact hO)
   (try dsimp only)<;>(exact (by first|omega|(simp only [aT,cN,List.length_nil]<;>omega)))
  have c3k:=c3
  try simp only [aC,aG,aD] at c3
  refine .g (aW (((D.length+bs):Nat):Int) rfl rfl rfl rfl ?_)
  refine .g (cP rfl rfl rfl rfl (.g (cD rfl (fun c4=>?_) (fun c4=>?_))))
  ·have c4k:=c4
   try simp only [aC,aG,aD] at c4
   obtain ⟨s1,s2,o1,o2,rfl,rfl,l1,l2,l3,hs1,hs2,hp1,hp2⟩:=hC.rest hb (by omega) (by omega)
   simp only [List.length_append] at hDT
   refine gL rfl rfl (mV rfl rfl (mV rfl rfl (mV rfl rfl (mV rfl rfl (mV rfl rfl ?_)))))
   refine ka rfl (.inr rfl) nG (aB rfl (aB rfl (aB rfl (aB rfl (aB rfl aF))))) (bL .here) (aJC D s1 s2 [] _ _ _ _ f hf vc cv _ hcm hw (by first|omega|(simp only [aT,cN,List.length_nil]<;>omega)) (by first|omega|(simp only [aT,cN,List.length_nil]<;>omega)) (by first|omega|(simp only [aT,cN,List.length_nil]<;>omega)) (by first|omega|(simp only [aT,cN,List.length_nil]<;>omega)) (by first|omega|(simp only [aT,cN,List.length_nil]<;>omega)) hs1 hs2 (aJI (X:=DO) (Z:=[]) hT0 (by rw [List.append_nil]; exact hO) hp1 hp2) _ (by simp only [ms,List.map_append,List.append_assoc,List.append_nil]) (by first|omega|(simp only [aT,cN,List.length_nil]<;>omega))) ?_
   rintro _ G60 μ60 hG60 ⟨S',pS,sS,rfl,rfl⟩
   have lS:=pS.length_eq; rw [List.length_append] at lS
   refine .g (aW (((bs+bs):Nat):Int) rfl rfl rfl rfl ?_)
   refine .g (aP (bs+bs,D++S') ?_ ?_ ?_ ?_ ?_)
   ·exact (aK rfl (aA rfl (aA rfl (aA rfl eZ))))
   ·exact (mS .here (by rw [List.append_nil]) mN)
   ·first|omega|(dsimp only; omega)
   ·exact ((hGl1).trans hGl2).trans hG60
   refine ⟨?_,?_,?_⟩
   ·(try dsimp only)<;>(first|omega|rfl|assumption|(simp; done))
   ·(try dsimp only)<;>(first|omega|rfl|assumption|(simp; done))
   (try dsimp only)<;>(rw [← hO]; exact hD _ _ (.last (by omega) sS (pS.trans (hp1.append hp2))))
  have c4k:=c4
  try simp only [aC,aG,aD] at c4
  refine .g (aW (((bs+bs):Nat):Int) rfl rfl rfl rfl ?_)
  refine .g (aP (bs+bs,D++T) ?_ ?_ ?_ ?_ ?_)
  ·exact (aK rfl (aA rfl (aA rfl (aA rfl eZ))))
  ·exact (mS .here rfl mN)
  ·first|omega|(dsimp only; omega)
  ·exact (hGl1).trans hGl2
  refine ⟨?_,?_,?_⟩
  ·(try dsimp only)<;>(first|omega|rfl|assumption|(simp; done))
  ·(try dsimp only)<;>(first|omega|rfl|assumption|(simp; done))
  (try dsimp only)<;>(rw [← hO]; exact hD _ _ (.last (by omega) (hC.big hb (by omega)).1 (hC.big hb (by omega)).2))
 have c2k:=c2
 try simp only [aC,aG,aD] at c2
 refine .g (We.fin Tryz.results99 .nil (mS .here rfl mN) ?_)
 obtain ⟨q1,q2⟩:=hCk.big hb (by omega)
 rw [aN1 hw q1 q2]; exact ⟨rfl,rfl⟩
theorem aAP (xs:List Meta) (v:Value) (f:Nat) (hf:aU Tryz.prog f=true) (vc:List Value) (cv:Meta→Meta→Int) (G:PM) (hcm:CmpR Tryz.prog f vc cv G) (hw:Wk0 (cG cv)) (hl:xs.length≤500000000):Ct Tryz.prog 60 ([v,.func (.func f) #[] vc.toArray]:List Value).toArray G [rS 40 Meta.cells v 98 xs] (fun _ μ' u=>μ'=[rS 40 Meta.cells v 98 (jI (cG cv) xs)]∧u=.tuple #[]):=by
 refine Ct.of Tryz.func60 rfl Tryz.ntmps60 rfl fun w0 hs0=>?_
 refine .g (lr rfl .no fH (.u rfl) .here ?_)
 refine .p (ka rfl (.inr rfl) aTs (aB rfl (aB rfl (aB rfl aF))) (bL .here) (aRM xs _ _ f hf vc cv _ hcm hw rfl hl) ?_)
 rintro _ G8 μ8 hG8 ⟨rfl,rfl⟩
 refine .g (We.fin Tryz.results60 .nil (mS .here rfl mN) ?_)
 exact ⟨rfl,rfl⟩
theorem aAy:aU Tryz.prog 17=true:=by kernel_rfl
theorem aKl:aU Tryz.prog 46=true:=by kernel_rfl
theorem aKs:aU Tryz.prog 87=true:=by kernel_rfl
theorem aKt:aU Tryz.prog 88=true:=by kernel_rfl
theorem aIs (B:List Y) (I:Nat) (e:Int) (s:Sh) (b:Nat) (G:PM) (hs:SlR G 1 aQ s B) (hI:I≤B.length) (hl:B.length≤100000000000000):Ct Tryz.prog 46 ([.pointer (some ⟨b,0,none⟩)]:List Value).toArray G [.blk b (cl [Sh.val s B.length,.int .i64 (I:Int),.int .i64 e] 63)] (fun G' μ' u=>∃ n I' e' ok,dD ⟨B.drop I,e⟩=(n,⟨B.drop I',e'⟩)∧I'≤B.length∧ok=decide ((n:Int)<256)∧μ'=[.blk b (cl [Sh.val s B.length,.int .i64 (I':Int),.int .i64 e'] 63)]∧u=.tuple #[.int .u8 (IntKind.u8.wrap (n:Int)),.bool ok]):=by
 refine Ct.of Tryz.func46 rfl Tryz.ntmps46 rfl fun w0 hs0=>?_
 refine .g (ka rfl (.inr rfl) mO (aB rfl aF) (bL .here) (mB B I e s b _ hs hI hl) ?_)
 rintro _ G6 μ6 hG6 ⟨n6,I',e',hN,hI',rfl,rfl⟩
 refine .g (cv rfl .no nY (.u rfl) (.p (cP rfl rfl rfl rfl (aS rfl rfl (aS rfl rfl (.nc (.ret (We.fin Tryz.results46 (.tmp rfl (.tmp rfl .nil)) (mS .here rfl mN) ?_))))))))
 exact ⟨n6,I',e',_,hN,hI',rfl,rfl,rfl⟩
theorem aFf (B:List Y) (I:Nat) (e:Int) (s:Sh) (b:Nat) (G:PM) (hs:SlR G 1 aQ s B) (hI:I≤B.length) (hl:B.length≤100000000000000):Ct Tryz.prog 87 ([.pointer (some ⟨b,0,none⟩)]:List Value).toArray G [.blk b (cl [Sh.val s B.length,.int .i64 (I:Int),.int .i64 e] 63)] (fun G' μ' u=>∃ n I' e' ok,dD ⟨B.drop I,e⟩=(n,⟨B.drop I',e'⟩)∧I'≤B.length∧ok=decide ((n:Int)<9223372036854775808)∧μ'=[.blk b (cl [Sh.val s B.length,.int .i64 (I':Int),.int .i64 e'] 63)]∧u=.tuple #[.int .i64 (IntKind.i64.wrap (n:Int)),.bool ok]):=by
 refine Ct.of Tryz.func87 rfl Tryz.ntmps87 rfl fun w0 hs0=>?_
 refine .g (ka rfl (.inr rfl) mO (aB rfl aF) (bL .here) (mB B I e s b _ hs hI hl) ?_)
 rintro _ G6 μ6 hG6 ⟨n6,I',e',hN,hI',rfl,rfl⟩
 refine .g (cv rfl .no yH (.u rfl) (.p (cP rfl rfl rfl rfl (aS rfl rfl (aS rfl rfl (.nc (.ret (We.fin Tryz.results87 (.tmp rfl (.tmp rfl .nil)) (mS .here rfl mN) ?_))))))))
 exact ⟨n6,I',e',_,hN,hI',rfl,rfl,rfl⟩
set_option maxHeartbeats 1000000 in
theorem aP5 (B:List Y) (I:Nat) (e:Int) (s:Sh) (b:Nat) (G:PM) (hs:SlR G 1 aQ s B) (hI:I≤B.length) (hl:B.length≤100000000000000):Ct Tryz.prog 45 ([.pointer (some ⟨b,0,none⟩)]:List Value).toArray G [.blk b (cl [Sh.val s B.length,.int .i64 (I:Int),.int .i64 e] 63)] (fun G' μ' u=>∃ m I' e' bad',aA1 ⟨B.drop I,e⟩ ⟨B.drop I',e'⟩ false bad' m∧I'≤B.length∧μ'=[.blk b (cl [Sh.val s B.length,.int .i64 (I':Int),.int .i64 e'] 63)]∧u=.tuple #[Meta.val m,.bool (!bad')]):=by
 refine Ct.of Tryz.func45 rfl Tryz.ntmps45 rfl fun w0 hs0=>?_
 refine .seq (bJ rfl rfl ?_)
 refine al rfl qD ?_; intro b2
 refine aS rfl rfl (.nc (.seq (aL rfl rfl ?_)))
 refine al rfl qD ?_; intro b4
 refine .g (ka rfl (.inr rfl) aKl (aB rfl aF) (bL aN) (aIs B I e s b _ hs hI hl) ?_)
 rintro _ G14 μ14 hG14 ⟨n14,I14,e14,k14,hN14,hI14,ek14,rfl,rfl⟩
 have nL14:=fM hN14
 have hs:=hs.mono hG14
 refine .p (eX rfl rfl rfl (eX rfl rfl rfl (.g (fZ rfl gH rfl (s1 rfl (.u rfl) (.u rfl) rfl gQ aE (show 0<40 by decide) (show _=([.int .u8 (IntKind.u8.wrap (n14:Int)),.int .u64 0,.int .u64 0,.int .u64 0,.int .i64 0,.int .i64 0,.string ByteArray.empty,.string ByteArray.empty]++ba 32 (fun _=>0#8)) from rfl) (.g (ka rfl (.inr rfl) mO (aB rfl aF) (bL aE) (mB B I14 e14 s b _ hs hI14 hl) ?_)))))))
 rintro _ G20 μ20 hG20 ⟨n20,I20,e20,hN20,hI20,rfl,rfl⟩
 have nL20:=fM hN20
 have hs:=hs.mono hG20
 refine fZ rfl vP rfl (s1 rfl (.u rfl) (.u rfl) rfl iS aE (show 1<40 by decide) (show _=([.int .u8 (IntKind.u8.wrap (n14:Int)),.int .u64 (n20:Int),.int .u64 0,.int .u64 0,.int .i64 0,.int .i64 0,.string ByteArray.empty,.string ByteArray.empty]++ba 32 (fun _=>0#8)) from rfl) (.g (ka rfl (.inr rfl) mO (aB rfl aF) (bL aE) (mB B I20 e20 s b _ hs hI20 hl) ?_)))
 rintro _ G23 μ23 hG23 ⟨n23,I23,e23,hN23,hI23,rfl,rfl⟩
 have nL23:=fM hN23
 have hs:=hs.mono hG23
 refine fZ rfl aAf rfl (s1 rfl (.u rfl) (.u rfl) rfl iS aE (show 2<40 by decide) (show _=([.int .u8 (IntKind.u8.wrap (n14:Int)),.int .u64 (n20:Int),.int .u64 (n23:Int),.int .u64 0,.int .i64 0,.int .i64 0,.string ByteArray.empty,.string ByteArray.empty]++ba 32 (fun _=>0#8)) from rfl) (.g (ka rfl (.inr rfl) mO (aB rfl aF) (bL aE) (mB B I23 e23 s b _ hs hI23 hl) ?_)))
 rintro _ G26 μ26 hG26 ⟨n26,I26,e26,hN26,hI26,rfl,rfl⟩
 have nL26:=fM hN26
 have hs:=hs.mono hG26
 refine fZ rfl iR rfl (s1 rfl (.u rfl) (.u rfl) rfl iS aE (show 3<40 by decide) (show _=([.int .u8 (IntKind.u8.wrap (n14:Int)),.int .u64 (n20:Int),.int .u64 (n23:Int),.int .u64 (n26:Int),.int .i64 0,.int .i64 0,.string ByteArray.empty,.string ByteArray.empty]++ba 32 (fun _=>0#8)) from rfl) (.g (ka rfl (.inr rfl) aKs (aB rfl aF) (bL aE) (aFf B I26 e26 s b _ hs hI26 hl) ?_)))
 rintro _ G30 μ30 hG30 ⟨n30,I30,e30,k30,hN30,hI30,ek30,rfl,rfl⟩
 have nL30:=fM hN30
 have hs:=hs.mono hG30
 refine .p (eX rfl rfl rfl (eX rfl rfl rfl (.g (fZ rfl vQ rfl (s1 rfl (.u rfl) (.u rfl) rfl jO aE (show 4<40 by decide) (show _=([.int .u8 (IntKind.u8.wrap (n14:Int)),.int .u64 (n20:Int),.int .u64 (n23:Int),.int .u64 (n26:Int),.int .i64 (IntKind.i64.wrap (n30:Int)),.int .i64 0,.string ByteArray.empty,.string ByteArray.empty]++ba 32 (fun _=>0#8)) from rfl) (.g (ka rfl (.inr rfl) aKs (aB rfl aF) (bL aE) (aFf B I30 e30 s b _ hs hI30 hl) ?_)))))))
 rintro _ G37 μ37 hG37 ⟨n37,I37,e37,k37,hN37,hI37,ek37,rfl,rfl⟩
 have nL37:=fM hN37
 have hs:=hs.mono hG37
 refine .p (eX rfl rfl rfl (eX rfl rfl rfl (.g (fZ rfl vR rfl (s1 rfl (.u rfl) (.u rfl) rfl jO aE (show 5<40 by decide) (show _=([.int .u8 (IntKind.u8.wrap (n14:Int)),.int .u64 (n20:Int),.int .u64 (n23:Int),.int .u64 (n26:Int),.int .i64 (IntKind.i64.wrap (n30:Int)),.int .i64 (IntKind.i64.wrap (n37:Int)),.string ByteArray.empty,.string ByteArray.empty]++ba 32 (fun _=>0#8)) from rfl) (.g (ka rfl (.inr rfl) aKt (aB rfl (aB rfl aF)) (bL aE) (aHu B I37 e37 s b _ hs hI37 hl 1024 (by decide)) ?_)))))))
 rintro _ G43 μ43 hG43 ⟨M43,I43,e43,hN43,hI43,rfl,rfl⟩
 have hs:=hs.mono hG43
 refine fZ rfl mM rfl (s1 rfl (.u rfl) (.u rfl) rfl aCX aE (show 6<40 by decide) (show _=([.int .u8 (IntKind.u8.wrap (n14:Int)),.int .u64 (n20:Int),.int .u64 (n23:Int),.int .u64 (n26:Int),.int .i64 (IntKind.i64.wrap (n30:Int)),.int .i64 (IntKind.i64.wrap (n37:Int)),.string (cZ M43),.string ByteArray.empty]++ba 32 (fun _=>0#8)) from rfl) (.g (ka rfl (.inr rfl) aKt (aB rfl (aB rfl aF)) (bL aE) (aHu B I43 e43 s b _ hs hI43 hl 1024 (by decide)) ?_)))
 rintro _ G46 μ46 hG46 ⟨M46,I46,e46,hN46,hI46,rfl,rfl⟩
 have hs:=hs.mono hG46
 refine fZ rfl qA rfl (s1 rfl (.u rfl) (.u rfl) rfl aCX aE (show 7<40 by decide) (show _=([.int .u8 (IntKind.u8.wrap (n14:Int)),.int .u64 (n20:Int),.int .u64 (n23:Int),.int .u64 (n26:Int),.int .i64 (IntKind.i64.wrap (n30:Int)),.int .i64 (IntKind.i64.wrap (n37:Int)),.string (cZ M43),.string (cZ M46)]++ba 32 (fun _=>0#8)) from rfl) (.nc (.seq (.seq (aL rfl rfl (aS rfl rfl (.nc (.block ?_))))))))
 refine aV (α:=Nat×Nat×Int×(Nat→Y)×List Y) (fun gh=>[(11,true,.int .i64 (gh.1:Int))]) (fun gh=>[.blk b4 (cl ([.int .u8 (IntKind.u8.wrap (n14:Int)),.int .u64 (n20:Int),.int .u64 (n23:Int),.int .u64 (n26:Int),.int .i64 (IntKind.i64.wrap (n30:Int)),.int .i64 (IntKind.i64.wrap (n37:Int)),.string (cZ M43),.string (cZ M46)]++ba 32 gh.2.2.2.1) 98),.blk b (cl [Sh.val s B.length,.int .i64 (gh.2.1:Int),.int .i64 gh.2.2.1] 63)])
  (fun gh Gl=>(gh.1≤32)∧(gh.2.2.2.2.length=gh.1)∧(ByR ⟨B.drop I46,e46⟩ ⟨B.drop gh.2.1,gh.2.2.1⟩ (((false||decide (255<n14))||decide (9223372036854775807<n30))||decide (9223372036854775807<n37)) gh.2.2.2.2)∧(∀ i,gh.2.2.2.1 i=gh.2.2.2.2.getD i 0)∧(gh.2.1≤B.length)) (fun gh=>32-gh.1) (0,I46,e46,(fun _=>0#8),[]) [(0,true,_),(2,true,_),(4,true,_),(6,true,_),(8,true,_),(10,true,_)] [_]
  (aK rfl (aA rfl (aA rfl (aA rfl (aA rfl (aA rfl (aA rfl eZ)))))))
  (mS .here rfl (mS .here rfl (mS .here rfl mN))) ?_ ?_
 ·refine ⟨?_,?_,?_,?_,?_⟩
  ·(try dsimp only)<;>(first|omega|rfl|assumption|(simp; done))
  ·(try dsimp only)<;>(first|omega|rfl|assumption|(simp; done))
  ·(try dsimp only)<;>(exact ByR.zero)
  ·(try dsimp only)<;>(exact fun i=>by simp)
  (try dsimp only)<;>(first|omega|rfl|assumption|(simp; done))
 intro gh N0 Gl0 hN0 hGl0 hF0
 obtain ⟨k,J,ee,f,rt⟩:=gh; dsimp only at hF0 hN0 ⊢
 obtain ⟨hk,hr,hB,ef,hJ⟩:=hF0
 have hs:=hs.mono hGl0
 refine .g (cP rfl rfl rfl rfl (.g (cD rfl (fun c1=>?_) (fun c1=>?_))))
 ·have c1k:=c1
  try simp only [aC,aG,aD] at c1
  refine .g (ka rfl (.inr rfl) aAy (aB rfl (aB rfl aF)) (bL aE) (aO5 B J ee s b _ hs hJ hl) ?_)
  rintro _ G54 μ54 hG54 ⟨y54,I54,e54,hN54,hI54,rfl,rfl⟩
  refine cu (k:=.u64) rfl .no rfl nY (.u rfl) ?_
  refine fZ rfl aAg rfl (iW rfl fU rfl rfl ?_)
  refine s1 rfl (.u rfl) (.u rfl) rfl gQ aE (by show _<40; omega) (aHL (k:=k) (by omega)) ?_
  refine .g (aW (((k+1):Nat):Int) rfl rfl rfl rfl ?_)
  refine .g (aP (k+1,I54,e54,upd f k ((y54.setWidth 64).setWidth 8),rt++[y54]) ?_ ?_ ?_ ?_ ?_)
  ·exact (aK rfl (aA rfl (aA rfl (aA rfl (aA rfl (aA rfl (aA rfl eZ)))))))
  ·exact (mS .here rfl (mS .here rfl (mS .here rfl mN)))
  ·first|omega|(dsimp only; omega)
  ·exact (hGl0).trans hG54
  refine ⟨?_,?_,?_,?_,?_⟩
  ·(try dsimp only)<;>(first|omega|rfl|assumption|(simp; done))
  ·(try dsimp only)<;>(simp [hr])
  ·(try dsimp only)<;>(exact hB.step (by omega) hN54)
  ·(try dsimp only)<;>(exact aIb hr ef)
  (try dsimp only)<;>(first|omega|rfl|assumption|(simp; done))
 have c1k:=c1
 try simp only [aC,aG,aD] at c1
 refine .exit (.xcode (.xlp (.xblk (.code (.seq (Wk.mix ⟨false,false⟩ aX (by kernel_rfl) ?_))))))
 refine Wt.one 0 (by kernel_rfl) ?_
 refine lB rfl dF rfl .here ?_
 refine .nil (Wt.one 1 (by kernel_rfl) ?_)
 refine mV rfl rfl (.nil (Wt.one 2 (by kernel_rfl) ?_))
 refine mV rfl rfl (.nil (Wt.one 3 (by kernel_rfl) ?_))
 refine mv rfl (.t rfl rfl) (.u rfl) (.nil (Wt.one 4 (by kernel_rfl) ?_))
 refine bR rfl .no (.u rfl) (.s rfl) (.nil (Wt.one 5 (by kernel_rfl) ?_))
 refine mV rfl rfl (.nil (Wt.one 6 (by kernel_rfl) ?_))
 refine mv rfl (.t rfl rfl) (.u rfl) (.nil (Wt.one 7 (by kernel_rfl) ?_))
 refine bR rfl .no (.u rfl) (.s rfl) (.nil (Wt.one 8 (by kernel_rfl) ?_))
 refine mV rfl rfl (.nil (Wt.one 9 (by kernel_rfl) ?_))
 refine mv rfl (.t rfl rfl) (.u rfl) (.nil (Wt.one 10 (by kernel_rfl) ?_))
 refine nc rfl (.t rfl rfl) (.s rfl) (.nil (Wt.one 11 (by kernel_rfl) ?_))
 refine fz rfl (.t rfl rfl) qF (.s rfl) (.nil (Wt.b2 12 15 (by kernel_rfl) ?_ ?_))
 ·refine ld rfl (.t rfl rfl) lK (.s rfl) (fun hc=>Rd.own aE (by first|exact aJ rfl|rfl)) ?_
  refine .nil (Wt.one 13 (by kernel_rfl) ?_)
  refine cp rfl (.t rfl rfl) (.s rfl) (.u rfl) rfl (.nil (Wt.one 14 (by kernel_rfl) ?_))
  refine bR rfl .no (.u rfl) (.s rfl) (.nil (Wt.b1 15 (by kernel_rfl) ?_))
  refine sw rfl (.u rfl) (.u rfl) rfl jP aN (by first|exact qE|exact qL|rfl) (aBg rfl rfl rfl rfl rfl rfl rfl rfl) ?_
  refine .nil (Wt.one 16 (by kernel_rfl) ?_)
  refine aS rfl rfl (.nil (Wt.last (by kernel_rfl) ?_))
  refine .code (.ret (We.fin Tryz.results45 (.cell rfl (fun w hw=>bI dF (RdN.own .here) ((by first|exact qE|exact qL|rfl)) hw) (.tmp rfl .nil)) (mS aN rfl mN) ?_))
  obtain rfl:k=32:=by omega
  exact ⟨_,J,ee,_,aHG hN14 yB hN20 hN23 hN26 hN30 yA hN37 yA hN43 hN46 rfl hB hr (funext fun i=>by rw [← ef i]),hJ,rfl,by rw [← aGF,ek14,ek30,ek37]; rfl⟩
 refine sw rfl (.u rfl) (.u rfl) rfl jP aN (by first|exact qE|exact qL|rfl) (aBg rfl rfl rfl rfl rfl rfl rfl rfl) ?_
 refine .nil (Wt.one 12 (by kernel_rfl) ?_)
 refine ld rfl (.t rfl rfl) lK (.s rfl) (fun hc=>Rd.own aN (by first|exact aJ rfl|rfl)) ?_
 refine .nil (Wt.one 13 (by kernel_rfl) ?_)
 refine cp rfl (.t rfl rfl) (.s rfl) (.u rfl) rfl (.nil (Wt.one 14 (by kernel_rfl) ?_))
 refine bR rfl .no (.u rfl) (.s rfl) (.nil (Wt.one 16 (by kernel_rfl) ?_))
 refine aS rfl rfl (.nil (Wt.last (by kernel_rfl) ?_))
 refine .code (.ret (We.fin Tryz.results45 (.cell rfl (fun w hw=>bI dF (RdN.own .here) ((by first|exact qE|exact qL|rfl)) hw) (.tmp rfl .nil)) (mS aN rfl mN) ?_))
 obtain rfl:k=32:=by omega
 exact ⟨_,J,ee,_,aHG hN14 yB hN20 hN23 hN26 hN30 yA hN37 yA hN43 hN46 rfl hB hr (funext fun i=>by rw [← ef i]),hJ,rfl,by rw [← aGF,ek14,ek30,ek37]; rfl⟩
theorem aEx:eS Tryz.prog 63 [0]=some ([.slice none 0 0,.int .i64 0,.int .i64 0],[(0,1)]):=by kernel_rfl
theorem aSe:eS Tryz.prog 45 [0]=some (fE (fun _=>0)++[.slice none 0 0,.slice none 0 0],[(0,1)]):=by kernel_rfl
theorem aTO:aU Tryz.prog 45=true:=by kernel_rfl
theorem aKA:eS Tryz.prog 104 [0,1]=some ([.int .u8 0,.int .u64 0],[(0,1),(1,1)]):=by kernel_rfl
theorem aTP:aU Tryz.prog 47=true:=by kernel_rfl
set_option maxHeartbeats 2000000 in
theorem aPi (xs:List Y) (h:Sh) (G:PM) (hs:SlR G 1 aQ h xs) (hl:xs.length≤100000000000000):Ct Tryz.prog 18 ([h.val xs.length]:List Value).toArray G [] (fun G' μ' u=>∃ e err ha hd,DecR xs e err∧μ'=[]∧u=.tuple #[Edit.val e ha hd,.int .i64 err]∧EdR G' e ha hd):=by
 refine Ct.of Tryz.func18 rfl Tryz.ntmps18 rfl fun w0 hs0=>?_
 refine .seq (bJ rfl rfl ?_)
 refine al rfl yX ?_; intro b2
 refine .g (dK ([h.val xs.length,.int .i64 ((0:Nat):Int),.int .i64 0]) rfl .no aEx (.cons (.u rfl) rfl .nil) rfl (rfl) ?_)
 refine bX rfl rfl rfl ?_; intro b15
 refine .g (ka rfl (.inr rfl) mO (aB rfl aF) (bL .here) (mB xs 0 0 h b15 _ hs (Nat.zero_le _) hl) ?_)
 rintro _ G17 μ17 hG17 ⟨n17,I17,e17,hN17,hI17,rfl,rfl⟩
 have nL17:=fM hN17
 have hs:=hs.mono hG17
 refine dK (fE (upd (fun _=>0) 0 (n17:Int))++[.slice none 0 0,.slice none 0 0]) rfl .no aSe (.cons (.u rfl) rfl .nil) rfl (rfl) ?_
 refine al rfl yX ?_; intro b5
 refine sw rfl (.u rfl) (.u rfl) rfl vV .here (by first|exact dQ|exact dQ.trans dQ.symm|rfl) (zZ rfl rfl) ?_
 refine .g (ka rfl (.inr rfl) mO (aB rfl aF) (bL aE) (mB xs I17 e17 h b15 _ hs hI17 hl) ?_)
 rintro _ G20 μ20 hG20 ⟨n20,I20,e20,hN20,hI20,rfl,rfl⟩
 have nL20:=fM hN20
 have hs:=hs.mono hG20
 refine fZ rfl tX rfl (s1 rfl (.u rfl) (.u rfl) rfl iS aE (by first|decide|(simp only [List.length_append,gJ,List.length_cons,List.length_nil]; omega)) (wX (k:=1) rfl (by decide)) ?_)
 refine .g (ka rfl (.inr rfl) mO (aB rfl aF) (bL aE) (mB xs I20 e20 h b15 _ hs hI20 hl) ?_)
 rintro _ G23 μ23 hG23 ⟨n23,I23,e23,hN23,hI23,rfl,rfl⟩
 have nL23:=fM hN23
 have hs:=hs.mono hG23
 refine fZ rfl tY rfl (s1 rfl (.u rfl) (.u rfl) rfl iS aE (by first|decide|(simp only [List.length_append,gJ,List.length_cons,List.length_nil]; omega)) (wX (k:=2) rfl (by decide)) ?_)
 refine .g (ka rfl (.inr rfl) mO (aB rfl aF) (bL aE) (mB xs I23 e23 h b15 _ hs hI23 hl) ?_)
 rintro _ G26 μ26 hG26 ⟨n26,I26,e26,hN26,hI26,rfl,rfl⟩
 have nL26:=fM hN26
 have hs:=hs.mono hG26
 refine fZ rfl tZ rfl (s1 rfl (.u rfl) (.u rfl) rfl iS aE (by first|decide|(simp only [List.length_append,gJ,List.length_cons,List.length_nil]; omega)) (wX (k:=3) rfl (by decide)) ?_)
 refine .nil (.code (.seq (.seq (aL rfl rfl (aS rfl rfl (.nc (.block ?_)))))))
 refine aV (α:=Nat×Nat×Int×(Nat→Int)×List Nat) (fun gh=>[(6,true,.int .i64 (gh.1:Int))]) (fun gh=>[.blk b5 (cl (fE gh.2.2.2.1++[.slice none 0 0,.slice none 0 0]) 45),.blk b15 (cl [Sh.val h xs.length,.int .i64 (gh.2.1:Int),.int .i64 gh.2.2.1] 63)])
  (fun gh Gl=>(gh.1≤5)∧(gh.2.2.2.2.length=4+gh.1)∧(RpR (fun α=>@fS α) 9 ⟨xs.drop 0,0⟩ ⟨xs.drop gh.2.1,gh.2.2.1⟩ false false gh.2.2.2.2)∧(∀ i,gh.2.2.2.1 i=((gh.2.2.2.2.getD i 0:Nat):Int))∧(gh.2.1≤xs.length)) (fun gh=>5-gh.1) (0,I26,e26,upd (upd (upd (upd (fun _=>0) 0 (n17:Int)) 1 (n20:Int)) 2 (n23:Int)) 3 (n26:Int),((([]++[n17])++[n20])++[n23])++[n26]) [(2,true,_),(4,true,_),(5,true,_)] [_]
  (aK rfl (aA rfl (aA rfl (aA rfl eZ))))
  (mS .here rfl (mS .here rfl (mS .here rfl mN))) ?_ ?_
 ·refine ⟨?_,?_,?_,?_,?_⟩
  ·(try dsimp only)<;>(first|omega|rfl|assumption|(simp; done))
  ·(try dsimp only)<;>(rfl)
  ·(try dsimp only)<;>(exact (((RpR.zero.step (by decide) (fun α O k h=>h.numE hN17)).step (by show 1<9; decide) (fun α O k h=>h.numE hN20)).step (by show 2<9; decide) (fun α O k h=>h.numE hN23)).step (by show 3<9; decide) (fun α O k h=>h.numE hN26))
  ·(try dsimp only)<;>(exact uS rfl (uS rfl (uS rfl (uS rfl (fun i=>by simp)))))
  (try dsimp only)<;>(first|omega|rfl|assumption|(simp; done))
 intro gh N0 Gl0 hN0 hGl0 hF0
 obtain ⟨k2,I2,e2,g2,rt2⟩:=gh; dsimp only at hF0 hN0 ⊢
 obtain ⟨hk2,hr2,hR2,eg2,hI2⟩:=hF0
 have hs:=hs.mono hGl0
 refine .g (cP rfl rfl rfl rfl (.g (cD rfl (fun c1=>?_) (fun c1=>?_))))
 ·have c1k:=c1
  try simp only [aC,aG,aD] at c1
  refine .g (ka rfl (.inr rfl) mO (aB rfl aF) (bL aE) (mB xs I2 e2 h b15 _ hs hI2 hl) ?_)
  rintro _ G34 μ34 hG34 ⟨n34,I34,e34,hN34,hI34,rfl,rfl⟩
  have nL34:=fM hN34
  have hs:=hs.mono hG34
  refine fZ rfl uA rfl (iW rfl rA rfl rfl ?_)
  refine s1 rfl (.u rfl) (.u rfl) rfl iS aE (by first|decide|(simp only [List.length_append,gJ,List.length_cons,List.length_nil]; omega)) (wX (k:=4+k2) (by omega) (by omega)) ?_
  refine .g (aW (((k2+1):Nat):Int) rfl rfl rfl rfl ?_)
  refine .g (aP (k2+1,I34,e34,upd g2 (4+k2) (n34:Int),rt2++[n34]) ?_ ?_ ?_ ?_ ?_)
  ·exact (aK rfl (aA rfl (aA rfl (aA rfl eZ))))
  ·exact (mS .here rfl (mS .here rfl (mS .here rfl mN)))
  ·first|omega|(dsimp only; omega)
  ·exact (hGl0).trans hG34
  refine ⟨?_,?_,?_,?_,?_⟩
  ·(try dsimp only)<;>(first|omega|rfl|assumption|(simp; done))
  ·(try dsimp only)<;>(simp [hr2]; omega)
  ·(try dsimp only)<;>(exact hR2.step (by omega) (fun α O k h=>h.numE hN34))
  ·(try dsimp only)<;>(exact uS hr2 eg2)
  (try dsimp only)<;>(first|omega|rfl|assumption|(simp; done))
 have c1k:=c1
 try simp only [aC,aG,aD] at c1
 refine .exit (.xcode (.xlp (.xblk (.code (.seq (nW 40 Meta.cells 98 (.g (ka rfl (.inr rfl) mO (aB rfl aF) (bL aN) (mB xs I2 e2 h b15 _ hs hI2 hl) ?_))))))))
 rintro _ G38 μ38 hG38 ⟨n38,I38,e38,hN38,hI38,rfl,rfl⟩
 have nL38:=fM hN38
 have hs:=hs.mono hG38
 refine .g (nC rfl rfl (fZ rfl qF rfl (lO rfl lK rfl .here (by first|exact aJ rfl|rfl) ?_)))
 refine cP rfl rfl rfl rfl (mV rfl rfl (mv rfl (.t rfl rfl) (.u rfl) (cp rfl (.t rfl rfl) (.s rfl) (.u rfl) rfl (bR rfl .no (.u rfl) (.s rfl) (aS rfl rfl (.nc (.seq (.block ?_))))))))
 have hT1:=aFm (aFl hR2 (by omega)) hN38 (aGC (n:=n38) (e:=e38))
 refine aV (α:=Nat×Value×Nat×Int×Bool×List Meta) (fun gh=>[(7,true,.int .u64 (gh.1:Int)),(8,true,.bool (!gh.2.2.2.2.1))]) (fun gh=>[.blk b15 (cl [Sh.val h xs.length,.int .i64 (gh.2.2.1:Int),.int .i64 gh.2.2.2.1] 63),rS 40 Meta.cells gh.2.1 98 gh.2.2.2.2.2,.blk b5 (cl (fE g2++[gh.2.1,.slice none 0 0]) 45)])
  (fun gh Gl=>(gh.1+gh.2.2.2.2.2.length=n38)∧(RpR (fun α=>@oO α) n38 ⟨xs.drop I38,e38⟩ ⟨xs.drop gh.2.2.1,gh.2.2.2.1⟩ (!((e38 == 0)&&decide ((n38:Int)≤1024))) gh.2.2.2.2.1 gh.2.2.2.2.2)∧(gh.2.2.2.2.1=false→n38≤1024)∧(gh.2.2.1≤xs.length)) (fun gh=>gh.1) (n38,.slice none 0 0,I38,e38, !((e38 == 0)&&decide ((n38:Int)≤1024)),[]) [(2,true,_),(4,true,_),(5,true,_)] [_]
  (aA rfl (cI rfl (congrArg Value.bool (Bool.not_not _).symm) (aA rfl (aA rfl (aA rfl eZ)))))
  (mS .here rfl (mS .here rfl (mS .here rfl (mS .here rfl mN)))) ?_ ?_
 ·refine ⟨?_,?_,?_,?_⟩
  ·(try dsimp only)<;>(first|omega|rfl|assumption|(simp; done))
  ·(try dsimp only)<;>(exact RpR.zero)
  ·(try dsimp only)<;>(exact fun h=>aEN aGC h)
  (try dsimp only)<;>(first|omega|rfl|assumption|(simp; done))
 intro gh N1 Gl1 hN1 hGl1 hF1
 obtain ⟨n,va,I3,e3,bad3,add⟩:=gh; dsimp only at hF1 hN1 ⊢
 obtain ⟨hn3,hR3,hbd,hI3⟩:=hF1
 have hs:=hs.mono hGl1
 refine .g (cP rfl rfl rfl rfl (mV rfl rfl (mv rfl (.t rfl rfl) (.u rfl) (bR rfl .no (.u rfl) (.s rfl) (.g (cD rfl (fun c2=>?_) (fun c2=>?_)))))))
 ·have c2k:=c2
  try simp only [aC,aG,aD] at c2
  refine .g (ka rfl (.inr rfl) aTO (aB rfl aF) (bL .here) (aP5 xs I3 e3 h b15 _ hs hI3 hl) ?_)
  rintro _ G57 μ57 hG57 ⟨m57,I57,e57,bad57,hM57,hI57,rfl,rfl⟩
  have hs:=hs.mono hG57
  refine .p (eX rfl rfl rfl (eX rfl rfl rfl ?_))
  refine al rfl qD ?_; intro b9
  refine sw rfl (.u rfl) (.u rfl) rfl jP .here rfl (Meta.one _) ?_
  refine .g (fZ rfl fW rfl (lN rfl cM rfl (Rd.own bB pO) ?_))
  refine lA rfl .no dF (.u rfl) (fun _=>RdN.own .here) (fun _=>(by first|exact dQ|exact dQ.trans dQ.symm|rfl)) ?_
  refine Go.Tan.b1 rfl aY cT (.u rfl) rfl rfl (by decide) ?_; intro b64
  refine eC (xs:=add) (m57) rfl aY cT rfl (.u rfl) (.u rfl) bB .here (Meta.len _) (Meta.one _) (by have:=hbd c2.2; omega) (by have:=hbd c2.2; unfold maxLen; omega) ?_; intro v65 ov65
  refine fZ rfl fW rfl (dE rfl (.u rfl) (.u rfl) .here dS cJ (by first|decide|(simp only [List.length_append,gJ,List.length_cons,List.length_nil]; omega)) (pP) ?_)
  refine .g (ar rfl .no (.u rfl) (.u rfl) rfl (fun _=>eD (by omega) (by omega)) ?_)
  refine .g (aP (n-1,v65,I57,e57,bad57,add++[m57]) ?_ ?_ ?_ ?_ ?_)
  ·exact (cI rfl (dA (by omega)) (aA rfl (aA rfl (aA rfl (aA rfl eZ)))))
  ·exact (mS cJ rfl (mS aE rfl (mS .here rfl (mS aN rfl mN))))
  ·first|omega|(dsimp only; omega)
  ·exact (hGl1).trans hG57
  refine ⟨?_,?_,?_,?_⟩
  ·(try dsimp only)<;>(rw [List.length_append]; show _+(_+1)=_; omega)
  ·(try dsimp only)<;>(exact hR3.step (by omega) (fun α O k h=>hM57 α O k (by rw [c2.2] at h; exact h)))
  ·(try dsimp only)<;>(exact fun _=>hbd c2.2)
  (try dsimp only)<;>(first|omega|rfl|assumption|(simp; done))
 have c2k:=c2
 try simp only [aC,aG,aD] at c2
 refine .exit (.xcode (.xlp (.xblk (.code (.seq ?_)))))
 have hT2:=aFn hT1 hR3 hn3 (by first|exact c2.imp (fun h=>by omega) (fun h=>by simpa using h) | (rcases c2 with h1 | h1; (exact .inl (by omega)); (exact .inr (by simpa using h1))))
 refine nW 2 Gone.cells 104 (.g (ka rfl (.inr rfl) mO (aB rfl aF) (bL aE) (mB xs I3 e3 h b15 _ hs hI3 hl) ?_))
 rintro _ G68 μ68 hG68 ⟨n68,I68,e68,hN68,hI68,rfl,rfl⟩
 have nL68:=fM hN68
 have hs:=hs.mono hG68
 refine aS rfl rfl (.nc (.seq (gL rfl rfl (mV rfl rfl (mV rfl rfl (mv rfl (.t rfl rfl) (.u rfl) (cp rfl (.t rfl rfl) (.s rfl) (.u rfl) rfl (bR rfl .no (.u rfl) (.s rfl) (aS rfl rfl (.nc (.seq (.block ?_))))))))))))
 have hT3:=aMS hT2 hN68 (aGD (n:=n68) (bad:=bad3))
 refine aV (α:=Nat×Value×Nat×Int×Bool×List Gone) (fun gh=>[(7,true,.int .u64 (gh.1:Int)),(8,true,.bool (!gh.2.2.2.2.1))]) (fun gh=>[.blk b15 (cl [Sh.val h xs.length,.int .i64 (gh.2.2.1:Int),.int .i64 gh.2.2.2.1] 63),rS 2 Gone.cells gh.2.1 104 gh.2.2.2.2.2,.blk b5 (cl (fE g2++[va,gh.2.1]) 45)])
  (fun gh Gl=>(gh.1+gh.2.2.2.2.2.length=n68)∧(RpR (fun α=>@mZ α) n68 ⟨xs.drop I68,e68⟩ ⟨xs.drop gh.2.2.1,gh.2.2.2.1⟩ (!(!bad3&&decide ((n68:Int)≤1024))) gh.2.2.2.2.1 gh.2.2.2.2.2)∧(gh.2.2.2.2.1=false→n68≤1024)∧(gh.2.2.1≤xs.length)) (fun gh=>gh.1) (n68,.slice none 0 0,I68,e68, !(!bad3&&decide ((n68:Int)≤1024)),[]) [(2,true,_),(4,true,_),(5,true,_)] [_,_]
  (aA rfl (cI rfl (congrArg Value.bool (Bool.not_not _).symm) (aA rfl (aA rfl (aA rfl eZ)))))
  (mS .here rfl (mS .here rfl (mS aE rfl (mS .here rfl (mS .here rfl mN))))) ?_ ?_
 ·refine ⟨?_,?_,?_,?_⟩
  ·(try dsimp only)<;>(first|omega|rfl|assumption|(simp; done))
  ·(try dsimp only)<;>(exact RpR.zero)
  ·(try dsimp only)<;>(exact fun h=>aRx h)
  (try dsimp only)<;>(first|omega|rfl|assumption|(simp; done))
 intro gh N2 Gl2 hN2 hGl2 hF2
 obtain ⟨q,vd,I4,e4,bad4,dr⟩:=gh; dsimp only at hF2 hN2 ⊢
 obtain ⟨hn4,hR4,hbd4,hI4⟩:=hF2
 have hs:=hs.mono hGl2
 refine .g (cP rfl rfl rfl rfl (mV rfl rfl (mv rfl (.t rfl rfl) (.u rfl) (bR rfl .no (.u rfl) (.s rfl) (.g (cD rfl (fun c3=>?_) (fun c3=>?_)))))))
 ·have c3k:=c3
  try simp only [aC,aG,aD] at c3
  refine .g (ka rfl (.inr rfl) aKl (aB rfl aF) (bL .here) (aIs xs I4 e4 h b15 _ hs hI4 hl) ?_)
  rintro _ G83 μ83 hG83 ⟨n83,I83,e83,k83,hN83,hI83,ek83,rfl,rfl⟩
  have nL83:=fM hN83
  have hs:=hs.mono hG83
  refine .p (eX rfl rfl rfl (eX rfl rfl rfl (aS rfl rfl (aS rfl rfl (.nc (.seq (rq9 rfl rfl (mV rfl rfl (mV rfl rfl (mv rfl (.t rfl rfl) (.u rfl) (nc rfl (.t rfl rfl) (.s rfl) (fz rfl (.t rfl rfl) qF (.s rfl) (ld rfl (.t rfl rfl) lK (.s rfl) (fun hc=>Rd.own .here (by first|exact aJ rfl|rfl)) ?_)))))))))))))
  refine cp rfl (.t rfl rfl) (.s rfl) (.u rfl) rfl (bR rfl .no (.u rfl) (.s rfl) (aS rfl rfl (.nc (Wk.mix ⟨true,false⟩ aX (by kernel_rfl) ?_))))
  refine Wt.one 0 (by kernel_rfl) ?_
  refine fZ rfl kB rfl (.nil (Wt.one 2 (by kernel_rfl) ?_))
  refine mV rfl rfl (.nil (Wt.one 3 (by kernel_rfl) ?_))
  refine mV rfl rfl (.nil (Wt.b2 1 4 (by kernel_rfl) ?_ ?_))
  ·refine lN rfl lP rfl (Rd.own aN aDZ) ?_
   refine .nil (Wt.b1 4 (by kernel_rfl) ?_)
   refine ka rfl (.inl rfl) mO (aB rfl aF) (bL .here) (mB xs I83 e83 h b15 _ hs hI83 hl) ?_
   rintro _ G98 μ98 hG98 ⟨n98,I98,e98,hN98,hI98,rfl,rfl⟩
   have nL98:=fM hN98
   have hs:=hs.mono hG98
   refine .nil (Wt.one 5 (by kernel_rfl) ?_)
   refine dK ([.int .u8 (IntKind.u8.wrap (n83:Int)),.int .u64 (n98:Int)]) rfl .no aKA (.cons (.u rfl) rfl (.cons (.u rfl) rfl .nil)) rfl (rfl) (.nil (Wt.b1 6 (by kernel_rfl) ?_))
   refine Go.Tan.b1 rfl pB yZ (.u rfl) rfl rfl (by decide) ?_; intro b100
   refine .nil (Wt.b1 7 (by kernel_rfl) ?_)
   refine eC (xs:=dr) ((⟨IntKind.u8.wrap (n83:Int),(n98:Int)⟩ : Gone)) rfl pB yZ rfl (.u rfl) (.u rfl) aN .here (rfl) (uR) (by have:=hbd4 c3.2; omega) (by have:=hbd4 c3.2; unfold maxLen; omega) ?_; intro v101 ov101
   refine .nil (Wt.one 8 (by kernel_rfl) ?_)
   refine fZ rfl kB rfl (.nil (Wt.b1 9 (by kernel_rfl) ?_))
   refine dE rfl (.u rfl) (.u rfl) .here aEu bB (by first|decide|(simp only [List.length_append,gJ,List.length_cons,List.length_nil]; omega)) (aDa) ?_
   refine .nil (Wt.last (by kernel_rfl) ?_)
   refine .g (ar rfl .no (.u rfl) (.u rfl) rfl (fun _=>eD (by omega) (by omega)) ?_)
   refine .g (aP (q-1,v101,I98,e98, !(k83&&(e83 == 0)),dr++[⟨IntKind.u8.wrap (n83:Int),(n98:Int)⟩]) ?_ ?_ ?_ ?_ ?_)
   ·exact (cI rfl (dA (by omega)) (cI rfl (congrArg Value.bool (Bool.not_not _).symm) (aA rfl (aA rfl (aA rfl eZ)))))
   ·exact (mS bB rfl (mS aE rfl (mS .here rfl (mS aE rfl (mS aE rfl mN)))))
   ·first|omega|(dsimp only; omega)
   ·exact ((hGl2).trans hG83).trans hG98
   refine ⟨?_,?_,?_,?_⟩
   ·(try dsimp only)<;>(rw [List.length_append]; show _+(_+1)=_; omega)
   ·(try dsimp only)<;>(exact hR4.step (by omega) (fun α O k h=>aDF hN83 (by rw [ek83]; exact aGE) yB hN98 α O k (by rw [c3.2] at h; exact h)))
   ·(try dsimp only)<;>(exact fun _=>hbd4 c3.2)
   (try dsimp only)<;>(first|omega|rfl|assumption|(simp; done))
  refine ka rfl (.inl rfl) mO (aB rfl aF) (bL .here) (mB xs I83 e83 h b15 _ hs hI83 hl) ?_
  rintro _ G98 μ98 hG98 ⟨n98,I98,e98,hN98,hI98,rfl,rfl⟩
  have nL98:=fM hN98
  refine .nil (Wt.one 1 (by kernel_rfl) ?_)
  refine lN rfl lP rfl (Rd.own aN aDZ) ?_
  refine .nil (Wt.one 5 (by kernel_rfl) ?_)
  refine dK ([.int .u8 (IntKind.u8.wrap (n83:Int)),.int .u64 (n98:Int)]) rfl .no aKA (.cons (.u rfl) rfl (.cons (.u rfl) rfl .nil)) rfl (rfl) (.nil (Wt.b1 6 (by kernel_rfl) ?_))
  refine Go.Tan.b1 rfl pB yZ (.u rfl) rfl rfl (by decide) ?_; intro b100
  refine .nil (Wt.b1 7 (by kernel_rfl) ?_)
  refine eC (xs:=dr) ((⟨IntKind.u8.wrap (n83:Int),(n98:Int)⟩ : Gone)) rfl pB yZ rfl (.u rfl) (.u rfl) aN .here (rfl) (uR) (by have:=hbd4 c3.2; omega) (by have:=hbd4 c3.2; unfold maxLen; omega) ?_; intro v101 ov101
  refine .nil (Wt.one 8 (by kernel_rfl) ?_)
  refine fZ rfl kB rfl (.nil (Wt.b1 9 (by kernel_rfl) ?_))
  refine dE rfl (.u rfl) (.u rfl) .here aEu bB (by first|decide|(simp only [List.length_append,gJ,List.length_cons,List.length_nil]; omega)) (aDa) ?_
  refine .nil (Wt.last (by kernel_rfl) ?_)
  refine .g (ar rfl .no (.u rfl) (.u rfl) rfl (fun _=>eD (by omega) (by omega)) ?_)
  refine .g (aP (q-1,v101,I98,e98, !(k83&&(e83 == 0)),dr++[⟨IntKind.u8.wrap (n83:Int),(n98:Int)⟩]) ?_ ?_ ?_ ?_ ?_)
  ·exact (cI rfl (dA (by omega)) (cI rfl (congrArg Value.bool (Bool.not_not _).symm) (aA rfl (aA rfl (aA rfl eZ)))))
  ·exact (mS bB rfl (mS aE rfl (mS .here rfl (mS aE rfl (mS aE rfl mN)))))
  ·first|omega|(dsimp only; omega)
  ·exact ((hGl2).trans hG83).trans hG98
  refine ⟨?_,?_,?_,?_⟩
  ·(try dsimp only)<;>(rw [List.length_append]; show _+(_+1)=_; omega)
  ·(try dsimp only)<;>(exact hR4.step (by omega) (fun α O k h=>aDF hN83 (by rw [ek83]; exact aGE) yB hN98 α O k (by rw [c3.2] at h; exact h)))
  ·(try dsimp only)<;>(exact fun _=>hbd4 c3.2)
  (try dsimp only)<;>(first|omega|rfl|assumption|(simp; done))
 have c3k:=c3
 try simp only [aC,aG,aD] at c3
 refine .exit (.xcode (.xlp (.xblk (.code (.seq (.seq ?_))))))
 have hT4:=aFo hT3 hR4 hn4 (by first|exact c3.imp (fun h=>by omega) (fun h=>by simpa using h) | (rcases c3 with h1 | h1; (exact .inl (by omega)); (exact .inr (by simpa using h1))))
 refine .g (nt rfl .no (.u rfl) (mV rfl rfl (mv rfl (.f rfl rfl) (.u rfl) (kp rfl (.f rfl rfl) aTP (Eva.cons (.s rfl) aF) (Gp.add .here Gp.nil) (fun hc hle hq=>aO4 xs I4 e4 h b15 _ RdNP.add) ?_))))
 refine cp rfl (.f rfl rfl) (.s rfl) (.u rfl) rfl (cK rfl .no (.u rfl) (.s rfl) (.g (cD rfl (fun c4=>?_) (fun c4=>?_))))
 ·have c4k:=c4
  try simp only [aC,aG,aD] at c4
  refine .g (bC rfl .no aKF .nil rfl ?_)
  refine sw rfl (.u rfl) (.u rfl) rfl vV cJ (by first|exact dQ|exact dQ.trans dQ.symm|rfl) (zZ rfl rfl) ?_
  refine aS rfl rfl (.nc (.ret (aM Tryz.results18 (.cell rfl (fun w hw=>bI oU (RdN.own .here) ((by first|exact dQ|exact dQ.trans dQ.symm|rfl)) hw) (.tmp rfl .nil)) ?_)))
  exact ⟨Edit.zero,180,⟨none,0⟩,⟨none,0⟩,.inr ⟨aFp hT4 (by simpa using c4k),rfl,rfl⟩,rfl,rfl,EdR.zero⟩
 have c4k:=c4
 try simp only [aC,aG,aD] at c4
 refine .skip (.code (.seq ?_))
 refine mK bB (fun _ _=>rfl) (by intro b hb; cases hb) ?_; intro GfRA hRA hleRA evRA hsRA; subst evRA
 refine mK aE (fun _ _=>rfl) (by intro b hb; cases hb) ?_; intro GfRD hRD hleRD evRD hsRD; subst evRD
 have hsRA:=hsRA.mono hleRD
 refine .g (lA rfl .no oU (.u rfl) (fun _=>RdN.own aE) (fun _=>(by first|exact dQ|exact dQ.trans dQ.symm|rfl)) ?_)
 refine sw rfl (.u rfl) (.u rfl) rfl vV aN (by first|exact dQ|exact dQ.trans dQ.symm|rfl) (zZ rfl rfl) ?_
 refine aS rfl rfl (.nc (.ret (aM Tryz.results18 (.cell rfl (fun w hw=>bI oU (RdN.own .here) ((by first|exact dQ|exact dQ.trans dQ.symm|rfl)) hw) (.tmp rfl .nil)) ?_)))
 have h9:=c4k
 simp at h9
 have hO:=aFq hT4 h9.1 h9.2
 exact ⟨_,0,hRA,hRD,.inl ⟨hO,rfl⟩,rfl,by rw [Edit.val,←aFz eg2]; rfl,⟨hsRA,hsRD,(wL hO).2.1⟩⟩
theorem aAm:aU Tryz.prog 58=true:=by kernel_rfl
theorem yW:iD Tryz.prog 33=some ((State.zero.cells eJ)):=by kernel_rfl
theorem aKn:aU Tryz.prog 54=true:=by kernel_rfl
theorem aTT:aU Tryz.prog 55=true:=by kernel_rfl
theorem aSb:eS Tryz.prog 33 [1,2,3,4,5,0]=some ((State.zero.cells eJ),[(5,1),(6,1),(7,1),(8,1),(9,5),(0,5)]):=by kernel_rfl
theorem jC:dL Tryz.prog 33=some 14:=by kernel_rfl
theorem aAk:aU Tryz.prog 56=true:=by kernel_rfl
theorem aAl:aU Tryz.prog 57=true:=by kernel_rfl
theorem oW:eS Tryz.prog 33 []=some ((State.zero.cells eJ),[]):=by kernel_rfl
theorem aLm (s:State) (hd:Nat→Sh) (G:PM) (e:Edit) (ha he:Sh):Ct Tryz.prog 55 ([s.val hd,e.val ha he]:List Value).toArray G [] (fun _ μ' u=>μ'=[]∧u=.bool (qH s e)):=by
 refine Ct.of Tryz.func55 rfl Tryz.ntmps55 rfl fun w0 hs0=>?_
 refine .seq (dU rfl rfl ?_)
 refine bX rfl rfl rfl ?_; intro b2
 refine bX rfl rfl rfl ?_; intro b3
 refine .g (fZ rfl uA rfl (lA rfl .no vX (.u rfl) (fun _=>RdN.part (n:=5) (cs':=(List.range 5).map (fun i=>.int .u64 (e.gens i))) .here (rfl)) (fun _=>rfl) (mV rfl rfl (.nc (.block ?_)))))
 refine aV (α:=Nat) (fun k=>[(9,true,.int .i64 (k:Int))]) (fun _=>[])
  (fun k Gl=>(k≤5)∧(∀ i,i<k→¬ e.gens i<s.gens i)) (fun k=>5-k) 0 [(2,true,_),(3,true,_),(8,true,_)] [_,_]
  (aK rfl (aA rfl (aA rfl (aA rfl eZ))))
  (mS .here rfl (mS .here rfl mN)) ?_ ?_
 ·refine ⟨?_,?_⟩
  ·(try dsimp only)<;>(first|omega|rfl|assumption|(simp; done))
  (try dsimp only)<;>(exact fun i hi=>by omega)
 intro k N0 Gl0 hN0 hGl0 hF0
 try dsimp only at hF0 hN0 ⊢
 obtain ⟨hk,hn⟩:=hF0
 refine .g (cP rfl rfl rfl rfl (.g (cD rfl (fun c1=>?_) (fun c1=>?_))))
 ·have c1k:=c1
  try simp only [aC,aD] at c1
  refine .g (ix rfl .no rA bD (.u rfl) (.u rfl) (by omega) (by omega) (fun _=>(aM2 (k:=k) (by omega) (by omega))) ?_)
  refine .g (fZ rfl tV rfl (iW rfl rA rfl rfl ?_))
  refine lO rfl bD rfl aE (by exact s.cell_gen hd (k:=k) (by omega)) ?_
  refine cP rfl rfl rfl rfl (.g (cD rfl (fun c2=>?_) (fun c2=>?_)))
  ·have c2k:=c2
   try simp only [aC,aD] at c2
   refine .seq (aL rfl rfl (aS rfl rfl (.nc (.ret (aM Tryz.results55 (.tmp rfl .nil) ?_)))))
   exact ⟨rfl,congrArg Value.bool (aFN (i:=k) (by omega) (by omega)).symm⟩
  have c2k:=c2
  try simp only [aC,aD] at c2
  refine .g (aW (((k+1):Nat):Int) rfl rfl rfl rfl ?_)
  refine .g (aP (k+1) ?_ ?_ ?_ ?_ ?_)
  ·exact (aK rfl (aA rfl (aA rfl (aA rfl eZ))))
  ·exact (mS .here rfl (mS .here rfl mN))
  ·first|omega|(dsimp only; omega)
  ·exact hGl0
  refine ⟨?_,?_⟩
  ·(try dsimp only)<;>(first|omega|rfl|assumption|(simp; done))
  (try dsimp only)<;>(exact fun i hi=>by (by_cases h:i=k; (subst h; omega); exact hn i (by omega)))
 have c1k:=c1
 try simp only [aC,aD] at c1
 refine .g (fZ rfl vO rfl (lO rfl bD rfl .here (by first|exact aJ rfl|rfl) ?_))
 refine fZ rfl tT rfl (lO rfl bD rfl aE (by first|exact aJ rfl|rfl) ?_)
 refine cP rfl rfl rfl rfl (.p (fz rfl (.f rfl rfl) tX (.u rfl) (ld rfl (.f rfl rfl) bD (.s rfl) (fun hc=>Rd.own .here (by first|exact aJ rfl|rfl)) ?_)))
 refine fz rfl (.f rfl rfl) rE (.u rfl) (ld rfl (.f rfl rfl) bD (.s rfl) (fun hc=>Rd.own aE (by first|exact aJ rfl|rfl)) ?_)
 refine cp rfl (.f rfl rfl) (.s rfl) (.s rfl) rfl (cK rfl .no (.u rfl) (.s rfl) (.p (fz rfl (.f rfl rfl) tY (.u rfl) (ld rfl (.f rfl rfl) bD (.s rfl) (fun hc=>Rd.own .here (by first|exact aJ rfl|rfl)) ?_))))
 refine fz rfl (.f rfl rfl) tU (.u rfl) (ld rfl (.f rfl rfl) bD (.s rfl) (fun hc=>Rd.own aE (by first|exact aJ rfl|rfl)) ?_)
 refine cp rfl (.f rfl rfl) (.s rfl) (.s rfl) rfl (cK rfl .no (.u rfl) (.s rfl) (.p (fz rfl (.f rfl rfl) tZ (.u rfl) (ld rfl (.f rfl rfl) bD (.s rfl) (fun hc=>Rd.own .here (by first|exact aJ rfl|rfl)) ?_))))
 refine fz rfl (.f rfl rfl) yK (.u rfl) (ld rfl (.f rfl rfl) bD (.s rfl) (fun hc=>Rd.own aE (by first|exact aJ rfl|rfl)) ?_)
 refine cp rfl (.f rfl rfl) (.s rfl) (.s rfl) rfl (cK rfl .no (.u rfl) (.s rfl) (aS rfl rfl (.nc (.ret (aM Tryz.results55 (.tmp rfl .nil) ?_)))))
 exact ⟨rfl,congrArg Value.bool (aCi (fun i hi=>hn i (by omega))).symm⟩
theorem aKQ:aU Tryz.prog 100=true:=by kernel_rfl
theorem aKR:aU Tryz.prog 101=true:=by kernel_rfl
theorem aTU:aU Tryz.prog 62=true:=by kernel_rfl
theorem aTV:aU Tryz.prog 63=true:=by kernel_rfl
theorem zJ (xs:List Meta) (v:Value) (k:Nat) (G:PM) (hk:k<xs.length) (hl:xs.length≤1000000000):Ct Tryz.prog 59 ([v,.int .i64 (k:Int),.int .i64 ((k+1:Nat):Int)]:List Value).toArray G [rS 40 Meta.cells v 98 xs] (fun _ μ' u=>μ'=[rS 40 Meta.cells u 98 (xs.take k++xs.drop (k+1))]):=by
 refine Ct.of Tryz.func59 rfl Tryz.ntmps59 rfl fun w0 hs0=>?_
 have hxr:(xs.take k++xs.drop (k+1)).length=xs.length-1:=by simp; omega
 refine .seq (aL rfl rfl (aS rfl rfl (.nc (.seq ?_))))
 refine nX .here (by omega) ?_; intro bbR capR evR lcR; subst evR
 refine .g (lr rfl .no fH (.u rfl) .here ?_)
 refine s3 rfl aY (.u rfl) (.u rfl) (.u rfl) (.u rfl) (by omega) (by omega) (by omega) (by omega) ?_; intro v13
 refine .g (cP rfl rfl rfl rfl (.g (cD rfl (fun c1=>?_) (fun c1=>?_))))
 ·have c1k:=c1
  exfalso; simp at c1; omega
 have c1k:=c1
 try simp only [aC,aD] at c1
 refine .g (lr rfl .no fH (.u rfl) .here ?_)
 refine .g (bA (mc:=⟨false,false⟩) [0,1,2,3,4,5,6,7] aX (by kernel_rfl) ?_)
 refine .p (srh k rfl aY (.u rfl) (.u rfl) rfl (by omega) ?_)
 refine mV rfl rfl (mV rfl rfl ?_)
 refine slz (k+1) rfl aY (.u rfl) (.u rfl) rfl (by omega) (by omega) ?_; intro oa25 hoa25
 refine apD (q:=k) (r:=k+1) rfl aY (.u rfl) (.u rfl) .here hoa25 (fun _ _=>Meta.len _) (tB _) (by omega) (by omega) ?_
 refine .g (lr rfl .no fH (.u rfl) .here ?_)
 refine .p (sll (xs.take k++xs.drop (k+1)).length xs.length rfl aY (.u rfl) (.u rfl) (.u rfl) rfl rfl (by omega) (by omega) (by omega) ?_)
 refine clT rfl aY cT rfl (by decide) (.u rfl) .here (by omega) (by omega) (fun _ _=>Meta.len _) ?_
 refine .nil (.code (.seq (bJ rfl rfl (mV rfl rfl (aS rfl rfl (.nc (.ret (We.fin Tryz.results59 (.tmp rfl .nil) (mS .here rfl mN) ?_))))))))
 exact rfl
theorem zI (h:Sh) (l:List Meta) (G:PM) (hs:SlR G 40 Meta.cells h l) (hl:l.length≤1000000):Ct Tryz.prog 56 ([h.val l.length]:List Value).toArray G [] (fun _ μ' u=>u.oneCell'=true∧μ'=[rS 40 Meta.cells u 98 l]):=by
 refine Ct.of Tryz.func56 rfl Tryz.ntmps56 rfl fun w0 hs0=>?_
 refine .g (xR rfl .no fH (.u rfl) (.u rfl) ?_)
 refine .g (cD rfl (fun c1=>?_) (fun c1=>?_))
 ·have c1k:=c1
  try simp only [aC,aD] at c1
  refine .seq (aL rfl rfl (aS rfl rfl (.nc (.ret ?_))))
  have hn:l=[]:=by
   cases l with
   | nil=>rfl
   | cons x l=>have:=hs.there (by simp); rw [this] at c1; cases c1
  refine aR8 40 Meta.cells 98 (We.fin Tryz.results56 (.tmp rfl .nil) (mS .here rfl mN) ?_)
  exact ⟨rfl,by rw [hn]; rfl⟩
 have c1k:=c1
 try simp only [aC,aD] at c1
 refine .skip (.code (.seq (gK rfl rfl ?_)))
 refine b0 rfl rfl aY ?_; intro v5
 refine mV rfl rfl ?_
 refine wB (xs:=([]:List Meta)) rfl aY cT rfl (.u rfl) (.u rfl) .here hs (fun _ _=>Meta.len _) (tB _) (by simp only [List.length_nil]; omega) (by unfold maxLen; simp only [List.length_nil]; omega) ?_; intro v7 ov7
 refine aS rfl rfl (.nc (.ret (We.fin Tryz.results56 (.tmp rfl .nil) (mS .here rfl mN) ?_)))
 exact ⟨ov7,rfl⟩
theorem aHO (x:Int) (G:PM):Ct Tryz.prog 100 ([.int .u64 x]:List Value).toArray G [] (fun _ μ' u=>μ'=[]∧u=.bool false):=by
 refine Ct.of Tryz.func100 rfl Tryz.ntmps100 rfl fun w0 hs0=>?_
 refine .g (cP rfl rfl rfl rfl (aS rfl rfl (.nc (.ret (aM Tryz.results100 (.tmp rfl .nil) ?_)))))
 exact ⟨rfl,congrArg Value.bool (by simp)⟩
theorem aHN (x:ByteArray) (G:PM):Ct Tryz.prog 101 ([.string x]:List Value).toArray G [] (fun _ μ' u=>μ'=[]∧u=.bool false):=by
 refine Ct.of Tryz.func101 rfl Tryz.ntmps101 rfl fun w0 hs0=>?_
 refine .g (cs rfl .no (.u rfl) (.u rfl) rfl (aS rfl rfl (.nc (.ret (aM Tryz.results101 (.tmp rfl .nil) ?_)))))
 exact ⟨rfl,congrArg Value.bool (by simp)⟩
theorem aL3 (x y:Int) (G:PM):Ct Tryz.prog 62 ([.int .u64 x,.int .u64 y]:List Value).toArray G [] (fun _ μ' u=>μ'=[]∧u=.int .i64 (wH x y)):=by
 refine Ct.of Tryz.func62 rfl Tryz.ntmps62 rfl fun w0 hs0=>?_
 refine .g (kV rfl aKQ (aB rfl aF) (aHO _ _) ?_)
 refine .g (kV rfl aKQ (aB rfl aF) (aHO _ _) ?_)
 refine .g (cD rfl (fun c1=>?_) (fun c1=>?_))
 ·have c1k:=c1
  cases c1
 have c1k:=c1
 try simp only [aC,aD] at c1
 refine .g (cD rfl (fun c2=>?_) (fun c2=>?_))
 ·have c2k:=c2
  cases c2
 have c2k:=c2
 try simp only [aC,aD] at c2
 refine .g (cP rfl rfl rfl rfl (.g (cD rfl (fun c3=>?_) (fun c3=>?_))))
 ·have c3k:=c3
  try simp only [aC,aD] at c3
  refine .seq (aL rfl rfl (aS rfl rfl (.nc (.ret (aM Tryz.results62 (.tmp rfl .nil) ?_)))))
  exact ⟨rfl,by unfold wH; rw [if_pos c3]; rfl⟩
 have c3k:=c3
 try simp only [aC,aD] at c3
 refine .g (cP rfl rfl rfl rfl (.g (cD rfl (fun c4=>?_) (fun c4=>?_))))
 ·have c4k:=c4
  try simp only [aC,aD] at c4
  refine .seq (aL rfl rfl (aS rfl rfl (.nc (.ret (aM Tryz.results62 (.tmp rfl .nil) ?_)))))
  exact ⟨rfl,by unfold wH; rw [if_neg (by omega),if_pos c4]; rfl⟩
 have c4k:=c4
 try simp only [aC,aD] at c4
 refine .skip (.code (.seq (aL rfl rfl (aS rfl rfl (.nc (.ret (aM Tryz.results62 (.tmp rfl .nil) ?_)))))))
 exact ⟨rfl,by unfold wH; rw [if_neg (by omega),if_neg (by omega)]; rfl⟩
theorem aL2 (x y:ByteArray) (G:PM):Ct Tryz.prog 63 ([.string x,.string y]:List Value).toArray G [] (fun _ μ' u=>μ'=[]∧u=.int .i64 (rL x y)):=by
 refine Ct.of Tryz.func63 rfl Tryz.ntmps63 rfl fun w0 hs0=>?_
 refine .g (kV rfl aKR (aB rfl aF) (aHN _ _) ?_)
 refine .g (kV rfl aKR (aB rfl aF) (aHN _ _) ?_)
 refine .g (cD rfl (fun c1=>?_) (fun c1=>?_))
 ·have c1k:=c1
  cases c1
 have c1k:=c1
 try simp only [aC,aD] at c1
 refine .g (cD rfl (fun c2=>?_) (fun c2=>?_))
 ·have c2k:=c2
  cases c2
 have c2k:=c2
 try simp only [aC,aD] at c2
 refine .g (cs rfl .no (.u rfl) (.u rfl) rfl (.g (cD rfl (fun c3=>?_) (fun c3=>?_))))
 ·have c3k:=c3
  try simp only [aC,aD] at c3
  refine .seq (aL rfl rfl (aS rfl rfl (.nc (.ret (aM Tryz.results63 (.tmp rfl .nil) ?_)))))
  exact ⟨rfl,by rw [aL1 c3k]; rfl⟩
 have c3k:=c3
 try simp only [aC,aD] at c3
 refine .g (cs rfl .no (.u rfl) (.u rfl) rfl (.g (cD rfl (fun c4=>?_) (fun c4=>?_))))
 ·have c4k:=c4
  try simp only [aC,aD] at c4
  refine .seq (aL rfl rfl (aS rfl rfl (.nc (.ret (aM Tryz.results63 (.tmp rfl .nil) ?_)))))
  exact ⟨rfl,by rw [aL0 c3k c4k]; rfl⟩
 have c4k:=c4
 try simp only [aC,aD] at c4
 refine .skip (.code (.seq (aL rfl rfl (aS rfl rfl (.nc (.ret (aM Tryz.results63 (.tmp rfl .nil) ?_)))))))
 exact ⟨rfl,by rw [aLz c3k c4k]; rfl⟩
theorem aAK (m:Meta) (g:Gone) (b:Nat) (G:PM) (hb:PB G b (cl g.cells 104)):Ct Tryz.prog 58 ([m.val,.pointer (some ⟨b,0,none⟩)]:List Value).toArray G [] (fun _ μ' u=>μ'=[]∧u=.bool (m.number == g.number)):=by
 refine Ct.of Tryz.func58 rfl Tryz.ntmps58 rfl fun w0 hs0=>?_
 refine .seq (bJ rfl rfl ?_)
 refine bX rfl rfl rfl ?_; intro b2
 refine .g (fZ rfl iR rfl (lO rfl bD rfl .here (by first|exact aJ rfl|rfl) ?_))
 refine fA rfl yJ rfl (lN rfl bD rfl ((hb.rd (by rfl)).rd) ?_)
 refine cP rfl rfl rfl rfl (aS rfl rfl (.nc (.ret (aM Tryz.results58 (.tmp rfl .nil) ?_))))
 exact ⟨rfl,rfl⟩
theorem aLy (a b:Meta) (i:Int) (q:Nat) (G:PM) (hb:PB G q (cl [.int .i64 i] 3)):Ct Tryz.prog 61 ([a.val,b.val,.pointer (some ⟨q,0,none⟩)]:List Value).toArray G [] (fun _ μ' u=>μ'=[]∧u=.int .i64 (jV i a b)):=by
 refine Ct.of Tryz.func61 rfl Tryz.ntmps61 rfl fun w0 hs0=>?_
 refine .seq (dU rfl rfl ?_)
 refine bX rfl rfl rfl ?_; intro b3
 refine bX rfl rfl rfl ?_; intro b4
 refine .g (lN rfl dH rfl ((hb.rd (by rfl)).rd) ?_)
 refine cP rfl rfl rfl rfl (.g (cD rfl (fun c1=>?_) (fun c1=>?_)))
 ·have c1k:=c1
  try simp only [aC,aD] at c1
  refine .g (fZ rfl iR rfl (lO rfl bD rfl .here (by first|exact aJ rfl|rfl) ?_))
  refine fZ rfl iR rfl (lO rfl bD rfl aE (by first|exact aJ rfl|rfl) ?_)
  refine kV rfl aTU (aB rfl (aB rfl aF)) (aL3 _ _ _) ?_
  refine aS rfl rfl (.nc (.ret (aM Tryz.results61 (.tmp rfl .nil) ?_)))
  exact ⟨rfl,by unfold jV; rw [if_pos (by simpa using c1k)]; rfl⟩
 have c1k:=c1
 try simp only [aC,aD] at c1
 refine .g (fZ rfl mM rfl (lO rfl iE rfl aE (by first|exact aJ rfl|rfl) ?_))
 refine fZ rfl mM rfl (lO rfl iE rfl .here (by first|exact aJ rfl|rfl) ?_)
 refine kV rfl aTV (aB rfl (aB rfl aF)) (aL2 _ _ _) ?_
 refine aS rfl rfl (.nc (.ret (aM Tryz.results61 (.tmp rfl .nil) ?_)))
 exact ⟨rfl,by unfold jV; rw [if_neg (by simpa using c1k)]; rfl⟩
theorem zV (i:Int) (q:Nat) {G:PM} (hb:PB G q (cl [.int .i64 i] 3)):CmpR Tryz.prog 61 [.pointer (some ⟨q,0,none⟩)] (jV i) G:=⟨fun G' hle a b=>aLy a b i q G' (hb.mono hle)⟩
theorem zW (i:Int):Wk0 (cG (jV i)):=by rw [aG6]; exact aBd i
theorem aAp:aU Tryz.prog 61=true:=by kernel_rfl
theorem aAn:aU Tryz.prog 59=true:=by kernel_rfl
theorem aAx:iD Tryz.prog 3=some ([.int .i64 0]):=by kernel_rfl
theorem aAo:aU Tryz.prog 60=true:=by kernel_rfl
set_option maxHeartbeats 8000000 in
theorem aLc (s:State) (hd:Nat→Sh) (e:Edit) (ha he:Sh) (G:PM) (hs:StR G s hd) (hE:EdR G e ha he):Ct Tryz.prog 21 ([s.val hd,e.val ha he]:List Value).toArray G [] (fun G' μ' u=>∃ X hdX err,AppR s e X err∧μ'=[]∧u=.tuple #[State.val X hdX,.int .i64 err]∧StR G' X hdX):=by
 refine Ct.of Tryz.func21 rfl Tryz.ntmps21 rfl fun w0 hs0=>?_
 have hea:=hE.add; have hed:=hE.drop
 refine .seq (gK rfl rfl ?_)
 refine bX rfl rfl rfl ?_; intro b2
 refine bX rfl rfl rfl ?_; intro b3
 refine al rfl yW ?_; intro b4
 refine .g (lB rfl eQ rfl aN ?_)
 refine kV rfl aKn (aB rfl aF) (aJg s hd _ hs) ?_
 refine nt rfl .no (.u rfl) (.g (cD rfl (fun c1=>?_) (fun c1=>?_)))
 ·have c1k:=c1
  try simp only [aC,aG,aD] at c1
  refine .g (bC rfl .no oW .nil rfl ?_)
  refine sw rfl (.u rfl) (.u rfl) rfl jC .here (by first|exact qE|exact qL|rfl) (iT) ?_
  refine aS rfl rfl (.nc (.ret (aM Tryz.results21 (.cell rfl (fun w hw=>bI eQ (RdN.own .here) ((by first|exact qE|exact qL|rfl)) hw) (.tmp rfl .nil)) ?_)))
  exact ⟨State.zero,eJ,1,.inl ⟨by simpa using c1k,rfl,rfl⟩,rfl,rfl,lH⟩
 have c1k:=c1
 try simp only [aC,aG,aD] at c1
 refine .skip (.code (.seq (.seq ?_)))
 have hri:fG s=true:=by simpa using c1k
 have hri':=vD hri
 refine .g (fZ rfl fW rfl (lO rfl cM rfl aE (by first|exact aJ rfl|rfl) ?_))
 refine lE rfl fH rfl (cP rfl rfl rfl rfl (.p (fz rfl (.f rfl rfl) kB (.u rfl) (ld rfl (.f rfl rfl) lP (.s rfl) (fun hc=>Rd.own aE (by first|exact aJ rfl|rfl)) ?_))))
 refine ln rfl (.f rfl rfl) rH (.s rfl) (cp rfl (.f rfl rfl) (.s rfl) (.u rfl) rfl (cK rfl .no (.u rfl) (.s rfl) (.p (lA rfl (.f rfl rfl) eQ (.u rfl) (fun _=>RdN.own aN) (fun _=>(by first|exact qE|exact qL|rfl)) ?_))))
 refine lA rfl (.f rfl rfl) oU (.u rfl) (fun _=>RdN.own aE) (fun _=>(by first|exact qE|exact qL|rfl)) ?_
 refine kv rfl (.f rfl rfl) aTT (Eva.cons (.s rfl) (Eva.cons (.s rfl) aF)) (fun hc=>aLm s hd _ e ha he) ?_
 refine cK rfl .no (.u rfl) (.s rfl) (.g (cD rfl (fun c2=>?_) (fun c2=>?_)))
 ·have c2k:=c2
  try simp only [aC,aG,aD] at c2
  refine .g (bC rfl .no oW .nil rfl ?_)
  refine sw rfl (.u rfl) (.u rfl) rfl jC .here (by first|exact qE|exact qL|rfl) (iT) ?_
  refine aS rfl rfl (.nc (.ret (aM Tryz.results21 (.cell rfl (fun w hw=>bI eQ (RdN.own .here) ((by first|exact qE|exact qL|rfl)) hw) (.tmp rfl .nil)) ?_)))
  exact ⟨State.zero,eJ,180,.inr (.inl ⟨hri,aLb c2k,rfl,rfl⟩),rfl,rfl,lH⟩
 have c2k:=c2
 try simp only [aC,aG,aD] at c2
 refine .skip (.code (.seq ?_))
 obtain ⟨hok,hla,hld⟩:=aON c2k
 have hfw:=hri'.few
 refine .g (fZ rfl vO rfl (lO rfl bD rfl aE (by first|exact aJ rfl|rfl) ?_))
 refine fZ rfl tX rfl (lO rfl bD rfl aE (by first|exact aJ rfl|rfl) ?_)
 refine fZ rfl tY rfl (lO rfl bD rfl aE (by first|exact aJ rfl|rfl) ?_)
 refine fZ rfl tZ rfl (lO rfl bD rfl aE (by first|exact aJ rfl|rfl) ?_)
 refine fZ rfl uA rfl (lA rfl .no vX (.u rfl) (fun _=>RdN.part (n:=5) (cs':=(List.range 5).map (fun i=>.int .u64 (e.gens i))) aE (rfl)) (fun _=>rfl) (fZ rfl dI rfl (lA rfl .no aCL (.u rfl) (fun _=>RdN.part (n:=5) (cs':=(List.range 5).map (fun i=>(hd i).val (s.lv i).length)) aN (rfl)) (fun _=>rfl) ?_)))
 refine dK (xC ((hd 0).val (s.lv 0).length) ((hd 1).val (s.lv 1).length) ((hd 2).val (s.lv 2).length) ((hd 3).val (s.lv 3).length) ((hd 4).val (s.lv 4).length) e) rfl .no aSb (.cons (.u rfl) rfl (.cons (.u rfl) rfl (.cons (.u rfl) rfl (.cons (.u rfl) rfl (.cons (.u rfl) rfl (.cons (.u rfl) rfl .nil)))))) rfl (rfl) ?_
 refine al rfl yW ?_; intro b6
 refine sw rfl (.u rfl) (.u rfl) rfl jC .here (by first|exact qE|exact qL|rfl) (aSP rfl rfl rfl rfl rfl) ?_
 refine .nil (.code (.seq (.seq (nW 40 Meta.cells 98 (nW 40 Meta.cells 98 (nW 40 Meta.cells 98 (nW 40 Meta.cells 98 (nW 40 Meta.cells 98 (aL rfl rfl (mV rfl rfl (.nc (.block ?_))))))))))))
 refine aV (α:=Nat×Value×Value×Value×Value×Value) (fun gh=>[(49,true,.int .i64 (gh.1:Int))]) (fun gh=>[rS 40 Meta.cells gh.2.2.2.2.2 98 (pk gh.1 4 (s.lv 4) []),rS 40 Meta.cells gh.2.2.2.2.1 98 (pk gh.1 3 (s.lv 3) []),rS 40 Meta.cells gh.2.2.2.1 98 (pk gh.1 2 (s.lv 2) []),rS 40 Meta.cells gh.2.2.1 98 (pk gh.1 1 (s.lv 1) []),rS 40 Meta.cells gh.2.1 98 (pk gh.1 0 (s.lv 0) []),.blk b6 (cl (xC (pk gh.1 0 gh.2.1 ((hd 0).val (s.lv 0).length)) (pk gh.1 1 gh.2.2.1 ((hd 1).val (s.lv 1).length)) (pk gh.1 2 gh.2.2.2.1 ((hd 2).val (s.lv 2).length)) (pk gh.1 3 gh.2.2.2.2.1 ((hd 3).val (s.lv 3).length)) (pk gh.1 4 gh.2.2.2.2.2 ((hd 4).val (s.lv 4).length)) e) 33)])
  (fun gh Gl=>(gh.1≤5)) (fun gh=>5-gh.1) (0,.slice none 0 0,.slice none 0 0,.slice none 0 0,.slice none 0 0,.slice none 0 0) [(3,true,_),(4,true,_),(6,true,_)] [_,_,_]
  (aK rfl (aA rfl (aA rfl (aA rfl eZ))))
  (mS .here rfl (mS .here rfl (mS .here rfl (mS .here rfl (mS .here rfl (mS .here rfl (mS .here rfl (mS .here rfl (mS .here rfl mN))))))))) ?_ ?_
 ·(try dsimp only)<;>(first|omega|rfl|assumption|(simp; done))
 intro gh N0 Gl0 hN0 hGl0 hF0
 obtain ⟨k,w0,w1,w2,w3,w4⟩:=gh; dsimp only at hF0 hN0 ⊢
 have hk:=hF0
 have hs:=hs.mono hGl0
 have hea:=hea.mono hGl0
 have hed:=hed.mono hGl0
 refine .g (cP rfl rfl rfl rfl (.g (cD rfl (fun c3=>?_) (fun c3=>?_))))
 ·have c3k:=c3
  try simp only [aC,aG,aD] at c3
  refine .skip (.code (.seq (.block (.seq (bJ rfl rfl (mV rfl rfl (aS rfl rfl (.nc ?_))))))))
  rcases (show k=0∨k=1∨k=2∨k=3∨k=4 by omega) with rfl|rfl|rfl|rfl|rfl
  ·refine .g (fZ rfl dI rfl (iW rfl cS rfl rfl ?_))
   refine ld (v:=((hd 0).val (s.lv 0).length)) rfl .no cM (.u rfl) (fun _=>Rd.own eI rfl) ?_
   refine kc rfl aAk (aB rfl aF) (zI (hd 0) (s.lv 0) _ (hs.lv 0 (by decide)) (by have:=rT s (i:=0) (by decide); omega)) ?_
   rintro v57 G57 μ57 hG57 ⟨ov57,rfl⟩
   have hs:=hs.mono hG57
   have hea:=hea.mono hG57
   have hed:=hed.mono hG57
   refine fZ rfl dI rfl (iW rfl cS rfl rfl ?_)
   refine dE rfl (.u rfl) (.u rfl) .here dS jJ (by show _<14; decide) (rfl) ?_
   refine .g (aW (((0+1):Nat):Int) rfl rfl rfl rfl ?_)
   refine .g (aP (1,v57,w1,w2,w3,w4) ?_ ?_ ?_ ?_ ?_)
   ·exact (aK rfl (aA rfl (aA rfl (aA rfl eZ))))
   ·exact (mS aN rfl (mS aN rfl (mS aN rfl (mS aN rfl (mS aE rfl (mS .here rfl (mS aE rfl (mS aE rfl (mS aE rfl mN)))))))))
   ·first|omega|(dsimp only; omega)
   ·exact (hGl0).trans hG57
   (try dsimp only)<;>(first|omega|rfl|assumption|(simp; done))
  ·refine .g (fZ rfl dI rfl (iW rfl cS rfl rfl ?_))
   refine ld (v:=((hd 1).val (s.lv 1).length)) rfl .no cM (.u rfl) (fun _=>Rd.own eI rfl) ?_
   refine kc rfl aAk (aB rfl aF) (zI (hd 1) (s.lv 1) _ (hs.lv 1 (by decide)) (by have:=rT s (i:=1) (by decide); omega)) ?_
   rintro v57 G57 μ57 hG57 ⟨ov57,rfl⟩
   have hs:=hs.mono hG57
   have hea:=hea.mono hG57
   have hed:=hed.mono hG57
   refine fZ rfl dI rfl (iW rfl cS rfl rfl ?_)
   refine dE rfl (.u rfl) (.u rfl) .here dS jJ (by show _<14; decide) (rfl) ?_
   refine .g (aW (((1+1):Nat):Int) rfl rfl rfl rfl ?_)
   refine .g (aP (2,w0,v57,w2,w3,w4) ?_ ?_ ?_ ?_ ?_)
   ·exact (aK rfl (aA rfl (aA rfl (aA rfl eZ))))
   ·exact (mS aN rfl (mS aN rfl (mS aN rfl (mS aE rfl (mS aN rfl (mS .here rfl (mS aE rfl (mS aE rfl (mS aE rfl mN)))))))))
   ·first|omega|(dsimp only; omega)
   ·exact (hGl0).trans hG57
   (try dsimp only)<;>(first|omega|rfl|assumption|(simp; done))
  ·refine .g (fZ rfl dI rfl (iW rfl cS rfl rfl ?_))
   refine ld (v:=((hd 2).val (s.lv 2).length)) rfl .no cM (.u rfl) (fun _=>Rd.own eI rfl) ?_
   refine kc rfl aAk (aB rfl aF) (zI (hd 2) (s.lv 2) _ (hs.lv 2 (by decide)) (by have:=rT s (i:=2) (by decide); omega)) ?_
   rintro v57 G57 μ57 hG57 ⟨ov57,rfl⟩
   have hs:=hs.mono hG57
   have hea:=hea.mono hG57
   have hed:=hed.mono hG57
   refine fZ rfl dI rfl (iW rfl cS rfl rfl ?_)
   refine dE rfl (.u rfl) (.u rfl) .here dS jJ (by show _<14; decide) (rfl) ?_
   refine .g (aW (((2+1):Nat):Int) rfl rfl rfl rfl ?_)
   refine .g (aP (3,w0,w1,v57,w3,w4) ?_ ?_ ?_ ?_ ?_)
   ·exact (aK rfl (aA rfl (aA rfl (aA rfl eZ))))
   ·exact (mS aN rfl (mS aN rfl (mS aE rfl (mS aN rfl (mS aN rfl (mS .here rfl (mS aE rfl (mS aE rfl (mS aE rfl mN)))))))))
   ·first|omega|(dsimp only; omega)
   ·exact (hGl0).trans hG57
   (try dsimp only)<;>(first|omega|rfl|assumption|(simp; done))
  ·refine .g (fZ rfl dI rfl (iW rfl cS rfl rfl ?_))
   refine ld (v:=((hd 3).val (s.lv 3).length)) rfl .no cM (.u rfl) (fun _=>Rd.own eI rfl) ?_
   refine kc rfl aAk (aB rfl aF) (zI (hd 3) (s.lv 3) _ (hs.lv 3 (by decide)) (by have:=rT s (i:=3) (by decide); omega)) ?_
   rintro v57 G57 μ57 hG57 ⟨ov57,rfl⟩
   have hs:=hs.mono hG57
   have hea:=hea.mono hG57
   have hed:=hed.mono hG57
   refine fZ rfl dI rfl (iW rfl cS rfl rfl ?_)
   refine dE rfl (.u rfl) (.u rfl) .here dS jJ (by show _<14; decide) (rfl) ?_
   refine .g (aW (((3+1):Nat):Int) rfl rfl rfl rfl ?_)
   refine .g (aP (4,w0,w1,w2,v57,w4) ?_ ?_ ?_ ?_ ?_)
   ·exact (aK rfl (aA rfl (aA rfl (aA rfl eZ))))
   ·exact (mS aN rfl (mS aE rfl (mS aN rfl (mS aN rfl (mS aN rfl (mS .here rfl (mS aE rfl (mS aE rfl (mS aE rfl mN)))))))))
   ·first|omega|(dsimp only; omega)
   ·exact (hGl0).trans hG57
   (try dsimp only)<;>(first|omega|rfl|assumption|(simp; done))
  refine .g (fZ rfl dI rfl (iW rfl cS rfl rfl ?_))
  refine ld (v:=((hd 4).val (s.lv 4).length)) rfl .no cM (.u rfl) (fun _=>Rd.own eI rfl) ?_
  refine kc rfl aAk (aB rfl aF) (zI (hd 4) (s.lv 4) _ (hs.lv 4 (by decide)) (by have:=rT s (i:=4) (by decide); omega)) ?_
  rintro v57 G57 μ57 hG57 ⟨ov57,rfl⟩
  have hs:=hs.mono hG57
  have hea:=hea.mono hG57
  have hed:=hed.mono hG57
  refine fZ rfl dI rfl (iW rfl cS rfl rfl ?_)
  refine dE rfl (.u rfl) (.u rfl) .here dS jJ (by show _<14; decide) (rfl) ?_
  refine .g (aW (((4+1):Nat):Int) rfl rfl rfl rfl ?_)
  refine .g (aP (5,w0,w1,w2,w3,v57) ?_ ?_ ?_ ?_ ?_)
  ·exact (aK rfl (aA rfl (aA rfl (aA rfl eZ))))
  ·exact (mS aE rfl (mS aN rfl (mS aN rfl (mS aN rfl (mS aN rfl (mS .here rfl (mS aE rfl (mS aE rfl (mS aE rfl mN)))))))))
  ·first|omega|(dsimp only; omega)
  ·exact (hGl0).trans hG57
  (try dsimp only)<;>(first|omega|rfl|assumption|(simp; done))
 have c3k:=c3
 try simp only [aC,aG,aD] at c3
 refine .g (fZ rfl kB rfl (lO rfl lP rfl jK (by first|exact aJ rfl|rfl) ?_))
 refine lE rfl rH rfl (mV rfl rfl (.nc (.block ?_)))
 obtain rfl:k=5:=by omega
 refine aV (α:=Nat×Value×Value×Value×Value×Value×bE) (fun gh=>[(64,true,.int .i64 (gh.1:Int))]) (fun gh=>[rS 40 Meta.cells gh.2.2.2.2.2.1 98 (gh.2.2.2.2.2.2 4),rS 40 Meta.cells gh.2.2.2.2.1 98 (gh.2.2.2.2.2.2 3),rS 40 Meta.cells gh.2.2.2.1 98 (gh.2.2.2.2.2.2 2),rS 40 Meta.cells gh.2.2.1 98 (gh.2.2.2.2.2.2 1),rS 40 Meta.cells gh.2.1 98 (gh.2.2.2.2.2.2 0),.blk b6 (cl (xC gh.2.1 gh.2.2.1 gh.2.2.2.1 gh.2.2.2.2.1 gh.2.2.2.2.2.1 e) 33)])
  (fun gh Gl=>(gh.1≤e.drop.length)∧(cF dV (e.drop.take gh.1) s.lv=some gh.2.2.2.2.2.2)) (fun gh=>e.drop.length-gh.1) (0,w0,w1,w2,w3,w4,s.lv) [(3,true,_),(4,true,_),(6,true,_),(62,true,_),(63,true,_)] [_,_,_]
  (aK rfl (aA rfl (aA rfl (aA rfl (aA rfl (aA rfl eZ))))))
  (mS .here rfl (mS .here rfl (mS .here rfl (mS .here rfl (mS .here rfl (mS .here rfl (mS .here rfl (mS .here rfl (mS .here rfl mN))))))))) ?_ ?_
 ·refine ⟨?_,?_⟩
  ·(try dsimp only)<;>(first|omega|rfl|assumption|(simp; done))
  (try dsimp only)<;>(rfl)
 intro gh N1 Gl1 hN1 hGl1 hF1
 obtain ⟨j,w0,w1,w2,w3,w4,L⟩:=gh; dsimp only at hF1 hN1 ⊢
 obtain ⟨hj,hL⟩:=hF1
 have hs:=hs.mono hGl1
 have hea:=hea.mono hGl1
 have hed:=hed.mono hGl1
 refine .g (cP rfl rfl rfl rfl (.g (cD rfl (fun c4=>?_) (fun c4=>?_))))
 ·have c4k:=c4
  try simp only [aC,aG,aD] at c4
  refine .skip (.code (.seq (.block (.seq (gK rfl rfl ?_)))))
  obtain ⟨g,eg⟩:=iJ (k:=j) (xs:=e.drop) (by omega)
  have hwg:=(hE.wf.drop g (List.mem_of_getElem? eg)).level
  refine ih rfl .no pB (.u rfl) (.u rfl) (by omega) (by omega) (fun _=>hed.nn (k:=j) (by first|omega|(simp only [Bool.and_eq_true,decide_eq_true_eq] at hc; omega)|(simp only [List.length_cons,List.length_nil]; omega))) ?_
  refine lA rfl .no aAZ (.u rfl) (fun _=>(hed.at (by omega) eg).rd) (fun _=>rfl) ?_
  refine al rfl aAv ?_; intro b9
  refine sw rfl (.u rfl) (.u rfl) rfl aAq .here rfl (uR) ?_
  refine .g (fZ rfl oY rfl (lO rfl aZ rfl .here (by first|exact aJ rfl|rfl) ?_))
  refine cP rfl rfl rfl rfl (.g (cD rfl (fun c5=>?_) (fun c5=>?_)))
  ·have c5k:=c5
   try simp only [aC,aG,aD] at c5
   refine .g (bC rfl .no oW .nil rfl ?_)
   refine sw rfl (.u rfl) (.u rfl) rfl jC jK (by first|exact qE|exact qL|rfl) (iT) ?_
   refine aS rfl rfl (.nc (.ret (aM Tryz.results21 (.cell rfl (fun w hw=>bI eQ (RdN.own .here) ((by first|exact qE|exact qL|rfl)) hw) (.tmp rfl .nil)) ?_)))
   exact ⟨State.zero,eJ,180,.inr (.inl ⟨hri,sL (qK eg hL (aFw (by omega))),rfl,rfl⟩),rfl,rfl,lH⟩
  have c5k:=c5
  try simp only [aC,aG,aD] at c5
  refine .skip (.code (.seq ?_))
  have hg5:g.level=0∨g.level=1∨g.level=2∨g.level=3∨g.level=4:=by omega
  rcases hg5 with hg5 | hg5 | hg5 | hg5 | hg5
  ·refine fP .here (by intro b hb; cases hb) ?_; intro Gfb9 hleb9 hbb9
   have hs:=hs.mono hleb9
   have hea:=hea.mono hleb9
   refine .g (fA rfl oY rfl (lN rfl aZ rfl ((hbb9.rd (by rfl)).rd) ?_))
   refine fZ rfl dI rfl (iW rfl cS rfl rfl ?_)
   rw [show 0+g.level.toNat*1=0 from by rw [hg5]; rfl]
   refine aS rfl rfl (.nc (.seq ?_))
   have hll:=pG hri' hL (i:=0) (by decide)
   refine .g (nC rfl rfl (lO rfl cM rfl eI (by first|exact aJ rfl|rfl) ?_))
   refine mf (vf:=#[]) (vc:=[Value.pointer (some ⟨b9,0,none⟩)].toArray) rfl .no (fun a ha _=>by simp) (fun a ha _=>by simp [(Ev.u (c:=true) rfl:Ev _ true (.tmp 9) _).eval ha rfl]) ?_
   refine ka rfl (.inr rfl) aAl (aB rfl (aB rfl aF)) (bL cJ) (yE (Q:=fun ν u=>ν=[]∧u=.int .i64 (fD (fJ g) (L 0))) (fun _ _=>Meta.len _) (fun sh G2 hle hv hsl=>by subst hv; exact zT sh (L 0) G2 hsl (by omega) 58 aAm [.pointer (some ⟨b9,0,none⟩)] (fJ g) (fun G3 h3 m _=>aAK m g b9 G3 (hbb9.mono (hle.trans h3))))) ?_
   rintro _ G80 μ80 hG80 ⟨_,rfl,rfl,rfl⟩
   have hs:=hs.mono hG80
   have hea:=hea.mono hG80
   have hbb9:=hbb9.mono hG80
   refine .g (cP rfl rfl rfl rfl (.g (cD rfl (fun c6=>?_) (fun c6=>?_))))
   ·have c6k:=c6
    try simp only [aC,aG,aD] at c6
    refine .g (bC rfl .no oW .nil rfl ?_)
    refine sw rfl (.u rfl) (.u rfl) rfl jC jJ (by first|exact qE|exact qL|rfl) (iT) ?_
    refine aS rfl rfl (.nc (.ret (aM Tryz.results21 (.cell rfl (fun w hw=>bI eQ (RdN.own .here) ((by first|exact qE|exact qL|rfl)) hw) (.tmp rfl .nil)) ?_)))
    exact ⟨State.zero,eJ,180,.inr (.inl ⟨hri,sL (qK eg hL (zL (q:=0) hg5 (by assumption))),rfl,rfl⟩),rfl,rfl,lH⟩
   have c6k:=c6
   try simp only [aC,aG,aD] at c6
   refine .skip (.code ?_)
   obtain ⟨kk,hk1,hk2⟩ : ∃ kk:Nat,fD (fJ g) (L 0)=(kk:Int)∧kk<(L 0).length:=⟨_,(qN (by omega)).2,(qN (by omega)).1⟩
   rw [hk1]
   refine .g (nC rfl rfl (lO rfl cM rfl eI (by first|exact aJ rfl|rfl) ?_))
   refine .p (aW (((kk+1):Nat):Int) rfl rfl rfl rfl ?_)
   refine ka rfl (.inr rfl) aAn (aB rfl (aB rfl (aB rfl aF))) (bL .here) (zJ (L 0) w0 kk _ hk2 (by omega)) ?_
   rintro v91 G91 μ91 hG91 rfl
   have hs:=hs.mono hG91
   have hea:=hea.mono hG91
   have hbb9:=hbb9.mono hG91
   refine nC rfl rfl (dE rfl (.u rfl) (.u rfl) .here dS eI (by show _<14; first|decide|omega) (rfl) ?_)
   refine .g (aW (((j+1):Nat):Int) rfl rfl rfl rfl ?_)
   refine .g (aP (j+1,v91,w1,w2,w3,w4,cW L 0 ((L 0).take kk++(L 0).drop (kk+1))) ?_ ?_ ?_ ?_ ?_)
   ·exact (aK rfl (aA rfl (aA rfl (aA rfl (aA rfl (aA rfl eZ))))))
   ·exact (mS aN rfl (mS aN rfl (mS aN rfl (mS aN rfl (mS aE rfl (mS .here rfl (mS .here rfl (mS .here rfl (mS .here rfl mN)))))))))
   ·first|omega|(dsimp only; omega)
   ·exact (((hGl1).trans hleb9).trans hG80).trans hG91
   refine ⟨?_,?_⟩
   ·(try dsimp only)<;>(first|omega|rfl|assumption|(simp; done))
   (try dsimp only)<;>(exact gW eg hL (zK hg5 (by decide) hk1))
  ·refine fP .here (by intro b hb; cases hb) ?_; intro Gfb9 hleb9 hbb9
   have hs:=hs.mono hleb9
   have hea:=hea.mono hleb9
   refine .g (fA rfl oY rfl (lN rfl aZ rfl ((hbb9.rd (by rfl)).rd) ?_))
   refine fZ rfl dI rfl (iW rfl cS rfl rfl ?_)
   rw [show 0+g.level.toNat*1=1 from by rw [hg5]; rfl]
   refine aS rfl rfl (.nc (.seq ?_))
   have hll:=pG hri' hL (i:=1) (by decide)
   refine .g (nC rfl rfl (lO rfl cM rfl eI (by first|exact aJ rfl|rfl) ?_))
   refine mf (vf:=#[]) (vc:=[Value.pointer (some ⟨b9,0,none⟩)].toArray) rfl .no (fun a ha _=>by simp) (fun a ha _=>by simp [(Ev.u (c:=true) rfl:Ev _ true (.tmp 9) _).eval ha rfl]) ?_
   refine ka rfl (.inr rfl) aAl (aB rfl (aB rfl aF)) (bL bB) (yE (Q:=fun ν u=>ν=[]∧u=.int .i64 (fD (fJ g) (L 1))) (fun _ _=>Meta.len _) (fun sh G2 hle hv hsl=>by subst hv; exact zT sh (L 1) G2 hsl (by omega) 58 aAm [.pointer (some ⟨b9,0,none⟩)] (fJ g) (fun G3 h3 m _=>aAK m g b9 G3 (hbb9.mono (hle.trans h3))))) ?_
   rintro _ G80 μ80 hG80 ⟨_,rfl,rfl,rfl⟩
   have hs:=hs.mono hG80
   have hea:=hea.mono hG80
   have hbb9:=hbb9.mono hG80
   refine .g (cP rfl rfl rfl rfl (.g (cD rfl (fun c7=>?_) (fun c7=>?_))))
   ·have c7k:=c7
    try simp only [aC,aG,aD] at c7
    refine .g (bC rfl .no oW .nil rfl ?_)
    refine sw rfl (.u rfl) (.u rfl) rfl jC jJ (by first|exact qE|exact qL|rfl) (iT) ?_
    refine aS rfl rfl (.nc (.ret (aM Tryz.results21 (.cell rfl (fun w hw=>bI eQ (RdN.own .here) ((by first|exact qE|exact qL|rfl)) hw) (.tmp rfl .nil)) ?_)))
    exact ⟨State.zero,eJ,180,.inr (.inl ⟨hri,sL (qK eg hL (zL (q:=1) hg5 (by assumption))),rfl,rfl⟩),rfl,rfl,lH⟩
   have c7k:=c7
   try simp only [aC,aG,aD] at c7
   refine .skip (.code ?_)
   obtain ⟨kk,hk1,hk2⟩ : ∃ kk:Nat,fD (fJ g) (L 1)=(kk:Int)∧kk<(L 1).length:=⟨_,(qN (by omega)).2,(qN (by omega)).1⟩
   rw [hk1]
   refine .g (nC rfl rfl (lO rfl cM rfl eI (by first|exact aJ rfl|rfl) ?_))
   refine .p (aW (((kk+1):Nat):Int) rfl rfl rfl rfl ?_)
   refine ka rfl (.inr rfl) aAn (aB rfl (aB rfl (aB rfl aF))) (bL .here) (zJ (L 1) w1 kk _ hk2 (by omega)) ?_
   rintro v91 G91 μ91 hG91 rfl
   have hs:=hs.mono hG91
   have hea:=hea.mono hG91
   have hbb9:=hbb9.mono hG91
   refine nC rfl rfl (dE rfl (.u rfl) (.u rfl) .here dS eI (by show _<14; first|decide|omega) (rfl) ?_)
   refine .g (aW (((j+1):Nat):Int) rfl rfl rfl rfl ?_)
   refine .g (aP (j+1,w0,v91,w2,w3,w4,cW L 1 ((L 1).take kk++(L 1).drop (kk+1))) ?_ ?_ ?_ ?_ ?_)
   ·exact (aK rfl (aA rfl (aA rfl (aA rfl (aA rfl (aA rfl eZ))))))
   ·exact (mS aN rfl (mS aN rfl (mS aN rfl (mS aE rfl (mS aE rfl (mS .here rfl (mS .here rfl (mS .here rfl (mS .here rfl mN)))))))))
   ·first|omega|(dsimp only; omega)
   ·exact (((hGl1).trans hleb9).trans hG80).trans hG91
   refine ⟨?_,?_⟩
   ·(try dsimp only)<;>(first|omega|rfl|assumption|(simp; done))
   (try dsimp only)<;>(exact gW eg hL (zK hg5 (by decide) hk1))
  ·refine fP .here (by intro b hb; cases hb) ?_; intro Gfb9 hleb9 hbb9
   have hs:=hs.mono hleb9
   have hea:=hea.mono hleb9
   refine .g (fA rfl oY rfl (lN rfl aZ rfl ((hbb9.rd (by rfl)).rd) ?_))
   refine fZ rfl dI rfl (iW rfl cS rfl rfl ?_)
   rw [show 0+g.level.toNat*1=2 from by rw [hg5]; rfl]
   refine aS rfl rfl (.nc (.seq ?_))
   have hll:=pG hri' hL (i:=2) (by decide)
   refine .g (nC rfl rfl (lO rfl cM rfl eI (by first|exact aJ rfl|rfl) ?_))
   refine mf (vf:=#[]) (vc:=[Value.pointer (some ⟨b9,0,none⟩)].toArray) rfl .no (fun a ha _=>by simp) (fun a ha _=>by simp [(Ev.u (c:=true) rfl:Ev _ true (.tmp 9) _).eval ha rfl]) ?_
   refine ka rfl (.inr rfl) aAl (aB rfl (aB rfl aF)) (bL aN) (yE (Q:=fun ν u=>ν=[]∧u=.int .i64 (fD (fJ g) (L 2))) (fun _ _=>Meta.len _) (fun sh G2 hle hv hsl=>by subst hv; exact zT sh (L 2) G2 hsl (by omega) 58 aAm [.pointer (some ⟨b9,0,none⟩)] (fJ g) (fun G3 h3 m _=>aAK m g b9 G3 (hbb9.mono (hle.trans h3))))) ?_
   rintro _ G80 μ80 hG80 ⟨_,rfl,rfl,rfl⟩
   have hs:=hs.mono hG80
   have hea:=hea.mono hG80
   have hbb9:=hbb9.mono hG80
   refine .g (cP rfl rfl rfl rfl (.g (cD rfl (fun c8=>?_) (fun c8=>?_))))
   ·have c8k:=c8
    try simp only [aC,aG,aD] at c8
    refine .g (bC rfl .no oW .nil rfl ?_)
    refine sw rfl (.u rfl) (.u rfl) rfl jC jJ (by first|exact qE|exact qL|rfl) (iT) ?_
    refine aS rfl rfl (.nc (.ret (aM Tryz.results21 (.cell rfl (fun w hw=>bI eQ (RdN.own .here) ((by first|exact qE|exact qL|rfl)) hw) (.tmp rfl .nil)) ?_)))
    exact ⟨State.zero,eJ,180,.inr (.inl ⟨hri,sL (qK eg hL (zL (q:=2) hg5 (by assumption))),rfl,rfl⟩),rfl,rfl,lH⟩
   have c8k:=c8
   try simp only [aC,aG,aD] at c8
   refine .skip (.code ?_)
   obtain ⟨kk,hk1,hk2⟩ : ∃ kk:Nat,fD (fJ g) (L 2)=(kk:Int)∧kk<(L 2).length:=⟨_,(qN (by omega)).2,(qN (by omega)).1⟩
   rw [hk1]
   refine .g (nC rfl rfl (lO rfl cM rfl eI (by first|exact aJ rfl|rfl) ?_))
   refine .p (aW (((kk+1):Nat):Int) rfl rfl rfl rfl ?_)
   refine ka rfl (.inr rfl) aAn (aB rfl (aB rfl (aB rfl aF))) (bL .here) (zJ (L 2) w2 kk _ hk2 (by omega)) ?_
   rintro v91 G91 μ91 hG91 rfl
   have hs:=hs.mono hG91
   have hea:=hea.mono hG91
   have hbb9:=hbb9.mono hG91
   refine nC rfl rfl (dE rfl (.u rfl) (.u rfl) .here dS eI (by show _<14; first|decide|omega) (rfl) ?_)
   refine .g (aW (((j+1):Nat):Int) rfl rfl rfl rfl ?_)
   refine .g (aP (j+1,w0,w1,v91,w3,w4,cW L 2 ((L 2).take kk++(L 2).drop (kk+1))) ?_ ?_ ?_ ?_ ?_)
   ·exact (aK rfl (aA rfl (aA rfl (aA rfl (aA rfl (aA rfl eZ))))))
   ·exact (mS aN rfl (mS aN rfl (mS aE rfl (mS aE rfl (mS aE rfl (mS .here rfl (mS .here rfl (mS .here rfl (mS .here rfl mN)))))))))
   ·first|omega|(dsimp only; omega)
   ·exact (((hGl1).trans hleb9).trans hG80).trans hG91
   refine ⟨?_,?_⟩
   ·(try dsimp only)<;>(first|omega|rfl|assumption|(simp; done))
   (try dsimp only)<;>(exact gW eg hL (zK hg5 (by decide) hk1))
  ·refine fP .here (by intro b hb; cases hb) ?_; intro Gfb9 hleb9 hbb9
   have hs:=hs.mono hleb9
   have hea:=hea.mono hleb9
   refine .g (fA rfl oY rfl (lN rfl aZ rfl ((hbb9.rd (by rfl)).rd) ?_))
   refine fZ rfl dI rfl (iW rfl cS rfl rfl ?_)
   rw [show 0+g.level.toNat*1=3 from by rw [hg5]; rfl]
   refine aS rfl rfl (.nc (.seq ?_))
   have hll:=pG hri' hL (i:=3) (by decide)
   refine .g (nC rfl rfl (lO rfl cM rfl eI (by first|exact aJ rfl|rfl) ?_))
   refine mf (vf:=#[]) (vc:=[Value.pointer (some ⟨b9,0,none⟩)].toArray) rfl .no (fun a ha _=>by simp) (fun a ha _=>by simp [(Ev.u (c:=true) rfl:Ev _ true (.tmp 9) _).eval ha rfl]) ?_
   refine ka rfl (.inr rfl) aAl (aB rfl (aB rfl aF)) (bL aE) (yE (Q:=fun ν u=>ν=[]∧u=.int .i64 (fD (fJ g) (L 3))) (fun _ _=>Meta.len _) (fun sh G2 hle hv hsl=>by subst hv; exact zT sh (L 3) G2 hsl (by omega) 58 aAm [.pointer (some ⟨b9,0,none⟩)] (fJ g) (fun G3 h3 m _=>aAK m g b9 G3 (hbb9.mono (hle.trans h3))))) ?_
   rintro _ G80 μ80 hG80 ⟨_,rfl,rfl,rfl⟩
   have hs:=hs.mono hG80
   have hea:=hea.mono hG80
   have hbb9:=hbb9.mono hG80
   refine .g (cP rfl rfl rfl rfl (.g (cD rfl (fun c9=>?_) (fun c9=>?_))))
   ·have c9k:=c9
    try simp only [aC,aG,aD] at c9
    refine .g (bC rfl .no oW .nil rfl ?_)
    refine sw rfl (.u rfl) (.u rfl) rfl jC jJ (by first|exact qE|exact qL|rfl) (iT) ?_
    refine aS rfl rfl (.nc (.ret (aM Tryz.results21 (.cell rfl (fun w hw=>bI eQ (RdN.own .here) ((by first|exact qE|exact qL|rfl)) hw) (.tmp rfl .nil)) ?_)))
    exact ⟨State.zero,eJ,180,.inr (.inl ⟨hri,sL (qK eg hL (zL (q:=3) hg5 (by assumption))),rfl,rfl⟩),rfl,rfl,lH⟩
   have c9k:=c9
   try simp only [aC,aG,aD] at c9
   refine .skip (.code ?_)
   obtain ⟨kk,hk1,hk2⟩ : ∃ kk:Nat,fD (fJ g) (L 3)=(kk:Int)∧kk<(L 3).length:=⟨_,(qN (by omega)).2,(qN (by omega)).1⟩
   rw [hk1]
   refine .g (nC rfl rfl (lO rfl cM rfl eI (by first|exact aJ rfl|rfl) ?_))
   refine .p (aW (((kk+1):Nat):Int) rfl rfl rfl rfl ?_)
   refine ka rfl (.inr rfl) aAn (aB rfl (aB rfl (aB rfl aF))) (bL .here) (zJ (L 3) w3 kk _ hk2 (by omega)) ?_
   rintro v91 G91 μ91 hG91 rfl
   have hs:=hs.mono hG91
   have hea:=hea.mono hG91
   have hbb9:=hbb9.mono hG91
   refine nC rfl rfl (dE rfl (.u rfl) (.u rfl) .here dS eI (by show _<14; first|decide|omega) (rfl) ?_)
   refine .g (aW (((j+1):Nat):Int) rfl rfl rfl rfl ?_)
   refine .g (aP (j+1,w0,w1,w2,v91,w4,cW L 3 ((L 3).take kk++(L 3).drop (kk+1))) ?_ ?_ ?_ ?_ ?_)
   ·exact (aK rfl (aA rfl (aA rfl (aA rfl (aA rfl (aA rfl eZ))))))
   ·exact (mS aN rfl (mS aE rfl (mS aE rfl (mS aE rfl (mS aE rfl (mS .here rfl (mS .here rfl (mS .here rfl (mS .here rfl mN)))))))))
   ·first|omega|(dsimp only; omega)
   ·exact (((hGl1).trans hleb9).trans hG80).trans hG91
   refine ⟨?_,?_⟩
   ·(try dsimp only)<;>(first|omega|rfl|assumption|(simp; done))
   (try dsimp only)<;>(exact gW eg hL (zK hg5 (by decide) hk1))
  refine fP .here (by intro b hb; cases hb) ?_; intro Gfb9 hleb9 hbb9
  have hs:=hs.mono hleb9
  have hea:=hea.mono hleb9
  refine .g (fA rfl oY rfl (lN rfl aZ rfl ((hbb9.rd (by rfl)).rd) ?_))
  refine fZ rfl dI rfl (iW rfl cS rfl rfl ?_)
  rw [show 0+g.level.toNat*1=4 from by rw [hg5]; rfl]
  refine aS rfl rfl (.nc (.seq ?_))
  have hll:=pG hri' hL (i:=4) (by decide)
  refine .g (nC rfl rfl (lO rfl cM rfl eI (by first|exact aJ rfl|rfl) ?_))
  refine mf (vf:=#[]) (vc:=[Value.pointer (some ⟨b9,0,none⟩)].toArray) rfl .no (fun a ha _=>by simp) (fun a ha _=>by simp [(Ev.u (c:=true) rfl:Ev _ true (.tmp 9) _).eval ha rfl]) ?_
  refine ka rfl (.inr rfl) aAl (aB rfl (aB rfl aF)) (bL .here) (yE (Q:=fun ν u=>ν=[]∧u=.int .i64 (fD (fJ g) (L 4))) (fun _ _=>Meta.len _) (fun sh G2 hle hv hsl=>by subst hv; exact zT sh (L 4) G2 hsl (by omega) 58 aAm [.pointer (some ⟨b9,0,none⟩)] (fJ g) (fun G3 h3 m _=>aAK m g b9 G3 (hbb9.mono (hle.trans h3))))) ?_
  rintro _ G80 μ80 hG80 ⟨_,rfl,rfl,rfl⟩
  have hs:=hs.mono hG80
  have hea:=hea.mono hG80
  refine .g (cP rfl rfl rfl rfl (.g (cD rfl (fun c10=>?_) (fun c10=>?_))))
  ·have c10k:=c10
   try simp only [aC,aG,aD] at c10
   refine .g (bC rfl .no oW .nil rfl ?_)
   refine sw rfl (.u rfl) (.u rfl) rfl jC jJ (by first|exact qE|exact qL|rfl) (iT) ?_
   refine aS rfl rfl (.nc (.ret (aM Tryz.results21 (.cell rfl (fun w hw=>bI eQ (RdN.own .here) ((by first|exact qE|exact qL|rfl)) hw) (.tmp rfl .nil)) ?_)))
   exact ⟨State.zero,eJ,180,.inr (.inl ⟨hri,sL (qK eg hL (zL (q:=4) hg5 (by assumption))),rfl,rfl⟩),rfl,rfl,lH⟩
  have c10k:=c10
  try simp only [aC,aG,aD] at c10
  refine .skip (.code ?_)
  obtain ⟨kk,hk1,hk2⟩ : ∃ kk:Nat,fD (fJ g) (L 4)=(kk:Int)∧kk<(L 4).length:=⟨_,(qN (by omega)).2,(qN (by omega)).1⟩
  rw [hk1]
  refine .g (nC rfl rfl (lO rfl cM rfl eI (by first|exact aJ rfl|rfl) ?_))
  refine .p (aW (((kk+1):Nat):Int) rfl rfl rfl rfl ?_)
  refine ka rfl (.inr rfl) aAn (aB rfl (aB rfl (aB rfl aF))) (bL .here) (zJ (L 4) w4 kk _ hk2 (by omega)) ?_
  rintro v91 G91 μ91 hG91 rfl
  have hs:=hs.mono hG91
  have hea:=hea.mono hG91
  refine nC rfl rfl (dE rfl (.u rfl) (.u rfl) .here dS eI (by show _<14; first|decide|omega) (rfl) ?_)
  refine .g (aW (((j+1):Nat):Int) rfl rfl rfl rfl ?_)
  refine .g (aP (j+1,w0,w1,w2,w3,v91,cW L 4 ((L 4).take kk++(L 4).drop (kk+1))) ?_ ?_ ?_ ?_ ?_)
  ·exact (aK rfl (aA rfl (aA rfl (aA rfl (aA rfl (aA rfl eZ))))))
  ·exact (mS aE rfl (mS aE rfl (mS aE rfl (mS aE rfl (mS aE rfl (mS .here rfl (mS .here rfl (mS .here rfl (mS .here rfl mN)))))))))
  ·first|omega|(dsimp only; omega)
  ·exact (((hGl1).trans hleb9).trans hG80).trans hG91
  refine ⟨?_,?_⟩
  ·(try dsimp only)<;>(first|omega|rfl|assumption|(simp; done))
  (try dsimp only)<;>(exact gW eg hL (zK hg5 (by decide) hk1))
 have c4k:=c4
 try simp only [aC,aG,aD] at c4
 refine .g (fZ rfl fW rfl (lO rfl cM rfl jK (by first|exact aJ rfl|rfl) ?_))
 refine lE rfl fH rfl (mV rfl rfl (.nc (.block ?_)))
 obtain rfl:j=e.drop.length:=by omega
 rw [List.take_length] at hL
 refine aV (α:=Nat×Value×Value×Value×Value×Value×bE) (fun gh=>[(97,true,.int .i64 (gh.1:Int))]) (fun gh=>[rS 40 Meta.cells gh.2.2.2.2.2.1 98 (gh.2.2.2.2.2.2 4),rS 40 Meta.cells gh.2.2.2.2.1 98 (gh.2.2.2.2.2.2 3),rS 40 Meta.cells gh.2.2.2.1 98 (gh.2.2.2.2.2.2 2),rS 40 Meta.cells gh.2.2.1 98 (gh.2.2.2.2.2.2 1),rS 40 Meta.cells gh.2.1 98 (gh.2.2.2.2.2.2 0),.blk b6 (cl (xC gh.2.1 gh.2.2.1 gh.2.2.2.1 gh.2.2.2.2.1 gh.2.2.2.2.2.1 e) 33)])
  (fun gh Gl=>(gh.1≤e.add.length)∧(cF fX (e.add.take gh.1) L=some gh.2.2.2.2.2.2)) (fun gh=>e.add.length-gh.1) (0,w0,w1,w2,w3,w4,L) [(4,true,_),(6,true,_),(95,true,_),(96,true,_)] [_,_,_]
  (aK rfl (aA rfl (aA rfl (aA rfl (aA rfl eZ)))))
  (mS .here rfl (mS .here rfl (mS .here rfl (mS .here rfl (mS .here rfl (mS .here rfl (mS .here rfl (mS .here rfl (mS .here rfl mN))))))))) ?_ ?_
 ·refine ⟨?_,?_⟩
  ·(try dsimp only)<;>(first|omega|rfl|assumption|(simp; done))
  (try dsimp only)<;>(rfl)
 intro gh N2 Gl2 hN2 hGl2 hF2
 obtain ⟨j,w0,w1,w2,w3,w4,L2⟩:=gh; dsimp only at hF2 hN2 ⊢
 obtain ⟨hj,hA⟩:=hF2
 have hs:=hs.mono hGl2
 have hea:=hea.mono hGl2
 refine .g (cP rfl rfl rfl rfl (.g (cD rfl (fun c11=>?_) (fun c11=>?_))))
 ·have c11k:=c11
  try simp only [aC,aG,aD] at c11
  refine .skip (.code (.seq (.block (.seq (gK rfl rfl ?_)))))
  obtain ⟨m,em⟩:=iJ (k:=j) (xs:=e.add) (by omega)
  have hwm:=(hE.wf.add m (List.mem_of_getElem? em)).level
  refine ih rfl .no aY (.u rfl) (.u rfl) (by omega) (by omega) (fun _=>hea.nn (k:=j) (by first|omega|(simp only [Bool.and_eq_true,decide_eq_true_eq] at hc; omega)|(simp only [List.length_cons,List.length_nil]; omega))) ?_
  refine lA rfl .no dF (.u rfl) (fun _=>(hea.at (by omega) em).rd) (fun _=>Meta.len _) ?_
  refine al rfl qD ?_; intro b13
  refine sw rfl (.u rfl) (.u rfl) rfl jP .here rfl (Meta.one _) ?_
  refine .g (fZ rfl gH rfl (lO rfl aZ rfl .here (by first|exact aJ rfl|rfl) ?_))
  refine cP rfl rfl rfl rfl (.g (cD rfl (fun c12=>?_) (fun c12=>?_)))
  ·have c12k:=c12
   try simp only [aC,aG,aD] at c12
   refine .g (bC rfl .no oW .nil rfl ?_)
   refine sw rfl (.u rfl) (.u rfl) rfl jC jK (by first|exact qE|exact qL|rfl) (iT) ?_
   refine aS rfl rfl (.nc (.ret (aM Tryz.results21 (.cell rfl (fun w hw=>bI eQ (RdN.own .here) ((by first|exact qE|exact qL|rfl)) hw) (.tmp rfl .nil)) ?_)))
   exact ⟨State.zero,eJ,180,.inr (.inl ⟨hri,aFJ hL (qK em hA (aLN (by omega))),rfl,rfl⟩),rfl,rfl,lH⟩
  have c12k:=c12
  try simp only [aC,aG,aD] at c12
  refine .skip (.code ?_)
  have hm5:m.level=0∨m.level=1∨m.level=2∨m.level=3∨m.level=4:=by omega
  rcases hm5 with hm5 | hm5 | hm5 | hm5 | hm5
  ·refine Wk.mix ⟨false,false⟩ aX (by kernel_rfl) ?_
   have hll:=wA (N:=1024) hA (i:=0) (pG hri' hL (by decide))
   have htk:=List.length_take_le j e.add
   refine Wt.one 0 (by kernel_rfl) ?_
   refine fZ rfl gH rfl (.nil (Wt.one 2 (by kernel_rfl) ?_))
   refine fZ rfl gH rfl (.nil (Wt.one 3 (by kernel_rfl) ?_))
   refine lO rfl aZ rfl .here (by first|exact aJ rfl|rfl) ?_
   refine .nil (Wt.one 4 (by kernel_rfl) ?_)
   refine fZ rfl dI rfl (.nil (Wt.one 5 (by kernel_rfl) ?_))
   refine iW rfl cS rfl rfl ?_
   rw [show 0+m.level.toNat*1=0 from by rw [hm5]; rfl]
   refine .nil (Wt.one 6 (by kernel_rfl) ?_)
   refine lO rfl cM rfl jJ (by first|exact aJ rfl|rfl) ?_
   refine .nil (Wt.one 7 (by kernel_rfl) ?_)
   refine lA rfl .no dF (.u rfl) (fun _=>RdN.own .here) (fun _=>Meta.len _) ?_
   refine .nil (Wt.one 10 (by kernel_rfl) ?_)
   refine fZ rfl dI rfl (.nil (Wt.b2 1 8 (by kernel_rfl) ?_ ?_))
   ·refine lO rfl aZ rfl .here (by first|exact aJ rfl|rfl) ?_
    refine .nil (Wt.b1 8 (by kernel_rfl) ?_)
    refine Go.Tan.b1 rfl aY cT (.u rfl) rfl rfl (by decide) ?_; intro b113
    refine .nil (Wt.b1 9 (by kernel_rfl) ?_)
    refine eC (xs:=(L2 0)) (m) rfl aY cT rfl (.u rfl) (.u rfl) jJ .here (Meta.len _) (Meta.one _) (by omega) (by unfold maxLen; omega) ?_; intro v114 ov114
    refine .nil (Wt.one 11 (by kernel_rfl) ?_)
    refine iW rfl cS rfl rfl ?_
    rw [show 0+m.level.toNat*1=0 from by rw [hm5]; rfl]
    refine .nil (Wt.b1 12 (by kernel_rfl) ?_)
    refine dE rfl (.u rfl) (.u rfl) .here dS jK (by show _<14; first|decide|omega) (rfl) ?_
    refine .nil (Wt.last (by kernel_rfl) ?_)
    refine .g (aW (((j+1):Nat):Int) rfl rfl rfl rfl ?_)
    refine .g (aP (j+1,v114,w1,w2,w3,w4,cW L2 0 (L2 0++[m])) ?_ ?_ ?_ ?_ ?_)
    ·exact (aK rfl (aA rfl (aA rfl (aA rfl (aA rfl eZ)))))
    ·exact (mS cJ rfl (mS cJ rfl (mS cJ rfl (mS cJ rfl (mS aE rfl (mS .here rfl (mS aN rfl (mS aN rfl (mS aN rfl mN)))))))))
    ·first|omega|(dsimp only; omega)
    ·exact hGl2
    refine ⟨?_,?_⟩
    ·(try dsimp only)<;>(first|omega|rfl|assumption|(simp; done))
    (try dsimp only)<;>(exact gW em hA (lT hm5 (by decide)))
   refine Go.Tan.b1 rfl aY cT (.u rfl) rfl rfl (by decide) ?_; intro b113
   refine .nil (Wt.b2 1 9 (by kernel_rfl) ?_ ?_)
   ·refine lO rfl aZ rfl aE (by first|exact aJ rfl|rfl) ?_
    refine .nil (Wt.b1 9 (by kernel_rfl) ?_)
    refine eC (xs:=(L2 0)) (m) rfl aY cT rfl (.u rfl) (.u rfl) jJ .here (Meta.len _) (Meta.one _) (by omega) (by unfold maxLen; omega) ?_; intro v114 ov114
    refine .nil (Wt.one 11 (by kernel_rfl) ?_)
    refine iW rfl cS rfl rfl ?_
    rw [show 0+m.level.toNat*1=0 from by rw [hm5]; rfl]
    refine .nil (Wt.b1 12 (by kernel_rfl) ?_)
    refine dE rfl (.u rfl) (.u rfl) .here dS jK (by show _<14; first|decide|omega) (rfl) ?_
    refine .nil (Wt.last (by kernel_rfl) ?_)
    refine .g (aW (((j+1):Nat):Int) rfl rfl rfl rfl ?_)
    refine .g (aP (j+1,v114,w1,w2,w3,w4,cW L2 0 (L2 0++[m])) ?_ ?_ ?_ ?_ ?_)
    ·exact (aK rfl (aA rfl (aA rfl (aA rfl (aA rfl eZ)))))
    ·exact (mS cJ rfl (mS cJ rfl (mS cJ rfl (mS cJ rfl (mS aE rfl (mS .here rfl (mS aN rfl (mS aN rfl (mS aN rfl mN)))))))))
    ·first|omega|(dsimp only; omega)
    ·exact hGl2
    refine ⟨?_,?_⟩
    ·(try dsimp only)<;>(first|omega|rfl|assumption|(simp; done))
    (try dsimp only)<;>(exact gW em hA (lT hm5 (by decide)))
   refine eC (xs:=(L2 0)) (m) rfl aY cT rfl (.u rfl) (.u rfl) jJ .here (Meta.len _) (Meta.one _) (by omega) (by unfold maxLen; omega) ?_; intro v114 ov114
   refine .nil (Wt.one 1 (by kernel_rfl) ?_)
   refine lO rfl aZ rfl aN (by first|exact aJ rfl|rfl) ?_
   refine .nil (Wt.one 11 (by kernel_rfl) ?_)
   refine iW rfl cS rfl rfl ?_
   rw [show 0+m.level.toNat*1=0 from by rw [hm5]; rfl]
   refine .nil (Wt.b1 12 (by kernel_rfl) ?_)
   refine dE rfl (.u rfl) (.u rfl) .here dS jK (by show _<14; first|decide|omega) (rfl) ?_
   refine .nil (Wt.last (by kernel_rfl) ?_)
   refine .g (aW (((j+1):Nat):Int) rfl rfl rfl rfl ?_)
   refine .g (aP (j+1,v114,w1,w2,w3,w4,cW L2 0 (L2 0++[m])) ?_ ?_ ?_ ?_ ?_)
   ·exact (aK rfl (aA rfl (aA rfl (aA rfl (aA rfl eZ)))))
   ·exact (mS cJ rfl (mS cJ rfl (mS cJ rfl (mS cJ rfl (mS aE rfl (mS .here rfl (mS aN rfl (mS aN rfl (mS aN rfl mN)))))))))
   ·first|omega|(dsimp only; omega)
   ·exact hGl2
   refine ⟨?_,?_⟩
   ·(try dsimp only)<;>(first|omega|rfl|assumption|(simp; done))
   (try dsimp only)<;>(exact gW em hA (lT hm5 (by decide)))
  ·refine Wk.mix ⟨false,false⟩ aX (by kernel_rfl) ?_
   have hll:=wA (N:=1024) hA (i:=1) (pG hri' hL (by decide))
   have htk:=List.length_take_le j e.add
   refine Wt.one 0 (by kernel_rfl) ?_
   refine fZ rfl gH rfl (.nil (Wt.one 2 (by kernel_rfl) ?_))
   refine fZ rfl gH rfl (.nil (Wt.one 3 (by kernel_rfl) ?_))
   refine lO rfl aZ rfl .here (by first|exact aJ rfl|rfl) ?_
   refine .nil (Wt.one 4 (by kernel_rfl) ?_)
   refine fZ rfl dI rfl (.nil (Wt.one 5 (by kernel_rfl) ?_))
   refine iW rfl cS rfl rfl ?_
   rw [show 0+m.level.toNat*1=1 from by rw [hm5]; rfl]
   refine .nil (Wt.one 6 (by kernel_rfl) ?_)
   refine lO rfl cM rfl jJ (by first|exact aJ rfl|rfl) ?_
   refine .nil (Wt.one 7 (by kernel_rfl) ?_)
   refine lA rfl .no dF (.u rfl) (fun _=>RdN.own .here) (fun _=>Meta.len _) ?_
   refine .nil (Wt.one 10 (by kernel_rfl) ?_)
   refine fZ rfl dI rfl (.nil (Wt.b2 1 8 (by kernel_rfl) ?_ ?_))
   ·refine lO rfl aZ rfl .here (by first|exact aJ rfl|rfl) ?_
    refine .nil (Wt.b1 8 (by kernel_rfl) ?_)
    refine Go.Tan.b1 rfl aY cT (.u rfl) rfl rfl (by decide) ?_; intro b113
    refine .nil (Wt.b1 9 (by kernel_rfl) ?_)
    refine eC (xs:=(L2 1)) (m) rfl aY cT rfl (.u rfl) (.u rfl) eI .here (Meta.len _) (Meta.one _) (by omega) (by unfold maxLen; omega) ?_; intro v114 ov114
    refine .nil (Wt.one 11 (by kernel_rfl) ?_)
    refine iW rfl cS rfl rfl ?_
    rw [show 0+m.level.toNat*1=1 from by rw [hm5]; rfl]
    refine .nil (Wt.b1 12 (by kernel_rfl) ?_)
    refine dE rfl (.u rfl) (.u rfl) .here dS jK (by show _<14; first|decide|omega) (rfl) ?_
    refine .nil (Wt.last (by kernel_rfl) ?_)
    refine .g (aW (((j+1):Nat):Int) rfl rfl rfl rfl ?_)
    refine .g (aP (j+1,w0,v114,w2,w3,w4,cW L2 1 (L2 1++[m])) ?_ ?_ ?_ ?_ ?_)
    ·exact (aK rfl (aA rfl (aA rfl (aA rfl (aA rfl eZ)))))
    ·exact (mS cJ rfl (mS cJ rfl (mS cJ rfl (mS aE rfl (mS bB rfl (mS .here rfl (mS aN rfl (mS aN rfl (mS aN rfl mN)))))))))
    ·first|omega|(dsimp only; omega)
    ·exact hGl2
    refine ⟨?_,?_⟩
    ·(try dsimp only)<;>(first|omega|rfl|assumption|(simp; done))
    (try dsimp only)<;>(exact gW em hA (lT hm5 (by decide)))
   refine Go.Tan.b1 rfl aY cT (.u rfl) rfl rfl (by decide) ?_; intro b113
   refine .nil (Wt.b2 1 9 (by kernel_rfl) ?_ ?_)
   ·refine lO rfl aZ rfl aE (by first|exact aJ rfl|rfl) ?_
    refine .nil (Wt.b1 9 (by kernel_rfl) ?_)
    refine eC (xs:=(L2 1)) (m) rfl aY cT rfl (.u rfl) (.u rfl) eI .here (Meta.len _) (Meta.one _) (by omega) (by unfold maxLen; omega) ?_; intro v114 ov114
    refine .nil (Wt.one 11 (by kernel_rfl) ?_)
    refine iW rfl cS rfl rfl ?_
    rw [show 0+m.level.toNat*1=1 from by rw [hm5]; rfl]
    refine .nil (Wt.b1 12 (by kernel_rfl) ?_)
    refine dE rfl (.u rfl) (.u rfl) .here dS jK (by show _<14; first|decide|omega) (rfl) ?_
    refine .nil (Wt.last (by kernel_rfl) ?_)
    refine .g (aW (((j+1):Nat):Int) rfl rfl rfl rfl ?_)
    refine .g (aP (j+1,w0,v114,w2,w3,w4,cW L2 1 (L2 1++[m])) ?_ ?_ ?_ ?_ ?_)
    ·exact (aK rfl (aA rfl (aA rfl (aA rfl (aA rfl eZ)))))
    ·exact (mS cJ rfl (mS cJ rfl (mS cJ rfl (mS aE rfl (mS bB rfl (mS .here rfl (mS aN rfl (mS aN rfl (mS aN rfl mN)))))))))
    ·first|omega|(dsimp only; omega)
    ·exact hGl2
    refine ⟨?_,?_⟩
    ·(try dsimp only)<;>(first|omega|rfl|assumption|(simp; done))
    (try dsimp only)<;>(exact gW em hA (lT hm5 (by decide)))
   refine eC (xs:=(L2 1)) (m) rfl aY cT rfl (.u rfl) (.u rfl) eI .here (Meta.len _) (Meta.one _) (by omega) (by unfold maxLen; omega) ?_; intro v114 ov114
   refine .nil (Wt.one 1 (by kernel_rfl) ?_)
   refine lO rfl aZ rfl aN (by first|exact aJ rfl|rfl) ?_
   refine .nil (Wt.one 11 (by kernel_rfl) ?_)
   refine iW rfl cS rfl rfl ?_
   rw [show 0+m.level.toNat*1=1 from by rw [hm5]; rfl]
   refine .nil (Wt.b1 12 (by kernel_rfl) ?_)
   refine dE rfl (.u rfl) (.u rfl) .here dS jK (by show _<14; first|decide|omega) (rfl) ?_
   refine .nil (Wt.last (by kernel_rfl) ?_)
   refine .g (aW (((j+1):Nat):Int) rfl rfl rfl rfl ?_)
   refine .g (aP (j+1,w0,v114,w2,w3,w4,cW L2 1 (L2 1++[m])) ?_ ?_ ?_ ?_ ?_)
   ·exact (aK rfl (aA rfl (aA rfl (aA rfl (aA rfl eZ)))))
   ·exact (mS cJ rfl (mS cJ rfl (mS cJ rfl (mS aE rfl (mS bB rfl (mS .here rfl (mS aN rfl (mS aN rfl (mS aN rfl mN)))))))))
   ·first|omega|(dsimp only; omega)
   ·exact hGl2
   refine ⟨?_,?_⟩
   ·(try dsimp only)<;>(first|omega|rfl|assumption|(simp; done))
   (try dsimp only)<;>(exact gW em hA (lT hm5 (by decide)))
  ·refine Wk.mix ⟨false,false⟩ aX (by kernel_rfl) ?_
   have hll:=wA (N:=1024) hA (i:=2) (pG hri' hL (by decide))
   have htk:=List.length_take_le j e.add
   refine Wt.one 0 (by kernel_rfl) ?_
   refine fZ rfl gH rfl (.nil (Wt.one 2 (by kernel_rfl) ?_))
   refine fZ rfl gH rfl (.nil (Wt.one 3 (by kernel_rfl) ?_))
   refine lO rfl aZ rfl .here (by first|exact aJ rfl|rfl) ?_
   refine .nil (Wt.one 4 (by kernel_rfl) ?_)
   refine fZ rfl dI rfl (.nil (Wt.one 5 (by kernel_rfl) ?_))
   refine iW rfl cS rfl rfl ?_
   rw [show 0+m.level.toNat*1=2 from by rw [hm5]; rfl]
   refine .nil (Wt.one 6 (by kernel_rfl) ?_)
   refine lO rfl cM rfl jJ (by first|exact aJ rfl|rfl) ?_
   refine .nil (Wt.one 7 (by kernel_rfl) ?_)
   refine lA rfl .no dF (.u rfl) (fun _=>RdN.own .here) (fun _=>Meta.len _) ?_
   refine .nil (Wt.one 10 (by kernel_rfl) ?_)
   refine fZ rfl dI rfl (.nil (Wt.b2 1 8 (by kernel_rfl) ?_ ?_))
   ·refine lO rfl aZ rfl .here (by first|exact aJ rfl|rfl) ?_
    refine .nil (Wt.b1 8 (by kernel_rfl) ?_)
    refine Go.Tan.b1 rfl aY cT (.u rfl) rfl rfl (by decide) ?_; intro b113
    refine .nil (Wt.b1 9 (by kernel_rfl) ?_)
    refine eC (xs:=(L2 2)) (m) rfl aY cT rfl (.u rfl) (.u rfl) cJ .here (Meta.len _) (Meta.one _) (by omega) (by unfold maxLen; omega) ?_; intro v114 ov114
    refine .nil (Wt.one 11 (by kernel_rfl) ?_)
    refine iW rfl cS rfl rfl ?_
    rw [show 0+m.level.toNat*1=2 from by rw [hm5]; rfl]
    refine .nil (Wt.b1 12 (by kernel_rfl) ?_)
    refine dE rfl (.u rfl) (.u rfl) .here dS jK (by show _<14; first|decide|omega) (rfl) ?_
    refine .nil (Wt.last (by kernel_rfl) ?_)
    refine .g (aW (((j+1):Nat):Int) rfl rfl rfl rfl ?_)
    refine .g (aP (j+1,w0,w1,v114,w3,w4,cW L2 2 (L2 2++[m])) ?_ ?_ ?_ ?_ ?_)
    ·exact (aK rfl (aA rfl (aA rfl (aA rfl (aA rfl eZ)))))
    ·exact (mS cJ rfl (mS cJ rfl (mS aE rfl (mS bB rfl (mS bB rfl (mS .here rfl (mS aN rfl (mS aN rfl (mS aN rfl mN)))))))))
    ·first|omega|(dsimp only; omega)
    ·exact hGl2
    refine ⟨?_,?_⟩
    ·(try dsimp only)<;>(first|omega|rfl|assumption|(simp; done))
    (try dsimp only)<;>(exact gW em hA (lT hm5 (by decide)))
   refine Go.Tan.b1 rfl aY cT (.u rfl) rfl rfl (by decide) ?_; intro b113
   refine .nil (Wt.b2 1 9 (by kernel_rfl) ?_ ?_)
   ·refine lO rfl aZ rfl aE (by first|exact aJ rfl|rfl) ?_
    refine .nil (Wt.b1 9 (by kernel_rfl) ?_)
    refine eC (xs:=(L2 2)) (m) rfl aY cT rfl (.u rfl) (.u rfl) cJ .here (Meta.len _) (Meta.one _) (by omega) (by unfold maxLen; omega) ?_; intro v114 ov114
    refine .nil (Wt.one 11 (by kernel_rfl) ?_)
    refine iW rfl cS rfl rfl ?_
    rw [show 0+m.level.toNat*1=2 from by rw [hm5]; rfl]
    refine .nil (Wt.b1 12 (by kernel_rfl) ?_)
    refine dE rfl (.u rfl) (.u rfl) .here dS jK (by show _<14; first|decide|omega) (rfl) ?_
    refine .nil (Wt.last (by kernel_rfl) ?_)
    refine .g (aW (((j+1):Nat):Int) rfl rfl rfl rfl ?_)
    refine .g (aP (j+1,w0,w1,v114,w3,w4,cW L2 2 (L2 2++[m])) ?_ ?_ ?_ ?_ ?_)
    ·exact (aK rfl (aA rfl (aA rfl (aA rfl (aA rfl eZ)))))
    ·exact (mS cJ rfl (mS cJ rfl (mS aE rfl (mS bB rfl (mS bB rfl (mS .here rfl (mS aN rfl (mS aN rfl (mS aN rfl mN)))))))))
    ·first|omega|(dsimp only; omega)
    ·exact hGl2
    refine ⟨?_,?_⟩
    ·(try dsimp only)<;>(first|omega|rfl|assumption|(simp; done))
    (try dsimp only)<;>(exact gW em hA (lT hm5 (by decide)))
   refine eC (xs:=(L2 2)) (m) rfl aY cT rfl (.u rfl) (.u rfl) cJ .here (Meta.len _) (Meta.one _) (by omega) (by unfold maxLen; omega) ?_; intro v114 ov114
   refine .nil (Wt.one 1 (by kernel_rfl) ?_)
   refine lO rfl aZ rfl aN (by first|exact aJ rfl|rfl) ?_
   refine .nil (Wt.one 11 (by kernel_rfl) ?_)
   refine iW rfl cS rfl rfl ?_
   rw [show 0+m.level.toNat*1=2 from by rw [hm5]; rfl]
   refine .nil (Wt.b1 12 (by kernel_rfl) ?_)
   refine dE rfl (.u rfl) (.u rfl) .here dS jK (by show _<14; first|decide|omega) (rfl) ?_
   refine .nil (Wt.last (by kernel_rfl) ?_)
   refine .g (aW (((j+1):Nat):Int) rfl rfl rfl rfl ?_)
   refine .g (aP (j+1,w0,w1,v114,w3,w4,cW L2 2 (L2 2++[m])) ?_ ?_ ?_ ?_ ?_)
   ·exact (aK rfl (aA rfl (aA rfl (aA rfl (aA rfl eZ)))))
   ·exact (mS cJ rfl (mS cJ rfl (mS aE rfl (mS bB rfl (mS bB rfl (mS .here rfl (mS aN rfl (mS aN rfl (mS aN rfl mN)))))))))
   ·first|omega|(dsimp only; omega)
   ·exact hGl2
   refine ⟨?_,?_⟩
   ·(try dsimp only)<;>(first|omega|rfl|assumption|(simp; done))
   (try dsimp only)<;>(exact gW em hA (lT hm5 (by decide)))
  ·refine Wk.mix ⟨false,false⟩ aX (by kernel_rfl) ?_
   have hll:=wA (N:=1024) hA (i:=3) (pG hri' hL (by decide))
   have htk:=List.length_take_le j e.add
   refine Wt.one 0 (by kernel_rfl) ?_
   refine fZ rfl gH rfl (.nil (Wt.one 2 (by kernel_rfl) ?_))
   refine fZ rfl gH rfl (.nil (Wt.one 3 (by kernel_rfl) ?_))
   refine lO rfl aZ rfl .here (by first|exact aJ rfl|rfl) ?_
   refine .nil (Wt.one 4 (by kernel_rfl) ?_)
   refine fZ rfl dI rfl (.nil (Wt.one 5 (by kernel_rfl) ?_))
   refine iW rfl cS rfl rfl ?_
   rw [show 0+m.level.toNat*1=3 from by rw [hm5]; rfl]
   refine .nil (Wt.one 6 (by kernel_rfl) ?_)
   refine lO rfl cM rfl jJ (by first|exact aJ rfl|rfl) ?_
   refine .nil (Wt.one 7 (by kernel_rfl) ?_)
   refine lA rfl .no dF (.u rfl) (fun _=>RdN.own .here) (fun _=>Meta.len _) ?_
   refine .nil (Wt.one 10 (by kernel_rfl) ?_)
   refine fZ rfl dI rfl (.nil (Wt.b2 1 8 (by kernel_rfl) ?_ ?_))
   ·refine lO rfl aZ rfl .here (by first|exact aJ rfl|rfl) ?_
    refine .nil (Wt.b1 8 (by kernel_rfl) ?_)
    refine Go.Tan.b1 rfl aY cT (.u rfl) rfl rfl (by decide) ?_; intro b113
    refine .nil (Wt.b1 9 (by kernel_rfl) ?_)
    refine eC (xs:=(L2 3)) (m) rfl aY cT rfl (.u rfl) (.u rfl) bB .here (Meta.len _) (Meta.one _) (by omega) (by unfold maxLen; omega) ?_; intro v114 ov114
    refine .nil (Wt.one 11 (by kernel_rfl) ?_)
    refine iW rfl cS rfl rfl ?_
    rw [show 0+m.level.toNat*1=3 from by rw [hm5]; rfl]
    refine .nil (Wt.b1 12 (by kernel_rfl) ?_)
    refine dE rfl (.u rfl) (.u rfl) .here dS jK (by show _<14; first|decide|omega) (rfl) ?_
    refine .nil (Wt.last (by kernel_rfl) ?_)
    refine .g (aW (((j+1):Nat):Int) rfl rfl rfl rfl ?_)
    refine .g (aP (j+1,w0,w1,w2,v114,w4,cW L2 3 (L2 3++[m])) ?_ ?_ ?_ ?_ ?_)
    ·exact (aK rfl (aA rfl (aA rfl (aA rfl (aA rfl eZ)))))
    ·exact (mS cJ rfl (mS aE rfl (mS bB rfl (mS bB rfl (mS bB rfl (mS .here rfl (mS aN rfl (mS aN rfl (mS aN rfl mN)))))))))
    ·first|omega|(dsimp only; omega)
    ·exact hGl2
    refine ⟨?_,?_⟩
    ·(try dsimp only)<;>(first|omega|rfl|assumption|(simp; done))
    (try dsimp only)<;>(exact gW em hA (lT hm5 (by decide)))
   refine Go.Tan.b1 rfl aY cT (.u rfl) rfl rfl (by decide) ?_; intro b113
   refine .nil (Wt.b2 1 9 (by kernel_rfl) ?_ ?_)
   ·refine lO rfl aZ rfl aE (by first|exact aJ rfl|rfl) ?_
    refine .nil (Wt.b1 9 (by kernel_rfl) ?_)
    refine eC (xs:=(L2 3)) (m) rfl aY cT rfl (.u rfl) (.u rfl) bB .here (Meta.len _) (Meta.one _) (by omega) (by unfold maxLen; omega) ?_; intro v114 ov114
    refine .nil (Wt.one 11 (by kernel_rfl) ?_)
    refine iW rfl cS rfl rfl ?_
    rw [show 0+m.level.toNat*1=3 from by rw [hm5]; rfl]
    refine .nil (Wt.b1 12 (by kernel_rfl) ?_)
    refine dE rfl (.u rfl) (.u rfl) .here dS jK (by show _<14; first|decide|omega) (rfl) ?_
    refine .nil (Wt.last (by kernel_rfl) ?_)
    refine .g (aW (((j+1):Nat):Int) rfl rfl rfl rfl ?_)
    refine .g (aP (j+1,w0,w1,w2,v114,w4,cW L2 3 (L2 3++[m])) ?_ ?_ ?_ ?_ ?_)
    ·exact (aK rfl (aA rfl (aA rfl (aA rfl (aA rfl eZ)))))
    ·exact (mS cJ rfl (mS aE rfl (mS bB rfl (mS bB rfl (mS bB rfl (mS .here rfl (mS aN rfl (mS aN rfl (mS aN rfl mN)))))))))
    ·first|omega|(dsimp only; omega)
    ·exact hGl2
    refine ⟨?_,?_⟩
    ·(try dsimp only)<;>(first|omega|rfl|assumption|(simp; done))
    (try dsimp only)<;>(exact gW em hA (lT hm5 (by decide)))
   refine eC (xs:=(L2 3)) (m) rfl aY cT rfl (.u rfl) (.u rfl) bB .here (Meta.len _) (Meta.one _) (by omega) (by unfold maxLen; omega) ?_; intro v114 ov114
   refine .nil (Wt.one 1 (by kernel_rfl) ?_)
   refine lO rfl aZ rfl aN (by first|exact aJ rfl|rfl) ?_
   refine .nil (Wt.one 11 (by kernel_rfl) ?_)
   refine iW rfl cS rfl rfl ?_
   rw [show 0+m.level.toNat*1=3 from by rw [hm5]; rfl]
   refine .nil (Wt.b1 12 (by kernel_rfl) ?_)
   refine dE rfl (.u rfl) (.u rfl) .here dS jK (by show _<14; first|decide|omega) (rfl) ?_
   refine .nil (Wt.last (by kernel_rfl) ?_)
   refine .g (aW (((j+1):Nat):Int) rfl rfl rfl rfl ?_)
   refine .g (aP (j+1,w0,w1,w2,v114,w4,cW L2 3 (L2 3++[m])) ?_ ?_ ?_ ?_ ?_)
   ·exact (aK rfl (aA rfl (aA rfl (aA rfl (aA rfl eZ)))))
   ·exact (mS cJ rfl (mS aE rfl (mS bB rfl (mS bB rfl (mS bB rfl (mS .here rfl (mS aN rfl (mS aN rfl (mS aN rfl mN)))))))))
   ·first|omega|(dsimp only; omega)
   ·exact hGl2
   refine ⟨?_,?_⟩
   ·(try dsimp only)<;>(first|omega|rfl|assumption|(simp; done))
   (try dsimp only)<;>(exact gW em hA (lT hm5 (by decide)))
  refine Wk.mix ⟨false,false⟩ aX (by kernel_rfl) ?_
  have hll:=wA (N:=1024) hA (i:=4) (pG hri' hL (by decide))
  have htk:=List.length_take_le j e.add
  refine Wt.one 0 (by kernel_rfl) ?_
  refine fZ rfl gH rfl (.nil (Wt.one 2 (by kernel_rfl) ?_))
  refine fZ rfl gH rfl (.nil (Wt.one 3 (by kernel_rfl) ?_))
  refine lO rfl aZ rfl .here (by first|exact aJ rfl|rfl) ?_
  refine .nil (Wt.one 4 (by kernel_rfl) ?_)
  refine fZ rfl dI rfl (.nil (Wt.one 5 (by kernel_rfl) ?_))
  refine iW rfl cS rfl rfl ?_
  rw [show 0+m.level.toNat*1=4 from by rw [hm5]; rfl]
  refine .nil (Wt.one 6 (by kernel_rfl) ?_)
  refine lO rfl cM rfl jJ (by first|exact aJ rfl|rfl) ?_
  refine .nil (Wt.one 7 (by kernel_rfl) ?_)
  refine lA rfl .no dF (.u rfl) (fun _=>RdN.own .here) (fun _=>Meta.len _) ?_
  refine .nil (Wt.one 10 (by kernel_rfl) ?_)
  refine fZ rfl dI rfl (.nil (Wt.b2 1 8 (by kernel_rfl) ?_ ?_))
  ·refine lO rfl aZ rfl .here (by first|exact aJ rfl|rfl) ?_
   refine .nil (Wt.b1 8 (by kernel_rfl) ?_)
   refine Go.Tan.b1 rfl aY cT (.u rfl) rfl rfl (by decide) ?_; intro b113
   refine .nil (Wt.b1 9 (by kernel_rfl) ?_)
   refine eC (xs:=(L2 4)) (m) rfl aY cT rfl (.u rfl) (.u rfl) aN .here (Meta.len _) (Meta.one _) (by omega) (by unfold maxLen; omega) ?_; intro v114 ov114
   refine .nil (Wt.one 11 (by kernel_rfl) ?_)
   refine iW rfl cS rfl rfl ?_
   rw [show 0+m.level.toNat*1=4 from by rw [hm5]; rfl]
   refine .nil (Wt.b1 12 (by kernel_rfl) ?_)
   refine dE rfl (.u rfl) (.u rfl) .here dS jK (by show _<14; first|decide|omega) (rfl) ?_
   refine .nil (Wt.last (by kernel_rfl) ?_)
   refine .g (aW (((j+1):Nat):Int) rfl rfl rfl rfl ?_)
   refine .g (aP (j+1,w0,w1,w2,w3,v114,cW L2 4 (L2 4++[m])) ?_ ?_ ?_ ?_ ?_)
   ·exact (aK rfl (aA rfl (aA rfl (aA rfl (aA rfl eZ)))))
   ·exact (mS aE rfl (mS bB rfl (mS bB rfl (mS bB rfl (mS bB rfl (mS .here rfl (mS aN rfl (mS aN rfl (mS aN rfl mN)))))))))
   ·first|omega|(dsimp only; omega)
   ·exact hGl2
   refine ⟨?_,?_⟩
   ·(try dsimp only)<;>(first|omega|rfl|assumption|(simp; done))
   (try dsimp only)<;>(exact gW em hA (lT hm5 (by decide)))
  refine Go.Tan.b1 rfl aY cT (.u rfl) rfl rfl (by decide) ?_; intro b113
  refine .nil (Wt.b2 1 9 (by kernel_rfl) ?_ ?_)
  ·refine lO rfl aZ rfl aE (by first|exact aJ rfl|rfl) ?_
   refine .nil (Wt.b1 9 (by kernel_rfl) ?_)
   refine eC (xs:=(L2 4)) (m) rfl aY cT rfl (.u rfl) (.u rfl) aN .here (Meta.len _) (Meta.one _) (by omega) (by unfold maxLen; omega) ?_; intro v114 ov114
   refine .nil (Wt.one 11 (by kernel_rfl) ?_)
   refine iW rfl cS rfl rfl ?_
   rw [show 0+m.level.toNat*1=4 from by rw [hm5]; rfl]
   refine .nil (Wt.b1 12 (by kernel_rfl) ?_)
   refine dE rfl (.u rfl) (.u rfl) .here dS jK (by show _<14; first|decide|omega) (rfl) ?_
   refine .nil (Wt.last (by kernel_rfl) ?_)
   refine .g (aW (((j+1):Nat):Int) rfl rfl rfl rfl ?_)
   refine .g (aP (j+1,w0,w1,w2,w3,v114,cW L2 4 (L2 4++[m])) ?_ ?_ ?_ ?_ ?_)
   ·exact (aK rfl (aA rfl (aA rfl (aA rfl (aA rfl eZ)))))
   ·exact (mS aE rfl (mS bB rfl (mS bB rfl (mS bB rfl (mS bB rfl (mS .here rfl (mS aN rfl (mS aN rfl (mS aN rfl mN)))))))))
   ·first|omega|(dsimp only; omega)
   ·exact hGl2
   refine ⟨?_,?_⟩
   ·(try dsimp only)<;>(first|omega|rfl|assumption|(simp; done))
   (try dsimp only)<;>(exact gW em hA (lT hm5 (by decide)))
  refine eC (xs:=(L2 4)) (m) rfl aY cT rfl (.u rfl) (.u rfl) aN .here (Meta.len _) (Meta.one _) (by omega) (by unfold maxLen; omega) ?_; intro v114 ov114
  refine .nil (Wt.one 1 (by kernel_rfl) ?_)
  refine lO rfl aZ rfl aN (by first|exact aJ rfl|rfl) ?_
  refine .nil (Wt.one 11 (by kernel_rfl) ?_)
  refine iW rfl cS rfl rfl ?_
  rw [show 0+m.level.toNat*1=4 from by rw [hm5]; rfl]
  refine .nil (Wt.b1 12 (by kernel_rfl) ?_)
  refine dE rfl (.u rfl) (.u rfl) .here dS jK (by show _<14; first|decide|omega) (rfl) ?_
  refine .nil (Wt.last (by kernel_rfl) ?_)
  refine .g (aW (((j+1):Nat):Int) rfl rfl rfl rfl ?_)
  refine .g (aP (j+1,w0,w1,w2,w3,v114,cW L2 4 (L2 4++[m])) ?_ ?_ ?_ ?_ ?_)
  ·exact (aK rfl (aA rfl (aA rfl (aA rfl (aA rfl eZ)))))
  ·exact (mS aE rfl (mS bB rfl (mS bB rfl (mS bB rfl (mS bB rfl (mS .here rfl (mS aN rfl (mS aN rfl (mS aN rfl mN)))))))))
  ·first|omega|(dsimp only; omega)
  ·exact hGl2
  refine ⟨?_,?_⟩
  ·(try dsimp only)<;>(first|omega|rfl|assumption|(simp; done))
  (try dsimp only)<;>(exact gW em hA (lT hm5 (by decide)))
 have c11k:=c11
 try simp only [aC,aG,aD] at c11
 refine .g (fZ rfl dI rfl (lA rfl .no aCL (.u rfl) (fun _=>RdN.part (n:=5) (cs':=[w0,w1,w2,w3,w4]) eI (rfl)) (fun _=>rfl) ?_))
 refine mV rfl rfl (.nc (.block ?_))
 obtain rfl:j=e.add.length:=by omega
 rw [List.take_length] at hA
 have hL2l:∀ i,i<5→(L2 i).length≤2048:=fun i hi=>by have:=wA (N:=1024) hA (i:=i) (pG hri' hL hi); omega
 refine aV (α:=Nat×bE) (fun gh=>[(120,true,.int .i64 (gh.1:Int))]) (fun gh=>[rS 40 Meta.cells w4 98 (gh.2 4),rS 40 Meta.cells w3 98 (gh.2 3),rS 40 Meta.cells w2 98 (gh.2 2),rS 40 Meta.cells w1 98 (gh.2 1),rS 40 Meta.cells w0 98 (gh.2 0)])
  (fun gh Gl=>(gh.1≤5)∧(∀ i,gh.2 i=if i<gh.1 then gN L2 i else L2 i)) (fun gh=>5-gh.1) (0,L2) [(4,true,_),(6,true,_),(119,true,_)] [_,_,_,_]
  (aK rfl (aA rfl (aA rfl (aA rfl eZ))))
  (mS .here rfl (mS .here rfl (mS .here rfl (mS .here rfl (mS .here rfl (mS .here rfl (mS .here rfl (mS .here rfl (mS .here rfl mN))))))))) ?_ ?_
 ·refine ⟨?_,?_⟩
  ·(try dsimp only)<;>(first|omega|rfl|assumption|(simp; done))
  (try dsimp only)<;>(exact fun i=>rfl)
 intro gh N3 Gl3 hN3 hGl3 hF3
 obtain ⟨k,M⟩:=gh; dsimp only at hF3 hN3 ⊢
 obtain ⟨hk,hM⟩:=hF3
 have hs:=hs.mono hGl3
 refine .g (cP rfl rfl rfl rfl (.g (cD rfl (fun c13=>?_) (fun c13=>?_))))
 ·have c13k:=c13
  try simp only [aC,aG,aD] at c13
  refine .skip (.code (.seq (.block (.seq ?_))))
  rcases (show k=0∨k=1∨k=2∨k=3∨k=4 by omega) with rfl|rfl|rfl|rfl|rfl
  ·refine .g (ix rfl .no cS cM (.u rfl) (.u rfl) (fun _=>by decide) (fun _=>by decide) (fun _=>rfl) ?_)
   refine al rfl aAx ?_; intro b14
   refine s1 rfl (.u rfl) (.u rfl) rfl jO .here (by decide) (rfl) ?_
   refine aS rfl rfl (.nc ?_)
   refine fP .here (by intro b hb; cases hb) ?_; intro Gfb14 hleb14 hbb14
   have hs:=hs.mono hleb14
   refine .g (mf (vf:=#[]) (vc:=[Value.pointer (some ⟨b14,0,none⟩)].toArray) rfl .no (fun a ha _=>by simp) (fun a ha _=>by simp [(Ev.u (c:=true) rfl:Ev _ true (.tmp 14) _).eval ha rfl]) ?_)
   refine ka rfl (.inr rfl) aAo (aB rfl (aB rfl aF)) (bL cJ) (aAP (M 0) w0 61 aAp [.pointer (some ⟨b14,0,none⟩)] (jV 0) _ (zV 0 b14 hbb14) (zW 0) (by rw [hM 0,if_neg (by decide)]; have:=hL2l 0 (by decide); omega)) ?_
   rintro _ G126 μ126 hG126 ⟨rfl,rfl⟩
   have hs:=hs.mono hG126
   have hbb14:=hbb14.mono hG126
   refine .g (aW (((0+1):Nat):Int) rfl rfl rfl rfl ?_)
   refine .g (aP (1,cW M 0 (jI (cG (jV 0)) (M 0))) ?_ ?_ ?_ ?_ ?_)
   ·exact (aK rfl (aA rfl (aA rfl (aA rfl eZ))))
   ·exact (mS aE rfl (mS aE rfl (mS aE rfl (mS aE rfl (mS .here rfl (mS .here rfl (mS .here rfl (mS .here rfl (mS .here rfl mN)))))))))
   ·first|omega|(dsimp only; omega)
   ·exact ((hGl3).trans hleb14).trans hG126
   refine ⟨?_,?_⟩
   ·(try dsimp only)<;>(first|omega|rfl|assumption|(simp; done))
   (try dsimp only)<;>(exact aAO hM)
  ·refine .g (ix rfl .no cS cM (.u rfl) (.u rfl) (fun _=>by decide) (fun _=>by decide) (fun _=>rfl) ?_)
   refine al rfl aAx ?_; intro b14
   refine s1 rfl (.u rfl) (.u rfl) rfl jO .here (by decide) (rfl) ?_
   refine aS rfl rfl (.nc ?_)
   refine fP .here (by intro b hb; cases hb) ?_; intro Gfb14 hleb14 hbb14
   have hs:=hs.mono hleb14
   refine .g (mf (vf:=#[]) (vc:=[Value.pointer (some ⟨b14,0,none⟩)].toArray) rfl .no (fun a ha _=>by simp) (fun a ha _=>by simp [(Ev.u (c:=true) rfl:Ev _ true (.tmp 14) _).eval ha rfl]) ?_)
   refine ka rfl (.inr rfl) aAo (aB rfl (aB rfl aF)) (bL bB) (aAP (M 1) w1 61 aAp [.pointer (some ⟨b14,0,none⟩)] (jV 1) _ (zV 1 b14 hbb14) (zW 1) (by rw [hM 1,if_neg (by decide)]; have:=hL2l 1 (by decide); omega)) ?_
   rintro _ G126 μ126 hG126 ⟨rfl,rfl⟩
   have hs:=hs.mono hG126
   have hbb14:=hbb14.mono hG126
   refine .g (aW (((1+1):Nat):Int) rfl rfl rfl rfl ?_)
   refine .g (aP (2,cW M 1 (jI (cG (jV 1)) (M 1))) ?_ ?_ ?_ ?_ ?_)
   ·exact (aK rfl (aA rfl (aA rfl (aA rfl eZ))))
   ·exact (mS aE rfl (mS aE rfl (mS aE rfl (mS .here rfl (mS .here rfl (mS .here rfl (mS .here rfl (mS .here rfl (mS .here rfl mN)))))))))
   ·first|omega|(dsimp only; omega)
   ·exact ((hGl3).trans hleb14).trans hG126
   refine ⟨?_,?_⟩
   ·(try dsimp only)<;>(first|omega|rfl|assumption|(simp; done))
   (try dsimp only)<;>(exact aAO hM)
  ·refine .g (ix rfl .no cS cM (.u rfl) (.u rfl) (fun _=>by decide) (fun _=>by decide) (fun _=>rfl) ?_)
   refine al rfl aAx ?_; intro b14
   refine s1 rfl (.u rfl) (.u rfl) rfl jO .here (by decide) (rfl) ?_
   refine aS rfl rfl (.nc ?_)
   refine fP .here (by intro b hb; cases hb) ?_; intro Gfb14 hleb14 hbb14
   have hs:=hs.mono hleb14
   refine .g (mf (vf:=#[]) (vc:=[Value.pointer (some ⟨b14,0,none⟩)].toArray) rfl .no (fun a ha _=>by simp) (fun a ha _=>by simp [(Ev.u (c:=true) rfl:Ev _ true (.tmp 14) _).eval ha rfl]) ?_)
   refine ka rfl (.inr rfl) aAo (aB rfl (aB rfl aF)) (bL aN) (aAP (M 2) w2 61 aAp [.pointer (some ⟨b14,0,none⟩)] (jV 2) _ (zV 2 b14 hbb14) (zW 2) (by rw [hM 2,if_neg (by decide)]; have:=hL2l 2 (by decide); omega)) ?_
   rintro _ G126 μ126 hG126 ⟨rfl,rfl⟩
   have hs:=hs.mono hG126
   have hbb14:=hbb14.mono hG126
   refine .g (aW (((2+1):Nat):Int) rfl rfl rfl rfl ?_)
   refine .g (aP (3,cW M 2 (jI (cG (jV 2)) (M 2))) ?_ ?_ ?_ ?_ ?_)
   ·exact (aK rfl (aA rfl (aA rfl (aA rfl eZ))))
   ·exact (mS aE rfl (mS aE rfl (mS .here rfl (mS .here rfl (mS .here rfl (mS .here rfl (mS .here rfl (mS .here rfl (mS .here rfl mN)))))))))
   ·first|omega|(dsimp only; omega)
   ·exact ((hGl3).trans hleb14).trans hG126
   refine ⟨?_,?_⟩
   ·(try dsimp only)<;>(first|omega|rfl|assumption|(simp; done))
   (try dsimp only)<;>(exact aAO hM)
  ·refine .g (ix rfl .no cS cM (.u rfl) (.u rfl) (fun _=>by decide) (fun _=>by decide) (fun _=>rfl) ?_)
   refine al rfl aAx ?_; intro b14
   refine s1 rfl (.u rfl) (.u rfl) rfl jO .here (by decide) (rfl) ?_
   refine aS rfl rfl (.nc ?_)
   refine fP .here (by intro b hb; cases hb) ?_; intro Gfb14 hleb14 hbb14
   have hs:=hs.mono hleb14
   refine .g (mf (vf:=#[]) (vc:=[Value.pointer (some ⟨b14,0,none⟩)].toArray) rfl .no (fun a ha _=>by simp) (fun a ha _=>by simp [(Ev.u (c:=true) rfl:Ev _ true (.tmp 14) _).eval ha rfl]) ?_)
   refine ka rfl (.inr rfl) aAo (aB rfl (aB rfl aF)) (bL aE) (aAP (M 3) w3 61 aAp [.pointer (some ⟨b14,0,none⟩)] (jV 3) _ (zV 3 b14 hbb14) (zW 3) (by rw [hM 3,if_neg (by decide)]; have:=hL2l 3 (by decide); omega)) ?_
   rintro _ G126 μ126 hG126 ⟨rfl,rfl⟩
   have hs:=hs.mono hG126
   have hbb14:=hbb14.mono hG126
   refine .g (aW (((3+1):Nat):Int) rfl rfl rfl rfl ?_)
   refine .g (aP (4,cW M 3 (jI (cG (jV 3)) (M 3))) ?_ ?_ ?_ ?_ ?_)
   ·exact (aK rfl (aA rfl (aA rfl (aA rfl eZ))))
   ·exact (mS aE rfl (mS .here rfl (mS .here rfl (mS .here rfl (mS .here rfl (mS .here rfl (mS .here rfl (mS .here rfl (mS .here rfl mN)))))))))
   ·first|omega|(dsimp only; omega)
   ·exact ((hGl3).trans hleb14).trans hG126
   refine ⟨?_,?_⟩
   ·(try dsimp only)<;>(first|omega|rfl|assumption|(simp; done))
   (try dsimp only)<;>(exact aAO hM)
  refine .g (ix rfl .no cS cM (.u rfl) (.u rfl) (fun _=>by decide) (fun _=>by decide) (fun _=>rfl) ?_)
  refine al rfl aAx ?_; intro b14
  refine s1 rfl (.u rfl) (.u rfl) rfl jO .here (by decide) (rfl) ?_
  refine aS rfl rfl (.nc ?_)
  refine fP .here (by intro b hb; cases hb) ?_; intro Gfb14 hleb14 hbb14
  have hs:=hs.mono hleb14
  refine .g (mf (vf:=#[]) (vc:=[Value.pointer (some ⟨b14,0,none⟩)].toArray) rfl .no (fun a ha _=>by simp) (fun a ha _=>by simp [(Ev.u (c:=true) rfl:Ev _ true (.tmp 14) _).eval ha rfl]) ?_)
  refine ka rfl (.inr rfl) aAo (aB rfl (aB rfl aF)) (bL .here) (aAP (M 4) w4 61 aAp [.pointer (some ⟨b14,0,none⟩)] (jV 4) _ (zV 4 b14 hbb14) (zW 4) (by rw [hM 4,if_neg (by decide)]; have:=hL2l 4 (by decide); omega)) ?_
  rintro _ G126 μ126 hG126 ⟨rfl,rfl⟩
  have hs:=hs.mono hG126
  refine .g (aW (((4+1):Nat):Int) rfl rfl rfl rfl ?_)
  refine .g (aP (5,cW M 4 (jI (cG (jV 4)) (M 4))) ?_ ?_ ?_ ?_ ?_)
  ·exact (aK rfl (aA rfl (aA rfl (aA rfl eZ))))
  ·exact (mS .here rfl (mS .here rfl (mS .here rfl (mS .here rfl (mS .here rfl (mS .here rfl (mS .here rfl (mS .here rfl (mS .here rfl mN)))))))))
  ·first|omega|(dsimp only; omega)
  ·exact ((hGl3).trans hleb14).trans hG126
  refine ⟨?_,?_⟩
  ·(try dsimp only)<;>(first|omega|rfl|assumption|(simp; done))
  (try dsimp only)<;>(exact aAO hM)
 have c13k:=c13
 try simp only [aC,aG,aD] at c13
 refine .exit (.xcode (.xlp (.xblk (.code (.seq (.seq ?_))))))
 obtain rfl:k=5:=by omega
 rw [show M 0=gN L2 0 from by rw [hM]; rfl,show M 1=gN L2 1 from by rw [hM]; rfl,show M 2=gN L2 2 from by rw [hM]; rfl,show M 3=gN L2 3 from by rw [hM]; rfl,show M 4=gN L2 4 from by rw [hM]; rfl]
 refine mK cJ (fun _ _=>rfl) (by intro b hb; cases hb) ?_; intro GfR0 hR0 hleR0 evR0 hsR0; subst evR0
 have hs:=hs.mono hleR0
 refine mK bB (fun _ _=>rfl) (by intro b hb; cases hb) ?_; intro GfR1 hR1 hleR1 evR1 hsR1; subst evR1
 have hs:=hs.mono hleR1
 have hsR0:=hsR0.mono hleR1
 refine mK aN (fun _ _=>rfl) (by intro b hb; cases hb) ?_; intro GfR2 hR2 hleR2 evR2 hsR2; subst evR2
 have hs:=hs.mono hleR2
 have hsR0:=hsR0.mono hleR2
 have hsR1:=hsR1.mono hleR2
 refine mK aE (fun _ _=>rfl) (by intro b hb; cases hb) ?_; intro GfR3 hR3 hleR3 evR3 hsR3; subst evR3
 have hs:=hs.mono hleR3
 have hsR0:=hsR0.mono hleR3
 have hsR1:=hsR1.mono hleR3
 have hsR2:=hsR2.mono hleR3
 refine mK .here (fun _ _=>rfl) (by intro b hb; cases hb) ?_; intro GfR4 hR4 hleR4 evR4 hsR4; subst evR4
 have hs:=hs.mono hleR4
 have hsR0:=hsR0.mono hleR4
 have hsR1:=hsR1.mono hleR4
 have hsR2:=hsR2.mono hleR4
 have hsR3:=hsR3.mono hleR4
 rw [aSO (e:=e) (L:=gN L2)]
 have hXR:=aRC (X:=(fF e (gN L2))) hsR0 hsR1 hsR2 hsR3 hsR4 (fun i hi=>by show (gN L2 i).length≤_; rw [aQ9]; have:=hL2l i hi; omega) (fun i hi m hm=>aLO (aMe hs.wf hL) hE.wf.add hA i hi m (aRA.1 hm))
 refine .g (lB rfl eQ rfl .here ?_)
 refine kV rfl aKn (aB rfl aF) (aJg (fF e (gN L2)) (hx5 hR0 hR1 hR2 hR3 hR4) _ hXR) ?_
 refine nt rfl .no (.u rfl) (.g (cD rfl (fun c14=>?_) (fun c14=>?_)))
 ·have c14k:=c14
  try simp only [aC,aG,aD] at c14
  refine .g (bC rfl .no oW .nil rfl ?_)
  refine sw rfl (.u rfl) (.u rfl) rfl jC aE (by first|exact qE|exact qL|rfl) (iT) ?_
  refine aS rfl rfl (.nc (.ret (aM Tryz.results21 (.cell rfl (fun w hw=>bI eQ (RdN.own .here) ((by first|exact qE|exact qL|rfl)) hw) (.tmp rfl .nil)) ?_)))
  exact ⟨State.zero,eJ,180,.inr (.inl ⟨hri,by rw [aCe hok hL hA]; exact aFa (EqS.refl _) (by assumption),rfl,rfl⟩),rfl,rfl,lH⟩
 have c14k:=c14
 try simp only [aC,aG,aD] at c14
 refine .g (lB rfl eQ rfl .here ?_)
 refine sw rfl (.u rfl) (.u rfl) rfl jC aE (by first|exact qE|exact qL|rfl) (iT) ?_
 refine aS rfl rfl (.nc (.ret (aM Tryz.results21 (.cell rfl (fun w hw=>bI eQ (RdN.own .here) ((by first|exact qE|exact qL|rfl)) hw) (.tmp rfl .nil)) ?_)))
 exact ⟨(fF e (gN L2)),(hx5 hR0 hR1 hR2 hR3 hR4),0,.inr (.inr ⟨hri,rfl,_,by rw [aCe hok hL hA]; exact aFZ (EqS.refl _) (by assumption),EqS.refl _⟩),rfl,rfl,hXR⟩
end Go.Proofs.YtdeobooblmjlfaaGreatDoor
namespace Go.Tan
open Go.RowKit
section
variable {P:Program} {n:Nat} {l:List Oper} {K K':aO→PM→aH→Prop} {mc:Md}
variable {ρ:aO} {G:PM} {μ:aH} {m:Nat} {listed:Array Bool}
end
end Go.Tan
