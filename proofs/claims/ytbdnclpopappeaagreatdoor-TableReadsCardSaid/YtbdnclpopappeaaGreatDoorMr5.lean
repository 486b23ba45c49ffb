/- Lemmas and contracts of functions, joined. -/
import Derived.Test.YtbdnclpopappeaaGreatDoorMr4
set_option linter.unusedSimpArgs false
set_option linter.unusedVariables false
set_option linter.unusedSectionVars false
namespace Go.Proofs.YtbdnclpopappeaaGreatDoor
open Go.Tan Go.RowKit
theorem aTJ:aQ Tryz.prog 20=true:=by kernel_rfl
theorem aE4:iS Tryz.prog 36=some (Meta.zero.cells):=by kernel_rfl
theorem aEi:cK Tryz.prog 28 0=some 0:=by kernel_rfl
theorem aEj:cK Tryz.prog 28 1=some 1:=by kernel_rfl
theorem aSd:fX Tryz.prog 36 []=some (Meta.zero.cells,[]):=by kernel_rfl
theorem aB8:dG Tryz.prog 36=some 40:=by kernel_rfl
theorem iU:dT Tryz.prog 36=some (some 40):=by kernel_rfl
theorem aEw:aQ Tryz.prog 25=true:=by kernel_rfl
theorem aSh:fX Tryz.prog 70 [0,1,2]=some ([.int .u8 0,.int .u8 0,.int .u8 0,.int .u8 0,.int .u8 0,.int .u8 0,.int .u8 0,.int .u8 0,.int .u8 0,.int .u8 0,.int .u8 0,.int .u8 0,.int .u8 0,.int .u8 0,.int .u8 0,.int .u8 0,.int .u8 0,.int .u8 0,.int .u8 0,.int .u8 0,.int .u8 0,.int .u8 0,.int .u8 0,.int .u8 0,.int .u8 0,.int .u8 0,.int .u8 0,.int .u8 0,.int .u8 0,.int .u8 0,.int .u8 0,.int .u8 0,.int .u8 0,.int .u8 0,.int .u8 0,.int .u8 0,.int .u8 0,.int .u8 0,.int .u8 0,.int .u8 0,.int .u8 0,.int .u8 0,.int .u8 0,.int .u8 0,.int .u8 0,.int .u8 0,.int .u8 0,.int .u8 0,.int .u8 0,.int .u8 0,.int .u8 0,.int .u8 0,.int .u8 0,.int .u8 0,.int .u8 0,.int .u8 0,.int .u8 0,.int .u8 0,.int .u8 0,.int .u8 0,.int .u8 0,.int .u8 0,.int .u8 0,.int .u8 0,.slice none 0 0,.slice none 0 0,.slice none 0 0],[(0,64),(64,1),(65,1)]):=by kernel_rfl
theorem aTK:aQ Tryz.prog 27=true:=by kernel_rfl
theorem aTL:aQ Tryz.prog 29=true:=by kernel_rfl
theorem aKj:aQ Tryz.prog 30=true:=by kernel_rfl
theorem aB4:aQ Tryz.prog 31=true:=by kernel_rfl
theorem aSm:cK Tryz.prog 28 2=some 2:=by kernel_rfl
theorem aTN:aQ Tryz.prog 33=true:=by kernel_rfl
theorem aTM:aQ Tryz.prog 32=true:=by kernel_rfl
theorem aEx:aQ Tryz.prog 36=true:=by kernel_rfl
theorem aSe:fX Tryz.prog 36 [0,1,2,3,4,5,6,7,8]=some (Meta.zero.cells,[(0,1),(1,1),(2,1),(3,1),(4,1),(5,1),(6,1),(7,1),(8,32)]):=by kernel_rfl
set_option maxHeartbeats 4000000 in
theorem aI1 (root:Nat→Y) (h:Hd) (l:List Ent) (hl:Sh) (blk every bits:Int) (G:PM) (hs:SlR G 4 Ent.cells hl l) (hli:lightE l) (hK:RdNP G 1 0 (wa 64 kW)):Ct Tryz.prog 8 ([.agg (ba 32 root).toArray,.agg ([V h.kind,V h.level,uv .u64 h.gen,uv .u64 h.epoch,uv .u64 h.num]:List Value).toArray,hl.val l.length,.agg #[.int .i64 blk,.int .i64 every,.int .i64 bits]]:List Value).toArray G [] (fun G' μ' u=>∃ (h':Sh) (L:List Y) (m:Meta) (er:Int),aAH root h l blk every bits L m er∧μ'=[]∧u=.tuple #[h'.val L.length,m.val,.int .i64 er]∧SlR G' 1 aL h' L):=by
 refine Ct.of Tryz.func8 rfl Tryz.ntmps8 rfl fun w0 hs0=>?_
 have hl1:=hli.1; have hl2:=hli.2
 refine .seq (nO rfl rfl ?_)
 refine bX rfl rfl rfl ?_; intro b4
 refine bX rfl rfl rfl ?_; intro b5
 refine bX rfl rfl rfl ?_; intro b7
 refine aS rfl rfl ?_
 refine al rfl aE4 ?_; intro b9
 refine .g (fZ rfl vC rfl (lO rfl cA rfl aT (by first|exact aJ rfl|rfl) ?_))
 refine cP rfl rfl rfl rfl (.p (lA rfl (.f rfl rfl) fB (.u rfl) (fun _=>RdN.own aT) (fun _=>(by first|exact (gL _ _).trans (gL _ _).symm|exact gL _ _|exact aU _ _|exact Ent.len _|rfl)) ?_))
 refine kv rfl (.f rfl rfl) aKg (Eva.cons (.s rfl) aE) (fun hc=>aHO h _) ?_
 refine nt rfl (.f rfl rfl) (.s rfl) (cL rfl .no (.u rfl) (.s rfl) (mV rfl rfl (mv rfl (.f rfl rfl) (.u rfl) (ln rfl (.f rfl rfl) gJ (.s rfl) (cp rfl (.f rfl rfl) (.s rfl) (.u rfl) rfl (cL rfl .no (.u rfl) (.s rfl) (.p (fz rfl (.f rfl rfl) aEi (.u rfl) (ld rfl (.f rfl rfl) dA (.s rfl) (fun hc=>Rd.own aF (by first|exact aJ rfl|rfl)) ?_)))))))))
 refine cp rfl (.f rfl rfl) (.s rfl) (.u rfl) rfl (cL rfl .no (.u rfl) (.s rfl) (.p (fz rfl (.f rfl rfl) aEi (.u rfl) (ld rfl (.f rfl rfl) dA (.s rfl) (fun hc=>Rd.own aF (by first|exact aJ rfl|rfl)) ?_))))
 refine cp rfl (.f rfl rfl) (.s rfl) (.u rfl) rfl (cL rfl .no (.u rfl) (.s rfl) (.p (fz rfl (.f rfl rfl) aEj (.u rfl) (ld rfl (.f rfl rfl) dA (.s rfl) (fun hc=>Rd.own aF (by first|exact aJ rfl|rfl)) ?_))))
 refine cp rfl (.f rfl rfl) (.s rfl) (.u rfl) rfl (cL rfl .no (.u rfl) (.s rfl) (.p (fz rfl (.f rfl rfl) aEj (.u rfl) (ld rfl (.f rfl rfl) dA (.s rfl) (fun hc=>Rd.own aF (by first|exact aJ rfl|rfl)) ?_))))
 refine cp rfl (.f rfl rfl) (.s rfl) (.u rfl) rfl (cL rfl .no (.u rfl) (.s rfl) (mV rfl rfl (mv rfl (.f rfl rfl) (.u rfl) (mv rfl (.f rfl rfl) (.u rfl) (kv rfl (.f rfl rfl) aKh (Eva.cons (.s rfl) (Eva.cons (.s rfl) aE)) (fun hc=>aF4 hl l _ hs (by (try simp only [Bool.and_eq_true,decide_eq_true_eq,Bool.not_eq_true',Bool.or_eq_false_iff,decide_eq_false_iff_not] at hc); omega) 20 aTJ [] (fun e => !bT e) (fun G2 _ e _=>aRM e G2)) ?_)))))
 refine cL rfl .no (.u rfl) (.s rfl) (mV rfl rfl (mv rfl (.f rfl rfl) (.u rfl) (kv rfl (.f rfl rfl) aEv (Eva.cons (.s rfl) aE) (fun hc=>aDm hl l _ hs (by (try simp only [Bool.and_eq_true,decide_eq_true_eq,Bool.not_eq_true',Bool.or_eq_false_iff,decide_eq_false_iff_not] at hc); omega)) ?_)))
 refine nt rfl (.f rfl rfl) (.s rfl) (cL rfl .no (.u rfl) (.s rfl) (.g (cD rfl (fun c1=>?_) (fun c1=>?_))))
 ·have c1k:=c1
  try simp only [aC,aI,aD] at c1
  refine .g (bC rfl .no aSd .nil rfl ?_)
  refine .p (sw rfl (.u rfl) (.u rfl) rfl aB8 .here (by first|exact (gL _ _).trans (gL _ _).symm|exact gL _ _|exact aU _ _|exact Ent.len _|rfl) (by first|exact dW _ _|exact nA _ _|exact aBE _|decide|exact nK (nA _ _) (by simp [Value.oneCell'])) ?_)
  refine aS rfl rfl (.nc (.ret (aP Tryz.results8 (.tmp rfl (.cell rfl (fun w hw=>bW iU (RdN.own .here) ((by first|exact aHM|exact Meta.len _)) hw) (.tmp rfl .nil))) ?_)))
  exact ⟨⟨none,0⟩,[],Meta.zero,1,aRf c1k,rfl,rfl,SlR.nul⟩
 have c1k:=c1
 try simp only [aC,aI,aD] at c1
 refine .skip (.code (.seq ?_))
 refine fS bM (by intro b hb; cases hb) ?_; intro Gfb4 hleb4 hbb4
 have hs:=hs.mono hleb4
 have hK:=hK.mono hleb4
 refine fS aT (by intro b hb; cases hb) ?_; intro Gfb5 hleb5 hbb5
 have hs:=hs.mono hleb5
 have hK:=hK.mono hleb5
 have hbb4:=hbb4.mono hleb5
 refine fS aF (by intro b hb; cases hb) ?_; intro Gfb7 hleb7 hbb7
 have hs:=hs.mono hleb7
 have hK:=hK.mono hleb7
 have hbb4:=hbb4.mono hleb7
 have hbb5:=hbb5.mono hleb7
 refine dP ⟨true,false⟩ aV (by kernel_rfl) ?_
 refine Wp.one 0 (by kernel_rfl) ?_
 refine lA rfl .no cH (.u rfl) (fun _=>(hbb4.rdn (m:=32) (cs':=_) (by first|exact iY|exact gE|exact iX)).rd) (fun _=>(aU _ _)) ?_
 refine .nil (Wp.one 1 (by kernel_rfl) ?_)
 refine lA rfl .no fB (.u rfl) (fun _=>(hbb5.rdn (m:=5) (cs':=h.cells) (rfl)).rd) (fun _=>rfl) ?_
 refine .nil (Wp.pr 3 (by kernel_rfl) ?_)
 refine lA rfl .no fB (.u rfl) (fun _=>(hbb5.rdn (m:=5) (cs':=h.cells) (rfl)).rd) (fun _=>rfl) ?_
 refine .nil ⟨⟨rfl,rfl⟩,?_⟩
 refine Wp.pr 5 (by kernel_rfl) ?_
 refine lA rfl .no fB (.u rfl) (fun _=>(hbb5.rdn (m:=5) (cs':=h.cells) (rfl)).rd) (fun _=>rfl) ?_
 refine .nil ⟨⟨rfl,rfl⟩,?_⟩
 refine Wp.b1 2 (by kernel_rfl) ?_
 refine kV rfl aEw (aB rfl (aB rfl aE)) (aCG root h _ hK) ?_
 refine .nil (Wp.b1 4 (by kernel_rfl) ?_)
 refine kc rfl aAR (aB rfl aE) (Ct.frzB (zB h _)) ?_
 rintro _ G74 μ74 hG74 ⟨h74,L74,eL74,rfl,rfl,hs74⟩
 have hs:=hs.mono hG74
 have hK:=hK.mono hG74
 have hbb5:=hbb5.mono hG74
 have hbb7:=hbb7.mono hG74
 refine .nil (Wp.b1 6 (by kernel_rfl) ?_)
 refine kc rfl aAR (aB rfl aE) (iT (zB h _)) ?_
 rintro v76 G76 μ76 hG76 ⟨L76,ov76,eL76,rfl⟩
 have hs:=hs.mono hG76
 have hK:=hK.mono hG76
 have hbb5:=hbb5.mono hG76
 have hbb7:=hbb7.mono hG76
 have hs74:=hs74.mono hG76
 refine .nil (Wp.one 7 (by kernel_rfl) ?_)
 refine dU (dK (dE root (aX h)) (dF root (aX h)) (h74.val L74.length) v76 (.slice none 0 0)) rfl .no aSh (.cons (.u rfl) rfl (.cons (.u rfl) rfl (.cons (.u rfl) (yH ov76) .nil))) rfl (rfl) (.nil (Wp.b1 8 (by kernel_rfl) ?_))
 refine bX rfl rfl rfl ?_; intro b78
 refine .nil (Wp.one 9 (by kernel_rfl) ?_)
 refine aS rfl rfl (.nil (Wp.last (by kernel_rfl) ?_))
 refine .code (.seq (kQ 32 (ba 32) 23 ?_))
 refine aM rfl rfl (aS rfl rfl (.nc (.seq (aM rfl rfl (aS rfl rfl (.nc (.seq (aM rfl rfl (aS rfl rfl (.nc (.seq (.seq ?_))))))))))))
 obtain ⟨hnb,hg,hev⟩:=aRk (root:=root) (bits:=bits) c1k hli
 have hok:=hg.ok
 refine tD 5 ?_
 refine kQ 1 kC 9 ?_
 refine bD rfl rfl (mV rfl rfl (aS rfl rfl (.nc (.block ?_))))
 refine bE (α:=Nat×List Ent×Sh×Value×List Y×Value×List ByteArray×Value×List Y×Value×List Dg) (fun gh=>[(13,true,gh.2.2.2.1),(14,true,.int .i64 (gh.1:Int)),(15,true,gh.2.2.2.2.2.1),(16,true,gh.2.2.1.val gh.2.1.length)]) (fun gh=>[rS 1 kC gh.2.2.2.2.2.1 9 gh.2.2.2.2.2.2.1,rB gh.2.2.2.1 5 gh.2.2.2.2.1,rS 32 (ba 32) gh.2.2.2.2.2.2.2.2.2.1 23 gh.2.2.2.2.2.2.2.2.2.2,.blk b78 (cl (dK (dE root (aX h)) (dF root (aX h)) (h74.val L74.length) gh.2.2.2.2.2.2.2.1 gh.2.2.2.2.2.2.2.2.2.1) 70),rB gh.2.2.2.2.2.2.2.1 5 gh.2.2.2.2.2.2.2.2.1])
  (fun gh Gl=>(gh.1≤(cY blk l).length)∧(gh.2.1=((cY blk l).drop gh.1).flatten)∧(gh.2.2.2.2.2.2.2.2.1=(cX root h l blk every bits).out gh.1)∧(gh.2.2.2.2.1=(cX root h l blk every bits).rows gh.1)∧(gh.2.2.2.2.2.2.2.2.2.2=(cX root h l blk every bits).lvs gh.1)∧(gh.2.2.2.2.2.2.1=((cX root h l blk every bits).cs.take gh.1).flatten.map (·.user))∧(SlR Gl 4 Ent.cells gh.2.2.1 gh.2.1)) (fun gh=>(cY blk l).length-gh.1) (0,l,hl,.slice none 0 0,[],.slice none 0 0,[],v76,L76,.slice none 0 0,[]) [(2,true,_),(5,true,_),(7,true,_),(9,true,_),(12,true,_)] [_]
  (aA rfl (aO rfl (aA rfl (aA rfl (aA rfl (aA rfl (aA rfl (aA rfl (aA rfl eZ)))))))))
  (mS .here rfl (mS .here rfl (mS .here rfl (mS .here rfl (mS .here rfl (mS .here rfl mN)))))) ?_ ?_
 ·refine ⟨?_,?_,?_,?_,?_,?_,?_⟩
  ·(try dsimp only)<;>(first|omega|rfl|assumption|(simp; done))
  ·(try dsimp only)<;>(exact (oW blk l).symm)
  ·(try dsimp only)<;>(rw [eL76]; exact (List.append_nil _).symm)
  ·(try dsimp only)<;>(rfl)
  ·(try dsimp only)<;>(rfl)
  ·(try dsimp only)<;>(rfl)
  (try dsimp only)<;>(exact hs)
 intro gh N0 Gl0 hN0 hGl0 hF0
 obtain ⟨k,rest,hr,vr,RW,vu,US,vo,O,vl,D⟩:=gh; dsimp only at hF0 hN0 ⊢
 obtain ⟨hk,hrest,eO,eR,eD,eU,hsr⟩:=hF0
 have hs:=hs.mono hGl0
 have hK:=hK.mono hGl0
 have hbb5:=hbb5.mono hGl0
 have hbb7:=hbb7.mono hGl0
 have hs74:=hs74.mono hGl0
 have hrl:=aRn hli hrest; have hrl1:=hrl.1; have hrl2:=hrl.2
 have lO9:O.length≤74630:=by rw [eO]; exact hok.out_small hk
 have lR:RW.length≤65600:=by rw [eR]; exact hok.rows_small hk
 have lc:(cY blk l).length≤300:=hok.cs_le
 have hcl:=aCr blk rest 0
 have lD:D.length=k:=by rw [eD,Tab.lvs_len]
 have lU:US.length≤300:=by rw [eU]; exact Nat.le_trans (aSA _ _) (by rw [show (cX root h l blk every bits).cs.flatten=l from oW blk l]; omega)
 refine .g (lE rfl gJ rfl (cP rfl rfl rfl rfl (.g (cD rfl (fun c2=>?_) (fun c2=>?_)))))
 ·have c2k:=c2
  try simp only [aC,aI,aD] at c2
  refine .g (fA rfl aEi rfl (lN rfl dA rfl ((hbb7.rd (by rfl)).rd) ?_))
  refine kV rfl aTK (aB rfl (aB rfl aE)) (aMo hr rest blk _ hsr (by omega) (by omega)) ?_
  refine .g (kE ((gK blk 0 rest)) rfl .no dZ hsr (.u rfl) (.u rfl) (by omega) (by omega) ?_)
  intro h91 L91 eL91 lL91 hs91
  have lL91:=lL91 rfl
  refine .g (kD ((gK blk 0 rest)) rfl .no dZ hsr (.u rfl) (.u rfl) (by omega) (by omega) ?_)
  intro h94 L94 eL94 lL94 hs94
  have lL94:=lL94 rfl
  refine .g (fA rfl aEj rfl (lN rfl dA rfl ((hbb7.rd (by rfl)).rd) ?_))
  refine kc rfl aKi (aB rfl (aB rfl aE)) (aFY h91 L91 every _ hs91 (by omega)) ?_
  rintro _ G99 μ99 hG99 ⟨v99,L99,er99,hB99,rfl,rfl⟩
  obtain ⟨hkc,hLk,hR94,lcut,l0,hbk⟩:=aRo hg hev hrest (by omega) eL91 eL94
  obtain ⟨eL99,rfl⟩:=hbk hB99
  have hlL:lightE L91:=by rw [eL91]; exact hrl.take _
  have lB9:L99.length≤63000:=by rw [eL99]; have:=yC (every:=every.toNat) (l:=L91) (by omega) (by omega) (by have:=hlL.2; omega); have:=hlL.1; have:=hlL.2; omega
  have hs:=hs.mono hG99
  have hK:=hK.mono hG99
  have hbb5:=hbb5.mono hG99
  have hbb7:=hbb7.mono hG99
  have hs74:=hs74.mono hG99
  have hs91:=hs91.mono hG99
  have hs94:=hs94.mono hG99
  refine .p (eX rfl rfl rfl (eX rfl rfl rfl (.g (cP rfl rfl rfl rfl (.g (cD rfl (fun c3=>?_) (fun c3=>?_)))))))
  ·have c3k:=c3
   first|exact absurd c3 (by decide)|(simp at c3; done)|(exfalso; simp only [decide_eq_true_eq,gt_iff_lt] at c3; omega)
  have c3k:=c3
  try simp only [aC,aI,aD] at c3
  refine .g (aR rfl rfl rfl rfl ?_)
  obtain ⟨x,ex⟩:=dO (k:=L91.length-1) (xs:=L91) (by omega)
  have hxu:=usz hlL ex
  refine ih rfl .no dZ (.u rfl) (.u rfl) (by omega) (by omega) (fun _=>hs91.nn (k:=(((((gK blk 0 rest):Nat):Int)-(1:Int))).toNat) (by first|omega|(simp only [Bool.and_eq_true,decide_eq_true_eq] at hc; omega)|(simp only [List.length_cons,List.length_nil]; omega))) ?_
  refine fA rfl fM rfl (lN rfl cE rfl ((hs91.at (by omega) ex 0 _ rfl).rd) (.g (lE rfl gJ rfl (cP rfl rfl rfl rfl (.g (cD rfl (fun c4=>?_) (fun c4=>?_)))))))
  ·have c4k:=c4
   try simp only [aC,aI,aD] at c4
   refine uQ rfl rfl (mV rfl rfl (mV rfl rfl (ih rfl .no dZ (.u rfl) (.u rfl) (by omega) (by omega) (fun _=>hs94.nn (k:=0) (by first|omega|(simp only [Bool.and_eq_true,decide_eq_true_eq] at hc; omega)|(simp only [List.length_cons,List.length_nil]; omega))) ?_)))
   refine fA rfl fM rfl ?_
   obtain ⟨y,ey⟩:=dO (k:=0) (xs:=L94) (by omega)
   have hbt:=aCV (yb x.user) (yb y.user); rw [bP] at hbt
   refine lN rfl cE rfl ((hs94.at (by decide) ey 0 _ rfl).rd) ?_
   refine kV rfl aTL (aB rfl (aB rfl aE)) (aLy x.user y.user _ (by omega)) ?_
   refine aS rfl rfl (.nc (.seq ?_))
   refine iR .here (by first|(intro b hb; cases hb; done) | simp [keys,Res.keys]) ?_; intro GfR99 hR99 hleR99 evR99 hsR99; subst evR99
   have hs:=hs.mono hleR99
   have hK:=hK.mono hleR99
   have hbb5:=hbb5.mono hleR99
   have hbb7:=hbb7.mono hleR99
   have hs74:=hs74.mono hleR99
   have hs91:=hs91.mono hleR99
   have hs94:=hs94.mono hleR99
   refine iR aF (by first|(intro b hb; cases hb; done) | simp [keys,Res.keys]) ?_; intro GfRW hRW hleRW evRW hsRW; subst evRW
   have hs:=hs.mono hleRW
   have hK:=hK.mono hleRW
   have hbb5:=hbb5.mono hleRW
   have hbb7:=hbb7.mono hleRW
   have hs74:=hs74.mono hleRW
   have hs91:=hs91.mono hleRW
   have hs94:=hs94.mono hleRW
   have hsR99:=hsR99.mono hleRW
   refine .g (kc rfl aKj (aB rfl (aB rfl aE)) (iT (aFD RW hRW _ hsRW _ (by first|omega | (rw [fO]; omega)))) ?_)
   rintro v123 G123 μ123 hG123 ⟨L123,ov123,eL123,rfl⟩
   have hs:=hs.mono hG123
   have hK:=hK.mono hG123
   have hbb5:=hbb5.mono hG123
   have hbb7:=hbb7.mono hG123
   have hs74:=hs74.mono hG123
   have hs91:=hs91.mono hG123
   have hs94:=hs94.mono hG123
   have hsR99:=hsR99.mono hG123
   have hsRW:=hsRW.mono hG123
   refine .p (aW (((2+k):Nat):Int) rfl rfl rfl rfl ?_)
   refine .p (ka rfl (.inr rfl) aB4 (aB rfl (aB rfl (aB rfl aE))) (aBB bM bM aT) (aEB (dE root (aX h)) (dF root (aX h)) L74 h74 O D vo vl b78 (2+k) L99 hR99 _ hs74 hsR99 hK (by rw [eL74,mR]; decide) (by omega) (by omega) (by omega) (by omega)) ?_)
   rintro _ G128 μ128 hG128 ⟨X128,O128,W128,D128,vo128,vl128,bb128,cap128,eX128,eO128,eD128,eW128,rfl,rfl⟩
   have lX128:X128.length=L99.length+16:=by rw [eX128,uR]
   have lO128:O128.length=O.length+X128.length:=by rw [eO128,List.length_append]
   have lD128:D128.length=D.length+1:=by rw [eD128,List.length_append]; rfl
   have hs:=hs.mono hG128
   have hK:=hK.mono hG128
   have hbb5:=hbb5.mono hG128
   have hbb7:=hbb7.mono hG128
   have hs74:=hs74.mono hG128
   have hs91:=hs91.mono hG128
   have hs94:=hs94.mono hG128
   have hsR99:=hsR99.mono hG128
   have hsRW:=hsRW.mono hG128
   have lL123:=aIw eL123 (by first|omega | (rw [fO]; omega))
   have lW128:=aDv eW128 (by omega)
   refine cF rfl aH aY (.u rfl) (.u rfl) fG (Sc.row bM) (by (try simp only [bJ,bB]); omega) ?_
   intro v129 L129 ov129 eL129
   have lL129:L129.length=L123.length+W128.length:=by rw [eL129,List.length_append]
   refine .g (lE rfl gJ rfl (mV rfl rfl (.nc (.block ?_))))
   refine bE (α:=Nat×Value×List ByteArray) (fun gh=>[(15,true,gh.2.1),(132,true,.int .i64 (gh.1:Int))]) (fun gh=>[rS 1 kC gh.2.1 9 gh.2.2])
    (fun gh Gl=>(gh.1≤L91.length)∧(gh.2.2=US++(L91.take gh.1).map (·.user))) (fun gh=>L91.length-gh.1) (0,vu,US) [(2,true,_),(5,true,_),(7,true,_),(9,true,_),(12,true,_),(13,true,_),(14,true,_),(16,true,_),(130,true,_),(131,true,_)] [_,_,_,_,_,_]
    (aA rfl (aO rfl (aA rfl (aA rfl (aA rfl (aA rfl (aA rfl (aA rfl (aA rfl (aA rfl (aA rfl (aA rfl eZ))))))))))))
    (mS nP rfl (mS .here rfl (mS .here rfl (mS .here rfl (mS .here rfl (mS .here rfl (mS .here rfl mN))))))) ?_ ?_
   ·refine ⟨?_,?_⟩
    ·(try dsimp only)<;>(first|omega|rfl|assumption|(simp; done))
    (try dsimp only)<;>(simp)
   intro gh N1 Gl1 hN1 hGl1 hF1
   obtain ⟨j,w,U2⟩:=gh; dsimp only at hF1 hN1 ⊢
   obtain ⟨hj,eU2⟩:=hF1
   have hs:=hs.mono hGl1
   have hK:=hK.mono hGl1
   have hbb5:=hbb5.mono hGl1
   have hbb7:=hbb7.mono hGl1
   have hs74:=hs74.mono hGl1
   have hs91:=hs91.mono hGl1
   have hs94:=hs94.mono hGl1
   have hsR99:=hsR99.mono hGl1
   have hsRW:=hsRW.mono hGl1
   have lU2:U2.length≤600:=by rw [eU2,List.length_append,List.length_map,List.length_take]; omega
   refine .g (cP rfl rfl rfl rfl (.g (cD rfl (fun c5=>?_) (fun c5=>?_))))
   ·have c5k:=c5
    try simp only [aC,aI,aD] at c5
    refine .skip (.code (.seq (.block (.seq (gH rfl rfl (ih rfl .no dZ (.u rfl) (.u rfl) (by omega) (by omega) (fun _=>hs91.nn (k:=j) (by first|omega|(simp only [Bool.and_eq_true,decide_eq_true_eq] at hc; omega)|(simp only [List.length_cons,List.length_nil]; omega))) ?_))))))
    obtain ⟨z,ez⟩:=dO (k:=j) (xs:=L91) (by omega)
    refine lA rfl .no dN (.u rfl) (fun _=>(hs91.at (by omega) ez).rd) (fun _=>Ent.len _) ?_
    refine al rfl mJ ?_; intro b23
    refine sw rfl (.u rfl) (.u rfl) rfl fN .here (by first|exact (gL _ _).trans (gL _ _).symm|exact gL _ _|exact aU _ _|exact Ent.len _|rfl) (Ent.one _) ?_
    refine .g (fZ rfl fM rfl (lO rfl cE rfl .here (by first|exact aJ rfl|rfl) ?_))
    refine Go.Tan.b1 rfl jG rY (.u rfl) rfl rfl (by decide) ?_; intro b139
    refine fK (xs:=U2) (z.user) rfl jG rY rfl (.u rfl) (.u rfl) aT .here (rfl) (mW rfl) (by omega) (by unfold maxLen; omega) ?_; intro v140 ov140
    refine .g (aW (((j+1):Nat):Int) rfl rfl rfl rfl ?_)
    refine .g (aZ (j+1,v140,U2++[z.user]) ?_ ?_ ?_ ?_ ?_)
    ·exact (aA rfl (aO rfl (aA rfl (aA rfl (aA rfl (aA rfl (aA rfl (aA rfl (aA rfl (aA rfl (aA rfl (aA rfl eZ))))))))))))
    ·exact (mS .here rfl (mS aT rfl (mS aT rfl (mS aT rfl (mS aT rfl (mS aT rfl (mS aT rfl mN)))))))
    ·first|omega|(dsimp only; omega)
    ·exact hGl1
    refine ⟨?_,?_⟩
    ·(try dsimp only)<;>(first|omega|rfl|assumption|(simp; done))
    (try dsimp only)<;>(rw [eU2,aJV ez])
   have c5k:=c5
   try simp only [aC,aI,aD] at c5
   refine .g (nC rfl rfl (fZ rfl vD rfl (lN rfl bV rfl (Rd.own aT kR) ?_)))
   refine lr rfl .no bK (.u rfl) bM ?_
   refine cP rfl rfl rfl rfl (.g (cD rfl (fun c6=>?_) (fun c6=>?_)))
   ·have c6k:=c6
    first|exact absurd c6 (by decide)|(simp at c6; done)|(exfalso; simp only [decide_eq_true_eq,gt_iff_lt] at c6; omega)
   have c6k:=c6
   try simp only [aC,aI,aD] at c6
   refine .g (aW (((k+1):Nat):Int) rfl rfl rfl rfl ?_)
   refine aS rfl rfl (.nil ?_)
   have hX:X128=(cX root h l blk every bits).prt k:=aJF (t:=(cX root h l blk every bits)) hLk (by rw [eX128,eL74,eL99]; rfl)
   refine aZ (k+1,L94,h94,v129,L129,w,U2,vo128,O128,vl128,D128) ?_ ?_ ?_ ?_ ?_
   ·exact (aA rfl (aO rfl (aA rfl (aA rfl (aA rfl (aA rfl (aA rfl (aA rfl (aA rfl eZ)))))))))
   ·exact (mS .here rfl (mS .here rfl (mS aT rfl (mS .here rfl (mS .here rfl (mS aF rfl mN))))))
   ·first|omega|(dsimp only; omega)
   ·exact ((((((hGl0).trans hG99).trans hleR99).trans hleRW).trans hG123).trans hG128).trans hGl1
   refine ⟨?_,?_,?_,?_,?_,?_,?_⟩
   ·(try dsimp only)<;>(first|omega|rfl|assumption|(simp; done))
   ·(try dsimp only)<;>(exact hR94)
   ·(try dsimp only)<;>(exact aJE (t:=(cX root h l blk every bits)) eO hX eO128)
   ·(try dsimp only)<;>(exact aJG (t:=(cX root h l blk every bits)) eR hX eW128 (by rw [iD]; exact aRh hkc hLk hR94 (by omega) ex ey) eL123 eL129)
   ·(try dsimp only)<;>(exact aJD (t:=(cX root h l blk every bits)) eD hX eD128)
   ·(try dsimp only)<;>(rw [eU2,show j=L91.length by omega,List.take_length]; exact aJH (t:=(cX root h l blk every bits)) hkc hLk eU)
   (try dsimp only)<;>(exact hs94)
  have c4k:=c4
  try simp only [aC,aI,aD] at c4
  refine .skip (.code (.seq ?_))
  refine iR .here (by first|(intro b hb; cases hb; done) | simp [keys,Res.keys]) ?_; intro GfR99 hR99 hleR99 evR99 hsR99; subst evR99
  have hs:=hs.mono hleR99
  have hK:=hK.mono hleR99
  have hbb5:=hbb5.mono hleR99
  have hbb7:=hbb7.mono hleR99
  have hs74:=hs74.mono hleR99
  have hs91:=hs91.mono hleR99
  have hs94:=hs94.mono hleR99
  refine iR aF (by first|(intro b hb; cases hb; done) | simp [keys,Res.keys]) ?_; intro GfRW hRW hleRW evRW hsRW; subst evRW
  have hs:=hs.mono hleRW
  have hK:=hK.mono hleRW
  have hbb5:=hbb5.mono hleRW
  have hbb7:=hbb7.mono hleRW
  have hs74:=hs74.mono hleRW
  have hs91:=hs91.mono hleRW
  have hs94:=hs94.mono hleRW
  have hsR99:=hsR99.mono hleRW
  refine .g (kc rfl aKj (aB rfl (aB rfl aE)) (iT (aFD RW hRW _ hsRW _ (by first|omega | (rw [fO]; omega)))) ?_)
  rintro v123 G123 μ123 hG123 ⟨L123,ov123,eL123,rfl⟩
  have hs:=hs.mono hG123
  have hK:=hK.mono hG123
  have hbb5:=hbb5.mono hG123
  have hbb7:=hbb7.mono hG123
  have hs74:=hs74.mono hG123
  have hs91:=hs91.mono hG123
  have hs94:=hs94.mono hG123
  have hsR99:=hsR99.mono hG123
  refine .p (aW (((2+k):Nat):Int) rfl rfl rfl rfl ?_)
  refine .p (ka rfl (.inr rfl) aB4 (aB rfl (aB rfl (aB rfl aE))) (aBB bM bM aT) (aEB (dE root (aX h)) (dF root (aX h)) L74 h74 O D vo vl b78 (2+k) L99 hR99 _ hs74 hsR99 hK (by rw [eL74,mR]; decide) (by omega) (by omega) (by omega) (by omega)) ?_)
  rintro _ G128 μ128 hG128 ⟨X128,O128,W128,D128,vo128,vl128,bb128,cap128,eX128,eO128,eD128,eW128,rfl,rfl⟩
  have lX128:X128.length=L99.length+16:=by rw [eX128,uR]
  have lO128:O128.length=O.length+X128.length:=by rw [eO128,List.length_append]
  have lD128:D128.length=D.length+1:=by rw [eD128,List.length_append]; rfl
  have hs:=hs.mono hG128
  have hK:=hK.mono hG128
  have hbb5:=hbb5.mono hG128
  have hbb7:=hbb7.mono hG128
  have hs74:=hs74.mono hG128
  have hs91:=hs91.mono hG128
  have hs94:=hs94.mono hG128
  have lL123:=aIw eL123 (by first|omega | (rw [fO]; omega))
  have lW128:=aDv eW128 (by omega)
  refine cF rfl aH aY (.u rfl) (.u rfl) fG (Sc.row bM) (by (try simp only [bJ,bB]); omega) ?_
  intro v129 L129 ov129 eL129
  have lL129:L129.length=L123.length+W128.length:=by rw [eL129,List.length_append]
  refine .g (lE rfl gJ rfl (mV rfl rfl (.nc (.block ?_))))
  refine bE (α:=Nat×Value×List ByteArray) (fun gh=>[(15,true,gh.2.1),(132,true,.int .i64 (gh.1:Int))]) (fun gh=>[rS 1 kC gh.2.1 9 gh.2.2])
   (fun gh Gl=>(gh.1≤L91.length)∧(gh.2.2=US++(L91.take gh.1).map (·.user))) (fun gh=>L91.length-gh.1) (0,vu,US) [(2,true,_),(5,true,_),(7,true,_),(9,true,_),(12,true,_),(13,true,_),(14,true,_),(16,true,_),(130,true,_),(131,true,_)] [_,_,_,_,_,_]
   (aA rfl (aO rfl (aA rfl (aA rfl (aA rfl (aA rfl (aA rfl (aA rfl (aA rfl (aA rfl (aA rfl (aA rfl eZ))))))))))))
   (mS nP rfl (mS .here rfl (mS .here rfl (mS .here rfl (mS .here rfl (mS .here rfl (mS .here rfl mN))))))) ?_ ?_
  ·refine ⟨?_,?_⟩
   ·(try dsimp only)<;>(first|omega|rfl|assumption|(simp; done))
   (try dsimp only)<;>(simp)
  intro gh N2 Gl2 hN2 hGl2 hF2
  obtain ⟨j,w,U2⟩:=gh; dsimp only at hF2 hN2 ⊢
  obtain ⟨hj,eU2⟩:=hF2
  have hs:=hs.mono hGl2
  have hK:=hK.mono hGl2
  have hbb5:=hbb5.mono hGl2
  have hbb7:=hbb7.mono hGl2
  have hs74:=hs74.mono hGl2
  have hs91:=hs91.mono hGl2
  have hs94:=hs94.mono hGl2
  have lU2:U2.length≤600:=by rw [eU2,List.length_append,List.length_map,List.length_take]; omega
  refine .g (cP rfl rfl rfl rfl (.g (cD rfl (fun c7=>?_) (fun c7=>?_))))
  ·have c7k:=c7
   try simp only [aC,aI,aD] at c7
   refine .skip (.code (.seq (.block (.seq (gH rfl rfl (ih rfl .no dZ (.u rfl) (.u rfl) (by omega) (by omega) (fun _=>hs91.nn (k:=j) (by first|omega|(simp only [Bool.and_eq_true,decide_eq_true_eq] at hc; omega)|(simp only [List.length_cons,List.length_nil]; omega))) ?_))))))
   obtain ⟨z,ez⟩:=dO (k:=j) (xs:=L91) (by omega)
   refine lA rfl .no dN (.u rfl) (fun _=>(hs91.at (by omega) ez).rd) (fun _=>Ent.len _) ?_
   refine al rfl mJ ?_; intro b23
   refine sw rfl (.u rfl) (.u rfl) rfl fN .here (by first|exact (gL _ _).trans (gL _ _).symm|exact gL _ _|exact aU _ _|exact Ent.len _|rfl) (Ent.one _) ?_
   refine .g (fZ rfl fM rfl (lO rfl cE rfl .here (by first|exact aJ rfl|rfl) ?_))
   refine Go.Tan.b1 rfl jG rY (.u rfl) rfl rfl (by decide) ?_; intro b139
   refine fK (xs:=U2) (z.user) rfl jG rY rfl (.u rfl) (.u rfl) aT .here (rfl) (mW rfl) (by omega) (by unfold maxLen; omega) ?_; intro v140 ov140
   refine .g (aW (((j+1):Nat):Int) rfl rfl rfl rfl ?_)
   refine .g (aZ (j+1,v140,U2++[z.user]) ?_ ?_ ?_ ?_ ?_)
   ·exact (aA rfl (aO rfl (aA rfl (aA rfl (aA rfl (aA rfl (aA rfl (aA rfl (aA rfl (aA rfl (aA rfl (aA rfl eZ))))))))))))
   ·exact (mS .here rfl (mS aT rfl (mS aT rfl (mS aT rfl (mS aT rfl (mS aT rfl (mS aT rfl mN)))))))
   ·first|omega|(dsimp only; omega)
   ·exact hGl2
   refine ⟨?_,?_⟩
   ·(try dsimp only)<;>(first|omega|rfl|assumption|(simp; done))
   (try dsimp only)<;>(rw [eU2,aJV ez])
  have c7k:=c7
  try simp only [aC,aI,aD] at c7
  refine .g (nC rfl rfl (fZ rfl vD rfl (lN rfl bV rfl (Rd.own aT kR) ?_)))
  refine lr rfl .no bK (.u rfl) bM ?_
  refine cP rfl rfl rfl rfl (.g (cD rfl (fun c8=>?_) (fun c8=>?_)))
  ·have c8k:=c8
   first|exact absurd c8 (by decide)|(simp at c8; done)|(exfalso; simp only [decide_eq_true_eq,gt_iff_lt] at c8; omega)
  have c8k:=c8
  try simp only [aC,aI,aD] at c8
  refine .g (aW (((k+1):Nat):Int) rfl rfl rfl rfl ?_)
  refine aS rfl rfl (.nil ?_)
  have hX:X128=(cX root h l blk every bits).prt k:=aJF (t:=(cX root h l blk every bits)) hLk (by rw [eX128,eL74,eL99]; rfl)
  refine aZ (k+1,L94,h94,v129,L129,w,U2,vo128,O128,vl128,D128) ?_ ?_ ?_ ?_ ?_
  ·exact (aA rfl (aO rfl (aA rfl (aA rfl (aA rfl (aA rfl (aA rfl (aA rfl (aA rfl eZ)))))))))
  ·exact (mS .here rfl (mS .here rfl (mS aT rfl (mS .here rfl (mS .here rfl (mS aF rfl mN))))))
  ·first|omega|(dsimp only; omega)
  ·exact ((((((hGl0).trans hG99).trans hleR99).trans hleRW).trans hG123).trans hG128).trans hGl2
  refine ⟨?_,?_,?_,?_,?_,?_,?_⟩
  ·(try dsimp only)<;>(first|omega|rfl|assumption|(simp; done))
  ·(try dsimp only)<;>(exact hR94)
  ·(try dsimp only)<;>(exact aJE (t:=(cX root h l blk every bits)) eO hX eO128)
  ·(try dsimp only)<;>(exact aJG (t:=(cX root h l blk every bits)) eR hX eW128 (aRg hLk hR94 (by omega) ex) eL123 eL129)
  ·(try dsimp only)<;>(exact aJD (t:=(cX root h l blk every bits)) eD hX eD128)
  ·(try dsimp only)<;>(rw [eU2,show j=L91.length by omega,List.take_length]; exact aJH (t:=(cX root h l blk every bits)) hkc hLk eU)
  (try dsimp only)<;>(exact hs94)
 have c2k:=c2
 try simp only [aC,aI,aD] at c2
 refine .exit (.xcode (.xlp (.xblk (.code (.seq ?_)))))
 have hke:=aGD hrest (List.eq_nil_of_length_eq_zero (by omega))
 obtain rfl:k=(cY blk l).length:=by omega
 have eUS:=aRe (Nat.le_refl _) eU
 have lcm:=aCk US
 refine dP ⟨true,false⟩ aV (by kernel_rfl) ?_
 refine Wp.one 0 (by kernel_rfl) ?_
 refine mV rfl rfl (.nil (Wp.one 1 (by kernel_rfl) ?_))
 refine mV rfl rfl (.nil (Wp.one 2 (by kernel_rfl) ?_))
 refine mV rfl rfl (.nil (Wp.one 4 (by kernel_rfl) ?_))
 refine fA rfl aSm rfl (.nil (Wp.pr 5 (by kernel_rfl) ?_))
 refine lN rfl dA rfl ((hbb7.rd (by rfl)).rd) ?_
 refine .nil ⟨⟨rfl,rfl⟩,?_⟩
 refine Wp.b1 3 (by kernel_rfl) ?_
 refine ka rfl (.inl rfl) aTN (aB rfl aE) (bQ .here) (aMe US vu _ (by omega)) ?_
 rintro _ G152 μ152 hG152 ⟨vu2,rfl,rfl⟩
 have hs:=hs.mono hG152
 have hK:=hK.mono hG152
 have hbb5:=hbb5.mono hG152
 have hs74:=hs74.mono hG152
 refine .nil (Wp.b1 6 (by kernel_rfl) ?_)
 refine ka rfl (.inl rfl) aTM (aB rfl (aB rfl aE)) (bQ .here) (aEV (aCx _) (fun hu G2 hle hv hs=>by subst hv; exact aOD hu (gQ US) bits G2 hs (by omega) (by rw [eUS]; exact aSB hli))) ?_
 rintro v155 G155 μ155 hG155 ⟨_,rfl,L155,eL155,rfl⟩
 have lM:L155.length≤2500:=by rw [eL155,aDL]; have h3:=aBH bits; have h4:(gQ US).length*eG bits≤300*64:=Nat.mul_le_mul (by omega) h3.2; omega
 have hs:=hs.mono hG155
 have hK:=hK.mono hG155
 have hbb5:=hbb5.mono hG155
 have hs74:=hs74.mono hG155
 refine .nil (Wp.b1 7 (by kernel_rfl) ?_)
 refine ka rfl (.inl rfl) aB4 (aB rfl (aB rfl (aB rfl aE))) (aHN aF bM bM aT) (aI4 (dE root (aX h)) (dF root (aX h)) L74 h74 O D vo vl b78 1 L155 v155 _ hs74 hK (by rw [eL74,mR]; decide) (by omega) (by omega) (by omega) (by omega)) ?_
 rintro _ G156 μ156 hG156 ⟨_,rfl,X156,O156,W156,D156,vo156,vl156,bb156,cap156,eX156,eO156,eD156,eW156,rfl,rfl⟩
 have lX156:X156.length=L155.length+16:=by rw [eX156,uR]
 have lO156:O156.length=O.length+X156.length:=by rw [eO156,List.length_append]
 have lD156:D156.length=D.length+1:=by rw [eD156,List.length_append]; rfl
 have hs:=hs.mono hG156
 have hK:=hK.mono hG156
 have hbb5:=hbb5.mono hG156
 have hs74:=hs74.mono hG156
 refine .nil (Wp.b1 8 (by kernel_rfl) ?_)
 have lW156:=aDv eW156 (by omega)
 refine cF rfl aH aY (.u rfl) (.u rfl) rU (Sc.row fG) (by (try simp only [bJ,bB]); omega) ?_
 intro v157 L157 ov157 eL157
 have lL157:L157.length=RW.length+W156.length:=by rw [eL157,List.length_append]
 refine .nil (Wp.one 9 (by kernel_rfl) ?_)
 refine aS rfl rfl (.nil (Wp.last (by kernel_rfl) ?_))
 refine .g (nC rfl rfl (fZ rfl vD rfl (lN rfl bV rfl (Rd.own aT kR) ?_)))
 refine lr rfl .no bK (.u rfl) bM ?_
 refine aS rfl rfl (.nc (.seq ?_))
 refine xA .here (by omega) ?_; intro bbRW capRW evRW lcRW; subst evRW
 refine .g (ci rfl .no rfl cW (.u rfl) ?_)
 refine kc rfl pQ (aB rfl (aB rfl aE)) (iT (oU [] ⟨none,0⟩ _ SlR.nul _ (Nat.zero_le _))) ?_
 rintro v166 G166 μ166 hG166 ⟨L166,ov166,eL166,rfl⟩
 have hs:=hs.mono hG166
 have hK:=hK.mono hG166
 have hbb5:=hbb5.mono hG166
 have hs74:=hs74.mono hG166
 refine mV rfl rfl ?_
 have lL166:=zC eL166
 refine cF rfl aH aY (.u rfl) (.u rfl) .here (Sc.row aF) (by (try simp only [bJ,bB]); omega) ?_
 intro v168 L168 ov168 eL168
 have lL168:L168.length=L166.length+L157.length:=by rw [eL168,List.length_append]
 refine ka rfl (.inr rfl) aB4 (aB rfl (aB rfl (aB rfl aE))) (aHN .here aT aT aT) (aI4 (dE root (aX h)) (dF root (aX h)) L74 h74 O156 D156 vo156 vl156 b78 0 L168 v168 _ hs74 hK (by rw [eL74,mR]; decide) (by omega) (by omega) (by omega) (by omega)) ?_
 rintro _ G169 μ169 hG169 ⟨_,rfl,X169,O169,W169,D169,vo169,vl169,bb169,cap169,eX169,eO169,eD169,eW169,rfl,rfl⟩
 have lX169:X169.length=L168.length+16:=by rw [eX169,uR]
 have lO169:O169.length=O156.length+X169.length:=by rw [eO169,List.length_append]
 have lD169:D169.length=D156.length+1:=by rw [eD169,List.length_append]; rfl
 have hs:=hs.mono hG169
 have hK:=hK.mono hG169
 have hbb5:=hbb5.mono hG169
 refine .nil (.code (.seq ?_))
 refine iR aT (by first|(intro b hb; cases hb; done) | simp [keys,Res.keys]) ?_; intro GfR76 hR76 hleR76 evR76 hsR76; subst evR76
 have hs:=hs.mono hleR76
 have hK:=hK.mono hleR76
 have hbb5:=hbb5.mono hleR76
 refine dP ⟨true,false⟩ aV (by kernel_rfl) ?_
 refine Wp.one 0 (by kernel_rfl) ?_
 refine mV rfl rfl (.nil (Wp.one 1 (by kernel_rfl) ?_))
 refine nC rfl rfl (.nil (Wp.one 2 (by kernel_rfl) ?_))
 refine fZ rfl vD rfl (.nil (Wp.one 3 (by kernel_rfl) ?_))
 refine lN rfl bV rfl (Rd.own aF kR) ?_
 refine .nil (Wp.one 4 (by kernel_rfl) ?_)
 refine mV rfl rfl (.nil (Wp.one 5 (by kernel_rfl) ?_))
 refine nC rfl rfl (.nil (Wp.one 6 (by kernel_rfl) ?_))
 refine fZ rfl vD rfl (.nil (Wp.one 7 (by kernel_rfl) ?_))
 refine lN rfl bV rfl (Rd.own aF kR) ?_
 refine .nil (Wp.one 8 (by kernel_rfl) ?_)
 refine lE rfl bK rfl (.nil (Wp.one 9 (by kernel_rfl) ?_))
 refine mV rfl rfl (.nil (Wp.one 10 (by kernel_rfl) ?_))
 refine aR rfl rfl rfl rfl ?_
 refine .nil (Wp.one 11 (by kernel_rfl) ?_)
 refine ci rfl .no rfl cW (.u rfl) ?_
 refine .nil (Wp.b1 12 (by kernel_rfl) ?_)
 refine kc rfl tK (aB rfl (aB rfl (aB rfl aE))) (iT (rV O169 hR76 _ 8 _ hsR76 (by omega) (by decide))) ?_
 rintro v182 G182 μ182 hG182 ⟨L182,ov182,eL182,rfl⟩
 have hs:=hs.mono hG182
 have hK:=hK.mono hG182
 have hbb5:=hbb5.mono hG182
 refine .nil (Wp.one 13 (by kernel_rfl) ?_)
 refine aS rfl rfl (.nil (Wp.last (by kernel_rfl) ?_))
 refine .code (.seq (.seq ?_))
 have lL182:=fx2 eL182
 refine .g (lr rfl .no bK (.u rfl) .here ?_)
 refine cP rfl rfl rfl rfl (.g (cD rfl (fun c9=>?_) (fun c9=>?_)))
 ·have c9k:=c9
  first|exact absurd c9 (by decide)|(simp at c9; done)|(exfalso; simp only [decide_eq_true_eq,gt_iff_lt] at c9; omega)
 have c9k:=c9
 try simp only [aC,aI,aD] at c9
 refine .skip (.code (.seq ?_))
 refine jC bM (fun _ _=>rfl) (by intro b hb; cases hb) ?_; intro GfRD hRD hleRD evRD hsRD; subst evRD
 have hs:=hs.mono hleRD
 have hK:=hK.mono hleRD
 have hbb5:=hbb5.mono hleRD
 refine fS aT (by intro b hb; cases hb) ?_; intro Gfb78 hleb78 hbb78
 have hs:=hs.mono hleb78
 have hK:=hK.mono hleb78
 have hbb5:=hbb5.mono hleb78
 have hsRD:=hsRD.mono hleb78
 refine iR .here (by first|(intro b hb; cases hb; done) | simp [keys,Res.keys]) ?_; intro GfR182 hR182 hleR182 evR182 hsR182; subst evR182
 have hs:=hs.mono hleR182
 have hK:=hK.mono hleR182
 have hbb5:=hbb5.mono hleR182
 have hsRD:=hsRD.mono hleR182
 have hbb78:=hbb78.mono hleR182
 refine dP ⟨true,false⟩ aV (by kernel_rfl) ?_
 refine Wp.one 0 (by kernel_rfl) ?_
 refine mV rfl rfl (.nil (Wp.one 1 (by kernel_rfl) ?_))
 refine fA rfl tI rfl (.nil (Wp.one 3 (by kernel_rfl) ?_))
 refine fA rfl tJ rfl (.nil (Wp.one 5 (by kernel_rfl) ?_))
 refine fA rfl aAN rfl (.nil (Wp.one 7 (by kernel_rfl) ?_))
 refine fA rfl aAO rfl (.nil (Wp.one 9 (by kernel_rfl) ?_))
 refine mV rfl rfl (.nil (Wp.one 11 (by kernel_rfl) ?_))
 refine mV rfl rfl (.nil (Wp.one 13 (by kernel_rfl) ?_))
 refine mV rfl rfl (.nil (Wp.one 14 (by kernel_rfl) ?_))
 obtain ⟨x,ex⟩:=dO (k:=0) (xs:=l) (by omega)
 obtain ⟨y,ey⟩:=dO (k:=l.length-1) (xs:=l) (by omega)
 refine ih rfl .no dZ (.u rfl) (.u rfl) (by omega) (by omega) (fun _=>hs.nn (k:=0) (by first|omega|(simp only [Bool.and_eq_true,decide_eq_true_eq] at hc; omega)|(simp only [List.length_cons,List.length_nil]; omega))) ?_
 refine .nil (Wp.one 15 (by kernel_rfl) ?_)
 refine fA rfl fM rfl (.nil (Wp.one 17 (by kernel_rfl) ?_))
 refine mV rfl rfl (.nil (Wp.one 18 (by kernel_rfl) ?_))
 refine mV rfl rfl (.nil (Wp.one 24 (by kernel_rfl) ?_))
 refine mV rfl rfl (.nil (Wp.one 25 (by kernel_rfl) ?_))
 refine nC rfl rfl (.nil (Wp.one 26 (by kernel_rfl) ?_))
 refine fA rfl aEn rfl (.nil (Wp.one 27 (by kernel_rfl) ?_))
 refine lN rfl pN rfl ((hbb78.rd (uX)).rd) ?_
 refine .nil (Wp.pr 2 (by kernel_rfl) ?_)
 refine lN rfl cA rfl ((hbb5.rd (by rfl)).rd) ?_
 refine .nil ⟨⟨rfl,rfl⟩,?_⟩
 refine Wp.pr 4 (by kernel_rfl) ?_
 refine lN rfl fI rfl ((hbb5.rd (by rfl)).rd) ?_
 refine .nil ⟨⟨rfl,rfl⟩,?_⟩
 refine Wp.pr 6 (by kernel_rfl) ?_
 refine lN rfl fI rfl ((hbb5.rd (by rfl)).rd) ?_
 refine .nil ⟨⟨rfl,rfl⟩,?_⟩
 refine Wp.pr 8 (by kernel_rfl) ?_
 refine lN rfl fI rfl ((hbb5.rd (by rfl)).rd) ?_
 refine .nil ⟨⟨rfl,rfl⟩,?_⟩
 refine Wp.pr 10 (by kernel_rfl) ?_
 refine lE rfl bK rfl (.nil ⟨⟨rfl,rfl⟩,?_⟩)
 refine Wp.pr 12 (by kernel_rfl) ?_
 refine lE rfl gJ rfl (.nil ⟨⟨rfl,rfl⟩,?_⟩)
 refine Wp.pr 16 (by kernel_rfl) ?_
 refine lN rfl cE rfl ((hs.at (by decide) ex 0 _ rfl).rd) (.nil ⟨⟨rfl,rfl⟩,?_⟩)
 refine Wp.pr 19 (by kernel_rfl) ?_
 refine lE rfl gJ rfl (.nil ⟨⟨rfl,rfl⟩,?_⟩)
 refine Wp.one 20 (by kernel_rfl) ?_
 refine aR rfl rfl rfl rfl ?_
 refine .nil (Wp.one 21 (by kernel_rfl) ?_)
 refine ih rfl .no dZ (.u rfl) (.u rfl) (by omega) (by omega) (fun _=>hs.nn (k:=((((l.length:Nat):Int)-(1:Int))).toNat) (by first|omega|(simp only [Bool.and_eq_true,decide_eq_true_eq] at hc; omega)|(simp only [List.length_cons,List.length_nil]; omega))) ?_
 refine .nil (Wp.one 22 (by kernel_rfl) ?_)
 refine fA rfl fM rfl (.nil (Wp.pr 23 (by kernel_rfl) ?_))
 refine lN rfl cE rfl ((hs.at (by omega) ey 0 _ rfl).rd) ?_
 refine .nil ⟨⟨rfl,rfl⟩,?_⟩
 refine Wp.b1 28 (by kernel_rfl) ?_
 refine kV rfl aEx (aB rfl aE) (aIP D169 hRD _ hsRD hK (by omega)) ?_
 refine .nil (Wp.one 29 (by kernel_rfl) ?_)
 refine dU (([V h.level,uv .u64 h.gen,uv .u64 h.epoch,uv .u64 h.num,.int .i64 (L182.length:Int),.int .i64 (l.length:Int),.string x.user,.string y.user]++ba 32 (dJ D169))) rfl .no aSe (.cons (.u rfl) rfl (.cons (.u rfl) rfl (.cons (.u rfl) rfl (.cons (.u rfl) rfl (.cons (.u rfl) rfl (.cons (.u rfl) rfl (.cons (.u rfl) rfl (.cons (.u rfl) rfl (.cons (.u rfl) rfl .nil))))))))) rfl (rfl) (.nil (Wp.one 30 (by kernel_rfl) ?_))
 refine aS rfl rfl (.nil (Wp.b1 31 (by kernel_rfl) ?_))
 refine sw rfl (.u rfl) (.u rfl) rfl aB8 rU rfl (aOL rfl rfl rfl rfl rfl rfl rfl rfl) ?_
 refine .nil (Wp.one 32 (by kernel_rfl) ?_)
 refine aS rfl rfl (.nil (Wp.last (by kernel_rfl) ?_))
 refine .code (.ret (aP Tryz.results8 (.tmp rfl (.cell rfl (fun w hw=>bW iU (RdN.own .here) ((by first|exact aHM|exact Meta.len _)) hw) (.tmp rfl .nil))) ?_))
 have eF:=aRj (root:=root) (h:=h) (blk:=blk) (every:=every) (X:=X156) eUS eL155 (by rw [eX156,eL74]<;>rfl)
 have eI:=aRl (root:=root) (h:=h) (every:=every) (bits:=bits) eR (by rw [eW156,eF]) eL166 (by omega) eL157 eL168
 have eS:=aRp (root:=root) (h:=h) (every:=every) (bits:=bits) (X:=X169) eI (by rw [eX169,eL74]<;>rfl)
 have eB:=aRi (root:=root) (h:=h) (every:=every) (bits:=bits) eO eF eS eO156 eO169 (by omega) eL182
 refine ⟨hR182,L182,(cX root h l blk every bits).info,0,.inr ⟨hnb,eB,rfl,rfl⟩,rfl,?_,hsR182⟩
 have eM:=aRm eB eD eF eS eD156 eD169 ex ey
 exact congrArg (fun z=>Value.tuple #[hR182.val L182.length,.agg (List.toArray z),.int .i64 0]) eM
theorem aKM:cK Tryz.prog 98 0=some 0:=by kernel_rfl
theorem aKN:cK Tryz.prog 98 1=some 64:=by kernel_rfl
theorem aKU:aQ Tryz.prog 123=true:=by kernel_rfl
theorem iI:aQ Tryz.prog 67=true:=by kernel_rfl
theorem nB:cK Tryz.prog 98 2=some 65:=by kernel_rfl
theorem qQ:dT Tryz.prog 96=some none:=by kernel_rfl
theorem nS:cG Tryz.prog 96=some (103,34,72):=by kernel_rfl
theorem tF:dT Tryz.prog 103=some (some 34):=by kernel_rfl
theorem aAX:iS Tryz.prog 103=some ([.string ByteArray.empty,.slice none 0 0,.int .u8 0,.int .u8 0,.int .u8 0,.int .u8 0,.int .u8 0,.int .u8 0,.int .u8 0,.int .u8 0,.int .u8 0,.int .u8 0,.int .u8 0,.int .u8 0,.int .u8 0,.int .u8 0,.int .u8 0,.int .u8 0,.int .u8 0,.int .u8 0,.int .u8 0,.int .u8 0,.int .u8 0,.int .u8 0,.int .u8 0,.int .u8 0,.int .u8 0,.int .u8 0,.int .u8 0,.int .u8 0,.int .u8 0,.int .u8 0,.int .u8 0,.int .u8 0]):=by kernel_rfl
theorem aE2:dG Tryz.prog 103=some 34:=by kernel_rfl
theorem qS:cK Tryz.prog 103 1=some 1:=by kernel_rfl
theorem qT:cK Tryz.prog 103 2=some 2:=by kernel_rfl
theorem uZ:tV Tryz.prog 23 32=true:=by kernel_rfl
theorem aAT:aQ Tryz.prog 94=true:=by kernel_rfl
theorem aB5:aQ Tryz.prog 56=true:=by kernel_rfl
theorem aKP:aQ Tryz.prog 101=true:=by kernel_rfl
theorem rN (b:Bool) (hb:b=true) (G:PM):Ct Tryz.prog 67 ([.bool b]:List Value).toArray G [] (fun _ μ' u=>μ'=[]∧u=.tuple #[]):=by
 subst hb
 refine Ct.of Tryz.func67 rfl Tryz.ntmps67 rfl fun w0 hs0=>?_
 refine .g (nt rfl .no (.u rfl) (.g (cD rfl (fun c1=>?_) (fun c1=>?_))))
 ·have c1k:=c1
  exact absurd c1 (by decide)
 have c1k:=c1
 try simp only [aC,aD] at c1
 refine .g (aP Tryz.results67 .nil ?_)
 exact ⟨rfl,rfl⟩
theorem aI3 (root:Nat→Y) (h:Hd) (ha:Sh) (vr vi:Value) (b part:Nat) (xs L:List Y) (hx:Sh) (G:PM) (hsa:SlR G 1 aL ha (aX h)) (hsx:SlR G 1 aL hx xs) (hK:RdNP G 1 0 (wa 64 kW)) (hlx:xs.length≤1000000) (hp:part≤1000000000) (ho:gV root h part xs=some L):Ct Tryz.prog 94 ([.pointer (some ⟨b,0,none⟩),.int .i64 (part:Int),hx.val xs.length]:List Value).toArray G [.blk b (cl (dK (dE root (aX h)) (dF root (aX h)) (ha.val (aX h).length) vr vi) 98)] (fun G' μ' u=>∃ h',μ'=[.blk b (cl (dK (dE root (aX h)) (dF root (aX h)) (ha.val (aX h).length) vr vi) 98)]∧u=Sh.val h' L.length∧SlR G' 1 aL h' L):=by
 refine Ct.of Tryz.func94 rfl Tryz.ntmps94 rfl fun w0 hs0=>?_
 refine .g (bG (mc:=⟨false,false⟩) [0,1,2,3,4,5,7,8,9,10,11,6,12,13,14,15,16,17] aV (by kernel_rfl) ?_)
 refine .p (nC rfl rfl (fZ rfl aKM rfl (lA rfl .no pM (.u rfl) (fun _=>RdN.part (n:=64) (cs':=ba 32 (dE root (aX h))++ba 32 (dF root (aX h))) .here (aEN)) (fun _=>(by first|exact qE|exact qL|rfl)) ?_)))
 refine .p (ci rfl .no rfl cW (.u rfl) ?_)
 refine .p (nC rfl rfl (fZ rfl aKN rfl (lN rfl bV rfl (Rd.own .here aEM) ?_)))
 refine .p (kV rfl aE1 (aB rfl aE) (aCH _ _) ?_)
 refine kc rfl aKU (aB rfl (aB rfl (aB rfl (aB rfl aE)))) (aFB (dE root (aX h)) (dF root (aX h)) (hZ (BitVec.ofInt 64 (part:Int))) (aX h) ha xs hx _ hsa hsx hK (by rw [mR]; decide) (by omega)) ?_
 rintro _ G22 μ22 hG22 ⟨v22,L22,e22,hO22,rfl,rfl⟩
 obtain ⟨rfl,rfl⟩ : L22=L∧e22=0:=OpenR.some (by rw [← ho]; exact hO22)
 refine .p (eX rfl rfl rfl (eX rfl rfl rfl (.g (cP rfl rfl rfl rfl (kV rfl iI (aB rfl aE) (rN _ (rfl) _) ?_)))))
 refine .nil (.code (.seq (bD rfl rfl (mV rfl rfl (aS rfl rfl (.nc (.ret ?_)))))))
 refine aBo .here (wF .here rfl (aA3)) ?_; intro GfR22 hR22 hleR22 evR22 hsR22; subst evR22
 refine We.fin Tryz.results94 (.tmp rfl .nil) (mS .here rfl mN) ?_
 exact ⟨hR22,rfl,rfl,hsR22⟩
theorem aJg (root:Nat→Y) (h:Hd) (ps:List (RowT×Sh)) (ix:List Y) (ha hr hi:Sh) (b:Nat) (G:PM) (hR:RdrR G h ps ix ha hr hi) (hK:RdNP G 1 0 (wa 64 kW)) (i part:Nat) (p:RowT×Sh) (L:List Y) (hp:ps[i]? = some p) (hpt:part≤1000000000) (hw:dS root h p.1 part=some L):Ct Tryz.prog 56 ([.pointer (some ⟨b,0,none⟩),.int .i64 (i:Int),.int .i64 (part:Int)]:List Value).toArray G [.blk b (cl (dK (dE root (aX h)) (dF root (aX h)) (ha.val (aX h).length) (hr.val ps.length) (hi.val ix.length)) 98)] (fun G' μ' u=>∃ h',μ'=[.blk b (cl (dK (dE root (aX h)) (dF root (aX h)) (ha.val (aX h).length) (hr.val ps.length) (hi.val ix.length)) 98)]∧u=Sh.val h' L.length∧SlR G' 1 aL h' L):=by
 refine Ct.of Tryz.func56 rfl Tryz.ntmps56 rfl fun w0 hs0=>?_
 have hpm:=List.mem_of_getElem? hp
 have hpe:=hR.each p hpm; have hsm:=hR.sm p hpm
 have hil:=(List.getElem?_eq_some_iff.1 hp).1; have hpl:=hR.len
 refine .g (nC rfl rfl (fZ rfl nB rfl (lN rfl qQ rfl (Rd.own .here kR) ?_)))
 refine mV rfl rfl (ih rfl .no nS (.u rfl) (.u rfl) (by omega) (by omega) (fun _=>hR.rows.nn (k:=i) (by first|omega|(simp only [Bool.and_eq_true,decide_eq_true_eq] at hc; omega)|(simp only [List.length_cons,List.length_nil]; omega))) ?_)
 refine lA rfl .no tF (.u rfl) (fun _=>(hR.rows.at (by omega) hp).rd) (fun _=>lW) ?_
 refine al rfl aAX ?_; intro b7
 refine sw rfl (.u rfl) (.u rfl) rfl aE2 .here rfl (aDt _) ?_
 refine .g (bG (mc:=⟨false,false⟩) [0,1,3,4,2,5,6] aV (by kernel_rfl) ?_)
 refine fZ rfl qS rfl (lO rfl bV rfl .here (by first|exact aJ rfl|rfl) ?_)
 refine fZ rfl qT rfl (lA rfl .no cH (.u rfl) (fun _=>RdN.part (n:=32) (cs':=ba 32 p.1.leaf) .here (aDs)) (fun _=>(by first|exact lW|exact aU _ _|rfl)) ?_)
 refine kV rfl xN (aB rfl aE) (wJ p.1.bytes p.2 _ hpe hK (by omega)) ?_
 refine yU rfl .no uZ (.u rfl) (.u rfl) ?_
 refine kV rfl iI (aB rfl aE) (rN _ (aSH hw) _) ?_
 refine .g (fZ rfl qS rfl (lO rfl bV rfl .here (by first|exact aJ rfl|rfl) ?_))
 refine ka rfl (.inr rfl) aAT (aB rfl (aB rfl (aB rfl aE))) (bQ aF) (aI3 root h ha _ _ b part p.1.bytes L p.2 _ hR.ad hpe hK hsm hpt (aJf hw)) ?_
 rintro _ G26 μ26 hG26 ⟨h26,rfl,rfl,hs26⟩
 refine aS rfl rfl (.nc (.ret (We.fin Tryz.results56 (.tmp rfl .nil) (mS .here rfl mN) ?_)))
 exact ⟨h26,rfl,rfl,hs26⟩
theorem aM7 (root:Nat→Y) (h:Hd) (ps:List (RowT×Sh)) (ix:List Y) (ha hr hi:Sh) (b:Nat) (G:PM) (hR:RdrR G h ps ix ha hr hi) (hK:RdNP G 1 0 (wa 64 kW)) (i:Nat) (p:RowT×Sh) (l:List Ent) (hp:ps[i]? = some p) (he:hY root h (ps.map (·.1)) i=some l):Ct Tryz.prog 59 ([.pointer (some ⟨b,0,none⟩),.int .i64 (i:Int)]:List Value).toArray G [.blk b (cl (dK (dE root (aX h)) (dF root (aX h)) (ha.val (aX h).length) (hr.val ps.length) (hi.val ix.length)) 98)] (fun G' μ' u=>∃ h',μ'=[.blk b (cl (dK (dE root (aX h)) (dF root (aX h)) (ha.val (aX h).length) (hr.val ps.length) (hi.val ix.length)) 98)]∧u=Sh.val h' l.length∧SlR G' 4 Ent.cells h' l):=by
 refine Ct.of Tryz.func59 rfl Tryz.ntmps59 rfl fun w0 hs0=>?_
 have hpm:=List.mem_of_getElem? hp
 have hsm:=hR.sm p hpm
 have hil:=(List.getElem?_eq_some_iff.1 hp).1; have hpl:=hR.len
 obtain ⟨y,hwy,hry⟩:=aAx he
 rw [sQ rfl hp] at hwy
 have hly:=wZ hwy
 refine .g (aW (((2+i):Nat):Int) rfl rfl rfl rfl ?_)
 refine ka rfl (.inr rfl) aB5 (aB rfl (aB rfl (aB rfl aE))) (bQ .here) (aJg root h ps ix ha hr hi b _ hR hK i (2+i) p y hp (by omega) hwy) ?_
 rintro _ G12 μ12 hG12 ⟨h12,rfl,rfl,hs12⟩
 refine kc rfl aKP (aB rfl aE) (aFZ y h12 _ hs12 (by omega)) ?_
 rintro _ G13 μ13 hG13 ⟨h13,l13,er13,hB13,rfl,rfl,hs13⟩
 rw [hry] at hB13
 simp only [Prod.mk.injEq] at hB13
 obtain ⟨rfl,rfl⟩:=hB13
 refine .p (eX rfl rfl rfl (eX rfl rfl rfl (.g (cP rfl rfl rfl rfl (kV rfl iI (aB rfl aE) (rN _ (rfl) _) ?_)))))
 refine .nil (.code (.seq (bD rfl rfl (mV rfl rfl (aS rfl rfl (.nc (.ret (We.fin Tryz.results59 (.tmp rfl .nil) (mS .here rfl mN) ?_))))))))
 exact ⟨h13,rfl,rfl,hs13⟩
theorem aKt:aQ Tryz.prog 91=true:=by kernel_rfl
theorem aEk:cK Tryz.prog 36 4=some 4:=by kernel_rfl
theorem aKO:aQ Tryz.prog 10=true:=by kernel_rfl
theorem aEe:vU Tryz.prog 4 26 ([.int .u8,.int .u8,.int .u64,.int .u64,.int .u64])=true:=by kernel_rfl
theorem aJ8:fX Tryz.prog 98 [0,1,3]=some ([.int .u8 0,.int .u8 0,.int .u8 0,.int .u8 0,.int .u8 0,.int .u8 0,.int .u8 0,.int .u8 0,.int .u8 0,.int .u8 0,.int .u8 0,.int .u8 0,.int .u8 0,.int .u8 0,.int .u8 0,.int .u8 0,.int .u8 0,.int .u8 0,.int .u8 0,.int .u8 0,.int .u8 0,.int .u8 0,.int .u8 0,.int .u8 0,.int .u8 0,.int .u8 0,.int .u8 0,.int .u8 0,.int .u8 0,.int .u8 0,.int .u8 0,.int .u8 0,.int .u8 0,.int .u8 0,.int .u8 0,.int .u8 0,.int .u8 0,.int .u8 0,.int .u8 0,.int .u8 0,.int .u8 0,.int .u8 0,.int .u8 0,.int .u8 0,.int .u8 0,.int .u8 0,.int .u8 0,.int .u8 0,.int .u8 0,.int .u8 0,.int .u8 0,.int .u8 0,.int .u8 0,.int .u8 0,.int .u8 0,.int .u8 0,.int .u8 0,.int .u8 0,.int .u8 0,.int .u8 0,.int .u8 0,.int .u8 0,.int .u8 0,.int .u8 0,.slice none 0 0,.slice none 0 0,.slice none 0 0],[(0,64),(64,1),(66,1)]):=by kernel_rfl
theorem aAP:cK Tryz.prog 98 3=some 66:=by kernel_rfl
theorem aKu:aQ Tryz.prog 97=true:=by kernel_rfl
theorem aEf:cK Tryz.prog 103 0=some 0:=by kernel_rfl
theorem tP:(Tryz.prog.info? 103).bind (·.zero)=some (.agg #[.string ByteArray.empty,.slice none 0 0,.int .u8 0,.int .u8 0,.int .u8 0,.int .u8 0,.int .u8 0,.int .u8 0,.int .u8 0,.int .u8 0,.int .u8 0,.int .u8 0,.int .u8 0,.int .u8 0,.int .u8 0,.int .u8 0,.int .u8 0,.int .u8 0,.int .u8 0,.int .u8 0,.int .u8 0,.int .u8 0,.int .u8 0,.int .u8 0,.int .u8 0,.int .u8 0,.int .u8 0,.int .u8 0,.int .u8 0,.int .u8 0,.int .u8 0,.int .u8 0,.int .u8 0,.int .u8 0]):=by kernel_rfl
theorem aCA:dG Tryz.prog 96=some 1:=by kernel_rfl
theorem aB6:aQ Tryz.prog 98=true:=by kernel_rfl
theorem aEl:cK Tryz.prog 36 8=some 8:=by kernel_rfl
theorem aRa {xs:List Y} {hx:Sh} {G:PM} {h:Hd} (hs:SlR G 1 aL hx xs) (hl:xs.length≤100000000000000) (e:gY xs=(h,0)):Ct Tryz.prog 91 ([hx.val xs.length]:List Value).toArray G [] (fun _ μ' u=>μ'=[]∧u=.tuple #[.agg h.cells.toArray,.int .i64 0]):=by
 have:=aFF xs hx G hs hl
 rw [e] at this
 exact this
theorem aI8 (D:List Dg) (v:Value) (G:PM) (hK:RdNP G 1 0 (wa 64 kW)) (hl:D.length≤1000000):Ct Tryz.prog 36 ([v]:List Value).toArray G [rS 32 (ba 32) v 23 D] (fun _ μ' u=>∃ ν,μ'=rS 32 (ba 32) v 23 D :: ν∧ν=[]∧u=.agg (ba 32 (dJ D)).toArray) :=
 aEV (fun _ _=>aU _ _) (fun hd G2 hle hv hs=>by subst hv; exact aIP D hd G2 hs (hK.mono hle) hl)
set_option maxHeartbeats 4000000 in
theorem aRN (root:Nat→Y) (m:Meta) (xs:List Y) (hx:Sh) (rows:List RowT) (ix:List Y) (G:PM) (hw:m.wf) (hs:SlR G 1 aL hx xs) (hK:RdNP G 1 0 (wa 64 kW)) (hl:xs.length≤1000000) (hBt:dD root m xs=some (rows,ix)):Ct Tryz.prog 54 ([.agg (ba 32 root).toArray,m.val,hx.val xs.length]:List Value).toArray G [] (fun G' μ' u=>∃ (b:Nat) (ps:List (RowT×Sh)) (ha hr hi:Sh),ps.map (·.1)=rows∧μ'=[.blk b (cl (dK (dE root (aX (bH m))) (dF root (aX (bH m))) (ha.val (aX (bH m)).length) (hr.val ps.length) (hi.val ix.length)) 98)]∧u=.pointer (some ⟨b,0,none⟩)∧RdrR G' (bH m) ps ix ha hr hi):=by
 refine Ct.of Tryz.func54 rfl Tryz.ntmps54 rfl fun w0 hs0=>?_
 have B:=aAi hBt
 obtain ⟨y,hy,hyp⟩:=B.opn
 have hlong:=B.long; have hkk:=B.kk; have hrl:=aBP hlong
 refine .seq (eH rfl rfl ?_)
 refine bX rfl rfl rfl ?_; intro b3
 refine bX rfl rfl rfl ?_; intro b4
 refine .g (kV rfl aKt (aB rfl aE) (aRa hs (by omega) B.take) ?_)
 refine .p (eX rfl rfl rfl (eX rfl rfl rfl ?_))
 refine al rfl rC ?_; intro b7
 refine sw rfl (.u rfl) (.u rfl) rfl mK .here rfl (lS rfl rfl rfl rfl rfl) ?_
 refine aS rfl rfl (.nc (.seq ?_))
 refine fS aT (by intro b hb; cases hb) ?_; intro Gfb3 hleb3 hbb3
 have hs:=hs.mono hleb3
 have hK:=hK.mono hleb3
 refine fS aF (by intro b hb; cases hb) ?_; intro Gfb4 hleb4 hbb4
 have hs:=hs.mono hleb4
 have hK:=hK.mono hleb4
 have hbb3:=hbb3.mono hleb4
 refine fS .here (by intro b hb; cases hb) ?_; intro Gfb7 hleb7 hbb7
 have hs:=hs.mono hleb7
 have hK:=hK.mono hleb7
 have hbb3:=hbb3.mono hleb7
 have hbb4:=hbb4.mono hleb7
 refine dP ⟨true,false⟩ aV (by kernel_rfl) ?_
 refine Wp.one 0 (by kernel_rfl) ?_
 refine mV rfl rfl (.nil (Wp.one 1 (by kernel_rfl) ?_))
 refine lE rfl bK rfl (.nil (Wp.one 2 (by kernel_rfl) ?_))
 refine fA rfl aEk rfl (.nil (Wp.one 3 (by kernel_rfl) ?_))
 refine lN rfl dA rfl ((hbb4.rd (by rfl)).rd) ?_
 refine .nil (Wp.one 4 (by kernel_rfl) ?_)
 refine cP rfl rfl rfl rfl (.nil (Wp.one 5 (by kernel_rfl) ?_))
 refine mV rfl rfl (.nil (Wp.one 6 (by kernel_rfl) ?_))
 refine mv rfl (.t rfl rfl) (.u rfl) (.nil (Wp.one 7 (by kernel_rfl) ?_))
 refine cp rfl (.t rfl rfl) (.s rfl) (.u rfl) rfl (.nil (Wp.one 8 (by kernel_rfl) ?_))
 refine cC rfl .no (.u rfl) (.s rfl) (.nil (Wp.one 9 (by kernel_rfl) ?_))
 refine mV rfl rfl (.nil (Wp.one 11 (by kernel_rfl) ?_))
 refine lA rfl (.t rfl rfl) iU (.u rfl) (fun hc=>(hbb4.rdn (m:=40) (cs':=m.cells) ((by rw [List.drop_zero]; exact List.take_of_length_le (Nat.le_of_eq (Meta.len m))))).rd) (fun _=>(Meta.len _)) ?_
 refine .nil (Wp.pr 10 (by kernel_rfl) ?_)
 refine lA rfl (.t rfl rfl) fB (.u rfl) (fun hc=>(hbb7.rdn (m:=5) (cs':=(bH m).cells) (rfl)).rd) (fun _=>rfl) ?_
 refine .nil ⟨⟨rfl,rfl⟩,?_⟩
 refine Wp.b1 12 (by kernel_rfl) ?_
 refine kv rfl (.t rfl rfl) aKO (Eva.cons (.s rfl) aE) (fun hc=>aI2 m _ hw) ?_
 refine .nil (Wp.one 13 (by kernel_rfl) ?_)
 refine eqC (decide (bH m=bH m)) rfl (.t rfl rfl) aEe (.s rfl) (.s rfl) (fun hc=>wA _) (fun hc=>wA _) (fun hc=>aC7) ?_
 refine .nil (Wp.one 14 (by kernel_rfl) ?_)
 refine cC rfl .no (.u rfl) (.s rfl) (.nil (Wp.one 15 (by kernel_rfl) ?_))
 refine mV rfl rfl (.nil (Wp.one 16 (by kernel_rfl) ?_))
 refine mv rfl (.t rfl rfl) (.u rfl) (.nil (Wp.one 17 (by kernel_rfl) ?_))
 refine ln rfl (.t rfl rfl) bK (.s rfl) (.nil (Wp.one 18 (by kernel_rfl) ?_))
 refine cp rfl (.t rfl rfl) (.s rfl) (.u rfl) rfl (.nil (Wp.one 19 (by kernel_rfl) ?_))
 refine cC rfl .no (.u rfl) (.s rfl) (.nil (Wp.b1 20 (by kernel_rfl) ?_))
 refine kV rfl iI (aB rfl aE) (rN _ (aL1 B.size (by omega)) _) ?_
 refine .nil (Wp.last (by kernel_rfl) ?_)
 refine .g (bG (mc:=⟨false,false⟩) [0,1,2,3,4,5,6,7,8,9,10,11,12] aV (by kernel_rfl) ?_)
 refine .p (lE rfl bK rfl (aW (((xs.length-8):Nat):Int) rfl rfl rfl rfl ?_))
 refine kS (30) ((xs.length-8)) rfl .no aH hs (.u rfl) (.u rfl) (.u rfl) (by omega) (by omega) (by omega) (by omega) ?_
 intro h51 L51 eL51 lL51 hs51
 have lL51:=lL51 rfl
 refine .p (lE rfl bK rfl (aW (((xs.length-8):Nat):Int) rfl rfl rfl rfl ?_))
 refine kD ((xs.length-8)) rfl .no aH hs (.u rfl) (.u rfl) (by omega) (by omega) ?_
 intro h56 L56 eL56 lL56 hs56
 have lL56:=lL56 rfl
 refine kc rfl vF (aB rfl aE) (uV L56 h56 _ hs56 (by omega)) ?_
 rintro _ G57 μ57 hG57 ⟨b57,s57,rfl,rfl,hs57⟩
 have hK:=hK.mono hG57
 have hbb3:=hbb3.mono hG57
 have hbb4:=hbb4.mono hG57
 have hbb7:=hbb7.mono hG57
 have hs51:=hs51.mono hG57
 refine aS rfl rfl (aS rfl rfl (.nc (.seq ?_)))
 have hk8:(bU L56 8).toNat=jT xs:=by rw [eL56]; rfl
 have hk9:@BitVec.toNat IntKind.u64.bits (bU L56 8)=jT xs:=hk8
 have eR:L51=lV xs:=by rw [eL51,show xs.length-8-30=xs.length-38 by omega]; rfl
 refine .g (ka rfl (.inr rfl) pR (aB rfl (aB rfl aE)) (bQ .here) (wQ L56 s57 _ _ hs57 (by omega) (by omega)) ?_)
 rintro _ G59 μ59 hG59 ⟨s59,rfl,rfl,hs59⟩
 have hK:=hK.mono hG59
 have hbb3:=hbb3.mono hG59
 have hbb4:=hbb4.mono hG59
 have hbb7:=hbb7.mono hG59
 have hs51:=hs51.mono hG59
 refine .g (lE rfl bK rfl (cw rfl .no cW (.u rfl) (fun _=>eY (by omega) (by omega)) ?_))
 refine cP rfl rfl rfl rfl (kV rfl iI (aB rfl aE) (rN _ (by rw [decide_eq_true_eq]; omega) _) ?_)
 refine .g (lE rfl bK rfl (.p (cw rfl .no jF (.u rfl) (fun _=>cB (by omega) (by omega)) ?_)))
 refine dR (((L51.length-(bU L56 8).toNat):Nat):Int) rfl .no (.u rfl) (.u rfl) rfl (by omega) (fun _=>cB (by omega) (by omega)) ?_
 refine aS rfl rfl (.nc (.seq (dP ⟨true,false⟩ aV (by kernel_rfl) ?_)))
 refine Wp.one 0 (by kernel_rfl) ?_
 refine lA rfl .no cH (.u rfl) (fun _=>(hbb3.rdn (m:=32) (cs':=_) (by first|exact iY|exact gE|exact iX)).rd) (fun _=>(aU _ _)) ?_
 refine .nil (Wp.one 1 (by kernel_rfl) ?_)
 refine lA rfl .no fB (.u rfl) (fun _=>(hbb7.rdn (m:=5) (cs':=(bH m).cells) (rfl)).rd) (fun _=>rfl) ?_
 refine .nil (Wp.one 5 (by kernel_rfl) ?_)
 refine mV rfl rfl (.nil (Wp.one 6 (by kernel_rfl) ?_))
 refine mV rfl rfl (.nil (Wp.one 7 (by kernel_rfl) ?_))
 refine kD ((L51.length-(bU L56 8).toNat)) rfl .no aH hs51 (.u rfl) (.u rfl) (by omega) (by omega) ?_
 intro h78 L78 eL78 lL78 hs78
 have lL78:=lL78 rfl
 refine .nil (Wp.pr 3 (by kernel_rfl) ?_)
 refine lA rfl .no fB (.u rfl) (fun _=>(hbb7.rdn (m:=5) (cs':=(bH m).cells) (rfl)).rd) (fun _=>rfl) ?_
 refine .nil ⟨⟨rfl,rfl⟩,?_⟩
 refine Wp.b1 2 (by kernel_rfl) ?_
 refine kV rfl aEw (aB rfl (aB rfl aE)) (aCG root (bH m) _ hK) ?_
 refine .nil (Wp.b1 4 (by kernel_rfl) ?_)
 refine kc rfl aAR (aB rfl aE) (Ct.frzB (zB (bH m) _)) ?_
 rintro _ G75 μ75 hG75 ⟨h75,L75,eL75,rfl,rfl,hs75⟩
 have hK:=hK.mono hG75
 have hbb4:=hbb4.mono hG75
 have hs51:=hs51.mono hG75
 have hs78:=hs78.mono hG75
 refine .nil (Wp.one 8 (by kernel_rfl) ?_)
 refine dU (dK (dE root (aX (bH m))) (dF root (aX (bH m))) (h75.val L75.length) (.slice none 0 0) (h78.val L78.length)) rfl .no aJ8 (.cons (.u rfl) rfl (.cons (.u rfl) rfl (.cons (.u rfl) rfl .nil))) rfl (rfl) (.nil (Wp.b1 9 (by kernel_rfl) ?_))
 refine bX rfl rfl rfl ?_; intro b80
 refine .nil (Wp.one 10 (by kernel_rfl) ?_)
 refine aS rfl rfl (.nil (Wp.last (by kernel_rfl) ?_))
 refine .code (.seq ?_)
 have hix:L78=ix:=by rw [eL78,B.eix,eR,hk8,hrl]
 have e75:h75.val L75.length=h75.val (aX (bH m)).length:=by rw [eL75]
 rw [eL75] at hs75
 rw [e75]
 refine .g (kE ((L51.length-(bU L56 8).toNat)) rfl .no aH hs51 (.u rfl) (.u rfl) (by omega) (by omega) ?_)
 intro h83 L83 eL83 lL83 hs83
 have lL83:=lL83 rfl
 refine aS rfl rfl (.nc (.seq ?_))
 have hyl:y.length+16≤1000000:=by have h1:=(aBd hy).2; rw [← hix] at h1; omega
 refine .g (nC rfl rfl (fZ rfl aAP rfl (lN rfl bV rfl (Rd.own .here uX) ?_)))
 refine ka rfl (.inr rfl) aAT (aB rfl (aB rfl (aB rfl aE))) (bQ .here) (aI3 root (bH m) h75 _ _ b80 0 L78 y h78 _ hs75 hs78 hK (by omega) (by decide) (by rw [hix]; exact hy)) ?_
 rintro _ G89 μ89 hG89 ⟨h89,rfl,rfl,hs89⟩
 have hK:=hK.mono hG89
 have hbb4:=hbb4.mono hG89
 have hs78:=hs78.mono hG89
 have hs75:=hs75.mono hG89
 have hs83:=hs83.mono hG89
 refine kc rfl vF (aB rfl aE) (uV y h89 _ hs89 (by omega)) ?_
 rintro _ G90 μ90 hG90 ⟨b90,s90,rfl,rfl,hs90⟩
 have hK:=hK.mono hG90
 have hbb4:=hbb4.mono hG90
 have hs78:=hs78.mono hG90
 have hs75:=hs75.mono hG90
 have hs83:=hs83.mono hG90
 refine .g (ka rfl (.inr rfl) pS (aB rfl aE) (bQ .here) (pI y 0 s90 b90 _ hs90 (by omega)) ?_)
 rintro _ G92 μ92 hG92 ⟨n92,L92,e92,s92,hN92,rfl,rfl,hs92⟩
 have lL92:=pJ hN92; have nL92:=iN hN92; simp only at lL92
 have hK:=hK.mono hG92
 have hbb4:=hbb4.mono hG92
 have hs78:=hs78.mono hG92
 have hs75:=hs75.mono hG92
 have hs83:=hs83.mono hG92
 refine aS rfl rfl (.nc (.seq ?_))
 obtain ⟨he92,hq92⟩:=((Tk.put hyp).numE hN92).got
 simp only at he92 hq92
 subst he92
 obtain ⟨hn0,hrw0⟩:=aL2 hq92
 refine .g (cP rfl rfl rfl rfl (mV rfl rfl (mv rfl (.t rfl rfl) (.u rfl) (kp rfl (.t rfl rfl) qY (Eva.cons (.s rfl) aE) (Gp.add .here Gp.nil) (fun hc hle hq=>qG L92 0 s92 b90 _ RdNP.add) ?_))))
 refine cp rfl (.t rfl rfl) (.s rfl) (.u rfl) rfl (cC rfl .no (.u rfl) (.s rfl) (kV rfl iI (aB rfl aE) (rN _ (by simp; omega) _) ?_))
 refine .nil (.code (.seq (aM rfl rfl (aS rfl rfl (.nc (.seq (.seq (kQ 32 (ba 32) 23 ?_))))))))
 refine kQ 34 oJ 103 ?_
 refine aM rfl rfl (aS rfl rfl (.nc (.block ?_)))
 refine bE (α:=Nat×List Y×Sh×Value×List (RowT×Sh)×Value×List Dg×List Y×Sh) (fun gh=>[(9,true,gh.2.2.1.val gh.2.1.length),(16,true,gh.2.2.2.2.2.1),(17,true,.int .u64 (gh.1:Int))]) (fun gh=>[rS 34 oJ gh.2.2.2.1 103 gh.2.2.2.2.1,rS 32 (ba 32) gh.2.2.2.2.2.1 23 gh.2.2.2.2.2.2.1,.blk b90 (cl [Sh.val gh.2.2.2.2.2.2.2.2 gh.2.2.2.2.2.2.2.1.length,.int .i64 0] 175),.blk b80 (cl (dK (dE root (aX (bH m))) (dF root (aX (bH m))) (h75.val (aX (bH m)).length) gh.2.2.2.1 (h78.val L78.length)) 98)])
  (fun gh Gl=>(gh.1≤n92+1)∧(cS (n92+1-gh.1) (gh.2.2.2.2.1.map (·.1)) gh.2.1 gh.2.2.2.2.2.2.2.1=some rows)∧(gh.2.2.2.2.2.2.1=gh.2.2.2.2.1.map (fun p=>p.1.leaf))∧(gh.2.2.2.2.1.length=gh.1∧gh.2.2.2.2.1.length+gh.2.2.2.2.2.2.2.1.length≤y.length∧gh.2.1.length≤xs.length)∧(AllB Gl gh.2.2.2.2.1)∧(SlR Gl 1 aL gh.2.2.1 gh.2.1)∧(SlR Gl 1 aL gh.2.2.2.2.2.2.2.2 gh.2.2.2.2.2.2.2.1)) (fun gh=>n92+1-gh.1) (0,L83,h83,.slice none 0 0,[],.slice none 0 0,[],L92,s92) [(4,true,_),(13,true,_),(14,true,_),(15,true,_)] [_]
  (aA rfl (aA rfl (aA rfl (aA rfl (aA rfl (aA rfl (aA rfl eZ)))))))
  (mS .here rfl (mS .here rfl (mS .here rfl (mS .here rfl (mS .here rfl mN))))) ?_ ?_
 ·refine ⟨?_,?_,?_,?_,?_,?_,?_⟩
  ·(try dsimp only)<;>(first|omega|rfl|assumption|(simp; done))
  ·(try dsimp only)<;>(rw [eL83,eR,hk8,hrl]; exact hrw0)
  ·(try dsimp only)<;>(first|omega|rfl|assumption|(simp; done))
  ·(try dsimp only)<;>(exact ⟨rfl,by simp only [List.length_nil]; omega,by omega⟩)
  ·(try dsimp only)<;>(exact AllB.nil)
  ·(try dsimp only)<;>(exact hs83)
  (try dsimp only)<;>(exact hs92)
 intro gh N0 Gl0 hN0 hGl0 hF0
 obtain ⟨k,A,hA,vr,acc,vl,D,R,sR⟩:=gh; dsimp only at hF0 hN0 ⊢
 obtain ⟨hk,hrows,eD,hlen,hall,hsA,hsR⟩:=hF0
 have hK:=hK.mono hGl0
 have hbb4:=hbb4.mono hGl0
 have hs78:=hs78.mono hGl0
 have hs75:=hs75.mono hGl0
 have lD:D.length=acc.length:=by rw [eD,List.length_map]
 refine .g (cP rfl rfl rfl rfl (.g (cD rfl (fun c1=>?_) (fun c1=>?_))))
 ·have c1k:=c1
  try simp only [aC,aI,aD] at c1
  refine .skip (.code (.seq (.block (.seq (aM rfl rfl ?_)))))
  refine al rfl aAX ?_; intro b18
  refine .g (cP rfl rfl rfl rfl (.g (cD rfl (fun c2=>?_) (fun c2=>?_))))
  ·have c2k:=c2
   try simp only [aC,aI,aD] at c2
   refine .g (ka rfl (.inr rfl) aKu (aB rfl (aB rfl aE)) (bQ bM) (aHz R 0 sR b90 _ hsR (by omega) 1024 (by decide)) ?_)
   rintro _ G110 μ110 hG110 ⟨M110,L110,e110,s110,hN110,rfl,rfl,hs110⟩
   have lL110:=aDi hN110; simp only at lL110
   have hK:=hK.mono hG110
   have hbb4:=hbb4.mono hG110
   have hs78:=hs78.mono hG110
   have hs75:=hs75.mono hG110
   have hall:=hall.mono hG110
   have hsA:=hsA.mono hG110
   have hsR:=hsR.mono hG110
   refine fZ rfl aEf rfl (s1 rfl (.u rfl) (.u rfl) rfl pT aF (show 0<34 by decide) (rfl) ?_)
   refine .g (ka rfl (.inr rfl) pS (aB rfl aE) (bQ aF) (pI L110 e110 s110 b90 _ hs110 (by omega)) ?_)
   rintro _ G113 μ113 hG113 ⟨n113,L113,e113,s113,hN113,rfl,rfl,hs113⟩
   have lL113:=pJ hN113; have nL113:=iN hN113; simp only at lL113
   have hK:=hK.mono hG113
   have hbb4:=hbb4.mono hG113
   have hs78:=hs78.mono hG113
   have hs75:=hs75.mono hG113
   have hall:=hall.mono hG113
   have hsA:=hsA.mono hG113
   have hsR:=hsR.mono hG113
   refine aS rfl rfl (.nc (.seq (.seq (aM rfl rfl (mV rfl rfl (.nc (.block ?_)))))))
   have hT3:=((aL3 hrows (by omega)).strE hN110).numE hN113
   refine bE (α:=Nat×List Y×Int×Sh×(Nat→Y)×List Y) (fun gh=>[(114,true,.int .i64 (gh.1:Int))]) (fun gh=>[.blk b90 (cl [Sh.val gh.2.2.2.1 gh.2.1.length,.int .i64 gh.2.2.1] 175),.blk b18 (cl (qK M110 (.slice none 0 0) gh.2.2.2.2.1) 103)])
    (fun gh Gl=>(gh.1≤32)∧(gh.2.2.2.2.2.length=gh.1)∧(ByR ⟨L113,e113⟩ ⟨gh.2.1,gh.2.2.1⟩ false gh.2.2.2.2.2)∧(∀ i,gh.2.2.2.2.1 i=gh.2.2.2.2.2.getD i 0)∧(gh.2.1.length≤L113.length∧(gh.2.2.1=0→gh.2.1.length+gh.1≤L113.length))∧(SlR Gl 1 aL gh.2.2.2.1 gh.2.1)) (fun gh=>32-gh.1) (0,L113,e113,s113,(fun _=>0#8),[]) [(4,true,_),(9,true,_),(13,true,_),(14,true,_),(15,true,_),(16,true,_),(17,true,_),(18,true,_),(19,true,_)] [_,_,_,_]
    (aO rfl (aA rfl (aA rfl (aA rfl (aA rfl (aA rfl (aA rfl (aA rfl (aA rfl (aA rfl eZ))))))))))
    (mS .here rfl (mS .here (by first|rfl | (rw [tY]; rfl)) (mS .here rfl (mS .here rfl (mS .here rfl (mS .here rfl mN)))))) ?_ ?_
   ·refine ⟨?_,?_,?_,?_,?_,?_⟩
    ·(try dsimp only)<;>(first|omega|rfl|assumption|(simp; done))
    ·(try dsimp only)<;>(first|omega|rfl|assumption|(simp; done))
    ·(try dsimp only)<;>(exact ByR.zero)
    ·(try dsimp only)<;>(exact fun i=>by simp)
    ·(try dsimp only)<;>(exact ⟨Nat.le_refl _,fun _=>Nat.le_refl _⟩)
    (try dsimp only)<;>(exact hs113)
   intro gh N1 Gl1 hN1 hGl1 hF1
   obtain ⟨q,L,ee,s9,f,rt⟩:=gh; dsimp only at hF1 hN1 ⊢
   obtain ⟨hq,hrt,hB9,ef,lX,hsl⟩:=hF1
   have hK:=hK.mono hGl1
   have hbb4:=hbb4.mono hGl1
   have hs78:=hs78.mono hGl1
   have hs75:=hs75.mono hGl1
   have hall:=hall.mono hGl1
   have hsA:=hsA.mono hGl1
   have hsR:=hsR.mono hGl1
   have hs113:=hs113.mono hGl1
   refine .g (cP rfl rfl rfl rfl (.g (cD rfl (fun c3=>?_) (fun c3=>?_))))
   ·have c3k:=c3
    try simp only [aC,aI,aD] at c3
    refine .g (ka rfl (.inr rfl) pR (aB rfl (aB rfl aE)) (bQ .here) (zJ L ee s9 b90 _ hsl (by omega)) ?_)
    rintro _ G119 μ119 hG119 ⟨y119,L119,e119,s119,hN119,rfl,rfl,hs119⟩
    have lL119:=zL hN119; simp only at lL119
    have hK:=hK.mono hG119
    have hbb4:=hbb4.mono hG119
    have hs78:=hs78.mono hG119
    have hs75:=hs75.mono hG119
    have hall:=hall.mono hG119
    have hsA:=hsA.mono hG119
    have hsR:=hsR.mono hG119
    have hs113:=hs113.mono hG119
    have hsl:=hsl.mono hG119
    refine cu (k:=.u64) rfl .no rfl kU (.u rfl) ?_
    refine fZ rfl qT rfl (iW rfl gB rfl rfl ?_)
    refine s1 rfl (.u rfl) (.u rfl) rfl fW aF (by rw [kK]; omega) (aBa (k:=q) (by omega)) ?_
    refine .g (aW (((q+1):Nat):Int) rfl rfl rfl rfl ?_)
    refine .g (aZ (q+1,L119,e119,s119,bA f q ((y119.setWidth 64).setWidth 8),rt++[y119]) ?_ ?_ ?_ ?_ ?_)
    ·exact (aO rfl (aA rfl (aA rfl (aA rfl (aA rfl (aA rfl (aA rfl (aA rfl (aA rfl (aA rfl eZ))))))))))
    ·exact (mS aF rfl (mS .here rfl (mS .here rfl (mS .here rfl (mS .here rfl (mS .here rfl mN))))))
    ·first|omega|(dsimp only; omega)
    ·exact (hGl1).trans hG119
    refine ⟨?_,?_,?_,?_,?_,?_⟩
    ·(try dsimp only)<;>(first|omega|rfl|assumption|(simp; done))
    ·(try dsimp only)<;>(simp [hrt])
    ·(try dsimp only)<;>(exact hB9.step (by omega) hN119)
    ·(try dsimp only)<;>(exact zO hrt ef)
    ·(try dsimp only)<;>(have hbd:=aAo hN119; exact ⟨by omega,fun z=>by have:=hbd.2 z; have:=lX.2 this.1; omega⟩)
    (try dsimp only)<;>(exact hs119)
   have c3k:=c3
   try simp only [aC,aI,aD] at c3
   refine .exit (.xcode (.xlp (.xblk (.code (.seq ?_)))))
   obtain ⟨hee,hsz,hrw⟩:=aFc ef (hB9.all (by omega) hT3)
   simp only at hee hrw
   subst hee
   refine .g (kp rfl .no qY (aB rfl aE) (Gp.add .here Gp.nil) (fun _ hle hq=>qG L 0 s9 b90 _ RdNP.add) ?_)
   refine cP rfl rfl rfl rfl (mV rfl rfl (mv rfl (.t rfl rfl) (.u rfl) (mv rfl (.t rfl rfl) (.u rfl) (ln rfl (.t rfl rfl) bK (.s rfl) (cw rfl (.t rfl rfl) cW (.s rfl) (fun hc=>eY (by (try simp only [Bool.and_eq_true,decide_eq_true_eq,Bool.not_eq_true',Bool.or_eq_false_iff,decide_eq_false_iff_not] at hc); omega) (by (try simp only [Bool.and_eq_true,decide_eq_true_eq,Bool.not_eq_true',Bool.or_eq_false_iff,decide_eq_false_iff_not] at hc); omega)) ?_)))))
   refine cp rfl (.t rfl rfl) (.s rfl) (.s rfl) rfl (cC rfl .no (.u rfl) (.s rfl) (kV rfl iI (aB rfl aE) (rN _ (by simp; omega) _) ?_))
   refine .g (bG (mc:=⟨false,false⟩) [0,1,2,3,4,5,6,7,8] aV (by kernel_rfl) ?_)
   refine .p (kE (n113) rfl .no aH hsA (.u rfl) (.u rfl) (by omega) (by omega) ?_)
   intro h137 L137 eL137 lL137 hs137
   have lL137:=lL137 rfl
   refine .p (kD (n113) rfl .no aH hsA (.u rfl) (.u rfl) (by omega) (by omega) ?_)
   intro h140 L140 eL140 lL140 hs140
   have lL140:=lL140 rfl
   refine fZ rfl qS rfl (s1 rfl (.u rfl) (.u rfl) rfl iE aF (by rw [kK]; decide) (rfl) ?_)
   refine aS rfl rfl (.nc (.seq (dP ⟨false,false⟩ aV (by kernel_rfl) ?_)))
   refine Wp.one 0 (by kernel_rfl) ?_
   refine mV rfl rfl (.nil (Wp.one 1 (by kernel_rfl) ?_))
   refine mV rfl rfl (.nil (Wp.one 2 (by kernel_rfl) ?_))
   refine nC rfl rfl (.nil (Wp.one 3 (by kernel_rfl) ?_))
   refine fZ rfl nB rfl (.nil (Wp.one 4 (by kernel_rfl) ?_))
   refine lN rfl qQ rfl (Rd.own fG kR) ?_
   refine .nil (Wp.one 5 (by kernel_rfl) ?_)
   refine lA rfl .no tF (.u rfl) (fun _=>RdN.own .here) (fun _=>kK) ?_
   refine .nil (Wp.b1 6 (by kernel_rfl) ?_)
   refine Go.Tan.b1 rfl nS tP (.u rfl) rfl rfl (by decide) ?_; intro b148
   refine .nil (Wp.b1 7 (by kernel_rfl) ?_)
   refine fK (xs:=acc) ((⟨_,L137,f⟩,h137)) rfl nS tP rfl (.u rfl) (.u rfl) bM .here (lW) (nK (pG rfl rfl) (dW _ _)) (by omega) (by unfold maxLen; omega) ?_; intro v149 ov149
   refine .nil (Wp.one 8 (by kernel_rfl) ?_)
   refine nC rfl rfl (.nil (Wp.one 9 (by kernel_rfl) ?_))
   refine fZ rfl nB rfl (.nil (Wp.b1 10 (by kernel_rfl) ?_))
   refine fR rfl (.u rfl) (.u rfl) .here aCA nP (by rw [xC]; decide) (aAD) ?_
   refine .nil (Wp.last (by kernel_rfl) ?_)
   refine .g (fZ rfl qT rfl (lA rfl .no cH (.u rfl) (fun _=>RdN.part (n:=32) (cs':=ba 32 f) bM (aBZ)) (fun _=>(by first|exact lW|exact kK|exact (gL _ _).trans (gL _ _).symm|exact gL _ _|exact aU _ _|exact Meta.len _|rfl)) ?_))
   refine Go.Tan.b1 rfl dM fJ (.u rfl) rfl rfl (by decide) ?_; intro b155
   refine fK (xs:=D) (f) rfl dM fJ rfl (.u rfl) (.u rfl) rU .here (aU _ _) (dW _ _) (by omega) (by unfold maxLen; omega) ?_; intro v156 ov156
   refine .g (ar rfl .no (.u rfl) (.u rfl) rfl (fun _=>eY (by omega) (by omega)) ?_)
   refine .g (aZ (k+1,L140,h140,v149,acc++[(⟨M110,L137,f⟩,h137)],v156,D++[f],L,s9) ?_ ?_ ?_ ?_ ?_)
   ·exact (aA rfl (aA rfl (fD rfl (congrArg (Value.int .u64) (by dsimp only; omega)) (aA rfl (aA rfl (aA rfl (aA rfl eZ)))))))
   ·exact (mS bM rfl (mS .here rfl (mS fG rfl (mS aF rfl (mS bM rfl mN)))))
   ·first|omega|(dsimp only; omega)
   ·exact (((hGl0).trans hG110).trans hG113).trans hGl1
   refine ⟨?_,?_,?_,?_,?_,?_,?_⟩
   ·(try dsimp only)<;>(first|omega|rfl|assumption|(simp; done))
   ·(try dsimp only)<;>(rw [List.map_append,eL137,eL140]; exact hrw)
   ·(try dsimp only)<;>(rw [eD,List.map_append]; rfl)
   ·(try dsimp only)<;>(have:=lX.2 rfl; refine ⟨by rw [List.length_append]; simp; omega,by rw [List.length_append]; simp only [List.length_cons,List.length_nil]; omega,by omega⟩)
   ·(try dsimp only)<;>(exact hall.snoc hs137 (by show L137.length≤_; omega))
   ·(try dsimp only)<;>(exact hs140)
   (try dsimp only)<;>(exact hsl)
  have c2k:=c2
  try simp only [aC,aI,aD] at c2
  refine .g (ka rfl (.inr rfl) pS (aB rfl aE) (bQ bM) (pI R 0 sR b90 _ hsR (by omega)) ?_)
  rintro _ G113 μ113 hG113 ⟨n113,L113,e113,s113,hN113,rfl,rfl,hs113⟩
  have lL113:=pJ hN113; have nL113:=iN hN113; simp only at lL113
  have hK:=hK.mono hG113
  have hbb4:=hbb4.mono hG113
  have hs78:=hs78.mono hG113
  have hs75:=hs75.mono hG113
  have hall:=hall.mono hG113
  have hsA:=hsA.mono hG113
  refine aS rfl rfl (.nc (.seq (.seq (aM rfl rfl (mV rfl rfl (.nc (.block ?_)))))))
  have hT3:=(aL0 hrows (by omega) (by omega)).numE hN113
  refine bE (α:=Nat×List Y×Int×Sh×(Nat→Y)×List Y) (fun gh=>[(114,true,.int .i64 (gh.1:Int))]) (fun gh=>[.blk b90 (cl [Sh.val gh.2.2.2.1 gh.2.1.length,.int .i64 gh.2.2.1] 175),.blk b18 (cl (qK [] (.slice none 0 0) gh.2.2.2.2.1) 103)])
   (fun gh Gl=>(gh.1≤32)∧(gh.2.2.2.2.2.length=gh.1)∧(ByR ⟨L113,e113⟩ ⟨gh.2.1,gh.2.2.1⟩ false gh.2.2.2.2.2)∧(∀ i,gh.2.2.2.2.1 i=gh.2.2.2.2.2.getD i 0)∧(gh.2.1.length≤L113.length∧(gh.2.2.1=0→gh.2.1.length+gh.1≤L113.length))∧(SlR Gl 1 aL gh.2.2.2.1 gh.2.1)) (fun gh=>32-gh.1) (0,L113,e113,s113,(fun _=>0#8),[]) [(4,true,_),(9,true,_),(13,true,_),(14,true,_),(15,true,_),(16,true,_),(17,true,_),(18,true,_),(19,true,_)] [_,_,_,_]
   (aO rfl (aA rfl (aA rfl (aA rfl (aA rfl (aA rfl (aA rfl (aA rfl (aA rfl (aA rfl eZ))))))))))
   (mS .here rfl (mS .here (by first|rfl | (rw [tY]; rfl)) (mS .here rfl (mS .here rfl (mS .here rfl (mS .here rfl mN)))))) ?_ ?_
  ·refine ⟨?_,?_,?_,?_,?_,?_⟩
   ·(try dsimp only)<;>(first|omega|rfl|assumption|(simp; done))
   ·(try dsimp only)<;>(first|omega|rfl|assumption|(simp; done))
   ·(try dsimp only)<;>(exact ByR.zero)
   ·(try dsimp only)<;>(exact fun i=>by simp)
   ·(try dsimp only)<;>(exact ⟨Nat.le_refl _,fun _=>Nat.le_refl _⟩)
   (try dsimp only)<;>(exact hs113)
  intro gh N2 Gl2 hN2 hGl2 hF2
  obtain ⟨q,L,ee,s9,f,rt⟩:=gh; dsimp only at hF2 hN2 ⊢
  obtain ⟨hq,hrt,hB9,ef,lX,hsl⟩:=hF2
  have hK:=hK.mono hGl2
  have hbb4:=hbb4.mono hGl2
  have hs78:=hs78.mono hGl2
  have hs75:=hs75.mono hGl2
  have hall:=hall.mono hGl2
  have hsA:=hsA.mono hGl2
  refine .g (cP rfl rfl rfl rfl (.g (cD rfl (fun c4=>?_) (fun c4=>?_))))
  ·have c4k:=c4
   try simp only [aC,aI,aD] at c4
   refine .g (ka rfl (.inr rfl) pR (aB rfl (aB rfl aE)) (bQ .here) (zJ L ee s9 b90 _ hsl (by omega)) ?_)
   rintro _ G119 μ119 hG119 ⟨y119,L119,e119,s119,hN119,rfl,rfl,hs119⟩
   have lL119:=zL hN119; simp only at lL119
   have hK:=hK.mono hG119
   have hbb4:=hbb4.mono hG119
   have hs78:=hs78.mono hG119
   have hs75:=hs75.mono hG119
   have hall:=hall.mono hG119
   have hsA:=hsA.mono hG119
   have hsl:=hsl.mono hG119
   refine cu (k:=.u64) rfl .no rfl kU (.u rfl) ?_
   refine fZ rfl qT rfl (iW rfl gB rfl rfl ?_)
   refine s1 rfl (.u rfl) (.u rfl) rfl fW aF (by rw [kK]; omega) (aBa (k:=q) (by omega)) ?_
   refine .g (aW (((q+1):Nat):Int) rfl rfl rfl rfl ?_)
   refine .g (aZ (q+1,L119,e119,s119,bA f q ((y119.setWidth 64).setWidth 8),rt++[y119]) ?_ ?_ ?_ ?_ ?_)
   ·exact (aO rfl (aA rfl (aA rfl (aA rfl (aA rfl (aA rfl (aA rfl (aA rfl (aA rfl (aA rfl eZ))))))))))
   ·exact (mS aF rfl (mS .here rfl (mS .here rfl (mS .here rfl (mS .here rfl (mS .here rfl mN))))))
   ·first|omega|(dsimp only; omega)
   ·exact (hGl2).trans hG119
   refine ⟨?_,?_,?_,?_,?_,?_⟩
   ·(try dsimp only)<;>(first|omega|rfl|assumption|(simp; done))
   ·(try dsimp only)<;>(simp [hrt])
   ·(try dsimp only)<;>(exact hB9.step (by omega) hN119)
   ·(try dsimp only)<;>(exact zO hrt ef)
   ·(try dsimp only)<;>(have hbd:=aAo hN119; exact ⟨by omega,fun z=>by have:=hbd.2 z; have:=lX.2 this.1; omega⟩)
   (try dsimp only)<;>(exact hs119)
  have c4k:=c4
  try simp only [aC,aI,aD] at c4
  refine .exit (.xcode (.xlp (.xblk (.code (.seq ?_)))))
  obtain ⟨hee,hsz,hrw⟩:=aFc ef (hB9.all (by omega) hT3)
  simp only at hee hrw
  subst hee
  refine .g (kp rfl .no qY (aB rfl aE) (Gp.add .here Gp.nil) (fun _ hle hq=>qG L 0 s9 b90 _ RdNP.add) ?_)
  refine cP rfl rfl rfl rfl (mV rfl rfl (mv rfl (.t rfl rfl) (.u rfl) (mv rfl (.t rfl rfl) (.u rfl) (ln rfl (.t rfl rfl) bK (.s rfl) (cw rfl (.t rfl rfl) cW (.s rfl) (fun hc=>eY (by (try simp only [Bool.and_eq_true,decide_eq_true_eq,Bool.not_eq_true',Bool.or_eq_false_iff,decide_eq_false_iff_not] at hc); omega) (by (try simp only [Bool.and_eq_true,decide_eq_true_eq,Bool.not_eq_true',Bool.or_eq_false_iff,decide_eq_false_iff_not] at hc); omega)) ?_)))))
  refine cp rfl (.t rfl rfl) (.s rfl) (.s rfl) rfl (cC rfl .no (.u rfl) (.s rfl) (kV rfl iI (aB rfl aE) (rN _ (by simp; omega) _) ?_))
  refine .g (bG (mc:=⟨false,false⟩) [0,1,2,3,4,5,6,7,8] aV (by kernel_rfl) ?_)
  refine .p (kE (n113) rfl .no aH hsA (.u rfl) (.u rfl) (by omega) (by omega) ?_)
  intro h137 L137 eL137 lL137 hs137
  have lL137:=lL137 rfl
  refine .p (kD (n113) rfl .no aH hsA (.u rfl) (.u rfl) (by omega) (by omega) ?_)
  intro h140 L140 eL140 lL140 hs140
  have lL140:=lL140 rfl
  refine fZ rfl qS rfl (s1 rfl (.u rfl) (.u rfl) rfl iE aF (by rw [kK]; decide) (rfl) ?_)
  refine aS rfl rfl (.nc (.seq (dP ⟨false,false⟩ aV (by kernel_rfl) ?_)))
  refine Wp.one 0 (by kernel_rfl) ?_
  refine mV rfl rfl (.nil (Wp.one 1 (by kernel_rfl) ?_))
  refine mV rfl rfl (.nil (Wp.one 2 (by kernel_rfl) ?_))
  refine nC rfl rfl (.nil (Wp.one 3 (by kernel_rfl) ?_))
  refine fZ rfl nB rfl (.nil (Wp.one 4 (by kernel_rfl) ?_))
  refine lN rfl qQ rfl (Rd.own fG kR) ?_
  refine .nil (Wp.one 5 (by kernel_rfl) ?_)
  refine lA rfl .no tF (.u rfl) (fun _=>RdN.own .here) (fun _=>kK) ?_
  refine .nil (Wp.b1 6 (by kernel_rfl) ?_)
  refine Go.Tan.b1 rfl nS tP (.u rfl) rfl rfl (by decide) ?_; intro b148
  refine .nil (Wp.b1 7 (by kernel_rfl) ?_)
  refine fK (xs:=acc) ((⟨_,L137,f⟩,h137)) rfl nS tP rfl (.u rfl) (.u rfl) bM .here (lW) (nK (pG rfl rfl) (dW _ _)) (by omega) (by unfold maxLen; omega) ?_; intro v149 ov149
  refine .nil (Wp.one 8 (by kernel_rfl) ?_)
  refine nC rfl rfl (.nil (Wp.one 9 (by kernel_rfl) ?_))
  refine fZ rfl nB rfl (.nil (Wp.b1 10 (by kernel_rfl) ?_))
  refine fR rfl (.u rfl) (.u rfl) .here aCA nP (by rw [xC]; decide) (aAD) ?_
  refine .nil (Wp.last (by kernel_rfl) ?_)
  refine .g (fZ rfl qT rfl (lA rfl .no cH (.u rfl) (fun _=>RdN.part (n:=32) (cs':=ba 32 f) bM (aBZ)) (fun _=>(by first|exact lW|exact kK|exact (gL _ _).trans (gL _ _).symm|exact gL _ _|exact aU _ _|exact Meta.len _|rfl)) ?_))
  refine Go.Tan.b1 rfl dM fJ (.u rfl) rfl rfl (by decide) ?_; intro b155
  refine fK (xs:=D) (f) rfl dM fJ rfl (.u rfl) (.u rfl) rU .here (aU _ _) (dW _ _) (by omega) (by unfold maxLen; omega) ?_; intro v156 ov156
  refine .g (ar rfl .no (.u rfl) (.u rfl) rfl (fun _=>eY (by omega) (by omega)) ?_)
  refine .g (aZ (k+1,L140,h140,v149,acc++[(⟨[],L137,f⟩,h137)],v156,D++[f],L,s9) ?_ ?_ ?_ ?_ ?_)
  ·exact (aA rfl (aA rfl (fD rfl (congrArg (Value.int .u64) (by dsimp only; omega)) (aA rfl (aA rfl (aA rfl (aA rfl eZ)))))))
  ·exact (mS bM rfl (mS .here rfl (mS fG rfl (mS aF rfl (mS bM rfl mN)))))
  ·first|omega|(dsimp only; omega)
  ·exact ((hGl0).trans hG113).trans hGl2
  refine ⟨?_,?_,?_,?_,?_,?_,?_⟩
  ·(try dsimp only)<;>(first|omega|rfl|assumption|(simp; done))
  ·(try dsimp only)<;>(rw [List.map_append,eL137,eL140]; exact hrw)
  ·(try dsimp only)<;>(rw [eD,List.map_append]; rfl)
  ·(try dsimp only)<;>(have:=lX.2 rfl; refine ⟨by rw [List.length_append]; simp; omega,by rw [List.length_append]; simp only [List.length_cons,List.length_nil]; omega,by omega⟩)
  ·(try dsimp only)<;>(exact hall.snoc hs137 (by show L137.length≤_; omega))
  ·(try dsimp only)<;>(exact hs140)
  (try dsimp only)<;>(exact hsl)
 have c1k:=c1
 try simp only [aC,aI,aD] at c1
 refine .exit (.xcode (.xlp (.xblk (.code (.seq ?_)))))
 have hz:=hrows
 rw [show n92+1-k=0 by omega] at hz
 obtain ⟨eR0,eA0,hacc⟩:=aDx hz
 refine dP ⟨true,false⟩ aV (by kernel_rfl) ?_
 refine Wp.one 0 (by kernel_rfl) ?_
 refine mV rfl rfl (.nil (Wp.b1 1 (by kernel_rfl) ?_))
 refine kp rfl .no aB6 (aB rfl aE) (Gp.add aT Gp.nil) (fun _ hle hq=>aBL R 0 sR b90 _ RdNP.add) ?_
 refine .nil (Wp.one 2 (by kernel_rfl) ?_)
 refine cP rfl rfl rfl rfl (.nil (Wp.one 3 (by kernel_rfl) ?_))
 refine mV rfl rfl (mE true (by rw [eR0]; rfl) ?_)
 refine .nil (Wp.one 4 (by kernel_rfl) ?_)
 refine mv rfl (.t rfl rfl) (.u rfl) (.nil (Wp.one 5 (by kernel_rfl) ?_))
 refine ln rfl (.t rfl rfl) bK (.u rfl) (.nil (Wp.one 6 (by kernel_rfl) ?_))
 refine cp rfl (.t rfl rfl) (.u rfl) (.u rfl) rfl (.nil (Wp.one 7 (by kernel_rfl) ?_))
 refine cC rfl .no (.u rfl) (.u rfl) (.nil (Wp.one 8 (by kernel_rfl) ?_))
 refine mV rfl rfl (mE true (by rw [eA0]; rfl) ?_)
 refine .nil (Wp.one 9 (by kernel_rfl) ?_)
 refine mv rfl (.t rfl rfl) (.u rfl) (.nil (Wp.one 10 (by kernel_rfl) ?_))
 refine mv rfl (.t rfl rfl) (.u rfl) (.nil (Wp.one 11 (by kernel_rfl) ?_))
 refine nc rfl (.t rfl rfl) (.u rfl) (.nil (Wp.one 12 (by kernel_rfl) ?_))
 refine fz rfl (.t rfl rfl) aAP (.u rfl) (.nil (Wp.one 13 (by kernel_rfl) ?_))
 refine ld rfl (.t rfl rfl) bV (.u rfl) (fun _=>Rd.own bM uX) ?_
 refine .nil (Wp.one 18 (by kernel_rfl) ?_)
 refine fa rfl (.t rfl rfl) aEl (.u rfl) (.nil (Wp.pr 19 (by kernel_rfl) ?_))
 refine lA rfl (.t rfl rfl) cH (.u rfl) (fun _=>(hbb4.rdn (m:=32) (cs':=ba 32 (fun i=>BitVec.ofInt 8 (m.root i))) (aDq hw)).rd) (fun _=>(aU _ _)) (.nil ⟨⟨rfl,rfl⟩,?_⟩)
 refine Wp.b1 14 (by kernel_rfl) ?_
 refine kv rfl (.t rfl rfl) xN (aB rfl aE) (fun _=>wJ L78 h78 _ hs78 hK (by omega)) ?_
 refine .nil (Wp.b1 15 (by kernel_rfl) ?_)
 refine Go.Tan.b1g rfl (.t rfl rfl) dM fJ (.u rfl) rfl rfl (by decide) ?_; intro b172
 refine .nil (Wp.b1 16 (by kernel_rfl) ?_)
 refine aCM (xs:=D) ((dH L78)) rfl (.t rfl rfl) dM fJ rfl (.u rfl) (.u rfl) aT .here (aU _ _) (dW _ _) (by omega) (by unfold maxLen; omega) ?_; intro v173 ov173
 refine .nil (Wp.b1 17 (by kernel_rfl) ?_)
 refine kag rfl (.t rfl rfl) (.inl rfl) aEx (aB rfl aE) (bQ .here) (aI8 (D++[dH L78]) v173 _ hK (by rw [List.length_append,eD,List.length_map]; simp only [List.length_cons,List.length_nil]; omega)) ?_
 rintro _ G174 μ174 hG174 ⟨_,rfl,rfl,rfl⟩
 have hs78:=hs78.mono hG174
 have hs75:=hs75.mono hG174
 have hall:=hall.mono hG174
 refine .nil (Wp.one 20 (by kernel_rfl) ?_)
 refine yU rfl (.t rfl rfl) uZ (.u rfl) (.u rfl) ?_
 refine .nil (Wp.one 21 (by kernel_rfl) ?_)
 refine cC rfl .no (.u rfl) (.u rfl) (.nil (Wp.b1 22 (by kernel_rfl) ?_))
 refine kV rfl iI (aB rfl aE) (rN _ (by rw [Bool.true_and]; exact decide_eq_true (aDr hw (by rw [eD,hix]; have:=B.root; rw [← hacc,List.map_map] at this; exact this))) _) ?_
 refine .nil (Wp.last (by kernel_rfl) ?_)
 refine .code (.seq ?_)
 refine jC aT (fun _ _=>rfl) (by intro b hb; cases hb) ?_; intro GfRR hRR hleRR evRR hsRR; subst evRR
 have hs78:=hs78.mono hleRR
 have hs75:=hs75.mono hleRR
 have hall:=hall.mono hleRR
 refine bD rfl rfl (mV rfl rfl (aS rfl rfl (.nc (.ret (We.fin Tryz.results54 (.tmp rfl .nil) (mS bM rfl mN) ?_)))))
 exact ⟨b80,acc,h75,hRR,h78,hacc,by rw [← hix],rfl,⟨hs75,hsRR,hall.each,by rw [← hix]; exact hs78,hall.sm,by omega⟩⟩
theorem tN:aQ Tryz.prog 53=true:=by kernel_rfl
theorem aKw:ifT Tryz.prog 20=true:=by kernel_rfl
theorem aB7:(cG Tryz.prog 96).isSome=true:=by kernel_rfl
theorem aTR:aQ Tryz.prog 58=true:=by kernel_rfl
theorem aTS:aQ Tryz.prog 61=true:=by kernel_rfl
theorem aE6:iS Tryz.prog 37=some ([.int .i64 0]):=by kernel_rfl
theorem aE0:aQ Tryz.prog 54=true:=by kernel_rfl
theorem aTP:aQ Tryz.prog 55=true:=by kernel_rfl
theorem aTQ:aQ Tryz.prog 57=true:=by kernel_rfl
theorem aKo:aQ Tryz.prog 59=true:=by kernel_rfl
theorem aKJ:cK Tryz.prog 36 5=some 5:=by kernel_rfl
theorem aKK:cK Tryz.prog 36 6=some 6:=by kernel_rfl
theorem aKL:cK Tryz.prog 36 7=some 7:=by kernel_rfl
theorem vR (w:World) (a:Addr):CallsD Tryz.prog 53 #[.pointer (some a)] .returning w (fun e u' w'=>(∃ v,e=.returned v)∧u'=.returning∧w'=w):=by
 refine callsD_of_wpS Tryz.func53 rfl fun c₀ cs hu=>(wpS_seq (wpS_region ?_))
 have hr:recoverD (c₀ :: cs)=none:=by simp [recoverD,hu]
 rw [show Tryz.f53.ntmps=11 from rfl]
 simp only [wpOpsS,List.range,List.range.loop,Array.size,List.length,List.getElem?_toArray,List.getElem?_cons_zero,List.getElem?_cons_succ,Region.wanted,if_true]
 have e1:∀ (ρ:Operand→Value) (d:Option Nat) (t:TypeId) (p:String) (af:Array Edge),(execOp ρ ⟨d,.call { callee:=.builtin .recover,args:=#[],argTypes:=#[] },t,p,af,none⟩).run Tryz.prog w=.ok .recover w:=fun ρ d t p af=>by
  simp [execOp,resolve,invoke,builtin]
 simp only [e1,hr]
 simp [execOp,Oper.upon,Exit.thenS,Act.put,Act.eval]
 refine wpS_of_wp ?_
 refine wp_seq (wp_region ?_)
 simp [wpOps,Region.wanted,execOp,Oper.wp,Oper.upon,Exit.then,Act.put,Act.eval,List.range,List.range.loop]
 refine .inl (wp_block (wp_seq (wp_region ?_)))
 have e2:(binOp .eql 20 .nilIface .nilIface).run Tryz.prog w=.ok (.bool true) w:=by
  have hu20:=aGz aKw
  obtain ⟨q,hq⟩:=hu20
  have e4:∀ d,(Op.equalIn (d+1) 20 .nilIface .nilIface).run Tryz.prog w=.ok true w:=fun d=>by
   unfold Op.equalIn
   simp only [Sem.run_bind,run_underlying hq,Result.andThen_ok,Sem.run_pure]
  obtain ⟨d,hd⟩ : ∃ d,Op.maxDepth=d+1:=Nat.exists_eq_succ_of_ne_zero (by decide)
  simp [binOp,Op.equal,hd,e4]
 have e3:(eqGuard .eql 20 (.tmp 4) (.const .nilIface) .nilIface .nilIface).run Tryz.prog w=.ok () w:=by unfold eqGuard; simp
 simp [wpOps,Region.wanted,execOp,Oper.wp,Oper.upon,Exit.then,Act.put,Act.eval,List.range,List.range.loop,e2,e3]
 refine .inl (.inl (wp_cond_true (by simp [Act.eval]) (wp_skip ?_)))
 refine ⟨rfl,.returning,by rw [← hu],.tuple #[],?_,⟨_,rfl⟩,rfl,rfl⟩
 simp [results,Tryz.f53]
theorem aNd (h:Sh) (l:List (RowT×Sh)) (G:PM) (hs:SlR G 34 oJ h l) (hl:l.length≤100000000) (f:Nat) (hf:aQ Tryz.prog f=true) (vc:List Value) (p:(RowT×Sh)→Bool) (hc:∀ G',PM.le G G'→∀ m∈l,Ct Tryz.prog f ([Value.agg (oJ m).toArray]++vc).toArray G' [] fun _ μ' u=>μ'=[]∧u=.bool (p m)):Ct Tryz.prog 57 ([h.val l.length,.func (.func f) #[] vc.toArray]:List Value).toArray G [] (fun _ μ' u=>μ'=[]∧u=.int .i64 (gU p l)):=by
 refine Ct.of Tryz.func57 rfl Tryz.ntmps57 rfl fun w0 hs0=>?_
 refine .g (lE rfl aB7 rfl (mV rfl rfl (.nc (.block ?_))))
 refine bE (α:=Nat) (fun k=>[(8,true,.int .i64 (k:Int))]) (fun _=>[])
  (fun k Gl=>(k≤l.length)∧(∀ j y,j<k→l[j]? = some y→p y=false)) (fun k=>l.length-k) 0 [(0,true,_),(1,true,_),(7,true,_)] []
  (aO rfl (aA rfl (aA rfl (aA rfl eZ))))
  mN ?_ ?_
 ·refine ⟨?_,?_⟩
  ·(try dsimp only)<;>(first|omega|rfl|assumption|(simp; done))
  (try dsimp only)<;>(exact fun j y h=>absurd h (Nat.not_lt_zero _))
 intro k N0 Gl0 hN0 hGl0 hF0
 try dsimp only at hF0 hN0 ⊢
 obtain ⟨hk,hno⟩:=hF0
 have hs:=hs.mono hGl0
 refine .g (cP rfl rfl rfl rfl (.g (cD rfl (fun c1=>?_) (fun c1=>?_))))
 ·have c1k:=c1
  try simp only [aC,aD] at c1
  refine .skip (.code (.seq (.block (.seq (bD rfl rfl (mV rfl rfl (aS rfl rfl (.nc (.seq (nO rfl rfl (mV rfl rfl (mV rfl rfl (mV rfl rfl (ih rfl .no nS (.u rfl) (.u rfl) (by omega) (by omega) (fun _=>hs.nn (k:=k) (by first|omega|(simp only [Bool.and_eq_true,decide_eq_true_eq] at hc; omega)|(simp only [List.length_cons,List.length_nil]; omega))) ?_))))))))))))))
  obtain ⟨x,ex⟩:=dO (k:=k) (xs:=l) (by omega)
  refine lA rfl .no tF (.u rfl) (fun _=>(hs.at (by omega) ex).rd) (fun _=>lW) ?_
  refine kf rfl .no (.u rfl) hf (aB rfl aE) (fun _=>hc _ hGl0 x (List.mem_of_getElem? ex)) ?_
  refine .g (cD rfl (fun c2=>?_) (fun c2=>?_))
  ·have c2k:=c2
   try simp only [aC,aD] at c2
   refine .seq (bD rfl rfl (mV rfl rfl (aS rfl rfl (.nc (.ret (aP Tryz.results57 (.tmp rfl .nil) ?_))))))
   exact ⟨rfl,aGw hno ex (by simpa using c2k)⟩
  have c2k:=c2
  try simp only [aC,aD] at c2
  refine .g (aW (((k+1):Nat):Int) rfl rfl rfl rfl ?_)
  refine .g (aZ (k+1) ?_ ?_ ?_ ?_ ?_)
  ·exact (aO rfl (aA rfl (aA rfl (aA rfl eZ))))
  ·exact mN
  ·first|omega|(dsimp only; omega)
  ·exact hGl0
  refine ⟨?_,?_⟩
  ·(try dsimp only)<;>(first|omega|rfl|assumption|(simp; done))
  (try dsimp only)<;>(exact aGy hno ex (by simpa using c2k))
 have c1k:=c1
 try simp only [aC,aD] at c1
 refine .exit (.xcode (.xlp (.xblk (.code (.seq (aM rfl rfl (aS rfl rfl (.nc (.ret (aP Tryz.results57 (.tmp rfl .nil) ?_))))))))))
 exact ⟨rfl,aGx hno (by omega)⟩
theorem aNM (p:RowT×Sh) (user:ByteArray) (b:Nat) (G:PM) (hb:PB G b (cl [.string user] 9)):Ct Tryz.prog 58 ([.agg (oJ p).toArray,.pointer (some ⟨b,0,none⟩)]:List Value).toArray G [] (fun _ μ' u=>μ'=[]∧u=.bool (mU user p)):=by
 refine Ct.of Tryz.func58 rfl Tryz.ntmps58 rfl fun w0 hs0=>?_
 refine .seq (bD rfl rfl ?_)
 refine bX rfl rfl rfl ?_; intro b2
 refine .g (fZ rfl aEf rfl (lO rfl cE rfl .here (by first|exact aJ rfl|rfl) ?_))
 refine lN rfl cE rfl ((hb.rd (by rfl)).rd) ?_
 refine cs rfl .no (.u rfl) (.u rfl) rfl (aS rfl rfl (.nc (.ret (aP Tryz.results58 (.tmp rfl .nil) ?_))))
 exact ⟨rfl,rfl⟩
theorem aNN (e:Ent) (user:ByteArray) (seq:BitVec 64) (b c:Nat) (G:PM) (hb:PB G b (cl [.string user] 9)) (hq9:PB G c (cl [uv .u64 seq] 24)):Ct Tryz.prog 61 ([e.val,.pointer (some ⟨b,0,none⟩),.pointer (some ⟨c,0,none⟩)]:List Value).toArray G [] (fun _ μ' u=>μ'=[]∧u=.bool (oE user seq e)):=by
 refine Ct.of Tryz.func61 rfl Tryz.ntmps61 rfl fun w0 hs0=>?_
 refine .seq (bD rfl rfl ?_)
 refine bX rfl rfl rfl ?_; intro b3
 refine .g (fZ rfl fM rfl (lO rfl cE rfl .here (by first|exact aJ rfl|rfl) ?_))
 refine lN rfl cE rfl ((hb.rd (by rfl)).rd) ?_
 refine cs rfl .no (.u rfl) (.u rfl) rfl (.p (fz rfl (.f rfl rfl) fM (.u rfl) (ld rfl (.f rfl rfl) cE (.s rfl) (fun hc=>Rd.own .here (by first|exact aJ rfl|rfl)) ?_)))
 refine ld rfl (.f rfl rfl) cE (.u rfl) (fun hc=>(hb.rd (by rfl)).rd) ?_
 refine cs rfl (.f rfl rfl) (.s rfl) (.s rfl) rfl (mv rfl (.f rfl rfl) (.s rfl) (fz rfl (.tc rfl rfl) pP (.u rfl) (ld rfl (.tc rfl rfl) fI (.s rfl) (fun hc=>Rd.own .here (by first|exact aJ rfl|rfl)) ?_)))
 refine ld rfl (.tc rfl rfl) fI (.u rfl) (fun hc=>(hq9.rd (by rfl)).rd) ?_
 refine cp rfl (.tc rfl rfl) (.s rfl) (.s rfl) rfl (cC rfl (.f rfl rfl) (.s rfl) (.s rfl) (cL rfl .no (.u rfl) (.s rfl) (aS rfl rfl (.nc (.ret (aP Tryz.results61 (.tmp rfl .nil) ?_))))))
 exact ⟨rfl,congrArg Value.bool aNa⟩
set_option maxHeartbeats 4000000 in
theorem aEA (root:Nat→Y) (m:Meta) (xs:List Y) (hx:Sh) (user:ByteArray) (seq:BitVec 64) (R:Option Ent) (G:PM) (hw:m.wf) (hs:SlR G 1 aL hx xs) (hK:RdNP G 1 0 (wa 64 kW)) (hl:xs.length≤1000000) (hu:user.size≤1000000000000000) (hT:vY root m xs user seq=some R):Ct Tryz.prog 12 ([.agg (ba 32 root).toArray,m.val,hx.val xs.length,.string user,uv .u64 seq]:List Value).toArray G [] (fun _ μ' u=>μ'=[]∧u=.tuple #[(R.getD Ent.zero).val,.bool R.isSome,.int .i64 0]):=by
 refine Ct.of Tryz.func12 rfl Tryz.ntmps12 rfl fun w0 hs0=>?_
 obtain ⟨rows,ix,f,hB,hwf,hno,hyes⟩:=aNP hT
 have h2r:=aCT hB
 refine .seq (uQ rfl rfl ?_)
 refine bX rfl rfl rfl ?_; intro b5
 refine bX rfl rfl rfl ?_; intro b6
 refine bX rfl rfl rfl ?_; intro b8
 refine bX rfl rfl rfl ?_; intro b9
 refine al rfl mJ ?_; intro b10
 refine aS rfl rfl ?_
 refine al rfl aE6 ?_; intro b12
 refine .nil (.code (.seq (aSJ rfl rfl rfl ?_)))
 refine .code (.seq ?_)
 refine fS bM (by intro b hb; cases hb) ?_; intro Gfb8 hleb8 hbb8
 have hs:=hs.mono hleb8
 have hK:=hK.mono hleb8
 refine fS aT (by intro b hb; cases hb) ?_; intro Gfb9 hleb9 hbb9
 have hs:=hs.mono hleb9
 have hK:=hK.mono hleb9
 have hbb8:=hbb8.mono hleb9
 refine .g (lA rfl .no cH (.u rfl) (fun _=>RdN.own bM) (fun _=>aU _ _) ?_)
 refine lA rfl .no iU (.u rfl) (fun _=>RdN.own aT) (fun _=>Meta.len _) ?_
 refine .p (kc rfl aE0 (aB rfl (aB rfl (aB rfl aE))) (aRN root m xs hx rows ix _ hw hs hK hl hB) ?_)
 rintro _ G22 μ22 hG22 ⟨b22,ps,ha22,hr22,hi22,eps,rfl,rfl,hR22⟩
 subst eps
 have hpl:=hR22.len
 rw [List.length_map] at h2r
 have hK:=hK.mono hG22
 have hbb8:=hbb8.mono hG22
 have hbb9:=hbb9.mono hG22
 refine .g (nC rfl rfl (fZ rfl nB rfl (lN rfl qQ rfl (Rd.own .here kR) ?_)))
 refine lE rfl aB7 rfl (aW (((ps.length-1):Nat):Int) rfl rfl rfl rfl ?_)
 refine aS rfl rfl (.nc (.seq (.seq ?_)))
 obtain ⟨pf,epf⟩:=dO (k:=ps.length-1) (xs:=ps) (by omega)
 rw [List.length_map,sQ rfl epf] at hwf
 refine dP ⟨true,false⟩ aV (by kernel_rfl) ?_
 refine Wp.one 0 (by kernel_rfl) ?_
 refine mV rfl rfl (.nil (Wp.one 1 (by kernel_rfl) ?_))
 refine mV rfl rfl (.nil (Wp.pr 3 (by kernel_rfl) ?_))
 refine lN rfl cE rfl ((hbb8.rd (by rfl)).rd) ?_
 refine .nil ⟨⟨rfl,rfl⟩,?_⟩
 refine Wp.b1 2 (by kernel_rfl) ?_
 refine ka rfl (.inl rfl) aB5 (aB rfl (aB rfl (aB rfl aE))) (bQ .here) (aJg root (bH m) ps ix ha22 hr22 hi22 b22 _ hR22 hK (ps.length-1) 1 pf f epf (by decide) hwf) ?_
 rintro _ G31 μ31 hG31 ⟨h31,rfl,rfl,hs31⟩
 have hfl:=wZ hwf; have hfs:=hR22.sm pf (List.mem_of_getElem? epf)
 have hK:=hK.mono hG31
 have hbb8:=hbb8.mono hG31
 have hbb9:=hbb9.mono hG31
 have hR22:=hR22.mono hG31
 refine .nil (Wp.b1 4 (by kernel_rfl) ?_)
 refine kV rfl aTP (aB rfl (aB rfl aE)) (aOG h31 f user _ hs31 (by omega) hu) ?_
 refine .nil (Wp.one 5 (by kernel_rfl) ?_)
 refine nt rfl .no (.u rfl) (.nil (Wp.last (by kernel_rfl) ?_))
 refine .code (cD rfl (fun c1=>?_) (fun c1=>?_))
 ·have c1k:=c1
  try simp only [aC,aI,aD] at c1
  refine .g (bC rfl .no tH .nil rfl ?_)
  refine sw rfl (.u rfl) (.u rfl) rfl fN aT rfl (Ent.one _) ?_
  refine .p (s1 rfl (.u rfl) (.u rfl) rfl oS aT (by first|decide|(simp only [bO,aU,bJ]; omega)) (rfl) ?_)
  refine .nil (.code (.ret (vM tN rfl (fun w=>vR w _) Tryz.results12 (.cell rfl (fun w hw=>bW dN (RdN.own aF) (Ent.len _) hw) (.tmp rfl (.cell rfl (fun w hw=>oL gD (Rd.own .here rfl w hw)) .nil))) mN ?_)))
  obtain rfl:=hno (by simpa using c1k)
  exact ⟨rfl,rfl⟩
 have c1k:=c1
 try simp only [aC,aI,aD] at c1
 refine .skip (.code (.seq ?_))
 have hgr:=hyes (by simpa using c1k)
 rw [List.length_map] at hgr
 refine .g (nC rfl rfl (fZ rfl nB rfl (lN rfl qQ rfl (Rd.own .here kR) ?_)))
 refine .p (kE ((ps.length-1)) rfl .no nS hR22.rows (.u rfl) (.u rfl) (by omega) (by omega) ?_)
 intro h41 L41 eL41 lL41 hs41
 have lL41:=lL41 rfl
 refine mf (vf:=#[]) (vc:=[Value.pointer (some ⟨b8,0,none⟩)].toArray) rfl .no (fun a ha _=>by simp) (fun a ha _=>by simp [(Ev.u (c:=true) rfl:Ev _ true (.tmp 8) _).eval ha rfl]) ?_
 refine kV rfl aTQ (aB rfl (aB rfl aE)) (aNd h41 L41 _ hs41 (by omega) 58 aTR [.pointer (some ⟨b8,0,none⟩)] (mU user) (fun G2 hle p hp=>aNM p user b8 G2 (hbb8.mono hle))) ?_
 refine aS rfl rfl (.nc (.seq (.seq (bD rfl rfl (mV rfl rfl (aS rfl rfl (.nc (.block ?_))))))))
 refine bE (α:=Int) (fun k=>[(16,true,.int .i64 k)]) (fun _=>[])
  (fun k Gl=>((k = -1∧R=none)∨(0≤k∧k≤((ps.length-1:Nat):Int)∧lG root (bH m) (ps.map (·.1)) user seq (ps.length-1-k.toNat) k.toNat=some R))) (fun k=>(((ps.length-1:Nat):Int)-k).toNat) (gU (mU user) L41) [(8,true,_),(9,true,_),(10,true,_),(12,true,_),(13,true,_),(14,true,_)] [_,_,_,_,_]
  (aO rfl (aA rfl (aA rfl (aA rfl (aA rfl (aA rfl (aA rfl eZ)))))))
  (mS .here rfl (mS .here rfl (mS .here rfl (mS .here rfl (mS .here rfl mN))))) ?_ ?_
 ·(try dsimp only)<;>(exact aNT (hpl:=by omega) eL41 hgr)
 intro k N0 Gl0 hN0 hGl0 hF0
 try dsimp only at hF0 hN0 ⊢
 have hI:=hF0
 have hK:=hK.mono hGl0
 have hbb8:=hbb8.mono hGl0
 have hbb9:=hbb9.mono hGl0
 have hR22:=hR22.mono hGl0
 refine .g (cP rfl rfl rfl rfl (mV rfl rfl (mv rfl (.t rfl rfl) (.u rfl) (mv rfl (.t rfl rfl) (.u rfl) (cp rfl (.t rfl rfl) (.s rfl) (.s rfl) rfl (cC rfl .no (.u rfl) (.s rfl) (.g (cD rfl (fun c2=>?_) (fun c2=>?_)))))))))
 ·have c2k:=c2
  try simp only [aC,aI,aD] at c2
  refine .skip (.code (.seq (.block (.seq ?_))))
  obtain ⟨j,rfl⟩ : ∃ j:Nat,k=(j:Int):=⟨k.toNat,by omega⟩
  obtain ⟨hj,hgj⟩ : j<ps.length-1∧lG root (bH m) (ps.map (·.1)) user seq (ps.length-1-j) j=some R:=by rcases hI with ⟨h1,_⟩ | ⟨h1,h2,h3⟩; (omega); (exact ⟨by omega,by simpa using h3⟩)
  obtain ⟨l,hel,hln,hlh⟩:=aNQ hj hgj
  obtain ⟨p,ep⟩:=dO (k:=j) (xs:=ps) (by omega)
  obtain ⟨y,hwy,hry⟩:=aAx hel
  rw [sQ rfl ep] at hwy
  have hll:=aDj hry; have hyl:=wZ hwy; have hps:=hR22.sm p (List.mem_of_getElem? ep)
  refine .g (ka rfl (.inr rfl) aKo (aB rfl (aB rfl aE)) (bQ .here) (aM7 root (bH m) ps ix ha22 hr22 hi22 b22 _ hR22 hK j p l ep hel) ?_)
  rintro _ G56 μ56 hG56 ⟨h56,rfl,rfl,hs56⟩
  have hbb8:=hbb8.mono hG56
  have hbb9:=hbb9.mono hG56
  refine .g (mf (vf:=#[]) (vc:=[Value.pointer (some ⟨b8,0,none⟩),Value.pointer (some ⟨b9,0,none⟩)].toArray) rfl .no (fun a ha _=>by simp) (fun a ha _=>by simp [(Ev.u (c:=true) rfl:Ev _ true (.tmp 8) _).eval ha rfl,(Ev.u (c:=true) rfl:Ev _ true (.tmp 9) _).eval ha rfl]) ?_)
  refine kV rfl aKp (aB rfl (aB rfl aE)) (aGv h56 l _ hs56 (by omega) 61 aTS [.pointer (some ⟨b8,0,none⟩),.pointer (some ⟨b9,0,none⟩)] (oE user seq) (fun G2 hle e he=>aNN e user seq b8 b9 G2 (hbb8.mono hle) (hbb9.mono hle))) ?_
  refine .g (cP rfl rfl rfl rfl (.g (cD rfl (fun c3=>?_) (fun c3=>?_))))
  ·have c3k:=c3
   try simp only [aC,aI,aD] at c3
   refine .g (aR rfl rfl rfl rfl ?_)
   refine .g (aZ ((j:Int)+1) ?_ ?_ ?_ ?_ ?_)
   ·exact (aO rfl (aA rfl (aA rfl (aA rfl (aA rfl (aA rfl (aA rfl eZ)))))))
   ·exact (mS .here rfl (mS .here rfl (mS .here rfl (mS .here rfl (mS .here rfl mN)))))
   ·first|omega|(dsimp only; omega)
   ·exact (hGl0).trans hG56
   (try dsimp only)<;>(exact .inr ⟨by omega,by omega,by have:=hln (aNS (by omega)); rw [show ((j:Int)+1).toNat=j+1 by omega]; exact this⟩)
  have c3k:=c3
  try simp only [aC,aI,aD] at c3
  refine .skip (.code (.seq (.seq ?_)))
  rcases aC0 (p:=oE user seq) l with hq | ⟨x,hx0,hxi,hxf⟩
  ·exact absurd hq.1 (by omega)
  have hxl:=(List.getElem?_eq_some_iff.1 hxi).1
  have hRx:=hlh x hxf
  refine dP ⟨true,false⟩ aV (by kernel_rfl) ?_
  refine Wp.one 0 (by kernel_rfl) ?_
  refine mV rfl rfl (.nil (Wp.one 1 (by kernel_rfl) ?_))
  refine mV rfl rfl (.nil (Wp.one 2 (by kernel_rfl) ?_))
  refine ih rfl .no dZ (.u rfl) (.u rfl) (by omega) (by omega) (fun _=>hs56.nn (k:=(gU (oE user seq) l).toNat) (by omega)) ?_
  refine .nil (Wp.one 3 (by kernel_rfl) ?_)
  refine fA rfl fM rfl (.nil (Wp.one 4 (by kernel_rfl) ?_))
  refine lN rfl cE rfl ((hs56.at rfl hxi 0 _ rfl).rd) ?_
  refine .nil (Wp.one 5 (by kernel_rfl) ?_)
  refine lN rfl cE rfl ((hbb8.rd (by rfl)).rd) ?_
  refine .nil (Wp.one 6 (by kernel_rfl) ?_)
  refine cs rfl .no (.u rfl) (.u rfl) rfl (.nil (Wp.last (by kernel_rfl) ?_))
  refine .code (cD rfl (fun c4=>?_) (fun c4=>?_))
  ·have c4k:=c4
   try simp only [aC,aI,aD] at c4
   refine .g (bC rfl .no tH .nil rfl ?_)
   refine sw rfl (.u rfl) (.u rfl) rfl fN aT rfl (Ent.one _) ?_
   refine .p (s1 rfl (.u rfl) (.u rfl) rfl oS aT (by first|decide|(simp only [bO,aU,bJ]; omega)) (rfl) ?_)
   refine .nil (.code (.ret (vM tN rfl (fun w=>vR w _) Tryz.results12 (.cell rfl (fun w hw=>bW dN (RdN.own aF) (Ent.len _) hw) (.tmp rfl (.cell rfl (fun w hw=>oL gD (Rd.own .here rfl w hw)) .nil))) mN ?_)))
   rw [if_neg (by intro e; rw [e] at c4k; simp at c4k)] at hRx
   subst hRx
   exact ⟨rfl,rfl⟩
  have c4k:=c4
  try simp only [aC,aI,aD] at c4
  refine .skip (.code (.seq (uQ rfl rfl (mV rfl rfl (mV rfl rfl (ih rfl .no dZ (.u rfl) (.u rfl) (by omega) (by omega) (fun _=>hs56.nn (k:=(gU (oE user seq) l).toNat) (by omega)) ?_))))))
  refine lA rfl .no dN (.u rfl) (fun _=>(hs56.at rfl hxi).rd) (fun _=>Ent.len _) ?_
  refine sw rfl (.u rfl) (.u rfl) rfl fN aT rfl (Ent.one _) ?_
  refine .p (s1 rfl (.u rfl) (.u rfl) rfl oS aT (by first|decide|(simp only [bO,aU,bJ]; omega)) (rfl) ?_)
  refine .nil (.code (.ret (vM tN rfl (fun w=>vR w _) Tryz.results12 (.cell rfl (fun w hw=>bW dN (RdN.own aF) (Ent.len _) hw) (.tmp rfl (.cell rfl (fun w hw=>oL gD (Rd.own .here rfl w hw)) .nil))) mN ?_)))
  rw [if_pos (toList_inj (by simpa using c4k))] at hRx
  subst hRx
  exact ⟨rfl,rfl⟩
 have c2k:=c2
 try simp only [aC,aI,aD] at c2
 refine .g (bC rfl .no tH .nil rfl ?_)
 refine sw rfl (.u rfl) (.u rfl) rfl fN aT rfl (Ent.one _) ?_
 refine .p (s1 rfl (.u rfl) (.u rfl) rfl oS aT (by first|decide|(simp only [bO,aU,bJ]; omega)) (rfl) ?_)
 refine .nil (.code (.ret (vM tN rfl (fun w=>vR w _) Tryz.results12 (.cell rfl (fun w hw=>bW dN (RdN.own aF) (Ent.len _) hw) (.tmp rfl (.cell rfl (fun w hw=>oL gD (Rd.own .here rfl w hw)) .nil))) mN ?_)))
 obtain rfl:R=none:=aNR hI (by omega)
 exact ⟨rfl,rfl⟩
theorem aSf:fX Tryz.prog 47 [0,1]=some (Ent.zero.cells,[(0,1),(1,1)]):=by kernel_rfl
theorem aTb:aQ Tryz.prog 81=true:=by kernel_rfl
theorem aKE:vU Tryz.prog 4 47 (aGQ)=true:=by kernel_rfl
theorem aSc:fX Tryz.prog 26 [0]=some ([V 0#8,V 0#8,uv .u64 0#64,uv .u64 0#64,uv .u64 0#64],[(0,1)]):=by kernel_rfl
theorem aAK:fX Tryz.prog 23 []=some (ba 32 (fun _=>0#8),[]):=by kernel_rfl
theorem aJ6:fX Tryz.prog 28 [0,1,2]=some ([.int .i64 0,.int .i64 0,.int .i64 0],[(0,1),(1,1),(2,1)]):=by kernel_rfl
theorem aKs:aQ Tryz.prog 8=true:=by kernel_rfl
theorem aEq:aQ Tryz.prog 12=true:=by kernel_rfl
theorem aPR (a b:Ent) (G:PM):Ct Tryz.prog 81 ([a.val,b.val]:List Value).toArray G [] (fun _ μ' u=>μ'=[]∧u=.bool (dQ a b)):=by
 refine Ct.of Tryz.func81 rfl Tryz.ntmps81 rfl fun w0 hs0=>?_
 refine .seq (eH rfl rfl ?_)
 refine bX rfl rfl rfl ?_; intro b2
 refine bX rfl rfl rfl ?_; intro b3
 refine .g (fZ rfl fM rfl (lO rfl cE rfl aF (by first|exact aJ rfl|rfl) ?_))
 refine fZ rfl fM rfl (lO rfl cE rfl .here (by first|exact aJ rfl|rfl) ?_)
 refine cs rfl .no (.u rfl) (.u rfl) rfl (.p (fz rfl (.f rfl rfl) fM (.u rfl) (ld rfl (.f rfl rfl) cE (.s rfl) (fun hc=>Rd.own aF (by first|exact aJ rfl|rfl)) ?_)))
 refine fz rfl (.f rfl rfl) fM (.u rfl) (ld rfl (.f rfl rfl) cE (.s rfl) (fun hc=>Rd.own .here (by first|exact aJ rfl|rfl)) ?_)
 refine cs rfl (.f rfl rfl) (.s rfl) (.s rfl) rfl (mv rfl (.f rfl rfl) (.s rfl) (fz rfl (.tc rfl rfl) pP (.u rfl) (ld rfl (.tc rfl rfl) fI (.s rfl) (fun hc=>Rd.own aF (by first|exact aJ rfl|rfl)) ?_)))
 refine fz rfl (.tc rfl rfl) pP (.u rfl) (ld rfl (.tc rfl rfl) fI (.s rfl) (fun hc=>Rd.own .here (by first|exact aJ rfl|rfl)) ?_)
 refine cp rfl (.tc rfl rfl) (.s rfl) (.s rfl) rfl (cC rfl (.f rfl rfl) (.s rfl) (.s rfl) (cL rfl .no (.u rfl) (.s rfl) (aS rfl rfl (.nc (.ret (aP Tryz.results81 (.tmp rfl .nil) ?_))))))
 exact ⟨rfl,congrArg Value.bool aPg⟩
theorem aQa (ha hb:Sh) (a b:List Ent) (G:PM) (hs:SlR G 4 Ent.cells ha a) (hs2:SlR G 4 Ent.cells hb b) (hl:a.length≤10000000000000) (hc1:∀ e∈a,e.user.size≤1000000∧e.value.size≤1000000) (hc2:∀ e∈b,e.user.size≤1000000∧e.value.size≤1000000):Ct Tryz.prog 18 ([ha.val a.length,hb.val b.length]:List Value).toArray G [] (fun _ μ' u=>μ'=[]∧u=.bool (B (a=b))):=by
 refine Ct.of Tryz.func18 rfl Tryz.ntmps18 rfl fun w0 hs0=>?_
 refine .g (lE rfl gJ rfl (.p (lE rfl gJ rfl (cP rfl rfl rfl rfl (.g (cD rfl (fun c1=>?_) (fun c1=>?_)))))))
 ·have c1k:=c1
  try simp only [aC,aD] at c1
  refine .seq (aM rfl rfl (aS rfl rfl (.nc (.ret (aP Tryz.results18 (.tmp rfl .nil) ?_)))))
  exact ⟨rfl,congrArg Value.bool (aQc (by omega)).symm⟩
 have c1k:=c1
 try simp only [aC,aD] at c1
 refine .skip (.code (.seq (.seq (aM rfl rfl (aS rfl rfl (.nc (.block ?_)))))))
 refine bE (α:=Nat) (fun k=>[(5,true,.int .i64 (k:Int))]) (fun _=>[])
  (fun k Gl=>(k≤a.length)∧(∀ j,j<k→a[j]? = b[j]?)) (fun k=>a.length-k) 0 [(0,true,_),(1,true,_)] []
  (aO rfl (aA rfl (aA rfl eZ)))
  mN ?_ ?_
 ·refine ⟨?_,?_⟩
  ·(try dsimp only)<;>(first|omega|rfl|assumption|(simp; done))
  (try dsimp only)<;>(exact fun j h=>absurd h (Nat.not_lt_zero _))
 intro k N0 Gl0 hN0 hGl0 hF0
 try dsimp only at hF0 hN0 ⊢
 obtain ⟨hk,hn⟩:=hF0
 have hs:=hs.mono hGl0
 have hs2:=hs2.mono hGl0
 refine .g (lE rfl gJ rfl (cP rfl rfl rfl rfl (.g (cD rfl (fun c2=>?_) (fun c2=>?_)))))
 ·have c2k:=c2
  try simp only [aC,aD] at c2
  refine .skip (.code (.seq (.block (.seq ?_))))
  obtain ⟨x,ex⟩:=dO (k:=k) (xs:=a) (by omega)
  obtain ⟨y,ey⟩:=dO (k:=k) (xs:=b) (by omega)
  have hx1:=hc1 x (List.mem_of_getElem? ex); have hy1:=hc2 y (List.mem_of_getElem? ey)
  refine dP ⟨false,false⟩ aV (by kernel_rfl) ?_
  refine Wp.one 0 (by kernel_rfl) ?_
  refine mV rfl rfl (.nil (Wp.one 1 (by kernel_rfl) ?_))
  refine mV rfl rfl (.nil (Wp.one 2 (by kernel_rfl) ?_))
  refine ih rfl .no dZ (.u rfl) (.u rfl) (by omega) (by omega) (fun _=>hs.nn (k:=k) (by first|omega|(simp only [Bool.and_eq_true,decide_eq_true_eq] at hc; omega)|(simp only [List.length_cons,List.length_nil]; omega))) ?_
  refine .nil (Wp.one 3 (by kernel_rfl) ?_)
  refine lA rfl .no dN (.u rfl) (fun _=>(hs.at (by omega) ex).rd) (fun _=>Ent.len _) ?_
  refine .nil (Wp.one 4 (by kernel_rfl) ?_)
  refine mV rfl rfl (.nil (Wp.one 5 (by kernel_rfl) ?_))
  refine mV rfl rfl (.nil (Wp.one 6 (by kernel_rfl) ?_))
  refine ih rfl .no dZ (.u rfl) (.u rfl) (by omega) (by omega) (fun _=>hs2.nn (k:=k) (by first|omega|(simp only [Bool.and_eq_true,decide_eq_true_eq] at hc; omega)|(simp only [List.length_cons,List.length_nil]; omega))) ?_
  refine .nil (Wp.one 7 (by kernel_rfl) ?_)
  refine lA rfl .no dN (.u rfl) (fun _=>(hs2.at (by omega) ey).rd) (fun _=>Ent.len _) ?_
  refine .nil (Wp.one 8 (by kernel_rfl) ?_)
  refine nqC (B (x=y)) rfl .no aKE (.u rfl) (.u rfl) (fun _=>aAy hx1.1 hx1.2) (fun _=>aAy hy1.1 hy1.2) (fun _=>aM4) ?_
  refine .nil (Wp.last (by kernel_rfl) ?_)
  refine .code (cD rfl (fun c3=>?_) (fun c3=>?_))
  ·have c3k:=c3
   try simp only [aC,aD] at c3
   refine .seq (aM rfl rfl (aS rfl rfl (.nc (.ret (aP Tryz.results18 (.tmp rfl .nil) ?_)))))
   exact ⟨rfl,congrArg Value.bool (aQd ex ey (aJt (by simpa using c3k))).symm⟩
  have c3k:=c3
  try simp only [aC,aD] at c3
  refine .g (aW (((k+1):Nat):Int) rfl rfl rfl rfl ?_)
  refine .g (aZ (k+1) ?_ ?_ ?_ ?_ ?_)
  ·exact (aO rfl (aA rfl (aA rfl eZ)))
  ·exact mN
  ·first|omega|(dsimp only; omega)
  ·exact hGl0
  refine ⟨?_,?_⟩
  ·(try dsimp only)<;>(first|omega|rfl|assumption|(simp; done))
  (try dsimp only)<;>(exact aQe hn ex ey (aAG.1 (by simpa using c3k)))
 have c2k:=c2
 try simp only [aC,aD] at c2
 refine .exit (.xcode (.xlp (.xblk (.code (.seq (aM rfl rfl (aS rfl rfl (.nc (.ret (aP Tryz.results18 (.tmp rfl .nil) ?_))))))))))
 exact ⟨rfl,congrArg Value.bool (aQf (by omega) (by omega) hn).symm⟩
theorem aQx (G:PM) (hK:RdNP G 1 0 (wa 64 kW)):Ct Tryz.prog 6 ([]:List Value).toArray G [] (fun _ μ' u=>μ'=[]∧u=.bool true):=by
 refine Ct.of Tryz.func6 rfl Tryz.ntmps6 rfl fun w0 hs0=>?_
 refine .g (dU ([V 2#8,V 0#8,uv .u64 0#64,uv .u64 0#64,uv .u64 0#64]) rfl .no aSc (.cons (.u rfl) rfl .nil) rfl (rfl) ?_)
 refine al rfl rC ?_; intro b1
 refine sw rfl (.u rfl) (.u rfl) rfl mK .here rfl (lS rfl rfl rfl rfl rfl) ?_
 refine .g (dU (gS.cells) rfl .no aSf (.cons (.u rfl) rfl (.cons (.u rfl) rfl .nil)) rfl (rfl) ?_)
 refine b1f (cs:=gS.cells) rfl dZ vJ (.u rfl) rfl rfl (by decide) ?_; intro b20 G20 hG20 hb20; have hs20:=hb20.sl1 (sz:=4) (enc:=Ent.cells) (x:=gS) (cap:=1) (by decide)
 have hK:=hK.mono hG20
 refine .g (dU (ba 32 zF) rfl .no aAK .nil rfl (rfl) ?_)
 refine lA rfl .no fB (.u rfl) (fun _=>RdN.part (n:=5) (cs':=[V 2#8,V 0#8,uv .u64 0#64,uv .u64 0#64,uv .u64 0#64]) .here (rfl)) (fun _=>rfl) ?_
 refine dU ([.int .i64 1,.int .i64 1,.int .i64 10]) rfl .no aJ6 (.cons (.u rfl) rfl (.cons (.u rfl) rfl (.cons (.u rfl) rfl .nil))) rfl (rfl) (kc rfl aKs (aB rfl (aB rfl (aB rfl (aB rfl aE)))) (aI1 zF vZ [] ⟨none,0⟩ 1 1 10 _ SlR.nul ⟨by decide,by decide⟩ hK) ?_)
 rintro _ G25 μ25 hG25 ⟨h25,L25,m25,er25,hB25,rfl,rfl,hs25⟩
 have hK:=hK.mono hG25
 have hs20:=hs20.mono hG25
 refine .p (eX rfl rfl rfl (eX rfl rfl rfl (eX rfl rfl rfl ?_)))
 refine al rfl aE4 ?_; intro b4
 refine .p (sw rfl (.u rfl) (.u rfl) rfl aB8 .here rfl (Meta.one _) ?_)
 refine aS rfl rfl (.nil ?_)
 obtain rfl:=aQp hB25
 refine .g (dU (ba 32 zF) rfl .no aAK .nil rfl (rfl) ?_)
 refine lA rfl .no fB (.u rfl) (fun _=>RdN.part (n:=5) (cs':=[V 2#8,V 0#8,uv .u64 0#64,uv .u64 0#64,uv .u64 0#64]) aF (rfl)) (fun _=>rfl) ?_
 refine .p (dU ([.int .i64 1,.int .i64 1,.int .i64 10]) rfl .no aJ6 (.cons (.u rfl) rfl (.cons (.u rfl) rfl (.cons (.u rfl) rfl .nil))) rfl (rfl) (kc rfl aKs (aB rfl (aB rfl (aB rfl (aB rfl aE)))) (aI1 zF vZ [gS] ⟨some ⟨b20,0,none⟩,1⟩ 1 1 10 _ hs20 aIp hK) ?_))
 rintro _ G34 μ34 hG34 ⟨h34,L34,m34,er34,hB34,rfl,rfl,hs34⟩
 have hK:=hK.mono hG34
 have hs20:=hs20.mono hG34
 refine .p (eX rfl rfl rfl (eX rfl rfl rfl (eX rfl rfl rfl ?_)))
 refine al rfl aE4 ?_; intro b7
 refine .p (sw rfl (.u rfl) (.u rfl) rfl aB8 .here rfl (Meta.one _) ?_)
 refine aS rfl rfl (.nil ?_)
 obtain ⟨rfl,hw34,hl34,hT34⟩:=aQq hB34
 refine .g (dU (ba 32 zF) rfl .no aAK .nil rfl (rfl) ?_)
 refine lA rfl .no iU (.u rfl) (fun _=>RdN.part (n:=40) (cs':=m34.cells) .here (rfl)) (fun _=>(Meta.len _)) ?_
 refine .p (kv rfl .no aEq (aB rfl (aB rfl (aB rfl (aB rfl (aB rfl aE))))) (fun _=>aEA zF m34 L34 h34 uB 9#64 (some gS) _ hw34 hs34 hK (by omega) (by decide) (by rw [hT34]; exact congrArg some aQr)) ?_)
 refine .p (eX rfl rfl rfl (eX rfl rfl rfl (eX rfl rfl rfl ?_)))
 refine al rfl mJ ?_; intro b9
 refine sw rfl (.u rfl) (.u rfl) rfl fN .here rfl (Ent.one _) ?_
 refine .g (dU (ba 32 zF) rfl .no aAK .nil rfl (rfl) ?_)
 refine lA rfl .no iU (.u rfl) (fun _=>RdN.part (n:=40) (cs':=m34.cells) aF (rfl)) (fun _=>(Meta.len _)) ?_
 refine .p (kv rfl .no aEq (aB rfl (aB rfl (aB rfl (aB rfl (aB rfl aE))))) (fun _=>aEA zF m34 L34 h34 uB 4#64 none _ hw34 hs34 hK (by omega) (by decide) (by rw [hT34]; exact congrArg some aQs)) ?_)
 refine .p (eX rfl rfl rfl (eX rfl rfl rfl (eX rfl rfl rfl ?_)))
 refine al rfl mJ ?_; intro b12
 refine sw rfl (.u rfl) (.u rfl) rfl fN .here rfl (Ent.one _) ?_
 refine .g (dU (ba 32 zF) rfl .no aAK .nil rfl (rfl) ?_)
 refine lA rfl .no iU (.u rfl) (fun _=>RdN.part (n:=40) (cs':=m34.cells) aT (rfl)) (fun _=>(Meta.len _)) ?_
 refine .p (kv rfl .no aEq (aB rfl (aB rfl (aB rfl (aB rfl (aB rfl aE))))) (fun _=>aEA zF m34 L34 h34 bsB 9#64 none _ hw34 hs34 hK (by omega) (by decide) (by rw [hT34]; exact congrArg some aQt)) ?_)
 refine .p (eX rfl rfl rfl (eX rfl rfl rfl (eX rfl rfl rfl ?_)))
 refine al rfl mJ ?_; intro b15
 refine sw rfl (.u rfl) (.u rfl) rfl fN .here rfl (Ent.one _) ?_
 refine aS rfl rfl (aS rfl rfl (.nc (.seq (dP ⟨false,false⟩ aV (by kernel_rfl) ?_))))
 refine Wp.one 0 (by kernel_rfl) ?_
 refine mV rfl rfl (.nil (Wp.one 1 (by kernel_rfl) ?_))
 refine cP rfl rfl rfl rfl (.nil (Wp.one 2 (by kernel_rfl) ?_))
 refine mV rfl rfl (.nil (Wp.one 3 (by kernel_rfl) ?_))
 refine mv rfl (.t rfl rfl) (.u rfl) (.nil (Wp.one 4 (by kernel_rfl) ?_))
 refine cp rfl (.t rfl rfl) (.s rfl) (.u rfl) rfl (.nil (Wp.one 5 (by kernel_rfl) ?_))
 refine cC rfl .no (.u rfl) (.s rfl) (.nil (Wp.one 6 (by kernel_rfl) ?_))
 refine mV rfl rfl (.nil (Wp.one 7 (by kernel_rfl) ?_))
 refine mv rfl (.t rfl rfl) (.u rfl) (.nil (Wp.one 8 (by kernel_rfl) ?_))
 refine cC rfl .no (.u rfl) (.s rfl) (.nil (Wp.one 9 (by kernel_rfl) ?_))
 refine mV rfl rfl (.nil (Wp.one 10 (by kernel_rfl) ?_))
 refine lA rfl (.t rfl rfl) dN (.u rfl) (fun _=>RdN.part (n:=4) (cs':=gS.cells) aT (rfl)) (fun _=>rfl) ?_
 refine .nil (Wp.one 11 (by kernel_rfl) ?_)
 refine mv rfl (.t rfl rfl) (.u rfl) (.nil (Wp.one 12 (by kernel_rfl) ?_))
 refine ih rfl (.t rfl rfl) dZ (.s rfl) (.u rfl) (fun hc=>by omega) (fun hc=>by omega) (fun hc=>hs20.nn (k:=0) (by first|omega|(simp only [Bool.and_eq_true,decide_eq_true_eq] at hc; omega)|(simp only [List.length_cons,List.length_nil]; omega))) ?_
 refine .nil (Wp.one 13 (by kernel_rfl) ?_)
 refine lA rfl (.t rfl rfl) dN (.s rfl) (fun hc=>(hs20.at (k:=0) rfl rfl).rd) (fun _=>rfl) ?_
 refine .nil (Wp.one 14 (by kernel_rfl) ?_)
 refine eqC (true) rfl (.t rfl rfl) aKE (.s rfl) (.s rfl) (fun hc=>aAy (by decide) (by decide)) (fun hc=>aAy (by decide) (by decide)) (fun hc=>⟨fun _=>rfl,fun _=>rfl⟩) ?_
 refine .nil (Wp.one 15 (by kernel_rfl) ?_)
 refine cC rfl .no (.u rfl) (.s rfl) (.nil (Wp.one 16 (by kernel_rfl) ?_))
 refine mV rfl rfl (.nil (Wp.one 17 (by kernel_rfl) ?_))
 refine mv rfl (.t rfl rfl) (.u rfl) (.nil (Wp.one 18 (by kernel_rfl) ?_))
 refine nt rfl (.t rfl rfl) (.s rfl) (.nil (Wp.one 19 (by kernel_rfl) ?_))
 refine cC rfl .no (.u rfl) (.s rfl) (.nil (Wp.one 20 (by kernel_rfl) ?_))
 refine mV rfl rfl (.nil (Wp.one 21 (by kernel_rfl) ?_))
 refine mv rfl (.t rfl rfl) (.u rfl) (.nil (Wp.one 22 (by kernel_rfl) ?_))
 refine nt rfl (.t rfl rfl) (.s rfl) (.nil (Wp.one 23 (by kernel_rfl) ?_))
 refine cC rfl .no (.u rfl) (.s rfl) (.nil (Wp.one 24 (by kernel_rfl) ?_))
 refine mV rfl rfl (.nil (Wp.one 25 (by kernel_rfl) ?_))
 refine mv rfl (.t rfl rfl) (.u rfl) (.nil (Wp.one 26 (by kernel_rfl) ?_))
 refine cp rfl (.t rfl rfl) (.s rfl) (.u rfl) rfl (.nil (Wp.one 27 (by kernel_rfl) ?_))
 refine cC rfl .no (.u rfl) (.s rfl) (.nil (Wp.one 28 (by kernel_rfl) ?_))
 refine mV rfl rfl (.nil (Wp.one 29 (by kernel_rfl) ?_))
 refine mv rfl (.t rfl rfl) (.u rfl) (.nil (Wp.one 30 (by kernel_rfl) ?_))
 refine cp rfl (.t rfl rfl) (.s rfl) (.u rfl) rfl (.nil (Wp.one 31 (by kernel_rfl) ?_))
 refine cC rfl .no (.u rfl) (.s rfl) (.nil (Wp.one 32 (by kernel_rfl) ?_))
 refine mV rfl rfl (.nil (Wp.one 33 (by kernel_rfl) ?_))
 refine mv rfl (.t rfl rfl) (.u rfl) (.nil (Wp.one 34 (by kernel_rfl) ?_))
 refine cp rfl (.t rfl rfl) (.s rfl) (.u rfl) rfl (.nil (Wp.one 35 (by kernel_rfl) ?_))
 refine cC rfl .no (.u rfl) (.s rfl) (.nil (Wp.one 36 (by kernel_rfl) ?_))
 refine aS rfl rfl (.nil (Wp.last (by kernel_rfl) ?_))
 refine .code (.ret (aP Tryz.results6 (.tmp rfl .nil) ?_))
 exact ⟨rfl,rfl⟩
theorem oT:cK Tryz.prog 155 2=some 2:=by kernel_rfl
theorem fC:cK Tryz.prog 155 1=some 1:=by kernel_rfl
theorem mL:cK Tryz.prog 155 0=some 0:=by kernel_rfl
theorem aTc:aQ Tryz.prog 82=true:=by kernel_rfl
theorem tL:aQ Tryz.prog 43=true:=by kernel_rfl
theorem xL:aQ Tryz.prog 129=true:=by kernel_rfl
theorem qV:aQ Tryz.prog 106=true:=by kernel_rfl
theorem aPX (n:BitVec 64) (G:PM):Ct Tryz.prog 82 ([uv .u64 n]:List Value).toArray G [] (fun _ μ' u=>μ'=[]∧u=.int .i64 ((bL n.toNat).length:Int)):=by
 refine Ct.of Tryz.func82 rfl Tryz.ntmps82 rfl fun w0 hs0=>?_
 have ln:=jA n.isLt
 refine .seq (aM rfl rfl (aS rfl rfl (.nc (.seq (aM rfl rfl (aS rfl rfl (.nc (.seq (.block ?_)))))))))
 refine bE (α:=Nat×BitVec 64) (fun gh=>[(0,true,uv .u64 gh.2),(3,true,.int .i64 (gh.1:Int))]) (fun _=>[])
  (fun gh Gl=>(gh.1+(bL gh.2.toNat).length=1+(bL n.toNat).length)) (fun gh=>gh.2.toNat) (1,n) [] []
  (aA rfl (aO rfl eZ))
  mN ?_ ?_
 ·(try dsimp only)<;>(rfl)
 intro gh N0 Gl0 hN0 hGl0 hF0
 obtain ⟨k,m⟩:=gh; dsimp only at hF0 hN0 ⊢
 have e:=hF0
 have tq:@BitVec.toNat IntKind.u64.bits m=m.toNat:=rfl
 have lp:=uL m.toNat
 refine .g (cP rfl rfl rfl rfl (.g (cD rfl (fun c1=>?_) (fun c1=>?_))))
 ·have c1k:=c1
  try simp only [aC,aI,aD] at c1
  refine .g (dw (k:=.u64) (b:=128#64) rfl .no rfl (.u rfl) (.u rfl) (fun _=>show (128#64:BitVec 64)≠0#64 by decide) ?_)
  refine .g (aW (((k+1):Nat):Int) rfl rfl rfl rfl ?_)
  refine .g (aZ (k+1,m / 128#64) ?_ ?_ ?_ ?_ ?_)
  ·exact (aA rfl (aO rfl eZ))
  ·exact mN
  ·(dsimp only; rw [aGI]; omega)
  ·exact hGl0
  (try dsimp only)<;>(exact aNW e (by omega))
 have c1k:=c1
 try simp only [aC,aI,aD] at c1
 refine .exit (.xcode (.xlp (.xblk (.code (.seq (bD rfl rfl (mV rfl rfl (aS rfl rfl (.nc (.ret (aP Tryz.results82 (.tmp rfl .nil) ?_)))))))))))
 obtain rfl:=aNV e (by omega)
 exact ⟨rfl,rfl⟩
theorem sV (n:BitVec 64) (G:PM):Ct Tryz.prog 43 ([uv .u64 n]:List Value).toArray G [] (PR 5 (fun L=>L=bL n.toNat)):=by
 refine Ct.of Tryz.func43 rfl Tryz.ntmps43 rfl fun w0 hs0=>?_
 have ln:=jA n.isLt
 refine .seq (aM rfl rfl (aS rfl rfl (.nc (.seq (aM rfl rfl (aS rfl rfl (.nc (.seq (tD 5 ?_)))))))))
 refine .g (kV rfl aTc (aB rfl aE) (aPX n _) ?_)
 refine aS rfl rfl (.nc (.seq (.seq (aM rfl rfl (aS rfl rfl (.nc (.block ?_)))))))
 refine bE (α:=Nat×Value×List Y×BitVec 64) (fun gh=>[(0,true,uv .u64 gh.2.2.2),(3,true,gh.2.1),(5,true,.int .i64 (gh.1:Int))]) (fun gh=>[rB gh.2.1 5 gh.2.2.1])
  (fun gh Gl=>(gh.1≤(bL n.toNat).length)∧(gh.2.2.1=(bL n.toNat).take gh.1)∧(gh.2.2.2.toNat=n.toNat / 128^gh.1)) (fun gh=>(bL n.toNat).length-gh.1) (0,.slice none 0 0,[],n) [(4,true,_)] []
  (aA rfl (aA rfl (aO rfl (aA rfl eZ))))
  (mS .here rfl mN) ?_ ?_
 ·refine ⟨?_,?_,?_⟩
  ·(try dsimp only)<;>(first|omega|rfl|assumption|(simp; done))
  ·(try dsimp only)<;>(rfl)
  (try dsimp only)<;>(rw [Nat.pow_zero,Nat.div_one])
 intro gh N0 Gl0 hN0 hGl0 hF0
 obtain ⟨k,v,L,m⟩:=gh; dsimp only at hF0 hN0 ⊢
 obtain ⟨hk,eL,em⟩:=hF0
 have lL:L.length=k:=by rw [eL,List.length_take]; omega
 refine .g (cP rfl rfl rfl rfl (.g (cD rfl (fun c1=>?_) (fun c1=>?_))))
 ·have c1k:=c1
  try simp only [aC,aI,aD] at c1
  refine .g (mw (k:=.u64) (b:=128#64) rfl .no (.u rfl) (.u rfl) (fun _=>show (128#64:BitVec 64)≠0#64 by decide) ?_)
  refine cu (k:=.u64) rfl .no rfl kU (.u rfl) ?_
  refine .g (aW (((k+1):Nat):Int) rfl rfl rfl rfl ?_)
  refine .p (cP rfl rfl rfl rfl (.g (cD rfl (fun c2=>?_) (fun c2=>?_))))
  ·have c2k:=c2
   try simp only [aC,aI,aD] at c2
   refine .g (bw (k:=.u8) (b:=128#8) rfl .no rfl (.u rfl) (.u rfl) rfl (aS rfl rfl (.nc (.seq (oK rfl rfl (mV rfl rfl (mV rfl rfl ?_)))))))
   refine Go.Tan.b1 rfl aH aY (.u rfl) rfl rfl (by decide) ?_; intro b25
   refine cF rfl aH aY (.u rfl) (.u rfl) aF (Sc.one .here) (by show _+1≤_; omega) ?_
   intro v26 L26 ov26 eL26
   have lL26:L26.length=L.length+1:=by rw [eL26,List.length_append]; first|rfl | simp [bB]
   refine .g (dw (k:=.u64) (b:=128#64) rfl .no rfl (.u rfl) (.u rfl) (fun _=>show (128#64:BitVec 64)≠0#64 by decide) ?_)
   refine .g (aW (((k+1):Nat):Int) rfl rfl rfl rfl ?_)
   refine .g (aZ (k+1,v26,L26,m / 128#64) ?_ ?_ ?_ ?_ ?_)
   ·exact (aA rfl (aA rfl (aO rfl (aA rfl eZ))))
   ·exact (mS .here rfl mN)
   ·first|omega|(dsimp only; omega)
   ·exact hGl0
   refine ⟨?_,?_,?_⟩
   ·(try dsimp only)<;>(first|omega|rfl|assumption|(simp; done))
   ·(try dsimp only)<;>(rw [eL26]; exact aOU eL em (by omega))
   (try dsimp only)<;>(exact aGJ em)
  have c2k:=c2
  try simp only [aC,aI,aD] at c2
  refine .skip (.code (.seq (oK rfl rfl (mV rfl rfl (mV rfl rfl ?_)))))
  refine Go.Tan.b1 rfl aH aY (.u rfl) rfl rfl (by decide) ?_; intro b25
  refine cF rfl aH aY (.u rfl) (.u rfl) aF (Sc.one .here) (by show _+1≤_; omega) ?_
  intro v26 L26 ov26 eL26
  have lL26:L26.length=L.length+1:=by rw [eL26,List.length_append]; first|rfl | simp [bB]
  refine .g (dw (k:=.u64) (b:=128#64) rfl .no rfl (.u rfl) (.u rfl) (fun _=>show (128#64:BitVec 64)≠0#64 by decide) ?_)
  refine .g (aW (((k+1):Nat):Int) rfl rfl rfl rfl ?_)
  refine .g (aZ (k+1,v26,L26,m / 128#64) ?_ ?_ ?_ ?_ ?_)
  ·exact (aA rfl (aA rfl (aO rfl (aA rfl eZ))))
  ·exact (mS .here rfl mN)
  ·first|omega|(dsimp only; omega)
  ·exact hGl0
  refine ⟨?_,?_,?_⟩
  ·(try dsimp only)<;>(first|omega|rfl|assumption|(simp; done))
  ·(try dsimp only)<;>(rw [eL26]; exact aOV eL em (by omega) (by omega))
  (try dsimp only)<;>(exact aGJ em)
 have c1k:=c1
 try simp only [aC,aI,aD] at c1
 refine .exit (.xcode (.xlp (.xblk (.code (.seq (bD rfl rfl (mV rfl rfl (aS rfl rfl (.nc (.ret (We.fin Tryz.results43 (.tmp rfl .nil) (mS .here rfl mN) ?_)))))))))))
 obtain rfl:k=(bL n.toNat).length:=by omega
 exact ⟨L,by rw [eL,List.take_length],rfl⟩
theorem vV (v1 v2 v3:Value) (e':Int) (b:Nat) (G:PM):Ct Tryz.prog 129 ([.pointer (some ⟨b,0,none⟩),.int .i64 e']:List Value).toArray G [.blk b (cl [v1,v2,v3] 155)] (fun _ μ' u=>μ'=[.blk b (cl [v1,v2,.int .i64 e'] 155)]∧u=.tuple #[]):=by
 refine Ct.of Tryz.func129 rfl Tryz.ntmps129 rfl fun w0 hs0=>?_
 refine .g (nC rfl rfl (fZ rfl oT rfl (s1 rfl (.u rfl) (.u rfl) rfl oS .here (show 2<3 by decide) (rfl) ?_)))
 refine .g (We.fin Tryz.results129 .nil (mS .here rfl mN) ?_)
 exact ⟨rfl,rfl⟩
set_option maxHeartbeats 1000000 in
theorem qF (B:List Y) (I:Nat) (e:Int) (s:Sh) (b:Nat) (G:PM) (hs:SlR G 1 aL s B) (hI:I≤B.length) (hl:B.length≤100000000000000):Ct Tryz.prog 106 ([.pointer (some ⟨b,0,none⟩)]:List Value).toArray G [.blk b (cl [Sh.val s B.length,.int .i64 (I:Int),.int .i64 e] 155)] (fun G' μ' u=>∃ n I' e',cR ⟨B.drop I,e⟩=(n,⟨B.drop I',e'⟩)∧I'≤B.length∧μ'=[.blk b (cl [Sh.val s B.length,.int .i64 (I':Int),.int .i64 e'] 155)]∧u=.int .u64 (n:Int)):=by
 refine Ct.of Tryz.func106 rfl Tryz.ntmps106 rfl fun w0 hs0=>?_
 refine .g (nC rfl rfl (fZ rfl oT rfl (lO rfl gD rfl .here (by first|exact aJ rfl|rfl) ?_)))
 refine cP rfl rfl rfl rfl (.g (cD rfl (fun c1=>?_) (fun c1=>?_)))
 ·have c1k:=c1
  try simp only [aC,aI,aD] at c1
  refine .seq (aM rfl rfl (aS rfl rfl (.nc (.ret (We.fin Tryz.results106 (.tmp rfl .nil) (mS .here rfl mN) ?_)))))
  exact ⟨0,I,e,aH9 (by simpa using c1k),hI,rfl,rfl⟩
 have c1k:=c1
 try simp only [aC,aI,aD] at c1
 refine .skip (.code (.seq (aM rfl rfl (aS rfl rfl (.nc (.seq (.block ?_)))))))
 refine bE (α:=Nat) (fun k=>[(3,true,.int .i64 (k:Int))]) (fun _=>[])
  (fun k Gl=>(I+k≤B.length)∧(k≤10)∧(Lead B I k)) (fun k=>B.length-k) 0 [(0,true,_)] [_]
  (aO rfl (aA rfl eZ))
  (mS .here rfl mN) ?_ ?_
 ·refine ⟨?_,?_,?_⟩
  ·(try dsimp only)<;>(first|omega|rfl|assumption|(simp; done))
  ·(try dsimp only)<;>(first|omega|rfl|assumption|(simp; done))
  (try dsimp only)<;>(exact Lead.zero)
 intro k N0 Gl0 hN0 hGl0 hF0
 try dsimp only at hF0 hN0 ⊢
 obtain ⟨hk,h10,hld⟩:=hF0
 have hs:=hs.mono hGl0
 have tq:@BitVec.toNat IntKind.u8.bits (B.getD (I+k) 0)=(B.getD (I+k) 0).toNat:=rfl
 refine .g (bG (mc:=⟨false,false⟩) [0,1,2,3,4,5,6,7,8,9,10,11,12,13,14,15,16,17,18,19,20,21,22,23,24,25,26,27,28,29,30] aV (by kernel_rfl) ?_)
 refine .p (nC rfl rfl (fZ rfl fC rfl (lO rfl dA rfl .here (by first|exact aJ rfl|rfl) ?_)))
 refine .p (aW (((I+k):Nat):Int) rfl rfl rfl rfl ?_)
 refine .p (nC rfl rfl (fZ rfl mL rfl (lO rfl bV rfl .here (by first|exact aJ rfl|rfl) ?_)))
 refine lE rfl bK rfl (cP rfl rfl rfl rfl (mV rfl rfl (mv rfl (.t rfl rfl) (.u rfl) (cp rfl (.t rfl rfl) (.s rfl) (.u rfl) rfl (cC rfl .no (.u rfl) (.s rfl) (mV rfl rfl (mv rfl (.t rfl rfl) (.u rfl) (nc rfl (.t rfl rfl) (.s rfl) (fz rfl (.t rfl rfl) mL (.s rfl) (ld rfl (.t rfl rfl) bV (.s rfl) (fun hc=>Rd.own .here (by first|exact aJ rfl|rfl)) ?_))))))))))
 refine mv rfl (.t rfl rfl) (.u rfl) (nc rfl (.t rfl rfl) (.s rfl) (fz rfl (.t rfl rfl) fC (.s rfl) (ld rfl (.t rfl rfl) dA (.s rfl) (fun hc=>Rd.own .here (by first|exact aJ rfl|rfl)) ?_)))
 refine mv rfl (.t rfl rfl) (.u rfl) (dR (((I+k):Nat):Int) rfl (.t rfl rfl) (.s rfl) (.s rfl) rfl (fun hc=>by (try simp only [Bool.and_eq_true,decide_eq_true_eq] at hc); omega) (fun hc=>cB (by (try simp only [Bool.and_eq_true,decide_eq_true_eq] at hc); omega) (by (try simp only [Bool.and_eq_true,decide_eq_true_eq] at hc); omega)) ?_)
 refine ih rfl (.t rfl rfl) aH (.s rfl) (.s rfl) (fun hc=>by (try simp only [Bool.and_eq_true,decide_eq_true_eq] at hc); omega) (fun hc=>by (try simp only [Bool.and_eq_true,decide_eq_true_eq] at hc); omega) (fun hc=>hs.nn (k:=(I+k)) (by (try simp only [Bool.and_eq_true,decide_eq_true_eq] at hc); omega)) ?_
 refine ld rfl (.t rfl rfl) cA (.s rfl) (fun hc=>(hs.yat ((I+k)) (by (try simp only [Bool.and_eq_true,decide_eq_true_eq] at hc); omega) (by (try simp only [Bool.and_eq_true,decide_eq_true_eq] at hc); omega)).rd) ?_
 refine cp rfl (.t rfl rfl) (.s rfl) (.u rfl) rfl (cC rfl .no (.u rfl) (.s rfl) (.g (cD rfl (fun c2=>?_) (fun c2=>?_))))
 ·have c2k:=c2
  try simp only [aC,aI,aD] at c2
  refine .g (aW (((k+1):Nat):Int) rfl rfl rfl rfl ?_)
  refine .g (aZ (k+1) ?_ ?_ ?_ ?_ ?_)
  ·exact (aO rfl (aA rfl eZ))
  ·exact (mS .here rfl mN)
  ·first|omega|(dsimp only; omega)
  ·exact hGl0
  refine ⟨?_,?_,?_⟩
  ·(try dsimp only)<;>(first|omega|rfl|assumption|(simp; done))
  ·(try dsimp only)<;>(first|omega|rfl|assumption|(simp; done))
  (try dsimp only)<;>(exact hld.succ (by omega))
 have c2k:=c2
 try simp only [aC,aI,aD] at c2
 refine .g (cP rfl rfl rfl rfl (.g (cD rfl (fun c3=>?_) (fun c3=>?_))))
 ·have c3k:=c3
  try simp only [aC,aI,aD] at c3
  refine .g (ka rfl (.inr rfl) xL (aB rfl (aB rfl aE)) (bQ .here) (vV _ _ _ 11 _ _) ?_)
  rintro _ G48 μ48 hG48 ⟨rfl,rfl⟩
  have hs:=hs.mono hG48
  refine .nil (.code (.seq (aM rfl rfl (aS rfl rfl (.nc (.ret (We.fin Tryz.results106 (.tmp rfl .nil) (mS .here rfl mN) ?_)))))))
  exact ⟨0,I,11,aDp (by simpa using c1k) (aPz hld (by omega) hk),hI,rfl,rfl⟩
 have c3k:=c3
 try simp only [aC,aI,aD] at c3
 refine .g (bG (mc:=⟨false,false⟩) [0,1,2,3,4,5,6,7,8,9,10,11] aV (by kernel_rfl) ?_)
 refine .p (nC rfl rfl (fZ rfl fC rfl (lO rfl dA rfl .here (by first|exact aJ rfl|rfl) ?_)))
 refine .p (aW (((I+k):Nat):Int) rfl rfl rfl rfl ?_)
 refine .p (nC rfl rfl (fZ rfl mL rfl (lO rfl bV rfl .here (by first|exact aJ rfl|rfl) ?_)))
 refine lE rfl bK rfl (cP rfl rfl rfl rfl (.g (cD rfl (fun c4=>?_) (fun c4=>?_))))
 ·have c4k:=c4
  try simp only [aC,aI,aD] at c4
  refine .g (ka rfl (.inr rfl) xL (aB rfl (aB rfl aE)) (bQ .here) (vV _ _ _ 10 _ _) ?_)
  rintro _ G62 μ62 hG62 ⟨rfl,rfl⟩
  have hs:=hs.mono hG62
  refine .nil (.code (.seq (aM rfl rfl (aS rfl rfl (.nc (.ret (We.fin Tryz.results106 (.tmp rfl .nil) (mS .here rfl mN) ?_)))))))
  exact ⟨0,I,10,aDp (by simpa using c1k) (aP2 hld (by omega) hk (by omega)),hI,rfl,rfl⟩
 have c4k:=c4
 try simp only [aC,aI,aD] at c4
 refine .g (bG (mc:=⟨false,false⟩) [0,1,2,3,4,5,6,7,8,9,10,11,12] aV (by kernel_rfl) ?_)
 refine .p (nC rfl rfl (fZ rfl mL rfl (lO rfl bV rfl .here (by first|exact aJ rfl|rfl) ?_)))
 refine .p (nC rfl rfl (fZ rfl fC rfl (lO rfl dA rfl .here (by first|exact aJ rfl|rfl) ?_)))
 refine .p (aW (((I+k):Nat):Int) rfl rfl rfl rfl ?_)
 refine ih rfl .no aH (.u rfl) (.u rfl) (by omega) (by omega) (fun _=>hs.nn (k:=(I+k)) (by omega)) ?_
 refine lN rfl cA rfl ((hs.yat ((I+k)) (by omega) (by omega)).rd) ?_
 refine .g (cP rfl rfl rfl rfl (mV rfl rfl (mv rfl (.t rfl rfl) (.u rfl) (cp rfl (.t rfl rfl) (.s rfl) (.u rfl) rfl (cC rfl .no (.u rfl) (.s rfl) (mV rfl rfl (mv rfl (.f rfl rfl) (.u rfl) (cp rfl (.f rfl rfl) (.s rfl) (.u rfl) rfl (mv rfl (.f rfl rfl) (.s rfl) (mv rfl (.tc rfl rfl) (.u rfl) (cp rfl (.tc rfl rfl) (.s rfl) (.u rfl) rfl (cC rfl (.f rfl rfl) (.s rfl) (.s rfl) (cL rfl .no (.u rfl) (.s rfl) (.g (cD rfl (fun c5=>?_) (fun c5=>?_))))))))))))))))
 ·have c5k:=c5
  try simp only [aC,aI,aD] at c5
  refine .g (ka rfl (.inr rfl) xL (aB rfl (aB rfl aE)) (bQ .here) (vV _ _ _ 11 _ _) ?_)
  rintro _ G90 μ90 hG90 ⟨rfl,rfl⟩
  have hs:=hs.mono hG90
  refine .nil (.code (.seq (aM rfl rfl (aS rfl rfl (.nc (.ret (We.fin Tryz.results106 (.tmp rfl .nil) (mS .here rfl mN) ?_)))))))
  exact ⟨0,I,11,aDp (by simpa using c1k) (aP0 hld (by omega) (by omega) (by omega) (by omega)),hI,rfl,rfl⟩
 have c5k:=c5
 try simp only [aC,aI,aD] at c5
 refine .g (cu (k:=.u8) rfl .no rfl sA (.u rfl) ?_)
 refine .g (aR rfl rfl rfl rfl ?_)
 refine aS rfl rfl (.nc (.block ?_))
 have rk:=aP1 hld (by omega) (by omega) (by omega) (by omega) (by omega)
 have rl:=(NumR.of rk).lt
 refine bE (α:=Nat×BitVec 64) (fun gh=>[(5,true,uv .u64 gh.2),(6,true,.int .i64 ((gh.1:Int)-1))]) (fun _=>[])
  (fun gh Gl=>(gh.1≤k)∧(gh.2.toNat*128^gh.1+nE B I gh.1=nE B I k+(B.getD (I+k) 0).toNat*128^k)) (fun gh=>gh.1) (k,(B.getD (I+k) 0).setWidth 64) [(0,true,_),(3,true,_)] [_]
  (aA rfl (aO rfl (aA rfl (aA rfl eZ))))
  (mS .here rfl mN) ?_ ?_
 ·refine ⟨?_,?_⟩
  ·(try dsimp only)<;>(first|omega|rfl|assumption|(simp; done))
  (try dsimp only)<;>(exact aLq rfl)
 intro gh N1 Gl1 hN1 hGl1 hF1
 obtain ⟨i,w⟩:=gh; dsimp only at hF1 hN1 ⊢
 obtain ⟨hi,ew⟩:=hF1
 have hs:=hs.mono hGl1
 refine .g (cP rfl rfl rfl rfl (.g (cD rfl (fun c6=>?_) (fun c6=>?_))))
 ·have c6k:=c6
  try simp only [aC,aI,aD] at c6
  refine .g (bG (mc:=⟨false,false⟩) [0,1,2,3,4,5,6,7,8,9,10,11,12,13,14,15,16,17] aV (by kernel_rfl) ?_)
  refine .p (bw (k:=.u64) (b:=128#64) rfl .no rfl (.u rfl) (.u rfl) rfl (.p (nC rfl rfl (fZ rfl mL rfl (lO rfl bV rfl .here (by first|exact aJ rfl|rfl) ?_)))))
  refine .p (nC rfl rfl (fZ rfl fC rfl (lO rfl dA rfl .here (by first|exact aJ rfl|rfl) ?_)))
  refine .p (dR (((I+(i-1)):Nat):Int) rfl .no (.u rfl) (.u rfl) rfl (by omega) (fun _=>cB (by omega) (by omega)) ?_)
  refine ih rfl .no aH (.u rfl) (.u rfl) (by omega) (by omega) (fun _=>hs.nn (k:=(I+(i-1))) (by omega)) ?_
  refine ld rfl .no cA (.u rfl) (fun _=>(hs.yat ((I+(i-1))) (by omega) (by omega)).rd) ?_
  refine bw (k:=.u8) (b:=128#8) rfl .no rfl (.u rfl) (.u rfl) rfl (cu (k:=.u8) rfl .no rfl sA (.u rfl) ?_)
  refine bw (k:=.u64) rfl .no rfl (.u rfl) (.u rfl) rfl (.g (aR rfl rfl rfl rfl ?_))
  refine .g (aZ (i-1,w*128#64+((B.getD (I+(i-1)) 0)-128#8).setWidth 64) ?_ ?_ ?_ ?_ ?_)
  ·exact (aA rfl (aO rfl (aA rfl (aA rfl eZ))))
  ·exact (mS .here rfl mN)
  ·(dsimp only; omega)
  ·exact hGl1
  refine ⟨?_,?_⟩
  ·(try dsimp only)<;>(first|omega|rfl|assumption|(simp; done))
  (try dsimp only)<;>((obtain ⟨j,rfl⟩ : ∃ j,i=j+1:=⟨i-1,by omega⟩); exact aLr ew rl (hld j (by omega)))
 have c6k:=c6
 try simp only [aC,aI,aD] at c6
 refine .g (nC rfl rfl (fZ rfl fC rfl (lO rfl dA rfl .here (by first|exact aJ rfl|rfl) ?_)))
 refine .p (aW (((I+k):Nat):Int) rfl rfl rfl rfl ?_)
 refine dR ((((I+k)+1):Nat):Int) rfl .no (.u rfl) (.u rfl) rfl (by omega) (fun _=>cB (by omega) (by omega)) ?_
 refine nC rfl rfl (fZ rfl fC rfl (s1 rfl (.u rfl) (.u rfl) rfl qZ .here (show 1<3 by decide) (rfl) ?_))
 refine .nil (.code (.seq (bD rfl rfl (mV rfl rfl (aS rfl rfl (.nc (.ret (We.fin Tryz.results106 (.tmp rfl .nil) (mS .here rfl mN) ?_))))))))
 obtain rfl:i=0:=by omega
 obtain rfl:e=0:=by simpa using c1k
 exact ⟨w.toNat,I+k+1,0,aP7 rfl rk (aLp ew),by omega,rfl,rfl⟩
set_option maxHeartbeats 1000000 in
theorem aHo (B:List Y) (I:Nat) (e:Int) (s:Sh) (b:Nat) (G:PM) (hs:SlR G 1 aL s B) (hI:I≤B.length) (hl:B.length≤100000000000000) (most:Nat) (hm:most≤100000000000000):Ct Tryz.prog 131 ([.pointer (some ⟨b,0,none⟩),.int .i64 (most:Int)]:List Value).toArray G [.blk b (cl [Sh.val s B.length,.int .i64 (I:Int),.int .i64 e] 155)] (fun G' μ' u=>∃ M I' e',iB most ⟨B.drop I,e⟩=(M,⟨B.drop I',e'⟩)∧I'≤B.length∧μ'=[.blk b (cl [Sh.val s B.length,.int .i64 (I':Int),.int .i64 e'] 155)]∧u=.string (aN M)):=by
 refine Ct.of Tryz.func131 rfl Tryz.ntmps131 rfl fun w0 hs0=>?_
 refine .g (nC rfl rfl (fZ rfl oT rfl (lO rfl gD rfl .here (by first|exact aJ rfl|rfl) ?_)))
 refine cP rfl rfl rfl rfl (.g (cD rfl (fun c1=>?_) (fun c1=>?_)))
 ·have c1k:=c1
  try simp only [aC,aI,aD] at c1
  refine .seq (aM rfl rfl (aS rfl rfl (.nc (.ret (We.fin Tryz.results131 (.tmp rfl .nil) (mS .here rfl mN) ?_)))))
  exact ⟨[],I,e,aIA (by simpa using c1k),hI,rfl,rfl⟩
 have c1k:=c1
 try simp only [aC,aI,aD] at c1
 refine .g (nC rfl rfl (fZ rfl fC rfl (lO rfl dA rfl .here (by first|exact aJ rfl|rfl) ?_)))
 refine .g (ka rfl (.inr rfl) qV (aB rfl aE) (bQ .here) (qF B I e s b _ hs hI hl) ?_)
 rintro _ G18 μ18 hG18 ⟨n18,I',e',hN,hI',rfl,rfl⟩
 have hNt:=iN hN
 have hs:=hs.mono hG18
 refine .g (nC rfl rfl (fZ rfl oT rfl (lO rfl gD rfl .here (by first|exact aJ rfl|rfl) ?_)))
 refine cP rfl rfl rfl rfl (.g (cD rfl (fun c2=>?_) (fun c2=>?_)))
 ·have c2k:=c2
  try simp only [aC,aI,aD] at c2
  refine .seq (aM rfl rfl (aS rfl rfl (.nc (.ret (We.fin Tryz.results131 (.tmp rfl .nil) (mS .here rfl mN) ?_)))))
  exact ⟨[],I',e',aPF (by simpa using c1k) hN (by simpa using c2k),hI',rfl,rfl⟩
 have c2k:=c2
 try simp only [aC,aI,aD] at c2
 refine .g (cP rfl rfl rfl rfl (.g (cD rfl (fun c3=>?_) (fun c3=>?_))))
 ·have c3k:=c3
  try simp only [aC,aD] at c3
  exfalso; omega
 have c3k:=c3
 try simp only [aC,aI,aD] at c3
 refine .g (cw rfl .no cW (.u rfl) (fun _=>eY (by omega) (by omega)) ?_)
 refine cP rfl rfl rfl rfl (.g (cD rfl (fun c4=>?_) (fun c4=>?_)))
 ·have c4k:=c4
  try simp only [aC,aI,aD] at c4
  refine .g (ka rfl (.inr rfl) xL (aB rfl (aB rfl aE)) (bQ .here) (vV _ _ _ 4 _ _) ?_)
  rintro _ G31 μ31 hG31 ⟨rfl,rfl⟩
  have hs:=hs.mono hG31
  refine .g (nC rfl rfl (fZ rfl fC rfl (s1 rfl (.u rfl) (.u rfl) rfl qZ .here (show 1<3 by decide) (rfl) ?_)))
  refine .nil (.code (.seq (aM rfl rfl (aS rfl rfl (.nc (.ret (We.fin Tryz.results131 (.tmp rfl .nil) (mS .here rfl mN) ?_)))))))
  exact ⟨[],I,4,aPG (by simpa using c1k) hN (by simpa using c2k) (by omega),hI,rfl,rfl⟩
 have c4k:=c4
 try simp only [aC,aI,aD] at c4
 refine .g (bG (mc:=⟨false,false⟩) [0,1,2,3,4,5,6,7,8,9,10,11,12] aV (by kernel_rfl) ?_)
 refine .p (nC rfl rfl (fZ rfl mL rfl (lO rfl bV rfl .here (by first|exact aJ rfl|rfl) ?_)))
 refine lE rfl bK rfl (.p (nC rfl rfl (fZ rfl fC rfl (lO rfl dA rfl .here (by first|exact aJ rfl|rfl) ?_))))
 refine aR rfl rfl rfl rfl ?_
 refine cw rfl .no cW (.u rfl) (fun _=>eY (by omega) (by omega)) ?_
 refine cP rfl rfl rfl rfl (.g (cD rfl (fun c5=>?_) (fun c5=>?_)))
 ·have c5k:=c5
  try simp only [aC,aI,aD] at c5
  refine .g (ka rfl (.inr rfl) xL (aB rfl (aB rfl aE)) (bQ .here) (vV _ _ _ 10 _ _) ?_)
  rintro _ G50 μ50 hG50 ⟨rfl,rfl⟩
  have hs:=hs.mono hG50
  refine .g (nC rfl rfl (fZ rfl fC rfl (s1 rfl (.u rfl) (.u rfl) rfl qZ .here (show 1<3 by decide) (rfl) ?_)))
  refine .nil (.code (.seq (aM rfl rfl (aS rfl rfl (.nc (.ret (We.fin Tryz.results131 (.tmp rfl .nil) (mS .here rfl mN) ?_)))))))
  exact ⟨[],I,10,aPI (by simpa using c1k) hN (by simpa using c2k) hI' (by omega) (by omega),hI,rfl,rfl⟩
 have c5k:=c5
 try simp only [aC,aI,aD] at c5
 refine .g (bG (mc:=⟨false,false⟩) [0,1,2,3,4,5,6,7,8,9,10,11,12,13,14,15,16,17] aV (by kernel_rfl) ?_)
 refine .p (nC rfl rfl (fZ rfl mL rfl (lO rfl bV rfl .here (by first|exact aJ rfl|rfl) ?_)))
 refine .p (nC rfl rfl (fZ rfl fC rfl (lO rfl dA rfl .here (by first|exact aJ rfl|rfl) ?_)))
 refine .p (nC rfl rfl (fZ rfl fC rfl (lO rfl dA rfl .here (by first|exact aJ rfl|rfl) ?_)))
 refine .p (cw rfl .no jF (.u rfl) (fun _=>cB (by omega) (by omega)) ?_)
 refine aW (((I'+n18):Nat):Int) rfl rfl rfl rfl ?_
 refine kS (I') ((I'+n18)) rfl .no aH hs (.u rfl) (.u rfl) (.u rfl) (by omega) (by omega) (by omega) (by omega) ?_
 intro h70 L70 eL70 lL70 hs70
 have lL70:=lL70 rfl
 refine sB rfl .no jX (.u rfl) (fun _=>hs70.sc) ?_
 refine .g (nC rfl rfl (fZ rfl fC rfl (lO rfl dA rfl .here (by first|exact aJ rfl|rfl) ?_)))
 refine .p (cw rfl .no jF (.u rfl) (fun _=>cB (by omega) (by omega)) ?_)
 refine aW (((I'+n18):Nat):Int) rfl rfl rfl rfl ?_
 refine nC rfl rfl (fZ rfl fC rfl (s1 rfl (.u rfl) (.u rfl) rfl qZ .here (show 1<3 by decide) (rfl) ?_))
 refine .nil (.code (.seq (bD rfl rfl (mV rfl rfl (aS rfl rfl (.nc (.ret (We.fin Tryz.results131 (.tmp rfl .nil) (mS .here rfl mN) ?_))))))))
 obtain rfl:e=0:=by simpa using c1k
 obtain rfl:e'=0:=by simpa using c2k
 exact ⟨L70,I'+n18,0,aPH hN hI' (by omega) (by omega) eL70,by omega,rfl,rfl⟩
theorem aPD (B:List Y) (I:Nat) (e:Int) (s:Sh) (b:Nat) (G:PM) (hs:SlR G 1 aL s B) (hI:I≤B.length) (hl:B.length≤100000000000000):Ct Tryz.prog 103 ([.pointer (some ⟨b,0,none⟩),.int .i64 ((1:Nat):Int)]:List Value).toArray G [.blk b (cl [Sh.val s B.length,.int .i64 (I:Int),.int .i64 e] 155)] (fun G' μ' u=>∃ y I' e',iM ⟨B.drop I,e⟩=(y,⟨B.drop I',e'⟩)∧I'≤B.length∧μ'=[.blk b (cl [Sh.val s B.length,.int .i64 (I':Int),.int .i64 e'] 155)]∧u=uv .u64 (y.setWidth 64)):=by
 refine Ct.of Tryz.func103 rfl Tryz.ntmps103 rfl fun w0 hs0=>?_
 refine .g (nC rfl rfl (fZ rfl oT rfl (lO rfl gD rfl .here (by first|exact aJ rfl|rfl) ?_)))
 refine cP rfl rfl rfl rfl (.g (cD rfl (fun c1=>?_) (fun c1=>?_)))
 ·have c1k:=c1
  try simp only [aC,aI,aD] at c1
  refine .seq (aM rfl rfl (aS rfl rfl (.nc (.ret (We.fin Tryz.results103 (.tmp rfl .nil) (mS .here rfl mN) ?_)))))
  exact ⟨0,I,e,aDg (by simpa using c1k),hI,rfl,rfl⟩
 have c1k:=c1
 try simp only [aC,aI,aD] at c1
 refine .g (cP rfl rfl rfl rfl (mV rfl rfl (mv rfl (.f rfl rfl) (.u rfl) (cp rfl (.f rfl rfl) (.s rfl) (.u rfl) rfl (cL rfl .no (.u rfl) (.s rfl) (.g (cD rfl (fun c2=>?_) (fun c2=>?_))))))))
 ·have c2k:=c2
  exact absurd c2 (by decide)
 have c2k:=c2
 try simp only [aC,aI,aD] at c2
 refine .g (bG (mc:=⟨false,false⟩) [0,1,2,3,4,5,6,7,8,9,10,11] aV (by kernel_rfl) ?_)
 refine .p (nC rfl rfl (fZ rfl mL rfl (lO rfl bV rfl .here (by first|exact aJ rfl|rfl) ?_)))
 refine lE rfl bK rfl (.p (nC rfl rfl (fZ rfl fC rfl (lO rfl dA rfl .here (by first|exact aJ rfl|rfl) ?_))))
 refine aR rfl rfl rfl rfl ?_
 refine cP rfl rfl rfl rfl (.g (cD rfl (fun c3=>?_) (fun c3=>?_)))
 ·have c3k:=c3
  try simp only [aC,aI,aD] at c3
  refine .g (ka rfl (.inr rfl) xL (aB rfl (aB rfl aE)) (bQ .here) (vV _ _ _ 10 _ _) ?_)
  rintro _ G33 μ33 hG33 ⟨rfl,rfl⟩
  have hs:=hs.mono hG33
  refine .nil (.code (.seq (aM rfl rfl (aS rfl rfl (.nc (.ret (We.fin Tryz.results103 (.tmp rfl .nil) (mS .here rfl mN) ?_)))))))
  exact ⟨0,I,10,aH8 (by simpa using c1k) (by simp only [List.length_drop]; omega),hI,rfl,rfl⟩
 have c3k:=c3
 try simp only [aC,aI,aD] at c3
 refine .g (aR rfl rfl rfl rfl ?_)
 refine aS rfl rfl (.nc (.block ?_))
 refine bE (α:=Nat×BitVec 64) (fun gh=>[(5,true,uv .u64 gh.2),(6,true,.int .i64 ((gh.1:Int)-1))]) (fun _=>[])
  (fun gh Gl=>(gh.1≤1)∧(gh.2=if gh.1=1 then 0#64 else (B.getD I 0).setWidth 64)) (fun gh=>gh.1) (1,0#64) [(0,true,_),(1,true,_)] [_]
  (aA rfl (aO rfl (aA rfl (aA rfl eZ))))
  (mS .here rfl mN) ?_ ?_
 ·refine ⟨?_,?_⟩
  ·(try dsimp only)<;>(first|omega|rfl|assumption|(simp; done))
  (try dsimp only)<;>(rfl)
 intro gh N0 Gl0 hN0 hGl0 hF0
 obtain ⟨i,m⟩:=gh; dsimp only at hF0 hN0 ⊢
 obtain ⟨hi,em⟩:=hF0
 have hs:=hs.mono hGl0
 refine .g (cP rfl rfl rfl rfl (.g (cD rfl (fun c4=>?_) (fun c4=>?_))))
 ·have c4k:=c4
  try simp only [aC,aI,aD] at c4
  refine .g (bG (mc:=⟨false,false⟩) [0,1,2,3,4,5,6,7,8,9,10,11,12,13,14,15,16] aV (by kernel_rfl) ?_)
  refine .p (bw (k:=.u64) (b:=256#64) rfl .no rfl (.u rfl) (.u rfl) rfl (.p (nC rfl rfl (fZ rfl mL rfl (lO rfl bV rfl .here (by first|exact aJ rfl|rfl) ?_)))))
  refine .p (nC rfl rfl (fZ rfl fC rfl (lO rfl dA rfl .here (by first|exact aJ rfl|rfl) ?_)))
  refine .p (dR (((I+(i-1)):Nat):Int) rfl .no (.u rfl) (.u rfl) rfl (by omega) (fun _=>cB (by omega) (by omega)) ?_)
  refine ih rfl .no aH (.u rfl) (.u rfl) (by omega) (by omega) (fun _=>hs.nn (k:=(I+(i-1))) (by omega)) ?_
  refine ld rfl .no cA (.u rfl) (fun _=>(hs.yat ((I+(i-1))) (by omega) (by omega)).rd) ?_
  refine cu (k:=.u8) rfl .no rfl sA (.u rfl) ?_
  refine bw (k:=.u64) rfl .no rfl (.u rfl) (.u rfl) rfl (.g (aR rfl rfl rfl rfl ?_))
  refine .g (aZ (i-1,m*256#64+(B.getD (I+(i-1)) 0).setWidth 64) ?_ ?_ ?_ ?_ ?_)
  ·exact (aA rfl (aO rfl (aA rfl (aA rfl eZ))))
  ·exact (mS .here rfl mN)
  ·(dsimp only; omega)
  ·exact hGl0
  refine ⟨?_,?_⟩
  ·(try dsimp only)<;>(first|omega|rfl|assumption|(simp; done))
  (try dsimp only)<;>((obtain rfl:i=1:=by omega); rw [em,if_pos rfl]; simp)
 have c4k:=c4
 try simp only [aC,aI,aD] at c4
 refine .g (nC rfl rfl (fZ rfl fC rfl (lO rfl dA rfl .here (by first|exact aJ rfl|rfl) ?_)))
 refine .p (aW (((I+1):Nat):Int) rfl rfl rfl rfl ?_)
 refine nC rfl rfl (fZ rfl fC rfl (s1 rfl (.u rfl) (.u rfl) rfl qZ .here (show 1<3 by decide) (rfl) ?_))
 refine .nil (.code (.seq (bD rfl rfl (mV rfl rfl (aS rfl rfl (.nc (.ret (We.fin Tryz.results103 (.tmp rfl .nil) (mS .here rfl mN) ?_))))))))
 obtain rfl:i=0:=by omega
 obtain rfl:e=0:=by simpa using c1k
 exact ⟨_,I+1,0,aH7 rfl (by simp only [List.length_drop]; omega) (by rw [List.drop_drop]),by omega,rfl,by rw [em,yP]; rfl⟩
theorem aPC (B:List Y) (I:Nat) (e:Int) (s:Sh) (b:Nat) (G:PM) (hp:RdNP G b 0 [s.val B.length,.int .i64 (I:Int),.int .i64 e]):Ct Tryz.prog 133 ([.pointer (some ⟨b,0,none⟩)]:List Value).toArray G [] (fun _ μ' u=>μ'=[]∧u=.int .i64 (oX (B.drop I) e)):=by
 refine Ct.of Tryz.func133 rfl Tryz.ntmps133 rfl fun w0 hs0=>?_
 refine .g (bG (mc:=⟨false,false⟩) [0,1,2,3,4,5,6,7,8,9,10,11,12,13,14,15,16] aV (by kernel_rfl) ?_)
 refine .p (nC rfl rfl (fZ rfl oT rfl (lN rfl gD rfl ((hp.z rfl).rd) ?_)))
 refine cP rfl rfl rfl rfl (mV rfl rfl (mv rfl (.t rfl rfl) (.u rfl) (nc rfl (.t rfl rfl) (.s rfl) (fz rfl (.t rfl rfl) fC (.s rfl) (ld rfl (.t rfl rfl) dA (.s rfl) (fun hc=>(hp.z rfl).rd) ?_)))))
 refine mv rfl (.t rfl rfl) (.u rfl) (nc rfl (.t rfl rfl) (.s rfl) (fz rfl (.t rfl rfl) mL (.s rfl) (ld rfl (.t rfl rfl) bV (.s rfl) (fun hc=>(hp.z rfl).rd) ?_)))
 refine ln rfl (.t rfl rfl) bK (.s rfl) (cp rfl (.t rfl rfl) (.s rfl) (.s rfl) rfl (cC rfl .no (.u rfl) (.s rfl) (.g (cD rfl (fun c1=>?_) (fun c1=>?_)))))
 ·have c1k:=c1
  try simp only [aC,aD] at c1
  refine .seq (aM rfl rfl (aS rfl rfl (.nc (.ret (aP Tryz.results133 (.tmp rfl .nil) ?_)))))
  exact ⟨rfl,congrArg (Value.int .i64) (by unfold oX; rw [if_pos (by rw [List.length_drop]; simp at c1k; omega)])⟩
 have c1k:=c1
 try simp only [aC,aD] at c1
 refine .g (nC rfl rfl (fZ rfl oT rfl (lN rfl gD rfl ((hp.z rfl).rd) ?_)))
 refine aS rfl rfl (.nc (.ret (aP Tryz.results133 (.tmp rfl .nil) ?_)))
 exact ⟨rfl,congrArg (Value.int .i64) (by unfold oX; rw [if_neg (by rw [List.length_drop]; simp at c1k; omega)])⟩
theorem aKl:aQ Tryz.prog 39=true:=by kernel_rfl
theorem aKm:aQ Tryz.prog 40=true:=by kernel_rfl
theorem aHv (e:Ent) (G:PM):Ct Tryz.prog 39 ([e.val]:List Value).toArray G [] (fun _ μ' u=>μ'=[]∧u=.bool (bT e)):=by
 refine Ct.of Tryz.func39 rfl Tryz.ntmps39 rfl fun w0 hs0=>?_
 refine .seq (bD rfl rfl ?_)
 refine bX rfl rfl rfl ?_; intro b1
 refine .g (fZ rfl fM rfl (lO rfl cE rfl .here (by first|exact aJ rfl|rfl) ?_))
 refine ls rfl .no cI (.u rfl) (cP rfl rfl rfl rfl (.p (fz rfl (.t rfl rfl) pP (.u rfl) (ld rfl (.t rfl rfl) fI (.s rfl) (fun hc=>Rd.own .here (by first|exact aJ rfl|rfl)) ?_))))
 refine cp rfl (.t rfl rfl) (.s rfl) (.u rfl) rfl (cC rfl .no (.u rfl) (.s rfl) (.p (fz rfl (.t rfl rfl) xJ (.u rfl) (ld rfl (.t rfl rfl) cA (.s rfl) (fun hc=>Rd.own .here (by first|exact aJ rfl|rfl)) ?_))))
 refine cp rfl (.t rfl rfl) (.s rfl) (.u rfl) rfl (cC rfl .no (.u rfl) (.s rfl) (.p (fz rfl (.t rfl rfl) mG (.u rfl) (ld rfl (.t rfl rfl) cE (.s rfl) (fun hc=>Rd.own .here (by first|exact aJ rfl|rfl)) ?_))))
 refine ls rfl (.t rfl rfl) cI (.s rfl) (cp rfl (.t rfl rfl) (.s rfl) (.u rfl) rfl (cC rfl .no (.u rfl) (.s rfl) (.p (fz rfl (.t rfl rfl) xJ (.u rfl) (ld rfl (.t rfl rfl) cA (.s rfl) (fun hc=>Rd.own .here (by first|exact aJ rfl|rfl)) ?_)))))
 refine cp rfl (.t rfl rfl) (.s rfl) (.u rfl) rfl (mv rfl (.t rfl rfl) (.s rfl) (fz rfl (.fc rfl rfl) mG (.u rfl) (ld rfl (.fc rfl rfl) cE (.s rfl) (fun hc=>Rd.own .here (by first|exact aJ rfl|rfl)) ?_)))
 refine cs rfl (.fc rfl rfl) (.s rfl) (.u rfl) rfl (cL rfl (.t rfl rfl) (.s rfl) (.s rfl) (cC rfl .no (.u rfl) (.s rfl) (aS rfl rfl (.nc (.ret (aP Tryz.results39 (.tmp rfl .nil) ?_))))))
 exact ⟨rfl,congrArg Value.bool aPQ⟩
theorem aHw (h:Sh) (l:List Ent) (G:PM) (hs:SlR G 4 Ent.cells h l) (hl:l.length≤10000000000000):Ct Tryz.prog 40 ([h.val l.length]:List Value).toArray G [] (fun _ μ' u=>μ'=[]∧u=.bool (cZ l)):=by
 refine Ct.of Tryz.func40 rfl Tryz.ntmps40 rfl fun w0 hs0=>?_
 refine .seq (aM rfl rfl (aS rfl rfl (.nc (.seq (.seq (aM rfl rfl (aS rfl rfl (.nc (.block ?_)))))))))
 refine bE (α:=Nat) (fun k=>[(3,true,.int .i64 (k:Int))]) (fun _=>[])
  (fun k Gl=>(1≤k∧(k≤l.length∨l.length=0))∧(∀ j,j+1<k→dQ (l.getD j Ent.zero) (l.getD (j+1) Ent.zero)=true)) (fun k=>l.length-k) 1 [(0,true,_)] []
  (aO rfl (aA rfl eZ))
  mN ?_ ?_
 ·refine ⟨?_,?_⟩
  ·(try dsimp only)<;>(first|omega|rfl|assumption|(simp; done))
  (try dsimp only)<;>(exact fun j h=>absurd h (by omega))
 intro k N0 Gl0 hN0 hGl0 hF0
 try dsimp only at hF0 hN0 ⊢
 obtain ⟨hk,hj⟩:=hF0
 have hs:=hs.mono hGl0
 refine .g (lE rfl gJ rfl (cP rfl rfl rfl rfl (.g (cD rfl (fun c1=>?_) (fun c1=>?_)))))
 ·have c1k:=c1
  try simp only [aC,aD] at c1
  refine .g (bG (mc:=⟨false,false⟩) [0,1,2,3,4,5,6,7,8,9,10] aV (by kernel_rfl) ?_)
  refine .p (aR rfl rfl rfl rfl ?_)
  refine ih rfl .no dZ (.u rfl) (.u rfl) (by omega) (by omega) (fun _=>hs.nn (k:=((((k:Nat):Int)-(1:Int))).toNat) (by first|omega|(simp only [Bool.and_eq_true,decide_eq_true_eq] at hc; omega)|(simp only [List.length_cons,List.length_nil]; omega))) ?_
  obtain ⟨x,ex⟩:=dO (k:=k-1) (xs:=l) (by omega)
  refine lA rfl .no dN (.u rfl) (fun _=>(hs.at (by omega) ex).rd) (fun _=>Ent.len _) ?_
  refine mV rfl rfl (mV rfl rfl (ih rfl .no dZ (.u rfl) (.u rfl) (by omega) (by omega) (fun _=>hs.nn (k:=k) (by first|omega|(simp only [Bool.and_eq_true,decide_eq_true_eq] at hc; omega)|(simp only [List.length_cons,List.length_nil]; omega))) ?_))
  obtain ⟨y,ey⟩:=dO (k:=k) (xs:=l) (by omega)
  refine lA rfl .no dN (.u rfl) (fun _=>(hs.at (by omega) ey).rd) (fun _=>Ent.len _) ?_
  refine kV rfl aTb (aB rfl (aB rfl aE)) (aPR x y _) ?_
  refine nt rfl .no (.u rfl) (.g (cD rfl (fun c2=>?_) (fun c2=>?_)))
  ·have c2k:=c2
   try simp only [aC,aD] at c2
   refine .seq (aM rfl rfl (aS rfl rfl (.nc (.ret (aP Tryz.results40 (.tmp rfl .nil) ?_)))))
   exact ⟨rfl,congrArg Value.bool (aQI hk.1 ex ey (by simpa using c2k)).symm⟩
  have c2k:=c2
  try simp only [aC,aD] at c2
  refine .g (aW (((k+1):Nat):Int) rfl rfl rfl rfl ?_)
  refine .g (aZ (k+1) ?_ ?_ ?_ ?_ ?_)
  ·exact (aO rfl (aA rfl eZ))
  ·exact mN
  ·first|omega|(dsimp only; omega)
  ·exact hGl0
  refine ⟨?_,?_⟩
  ·(try dsimp only)<;>(first|omega|rfl|assumption|(simp; done))
  (try dsimp only)<;>(exact aQJ hk.1 hj ex ey (by simpa using c2k))
 have c1k:=c1
 try simp only [aC,aD] at c1
 refine .exit (.xcode (.xlp (.xblk (.code (.seq (aM rfl rfl (aS rfl rfl (.nc (.ret (aP Tryz.results40 (.tmp rfl .nil) ?_))))))))))
 exact ⟨rfl,congrArg Value.bool (aII (by omega) hj).symm⟩
theorem aPO (e:Ent) (G:PM) (hu:e.user.size≤10000000):Ct Tryz.prog 79 ([e.val]:List Value).toArray G [] (fun _ μ' u=>μ'=[]∧u=.string (aN (bZ e))):=by
 refine Ct.of Tryz.func79 rfl Tryz.ntmps79 rfl fun w0 hs0=>?_
 refine .seq (bD rfl rfl ?_)
 refine bX rfl rfl rfl ?_; intro b1
 refine .g (bG (mc:=⟨false,false⟩) [0,1,2,3,4,5,6,7,8,9,10,11,12] aV (by kernel_rfl) ?_)
 refine fZ rfl fM rfl (lO rfl cE rfl .here (by first|exact aJ rfl|rfl) ?_)
 refine fZ rfl pP rfl (lO rfl fI rfl .here (by first|exact aJ rfl|rfl) ?_)
 refine bw (k:=.u64) (b:=256#64) rfl .no rfl (.u rfl) (.u rfl) rfl (fZ rfl xJ rfl (lO rfl cA rfl .here (by first|exact aJ rfl|rfl) ?_))
 refine cu (k:=.u8) rfl .no rfl sA (.u rfl) ?_
 refine bw (k:=.u64) rfl .no rfl (.u rfl) (.u rfl) rfl (kc rfl tM (aB rfl (aB rfl aE)) (Ct.frzB (sL _ 8 _ (by decide))) ?_)
 rintro _ G12 μ12 hG12 ⟨h12,L12,eL12,rfl,rfl,hs12⟩
 have lL12:L12.length=8:=by rw [eL12]; exact gT _ _
 refine sB rfl .no jX (.u rfl) (fun _=>hs12.sc) ?_
 refine sP rfl .no (.u rfl) (.u rfl) (fun _=>by (try simp only [fO,zH,bP]); omega) ?_
 refine aS rfl rfl (.nc (.ret (aP Tryz.results79 (.tmp rfl .nil) ?_)))
 exact ⟨rfl,congrArg Value.string (aNt eL12)⟩
theorem aQw (a b:ByteArray) (G:PM) (ha:a.size≤100000000):Ct Tryz.prog 80 ([.string a,.string b]:List Value).toArray G [] (fun _ μ' u=>μ'=[]∧u=.int .i64 (dV (yb a) (yb b):Int)):=by
 refine Ct.of Tryz.func80 rfl Tryz.ntmps80 rfl fun w0 hs0=>?_
 refine .seq (aM rfl rfl (aS rfl rfl (.nc (.seq (aM rfl rfl (aS rfl rfl (.nc (.seq (.block ?_)))))))))
 refine bE (α:=Nat) (fun k=>[(5,true,.int .i64 (k:Int))]) (fun _=>[])
  (fun k Gl=>(k≤a.size∧k≤b.size)∧(∀ j,j<k→(yb a).getD j 0=(yb b).getD j 0)) (fun k=>a.size-k) 0 [(0,true,_),(1,true,_)] []
  (aO rfl (aA rfl (aA rfl eZ)))
  mN ?_ ?_
 ·refine ⟨?_,?_⟩
  ·(try dsimp only)<;>(first|omega|rfl|assumption|(simp; done))
  (try dsimp only)<;>(exact fun j h=>absurd h (Nat.not_lt_zero _))
 intro k N0 Gl0 hN0 hGl0 hF0
 try dsimp only at hF0 hN0 ⊢
 obtain ⟨hk,hj⟩:=hF0
 refine .g (bG (mc:=⟨false,false⟩) [0,1,2,3,4,5,6,7,8,9,10,11,12,13,14,15,16,17,18] aV (by kernel_rfl) ?_)
 refine .p (ls rfl .no cI (.u rfl) (cP rfl rfl rfl rfl (mV rfl rfl (mv rfl (.t rfl rfl) (.u rfl) (mv rfl (.t rfl rfl) (.u rfl) (ls rfl (.t rfl rfl) cI (.s rfl) (cp rfl (.t rfl rfl) (.s rfl) (.s rfl) rfl (cC rfl .no (.u rfl) (.s rfl) (mV rfl rfl (mv rfl (.t rfl rfl) (.u rfl) (mv rfl (.t rfl rfl) (.u rfl) (sI (k) rfl (.t rfl rfl) cI (.s rfl) (.s rfl) (fun hc=>by (try simp only [Bool.and_eq_true,decide_eq_true_eq,Bool.not_eq_true',Bool.or_eq_false_iff,decide_eq_false_iff_not] at hc); omega) (fun hc=>by first|omega|(simp only [Bool.and_eq_true,decide_eq_true_eq] at hc; omega)) ?_))))))))))))
 refine mv rfl (.t rfl rfl) (.u rfl) (mv rfl (.t rfl rfl) (.u rfl) (sI (k) rfl (.t rfl rfl) cI (.s rfl) (.s rfl) (fun hc=>by (try simp only [Bool.and_eq_true,decide_eq_true_eq,Bool.not_eq_true',Bool.or_eq_false_iff,decide_eq_false_iff_not] at hc); omega) (fun hc=>by first|omega|(simp only [Bool.and_eq_true,decide_eq_true_eq] at hc; omega)) ?_))
 refine cp rfl (.t rfl rfl) (.s rfl) (.s rfl) rfl (cC rfl .no (.u rfl) (.s rfl) (.g (cD rfl (fun c1=>?_) (fun c1=>?_))))
 ·have c1k:=c1
  try simp only [aC,aI,aD] at c1
  refine .g (aW (((k+1):Nat):Int) rfl rfl rfl rfl ?_)
  refine .g (aZ (k+1) ?_ ?_ ?_ ?_ ?_)
  ·exact (aO rfl (aA rfl (aA rfl eZ)))
  ·exact mN
  ·first|omega|(dsimp only; omega)
  ·exact hGl0
  refine ⟨?_,?_⟩
  ·(try dsimp only)<;>(first|omega|rfl|assumption|(simp; done))
  (try dsimp only)<;>(exact aCd hj c1.2)
 have c1k:=c1
 try simp only [aC,aI,aD] at c1
 refine .exit (.xcode (.xlp (.xblk (.code (.seq (bD rfl rfl (mV rfl rfl (aS rfl rfl (.nc (.ret (aP Tryz.results80 (.tmp rfl .nil) ?_)))))))))))
 exact ⟨rfl,aQL hk hj c1k⟩
theorem aPL (h:Sh) (l:List Ent) (G:PM) (hs:SlR G 4 Ent.cells h l) (hl:l.length≤10000000000000):Ct Tryz.prog 78 ([h.val l.length]:List Value).toArray G [] (fun _ μ' u=>μ'=[]∧u=.bool (l.all bT&&cZ l)):=by
 refine Ct.of Tryz.func78 rfl Tryz.ntmps78 rfl fun w0 hs0=>?_
 refine .seq (aM rfl rfl (aS rfl rfl (.nc (.seq (.seq (aM rfl rfl (aS rfl rfl (.nc (.block ?_)))))))))
 refine bE (α:=Nat) (fun k=>[(3,true,.int .i64 (k:Int))]) (fun _=>[])
  (fun k Gl=>(k≤l.length)∧(∀ j y,j<k→l[j]? = some y→bT y=true)) (fun k=>l.length-k) 0 [(0,true,_)] []
  (aO rfl (aA rfl eZ))
  mN ?_ ?_
 ·refine ⟨?_,?_⟩
  ·(try dsimp only)<;>(first|omega|rfl|assumption|(simp; done))
  (try dsimp only)<;>(exact fun j y h=>absurd h (Nat.not_lt_zero _))
 intro k N0 Gl0 hN0 hGl0 hF0
 try dsimp only at hF0 hN0 ⊢
 obtain ⟨hk,hj⟩:=hF0
 have hs:=hs.mono hGl0
 refine .g (lE rfl gJ rfl (cP rfl rfl rfl rfl (.g (cD rfl (fun c1=>?_) (fun c1=>?_)))))
 ·have c1k:=c1
  try simp only [aC,aD] at c1
  refine .skip (.code (.seq (.block (.seq (nO rfl rfl (mV rfl rfl (mV rfl rfl (ih rfl .no dZ (.u rfl) (.u rfl) (by omega) (by omega) (fun _=>hs.nn (k:=k) (by first|omega|(simp only [Bool.and_eq_true,decide_eq_true_eq] at hc; omega)|(simp only [List.length_cons,List.length_nil]; omega))) ?_))))))))
  obtain ⟨x,ex⟩:=dO (k:=k) (xs:=l) (by omega)
  refine lA rfl .no dN (.u rfl) (fun _=>(hs.at (by omega) ex).rd) (fun _=>Ent.len _) ?_
  refine kV rfl aKl (aB rfl aE) (aHv x _) ?_
  refine nt rfl .no (.u rfl) (.g (cD rfl (fun c2=>?_) (fun c2=>?_)))
  ·have c2k:=c2
   try simp only [aC,aD] at c2
   refine .seq (aM rfl rfl (aS rfl rfl (.nc (.ret (aP Tryz.results78 (.tmp rfl .nil) ?_)))))
   exact ⟨rfl,by rw [aLZ ex (by simpa using c2k)]; rfl⟩
  have c2k:=c2
  try simp only [aC,aD] at c2
  refine .g (aW (((k+1):Nat):Int) rfl rfl rfl rfl ?_)
  refine .g (aZ (k+1) ?_ ?_ ?_ ?_ ?_)
  ·exact (aO rfl (aA rfl eZ))
  ·exact mN
  ·first|omega|(dsimp only; omega)
  ·exact hGl0
  refine ⟨?_,?_⟩
  ·(try dsimp only)<;>(first|omega|rfl|assumption|(simp; done))
  (try dsimp only)<;>(exact aLa hj ex (by simpa using c2k))
 have c1k:=c1
 try simp only [aC,aD] at c1
 refine .g (kV rfl aKm (aB rfl aE) (aHw h l _ hs hl) ?_)
 refine aS rfl rfl (.nc (.ret (aP Tryz.results78 (.tmp rfl .nil) ?_)))
 exact ⟨rfl,by rw [aLb hj (by omega)]; rfl⟩
theorem aTY:aQ Tryz.prog 78=true:=by kernel_rfl
theorem aTZ:aQ Tryz.prog 79=true:=by kernel_rfl
theorem aTa:aQ Tryz.prog 80=true:=by kernel_rfl
theorem aPJ (h:Sh) (l:List Ent) (every:Int) (G:PM) (hs:SlR G 4 Ent.cells h l) (hl:l.length≤1000000):Ct Tryz.prog 38 ([h.val l.length,.int .i64 every]:List Value).toArray G [] (fun _ μ' u=>∃ v L er,(L,er)=fP l every∧μ'=[rB v 5 L]∧u=.tuple #[v,.int .i64 er]):=by
 refine Ct.of Tryz.func38 rfl Tryz.ntmps38 rfl fun w0 hs0=>?_
 refine .g (cP rfl rfl rfl rfl (mV rfl rfl (mv rfl (.f rfl rfl) (.u rfl) (cp rfl (.f rfl rfl) (.s rfl) (.u rfl) rfl (cL rfl .no (.u rfl) (.s rfl) (mV rfl rfl (mv rfl (.f rfl rfl) (.u rfl) (kv rfl (.f rfl rfl) aTY (Eva.cons (.s rfl) aE) (fun hc=>aPL h l _ hs (by (try simp only [Bool.and_eq_true,decide_eq_true_eq,Bool.not_eq_true',Bool.or_eq_false_iff,decide_eq_false_iff_not] at hc); omega)) ?_))))))))
 refine nt rfl (.f rfl rfl) (.s rfl) (cL rfl .no (.u rfl) (.s rfl) (.g (cD rfl (fun c1=>?_) (fun c1=>?_))))
 ·have c1k:=c1
  try simp only [aC,aI,aD] at c1
  refine .seq (bD rfl rfl (aS rfl rfl (aS rfl rfl (.nc (.ret (jW 5 ?_))))))
  refine We.fin Tryz.results38 (.tmp rfl (.tmp rfl .nil)) (mS .here rfl mN) ?_
  rw [← aIY] at c1k
  exact ⟨_,[],1,aFs c1k,rfl,rfl⟩
 have c1k:=c1
 try simp only [aC,aI,aD] at c1
 refine .skip (.code (.seq ?_))
 rw [← aIY] at c1k
 obtain ⟨hev,hsz⟩:=yE c1k
 refine .g (ci rfl .no rfl cW (.u rfl) ?_)
 refine kc rfl tL (aB rfl aE) (iT (sV _ _)) ?_
 rintro v26 G26 μ26 hG26 ⟨L26,ov26,eL26,rfl⟩
 have hs:=hs.mono hG26
 refine .g (lE rfl gJ rfl (ci rfl .no rfl cW (.u rfl) ?_))
 refine kc rfl tL (aB rfl aE) (Ct.frzB (sV _ _)) ?_
 rintro _ G31 μ31 hG31 ⟨h31,L31,eL31,rfl,rfl,hs31⟩
 have lL31:=sS eL31
 have hs:=hs.mono hG31
 have lL26:=sS eL26
 refine cF rfl aH aY (.u rfl) (.u rfl) .here hs31.sc (by (try simp only [bJ,bB]); omega) ?_
 intro v32 L32 ov32 eL32
 have lL32:L32.length=L26.length+L31.length:=by rw [eL32,List.length_append]
 refine aS rfl rfl (.nc (.seq (aM rfl rfl (aS rfl rfl (.nc (.seq (tD 5 ?_)))))))
 refine aM rfl rfl (aS rfl rfl (.nc (.seq (aM rfl rfl (aS rfl rfl (.nc (.seq (.seq (aM rfl rfl (aS rfl rfl (.nc (.block ?_))))))))))))
 refine bE (α:=Nat×Value×List Y×Value×List Y×Nat×ByteArray) (fun gh=>[(6,true,gh.2.1),(7,true,gh.2.2.2.1),(8,true,uv .u64 (BitVec.ofInt 64 (gh.2.2.2.2.2.1:Int))),(9,true,.string gh.2.2.2.2.2.2),(10,true,.int .i64 (gh.1:Int))]) (fun gh=>[rB gh.2.2.2.1 5 gh.2.2.2.2.1,rB gh.2.1 5 gh.2.2.1])
  (fun gh Gl=>(gh.1≤l.length)∧(gh.2.2.1=dX every.toNat l gh.1)∧(gh.2.2.2.2.1=lT every.toNat l gh.1)∧(gh.2.2.2.2.2.1=jV every.toNat gh.1)∧(gh.2.2.2.2.2.2=aN (oZ l gh.1))∧(∀ j,j<gh.1→(dX every.toNat l (j+1)).length≤1048576)) (fun gh=>l.length-gh.1) (0,v32,L32,.slice none 0 0,[],0,ByteArray.empty) [(0,true,_),(1,true,_)] []
  (aA rfl (aA rfl (aA rfl (aA rfl (aO rfl (aA rfl (aA rfl eZ)))))))
  (mS .here rfl (mS .here rfl mN)) ?_ ?_
 ·refine ⟨?_,?_,?_,?_,?_,?_⟩
  ·(try dsimp only)<;>(first|omega|rfl|assumption|(simp; done))
  ·(try dsimp only)<;>(exact aQB (by omega) rfl (by omega) (by omega) eL26 eL31 eL32)
  ·(try dsimp only)<;>(rfl)
  ·(try dsimp only)<;>(rfl)
  ·(try dsimp only)<;>(exact tY)
  (try dsimp only)<;>(exact fun j h=>absurd h (Nat.not_lt_zero _))
 intro gh N0 Gl0 hN0 hGl0 hF0
 obtain ⟨k,v,O,vp,P,rs,last⟩:=gh; dsimp only at hF0 hN0 ⊢
 obtain ⟨hk,eO,eP,er,el,hno⟩:=hF0
 have hs:=hs.mono hGl0
 obtain ⟨hev,hsz⟩:=yE c1k
 have lO9:O.length≤1048576:=by rw [eO]; exact aHd (by omega) (by omega) hno
 have lP:P.length=4*rs:=by rw [eP,er,aBI]
 have lrs:rs≤k:=by rw [er]; exact aBX _ _
 have ll:last.size≤1032:=by rw [el]; exact aG7 hsz k
 refine .g (lE rfl gJ rfl (cP rfl rfl rfl rfl (.g (cD rfl (fun c2=>?_) (fun c2=>?_)))))
 ·have c2k:=c2
  try simp only [aC,aI,aD] at c2
  refine .skip (.code (.seq (.block (.seq (nO rfl rfl (mV rfl rfl (mV rfl rfl (ih rfl .no dZ (.u rfl) (.u rfl) (by omega) (by omega) (fun _=>hs.nn (k:=k) (by first|omega|(simp only [Bool.and_eq_true,decide_eq_true_eq] at hc; omega)|(simp only [List.length_cons,List.length_nil]; omega))) ?_))))))))
  obtain ⟨x,ex⟩:=dO (k:=k) (xs:=l) (by omega)
  refine lA rfl .no dN (.u rfl) (fun _=>(hs.at (by omega) ex).rd) (fun _=>Ent.len _) ?_
  have hxx:=hsz x (List.mem_of_getElem? ex)
  refine kV rfl aTZ (aB rfl aE) (aPO x _ (by omega)) ?_
  refine aS rfl rfl (.nc (.seq ?_))
  have hks:=aDD x
  have hcl:=yK (yb last) (yb (aN (bZ x)))
  rw [bP,bP] at hcl
  refine .g (kV rfl aTa (aB rfl (aB rfl aE)) (aQw last (aN (bZ x)) _ (by omega)) ?_)
  refine .g (zM (k) ((every).toNat) rfl .no (.u rfl) (.u rfl) (by omega) (by omega) (fun _=>by first|decide|omega) ?_)
  refine cP rfl rfl rfl rfl (.g (cD rfl (fun c3=>?_) (fun c3=>?_)))
  ·have c3k:=c3
   try simp only [aC,aI,aD] at c3
   refine .g (lr rfl .no bK (.u rfl) aF ?_)
   refine ci rfl .no rfl cW (.u rfl) ?_
   refine kc rfl tM (aB rfl (aB rfl aE)) (Ct.frzB (sL _ 4 _ (by decide))) ?_
   rintro _ G55 μ55 hG55 ⟨h55,L55,eL55,rfl,rfl,hs55⟩
   have lL55:L55.length=4:=by rw [eL55]; exact gT _ _
   have hs:=hs.mono hG55
   refine cF rfl aH aY (.u rfl) (.u rfl) .here hs55.sc (by (try simp only [bJ,bB]); omega) ?_
   intro v56 L56 ov56 eL56
   have lL56:L56.length=P.length+L55.length:=by rw [eL56,List.length_append]
   refine .g (bw (k:=.u64) (b:=1#64) rfl .no rfl (.u rfl) (.u rfl) rfl (.g (ci rfl .no rfl cW (.u rfl) ?_)))
   refine kc rfl tL (aB rfl aE) (Ct.frzB (sV _ _)) ?_
   rintro _ G62 μ62 hG62 ⟨h62,L62,eL62,rfl,rfl,hs62⟩
   have lL62:=sS eL62
   have hs:=hs.mono hG62
   refine cF rfl aH aY (.u rfl) (.u rfl) aF hs62.sc (by (try simp only [bJ,bB]); omega) ?_
   intro v63 L63 ov63 eL63
   have lL63:L63.length=O.length+L62.length:=by rw [eL63,List.length_append]
   refine .g (ls rfl .no cI (.u rfl) (.p (aR rfl rfl rfl rfl ?_)))
   refine ci rfl .no rfl cW (.u rfl) ?_
   refine kc rfl tL (aB rfl aE) (Ct.frzB (sV _ _)) ?_
   rintro _ G70 μ70 hG70 ⟨h70,L70,eL70,rfl,rfl,hs70⟩
   have lL70:=sS eL70
   have hs:=hs.mono hG70
   have hs62:=hs62.mono hG70
   refine cF rfl aH aY (.u rfl) (.u rfl) .here hs70.sc (by (try simp only [bJ,bB]); omega) ?_
   intro v71 L71 ov71 eL71
   have lL71:L71.length=L63.length+L70.length:=by rw [eL71,List.length_append]
   refine aS rfl rfl (.nc (.seq (kX [0,1,2,3,4,5,6,7,8,9,10] rfl rfl (mV rfl rfl (mV rfl rfl (mV rfl rfl (ih rfl .no dZ (.u rfl) (.u rfl) (by omega) (by omega) (fun _=>hs.nn (k:=k) (by first|omega|(simp only [Bool.and_eq_true,decide_eq_true_eq] at hc; omega)|(simp only [List.length_cons,List.length_nil]; omega))) ?_)))))))
   refine fA rfl mG rfl (lN rfl cE rfl ((hs.at (by omega) ex 3 _ rfl).rd) (ls rfl .no cI (.u rfl) (ci rfl .no rfl cW (.u rfl) ?_)))
   refine kc rfl tL (aB rfl aE) (Ct.frzB (sV _ _)) ?_
   rintro _ G80 μ80 hG80 ⟨h80,L80,eL80,rfl,rfl,hs80⟩
   have lL80:=sS eL80
   have hs:=hs.mono hG80
   have hs62:=hs62.mono hG80
   have hs70:=hs70.mono hG80
   refine cF rfl aH aY (.u rfl) (.u rfl) .here hs80.sc (by (try simp only [bJ,bB]); omega) ?_
   intro v81 L81 ov81 eL81
   have lL81:L81.length=L71.length+L80.length:=by rw [eL81,List.length_append]
   refine .g (sD (0) rfl .no cI (.u rfl) (.u rfl) (by omega) (by omega) ?_)
   refine rH rfl rfl rZ (.u rfl) ?_; intro G86 h86 hG86 hs86
   have hs:=hs.mono hG86
   have hs62:=hs62.mono hG86
   have hs70:=hs70.mono hG86
   have hs80:=hs80.mono hG86
   refine cF rfl aH aY (.u rfl) (.u rfl) .here hs86.sc (by rw [bP,fO,List.length_drop,bP]; omega) ?_
   intro v87 L87 ov87 eL87
   have lL87:L87.length=L81.length+(yb (aN ((yb (aN (bZ x))).drop 0))).length:=by rw [eL87,List.length_append]
   refine aS rfl rfl (.nc (.seq (rq9 rfl rfl (mV rfl rfl (mV rfl rfl (mV rfl rfl (ih rfl .no dZ (.u rfl) (.u rfl) (by omega) (by omega) (fun _=>hs.nn (k:=k) (by first|omega|(simp only [Bool.and_eq_true,decide_eq_true_eq] at hc; omega)|(simp only [List.length_cons,List.length_nil]; omega))) ?_)))))))
   refine fA rfl mG rfl (lN rfl cE rfl ((hs.at (by omega) ex 3 _ rfl).rd) ?_)
   refine rH rfl rfl rZ (.u rfl) ?_; intro G94 h94 hG94 hs94
   have hs:=hs.mono hG94
   have hs62:=hs62.mono hG94
   have hs70:=hs70.mono hG94
   have hs80:=hs80.mono hG94
   have hs86:=hs86.mono hG94
   have lL87b:L87.length≤L81.length+(aN (bZ x)).size:=by rw [eL87,List.length_append,bP,fO,List.length_drop,bP]; omega
   refine cF rfl aH aY (.u rfl) (.u rfl) .here hs94.sc (by rw [bP]; omega) ?_
   intro v95 L95 ov95 eL95
   have lL95:L95.length=L87.length+(yb x.value).length:=by rw [eL95,List.length_append]
   refine .g (lr rfl .no bK (.u rfl) .here ?_)
   refine cP rfl rfl rfl rfl (.g (cD rfl (fun c4=>?_) (fun c4=>?_)))
   ·have c4k:=c4
    try simp only [aC,aI,aD] at c4
    refine .seq (bD rfl rfl (aS rfl rfl (aS rfl rfl (.nc (.ret (jW 5 ?_))))))
    refine We.fin Tryz.results38 (.tmp rfl (.tmp rfl .nil)) (mS .here rfl mN) ?_
    have eB95:L95=dX every.toNat l (k+1):=tZ (anew:=true) ex el c3k.symm (by rw [← eO]; exact aBN (k:=0) (by omega) (by omega) yL.symm eL62 eL63 eL70 eL71 eL80 eL81 eL87 eL95)
    exact ⟨_,[],4,aCe c1k (k:=k) (by omega) (by rw [← eB95]; omega),rfl,rfl⟩
   have c4k:=c4
   try simp only [aC,aI,aD] at c4
   refine .g (aW (((k+1):Nat):Int) rfl rfl rfl rfl ?_)
   refine aS rfl rfl (.nil ?_)
   have eB95:L95=dX every.toNat l (k+1):=tZ (anew:=true) ex el c3k.symm (by rw [← eO]; exact aBN (k:=0) (by omega) (by omega) yL.symm eL62 eL63 eL70 eL71 eL80 eL81 eL87 eL95)
   refine aZ (k+1,v95,L95,v56,L56,rs+1,aN (bZ x)) ?_ ?_ ?_ ?_ ?_
   ·exact (aA rfl (aA rfl (fD rfl (congrArg (uv .u64) (aQM rs)) (aA rfl (aO rfl (aA rfl (aA rfl eZ)))))))
   ·exact (mS aF rfl (mS .here rfl mN))
   ·first|omega|(dsimp only; omega)
   ·exact ((((((hGl0).trans hG55).trans hG62).trans hG70).trans hG80).trans hG86).trans hG94
   refine ⟨?_,?_,?_,?_,?_,?_⟩
   ·(try dsimp only)<;>(first|omega|rfl|assumption|(simp; done))
   ·(try dsimp only)<;>(exact eB95)
   ·(try dsimp only)<;>(exact aDc c3k.symm eO eP (by rw [if_pos rfl,eL56,eL55]; rfl))
   ·(try dsimp only)<;>(exact aD0 (anew:=true) c3k.symm er)
   ·(try dsimp only)<;>(exact (congrArg aN (aDG ex)).symm)
   (try dsimp only)<;>(exact aCf hno (by rw [← eB95]; omega))
  have c3k:=c3
  try simp only [aC,aI,aD] at c3
  refine .g (ci rfl .no rfl cW (.u rfl) ?_)
  refine kc rfl tL (aB rfl aE) (Ct.frzB (sV _ _)) ?_
  rintro _ G62 μ62 hG62 ⟨h62,L62,eL62,rfl,rfl,hs62⟩
  have lL62:=sS eL62
  have hs:=hs.mono hG62
  refine cF rfl aH aY (.u rfl) (.u rfl) aF hs62.sc (by (try simp only [bJ,bB]); omega) ?_
  intro v63 L63 ov63 eL63
  have lL63:L63.length=O.length+L62.length:=by rw [eL63,List.length_append]
  refine .g (ls rfl .no cI (.u rfl) (.p (aR rfl rfl rfl rfl ?_)))
  refine ci rfl .no rfl cW (.u rfl) ?_
  refine kc rfl tL (aB rfl aE) (Ct.frzB (sV _ _)) ?_
  rintro _ G70 μ70 hG70 ⟨h70,L70,eL70,rfl,rfl,hs70⟩
  have lL70:=sS eL70
  have hs:=hs.mono hG70
  refine cF rfl aH aY (.u rfl) (.u rfl) .here hs70.sc (by (try simp only [bJ,bB]); omega) ?_
  intro v71 L71 ov71 eL71
  have lL71:L71.length=L63.length+L70.length:=by rw [eL71,List.length_append]
  refine aS rfl rfl (.nc (.seq (kX [0,1,2,3,4,5,6,7,8,9,10] rfl rfl (mV rfl rfl (mV rfl rfl (mV rfl rfl (ih rfl .no dZ (.u rfl) (.u rfl) (by omega) (by omega) (fun _=>hs.nn (k:=k) (by first|omega|(simp only [Bool.and_eq_true,decide_eq_true_eq] at hc; omega)|(simp only [List.length_cons,List.length_nil]; omega))) ?_)))))))
  refine fA rfl mG rfl (lN rfl cE rfl ((hs.at (by omega) ex 3 _ rfl).rd) (ls rfl .no cI (.u rfl) (ci rfl .no rfl cW (.u rfl) ?_)))
  refine kc rfl tL (aB rfl aE) (Ct.frzB (sV _ _)) ?_
  rintro _ G80 μ80 hG80 ⟨h80,L80,eL80,rfl,rfl,hs80⟩
  have lL80:=sS eL80
  have hs:=hs.mono hG80
  refine cF rfl aH aY (.u rfl) (.u rfl) .here hs80.sc (by (try simp only [bJ,bB]); omega) ?_
  intro v81 L81 ov81 eL81
  have lL81:L81.length=L71.length+L80.length:=by rw [eL81,List.length_append]
  refine .g (sD ((dV (yb last) (yb (aN (bZ x))))) rfl .no cI (.u rfl) (.u rfl) (by omega) (by omega) ?_)
  refine rH rfl rfl rZ (.u rfl) ?_; intro G86 h86 hG86 hs86
  have hs:=hs.mono hG86
  refine cF rfl aH aY (.u rfl) (.u rfl) .here hs86.sc (by rw [bP,fO,List.length_drop,bP]; omega) ?_
  intro v87 L87 ov87 eL87
  have lL87:L87.length=L81.length+(yb (aN ((yb (aN (bZ x))).drop (dV (yb last) (yb (aN (bZ x))))))).length:=by rw [eL87,List.length_append]
  refine aS rfl rfl (.nc (.seq (rq9 rfl rfl (mV rfl rfl (mV rfl rfl (mV rfl rfl (ih rfl .no dZ (.u rfl) (.u rfl) (by omega) (by omega) (fun _=>hs.nn (k:=k) (by first|omega|(simp only [Bool.and_eq_true,decide_eq_true_eq] at hc; omega)|(simp only [List.length_cons,List.length_nil]; omega))) ?_)))))))
  refine fA rfl mG rfl (lN rfl cE rfl ((hs.at (by omega) ex 3 _ rfl).rd) ?_)
  refine rH rfl rfl rZ (.u rfl) ?_; intro G94 h94 hG94 hs94
  have lL87b:L87.length≤L81.length+(aN (bZ x)).size:=by rw [eL87,List.length_append,bP,fO,List.length_drop,bP]; omega
  refine cF rfl aH aY (.u rfl) (.u rfl) .here hs94.sc (by rw [bP]; omega) ?_
  intro v95 L95 ov95 eL95
  have lL95:L95.length=L87.length+(yb x.value).length:=by rw [eL95,List.length_append]
  refine .g (lr rfl .no bK (.u rfl) .here ?_)
  refine cP rfl rfl rfl rfl (.g (cD rfl (fun c5=>?_) (fun c5=>?_)))
  ·have c5k:=c5
   try simp only [aC,aI,aD] at c5
   refine .seq (bD rfl rfl (aS rfl rfl (aS rfl rfl (.nc (.ret (jW 5 ?_))))))
   refine We.fin Tryz.results38 (.tmp rfl (.tmp rfl .nil)) (mS .here rfl mN) ?_
   have eB95:L95=dX every.toNat l (k+1):=tZ (anew:=false) ex el c3k.symm (by rw [← eO]; exact aBN (k:=(dV (yb last) (yb (aN (bZ x))))) (by omega) (by omega) (by rw [yM,iD]) eL62 eL63 eL70 eL71 eL80 eL81 eL87 eL95)
   exact ⟨_,[],4,aCe c1k (k:=k) (by omega) (by rw [← eB95]; omega),rfl,rfl⟩
  have c5k:=c5
  try simp only [aC,aI,aD] at c5
  refine .g (aW (((k+1):Nat):Int) rfl rfl rfl rfl ?_)
  refine aS rfl rfl (.nil ?_)
  have eB95:L95=dX every.toNat l (k+1):=tZ (anew:=false) ex el c3k.symm (by rw [← eO]; exact aBN (k:=(dV (yb last) (yb (aN (bZ x))))) (by omega) (by omega) (by rw [yM,iD]) eL62 eL63 eL70 eL71 eL80 eL81 eL87 eL95)
  refine aZ (k+1,v95,L95,vp,P,rs,aN (bZ x)) ?_ ?_ ?_ ?_ ?_
  ·exact (aA rfl (aA rfl (aA rfl (aA rfl (aO rfl (aA rfl (aA rfl eZ)))))))
  ·exact (mS aF rfl (mS .here rfl mN))
  ·first|omega|(dsimp only; omega)
  ·exact (((((hGl0).trans hG62).trans hG70).trans hG80).trans hG86).trans hG94
  refine ⟨?_,?_,?_,?_,?_,?_⟩
  ·(try dsimp only)<;>(first|omega|rfl|assumption|(simp; done))
  ·(try dsimp only)<;>(exact eB95)
  ·(try dsimp only)<;>(exact aDc (anew:=false) c3k.symm eO eP (by rw [if_neg (by decide)]))
  ·(try dsimp only)<;>(exact aD0 (anew:=false) c3k.symm er)
  ·(try dsimp only)<;>(exact (congrArg aN (aDG ex)).symm)
  (try dsimp only)<;>(exact aCf hno (by rw [← eB95]; omega))
 have c2k:=c2
 try simp only [aC,aI,aD] at c2
 refine .exit (.xcode (.xlp (.xblk (.code (.seq ?_)))))
 refine iR .here (by first|(intro b hb; cases hb; done) | simp [keys,Res.keys]) ?_; intro GfRP hRP hleRP evRP hsRP; subst evRP
 refine .g (cF rfl aH aY (.u rfl) (.u rfl) .here hsRP.sc (by (try simp only [bJ,bB]); omega) ?_)
 intro v102 L102 ov102 eL102
 have lL102:L102.length=O.length+P.length:=by rw [eL102,List.length_append]
 refine .g (kc rfl tM (aB rfl (aB rfl aE)) (Ct.frzB (sL _ 4 _ (by decide))) ?_)
 rintro _ G105 μ105 hG105 ⟨h105,L105,eL105,rfl,rfl,hs105⟩
 have lL105:L105.length=4:=by rw [eL105]; exact gT _ _
 refine cF rfl aH aY (.u rfl) (.u rfl) .here hs105.sc (by (try simp only [bJ,bB]); omega) ?_
 intro v106 L106 ov106 eL106
 have lL106:L106.length=L102.length+L105.length:=by rw [eL106,List.length_append]
 refine .g (lr rfl .no bK (.u rfl) .here ?_)
 refine cP rfl rfl rfl rfl (.g (cD rfl (fun c6=>?_) (fun c6=>?_)))
 ·have c6k:=c6
  try simp only [aC,aI,aD] at c6
  refine .seq (bD rfl rfl (aS rfl rfl (aS rfl rfl (.nc (.ret (jW 5 ?_))))))
  refine We.fin Tryz.results38 (.tmp rfl (.tmp rfl .nil)) (mS .here rfl mN) ?_
  obtain rfl:k=l.length:=by omega
  exact ⟨_,[],4,aAj c1k (by rw [← aFr eO eP er eL102 eL105 eL106]; omega),rfl,rfl⟩
 have c6k:=c6
 try simp only [aC,aI,aD] at c6
 refine .skip (.code (.seq (eH rfl rfl (mV rfl rfl (aS rfl rfl (aS rfl rfl (.nc (.ret (We.fin Tryz.results38 (.tmp rfl (.tmp rfl .nil)) (mS .here rfl mN) ?_)))))))))
 obtain rfl:k=l.length:=by omega
 have eB:=aFr eO eP er eL102 eL105 eL106
 exact ⟨_,L106,0,by rw [eB]; exact aAk c1k hno (by rw [← eB]; omega),rfl,rfl⟩
theorem aAJ:fX Tryz.prog 155 [0]=some ([.slice none 0 0,.int .i64 0,.int .i64 0],[(0,1)]):=by kernel_rfl
theorem aK2:iS Tryz.prog 155=some ([.slice none 0 0,.int .i64 0,.int .i64 0]):=by kernel_rfl
theorem aKz:dG Tryz.prog 155=some 3:=by kernel_rfl
theorem xK:aQ Tryz.prog 103=true:=by kernel_rfl
theorem aKk:aQ Tryz.prog 37=true:=by kernel_rfl
theorem zN (xs:List Y) (s:Sh) (a b:Nat) (G:PM) (hs:SlR G 1 aL s xs) (h8:a+8≤xs.length) (hl:xs.length≤100000000000000):Ct Tryz.prog 103 ([.pointer (some ⟨b,0,none⟩),.int .i64 ((8:Nat):Int)]:List Value).toArray G [.blk b (cl [s.val xs.length,.int .i64 (a:Int),.int .i64 0] 155)] (fun _ μ' u=>μ'=[.blk b (cl [s.val xs.length,.int .i64 ((a+8:Nat):Int),.int .i64 0] 155)]∧u=uv .u64 (bU (xs.drop a) 8)):=by
 refine Ct.of Tryz.func103 rfl Tryz.ntmps103 rfl fun w0 hs0=>?_
 refine .g (nC rfl rfl (fZ rfl oT rfl (lO rfl gD rfl .here (by first|exact aJ rfl|rfl) ?_)))
 refine cP rfl rfl rfl rfl (.g (cD rfl (fun c1=>?_) (fun c1=>?_)))
 ·have c1k:=c1
  exact absurd c1 (by decide)
 have c1k:=c1
 try simp only [aC,aD] at c1
 refine .g (cP rfl rfl rfl rfl (mV rfl rfl (mv rfl (.f rfl rfl) (.u rfl) (cp rfl (.f rfl rfl) (.s rfl) (.u rfl) rfl (cL rfl .no (.u rfl) (.s rfl) (.g (cD rfl (fun c2=>?_) (fun c2=>?_))))))))
 ·have c2k:=c2
  exact absurd c2 (by decide)
 have c2k:=c2
 try simp only [aC,aD] at c2
 refine .g (bG (mc:=⟨false,false⟩) [0,1,2,3,4,5,6,7,8,9,10,11] aV (by kernel_rfl) ?_)
 refine .p (nC rfl rfl (fZ rfl mL rfl (lO rfl bV rfl .here (by first|exact aJ rfl|rfl) ?_)))
 refine lE rfl bK rfl (.p (nC rfl rfl (fZ rfl fC rfl (lO rfl dA rfl .here (by first|exact aJ rfl|rfl) ?_))))
 refine aW (((xs.length-a):Nat):Int) rfl rfl rfl rfl ?_
 refine cP rfl rfl rfl rfl (.g (cD rfl (fun c3=>?_) (fun c3=>?_)))
 ·have c3k:=c3
  try simp only [aC,aD] at c3
  exfalso; omega
 have c3k:=c3
 try simp only [aC,aD] at c3
 refine .g (aW ((7:Nat):Int) rfl rfl rfl rfl ?_)
 refine aS rfl rfl (.nc (.block ?_))
 refine bE (α:=Nat×BitVec 64) (fun gh=>[(5,true,uv .u64 gh.2),(6,true,.int .i64 ((gh.1:Int)-1))]) (fun _=>[])
  (fun gh Gl=>(gh.1≤8)∧(gh.2=wY (xs.drop a) (8-gh.1))) (fun gh=>gh.1) (8,0#64) [(0,true,_),(1,true,_)] [_]
  (aA rfl (aA rfl (aA rfl (aA rfl eZ))))
  (mS .here rfl mN) ?_ ?_
 ·refine ⟨?_,?_⟩
  ·(try dsimp only)<;>(first|omega|rfl|assumption|(simp; done))
  (try dsimp only)<;>(rfl)
 intro gh N0 Gl0 hN0 hGl0 hF0
 obtain ⟨j,m⟩:=gh; dsimp only at hF0 hN0 ⊢
 obtain ⟨hj,em⟩:=hF0
 have hs:=hs.mono hGl0
 refine .g (cP rfl rfl rfl rfl (.g (cD rfl (fun c4=>?_) (fun c4=>?_))))
 ·have c4k:=c4
  try simp only [aC,aD] at c4
  refine .g (bG (mc:=⟨false,false⟩) [0,1,2,3,4,5,6,7,8,9,10,11,12,13,14,15,16] aV (by kernel_rfl) ?_)
  refine .p (bw (k:=.u64) (b:=256#64) rfl .no rfl (.u rfl) (.u rfl) rfl (.p (nC rfl rfl (fZ rfl mL rfl (lO rfl bV rfl .here (by first|exact aJ rfl|rfl) ?_)))))
  refine .p (nC rfl rfl (fZ rfl fC rfl (lO rfl dA rfl .here (by first|exact aJ rfl|rfl) ?_)))
  refine .p (dR (((a+(j-1)):Nat):Int) rfl .no (.u rfl) (.u rfl) rfl (by omega) (fun _=>cB (by omega) (by omega)) ?_)
  refine ih rfl .no aH (.u rfl) (.u rfl) (by omega) (by omega) (fun _=>hs.nn (k:=(a+(j-1))) (by omega)) ?_
  refine ld rfl .no cA (.u rfl) (fun _=>(hs.yat ((a+(j-1))) (by omega) (by omega)).rd) ?_
  refine cu (k:=.u8) rfl .no rfl sA (.u rfl) ?_
  refine bw (k:=.u64) rfl .no rfl (.u rfl) (.u rfl) rfl (.g (aR rfl rfl rfl rfl ?_))
  refine .g (aZ (j-1,m*256#64+(xs.getD (a+(j-1)) 0).setWidth 64) ?_ ?_ ?_ ?_ ?_)
  ·exact (aA rfl (fD rfl (oB (by omega)) (aA rfl (aA rfl eZ))))
  ·exact (mS .here rfl mN)
  ·first|omega|(dsimp only; omega)
  ·exact hGl0
  refine ⟨?_,?_⟩
  ·(try dsimp only)<;>(first|omega|rfl|assumption|(simp; done))
  (try dsimp only)<;>(rw [show 8-(j-1)=(8-j)+1 by omega,wY,←em,aSE,show 7-(8-j)=j-1 by omega])
 have c4k:=c4
 try simp only [aC,aD] at c4
 refine .g (nC rfl rfl (fZ rfl fC rfl (lO rfl dA rfl .here (by first|exact aJ rfl|rfl) ?_)))
 refine .p (aW (((a+8):Nat):Int) rfl rfl rfl rfl ?_)
 refine nC rfl rfl (fZ rfl fC rfl (s1 rfl (.u rfl) (.u rfl) rfl qZ .here (by first|decide|(simp only [bO,aU,bJ]; omega)) (rfl) ?_))
 refine .nil (.code (.seq (bD rfl rfl (mV rfl rfl (aS rfl rfl (.nc (.ret (We.fin Tryz.results103 (.tmp rfl .nil) (mS .here rfl mN) ?_))))))))
 obtain rfl:j=0:=by omega
 exact ⟨rfl,by rw [em,←aRu]; rfl⟩
theorem aPf (xs:List Y) (h:Sh) (G:PM) (hs:SlR G 1 aL h xs) (hl:xs.length≤100000000000000):Ct Tryz.prog 102 ([h.val xs.length]:List Value).toArray G [] (fun _ μ' u=>μ'=[]∧u=.tuple #[.agg (gY xs).1.cells.toArray,.int .i64 (gY xs).2]):=by
 refine Ct.of Tryz.func102 rfl Tryz.ntmps102 rfl fun w0 hs0=>?_
 refine .seq (bD rfl rfl ?_)
 refine al rfl rC ?_; intro b2
 refine .g (lE rfl bK rfl (cP rfl rfl rfl rfl (.g (cD rfl (fun c1=>?_) (fun c1=>?_)))))
 ·have c1k:=c1
  try simp only [aC,aI,aD] at c1
  refine .g (bC rfl .no aAL .nil rfl ?_)
  refine sw rfl (.u rfl) (.u rfl) rfl mK .here (by first|exact qE|exact qL|rfl) (lS rfl rfl rfl rfl rfl) ?_
  refine aS rfl rfl (.nc (.ret (aP Tryz.results102 (.cell rfl (fun w hw=>bW fB (RdN.own .here) ((by first|exact qE|exact qL|rfl)) hw) (.tmp rfl .nil)) ?_)))
  exact ⟨rfl,by rw [aI9 (by omega)]; rfl⟩
 have c1k:=c1
 try simp only [aC,aI,aD] at c1
 refine .g (kS (6) (30) rfl .no aH hs (.u rfl) (.u rfl) (.u rfl) (by omega) (by omega) (by omega) (by omega) ?_)
 intro h11 L11 eL11 lL11 hs11
 have lL11:=lL11 rfl
 refine dU ([h11.val L11.length,.int .i64 0,.int .i64 0]) rfl .no aAJ (.cons (.u rfl) rfl .nil) rfl (rfl) ?_
 refine al rfl aK2 ?_; intro b4
 refine sw rfl (.u rfl) (.u rfl) rfl aKz .here (by first|exact qE|exact qL|rfl) (lQ rfl rfl rfl) ?_
 refine .g (bG (mc:=⟨false,false⟩) [0,1,2,3,4,5,6,7,8] aV (by kernel_rfl) ?_)
 refine mV rfl rfl (ih rfl .no aH (.u rfl) (.u rfl) (by omega) (by omega) (fun _=>hs.nn (k:=4) (by omega)) ?_)
 refine lN rfl cA rfl ((hs.yat (4) (by omega) (by omega)).rd) ?_
 refine mV rfl rfl (ih rfl .no aH (.u rfl) (.u rfl) (by omega) (by omega) (fun _=>hs.nn (k:=5) (by omega)) ?_)
 refine lN rfl cA rfl ((hs.yat (5) (by omega) (by omega)).rd) ?_
 refine dU ([V (xs.getD 4 0),V (xs.getD 5 0),uv .u64 0#64,uv .u64 0#64,uv .u64 0#64]) rfl .no aJ4 (.cons (.u rfl) rfl (.cons (.u rfl) rfl .nil)) rfl (rfl) ?_
 refine al rfl rC ?_; intro b5
 refine sw rfl (.u rfl) (.u rfl) rfl mK .here (by first|exact qE|exact qL|rfl) (lS rfl rfl rfl rfl rfl) ?_
 refine .g (ka rfl (.inr rfl) xK (aB rfl (aB rfl aE)) (bQ aF) (zN L11 h11 0 _ _ hs11 (by omega) (by omega)) ?_)
 rintro _ G20 μ20 hG20 ⟨rfl,rfl⟩
 have hs:=hs.mono hG20
 have hs11:=hs11.mono hG20
 refine fZ rfl tJ rfl (s1 rfl (.u rfl) (.u rfl) rfl xQ aF (show 2<5 by decide) (rfl) ?_)
 refine .g (ka rfl (.inr rfl) xK (aB rfl (aB rfl aE)) (bQ aF) (zN L11 h11 8 _ _ hs11 (by omega) (by omega)) ?_)
 rintro _ G22 μ22 hG22 ⟨rfl,rfl⟩
 have hs:=hs.mono hG22
 have hs11:=hs11.mono hG22
 refine fZ rfl aAN rfl (s1 rfl (.u rfl) (.u rfl) rfl xQ aF (show 3<5 by decide) (rfl) ?_)
 refine .g (ka rfl (.inr rfl) xK (aB rfl (aB rfl aE)) (bQ aF) (zN L11 h11 16 _ _ hs11 (by omega) (by omega)) ?_)
 rintro _ G24 μ24 hG24 ⟨rfl,rfl⟩
 have hs:=hs.mono hG24
 refine fZ rfl aAO rfl (s1 rfl (.u rfl) (.u rfl) rfl xQ aF (show 4<5 by decide) (rfl) ?_)
 refine .nil (.code (.seq (.seq ?_)))
 by_cases hr:Hd.right ⟨xs.getD 4 0,xs.getD 5 0,bU (L11.drop 0) 8,bU (L11.drop 8) 8,bU (L11.drop 16) 8⟩=true
 ·refine bG (mc:=⟨false,false⟩) [0,1,2,3,4,7,8,9,5,6,10,11] aV (by kernel_rfl) ?_
  refine lB rfl fB rfl .here ?_
  refine kV rfl aKk (aB rfl aE) (aIL ⟨xs.getD 4 0,xs.getD 5 0,bU (L11.drop 0) 8,bU (L11.drop 8) 8,bU (L11.drop 16) 8⟩ _) ?_
  refine mE true (hr) ?_
  refine nt rfl .no (.u rfl) (.p (lA rfl (Gd.f (b:=false) rfl rfl) fB (.u rfl) (fun _=>RdN.own .here) (fun _=>(by first|exact qE|exact qL|rfl)) ?_))
  refine mv rfl (Gd.f (b:=false) rfl rfl) (.u rfl) (kE (30) rfl (Gd.f (b:=false) rfl rfl) aH hs (.u rfl) (.u rfl) (by omega) (by omega) ?_)
  intro h34 L34 eL34 lL34 hs34
  have lL34:=lL34 rfl
  refine sB rfl (Gd.f (b:=false) rfl rfl) jX (.u rfl) (fun _=>hs34.sc) ?_
  refine kcg rfl (Gd.f (b:=false) rfl rfl) aEy (aB rfl aE) (Ct.frzB (aDo ⟨xs.getD 4 0,xs.getD 5 0,bU (L11.drop 0) 8,bU (L11.drop 8) 8,bU (L11.drop 16) 8⟩ _)) ?_
  rintro _ G31 μ31 hG31 ⟨h31,L31,eL31,rfl,rfl,hs31⟩
  refine sB rfl (Gd.f (b:=false) rfl rfl) jX (.u rfl) (fun _=>hs31.sc) ?_
  refine cbn rfl (Gd.f (b:=false) rfl rfl) (.u rfl) (.u rfl) ?_
  refine cL rfl .no (.u rfl) (.u rfl) (.g (cD rfl (fun c2=>?_) (fun c2=>?_)))
  ·have c2k:=c2
   try simp only [aC,aI,aD] at c2
   refine .g (bC rfl .no aAL .nil rfl ?_)
   refine sw rfl (.u rfl) (.u rfl) rfl mK aT (by first|exact qE|exact qL|rfl) (lS rfl rfl rfl rfl rfl) ?_
   refine aS rfl rfl (.nc (.ret (aP Tryz.results102 (.cell rfl (fun w hw=>bW fB (RdN.own .here) ((by first|exact qE|exact qL|rfl)) hw) (.tmp rfl .nil)) ?_)))
   have c2k:¬ L31=L34:=by simpa using c2k
   rw [aA1 eL11] at eL31
   exact ⟨rfl,by rw [aEE (by omega) (fun hq=>c2k (by rw [eL31,eL34]; exact (aGu (by omega)).2 hq.1))]; rfl⟩
  have c2k:=c2
  try simp only [aC,aI,aD] at c2
  refine .g (lB rfl fB rfl .here ?_)
  refine sw rfl (.u rfl) (.u rfl) rfl mK aT (by first|exact qE|exact qL|rfl) (lS rfl rfl rfl rfl rfl) ?_
  refine aS rfl rfl (.nc (.ret (aP Tryz.results102 (.cell rfl (fun w hw=>bW fB (RdN.own .here) ((by first|exact qE|exact qL|rfl)) hw) (.tmp rfl .nil)) ?_)))
  have c2k:L31=L34:=by simpa using c2k
  rw [aA1 eL11] at eL31 hr
  exact ⟨rfl,by rw [aI7 (by omega) ⟨(aGu (by omega)).1 (by rw [← eL31,←eL34]; exact c2k),hr⟩,←aA1 eL11]; rfl⟩
 refine bG (mc:=⟨false,false⟩) [0,1,2,3,4,7,8,9,5,6,10,11] aV (by kernel_rfl) ?_
 refine lB rfl fB rfl .here ?_
 refine kV rfl aKk (aB rfl aE) (aIL ⟨xs.getD 4 0,xs.getD 5 0,bU (L11.drop 0) 8,bU (L11.drop 8) 8,bU (L11.drop 16) 8⟩ _) ?_
 refine mE false (by simpa using hr) ?_
 refine nt rfl .no (.u rfl) (mV rfl rfl (oN (.bool false) rfl rfl (Gd.f (b:=true) rfl rfl) ?_))
 refine gO (.bool false) rfl rfl (Gd.f (b:=true) rfl rfl) ?_
 refine gO (.bool false) rfl rfl (Gd.f (b:=true) rfl rfl) ?_
 refine oN (.bool false) rfl rfl (Gd.f (b:=true) rfl rfl) ?_
 refine skc (.bool false) rfl rfl (Gd.f (b:=true) rfl rfl) ?_
 refine oN (.bool false) rfl rfl (Gd.f (b:=true) rfl rfl) ?_
 refine gO (.bool false) rfl rfl (Gd.f (b:=true) rfl rfl) ?_
 refine cL rfl .no (.u rfl) (.s rfl) (.g (tR rfl rfl ?_))
 refine .g (bC rfl .no aAL .nil rfl ?_)
 refine sw rfl (.u rfl) (.u rfl) rfl mK aT (by first|exact qE|exact qL|rfl) (lS rfl rfl rfl rfl rfl) ?_
 refine aS rfl rfl (.nc (.ret (aP Tryz.results102 (.cell rfl (fun w hw=>bW fB (RdN.own .here) ((by first|exact qE|exact qL|rfl)) hw) (.tmp rfl .nil)) ?_)))
 rw [aA1 eL11] at hr
 exact ⟨rfl,by rw [aEE (by omega) (fun hq=>hr hq.2)]; rfl⟩
theorem aTk:aQ Tryz.prog 84=true:=by kernel_rfl
theorem aTl:aQ Tryz.prog 85=true:=by kernel_rfl
theorem aS3:aQ Tryz.prog 130=true:=by kernel_rfl
theorem aHs (root:Nat→Y) (h:Hd) (part:Nat) (xs:List Y) (hx:Sh) (G:PM) (hs:SlR G 1 aL hx xs) (hR:RdNP G 0 0 (wa 64 kW)) (hl:xs.length≤10000000) (hp:part≤1000000000):Ct Tryz.prog 104 ([.agg (ba 32 root).toArray,.agg ([V h.kind,V h.level,uv .u64 h.gen,uv .u64 h.epoch,uv .u64 h.num]:List Value).toArray,.int .i64 (part:Int),hx.val xs.length]:List Value).toArray G [] (fun G' μ' u=>∃ (h':Sh) (L:List Y) (e:Int),OpenR (gV root h part xs) L e∧μ'=[]∧u=.tuple #[h'.val L.length,.int .i64 e]∧SlR G' 1 aL h' L):=by
 refine Ct.of Tryz.func104 rfl Tryz.ntmps104 rfl fun w0 hs0=>?_
 refine .seq (gH rfl rfl ?_)
 refine bX rfl rfl rfl ?_; intro b4
 refine bX rfl rfl rfl ?_; intro b5
 refine .g (bG (mc:=⟨false,false⟩) [0,1,3,4,6,8,2,5,7,9,10,11,12,13] aV (by kernel_rfl) ?_)
 refine lA rfl .no cH (.u rfl) (fun _=>RdN.own aF) (fun _=>aU _ _) ?_
 refine lA rfl .no fB (.u rfl) (fun _=>RdN.part (n:=5) (cs':=h.cells) .here (rfl)) (fun _=>rfl) ?_
 refine .p (ci rfl .no rfl cW (.u rfl) ?_)
 refine lA rfl .no fB (.u rfl) (fun _=>RdN.part (n:=5) (cs':=h.cells) .here (rfl)) (fun _=>rfl) ?_
 refine .p (kV rfl aTk (aB rfl (aB rfl aE)) (aPa root h _ hR) ?_)
 refine kV rfl aTl (aB rfl aE) (aPb _ _) ?_
 refine kc rfl aEy (aB rfl aE) (Ct.frzB (aDo h _)) ?_
 rintro _ G17 μ17 hG17 ⟨h17,L17,eL17,rfl,rfl,hs17⟩
 have hs:=hs.mono hG17
 have hR:=hR.mono hG17
 refine kc rfl aS3 (aB rfl (aB rfl (aB rfl (aB rfl aE)))) (aPc (dE root (aX h)) (dF root (aX h)) (hZ (BitVec.ofInt 64 (part:Int))) L17 h17 xs hx _ hs17 hs hR (by rw [eL17,mR]; decide) (by omega)) ?_
 rintro _ G19 μ19 hG19 ⟨v19,L19,e19,hO19,rfl,rfl⟩
 refine eX rfl rfl rfl (eX rfl rfl rfl (aS rfl rfl (aS rfl rfl (.nc (.ret ?_)))))
 refine aBo .here (by first|(intro b hb; cases hb; done) | simp [keys,Res.keys]) ?_; intro GfR19 hR19 hleR19 evR19 hsR19; subst evR19
 refine aP Tryz.results104 (.tmp rfl (.tmp rfl .nil)) ?_
 exact ⟨hR19,L19,e19,by rw [eL17] at hO19; exact hO19,rfl,rfl,hsR19⟩
theorem aPP (s:ByteArray) (G:PM) (hl:s.size≤1000000000):Ct Tryz.prog 134 ([.string s]:List Value).toArray G [] (fun _ μ' u=>μ'=[]∧u=.tuple #[(fF (yb s)).1.val,.int .i64 (fF (yb s)).2]):=by
 refine Ct.of Tryz.func134 rfl Tryz.ntmps134 rfl fun w0 hs0=>?_
 obtain ⟨E9,eE9⟩ : ∃ E,E=(⟨aN ((yb s).take (s.size-8)),(bU (yb (aN ((yb s).drop (s.size-8)))) 8) / 256#64,((bU (yb (aN ((yb s).drop (s.size-8)))) 8)%256#64).setWidth 8,ByteArray.empty⟩ : Ent):=⟨_,rfl⟩
 have hE9:=aQP rfl eE9
 refine .seq (bD rfl rfl ?_)
 refine al rfl mJ ?_; intro b2
 refine .g (ls rfl .no cI (.u rfl) (aR rfl rfl rfl rfl ?_))
 refine .g (cP rfl rfl rfl rfl (.g (cD rfl (fun c1=>?_) (fun c1=>?_))))
 ·have c1k:=c1
  try simp only [aC,aD] at c1
  refine .g (dU (Ent.zero.cells) rfl .no tH .nil rfl (rfl) ?_)
  refine sw rfl (.u rfl) (.u rfl) rfl fN .here rfl (Ent.one _) ?_
  refine aS rfl rfl (.nc (.ret (aP Tryz.results134 (.cell rfl (fun w hw=>bW dN (RdN.own .here) (Ent.len _) hw) (.tmp rfl .nil)) ?_)))
  exact ⟨rfl,by rw [aJM (by omega)]; rfl⟩
 have c1k:=c1
 try simp only [aC,aD] at c1
 refine .skip (.code (.seq ?_))
 have l8:(yb (aN ((yb s).drop (s.size-8)))).length=8:=by rw [iD,List.length_drop,bP]; omega
 refine .g (sD ((s.size-8)) rfl .no cI (.u rfl) (.u rfl) (by omega) (by omega) ?_)
 refine rH rfl rfl rZ (.u rfl) ?_; intro G17 h17 hG17 hs17
 refine dU ([h17.val (yb (aN ((yb s).drop (s.size-8)))).length,.int .i64 0,.int .i64 0]) rfl .no aAJ (.cons (.u rfl) rfl .nil) rfl (rfl) ?_
 refine al rfl aK2 ?_; intro b5
 refine sw rfl (.u rfl) (.u rfl) rfl aKz .here rfl (lQ rfl rfl rfl) ?_
 refine .g (ka rfl (.inr rfl) xK (aB rfl (aB rfl aE)) (bQ .here) (zN (yb (aN ((yb s).drop (s.size-8)))) h17 0 b5 _ hs17 (by omega) (by omega)) ?_)
 rintro _ G19 μ19 hG19 ⟨rfl,rfl⟩
 refine .g (sE ((s.size-8)) rfl .no cI (.u rfl) (.u rfl) (by omega) (by omega) ?_)
 refine .p (dw (k:=.u64) (b:=256#64) rfl .no rfl (.u rfl) (.u rfl) (fun _=>show (256#64:BitVec 64)≠0#64 by decide) ?_)
 refine .p (mw (k:=.u64) (b:=256#64) rfl .no (.u rfl) (.u rfl) (fun _=>show (256#64:BitVec 64)≠0#64 by decide) ?_)
 refine cu (k:=.u64) rfl .no rfl kU (.u rfl) ?_
 refine dU (E9.cells) rfl .no aJ7 (.cons (.u rfl) rfl (.cons (.u rfl) rfl (.cons (.u rfl) rfl .nil))) rfl (by rw [eE9]; rfl) ?_
 refine al rfl mJ ?_; intro b7
 refine sw rfl (.u rfl) (.u rfl) rfl fN .here rfl (Ent.one _) ?_
 refine .g (lA rfl .no dN (.u rfl) (fun _=>RdN.own .here) (fun _=>(by first|rfl|exact Ent.len _)) ?_)
 refine kV rfl aKl (aB rfl aE) (aHv E9 _) ?_
 refine nt rfl .no (.u rfl) (.g (cD rfl (fun c2=>?_) (fun c2=>?_)))
 ·have c2k:=c2
  try simp only [aC,aD] at c2
  refine .g (dU (Ent.zero.cells) rfl .no tH .nil rfl (rfl) ?_)
  refine sw rfl (.u rfl) (.u rfl) rfl fN aT rfl (Ent.one _) ?_
  refine aS rfl rfl (.nc (.ret (aP Tryz.results134 (.cell rfl (fun w hw=>bW dN (RdN.own .here) (Ent.len _) hw) (.tmp rfl .nil)) ?_)))
  exact ⟨rfl,by rw [aQO (by omega) hE9 (by simpa using c2k)]; rfl⟩
 have c2k:=c2
 try simp only [aC,aD] at c2
 refine .g (lA rfl .no dN (.u rfl) (fun _=>RdN.own .here) (fun _=>(by first|rfl|exact Ent.len _)) ?_)
 refine sw rfl (.u rfl) (.u rfl) rfl fN aT rfl (Ent.one _) ?_
 refine aS rfl rfl (.nc (.ret (aP Tryz.results134 (.cell rfl (fun w hw=>bW dN (RdN.own .here) (Ent.len _) hw) (.tmp rfl .nil)) ?_)))
 exact ⟨rfl,by rw [aQQ (by omega) hE9 (by simpa using c2k)]; rfl⟩
theorem xR:iS Tryz.prog 109=some ([.slice none 0 0,.slice none 0 0,.slice none 0 0]):=by kernel_rfl
theorem kT:dT Tryz.prog 109=some (some 3):=by kernel_rfl
theorem nT:dG Tryz.prog 109=some 3:=by kernel_rfl
theorem aB1:cK Tryz.prog 109 0=some 0:=by kernel_rfl
theorem aEY:dT Tryz.prog 71=some none:=by kernel_rfl
theorem aKY:aQ Tryz.prog 131=true:=by kernel_rfl
theorem aK1:dG Tryz.prog 71=some 1:=by kernel_rfl
theorem rW:cK Tryz.prog 109 1=some 1:=by kernel_rfl
theorem xH:dT Tryz.prog 107=some none:=by kernel_rfl
theorem tO:cG Tryz.prog 107=some (3,1,8):=by kernel_rfl
theorem xT:(Tryz.prog.info? 3).bind (·.zero)=some (.int .i64 0):=by kernel_rfl
theorem aE3:dG Tryz.prog 107=some 1:=by kernel_rfl
theorem oQ:cK Tryz.prog 109 2=some 2:=by kernel_rfl
theorem xM:aQ Tryz.prog 132=true:=by kernel_rfl
theorem aS4:aQ Tryz.prog 133=true:=by kernel_rfl
theorem wP (B:List Y) (I:Nat) (e:Int) (s:Sh) (b:Nat) (G:PM) (hs:SlR G 1 aL s B) (hI:I≤B.length) (hl:B.length≤100000000000000):Ct Tryz.prog 132 ([.pointer (some ⟨b,0,none⟩)]:List Value).toArray G [.blk b (cl [Sh.val s B.length,.int .i64 (I:Int),.int .i64 e] 155)] (fun G' μ' u=>∃ (rt:List Y) (f:Nat→Y) (I':Nat) (e':Int),rt.length=32∧(∀ i,f i=rt.getD i 0)∧ByR ⟨B.drop I,e⟩ ⟨B.drop I',e'⟩ false rt∧I'≤B.length∧I≤I'∧(e'=0→e=0)∧μ'=[.blk b (cl [Sh.val s B.length,.int .i64 (I':Int),.int .i64 e'] 155)]∧u=.agg (ba 32 f).toArray):=by
 refine Ct.of Tryz.func132 rfl Tryz.ntmps132 rfl fun w0 hs0=>?_
 refine .seq (aM rfl rfl ?_)
 refine al rfl fT ?_; intro b2
 refine .nil (.code (.seq (aM rfl rfl ?_)))
 refine al rfl fT ?_; intro b3
 refine .nil (.code (.seq (.seq (aM rfl rfl (aS rfl rfl (.nc (.block ?_)))))))
 refine bE (α:=Nat×Nat×Int×(Nat→Y)×List Y) (fun gh=>[(4,true,.int .i64 (gh.1:Int))]) (fun gh=>[.blk b3 (cl (ba 32 gh.2.2.2.1) 23),.blk b (cl [Sh.val s B.length,.int .i64 (gh.2.1:Int),.int .i64 gh.2.2.1] 155)])
  (fun gh Gl=>(gh.1≤32)∧(gh.2.2.2.2.length=gh.1)∧(ByR ⟨B.drop I,e⟩ ⟨B.drop gh.2.1,gh.2.2.1⟩ false gh.2.2.2.2)∧(∀ i,gh.2.2.2.1 i=gh.2.2.2.2.getD i 0)∧(gh.2.1≤B.length)∧(I≤gh.2.1)∧(gh.2.2.1=0→e=0)) (fun gh=>32-gh.1) (0,I,e,(fun _=>0#8),[]) [(0,true,_),(2,true,_),(3,true,_)] [_]
  (aO rfl (aA rfl (aA rfl (aA rfl eZ))))
  (mS .here rfl (mS aF rfl (mS .here rfl mN))) ?_ ?_
 ·refine ⟨?_,?_,?_,?_,?_,?_,?_⟩
  ·(try dsimp only)<;>(first|omega|rfl|assumption|(simp; done))
  ·(try dsimp only)<;>(first|omega|rfl|assumption|(simp; done))
  ·(try dsimp only)<;>(exact ByR.zero)
  ·(try dsimp only)<;>(exact fun i=>by simp)
  ·(try dsimp only)<;>(first|omega|rfl|assumption|(simp; done))
  ·(try dsimp only)<;>(first|omega|rfl|assumption|(simp; done))
  (try dsimp only)<;>(exact fun q=>q)
 intro gh N0 Gl0 hN0 hGl0 hF0
 obtain ⟨k,J,ee,f,rt⟩:=gh; dsimp only at hF0 hN0 ⊢
 obtain ⟨hk,hr,hB,ef,hJ,hIJ,hee⟩:=hF0
 have hs:=hs.mono hGl0
 refine .g (cP rfl rfl rfl rfl (.g (cD rfl (fun c1=>?_) (fun c1=>?_))))
 ·have c1k:=c1
  try simp only [aC,aD] at c1
  refine .g (ka rfl (.inr rfl) xK (aB rfl (aB rfl aE)) (bQ aF) (aPD B J ee s b _ hs hJ (by omega)) ?_)
  rintro _ G11 μ11 hG11 ⟨y11,I11,e11,hN11,hI11,rfl,rfl⟩
  refine cu (k:=.u64) rfl .no rfl kU (.u rfl) ?_
  refine iW rfl gB rfl rfl ?_
  refine s1 rfl (.u rfl) (.u rfl) rfl fW aF (by rw [aU]; omega) (hH (k) (by omega)) ?_
  refine .g (aW (((k+1):Nat):Int) rfl rfl rfl rfl ?_)
  refine .g (aZ (k+1,I11,e11,bA f k ((y11.setWidth 64).setWidth 8),rt++[y11]) ?_ ?_ ?_ ?_ ?_)
  ·exact (aO rfl (aA rfl (aA rfl (aA rfl eZ))))
  ·exact (mS .here rfl (mS .here rfl (mS .here rfl mN)))
  ·first|omega|(dsimp only; omega)
  ·exact (hGl0).trans hG11
  refine ⟨?_,?_,?_,?_,?_,?_,?_⟩
  ·(try dsimp only)<;>(first|omega|rfl|assumption|(simp; done))
  ·(try dsimp only)<;>(simp [hr])
  ·(try dsimp only)<;>(exact hB.step (by omega) hN11)
  ·(try dsimp only)<;>(exact zO hr ef)
  ·(try dsimp only)<;>(first|omega|rfl|assumption|(simp; done))
  ·(try dsimp only)<;>(exact Nat.le_trans hIJ (aPq hN11 hI11 hJ))
  (try dsimp only)<;>(exact fun q=>hee (aPr hN11 q))
 have c1k:=c1
 try simp only [aC,aD] at c1
 refine .g (lA rfl .no cH (.u rfl) (fun _=>RdN.own .here) (fun _=>aU _ _) ?_)
 refine sw rfl (.u rfl) (.u rfl) rfl fH aT rfl (dW _ _) ?_
 refine .nil (.code (.ret (We.fin Tryz.results132 (.cell rfl (fun w hw=>bW cH (RdN.own .here) ((by first|exact aU _ _|rfl)) hw) .nil) (mS aT rfl mN) ?_)))
 obtain rfl:k=32:=by omega
 exact ⟨rt,f,J,ee,hr,ef,hB,hJ,hIJ,hee,rfl,rfl⟩
set_option maxHeartbeats 2000000 in
theorem aPY (B A0:List Y) (h:Sh) (G:PM) (hs:SlR G 1 aL h B) (hl:B.length≤1000000) (hl0:A0.length≤1000000):Ct Tryz.prog 105 ([h.val B.length,.int .i64 (A0.length:Int)]:List Value).toArray G [] (fun G' μ' u=>∃ (hb hz hd:Sh) (bs:List ByteArray) (zs:List Nat) (ds:List Dg) (ok:Bool),aAa ((cT fun n r=>if 0<n then cS (n+1) [] A0 r else none) B) bs zs ds ok∧ds.length≤B.length+2∧μ'=[]∧u=.tuple #[.agg #[hb.val bs.length,hz.val zs.length,hd.val ds.length],.bool ok]∧SlR G' 1 kC hb bs∧SlR G' 1 yR hz zs∧SlR G' 32 (ba 32) hd ds):=by
 refine Ct.of Tryz.func105 rfl Tryz.ntmps105 rfl fun w0 hs0=>?_
 obtain ⟨O,hO⟩ : ∃ O,O=(cT fun n r=>if 0<n then cS (n+1) [] A0 r else none) B:=⟨_,rfl⟩
 rw [← hO]
 refine .seq (bD rfl rfl ?_)
 refine al rfl xR ?_; intro b4
 refine aS rfl rfl (.nc (.seq (aM rfl rfl ?_)))
 refine al rfl xR ?_; intro b6
 refine .g (dU ([h.val B.length,.int .i64 0,.int .i64 0]) rfl .no aAJ (.cons (.u rfl) rfl .nil) rfl (rfl) ?_)
 refine bX rfl rfl rfl ?_; intro b13
 refine .g (ka rfl (.inr rfl) qV (aB rfl aE) (bQ .here) (qF B 0 0 h b13 _ hs (Nat.zero_le _) (by omega)) ?_)
 rintro _ G15 μ15 hG15 ⟨n15,I15,e15,hN15,hI15,rfl,rfl⟩
 have nL15:=iN hN15
 have hs:=hs.mono hG15
 refine .g (cP rfl rfl rfl rfl (.g (cD rfl (fun c1=>?_) (fun c1=>?_))))
 ·have c1k:=c1
  try simp only [aC,aI,aD] at c1
  refine .g (lA rfl .no kT (.u rfl) (fun _=>RdN.part (n:=3) (cs':=[.slice none 0 0,.slice none 0 0,.slice none 0 0]) aF (rfl)) (fun _=>rfl) ?_)
  refine sw rfl (.u rfl) (.u rfl) rfl nT aT rfl (lQ rfl rfl rfl) ?_
  refine aS rfl rfl (.nc (.ret (aP Tryz.results105 (.cell rfl (fun w hw=>bW kT (RdN.own .here) (rfl) hw) (.tmp rfl .nil)) ?_)))
  rw [hO]
  exact ⟨⟨none,0⟩,⟨none,0⟩,⟨none,0⟩,[],[],[],false,.inr ⟨rfl,aNi hN15 (by omega) rfl⟩,Nat.zero_le _,rfl,rfl,SlR.nul,SlR.nul,SlR.nul⟩
 have c1k:=c1
 try simp only [aC,aI,aD] at c1
 refine .skip (.code (.seq (.seq (kQ 1 kC 9 ?_))))
 refine kQ 1 yR 3 ?_
 refine kQ 32 (ba 32) 23 ?_
 refine aM rfl rfl (aS rfl rfl (.nc (.block ?_)))
 refine bE (α:=Nat×Value×List ByteArray×Value×List Nat×Value×List Dg×List RowT×List Y×Nat×Int) (fun gh=>[(1,true,.int .i64 (gh.2.2.2.2.2.2.2.2.1.length:Int)),(9,true,.int .u64 (gh.1:Int))]) (fun gh=>[rS 32 (ba 32) gh.2.2.2.2.2.1 23 gh.2.2.2.2.2.2.1,rS 1 yR gh.2.2.2.1 3 gh.2.2.2.2.1,rS 1 kC gh.2.1 9 gh.2.2.1,.blk b13 (cl [Sh.val h B.length,.int .i64 (gh.2.2.2.2.2.2.2.2.2.1:Int),.int .i64 gh.2.2.2.2.2.2.2.2.2.2] 155),.blk b6 (cl [gh.2.1,gh.2.2.2.1,gh.2.2.2.2.2.1] 109)])
  (fun gh Gl=>(gh.1≤n15+1)∧(vK O n15 gh.1 gh.2.2.2.2.2.2.2.1 gh.2.2.2.2.2.2.2.2.1 (B.drop gh.2.2.2.2.2.2.2.2.2.1) gh.2.2.2.2.2.2.2.2.2.2)∧(gh.2.2.2.2.2.2.2.1.length=gh.1)∧(gh.2.2.1=(gh.2.2.2.2.2.2.2.1.take n15).map (fun x=>aN x.bound))∧(gh.2.2.2.2.1=gh.2.2.2.2.2.2.2.1.map (·.bytes.length))∧(gh.2.2.2.2.2.2.1=gh.2.2.2.2.2.2.2.1.map (·.leaf))∧(gh.2.2.2.2.2.2.2.2.2.1≤B.length)∧(gh.2.2.2.2.2.2.2.2.2.2=0→gh.1≤gh.2.2.2.2.2.2.2.2.2.1)∧(gh.1≤B.length+1)∧(gh.2.2.2.2.2.2.2.2.1.length≤A0.length)) (fun gh=>n15+1-gh.1) (0,.slice none 0 0,[],.slice none 0 0,[],.slice none 0 0,[],[],A0,I15,e15) [(4,true,_),(6,true,_),(7,true,_),(8,true,_)] [_]
  (aO rfl (aA rfl (aA rfl (aA rfl (aA rfl (aA rfl eZ))))))
  (mS .here rfl (mS .here rfl (mS .here rfl (mS .here rfl (mS .here rfl (mS .here rfl mN)))))) ?_ ?_
 ·refine ⟨?_,?_,?_,?_,?_,?_,?_,?_,?_,?_⟩
  ·(try dsimp only)<;>(first|omega|rfl|assumption|(simp; done))
  ·(try dsimp only)<;>(exact aNj hN15 (by omega) hO)
  ·(try dsimp only)<;>(first|omega|rfl|assumption|(simp; done))
  ·(try dsimp only)<;>(exact (by simp))
  ·(try dsimp only)<;>(rfl)
  ·(try dsimp only)<;>(rfl)
  ·(try dsimp only)<;>(first|omega|rfl|assumption|(simp; done))
  ·(try dsimp only)<;>(exact fun _=>Nat.zero_le _)
  ·(try dsimp only)<;>(first|omega|rfl|assumption|(simp; done))
  (try dsimp only)<;>(first|omega|rfl|assumption|(simp; done))
 intro gh N0 Gl0 hN0 hGl0 hF0
 obtain ⟨k,vb,bs,vz,zs,vd,D,acc,A,J,ee⟩:=gh; dsimp only at hF0 hN0 ⊢
 obtain ⟨hk,hS,hla,hbs,hzs,hds,hJ,hkJ,hkl,hA⟩:=hF0
 have hs:=hs.mono hGl0
 have lbs:bs.length≤k:=by rw [hbs,List.length_map,List.length_take]; omega
 have lzs:zs.length=k:=by rw [hzs,List.length_map,hla]
 have lD:D.length=k:=by rw [hds,List.length_map,hla]
 refine .g (cP rfl rfl rfl rfl (mV rfl rfl (mv rfl (.t rfl rfl) (.u rfl) (nc rfl (.t rfl rfl) (.s rfl) (fz rfl (.t rfl rfl) oT (.s rfl) (ld rfl (.t rfl rfl) gD (.s rfl) (fun hc=>Rd.own bM (by first|exact aJ rfl|rfl)) ?_))))))
 refine cp rfl (.t rfl rfl) (.s rfl) (.u rfl) rfl (cC rfl .no (.u rfl) (.s rfl) (.g (cD rfl (fun c2=>?_) (fun c2=>?_))))
 ·have c2k:=c2
  try simp only [aC,aI,aD] at c2
  refine .skip (.code (.seq (.block (.seq (.seq ?_)))))
  obtain rfl:ee=0:=by omega
  refine .g (cP rfl rfl rfl rfl (.g (cD rfl (fun c3=>?_) (fun c3=>?_))))
  ·have c3k:=c3
   try simp only [aC,aI,aD] at c3
   refine dP ⟨true,false⟩ aV (by kernel_rfl) ?_
   refine Wp.one 0 (by kernel_rfl) ?_
   refine fZ rfl aB1 rfl (.nil (Wp.one 2 (by kernel_rfl) ?_))
   refine mV rfl rfl (.nil (Wp.b2 1 3 (by kernel_rfl) ?_ ?_))
   ·refine lO rfl aEY rfl fG (by first|exact aJ rfl|rfl) ?_
    refine .nil (Wp.b1 3 (by kernel_rfl) ?_)
    refine ka rfl (.inl rfl) aKY (aB rfl (aB rfl aE)) (bQ bM) (aHo B J 0 h b13 _ hs hJ (by omega) 1024 (by decide)) ?_
    rintro _ G37 μ37 hG37 ⟨M37,I37,e37,hN37,hI37,rfl,rfl⟩
    have hs:=hs.mono hG37
    refine .nil (Wp.b1 4 (by kernel_rfl) ?_)
    refine Go.Tan.b1 rfl jG rY (.u rfl) rfl rfl (by decide) ?_; intro b38
    refine .nil (Wp.b1 5 (by kernel_rfl) ?_)
    refine fK (xs:=bs) ((aN M37)) rfl jG rY rfl (.u rfl) (.u rfl) fG .here (rfl) (mW rfl) (by omega) (by unfold maxLen; omega) ?_; intro v39 ov39
    refine .nil (Wp.one 6 (by kernel_rfl) ?_)
    refine fZ rfl aB1 rfl (.nil (Wp.b1 7 (by kernel_rfl) ?_))
    refine fR rfl (.u rfl) (.u rfl) .here aK1 nP (show 0<3 by decide) (rfl) ?_
    refine .nil (Wp.last (by kernel_rfl) ?_)
    refine .g (ka rfl (.inr rfl) qV (aB rfl aE) (bQ bM) (qF B I37 e37 h b13 _ hs hI37 (by omega)) ?_)
    rintro _ G42 μ42 hG42 ⟨n42,I42,e42,hN42,hI42,rfl,rfl⟩
    have nL42:=iN hN42
    have hs:=hs.mono hG42
    refine .g (cw rfl .no cW (.u rfl) (fun _=>eY (by omega) (by omega)) ?_)
    refine cP rfl rfl rfl rfl (.g (cD rfl (fun c4=>?_) (fun c4=>?_)))
    ·have c4k:=c4
     try simp only [aC,aI,aD] at c4
     refine .seq ?_
     refine jC aT (fun _ _=>rfl) (by intro b hb; cases hb) ?_; intro GfRB hRB hleRB evRB hsRB; subst evRB
     have hs:=hs.mono hleRB
     refine jC fG (fun _ _=>rfl) (by intro b hb; cases hb) ?_; intro GfRZ hRZ hleRZ evRZ hsRZ; subst evRZ
     have hs:=hs.mono hleRZ
     have hsRB:=hsRB.mono hleRZ
     refine jC bM (fun _ _=>aU _ _) (by intro b hb; cases hb) ?_; intro GfRL hRL hleRL evRL hsRL; subst evRL
     have hs:=hs.mono hleRL
     have hsRB:=hsRB.mono hleRL
     have hsRZ:=hsRZ.mono hleRL
     refine .g (lA rfl .no kT (.u rfl) (fun _=>RdN.part (n:=3) (cs':=_) aF (rfl)) (fun _=>rfl) ?_)
     refine sw rfl (.u rfl) (.u rfl) rfl nT bM rfl (lQ rfl rfl rfl) ?_
     refine aS rfl rfl (.nc (.ret (aP Tryz.results105 (.cell rfl (fun w hw=>bW kT (RdN.own .here) (rfl) hw) (.tmp rfl .nil)) ?_)))
     have hT9:=((wD hS rfl (by omega)).strE hN37).numE hN42
     exact ⟨hRB,hRZ,hRL,bs++[aN M37],zs,D,false,.inr ⟨rfl,aDB hT9 (by omega)⟩,by omega,rfl,rfl,hsRB,hsRZ,hsRL⟩
    have c4k:=c4
    try simp only [aC,aI,aD] at c4
    refine .g (cw rfl .no jF (.u rfl) (fun _=>cB (by omega) (by omega)) ?_)
    refine aW (((A.length-n42):Nat):Int) rfl rfl rfl rfl ?_
    refine .g (fZ rfl rW rfl (lO rfl xH rfl aF (by first|exact aJ rfl|rfl) ?_))
    refine .p (cw rfl .no jF (.u rfl) (fun _=>cB (by omega) (by omega)) ?_)
    refine Go.Tan.b1 rfl tO xT (.u rfl) rfl rfl (by decide) ?_; intro b56
    refine fK (xs:=zs) (n42) rfl tO xT rfl (.u rfl) (.u rfl) rU .here (rfl) (mW rfl) (by omega) (by unfold maxLen; omega) ?_; intro v57 ov57
    refine fZ rfl rW rfl (fR rfl (.u rfl) (.u rfl) .here aE3 bM (show 1<3 by decide) (rfl) ?_)
    refine .nil (.code (dP ⟨true,false⟩ aV (by kernel_rfl) ?_))
    refine Wp.one 0 (by kernel_rfl) ?_
    refine fZ rfl oQ rfl (.nil (Wp.one 2 (by kernel_rfl) ?_))
    refine mV rfl rfl (.nil (Wp.b2 1 3 (by kernel_rfl) ?_ ?_))
    ·refine lO rfl pN rfl .here (by first|exact aJ rfl|rfl) ?_
     refine .nil (Wp.b1 3 (by kernel_rfl) ?_)
     refine ka rfl (.inl rfl) xM (aB rfl aE) (bQ bM) (wP B I42 e42 h b13 _ hs hI42 (by omega)) ?_
     rintro _ G62 μ62 hG62 ⟨rt62,f62,I62,e62,hr62,hf62,hB62,hI62,hle62,hee62,rfl,rfl⟩
     have hs:=hs.mono hG62
     refine .nil (Wp.b1 4 (by kernel_rfl) ?_)
     refine Go.Tan.b1 rfl dM fJ (.u rfl) rfl rfl (by decide) ?_; intro b63
     refine .nil (Wp.b1 5 (by kernel_rfl) ?_)
     refine fK (xs:=D) (f62) rfl dM fJ rfl (.u rfl) (.u rfl) tk7 .here (aU _ _) (dW _ _) (by omega) (by unfold maxLen; omega) ?_; intro v64 ov64
     refine .nil (Wp.one 6 (by kernel_rfl) ?_)
     refine fZ rfl oQ rfl (.nil (Wp.b1 7 (by kernel_rfl) ?_))
     refine fR rfl (.u rfl) (.u rfl) .here vI bM (show 2<3 by decide) (rfl) ?_
     refine .nil (Wp.last (by kernel_rfl) ?_)
     refine .g (ar rfl .no (.u rfl) (.u rfl) rfl (fun _=>eY (by omega) (by omega)) ?_)
     refine aS rfl rfl (.nil ?_)
     have hT9:=((wD hS rfl (by omega)).strE hN37).numE hN42
     have hI7:=aBO hN37 hI37 hJ
     refine aZ (k+1,v39,bs++[aN M37],v57,zs++[n42],v64,D++[f62],acc++[⟨M37,A.take n42,f62⟩],A.drop n42,I62,e62) ?_ ?_ ?_ ?_ ?_
     ·exact (fD rfl (oB (by dsimp only; rw [List.length_drop])) (fD rfl (congrArg (Value.int .u64) (by dsimp only; omega)) (aA rfl (aA rfl (aA rfl (aA rfl eZ))))))
     ·exact (mS aF rfl (mS bM rfl (mS fG rfl (mS aT rfl (mS .here rfl (mS bM rfl mN))))))
     ·first|omega|(dsimp only; omega)
     ·exact (((hGl0).trans hG37).trans hG42).trans hG62
     refine ⟨?_,?_,?_,?_,?_,?_,?_,?_,?_,?_⟩
     ·(try dsimp only)<;>(first|omega|rfl|assumption|(simp; done))
     ·(try dsimp only)<;>(exact wC hf62 (hB62.all hr62 hT9) (by omega))
     ·(try dsimp only)<;>(rw [List.length_append,hla]; rfl)
     ·(try dsimp only)<;>(rw [hbs,List.take_of_length_le (by omega),List.take_of_length_le (by rw [List.length_append,hla]; show k+1≤_; omega),List.map_append]; rfl)
     ·(try dsimp only)<;>(rw [List.map_append,hzs]; exact congrArg (_++[·]) (by show n42=(A.take n42).length; rw [List.length_take]; omega))
     ·(try dsimp only)<;>(rw [List.map_append,hds]; rfl)
     ·(try dsimp only)<;>(exact hI62)
     ·(try dsimp only)<;>(exact fun q=>by have h1:=wR hN42 hI42 hI37 (hee62 q); have:=hkJ rfl; omega)
     ·(try dsimp only)<;>(have:=hkJ rfl; omega)
     (try dsimp only)<;>(rw [List.length_drop]; omega)
    refine ka rfl (.inl rfl) xM (aB rfl aE) (bQ bM) (wP B I42 e42 h b13 _ hs hI42 (by omega)) ?_
    rintro _ G62 μ62 hG62 ⟨rt62,f62,I62,e62,hr62,hf62,hB62,hI62,hle62,hee62,rfl,rfl⟩
    have hs:=hs.mono hG62
    refine .nil (Wp.one 1 (by kernel_rfl) ?_)
    refine lO rfl pN rfl aF (by first|exact aJ rfl|rfl) ?_
    refine .nil (Wp.b1 4 (by kernel_rfl) ?_)
    refine Go.Tan.b1 rfl dM fJ (.u rfl) rfl rfl (by decide) ?_; intro b63
    refine .nil (Wp.b1 5 (by kernel_rfl) ?_)
    refine fK (xs:=D) (f62) rfl dM fJ rfl (.u rfl) (.u rfl) tk7 .here (aU _ _) (dW _ _) (by omega) (by unfold maxLen; omega) ?_; intro v64 ov64
    refine .nil (Wp.one 6 (by kernel_rfl) ?_)
    refine fZ rfl oQ rfl (.nil (Wp.b1 7 (by kernel_rfl) ?_))
    refine fR rfl (.u rfl) (.u rfl) .here vI bM (show 2<3 by decide) (rfl) ?_
    refine .nil (Wp.last (by kernel_rfl) ?_)
    refine .g (ar rfl .no (.u rfl) (.u rfl) rfl (fun _=>eY (by omega) (by omega)) ?_)
    refine aS rfl rfl (.nil ?_)
    have hT9:=((wD hS rfl (by omega)).strE hN37).numE hN42
    have hI7:=aBO hN37 hI37 hJ
    refine aZ (k+1,v39,bs++[aN M37],v57,zs++[n42],v64,D++[f62],acc++[⟨M37,A.take n42,f62⟩],A.drop n42,I62,e62) ?_ ?_ ?_ ?_ ?_
    ·exact (fD rfl (oB (by dsimp only; rw [List.length_drop])) (fD rfl (congrArg (Value.int .u64) (by dsimp only; omega)) (aA rfl (aA rfl (aA rfl (aA rfl eZ))))))
    ·exact (mS aF rfl (mS bM rfl (mS fG rfl (mS aT rfl (mS .here rfl (mS bM rfl mN))))))
    ·first|omega|(dsimp only; omega)
    ·exact (((hGl0).trans hG37).trans hG42).trans hG62
    refine ⟨?_,?_,?_,?_,?_,?_,?_,?_,?_,?_⟩
    ·(try dsimp only)<;>(first|omega|rfl|assumption|(simp; done))
    ·(try dsimp only)<;>(exact wC hf62 (hB62.all hr62 hT9) (by omega))
    ·(try dsimp only)<;>(rw [List.length_append,hla]; rfl)
    ·(try dsimp only)<;>(rw [hbs,List.take_of_length_le (by omega),List.take_of_length_le (by rw [List.length_append,hla]; show k+1≤_; omega),List.map_append]; rfl)
    ·(try dsimp only)<;>(rw [List.map_append,hzs]; exact congrArg (_++[·]) (by show n42=(A.take n42).length; rw [List.length_take]; omega))
    ·(try dsimp only)<;>(rw [List.map_append,hds]; rfl)
    ·(try dsimp only)<;>(exact hI62)
    ·(try dsimp only)<;>(exact fun q=>by have h1:=wR hN42 hI42 hI37 (hee62 q); have:=hkJ rfl; omega)
    ·(try dsimp only)<;>(have:=hkJ rfl; omega)
    (try dsimp only)<;>(rw [List.length_drop]; omega)
   refine ka rfl (.inl rfl) aKY (aB rfl (aB rfl aE)) (bQ bM) (aHo B J 0 h b13 _ hs hJ (by omega) 1024 (by decide)) ?_
   rintro _ G37 μ37 hG37 ⟨M37,I37,e37,hN37,hI37,rfl,rfl⟩
   have hs:=hs.mono hG37
   refine .nil (Wp.one 1 (by kernel_rfl) ?_)
   refine lO rfl aEY rfl fG (by first|exact aJ rfl|rfl) ?_
   refine .nil (Wp.b1 4 (by kernel_rfl) ?_)
   refine Go.Tan.b1 rfl jG rY (.u rfl) rfl rfl (by decide) ?_; intro b38
   refine .nil (Wp.b1 5 (by kernel_rfl) ?_)
   refine fK (xs:=bs) ((aN M37)) rfl jG rY rfl (.u rfl) (.u rfl) fG .here (rfl) (mW rfl) (by omega) (by unfold maxLen; omega) ?_; intro v39 ov39
   refine .nil (Wp.one 6 (by kernel_rfl) ?_)
   refine fZ rfl aB1 rfl (.nil (Wp.b1 7 (by kernel_rfl) ?_))
   refine fR rfl (.u rfl) (.u rfl) .here aK1 nP (show 0<3 by decide) (rfl) ?_
   refine .nil (Wp.last (by kernel_rfl) ?_)
   refine .g (ka rfl (.inr rfl) qV (aB rfl aE) (bQ bM) (qF B I37 e37 h b13 _ hs hI37 (by omega)) ?_)
   rintro _ G42 μ42 hG42 ⟨n42,I42,e42,hN42,hI42,rfl,rfl⟩
   have nL42:=iN hN42
   have hs:=hs.mono hG42
   refine .g (cw rfl .no cW (.u rfl) (fun _=>eY (by omega) (by omega)) ?_)
   refine cP rfl rfl rfl rfl (.g (cD rfl (fun c4=>?_) (fun c4=>?_)))
   ·have c4k:=c4
    try simp only [aC,aI,aD] at c4
    refine .seq ?_
    refine jC aT (fun _ _=>rfl) (by intro b hb; cases hb) ?_; intro GfRB hRB hleRB evRB hsRB; subst evRB
    have hs:=hs.mono hleRB
    refine jC fG (fun _ _=>rfl) (by intro b hb; cases hb) ?_; intro GfRZ hRZ hleRZ evRZ hsRZ; subst evRZ
    have hs:=hs.mono hleRZ
    have hsRB:=hsRB.mono hleRZ
    refine jC bM (fun _ _=>aU _ _) (by intro b hb; cases hb) ?_; intro GfRL hRL hleRL evRL hsRL; subst evRL
    have hs:=hs.mono hleRL
    have hsRB:=hsRB.mono hleRL
    have hsRZ:=hsRZ.mono hleRL
    refine .g (lA rfl .no kT (.u rfl) (fun _=>RdN.part (n:=3) (cs':=_) aF (rfl)) (fun _=>rfl) ?_)
    refine sw rfl (.u rfl) (.u rfl) rfl nT bM rfl (lQ rfl rfl rfl) ?_
    refine aS rfl rfl (.nc (.ret (aP Tryz.results105 (.cell rfl (fun w hw=>bW kT (RdN.own .here) (rfl) hw) (.tmp rfl .nil)) ?_)))
    have hT9:=((wD hS rfl (by omega)).strE hN37).numE hN42
    exact ⟨hRB,hRZ,hRL,bs++[aN M37],zs,D,false,.inr ⟨rfl,aDB hT9 (by omega)⟩,by omega,rfl,rfl,hsRB,hsRZ,hsRL⟩
   have c4k:=c4
   try simp only [aC,aI,aD] at c4
   refine .g (cw rfl .no jF (.u rfl) (fun _=>cB (by omega) (by omega)) ?_)
   refine aW (((A.length-n42):Nat):Int) rfl rfl rfl rfl ?_
   refine .g (fZ rfl rW rfl (lO rfl xH rfl aF (by first|exact aJ rfl|rfl) ?_))
   refine .p (cw rfl .no jF (.u rfl) (fun _=>cB (by omega) (by omega)) ?_)
   refine Go.Tan.b1 rfl tO xT (.u rfl) rfl rfl (by decide) ?_; intro b56
   refine fK (xs:=zs) (n42) rfl tO xT rfl (.u rfl) (.u rfl) rU .here (rfl) (mW rfl) (by omega) (by unfold maxLen; omega) ?_; intro v57 ov57
   refine fZ rfl rW rfl (fR rfl (.u rfl) (.u rfl) .here aE3 bM (show 1<3 by decide) (rfl) ?_)
   refine .nil (.code (dP ⟨true,false⟩ aV (by kernel_rfl) ?_))
   refine Wp.one 0 (by kernel_rfl) ?_
   refine fZ rfl oQ rfl (.nil (Wp.one 2 (by kernel_rfl) ?_))
   refine mV rfl rfl (.nil (Wp.b2 1 3 (by kernel_rfl) ?_ ?_))
   ·refine lO rfl pN rfl .here (by first|exact aJ rfl|rfl) ?_
    refine .nil (Wp.b1 3 (by kernel_rfl) ?_)
    refine ka rfl (.inl rfl) xM (aB rfl aE) (bQ bM) (wP B I42 e42 h b13 _ hs hI42 (by omega)) ?_
    rintro _ G62 μ62 hG62 ⟨rt62,f62,I62,e62,hr62,hf62,hB62,hI62,hle62,hee62,rfl,rfl⟩
    have hs:=hs.mono hG62
    refine .nil (Wp.b1 4 (by kernel_rfl) ?_)
    refine Go.Tan.b1 rfl dM fJ (.u rfl) rfl rfl (by decide) ?_; intro b63
    refine .nil (Wp.b1 5 (by kernel_rfl) ?_)
    refine fK (xs:=D) (f62) rfl dM fJ rfl (.u rfl) (.u rfl) tk7 .here (aU _ _) (dW _ _) (by omega) (by unfold maxLen; omega) ?_; intro v64 ov64
    refine .nil (Wp.one 6 (by kernel_rfl) ?_)
    refine fZ rfl oQ rfl (.nil (Wp.b1 7 (by kernel_rfl) ?_))
    refine fR rfl (.u rfl) (.u rfl) .here vI bM (show 2<3 by decide) (rfl) ?_
    refine .nil (Wp.last (by kernel_rfl) ?_)
    refine .g (ar rfl .no (.u rfl) (.u rfl) rfl (fun _=>eY (by omega) (by omega)) ?_)
    refine aS rfl rfl (.nil ?_)
    have hT9:=((wD hS rfl (by omega)).strE hN37).numE hN42
    have hI7:=aBO hN37 hI37 hJ
    refine aZ (k+1,v39,bs++[aN M37],v57,zs++[n42],v64,D++[f62],acc++[⟨M37,A.take n42,f62⟩],A.drop n42,I62,e62) ?_ ?_ ?_ ?_ ?_
    ·exact (fD rfl (oB (by dsimp only; rw [List.length_drop])) (fD rfl (congrArg (Value.int .u64) (by dsimp only; omega)) (aA rfl (aA rfl (aA rfl (aA rfl eZ))))))
    ·exact (mS aF rfl (mS bM rfl (mS fG rfl (mS aT rfl (mS .here rfl (mS bM rfl mN))))))
    ·first|omega|(dsimp only; omega)
    ·exact (((hGl0).trans hG37).trans hG42).trans hG62
    refine ⟨?_,?_,?_,?_,?_,?_,?_,?_,?_,?_⟩
    ·(try dsimp only)<;>(first|omega|rfl|assumption|(simp; done))
    ·(try dsimp only)<;>(exact wC hf62 (hB62.all hr62 hT9) (by omega))
    ·(try dsimp only)<;>(rw [List.length_append,hla]; rfl)
    ·(try dsimp only)<;>(rw [hbs,List.take_of_length_le (by omega),List.take_of_length_le (by rw [List.length_append,hla]; show k+1≤_; omega),List.map_append]; rfl)
    ·(try dsimp only)<;>(rw [List.map_append,hzs]; exact congrArg (_++[·]) (by show n42=(A.take n42).length; rw [List.length_take]; omega))
    ·(try dsimp only)<;>(rw [List.map_append,hds]; rfl)
    ·(try dsimp only)<;>(exact hI62)
    ·(try dsimp only)<;>(exact fun q=>by have h1:=wR hN42 hI42 hI37 (hee62 q); have:=hkJ rfl; omega)
    ·(try dsimp only)<;>(have:=hkJ rfl; omega)
    (try dsimp only)<;>(rw [List.length_drop]; omega)
   refine ka rfl (.inl rfl) xM (aB rfl aE) (bQ bM) (wP B I42 e42 h b13 _ hs hI42 (by omega)) ?_
   rintro _ G62 μ62 hG62 ⟨rt62,f62,I62,e62,hr62,hf62,hB62,hI62,hle62,hee62,rfl,rfl⟩
   have hs:=hs.mono hG62
   refine .nil (Wp.one 1 (by kernel_rfl) ?_)
   refine lO rfl pN rfl aF (by first|exact aJ rfl|rfl) ?_
   refine .nil (Wp.b1 4 (by kernel_rfl) ?_)
   refine Go.Tan.b1 rfl dM fJ (.u rfl) rfl rfl (by decide) ?_; intro b63
   refine .nil (Wp.b1 5 (by kernel_rfl) ?_)
   refine fK (xs:=D) (f62) rfl dM fJ rfl (.u rfl) (.u rfl) tk7 .here (aU _ _) (dW _ _) (by omega) (by unfold maxLen; omega) ?_; intro v64 ov64
   refine .nil (Wp.one 6 (by kernel_rfl) ?_)
   refine fZ rfl oQ rfl (.nil (Wp.b1 7 (by kernel_rfl) ?_))
   refine fR rfl (.u rfl) (.u rfl) .here vI bM (show 2<3 by decide) (rfl) ?_
   refine .nil (Wp.last (by kernel_rfl) ?_)
   refine .g (ar rfl .no (.u rfl) (.u rfl) rfl (fun _=>eY (by omega) (by omega)) ?_)
   refine aS rfl rfl (.nil ?_)
   have hT9:=((wD hS rfl (by omega)).strE hN37).numE hN42
   have hI7:=aBO hN37 hI37 hJ
   refine aZ (k+1,v39,bs++[aN M37],v57,zs++[n42],v64,D++[f62],acc++[⟨M37,A.take n42,f62⟩],A.drop n42,I62,e62) ?_ ?_ ?_ ?_ ?_
   ·exact (fD rfl (oB (by dsimp only; rw [List.length_drop])) (fD rfl (congrArg (Value.int .u64) (by dsimp only; omega)) (aA rfl (aA rfl (aA rfl (aA rfl eZ))))))
   ·exact (mS aF rfl (mS bM rfl (mS fG rfl (mS aT rfl (mS .here rfl (mS bM rfl mN))))))
   ·first|omega|(dsimp only; omega)
   ·exact (((hGl0).trans hG37).trans hG42).trans hG62
   refine ⟨?_,?_,?_,?_,?_,?_,?_,?_,?_,?_⟩
   ·(try dsimp only)<;>(first|omega|rfl|assumption|(simp; done))
   ·(try dsimp only)<;>(exact wC hf62 (hB62.all hr62 hT9) (by omega))
   ·(try dsimp only)<;>(rw [List.length_append,hla]; rfl)
   ·(try dsimp only)<;>(rw [hbs,List.take_of_length_le (by omega),List.take_of_length_le (by rw [List.length_append,hla]; show k+1≤_; omega),List.map_append]; rfl)
   ·(try dsimp only)<;>(rw [List.map_append,hzs]; exact congrArg (_++[·]) (by show n42=(A.take n42).length; rw [List.length_take]; omega))
   ·(try dsimp only)<;>(rw [List.map_append,hds]; rfl)
   ·(try dsimp only)<;>(exact hI62)
   ·(try dsimp only)<;>(exact fun q=>by have h1:=wR hN42 hI42 hI37 (hee62 q); have:=hkJ rfl; omega)
   ·(try dsimp only)<;>(have:=hkJ rfl; omega)
   (try dsimp only)<;>(rw [List.length_drop]; omega)
  have c3k:=c3
  try simp only [aC,aI,aD] at c3
  refine .g (ka rfl (.inr rfl) qV (aB rfl aE) (bQ bM) (qF B J 0 h b13 _ hs hJ (by omega)) ?_)
  rintro _ G42 μ42 hG42 ⟨n42,I42,e42,hN42,hI42,rfl,rfl⟩
  have nL42:=iN hN42
  have hs:=hs.mono hG42
  refine .g (cw rfl .no cW (.u rfl) (fun _=>eY (by omega) (by omega)) ?_)
  refine cP rfl rfl rfl rfl (.g (cD rfl (fun c5=>?_) (fun c5=>?_)))
  ·have c5k:=c5
   try simp only [aC,aI,aD] at c5
   refine .seq ?_
   refine jC bM (fun _ _=>rfl) (by intro b hb; cases hb) ?_; intro GfRB hRB hleRB evRB hsRB; subst evRB
   have hs:=hs.mono hleRB
   refine jC aT (fun _ _=>rfl) (by intro b hb; cases hb) ?_; intro GfRZ hRZ hleRZ evRZ hsRZ; subst evRZ
   have hs:=hs.mono hleRZ
   have hsRB:=hsRB.mono hleRZ
   refine jC aF (fun _ _=>aU _ _) (by intro b hb; cases hb) ?_; intro GfRL hRL hleRL evRL hsRL; subst evRL
   have hs:=hs.mono hleRL
   have hsRB:=hsRB.mono hleRL
   have hsRZ:=hsRZ.mono hleRL
   refine .g (lA rfl .no kT (.u rfl) (fun _=>RdN.part (n:=3) (cs':=_) aF (rfl)) (fun _=>rfl) ?_)
   refine sw rfl (.u rfl) (.u rfl) rfl nT aT rfl (lQ rfl rfl rfl) ?_
   refine aS rfl rfl (.nc (.ret (aP Tryz.results105 (.cell rfl (fun w hw=>bW kT (RdN.own .here) (rfl) hw) (.tmp rfl .nil)) ?_)))
   have hT9:=(aDA hS rfl (by omega) (by omega)).numE hN42
   exact ⟨hRB,hRZ,hRL,bs,zs,D,false,.inr ⟨rfl,aDB hT9 (by omega)⟩,by omega,rfl,rfl,hsRB,hsRZ,hsRL⟩
  have c5k:=c5
  try simp only [aC,aI,aD] at c5
  refine .g (cw rfl .no jF (.u rfl) (fun _=>cB (by omega) (by omega)) ?_)
  refine aW (((A.length-n42):Nat):Int) rfl rfl rfl rfl ?_
  refine .g (fZ rfl rW rfl (lO rfl xH rfl fG (by first|exact aJ rfl|rfl) ?_))
  refine .p (cw rfl .no jF (.u rfl) (fun _=>cB (by omega) (by omega)) ?_)
  refine Go.Tan.b1 rfl tO xT (.u rfl) rfl rfl (by decide) ?_; intro b56
  refine fK (xs:=zs) (n42) rfl tO xT rfl (.u rfl) (.u rfl) bM .here (rfl) (mW rfl) (by omega) (by unfold maxLen; omega) ?_; intro v57 ov57
  refine fZ rfl rW rfl (fR rfl (.u rfl) (.u rfl) .here aE3 nP (show 1<3 by decide) (rfl) ?_)
  refine .nil (.code (dP ⟨true,false⟩ aV (by kernel_rfl) ?_))
  refine Wp.one 0 (by kernel_rfl) ?_
  refine fZ rfl oQ rfl (.nil (Wp.one 2 (by kernel_rfl) ?_))
  refine mV rfl rfl (.nil (Wp.b2 1 3 (by kernel_rfl) ?_ ?_))
  ·refine lO rfl pN rfl .here (by first|exact aJ rfl|rfl) ?_
   refine .nil (Wp.b1 3 (by kernel_rfl) ?_)
   refine ka rfl (.inl rfl) xM (aB rfl aE) (bQ bM) (wP B I42 e42 h b13 _ hs hI42 (by omega)) ?_
   rintro _ G62 μ62 hG62 ⟨rt62,f62,I62,e62,hr62,hf62,hB62,hI62,hle62,hee62,rfl,rfl⟩
   have hs:=hs.mono hG62
   refine .nil (Wp.b1 4 (by kernel_rfl) ?_)
   refine Go.Tan.b1 rfl dM fJ (.u rfl) rfl rfl (by decide) ?_; intro b63
   refine .nil (Wp.b1 5 (by kernel_rfl) ?_)
   refine fK (xs:=D) (f62) rfl dM fJ rfl (.u rfl) (.u rfl) nP .here (aU _ _) (dW _ _) (by omega) (by unfold maxLen; omega) ?_; intro v64 ov64
   refine .nil (Wp.one 6 (by kernel_rfl) ?_)
   refine fZ rfl oQ rfl (.nil (Wp.b1 7 (by kernel_rfl) ?_))
   refine fR rfl (.u rfl) (.u rfl) .here vI bM (show 2<3 by decide) (rfl) ?_
   refine .nil (Wp.last (by kernel_rfl) ?_)
   refine .g (ar rfl .no (.u rfl) (.u rfl) rfl (fun _=>eY (by omega) (by omega)) ?_)
   refine aS rfl rfl (.nil ?_)
   have hT9:=(aDA hS rfl (by omega) (by omega)).numE hN42
   refine aZ (k+1,vb,bs,v57,zs++[n42],v64,D++[f62],acc++[⟨[],A.take n42,f62⟩],A.drop n42,I62,e62) ?_ ?_ ?_ ?_ ?_
   ·exact (fD rfl (oB (by dsimp only; rw [List.length_drop])) (fD rfl (congrArg (Value.int .u64) (by dsimp only; omega)) (aA rfl (aA rfl (aA rfl (aA rfl eZ))))))
   ·exact (mS aF rfl (mS bM rfl (mS fG rfl (mS aT rfl (mS .here rfl (mS aT rfl mN))))))
   ·first|omega|(dsimp only; omega)
   ·exact ((hGl0).trans hG42).trans hG62
   refine ⟨?_,?_,?_,?_,?_,?_,?_,?_,?_,?_⟩
   ·(try dsimp only)<;>(first|omega|rfl|assumption|(simp; done))
   ·(try dsimp only)<;>(exact wC hf62 (hB62.all hr62 hT9) (by omega))
   ·(try dsimp only)<;>(rw [List.length_append,hla]; rfl)
   ·(try dsimp only)<;>(rw [hbs,List.take_append_of_le_length (by omega)])
   ·(try dsimp only)<;>(rw [List.map_append,hzs]; exact congrArg (_++[·]) (by show n42=(A.take n42).length; rw [List.length_take]; omega))
   ·(try dsimp only)<;>(rw [List.map_append,hds]; rfl)
   ·(try dsimp only)<;>(exact hI62)
   ·(try dsimp only)<;>(exact fun q=>by have h1:=wR hN42 hI42 hJ (hee62 q); have:=hkJ rfl; omega)
   ·(try dsimp only)<;>(have:=hkJ rfl; omega)
   (try dsimp only)<;>(rw [List.length_drop]; omega)
  refine ka rfl (.inl rfl) xM (aB rfl aE) (bQ bM) (wP B I42 e42 h b13 _ hs hI42 (by omega)) ?_
  rintro _ G62 μ62 hG62 ⟨rt62,f62,I62,e62,hr62,hf62,hB62,hI62,hle62,hee62,rfl,rfl⟩
  refine .nil (Wp.one 1 (by kernel_rfl) ?_)
  refine lO rfl pN rfl aF (by first|exact aJ rfl|rfl) ?_
  refine .nil (Wp.b1 4 (by kernel_rfl) ?_)
  refine Go.Tan.b1 rfl dM fJ (.u rfl) rfl rfl (by decide) ?_; intro b63
  refine .nil (Wp.b1 5 (by kernel_rfl) ?_)
  refine fK (xs:=D) (f62) rfl dM fJ rfl (.u rfl) (.u rfl) nP .here (aU _ _) (dW _ _) (by omega) (by unfold maxLen; omega) ?_; intro v64 ov64
  refine .nil (Wp.one 6 (by kernel_rfl) ?_)
  refine fZ rfl oQ rfl (.nil (Wp.b1 7 (by kernel_rfl) ?_))
  refine fR rfl (.u rfl) (.u rfl) .here vI bM (show 2<3 by decide) (rfl) ?_
  refine .nil (Wp.last (by kernel_rfl) ?_)
  refine .g (ar rfl .no (.u rfl) (.u rfl) rfl (fun _=>eY (by omega) (by omega)) ?_)
  refine aS rfl rfl (.nil ?_)
  have hT9:=(aDA hS rfl (by omega) (by omega)).numE hN42
  refine aZ (k+1,vb,bs,v57,zs++[n42],v64,D++[f62],acc++[⟨[],A.take n42,f62⟩],A.drop n42,I62,e62) ?_ ?_ ?_ ?_ ?_
  ·exact (fD rfl (oB (by dsimp only; rw [List.length_drop])) (fD rfl (congrArg (Value.int .u64) (by dsimp only; omega)) (aA rfl (aA rfl (aA rfl (aA rfl eZ))))))
  ·exact (mS aF rfl (mS bM rfl (mS fG rfl (mS aT rfl (mS .here rfl (mS aT rfl mN))))))
  ·first|omega|(dsimp only; omega)
  ·exact ((hGl0).trans hG42).trans hG62
  refine ⟨?_,?_,?_,?_,?_,?_,?_,?_,?_,?_⟩
  ·(try dsimp only)<;>(first|omega|rfl|assumption|(simp; done))
  ·(try dsimp only)<;>(exact wC hf62 (hB62.all hr62 hT9) (by omega))
  ·(try dsimp only)<;>(rw [List.length_append,hla]; rfl)
  ·(try dsimp only)<;>(rw [hbs,List.take_append_of_le_length (by omega)])
  ·(try dsimp only)<;>(rw [List.map_append,hzs]; exact congrArg (_++[·]) (by show n42=(A.take n42).length; rw [List.length_take]; omega))
  ·(try dsimp only)<;>(rw [List.map_append,hds]; rfl)
  ·(try dsimp only)<;>(exact hI62)
  ·(try dsimp only)<;>(exact fun q=>by have h1:=wR hN42 hI42 hJ (hee62 q); have:=hkJ rfl; omega)
  ·(try dsimp only)<;>(have:=hkJ rfl; omega)
  (try dsimp only)<;>(rw [List.length_drop]; omega)
 have c2k:=c2
 try simp only [aC,aI,aD] at c2
 refine .exit (.xcode (.xlp (.xblk (.code (.seq ?_)))))
 refine jC aT (fun _ _=>rfl) (by intro b hb; cases hb) ?_; intro GfRB hRB hleRB evRB hsRB; subst evRB
 refine jC aF (fun _ _=>rfl) (by intro b hb; cases hb) ?_; intro GfRZ hRZ hleRZ evRZ hsRZ; subst evRZ
 have hsRB:=hsRB.mono hleRZ
 refine jC .here (fun _ _=>aU _ _) (by intro b hb; cases hb) ?_; intro GfRL hRL hleRL evRL hsRL; subst evRL
 have hsRB:=hsRB.mono hleRL
 have hsRZ:=hsRZ.mono hleRL
 refine dP ⟨false,false⟩ aV (by kernel_rfl) ?_
 refine Wp.one 0 (by kernel_rfl) ?_
 refine lA rfl .no kT (.u rfl) (fun _=>RdN.part (n:=3) (cs':=_) aF (rfl)) (fun _=>rfl) ?_
 refine .nil (Wp.one 1 (by kernel_rfl) ?_)
 refine mV rfl rfl (.nil (Wp.b1 2 (by kernel_rfl) ?_))
 refine kp rfl .no aS4 (aB rfl aE) (Gp.add .here Gp.nil) (fun _ hle hq=>aPC B J ee h b13 _ RdNP.add) ?_
 refine .nil (Wp.one 3 (by kernel_rfl) ?_)
 refine cP rfl rfl rfl rfl (.nil (Wp.one 4 (by kernel_rfl) ?_))
 refine mV rfl rfl (.nil (Wp.one 5 (by kernel_rfl) ?_))
 refine mv rfl (.t rfl rfl) (.u rfl) (.nil (Wp.one 6 (by kernel_rfl) ?_))
 refine cp rfl (.t rfl rfl) (.s rfl) (.u rfl) rfl (.nil (Wp.one 7 (by kernel_rfl) ?_))
 refine cC rfl .no (.u rfl) (.s rfl) (.nil (Wp.b1 8 (by kernel_rfl) ?_))
 refine sw rfl (.u rfl) (.u rfl) rfl nT aT rfl (lQ rfl rfl rfl) ?_
 refine .nil (Wp.one 9 (by kernel_rfl) ?_)
 refine aS rfl rfl (.nil (Wp.last (by kernel_rfl) ?_))
 refine .code (.ret (aP Tryz.results105 (.cell rfl (fun w hw=>bW kT (RdN.own .here) (rfl) hw) (.tmp rfl .nil)) ?_))
 exact ⟨hRB,hRZ,hRL,bs,zs,D,_,aNh (z:=(A.length:Int)) hS (by omega) hk hla hbs hzs hds rfl,by omega,rfl,rfl,hsRB,hsRZ,hsRL⟩
end Go.Proofs.YtbdnclpopappeaaGreatDoor
namespace Go.Tan
open Go.RowKit
section
variable {dr:Bool} {mc:Md} {P:Program} {n:Fm} {l:List Oper} {K:aK→PM→aG→Prop} {i:Nat} {σ:List Nat} {ρ:aK} {G:PM} {μ:aG}
variable {d t:Nat} {p:String} {af:Array Edge} {g:Option (Nat×Bool)} {c:Bool}
end
theorem aHg {k n f:Nat} (h1:1≤k) (h:k+k<n) (hf:n≤k+f):nL k n f=nL (k*2) n (f-1)∧n≤k*2+(f-1):=by
 obtain ⟨g,rfl⟩ : ∃ g,f=g+1:=⟨f-1,by omega⟩
 refine ⟨?_,by omega⟩
 rw [nL,if_pos h]; rfl
theorem aOo {k n f:Nat} (h:¬ k+k<n):nL k n f=k:=by
 cases f with
 | zero=>rfl
 | succ f=>rw [nL,if_neg h]
end Go.Tan
namespace Go.Proofs.YtbdnclpopappeaaGreatDoor
open Go.Tan Go.RowKit
theorem aTd:aQ Tryz.prog 89=true:=by kernel_rfl
theorem aEz:aQ Tryz.prog 52=true:=by kernel_rfl
theorem aTe:aQ Tryz.prog 90=true:=by kernel_rfl
theorem aH0 (xs:List Y) (v:Value) (G:PM) (hR:RdNP G 0 0 (wa 64 kW)) (hl:xs.length≤1000000000000):Ct Tryz.prog 86 ([v]:List Value).toArray G [rB v 5 xs] (fun _ μ' u=>∃ ν,μ'=rB v 5 xs :: ν∧ν=[]∧u=.agg (ba 32 (gN xs)).toArray) :=
 xG (fun hx G2 hle hv hs=>by subst hv; exact zK xs hx G2 hs (hR.mono hle) hl)
theorem aHx (p:List Y) (h:Sh) (G:PM) (hs:SlR G 1 aL h p) (hR:RdNP G 0 0 (wa 64 kW)) (hl:p.length≤999999999999):Ct Tryz.prog 48 ([h.val p.length]:List Value).toArray G [] (fun _ μ' u=>μ'=[]∧u=.agg (ba 32 (dH p)).toArray):=by
 refine Ct.of Tryz.func48 rfl Tryz.ntmps48 rfl fun w0 hs0=>?_
 refine .seq (aM rfl rfl ?_)
 refine al rfl fT ?_; intro b2
 refine .nil (.code (.seq (bD rfl rfl ?_)))
 refine Go.Tan.b1 rfl aH aY (.u rfl) rfl rfl (by decide) ?_; intro b4
 refine aS rfl rfl (.nc (.seq (aEK [0#8] 1 .here rfl rfl (by decide) ?_)))
 have lR4:([0#8]:List Y).length=1:=rfl
 refine .g (cF rfl aH aY (.u rfl) (.u rfl) .here hs.sc (by (try simp only [bJ,bB]); omega) ?_)
 intro v7 L7 ov7 eL7
 have lL7:L7.length=[0#8].length+p.length:=by rw [eL7,List.length_append]
 refine ka rfl (.inr rfl) xO (aB rfl aE) (bQ .here) (aH0 L7 _ _ hR (by omega)) ?_
 rintro _ G8 μ8 hG8 ⟨_,rfl,rfl,rfl⟩
 refine sW rfl rfl rfl rfl fH aF ?_
 refine .nil (.code (.ret (aP Tryz.results48 (.cell rfl (fun w hw=>bW cH (RdN.own .here) ((by first|exact qE|exact qL|rfl)) hw) .nil) ?_)))
 exact ⟨rfl,by rw [eL7]; rfl⟩
theorem aPZ (a b:Dg) (G:PM) (hR:RdNP G 0 0 (wa 64 kW)):Ct Tryz.prog 90 ([.agg (ba 32 a).toArray,.agg (ba 32 b).toArray]:List Value).toArray G [] (fun _ μ' u=>μ'=[]∧u=.agg (ba 32 (mT a b)).toArray):=by
 refine Ct.of Tryz.func90 rfl Tryz.ntmps90 rfl fun w0 hs0=>?_
 have l1:=bB 32 a; have l2:=bB 32 b
 refine .seq (eH rfl rfl ?_)
 refine bX rfl rfl rfl ?_; intro b2
 refine bX rfl rfl rfl ?_; intro b3
 refine al rfl fT ?_; intro b4
 refine .nil (.code (.seq (bD rfl rfl ?_)))
 refine Go.Tan.b1 rfl aH aY (.u rfl) rfl rfl (by decide) ?_; intro b6
 refine aS rfl rfl (.nc (.seq (aEK [1#8] 1 .here rfl rfl (by decide) ?_)))
 have lR6:([1#8]:List Y).length=1:=rfl
 refine .g (lY rfl .no gB (.u rfl) (cF rfl aH aY (.u rfl) (.u rfl) .here (Sc.arr bM) (by (try simp only [bJ,bB]); omega) ?_))
 intro v9 L9 ov9 eL9
 have lL9:L9.length=[1#8].length+32:=by rw [eL9,List.length_append]; first|rfl | simp [bB]
 refine .g (lY rfl .no gB (.u rfl) (cF rfl aH aY (.u rfl) (.u rfl) .here (Sc.arr aT) (by (try simp only [bJ,bB]); omega) ?_))
 intro v12 L12 ov12 eL12
 have lL12:L12.length=L9.length+32:=by rw [eL12,List.length_append]; first|rfl | simp [bB]
 refine .g (ka rfl (.inr rfl) xO (aB rfl aE) (bQ .here) (aH0 L12 _ _ hR (by omega)) ?_)
 rintro _ G14 μ14 hG14 ⟨_,rfl,rfl,rfl⟩
 refine sW rfl rfl rfl rfl fH aF ?_
 refine .nil (.code (.ret (aP Tryz.results90 (.cell rfl (fun w hw=>bW cH (RdN.own .here) ((by first|exact qE|exact qL|rfl)) hw) .nil) ?_)))
 exact ⟨rfl,by rw [eL12,eL9]; rfl⟩
theorem aPd (n:Nat) (G:PM) (h2:2≤n) (hl:n≤1000000):Ct Tryz.prog 89 ([.int .i64 (n:Int)]:List Value).toArray G [] (fun _ μ' u=>μ'=[]∧u=.int .i64 (kI n:Int)):=by
 refine Ct.of Tryz.func89 rfl Tryz.ntmps89 rfl fun w0 hs0=>?_
 refine .seq (aM rfl rfl (aS rfl rfl (.nc (.seq (aM rfl rfl (aS rfl rfl (.nc (.seq (.block ?_)))))))))
 refine bE (α:=Nat×Nat) (fun gh=>[(3,true,.int .i64 (gh.1:Int))]) (fun _=>[])
  (fun gh Gl=>(nL gh.1 n gh.2=kI n)∧(n≤gh.1+gh.2)∧(1≤gh.1)∧(gh.1<n)) (fun gh=>gh.2) (1,n) [(0,true,_)] []
  (aO rfl (aA rfl eZ))
  mN ?_ ?_
 ·refine ⟨?_,?_,?_,?_⟩
  ·(try dsimp only)<;>(rfl)
  ·(try dsimp only)<;>(first|omega|rfl|assumption|(simp; done))
  ·(try dsimp only)<;>(first|omega|rfl|assumption|(simp; done))
  (try dsimp only)<;>(first|omega|rfl|assumption|(simp; done))
 intro gh N0 Gl0 hN0 hGl0 hF0
 obtain ⟨k,f⟩:=gh; dsimp only at hF0 hN0 ⊢
 obtain ⟨hp,hf,h1,hk⟩:=hF0
 refine .g (aR rfl rfl rfl rfl ?_)
 refine cP rfl rfl rfl rfl (.g (cD rfl (fun c1=>?_) (fun c1=>?_)))
 ·have c1k:=c1
  try simp only [aC,aD] at c1
  refine .g (aW (((k*2):Nat):Int) rfl rfl rfl rfl ?_)
  refine .g (aZ (k*2,f-1) ?_ ?_ ?_ ?_ ?_)
  ·exact (aO rfl (aA rfl eZ))
  ·exact mN
  ·first|omega|(dsimp only; omega)
  ·exact hGl0
  refine ⟨?_,?_,?_,?_⟩
  ·(try dsimp only)<;>(rw [← (aHg h1 (by omega) hf).1]; exact hp)
  ·(try dsimp only)<;>(exact (aHg h1 (by omega) hf).2)
  ·(try dsimp only)<;>(first|omega|rfl|assumption|(simp; done))
  (try dsimp only)<;>(first|omega|rfl|assumption|(simp; done))
 have c1k:=c1
 try simp only [aC,aD] at c1
 refine .exit (.xcode (.xlp (.xblk (.code (.seq (bD rfl rfl (mV rfl rfl (aS rfl rfl (.nc (.ret (aP Tryz.results89 (.tmp rfl .nil) ?_)))))))))))
 exact ⟨rfl,by rw [← hp,aOo (by omega)]; rfl⟩
theorem aQH (ds:List Dg) (h:Sh) (G:PM) (hs:SlR G 32 (ba 32) h ds) (hR:RdNP G 0 0 (wa 64 kW)) (hm:ds.length≤1000000) (ihr:∀ (ds2:List Dg) (h2:Sh) (G2:PM),SlR G2 32 (ba 32) h2 ds2→RdNP G2 0 0 (wa 64 kW)→ds2.length<ds.length→Ct Tryz.prog 52 ([h2.val ds2.length]:List Value).toArray G2 [] (fun _ μ' u=>μ'=[]∧u=.agg (ba 32 (dJ ds2)).toArray)):Ct Tryz.prog 52 ([h.val ds.length]:List Value).toArray G [] (fun _ μ' u=>μ'=[]∧u=.agg (ba 32 (dJ ds)).toArray):=by
 refine Ct.of Tryz.func52 rfl Tryz.ntmps52 rfl fun w0 hs0=>?_
 refine .seq (aM rfl rfl ?_)
 refine al rfl fT ?_; intro b2
 refine .g (lE rfl rX rfl (cP rfl rfl rfl rfl (.g (cD rfl (fun c1=>?_) (fun c1=>?_)))))
 ·have c1k:=c1
  try simp only [aC,aD] at c1
  refine .seq (eH rfl rfl ?_)
  refine Go.Tan.b1 rfl aH aY (.u rfl) rfl rfl (by decide) ?_; intro b7
  refine ka rfl (.inr rfl) xO (aB rfl aE) (bQ .here) (aJx fun hle=>zK [2#8] ⟨some ⟨b7,0,none⟩,1⟩ _ (nD (iF _ _ _) (fun _ _=>rfl) (by simp)) (hR.mono hle) (by decide)) ?_
  rintro _ G8 μ8 hG8 ⟨rfl,rfl⟩
  have hs:=hs.mono hG8
  have hR:=hR.mono hG8
  refine sW rfl rfl rfl rfl fH .here ?_
  refine .nil (.code (.ret (aP Tryz.results52 (.cell rfl (fun w hw=>bW cH (RdN.own .here) ((by first|exact qE|exact qL|rfl)) hw) .nil) ?_)))
  obtain rfl:ds=[]:=List.eq_nil_of_length_eq_zero (by omega)
  exact ⟨rfl,by rw [aIO]; rfl⟩
 have c1k:=c1
 try simp only [aC,aD] at c1
 refine .g (lE rfl rX rfl (cP rfl rfl rfl rfl (.g (cD rfl (fun c2=>?_) (fun c2=>?_)))))
 ·have c2k:=c2
  try simp only [aC,aD] at c2
  refine .seq (gH rfl rfl (mV rfl rfl (ih rfl .no dM (.u rfl) (.u rfl) (by omega) (by omega) (fun _=>hs.nn (k:=0) (by first|omega|(simp only [Bool.and_eq_true,decide_eq_true_eq] at hc; omega)|(simp only [List.length_cons,List.length_nil]; omega))) ?_)))
  obtain ⟨x,ex⟩:=dO (k:=0) (xs:=ds) (by omega)
  refine lA rfl .no cH (.u rfl) (fun _=>(hs.at (by decide) ex).rd) (fun _=>aU _ _) ?_
  refine sw rfl (.u rfl) (.u rfl) rfl fH .here rfl (dW _ _) ?_
  refine .nil (.code (.ret (aP Tryz.results52 (.cell rfl (fun w hw=>bW cH (RdN.own .here) ((by first|exact qE|exact qL|rfl)) hw) .nil) ?_)))
  exact ⟨rfl,by rw [show ds=[x] from by (match ds,ex,c2k with | [a],e,_=>(cases e; rfl) | [],e,_=>cases e | a :: b :: r,_,c=>(simp at c; omega))]; rw [aBS]; rfl⟩
 have c2k:=c2
 try simp only [aC,aD] at c2
 refine .g (lE rfl rX rfl (kV rfl aTd (aB rfl aE) (aPd ds.length _ (by omega) hm) ?_))
 refine aS rfl rfl (.nc (.seq ?_))
 have hp:=zG (n:=ds.length) (by omega)
 have hp0:=aDa (n:=ds.length) (by omega)
 refine bG (mc:=⟨false,false⟩) [0,1,2,4,5,6,3,7,8,9] aV (by kernel_rfl) ?_
 refine .p (kE ((kI ds.length)) rfl .no dM hs (.u rfl) (.u rfl) (by omega) (by omega) ?_)
 intro h20 L20 eL20 lL20 hs20
 have lL20:=lL20 rfl
 refine .p (kD ((kI ds.length)) rfl .no dM hs (.u rfl) (.u rfl) (by omega) (by omega) ?_)
 intro h24 L24 eL24 lL24 hs24
 have lL24:=lL24 rfl
 refine kV rfl aEz (aB rfl aE) (ihr L20 h20 _ hs20 hR (by omega)) ?_
 refine kV rfl aEz (aB rfl aE) (ihr L24 h24 _ hs24 hR (by omega)) ?_
 refine kV rfl aTe (aB rfl (aB rfl aE)) (aPZ (dJ L20) (dJ L24) _ hR) ?_
 refine sW rfl rfl rfl rfl fH .here ?_
 refine .nil (.code (.ret (aP Tryz.results52 (.cell rfl (fun w hw=>bW cH (RdN.own .here) ((by first|exact qE|exact qL|rfl)) hw) .nil) ?_)))
 exact ⟨rfl,by rw [aBT (l:=ds) (by omega),eL20,eL24]; rfl⟩
theorem aIX (ds:List Dg) (h:Sh) (G:PM) (hs:SlR G 32 (ba 32) h ds) (hR:RdNP G 0 0 (wa 64 kW)) (hm:ds.length≤1000000):Ct Tryz.prog 52 ([h.val ds.length]:List Value).toArray G [] (fun _ μ' u=>μ'=[]∧u=.agg (ba 32 (dJ ds)).toArray) :=
 aQH ds h G hs hR hm (fun ds2 h2 G2 hs2 hR2 hlt=>aIX ds2 h2 G2 hs2 hR2 (by omega))
termination_by ds.length
theorem aKn:aQ Tryz.prog 48=true:=by kernel_rfl
theorem aHr (m:Meta) (G:PM) (hw:m.wf):Ct Tryz.prog 11 ([m.val]:List Value).toArray G [] (fun _ μ' u=>μ'=[]∧u=.agg ((bH m).cells).toArray):=by
 refine Ct.of Tryz.func11 rfl Tryz.ntmps11 rfl fun w0 hs0=>?_
 refine .seq (bD rfl rfl ?_)
 refine bX rfl rfl rfl ?_; intro b1
 refine al rfl rC ?_; intro b2
 refine .g (fZ rfl aKF rfl (lO rfl cA rfl aF (by first|exact aJ rfl|rfl) ?_))
 refine fZ rfl aKG rfl (lO rfl fI rfl aF (by first|exact aJ rfl|rfl) ?_)
 refine fZ rfl aKH rfl (lO rfl fI rfl aF (by first|exact aJ rfl|rfl) ?_)
 refine fZ rfl aKI rfl (lO rfl fI rfl aF (by first|exact aJ rfl|rfl) ?_)
 refine bC rfl .no aJ5 (.cons (.u rfl) rfl (.cons (.u rfl) rfl (.cons (.u rfl) rfl (.cons (.u rfl) rfl (.cons (.u rfl) rfl .nil))))) rfl ?_
 refine sw rfl (.u rfl) (.u rfl) rfl mK .here (by first|rfl|exact Meta.len _) (lS rfl rfl rfl rfl rfl) ?_
 refine .nil (.code (.ret (aP Tryz.results11 (.cell rfl (fun w hw=>bW fB (RdN.own .here) ((by first|rfl|exact Meta.len _)) hw) .nil) ?_)))
 exact ⟨rfl,by rw [← aGs hw]; rfl⟩
theorem aTO:aQ Tryz.prog 38=true:=by kernel_rfl
theorem aK5:aQ Tryz.prog 11=true:=by kernel_rfl
theorem aKQ:aQ Tryz.prog 104=true:=by kernel_rfl
theorem aSp:aQ Tryz.prog 102=true:=by kernel_rfl
theorem aBy:fX Tryz.prog 109 []=some ([.slice none 0 0,.slice none 0 0,.slice none 0 0],[]):=by kernel_rfl
theorem aSq:aQ Tryz.prog 105=true:=by kernel_rfl
theorem aTf:(cG Tryz.prog 107).isSome=true:=by kernel_rfl
theorem aP3 (xs:List Y) (s:Sh) (a b:Nat) (G:PM) (hs:SlR G 1 aL s xs) (h8:a+8≤xs.length) (hl:xs.length≤100000000000000):Ct Tryz.prog 103 ([.pointer (some ⟨b,0,none⟩),.int .i64 ((8:Nat):Int)]:List Value).toArray G [.blk b (cl [s.val xs.length,.int .i64 (a:Int),.int .i64 0] 155)] (fun _ μ' u=>∃ k:Nat,k=(bU (xs.drop a) 8).toNat∧μ'=[.blk b (cl [s.val xs.length,.int .i64 ((a+8:Nat):Int),.int .i64 0] 155)]∧u=.int .u64 (k:Int)) :=
 (zN xs s a b G hs h8 hl).mono fun G' μ' u hh=>⟨_,rfl,hh.1,hh.2⟩
theorem aQN (xs:List Y) (hx:Sh) (G:PM) (h:Hd) (e:Int) (hT:gY xs=(h,e)) (hs:SlR G 1 aL hx xs) (hl:xs.length≤100000000000000):Ct Tryz.prog 102 ([hx.val xs.length]:List Value).toArray G [] (fun _ μ' u=>μ'=[]∧u=.tuple #[.agg h.cells.toArray,.int .i64 e]):=by
 have:=aPf xs hx G hs hl
 rw [hT] at this
 exact this
theorem aHu (root:Nat→Y) (m:Meta) (x:RowT) (part:Nat) (L:List Y) (d:Dg) (hx:Sh) (G:PM) (e1:L=x.bytes) (e2:d=x.leaf) (hw:m.wf) (hs:SlR G 1 aL hx L) (hR:RdNP G 0 0 (wa 64 kW)) (hl:L.length≤1000000) (hp:part≤1000000000):Ct Tryz.prog 63 ([.agg (ba 32 root).toArray,m.val,hx.val L.length,.agg (ba 32 d).toArray,.int .i64 (part:Int)]:List Value).toArray G [] (fun G' μ' u=>∃ (h':Sh) (L':List Y) (ok:Bool),WhR (dS root (bH m) x part) L' ok∧μ'=[]∧u=.tuple #[h'.val L'.length,.bool ok]∧SlR G' 1 aL h' L'):=by
 subst e1; subst e2
 refine Ct.of Tryz.func63 rfl Tryz.ntmps63 rfl fun w0 hs0=>?_
 refine .seq (oK rfl rfl ?_)
 refine bX rfl rfl rfl ?_; intro b5
 refine bX rfl rfl rfl ?_; intro b6
 refine bX rfl rfl rfl ?_; intro b8
 refine .g (bG (mc:=⟨false,false⟩) [0,2,1,3] aV (by kernel_rfl) ?_)
 refine .p (lA rfl .no cH (.u rfl) (fun _=>RdN.own .here) (fun _=>aU _ _) ?_)
 refine kV rfl aKn (aB rfl aE) (aHx x.bytes hx _ hs hR (by omega)) ?_
 refine nqB rfl .no uZ (.u rfl) (.u rfl) ?_
 refine .g (cD rfl (fun c1=>?_) (fun c1=>?_))
 ·have c1k:=c1
  try simp only [aC,aI,aD] at c1
  refine .seq (bD rfl rfl (aS rfl rfl (aS rfl rfl (.nc (.ret (aP Tryz.results63 (.tmp rfl (.tmp rfl .nil)) ?_))))))
  exact ⟨⟨none,0⟩,[],false,aSN (by simpa using c1),rfl,rfl,SlR.nul⟩
 have c1k:=c1
 try simp only [aC,aI,aD] at c1
 refine .g (bG (mc:=⟨false,false⟩) [0,1,3,4,2,5,6,7,8,9,10] aV (by kernel_rfl) ?_)
 refine lA rfl .no cH (.u rfl) (fun _=>RdN.own aT) (fun _=>aU _ _) ?_
 refine lA rfl .no iU (.u rfl) (fun _=>RdN.own aF) (fun _=>Meta.len _) ?_
 refine .p (kV rfl aK5 (aB rfl aE) (aHr m _ hw) ?_)
 refine kc rfl aKQ (aB rfl (aB rfl (aB rfl (aB rfl aE)))) (aHs root (bH m) part x.bytes hx _ hs hR (by omega) hp) ?_
 rintro _ G24 μ24 hG24 ⟨h24,L24,e24,hO24,rfl,rfl,hs24⟩
 refine .p (eX rfl rfl rfl (eX rfl rfl rfl (.g (cP rfl rfl rfl rfl (aS rfl rfl (aS rfl rfl (.nc (.ret (aP Tryz.results63 (.tmp rfl (.tmp rfl .nil)) ?_)))))))))
 exact ⟨h24,L24,_,aSO (by simpa using c1) hO24,rfl,rfl,hs24⟩
set_option maxHeartbeats 4000000 in
theorem aHt (root:Nat→Y) (m:Meta) (xs:List Y) (hx:Sh) (G:PM) (hw:m.wf) (hs:SlR G 1 aL hx xs) (hR:RdNP G 0 0 (wa 64 kW)) (hl:xs.length≤1000000):Ct Tryz.prog 62 ([.agg (ba 32 root).toArray,m.val,hx.val xs.length]:List Value).toArray G [] (fun G' μ' u=>∃ (hq hb hz hd:Sh) (qs:List (Sh×List Y)) (bs:List ByteArray) (zs:List Nat) (ds:List Dg) (er:Int),aAb (dD root m xs) (qs.map (·.2)) bs zs ds er∧qs.length≤1000010∧μ'=[]∧u=.tuple #[hq.val qs.length,.agg #[hb.val bs.length,hz.val zs.length,hd.val ds.length],.int .i64 er]∧SlP G' hq qs∧SlR G' 1 kC hb bs∧SlR G' 1 yR hz zs∧SlR G' 32 (ba 32) hd ds):=by
 refine Ct.of Tryz.func62 rfl Tryz.ntmps62 rfl fun w0 hs0=>?_
 obtain ⟨hd9,e9,hT9⟩ : ∃ h e,gY xs=(h,e):=⟨_,_,rfl⟩
 refine .seq (oK rfl rfl ?_)
 refine bX rfl rfl rfl ?_; intro b3
 refine bX rfl rfl rfl ?_; intro b4
 refine aS rfl rfl ?_
 refine al rfl xR ?_; intro b7
 refine aS rfl rfl (.nc (.seq ?_))
 refine fS aT (by intro b hb; cases hb) ?_; intro Gfb3 hleb3 hbb3
 have hs:=hs.mono hleb3
 have hR:=hR.mono hleb3
 refine fS aF (by intro b hb; cases hb) ?_; intro Gfb4 hleb4 hbb4
 have hs:=hs.mono hleb4
 have hR:=hR.mono hleb4
 have hbb3:=hbb3.mono hleb4
 refine .g (kV rfl aSp (aB rfl aE) (aQN xs hx _ hd9 e9 hT9 hs (by omega)) ?_)
 refine .p (eX rfl rfl rfl (eX rfl rfl rfl ?_))
 refine al rfl rC ?_; intro b9
 refine sw rfl (.u rfl) (.u rfl) rfl mK .here rfl (lS rfl rfl rfl rfl rfl) ?_
 refine aS rfl rfl (.nc (.seq (.seq (dP ⟨false,false⟩ aV (by kernel_rfl) ?_))))
 refine Wp.one 0 (by kernel_rfl) ?_
 refine mV rfl rfl (.nil (Wp.one 1 (by kernel_rfl) ?_))
 refine lE rfl bK rfl (.nil (Wp.one 2 (by kernel_rfl) ?_))
 refine fA rfl aEk rfl (.nil (Wp.one 3 (by kernel_rfl) ?_))
 refine lN rfl dA rfl ((hbb4.rd (by rfl)).rd) ?_
 refine .nil (Wp.one 4 (by kernel_rfl) ?_)
 refine cP rfl rfl rfl rfl (.nil (Wp.one 5 (by kernel_rfl) ?_))
 refine mV rfl rfl (.nil (Wp.one 6 (by kernel_rfl) ?_))
 refine mv rfl (.f rfl rfl) (.u rfl) (.nil (Wp.one 7 (by kernel_rfl) ?_))
 refine cp rfl (.f rfl rfl) (.s rfl) (.u rfl) rfl (.nil (Wp.one 8 (by kernel_rfl) ?_))
 refine cL rfl .no (.u rfl) (.s rfl) (.nil (Wp.one 9 (by kernel_rfl) ?_))
 refine mV rfl rfl (.nil (Wp.one 10 (by kernel_rfl) ?_))
 refine lA rfl (.f rfl rfl) fB (.u rfl) (fun _=>RdN.part (n:=5) (cs':=hd9.cells) .here (rfl)) (fun _=>rfl) ?_
 refine .nil (Wp.one 11 (by kernel_rfl) ?_)
 refine lA rfl (.f rfl rfl) iU (.u rfl) (fun hc=>(hbb4.rdn (m:=40) (cs':=m.cells) (rfl)).rd) (fun _=>(Meta.len _)) ?_
 refine .nil (Wp.b1 12 (by kernel_rfl) ?_)
 refine kv rfl (.f rfl rfl) aK5 (Eva.cons (.s rfl) aE) (fun hc=>aHr m _ hw) ?_
 refine .nil (Wp.one 13 (by kernel_rfl) ?_)
 refine nqC (decide (hd9=(bH m))) rfl (.f rfl rfl) aEe (.s rfl) (.s rfl) (fun hc=>wA _) (fun hc=>wA _) (fun hc=>aC7) ?_
 refine .nil (Wp.one 14 (by kernel_rfl) ?_)
 refine cL rfl .no (.u rfl) (.s rfl) (.nil (Wp.one 15 (by kernel_rfl) ?_))
 refine mV rfl rfl (.nil (Wp.one 16 (by kernel_rfl) ?_))
 refine mv rfl (.f rfl rfl) (.u rfl) (.nil (Wp.one 17 (by kernel_rfl) ?_))
 refine ln rfl (.f rfl rfl) bK (.s rfl) (.nil (Wp.one 18 (by kernel_rfl) ?_))
 refine cp rfl (.f rfl rfl) (.s rfl) (.u rfl) rfl (.nil (Wp.one 19 (by kernel_rfl) ?_))
 refine cL rfl .no (.u rfl) (.s rfl) (.nil (Wp.last (by kernel_rfl) ?_))
 refine .code (cD rfl (fun c1=>?_) (fun c1=>?_))
 ·have c1k:=c1
  try simp only [aC,aI,aD] at c1
  refine .g (dU ([.slice none 0 0,.slice none 0 0,.slice none 0 0]) rfl .no aBy .nil rfl (rfl) ?_)
  refine .p (sw rfl (.u rfl) (.u rfl) rfl nT aF rfl (lQ rfl rfl rfl) ?_)
  refine aS rfl rfl (.nc (.ret (aP Tryz.results62 (.tmp rfl (.cell rfl (fun w hw=>bW kT (RdN.own .here) (rfl) hw) (.tmp rfl .nil))) ?_)))
  exact ⟨⟨none,0⟩,⟨none,0⟩,⟨none,0⟩,⟨none,0⟩,[],[],[],[],170,.inr ⟨rfl,aPk hT9 c1k,rfl⟩,Nat.zero_le _,rfl,rfl,aAe,SlR.nul,SlR.nul,SlR.nul⟩
 have c1k:=c1
 try simp only [aC,aI,aD] at c1
 refine .skip (.code (.seq ?_))
 obtain ⟨⟨rfl,rfl⟩,hsz9,hlong⟩:=aPm c1k
 refine .g (lE rfl bK rfl (aW (((xs.length-8):Nat):Int) rfl rfl rfl rfl ?_))
 refine kD ((xs.length-8)) rfl .no aH hs (.u rfl) (.u rfl) (by omega) (by omega) ?_
 intro h53 L53 eL53 lL53 hs53
 have lL53:=lL53 rfl
 refine dU ([h53.val L53.length,.int .i64 0,.int .i64 0]) rfl .no aAJ (.cons (.u rfl) rfl .nil) rfl (rfl) ?_
 refine bX rfl rfl rfl ?_; intro b55
 refine .g (ka rfl (.inr rfl) xK (aB rfl (aB rfl aE)) (bQ .here) (aP3 L53 h53 0 b55 _ hs53 (by omega) (by omega)) ?_)
 rintro _ G57 μ57 hG57 ⟨K57,eK57,rfl,rfl⟩
 have hs:=hs.mono hG57
 have hR:=hR.mono hG57
 have hbb3:=hbb3.mono hG57
 have hbb4:=hbb4.mono hG57
 refine aS rfl rfl (.nc (.seq ?_))
 have hkk:K57=jT xs:=by rw [eK57,eL53]; rfl
 refine .g (lE rfl bK rfl (aW (((xs.length-8):Nat):Int) rfl rfl rfl rfl ?_))
 refine aW (((xs.length-38):Nat):Int) rfl rfl rfl rfl ?_
 refine .g (cw rfl .no cW (.u rfl) (fun _=>eY (by omega) (by omega)) ?_)
 refine cP rfl rfl rfl rfl (.g (cD rfl (fun c2=>?_) (fun c2=>?_)))
 ·have c2k:=c2
  try simp only [aC,aI,aD] at c2
  refine .g (dU ([.slice none 0 0,.slice none 0 0,.slice none 0 0]) rfl .no aBy .nil rfl (rfl) ?_)
  refine .p (sw rfl (.u rfl) (.u rfl) rfl nT aT rfl (lQ rfl rfl rfl) ?_)
  refine aS rfl rfl (.nc (.ret (aP Tryz.results62 (.tmp rfl (.cell rfl (fun w hw=>bW kT (RdN.own .here) (rfl) hw) (.tmp rfl .nil))) ?_)))
  exact ⟨⟨none,0⟩,⟨none,0⟩,⟨none,0⟩,⟨none,0⟩,[],[],[],[],170,.inr ⟨rfl,aFe (by rw [← hkk]; omega),rfl⟩,Nat.zero_le _,rfl,rfl,aAe,SlR.nul,SlR.nul,SlR.nul⟩
 have c2k:=c2
 try simp only [aC,aI,aD] at c2
 refine .skip (.code (.seq ?_))
 have hk38:K57≤xs.length-38:=by omega
 refine .g (lE rfl bK rfl (aW (((xs.length-8):Nat):Int) rfl rfl rfl rfl ?_))
 refine .p (cw rfl .no jF (.u rfl) (fun _=>cB (by omega) (by omega)) ?_)
 refine aW (((xs.length-8-K57):Nat):Int) rfl rfl rfl rfl ?_
 refine .g (lE rfl bK rfl (aW (((xs.length-8):Nat):Int) rfl rfl rfl rfl ?_))
 refine kS ((xs.length-8-K57)) ((xs.length-8)) rfl .no aH hs (.u rfl) (.u rfl) (.u rfl) (by omega) (by omega) (by omega) (by omega) ?_
 intro h78 L78 eL78 lL78 hs78
 have lL78:=lL78 rfl
 refine aS rfl rfl (.nc (.seq ?_))
 have hix:=aP5 hlong hk38 eL78
 rw [hkk] at hix
 refine .g (lA rfl .no cH (.u rfl) (fun _=>(hbb3.rdn (m:=32) (cs':=_) (by first|exact iY|exact gE|exact iX)).rd) (fun _=>(aU _ _)) ?_)
 refine lA rfl .no fB (.u rfl) (fun _=>RdN.part (n:=5) (cs':=(bH m).cells) aF (rfl)) (fun _=>rfl) ?_
 refine .p (kc rfl aKQ (aB rfl (aB rfl (aB rfl (aB rfl aE)))) (aHs root (bH m) 0 L78 h78 _ hs78 hR (by omega) (by omega)) ?_)
 rintro _ G83 μ83 hG83 ⟨h83,L83,e83,hO83,rfl,rfl,hs83⟩
 have hs:=hs.mono hG83
 have hR:=hR.mono hG83
 have hbb4:=hbb4.mono hG83
 have hs78:=hs78.mono hG83
 refine .p (eX rfl rfl rfl (eX rfl rfl rfl (.g (cP rfl rfl rfl rfl (.g (cD rfl (fun c3=>?_) (fun c3=>?_)))))))
 ·have c3k:=c3
  try simp only [aC,aI,aD] at c3
  refine .g (dU ([.slice none 0 0,.slice none 0 0,.slice none 0 0]) rfl .no aBy .nil rfl (rfl) ?_)
  refine .p (sw rfl (.u rfl) (.u rfl) rfl nT aT rfl (lQ rfl rfl rfl) ?_)
  refine aS rfl rfl (.nc (.ret (aP Tryz.results62 (.tmp rfl (.cell rfl (fun w hw=>bW kT (RdN.own .here) (rfl) hw) (.tmp rfl .nil))) ?_)))
  exact ⟨⟨none,0⟩,⟨none,0⟩,⟨none,0⟩,⟨none,0⟩,[],[],[],[],170,.inr ⟨rfl,(by rw [aCS (root:=root) hT9 hsz9 hlong (by rw [← hkk]; exact hk38) hix rfl,aHY hO83 (by simpa using c3)]; rfl),rfl⟩,Nat.zero_le _,rfl,rfl,aAe,SlR.nul,SlR.nul,SlR.nul⟩
 have c3k:=c3
 try simp only [aC,aI,aD] at c3
 refine .skip (.code (.seq ?_))
 obtain rfl:e83=0:=by omega
 obtain ⟨A9,eA9⟩ : ∃ A,A=(lV xs).take (xs.length-38-jT xs):=⟨_,rfl⟩
 have lA9:A9.length=xs.length-38-K57:=by rw [eA9,List.length_take,aBP hlong,hkk]; omega
 have hB9:=aCS (root:=root) hT9 hsz9 hlong (by rw [← hkk]; exact hk38) hix eA9
 have ho9:=aHZ hO83 rfl
 have hl83:=(aBd ho9).2.2
 refine .g (cw rfl .no jF (.u rfl) (fun _=>cB (by omega) (by omega)) ?_)
 refine aW ((A9.length:Nat):Int) rfl rfl rfl rfl ?_
 refine kc rfl aSq (aB rfl (aB rfl aE)) (aPY L83 A9 h83 _ hs83 (by omega) (by omega)) ?_
 rintro _ G95 μ95 hG95 ⟨hb95,hz95,hd95,bs,zs,ds,ok95,hI95,hdl95,rfl,rfl,hsb95,hsz95,hsd95⟩
 have hs:=hs.mono hG95
 have hR:=hR.mono hG95
 have hbb4:=hbb4.mono hG95
 have hs78:=hs78.mono hG95
 refine .p (eX rfl rfl rfl (eX rfl rfl rfl ?_))
 refine al rfl xR ?_; intro b18
 refine sw rfl (.u rfl) (.u rfl) rfl nT .here rfl (lQ rfl rfl rfl) ?_
 refine aS rfl rfl (.nc (.seq (rq9 rfl rfl ?_)))
 refine b0 rfl rfl dM ?_; intro v98
 refine fZ rfl oQ rfl (lO rfl pN rfl aF (by first|exact aJ rfl|rfl) ?_)
 refine apL (xs:=([]:List Dg)) rfl dM fJ rfl (.u rfl) (.u rfl) .here hsd95 (fun _ _=>aU _ _) (aLn) (by show (0+ds.length)*_≤_; omega) (by unfold maxLen; show 0+ds.length≤_; omega) ?_; intro v101 ov101
 refine .p (kV rfl aKn (aB rfl aE) (aHx L78 h78 _ hs78 hR (by omega)) ?_)
 refine Go.Tan.b1 rfl dM fJ (.u rfl) rfl rfl (by decide) ?_; intro b104
 refine fK (xs:=(([]:List Dg)++ds)) ((dH L78)) rfl dM fJ rfl (.u rfl) (.u rfl) aF .here (aU _ _) (dW _ _) (by rw [List.length_append]; show (0+ds.length+1)*_≤_; omega) (by unfold maxLen; rw [List.length_append]; show 0+ds.length+1≤_; omega) ?_; intro v105 ov105
 refine aS rfl rfl (.nc (.seq (.seq ?_)))
 refine jC .here (fun _ _=>aU _ _) (by intro b hb; cases hb) ?_; intro GfRL hRL hleRL evRL hsRL; subst evRL
 have hs:=hs.mono hleRL
 have hR:=hR.mono hleRL
 have hbb4:=hbb4.mono hleRL
 have hs78:=hs78.mono hleRL
 have hsb95:=hsb95.mono hleRL
 have hsz95:=hsz95.mono hleRL
 have hsd95:=hsd95.mono hleRL
 refine dP ⟨false,false⟩ aV (by kernel_rfl) ?_
 refine Wp.one 0 (by kernel_rfl) ?_
 refine mV rfl rfl (.nil (Wp.one 1 (by kernel_rfl) ?_))
 refine nt rfl .no (.u rfl) (.nil (Wp.one 2 (by kernel_rfl) ?_))
 refine mV rfl rfl (.nil (Wp.one 3 (by kernel_rfl) ?_))
 refine mv rfl (.f rfl rfl) (.u rfl) (.nil (Wp.one 5 (by kernel_rfl) ?_))
 refine fa rfl (.f rfl rfl) aEl (.u rfl) (.nil (Wp.one 6 (by kernel_rfl) ?_))
 refine lA rfl (.f rfl rfl) cH (.s rfl) (fun hc=>(hbb4.rdn (m:=32) (cs':=ba 32 (fun i=>BitVec.ofInt 8 (m.root i))) (aDq hw)).rd) (fun _=>(aU _ _)) (.nil (Wp.b1 4 (by kernel_rfl) ?_))
 refine kv rfl (.f rfl rfl) aEz (Eva.cons (.s rfl) aE) (fun hc=>aIX (([]:List Dg)++ds++[dH L78]) hRL _ hsRL hR (by first|omega | (rw [List.length_append,List.length_append]; show 0+ds.length+1≤_; omega))) ?_
 refine .nil (Wp.one 7 (by kernel_rfl) ?_)
 refine nqB rfl (.f rfl rfl) uZ (.s rfl) (.s rfl) ?_
 refine .nil (Wp.one 8 (by kernel_rfl) ?_)
 refine cL rfl .no (.u rfl) (.s rfl) (.nil (Wp.last (by kernel_rfl) ?_))
 refine .code (cD rfl (fun c4=>?_) (fun c4=>?_))
 ·have c4k:=c4
  try simp only [aC,aI,aD] at c4
  refine .g (dU ([.slice none 0 0,.slice none 0 0,.slice none 0 0]) rfl .no aBy .nil rfl (rfl) ?_)
  refine .p (sw rfl (.u rfl) (.u rfl) rfl nT fG rfl (lQ rfl rfl rfl) ?_)
  refine aS rfl rfl (.nc (.ret (aP Tryz.results62 (.tmp rfl (.cell rfl (fun w hw=>bW kT (RdN.own .here) (rfl) hw) (.tmp rfl .nil))) ?_)))
  exact ⟨⟨none,0⟩,⟨none,0⟩,⟨none,0⟩,⟨none,0⟩,[],[],[],[],170,.inr ⟨rfl,aPl hB9 ho9 hI95 hw c4k,rfl⟩,Nat.zero_le _,rfl,rfl,aAe,SlR.nul,SlR.nul,SlR.nul⟩
 have c4k:=c4
 try simp only [aC,aI,aD] at c4
 refine .skip (.code (.seq (aM rfl rfl (aS rfl rfl (.nc (.seq (kQ 1 uD 34 ?_)))))))
 obtain ⟨rows,hB,hbs9,hzs9,hds9,hF9⟩:=aPn hB9 ho9 hI95 hw c4k
 have hA9:A9=(xs.drop 30).take (xs.length-38-jT xs):=by rw [eA9]; unfold lV; rw [List.take_take,Nat.min_eq_left (by omega)]
 have h2r:=aCT hB
 have lzs:zs.length=rows.length:=by rw [hzs9,List.length_map]
 have lds:ds.length=rows.length:=by rw [hds9,List.length_map]
 refine aM rfl rfl (aS rfl rfl (.nc (.seq (.seq (aM rfl rfl (aS rfl rfl (.nc (.block ?_))))))))
 refine bE (α:=Nat×Value×List (Sh×List Y)×List Y) (fun gh=>[(14,true,.int .i64 ((30+gh.2.2.2.length:Nat):Int)),(21,true,gh.2.1),(22,true,.int .i64 (gh.1:Int))]) (fun gh=>[rS 1 uD gh.2.1 34 gh.2.2.1])
  (fun gh Gl=>(gh.1≤zs.length)∧(gh.2.2.1.map (·.2)=(rows.take gh.1).map (·.bytes))∧(gh.2.2.1.length=gh.1)∧(gh.2.2.2=((rows.take gh.1).map (·.bytes)).flatten)∧(AllS Gl gh.2.2.1)) (fun gh=>zs.length-gh.1) (0,.slice none 0 0,[],[]) [(2,true,_),(7,true,_),(15,true,_),(18,true,_)] [_,_,_,_,_]
  (aO rfl (aA rfl (aO rfl (aA rfl (aA rfl (aA rfl (aA rfl eZ)))))))
  (mS .here rfl (mS .here rfl (mS .here rfl (mS .here rfl (mS .here rfl (mS .here rfl mN)))))) ?_ ?_
 ·refine ⟨?_,?_,?_,?_,?_⟩
  ·(try dsimp only)<;>(first|omega|rfl|assumption|(simp; done))
  ·(try dsimp only)<;>(rfl)
  ·(try dsimp only)<;>(rfl)
  ·(try dsimp only)<;>(rfl)
  (try dsimp only)<;>(exact AllS.nil)
 intro gh N0 Gl0 hN0 hGl0 hF0
 obtain ⟨k,vo,os,P⟩:=gh; dsimp only at hF0 hN0 ⊢
 obtain ⟨hk,hos,hlo,hP,hAo⟩:=hF0
 have hs:=hs.mono hGl0
 have hs78:=hs78.mono hGl0
 have hsb95:=hsb95.mono hGl0
 have hsz95:=hsz95.mono hGl0
 have hsd95:=hsd95.mono hGl0
 refine .g (fZ rfl rW rfl (lO rfl xH rfl aT (by first|exact aJ rfl|rfl) ?_))
 refine lE rfl aTf rfl (cP rfl rfl rfl rfl (.g (cD rfl (fun c5=>?_) (fun c5=>?_))))
 ·have c5k:=c5
  try simp only [aC,aI,aD] at c5
  refine .skip (.code (.seq (.block (.seq ?_))))
  obtain ⟨x,ex⟩:=dO (k:=k) (xs:=rows) (by omega)
  obtain ⟨hpa,hpl,hpn⟩:=aOr hP hF9 hA9 (by omega) ex
  refine kX [0,1,2,3,4,5,6,7,8,9,10,11,12,13,14,15] rfl rfl (mV rfl rfl ?_)
  refine mM rfl aH ?_; intro b124
  refine .p (fZ rfl rW rfl (lO rfl xH rfl bM (by first|exact aJ rfl|rfl) ?_))
  refine mV rfl rfl (ih rfl .no tO (.u rfl) (.u rfl) (by omega) (by omega) (fun _=>hsz95.nn (k:=k) (by first|omega|(simp only [Bool.and_eq_true,decide_eq_true_eq,Bool.not_eq_true',Bool.or_eq_false_iff,decide_eq_false_iff_not,beq_iff_eq,beq_eq_false_iff_ne,ne_eq] at hc; omega)|(simp only [List.length_cons,List.length_nil]; omega))) ?_)
  obtain ⟨x132,ex132⟩:=dO (k:=k) (xs:=zs) (by omega)
  refine lN rfl dA rfl ((hsz95.n1 (k) (by omega) ex132).rd) ?_
  have e132:x132=x.bytes.length:=aJq hzs9 ex ex132
  refine dR ((((30+P.length)+x132):Nat):Int) rfl .no (.u rfl) (.u rfl) rfl (by omega) (fun _=>cB (by omega) (by omega)) ?_
  refine kS ((30+P.length)) (((30+P.length)+x132)) rfl .no aH hs (.u rfl) (.u rfl) (.u rfl) (by omega) (by omega) (by omega) (by omega) ?_
  intro h134 L134 eL134 lL134 hs134
  have lL134:=lL134 rfl
  refine aFW rfl aH aY (.u rfl) (.u rfl) .here hs134.sc (by rw [lL134]; omega) ?_; intro G135 h135 L135 eL135 hG135 hs135
  have hs78:=hs78.mono hG135
  have hsb95:=hsb95.mono hG135
  have hsz95:=hsz95.mono hG135
  have hsd95:=hsd95.mono hG135
  have hAo:=hAo.mono hG135
  refine Go.Tan.b1 rfl gP jM (.u rfl) rfl rfl (by decide) ?_; intro b136
  refine fK (xs:=os) ((h135,L135)) rfl gP jM rfl (.u rfl) (.u rfl) aT .here (rfl) (mW rfl) (by omega) (by unfold maxLen; omega) ?_; intro v137 ov137
  refine .g (fZ rfl rW rfl (lO rfl xH rfl fG (by first|exact aJ rfl|rfl) ?_))
  refine mV rfl rfl (ih rfl .no tO (.u rfl) (.u rfl) (by omega) (by omega) (fun _=>hsz95.nn (k:=k) (by first|omega|(simp only [Bool.and_eq_true,decide_eq_true_eq,Bool.not_eq_true',Bool.or_eq_false_iff,decide_eq_false_iff_not,beq_iff_eq,beq_eq_false_iff_ne,ne_eq] at hc; omega)|(simp only [List.length_cons,List.length_nil]; omega))) ?_)
  obtain ⟨x143,ex143⟩:=dO (k:=k) (xs:=zs) (by omega)
  have e143:x143=x.bytes.length:=aJq hzs9 ex ex143
  refine lN rfl dA rfl ((hsz95.n1 k (by omega) ex143).rd) ?_
  refine dR ((((30+P.length)+x143):Nat):Int) rfl .no (.u rfl) (.u rfl) rfl (by omega) (fun _=>cB (by omega) (by omega)) ?_
  refine .g (aW (((k+1):Nat):Int) rfl rfl rfl rfl ?_)
  refine .g (aZ (k+1,v137,os++[(h135,L135)],P++x.bytes) ?_ ?_ ?_ ?_ ?_)
  ·exact (fD rfl (oB (by dsimp only; rw [List.length_append]; omega)) (aA rfl (aO rfl (aA rfl (aA rfl (aA rfl (aA rfl eZ)))))))
  ·exact (mS .here rfl (mS aT rfl (mS aT rfl (mS aT rfl (mS aT rfl (mS aT rfl mN))))))
  ·first|omega|(dsimp only; omega)
  ·exact (hGl0).trans hG135
  refine ⟨?_,?_,?_,?_,?_⟩
  ·(try dsimp only)<;>(first|omega|rfl|assumption|(simp; done))
  ·(try dsimp only)<;>(rw [List.map_append,hos,List.take_add_one,ex,List.map_append,eL135,eL134,show 30+P.length+x132-(30+P.length)=x.bytes.length by omega,hpa]; rfl)
  ·(try dsimp only)<;>(simp [hlo])
  ·(try dsimp only)<;>(exact hpn)
  (try dsimp only)<;>(exact hAo.snoc hs135)
 have c5k:=c5
 try simp only [aC,aI,aD] at c5
 refine .exit (.xcode (.xlp (.xblk (.code (.seq ?_)))))
 refine fS aT (by intro b hb; cases hb) ?_; intro Gfb18 hleb18 hbb18
 have hs78:=hs78.mono hleb18
 have hsb95:=hsb95.mono hleb18
 have hsz95:=hsz95.mono hleb18
 have hsd95:=hsd95.mono hleb18
 have hAo:=hAo.mono hleb18
 refine dP ⟨false,false⟩ aV (by kernel_rfl) ?_
 refine Wp.one 0 (by kernel_rfl) ?_
 refine mV rfl rfl (.nil (Wp.one 2 (by kernel_rfl) ?_))
 refine mV rfl rfl (.nil (Wp.pr 6 (by kernel_rfl) ?_))
 refine lA rfl .no kT (.u rfl) (fun _=>(hbb18.rdn (m:=3) (cs':=[hb95.val bs.length,hz95.val zs.length,hd95.val ds.length]) (rfl)).rd) (fun _=>rfl) ?_
 refine .nil ⟨⟨rfl,rfl⟩,?_⟩
 refine Wp.b1 1 (by kernel_rfl) ?_
 refine mM rfl aH ?_; intro b146
 refine .nil (Wp.b1 3 (by kernel_rfl) ?_)
 refine aFW rfl aH aY (.u rfl) (.u rfl) .here hs78.sc (by omega) ?_; intro G148 h148 L148 eL148 hG148 hs148
 have hsb95:=hsb95.mono hG148
 have hsz95:=hsz95.mono hG148
 have hsd95:=hsd95.mono hG148
 have hAo:=hAo.mono hG148
 refine .nil (Wp.b1 4 (by kernel_rfl) ?_)
 refine Go.Tan.b1 rfl gP jM (.u rfl) rfl rfl (by decide) ?_; intro b149
 refine .nil (Wp.b1 5 (by kernel_rfl) ?_)
 refine fK (xs:=os) ((h148,L148)) rfl gP jM rfl (.u rfl) (.u rfl) aT .here (rfl) (mW rfl) (by omega) (by unfold maxLen; omega) ?_; intro v150 ov150
 refine .nil (Wp.one 7 (by kernel_rfl) ?_)
 refine aS rfl rfl (.nil (Wp.b1 8 (by kernel_rfl) ?_))
 refine sw rfl (.u rfl) (.u rfl) rfl nT rU rfl (lQ rfl rfl rfl) ?_
 refine .nil (Wp.one 9 (by kernel_rfl) ?_)
 refine aS rfl rfl (.nil (Wp.last (by kernel_rfl) ?_))
 refine .code (.ret ?_)
 refine aEJ aF (fun _ _=>rfl) (by intro b hb; cases hb) ?_; intro GfRO hRO hleRO evRO hsRO; subst evRO
 have hsb95:=hsb95.mono hleRO
 have hsz95:=hsz95.mono hleRO
 have hsd95:=hsd95.mono hleRO
 have hAo:=hAo.mono hleRO
 have hs148:=hs148.mono hleRO
 have hsRO:=SlP.of hsRO (hAo.snoc hs148)
 refine aP Tryz.results62 (.tmp rfl (.cell rfl (fun w hw=>bW kT (RdN.own .here) (rfl) hw) (.tmp rfl .nil))) ?_
 exact ⟨hRO,hb95,hz95,hd95,os++[(h148,L148)],bs,zs,ds,0,.inl ⟨rfl,rows,L78,hB,h2r,by rw [List.map_append,hos,List.take_of_length_le (by omega),eL148]; rfl,hbs9,hzs9,hds9⟩,by rw [List.length_append]; simp only [List.length_cons,List.length_nil]; omega,rfl,rfl,hsRO,hsb95,hsz95,hsd95⟩
theorem aS5:aQ Tryz.prog 134=true:=by kernel_rfl
theorem aSr:aQ Tryz.prog 107=true:=by kernel_rfl
theorem aPV (B:List Y) (s:Sh) (I n b:Nat) (G:PM) (hs:SlR G 1 aL s B) (hI:I≤B.length) (hl:B.length≤1000000) (hn:n<18446744073709551616):Ct Tryz.prog 107 ([.pointer (some ⟨b,0,none⟩),.int .u64 (n:Int)]:List Value).toArray G [.blk b (cl [Sh.val s B.length,.int .i64 (I:Int),.int .i64 0] 155)] (fun G' μ' u=>∃ (h':Sh) (l:List Ent),(gF n [] [] (B.drop I)=some l∨(gF n [] [] (B.drop I)=none∧l=[]∧¬ n=0))∧l.length≤1000000∧μ'=[]∧u=h'.val l.length∧SlR G' 4 Ent.cells h' l):=by
 refine Ct.of Tryz.func107 rfl Tryz.ntmps107 rfl fun w0 hs0=>?_
 refine .seq (aM rfl rfl (aS rfl rfl (.nc (.seq (aM rfl rfl (aS rfl rfl (.nc (.seq (kQ 4 Ent.cells 47 (aM rfl rfl (aS rfl rfl (.nc (.seq (.block ?_))))))))))))))
 refine bE (α:=Nat×ByteArray×Value×List Ent×Nat) (fun gh=>[(1,true,.int .u64 (gh.1:Int)),(5,true,gh.2.2.1),(6,true,.string gh.2.1)]) (fun gh=>[rS 4 Ent.cells gh.2.2.1 47 gh.2.2.2.1,.blk b (cl [Sh.val s B.length,.int .i64 (gh.2.2.2.2:Int),.int .i64 0] 155)])
  (fun gh Gl=>(gF n [] [] (B.drop I)=gF gh.1 (yb gh.2.1) gh.2.2.2.1 (B.drop gh.2.2.2.2))∧(gh.2.2.2.2≤B.length)∧(gh.2.2.2.1.length≤gh.2.2.2.2∧gh.2.1.size≤gh.2.2.2.2)∧(gh.1≤n)) (fun gh=>gh.1) (n,ByteArray.empty,.slice none 0 0,[],I) [(0,true,_)] []
  (aA rfl (aA rfl (aA rfl (aA rfl eZ))))
  (mS .here rfl (mS .here rfl mN)) ?_ ?_
 ·refine ⟨?_,?_,?_,?_⟩
  ·(try dsimp only)<;>(rw [aJp])
  ·(try dsimp only)<;>(first|omega|rfl|assumption|(simp; done))
  ·(try dsimp only)<;>(exact ⟨Nat.zero_le _,Nat.zero_le _⟩)
  (try dsimp only)<;>(first|omega|rfl|assumption|(simp; done))
 intro gh N0 Gl0 hN0 hGl0 hF0
 obtain ⟨m,last,v,acc,J⟩:=gh; dsimp only at hF0 hN0 ⊢
 obtain ⟨hE,hJ,hlen,hm⟩:=hF0
 have hs:=hs.mono hGl0
 refine .g (cP rfl rfl rfl rfl (mV rfl rfl (mv rfl (.t rfl rfl) (.u rfl) (nc rfl (.t rfl rfl) (.s rfl) (fz rfl (.t rfl rfl) oT (.s rfl) (ld rfl (.t rfl rfl) gD (.s rfl) (fun hc=>Rd.own aF (by first|exact aJ rfl|rfl)) ?_))))))
 refine cp rfl (.t rfl rfl) (.s rfl) (.u rfl) rfl (cC rfl .no (.u rfl) (.s rfl) (.g (cD rfl (fun c1=>?_) (fun c1=>?_))))
 ·have c1k:=c1
  try simp only [aC,aI,aD] at c1
  refine .g (ar rfl .no (.u rfl) (.u rfl) rfl (fun _=>eY (by omega) (by omega)) ?_)
  refine .g (ka rfl (.inr rfl) qV (aB rfl aE) (bQ aF) (qF B J 0 s b _ hs hJ (by omega)) ?_)
  rintro _ G27 μ27 hG27 ⟨n27,I27,e27,hN27,hI27,rfl,rfl⟩
  have nL27:=iN hN27
  have hs:=hs.mono hG27
  refine .g (ka rfl (.inr rfl) qV (aB rfl aE) (bQ .here) (qF B I27 e27 s b _ hs hI27 (by omega)) ?_)
  rintro _ G29 μ29 hG29 ⟨n29,I29,e29,hN29,hI29,rfl,rfl⟩
  have nL29:=iN hN29
  have hs:=hs.mono hG29
  refine .g (ka rfl (.inr rfl) qV (aB rfl aE) (bQ .here) (qF B I29 e29 s b _ hs hI29 (by omega)) ?_)
  rintro _ G31 μ31 hG31 ⟨n31,I31,e31,hN31,hI31,rfl,rfl⟩
  have nL31:=iN hN31
  have hs:=hs.mono hG31
  refine .g (bG (mc:=⟨false,false⟩) [0,1,2,3,4,5,6,7,8,9,10,11] aV (by kernel_rfl) ?_)
  refine .p (nC rfl rfl (fZ rfl mL rfl (lO rfl bV rfl .here (by first|exact aJ rfl|rfl) ?_)))
  refine lE rfl bK rfl (.p (nC rfl rfl (fZ rfl fC rfl (lO rfl dA rfl .here (by first|exact aJ rfl|rfl) ?_))))
  refine aW (((B.length-I31):Nat):Int) rfl rfl rfl rfl ?_
  refine cw rfl .no cW (.u rfl) (fun _=>eY (by omega) (by omega)) ?_
  refine .g (nC rfl rfl (fZ rfl oT rfl (lO rfl gD rfl .here (by first|exact aJ rfl|rfl) ?_)))
  refine cP rfl rfl rfl rfl (mV rfl rfl (mv rfl (.f rfl rfl) (.u rfl) (mv rfl (.f rfl rfl) (.u rfl) (ls rfl (.f rfl rfl) cI (.s rfl) (cw rfl (.f rfl rfl) cW (.s rfl) (fun hc=>eY (by (try simp only [Bool.and_eq_true,decide_eq_true_eq,Bool.not_eq_true',Bool.or_eq_false_iff,decide_eq_false_iff_not] at hc); omega) (by (try simp only [Bool.and_eq_true,decide_eq_true_eq,Bool.not_eq_true',Bool.or_eq_false_iff,decide_eq_false_iff_not] at hc); omega)) ?_)))))
  refine cp rfl (.f rfl rfl) (.s rfl) (.s rfl) rfl (cL rfl .no (.u rfl) (.s rfl) (mV rfl rfl (mv rfl (.f rfl rfl) (.u rfl) (mv rfl (.f rfl rfl) (.u rfl) (cp rfl (.f rfl rfl) (.s rfl) (.s rfl) rfl (cL rfl .no (.u rfl) (.s rfl) (mV rfl rfl (mv rfl (.f rfl rfl) (.u rfl) (mv rfl (.f rfl rfl) (.u rfl) (mv rfl (.f rfl rfl) (.u rfl) (ar rfl (.f rfl rfl) (.s rfl) (.s rfl) rfl (fun hc=>eY (by (try simp only [Bool.and_eq_true,decide_eq_true_eq,Bool.not_eq_true',Bool.or_eq_false_iff,decide_eq_false_iff_not] at hc); omega) (by (try simp only [Bool.and_eq_true,decide_eq_true_eq,Bool.not_eq_true',Bool.or_eq_false_iff,decide_eq_false_iff_not] at hc); omega)) ?_)))))))))))
  refine cp rfl (.f rfl rfl) (.s rfl) (.s rfl) rfl (cL rfl .no (.u rfl) (.s rfl) (.g (cD rfl (fun c2=>?_) (fun c2=>?_))))
  ·have c2k:=c2
   try simp only [aC,aI,aD] at c2
   refine .seq (aM rfl rfl (aS rfl rfl (.nc (.ret (aP Tryz.results107 (.tmp rfl .nil) ?_)))))
   exact ⟨⟨none,0⟩,[],.inr ⟨by rw [hE]; exact aCw (by omega) (aPy hN27 hN29 hN31 (by omega)),rfl,by omega⟩,Nat.zero_le _,rfl,rfl,SlR.nul⟩
  have c2k:=c2
  try simp only [aC,aI,aD] at c2
  refine .skip (.code (.seq ?_))
  obtain rfl:e31=0:=by omega
  refine bG (mc:=⟨false,false⟩) [0,1,2,3,4,5,6,7,8,9,10,11,12,13,14,15,16,17,18,19,20,21] aV (by kernel_rfl) ?_
  refine .p (sE (n27) rfl .no cI (.u rfl) (.u rfl) (by omega) (by omega) ?_)
  refine .p (nC rfl rfl (fZ rfl mL rfl (lO rfl bV rfl .here (by first|exact aJ rfl|rfl) ?_)))
  refine .p (nC rfl rfl (fZ rfl fC rfl (lO rfl dA rfl .here (by first|exact aJ rfl|rfl) ?_)))
  refine .p (nC rfl rfl (fZ rfl fC rfl (lO rfl dA rfl .here (by first|exact aJ rfl|rfl) ?_)))
  refine .p (cw rfl .no jF (.u rfl) (fun _=>cB (by omega) (by omega)) ?_)
  refine aW (((I31+n29):Nat):Int) rfl rfl rfl rfl ?_
  refine kS (I31) ((I31+n29)) rfl .no aH hs (.u rfl) (.u rfl) (.u rfl) (by omega) (by omega) (by omega) (by omega) ?_
  intro h85 L85 eL85 lL85 hs85
  have lL85:=lL85 rfl
  refine sB rfl .no jX (.u rfl) (fun _=>hs85.sc) ?_
  refine sP rfl .no (.u rfl) (.u rfl) (fun _=>by simp only [fO,List.length_take,bP]; omega) ?_
  refine aS rfl rfl (.nc (.seq ?_))
  generalize hkey:aN (yb (aN ((yb last).take n27))++yb (aN L85))=key
  have eky:yb key=(yb last).take n27++(B.drop I31).take n29:=by rw [← hkey]; exact aP6 (by rw [eL85]; congr 1; omega)
  have lky:key.size≤200000000:=by rw [← bP,eky,List.length_append,List.length_take,List.length_take,bP,List.length_drop]; omega
  refine .g (nC rfl rfl (fZ rfl fC rfl (lO rfl dA rfl .here (by first|exact aJ rfl|rfl) ?_)))
  refine .p (cw rfl .no jF (.u rfl) (fun _=>cB (by omega) (by omega)) ?_)
  refine aW (((I31+n29):Nat):Int) rfl rfl rfl rfl ?_
  refine nC rfl rfl (fZ rfl fC rfl (s1 rfl (.u rfl) (.u rfl) rfl qZ .here (show 1<3 by decide) (rfl) ?_))
  refine .g (bG (mc:=⟨false,false⟩) [0,1,2,3,4,5,6,7,8,9,10,11,12,13,14,15,16,17] aV (by kernel_rfl) ?_)
  refine .p (nC rfl rfl (fZ rfl mL rfl (lO rfl bV rfl .here (by first|exact aJ rfl|rfl) ?_)))
  refine .p (nC rfl rfl (fZ rfl fC rfl (lO rfl dA rfl .here (by first|exact aJ rfl|rfl) ?_)))
  refine .p (nC rfl rfl (fZ rfl fC rfl (lO rfl dA rfl .here (by first|exact aJ rfl|rfl) ?_)))
  refine .p (cw rfl .no jF (.u rfl) (fun _=>cB (by omega) (by omega)) ?_)
  refine dR ((((I31+n29)+n31):Nat):Int) rfl .no (.u rfl) (.u rfl) rfl (by omega) (fun _=>cB (by omega) (by omega)) ?_
  refine kS ((I31+n29)) (((I31+n29)+n31)) rfl .no aH hs (.u rfl) (.u rfl) (.u rfl) (by omega) (by omega) (by omega) (by omega) ?_
  intro h113 L113 eL113 lL113 hs113
  have lL113:=lL113 rfl
  refine sB rfl .no jX (.u rfl) (fun _=>hs113.sc) ?_
  refine .g (nC rfl rfl (fZ rfl fC rfl (lO rfl dA rfl .here (by first|exact aJ rfl|rfl) ?_)))
  refine .p (cw rfl .no jF (.u rfl) (fun _=>cB (by omega) (by omega)) ?_)
  refine dR ((((I31+n29)+n31):Nat):Int) rfl .no (.u rfl) (.u rfl) rfl (by omega) (fun _=>cB (by omega) (by omega)) ?_
  refine nC rfl rfl (fZ rfl fC rfl (s1 rfl (.u rfl) (.u rfl) rfl qZ .here (show 1<3 by decide) (rfl) ?_))
  refine .nil (.code (.seq ?_))
  have htk:=aPx hN27 hN29 hN31 (by omega) (by omega) (by omega) eky (V:=L113) (by rw [eL113]; congr 1; omega)
  refine .g (kV rfl aS5 (aB rfl aE) (aPP key _ (by omega)) ?_)
  refine .p (eX rfl rfl rfl (eX rfl rfl rfl ?_))
  refine al rfl mJ ?_; intro b13
  refine sw rfl (.u rfl) (.u rfl) rfl fN .here rfl (Ent.one _) ?_
  refine .g (cP rfl rfl rfl rfl (.g (cD rfl (fun c3=>?_) (fun c3=>?_))))
  ·have c3k:=c3
   try simp only [aC,aI,aD] at c3
   refine .seq (aM rfl rfl (aS rfl rfl (.nc (.ret (aP Tryz.results107 (.tmp rfl .nil) ?_)))))
   rw [if_neg (by omega)] at htk
   exact ⟨⟨none,0⟩,[],.inr ⟨by rw [hE]; exact aCw (by omega) htk,rfl,by omega⟩,Nat.zero_le _,rfl,rfl,SlR.nul⟩
  have c3k:=c3
  try simp only [aC,aI,aD] at c3
  refine .g (fZ rfl mG rfl (s1 rfl (.u rfl) (.u rfl) rfl pT .here (show 3<4 by decide) (aEW _ _) ?_))
  refine .g (lA rfl .no dN (.u rfl) (fun _=>RdN.own .here) (fun _=>(by first|rfl|exact Ent.len _)) ?_)
  refine Go.Tan.b1 rfl dZ vJ (.u rfl) rfl rfl (by decide) ?_; intro b136
  refine fK (xs:=acc) ({ (fF (yb key)).1 with value:=aN L113 }) rfl dZ vJ rfl (.u rfl) (.u rfl) bM .here (Ent.len _) (Ent.one _) (by omega) (by unfold maxLen; omega) ?_; intro v137 ov137
  refine .g (aZ (m-1,key,v137,acc++[{ (fF (yb key)).1 with value:=aN L113 }],I31+n29+n31) ?_ ?_ ?_ ?_ ?_)
  ·exact (fD rfl (congrArg (Value.int .u64) (by dsimp only; omega)) (aA rfl (aA rfl (aA rfl eZ))))
  ·exact (mS .here rfl (mS aT rfl mN))
  ·first|omega|(dsimp only; omega)
  ·exact (((hGl0).trans hG27).trans hG29).trans hG31
  refine ⟨?_,?_,?_,?_⟩
  ·(try dsimp only)<;>(rw [if_pos (by omega)] at htk; rw [hE]; exact aGO (by omega) htk)
  ·(try dsimp only)<;>(omega)
  ·(try dsimp only)<;>(rw [if_pos (by omega)] at htk; have ht:=aJR htk; rw [bP,bP,List.length_drop,List.length_drop] at ht; rw [List.length_append]; simp only [List.length_cons,List.length_nil]; omega)
  (try dsimp only)<;>(first|omega|rfl|assumption|(simp; done))
 have c1k:=c1
 try simp only [aC,aI,aD] at c1
 refine .exit (.xcode (.xlp (.xblk (.code (.seq (bD rfl rfl (mV rfl rfl (aS rfl rfl (.nc (.ret ?_))))))))))
 refine aEJ .here (fun _ _=>rfl) (wF .here rfl (aA3)) ?_; intro GfRA hRA hleRA evRA hsRA; subst evRA
 refine aP Tryz.results107 (.tmp rfl .nil) ?_
 obtain rfl:m=0:=by rcases c1 with h | h; (omega); (first|exact absurd h (by decide)|(simp at h))
 exact ⟨hRA,acc,.inl (by rw [hE]; rfl),by omega,rfl,rfl,hsRA⟩
theorem aPK (xs:List Y) (h:Sh) (G:PM) (hs:SlR G 1 aL h xs) (hl:xs.length≤1000000):Ct Tryz.prog 65 ([h.val xs.length]:List Value).toArray G [] (fun G' μ' u=>∃ (h':Sh) (l:List Ent) (er:Int),(l,er)=gM xs∧μ'=[]∧u=.tuple #[h'.val l.length,.int .i64 er]∧SlR G' 4 Ent.cells h' l):=by
 refine Ct.of Tryz.func65 rfl Tryz.ntmps65 rfl fun w0 hs0=>?_
 refine .g (dU ([h.val xs.length,.int .i64 0,.int .i64 0]) rfl .no aAJ (.cons (.u rfl) rfl .nil) rfl (rfl) ?_)
 refine bX rfl rfl rfl ?_; intro b12
 refine .g (ka rfl (.inr rfl) qV (aB rfl aE) (bQ .here) (qF xs 0 0 h b12 _ hs (Nat.zero_le _) (by omega)) ?_)
 rintro _ G14 μ14 hG14 ⟨n14,I14,e14,hN14,hI14,rfl,rfl⟩
 have nL14:=iN hN14
 have hs:=hs.mono hG14
 refine .g (ka rfl (.inr rfl) qV (aB rfl aE) (bQ .here) (qF xs I14 e14 h b12 _ hs hI14 (by omega)) ?_)
 rintro _ G16 μ16 hG16 ⟨n16,I16,e16,hN16,hI16,rfl,rfl⟩
 have nL16:=iN hN16
 have hs:=hs.mono hG16
 refine .g (nC rfl rfl (fZ rfl oT rfl (lO rfl gD rfl .here (by first|exact aJ rfl|rfl) ?_)))
 refine cP rfl rfl rfl rfl (mV rfl rfl (mv rfl (.f rfl rfl) (.u rfl) (cp rfl (.f rfl rfl) (.s rfl) (.u rfl) rfl (cL rfl .no (.u rfl) (.s rfl) (.g (cD rfl (fun c1=>?_) (fun c1=>?_)))))))
 ·have c1k:=c1
  try simp only [aC,aI,aD] at c1
  refine .seq (bD rfl rfl (aS rfl rfl (aS rfl rfl (.nc (.ret (aP Tryz.results65 (.tmp rfl (.tmp rfl .nil)) ?_))))))
  exact ⟨⟨none,0⟩,[],100,aH4 hN14 hN16 (by omega),rfl,rfl,SlR.nul⟩
 have c1k:=c1
 try simp only [aC,aI,aD] at c1
 refine .skip (.code (.seq ?_))
 obtain rfl:e16=0:=by omega
 refine .g (ka rfl (.inr rfl) aSr (aB rfl (aB rfl aE)) (bQ .here) (aPV xs h I16 n16 b12 _ hs hI16 hl nL16) ?_)
 rintro _ G28 μ28 hG28 ⟨h28,l28,hE28,hll28,rfl,rfl,hs28⟩
 have hs:=hs.mono hG28
 refine .g (cw rfl .no jF (.u rfl) (fun _=>cB (by omega) (by omega)) ?_)
 refine kc rfl aTO (aB rfl (aB rfl aE)) (aPJ h28 l28 (n14:Int) _ hs28 (by omega)) ?_
 rintro _ G33 μ33 hG33 ⟨v33,L33,er33,hB33,rfl,rfl⟩
 have hs:=hs.mono hG33
 have hs28:=hs28.mono hG33
 refine .p (eX rfl rfl rfl (eX rfl rfl rfl (aS rfl rfl (aS rfl rfl (.nc (.seq (.seq ?_)))))))
 refine iR .here (by first|(intro b hb; cases hb; done) | simp [keys,Res.keys]) ?_; intro GfR33 hR33 hleR33 evR33 hsR33; subst evR33
 have hs:=hs.mono hleR33
 have hs28:=hs28.mono hleR33
 refine .g (cP rfl rfl rfl rfl (mV rfl rfl (mv rfl (.f rfl rfl) (.u rfl) (sB rfl (.f rfl rfl) jX (.s rfl) (fun hc=>hsR33.sc) ?_))))
 refine mv rfl (.f rfl rfl) (.u rfl) (sB rfl (.f rfl rfl) jX (.s rfl) (fun hc=>hs.sc) ?_)
 refine cbn rfl (.f rfl rfl) (.s rfl) (.s rfl) ?_
 refine cL rfl .no (.u rfl) (.s rfl) (.g (cD rfl (fun c2=>?_) (fun c2=>?_)))
 ·have c2k:=c2
  try simp only [aC,aI,aD] at c2
  refine .seq (bD rfl rfl (aS rfl rfl (aS rfl rfl (.nc (.ret (aP Tryz.results65 (.tmp rfl (.tmp rfl .nil)) ?_))))))
  exact ⟨⟨none,0⟩,[],100,(by rcases hE28 with hE | ⟨hE,_,_⟩; (exact aH2 hN14 hN16 ⟨rfl,by omega⟩ hE hB33 c2); (exact aH5 hN14 hN16 ⟨rfl,by omega⟩ hE)),rfl,rfl,SlR.nul⟩
 have c2k:=c2
 try simp only [aC,aI,aD] at c2
 refine .skip (.code (.seq (eH rfl rfl (mV rfl rfl (aS rfl rfl (aS rfl rfl (.nc (.ret (aP Tryz.results65 (.tmp rfl (.tmp rfl .nil)) ?_)))))))))
 rcases hE28 with hE | ⟨hE,rfl,hne⟩
 ·exact ⟨h28,l28,0,aH3 hN14 hN16 ⟨rfl,by omega⟩ hE hB33 c2.1 c2.2,rfl,rfl,hs28⟩
 exact absurd c2.2 (aPj hN14 hN16 hne hB33 c2.1)
end Go.Proofs.YtbdnclpopappeaaGreatDoor
