/- Lemmas and contracts of functions, joined. -/
import Derived.Test.YtbdnclpopappeaaGreatDoorMb4
set_option linter.unusedSimpArgs false
set_option linter.unusedVariables false
set_option linter.unusedSectionVars false
namespace Go.Proofs.YtbdnclpopappeaaGreatDoor
open Go.Tan Go.RowKit
namespace Fx
theorem go20:goFn Tryz.prog 20=true:=by kernel_rfl
theorem zq36:zrL Tryz.prog 36=some (Meta.zero.cells):=by kernel_rfl
theorem fo28_0:fOff Tryz.prog 28 0=some 0:=by kernel_rfl
theorem fo28_1:fOff Tryz.prog 28 1=some 1:=by kernel_rfl
theorem bp36_:bPl Tryz.prog 36 []=some (Meta.zero.cells,[]):=by kernel_rfl
theorem sz36:szT Tryz.prog 36=some 40:=by kernel_rfl
theorem ag36:aggN Tryz.prog 36=some (some 40):=by kernel_rfl
theorem go25:goFn Tryz.prog 25=true:=by kernel_rfl
theorem bp70_0_1_2:bPl Tryz.prog 70 [0,1,2]=some ([.int .u8 0,.int .u8 0,.int .u8 0,.int .u8 0,.int .u8 0,.int .u8 0,.int .u8 0,.int .u8 0,.int .u8 0,.int .u8 0,.int .u8 0,.int .u8 0,.int .u8 0,.int .u8 0,.int .u8 0,.int .u8 0,.int .u8 0,.int .u8 0,.int .u8 0,.int .u8 0,.int .u8 0,.int .u8 0,.int .u8 0,.int .u8 0,.int .u8 0,.int .u8 0,.int .u8 0,.int .u8 0,.int .u8 0,.int .u8 0,.int .u8 0,.int .u8 0,.int .u8 0,.int .u8 0,.int .u8 0,.int .u8 0,.int .u8 0,.int .u8 0,.int .u8 0,.int .u8 0,.int .u8 0,.int .u8 0,.int .u8 0,.int .u8 0,.int .u8 0,.int .u8 0,.int .u8 0,.int .u8 0,.int .u8 0,.int .u8 0,.int .u8 0,.int .u8 0,.int .u8 0,.int .u8 0,.int .u8 0,.int .u8 0,.int .u8 0,.int .u8 0,.int .u8 0,.int .u8 0,.int .u8 0,.int .u8 0,.int .u8 0,.int .u8 0,.slice none 0 0,.slice none 0 0,.slice none 0 0],[(0,64),(64,1),(65,1)]):=by kernel_rfl
theorem go27:goFn Tryz.prog 27=true:=by kernel_rfl
theorem go29:goFn Tryz.prog 29=true:=by kernel_rfl
theorem go30:goFn Tryz.prog 30=true:=by kernel_rfl
theorem go31:goFn Tryz.prog 31=true:=by kernel_rfl
theorem fo28_2:fOff Tryz.prog 28 2=some 2:=by kernel_rfl
theorem go33:goFn Tryz.prog 33=true:=by kernel_rfl
theorem go32:goFn Tryz.prog 32=true:=by kernel_rfl
theorem go36:goFn Tryz.prog 36=true:=by kernel_rfl
theorem bp36_0_1_2_3_4_5_6_7_8:bPl Tryz.prog 36 [0,1,2,3,4,5,6,7,8]=some (Meta.zero.cells,[(0,1),(1,1),(2,1),(3,1),(4,1),(5,1),(6,1),(7,1),(8,32)]):=by kernel_rfl
end Fx
set_option maxHeartbeats 4000000 in
theorem tBuild_ok (root:Nat→Y) (h:Hd) (l:List Ent) (hl:Sh) (blk every bits:Int) (G:PM) (hs:SlR G 4 Ent.cells hl l) (hli:lightE l) (hK:RdNP G 1 0 (wa 64 kW)):Ct Tryz.prog 8 ([.agg (ba 32 root).toArray,.agg ([V h.kind,V h.level,uv .u64 h.gen,uv .u64 h.epoch,uv .u64 h.num]:List Value).toArray,hl.val l.length,.agg #[.int .i64 blk,.int .i64 every,.int .i64 bits]]:List Value).toArray G [] (fun G' μ' u=>∃ (h':Sh) (L:List Y) (m:Meta) (er:Int),BuildR root h l blk every bits L m er∧μ'=[]∧u=.tuple #[h'.val L.length,m.val,.int .i64 er]∧SlR G' 1 encY h' L):=by
 refine Ct.of Tryz.func8 rfl Tryz.ntmps8 rfl fun w0 hs0=>?_
 have hl1:=hli.1; have hl2:=hli.2
 refine .seq (rq6 rfl rfl ?_)
 refine bx rfl (.u rfl) rfl ?_; intro b4
 refine bx rfl (.u rfl) rfl ?_; intro b5
 refine bx rfl (.u rfl) rfl ?_; intro b7
 refine aS rfl rfl ?_
 refine al rfl Fx.zq36 ?_; intro b9
 refine aS rfl rfl (.nil (.code (.seq (rq1 rfl rfl (aS rfl rfl (.nil (.code (.seq (.seq (Wk.rg [0,1,2,3,4,5,6,7,8,9,10,11,12,13,14,15,16,17,18,19,20,21,22,23,24,25,26,27,28,29,30,31,32,33,34,35,36,37,38,39,40,41,42] rfl rfl (fz rfl .no Fx.fo26_0 (.u rfl) (ld rfl .no Fx.ag5 (.u rfl) (fun _=>Rd.own tk2 (by first|exact wap_f rfl|rfl)) ?_))))))))))))
 refine cp rfl .no (.u rfl) (.u rfl) rfl (mV rfl rfl (lA rfl (.f rfl rfl) Fx.ag26 (.u rfl) (fun _=>RdN.own tk2) (fun _=>(by first|exact (key_len _ _).trans (key_len _ _).symm|exact key_len _ _|exact ba_len _ _|exact Ent.len _|rfl)) ?_))
 refine kv rfl (.f rfl rfl) Fx.go22 (Eva.cons (.s rfl) Evn) (fun hc=>nRight_ok h _) ?_
 refine nt rfl (.f rfl rfl) (.s rfl) (pkO rfl .no (.u rfl) (.s rfl) (mV rfl rfl (mv rfl (.f rfl rfl) (.u rfl) (ln rfl (.f rfl rfl) Fx.sn31 (.s rfl) (cp rfl (.f rfl rfl) (.s rfl) (.u rfl) rfl (pkO rfl .no (.u rfl) (.s rfl) (mV rfl rfl (fz rfl (.f rfl rfl) Fx.fo28_0 (.u rfl) (ld rfl (.f rfl rfl) Fx.ag3 (.s rfl) (fun hc=>Rd.own tk1 (by first|exact wap_f rfl|rfl)) ?_)))))))))
 refine cp rfl (.f rfl rfl) (.s rfl) (.u rfl) rfl (pkO rfl .no (.u rfl) (.s rfl) (mV rfl rfl (fz rfl (.f rfl rfl) Fx.fo28_0 (.u rfl) (ld rfl (.f rfl rfl) Fx.ag3 (.s rfl) (fun hc=>Rd.own tk1 (by first|exact wap_f rfl|rfl)) ?_))))
 refine cp rfl (.f rfl rfl) (.s rfl) (.u rfl) rfl (pkO rfl .no (.u rfl) (.s rfl) (mV rfl rfl (fz rfl (.f rfl rfl) Fx.fo28_1 (.u rfl) (ld rfl (.f rfl rfl) Fx.ag3 (.s rfl) (fun hc=>Rd.own tk1 (by first|exact wap_f rfl|rfl)) ?_))))
 refine cp rfl (.f rfl rfl) (.s rfl) (.u rfl) rfl (pkO rfl .no (.u rfl) (.s rfl) (mV rfl rfl (fz rfl (.f rfl rfl) Fx.fo28_1 (.u rfl) (ld rfl (.f rfl rfl) Fx.ag3 (.s rfl) (fun hc=>Rd.own tk1 (by first|exact wap_f rfl|rfl)) ?_))))
 refine cp rfl (.f rfl rfl) (.s rfl) (.u rfl) rfl (pkO rfl .no (.u rfl) (.s rfl) (mV rfl rfl (mv rfl (.f rfl rfl) (.u rfl) (mv rfl (.f rfl rfl) (.u rfl) (kv rfl (.f rfl rfl) Fx.go23 (Eva.cons (.s rfl) (Eva.cons (.s rfl) Evn)) (fun hc=>contE_ok hl l _ hs (by (try simp only [Bool.and_eq_true,decide_eq_true_eq,Bool.not_eq_true',Bool.or_eq_false_iff,decide_eq_false_iff_not] at hc); omega) 20 Fx.go20 [] (fun e => !rightE e) (fun G2 _ e _=>tBad_ok e G2)) ?_)))))
 refine pkO rfl .no (.u rfl) (.s rfl) (mV rfl rfl (mv rfl (.f rfl rfl) (.u rfl) (kv rfl (.f rfl rfl) Fx.go24 (Eva.cons (.s rfl) Evn) (fun hc=>rises_ok hl l _ hs (by (try simp only [Bool.and_eq_true,decide_eq_true_eq,Bool.not_eq_true',Bool.or_eq_false_iff,decide_eq_false_iff_not] at hc); omega)) ?_)))
 refine nt rfl (.f rfl rfl) (.s rfl) (pkO rfl .no (.u rfl) (.s rfl) (.nil (.code (.cond rfl (fun c1=>?_) (fun c1=>?_)))))
 ·have c1k:=c1
  try simp only [qcA,qcC,qcB] at c1
  refine .seq (rq4 rfl rfl (bC rfl .no Fx.bp36_ .nil rfl ?_))
  refine aS rfl rfl (sw rfl (.u rfl) (.u rfl) rfl Fx.sz36 .here (by first|exact (key_len _ _).trans (key_len _ _).symm|exact key_len _ _|exact ba_len _ _|exact Ent.len _|rfl) (by first|exact ba_one _ _|exact wa_one _ _|exact one_V _|decide|exact one_app (wa_one _ _) (by simp [Value.oneCell'])) ?_)
  refine aS rfl rfl (.nil (.code (.ret (We.fin0 Tryz.results8 (.tmp rfl (.cell rfl (fun w hw=>run_loadVarN Fx.ag36 (RdN.own .here) ((by first|exact mt_len|exact Meta.len _)) hw) (.tmp rfl .nil))) ?_))))
  exact ⟨⟨none,0⟩,[],Meta.zero,1,tb_bad c1k,rfl,rfl,SlR.nul⟩
 have c1k:=c1
 try simp only [qcA,qcC,qcB] at c1
 refine .skip (.code (.seq ?_))
 refine wk_fz tk3 (by intro b hb; cases hb) ?_; intro Gfb4 hleb4 hbb4
 have hs:=hs.mono hleb4
 have hK:=hK.mono hleb4
 refine wk_fz tk2 (by intro b hb; cases hb) ?_; intro Gfb5 hleb5 hbb5
 have hs:=hs.mono hleb5
 have hK:=hK.mono hleb5
 have hbb4:=hbb4.mono hleb5
 refine wk_fz tk1 (by intro b hb; cases hb) ?_; intro Gfb7 hleb7 hbb7
 have hs:=hs.mono hleb7
 have hK:=hK.mono hleb7
 have hbb4:=hbb4.mono hleb7
 have hbb5:=hbb5.mono hleb7
 refine Wk.mixp ⟨true,false⟩ Fx.mix (by kernel_rfl) ?_
 refine Wp.one 0 (by kernel_rfl) ?_
 refine lA rfl .no Fx.ag23 (.u rfl) (fun _=>(hbb4.rdn (m:=32) (cs':=_) (by first|exact ba_all|exact app_l|exact app_r)).rd) (fun _=>(ba_len _ _)) ?_
 refine .nil (Wp.one 1 (by kernel_rfl) ?_)
 refine lA rfl .no Fx.ag26 (.u rfl) (fun _=>(hbb5.rdn (m:=5) (cs':=h.cells) (rfl)).rd) (fun _=>rfl) ?_
 refine .nil (Wp.pr 3 (by kernel_rfl) ?_)
 refine lA rfl .no Fx.ag26 (.u rfl) (fun _=>(hbb5.rdn (m:=5) (cs':=h.cells) (rfl)).rd) (fun _=>rfl) ?_
 refine .nil ⟨⟨rfl,rfl⟩,?_⟩
 refine Wp.pr 5 (by kernel_rfl) ?_
 refine lA rfl .no Fx.ag26 (.u rfl) (fun _=>(hbb5.rdn (m:=5) (cs':=h.cells) (rfl)).rd) (fun _=>rfl) ?_
 refine .nil ⟨⟨rfl,rfl⟩,?_⟩
 refine Wp.b1 2 (by kernel_rfl) ?_
 refine kv rfl .no Fx.go25 (Evc rfl (Evc rfl Evn)) (fun _=>KeyOf_ok root h _ hK) ?_
 refine .nil (Wp.b1 4 (by kernel_rfl) ?_)
 refine kc rfl Fx.go26 (Evc rfl Evn) (Ct.frzB (nLay_ok h _)) ?_
 rintro _ G74 μ74 hG74 ⟨h74,L74,eL74,rfl,rfl,hs74⟩
 have hs:=hs.mono hG74
 have hK:=hK.mono hG74
 have hbb5:=hbb5.mono hG74
 have hbb7:=hbb7.mono hG74
 refine .nil (Wp.b1 6 (by kernel_rfl) ?_)
 refine kc rfl Fx.go26 (Evc rfl Evn) (Ct.rowc (nLay_ok h _)) ?_
 rintro v76 G76 μ76 hG76 ⟨L76,ov76,eL76,rfl⟩
 have hs:=hs.mono hG76
 have hK:=hK.mono hG76
 have hbb5:=hbb5.mono hG76
 have hbb7:=hbb7.mono hG76
 have hs74:=hs74.mono hG76
 refine .nil (Wp.one 7 (by kernel_rfl) ?_)
 refine bCe (wrC (keyEnc root (headL h)) (keyMac root (headL h)) (h74.val L74.length) v76 (.slice none 0 0)) rfl .no Fx.bp70_0_1_2 (.cons (.u rfl) rfl (.cons (.u rfl) rfl (.cons (.u rfl) (cells_one ov76) .nil))) rfl (rfl) (.nil (Wp.b1 8 (by kernel_rfl) ?_))
 refine bx rfl (.u rfl) rfl ?_; intro b78
 refine .nil (Wp.one 9 (by kernel_rfl) ?_)
 refine aS rfl rfl (.nil (Wp.last (by kernel_rfl) ?_))
 refine .code (.seq (wk_nilS 32 (ba 32) 23 ?_))
 refine rq1 rfl rfl (aS rfl rfl (.nil (.code (.seq (rq1 rfl rfl (aS rfl rfl (.nil (.code (.seq (rq1 rfl rfl (aS rfl rfl (.nil (.code (.seq (.seq ?_)))))))))))))))
 obtain ⟨hnb,hg,hev⟩:=tb_good (root:=root) (bits:=bits) c1k hli
 have hok:=hg.ok
 refine wk_nilB 5 ?_
 refine wk_nilS 1 encT 9 ?_
 refine rq2 rfl rfl (mV rfl rfl (aS rfl rfl (.nil (.code (.block ?_)))))
 refine Wk.lop (α:=Nat×List Ent×Sh×Value×List Y×Value×List ByteArray×Value×List Y×Value×List Dg) (fun gh=>[(13,true,gh.2.2.2.1),(14,true,.int .i64 (gh.1:Int)),(15,true,gh.2.2.2.2.2.1),(16,true,gh.2.2.1.val gh.2.1.length)]) (fun gh=>[rS 1 encT gh.2.2.2.2.2.1 9 gh.2.2.2.2.2.2.1,rB gh.2.2.2.1 5 gh.2.2.2.2.1,rS 32 (ba 32) gh.2.2.2.2.2.2.2.2.2.1 23 gh.2.2.2.2.2.2.2.2.2.2,.blk b78 (cl (wrC (keyEnc root (headL h)) (keyMac root (headL h)) (h74.val L74.length) gh.2.2.2.2.2.2.2.1 gh.2.2.2.2.2.2.2.2.2.1) 70),rB gh.2.2.2.2.2.2.2.1 5 gh.2.2.2.2.2.2.2.2.1])
  (fun gh Gl=>(gh.1≤(cutsE blk l).length)∧(gh.2.1=((cutsE blk l).drop gh.1).flatten)∧(gh.2.2.2.2.2.2.2.2.1=(tabOf root h l blk every bits).out gh.1)∧(gh.2.2.2.2.1=(tabOf root h l blk every bits).rows gh.1)∧(gh.2.2.2.2.2.2.2.2.2.2=(tabOf root h l blk every bits).lvs gh.1)∧(gh.2.2.2.2.2.2.1=((tabOf root h l blk every bits).cs.take gh.1).flatten.map (·.user))∧(SlR Gl 4 Ent.cells gh.2.2.1 gh.2.1)) (fun gh=>(cutsE blk l).length-gh.1) (0,l,hl,.slice none 0 0,[],.slice none 0 0,[],v76,L76,.slice none 0 0,[]) [(2,true,_),(5,true,_),(7,true,_),(9,true,_),(12,true,_)] [_]
  (esD rfl (esC rfl (by first|rfl|exact evi (by omega)) (esD rfl (esD rfl (esD rfl (esD rfl (esD rfl (esD rfl (esD rfl eZ)))))))))
  (mS .here rfl (mS .here rfl (mS .here rfl (mS .here rfl (mS .here rfl (mS .here rfl mN)))))) ?_ ?_
 ·refine ⟨?_,?_,?_,?_,?_,?_,?_⟩
  ·(try dsimp only)<;>(first|omega|rfl|assumption|(simp; done))
  ·(try dsimp only)<;>(exact (cuts_flat blk l).symm)
  ·(try dsimp only)<;>(rw [eL76]; exact (List.append_nil _).symm)
  ·(try dsimp only)<;>(rfl)
  ·(try dsimp only)<;>(rfl)
  ·(try dsimp only)<;>(rfl)
  (try dsimp only)<;>(exact hs)
 intro gh N0 Gl0 hN0 hGl0 hF0
 obtain ⟨k,rest,hr,vr,RW,vu,US,vo,O,vl,D⟩:=gh; dsimp only at hF0 hN0 ⊢
 obtain ⟨hk,hrest,eO,eR,eD,eU,hsr⟩:=hF0
 have hs:=hs.mono hGl0
 have hK:=hK.mono hGl0
 have hbb5:=hbb5.mono hGl0
 have hbb7:=hbb7.mono hGl0
 have hs74:=hs74.mono hGl0
 have hrl:=tb_light hli hrest; have hrl1:=hrl.1; have hrl2:=hrl.2
 have lO:O.length≤74630:=by rw [eO]; exact hok.out_small hk
 have lR:RW.length≤65600:=by rw [eR]; exact hok.rows_small hk
 have lc:(cutsE blk l).length≤300:=hok.cs_le
 have hcl:=cutA_le blk rest 0
 have lD:D.length=k:=by rw [eD,Tab.lvs_len]
 have lU:US.length≤300:=by rw [eU]; exact Nat.le_trans (usr_len _ _) (by rw [show (tabOf root h l blk every bits).cs.flatten=l from cuts_flat blk l]; omega)
 refine .seq (.seq (rq3 rfl rfl (mV rfl rfl (ln rfl .no Fx.sn31 (.u rfl) (cp rfl .no (.u rfl) (.u rfl) rfl (.nil (.code (.cond rfl (fun c2=>?_) (fun c2=>?_)))))))))
 ·have c2k:=c2
  try simp only [qcA,qcC,qcB] at c2
  refine .skip (.code (.seq (.block (.seq (rq5 rfl rfl (mV rfl rfl (fa rfl .no Fx.fo28_0 (.u rfl) (ld rfl .no Fx.ag3 (.u rfl) (fun _=>(hbb7.rd (by rfl)).rd) ?_))))))))
  refine kv rfl .no Fx.go27 (Evc rfl (Evc rfl Evn)) (fun _=>cut_ok hr rest blk _ hsr (by omega) (by omega)) ?_
  refine aS rfl rfl (.nil (.code (.seq (rq4 rfl rfl (mV rfl rfl (mV rfl rfl (kE ((cutA blk 0 rest)) rfl .no Fx.se31 hsr (.u rfl) (.u rfl) (fun _=>by omega) (fun _=>by omega) ?_)))))))
  intro h91 L91 eL91 lL91 hs91
  have lL91:=lL91 rfl
  refine aS rfl rfl (.nil (.code (.seq (rq4 rfl rfl (mV rfl rfl (mV rfl rfl (kD ((cutA blk 0 rest)) rfl .no Fx.se31 hsr (.u rfl) (.u rfl) (fun _=>by omega) (fun _=>by omega) ?_)))))))
  intro h94 L94 eL94 lL94 hs94
  have lL94:=lL94 rfl
  refine aS rfl rfl (.nil (.code (.seq (rq9 rfl rfl (mV rfl rfl (fa rfl .no Fx.fo28_1 (.u rfl) (ld rfl .no Fx.ag3 (.u rfl) (fun _=>(hbb7.rd (by rfl)).rd) ?_)))))))
  refine kc rfl Fx.go28 (Evc rfl (Evc rfl Evn)) (bBuild_ok h91 L91 every _ hs91 (by omega)) ?_
  rintro _ G99 μ99 hG99 ⟨v99,L99,er99,hB99,rfl,rfl⟩
  obtain ⟨hkc,hLk,hR94,lcut,l0,hbk⟩:=tb_part hg hev hrest (by omega) eL91 eL94
  obtain ⟨eL99,rfl⟩:=hbk hB99
  have hlL:lightE L91:=by rw [eL91]; exact hrl.take _
  have lB:L99.length≤63000:=by rw [eL99]; have:=blkL_le (every:=every.toNat) (l:=L91) (by omega) (by omega) (by have:=hlL.2; omega); have:=hlL.1; have:=hlL.2; omega
  have hs:=hs.mono hG99
  have hK:=hK.mono hG99
  have hbb5:=hbb5.mono hG99
  have hbb7:=hbb7.mono hG99
  have hs74:=hs74.mono hG99
  have hs91:=hs91.mono hG99
  have hs94:=hs94.mono hG99
  refine mV rfl rfl (ex rfl .no (.u rfl) rfl (ex rfl .no (.u rfl) rfl (aS rfl rfl (aS rfl rfl (.nil (.code (.seq (.seq (rq2 rfl rfl (mV rfl rfl (cp rfl .no (.u rfl) (.u rfl) rfl (.nil (.code (.cond rfl (fun c3=>?_) (fun c3=>?_)))))))))))))))
  ·have c3k:=c3
   first|exact absurd c3 (by decide)|(simp at c3; done)|(exfalso; simp only [decide_eq_true_eq,gt_iff_lt] at c3; omega)
  have c3k:=c3
  try simp only [qcA,qcC,qcB] at c3
  refine .skip (.code (.seq (rq7 rfl rfl (mV rfl rfl (mV rfl rfl (ar rfl .no (.u rfl) (.u rfl) rfl (fun _=>wrap_i64 (by omega) (by omega)) ?_))))))
  obtain ⟨x,ex⟩:=getx (k:=L91.length-1) (xs:=L91) (by omega)
  have hxu:=usz hlL ex
  refine ih rfl .no Fx.se31 (.u rfl) (.u rfl) (fun _=>by omega) (fun _=>by omega) (fun _=>hs91.nn (k:=(((((cutA blk 0 rest):Nat):Int)-(1:Int))).toNat) (by first|omega|(simp only [Bool.and_eq_true,decide_eq_true_eq] at hc; omega)|(simp only [List.length_cons,List.length_nil]; omega))) ?_
  refine fa rfl .no Fx.fo47_0 (.u rfl) (ld rfl .no Fx.ag9 (.u rfl) (fun _=>(hs91.at (by omega) ex 0 _ rfl).rd) (aS rfl rfl (.nil (.code (.seq (.seq (rq3 rfl rfl (mV rfl rfl (ln rfl .no Fx.sn31 (.u rfl) (cp rfl .no (.u rfl) (.u rfl) rfl (.nil (.code (.cond rfl (fun c4=>?_) (fun c4=>?_))))))))))))))
  ·have c4k:=c4
   try simp only [qcA,qcC,qcB] at c4
   refine rq7 rfl rfl (mV rfl rfl (mV rfl rfl (ih rfl .no Fx.se31 (.u rfl) (.u rfl) (fun _=>by omega) (fun _=>by omega) (fun _=>hs94.nn (k:=0) (by first|omega|(simp only [Bool.and_eq_true,decide_eq_true_eq] at hc; omega)|(simp only [List.length_cons,List.length_nil]; omega))) ?_)))
   refine fa rfl .no Fx.fo47_0 (.u rfl) ?_
   obtain ⟨y,ey⟩:=getx (k:=0) (xs:=L94) (by omega)
   have hbt:=betwL_len (yb x.user) (yb y.user); rw [yb_len] at hbt
   refine ld rfl .no Fx.ag9 (.u rfl) (fun _=>(hs94.at (by decide) ey 0 _ rfl).rd) ?_
   refine kv rfl .no Fx.go29 (Evc rfl (Evc rfl Evn)) (fun _=>betw_ok x.user y.user _ (by omega)) ?_
   refine aS rfl rfl (.nil (.code (.seq ?_)))
   refine wk_fb .here (by first|(intro b hb; cases hb; done) | simp [keys,Res.keys]) ?_; intro GfR99 hR99 hleR99 evR99 hsR99; subst evR99
   have hs:=hs.mono hleR99
   have hK:=hK.mono hleR99
   have hbb5:=hbb5.mono hleR99
   have hbb7:=hbb7.mono hleR99
   have hs74:=hs74.mono hleR99
   have hs91:=hs91.mono hleR99
   have hs94:=hs94.mono hleR99
   refine wk_fb tk1 (by first|(intro b hb; cases hb; done) | simp [keys,Res.keys]) ?_; intro GfRW hRW hleRW evRW hsRW; subst evRW
   have hs:=hs.mono hleRW
   have hK:=hK.mono hleRW
   have hbb5:=hbb5.mono hleRW
   have hbb7:=hbb7.mono hleRW
   have hs74:=hs74.mono hleRW
   have hs91:=hs91.mono hleRW
   have hs94:=hs94.mono hleRW
   have hsR99:=hsR99.mono hleRW
   refine rq10 rfl rfl (mV rfl rfl (mV rfl rfl (kc rfl Fx.go30 (Evc rfl (Evc rfl Evn)) (Ct.rowc (Str_ok RW hRW _ hsRW _ (by first|omega | (rw [bstr_len]; omega)))) ?_)))
   rintro v123 G123 μ123 hG123 ⟨L123,ov123,eL123,rfl⟩
   have hs:=hs.mono hG123
   have hK:=hK.mono hG123
   have hbb5:=hbb5.mono hG123
   have hbb7:=hbb7.mono hG123
   have hs74:=hs74.mono hG123
   have hs91:=hs91.mono hG123
   have hs94:=hs94.mono hG123
   have hsR99:=hsR99.mono hG123
   have hsRW:=hsRW.mono hG123
   refine mV rfl rfl (mV rfl rfl (arn (((2+k):Nat):Int) rfl .no (.u rfl) (.u rfl) rfl (fun _=>by omega) (fun _=>wrap_i64 (by omega) (by omega)) ?_))
   refine mV rfl rfl (ka rfl (.inr rfl) Fx.go31 (Evc rfl (Evc rfl (Evc rfl Evn))) (mtk3 tk3 tk3 tk2) (tPut_ok (keyEnc root (headL h)) (keyMac root (headL h)) L74 h74 O D vo vl b78 (2+k) L99 hR99 _ hs74 hsR99 hK (by rw [eL74,head_len]; decide) (by omega) (by omega) (by omega) (by omega)) ?_)
   rintro _ G128 μ128 hG128 ⟨X128,O128,W128,D128,vo128,vl128,bb128,cap128,eX128,eO128,eD128,eW128,rfl,rfl⟩
   have lX128:X128.length=L99.length+16:=by rw [eX128,seal_len]
   have lO128:O128.length=O.length+X128.length:=by rw [eO128,List.length_append]
   have lD128:D128.length=D.length+1:=by rw [eD128,List.length_append]; rfl
   have hs:=hs.mono hG128
   have hK:=hK.mono hG128
   have hbb5:=hbb5.mono hG128
   have hbb7:=hbb7.mono hG128
   have hs74:=hs74.mono hG128
   have hs91:=hs91.mono hG128
   have hs94:=hs94.mono hG128
   have hsR99:=hsR99.mono hG128
   have hsRW:=hsRW.mono hG128
   have lL123:=str_bd eL123 (by first|omega | (rw [bstr_len]; omega))
   have lW128:=row_bd eW128 (by omega)
   refine apY rfl Fx.se34 Fx.zv5 (.u rfl) (.u rfl) tk4 (Sc.row tk3) (by (try simp only [qlA,yl_len]); omega) ?_
   intro v129 L129 ov129 eL129
   have lL129:L129.length=L123.length+W128.length:=by rw [eL129,List.length_append]
   refine aS rfl rfl (.nil (.code (.seq (.seq (rq3 rfl rfl (mV rfl rfl (ln rfl .no Fx.sn31 (.u rfl) (mV rfl rfl (.nil (.code (.block ?_)))))))))))
   refine Wk.lop (α:=Nat×Value×List ByteArray) (fun gh=>[(15,true,gh.2.1),(132,true,.int .i64 (gh.1:Int))]) (fun gh=>[rS 1 encT gh.2.1 9 gh.2.2])
    (fun gh Gl=>(gh.1≤L91.length)∧(gh.2.2=US++(L91.take gh.1).map (·.user))) (fun gh=>L91.length-gh.1) (0,vu,US) [(2,true,_),(5,true,_),(7,true,_),(9,true,_),(12,true,_),(13,true,_),(14,true,_),(16,true,_),(130,true,_),(131,true,_)] [_,_,_,_,_,_]
    (esD rfl (esC rfl (by first|rfl|exact evi (by omega)) (esD rfl (esD rfl (esD rfl (esD rfl (esD rfl (esD rfl (esD rfl (esD rfl (esD rfl (esD rfl eZ))))))))))))
    (mS tk5 rfl (mS .here rfl (mS .here rfl (mS .here rfl (mS .here rfl (mS .here rfl (mS .here rfl mN))))))) ?_ ?_
   ·refine ⟨?_,?_⟩
    ·(try dsimp only)<;>(first|omega|rfl|assumption|(simp; done))
    (try dsimp only)<;>(simp)
   intro gh N1 Gl1 hN1 hGl1 hF1
   obtain ⟨j,w,U2⟩:=gh; dsimp only at hF1 hN1 ⊢
   obtain ⟨hj,eU2⟩:=hF1
   have hs:=hs.mono hGl1
   have hK:=hK.mono hGl1
   have hbb5:=hbb5.mono hGl1
   have hbb7:=hbb7.mono hGl1
   have hs74:=hs74.mono hGl1
   have hs91:=hs91.mono hGl1
   have hs94:=hs94.mono hGl1
   have hsR99:=hsR99.mono hGl1
   have hsRW:=hsRW.mono hGl1
   have lU2:U2.length≤600:=by rw [eU2,List.length_append,List.length_map,List.length_take]; omega
   refine .seq (rq1 rfl rfl (cp rfl .no (.u rfl) (.u rfl) rfl (.nil (.code (.seq (.cond rfl (fun c5=>?_) (fun c5=>?_)))))))
   ·have c5k:=c5
    try simp only [qcA,qcC,qcB] at c5
    refine .skip (.code (.seq (.block (.seq (rq4 rfl rfl (ih rfl .no Fx.se31 (.u rfl) (.u rfl) (fun _=>by omega) (fun _=>by omega) (fun _=>hs91.nn (k:=j) (by first|omega|(simp only [Bool.and_eq_true,decide_eq_true_eq] at hc; omega)|(simp only [List.length_cons,List.length_nil]; omega))) ?_))))))
    obtain ⟨z,ez⟩:=getx (k:=j) (xs:=L91) (by omega)
    refine lA rfl .no Fx.ag47 (.u rfl) (fun _=>(hs91.at (by omega) ez).rd) (fun _=>Ent.len _) ?_
    refine al rfl Fx.zq47 ?_; intro b23
    refine sw rfl (.u rfl) (.u rfl) rfl Fx.sz47 .here (by first|exact (key_len _ _).trans (key_len _ _).symm|exact key_len _ _|exact ba_len _ _|exact Ent.len _|rfl) (Ent.one _) ?_
    refine .nil (.code (rq6 rfl rfl (mV rfl rfl (fz rfl .no Fx.fo47_0 (.u rfl) (ld rfl .no Fx.ag9 (.u rfl) (fun _=>Rd.own .here (by first|exact wap_f rfl|rfl)) ?_)))))
    refine Go.Tan.b1 rfl Fx.se71 Fx.zv9 (.u rfl) rfl rfl (by decide) ?_; intro b139
    refine apS (xs:=U2) (z.user) rfl Fx.se71 Fx.zv9 rfl (.u rfl) (.u rfl) tk2 .here (rfl) (one1 rfl) (by omega) (by unfold maxLen; omega) ?_; intro v140 ov140
    refine aS rfl rfl (.nil (.blk (.code (rq2 rfl rfl (arn (((j+1):Nat):Int) rfl .no (.u rfl) (.u rfl) rfl (fun _=>by omega) (fun _=>wrap_i64 (by omega) (by omega)) ?_)))))
    refine mV rfl rfl (.nil (We.lpo (j+1,v140,U2++[z.user]) ?_ ?_ ?_ ?_ ?_))
    ·exact (esD rfl (esC rfl (by first|rfl|exact evi (by omega)) (esD rfl (esD rfl (esD rfl (esD rfl (esD rfl (esD rfl (esD rfl (esD rfl (esD rfl (esD rfl eZ))))))))))))
    ·exact (mS .here rfl (mS tk2 rfl (mS tk2 rfl (mS tk2 rfl (mS tk2 rfl (mS tk2 rfl (mS tk2 rfl mN)))))))
    ·first|omega|(dsimp only; omega)
    ·exact hGl1
    refine ⟨?_,?_⟩
    ·(try dsimp only)<;>(first|omega|rfl|assumption|(simp; done))
    (try dsimp only)<;>(rw [eU2,us_snoc ez])
   have c5k:=c5
   try simp only [qcA,qcC,qcB] at c5
   refine .exit (.xcode (.xlp (.xblk (.code (.seq (rq6 rfl rfl (mV rfl rfl (nc rfl .no (.u rfl) (fz rfl .no Fx.fo70_2 (.u rfl) (ld rfl .no Fx.ag34 (.u rfl) (fun _=>Rd.own tk2 wrc_out) ?_))))))))))
   refine lr rfl .no Fx.sn34 (.u rfl) tk3 ?_
   refine cp rfl .no (.u rfl) (.u rfl) rfl (.nil (.code (.cond rfl (fun c6=>?_) (fun c6=>?_))))
   ·have c6k:=c6
    first|exact absurd c6 (by decide)|(simp at c6; done)|(exfalso; simp only [decide_eq_true_eq,gt_iff_lt] at c6; omega)
   have c6k:=c6
   try simp only [qcA,qcC,qcB] at c6
   refine .skip (.blk (.code (rq3 rfl rfl (mV rfl rfl (arn (((k+1):Nat):Int) rfl .no (.u rfl) (.u rfl) rfl (fun _=>by omega) (fun _=>wrap_i64 (by omega) (by omega)) ?_)))))
   refine aS rfl rfl (.nil ?_)
   have hX:X128=(tabOf root h l blk every bits).prt k:=tb_prt (t:=(tabOf root h l blk every bits)) hLk (by rw [eX128,eL74,eL99]; rfl)
   refine We.lpo (k+1,L94,h94,v129,L129,w,U2,vo128,O128,vl128,D128) ?_ ?_ ?_ ?_ ?_
   ·exact (esD rfl (esC rfl (by first|rfl|exact evi (by omega)) (esD rfl (esD rfl (esD rfl (esD rfl (esD rfl (esD rfl (esD rfl eZ)))))))))
   ·exact (mS .here rfl (mS .here rfl (mS tk2 rfl (mS .here rfl (mS .here rfl (mS tk1 rfl mN))))))
   ·first|omega|(dsimp only; omega)
   ·exact ((((((hGl0).trans hG99).trans hleR99).trans hleRW).trans hG123).trans hG128).trans hGl1
   refine ⟨?_,?_,?_,?_,?_,?_,?_⟩
   ·(try dsimp only)<;>(first|omega|rfl|assumption|(simp; done))
   ·(try dsimp only)<;>(exact hR94)
   ·(try dsimp only)<;>(exact tb_out (t:=(tabOf root h l blk every bits)) eO hX eO128)
   ·(try dsimp only)<;>(exact tb_row (t:=(tabOf root h l blk every bits)) eR hX eW128 (by rw [yb_bstr]; exact tb_bnd1 hkc hLk hR94 (by omega) ex ey) eL123 eL129)
   ·(try dsimp only)<;>(exact tb_lvs (t:=(tabOf root h l blk every bits)) eD hX eD128)
   ·(try dsimp only)<;>(rw [eU2,show j=L91.length by omega,List.take_length]; exact tb_usr (t:=(tabOf root h l blk every bits)) hkc hLk eU)
   (try dsimp only)<;>(exact hs94)
  have c4k:=c4
  try simp only [qcA,qcC,qcB] at c4
  refine .skip (.code (.seq ?_))
  refine wk_fb .here (by first|(intro b hb; cases hb; done) | simp [keys,Res.keys]) ?_; intro GfR99 hR99 hleR99 evR99 hsR99; subst evR99
  have hs:=hs.mono hleR99
  have hK:=hK.mono hleR99
  have hbb5:=hbb5.mono hleR99
  have hbb7:=hbb7.mono hleR99
  have hs74:=hs74.mono hleR99
  have hs91:=hs91.mono hleR99
  have hs94:=hs94.mono hleR99
  refine wk_fb tk1 (by first|(intro b hb; cases hb; done) | simp [keys,Res.keys]) ?_; intro GfRW hRW hleRW evRW hsRW; subst evRW
  have hs:=hs.mono hleRW
  have hK:=hK.mono hleRW
  have hbb5:=hbb5.mono hleRW
  have hbb7:=hbb7.mono hleRW
  have hs74:=hs74.mono hleRW
  have hs91:=hs91.mono hleRW
  have hs94:=hs94.mono hleRW
  have hsR99:=hsR99.mono hleRW
  refine rq10 rfl rfl (mV rfl rfl (mV rfl rfl (kc rfl Fx.go30 (Evc rfl (Evc rfl Evn)) (Ct.rowc (Str_ok RW hRW _ hsRW _ (by first|omega | (rw [bstr_len]; omega)))) ?_)))
  rintro v123 G123 μ123 hG123 ⟨L123,ov123,eL123,rfl⟩
  have hs:=hs.mono hG123
  have hK:=hK.mono hG123
  have hbb5:=hbb5.mono hG123
  have hbb7:=hbb7.mono hG123
  have hs74:=hs74.mono hG123
  have hs91:=hs91.mono hG123
  have hs94:=hs94.mono hG123
  have hsR99:=hsR99.mono hG123
  refine mV rfl rfl (mV rfl rfl (arn (((2+k):Nat):Int) rfl .no (.u rfl) (.u rfl) rfl (fun _=>by omega) (fun _=>wrap_i64 (by omega) (by omega)) ?_))
  refine mV rfl rfl (ka rfl (.inr rfl) Fx.go31 (Evc rfl (Evc rfl (Evc rfl Evn))) (mtk3 tk3 tk3 tk2) (tPut_ok (keyEnc root (headL h)) (keyMac root (headL h)) L74 h74 O D vo vl b78 (2+k) L99 hR99 _ hs74 hsR99 hK (by rw [eL74,head_len]; decide) (by omega) (by omega) (by omega) (by omega)) ?_)
  rintro _ G128 μ128 hG128 ⟨X128,O128,W128,D128,vo128,vl128,bb128,cap128,eX128,eO128,eD128,eW128,rfl,rfl⟩
  have lX128:X128.length=L99.length+16:=by rw [eX128,seal_len]
  have lO128:O128.length=O.length+X128.length:=by rw [eO128,List.length_append]
  have lD128:D128.length=D.length+1:=by rw [eD128,List.length_append]; rfl
  have hs:=hs.mono hG128
  have hK:=hK.mono hG128
  have hbb5:=hbb5.mono hG128
  have hbb7:=hbb7.mono hG128
  have hs74:=hs74.mono hG128
  have hs91:=hs91.mono hG128
  have hs94:=hs94.mono hG128
  have lL123:=str_bd eL123 (by first|omega | (rw [bstr_len]; omega))
  have lW128:=row_bd eW128 (by omega)
  refine apY rfl Fx.se34 Fx.zv5 (.u rfl) (.u rfl) tk4 (Sc.row tk3) (by (try simp only [qlA,yl_len]); omega) ?_
  intro v129 L129 ov129 eL129
  have lL129:L129.length=L123.length+W128.length:=by rw [eL129,List.length_append]
  refine aS rfl rfl (.nil (.code (.seq (.seq (rq3 rfl rfl (mV rfl rfl (ln rfl .no Fx.sn31 (.u rfl) (mV rfl rfl (.nil (.code (.block ?_)))))))))))
  refine Wk.lop (α:=Nat×Value×List ByteArray) (fun gh=>[(15,true,gh.2.1),(132,true,.int .i64 (gh.1:Int))]) (fun gh=>[rS 1 encT gh.2.1 9 gh.2.2])
   (fun gh Gl=>(gh.1≤L91.length)∧(gh.2.2=US++(L91.take gh.1).map (·.user))) (fun gh=>L91.length-gh.1) (0,vu,US) [(2,true,_),(5,true,_),(7,true,_),(9,true,_),(12,true,_),(13,true,_),(14,true,_),(16,true,_),(130,true,_),(131,true,_)] [_,_,_,_,_,_]
   (esD rfl (esC rfl (by first|rfl|exact evi (by omega)) (esD rfl (esD rfl (esD rfl (esD rfl (esD rfl (esD rfl (esD rfl (esD rfl (esD rfl (esD rfl eZ))))))))))))
   (mS tk5 rfl (mS .here rfl (mS .here rfl (mS .here rfl (mS .here rfl (mS .here rfl (mS .here rfl mN))))))) ?_ ?_
  ·refine ⟨?_,?_⟩
   ·(try dsimp only)<;>(first|omega|rfl|assumption|(simp; done))
   (try dsimp only)<;>(simp)
  intro gh N2 Gl2 hN2 hGl2 hF2
  obtain ⟨j,w,U2⟩:=gh; dsimp only at hF2 hN2 ⊢
  obtain ⟨hj,eU2⟩:=hF2
  have hs:=hs.mono hGl2
  have hK:=hK.mono hGl2
  have hbb5:=hbb5.mono hGl2
  have hbb7:=hbb7.mono hGl2
  have hs74:=hs74.mono hGl2
  have hs91:=hs91.mono hGl2
  have hs94:=hs94.mono hGl2
  have lU2:U2.length≤600:=by rw [eU2,List.length_append,List.length_map,List.length_take]; omega
  refine .seq (rq1 rfl rfl (cp rfl .no (.u rfl) (.u rfl) rfl (.nil (.code (.seq (.cond rfl (fun c7=>?_) (fun c7=>?_)))))))
  ·have c7k:=c7
   try simp only [qcA,qcC,qcB] at c7
   refine .skip (.code (.seq (.block (.seq (rq4 rfl rfl (ih rfl .no Fx.se31 (.u rfl) (.u rfl) (fun _=>by omega) (fun _=>by omega) (fun _=>hs91.nn (k:=j) (by first|omega|(simp only [Bool.and_eq_true,decide_eq_true_eq] at hc; omega)|(simp only [List.length_cons,List.length_nil]; omega))) ?_))))))
   obtain ⟨z,ez⟩:=getx (k:=j) (xs:=L91) (by omega)
   refine lA rfl .no Fx.ag47 (.u rfl) (fun _=>(hs91.at (by omega) ez).rd) (fun _=>Ent.len _) ?_
   refine al rfl Fx.zq47 ?_; intro b23
   refine sw rfl (.u rfl) (.u rfl) rfl Fx.sz47 .here (by first|exact (key_len _ _).trans (key_len _ _).symm|exact key_len _ _|exact ba_len _ _|exact Ent.len _|rfl) (Ent.one _) ?_
   refine .nil (.code (rq6 rfl rfl (mV rfl rfl (fz rfl .no Fx.fo47_0 (.u rfl) (ld rfl .no Fx.ag9 (.u rfl) (fun _=>Rd.own .here (by first|exact wap_f rfl|rfl)) ?_)))))
   refine Go.Tan.b1 rfl Fx.se71 Fx.zv9 (.u rfl) rfl rfl (by decide) ?_; intro b139
   refine apS (xs:=U2) (z.user) rfl Fx.se71 Fx.zv9 rfl (.u rfl) (.u rfl) tk2 .here (rfl) (one1 rfl) (by omega) (by unfold maxLen; omega) ?_; intro v140 ov140
   refine aS rfl rfl (.nil (.blk (.code (rq2 rfl rfl (arn (((j+1):Nat):Int) rfl .no (.u rfl) (.u rfl) rfl (fun _=>by omega) (fun _=>wrap_i64 (by omega) (by omega)) ?_)))))
   refine mV rfl rfl (.nil (We.lpo (j+1,v140,U2++[z.user]) ?_ ?_ ?_ ?_ ?_))
   ·exact (esD rfl (esC rfl (by first|rfl|exact evi (by omega)) (esD rfl (esD rfl (esD rfl (esD rfl (esD rfl (esD rfl (esD rfl (esD rfl (esD rfl (esD rfl eZ))))))))))))
   ·exact (mS .here rfl (mS tk2 rfl (mS tk2 rfl (mS tk2 rfl (mS tk2 rfl (mS tk2 rfl (mS tk2 rfl mN)))))))
   ·first|omega|(dsimp only; omega)
   ·exact hGl2
   refine ⟨?_,?_⟩
   ·(try dsimp only)<;>(first|omega|rfl|assumption|(simp; done))
   (try dsimp only)<;>(rw [eU2,us_snoc ez])
  have c7k:=c7
  try simp only [qcA,qcC,qcB] at c7
  refine .exit (.xcode (.xlp (.xblk (.code (.seq (rq6 rfl rfl (mV rfl rfl (nc rfl .no (.u rfl) (fz rfl .no Fx.fo70_2 (.u rfl) (ld rfl .no Fx.ag34 (.u rfl) (fun _=>Rd.own tk2 wrc_out) ?_))))))))))
  refine lr rfl .no Fx.sn34 (.u rfl) tk3 ?_
  refine cp rfl .no (.u rfl) (.u rfl) rfl (.nil (.code (.cond rfl (fun c8=>?_) (fun c8=>?_))))
  ·have c8k:=c8
   first|exact absurd c8 (by decide)|(simp at c8; done)|(exfalso; simp only [decide_eq_true_eq,gt_iff_lt] at c8; omega)
  have c8k:=c8
  try simp only [qcA,qcC,qcB] at c8
  refine .skip (.blk (.code (rq3 rfl rfl (mV rfl rfl (arn (((k+1):Nat):Int) rfl .no (.u rfl) (.u rfl) rfl (fun _=>by omega) (fun _=>wrap_i64 (by omega) (by omega)) ?_)))))
  refine aS rfl rfl (.nil ?_)
  have hX:X128=(tabOf root h l blk every bits).prt k:=tb_prt (t:=(tabOf root h l blk every bits)) hLk (by rw [eX128,eL74,eL99]; rfl)
  refine We.lpo (k+1,L94,h94,v129,L129,w,U2,vo128,O128,vl128,D128) ?_ ?_ ?_ ?_ ?_
  ·exact (esD rfl (esC rfl (by first|rfl|exact evi (by omega)) (esD rfl (esD rfl (esD rfl (esD rfl (esD rfl (esD rfl (esD rfl eZ)))))))))
  ·exact (mS .here rfl (mS .here rfl (mS tk2 rfl (mS .here rfl (mS .here rfl (mS tk1 rfl mN))))))
  ·first|omega|(dsimp only; omega)
  ·exact ((((((hGl0).trans hG99).trans hleR99).trans hleRW).trans hG123).trans hG128).trans hGl2
  refine ⟨?_,?_,?_,?_,?_,?_,?_⟩
  ·(try dsimp only)<;>(first|omega|rfl|assumption|(simp; done))
  ·(try dsimp only)<;>(exact hR94)
  ·(try dsimp only)<;>(exact tb_out (t:=(tabOf root h l blk every bits)) eO hX eO128)
  ·(try dsimp only)<;>(exact tb_row (t:=(tabOf root h l blk every bits)) eR hX eW128 (tb_bnd0 hLk hR94 (by omega) ex) eL123 eL129)
  ·(try dsimp only)<;>(exact tb_lvs (t:=(tabOf root h l blk every bits)) eD hX eD128)
  ·(try dsimp only)<;>(rw [eU2,show j=L91.length by omega,List.take_length]; exact tb_usr (t:=(tabOf root h l blk every bits)) hkc hLk eU)
  (try dsimp only)<;>(exact hs94)
 have c2k:=c2
 try simp only [qcA,qcC,qcB] at c2
 refine .exit (.xcode (.xlp (.xblk (.code (.seq ?_)))))
 have hke:=cuts_end hrest (List.eq_nil_of_length_eq_zero (by omega))
 obtain rfl:k=(cutsE blk l).length:=by omega
 have eUS:=tb_all (Nat.le_refl _) eU
 have lcm:=cmp_len US
 refine Wk.mixp ⟨true,false⟩ Fx.mix (by kernel_rfl) ?_
 refine Wp.one 0 (by kernel_rfl) ?_
 refine mV rfl rfl (.nil (Wp.one 1 (by kernel_rfl) ?_))
 refine mV rfl rfl (.nil (Wp.one 2 (by kernel_rfl) ?_))
 refine mV rfl rfl (.nil (Wp.one 4 (by kernel_rfl) ?_))
 refine fa rfl .no Fx.fo28_2 (.u rfl) (.nil (Wp.pr 5 (by kernel_rfl) ?_))
 refine ld rfl .no Fx.ag3 (.u rfl) (fun _=>(hbb7.rd (by rfl)).rd) ?_
 refine .nil ⟨⟨rfl,rfl⟩,?_⟩
 refine Wp.b1 3 (by kernel_rfl) ?_
 refine ka rfl (.inl rfl) Fx.go33 (Evc rfl Evn) (mtk1 .here) (compact_ok US vu _ (by omega)) ?_
 rintro _ G152 μ152 hG152 ⟨vu2,rfl,rfl⟩
 have hs:=hs.mono hG152
 have hK:=hK.mono hG152
 have hbb5:=hbb5.mono hG152
 have hs74:=hs74.mono hG152
 refine .nil (Wp.b1 6 (by kernel_rfl) ?_)
 refine ka rfl (.inl rfl) Fx.go32 (Evc rfl (Evc rfl Evn)) (mtk1 .here) (Ct.lendS (encT_len _) (fun hu G2 hle hv hs=>by subst hv; exact make_ok hu (cmpU US) bits G2 hs (by omega) (by rw [eUS]; exact usr_sz hli))) ?_
 rintro v155 G155 μ155 hG155 ⟨_,rfl,L155,eL155,rfl⟩
 have lM:L155.length≤2500:=by rw [eL155,makeB_len]; have h3:=perB_le bits; have h4:(cmpU US).length*perB bits≤300*64:=Nat.mul_le_mul (by omega) h3.2; omega
 have hs:=hs.mono hG155
 have hK:=hK.mono hG155
 have hbb5:=hbb5.mono hG155
 have hs74:=hs74.mono hG155
 refine .nil (Wp.b1 7 (by kernel_rfl) ?_)
 refine ka rfl (.inl rfl) Fx.go31 (Evc rfl (Evc rfl (Evc rfl Evn))) (mtk4 tk1 tk3 tk3 tk2) (tPut_row (keyEnc root (headL h)) (keyMac root (headL h)) L74 h74 O D vo vl b78 1 L155 v155 _ hs74 hK (by rw [eL74,head_len]; decide) (by omega) (by omega) (by omega) (by omega)) ?_
 rintro _ G156 μ156 hG156 ⟨_,rfl,X156,O156,W156,D156,vo156,vl156,bb156,cap156,eX156,eO156,eD156,eW156,rfl,rfl⟩
 have lX156:X156.length=L155.length+16:=by rw [eX156,seal_len]
 have lO156:O156.length=O.length+X156.length:=by rw [eO156,List.length_append]
 have lD156:D156.length=D.length+1:=by rw [eD156,List.length_append]; rfl
 have hs:=hs.mono hG156
 have hK:=hK.mono hG156
 have hbb5:=hbb5.mono hG156
 have hs74:=hs74.mono hG156
 refine .nil (Wp.b1 8 (by kernel_rfl) ?_)
 have lW156:=row_bd eW156 (by omega)
 refine apY rfl Fx.se34 Fx.zv5 (.u rfl) (.u rfl) tk6 (Sc.row tk4) (by (try simp only [qlA,yl_len]); omega) ?_
 intro v157 L157 ov157 eL157
 have lL157:L157.length=RW.length+W156.length:=by rw [eL157,List.length_append]
 refine .nil (Wp.one 9 (by kernel_rfl) ?_)
 refine aS rfl rfl (.nil (Wp.last (by kernel_rfl) ?_))
 refine .code (.seq (rq6 rfl rfl (mV rfl rfl (nc rfl .no (.u rfl) (fz rfl .no Fx.fo70_2 (.u rfl) (ld rfl .no Fx.ag34 (.u rfl) (fun _=>Rd.own tk2 wrc_out) ?_))))))
 refine lr rfl .no Fx.sn34 (.u rfl) tk3 ?_
 refine aS rfl rfl (.nil (.code (.seq ?_)))
 refine wk_rv .here (by omega) ?_; intro bbRW capRW evRW lcRW; subst evRW
 refine rq7 rfl rfl (mV rfl rfl (mV rfl rfl (ci rfl .no rfl Fx.cv3_24 (.u rfl) ?_)))
 refine kc rfl Fx.go34 (Evc rfl (Evc rfl Evn)) (Ct.rowc (Num_ok [] ⟨none,0⟩ _ SlR.nul _ (Nat.zero_le _))) ?_
 rintro v166 G166 μ166 hG166 ⟨L166,ov166,eL166,rfl⟩
 have hs:=hs.mono hG166
 have hK:=hK.mono hG166
 have hbb5:=hbb5.mono hG166
 have hs74:=hs74.mono hG166
 refine mV rfl rfl ?_
 have lL166:=nm0 eL166
 refine apY rfl Fx.se34 Fx.zv5 (.u rfl) (.u rfl) .here (Sc.row tk1) (by (try simp only [qlA,yl_len]); omega) ?_
 intro v168 L168 ov168 eL168
 have lL168:L168.length=L166.length+L157.length:=by rw [eL168,List.length_append]
 refine ka rfl (.inr rfl) Fx.go31 (Evc rfl (Evc rfl (Evc rfl Evn))) (mtk4 .here tk2 tk2 tk2) (tPut_row (keyEnc root (headL h)) (keyMac root (headL h)) L74 h74 O156 D156 vo156 vl156 b78 0 L168 v168 _ hs74 hK (by rw [eL74,head_len]; decide) (by omega) (by omega) (by omega) (by omega)) ?_
 rintro _ G169 μ169 hG169 ⟨_,rfl,X169,O169,W169,D169,vo169,vl169,bb169,cap169,eX169,eO169,eD169,eW169,rfl,rfl⟩
 have lX169:X169.length=L168.length+16:=by rw [eX169,seal_len]
 have lO169:O169.length=O156.length+X169.length:=by rw [eO169,List.length_append]
 have lD169:D169.length=D156.length+1:=by rw [eD169,List.length_append]; rfl
 have hs:=hs.mono hG169
 have hK:=hK.mono hG169
 have hbb5:=hbb5.mono hG169
 refine .nil (.code (.seq ?_))
 refine wk_fb tk2 (by first|(intro b hb; cases hb; done) | simp [keys,Res.keys]) ?_; intro GfR76 hR76 hleR76 evR76 hsR76; subst evR76
 have hs:=hs.mono hleR76
 have hK:=hK.mono hleR76
 have hbb5:=hbb5.mono hleR76
 refine Wk.mixp ⟨true,false⟩ Fx.mix (by kernel_rfl) ?_
 refine Wp.one 0 (by kernel_rfl) ?_
 refine mV rfl rfl (.nil (Wp.one 1 (by kernel_rfl) ?_))
 refine nc rfl .no (.u rfl) (.nil (Wp.one 2 (by kernel_rfl) ?_))
 refine fz rfl .no Fx.fo70_2 (.u rfl) (.nil (Wp.one 3 (by kernel_rfl) ?_))
 refine ld rfl .no Fx.ag34 (.u rfl) (fun _=>Rd.own tk1 wrc_out) ?_
 refine .nil (Wp.one 4 (by kernel_rfl) ?_)
 refine mV rfl rfl (.nil (Wp.one 5 (by kernel_rfl) ?_))
 refine nc rfl .no (.u rfl) (.nil (Wp.one 6 (by kernel_rfl) ?_))
 refine fz rfl .no Fx.fo70_2 (.u rfl) (.nil (Wp.one 7 (by kernel_rfl) ?_))
 refine ld rfl .no Fx.ag34 (.u rfl) (fun _=>Rd.own tk1 wrc_out) ?_
 refine .nil (Wp.one 8 (by kernel_rfl) ?_)
 refine ln rfl .no Fx.sn34 (.u rfl) (.nil (Wp.one 9 (by kernel_rfl) ?_))
 refine mV rfl rfl (.nil (Wp.one 10 (by kernel_rfl) ?_))
 refine ar rfl .no (.u rfl) (.u rfl) rfl (fun _=>wrap_i64 (by omega) (by omega)) ?_
 refine .nil (Wp.one 11 (by kernel_rfl) ?_)
 refine ci rfl .no rfl Fx.cv3_24 (.u rfl) ?_
 refine .nil (Wp.b1 12 (by kernel_rfl) ?_)
 refine kc rfl Fx.go35 (Evc rfl (Evc rfl (Evc rfl Evn))) (Ct.rowc (Fix_ok O169 hR76 _ 8 _ hsR76 (by omega) (by decide))) ?_
 rintro v182 G182 μ182 hG182 ⟨L182,ov182,eL182,rfl⟩
 have hs:=hs.mono hG182
 have hK:=hK.mono hG182
 have hbb5:=hbb5.mono hG182
 refine .nil (Wp.one 13 (by kernel_rfl) ?_)
 refine aS rfl rfl (.nil (Wp.last (by kernel_rfl) ?_))
 refine .code (.seq (.seq ?_))
 have lL182:=fx2 eL182
 refine rq3 rfl rfl (mV rfl rfl (lr rfl .no Fx.sn34 (.u rfl) .here ?_))
 refine cp rfl .no (.u rfl) (.u rfl) rfl (.nil (.code (.cond rfl (fun c9=>?_) (fun c9=>?_))))
 ·have c9k:=c9
  first|exact absurd c9 (by decide)|(simp at c9; done)|(exfalso; simp only [decide_eq_true_eq,gt_iff_lt] at c9; omega)
 have c9k:=c9
 try simp only [qcA,qcC,qcB] at c9
 refine .skip (.code (.seq ?_))
 refine wk_fs tk3 (fun _ _=>rfl) (by intro b hb; cases hb) ?_; intro GfRD hRD hleRD evRD hsRD; subst evRD
 have hs:=hs.mono hleRD
 have hK:=hK.mono hleRD
 have hbb5:=hbb5.mono hleRD
 refine wk_fz tk2 (by intro b hb; cases hb) ?_; intro Gfb78 hleb78 hbb78
 have hs:=hs.mono hleb78
 have hK:=hK.mono hleb78
 have hbb5:=hbb5.mono hleb78
 have hsRD:=hsRD.mono hleb78
 refine wk_fb .here (by first|(intro b hb; cases hb; done) | simp [keys,Res.keys]) ?_; intro GfR182 hR182 hleR182 evR182 hsR182; subst evR182
 have hs:=hs.mono hleR182
 have hK:=hK.mono hleR182
 have hbb5:=hbb5.mono hleR182
 have hsRD:=hsRD.mono hleR182
 have hbb78:=hbb78.mono hleR182
 refine Wk.mixp ⟨true,false⟩ Fx.mix (by kernel_rfl) ?_
 refine Wp.one 0 (by kernel_rfl) ?_
 refine mV rfl rfl (.nil (Wp.one 1 (by kernel_rfl) ?_))
 refine fa rfl .no Fx.fo26_1 (.u rfl) (.nil (Wp.one 3 (by kernel_rfl) ?_))
 refine fa rfl .no Fx.fo26_2 (.u rfl) (.nil (Wp.one 5 (by kernel_rfl) ?_))
 refine fa rfl .no Fx.fo26_3 (.u rfl) (.nil (Wp.one 7 (by kernel_rfl) ?_))
 refine fa rfl .no Fx.fo26_4 (.u rfl) (.nil (Wp.one 9 (by kernel_rfl) ?_))
 refine mV rfl rfl (.nil (Wp.one 11 (by kernel_rfl) ?_))
 refine mV rfl rfl (.nil (Wp.one 13 (by kernel_rfl) ?_))
 refine mV rfl rfl (.nil (Wp.one 14 (by kernel_rfl) ?_))
 obtain ⟨x,ex⟩:=getx (k:=0) (xs:=l) (by omega)
 obtain ⟨y,ey⟩:=getx (k:=l.length-1) (xs:=l) (by omega)
 refine ih rfl .no Fx.se31 (.u rfl) (.u rfl) (fun _=>by omega) (fun _=>by omega) (fun _=>hs.nn (k:=0) (by first|omega|(simp only [Bool.and_eq_true,decide_eq_true_eq] at hc; omega)|(simp only [List.length_cons,List.length_nil]; omega))) ?_
 refine .nil (Wp.one 15 (by kernel_rfl) ?_)
 refine fa rfl .no Fx.fo47_0 (.u rfl) (.nil (Wp.one 17 (by kernel_rfl) ?_))
 refine mV rfl rfl (.nil (Wp.one 18 (by kernel_rfl) ?_))
 refine mV rfl rfl (.nil (Wp.one 24 (by kernel_rfl) ?_))
 refine mV rfl rfl (.nil (Wp.one 25 (by kernel_rfl) ?_))
 refine nc rfl .no (.u rfl) (.nil (Wp.one 26 (by kernel_rfl) ?_))
 refine fa rfl .no Fx.fo70_3 (.u rfl) (.nil (Wp.one 27 (by kernel_rfl) ?_))
 refine ld rfl .no Fx.ag68 (.u rfl) (fun _=>(hbb78.rd (wrc_lvs)).rd) ?_
 refine .nil (Wp.pr 2 (by kernel_rfl) ?_)
 refine ld rfl .no Fx.ag5 (.u rfl) (fun _=>(hbb5.rd (by rfl)).rd) ?_
 refine .nil ⟨⟨rfl,rfl⟩,?_⟩
 refine Wp.pr 4 (by kernel_rfl) ?_
 refine ld rfl .no Fx.ag24 (.u rfl) (fun _=>(hbb5.rd (by rfl)).rd) ?_
 refine .nil ⟨⟨rfl,rfl⟩,?_⟩
 refine Wp.pr 6 (by kernel_rfl) ?_
 refine ld rfl .no Fx.ag24 (.u rfl) (fun _=>(hbb5.rd (by rfl)).rd) ?_
 refine .nil ⟨⟨rfl,rfl⟩,?_⟩
 refine Wp.pr 8 (by kernel_rfl) ?_
 refine ld rfl .no Fx.ag24 (.u rfl) (fun _=>(hbb5.rd (by rfl)).rd) ?_
 refine .nil ⟨⟨rfl,rfl⟩,?_⟩
 refine Wp.pr 10 (by kernel_rfl) ?_
 refine ln rfl .no Fx.sn34 (.u rfl) (.nil ⟨⟨rfl,rfl⟩,?_⟩)
 refine Wp.pr 12 (by kernel_rfl) ?_
 refine ln rfl .no Fx.sn31 (.u rfl) (.nil ⟨⟨rfl,rfl⟩,?_⟩)
 refine Wp.pr 16 (by kernel_rfl) ?_
 refine ld rfl .no Fx.ag9 (.u rfl) (fun _=>(hs.at (by decide) ex 0 _ rfl).rd) (.nil ⟨⟨rfl,rfl⟩,?_⟩)
 refine Wp.pr 19 (by kernel_rfl) ?_
 refine ln rfl .no Fx.sn31 (.u rfl) (.nil ⟨⟨rfl,rfl⟩,?_⟩)
 refine Wp.one 20 (by kernel_rfl) ?_
 refine ar rfl .no (.u rfl) (.u rfl) rfl (fun _=>wrap_i64 (by omega) (by omega)) ?_
 refine .nil (Wp.one 21 (by kernel_rfl) ?_)
 refine ih rfl .no Fx.se31 (.u rfl) (.u rfl) (fun _=>by omega) (fun _=>by omega) (fun _=>hs.nn (k:=((((l.length:Nat):Int)-(1:Int))).toNat) (by first|omega|(simp only [Bool.and_eq_true,decide_eq_true_eq] at hc; omega)|(simp only [List.length_cons,List.length_nil]; omega))) ?_
 refine .nil (Wp.one 22 (by kernel_rfl) ?_)
 refine fa rfl .no Fx.fo47_0 (.u rfl) (.nil (Wp.pr 23 (by kernel_rfl) ?_))
 refine ld rfl .no Fx.ag9 (.u rfl) (fun _=>(hs.at (by omega) ey 0 _ rfl).rd) ?_
 refine .nil ⟨⟨rfl,rfl⟩,?_⟩
 refine Wp.b1 28 (by kernel_rfl) ?_
 refine kv rfl .no Fx.go36 (Evc rfl Evn) (fun _=>root_ok D169 hRD _ hsRD hK (by omega)) ?_
 refine .nil (Wp.one 29 (by kernel_rfl) ?_)
 refine bCe (([V h.level,uv .u64 h.gen,uv .u64 h.epoch,uv .u64 h.num,.int .i64 (L182.length:Int),.int .i64 (l.length:Int),.string x.user,.string y.user]++ba 32 (rootD D169))) rfl .no Fx.bp36_0_1_2_3_4_5_6_7_8 (.cons (.u rfl) rfl (.cons (.u rfl) rfl (.cons (.u rfl) rfl (.cons (.u rfl) rfl (.cons (.u rfl) rfl (.cons (.u rfl) rfl (.cons (.u rfl) rfl (.cons (.u rfl) rfl (.cons (.u rfl) rfl .nil))))))))) rfl (rfl) (.nil (Wp.one 30 (by kernel_rfl) ?_))
 refine aS rfl rfl (.nil (Wp.b1 31 (by kernel_rfl) ?_))
 refine sw rfl (.u rfl) (.u rfl) rfl Fx.sz36 tk6 rfl (mone rfl rfl rfl rfl rfl rfl rfl rfl) ?_
 refine .nil (Wp.one 32 (by kernel_rfl) ?_)
 refine aS rfl rfl (.nil (Wp.last (by kernel_rfl) ?_))
 refine .code (.ret (We.fin0 Tryz.results8 (.tmp rfl (.cell rfl (fun w hw=>run_loadVarN Fx.ag36 (RdN.own .here) ((by first|exact mt_len|exact Meta.len _)) hw) (.tmp rfl .nil))) ?_))
 have eF:=tb_filt (root:=root) (h:=h) (blk:=blk) (every:=every) (X:=X156) eUS eL155 (by rw [eX156,eL74]<;>rfl)
 have eI:=tb_idx (root:=root) (h:=h) (every:=every) (bits:=bits) eR (by rw [eW156,eF]) eL166 (by omega) eL157 eL168
 have eS:=tb_sidx (root:=root) (h:=h) (every:=every) (bits:=bits) (X:=X169) eI (by rw [eX169,eL74]<;>rfl)
 have eB:=tb_bytes (root:=root) (h:=h) (every:=every) (bits:=bits) eO eF eS eO156 eO169 (by omega) eL182
 refine ⟨hR182,L182,(tabOf root h l blk every bits).info,0,.inr ⟨hnb,eB,rfl,rfl⟩,rfl,?_,hsR182⟩
 have eM:=tb_info eB eD eF eS eD156 eD169 ex ey
 exact congrArg (fun z=>Value.tuple #[hR182.val L182.length,.agg (List.toArray z),.int .i64 0]) eM
namespace FxTbH
theorem go73:goFn Tryz.prog 73=true:=by kernel_rfl
theorem go74:goFn Tryz.prog 74=true:=by kernel_rfl
end FxTbH
namespace Fx
theorem fo98_0:fOff Tryz.prog 98 0=some 0:=by kernel_rfl
theorem fo98_1:fOff Tryz.prog 98 1=some 64:=by kernel_rfl
theorem go123:goFn Tryz.prog 123=true:=by kernel_rfl
theorem go67:goFn Tryz.prog 67=true:=by kernel_rfl
theorem fo98_2:fOff Tryz.prog 98 2=some 65:=by kernel_rfl
theorem ag96:aggN Tryz.prog 96=some none:=by kernel_rfl
theorem se96:slE Tryz.prog 96=some (103,34,72):=by kernel_rfl
theorem ag103:aggN Tryz.prog 103=some (some 34):=by kernel_rfl
theorem zr103:zrL Tryz.prog 103=some ([.string ByteArray.empty,.slice none 0 0,.int .u8 0,.int .u8 0,.int .u8 0,.int .u8 0,.int .u8 0,.int .u8 0,.int .u8 0,.int .u8 0,.int .u8 0,.int .u8 0,.int .u8 0,.int .u8 0,.int .u8 0,.int .u8 0,.int .u8 0,.int .u8 0,.int .u8 0,.int .u8 0,.int .u8 0,.int .u8 0,.int .u8 0,.int .u8 0,.int .u8 0,.int .u8 0,.int .u8 0,.int .u8 0,.int .u8 0,.int .u8 0,.int .u8 0,.int .u8 0,.int .u8 0,.int .u8 0]):=by kernel_rfl
theorem sz103:szT Tryz.prog 103=some 34:=by kernel_rfl
theorem fo103_1:fOff Tryz.prog 103 1=some 1:=by kernel_rfl
theorem fo103_2:fOff Tryz.prog 103 2=some 2:=by kernel_rfl
theorem baT23:baT Tryz.prog 23 32=true:=by kernel_rfl
theorem go94:goFn Tryz.prog 94=true:=by kernel_rfl
theorem go56:goFn Tryz.prog 56=true:=by kernel_rfl
theorem go101:goFn Tryz.prog 101=true:=by kernel_rfl
end Fx
theorem need_ok (b:Bool) (hb:b=true) (G:PM):Ct Tryz.prog 67 ([.bool b]:List Value).toArray G [] (fun _ μ' u=>μ'=[]∧u=.tuple #[]):=by
 subst hb
 refine Ct.of Tryz.func67 rfl Tryz.ntmps67 rfl fun w0 hs0=>?_
 refine .seq (rq2 rfl rfl (mV rfl rfl (nt rfl .no (.u rfl) (.nil (.code (.cond rfl (fun c1=>?_) (fun c1=>?_)))))))
 ·have c1k:=c1
  exact absurd c1 (by decide)
 have c1k:=c1
 try simp only [qcA,qcB] at c1
 refine .skip (.nil (We.fin0 Tryz.results67 .nil ?_))
 exact ⟨rfl,rfl⟩
theorem tOpen_ok (root:Nat→Y) (h:Hd) (ha:Sh) (vr vi:Value) (b part:Nat) (xs L:List Y) (hx:Sh) (G:PM) (hsa:SlR G 1 encY ha (headL h)) (hsx:SlR G 1 encY hx xs) (hK:RdNP G 1 0 (wa 64 kW)) (hlx:xs.length≤1000000) (hp:part≤1000000000) (ho:openAt root h part xs=some L):Ct Tryz.prog 94 ([.pointer (some ⟨b,0,none⟩),.int .i64 (part:Int),hx.val xs.length]:List Value).toArray G [.blk b (cl (wrC (keyEnc root (headL h)) (keyMac root (headL h)) (ha.val (headL h).length) vr vi) 98)] (fun G' μ' u=>∃ h',μ'=[.blk b (cl (wrC (keyEnc root (headL h)) (keyMac root (headL h)) (ha.val (headL h).length) vr vi) 98)]∧u=Sh.val h' L.length∧SlR G' 1 encY h' L):=by
 refine Ct.of Tryz.func94 rfl Tryz.ntmps94 rfl fun w0 hs0=>?_
 refine .seq (rq1 rfl rfl (aS rfl rfl (.nil (.code (.seq (Wk.draw (mc:=⟨false,false⟩) [0,1,2,3,4,5,7,8,9,10,11,6,12,13,14,15,16,17] Fx.mix (by kernel_rfl) ?_))))))
 refine mV rfl rfl (nc rfl .no (.u rfl) (fz rfl .no Fx.fo98_0 (.u rfl) (lA rfl .no Fx.ag65 (.u rfl) (fun _=>RdN.part (n:=64) (cs':=ba 32 (keyEnc root (headL h))++ba 32 (keyMac root (headL h))) .here (wrc_key)) (fun _=>(by first|exact qE|exact qL|rfl)) ?_)))
 refine mV rfl rfl (ci rfl .no rfl Fx.cv3_24 (.u rfl) ?_)
 refine mV rfl rfl (nc rfl .no (.u rfl) (fz rfl .no Fx.fo98_1 (.u rfl) (ld rfl .no Fx.ag34 (.u rfl) (fun _=>Rd.own .here wrc_ad) ?_)))
 refine mV rfl rfl (kv rfl .no FxTbH.go73 (Evc rfl Evn) (fun _=>Nonce_ok _ _) ?_)
 refine kc rfl Fx.go123 (Evc rfl (Evc rfl (Evc rfl (Evc rfl Evn)))) (Open_ok (keyEnc root (headL h)) (keyMac root (headL h)) (nonceF (BitVec.ofInt 64 (part:Int))) (headL h) ha xs hx _ hsa hsx hK (by rw [head_len]; decide) (by omega)) ?_
 rintro _ G22 μ22 hG22 ⟨v22,L22,e22,hO22,rfl,rfl⟩
 obtain ⟨rfl,rfl⟩ : L22=L∧e22=0:=OpenR.some (by rw [← ho]; exact hO22)
 refine mV rfl rfl (ex rfl .no (.u rfl) rfl (ex rfl .no (.u rfl) rfl (aS rfl rfl (aS rfl rfl (.nil (.code (.seq (rq3 rfl rfl (mV rfl rfl (cp rfl .no (.u rfl) (.u rfl) rfl (kv rfl .no Fx.go67 (Evc rfl Evn) (fun _=>need_ok _ (rfl) _) ?_)))))))))))
 refine .nil (.code (.seq (rq2 rfl rfl (mV rfl rfl (aS rfl rfl (.nil (.code (.ret ?_))))))))
 refine we_fb .here (keys_k .here rfl (keys_0)) ?_; intro GfR22 hR22 hleR22 evR22 hsR22; subst evR22
 refine We.fin Tryz.results94 (.tmp rfl .nil) (mS .here rfl mN) ?_
 exact ⟨hR22,rfl,rfl,hsR22⟩
theorem whole_ok (root:Nat→Y) (h:Hd) (ps:List (RowT×Sh)) (ix:List Y) (ha hr hi:Sh) (b:Nat) (G:PM) (hR:RdrR G h ps ix ha hr hi) (hK:RdNP G 1 0 (wa 64 kW)) (i part:Nat) (p:RowT×Sh) (L:List Y) (hp:ps[i]? = some p) (hpt:part≤1000000000) (hw:wholeT root h p.1 part=some L):Ct Tryz.prog 56 ([.pointer (some ⟨b,0,none⟩),.int .i64 (i:Int),.int .i64 (part:Int)]:List Value).toArray G [.blk b (cl (wrC (keyEnc root (headL h)) (keyMac root (headL h)) (ha.val (headL h).length) (hr.val ps.length) (hi.val ix.length)) 98)] (fun G' μ' u=>∃ h',μ'=[.blk b (cl (wrC (keyEnc root (headL h)) (keyMac root (headL h)) (ha.val (headL h).length) (hr.val ps.length) (hi.val ix.length)) 98)]∧u=Sh.val h' L.length∧SlR G' 1 encY h' L):=by
 refine Ct.of Tryz.func56 rfl Tryz.ntmps56 rfl fun w0 hs0=>?_
 have hpm:=List.mem_of_getElem? hp
 have hpe:=hR.each p hpm; have hsm:=hR.sm p hpm
 have hil:=(List.getElem?_eq_some_iff.1 hp).1; have hpl:=hR.len
 refine .seq (rq1 rfl rfl (aS rfl rfl (.nil (.code (.seq (rq9 rfl rfl (mV rfl rfl (nc rfl .no (.u rfl) (fz rfl .no Fx.fo98_2 (.u rfl) (ld rfl .no Fx.ag96 (.u rfl) (fun _=>Rd.own .here wrc_out) ?_))))))))))
 refine mV rfl rfl (ih rfl .no Fx.se96 (.u rfl) (.u rfl) (fun _=>by omega) (fun _=>by omega) (fun _=>hR.rows.nn (k:=i) (by first|omega|(simp only [Bool.and_eq_true,decide_eq_true_eq] at hc; omega)|(simp only [List.length_cons,List.length_nil]; omega))) ?_)
 refine lA rfl .no Fx.ag103 (.u rfl) (fun _=>(hR.rows.at (by omega) hp).rd) (fun _=>rowC_len) ?_
 refine al rfl Fx.zr103 ?_; intro b7
 refine sw rfl (.u rfl) (.u rfl) rfl Fx.sz103 .here rfl (rowC_one _) ?_
 refine .nil (.code (.seq (Wk.draw (mc:=⟨false,false⟩) [0,1,3,4,2,5,6] Fx.mix (by kernel_rfl) ?_)))
 refine fz rfl .no Fx.fo103_1 (.u rfl) (ld rfl .no Fx.ag34 (.u rfl) (fun _=>Rd.own .here (by first|exact wap_f rfl|rfl)) ?_)
 refine fz rfl .no Fx.fo103_2 (.u rfl) (lA rfl .no Fx.ag23 (.u rfl) (fun _=>RdN.part (n:=32) (cs':=ba 32 p.1.leaf) .here (rowC_leaf)) (fun _=>(by first|exact rowC_len|exact ba_len _ _|rfl)) ?_)
 refine kv rfl .no FxTbH.go74 (Evc rfl Evn) (fun _=>leaf_ok p.1.bytes p.2 _ hpe hK (by omega)) ?_
 refine eqB rfl .no Fx.baT23 (.u rfl) (.u rfl) ?_
 refine kv rfl .no Fx.go67 (Evc rfl Evn) (fun _=>need_ok _ (wh_leaf hw) _) ?_
 refine .nil (.code (.seq (rq6 rfl rfl (mV rfl rfl (mV rfl rfl (fz rfl .no Fx.fo103_1 (.u rfl) (ld rfl .no Fx.ag34 (.u rfl) (fun _=>Rd.own .here (by first|exact wap_f rfl|rfl)) ?_)))))))
 refine ka rfl (.inr rfl) Fx.go94 (Evc rfl (Evc rfl (Evc rfl Evn))) (mtk1 tk1) (tOpen_ok root h ha _ _ b part p.1.bytes L p.2 _ hR.ad hpe hK hsm hpt (wh_open hw)) ?_
 rintro _ G26 μ26 hG26 ⟨h26,rfl,rfl,hs26⟩
 refine aS rfl rfl (.nil (.code (.ret (We.fin Tryz.results56 (.tmp rfl .nil) (mS .here rfl mN) ?_))))
 exact ⟨h26,rfl,rfl,hs26⟩
theorem ents_ok (root:Nat→Y) (h:Hd) (ps:List (RowT×Sh)) (ix:List Y) (ha hr hi:Sh) (b:Nat) (G:PM) (hR:RdrR G h ps ix ha hr hi) (hK:RdNP G 1 0 (wa 64 kW)) (i:Nat) (p:RowT×Sh) (l:List Ent) (hp:ps[i]? = some p) (he:entsT root h (ps.map (·.1)) i=some l):Ct Tryz.prog 59 ([.pointer (some ⟨b,0,none⟩),.int .i64 (i:Int)]:List Value).toArray G [.blk b (cl (wrC (keyEnc root (headL h)) (keyMac root (headL h)) (ha.val (headL h).length) (hr.val ps.length) (hi.val ix.length)) 98)] (fun G' μ' u=>∃ h',μ'=[.blk b (cl (wrC (keyEnc root (headL h)) (keyMac root (headL h)) (ha.val (headL h).length) (hr.val ps.length) (hi.val ix.length)) 98)]∧u=Sh.val h' l.length∧SlR G' 4 Ent.cells h' l):=by
 refine Ct.of Tryz.func59 rfl Tryz.ntmps59 rfl fun w0 hs0=>?_
 have hpm:=List.mem_of_getElem? hp
 have hsm:=hR.sm p hpm
 have hil:=(List.getElem?_eq_some_iff.1 hp).1; have hpl:=hR.len
 obtain ⟨y,hwy,hry⟩:=en_inv he
 rw [map_fst rfl hp] at hwy
 have hly:=wh_len hwy
 refine .seq (rq1 rfl rfl (aS rfl rfl (.nil (.code (.seq (Wk.rg [0,1,2,3,4,5,6,7,8,9,10] rfl rfl (mV rfl rfl (mV rfl rfl (mV rfl rfl (arn (((2+i):Nat):Int) rfl .no (.u rfl) (.u rfl) rfl (fun _=>by omega) (fun _=>wrap_i64 (by omega) (by omega)) ?_))))))))))
 refine ka rfl (.inr rfl) Fx.go56 (Evc rfl (Evc rfl (Evc rfl Evn))) (mtk1 .here) (whole_ok root h ps ix ha hr hi b _ hR hK i (2+i) p y hp (by omega) hwy) ?_
 rintro _ G12 μ12 hG12 ⟨h12,rfl,rfl,hs12⟩
 refine kc rfl Fx.go101 (Evc rfl Evn) (bRead_ok y h12 _ hs12 (by omega)) ?_
 rintro _ G13 μ13 hG13 ⟨h13,l13,er13,hB13,rfl,rfl,hs13⟩
 rw [hry] at hB13
 simp only [Prod.mk.injEq] at hB13
 obtain ⟨rfl,rfl⟩:=hB13
 refine mV rfl rfl (ex rfl .no (.u rfl) rfl (ex rfl .no (.u rfl) rfl (aS rfl rfl (aS rfl rfl (.nil (.code (.seq (rq3 rfl rfl (mV rfl rfl (cp rfl .no (.u rfl) (.u rfl) rfl (kv rfl .no Fx.go67 (Evc rfl Evn) (fun _=>need_ok _ (rfl) _) ?_)))))))))))
 refine .nil (.code (.seq (rq2 rfl rfl (mV rfl rfl (aS rfl rfl (.nil (.code (.ret (We.fin Tryz.results59 (.tmp rfl .nil) (mS .here rfl mN) ?_)))))))))
 exact ⟨h13,rfl,rfl,hs13⟩
namespace FxTbI
theorem ag36:aggN Tryz.prog 36=some (some 40):=by kernel_rfl
theorem go25:goFn Tryz.prog 25=true:=by kernel_rfl
theorem go36:goFn Tryz.prog 36=true:=by kernel_rfl
end FxTbI
namespace Fx
theorem go91:goFn Tryz.prog 91=true:=by kernel_rfl
theorem fo36_4:fOff Tryz.prog 36 4=some 4:=by kernel_rfl
theorem go10:goFn Tryz.prog 10=true:=by kernel_rfl
theorem eqt26:eqT Tryz.prog 4 26 ([.int .u8,.int .u8,.int .u64,.int .u64,.int .u64])=true:=by kernel_rfl
theorem bp98_0_1_3:bPl Tryz.prog 98 [0,1,3]=some ([.int .u8 0,.int .u8 0,.int .u8 0,.int .u8 0,.int .u8 0,.int .u8 0,.int .u8 0,.int .u8 0,.int .u8 0,.int .u8 0,.int .u8 0,.int .u8 0,.int .u8 0,.int .u8 0,.int .u8 0,.int .u8 0,.int .u8 0,.int .u8 0,.int .u8 0,.int .u8 0,.int .u8 0,.int .u8 0,.int .u8 0,.int .u8 0,.int .u8 0,.int .u8 0,.int .u8 0,.int .u8 0,.int .u8 0,.int .u8 0,.int .u8 0,.int .u8 0,.int .u8 0,.int .u8 0,.int .u8 0,.int .u8 0,.int .u8 0,.int .u8 0,.int .u8 0,.int .u8 0,.int .u8 0,.int .u8 0,.int .u8 0,.int .u8 0,.int .u8 0,.int .u8 0,.int .u8 0,.int .u8 0,.int .u8 0,.int .u8 0,.int .u8 0,.int .u8 0,.int .u8 0,.int .u8 0,.int .u8 0,.int .u8 0,.int .u8 0,.int .u8 0,.int .u8 0,.int .u8 0,.int .u8 0,.int .u8 0,.int .u8 0,.int .u8 0,.slice none 0 0,.slice none 0 0,.slice none 0 0],[(0,64),(64,1),(66,1)]):=by kernel_rfl
theorem fo98_3:fOff Tryz.prog 98 3=some 66:=by kernel_rfl
theorem go97:goFn Tryz.prog 97=true:=by kernel_rfl
theorem fo103_0:fOff Tryz.prog 103 0=some 0:=by kernel_rfl
theorem zv103:(Tryz.prog.info? 103).bind (·.zero)=some (.agg #[.string ByteArray.empty,.slice none 0 0,.int .u8 0,.int .u8 0,.int .u8 0,.int .u8 0,.int .u8 0,.int .u8 0,.int .u8 0,.int .u8 0,.int .u8 0,.int .u8 0,.int .u8 0,.int .u8 0,.int .u8 0,.int .u8 0,.int .u8 0,.int .u8 0,.int .u8 0,.int .u8 0,.int .u8 0,.int .u8 0,.int .u8 0,.int .u8 0,.int .u8 0,.int .u8 0,.int .u8 0,.int .u8 0,.int .u8 0,.int .u8 0,.int .u8 0,.int .u8 0,.int .u8 0,.int .u8 0]):=by kernel_rfl
theorem sz96:szT Tryz.prog 96=some 1:=by kernel_rfl
theorem go98:goFn Tryz.prog 98=true:=by kernel_rfl
theorem fo36_8:fOff Tryz.prog 36 8=some 8:=by kernel_rfl
end Fx
theorem take_is {xs:List Y} {hx:Sh} {G:PM} {h:Hd} (hs:SlR G 1 encY hx xs) (hl:xs.length≤100000000000000) (e:takeH xs=(h,0)):Ct Tryz.prog 91 ([hx.val xs.length]:List Value).toArray G [] (fun _ μ' u=>μ'=[]∧u=.tuple #[.agg h.cells.toArray,.int .i64 0]):=by
 have:=Take_ok xs hx G hs hl
 rw [e] at this
 exact this
theorem take_row (D:List Dg) (v:Value) (G:PM) (hK:RdNP G 1 0 (wa 64 kW)) (hl:D.length≤1000000):Ct Tryz.prog 36 ([v]:List Value).toArray G [rS 32 (ba 32) v 23 D] (fun _ μ' u=>∃ ν,μ'=rS 32 (ba 32) v 23 D :: ν∧ν=[]∧u=.agg (ba 32 (rootD D)).toArray) :=
 Ct.lendS (fun _ _=>ba_len _ _) (fun hd G2 hle hv hs=>by subst hv; exact root_ok D hd G2 hs (hK.mono hle) hl)
set_option maxHeartbeats 4000000 in
theorem tBegin_ok (root:Nat→Y) (m:Meta) (xs:List Y) (hx:Sh) (rows:List RowT) (ix:List Y) (G:PM) (hw:m.wf) (hs:SlR G 1 encY hx xs) (hK:RdNP G 1 0 (wa 64 kW)) (hl:xs.length≤1000000) (hBt:beginT root m xs=some (rows,ix)):Ct Tryz.prog 54 ([.agg (ba 32 root).toArray,m.val,hx.val xs.length]:List Value).toArray G [] (fun G' μ' u=>∃ (b:Nat) (ps:List (RowT×Sh)) (ha hr hi:Sh),ps.map (·.1)=rows∧μ'=[.blk b (cl (wrC (keyEnc root (headL (hdM m))) (keyMac root (headL (hdM m))) (ha.val (headL (hdM m)).length) (hr.val ps.length) (hi.val ix.length)) 98)]∧u=.pointer (some ⟨b,0,none⟩)∧RdrR G' (hdM m) ps ix ha hr hi):=by
 refine Ct.of Tryz.func54 rfl Tryz.ntmps54 rfl fun w0 hs0=>?_
 have B:=beg_inv hBt
 obtain ⟨y,hy,hyp⟩:=B.opn
 have hlong:=B.long; have hkk:=B.kk; have hrl:=restT_len hlong
 refine .seq (rq3 rfl rfl ?_)
 refine bx rfl (.u rfl) rfl ?_; intro b3
 refine bx rfl (.u rfl) rfl ?_; intro b4
 refine aS rfl rfl (.nil (.code (.seq (rq8 rfl rfl (mV rfl rfl (kv rfl .no Fx.go91 (Evc rfl Evn) (fun _=>take_is hs (by omega) B.take) ?_))))))
 refine mV rfl rfl (ex rfl .no (.u rfl) rfl (ex rfl .no (.u rfl) rfl ?_))
 refine al rfl Fx.zq26 ?_; intro b7
 refine sw rfl (.u rfl) (.u rfl) rfl Fx.sz26 .here rfl (one5 rfl rfl rfl rfl rfl) ?_
 refine aS rfl rfl (.nil (.code (.seq ?_)))
 refine wk_fz tk2 (by intro b hb; cases hb) ?_; intro Gfb3 hleb3 hbb3
 have hs:=hs.mono hleb3
 have hK:=hK.mono hleb3
 refine wk_fz tk1 (by intro b hb; cases hb) ?_; intro Gfb4 hleb4 hbb4
 have hs:=hs.mono hleb4
 have hK:=hK.mono hleb4
 have hbb3:=hbb3.mono hleb4
 refine wk_fz .here (by intro b hb; cases hb) ?_; intro Gfb7 hleb7 hbb7
 have hs:=hs.mono hleb7
 have hK:=hK.mono hleb7
 have hbb3:=hbb3.mono hleb7
 have hbb4:=hbb4.mono hleb7
 refine Wk.mixp ⟨true,false⟩ Fx.mix (by kernel_rfl) ?_
 refine Wp.one 0 (by kernel_rfl) ?_
 refine mV rfl rfl (.nil (Wp.one 1 (by kernel_rfl) ?_))
 refine ln rfl .no Fx.sn34 (.u rfl) (.nil (Wp.one 2 (by kernel_rfl) ?_))
 refine fa rfl .no Fx.fo36_4 (.u rfl) (.nil (Wp.one 3 (by kernel_rfl) ?_))
 refine ld rfl .no Fx.ag3 (.u rfl) (fun _=>(hbb4.rd (by rfl)).rd) ?_
 refine .nil (Wp.one 4 (by kernel_rfl) ?_)
 refine cp rfl .no (.u rfl) (.u rfl) rfl (.nil (Wp.one 5 (by kernel_rfl) ?_))
 refine mV rfl rfl (.nil (Wp.one 6 (by kernel_rfl) ?_))
 refine mv rfl (.t rfl rfl) (.u rfl) (.nil (Wp.one 7 (by kernel_rfl) ?_))
 refine cp rfl (.t rfl rfl) (.s rfl) (.u rfl) rfl (.nil (Wp.one 8 (by kernel_rfl) ?_))
 refine pkA rfl .no (.u rfl) (.s rfl) (.nil (Wp.one 9 (by kernel_rfl) ?_))
 refine mV rfl rfl (.nil (Wp.one 11 (by kernel_rfl) ?_))
 refine lA rfl (.t rfl rfl) FxTbI.ag36 (.u rfl) (fun hc=>(hbb4.rdn (m:=40) (cs':=m.cells) ((by rw [List.drop_zero]; exact List.take_of_length_le (Nat.le_of_eq (Meta.len m))))).rd) (fun _=>(Meta.len _)) ?_
 refine .nil (Wp.pr 10 (by kernel_rfl) ?_)
 refine lA rfl (.t rfl rfl) Fx.ag26 (.u rfl) (fun hc=>(hbb7.rdn (m:=5) (cs':=(hdM m).cells) (rfl)).rd) (fun _=>rfl) ?_
 refine .nil ⟨⟨rfl,rfl⟩,?_⟩
 refine Wp.b1 12 (by kernel_rfl) ?_
 refine kv rfl (.t rfl rfl) Fx.go10 (Eva.cons (.s rfl) Evn) (fun hc=>tHead_ok m _ hw) ?_
 refine .nil (Wp.one 13 (by kernel_rfl) ?_)
 refine eqC (decide (hdM m=hdM m)) rfl (.t rfl rfl) Fx.eqt26 (.s rfl) (.s rfl) (fun hc=>hd_conf _) (fun hc=>hd_conf _) (fun hc=>hd_iff) ?_
 refine .nil (Wp.one 14 (by kernel_rfl) ?_)
 refine pkA rfl .no (.u rfl) (.s rfl) (.nil (Wp.one 15 (by kernel_rfl) ?_))
 refine mV rfl rfl (.nil (Wp.one 16 (by kernel_rfl) ?_))
 refine mv rfl (.t rfl rfl) (.u rfl) (.nil (Wp.one 17 (by kernel_rfl) ?_))
 refine ln rfl (.t rfl rfl) Fx.sn34 (.s rfl) (.nil (Wp.one 18 (by kernel_rfl) ?_))
 refine cp rfl (.t rfl rfl) (.s rfl) (.u rfl) rfl (.nil (Wp.one 19 (by kernel_rfl) ?_))
 refine pkA rfl .no (.u rfl) (.s rfl) (.nil (Wp.b1 20 (by kernel_rfl) ?_))
 refine kv rfl .no Fx.go67 (Evc rfl Evn) (fun _=>need_ok _ (bg_need1 B.size (by omega)) _) ?_
 refine .nil (Wp.last (by kernel_rfl) ?_)
 refine .code (.seq (Wk.draw (mc:=⟨false,false⟩) [0,1,2,3,4,5,6,7,8,9,10,11,12] Fx.mix (by kernel_rfl) ?_))
 refine mV rfl rfl (mV rfl rfl (ln rfl .no Fx.sn34 (.u rfl) (arn (((xs.length-8):Nat):Int) rfl .no (.u rfl) (.u rfl) rfl (fun _=>by omega) (fun _=>wrap_i64 (by omega) (by omega)) ?_)))
 refine kS (30) ((xs.length-8)) rfl .no Fx.se34 hs (.u rfl) (.u rfl) (.u rfl) (fun _=>by omega) (fun _=>by omega) (fun _=>by omega) (fun _=>by omega) ?_
 intro h51 L51 eL51 lL51 hs51
 have lL51:=lL51 rfl
 refine mV rfl rfl (mV rfl rfl (ln rfl .no Fx.sn34 (.u rfl) (arn (((xs.length-8):Nat):Int) rfl .no (.u rfl) (.u rfl) rfl (fun _=>by omega) (fun _=>wrap_i64 (by omega) (by omega)) ?_)))
 refine kD ((xs.length-8)) rfl .no Fx.se34 hs (.u rfl) (.u rfl) (fun _=>by omega) (fun _=>by omega) ?_
 intro h56 L56 eL56 lL56 hs56
 have lL56:=lL56 rfl
 refine kc rfl Fx.go92 (Evc rfl Evn) (wcNew_ok L56 h56 _ hs56 (by omega)) ?_
 rintro _ G57 μ57 hG57 ⟨b57,s57,rfl,rfl,hs57⟩
 have hK:=hK.mono hG57
 have hbb3:=hbb3.mono hG57
 have hbb4:=hbb4.mono hG57
 have hbb7:=hbb7.mono hG57
 have hs51:=hs51.mono hG57
 refine aS rfl rfl (aS rfl rfl (.nil (.code (.seq ?_))))
 have hk8:(unfK L56 8).toNat=kkT xs:=by rw [eL56]; rfl
 have hk9:@BitVec.toNat IntKind.u64.bits (unfK L56 8)=kkT xs:=hk8
 have eR:L51=restT xs:=by rw [eL51,show xs.length-8-30=xs.length-38 by omega]; rfl
 refine rq3 rfl rfl (mV rfl rfl (ka rfl (.inr rfl) Fx.go93 (Evc rfl (Evc rfl Evn)) (mtk1 .here) (rdFix_ok L56 s57 _ _ hs57 (by omega) (by omega)) ?_))
 rintro _ G59 μ59 hG59 ⟨s59,rfl,rfl,hs59⟩
 have hK:=hK.mono hG59
 have hbb3:=hbb3.mono hG59
 have hbb4:=hbb4.mono hG59
 have hbb7:=hbb7.mono hG59
 have hs51:=hs51.mono hG59
 refine aS rfl rfl (.nil (.code (.seq (rq6 rfl rfl (mV rfl rfl (mV rfl rfl (ln rfl .no Fx.sn34 (.u rfl) (cw rfl .no Fx.cv3_24 (.u rfl) (fun _=>wrap_u64 (by omega) (by omega)) ?_))))))))
 refine cp rfl .no (.u rfl) (.u rfl) rfl (kv rfl .no Fx.go67 (Evc rfl Evn) (fun _=>need_ok _ (by rw [decide_eq_true_eq]; omega) _) ?_)
 refine .nil (.code (.seq (rq6 rfl rfl (mV rfl rfl (ln rfl .no Fx.sn34 (.u rfl) (mV rfl rfl (cw rfl .no Fx.cv24_3 (.u rfl) (fun _=>wrap_i64 (by omega) (by omega)) ?_)))))))
 refine arn (((L51.length-(unfK L56 8).toNat):Nat):Int) rfl .no (.u rfl) (.u rfl) rfl (fun _=>by omega) (fun _=>wrap_i64 (by omega) (by omega)) ?_
 refine aS rfl rfl (.nil (.code (.seq (Wk.mixp ⟨true,false⟩ Fx.mix (by kernel_rfl) ?_))))
 refine Wp.one 0 (by kernel_rfl) ?_
 refine lA rfl .no Fx.ag23 (.u rfl) (fun _=>(hbb3.rdn (m:=32) (cs':=_) (by first|exact ba_all|exact app_l|exact app_r)).rd) (fun _=>(ba_len _ _)) ?_
 refine .nil (Wp.one 1 (by kernel_rfl) ?_)
 refine lA rfl .no Fx.ag26 (.u rfl) (fun _=>(hbb7.rdn (m:=5) (cs':=(hdM m).cells) (rfl)).rd) (fun _=>rfl) ?_
 refine .nil (Wp.one 5 (by kernel_rfl) ?_)
 refine mV rfl rfl (.nil (Wp.one 6 (by kernel_rfl) ?_))
 refine mV rfl rfl (.nil (Wp.one 7 (by kernel_rfl) ?_))
 refine kD ((L51.length-(unfK L56 8).toNat)) rfl .no Fx.se34 hs51 (.u rfl) (.u rfl) (fun _=>by omega) (fun _=>by omega) ?_
 intro h78 L78 eL78 lL78 hs78
 have lL78:=lL78 rfl
 refine .nil (Wp.pr 3 (by kernel_rfl) ?_)
 refine lA rfl .no Fx.ag26 (.u rfl) (fun _=>(hbb7.rdn (m:=5) (cs':=(hdM m).cells) (rfl)).rd) (fun _=>rfl) ?_
 refine .nil ⟨⟨rfl,rfl⟩,?_⟩
 refine Wp.b1 2 (by kernel_rfl) ?_
 refine kv rfl .no FxTbI.go25 (Evc rfl (Evc rfl Evn)) (fun _=>KeyOf_ok root (hdM m) _ hK) ?_
 refine .nil (Wp.b1 4 (by kernel_rfl) ?_)
 refine kc rfl Fx.go26 (Evc rfl Evn) (Ct.frzB (nLay_ok (hdM m) _)) ?_
 rintro _ G75 μ75 hG75 ⟨h75,L75,eL75,rfl,rfl,hs75⟩
 have hK:=hK.mono hG75
 have hbb4:=hbb4.mono hG75
 have hs51:=hs51.mono hG75
 have hs78:=hs78.mono hG75
 refine .nil (Wp.one 8 (by kernel_rfl) ?_)
 refine bCe (wrC (keyEnc root (headL (hdM m))) (keyMac root (headL (hdM m))) (h75.val L75.length) (.slice none 0 0) (h78.val L78.length)) rfl .no Fx.bp98_0_1_3 (.cons (.u rfl) rfl (.cons (.u rfl) rfl (.cons (.u rfl) rfl .nil))) rfl (rfl) (.nil (Wp.b1 9 (by kernel_rfl) ?_))
 refine bx rfl (.u rfl) rfl ?_; intro b80
 refine .nil (Wp.one 10 (by kernel_rfl) ?_)
 refine aS rfl rfl (.nil (Wp.last (by kernel_rfl) ?_))
 refine .code (.seq ?_)
 have hix:L78=ix:=by rw [eL78,B.eix,eR,hk8,hrl]
 have e75:h75.val L75.length=h75.val (headL (hdM m)).length:=by rw [eL75]
 rw [eL75] at hs75
 rw [e75]
 refine rq4 rfl rfl (mV rfl rfl (mV rfl rfl (kE ((L51.length-(unfK L56 8).toNat)) rfl .no Fx.se34 hs51 (.u rfl) (.u rfl) (fun _=>by omega) (fun _=>by omega) ?_)))
 intro h83 L83 eL83 lL83 hs83
 have lL83:=lL83 rfl
 refine aS rfl rfl (.nil (.code (.seq ?_)))
 have hyl:y.length+16≤1000000:=by have h1:=(seal_open hy).2; rw [← hix] at h1; omega
 refine rq8 rfl rfl (mV rfl rfl (mV rfl rfl (nc rfl .no (.u rfl) (fz rfl .no Fx.fo98_3 (.u rfl) (ld rfl .no Fx.ag34 (.u rfl) (fun _=>Rd.own .here wrc_lvs) ?_)))))
 refine ka rfl (.inr rfl) Fx.go94 (Evc rfl (Evc rfl (Evc rfl Evn))) (mtk1 .here) (tOpen_ok root (hdM m) h75 _ _ b80 0 L78 y h78 _ hs75 hs78 hK (by omega) (by decide) (by rw [hix]; exact hy)) ?_
 rintro _ G89 μ89 hG89 ⟨h89,rfl,rfl,hs89⟩
 have hK:=hK.mono hG89
 have hbb4:=hbb4.mono hG89
 have hs78:=hs78.mono hG89
 have hs75:=hs75.mono hG89
 have hs83:=hs83.mono hG89
 refine kc rfl Fx.go92 (Evc rfl Evn) (wcNew_ok y h89 _ hs89 (by omega)) ?_
 rintro _ G90 μ90 hG90 ⟨b90,s90,rfl,rfl,hs90⟩
 have hK:=hK.mono hG90
 have hbb4:=hbb4.mono hG90
 have hs78:=hs78.mono hG90
 have hs75:=hs75.mono hG90
 have hs83:=hs83.mono hG90
 refine aS rfl rfl (.nil (.code (.seq (rq3 rfl rfl (mV rfl rfl (ka rfl (.inr rfl) Fx.go95 (Evc rfl Evn) (mtk1 .here) (rNum_ok y 0 s90 b90 _ hs90 (by omega)) ?_))))))
 rintro _ G92 μ92 hG92 ⟨n92,L92,e92,s92,hN92,rfl,rfl,hs92⟩
 have lL92:=rdnum_le hN92; have nL92:=rdnum_lt hN92; simp only at lL92
 have hK:=hK.mono hG92
 have hbb4:=hbb4.mono hG92
 have hs78:=hs78.mono hG92
 have hs75:=hs75.mono hG92
 have hs83:=hs83.mono hG92
 refine aS rfl rfl (.nil (.code (.seq ?_)))
 obtain ⟨he92,hq92⟩:=((Tk.put hyp).numE hN92).got
 simp only at he92 hq92
 subst he92
 obtain ⟨hn0,hrw0⟩:=bg_rows0 hq92
 refine rq8 rfl rfl (mV rfl rfl (cp rfl .no (.u rfl) (.u rfl) rfl (mV rfl rfl (mv rfl (.t rfl rfl) (.u rfl) (kp rfl (.t rfl rfl) Fx.go96 (Eva.cons (.s rfl) Evn) (Gp.add .here Gp.nil) (fun hc hle hq=>rFault_ok L92 0 s92 b90 _ RdNP.add) ?_)))))
 refine cp rfl (.t rfl rfl) (.s rfl) (.u rfl) rfl (pkA rfl .no (.u rfl) (.s rfl) (kv rfl .no Fx.go67 (Evc rfl Evn) (fun _=>need_ok _ (by simp; omega) _) ?_))
 refine .nil (.code (.seq (rq1 rfl rfl (aS rfl rfl (.nil (.code (.seq (.seq (wk_nilS 32 (ba 32) 23 ?_)))))))))
 refine wk_nilS 34 rowC 103 ?_
 refine rq1 rfl rfl (aS rfl rfl (.nil (.code (.block ?_))))
 refine Wk.lop (α:=Nat×List Y×Sh×Value×List (RowT×Sh)×Value×List Dg×List Y×Sh) (fun gh=>[(9,true,gh.2.2.1.val gh.2.1.length),(16,true,gh.2.2.2.2.2.1),(17,true,.int .u64 (gh.1:Int))]) (fun gh=>[rS 34 rowC gh.2.2.2.1 103 gh.2.2.2.2.1,rS 32 (ba 32) gh.2.2.2.2.2.1 23 gh.2.2.2.2.2.2.1,.blk b90 (cl [Sh.val gh.2.2.2.2.2.2.2.2 gh.2.2.2.2.2.2.2.1.length,.int .i64 0] 175),.blk b80 (cl (wrC (keyEnc root (headL (hdM m))) (keyMac root (headL (hdM m))) (h75.val (headL (hdM m)).length) gh.2.2.2.1 (h78.val L78.length)) 98)])
  (fun gh Gl=>(gh.1≤n92+1)∧(rowsP (n92+1-gh.1) (gh.2.2.2.2.1.map (·.1)) gh.2.1 gh.2.2.2.2.2.2.2.1=some rows)∧(gh.2.2.2.2.2.2.1=gh.2.2.2.2.1.map (fun p=>p.1.leaf))∧(gh.2.2.2.2.1.length=gh.1∧gh.2.2.2.2.1.length+gh.2.2.2.2.2.2.2.1.length≤y.length∧gh.2.1.length≤xs.length)∧(AllB Gl gh.2.2.2.2.1)∧(SlR Gl 1 encY gh.2.2.1 gh.2.1)∧(SlR Gl 1 encY gh.2.2.2.2.2.2.2.2 gh.2.2.2.2.2.2.2.1)) (fun gh=>n92+1-gh.1) (0,L83,h83,.slice none 0 0,[],.slice none 0 0,[],L92,s92) [(4,true,_),(13,true,_),(14,true,_),(15,true,_)] [_]
  (esD rfl (esD rfl (esD rfl (esD rfl (esD rfl (esD rfl (esD rfl eZ)))))))
  (mS .here rfl (mS .here rfl (mS .here rfl (mS .here rfl (mS .here rfl mN))))) ?_ ?_
 ·refine ⟨?_,?_,?_,?_,?_,?_,?_⟩
  ·(try dsimp only)<;>(first|omega|rfl|assumption|(simp; done))
  ·(try dsimp only)<;>(rw [eL83,eR,hk8,hrl]; exact hrw0)
  ·(try dsimp only)<;>(first|omega|rfl|assumption|(simp; done))
  ·(try dsimp only)<;>(exact ⟨rfl,by simp only [List.length_nil]; omega,by omega⟩)
  ·(try dsimp only)<;>(exact AllB.nil)
  ·(try dsimp only)<;>(exact hs83)
  (try dsimp only)<;>(exact hs92)
 intro gh N0 Gl0 hN0 hGl0 hF0
 obtain ⟨k,A,hA,vr,acc,vl,D,R,sR⟩:=gh; dsimp only at hF0 hN0 ⊢
 obtain ⟨hk,hrows,eD,hlen,hall,hsA,hsR⟩:=hF0
 have hK:=hK.mono hGl0
 have hbb4:=hbb4.mono hGl0
 have hs78:=hs78.mono hGl0
 have hs75:=hs75.mono hGl0
 have lD:D.length=acc.length:=by rw [eD,List.length_map]
 refine .seq (.seq (rq3 rfl rfl (mV rfl rfl (mV rfl rfl (cp rfl .no (.u rfl) (.u rfl) rfl (.nil (.code (.cond rfl (fun c1=>?_) (fun c1=>?_)))))))))
 ·have c1k:=c1
  try simp only [qcA,qcC,qcB] at c1
  refine .skip (.code (.seq (.block (.seq (rq1 rfl rfl ?_)))))
  refine al rfl Fx.zr103 ?_; intro b18
  refine .nil (.code (.seq (.seq (rq3 rfl rfl (mV rfl rfl (mV rfl rfl (cp rfl .no (.u rfl) (.u rfl) rfl (.nil (.code (.cond rfl (fun c2=>?_) (fun c2=>?_)))))))))))
  ·have c2k:=c2
   try simp only [qcA,qcC,qcB] at c2
   refine rq4 rfl rfl (mV rfl rfl (ka rfl (.inr rfl) Fx.go97 (Evc rfl (Evc rfl Evn)) (mtk1 tk3) (rStr_ok R 0 sR b90 _ hsR (by omega) 1024 (by decide)) ?_))
   rintro _ G110 μ110 hG110 ⟨M110,L110,e110,s110,hN110,rfl,rfl,hs110⟩
   have lL110:=rdstr_le hN110; simp only at lL110
   have hK:=hK.mono hG110
   have hbb4:=hbb4.mono hG110
   have hs78:=hs78.mono hG110
   have hs75:=hs75.mono hG110
   have hall:=hall.mono hG110
   have hsA:=hsA.mono hG110
   have hsR:=hsR.mono hG110
   refine fz rfl .no Fx.fo103_0 (.u rfl) (s1 rfl (.u rfl) (.u rfl) rfl Fx.sz9 tk1 (show 0<34 by decide) (rfl) ?_)
   refine .nil (.code (.seq (rq3 rfl rfl (mV rfl rfl (ka rfl (.inr rfl) Fx.go95 (Evc rfl Evn) (mtk1 tk1) (rNum_ok L110 e110 s110 b90 _ hs110 (by omega)) ?_)))))
   rintro _ G113 μ113 hG113 ⟨n113,L113,e113,s113,hN113,rfl,rfl,hs113⟩
   have lL113:=rdnum_le hN113; have nL113:=rdnum_lt hN113; simp only at lL113
   have hK:=hK.mono hG113
   have hbb4:=hbb4.mono hG113
   have hs78:=hs78.mono hG113
   have hs75:=hs75.mono hG113
   have hall:=hall.mono hG113
   have hsA:=hsA.mono hG113
   have hsR:=hsR.mono hG113
   refine aS rfl rfl (.nil (.code (.seq (.seq (rq1 rfl rfl (mV rfl rfl (.nil (.code (.block ?_)))))))))
   have hT3:=((bg_str hrows (by omega)).strE hN110).numE hN113
   refine Wk.lop (α:=Nat×List Y×Int×Sh×(Nat→Y)×List Y) (fun gh=>[(114,true,.int .i64 (gh.1:Int))]) (fun gh=>[.blk b90 (cl [Sh.val gh.2.2.2.1 gh.2.1.length,.int .i64 gh.2.2.1] 175),.blk b18 (cl (rwC M110 (.slice none 0 0) gh.2.2.2.2.1) 103)])
    (fun gh Gl=>(gh.1≤32)∧(gh.2.2.2.2.2.length=gh.1)∧(ByR ⟨L113,e113⟩ ⟨gh.2.1,gh.2.2.1⟩ false gh.2.2.2.2.2)∧(∀ i,gh.2.2.2.2.1 i=gh.2.2.2.2.2.getD i 0)∧(gh.2.1.length≤L113.length∧(gh.2.2.1=0→gh.2.1.length+gh.1≤L113.length))∧(SlR Gl 1 encY gh.2.2.2.1 gh.2.1)) (fun gh=>32-gh.1) (0,L113,e113,s113,(fun _=>0#8),[]) [(4,true,_),(9,true,_),(13,true,_),(14,true,_),(15,true,_),(16,true,_),(17,true,_),(18,true,_),(19,true,_)] [_,_,_,_]
    (esC rfl (by first|rfl|exact evi (by omega)) (esD rfl (esD rfl (esD rfl (esD rfl (esD rfl (esD rfl (esD rfl (esD rfl (esD rfl eZ))))))))))
    (mS .here rfl (mS .here (by first|rfl | (rw [bnil]; rfl)) (mS .here rfl (mS .here rfl (mS .here rfl (mS .here rfl mN)))))) ?_ ?_
   ·refine ⟨?_,?_,?_,?_,?_,?_⟩
    ·(try dsimp only)<;>(first|omega|rfl|assumption|(simp; done))
    ·(try dsimp only)<;>(first|omega|rfl|assumption|(simp; done))
    ·(try dsimp only)<;>(exact ByR.zero)
    ·(try dsimp only)<;>(exact fun i=>by simp)
    ·(try dsimp only)<;>(exact ⟨Nat.le_refl _,fun _=>Nat.le_refl _⟩)
    (try dsimp only)<;>(exact hs113)
   intro gh N1 Gl1 hN1 hGl1 hF1
   obtain ⟨q,L,ee,s9,f,rt⟩:=gh; dsimp only at hF1 hN1 ⊢
   obtain ⟨hq,hrt,hB9,ef,lX,hsl⟩:=hF1
   have hK:=hK.mono hGl1
   have hbb4:=hbb4.mono hGl1
   have hs78:=hs78.mono hGl1
   have hs75:=hs75.mono hGl1
   have hall:=hall.mono hGl1
   have hsA:=hsA.mono hGl1
   have hsR:=hsR.mono hGl1
   have hs113:=hs113.mono hGl1
   refine .seq (rq1 rfl rfl (cp rfl .no (.u rfl) (.u rfl) rfl (.nil (.code (.seq (.cond rfl (fun c3=>?_) (fun c3=>?_)))))))
   ·have c3k:=c3
    try simp only [qcA,qcC,qcB] at c3
    refine .skip (.code (.seq (.block (.seq (rq2 rfl rfl (mV rfl rfl (aS rfl rfl (.nil (.code (rq7 rfl rfl (mV rfl rfl (mV rfl rfl (ka rfl (.inr rfl) Fx.go93 (Evc rfl (Evc rfl Evn)) (mtk1 .here) (rFix_ok L ee s9 b90 _ hsl (by omega)) ?_)))))))))))))
    rintro _ G119 μ119 hG119 ⟨y119,L119,e119,s119,hN119,rfl,rfl,hs119⟩
    have lL119:=rdbyte_le hN119; simp only at lL119
    have hK:=hK.mono hG119
    have hbb4:=hbb4.mono hG119
    have hs78:=hs78.mono hG119
    have hs75:=hs75.mono hG119
    have hall:=hall.mono hG119
    have hsA:=hsA.mono hG119
    have hsR:=hsR.mono hG119
    have hs113:=hs113.mono hG119
    have hsl:=hsl.mono hG119
    refine cu (k:=.u64) rfl .no rfl Fx.cv24_5 (.u rfl) ?_
    refine fz rfl .no Fx.fo103_2 (.u rfl) (iA rfl .no Fx.ar23 (.u rfl) (.u rfl) (fun _=>by omega) (fun _=>by omega) ?_)
    refine s1 rfl (.u rfl) (.u rfl) rfl Fx.sz5 tk1 (by rw [rwC_len]; omega) (rwC_set (k:=q) (by omega)) ?_
    refine .nil (.blk (.code (rq2 rfl rfl (arn (((q+1):Nat):Int) rfl .no (.u rfl) (.u rfl) rfl (fun _=>by omega) (fun _=>wrap_i64 (by omega) (by omega)) ?_))))
    refine mV rfl rfl (.nil (We.lpo (q+1,L119,e119,s119,upd f q ((y119.setWidth 64).setWidth 8),rt++[y119]) ?_ ?_ ?_ ?_ ?_))
    ·exact (esC rfl (by first|rfl|exact evi (by omega)) (esD rfl (esD rfl (esD rfl (esD rfl (esD rfl (esD rfl (esD rfl (esD rfl (esD rfl eZ))))))))))
    ·exact (mS tk1 rfl (mS .here rfl (mS .here rfl (mS .here rfl (mS .here rfl (mS .here rfl mN))))))
    ·first|omega|(dsimp only; omega)
    ·exact (hGl1).trans hG119
    refine ⟨?_,?_,?_,?_,?_,?_⟩
    ·(try dsimp only)<;>(first|omega|rfl|assumption|(simp; done))
    ·(try dsimp only)<;>(simp [hrt])
    ·(try dsimp only)<;>(exact hB9.step (by omega) hN119)
    ·(try dsimp only)<;>(exact rt_step hrt ef)
    ·(try dsimp only)<;>(have hbd:=byte_dec hN119; exact ⟨by omega,fun z=>by have:=hbd.2 z; have:=lX.2 this.1; omega⟩)
    (try dsimp only)<;>(exact hs119)
   have c3k:=c3
   try simp only [qcA,qcC,qcB] at c3
   refine .exit (.xcode (.xlp (.xblk (.code (.seq ?_)))))
   obtain ⟨hee,hsz,hrw⟩:=bg_got ef (hB9.all (by omega) hT3)
   simp only at hee hrw
   subst hee
   refine Wk.rg [0,1,2,3,4,5,6,7,8,9,10] rfl rfl (mV rfl rfl (kp rfl .no Fx.go96 (Evc rfl Evn) (Gp.add .here Gp.nil) (fun _ hle hq=>rFault_ok L 0 s9 b90 _ RdNP.add) ?_))
   refine cp rfl .no (.u rfl) (.u rfl) rfl (mV rfl rfl (mv rfl (.t rfl rfl) (.u rfl) (mv rfl (.t rfl rfl) (.u rfl) (ln rfl (.t rfl rfl) Fx.sn34 (.s rfl) (cw rfl (.t rfl rfl) Fx.cv3_24 (.s rfl) (fun hc=>wrap_u64 (by (try simp only [Bool.and_eq_true,decide_eq_true_eq,Bool.not_eq_true',Bool.or_eq_false_iff,decide_eq_false_iff_not] at hc); omega) (by (try simp only [Bool.and_eq_true,decide_eq_true_eq,Bool.not_eq_true',Bool.or_eq_false_iff,decide_eq_false_iff_not] at hc); omega)) ?_)))))
   refine cp rfl (.t rfl rfl) (.s rfl) (.s rfl) rfl (pkA rfl .no (.u rfl) (.s rfl) (kv rfl .no Fx.go67 (Evc rfl Evn) (fun _=>need_ok _ (by simp; omega) _) ?_))
   refine .nil (.code (.seq (Wk.draw (mc:=⟨false,false⟩) [0,1,2,3,4,5,6,7,8] Fx.mix (by kernel_rfl) ?_)))
   refine mV rfl rfl (mV rfl rfl (kE (n113) rfl .no Fx.se34 hsA (.u rfl) (.u rfl) (fun _=>by omega) (fun _=>by omega) ?_))
   intro h137 L137 eL137 lL137 hs137
   have lL137:=lL137 rfl
   refine mV rfl rfl (mV rfl rfl (kD (n113) rfl .no Fx.se34 hsA (.u rfl) (.u rfl) (fun _=>by omega) (fun _=>by omega) ?_))
   intro h140 L140 eL140 lL140 hs140
   have lL140:=lL140 rfl
   refine fz rfl .no Fx.fo103_1 (.u rfl) (s1 rfl (.u rfl) (.u rfl) rfl Fx.sz34 tk1 (by rw [rwC_len]; decide) (rfl) ?_)
   refine aS rfl rfl (.nil (.code (.seq (Wk.mixp ⟨false,false⟩ Fx.mix (by kernel_rfl) ?_))))
   refine Wp.one 0 (by kernel_rfl) ?_
   refine mV rfl rfl (.nil (Wp.one 1 (by kernel_rfl) ?_))
   refine mV rfl rfl (.nil (Wp.one 2 (by kernel_rfl) ?_))
   refine nc rfl .no (.u rfl) (.nil (Wp.one 3 (by kernel_rfl) ?_))
   refine fz rfl .no Fx.fo98_2 (.u rfl) (.nil (Wp.one 4 (by kernel_rfl) ?_))
   refine ld rfl .no Fx.ag96 (.u rfl) (fun _=>Rd.own tk4 wrc_out) ?_
   refine .nil (Wp.one 5 (by kernel_rfl) ?_)
   refine lA rfl .no Fx.ag103 (.u rfl) (fun _=>RdN.own .here) (fun _=>rwC_len) ?_
   refine .nil (Wp.b1 6 (by kernel_rfl) ?_)
   refine Go.Tan.b1 rfl Fx.se96 Fx.zv103 (.u rfl) rfl rfl (by decide) ?_; intro b148
   refine .nil (Wp.b1 7 (by kernel_rfl) ?_)
   refine apS (xs:=acc) ((⟨_,L137,f⟩,h137)) rfl Fx.se96 Fx.zv103 rfl (.u rfl) (.u rfl) tk3 .here (rowC_len) (one_app (one2 rfl rfl) (ba_one _ _)) (by omega) (by unfold maxLen; omega) ?_; intro v149 ov149
   refine .nil (Wp.one 8 (by kernel_rfl) ?_)
   refine nc rfl .no (.u rfl) (.nil (Wp.one 9 (by kernel_rfl) ?_))
   refine fz rfl .no Fx.fo98_2 (.u rfl) (.nil (Wp.b1 10 (by kernel_rfl) ?_))
   refine s1v rfl (.u rfl) (.u rfl) .here Fx.sz96 tk5 (by rw [wrc_len]; decide) (wrs_out) ?_
   refine .nil (Wp.last (by kernel_rfl) ?_)
   refine .code (rq6 rfl rfl (mV rfl rfl (fz rfl .no Fx.fo103_2 (.u rfl) (lA rfl .no Fx.ag23 (.u rfl) (fun _=>RdN.part (n:=32) (cs':=ba 32 f) tk3 (rwC_leaf)) (fun _=>(by first|exact rowC_len|exact rwC_len|exact (key_len _ _).trans (key_len _ _).symm|exact key_len _ _|exact ba_len _ _|exact Meta.len _|rfl)) ?_))))
   refine Go.Tan.b1 rfl Fx.se68 Fx.zw23 (.u rfl) rfl rfl (by decide) ?_; intro b155
   refine apS (xs:=D) (f) rfl Fx.se68 Fx.zw23 rfl (.u rfl) (.u rfl) tk6 .here (ba_len _ _) (ba_one _ _) (by omega) (by unfold maxLen; omega) ?_; intro v156 ov156
   refine aS rfl rfl (.nil (.blk (.code (rq3 rfl rfl (mV rfl rfl (ar rfl .no (.u rfl) (.u rfl) rfl (fun _=>wrap_u64 (by omega) (by omega)) ?_))))))
   refine aS rfl rfl (.nil (We.lpo (k+1,L140,h140,v149,acc++[(⟨M110,L137,f⟩,h137)],v156,D++[f],L,s9) ?_ ?_ ?_ ?_ ?_))
   ·exact (esD rfl (esD rfl (esC rfl (congrArg (Value.int .u64) (by dsimp only; omega)) (esD rfl (esD rfl (esD rfl (esD rfl eZ)))))))
   ·exact (mS tk3 rfl (mS .here rfl (mS tk4 rfl (mS tk1 rfl (mS tk3 rfl mN)))))
   ·first|omega|(dsimp only; omega)
   ·exact (((hGl0).trans hG110).trans hG113).trans hGl1
   refine ⟨?_,?_,?_,?_,?_,?_,?_⟩
   ·(try dsimp only)<;>(first|omega|rfl|assumption|(simp; done))
   ·(try dsimp only)<;>(rw [List.map_append,eL137,eL140]; exact hrw)
   ·(try dsimp only)<;>(rw [eD,List.map_append]; rfl)
   ·(try dsimp only)<;>(have:=lX.2 rfl; refine ⟨by rw [List.length_append]; simp; omega,by rw [List.length_append]; simp only [List.length_cons,List.length_nil]; omega,by omega⟩)
   ·(try dsimp only)<;>(exact hall.snoc hs137 (by show L137.length≤_; omega))
   ·(try dsimp only)<;>(exact hs140)
   (try dsimp only)<;>(exact hsl)
  have c2k:=c2
  try simp only [qcA,qcC,qcB] at c2
  refine .skip (.code (.seq (rq3 rfl rfl (mV rfl rfl (ka rfl (.inr rfl) Fx.go95 (Evc rfl Evn) (mtk1 tk3) (rNum_ok R 0 sR b90 _ hsR (by omega)) ?_)))))
  rintro _ G113 μ113 hG113 ⟨n113,L113,e113,s113,hN113,rfl,rfl,hs113⟩
  have lL113:=rdnum_le hN113; have nL113:=rdnum_lt hN113; simp only at lL113
  have hK:=hK.mono hG113
  have hbb4:=hbb4.mono hG113
  have hs78:=hs78.mono hG113
  have hs75:=hs75.mono hG113
  have hall:=hall.mono hG113
  have hsA:=hsA.mono hG113
  refine aS rfl rfl (.nil (.code (.seq (.seq (rq1 rfl rfl (mV rfl rfl (.nil (.code (.block ?_)))))))))
  have hT3:=(bg_last hrows (by omega) (by omega)).numE hN113
  refine Wk.lop (α:=Nat×List Y×Int×Sh×(Nat→Y)×List Y) (fun gh=>[(114,true,.int .i64 (gh.1:Int))]) (fun gh=>[.blk b90 (cl [Sh.val gh.2.2.2.1 gh.2.1.length,.int .i64 gh.2.2.1] 175),.blk b18 (cl (rwC [] (.slice none 0 0) gh.2.2.2.2.1) 103)])
   (fun gh Gl=>(gh.1≤32)∧(gh.2.2.2.2.2.length=gh.1)∧(ByR ⟨L113,e113⟩ ⟨gh.2.1,gh.2.2.1⟩ false gh.2.2.2.2.2)∧(∀ i,gh.2.2.2.2.1 i=gh.2.2.2.2.2.getD i 0)∧(gh.2.1.length≤L113.length∧(gh.2.2.1=0→gh.2.1.length+gh.1≤L113.length))∧(SlR Gl 1 encY gh.2.2.2.1 gh.2.1)) (fun gh=>32-gh.1) (0,L113,e113,s113,(fun _=>0#8),[]) [(4,true,_),(9,true,_),(13,true,_),(14,true,_),(15,true,_),(16,true,_),(17,true,_),(18,true,_),(19,true,_)] [_,_,_,_]
   (esC rfl (by first|rfl|exact evi (by omega)) (esD rfl (esD rfl (esD rfl (esD rfl (esD rfl (esD rfl (esD rfl (esD rfl (esD rfl eZ))))))))))
   (mS .here rfl (mS .here (by first|rfl | (rw [bnil]; rfl)) (mS .here rfl (mS .here rfl (mS .here rfl (mS .here rfl mN)))))) ?_ ?_
  ·refine ⟨?_,?_,?_,?_,?_,?_⟩
   ·(try dsimp only)<;>(first|omega|rfl|assumption|(simp; done))
   ·(try dsimp only)<;>(first|omega|rfl|assumption|(simp; done))
   ·(try dsimp only)<;>(exact ByR.zero)
   ·(try dsimp only)<;>(exact fun i=>by simp)
   ·(try dsimp only)<;>(exact ⟨Nat.le_refl _,fun _=>Nat.le_refl _⟩)
   (try dsimp only)<;>(exact hs113)
  intro gh N2 Gl2 hN2 hGl2 hF2
  obtain ⟨q,L,ee,s9,f,rt⟩:=gh; dsimp only at hF2 hN2 ⊢
  obtain ⟨hq,hrt,hB9,ef,lX,hsl⟩:=hF2
  have hK:=hK.mono hGl2
  have hbb4:=hbb4.mono hGl2
  have hs78:=hs78.mono hGl2
  have hs75:=hs75.mono hGl2
  have hall:=hall.mono hGl2
  have hsA:=hsA.mono hGl2
  refine .seq (rq1 rfl rfl (cp rfl .no (.u rfl) (.u rfl) rfl (.nil (.code (.seq (.cond rfl (fun c4=>?_) (fun c4=>?_)))))))
  ·have c4k:=c4
   try simp only [qcA,qcC,qcB] at c4
   refine .skip (.code (.seq (.block (.seq (rq2 rfl rfl (mV rfl rfl (aS rfl rfl (.nil (.code (rq7 rfl rfl (mV rfl rfl (mV rfl rfl (ka rfl (.inr rfl) Fx.go93 (Evc rfl (Evc rfl Evn)) (mtk1 .here) (rFix_ok L ee s9 b90 _ hsl (by omega)) ?_)))))))))))))
   rintro _ G119 μ119 hG119 ⟨y119,L119,e119,s119,hN119,rfl,rfl,hs119⟩
   have lL119:=rdbyte_le hN119; simp only at lL119
   have hK:=hK.mono hG119
   have hbb4:=hbb4.mono hG119
   have hs78:=hs78.mono hG119
   have hs75:=hs75.mono hG119
   have hall:=hall.mono hG119
   have hsA:=hsA.mono hG119
   have hsl:=hsl.mono hG119
   refine cu (k:=.u64) rfl .no rfl Fx.cv24_5 (.u rfl) ?_
   refine fz rfl .no Fx.fo103_2 (.u rfl) (iA rfl .no Fx.ar23 (.u rfl) (.u rfl) (fun _=>by omega) (fun _=>by omega) ?_)
   refine s1 rfl (.u rfl) (.u rfl) rfl Fx.sz5 tk1 (by rw [rwC_len]; omega) (rwC_set (k:=q) (by omega)) ?_
   refine .nil (.blk (.code (rq2 rfl rfl (arn (((q+1):Nat):Int) rfl .no (.u rfl) (.u rfl) rfl (fun _=>by omega) (fun _=>wrap_i64 (by omega) (by omega)) ?_))))
   refine mV rfl rfl (.nil (We.lpo (q+1,L119,e119,s119,upd f q ((y119.setWidth 64).setWidth 8),rt++[y119]) ?_ ?_ ?_ ?_ ?_))
   ·exact (esC rfl (by first|rfl|exact evi (by omega)) (esD rfl (esD rfl (esD rfl (esD rfl (esD rfl (esD rfl (esD rfl (esD rfl (esD rfl eZ))))))))))
   ·exact (mS tk1 rfl (mS .here rfl (mS .here rfl (mS .here rfl (mS .here rfl (mS .here rfl mN))))))
   ·first|omega|(dsimp only; omega)
   ·exact (hGl2).trans hG119
   refine ⟨?_,?_,?_,?_,?_,?_⟩
   ·(try dsimp only)<;>(first|omega|rfl|assumption|(simp; done))
   ·(try dsimp only)<;>(simp [hrt])
   ·(try dsimp only)<;>(exact hB9.step (by omega) hN119)
   ·(try dsimp only)<;>(exact rt_step hrt ef)
   ·(try dsimp only)<;>(have hbd:=byte_dec hN119; exact ⟨by omega,fun z=>by have:=hbd.2 z; have:=lX.2 this.1; omega⟩)
   (try dsimp only)<;>(exact hs119)
  have c4k:=c4
  try simp only [qcA,qcC,qcB] at c4
  refine .exit (.xcode (.xlp (.xblk (.code (.seq ?_)))))
  obtain ⟨hee,hsz,hrw⟩:=bg_got ef (hB9.all (by omega) hT3)
  simp only at hee hrw
  subst hee
  refine Wk.rg [0,1,2,3,4,5,6,7,8,9,10] rfl rfl (mV rfl rfl (kp rfl .no Fx.go96 (Evc rfl Evn) (Gp.add .here Gp.nil) (fun _ hle hq=>rFault_ok L 0 s9 b90 _ RdNP.add) ?_))
  refine cp rfl .no (.u rfl) (.u rfl) rfl (mV rfl rfl (mv rfl (.t rfl rfl) (.u rfl) (mv rfl (.t rfl rfl) (.u rfl) (ln rfl (.t rfl rfl) Fx.sn34 (.s rfl) (cw rfl (.t rfl rfl) Fx.cv3_24 (.s rfl) (fun hc=>wrap_u64 (by (try simp only [Bool.and_eq_true,decide_eq_true_eq,Bool.not_eq_true',Bool.or_eq_false_iff,decide_eq_false_iff_not] at hc); omega) (by (try simp only [Bool.and_eq_true,decide_eq_true_eq,Bool.not_eq_true',Bool.or_eq_false_iff,decide_eq_false_iff_not] at hc); omega)) ?_)))))
  refine cp rfl (.t rfl rfl) (.s rfl) (.s rfl) rfl (pkA rfl .no (.u rfl) (.s rfl) (kv rfl .no Fx.go67 (Evc rfl Evn) (fun _=>need_ok _ (by simp; omega) _) ?_))
  refine .nil (.code (.seq (Wk.draw (mc:=⟨false,false⟩) [0,1,2,3,4,5,6,7,8] Fx.mix (by kernel_rfl) ?_)))
  refine mV rfl rfl (mV rfl rfl (kE (n113) rfl .no Fx.se34 hsA (.u rfl) (.u rfl) (fun _=>by omega) (fun _=>by omega) ?_))
  intro h137 L137 eL137 lL137 hs137
  have lL137:=lL137 rfl
  refine mV rfl rfl (mV rfl rfl (kD (n113) rfl .no Fx.se34 hsA (.u rfl) (.u rfl) (fun _=>by omega) (fun _=>by omega) ?_))
  intro h140 L140 eL140 lL140 hs140
  have lL140:=lL140 rfl
  refine fz rfl .no Fx.fo103_1 (.u rfl) (s1 rfl (.u rfl) (.u rfl) rfl Fx.sz34 tk1 (by rw [rwC_len]; decide) (rfl) ?_)
  refine aS rfl rfl (.nil (.code (.seq (Wk.mixp ⟨false,false⟩ Fx.mix (by kernel_rfl) ?_))))
  refine Wp.one 0 (by kernel_rfl) ?_
  refine mV rfl rfl (.nil (Wp.one 1 (by kernel_rfl) ?_))
  refine mV rfl rfl (.nil (Wp.one 2 (by kernel_rfl) ?_))
  refine nc rfl .no (.u rfl) (.nil (Wp.one 3 (by kernel_rfl) ?_))
  refine fz rfl .no Fx.fo98_2 (.u rfl) (.nil (Wp.one 4 (by kernel_rfl) ?_))
  refine ld rfl .no Fx.ag96 (.u rfl) (fun _=>Rd.own tk4 wrc_out) ?_
  refine .nil (Wp.one 5 (by kernel_rfl) ?_)
  refine lA rfl .no Fx.ag103 (.u rfl) (fun _=>RdN.own .here) (fun _=>rwC_len) ?_
  refine .nil (Wp.b1 6 (by kernel_rfl) ?_)
  refine Go.Tan.b1 rfl Fx.se96 Fx.zv103 (.u rfl) rfl rfl (by decide) ?_; intro b148
  refine .nil (Wp.b1 7 (by kernel_rfl) ?_)
  refine apS (xs:=acc) ((⟨_,L137,f⟩,h137)) rfl Fx.se96 Fx.zv103 rfl (.u rfl) (.u rfl) tk3 .here (rowC_len) (one_app (one2 rfl rfl) (ba_one _ _)) (by omega) (by unfold maxLen; omega) ?_; intro v149 ov149
  refine .nil (Wp.one 8 (by kernel_rfl) ?_)
  refine nc rfl .no (.u rfl) (.nil (Wp.one 9 (by kernel_rfl) ?_))
  refine fz rfl .no Fx.fo98_2 (.u rfl) (.nil (Wp.b1 10 (by kernel_rfl) ?_))
  refine s1v rfl (.u rfl) (.u rfl) .here Fx.sz96 tk5 (by rw [wrc_len]; decide) (wrs_out) ?_
  refine .nil (Wp.last (by kernel_rfl) ?_)
  refine .code (rq6 rfl rfl (mV rfl rfl (fz rfl .no Fx.fo103_2 (.u rfl) (lA rfl .no Fx.ag23 (.u rfl) (fun _=>RdN.part (n:=32) (cs':=ba 32 f) tk3 (rwC_leaf)) (fun _=>(by first|exact rowC_len|exact rwC_len|exact (key_len _ _).trans (key_len _ _).symm|exact key_len _ _|exact ba_len _ _|exact Meta.len _|rfl)) ?_))))
  refine Go.Tan.b1 rfl Fx.se68 Fx.zw23 (.u rfl) rfl rfl (by decide) ?_; intro b155
  refine apS (xs:=D) (f) rfl Fx.se68 Fx.zw23 rfl (.u rfl) (.u rfl) tk6 .here (ba_len _ _) (ba_one _ _) (by omega) (by unfold maxLen; omega) ?_; intro v156 ov156
  refine aS rfl rfl (.nil (.blk (.code (rq3 rfl rfl (mV rfl rfl (ar rfl .no (.u rfl) (.u rfl) rfl (fun _=>wrap_u64 (by omega) (by omega)) ?_))))))
  refine aS rfl rfl (.nil (We.lpo (k+1,L140,h140,v149,acc++[(⟨[],L137,f⟩,h137)],v156,D++[f],L,s9) ?_ ?_ ?_ ?_ ?_))
  ·exact (esD rfl (esD rfl (esC rfl (congrArg (Value.int .u64) (by dsimp only; omega)) (esD rfl (esD rfl (esD rfl (esD rfl eZ)))))))
  ·exact (mS tk3 rfl (mS .here rfl (mS tk4 rfl (mS tk1 rfl (mS tk3 rfl mN)))))
  ·first|omega|(dsimp only; omega)
  ·exact ((hGl0).trans hG113).trans hGl2
  refine ⟨?_,?_,?_,?_,?_,?_,?_⟩
  ·(try dsimp only)<;>(first|omega|rfl|assumption|(simp; done))
  ·(try dsimp only)<;>(rw [List.map_append,eL137,eL140]; exact hrw)
  ·(try dsimp only)<;>(rw [eD,List.map_append]; rfl)
  ·(try dsimp only)<;>(have:=lX.2 rfl; refine ⟨by rw [List.length_append]; simp; omega,by rw [List.length_append]; simp only [List.length_cons,List.length_nil]; omega,by omega⟩)
  ·(try dsimp only)<;>(exact hall.snoc hs137 (by show L137.length≤_; omega))
  ·(try dsimp only)<;>(exact hs140)
  (try dsimp only)<;>(exact hsl)
 have c1k:=c1
 try simp only [qcA,qcC,qcB] at c1
 refine .exit (.xcode (.xlp (.xblk (.code (.seq ?_)))))
 have hz:=hrows
 rw [show n92+1-k=0 by omega] at hz
 obtain ⟨eR0,eA0,hacc⟩:=rows_end hz
 refine Wk.mixp ⟨true,false⟩ Fx.mix (by kernel_rfl) ?_
 refine Wp.one 0 (by kernel_rfl) ?_
 refine mV rfl rfl (.nil (Wp.b1 1 (by kernel_rfl) ?_))
 refine kp rfl .no Fx.go98 (Evc rfl Evn) (Gp.add tk2 Gp.nil) (fun _ hle hq=>rEnd_ok R 0 sR b90 _ RdNP.add) ?_
 refine .nil (Wp.one 2 (by kernel_rfl) ?_)
 refine cp rfl .no (.u rfl) (.u rfl) rfl (.nil (Wp.one 3 (by kernel_rfl) ?_))
 refine mV rfl rfl (wo_b true (by rw [eR0]; rfl) ?_)
 refine .nil (Wp.one 4 (by kernel_rfl) ?_)
 refine mv rfl (.t rfl rfl) (.u rfl) (.nil (Wp.one 5 (by kernel_rfl) ?_))
 refine ln rfl (.t rfl rfl) Fx.sn34 (.u rfl) (.nil (Wp.one 6 (by kernel_rfl) ?_))
 refine cp rfl (.t rfl rfl) (.u rfl) (.u rfl) rfl (.nil (Wp.one 7 (by kernel_rfl) ?_))
 refine pkA rfl .no (.u rfl) (.u rfl) (.nil (Wp.one 8 (by kernel_rfl) ?_))
 refine mV rfl rfl (wo_b true (by rw [eA0]; rfl) ?_)
 refine .nil (Wp.one 9 (by kernel_rfl) ?_)
 refine mv rfl (.t rfl rfl) (.u rfl) (.nil (Wp.one 10 (by kernel_rfl) ?_))
 refine mv rfl (.t rfl rfl) (.u rfl) (.nil (Wp.one 11 (by kernel_rfl) ?_))
 refine nc rfl (.t rfl rfl) (.u rfl) (.nil (Wp.one 12 (by kernel_rfl) ?_))
 refine fz rfl (.t rfl rfl) Fx.fo98_3 (.u rfl) (.nil (Wp.one 13 (by kernel_rfl) ?_))
 refine ld rfl (.t rfl rfl) Fx.ag34 (.u rfl) (fun _=>Rd.own tk3 wrc_lvs) ?_
 refine .nil (Wp.one 18 (by kernel_rfl) ?_)
 refine fa rfl (.t rfl rfl) Fx.fo36_8 (.u rfl) (.nil (Wp.pr 19 (by kernel_rfl) ?_))
 refine lA rfl (.t rfl rfl) Fx.ag23 (.u rfl) (fun _=>(hbb4.rdn (m:=32) (cs':=ba 32 (fun i=>BitVec.ofInt 8 (m.root i))) (root_cells hw)).rd) (fun _=>(ba_len _ _)) (.nil ⟨⟨rfl,rfl⟩,?_⟩)
 refine Wp.b1 14 (by kernel_rfl) ?_
 refine kv rfl (.t rfl rfl) FxTbH.go74 (Evc rfl Evn) (fun _=>leaf_ok L78 h78 _ hs78 hK (by omega)) ?_
 refine .nil (Wp.b1 15 (by kernel_rfl) ?_)
 refine Go.Tan.b1g rfl (.t rfl rfl) Fx.se68 Fx.zw23 (.u rfl) rfl rfl (by decide) ?_; intro b172
 refine .nil (Wp.b1 16 (by kernel_rfl) ?_)
 refine apSg (xs:=D) ((leafD L78)) rfl (.t rfl rfl) Fx.se68 Fx.zw23 rfl (.u rfl) (.u rfl) tk2 .here (ba_len _ _) (ba_one _ _) (by omega) (by unfold maxLen; omega) ?_; intro v173 ov173
 refine .nil (Wp.b1 17 (by kernel_rfl) ?_)
 refine kag rfl (.t rfl rfl) (.inl rfl) FxTbI.go36 (Evc rfl Evn) (mtk1 .here) (take_row (D++[leafD L78]) v173 _ hK (by rw [List.length_append,eD,List.length_map]; simp only [List.length_cons,List.length_nil]; omega)) ?_
 rintro _ G174 μ174 hG174 ⟨_,rfl,rfl,rfl⟩
 have hs78:=hs78.mono hG174
 have hs75:=hs75.mono hG174
 have hall:=hall.mono hG174
 refine .nil (Wp.one 20 (by kernel_rfl) ?_)
 refine eqB rfl (.t rfl rfl) Fx.baT23 (.u rfl) (.u rfl) ?_
 refine .nil (Wp.one 21 (by kernel_rfl) ?_)
 refine pkA rfl .no (.u rfl) (.u rfl) (.nil (Wp.b1 22 (by kernel_rfl) ?_))
 refine kv rfl .no Fx.go67 (Evc rfl Evn) (fun _=>need_ok _ (by rw [Bool.true_and]; exact decide_eq_true (root_wf hw (by rw [eD,hix]; have:=B.root; rw [← hacc,List.map_map] at this; exact this))) _) ?_
 refine .nil (Wp.last (by kernel_rfl) ?_)
 refine .code (.seq ?_)
 refine wk_fs tk2 (fun _ _=>rfl) (by intro b hb; cases hb) ?_; intro GfRR hRR hleRR evRR hsRR; subst evRR
 have hs78:=hs78.mono hleRR
 have hs75:=hs75.mono hleRR
 have hall:=hall.mono hleRR
 refine rq2 rfl rfl (mV rfl rfl (aS rfl rfl (.nil (.code (.ret (We.fin Tryz.results54 (.tmp rfl .nil) (mS tk3 rfl mN) ?_))))))
 exact ⟨b80,acc,h75,hRR,h78,hacc,by rw [← hix],rfl,⟨hs75,hsRR,hall.each,by rw [← hix]; exact hs78,hall.sm,by omega⟩⟩
namespace Fx
theorem go53:goFn Tryz.prog 53=true:=by kernel_rfl
theorem if20:ifT Tryz.prog 20=true:=by kernel_rfl
theorem sn96:(slE Tryz.prog 96).isSome=true:=by kernel_rfl
theorem go58:goFn Tryz.prog 58=true:=by kernel_rfl
theorem go61:goFn Tryz.prog 61=true:=by kernel_rfl
theorem zr37:zrL Tryz.prog 37=some ([.int .i64 0]):=by kernel_rfl
theorem go54:goFn Tryz.prog 54=true:=by kernel_rfl
theorem go55:goFn Tryz.prog 55=true:=by kernel_rfl
theorem go57:goFn Tryz.prog 57=true:=by kernel_rfl
theorem go59:goFn Tryz.prog 59=true:=by kernel_rfl
end Fx
theorem caught_ret (w:World) (a:Addr):CallsD Tryz.prog 53 #[.pointer (some a)] .returning w (fun e u' w'=>(∃ v,e=.returned v)∧u'=.returning∧w'=w):=by
 refine callsD_of_wpS Tryz.func53 rfl fun c₀ cs hu=>(wpS_seq (wpS_region ?_))
 have hr:recoverD (c₀ :: cs)=none:=by simp [recoverD,hu]
 rw [show Tryz.f53.ntmps=11 from rfl]
 simp only [wpOpsS,List.range,List.range.loop,Array.size,List.length,List.getElem?_toArray,List.getElem?_cons_zero,List.getElem?_cons_succ,Region.wanted,if_true]
 have e1:∀ (ρ:Operand→Value) (d:Option Nat) (t:TypeId) (p:String) (af:Array Edge),(execOp ρ ⟨d,.call { callee:=.builtin .recover,args:=#[],argTypes:=#[] },t,p,af,none⟩).run Tryz.prog w=.ok .recover w:=fun ρ d t p af=>by
  simp [execOp,resolve,invoke,builtin]
 simp only [e1,hr]
 simp [execOp,Oper.upon,Exit.thenS,Act.put,Act.eval]
 refine wpS_of_wp ?_
 refine wp_seq (wp_region ?_)
 simp [wpOps,Region.wanted,execOp,Oper.wp,Oper.upon,Exit.then,Act.put,Act.eval,List.range,List.range.loop]
 refine .inl (wp_block (wp_seq (wp_region ?_)))
 have e2:(binOp .eql 20 .nilIface .nilIface).run Tryz.prog w=.ok (.bool true) w:=by
  have hu20:=ifT_some Fx.if20
  obtain ⟨q,hq⟩:=hu20
  have e4:∀ d,(Op.equalIn (d+1) 20 .nilIface .nilIface).run Tryz.prog w=.ok true w:=fun d=>by
   unfold Op.equalIn
   simp only [Sem.run_bind,run_underlying hq,Result.andThen_ok,Sem.run_pure]
  obtain ⟨d,hd⟩ : ∃ d,Op.maxDepth=d+1:=Nat.exists_eq_succ_of_ne_zero (by decide)
  simp [binOp,Op.equal,hd,e4]
 have e3:(eqGuard .eql 20 (.tmp 4) (.const .nilIface) .nilIface .nilIface).run Tryz.prog w=.ok () w:=by unfold eqGuard; simp
 simp [wpOps,Region.wanted,execOp,Oper.wp,Oper.upon,Exit.then,Act.put,Act.eval,List.range,List.range.loop,e2,e3]
 refine .inl (.inl (wp_cond_true (by simp [Act.eval]) (wp_skip ?_)))
 refine ⟨rfl,.returning,by rw [← hu],.tuple #[],?_,⟨_,rfl⟩,rfl,rfl⟩
 simp [results,Tryz.f53]
theorem idxR_ok (h:Sh) (l:List (RowT×Sh)) (G:PM) (hs:SlR G 34 rowC h l) (hl:l.length≤100000000) (f:Nat) (hf:goFn Tryz.prog f=true) (vc:List Value) (p:(RowT×Sh)→Bool) (hc:∀ G',PM.le G G'→∀ m∈l,Ct Tryz.prog f ([Value.agg (rowC m).toArray]++vc).toArray G' [] fun _ μ' u=>μ'=[]∧u=.bool (p m)):Ct Tryz.prog 57 ([h.val l.length,.func (.func f) #[] vc.toArray]:List Value).toArray G [] (fun _ μ' u=>μ'=[]∧u=.int .i64 (idxZ p l)):=by
 refine Ct.of Tryz.func57 rfl Tryz.ntmps57 rfl fun w0 hs0=>?_
 refine .seq (rq1 rfl rfl (aS rfl rfl (.nil (.code (.seq (.seq (rq3 rfl rfl (mV rfl rfl (ln rfl .no Fx.sn96 (.u rfl) (mV rfl rfl (.nil (.code (.block ?_)))))))))))))
 refine Wk.lop (α:=Nat) (fun k=>[(8,true,.int .i64 (k:Int))]) (fun _=>[])
  (fun k Gl=>(k≤l.length)∧(∀ j y,j<k→l[j]? = some y→p y=false)) (fun k=>l.length-k) 0 [(0,true,_),(1,true,_),(7,true,_)] []
  (esC rfl (by first|rfl|exact evi (by omega)) (esD rfl (esD rfl (esD rfl eZ))))
  mN ?_ ?_
 ·refine ⟨?_,?_⟩
  ·(try dsimp only)<;>(first|omega|rfl|assumption|(simp; done))
  (try dsimp only)<;>(exact fun j y h=>absurd h (Nat.not_lt_zero _))
 intro k N0 Gl0 hN0 hGl0 hF0
 try dsimp only at hF0 hN0 ⊢
 obtain ⟨hk,hno⟩:=hF0
 have hs:=hs.mono hGl0
 refine .seq (rq1 rfl rfl (cp rfl .no (.u rfl) (.u rfl) rfl (.nil (.code (.seq (.cond rfl (fun c1=>?_) (fun c1=>?_)))))))
 ·have c1k:=c1
  try simp only [qcA,qcB] at c1
  refine .skip (.code (.seq (.block (.seq (rq2 rfl rfl (mV rfl rfl (aS rfl rfl (.nil (.code (.seq (rq6 rfl rfl (mV rfl rfl (mV rfl rfl (mV rfl rfl (ih rfl .no Fx.se96 (.u rfl) (.u rfl) (fun _=>by omega) (fun _=>by omega) (fun _=>hs.nn (k:=k) (by first|omega|(simp only [Bool.and_eq_true,decide_eq_true_eq] at hc; omega)|(simp only [List.length_cons,List.length_nil]; omega))) ?_)))))))))))))))
  obtain ⟨x,ex⟩:=getx (k:=k) (xs:=l) (by omega)
  refine lA rfl .no Fx.ag103 (.u rfl) (fun _=>(hs.at (by omega) ex).rd) (fun _=>rowC_len) ?_
  refine kf rfl .no (.u rfl) hf (Evc rfl Evn) (fun _=>hc _ hGl0 x (List.mem_of_getElem? ex)) ?_
  refine .nil (.code (.cond rfl (fun c2=>?_) (fun c2=>?_)))
  ·have c2k:=c2
   try simp only [qcA,qcB] at c2
   refine .seq (rq2 rfl rfl (mV rfl rfl (aS rfl rfl (.nil (.code (.ret (We.fin0 Tryz.results57 (.tmp rfl .nil) ?_)))))))
   exact ⟨rfl,idz_hit hno ex (by simpa using c2k)⟩
  have c2k:=c2
  try simp only [qcA,qcB] at c2
  refine .skip (.blk (.code (rq2 rfl rfl (arn (((k+1):Nat):Int) rfl .no (.u rfl) (.u rfl) rfl (fun _=>by omega) (fun _=>wrap_i64 (by omega) (by omega)) ?_))))
  refine mV rfl rfl (.nil (We.lpo (k+1) ?_ ?_ ?_ ?_ ?_))
  ·exact (esC rfl (by first|rfl|exact evi (by omega)) (esD rfl (esD rfl (esD rfl eZ))))
  ·exact mN
  ·first|omega|(dsimp only; omega)
  ·exact hGl0
  refine ⟨?_,?_⟩
  ·(try dsimp only)<;>(first|omega|rfl|assumption|(simp; done))
  (try dsimp only)<;>(exact idz_step hno ex (by simpa using c2k))
 have c1k:=c1
 try simp only [qcA,qcB] at c1
 refine .exit (.xcode (.xlp (.xblk (.code (.seq (rq1 rfl rfl (aS rfl rfl (.nil (.code (.ret (We.fin0 Tryz.results57 (.tmp rfl .nil) ?_)))))))))))
 exact ⟨rfl,idz_none hno (by omega)⟩
theorem get1_ok (p:RowT×Sh) (user:ByteArray) (b:Nat) (G:PM) (hb:PB G b (cl [.string user] 9)):Ct Tryz.prog 58 ([.agg (rowC p).toArray,.pointer (some ⟨b,0,none⟩)]:List Value).toArray G [] (fun _ μ' u=>μ'=[]∧u=.bool (notLt user p)):=by
 refine Ct.of Tryz.func58 rfl Tryz.ntmps58 rfl fun w0 hs0=>?_
 refine .seq (rq2 rfl rfl ?_)
 refine bx rfl (.u rfl) rfl ?_; intro b2
 refine aS rfl rfl (.nil (.code (.seq (rq5 rfl rfl (fz rfl .no Fx.fo103_0 (.u rfl) (ld rfl .no Fx.ag9 (.u rfl) (fun _=>Rd.own .here (by first|exact wap_f rfl|rfl)) ?_))))))
 refine ld rfl .no Fx.ag9 (.u rfl) (fun _=>(hb.rd (by rfl)).rd) ?_
 refine cs rfl .no (.u rfl) (.u rfl) rfl (aS rfl rfl (.nil (.code (.ret (We.fin0 Tryz.results58 (.tmp rfl .nil) ?_)))))
 exact ⟨rfl,rfl⟩
theorem get2_ok (e:Ent) (user:ByteArray) (seq:BitVec 64) (b c:Nat) (G:PM) (hb:PB G b (cl [.string user] 9)) (hq9:PB G c (cl [uv .u64 seq] 24)):Ct Tryz.prog 61 ([e.val,.pointer (some ⟨b,0,none⟩),.pointer (some ⟨c,0,none⟩)]:List Value).toArray G [] (fun _ μ' u=>μ'=[]∧u=.bool (hitE user seq e)):=by
 refine Ct.of Tryz.func61 rfl Tryz.ntmps61 rfl fun w0 hs0=>?_
 refine .seq (rq2 rfl rfl ?_)
 refine bx rfl (.u rfl) rfl ?_; intro b3
 refine aS rfl rfl (.nil (.code (.seq (Wk.rg [0,1,2,3,4,5,6,7,8,9,10,11,12,13,14,15,16] rfl rfl (fz rfl .no Fx.fo47_0 (.u rfl) (ld rfl .no Fx.ag9 (.u rfl) (fun _=>Rd.own .here (by first|exact wap_f rfl|rfl)) ?_))))))
 refine ld rfl .no Fx.ag9 (.u rfl) (fun _=>(hb.rd (by rfl)).rd) ?_
 refine cs rfl .no (.u rfl) (.u rfl) rfl (mV rfl rfl (fz rfl (.f rfl rfl) Fx.fo47_0 (.u rfl) (ld rfl (.f rfl rfl) Fx.ag9 (.s rfl) (fun hc=>Rd.own .here (by first|exact wap_f rfl|rfl)) ?_)))
 refine ld rfl (.f rfl rfl) Fx.ag9 (.u rfl) (fun hc=>(hb.rd (by rfl)).rd) ?_
 refine cs rfl (.f rfl rfl) (.s rfl) (.s rfl) rfl (mv rfl (.f rfl rfl) (.s rfl) (fz rfl (.tc rfl rfl) Fx.fo47_1 (.u rfl) (ld rfl (.tc rfl rfl) Fx.ag24 (.s rfl) (fun hc=>Rd.own .here (by first|exact wap_f rfl|rfl)) ?_)))
 refine ld rfl (.tc rfl rfl) Fx.ag24 (.u rfl) (fun hc=>(hq9.rd (by rfl)).rd) ?_
 refine cp rfl (.tc rfl rfl) (.s rfl) (.s rfl) rfl (pkA rfl (.f rfl rfl) (.s rfl) (.s rfl) (pkO rfl .no (.u rfl) (.s rfl) (aS rfl rfl (.nil (.code (.ret (We.fin0 Tryz.results61 (.tmp rfl .nil) ?_)))))))
 exact ⟨rfl,congrArg Value.bool hit_val⟩
set_option maxHeartbeats 4000000 in
theorem tGet_ok (root:Nat→Y) (m:Meta) (xs:List Y) (hx:Sh) (user:ByteArray) (seq:BitVec 64) (R:Option Ent) (G:PM) (hw:m.wf) (hs:SlR G 1 encY hx xs) (hK:RdNP G 1 0 (wa 64 kW)) (hl:xs.length≤1000000) (hu:user.size≤1000000000000000) (hT:getT root m xs user seq=some R):Ct Tryz.prog 12 ([.agg (ba 32 root).toArray,m.val,hx.val xs.length,.string user,uv .u64 seq]:List Value).toArray G [] (fun _ μ' u=>μ'=[]∧u=.tuple #[(R.getD Ent.zero).val,.bool R.isSome,.int .i64 0]):=by
 refine Ct.of Tryz.func12 rfl Tryz.ntmps12 rfl fun w0 hs0=>?_
 obtain ⟨rows,ix,f,hB,hwf,hno,hyes⟩:=get_inv hT
 have h2r:=beg_len hB
 refine .seq (rq7 rfl rfl ?_)
 refine bx rfl (.u rfl) rfl ?_; intro b5
 refine bx rfl (.u rfl) rfl ?_; intro b6
 refine bx rfl (.u rfl) rfl ?_; intro b8
 refine bx rfl (.u rfl) rfl ?_; intro b9
 refine al rfl Fx.zq47 ?_; intro b10
 refine aS rfl rfl ?_
 refine al rfl Fx.zr37 ?_; intro b12
 refine .nil (.code (.seq (wk_dfr rfl rfl rfl ?_)))
 refine .code (.seq ?_)
 refine wk_fz tk3 (by intro b hb; cases hb) ?_; intro Gfb8 hleb8 hbb8
 have hs:=hs.mono hleb8
 have hK:=hK.mono hleb8
 refine wk_fz tk2 (by intro b hb; cases hb) ?_; intro Gfb9 hleb9 hbb9
 have hs:=hs.mono hleb9
 have hK:=hK.mono hleb9
 have hbb8:=hbb8.mono hleb9
 refine rq5 rfl rfl (lA rfl .no Fx.ag23 (.u rfl) (fun _=>RdN.own tk3) (fun _=>ba_len _ _) ?_)
 refine lA rfl .no FxTbI.ag36 (.u rfl) (fun _=>RdN.own tk2) (fun _=>Meta.len _) ?_
 refine mV rfl rfl (kc rfl Fx.go54 (Evc rfl (Evc rfl (Evc rfl Evn))) (tBegin_ok root m xs hx rows ix _ hw hs hK hl hB) ?_)
 rintro _ G22 μ22 hG22 ⟨b22,ps,ha22,hr22,hi22,eps,rfl,rfl,hR22⟩
 subst eps
 have hpl:=hR22.len
 rw [List.length_map] at h2r
 have hK:=hK.mono hG22
 have hbb8:=hbb8.mono hG22
 have hbb9:=hbb9.mono hG22
 refine aS rfl rfl (.nil (.code (.seq (rq7 rfl rfl (mV rfl rfl (nc rfl .no (.u rfl) (fz rfl .no Fx.fo98_2 (.u rfl) (ld rfl .no Fx.ag96 (.u rfl) (fun _=>Rd.own .here wrc_out) ?_))))))))
 refine ln rfl .no Fx.sn96 (.u rfl) (arn (((ps.length-1):Nat):Int) rfl .no (.u rfl) (.u rfl) rfl (fun _=>by omega) (fun _=>wrap_i64 (by omega) (by omega)) ?_)
 refine aS rfl rfl (.nil (.code (.seq (.seq ?_))))
 obtain ⟨pf,epf⟩:=getx (k:=ps.length-1) (xs:=ps) (by omega)
 rw [List.length_map,map_fst rfl epf] at hwf
 refine Wk.mixp ⟨true,false⟩ Fx.mix (by kernel_rfl) ?_
 refine Wp.one 0 (by kernel_rfl) ?_
 refine mV rfl rfl (.nil (Wp.one 1 (by kernel_rfl) ?_))
 refine mV rfl rfl (.nil (Wp.pr 3 (by kernel_rfl) ?_))
 refine ld rfl .no Fx.ag9 (.u rfl) (fun _=>(hbb8.rd (by rfl)).rd) ?_
 refine .nil ⟨⟨rfl,rfl⟩,?_⟩
 refine Wp.b1 2 (by kernel_rfl) ?_
 refine ka rfl (.inl rfl) Fx.go56 (Evc rfl (Evc rfl (Evc rfl Evn))) (mtk1 .here) (whole_ok root (hdM m) ps ix ha22 hr22 hi22 b22 _ hR22 hK (ps.length-1) 1 pf f epf (by decide) hwf) ?_
 rintro _ G31 μ31 hG31 ⟨h31,rfl,rfl,hs31⟩
 have hfl:=wh_len hwf; have hfs:=hR22.sm pf (List.mem_of_getElem? epf)
 have hK:=hK.mono hG31
 have hbb8:=hbb8.mono hG31
 have hbb9:=hbb9.mono hG31
 have hR22:=hR22.mono hG31
 refine .nil (Wp.b1 4 (by kernel_rfl) ?_)
 refine kv rfl .no Fx.go55 (Evc rfl (Evc rfl Evn)) (fun _=>may_ok h31 f user _ hs31 (by omega) hu) ?_
 refine .nil (Wp.one 5 (by kernel_rfl) ?_)
 refine nt rfl .no (.u rfl) (.nil (Wp.last (by kernel_rfl) ?_))
 refine .code (.cond rfl (fun c1=>?_) (fun c1=>?_))
 ·have c1k:=c1
  try simp only [qcA,qcC,qcB] at c1
  refine .seq (rq4 rfl rfl (bC rfl .no Fx.bp47_ .nil rfl ?_))
  refine sw rfl (.u rfl) (.u rfl) rfl Fx.sz47 tk2 rfl (Ent.one _) ?_
  refine aS rfl rfl (s1 rfl (.u rfl) (.u rfl) rfl Fx.sz37 tk2 (by first|decide|(simp only [wa_len,ba_len,qlA]; omega)) (rfl) ?_)
  refine .nil (.code (.ret (We.finR Fx.go53 rfl (fun w=>caught_ret w _) Tryz.results12 (.cell rfl (fun w hw=>run_loadVarN Fx.ag47 (RdN.own tk1) (Ent.len _) hw) (.tmp rfl (.cell rfl (fun w hw=>run_loadVar1 Fx.ag37 (Rd.own .here rfl w hw)) .nil))) mN ?_)))
  obtain rfl:=hno (by simpa using c1k)
  exact ⟨rfl,rfl⟩
 have c1k:=c1
 try simp only [qcA,qcC,qcB] at c1
 refine .skip (.code (.seq ?_))
 have hgr:=hyes (by simpa using c1k)
 rw [List.length_map] at hgr
 refine rq9 rfl rfl (mV rfl rfl (nc rfl .no (.u rfl) (fz rfl .no Fx.fo98_2 (.u rfl) (ld rfl .no Fx.ag96 (.u rfl) (fun _=>Rd.own .here wrc_out) ?_))))
 refine mV rfl rfl (kE ((ps.length-1)) rfl .no Fx.se96 hR22.rows (.u rfl) (.u rfl) (fun _=>by omega) (fun _=>by omega) ?_)
 intro h41 L41 eL41 lL41 hs41
 have lL41:=lL41 rfl
 refine mf (vf:=#[]) (vc:=[Value.pointer (some ⟨b8,0,none⟩)].toArray) rfl .no (fun a ha _=>by simp) (fun a ha _=>by simp [(Ev.u (c:=true) rfl:Ev _ true (.tmp 8) _).eval ha rfl]) ?_
 refine kv rfl .no Fx.go57 (Evc rfl (Evc rfl Evn)) (fun _=>idxR_ok h41 L41 _ hs41 (by omega) 58 Fx.go58 [.pointer (some ⟨b8,0,none⟩)] (notLt user) (fun G2 hle p hp=>get1_ok p user b8 G2 (hbb8.mono hle))) ?_
 refine aS rfl rfl (.nil (.code (.seq (.seq (rq2 rfl rfl (mV rfl rfl (aS rfl rfl (.nil (.code (.block ?_))))))))))
 refine Wk.lop (α:=Int) (fun k=>[(16,true,.int .i64 k)]) (fun _=>[])
  (fun k Gl=>((k = -1∧R=none)∨(0≤k∧k≤((ps.length-1:Nat):Int)∧getG root (hdM m) (ps.map (·.1)) user seq (ps.length-1-k.toNat) k.toNat=some R))) (fun k=>(((ps.length-1:Nat):Int)-k).toNat) (idxZ (notLt user) L41) [(8,true,_),(9,true,_),(10,true,_),(12,true,_),(13,true,_),(14,true,_)] [_,_,_,_,_]
  (esC rfl (by first|rfl|exact evi (by omega)) (esD rfl (esD rfl (esD rfl (esD rfl (esD rfl (esD rfl eZ)))))))
  (mS .here rfl (mS .here rfl (mS .here rfl (mS .here rfl (mS .here rfl mN))))) ?_ ?_
 ·(try dsimp only)<;>(exact gi_start (hpl:=by omega) eL41 hgr)
 intro k N0 Gl0 hN0 hGl0 hF0
 try dsimp only at hF0 hN0 ⊢
 have hI:=hF0
 have hK:=hK.mono hGl0
 have hbb8:=hbb8.mono hGl0
 have hbb9:=hbb9.mono hGl0
 have hR22:=hR22.mono hGl0
 refine .seq (.seq (rq7 rfl rfl (mV rfl rfl (cp rfl .no (.u rfl) (.u rfl) rfl (mV rfl rfl (mv rfl (.t rfl rfl) (.u rfl) (mv rfl (.t rfl rfl) (.u rfl) (cp rfl (.t rfl rfl) (.s rfl) (.s rfl) rfl (pkA rfl .no (.u rfl) (.s rfl) (.nil (.code (.cond rfl (fun c2=>?_) (fun c2=>?_)))))))))))))
 ·have c2k:=c2
  try simp only [qcA,qcC,qcB] at c2
  refine .skip (.code (.seq (.block (.seq ?_))))
  obtain ⟨j,rfl⟩ : ∃ j:Nat,k=(j:Int):=⟨k.toNat,by omega⟩
  obtain ⟨hj,hgj⟩ : j<ps.length-1∧getG root (hdM m) (ps.map (·.1)) user seq (ps.length-1-j) j=some R:=by rcases hI with ⟨h1,_⟩ | ⟨h1,h2,h3⟩; (omega); (exact ⟨by omega,by simpa using h3⟩)
  obtain ⟨l,hel,hln,hlh⟩:=gg_step hj hgj
  obtain ⟨p,ep⟩:=getx (k:=j) (xs:=ps) (by omega)
  obtain ⟨y,hwy,hry⟩:=en_inv hel
  rw [map_fst rfl ep] at hwy
  have hll:=read_len hry; have hyl:=wh_len hwy; have hps:=hR22.sm p (List.mem_of_getElem? ep)
  refine rq4 rfl rfl (mV rfl rfl (mV rfl rfl (ka rfl (.inr rfl) Fx.go59 (Evc rfl (Evc rfl Evn)) (mtk1 .here) (ents_ok root (hdM m) ps ix ha22 hr22 hi22 b22 _ hR22 hK j p l ep hel) ?_)))
  rintro _ G56 μ56 hG56 ⟨h56,rfl,rfl,hs56⟩
  have hbb8:=hbb8.mono hG56
  have hbb9:=hbb9.mono hG56
  refine aS rfl rfl (.nil (.code (.seq (rq4 rfl rfl (mV rfl rfl (mf (vf:=#[]) (vc:=[Value.pointer (some ⟨b8,0,none⟩),Value.pointer (some ⟨b9,0,none⟩)].toArray) rfl .no (fun a ha _=>by simp) (fun a ha _=>by simp [(Ev.u (c:=true) rfl:Ev _ true (.tmp 8) _).eval ha rfl,(Ev.u (c:=true) rfl:Ev _ true (.tmp 9) _).eval ha rfl]) ?_))))))
  refine kv rfl .no Fx.go60 (Evc rfl (Evc rfl Evn)) (fun _=>idxE_ok h56 l _ hs56 (by omega) 61 Fx.go61 [.pointer (some ⟨b8,0,none⟩),.pointer (some ⟨b9,0,none⟩)] (hitE user seq) (fun G2 hle e he=>get2_ok e user seq b8 b9 G2 (hbb8.mono hle) (hbb9.mono hle))) ?_
  refine aS rfl rfl (.nil (.code (.seq (.seq (rq2 rfl rfl (mV rfl rfl (cp rfl .no (.u rfl) (.u rfl) rfl (.nil (.code (.cond rfl (fun c3=>?_) (fun c3=>?_)))))))))))
  ·have c3k:=c3
   try simp only [qcA,qcC,qcB] at c3
   refine .exit (.xcode (.xblk (.code (rq3 rfl rfl (mV rfl rfl (ar rfl .no (.u rfl) (.u rfl) rfl (fun _=>wrap_i64 (by omega) (by omega)) ?_))))))
   refine aS rfl rfl (.nil (We.lpo ((j:Int)+1) ?_ ?_ ?_ ?_ ?_))
   ·exact (esC rfl (by first|rfl|exact evi (by omega)) (esD rfl (esD rfl (esD rfl (esD rfl (esD rfl (esD rfl eZ)))))))
   ·exact (mS .here rfl (mS .here rfl (mS .here rfl (mS .here rfl (mS .here rfl mN)))))
   ·first|omega|(dsimp only; omega)
   ·exact (hGl0).trans hG56
   (try dsimp only)<;>(exact .inr ⟨by omega,by omega,by have:=hln (gi_none (by omega)); rw [show ((j:Int)+1).toNat=j+1 by omega]; exact this⟩)
  have c3k:=c3
  try simp only [qcA,qcC,qcB] at c3
  refine .skip (.code (.seq (.seq ?_)))
  rcases find_idx (p:=hitE user seq) l with hq | ⟨x,hx0,hxi,hxf⟩
  ·exact absurd hq.1 (by omega)
  have hxl:=(List.getElem?_eq_some_iff.1 hxi).1
  have hRx:=hlh x hxf
  refine Wk.mixp ⟨true,false⟩ Fx.mix (by kernel_rfl) ?_
  refine Wp.one 0 (by kernel_rfl) ?_
  refine mV rfl rfl (.nil (Wp.one 1 (by kernel_rfl) ?_))
  refine mV rfl rfl (.nil (Wp.one 2 (by kernel_rfl) ?_))
  refine ih rfl .no Fx.se31 (.u rfl) (.u rfl) (fun _=>by omega) (fun _=>by omega) (fun _=>hs56.nn (k:=(idxZ (hitE user seq) l).toNat) (by omega)) ?_
  refine .nil (Wp.one 3 (by kernel_rfl) ?_)
  refine fa rfl .no Fx.fo47_0 (.u rfl) (.nil (Wp.one 4 (by kernel_rfl) ?_))
  refine ld rfl .no Fx.ag9 (.u rfl) (fun _=>(hs56.at rfl hxi 0 _ rfl).rd) ?_
  refine .nil (Wp.one 5 (by kernel_rfl) ?_)
  refine ld rfl .no Fx.ag9 (.u rfl) (fun _=>(hbb8.rd (by rfl)).rd) ?_
  refine .nil (Wp.one 6 (by kernel_rfl) ?_)
  refine cs rfl .no (.u rfl) (.u rfl) rfl (.nil (Wp.last (by kernel_rfl) ?_))
  refine .code (.cond rfl (fun c4=>?_) (fun c4=>?_))
  ·have c4k:=c4
   try simp only [qcA,qcC,qcB] at c4
   refine .exit (.xcode (.xnot rfl (.xcode (.xlp (.xblk (.code (.seq (rq4 rfl rfl (bC rfl .no Fx.bp47_ .nil rfl ?_)))))))))
   refine sw rfl (.u rfl) (.u rfl) rfl Fx.sz47 tk2 rfl (Ent.one _) ?_
   refine aS rfl rfl (s1 rfl (.u rfl) (.u rfl) rfl Fx.sz37 tk2 (by first|decide|(simp only [wa_len,ba_len,qlA]; omega)) (rfl) ?_)
   refine .nil (.code (.ret (We.finR Fx.go53 rfl (fun w=>caught_ret w _) Tryz.results12 (.cell rfl (fun w hw=>run_loadVarN Fx.ag47 (RdN.own tk1) (Ent.len _) hw) (.tmp rfl (.cell rfl (fun w hw=>run_loadVar1 Fx.ag37 (Rd.own .here rfl w hw)) .nil))) mN ?_)))
   rw [if_neg (by intro e; rw [e] at c4k; simp at c4k)] at hRx
   subst hRx
   exact ⟨rfl,rfl⟩
  have c4k:=c4
  try simp only [qcA,qcC,qcB] at c4
  refine .skip (.code (.seq (rq7 rfl rfl (mV rfl rfl (mV rfl rfl (ih rfl .no Fx.se31 (.u rfl) (.u rfl) (fun _=>by omega) (fun _=>by omega) (fun _=>hs56.nn (k:=(idxZ (hitE user seq) l).toNat) (by omega)) ?_))))))
  refine lA rfl .no Fx.ag47 (.u rfl) (fun _=>(hs56.at rfl hxi).rd) (fun _=>Ent.len _) ?_
  refine sw rfl (.u rfl) (.u rfl) rfl Fx.sz47 tk2 rfl (Ent.one _) ?_
  refine aS rfl rfl (s1 rfl (.u rfl) (.u rfl) rfl Fx.sz37 tk2 (by first|decide|(simp only [wa_len,ba_len,qlA]; omega)) (rfl) ?_)
  refine .nil (.code (.ret (We.finR Fx.go53 rfl (fun w=>caught_ret w _) Tryz.results12 (.cell rfl (fun w hw=>run_loadVarN Fx.ag47 (RdN.own tk1) (Ent.len _) hw) (.tmp rfl (.cell rfl (fun w hw=>run_loadVar1 Fx.ag37 (Rd.own .here rfl w hw)) .nil))) mN ?_)))
  rw [if_pos (toList_inj (by simpa using c4k))] at hRx
  subst hRx
  exact ⟨rfl,rfl⟩
 have c2k:=c2
 try simp only [qcA,qcC,qcB] at c2
 refine .exit (.xcode (.xlp (.xblk (.code (.seq (rq4 rfl rfl (bC rfl .no Fx.bp47_ .nil rfl ?_)))))))
 refine sw rfl (.u rfl) (.u rfl) rfl Fx.sz47 tk2 rfl (Ent.one _) ?_
 refine aS rfl rfl (s1 rfl (.u rfl) (.u rfl) rfl Fx.sz37 tk2 (by first|decide|(simp only [wa_len,ba_len,qlA]; omega)) (rfl) ?_)
 refine .nil (.code (.ret (We.finR Fx.go53 rfl (fun w=>caught_ret w _) Tryz.results12 (.cell rfl (fun w hw=>run_loadVarN Fx.ag47 (RdN.own tk1) (Ent.len _) hw) (.tmp rfl (.cell rfl (fun w hw=>run_loadVar1 Fx.ag37 (Rd.own .here rfl w hw)) .nil))) mN ?_)))
 obtain rfl:R=none:=gi_end hI (by omega)
 exact ⟨rfl,rfl⟩
namespace Fx
theorem bp47_0_1:bPl Tryz.prog 47 [0,1]=some (Ent.zero.cells,[(0,1),(1,1)]):=by kernel_rfl
theorem go81:goFn Tryz.prog 81=true:=by kernel_rfl
theorem eqt47:eqT Tryz.prog 4 47 (entKs)=true:=by kernel_rfl
theorem bp26_0:bPl Tryz.prog 26 [0]=some ([V 0#8,V 0#8,uv .u64 0#64,uv .u64 0#64,uv .u64 0#64],[(0,1)]):=by kernel_rfl
theorem bp23_:bPl Tryz.prog 23 []=some (ba 32 (fun _=>0#8),[]):=by kernel_rfl
theorem bp28_0_1_2:bPl Tryz.prog 28 [0,1,2]=some ([.int .i64 0,.int .i64 0,.int .i64 0],[(0,1),(1,1),(2,1)]):=by kernel_rfl
theorem go8:goFn Tryz.prog 8=true:=by kernel_rfl
theorem go12:goFn Tryz.prog 12=true:=by kernel_rfl
end Fx
theorem light17_ok (h:Sh) (l:List Ent) (G:PM) (hs:SlR G 4 Ent.cells h l):Ct Tryz.prog 7 ([h.val l.length]:List Value).toArray G [] (fun _ μ' u=>μ'=[]∧u=.bool (B (lightE l))):=by
 refine Ct.of Tryz.func7 rfl Tryz.ntmps7 rfl fun w0 hs0=>?_
 refine .seq (rq1 rfl rfl (aS rfl rfl (.nil (.code (.seq (rq1 rfl rfl (aS rfl rfl (.nil (.code (.seq (.seq (rq3 rfl rfl (mV rfl rfl (ln rfl .no Fx.sn31 (.u rfl) (mV rfl rfl (.nil (.code (.block ?_))))))))))))))))))
 refine Wk.lop (α:=Nat) (fun k=>[(3,true,.int .i64 ((50000-wtE (l.take k):Nat):Int)),(7,true,.int .i64 (k:Int))]) (fun _=>[])
  (fun k Gl=>(k≤l.length∧k≤300∧wtE (l.take k)≤50000)) (fun k=>l.length-k) 0 [(0,true,_),(6,true,_)] []
  (esC rfl (by first|rfl|exact evi (by omega)) (esC rfl (by first|rfl|exact evi (by omega)) (esD rfl (esD rfl eZ))))
  mN ?_ ?_
 ·(try dsimp only)<;>(exact ⟨Nat.zero_le _,Nat.zero_le _,Nat.zero_le _⟩)
 intro k N0 Gl0 hN0 hGl0 hF0
 try dsimp only at hF0 hN0 ⊢
 have hk:=hF0
 have hs:=hs.mono hGl0
 refine .seq (rq1 rfl rfl (cp rfl .no (.u rfl) (.u rfl) rfl (.nil (.code (.seq (.cond rfl (fun c1=>?_) (fun c1=>?_)))))))
 ·have c1k:=c1
  try simp only [qcA,qcC,qcB] at c1
  refine .skip (.code (.seq (.block (.seq (rq2 rfl rfl (mV rfl rfl (aS rfl rfl (.nil (.code (.seq (.seq ?_)))))))))))
  obtain ⟨x,ex⟩:=getx (k:=k) (xs:=l) (by omega)
  have hst:=lg_step ex
  refine Wk.mixp ⟨false,false⟩ Fx.mix (by kernel_rfl) ?_
  refine Wp.one 0 (by kernel_rfl) ?_
  refine mV rfl rfl (.nil (Wp.one 1 (by kernel_rfl) ?_))
  refine cp rfl .no (.u rfl) (.u rfl) rfl (.nil (Wp.one 2 (by kernel_rfl) ?_))
  refine mV rfl rfl (.nil (Wp.one 3 (by kernel_rfl) ?_))
  refine mv rfl (.f rfl rfl) (.u rfl) (.nil (Wp.one 4 (by kernel_rfl) ?_))
  refine mv rfl (.f rfl rfl) (.u rfl) (.nil (Wp.one 5 (by kernel_rfl) ?_))
  refine ih rfl (.f rfl rfl) Fx.se31 (.s rfl) (.s rfl) (fun hc=>by (try simp only [Bool.and_eq_true,decide_eq_true_eq,Bool.not_eq_true',Bool.or_eq_false_iff,decide_eq_false_iff_not] at hc); omega) (fun hc=>by (try simp only [Bool.and_eq_true,decide_eq_true_eq,Bool.not_eq_true',Bool.or_eq_false_iff,decide_eq_false_iff_not] at hc); omega) (fun hc=>hs.nn (k:=k) (by first|omega|(simp only [Bool.and_eq_true,decide_eq_true_eq] at hc; omega)|(simp only [List.length_cons,List.length_nil]; omega))) ?_
  refine .nil (Wp.one 6 (by kernel_rfl) ?_)
  refine fa rfl (.f rfl rfl) Fx.fo47_0 (.s rfl) (.nil (Wp.one 7 (by kernel_rfl) ?_))
  refine ld rfl (.f rfl rfl) Fx.ag9 (.s rfl) (fun hc=>(hs.at (by (try simp only [Bool.and_eq_true,decide_eq_true_eq,Bool.not_eq_true',Bool.or_eq_false_iff,decide_eq_false_iff_not] at hc); omega) ex 0 _ rfl).rd) (.nil (Wp.one 8 (by kernel_rfl) ?_))
  refine ls rfl (.f rfl rfl) Fx.st9 (.s rfl) (.nil (Wp.one 9 (by kernel_rfl) ?_))
  refine mv rfl (.f rfl rfl) (.u rfl) (.nil (Wp.one 10 (by kernel_rfl) ?_))
  refine cp rfl (.f rfl rfl) (.s rfl) (.s rfl) rfl (.nil (Wp.one 11 (by kernel_rfl) ?_))
  refine pkO rfl .no (.u rfl) (.s rfl) (.nil (Wp.one 12 (by kernel_rfl) ?_))
  refine mV rfl rfl (.nil (Wp.one 13 (by kernel_rfl) ?_))
  refine mv rfl (.f rfl rfl) (.u rfl) (.nil (Wp.one 14 (by kernel_rfl) ?_))
  refine mv rfl (.f rfl rfl) (.u rfl) (.nil (Wp.one 15 (by kernel_rfl) ?_))
  refine ih rfl (.f rfl rfl) Fx.se31 (.s rfl) (.s rfl) (fun hc=>by (try simp only [Bool.and_eq_true,decide_eq_true_eq,Bool.not_eq_true',Bool.or_eq_false_iff,decide_eq_false_iff_not] at hc); omega) (fun hc=>by (try simp only [Bool.and_eq_true,decide_eq_true_eq,Bool.not_eq_true',Bool.or_eq_false_iff,decide_eq_false_iff_not] at hc); omega) (fun hc=>hs.nn (k:=k) (by first|omega|(simp only [Bool.and_eq_true,decide_eq_true_eq] at hc; omega)|(simp only [List.length_cons,List.length_nil]; omega))) ?_
  refine .nil (Wp.one 16 (by kernel_rfl) ?_)
  refine fa rfl (.f rfl rfl) Fx.fo47_3 (.s rfl) (.nil (Wp.one 17 (by kernel_rfl) ?_))
  refine ld rfl (.f rfl rfl) Fx.ag9 (.s rfl) (fun hc=>(hs.at (by (try simp only [Bool.and_eq_true,decide_eq_true_eq,Bool.not_eq_true',Bool.or_eq_false_iff,decide_eq_false_iff_not] at hc); omega) ex 3 _ rfl).rd) (.nil (Wp.one 18 (by kernel_rfl) ?_))
  refine ls rfl (.f rfl rfl) Fx.st9 (.s rfl) (.nil (Wp.one 19 (by kernel_rfl) ?_))
  refine mv rfl (.f rfl rfl) (.u rfl) (.nil (Wp.one 20 (by kernel_rfl) ?_))
  refine mv rfl (.f rfl rfl) (.u rfl) (.nil (Wp.one 21 (by kernel_rfl) ?_))
  refine mv rfl (.f rfl rfl) (.u rfl) (.nil (Wp.one 22 (by kernel_rfl) ?_))
  refine ih rfl (.f rfl rfl) Fx.se31 (.s rfl) (.s rfl) (fun hc=>by (try simp only [Bool.and_eq_true,decide_eq_true_eq,Bool.not_eq_true',Bool.or_eq_false_iff,decide_eq_false_iff_not] at hc); omega) (fun hc=>by (try simp only [Bool.and_eq_true,decide_eq_true_eq,Bool.not_eq_true',Bool.or_eq_false_iff,decide_eq_false_iff_not] at hc); omega) (fun hc=>hs.nn (k:=k) (by first|omega|(simp only [Bool.and_eq_true,decide_eq_true_eq] at hc; omega)|(simp only [List.length_cons,List.length_nil]; omega))) ?_
  refine .nil (Wp.one 23 (by kernel_rfl) ?_)
  refine fa rfl (.f rfl rfl) Fx.fo47_0 (.s rfl) (.nil (Wp.one 24 (by kernel_rfl) ?_))
  refine ld rfl (.f rfl rfl) Fx.ag9 (.s rfl) (fun hc=>(hs.at (by (try simp only [Bool.and_eq_true,decide_eq_true_eq,Bool.not_eq_true',Bool.or_eq_false_iff,decide_eq_false_iff_not] at hc); omega) ex 0 _ rfl).rd) (.nil (Wp.one 25 (by kernel_rfl) ?_))
  refine ls rfl (.f rfl rfl) Fx.st9 (.s rfl) (.nil (Wp.one 26 (by kernel_rfl) ?_))
  refine ar rfl (.f rfl rfl) (.s rfl) (.s rfl) rfl (fun hc=>wrap_i64 (by (try simp only [Bool.and_eq_true,decide_eq_true_eq,Bool.not_eq_true',Bool.or_eq_false_iff,decide_eq_false_iff_not] at hc); omega) (by (try simp only [Bool.and_eq_true,decide_eq_true_eq,Bool.not_eq_true',Bool.or_eq_false_iff,decide_eq_false_iff_not] at hc); omega)) ?_
  refine .nil (Wp.one 27 (by kernel_rfl) ?_)
  refine cp rfl (.f rfl rfl) (.s rfl) (.s rfl) rfl (.nil (Wp.one 28 (by kernel_rfl) ?_))
  refine pkO rfl .no (.u rfl) (.s rfl) (.nil (Wp.last (by kernel_rfl) ?_))
  refine .code (.cond rfl (fun c2=>?_) (fun c2=>?_))
  ·have c2k:=c2
   try simp only [qcA,qcC,qcB] at c2
   refine .seq (rq1 rfl rfl (aS rfl rfl (.nil (.code (.ret (We.fin0 Tryz.results7 (.tmp rfl .nil) ?_))))))
   exact ⟨rfl,congrArg Value.bool (lg_no ex (by omega)).symm⟩
  have c2k:=c2
  try simp only [qcA,qcC,qcB] at c2
  refine .skip (.code (Wk.mixp ⟨false,false⟩ Fx.mix (by kernel_rfl) ?_))
  refine Wp.one 0 (by kernel_rfl) ?_
  refine mV rfl rfl (.nil (Wp.one 1 (by kernel_rfl) ?_))
  refine mV rfl rfl (.nil (Wp.one 2 (by kernel_rfl) ?_))
  refine mV rfl rfl (.nil (Wp.one 3 (by kernel_rfl) ?_))
  refine ih rfl .no Fx.se31 (.u rfl) (.u rfl) (fun _=>by omega) (fun _=>by omega) (fun _=>hs.nn (k:=k) (by first|omega|(simp only [Bool.and_eq_true,decide_eq_true_eq] at hc; omega)|(simp only [List.length_cons,List.length_nil]; omega))) ?_
  refine .nil (Wp.one 4 (by kernel_rfl) ?_)
  refine fa rfl .no Fx.fo47_0 (.u rfl) (.nil (Wp.one 5 (by kernel_rfl) ?_))
  refine ld rfl .no Fx.ag9 (.u rfl) (fun _=>(hs.at (by omega) ex 0 _ rfl).rd) (.nil (Wp.one 6 (by kernel_rfl) ?_))
  refine ls rfl .no Fx.st9 (.u rfl) (.nil (Wp.one 7 (by kernel_rfl) ?_))
  refine mV rfl rfl (.nil (Wp.one 8 (by kernel_rfl) ?_))
  refine mV rfl rfl (.nil (Wp.one 9 (by kernel_rfl) ?_))
  refine ih rfl .no Fx.se31 (.u rfl) (.u rfl) (fun _=>by omega) (fun _=>by omega) (fun _=>hs.nn (k:=k) (by first|omega|(simp only [Bool.and_eq_true,decide_eq_true_eq] at hc; omega)|(simp only [List.length_cons,List.length_nil]; omega))) ?_
  refine .nil (Wp.one 10 (by kernel_rfl) ?_)
  refine fa rfl .no Fx.fo47_3 (.u rfl) (.nil (Wp.one 11 (by kernel_rfl) ?_))
  refine ld rfl .no Fx.ag9 (.u rfl) (fun _=>(hs.at (by omega) ex 3 _ rfl).rd) (.nil (Wp.one 12 (by kernel_rfl) ?_))
  refine ls rfl .no Fx.st9 (.u rfl) (.nil (Wp.one 13 (by kernel_rfl) ?_))
  refine arn (((x.user.size+x.value.size):Nat):Int) rfl .no (.u rfl) (.u rfl) rfl (fun _=>by omega) (fun _=>wrap_i64 (by omega) (by omega)) ?_
  refine .nil (Wp.one 14 (by kernel_rfl) ?_)
  refine ar rfl .no (.u rfl) (.u rfl) rfl (fun _=>wrap_i64 (by omega) (by omega)) ?_
  refine .nil (Wp.one 15 (by kernel_rfl) ?_)
  refine aS rfl rfl (.nil (Wp.last (by kernel_rfl) ?_))
  refine .blk (.code (rq2 rfl rfl (arn (((k+1):Nat):Int) rfl .no (.u rfl) (.u rfl) rfl (fun _=>by omega) (fun _=>wrap_i64 (by omega) (by omega)) ?_)))
  refine mV rfl rfl (.nil (We.lpo (k+1) ?_ ?_ ?_ ?_ ?_))
  ·exact (esC rfl (evi (by omega)) (esC rfl (by first|rfl|exact evi (by omega)) (esD rfl (esD rfl eZ))))
  ·exact mN
  ·first|omega|(dsimp only; omega)
  ·exact hGl0
  (try dsimp only)<;>(first|omega|rfl|assumption|(simp; done))
 have c1k:=c1
 try simp only [qcA,qcC,qcB] at c1
 refine .exit (.xcode (.xlp (.xblk (.code (.seq (rq1 rfl rfl (aS rfl rfl (.nil (.code (.ret (We.fin0 Tryz.results7 (.tmp rfl .nil) ?_)))))))))))
 exact ⟨rfl,congrArg Value.bool (lg_yes (by omega) hk.2.1 hk.2.2).symm⟩
theorem rAhead_ok (a b:Ent) (G:PM):Ct Tryz.prog 81 ([a.val,b.val]:List Value).toArray G [] (fun _ μ' u=>μ'=[]∧u=.bool (aheadE a b)):=by
 refine Ct.of Tryz.func81 rfl Tryz.ntmps81 rfl fun w0 hs0=>?_
 refine .seq (rq3 rfl rfl ?_)
 refine bx rfl (.u rfl) rfl ?_; intro b2
 refine bx rfl (.u rfl) rfl ?_; intro b3
 refine aS rfl rfl (.nil (.code (.seq (Wk.rg [0,1,2,3,4,5,6,7,8,9,10,11,12,13,14,15,16,17,18,19] rfl rfl (fz rfl .no Fx.fo47_0 (.u rfl) (ld rfl .no Fx.ag9 (.u rfl) (fun _=>Rd.own tk1 (by first|exact wap_f rfl|rfl)) ?_))))))
 refine fz rfl .no Fx.fo47_0 (.u rfl) (ld rfl .no Fx.ag9 (.u rfl) (fun _=>Rd.own .here (by first|exact wap_f rfl|rfl)) ?_)
 refine cs rfl .no (.u rfl) (.u rfl) rfl (mV rfl rfl (fz rfl (.f rfl rfl) Fx.fo47_0 (.u rfl) (ld rfl (.f rfl rfl) Fx.ag9 (.s rfl) (fun hc=>Rd.own tk1 (by first|exact wap_f rfl|rfl)) ?_)))
 refine fz rfl (.f rfl rfl) Fx.fo47_0 (.u rfl) (ld rfl (.f rfl rfl) Fx.ag9 (.s rfl) (fun hc=>Rd.own .here (by first|exact wap_f rfl|rfl)) ?_)
 refine cs rfl (.f rfl rfl) (.s rfl) (.s rfl) rfl (mv rfl (.f rfl rfl) (.s rfl) (fz rfl (.tc rfl rfl) Fx.fo47_1 (.u rfl) (ld rfl (.tc rfl rfl) Fx.ag24 (.s rfl) (fun hc=>Rd.own tk1 (by first|exact wap_f rfl|rfl)) ?_)))
 refine fz rfl (.tc rfl rfl) Fx.fo47_1 (.u rfl) (ld rfl (.tc rfl rfl) Fx.ag24 (.s rfl) (fun hc=>Rd.own .here (by first|exact wap_f rfl|rfl)) ?_)
 refine cp rfl (.tc rfl rfl) (.s rfl) (.s rfl) rfl (pkA rfl (.f rfl rfl) (.s rfl) (.s rfl) (pkO rfl .no (.u rfl) (.s rfl) (aS rfl rfl (.nil (.code (.ret (We.fin0 Tryz.results81 (.tmp rfl .nil) ?_)))))))
 exact ⟨rfl,congrArg Value.bool ra_val⟩
theorem shown17_ok (G:PM) (hK:RdNP G 1 0 (wa 64 kW)):Ct Tryz.prog 6 ([]:List Value).toArray G [] (fun _ μ' u=>μ'=[]∧u=.bool true):=by
 refine Ct.of Tryz.func6 rfl Tryz.ntmps6 rfl fun w0 hs0=>?_
 refine .seq (rq1 rfl rfl (aS rfl rfl (.nil (.code (.seq (rq3 rfl rfl (bCe ([V 2#8,V 0#8,uv .u64 0#64,uv .u64 0#64,uv .u64 0#64]) rfl .no Fx.bp26_0 (.cons (.u rfl) rfl .nil) rfl (rfl) ?_)))))))
 refine al rfl Fx.zq26 ?_; intro b1
 refine sw rfl (.u rfl) (.u rfl) rfl Fx.sz26 .here rfl (one5 rfl rfl rfl rfl rfl) ?_
 refine .nil (.code (.seq (rq3 rfl rfl (bCe (entA.cells) rfl .no Fx.bp47_0_1 (.cons (.u rfl) rfl (.cons (.u rfl) rfl .nil)) rfl (rfl) ?_))))
 refine b1f (cs:=entA.cells) rfl Fx.se31 Fx.zw47 (.u rfl) rfl rfl (by decide) ?_; intro b20 G20 hG20 hb20; have hs20:=hb20.sl1 (sz:=4) (enc:=Ent.cells) (x:=entA) (cap:=1) (by decide)
 have hK:=hK.mono hG20
 refine aS rfl rfl (.nil (.code (.seq (Wk.rg [0,1,2,3,4,5,6,7,8,9,10,11] rfl rfl (bCe (ba 32 zF) rfl .no Fx.bp23_ .nil rfl (rfl) ?_)))))
 refine lA rfl .no Fx.ag26 (.u rfl) (fun _=>RdN.part (n:=5) (cs':=[V 2#8,V 0#8,uv .u64 0#64,uv .u64 0#64,uv .u64 0#64]) .here (rfl)) (fun _=>rfl) ?_
 refine bCe ([.int .i64 1,.int .i64 1,.int .i64 10]) rfl .no Fx.bp28_0_1_2 (.cons (.u rfl) rfl (.cons (.u rfl) rfl (.cons (.u rfl) rfl .nil))) rfl (rfl) (kc rfl Fx.go8 (Evc rfl (Evc rfl (Evc rfl (Evc rfl Evn)))) (tBuild_ok zF hdT [] ⟨none,0⟩ 1 1 10 _ SlR.nul ⟨by decide,by decide⟩ hK) ?_)
 rintro _ G25 μ25 hG25 ⟨h25,L25,m25,er25,hB25,rfl,rfl,hs25⟩
 have hK:=hK.mono hG25
 have hs20:=hs20.mono hG25
 refine mV rfl rfl (ex rfl .no (.u rfl) rfl (ex rfl .no (.u rfl) rfl (ex rfl .no (.u rfl) rfl ?_)))
 refine al rfl Fx.zq36 ?_; intro b4
 refine aS rfl rfl (sw rfl (.u rfl) (.u rfl) rfl Fx.sz36 .here rfl (Meta.one _) ?_)
 refine aS rfl rfl (.nil ?_)
 obtain rfl:=sh_bad hB25
 refine .code (.seq (Wk.rg [0,1,2,3,4,5,6,7,8,9,10,11,12] rfl rfl (bCe (ba 32 zF) rfl .no Fx.bp23_ .nil rfl (rfl) ?_)))
 refine lA rfl .no Fx.ag26 (.u rfl) (fun _=>RdN.part (n:=5) (cs':=[V 2#8,V 0#8,uv .u64 0#64,uv .u64 0#64,uv .u64 0#64]) tk1 (rfl)) (fun _=>rfl) ?_
 refine mV rfl rfl (bCe ([.int .i64 1,.int .i64 1,.int .i64 10]) rfl .no Fx.bp28_0_1_2 (.cons (.u rfl) rfl (.cons (.u rfl) rfl (.cons (.u rfl) rfl .nil))) rfl (rfl) (kc rfl Fx.go8 (Evc rfl (Evc rfl (Evc rfl (Evc rfl Evn)))) (tBuild_ok zF hdT [entA] ⟨some ⟨b20,0,none⟩,1⟩ 1 1 10 _ hs20 sh_light hK) ?_))
 rintro _ G34 μ34 hG34 ⟨h34,L34,m34,er34,hB34,rfl,rfl,hs34⟩
 have hK:=hK.mono hG34
 have hs20:=hs20.mono hG34
 refine mV rfl rfl (ex rfl .no (.u rfl) rfl (ex rfl .no (.u rfl) rfl (ex rfl .no (.u rfl) rfl ?_)))
 refine al rfl Fx.zq36 ?_; intro b7
 refine aS rfl rfl (sw rfl (.u rfl) (.u rfl) rfl Fx.sz36 .here rfl (Meta.one _) ?_)
 refine aS rfl rfl (.nil ?_)
 obtain ⟨rfl,hw34,hl34,hT34⟩:=sh_good hB34
 refine .code (.seq (Wk.rg [0,1,2,3,4,5,6,7,8,9,10,11] rfl rfl (bCe (ba 32 zF) rfl .no Fx.bp23_ .nil rfl (rfl) ?_)))
 refine lA rfl .no Fx.ag36 (.u rfl) (fun _=>RdN.part (n:=40) (cs':=m34.cells) .here (rfl)) (fun _=>(Meta.len _)) ?_
 refine mV rfl rfl (kv rfl .no Fx.go12 (Evc rfl (Evc rfl (Evc rfl (Evc rfl (Evc rfl Evn))))) (fun _=>tGet_ok zF m34 L34 h34 bsA 9#64 (some entA) _ hw34 hs34 hK (by omega) (by decide) (by rw [hT34]; exact congrArg some sh_t1)) ?_)
 refine mV rfl rfl (ex rfl .no (.u rfl) rfl (ex rfl .no (.u rfl) rfl (ex rfl .no (.u rfl) rfl ?_)))
 refine al rfl Fx.zq47 ?_; intro b9
 refine sw rfl (.u rfl) (.u rfl) rfl Fx.sz47 .here rfl (Ent.one _) ?_
 refine aS rfl rfl (aS rfl rfl (.nil (.code (.seq (Wk.rg [0,1,2,3,4,5,6,7,8,9,10,11] rfl rfl (bCe (ba 32 zF) rfl .no Fx.bp23_ .nil rfl (rfl) ?_))))))
 refine lA rfl .no Fx.ag36 (.u rfl) (fun _=>RdN.part (n:=40) (cs':=m34.cells) tk1 (rfl)) (fun _=>(Meta.len _)) ?_
 refine mV rfl rfl (kv rfl .no Fx.go12 (Evc rfl (Evc rfl (Evc rfl (Evc rfl (Evc rfl Evn))))) (fun _=>tGet_ok zF m34 L34 h34 bsA 4#64 none _ hw34 hs34 hK (by omega) (by decide) (by rw [hT34]; exact congrArg some sh_t2)) ?_)
 refine mV rfl rfl (ex rfl .no (.u rfl) rfl (ex rfl .no (.u rfl) rfl (ex rfl .no (.u rfl) rfl ?_)))
 refine al rfl Fx.zq47 ?_; intro b12
 refine sw rfl (.u rfl) (.u rfl) rfl Fx.sz47 .here rfl (Ent.one _) ?_
 refine aS rfl rfl (aS rfl rfl (.nil (.code (.seq (Wk.rg [0,1,2,3,4,5,6,7,8,9,10,11] rfl rfl (bCe (ba 32 zF) rfl .no Fx.bp23_ .nil rfl (rfl) ?_))))))
 refine lA rfl .no Fx.ag36 (.u rfl) (fun _=>RdN.part (n:=40) (cs':=m34.cells) tk2 (rfl)) (fun _=>(Meta.len _)) ?_
 refine mV rfl rfl (kv rfl .no Fx.go12 (Evc rfl (Evc rfl (Evc rfl (Evc rfl (Evc rfl Evn))))) (fun _=>tGet_ok zF m34 L34 h34 bsB 9#64 none _ hw34 hs34 hK (by omega) (by decide) (by rw [hT34]; exact congrArg some sh_t3)) ?_)
 refine mV rfl rfl (ex rfl .no (.u rfl) rfl (ex rfl .no (.u rfl) rfl (ex rfl .no (.u rfl) rfl ?_)))
 refine al rfl Fx.zq47 ?_; intro b15
 refine sw rfl (.u rfl) (.u rfl) rfl Fx.sz47 .here rfl (Ent.one _) ?_
 refine aS rfl rfl (aS rfl rfl (.nil (.code (.seq (Wk.mixp ⟨false,false⟩ Fx.mix (by kernel_rfl) ?_)))))
 refine Wp.one 0 (by kernel_rfl) ?_
 refine mV rfl rfl (.nil (Wp.one 1 (by kernel_rfl) ?_))
 refine cp rfl .no (.u rfl) (.u rfl) rfl (.nil (Wp.one 2 (by kernel_rfl) ?_))
 refine mV rfl rfl (.nil (Wp.one 3 (by kernel_rfl) ?_))
 refine mv rfl (.t rfl rfl) (.u rfl) (.nil (Wp.one 4 (by kernel_rfl) ?_))
 refine cp rfl (.t rfl rfl) (.s rfl) (.u rfl) rfl (.nil (Wp.one 5 (by kernel_rfl) ?_))
 refine pkA rfl .no (.u rfl) (.s rfl) (.nil (Wp.one 6 (by kernel_rfl) ?_))
 refine mV rfl rfl (.nil (Wp.one 7 (by kernel_rfl) ?_))
 refine mv rfl (.t rfl rfl) (.u rfl) (.nil (Wp.one 8 (by kernel_rfl) ?_))
 refine pkA rfl .no (.u rfl) (.s rfl) (.nil (Wp.one 9 (by kernel_rfl) ?_))
 refine mV rfl rfl (.nil (Wp.one 10 (by kernel_rfl) ?_))
 refine lA rfl (.t rfl rfl) Fx.ag47 (.u rfl) (fun _=>RdN.part (n:=4) (cs':=entA.cells) tk2 (rfl)) (fun _=>rfl) ?_
 refine .nil (Wp.one 11 (by kernel_rfl) ?_)
 refine mv rfl (.t rfl rfl) (.u rfl) (.nil (Wp.one 12 (by kernel_rfl) ?_))
 refine ih rfl (.t rfl rfl) Fx.se31 (.s rfl) (.u rfl) (fun hc=>by omega) (fun hc=>by omega) (fun hc=>hs20.nn (k:=0) (by first|omega|(simp only [Bool.and_eq_true,decide_eq_true_eq] at hc; omega)|(simp only [List.length_cons,List.length_nil]; omega))) ?_
 refine .nil (Wp.one 13 (by kernel_rfl) ?_)
 refine lA rfl (.t rfl rfl) Fx.ag47 (.s rfl) (fun hc=>(hs20.at (k:=0) rfl rfl).rd) (fun _=>rfl) ?_
 refine .nil (Wp.one 14 (by kernel_rfl) ?_)
 refine eqC (true) rfl (.t rfl rfl) Fx.eqt47 (.s rfl) (.s rfl) (fun hc=>ent_conf (by decide) (by decide)) (fun hc=>ent_conf (by decide) (by decide)) (fun hc=>⟨fun _=>rfl,fun _=>rfl⟩) ?_
 refine .nil (Wp.one 15 (by kernel_rfl) ?_)
 refine pkA rfl .no (.u rfl) (.s rfl) (.nil (Wp.one 16 (by kernel_rfl) ?_))
 refine mV rfl rfl (.nil (Wp.one 17 (by kernel_rfl) ?_))
 refine mv rfl (.t rfl rfl) (.u rfl) (.nil (Wp.one 18 (by kernel_rfl) ?_))
 refine nt rfl (.t rfl rfl) (.s rfl) (.nil (Wp.one 19 (by kernel_rfl) ?_))
 refine pkA rfl .no (.u rfl) (.s rfl) (.nil (Wp.one 20 (by kernel_rfl) ?_))
 refine mV rfl rfl (.nil (Wp.one 21 (by kernel_rfl) ?_))
 refine mv rfl (.t rfl rfl) (.u rfl) (.nil (Wp.one 22 (by kernel_rfl) ?_))
 refine nt rfl (.t rfl rfl) (.s rfl) (.nil (Wp.one 23 (by kernel_rfl) ?_))
 refine pkA rfl .no (.u rfl) (.s rfl) (.nil (Wp.one 24 (by kernel_rfl) ?_))
 refine mV rfl rfl (.nil (Wp.one 25 (by kernel_rfl) ?_))
 refine mv rfl (.t rfl rfl) (.u rfl) (.nil (Wp.one 26 (by kernel_rfl) ?_))
 refine cp rfl (.t rfl rfl) (.s rfl) (.u rfl) rfl (.nil (Wp.one 27 (by kernel_rfl) ?_))
 refine pkA rfl .no (.u rfl) (.s rfl) (.nil (Wp.one 28 (by kernel_rfl) ?_))
 refine mV rfl rfl (.nil (Wp.one 29 (by kernel_rfl) ?_))
 refine mv rfl (.t rfl rfl) (.u rfl) (.nil (Wp.one 30 (by kernel_rfl) ?_))
 refine cp rfl (.t rfl rfl) (.s rfl) (.u rfl) rfl (.nil (Wp.one 31 (by kernel_rfl) ?_))
 refine pkA rfl .no (.u rfl) (.s rfl) (.nil (Wp.one 32 (by kernel_rfl) ?_))
 refine mV rfl rfl (.nil (Wp.one 33 (by kernel_rfl) ?_))
 refine mv rfl (.t rfl rfl) (.u rfl) (.nil (Wp.one 34 (by kernel_rfl) ?_))
 refine cp rfl (.t rfl rfl) (.s rfl) (.u rfl) rfl (.nil (Wp.one 35 (by kernel_rfl) ?_))
 refine pkA rfl .no (.u rfl) (.s rfl) (.nil (Wp.one 36 (by kernel_rfl) ?_))
 refine aS rfl rfl (.nil (Wp.last (by kernel_rfl) ?_))
 refine .code (.ret (We.fin0 Tryz.results6 (.tmp rfl .nil) ?_))
 exact ⟨rfl,rfl⟩
namespace FxVerT
theorem mix:Tryz.prog.follows .mixedOrders=true:=by kernel_rfl
theorem ag3:aggN Tryz.prog 3=some none:=by kernel_rfl
theorem sz3:szT Tryz.prog 3=some 1:=by kernel_rfl
end FxVerT
namespace Fx
theorem go82:goFn Tryz.prog 82=true:=by kernel_rfl
theorem go43:goFn Tryz.prog 43=true:=by kernel_rfl
theorem sb9_34:sbT Tryz.prog 9 34=true:=by kernel_rfl
end Fx
theorem rGroups_ok (n:BitVec 64) (G:PM):Ct Tryz.prog 82 ([uv .u64 n]:List Value).toArray G [] (fun _ μ' u=>μ'=[]∧u=.int .i64 ((numN n.toNat).length:Int)):=by
 refine Ct.of Tryz.func82 rfl Tryz.ntmps82 rfl fun w0 hs0=>?_
 have ln:=num_len10 n.isLt
 refine .seq (rq1 rfl rfl (aS rfl rfl (.nil (.code (.seq (rq1 rfl rfl (aS rfl rfl (.nil (.code (.seq (.block ?_)))))))))))
 refine Wk.lop (α:=Nat×BitVec 64) (fun gh=>[(0,true,uv .u64 gh.2),(3,true,.int .i64 (gh.1:Int))]) (fun _=>[])
  (fun gh Gl=>(gh.1+(numN gh.2.toNat).length=1+(numN n.toNat).length)) (fun gh=>gh.2.toNat) (1,n) [] []
  (esD rfl (esC rfl (by first|rfl|exact evi (by omega)) eZ))
  mN ?_ ?_
 ·(try dsimp only)<;>(rfl)
 intro gh N0 Gl0 hN0 hGl0 hF0
 obtain ⟨k,m⟩:=gh; dsimp only at hF0 hN0 ⊢
 have e:=hF0
 have tq:@BitVec.toNat IntKind.u64.bits m=m.toNat:=rfl
 have lp:=num_pos m.toNat
 refine .seq (.seq (rq2 rfl rfl (mV rfl rfl (cp rfl .no (.u rfl) (.u rfl) rfl (.nil (.code (.cond rfl (fun c1=>?_) (fun c1=>?_))))))))
 ·have c1k:=c1
  try simp only [qcA,qcC,qcB] at c1
  refine .skip (.code (.block (.seq (rq3 rfl rfl (mV rfl rfl (dw (k:=.u64) (b:=128#64) rfl .no rfl (.u rfl) (.u rfl) (fun _=>show (128#64:BitVec 64)≠0#64 by decide) ?_))))))
  refine aS rfl rfl (.nil (.code (rq3 rfl rfl (mV rfl rfl (arn (((k+1):Nat):Int) rfl .no (.u rfl) (.u rfl) rfl (fun _=>by omega) (fun _=>wrap_i64 (by omega) (by omega)) ?_)))))
  refine aS rfl rfl (.nil (.blk (We.lpo (k+1,m / 128#64) ?_ ?_ ?_ ?_ ?_)))
  ·exact (esD rfl (esC rfl (by first|rfl|exact evi (by omega)) eZ))
  ·exact mN
  ·(dsimp only; rw [div1]; omega)
  ·exact hGl0
  (try dsimp only)<;>(exact grp_step e (by omega))
 have c1k:=c1
 try simp only [qcA,qcC,qcB] at c1
 refine .exit (.xcode (.xlp (.xblk (.code (.seq (rq2 rfl rfl (mV rfl rfl (aS rfl rfl (.nil (.code (.ret (We.fin0 Tryz.results82 (.tmp rfl .nil) ?_))))))))))))
 obtain rfl:=grp_end e (by omega)
 exact ⟨rfl,rfl⟩
theorem rrNum_ok (n:BitVec 64) (G:PM):Ct Tryz.prog 43 ([uv .u64 n]:List Value).toArray G [] (PR 5 (fun L=>L=numN n.toNat)):=by
 refine Ct.of Tryz.func43 rfl Tryz.ntmps43 rfl fun w0 hs0=>?_
 have ln:=num_len10 n.isLt
 refine .seq (rq1 rfl rfl (aS rfl rfl (.nil (.code (.seq (rq1 rfl rfl (aS rfl rfl (.nil (.code (.seq (wk_nilB 5 ?_)))))))))))
 refine rq3 rfl rfl (mV rfl rfl (kv rfl .no Fx.go82 (Evc rfl Evn) (fun _=>rGroups_ok n _) ?_))
 refine aS rfl rfl (.nil (.code (.seq (.seq (rq1 rfl rfl (aS rfl rfl (.nil (.code (.block ?_)))))))))
 refine Wk.lop (α:=Nat×Value×List Y×BitVec 64) (fun gh=>[(0,true,uv .u64 gh.2.2.2),(3,true,gh.2.1),(5,true,.int .i64 (gh.1:Int))]) (fun gh=>[rB gh.2.1 5 gh.2.2.1])
  (fun gh Gl=>(gh.1≤(numN n.toNat).length)∧(gh.2.2.1=(numN n.toNat).take gh.1)∧(gh.2.2.2.toNat=n.toNat / 128^gh.1)) (fun gh=>(numN n.toNat).length-gh.1) (0,.slice none 0 0,[],n) [(4,true,_)] []
  (esD rfl (esD rfl (esC rfl (by first|rfl|exact evi (by omega)) (esD rfl eZ))))
  (mS .here rfl mN) ?_ ?_
 ·refine ⟨?_,?_,?_⟩
  ·(try dsimp only)<;>(first|omega|rfl|assumption|(simp; done))
  ·(try dsimp only)<;>(rfl)
  (try dsimp only)<;>(rw [Nat.pow_zero,Nat.div_one])
 intro gh N0 Gl0 hN0 hGl0 hF0
 obtain ⟨k,v,L,m⟩:=gh; dsimp only at hF0 hN0 ⊢
 obtain ⟨hk,eL,em⟩:=hF0
 have lL:L.length=k:=by rw [eL,List.length_take]; omega
 refine .seq (.seq (rq3 rfl rfl (mV rfl rfl (mV rfl rfl (cp rfl .no (.u rfl) (.u rfl) rfl (.nil (.code (.cond rfl (fun c1=>?_) (fun c1=>?_)))))))))
 ·have c1k:=c1
  try simp only [qcA,qcC,qcB] at c1
  refine .skip (.code (.seq (.block (.seq (rq4 rfl rfl (mV rfl rfl (mw (k:=.u64) (b:=128#64) rfl .no (.u rfl) (.u rfl) (fun _=>show (128#64:BitVec 64)≠0#64 by decide) ?_)))))))
  refine cu (k:=.u64) rfl .no rfl FxVerR.cv24_5 (.u rfl) ?_
  refine aS rfl rfl (.nil (.code (.seq (.seq (rq4 rfl rfl (mV rfl rfl (arn (((k+1):Nat):Int) rfl .no (.u rfl) (.u rfl) rfl (fun _=>by omega) (fun _=>wrap_i64 (by omega) (by omega)) ?_)))))))
  refine mV rfl rfl (cp rfl .no (.u rfl) (.u rfl) rfl (.nil (.code (.cond rfl (fun c2=>?_) (fun c2=>?_)))))
  ·have c2k:=c2
   try simp only [qcA,qcC,qcB] at c2
   refine rq3 rfl rfl (mV rfl rfl (bw (k:=.u8) (b:=128#8) rfl .no rfl (.u rfl) (.u rfl) rfl (aS rfl rfl (.nil (.code (.seq (rq5 rfl rfl (mV rfl rfl (mV rfl rfl ?_)))))))))
   refine Go.Tan.b1 rfl FxVerR.se34 FxVerR.zv5 (.u rfl) rfl rfl (by decide) ?_; intro b25
   refine apY rfl FxVerR.se34 FxVerR.zv5 (.u rfl) (.u rfl) tk1 (Sc.one .here) (by show _+1≤_; omega) ?_
   intro v26 L26 ov26 eL26
   have lL26:L26.length=L.length+1:=by rw [eL26,List.length_append]; first|rfl | simp [yl_len]
   refine aS rfl rfl (.nil (.code (rq3 rfl rfl (mV rfl rfl (dw (k:=.u64) (b:=128#64) rfl .no rfl (.u rfl) (.u rfl) (fun _=>show (128#64:BitVec 64)≠0#64 by decide) ?_)))))
   refine aS rfl rfl (.nil (.blk (.code (rq3 rfl rfl (mV rfl rfl (arn (((k+1):Nat):Int) rfl .no (.u rfl) (.u rfl) rfl (fun _=>by omega) (fun _=>wrap_i64 (by omega) (by omega)) ?_))))))
   refine aS rfl rfl (.nil (We.lpo (k+1,v26,L26,m / 128#64) ?_ ?_ ?_ ?_ ?_))
   ·exact (esD rfl (esD rfl (esC rfl (by first|rfl|exact evi (by omega)) (esD rfl eZ))))
   ·exact (mS .here rfl mN)
   ·first|omega|(dsimp only; omega)
   ·exact hGl0
   refine ⟨?_,?_,?_⟩
   ·(try dsimp only)<;>(first|omega|rfl|assumption|(simp; done))
   ·(try dsimp only)<;>(rw [eL26]; exact num_grp eL em (by omega))
   (try dsimp only)<;>(exact div128 em)
  have c2k:=c2
  try simp only [qcA,qcC,qcB] at c2
  refine .skip (.code (.seq (rq5 rfl rfl (mV rfl rfl (mV rfl rfl ?_)))))
  refine Go.Tan.b1 rfl FxVerR.se34 FxVerR.zv5 (.u rfl) rfl rfl (by decide) ?_; intro b25
  refine apY rfl FxVerR.se34 FxVerR.zv5 (.u rfl) (.u rfl) tk1 (Sc.one .here) (by show _+1≤_; omega) ?_
  intro v26 L26 ov26 eL26
  have lL26:L26.length=L.length+1:=by rw [eL26,List.length_append]; first|rfl | simp [yl_len]
  refine aS rfl rfl (.nil (.code (rq3 rfl rfl (mV rfl rfl (dw (k:=.u64) (b:=128#64) rfl .no rfl (.u rfl) (.u rfl) (fun _=>show (128#64:BitVec 64)≠0#64 by decide) ?_)))))
  refine aS rfl rfl (.nil (.blk (.code (rq3 rfl rfl (mV rfl rfl (arn (((k+1):Nat):Int) rfl .no (.u rfl) (.u rfl) rfl (fun _=>by omega) (fun _=>wrap_i64 (by omega) (by omega)) ?_))))))
  refine aS rfl rfl (.nil (We.lpo (k+1,v26,L26,m / 128#64) ?_ ?_ ?_ ?_ ?_))
  ·exact (esD rfl (esD rfl (esC rfl (by first|rfl|exact evi (by omega)) (esD rfl eZ))))
  ·exact (mS .here rfl mN)
  ·first|omega|(dsimp only; omega)
  ·exact hGl0
  refine ⟨?_,?_,?_⟩
  ·(try dsimp only)<;>(first|omega|rfl|assumption|(simp; done))
  ·(try dsimp only)<;>(rw [eL26]; exact num_grp1 eL em (by omega) (by omega))
  (try dsimp only)<;>(exact div128 em)
 have c1k:=c1
 try simp only [qcA,qcC,qcB] at c1
 refine .exit (.xcode (.xlp (.xblk (.code (.seq (rq2 rfl rfl (mV rfl rfl (aS rfl rfl (.nil (.code (.ret (We.fin Tryz.results43 (.tmp rfl .nil) (mS .here rfl mN) ?_))))))))))))
 obtain rfl:k=(numN n.toNat).length:=by omega
 exact ⟨L,by rw [eL,List.take_length],rfl⟩
theorem rrNum_i (x:Int) (hx:u64 x) (G:PM):Ct Tryz.prog 43 ([.int .u64 x]:List Value).toArray G [] (PR 5 (fun L=>L=numN x.toNat)):=by
 rw [uvI hx,←ofI hx]; exact rrNum_ok _ G
theorem rrStr_ok (s:ByteArray) (G:PM) (hl:s.size≤100000000000000):Ct Tryz.prog 46 ([.string s]:List Value).toArray G [] (PR 5 (fun L=>L=strL (yb s))):=by
 refine Ct.of Tryz.func46 rfl Tryz.ntmps46 rfl fun w0 hs0=>?_
 have ly:=yb_len s
 have ln:=num_len10 (n:=s.size) (by omega)
 refine .seq (rq1 rfl rfl (aS rfl rfl (.nil (.code (.seq (rq5 rfl rfl (mV rfl rfl (ls rfl .no Fx.st9 (.u rfl) (cw rfl .no FxVerR.cv3_24 (.u rfl) (fun _=>wrap_u64 (by omega) (by omega)) ?_)))))))))
 refine kc rfl Fx.go43 (Evc rfl Evn) (Ct.rowc (rrNum_i (s.size:Int) ⟨by omega,by omega⟩ _)) ?_
 rintro v7 G7 μ7 hG7 ⟨L7,ov7,eL7,rfl⟩
 refine aS rfl rfl (.nil (.code (.seq (rq5 rfl rfl (mV rfl rfl (mV rfl rfl ?_))))))
 refine cvS rfl rfl Fx.sb9_34 (.u rfl) ?_; intro G10 h10 hG10 hs10
 have l7:L7.length=(numN s.size).length:=by rw [eL7,Int.toNat_natCast]
 refine apY rfl FxVerR.se34 FxVerR.zv5 (.u rfl) (.u rfl) .here hs10.sc (by (try simp only [qlA,yl_len]); omega) ?_
 intro v11 L11 ov11 eL11
 have lL11:L11.length=L7.length+(yb s).length:=by rw [eL11,List.length_append]
 refine aS rfl rfl (.nil (.code (.seq (rq2 rfl rfl (mV rfl rfl (aS rfl rfl (.nil (.code (.ret (We.fin Tryz.results46 (.tmp rfl .nil) (mS .here rfl mN) ?_))))))))))
 exact ⟨L11,by rw [eL11,eL7,strL,ly,Int.toNat_natCast],rfl⟩
namespace Fx
theorem cv5_3:cvK Tryz.prog 5 3=some .i64:=by kernel_rfl
theorem go39:goFn Tryz.prog 39=true:=by kernel_rfl
theorem go40:goFn Tryz.prog 40=true:=by kernel_rfl
end Fx
theorem r8Right_ok (e:Ent) (G:PM):Ct Tryz.prog 39 ([e.val]:List Value).toArray G [] (fun _ μ' u=>μ'=[]∧u=.bool (rightE e)):=by
 refine Ct.of Tryz.func39 rfl Tryz.ntmps39 rfl fun w0 hs0=>?_
 refine .seq (rq2 rfl rfl ?_)
 refine bx rfl (.u rfl) rfl ?_; intro b1
 refine aS rfl rfl (.nil (.code (.seq (Wk.rg [0,1,2,3,4,5,6,7,8,9,10,11,12,13,14,15,16,17,18,19,20,21,22,23,24,25,26,27,28,29,30] rfl rfl (fz rfl .no Fx.fo47_0 (.u rfl) (ld rfl .no Fx.ag9 (.u rfl) (fun _=>Rd.own .here (by first|exact wap_f rfl|rfl)) ?_))))))
 refine ls rfl .no Fx.st9 (.u rfl) (cp rfl .no (.u rfl) (.u rfl) rfl (mV rfl rfl (fz rfl (.t rfl rfl) Fx.fo47_1 (.u rfl) (ld rfl (.t rfl rfl) Fx.ag24 (.s rfl) (fun hc=>Rd.own .here (by first|exact wap_f rfl|rfl)) ?_))))
 refine cp rfl (.t rfl rfl) (.s rfl) (.u rfl) rfl (pkA rfl .no (.u rfl) (.s rfl) (mV rfl rfl (fz rfl (.t rfl rfl) Fx.fo47_2 (.u rfl) (ld rfl (.t rfl rfl) Fx.ag5 (.s rfl) (fun hc=>Rd.own .here (by first|exact wap_f rfl|rfl)) ?_))))
 refine cp rfl (.t rfl rfl) (.s rfl) (.u rfl) rfl (pkA rfl .no (.u rfl) (.s rfl) (mV rfl rfl (fz rfl (.t rfl rfl) Fx.fo47_3 (.u rfl) (ld rfl (.t rfl rfl) Fx.ag9 (.s rfl) (fun hc=>Rd.own .here (by first|exact wap_f rfl|rfl)) ?_))))
 refine ls rfl (.t rfl rfl) Fx.st9 (.s rfl) (cp rfl (.t rfl rfl) (.s rfl) (.u rfl) rfl (pkA rfl .no (.u rfl) (.s rfl) (mV rfl rfl (fz rfl (.t rfl rfl) Fx.fo47_2 (.u rfl) (ld rfl (.t rfl rfl) Fx.ag5 (.s rfl) (fun hc=>Rd.own .here (by first|exact wap_f rfl|rfl)) ?_)))))
 refine cp rfl (.t rfl rfl) (.s rfl) (.u rfl) rfl (mv rfl (.t rfl rfl) (.s rfl) (fz rfl (.fc rfl rfl) Fx.fo47_3 (.u rfl) (ld rfl (.fc rfl rfl) Fx.ag9 (.s rfl) (fun hc=>Rd.own .here (by first|exact wap_f rfl|rfl)) ?_)))
 refine cs rfl (.fc rfl rfl) (.s rfl) (.u rfl) rfl (pkO rfl (.t rfl rfl) (.s rfl) (.s rfl) (pkA rfl .no (.u rfl) (.s rfl) (aS rfl rfl (.nil (.code (.ret (We.fin0 Tryz.results39 (.tmp rfl .nil) ?_)))))))
 exact ⟨rfl,congrArg Value.bool r8_val⟩
theorem r8Rises_ok (h:Sh) (l:List Ent) (G:PM) (hs:SlR G 4 Ent.cells h l) (hl:l.length≤10000000000000):Ct Tryz.prog 40 ([h.val l.length]:List Value).toArray G [] (fun _ μ' u=>μ'=[]∧u=.bool (risesE l)):=by
 refine Ct.of Tryz.func40 rfl Tryz.ntmps40 rfl fun w0 hs0=>?_
 refine .seq (rq1 rfl rfl (aS rfl rfl (.nil (.code (.seq (.seq (rq1 rfl rfl (aS rfl rfl (.nil (.code (.block ?_)))))))))))
 refine Wk.lop (α:=Nat) (fun k=>[(3,true,.int .i64 (k:Int))]) (fun _=>[])
  (fun k Gl=>(1≤k∧(k≤l.length∨l.length=0))∧(∀ j,j+1<k→aheadE (l.getD j Ent.zero) (l.getD (j+1) Ent.zero)=true)) (fun k=>l.length-k) 1 [(0,true,_)] []
  (esC rfl (by first|rfl|exact evi (by omega)) (esD rfl eZ))
  mN ?_ ?_
 ·refine ⟨?_,?_⟩
  ·(try dsimp only)<;>(first|omega|rfl|assumption|(simp; done))
  (try dsimp only)<;>(exact fun j h=>absurd h (by omega))
 intro k N0 Gl0 hN0 hGl0 hF0
 try dsimp only at hF0 hN0 ⊢
 obtain ⟨hk,hj⟩:=hF0
 have hs:=hs.mono hGl0
 refine .seq (.seq (rq4 rfl rfl (mV rfl rfl (mV rfl rfl (ln rfl .no Fx.sn31 (.u rfl) (cp rfl .no (.u rfl) (.u rfl) rfl (.nil (.code (.cond rfl (fun c1=>?_) (fun c1=>?_))))))))))
 ·have c1k:=c1
  try simp only [qcA,qcB] at c1
  refine .skip (.code (.seq (.block (.seq (Wk.draw (mc:=⟨false,false⟩) [0,1,2,3,4,5,6,7,8,9,10] Fx.mix (by kernel_rfl) ?_)))))
  refine mV rfl rfl (mV rfl rfl (ar rfl .no (.u rfl) (.u rfl) rfl (fun _=>wrap_i64 (by omega) (by omega)) ?_))
  refine ih rfl .no Fx.se31 (.u rfl) (.u rfl) (fun _=>by omega) (fun _=>by omega) (fun _=>hs.nn (k:=((((k:Nat):Int)-(1:Int))).toNat) (by first|omega|(simp only [Bool.and_eq_true,decide_eq_true_eq] at hc; omega)|(simp only [List.length_cons,List.length_nil]; omega))) ?_
  obtain ⟨x,ex⟩:=getx (k:=k-1) (xs:=l) (by omega)
  refine lA rfl .no Fx.ag47 (.u rfl) (fun _=>(hs.at (by omega) ex).rd) (fun _=>Ent.len _) ?_
  refine mV rfl rfl (mV rfl rfl (ih rfl .no Fx.se31 (.u rfl) (.u rfl) (fun _=>by omega) (fun _=>by omega) (fun _=>hs.nn (k:=k) (by first|omega|(simp only [Bool.and_eq_true,decide_eq_true_eq] at hc; omega)|(simp only [List.length_cons,List.length_nil]; omega))) ?_))
  obtain ⟨y,ey⟩:=getx (k:=k) (xs:=l) (by omega)
  refine lA rfl .no Fx.ag47 (.u rfl) (fun _=>(hs.at (by omega) ey).rd) (fun _=>Ent.len _) ?_
  refine kv rfl .no Fx.go81 (Evc rfl (Evc rfl Evn)) (fun _=>rAhead_ok x y _) ?_
  refine nt rfl .no (.u rfl) (.nil (.code (.cond rfl (fun c2=>?_) (fun c2=>?_))))
  ·have c2k:=c2
   try simp only [qcA,qcB] at c2
   refine .seq (rq1 rfl rfl (aS rfl rfl (.nil (.code (.ret (We.fin0 Tryz.results40 (.tmp rfl .nil) ?_))))))
   exact ⟨rfl,congrArg Value.bool (rri_no hk.1 ex ey (by simpa using c2k)).symm⟩
  have c2k:=c2
  try simp only [qcA,qcB] at c2
  refine .skip (.blk (.code (rq3 rfl rfl (mV rfl rfl (arn (((k+1):Nat):Int) rfl .no (.u rfl) (.u rfl) rfl (fun _=>by omega) (fun _=>wrap_i64 (by omega) (by omega)) ?_)))))
  refine aS rfl rfl (.nil (We.lpo (k+1) ?_ ?_ ?_ ?_ ?_))
  ·exact (esC rfl (by first|rfl|exact evi (by omega)) (esD rfl eZ))
  ·exact mN
  ·first|omega|(dsimp only; omega)
  ·exact hGl0
  refine ⟨?_,?_⟩
  ·(try dsimp only)<;>(first|omega|rfl|assumption|(simp; done))
  (try dsimp only)<;>(exact rri_step hk.1 hj ex ey (by simpa using c2k))
 have c1k:=c1
 try simp only [qcA,qcB] at c1
 refine .exit (.xcode (.xlp (.xblk (.code (.seq (rq1 rfl rfl (aS rfl rfl (.nil (.code (.ret (We.fin0 Tryz.results40 (.tmp rfl .nil) ?_)))))))))))
 exact ⟨rfl,congrArg Value.bool (ri_yes (by omega) hj).symm⟩
theorem r8Betw_ok (a b:ByteArray) (G:PM) (ha:a.size≤1000000):Ct Tryz.prog 45 ([.string a,.string b]:List Value).toArray G [] (fun _ μ' u=>μ'=[]∧u=.string (bstr (betwL (yb a) (yb b)))):=by
 refine Ct.of Tryz.func45 rfl Tryz.ntmps45 rfl fun w0 hs0=>?_
 refine .seq (rq1 rfl rfl (aS rfl rfl (.nil (.code (.seq (rq1 rfl rfl (aS rfl rfl (.nil (.code (.seq (.block ?_)))))))))))
 refine Wk.lop (α:=Nat) (fun k=>[(5,true,.int .i64 (k:Int))]) (fun _=>[])
  (fun k Gl=>(k≤a.size∧k≤b.size)∧(∀ j,j<k→(yb a).getD j 0=(yb b).getD j 0)) (fun k=>a.size-k) 0 [(0,true,_),(1,true,_)] []
  (esC rfl (by first|rfl|exact evi (by omega)) (esD rfl (esD rfl eZ)))
  mN ?_ ?_
 ·refine ⟨?_,?_⟩
  ·(try dsimp only)<;>(first|omega|rfl|assumption|(simp; done))
  (try dsimp only)<;>(exact fun j h=>absurd h (Nat.not_lt_zero _))
 intro k N0 Gl0 hN0 hGl0 hF0
 try dsimp only at hF0 hN0 ⊢
 obtain ⟨hk,hj⟩:=hF0
 refine .seq (.seq (Wk.draw (mc:=⟨false,false⟩) [0,1,2,3,4,5,6,7,8,9,10,11,12,13,14,15,16,17,18] Fx.mix (by kernel_rfl) ?_))
 refine mV rfl rfl (mV rfl rfl (ls rfl .no Fx.st9 (.u rfl) (cp rfl .no (.u rfl) (.u rfl) rfl (mV rfl rfl (mv rfl (.t rfl rfl) (.u rfl) (mv rfl (.t rfl rfl) (.u rfl) (ls rfl (.t rfl rfl) Fx.st9 (.s rfl) (cp rfl (.t rfl rfl) (.s rfl) (.s rfl) rfl (pkA rfl .no (.u rfl) (.s rfl) (mV rfl rfl (mv rfl (.t rfl rfl) (.u rfl) (mv rfl (.t rfl rfl) (.u rfl) (sI (k) rfl (.t rfl rfl) Fx.st9 (.s rfl) (.s rfl) (fun hc=>by (try simp only [Bool.and_eq_true,decide_eq_true_eq,Bool.not_eq_true',Bool.or_eq_false_iff,decide_eq_false_iff_not] at hc); omega) (fun hc=>by first|omega|(simp only [Bool.and_eq_true,decide_eq_true_eq] at hc; omega)) ?_)))))))))))))
 refine mv rfl (.t rfl rfl) (.u rfl) (mv rfl (.t rfl rfl) (.u rfl) (sI (k) rfl (.t rfl rfl) Fx.st9 (.s rfl) (.s rfl) (fun hc=>by (try simp only [Bool.and_eq_true,decide_eq_true_eq,Bool.not_eq_true',Bool.or_eq_false_iff,decide_eq_false_iff_not] at hc); omega) (fun hc=>by first|omega|(simp only [Bool.and_eq_true,decide_eq_true_eq] at hc; omega)) ?_))
 refine cp rfl (.t rfl rfl) (.s rfl) (.s rfl) rfl (pkA rfl .no (.u rfl) (.s rfl) (.nil (.code (.cond rfl (fun c1=>?_) (fun c1=>?_)))))
 ·have c1k:=c1
  try simp only [qcA,qcC,qcB] at c1
  refine .skip (.code (.block (rq3 rfl rfl (mV rfl rfl (arn (((k+1):Nat):Int) rfl .no (.u rfl) (.u rfl) rfl (fun _=>by omega) (fun _=>wrap_i64 (by omega) (by omega)) ?_)))))
  refine aS rfl rfl (.nil (.blk (We.lpo (k+1) ?_ ?_ ?_ ?_ ?_)))
  ·exact (esC rfl (by first|rfl|exact evi (by omega)) (esD rfl (esD rfl eZ)))
  ·exact mN
  ·first|omega|(dsimp only; omega)
  ·exact hGl0
  refine ⟨?_,?_⟩
  ·(try dsimp only)<;>(first|omega|rfl|assumption|(simp; done))
  (try dsimp only)<;>(exact bt_snoc hj c1.2)
 have c1k:=c1
 try simp only [qcA,qcC,qcB] at c1
 refine .exit (.xcode (.xlp (.xblk (.code (.seq (.seq (Wk.draw (mc:=⟨false,false⟩) [0,1,2,3,4,5,6,7,8,9,10,11,12,13,14,15,16,17,18,19,20,21] Fx.mix (by kernel_rfl) ?_)))))))
 refine mV rfl rfl (mV rfl rfl (ls rfl .no Fx.st9 (.u rfl) (cp rfl .no (.u rfl) (.u rfl) rfl (mV rfl rfl (mv rfl (.t rfl rfl) (.u rfl) (mv rfl (.t rfl rfl) (.u rfl) (ls rfl (.t rfl rfl) Fx.st9 (.s rfl) (cp rfl (.t rfl rfl) (.s rfl) (.s rfl) rfl (pkA rfl .no (.u rfl) (.s rfl) (mV rfl rfl (mv rfl (.t rfl rfl) (.u rfl) (mv rfl (.t rfl rfl) (.u rfl) (sI (k) rfl (.t rfl rfl) Fx.st9 (.s rfl) (.s rfl) (fun hc=>by (try simp only [Bool.and_eq_true,decide_eq_true_eq,Bool.not_eq_true',Bool.or_eq_false_iff,decide_eq_false_iff_not] at hc); omega) (fun hc=>by first|omega|(simp only [Bool.and_eq_true,decide_eq_true_eq] at hc; omega)) ?_)))))))))))))
 refine cn (k:=.u8) rfl (.t rfl rfl) Fx.cv5_3 (by decide) (.s rfl) ?_; intro m41 em41 lm41
 refine mv rfl (.t rfl rfl) (.u rfl) (mv rfl (.t rfl rfl) (.u rfl) (sI (k) rfl (.t rfl rfl) Fx.st9 (.s rfl) (.s rfl) (fun hc=>by (try simp only [Bool.and_eq_true,decide_eq_true_eq,Bool.not_eq_true',Bool.or_eq_false_iff,decide_eq_false_iff_not] at hc); omega) (fun hc=>by first|omega|(simp only [Bool.and_eq_true,decide_eq_true_eq] at hc; omega)) ?_))
 refine cn (k:=.u8) rfl (.t rfl rfl) Fx.cv5_3 (by decide) (.s rfl) ?_; intro m45 em45 lm45
 have l41:m41<256:=lm41; have l45:m45<256:=lm45
 have f41:m41=((yb b).getD k 0).toNat:=em41; have f45:m45=((yb a).getD k 0).toNat:=em45
 refine ar rfl (.t rfl rfl) (.s rfl) (.s rfl) rfl (fun hc=>wrap_i64 (by (try simp only [Bool.and_eq_true,decide_eq_true_eq,Bool.not_eq_true',Bool.or_eq_false_iff,decide_eq_false_iff_not] at hc); omega) (by (try simp only [Bool.and_eq_true,decide_eq_true_eq,Bool.not_eq_true',Bool.or_eq_false_iff,decide_eq_false_iff_not] at hc); omega)) ?_
 refine cp rfl (.t rfl rfl) (.s rfl) (.u rfl) rfl (pkA rfl .no (.u rfl) (.s rfl) (.nil (.code (.cond rfl (fun c2=>?_) (fun c2=>?_)))))
 ·have c2k:=c2
  try simp only [qcA,qcC,qcB] at c2
  refine .seq (Wk.draw (mc:=⟨false,false⟩) [0,1,2,3,4,5,6,7,8,9,10] Fx.mix (by kernel_rfl) ?_)
  refine mV rfl rfl (mV rfl rfl (sE (k) rfl .no Fx.st9 (.u rfl) (.u rfl) (fun _=>by omega) (fun _=>by omega) ?_))
  refine mV rfl rfl (mV rfl rfl (sI (k) rfl .no Fx.st9 (.u rfl) (.u rfl) (fun _=>by omega) (fun _=>by first|omega|(simp only [Bool.and_eq_true,decide_eq_true_eq] at hc; omega)) ?_))
  refine bw (k:=.u8) (b:=1#8) rfl .no rfl (.u rfl) (.u rfl) rfl ?_
  refine Go.Tan.b1 rfl Fx.se34 Fx.zv5 (.u rfl) rfl rfl (by decide) ?_; intro b56
  refine sB rfl .no Fx.bs34_9 (.u rfl) (fun _=>(Sc.one .here)) ?_
  refine sP rfl .no (.u rfl) (.u rfl) (fun _=>bt_room ha) ?_
  refine aS rfl rfl (.nil (.code (.ret (We.fin0 Tryz.results45 (.tmp rfl .nil) ?_))))
  exact ⟨rfl,congrArg Value.string (rbt_yes hk hj c1k (by omega) (by omega))⟩
 have c2k:=c2
 try simp only [qcA,qcC,qcB] at c2
 refine .skip (.code (.seq (rq2 rfl rfl (mV rfl rfl (aS rfl rfl (.nil (.code (.ret (We.fin0 Tryz.results45 (.tmp rfl .nil) ?_)))))))))
 exact ⟨rfl,congrArg Value.string (rbt_no hk hj c1k (by omega))⟩
theorem r8Lay_ok (e:Ent) (G:PM) (hu:e.user.size≤10000000):Ct Tryz.prog 79 ([e.val]:List Value).toArray G [] (fun _ μ' u=>μ'=[]∧u=.string (bstr (keyE e))):=by
 refine Ct.of Tryz.func79 rfl Tryz.ntmps79 rfl fun w0 hs0=>?_
 refine .seq (rq2 rfl rfl ?_)
 refine bx rfl (.u rfl) rfl ?_; intro b1
 refine aS rfl rfl (.nil (.code (.seq (Wk.draw (mc:=⟨false,false⟩) [0,1,2,3,4,5,6,7,8,9,10,11,12] Fx.mix (by kernel_rfl) ?_))))
 refine fz rfl .no Fx.fo47_0 (.u rfl) (ld rfl .no Fx.ag9 (.u rfl) (fun _=>Rd.own .here (by first|exact wap_f rfl|rfl)) ?_)
 refine fz rfl .no Fx.fo47_1 (.u rfl) (ld rfl .no Fx.ag24 (.u rfl) (fun _=>Rd.own .here (by first|exact wap_f rfl|rfl)) ?_)
 refine bw (k:=.u64) (b:=256#64) rfl .no rfl (.u rfl) (.u rfl) rfl (fz rfl .no Fx.fo47_2 (.u rfl) (ld rfl .no Fx.ag5 (.u rfl) (fun _=>Rd.own .here (by first|exact wap_f rfl|rfl)) ?_))
 refine cu (k:=.u8) rfl .no rfl Fx.cv5_24 (.u rfl) ?_
 refine bw (k:=.u64) rfl .no rfl (.u rfl) (.u rfl) rfl (kc rfl Fx.go51 (Evc rfl (Evc rfl Evn)) (Ct.frzB (fFix_ok _ 8 _ (by decide))) ?_)
 rintro _ G12 μ12 hG12 ⟨h12,L12,eL12,rfl,rfl,hs12⟩
 have lL12:L12.length=8:=by rw [eL12]; exact fix_len _ _
 refine sB rfl .no Fx.bs34_9 (.u rfl) (fun _=>hs12.sc) ?_
 refine sP rfl .no (.u rfl) (.u rfl) (fun _=>by (try simp only [bstr_len,qlB,yb_len]); omega) ?_
 refine aS rfl rfl (.nil (.code (.ret (We.fin0 Tryz.results79 (.tmp rfl .nil) ?_))))
 exact ⟨rfl,congrArg Value.string (lay_val eL12)⟩
theorem shared_ok (a b:ByteArray) (G:PM) (ha:a.size≤100000000):Ct Tryz.prog 80 ([.string a,.string b]:List Value).toArray G [] (fun _ μ' u=>μ'=[]∧u=.int .i64 (comL (yb a) (yb b):Int)):=by
 refine Ct.of Tryz.func80 rfl Tryz.ntmps80 rfl fun w0 hs0=>?_
 refine .seq (rq1 rfl rfl (aS rfl rfl (.nil (.code (.seq (rq1 rfl rfl (aS rfl rfl (.nil (.code (.seq (.block ?_)))))))))))
 refine Wk.lop (α:=Nat) (fun k=>[(5,true,.int .i64 (k:Int))]) (fun _=>[])
  (fun k Gl=>(k≤a.size∧k≤b.size)∧(∀ j,j<k→(yb a).getD j 0=(yb b).getD j 0)) (fun k=>a.size-k) 0 [(0,true,_),(1,true,_)] []
  (esC rfl (by first|rfl|exact evi (by omega)) (esD rfl (esD rfl eZ)))
  mN ?_ ?_
 ·refine ⟨?_,?_⟩
  ·(try dsimp only)<;>(first|omega|rfl|assumption|(simp; done))
  (try dsimp only)<;>(exact fun j h=>absurd h (Nat.not_lt_zero _))
 intro k N0 Gl0 hN0 hGl0 hF0
 try dsimp only at hF0 hN0 ⊢
 obtain ⟨hk,hj⟩:=hF0
 refine .seq (.seq (Wk.draw (mc:=⟨false,false⟩) [0,1,2,3,4,5,6,7,8,9,10,11,12,13,14,15,16,17,18] Fx.mix (by kernel_rfl) ?_))
 refine mV rfl rfl (mV rfl rfl (ls rfl .no Fx.st9 (.u rfl) (cp rfl .no (.u rfl) (.u rfl) rfl (mV rfl rfl (mv rfl (.t rfl rfl) (.u rfl) (mv rfl (.t rfl rfl) (.u rfl) (ls rfl (.t rfl rfl) Fx.st9 (.s rfl) (cp rfl (.t rfl rfl) (.s rfl) (.s rfl) rfl (pkA rfl .no (.u rfl) (.s rfl) (mV rfl rfl (mv rfl (.t rfl rfl) (.u rfl) (mv rfl (.t rfl rfl) (.u rfl) (sI (k) rfl (.t rfl rfl) Fx.st9 (.s rfl) (.s rfl) (fun hc=>by (try simp only [Bool.and_eq_true,decide_eq_true_eq,Bool.not_eq_true',Bool.or_eq_false_iff,decide_eq_false_iff_not] at hc); omega) (fun hc=>by first|omega|(simp only [Bool.and_eq_true,decide_eq_true_eq] at hc; omega)) ?_)))))))))))))
 refine mv rfl (.t rfl rfl) (.u rfl) (mv rfl (.t rfl rfl) (.u rfl) (sI (k) rfl (.t rfl rfl) Fx.st9 (.s rfl) (.s rfl) (fun hc=>by (try simp only [Bool.and_eq_true,decide_eq_true_eq,Bool.not_eq_true',Bool.or_eq_false_iff,decide_eq_false_iff_not] at hc); omega) (fun hc=>by first|omega|(simp only [Bool.and_eq_true,decide_eq_true_eq] at hc; omega)) ?_))
 refine cp rfl (.t rfl rfl) (.s rfl) (.s rfl) rfl (pkA rfl .no (.u rfl) (.s rfl) (.nil (.code (.cond rfl (fun c1=>?_) (fun c1=>?_)))))
 ·have c1k:=c1
  try simp only [qcA,qcC,qcB] at c1
  refine .skip (.code (.block (rq3 rfl rfl (mV rfl rfl (arn (((k+1):Nat):Int) rfl .no (.u rfl) (.u rfl) rfl (fun _=>by omega) (fun _=>wrap_i64 (by omega) (by omega)) ?_)))))
  refine aS rfl rfl (.nil (.blk (We.lpo (k+1) ?_ ?_ ?_ ?_ ?_)))
  ·exact (esC rfl (by first|rfl|exact evi (by omega)) (esD rfl (esD rfl eZ)))
  ·exact mN
  ·first|omega|(dsimp only; omega)
  ·exact hGl0
  refine ⟨?_,?_⟩
  ·(try dsimp only)<;>(first|omega|rfl|assumption|(simp; done))
  (try dsimp only)<;>(exact bt_snoc hj c1.2)
 have c1k:=c1
 try simp only [qcA,qcC,qcB] at c1
 refine .exit (.xcode (.xlp (.xblk (.code (.seq (rq2 rfl rfl (mV rfl rfl (aS rfl rfl (.nil (.code (.ret (We.fin0 Tryz.results80 (.tmp rfl .nil) ?_))))))))))))
 exact ⟨rfl,rsh_end hk hj c1k⟩
theorem r10right_ok (h:Sh) (l:List Ent) (G:PM) (hs:SlR G 4 Ent.cells h l) (hl:l.length≤10000000000000):Ct Tryz.prog 78 ([h.val l.length]:List Value).toArray G [] (fun _ μ' u=>μ'=[]∧u=.bool (l.all rightE&&risesE l)):=by
 refine Ct.of Tryz.func78 rfl Tryz.ntmps78 rfl fun w0 hs0=>?_
 refine .seq (rq1 rfl rfl (aS rfl rfl (.nil (.code (.seq (.seq (rq1 rfl rfl (aS rfl rfl (.nil (.code (.block ?_)))))))))))
 refine Wk.lop (α:=Nat) (fun k=>[(3,true,.int .i64 (k:Int))]) (fun _=>[])
  (fun k Gl=>(k≤l.length)∧(∀ j y,j<k→l[j]? = some y→rightE y=true)) (fun k=>l.length-k) 0 [(0,true,_)] []
  (esC rfl (by first|rfl|exact evi (by omega)) (esD rfl eZ))
  mN ?_ ?_
 ·refine ⟨?_,?_⟩
  ·(try dsimp only)<;>(first|omega|rfl|assumption|(simp; done))
  (try dsimp only)<;>(exact fun j y h=>absurd h (Nat.not_lt_zero _))
 intro k N0 Gl0 hN0 hGl0 hF0
 try dsimp only at hF0 hN0 ⊢
 obtain ⟨hk,hj⟩:=hF0
 have hs:=hs.mono hGl0
 refine .seq (.seq (rq4 rfl rfl (mV rfl rfl (mV rfl rfl (ln rfl .no Fx.sn31 (.u rfl) (cp rfl .no (.u rfl) (.u rfl) rfl (.nil (.code (.cond rfl (fun c1=>?_) (fun c1=>?_))))))))))
 ·have c1k:=c1
  try simp only [qcA,qcB] at c1
  refine .skip (.code (.seq (.block (.seq (rq6 rfl rfl (mV rfl rfl (mV rfl rfl (ih rfl .no Fx.se31 (.u rfl) (.u rfl) (fun _=>by omega) (fun _=>by omega) (fun _=>hs.nn (k:=k) (by first|omega|(simp only [Bool.and_eq_true,decide_eq_true_eq] at hc; omega)|(simp only [List.length_cons,List.length_nil]; omega))) ?_))))))))
  obtain ⟨x,ex⟩:=getx (k:=k) (xs:=l) (by omega)
  refine lA rfl .no Fx.ag47 (.u rfl) (fun _=>(hs.at (by omega) ex).rd) (fun _=>Ent.len _) ?_
  refine kv rfl .no Fx.go39 (Evc rfl Evn) (fun _=>r8Right_ok x _) ?_
  refine nt rfl .no (.u rfl) (.nil (.code (.cond rfl (fun c2=>?_) (fun c2=>?_))))
  ·have c2k:=c2
   try simp only [qcA,qcB] at c2
   refine .seq (rq1 rfl rfl (aS rfl rfl (.nil (.code (.ret (We.fin0 Tryz.results78 (.tmp rfl .nil) ?_))))))
   exact ⟨rfl,by rw [all_no ex (by simpa using c2k)]; rfl⟩
  have c2k:=c2
  try simp only [qcA,qcB] at c2
  refine .skip (.blk (.code (rq3 rfl rfl (mV rfl rfl (arn (((k+1):Nat):Int) rfl .no (.u rfl) (.u rfl) rfl (fun _=>by omega) (fun _=>wrap_i64 (by omega) (by omega)) ?_)))))
  refine aS rfl rfl (.nil (We.lpo (k+1) ?_ ?_ ?_ ?_ ?_))
  ·exact (esC rfl (by first|rfl|exact evi (by omega)) (esD rfl eZ))
  ·exact mN
  ·first|omega|(dsimp only; omega)
  ·exact hGl0
  refine ⟨?_,?_⟩
  ·(try dsimp only)<;>(first|omega|rfl|assumption|(simp; done))
  (try dsimp only)<;>(exact all_snoc hj ex (by simpa using c2k))
 have c1k:=c1
 try simp only [qcA,qcB] at c1
 refine .exit (.xcode (.xlp (.xblk (.code (.seq (rq3 rfl rfl (mV rfl rfl (kv rfl .no Fx.go40 (Evc rfl Evn) (fun _=>r8Rises_ok h l _ hs hl) ?_))))))))
 refine aS rfl rfl (.nil (.code (.ret (We.fin0 Tryz.results78 (.tmp rfl .nil) ?_))))
 exact ⟨rfl,by rw [all_yes hj (by omega)]; rfl⟩
namespace Fx
theorem go78:goFn Tryz.prog 78=true:=by kernel_rfl
theorem go79:goFn Tryz.prog 79=true:=by kernel_rfl
theorem go80:goFn Tryz.prog 80=true:=by kernel_rfl
end Fx
theorem r10Build_ok (h:Sh) (l:List Ent) (every:Int) (G:PM) (hs:SlR G 4 Ent.cells h l) (hl:l.length≤1000000):Ct Tryz.prog 38 ([h.val l.length,.int .i64 every]:List Value).toArray G [] (fun _ μ' u=>∃ v L er,(L,er)=buildB l every∧μ'=[rB v 5 L]∧u=.tuple #[v,.int .i64 er]):=by
 refine Ct.of Tryz.func38 rfl Tryz.ntmps38 rfl fun w0 hs0=>?_
 refine .seq (rq2 rfl rfl (aS rfl rfl (aS rfl rfl (.nil (.code (.seq (.seq (Wk.rg [0,1,2,3,4,5,6,7,8,9,10] rfl rfl (mV rfl rfl (cp rfl .no (.u rfl) (.u rfl) rfl (mV rfl rfl (mv rfl (.f rfl rfl) (.u rfl) (cp rfl (.f rfl rfl) (.s rfl) (.u rfl) rfl (pkO rfl .no (.u rfl) (.s rfl) (mV rfl rfl (mv rfl (.f rfl rfl) (.u rfl) (kv rfl (.f rfl rfl) Fx.go78 (Eva.cons (.s rfl) Evn) (fun hc=>r10right_ok h l _ hs (by (try simp only [Bool.and_eq_true,decide_eq_true_eq,Bool.not_eq_true',Bool.or_eq_false_iff,decide_eq_false_iff_not] at hc); omega)) ?_)))))))))))))))))
 refine nt rfl (.f rfl rfl) (.s rfl) (pkO rfl .no (.u rfl) (.s rfl) (.nil (.code (.cond rfl (fun c1=>?_) (fun c1=>?_)))))
 ·have c1k:=c1
  try simp only [qcA,qcC,qcB] at c1
  refine .seq (rq2 rfl rfl (aS rfl rfl (aS rfl rfl (.nil (.code (.ret (we_nilB 5 ?_)))))))
  refine We.fin Tryz.results38 (.tmp rfl (.tmp rfl .nil)) (mS .here rfl mN) ?_
  rw [← ru_eq] at c1k
  exact ⟨_,[],1,bu_arg c1k,rfl,rfl⟩
 have c1k:=c1
 try simp only [qcA,qcC,qcB] at c1
 refine .skip (.code (.seq ?_))
 rw [← ru_eq] at c1k
 obtain ⟨hev,hsz⟩:=bu_sz c1k
 refine rq4 rfl rfl (mV rfl rfl (ci rfl .no rfl Fx.cv3_24 (.u rfl) ?_))
 refine kc rfl Fx.go43 (Evc rfl Evn) (Ct.rowc (rrNum_ok _ _)) ?_
 rintro v26 G26 μ26 hG26 ⟨L26,ov26,eL26,rfl⟩
 have hs:=hs.mono hG26
 refine aS rfl rfl (.nil (.code (.seq (rq7 rfl rfl (mV rfl rfl (mV rfl rfl (ln rfl .no Fx.sn31 (.u rfl) (ci rfl .no rfl Fx.cv3_24 (.u rfl) ?_))))))))
 refine kc rfl Fx.go43 (Evc rfl Evn) (Ct.frzB (rrNum_ok _ _)) ?_
 rintro _ G31 μ31 hG31 ⟨h31,L31,eL31,rfl,rfl,hs31⟩
 have lL31:=nmy eL31
 have hs:=hs.mono hG31
 have lL26:=nmy eL26
 refine apY rfl Fx.se34 Fx.zv5 (.u rfl) (.u rfl) .here hs31.sc (by (try simp only [qlA,yl_len]); omega) ?_
 intro v32 L32 ov32 eL32
 have lL32:L32.length=L26.length+L31.length:=by rw [eL32,List.length_append]
 refine aS rfl rfl (.nil (.code (.seq (rq1 rfl rfl (aS rfl rfl (.nil (.code (.seq (wk_nilB 5 ?_)))))))))
 refine rq1 rfl rfl (aS rfl rfl (.nil (.code (.seq (rq1 rfl rfl (aS rfl rfl (.nil (.code (.seq (.seq (rq1 rfl rfl (aS rfl rfl (.nil (.code (.block ?_)))))))))))))))
 refine Wk.lop (α:=Nat×Value×List Y×Value×List Y×Nat×ByteArray) (fun gh=>[(6,true,gh.2.1),(7,true,gh.2.2.2.1),(8,true,uv .u64 (BitVec.ofInt 64 (gh.2.2.2.2.2.1:Int))),(9,true,.string gh.2.2.2.2.2.2),(10,true,.int .i64 (gh.1:Int))]) (fun gh=>[rB gh.2.2.2.1 5 gh.2.2.2.2.1,rB gh.2.1 5 gh.2.2.1])
  (fun gh Gl=>(gh.1≤l.length)∧(gh.2.2.1=outB every.toNat l gh.1)∧(gh.2.2.2.2.1=plcB every.toNat l gh.1)∧(gh.2.2.2.2.2.1=rstB every.toNat gh.1)∧(gh.2.2.2.2.2.2=bstr (lastB l gh.1))∧(∀ j,j<gh.1→(outB every.toNat l (j+1)).length≤1048576)) (fun gh=>l.length-gh.1) (0,v32,L32,.slice none 0 0,[],0,ByteArray.empty) [(0,true,_),(1,true,_)] []
  (esD rfl (esD rfl (esD rfl (esD rfl (esC rfl (by first|rfl|exact evi (by omega)) (esD rfl (esD rfl eZ)))))))
  (mS .here rfl (mS .here rfl mN)) ?_ ?_
 ·refine ⟨?_,?_,?_,?_,?_,?_⟩
  ·(try dsimp only)<;>(first|omega|rfl|assumption|(simp; done))
  ·(try dsimp only)<;>(exact ro_zero (by omega) rfl (by omega) (by omega) eL26 eL31 eL32)
  ·(try dsimp only)<;>(rfl)
  ·(try dsimp only)<;>(rfl)
  ·(try dsimp only)<;>(exact bnil)
  (try dsimp only)<;>(exact fun j h=>absurd h (Nat.not_lt_zero _))
 intro gh N0 Gl0 hN0 hGl0 hF0
 obtain ⟨k,v,O,vp,P,rs,last⟩:=gh; dsimp only at hF0 hN0 ⊢
 obtain ⟨hk,eO,eP,er,el,hno⟩:=hF0
 have hs:=hs.mono hGl0
 obtain ⟨hev,hsz⟩:=bu_sz c1k
 have lO:O.length≤1048576:=by rw [eO]; exact out_bd (by omega) (by omega) hno
 have lP:P.length=4*rs:=by rw [eP,er,plcB_len]
 have lrs:rs≤k:=by rw [er]; exact rstB_le _ _
 have ll:last.size≤1032:=by rw [el]; exact last_bd hsz k
 refine .seq (.seq (rq4 rfl rfl (mV rfl rfl (mV rfl rfl (ln rfl .no Fx.sn31 (.u rfl) (cp rfl .no (.u rfl) (.u rfl) rfl (.nil (.code (.cond rfl (fun c2=>?_) (fun c2=>?_))))))))))
 ·have c2k:=c2
  try simp only [qcA,qcC,qcB] at c2
  refine .skip (.code (.seq (.block (.seq (rq6 rfl rfl (mV rfl rfl (mV rfl rfl (ih rfl .no Fx.se31 (.u rfl) (.u rfl) (fun _=>by omega) (fun _=>by omega) (fun _=>hs.nn (k:=k) (by first|omega|(simp only [Bool.and_eq_true,decide_eq_true_eq] at hc; omega)|(simp only [List.length_cons,List.length_nil]; omega))) ?_))))))))
  obtain ⟨x,ex⟩:=getx (k:=k) (xs:=l) (by omega)
  refine lA rfl .no Fx.ag47 (.u rfl) (fun _=>(hs.at (by omega) ex).rd) (fun _=>Ent.len _) ?_
  have hxx:=hsz x (List.mem_of_getElem? ex)
  refine kv rfl .no Fx.go79 (Evc rfl Evn) (fun _=>r8Lay_ok x _ (by omega)) ?_
  refine aS rfl rfl (.nil (.code (.seq ?_)))
  have hks:=key_sz x
  have hcl:=comL_le (yb last) (yb (bstr (keyE x)))
  rw [yb_len,yb_len] at hcl
  refine rq4 rfl rfl (mV rfl rfl (mV rfl rfl (kv rfl .no Fx.go80 (Evc rfl (Evc rfl Evn)) (fun _=>shared_ok last (bstr (keyE x)) _ (by omega)) ?_)))
  refine aS rfl rfl (.nil (.code (.seq (.seq (rq4 rfl rfl (mV rfl rfl (mV rfl rfl (rmn (k) ((every).toNat) rfl .no (.u rfl) (.u rfl) (fun _=>by omega) (fun _=>by omega) (fun _=>by first|decide|omega) ?_))))))))
  refine cp rfl .no (.u rfl) (.u rfl) rfl (.nil (.code (.cond rfl (fun c3=>?_) (fun c3=>?_))))
  ·have c3k:=c3
   try simp only [qcA,qcC,qcB] at c3
   refine .seq (rq1 rfl rfl (aS rfl rfl (.nil (.code (.seq (rq7 rfl rfl (mV rfl rfl (mV rfl rfl (lr rfl .no Fx.sn34 (.u rfl) tk1 ?_)))))))))
   refine ci rfl .no rfl Fx.cv3_24 (.u rfl) ?_
   refine kc rfl Fx.go51 (Evc rfl (Evc rfl Evn)) (Ct.frzB (fFix_ok _ 4 _ (by decide))) ?_
   rintro _ G55 μ55 hG55 ⟨h55,L55,eL55,rfl,rfl,hs55⟩
   have lL55:L55.length=4:=by rw [eL55]; exact fix_len _ _
   have hs:=hs.mono hG55
   refine apY rfl Fx.se34 Fx.zv5 (.u rfl) (.u rfl) .here hs55.sc (by (try simp only [qlA,yl_len]); omega) ?_
   intro v56 L56 ov56 eL56
   have lL56:L56.length=P.length+L55.length:=by rw [eL56,List.length_append]
   refine aS rfl rfl (.nil (.code (rq3 rfl rfl (mV rfl rfl (bw (k:=.u64) (b:=1#64) rfl .no rfl (.u rfl) (.u rfl) rfl (aS rfl rfl (.nil (.code (.seq (rq6 rfl rfl (mV rfl rfl (mV rfl rfl (ci rfl .no rfl Fx.cv3_24 (.u rfl) ?_)))))))))))))
   refine kc rfl Fx.go43 (Evc rfl Evn) (Ct.frzB (rrNum_ok _ _)) ?_
   rintro _ G62 μ62 hG62 ⟨h62,L62,eL62,rfl,rfl,hs62⟩
   have lL62:=nmy eL62
   have hs:=hs.mono hG62
   refine apY rfl Fx.se34 Fx.zv5 (.u rfl) (.u rfl) tk1 hs62.sc (by (try simp only [qlA,yl_len]); omega) ?_
   intro v63 L63 ov63 eL63
   have lL63:L63.length=O.length+L62.length:=by rw [eL63,List.length_append]
   refine aS rfl rfl (.nil (.code (.seq (rq9 rfl rfl (mV rfl rfl (mV rfl rfl (ls rfl .no Fx.st9 (.u rfl) (mV rfl rfl (ar rfl .no (.u rfl) (.u rfl) rfl (fun _=>wrap_i64 (by omega) (by omega)) ?_)))))))))
   refine ci rfl .no rfl Fx.cv3_24 (.u rfl) ?_
   refine kc rfl Fx.go43 (Evc rfl Evn) (Ct.frzB (rrNum_ok _ _)) ?_
   rintro _ G70 μ70 hG70 ⟨h70,L70,eL70,rfl,rfl,hs70⟩
   have lL70:=nmy eL70
   have hs:=hs.mono hG70
   have hs62:=hs62.mono hG70
   refine apY rfl Fx.se34 Fx.zv5 (.u rfl) (.u rfl) .here hs70.sc (by (try simp only [qlA,yl_len]); omega) ?_
   intro v71 L71 ov71 eL71
   have lL71:L71.length=L63.length+L70.length:=by rw [eL71,List.length_append]
   refine aS rfl rfl (.nil (.code (.seq (Wk.rg [0,1,2,3,4,5,6,7,8,9,10] rfl rfl (mV rfl rfl (mV rfl rfl (mV rfl rfl (ih rfl .no Fx.se31 (.u rfl) (.u rfl) (fun _=>by omega) (fun _=>by omega) (fun _=>hs.nn (k:=k) (by first|omega|(simp only [Bool.and_eq_true,decide_eq_true_eq] at hc; omega)|(simp only [List.length_cons,List.length_nil]; omega))) ?_))))))))
   refine fa rfl .no Fx.fo47_3 (.u rfl) (ld rfl .no Fx.ag9 (.u rfl) (fun _=>(hs.at (by omega) ex 3 _ rfl).rd) (ls rfl .no Fx.st9 (.u rfl) (ci rfl .no rfl Fx.cv3_24 (.u rfl) ?_)))
   refine kc rfl Fx.go43 (Evc rfl Evn) (Ct.frzB (rrNum_ok _ _)) ?_
   rintro _ G80 μ80 hG80 ⟨h80,L80,eL80,rfl,rfl,hs80⟩
   have lL80:=nmy eL80
   have hs:=hs.mono hG80
   have hs62:=hs62.mono hG80
   have hs70:=hs70.mono hG80
   refine apY rfl Fx.se34 Fx.zv5 (.u rfl) (.u rfl) .here hs80.sc (by (try simp only [qlA,yl_len]); omega) ?_
   intro v81 L81 ov81 eL81
   have lL81:L81.length=L71.length+L80.length:=by rw [eL81,List.length_append]
   refine aS rfl rfl (.nil (.code (.seq (rq7 rfl rfl (mV rfl rfl (mV rfl rfl (mV rfl rfl (sD (0) rfl .no Fx.st9 (.u rfl) (.u rfl) (fun _=>by omega) (fun _=>by omega) ?_))))))))
   refine cvS rfl rfl Fx.sb9_34 (.u rfl) ?_; intro G86 h86 hG86 hs86
   have hs:=hs.mono hG86
   have hs62:=hs62.mono hG86
   have hs70:=hs70.mono hG86
   have hs80:=hs80.mono hG86
   refine apY rfl Fx.se34 Fx.zv5 (.u rfl) (.u rfl) .here hs86.sc (by rw [yb_len,bstr_len,List.length_drop,yb_len]; omega) ?_
   intro v87 L87 ov87 eL87
   have lL87:L87.length=L81.length+(yb (bstr ((yb (bstr (keyE x))).drop 0))).length:=by rw [eL87,List.length_append]
   refine aS rfl rfl (.nil (.code (.seq (rq9 rfl rfl (mV rfl rfl (mV rfl rfl (mV rfl rfl (ih rfl .no Fx.se31 (.u rfl) (.u rfl) (fun _=>by omega) (fun _=>by omega) (fun _=>hs.nn (k:=k) (by first|omega|(simp only [Bool.and_eq_true,decide_eq_true_eq] at hc; omega)|(simp only [List.length_cons,List.length_nil]; omega))) ?_))))))))
   refine fa rfl .no Fx.fo47_3 (.u rfl) (ld rfl .no Fx.ag9 (.u rfl) (fun _=>(hs.at (by omega) ex 3 _ rfl).rd) ?_)
   refine cvS rfl rfl Fx.sb9_34 (.u rfl) ?_; intro G94 h94 hG94 hs94
   have hs:=hs.mono hG94
   have hs62:=hs62.mono hG94
   have hs70:=hs70.mono hG94
   have hs80:=hs80.mono hG94
   have hs86:=hs86.mono hG94
   have lL87b:L87.length≤L81.length+(bstr (keyE x)).size:=by rw [eL87,List.length_append,yb_len,bstr_len,List.length_drop,yb_len]; omega
   refine apY rfl Fx.se34 Fx.zv5 (.u rfl) (.u rfl) .here hs94.sc (by rw [yb_len]; omega) ?_
   intro v95 L95 ov95 eL95
   have lL95:L95.length=L87.length+(yb x.value).length:=by rw [eL95,List.length_append]
   refine aS rfl rfl (.nil (.code (.seq (.seq (rq3 rfl rfl (mV rfl rfl (lr rfl .no Fx.sn34 (.u rfl) .here ?_)))))))
   refine cp rfl .no (.u rfl) (.u rfl) rfl (.nil (.code (.cond rfl (fun c4=>?_) (fun c4=>?_))))
   ·have c4k:=c4
    try simp only [qcA,qcC,qcB] at c4
    refine .seq (rq2 rfl rfl (aS rfl rfl (aS rfl rfl (.nil (.code (.ret (we_nilB 5 ?_)))))))
    refine We.fin Tryz.results38 (.tmp rfl (.tmp rfl .nil)) (mS .here rfl mN) ?_
    have eB95:L95=outB every.toNat l (k+1):=bo_step (anew:=true) ex el c3k.symm (by rw [← eO]; exact rd_fin (k:=0) (by omega) (by omega) com_new.symm eL62 eL63 eL70 eL71 eL80 eL81 eL87 eL95)
    exact ⟨_,[],4,bu_long1 c1k (k:=k) (by omega) (by rw [← eB95]; omega),rfl,rfl⟩
   have c4k:=c4
   try simp only [qcA,qcC,qcB] at c4
   refine .skip (.code (rq2 rfl rfl (mV rfl rfl (aS rfl rfl (.nil (.blk (.code (rq3 rfl rfl (mV rfl rfl (arn (((k+1):Nat):Int) rfl .no (.u rfl) (.u rfl) rfl (fun _=>by omega) (fun _=>wrap_i64 (by omega) (by omega)) ?_))))))))))
   refine aS rfl rfl (.nil ?_)
   have eB95:L95=outB every.toNat l (k+1):=bo_step (anew:=true) ex el c3k.symm (by rw [← eO]; exact rd_fin (k:=0) (by omega) (by omega) com_new.symm eL62 eL63 eL70 eL71 eL80 eL81 eL87 eL95)
   refine We.lpo (k+1,v95,L95,v56,L56,rs+1,bstr (keyE x)) ?_ ?_ ?_ ?_ ?_
   ·exact (esD rfl (esD rfl (esC rfl (congrArg (uv .u64) (rst_w rs)) (esD rfl (esC rfl (by first|rfl|exact evi (by omega)) (esD rfl (esD rfl eZ)))))))
   ·exact (mS tk1 rfl (mS .here rfl mN))
   ·first|omega|(dsimp only; omega)
   ·exact ((((((hGl0).trans hG55).trans hG62).trans hG70).trans hG80).trans hG86).trans hG94
   refine ⟨?_,?_,?_,?_,?_,?_⟩
   ·(try dsimp only)<;>(first|omega|rfl|assumption|(simp; done))
   ·(try dsimp only)<;>(exact eB95)
   ·(try dsimp only)<;>(exact plc_step c3k.symm eO eP (by rw [if_pos rfl,eL56,eL55]; rfl))
   ·(try dsimp only)<;>(exact rst_step (anew:=true) c3k.symm er)
   ·(try dsimp only)<;>(exact (congrArg bstr (last_le ex)).symm)
   (try dsimp only)<;>(exact bu_snoc hno (by rw [← eB95]; omega))
  have c3k:=c3
  try simp only [qcA,qcC,qcB] at c3
  refine .skip (.code (.seq (rq6 rfl rfl (mV rfl rfl (mV rfl rfl (ci rfl .no rfl Fx.cv3_24 (.u rfl) ?_))))))
  refine kc rfl Fx.go43 (Evc rfl Evn) (Ct.frzB (rrNum_ok _ _)) ?_
  rintro _ G62 μ62 hG62 ⟨h62,L62,eL62,rfl,rfl,hs62⟩
  have lL62:=nmy eL62
  have hs:=hs.mono hG62
  refine apY rfl Fx.se34 Fx.zv5 (.u rfl) (.u rfl) tk1 hs62.sc (by (try simp only [qlA,yl_len]); omega) ?_
  intro v63 L63 ov63 eL63
  have lL63:L63.length=O.length+L62.length:=by rw [eL63,List.length_append]
  refine aS rfl rfl (.nil (.code (.seq (rq9 rfl rfl (mV rfl rfl (mV rfl rfl (ls rfl .no Fx.st9 (.u rfl) (mV rfl rfl (ar rfl .no (.u rfl) (.u rfl) rfl (fun _=>wrap_i64 (by omega) (by omega)) ?_)))))))))
  refine ci rfl .no rfl Fx.cv3_24 (.u rfl) ?_
  refine kc rfl Fx.go43 (Evc rfl Evn) (Ct.frzB (rrNum_ok _ _)) ?_
  rintro _ G70 μ70 hG70 ⟨h70,L70,eL70,rfl,rfl,hs70⟩
  have lL70:=nmy eL70
  have hs:=hs.mono hG70
  refine apY rfl Fx.se34 Fx.zv5 (.u rfl) (.u rfl) .here hs70.sc (by (try simp only [qlA,yl_len]); omega) ?_
  intro v71 L71 ov71 eL71
  have lL71:L71.length=L63.length+L70.length:=by rw [eL71,List.length_append]
  refine aS rfl rfl (.nil (.code (.seq (Wk.rg [0,1,2,3,4,5,6,7,8,9,10] rfl rfl (mV rfl rfl (mV rfl rfl (mV rfl rfl (ih rfl .no Fx.se31 (.u rfl) (.u rfl) (fun _=>by omega) (fun _=>by omega) (fun _=>hs.nn (k:=k) (by first|omega|(simp only [Bool.and_eq_true,decide_eq_true_eq] at hc; omega)|(simp only [List.length_cons,List.length_nil]; omega))) ?_))))))))
  refine fa rfl .no Fx.fo47_3 (.u rfl) (ld rfl .no Fx.ag9 (.u rfl) (fun _=>(hs.at (by omega) ex 3 _ rfl).rd) (ls rfl .no Fx.st9 (.u rfl) (ci rfl .no rfl Fx.cv3_24 (.u rfl) ?_)))
  refine kc rfl Fx.go43 (Evc rfl Evn) (Ct.frzB (rrNum_ok _ _)) ?_
  rintro _ G80 μ80 hG80 ⟨h80,L80,eL80,rfl,rfl,hs80⟩
  have lL80:=nmy eL80
  have hs:=hs.mono hG80
  refine apY rfl Fx.se34 Fx.zv5 (.u rfl) (.u rfl) .here hs80.sc (by (try simp only [qlA,yl_len]); omega) ?_
  intro v81 L81 ov81 eL81
  have lL81:L81.length=L71.length+L80.length:=by rw [eL81,List.length_append]
  refine aS rfl rfl (.nil (.code (.seq (rq7 rfl rfl (mV rfl rfl (mV rfl rfl (mV rfl rfl (sD ((comL (yb last) (yb (bstr (keyE x))))) rfl .no Fx.st9 (.u rfl) (.u rfl) (fun _=>by omega) (fun _=>by omega) ?_))))))))
  refine cvS rfl rfl Fx.sb9_34 (.u rfl) ?_; intro G86 h86 hG86 hs86
  have hs:=hs.mono hG86
  refine apY rfl Fx.se34 Fx.zv5 (.u rfl) (.u rfl) .here hs86.sc (by rw [yb_len,bstr_len,List.length_drop,yb_len]; omega) ?_
  intro v87 L87 ov87 eL87
  have lL87:L87.length=L81.length+(yb (bstr ((yb (bstr (keyE x))).drop (comL (yb last) (yb (bstr (keyE x))))))).length:=by rw [eL87,List.length_append]
  refine aS rfl rfl (.nil (.code (.seq (rq9 rfl rfl (mV rfl rfl (mV rfl rfl (mV rfl rfl (ih rfl .no Fx.se31 (.u rfl) (.u rfl) (fun _=>by omega) (fun _=>by omega) (fun _=>hs.nn (k:=k) (by first|omega|(simp only [Bool.and_eq_true,decide_eq_true_eq] at hc; omega)|(simp only [List.length_cons,List.length_nil]; omega))) ?_))))))))
  refine fa rfl .no Fx.fo47_3 (.u rfl) (ld rfl .no Fx.ag9 (.u rfl) (fun _=>(hs.at (by omega) ex 3 _ rfl).rd) ?_)
  refine cvS rfl rfl Fx.sb9_34 (.u rfl) ?_; intro G94 h94 hG94 hs94
  have lL87b:L87.length≤L81.length+(bstr (keyE x)).size:=by rw [eL87,List.length_append,yb_len,bstr_len,List.length_drop,yb_len]; omega
  refine apY rfl Fx.se34 Fx.zv5 (.u rfl) (.u rfl) .here hs94.sc (by rw [yb_len]; omega) ?_
  intro v95 L95 ov95 eL95
  have lL95:L95.length=L87.length+(yb x.value).length:=by rw [eL95,List.length_append]
  refine aS rfl rfl (.nil (.code (.seq (.seq (rq3 rfl rfl (mV rfl rfl (lr rfl .no Fx.sn34 (.u rfl) .here ?_)))))))
  refine cp rfl .no (.u rfl) (.u rfl) rfl (.nil (.code (.cond rfl (fun c5=>?_) (fun c5=>?_))))
  ·have c5k:=c5
   try simp only [qcA,qcC,qcB] at c5
   refine .seq (rq2 rfl rfl (aS rfl rfl (aS rfl rfl (.nil (.code (.ret (we_nilB 5 ?_)))))))
   refine We.fin Tryz.results38 (.tmp rfl (.tmp rfl .nil)) (mS .here rfl mN) ?_
   have eB95:L95=outB every.toNat l (k+1):=bo_step (anew:=false) ex el c3k.symm (by rw [← eO]; exact rd_fin (k:=(comL (yb last) (yb (bstr (keyE x))))) (by omega) (by omega) (by rw [com_old,yb_bstr]) eL62 eL63 eL70 eL71 eL80 eL81 eL87 eL95)
   exact ⟨_,[],4,bu_long1 c1k (k:=k) (by omega) (by rw [← eB95]; omega),rfl,rfl⟩
  have c5k:=c5
  try simp only [qcA,qcC,qcB] at c5
  refine .skip (.code (rq2 rfl rfl (mV rfl rfl (aS rfl rfl (.nil (.blk (.code (rq3 rfl rfl (mV rfl rfl (arn (((k+1):Nat):Int) rfl .no (.u rfl) (.u rfl) rfl (fun _=>by omega) (fun _=>wrap_i64 (by omega) (by omega)) ?_))))))))))
  refine aS rfl rfl (.nil ?_)
  have eB95:L95=outB every.toNat l (k+1):=bo_step (anew:=false) ex el c3k.symm (by rw [← eO]; exact rd_fin (k:=(comL (yb last) (yb (bstr (keyE x))))) (by omega) (by omega) (by rw [com_old,yb_bstr]) eL62 eL63 eL70 eL71 eL80 eL81 eL87 eL95)
  refine We.lpo (k+1,v95,L95,vp,P,rs,bstr (keyE x)) ?_ ?_ ?_ ?_ ?_
  ·exact (esD rfl (esD rfl (esD rfl (esD rfl (esC rfl (by first|rfl|exact evi (by omega)) (esD rfl (esD rfl eZ)))))))
  ·exact (mS tk1 rfl (mS .here rfl mN))
  ·first|omega|(dsimp only; omega)
  ·exact (((((hGl0).trans hG62).trans hG70).trans hG80).trans hG86).trans hG94
  refine ⟨?_,?_,?_,?_,?_,?_⟩
  ·(try dsimp only)<;>(first|omega|rfl|assumption|(simp; done))
  ·(try dsimp only)<;>(exact eB95)
  ·(try dsimp only)<;>(exact plc_step (anew:=false) c3k.symm eO eP (by rw [if_neg (by decide)]))
  ·(try dsimp only)<;>(exact rst_step (anew:=false) c3k.symm er)
  ·(try dsimp only)<;>(exact (congrArg bstr (last_le ex)).symm)
  (try dsimp only)<;>(exact bu_snoc hno (by rw [← eB95]; omega))
 have c2k:=c2
 try simp only [qcA,qcC,qcB] at c2
 refine .exit (.xcode (.xlp (.xblk (.code (.seq ?_)))))
 refine wk_fb .here (by first|(intro b hb; cases hb; done) | simp [keys,Res.keys]) ?_; intro GfRP hRP hleRP evRP hsRP; subst evRP
 refine rq4 rfl rfl (mV rfl rfl (mV rfl rfl (apY rfl Fx.se34 Fx.zv5 (.u rfl) (.u rfl) .here hsRP.sc (by (try simp only [qlA,yl_len]); omega) ?_)))
 intro v102 L102 ov102 eL102
 have lL102:L102.length=O.length+P.length:=by rw [eL102,List.length_append]
 refine aS rfl rfl (.nil (.code (.seq (rq5 rfl rfl (mV rfl rfl (mV rfl rfl (kc rfl Fx.go51 (Evc rfl (Evc rfl Evn)) (Ct.frzB (fFix_ok _ 4 _ (by decide))) ?_)))))))
 rintro _ G105 μ105 hG105 ⟨h105,L105,eL105,rfl,rfl,hs105⟩
 have lL105:L105.length=4:=by rw [eL105]; exact fix_len _ _
 refine apY rfl Fx.se34 Fx.zv5 (.u rfl) (.u rfl) .here hs105.sc (by (try simp only [qlA,yl_len]); omega) ?_
 intro v106 L106 ov106 eL106
 have lL106:L106.length=L102.length+L105.length:=by rw [eL106,List.length_append]
 refine aS rfl rfl (.nil (.code (.seq (.seq (rq3 rfl rfl (mV rfl rfl (lr rfl .no Fx.sn34 (.u rfl) .here ?_)))))))
 refine cp rfl .no (.u rfl) (.u rfl) rfl (.nil (.code (.cond rfl (fun c6=>?_) (fun c6=>?_))))
 ·have c6k:=c6
  try simp only [qcA,qcC,qcB] at c6
  refine .seq (rq2 rfl rfl (aS rfl rfl (aS rfl rfl (.nil (.code (.ret (we_nilB 5 ?_)))))))
  refine We.fin Tryz.results38 (.tmp rfl (.tmp rfl .nil)) (mS .here rfl mN) ?_
  obtain rfl:k=l.length:=by omega
  exact ⟨_,[],4,bu_long2 c1k (by rw [← bu_al eO eP er eL102 eL105 eL106]; omega),rfl,rfl⟩
 have c6k:=c6
 try simp only [qcA,qcC,qcB] at c6
 refine .skip (.code (.seq (rq3 rfl rfl (mV rfl rfl (aS rfl rfl (aS rfl rfl (.nil (.code (.ret (We.fin Tryz.results38 (.tmp rfl (.tmp rfl .nil)) (mS .here rfl mN) ?_))))))))))
 obtain rfl:k=l.length:=by omega
 have eB:=bu_al eO eP er eL102 eL105 eL106
 exact ⟨_,L106,0,by rw [eB]; exact bu_ok c1k hno (by rw [← eB]; omega),rfl,rfl⟩
namespace Fx
theorem go122:goFn Tryz.prog 122=true:=by kernel_rfl
theorem go87:goFn Tryz.prog 87=true:=by kernel_rfl
theorem go88:goFn Tryz.prog 88=true:=by kernel_rfl
end Fx
theorem bits_ok (bits:Int) (G:PM):Ct Tryz.prog 87 ([.int .i64 bits]:List Value).toArray G [] (fun _ μ' u=>μ'=[]∧u=.tuple #[.int .i64 (perB bits:Int),.int .i64 (prbB bits:Int)]):=by
 refine Ct.of Tryz.func87 rfl Tryz.ntmps87 rfl fun w0 hs0=>?_
 refine .seq (rq2 rfl rfl (aS rfl rfl (aS rfl rfl (.nil (.code (.seq (rq2 rfl rfl (mV rfl rfl (aS rfl rfl (.nil (.code (.seq (.seq (rq2 rfl rfl (mV rfl rfl (cp rfl .no (.u rfl) (.u rfl) rfl (.nil (.code (.cond rfl (fun c1=>?_) (fun c1=>?_))))))))))))))))))))
 ·have c1k:=c1
  try simp only [qcA,qcB] at c1
  refine rq1 rfl rfl (aS rfl rfl (.nil (.code (.seq (.seq (rq2 rfl rfl (mV rfl rfl (cp rfl .no (.u rfl) (.u rfl) rfl (.nil (.code (.cond rfl (fun c2=>?_) (fun c2=>?_))))))))))))
  ·have c2k:=c2
   try simp only [qcA,qcB] at c2
   refine rq1 rfl rfl (aS rfl rfl (.nil (.code (.seq (rq4 rfl rfl (mV rfl rfl (arn (((69*64):Nat):Int) rfl .no (.u rfl) (.u rfl) rfl (fun _=>by omega) (fun _=>wrap_i64 (by omega) (by omega)) ?_)))))))
   refine qun ((69*64)) (100) rfl .no (.u rfl) (.u rfl) (fun _=>by omega) (fun _=>by omega) (fun _=>by first|decide|omega) (fun _=>by omega) ?_
   refine aS rfl rfl (.nil (.code (.seq (.seq (rq2 rfl rfl (mV rfl rfl (cp rfl .no (.u rfl) (.u rfl) rfl (.nil (.code (.cond rfl (fun c3=>?_) (fun c3=>?_)))))))))))
   ·have c3k:=c3
    try simp only [qcA,qcB] at c3
    refine rq1 rfl rfl (aS rfl rfl (.nil (.code (.seq (.seq (rq2 rfl rfl (mV rfl rfl (cp rfl .no (.u rfl) (.u rfl) rfl (.nil (.code (.cond rfl (fun c4=>?_) (fun c4=>?_))))))))))))
    ·have c4k:=c4
     try simp only [qcA,qcB] at c4
     refine rq1 rfl rfl (aS rfl rfl (.nil (.code (.seq (rq4 rfl rfl (mV rfl rfl (mV rfl rfl (aS rfl rfl (aS rfl rfl (.nil (.code (.ret (We.fin0 Tryz.results87 (.tmp rfl (.tmp rfl .nil)) ?_)))))))))))))
     have hq:=bits_ab bits
     exact ⟨rfl,bits_val (by omega) (by omega)⟩
    have c4k:=c4
    try simp only [qcA,qcB] at c4
    refine .skip (.code (.seq (rq4 rfl rfl (mV rfl rfl (mV rfl rfl (aS rfl rfl (aS rfl rfl (.nil (.code (.ret (We.fin0 Tryz.results87 (.tmp rfl (.tmp rfl .nil)) ?_)))))))))))
    have hq:=bits_ab bits
    exact ⟨rfl,bits_val (by omega) (by omega)⟩
   have c3k:=c3
   try simp only [qcA,qcB] at c3
   refine .skip (.code (.seq (.seq (rq2 rfl rfl (mV rfl rfl (cp rfl .no (.u rfl) (.u rfl) rfl (.nil (.code (.cond rfl (fun c5=>?_) (fun c5=>?_))))))))))
   ·have c5k:=c5
    try simp only [qcA,qcB] at c5
    refine rq1 rfl rfl (aS rfl rfl (.nil (.code (.seq (rq4 rfl rfl (mV rfl rfl (mV rfl rfl (aS rfl rfl (aS rfl rfl (.nil (.code (.ret (We.fin0 Tryz.results87 (.tmp rfl (.tmp rfl .nil)) ?_)))))))))))))
    have hq:=bits_ab bits
    exact ⟨rfl,bits_val (by omega) (by omega)⟩
   have c5k:=c5
   try simp only [qcA,qcB] at c5
   refine .skip (.code (.seq (rq4 rfl rfl (mV rfl rfl (mV rfl rfl (aS rfl rfl (aS rfl rfl (.nil (.code (.ret (We.fin0 Tryz.results87 (.tmp rfl (.tmp rfl .nil)) ?_)))))))))))
   have hq:=bits_ab bits
   exact ⟨rfl,bits_val (by omega) (by omega)⟩
  have c2k:=c2
  try simp only [qcA,qcB] at c2
  refine .skip (.code (.seq (rq4 rfl rfl (mV rfl rfl (arn (((69*1):Nat):Int) rfl .no (.u rfl) (.u rfl) rfl (fun _=>by omega) (fun _=>wrap_i64 (by omega) (by omega)) ?_)))))
  refine qun ((69*1)) (100) rfl .no (.u rfl) (.u rfl) (fun _=>by omega) (fun _=>by omega) (fun _=>by first|decide|omega) (fun _=>by omega) ?_
  refine aS rfl rfl (.nil (.code (.seq (.seq (rq2 rfl rfl (mV rfl rfl (cp rfl .no (.u rfl) (.u rfl) rfl (.nil (.code (.cond rfl (fun c6=>?_) (fun c6=>?_)))))))))))
  ·have c6k:=c6
   try simp only [qcA,qcB] at c6
   refine rq1 rfl rfl (aS rfl rfl (.nil (.code (.seq (.seq (rq2 rfl rfl (mV rfl rfl (cp rfl .no (.u rfl) (.u rfl) rfl (.nil (.code (.cond rfl (fun c7=>?_) (fun c7=>?_))))))))))))
   ·have c7k:=c7
    try simp only [qcA,qcB] at c7
    refine rq1 rfl rfl (aS rfl rfl (.nil (.code (.seq (rq4 rfl rfl (mV rfl rfl (mV rfl rfl (aS rfl rfl (aS rfl rfl (.nil (.code (.ret (We.fin0 Tryz.results87 (.tmp rfl (.tmp rfl .nil)) ?_)))))))))))))
    have hq:=bits_ab bits
    exact ⟨rfl,bits_val (by omega) (by omega)⟩
   have c7k:=c7
   try simp only [qcA,qcB] at c7
   refine .skip (.code (.seq (rq4 rfl rfl (mV rfl rfl (mV rfl rfl (aS rfl rfl (aS rfl rfl (.nil (.code (.ret (We.fin0 Tryz.results87 (.tmp rfl (.tmp rfl .nil)) ?_)))))))))))
   have hq:=bits_ab bits
   exact ⟨rfl,bits_val (by omega) (by omega)⟩
  have c6k:=c6
  try simp only [qcA,qcB] at c6
  refine .skip (.code (.seq (.seq (rq2 rfl rfl (mV rfl rfl (cp rfl .no (.u rfl) (.u rfl) rfl (.nil (.code (.cond rfl (fun c8=>?_) (fun c8=>?_))))))))))
  ·have c8k:=c8
   try simp only [qcA,qcB] at c8
   refine rq1 rfl rfl (aS rfl rfl (.nil (.code (.seq (rq4 rfl rfl (mV rfl rfl (mV rfl rfl (aS rfl rfl (aS rfl rfl (.nil (.code (.ret (We.fin0 Tryz.results87 (.tmp rfl (.tmp rfl .nil)) ?_)))))))))))))
   have hq:=bits_ab bits
   exact ⟨rfl,bits_val (by omega) (by omega)⟩
  have c8k:=c8
  try simp only [qcA,qcB] at c8
  refine .skip (.code (.seq (rq4 rfl rfl (mV rfl rfl (mV rfl rfl (aS rfl rfl (aS rfl rfl (.nil (.code (.ret (We.fin0 Tryz.results87 (.tmp rfl (.tmp rfl .nil)) ?_)))))))))))
  have hq:=bits_ab bits
  exact ⟨rfl,bits_val (by omega) (by omega)⟩
 have c1k:=c1
 try simp only [qcA,qcB] at c1
 refine .skip (.code (.seq (.seq (rq2 rfl rfl (mV rfl rfl (cp rfl .no (.u rfl) (.u rfl) rfl (.nil (.code (.cond rfl (fun c9=>?_) (fun c9=>?_))))))))))
 ·have c9k:=c9
  try simp only [qcA,qcB] at c9
  refine rq1 rfl rfl (aS rfl rfl (.nil (.code (.seq (rq4 rfl rfl (mV rfl rfl (arn (((69*64):Nat):Int) rfl .no (.u rfl) (.u rfl) rfl (fun _=>by omega) (fun _=>wrap_i64 (by omega) (by omega)) ?_)))))))
  refine qun ((69*64)) (100) rfl .no (.u rfl) (.u rfl) (fun _=>by omega) (fun _=>by omega) (fun _=>by first|decide|omega) (fun _=>by omega) ?_
  refine aS rfl rfl (.nil (.code (.seq (.seq (rq2 rfl rfl (mV rfl rfl (cp rfl .no (.u rfl) (.u rfl) rfl (.nil (.code (.cond rfl (fun c10=>?_) (fun c10=>?_)))))))))))
  ·have c10k:=c10
   try simp only [qcA,qcB] at c10
   refine rq1 rfl rfl (aS rfl rfl (.nil (.code (.seq (.seq (rq2 rfl rfl (mV rfl rfl (cp rfl .no (.u rfl) (.u rfl) rfl (.nil (.code (.cond rfl (fun c11=>?_) (fun c11=>?_))))))))))))
   ·have c11k:=c11
    try simp only [qcA,qcB] at c11
    refine rq1 rfl rfl (aS rfl rfl (.nil (.code (.seq (rq4 rfl rfl (mV rfl rfl (mV rfl rfl (aS rfl rfl (aS rfl rfl (.nil (.code (.ret (We.fin0 Tryz.results87 (.tmp rfl (.tmp rfl .nil)) ?_)))))))))))))
    have hq:=bits_ab bits
    exact ⟨rfl,bits_val (by omega) (by omega)⟩
   have c11k:=c11
   try simp only [qcA,qcB] at c11
   refine .skip (.code (.seq (rq4 rfl rfl (mV rfl rfl (mV rfl rfl (aS rfl rfl (aS rfl rfl (.nil (.code (.ret (We.fin0 Tryz.results87 (.tmp rfl (.tmp rfl .nil)) ?_)))))))))))
   have hq:=bits_ab bits
   exact ⟨rfl,bits_val (by omega) (by omega)⟩
  have c10k:=c10
  try simp only [qcA,qcB] at c10
  refine .skip (.code (.seq (.seq (rq2 rfl rfl (mV rfl rfl (cp rfl .no (.u rfl) (.u rfl) rfl (.nil (.code (.cond rfl (fun c12=>?_) (fun c12=>?_))))))))))
  ·have c12k:=c12
   try simp only [qcA,qcB] at c12
   refine rq1 rfl rfl (aS rfl rfl (.nil (.code (.seq (rq4 rfl rfl (mV rfl rfl (mV rfl rfl (aS rfl rfl (aS rfl rfl (.nil (.code (.ret (We.fin0 Tryz.results87 (.tmp rfl (.tmp rfl .nil)) ?_)))))))))))))
   have hq:=bits_ab bits
   exact ⟨rfl,bits_val (by omega) (by omega)⟩
  have c12k:=c12
  try simp only [qcA,qcB] at c12
  refine .skip (.code (.seq (rq4 rfl rfl (mV rfl rfl (mV rfl rfl (aS rfl rfl (aS rfl rfl (.nil (.code (.ret (We.fin0 Tryz.results87 (.tmp rfl (.tmp rfl .nil)) ?_)))))))))))
  have hq:=bits_ab bits
  exact ⟨rfl,bits_val (by omega) (by omega)⟩
 have c9k:=c9
 try simp only [qcA,qcB] at c9
 refine .skip (.code (.seq (rq4 rfl rfl (mV rfl rfl (ar rfl .no (.u rfl) (.u rfl) rfl (fun _=>wrap_i64 (by omega) (by omega)) ?_)))))
 refine qun ((((69:Int)*bits)).toNat) (100) rfl .no (.u rfl) (.u rfl) (fun _=>by omega) (fun _=>by omega) (fun _=>by first|decide|omega) (fun _=>by omega) ?_
 refine aS rfl rfl (.nil (.code (.seq (.seq (rq2 rfl rfl (mV rfl rfl (cp rfl .no (.u rfl) (.u rfl) rfl (.nil (.code (.cond rfl (fun c13=>?_) (fun c13=>?_)))))))))))
 ·have c13k:=c13
  try simp only [qcA,qcB] at c13
  refine rq1 rfl rfl (aS rfl rfl (.nil (.code (.seq (.seq (rq2 rfl rfl (mV rfl rfl (cp rfl .no (.u rfl) (.u rfl) rfl (.nil (.code (.cond rfl (fun c14=>?_) (fun c14=>?_))))))))))))
  ·have c14k:=c14
   try simp only [qcA,qcB] at c14
   refine rq1 rfl rfl (aS rfl rfl (.nil (.code (.seq (rq4 rfl rfl (mV rfl rfl (mV rfl rfl (aS rfl rfl (aS rfl rfl (.nil (.code (.ret (We.fin0 Tryz.results87 (.tmp rfl (.tmp rfl .nil)) ?_)))))))))))))
   have hq:=bits_ab bits
   exact ⟨rfl,bits_val (by omega) (by omega)⟩
  have c14k:=c14
  try simp only [qcA,qcB] at c14
  refine .skip (.code (.seq (rq4 rfl rfl (mV rfl rfl (mV rfl rfl (aS rfl rfl (aS rfl rfl (.nil (.code (.ret (We.fin0 Tryz.results87 (.tmp rfl (.tmp rfl .nil)) ?_)))))))))))
  have hq:=bits_ab bits
  exact ⟨rfl,bits_val (by omega) (by omega)⟩
 have c13k:=c13
 try simp only [qcA,qcB] at c13
 refine .skip (.code (.seq (.seq (rq2 rfl rfl (mV rfl rfl (cp rfl .no (.u rfl) (.u rfl) rfl (.nil (.code (.cond rfl (fun c15=>?_) (fun c15=>?_))))))))))
 ·have c15k:=c15
  try simp only [qcA,qcB] at c15
  refine rq1 rfl rfl (aS rfl rfl (.nil (.code (.seq (rq4 rfl rfl (mV rfl rfl (mV rfl rfl (aS rfl rfl (aS rfl rfl (.nil (.code (.ret (We.fin0 Tryz.results87 (.tmp rfl (.tmp rfl .nil)) ?_)))))))))))))
  have hq:=bits_ab bits
  exact ⟨rfl,bits_val (by omega) (by omega)⟩
 have c15k:=c15
 try simp only [qcA,qcB] at c15
 refine .skip (.code (.seq (rq4 rfl rfl (mV rfl rfl (mV rfl rfl (aS rfl rfl (aS rfl rfl (.nil (.code (.ret (We.fin0 Tryz.results87 (.tmp rfl (.tmp rfl .nil)) ?_)))))))))))
 have hq:=bits_ab bits
 exact ⟨rfl,bits_val (by omega) (by omega)⟩
theorem places_ok (key:ByteArray) (n k:Nat) (G:PM) (hk:key.size≤1000000000) (h0:0<n) (hn:n<500000000) (hk2:k≤1000):Ct Tryz.prog 88 ([.string key,U (BitVec.ofInt 32 ((8*n:Nat):Int)),.int .i64 (k:Int)]:List Value).toArray G [] (fun G' μ' u=>∃ h':Sh,μ'=[]∧u=h'.val (plcs key n k).length∧SlR G' 1 encW h' (plcs key n k)):=by
 refine Ct.of Tryz.func88 rfl Tryz.ntmps88 rfl fun w0 hs0=>?_
 refine .seq (rq1 rfl rfl (aS rfl rfl (.nil (.code (.seq (rq4 rfl rfl (mV rfl rfl ?_)))))))
 refine cvS rfl rfl Fx.sb9_34 (.u rfl) ?_; intro G12 h12 hG12 hs12
 refine kv rfl .no Fx.go122 (Evc rfl (Evc rfl Evn)) (fun _=>rcrcMore_ok 0#32 (yb key) h12 _ hs12 (by rw [yb_len]; omega)) ?_
 refine aS rfl rfl (.nil (.code (.seq (rq7 rfl rfl (mV rfl rfl (dw (k:=.u32) (b:=131072#32) rfl .no rfl (.u rfl) (.u rfl) (fun _=>show (131072#32:BitVec 32)≠0#32 by decide) ?_))))))
 refine mV rfl rfl (mw (k:=.u32) (b:=131072#32) rfl .no (.u rfl) (.u rfl) (fun _=>show (131072#32:BitVec 32)≠0#32 by decide) ?_)
 refine bw (k:=.u32) (b:=32768#32) rfl .no rfl (.u rfl) (.u rfl) rfl (bw (k:=.u32) rfl .no rfl (.u rfl) (.u rfl) rfl (aS rfl rfl (.nil (.code (.seq (rq1 rfl rfl (aS rfl rfl (.nil (.code (.seq (.seq (wk_nilS 1 encW 139 ?_))))))))))))
 refine rq1 rfl rfl (aS rfl rfl (.nil (.code (.block ?_))))
 refine Wk.lop (α:=Nat×Value×List W) (fun gh=>[(7,true,U (hJ key gh.1)),(9,true,gh.2.1),(10,true,.int .i64 (gh.1:Int))]) (fun gh=>[rS 1 encW gh.2.1 139 gh.2.2])
  (fun gh Gl=>(gh.1≤k)∧(gh.2.2=plcs key n gh.1)) (fun gh=>k-gh.1) (0,.slice none 0 0,[]) [(1,true,_),(2,true,_),(8,true,_)] []
  (esD rfl (esD rfl (esC rfl (by first|rfl|exact evi (by omega)) (esD rfl (esD rfl (esD rfl eZ))))))
  (mS .here rfl mN) ?_ ?_
 ·refine ⟨?_,?_⟩
  ·(try dsimp only)<;>(first|omega|rfl|assumption|(simp; done))
  (try dsimp only)<;>(rfl)
 intro gh N0 Gl0 hN0 hGl0 hF0
 obtain ⟨j,v,ps⟩:=gh; dsimp only at hF0 hN0 ⊢
 obtain ⟨hj,ep⟩:=hF0
 have lp:ps.length=j:=by rw [ep,plcs_len]
 refine .seq (.seq (rq3 rfl rfl (mV rfl rfl (mV rfl rfl (cp rfl .no (.u rfl) (.u rfl) rfl (.nil (.code (.cond rfl (fun c1=>?_) (fun c1=>?_)))))))))
 ·have c1k:=c1
  try simp only [qcA,qcB] at c1
  refine .skip (.code (.seq (.block (.seq (rq7 rfl rfl (mV rfl rfl (mV rfl rfl (mV rfl rfl (mw (k:=.u32) (b:=BitVec.ofInt 32 ((8*n:Nat):Int)) rfl .no (.u rfl) (.u rfl) (fun _=>st_nz h0 hn) ?_)))))))))
  refine Go.Tan.b1 rfl Fx.se137 Fx.zv139 (.u rfl) rfl rfl (by decide) ?_; intro b29
  refine apS (xs:=ps) ((hJ key j%BitVec.ofInt 32 ((8*n:Nat):Int))) rfl Fx.se137 Fx.zv139 rfl (.u rfl) (.u rfl) tk1 .here (rfl) (one1 rfl) (by omega) (by unfold maxLen; omega) ?_; intro v30 ov30
  refine aS rfl rfl (.nil (.code (rq4 rfl rfl (mV rfl rfl (mV rfl rfl (bw (k:=.u32) rfl .no rfl (.u rfl) (.u rfl) rfl (aS rfl rfl (.nil (.blk (.code (rq3 rfl rfl (mV rfl rfl (arn (((j+1):Nat):Int) rfl .no (.u rfl) (.u rfl) rfl (fun _=>by omega) (fun _=>wrap_i64 (by omega) (by omega)) ?_)))))))))))))
  refine aS rfl rfl (.nil (We.lpo (j+1,v30,ps++[hJ key j%BitVec.ofInt 32 ((8*n:Nat):Int)]) ?_ ?_ ?_ ?_ ?_))
  ·exact (esC rfl (congrArg (fun z=>U z) (rot_step rfl rfl rfl)) (esD rfl (esC rfl (by first|rfl|exact evi (by omega)) (esD rfl (esD rfl (esD rfl eZ))))))
  ·exact (mS .here rfl mN)
  ·first|omega|(dsimp only; omega)
  ·exact hGl0
  refine ⟨?_,?_⟩
  ·(try dsimp only)<;>(first|omega|rfl|assumption|(simp; done))
  (try dsimp only)<;>(rw [ep]; exact plcs_snoc rfl)
 have c1k:=c1
 try simp only [qcA,qcB] at c1
 refine .exit (.xcode (.xlp (.xblk (.code (.seq (rq2 rfl rfl (mV rfl rfl (aS rfl rfl (.nil (.code (.ret ?_)))))))))))
 refine we_fs .here (fun _ _=>rfl) (by intro b hb; cases hb) ?_; intro GfRL hRL hleRL evRL hsRL; subst evRL
 refine We.fin0 Tryz.results88 (.tmp rfl .nil) ?_
 obtain rfl:j=k:=by omega
 subst ep
 exact ⟨hRL,rfl,rfl,hsRL⟩
theorem rMake_ok (h:Sh) (l:List ByteArray) (bits:Int) (G:PM) (hs:SlR G 1 encT h l) (hl:l.length≤100000) (hk:∀ s∈l,s.size≤1000000):Ct Tryz.prog 49 ([h.val l.length,.int .i64 bits]:List Value).toArray G [] (PR 5 (fun L=>L=makeB l bits)):=by
 refine Ct.of Tryz.func49 rfl Tryz.ntmps49 rfl fun w0 hs0=>?_
 have hpl:=perB_le bits; have hrl:=prbB_le bits
 have hm:l.length*perB bits≤6400000:=Nat.le_trans (Nat.mul_le_mul hl hpl.2) (by decide)
 refine .seq (rq1 rfl rfl (aS rfl rfl (.nil (.code (.seq (rq7 rfl rfl (mV rfl rfl (kv rfl .no Fx.go87 (Evc rfl Evn) (fun _=>bits_ok bits _) ?_))))))))
 refine mV rfl rfl (ex rfl .no (.u rfl) rfl (ex rfl .no (.u rfl) rfl (aS rfl rfl (aS rfl rfl (.nil (.code (.seq (rq5 rfl rfl (mV rfl rfl (ln rfl .no Fx.sn71 (.u rfl) (mV rfl rfl (arn (((l.length*perB bits):Nat):Int) rfl .no (.u rfl) (.u rfl) rfl (fun _=>rfl) (fun _=>wrap_i64 (by omega) (by omega)) ?_))))))))))))
 refine aS rfl rfl (.nil (.code (.seq (.seq (rq2 rfl rfl (mV rfl rfl (cp rfl .no (.u rfl) (.u rfl) rfl (.nil (.code (.cond rfl (fun c1=>?_) (fun c1=>?_)))))))))))
 ·have c1k:=c1
  try simp only [qcA,qcB] at c1
  refine rq1 rfl rfl (aS rfl rfl (.nil (.code (.seq (rq5 rfl rfl (mV rfl rfl (arn (((64+7):Nat):Int) rfl .no (.u rfl) (.u rfl) rfl (fun _=>by omega) (fun _=>wrap_i64 (by omega) (by omega)) ?_)))))))
  refine qun ((64+7)) (8) rfl .no (.u rfl) (.u rfl) (fun _=>by omega) (fun _=>by omega) (fun _=>by first|decide|omega) (fun _=>by omega) ?_
  refine mkY (((64+7) / 8)) (((64+7) / 8)) rfl Fx.se34 Fx.zv5 (.u rfl) (.u rfl) (by first|rfl|omega) (by first|rfl|omega) (by omega) (by omega) ?_; intro b26
  have lR26:(List.replicate (((64+7) / 8)) (0#8:Y)).length=((64+7) / 8):=List.length_replicate
  refine aS rfl rfl (.nil (.code (.seq (.seq (rq1 rfl rfl (aS rfl rfl (.nil (.code (.block ?_)))))))))
  refine Wk.lop (α:=Nat×List Y) (fun gh=>[(9,true,.int .i64 (gh.1:Int))]) (fun gh=>[rB (.slice (some ⟨b26,0,none⟩) (((64+7) / 8):Nat) (((64+7) / 8):Nat)) 5 gh.2])
   (fun gh Gl=>(gh.1≤l.length)∧(gh.2=keysB l bits gh.1)) (fun gh=>l.length-gh.1) (0,List.replicate ((64+7) / 8) 0#8) [(0,true,_),(6,true,_),(8,true,_)] []
   (esC rfl (by first|rfl|exact evi (by omega)) (esD rfl (esD rfl (esD rfl eZ))))
   (mS .here rfl mN) ?_ ?_
  ·refine ⟨?_,?_⟩
   ·(try dsimp only)<;>(first|omega|rfl|assumption|(simp; done))
   (try dsimp only)<;>(exact zb_eq (l:=l) (bits:=bits) (by omega))
  intro gh N0 Gl0 hN0 hGl0 hF0
  obtain ⟨k,M⟩:=gh; dsimp only at hF0 hN0 ⊢
  obtain ⟨hk2,eM⟩:=hF0
  have hs:=hs.mono hGl0
  have lM:M.length=(max 64 (l.length*perB bits)+7) / 8:=by rw [eM,keysB_len]
  refine .seq (.seq (rq4 rfl rfl (mV rfl rfl (mV rfl rfl (ln rfl .no Fx.sn71 (.u rfl) (cp rfl .no (.u rfl) (.u rfl) rfl (.nil (.code (.cond rfl (fun c2=>?_) (fun c2=>?_))))))))))
  ·have c2k:=c2
   try simp only [qcA,qcB] at c2
   refine .skip (.code (.seq (.block (.seq (Wk.rg [0,1,2,3,4,5,6,7,8,9,10] rfl rfl (mV rfl rfl (mV rfl rfl (ih rfl .no Fx.se71 (.u rfl) (.u rfl) (fun _=>by omega) (fun _=>by omega) (fun _=>hs.nn (k:=k) (by first|omega|(simp only [Bool.and_eq_true,decide_eq_true_eq] at hc; omega)|(simp only [List.length_cons,List.length_nil]; omega))) ?_))))))))
   obtain ⟨s,es⟩:=getx (k:=k) (xs:=l) (by omega)
   refine ld rfl .no Fx.ag9 (.u rfl) (fun _=>(hs.t1 k (by omega) es).rd) ?_
   refine mV rfl rfl (lr rfl .no Fx.sn34 (.u rfl) .here ?_)
   refine arn (((8*M.length):Nat):Int) rfl .no (.u rfl) (.u rfl) rfl (fun _=>by omega) (fun _=>wrap_i64 (by omega) (by omega)) ?_
   refine ci rfl .no rfl Fx.cv3_139 (.u rfl) ?_
   refine mV rfl rfl (kc rfl Fx.go88 (Evc rfl (Evc rfl (Evc rfl Evn))) (places_ok s M.length (prbB bits) _ (by have:=hk s (List.mem_of_getElem? es); omega) (by omega) (by omega) (by omega)) ?_)
   rintro _ G42 μ42 hG42 ⟨h42,rfl,rfl,hs42⟩
   have hs:=hs.mono hG42
   refine aS rfl rfl (.nil (.code (.seq ?_)))
   have hpx:=plcs_len s M.length (prbB bits)
   refine rq1 rfl rfl (aS rfl rfl (.nil (.code (.block ?_))))
   refine Wk.lop (α:=Nat×List Y) (fun gh=>[(11,true,.int .i64 (gh.1:Int))]) (fun gh=>[rB (.slice (some ⟨b26,0,none⟩) (((64+7) / 8):Nat) (((64+7) / 8):Nat)) 5 gh.2])
    (fun gh Gl=>(gh.1≤prbB bits)∧(gh.2=setL s M gh.1)) (fun gh=>prbB bits-gh.1) (0,M) [(0,true,_),(6,true,_),(8,true,_),(9,true,_),(10,true,_)] []
    (esC rfl (by first|rfl|exact evi (by omega)) (esD rfl (esD rfl (esD rfl (esD rfl (esD rfl eZ))))))
    (mS .here rfl mN) ?_ ?_
   ·refine ⟨?_,?_⟩
    ·(try dsimp only)<;>(first|omega|rfl|assumption|(simp; done))
    (try dsimp only)<;>(rfl)
   intro gh N1 Gl1 hN1 hGl1 hF1
   obtain ⟨j,M2⟩:=gh; dsimp only at hF1 hN1 ⊢
   obtain ⟨hj,eM2⟩:=hF1
   have hs:=hs.mono hGl1
   have hs42:=hs42.mono hGl1
   have lM2:M2.length=M.length:=by rw [eM2,setL_len]
   refine .seq (.seq (rq4 rfl rfl (mV rfl rfl (mV rfl rfl (ln rfl .no Fx.sn137 (.u rfl) (cp rfl .no (.u rfl) (.u rfl) rfl (.nil (.code (.cond rfl (fun c3=>?_) (fun c3=>?_))))))))))
   ·have c3k:=c3
    try simp only [qcA,qcB] at c3
    refine .skip (.code (.seq (.block ?_)))
    have hp8:(plcW s M.length j / 8#32).toNat<M2.length:=by rw [lM2]; exact rst_idx (by omega) (by omega)
    refine Wk.draw (mc:=⟨false,false⟩) [0,1,2,3,4,5,6,7,8,9,10,11,12,13,14,15,16,17,18,19,20,21,22] Fx.mix (by kernel_rfl) ?_
    refine mV rfl rfl (mV rfl rfl (mV rfl rfl (ih rfl .no Fx.se137 (.u rfl) (.u rfl) (fun _=>by omega) (fun _=>by omega) (fun _=>hs42.nn (k:=j) (by first|omega|(simp only [Bool.and_eq_true,decide_eq_true_eq] at hc; omega)|(simp only [List.length_cons,List.length_nil]; omega))) ?_)))
    refine ld rfl .no Fx.ag139 (.u rfl) (fun _=>(hs42.at (by omega) (plcs_get (s:=s) (n:=M.length) (k:=prbB bits) (j:=j) (by omega)) 0 _ rfl).rd) ?_
    refine dw (k:=.u32) (b:=8#32) rfl .no rfl (.u rfl) (.u rfl) (fun _=>show (8#32:BitVec 32)≠0#32 by decide) ?_
    refine mV rfl rfl (mV rfl rfl (mV rfl rfl (ih rfl .no Fx.se137 (.u rfl) (.u rfl) (fun _=>by omega) (fun _=>by omega) (fun _=>hs42.nn (k:=j) (by first|omega|(simp only [Bool.and_eq_true,decide_eq_true_eq] at hc; omega)|(simp only [List.length_cons,List.length_nil]; omega))) ?_)))
    refine ld rfl .no Fx.ag139 (.u rfl) (fun _=>(hs42.at (by omega) (plcs_get (s:=s) (n:=M.length) (k:=prbB bits) (j:=j) (by omega)) 0 _ rfl).rd) ?_
    refine dw (k:=.u32) (b:=8#32) rfl .no rfl (.u rfl) (.u rfl) (fun _=>show (8#32:BitVec 32)≠0#32 by decide) ?_
    refine ia rfl .no Fx.se34 (.u rfl) (.u rfl) (fun _=>Int.natCast_nonneg _) (fun _=>Int.ofNat_lt.2 (Nat.lt_of_lt_of_le hp8 (by omega))) ?_
    refine ld rfl .no Fx.ag5 (.u rfl) (fun _=>Rd.row .here (map_at1 _ (by rw [Nat.zero_add,Nat.mul_one]; rfl) hp8)) ?_
    refine mV rfl rfl (mV rfl rfl (ih rfl .no Fx.se137 (.u rfl) (.u rfl) (fun _=>by omega) (fun _=>by omega) (fun _=>hs42.nn (k:=j) (by first|omega|(simp only [Bool.and_eq_true,decide_eq_true_eq] at hc; omega)|(simp only [List.length_cons,List.length_nil]; omega))) ?_))
    refine ld rfl .no Fx.ag139 (.u rfl) (fun _=>(hs42.at (by omega) (plcs_get (s:=s) (n:=M.length) (k:=prbB bits) (j:=j) (by omega)) 0 _ rfl).rd) ?_
    refine mw (k:=.u32) (b:=8#32) rfl .no (.u rfl) (.u rfl) (fun _=>show (8#32:BitVec 32)≠0#32 by decide) ?_
    refine lw (k:=.u8) (a:=1#8) rfl .no rfl (.s rfl) (.u rfl) (fun _=>Int.natCast_nonneg _) ?_
    refine bw (k:=.u8) rfl .no rfl (.u rfl) (.u rfl) rfl (ia rfl .no Fx.se34 (.u rfl) (.u rfl) (fun _=>Int.natCast_nonneg _) (fun _=>Int.ofNat_lt.2 (Nat.lt_of_lt_of_le hp8 (by omega))) ?_)
    refine s1r rfl (.u rfl) (.u rfl) Fx.sz5 .here (by rw [Nat.zero_add,Nat.mul_one]; exact hp8) ?_; intro Ls13_22 eLs13_22 lLs13_22
    refine .nil (.blk (.code (rq3 rfl rfl (mV rfl rfl (arn (((j+1):Nat):Int) rfl .no (.u rfl) (.u rfl) rfl (fun _=>by omega) (fun _=>wrap_i64 (by omega) (by omega)) ?_)))))
    refine aS rfl rfl (.nil (We.lpo (j+1,Ls13_22) ?_ ?_ ?_ ?_ ?_))
    ·exact (esC rfl (by first|rfl|exact evi (by omega)) (esD rfl (esD rfl (esD rfl (esD rfl (esD rfl eZ))))))
    ·exact (mS .here rfl mN)
    ·first|omega|(dsimp only; omega)
    ·exact hGl1
    refine ⟨?_,?_⟩
    ·(try dsimp only)<;>(first|omega|rfl|assumption|(simp; done))
    (try dsimp only)<;>(exact rst_put eM2 (by rw [eLs13_22,Nat.zero_add,Nat.mul_one]; rfl))
   have c3k:=c3
   try simp only [qcA,qcB] at c3
   refine .exit (.xcode (.xlp (.xblk (.blk (.code (rq3 rfl rfl (mV rfl rfl (arn (((k+1):Nat):Int) rfl .no (.u rfl) (.u rfl) rfl (fun _=>by omega) (fun _=>wrap_i64 (by omega) (by omega)) ?_))))))))
   refine aS rfl rfl (.nil (We.lpo (k+1,M2) ?_ ?_ ?_ ?_ ?_))
   ·exact (esC rfl (by first|rfl|exact evi (by omega)) (esD rfl (esD rfl (esD rfl eZ))))
   ·exact (mS .here rfl mN)
   ·first|omega|(dsimp only; omega)
   ·exact ((hGl0).trans hG42).trans hGl1
   refine ⟨?_,?_⟩
   ·(try dsimp only)<;>(first|omega|rfl|assumption|(simp; done))
   (try dsimp only)<;>(rw [eM2,show j=prbB bits by omega,eM,keysB_snoc es])
  have c2k:=c2
  try simp only [qcA,qcB] at c2
  refine .exit (.xcode (.xlp (.xblk (.code (.seq (rq6 rfl rfl (mV rfl rfl (mV rfl rfl (ci rfl .no rfl Fx.cv3_5 (.u rfl) ?_)))))))))
  refine Go.Tan.b1 rfl Fx.se34 Fx.zv5 (.u rfl) rfl rfl (by decide) ?_; intro b74
  refine apY rfl Fx.se34 Fx.zv5 (.u rfl) (.u rfl) tk1 (Sc.one .here) (by show _+1≤_; omega) ?_
  intro v75 L75 ov75 eL75
  have lL75:L75.length=M.length+1:=by rw [eL75,List.length_append]; first|rfl | simp [yl_len]
  refine aS rfl rfl (.nil (.code (.seq (rq2 rfl rfl (mV rfl rfl (aS rfl rfl (.nil (.code (.ret (We.fin Tryz.results49 (.tmp rfl .nil) (mS .here rfl mN) ?_))))))))))
  obtain rfl:k=l.length:=by omega
  exact ⟨_,by rw [eL75,eM]; rfl,rfl⟩
 have c1k:=c1
 try simp only [qcA,qcB] at c1
 refine .skip (.code (.seq (rq5 rfl rfl (mV rfl rfl (arn ((((l.length*perB bits)+7):Nat):Int) rfl .no (.u rfl) (.u rfl) rfl (fun _=>by omega) (fun _=>wrap_i64 (by omega) (by omega)) ?_)))))
 refine qun (((l.length*perB bits)+7)) (8) rfl .no (.u rfl) (.u rfl) (fun _=>by omega) (fun _=>by omega) (fun _=>by first|decide|omega) (fun _=>by omega) ?_
 refine mkY ((((l.length*perB bits)+7) / 8)) ((((l.length*perB bits)+7) / 8)) rfl Fx.se34 Fx.zv5 (.u rfl) (.u rfl) (by first|rfl|omega) (by first|rfl|omega) (by omega) (by omega) ?_; intro b26
 have lR26:(List.replicate ((((l.length*perB bits)+7) / 8)) (0#8:Y)).length=(((l.length*perB bits)+7) / 8):=List.length_replicate
 refine aS rfl rfl (.nil (.code (.seq (.seq (rq1 rfl rfl (aS rfl rfl (.nil (.code (.block ?_)))))))))
 refine Wk.lop (α:=Nat×List Y) (fun gh=>[(9,true,.int .i64 (gh.1:Int))]) (fun gh=>[rB (.slice (some ⟨b26,0,none⟩) (((l.length*perB bits+7) / 8):Nat) (((l.length*perB bits+7) / 8):Nat)) 5 gh.2])
  (fun gh Gl=>(gh.1≤l.length)∧(gh.2=keysB l bits gh.1)) (fun gh=>l.length-gh.1) (0,List.replicate ((l.length*perB bits+7) / 8) 0#8) [(0,true,_),(6,true,_),(8,true,_)] []
  (esC rfl (by first|rfl|exact evi (by omega)) (esD rfl (esD rfl (esD rfl eZ))))
  (mS .here rfl mN) ?_ ?_
 ·refine ⟨?_,?_⟩
  ·(try dsimp only)<;>(first|omega|rfl|assumption|(simp; done))
  (try dsimp only)<;>(exact zb_eq (l:=l) (bits:=bits) (by omega))
 intro gh N2 Gl2 hN2 hGl2 hF2
 obtain ⟨k,M⟩:=gh; dsimp only at hF2 hN2 ⊢
 obtain ⟨hk2,eM⟩:=hF2
 have hs:=hs.mono hGl2
 have lM:M.length=(max 64 (l.length*perB bits)+7) / 8:=by rw [eM,keysB_len]
 refine .seq (.seq (rq4 rfl rfl (mV rfl rfl (mV rfl rfl (ln rfl .no Fx.sn71 (.u rfl) (cp rfl .no (.u rfl) (.u rfl) rfl (.nil (.code (.cond rfl (fun c4=>?_) (fun c4=>?_))))))))))
 ·have c4k:=c4
  try simp only [qcA,qcB] at c4
  refine .skip (.code (.seq (.block (.seq (Wk.rg [0,1,2,3,4,5,6,7,8,9,10] rfl rfl (mV rfl rfl (mV rfl rfl (ih rfl .no Fx.se71 (.u rfl) (.u rfl) (fun _=>by omega) (fun _=>by omega) (fun _=>hs.nn (k:=k) (by first|omega|(simp only [Bool.and_eq_true,decide_eq_true_eq] at hc; omega)|(simp only [List.length_cons,List.length_nil]; omega))) ?_))))))))
  obtain ⟨s,es⟩:=getx (k:=k) (xs:=l) (by omega)
  refine ld rfl .no Fx.ag9 (.u rfl) (fun _=>(hs.t1 k (by omega) es).rd) ?_
  refine mV rfl rfl (lr rfl .no Fx.sn34 (.u rfl) .here ?_)
  refine arn (((8*M.length):Nat):Int) rfl .no (.u rfl) (.u rfl) rfl (fun _=>by omega) (fun _=>wrap_i64 (by omega) (by omega)) ?_
  refine ci rfl .no rfl Fx.cv3_139 (.u rfl) ?_
  refine mV rfl rfl (kc rfl Fx.go88 (Evc rfl (Evc rfl (Evc rfl Evn))) (places_ok s M.length (prbB bits) _ (by have:=hk s (List.mem_of_getElem? es); omega) (by omega) (by omega) (by omega)) ?_)
  rintro _ G42 μ42 hG42 ⟨h42,rfl,rfl,hs42⟩
  refine aS rfl rfl (.nil (.code (.seq ?_)))
  have hpx:=plcs_len s M.length (prbB bits)
  refine rq1 rfl rfl (aS rfl rfl (.nil (.code (.block ?_))))
  refine Wk.lop (α:=Nat×List Y) (fun gh=>[(11,true,.int .i64 (gh.1:Int))]) (fun gh=>[rB (.slice (some ⟨b26,0,none⟩) (((l.length*perB bits+7) / 8):Nat) (((l.length*perB bits+7) / 8):Nat)) 5 gh.2])
   (fun gh Gl=>(gh.1≤prbB bits)∧(gh.2=setL s M gh.1)) (fun gh=>prbB bits-gh.1) (0,M) [(0,true,_),(6,true,_),(8,true,_),(9,true,_),(10,true,_)] []
   (esC rfl (by first|rfl|exact evi (by omega)) (esD rfl (esD rfl (esD rfl (esD rfl (esD rfl eZ))))))
   (mS .here rfl mN) ?_ ?_
  ·refine ⟨?_,?_⟩
   ·(try dsimp only)<;>(first|omega|rfl|assumption|(simp; done))
   (try dsimp only)<;>(rfl)
  intro gh N3 Gl3 hN3 hGl3 hF3
  obtain ⟨j,M2⟩:=gh; dsimp only at hF3 hN3 ⊢
  obtain ⟨hj,eM2⟩:=hF3
  have hs42:=hs42.mono hGl3
  have lM2:M2.length=M.length:=by rw [eM2,setL_len]
  refine .seq (.seq (rq4 rfl rfl (mV rfl rfl (mV rfl rfl (ln rfl .no Fx.sn137 (.u rfl) (cp rfl .no (.u rfl) (.u rfl) rfl (.nil (.code (.cond rfl (fun c5=>?_) (fun c5=>?_))))))))))
  ·have c5k:=c5
   try simp only [qcA,qcB] at c5
   refine .skip (.code (.seq (.block ?_)))
   have hp8:(plcW s M.length j / 8#32).toNat<M2.length:=by rw [lM2]; exact rst_idx (by omega) (by omega)
   refine Wk.draw (mc:=⟨false,false⟩) [0,1,2,3,4,5,6,7,8,9,10,11,12,13,14,15,16,17,18,19,20,21,22] Fx.mix (by kernel_rfl) ?_
   refine mV rfl rfl (mV rfl rfl (mV rfl rfl (ih rfl .no Fx.se137 (.u rfl) (.u rfl) (fun _=>by omega) (fun _=>by omega) (fun _=>hs42.nn (k:=j) (by first|omega|(simp only [Bool.and_eq_true,decide_eq_true_eq] at hc; omega)|(simp only [List.length_cons,List.length_nil]; omega))) ?_)))
   refine ld rfl .no Fx.ag139 (.u rfl) (fun _=>(hs42.at (by omega) (plcs_get (s:=s) (n:=M.length) (k:=prbB bits) (j:=j) (by omega)) 0 _ rfl).rd) ?_
   refine dw (k:=.u32) (b:=8#32) rfl .no rfl (.u rfl) (.u rfl) (fun _=>show (8#32:BitVec 32)≠0#32 by decide) ?_
   refine mV rfl rfl (mV rfl rfl (mV rfl rfl (ih rfl .no Fx.se137 (.u rfl) (.u rfl) (fun _=>by omega) (fun _=>by omega) (fun _=>hs42.nn (k:=j) (by first|omega|(simp only [Bool.and_eq_true,decide_eq_true_eq] at hc; omega)|(simp only [List.length_cons,List.length_nil]; omega))) ?_)))
   refine ld rfl .no Fx.ag139 (.u rfl) (fun _=>(hs42.at (by omega) (plcs_get (s:=s) (n:=M.length) (k:=prbB bits) (j:=j) (by omega)) 0 _ rfl).rd) ?_
   refine dw (k:=.u32) (b:=8#32) rfl .no rfl (.u rfl) (.u rfl) (fun _=>show (8#32:BitVec 32)≠0#32 by decide) ?_
   refine ia rfl .no Fx.se34 (.u rfl) (.u rfl) (fun _=>Int.natCast_nonneg _) (fun _=>Int.ofNat_lt.2 (Nat.lt_of_lt_of_le hp8 (by omega))) ?_
   refine ld rfl .no Fx.ag5 (.u rfl) (fun _=>Rd.row .here (map_at1 _ (by rw [Nat.zero_add,Nat.mul_one]; rfl) hp8)) ?_
   refine mV rfl rfl (mV rfl rfl (ih rfl .no Fx.se137 (.u rfl) (.u rfl) (fun _=>by omega) (fun _=>by omega) (fun _=>hs42.nn (k:=j) (by first|omega|(simp only [Bool.and_eq_true,decide_eq_true_eq] at hc; omega)|(simp only [List.length_cons,List.length_nil]; omega))) ?_))
   refine ld rfl .no Fx.ag139 (.u rfl) (fun _=>(hs42.at (by omega) (plcs_get (s:=s) (n:=M.length) (k:=prbB bits) (j:=j) (by omega)) 0 _ rfl).rd) ?_
   refine mw (k:=.u32) (b:=8#32) rfl .no (.u rfl) (.u rfl) (fun _=>show (8#32:BitVec 32)≠0#32 by decide) ?_
   refine lw (k:=.u8) (a:=1#8) rfl .no rfl (.s rfl) (.u rfl) (fun _=>Int.natCast_nonneg _) ?_
   refine bw (k:=.u8) rfl .no rfl (.u rfl) (.u rfl) rfl (ia rfl .no Fx.se34 (.u rfl) (.u rfl) (fun _=>Int.natCast_nonneg _) (fun _=>Int.ofNat_lt.2 (Nat.lt_of_lt_of_le hp8 (by omega))) ?_)
   refine s1r rfl (.u rfl) (.u rfl) Fx.sz5 .here (by rw [Nat.zero_add,Nat.mul_one]; exact hp8) ?_; intro Ls13_22 eLs13_22 lLs13_22
   refine .nil (.blk (.code (rq3 rfl rfl (mV rfl rfl (arn (((j+1):Nat):Int) rfl .no (.u rfl) (.u rfl) rfl (fun _=>by omega) (fun _=>wrap_i64 (by omega) (by omega)) ?_)))))
   refine aS rfl rfl (.nil (We.lpo (j+1,Ls13_22) ?_ ?_ ?_ ?_ ?_))
   ·exact (esC rfl (by first|rfl|exact evi (by omega)) (esD rfl (esD rfl (esD rfl (esD rfl (esD rfl eZ))))))
   ·exact (mS .here rfl mN)
   ·first|omega|(dsimp only; omega)
   ·exact hGl3
   refine ⟨?_,?_⟩
   ·(try dsimp only)<;>(first|omega|rfl|assumption|(simp; done))
   (try dsimp only)<;>(exact rst_put eM2 (by rw [eLs13_22,Nat.zero_add,Nat.mul_one]; rfl))
  have c5k:=c5
  try simp only [qcA,qcB] at c5
  refine .exit (.xcode (.xlp (.xblk (.blk (.code (rq3 rfl rfl (mV rfl rfl (arn (((k+1):Nat):Int) rfl .no (.u rfl) (.u rfl) rfl (fun _=>by omega) (fun _=>wrap_i64 (by omega) (by omega)) ?_))))))))
  refine aS rfl rfl (.nil (We.lpo (k+1,M2) ?_ ?_ ?_ ?_ ?_))
  ·exact (esC rfl (by first|rfl|exact evi (by omega)) (esD rfl (esD rfl (esD rfl eZ))))
  ·exact (mS .here rfl mN)
  ·first|omega|(dsimp only; omega)
  ·exact ((hGl2).trans hG42).trans hGl3
  refine ⟨?_,?_⟩
  ·(try dsimp only)<;>(first|omega|rfl|assumption|(simp; done))
  (try dsimp only)<;>(rw [eM2,show j=prbB bits by omega,eM,keysB_snoc es])
 have c4k:=c4
 try simp only [qcA,qcB] at c4
 refine .exit (.xcode (.xlp (.xblk (.code (.seq (rq6 rfl rfl (mV rfl rfl (mV rfl rfl (ci rfl .no rfl Fx.cv3_5 (.u rfl) ?_)))))))))
 refine Go.Tan.b1 rfl Fx.se34 Fx.zv5 (.u rfl) rfl rfl (by decide) ?_; intro b74
 refine apY rfl Fx.se34 Fx.zv5 (.u rfl) (.u rfl) tk1 (Sc.one .here) (by show _+1≤_; omega) ?_
 intro v75 L75 ov75 eL75
 have lL75:L75.length=M.length+1:=by rw [eL75,List.length_append]; first|rfl | simp [yl_len]
 refine aS rfl rfl (.nil (.code (.seq (rq2 rfl rfl (mV rfl rfl (aS rfl rfl (.nil (.code (.ret (We.fin Tryz.results49 (.tmp rfl .nil) (mS .here rfl mN) ?_))))))))))
 obtain rfl:k=l.length:=by omega
 exact ⟨_,by rw [eL75,eM]; rfl,rfl⟩
end Go.Proofs.YtbdnclpopappeaaGreatDoor
namespace Go.Tan
open Go.RowKit
section
variable {dr:Bool} {mc:Md} {P:Program} {n:Fm} {l:List Oper} {K:Env→PM→Mem→Prop} {i:Nat} {σ:List Nat} {ρ:Env} {G:PM} {μ:Mem}
variable {d t:Nat} {p:String} {af:Array Edge} {g:Option (Nat×Bool)} {c:Bool}
end
theorem partL_go {k n f:Nat} (h1:1≤k) (h:k+k<n) (hf:n≤k+f):partL k n f=partL (k*2) n (f-1)∧n≤k*2+(f-1):=by
 obtain ⟨g,rfl⟩ : ∃ g,f=g+1:=⟨f-1,by omega⟩
 refine ⟨?_,by omega⟩
 rw [partL,if_pos h]; rfl
theorem partL_end {k n f:Nat} (h:¬ k+k<n):partL k n f=k:=by
 cases f with
 | zero=>rfl
 | succ f=>rw [partL,if_neg h]
end Go.Tan
namespace Go.Proofs.YtbdnclpopappeaaGreatDoor
open Go.Tan Go.RowKit
namespace Fx
theorem go89:goFn Tryz.prog 89=true:=by kernel_rfl
theorem go52:goFn Tryz.prog 52=true:=by kernel_rfl
theorem go90:goFn Tryz.prog 90=true:=by kernel_rfl
end Fx
theorem rSum_row (xs:List Y) (v:Value) (G:PM) (hR:RdNP G 0 0 (wa 64 kW)) (hl:xs.length≤1000000000000):Ct Tryz.prog 86 ([v]:List Value).toArray G [rB v 5 xs] (fun _ μ' u=>∃ ν,μ'=rB v 5 xs :: ν∧ν=[]∧u=.agg (ba 32 (shaD xs)).toArray) :=
 Ct.lendB (fun hx G2 hle hv hs=>by subst hv; exact rSum_ok xs hx G2 hs (hR.mono hle) hl)
theorem rLeaf_ok (p:List Y) (h:Sh) (G:PM) (hs:SlR G 1 encY h p) (hR:RdNP G 0 0 (wa 64 kW)) (hl:p.length≤999999999999):Ct Tryz.prog 48 ([h.val p.length]:List Value).toArray G [] (fun _ μ' u=>μ'=[]∧u=.agg (ba 32 (leafD p)).toArray):=by
 refine Ct.of Tryz.func48 rfl Tryz.ntmps48 rfl fun w0 hs0=>?_
 refine .seq (rq1 rfl rfl ?_)
 refine al rfl Fx.zq23 ?_; intro b2
 refine .nil (.code (.seq (rq2 rfl rfl ?_)))
 refine Go.Tan.b1 rfl Fx.se34 Fx.zv5 (.u rfl) rfl rfl (by decide) ?_; intro b4
 refine aS rfl rfl (.nil (.code (.seq (wk_br [0#8] 1 .here rfl rfl (by decide) ?_))))
 have lR4:([0#8]:List Y).length=1:=rfl
 refine rq5 rfl rfl (mV rfl rfl (mV rfl rfl (apY rfl Fx.se34 Fx.zv5 (.u rfl) (.u rfl) .here hs.sc (by (try simp only [qlA,yl_len]); omega) ?_)))
 intro v7 L7 ov7 eL7
 have lL7:L7.length=[0#8].length+p.length:=by rw [eL7,List.length_append]
 refine ka rfl (.inr rfl) Fx.go86 (Evc rfl Evn) (mtk1 .here) (rSum_row L7 _ _ hR (by omega)) ?_
 rintro _ G8 μ8 hG8 ⟨_,rfl,rfl,rfl⟩
 refine sw rfl (.u rfl) (.u rfl) rfl Fx.sz23 tk1 (by first|exact qE|exact qL|rfl) (by first|exact ba_one _ _|exact wa_one _ _|exact one_V _|decide|exact one_app (wa_one _ _) (by simp [Value.oneCell'])) ?_
 refine .nil (.code (.ret (We.fin0 Tryz.results48 (.cell rfl (fun w hw=>run_loadVarN Fx.ag23 (RdN.own .here) ((by first|exact qE|exact qL|rfl)) hw) .nil) ?_)))
 exact ⟨rfl,by rw [eL7]; rfl⟩
theorem rJoin_ok (a b:Dg) (G:PM) (hR:RdNP G 0 0 (wa 64 kW)):Ct Tryz.prog 90 ([.agg (ba 32 a).toArray,.agg (ba 32 b).toArray]:List Value).toArray G [] (fun _ μ' u=>μ'=[]∧u=.agg (ba 32 (joinD a b)).toArray):=by
 refine Ct.of Tryz.func90 rfl Tryz.ntmps90 rfl fun w0 hs0=>?_
 have l1:=yl_len 32 a; have l2:=yl_len 32 b
 refine .seq (rq3 rfl rfl ?_)
 refine bx rfl (.u rfl) rfl ?_; intro b2
 refine bx rfl (.u rfl) rfl ?_; intro b3
 refine al rfl Fx.zq23 ?_; intro b4
 refine .nil (.code (.seq (rq2 rfl rfl ?_)))
 refine Go.Tan.b1 rfl Fx.se34 Fx.zv5 (.u rfl) rfl rfl (by decide) ?_; intro b6
 refine aS rfl rfl (.nil (.code (.seq (wk_br [1#8] 1 .here rfl rfl (by decide) ?_))))
 have lR6:([1#8]:List Y).length=1:=rfl
 refine rq4 rfl rfl (mV rfl rfl (sa0 rfl .no Fx.ar23 (.u rfl) (apY rfl Fx.se34 Fx.zv5 (.u rfl) (.u rfl) .here (Sc.arr tk3) (by (try simp only [qlA,yl_len]); omega) ?_)))
 intro v9 L9 ov9 eL9
 have lL9:L9.length=[1#8].length+32:=by rw [eL9,List.length_append]; first|rfl | simp [yl_len]
 refine aS rfl rfl (.nil (.code (.seq (rq4 rfl rfl (mV rfl rfl (sa0 rfl .no Fx.ar23 (.u rfl) (apY rfl Fx.se34 Fx.zv5 (.u rfl) (.u rfl) .here (Sc.arr tk2) (by (try simp only [qlA,yl_len]); omega) ?_)))))))
 intro v12 L12 ov12 eL12
 have lL12:L12.length=L9.length+32:=by rw [eL12,List.length_append]; first|rfl | simp [yl_len]
 refine aS rfl rfl (.nil (.code (.seq (rq3 rfl rfl (mV rfl rfl (ka rfl (.inr rfl) Fx.go86 (Evc rfl Evn) (mtk1 .here) (rSum_row L12 _ _ hR (by omega)) ?_))))))
 rintro _ G14 μ14 hG14 ⟨_,rfl,rfl,rfl⟩
 refine sw rfl (.u rfl) (.u rfl) rfl Fx.sz23 tk1 (by first|exact qE|exact qL|rfl) (by first|exact ba_one _ _|exact wa_one _ _|exact one_V _|decide|exact one_app (wa_one _ _) (by simp [Value.oneCell'])) ?_
 refine .nil (.code (.ret (We.fin0 Tryz.results90 (.cell rfl (fun w hw=>run_loadVarN Fx.ag23 (RdN.own .here) ((by first|exact qE|exact qL|rfl)) hw) .nil) ?_)))
 exact ⟨rfl,by rw [eL12,eL9]; rfl⟩
theorem rPart_ok (n:Nat) (G:PM) (h2:2≤n) (hl:n≤1000000):Ct Tryz.prog 89 ([.int .i64 (n:Int)]:List Value).toArray G [] (fun _ μ' u=>μ'=[]∧u=.int .i64 (partN n:Int)):=by
 refine Ct.of Tryz.func89 rfl Tryz.ntmps89 rfl fun w0 hs0=>?_
 refine .seq (rq1 rfl rfl (aS rfl rfl (.nil (.code (.seq (rq1 rfl rfl (aS rfl rfl (.nil (.code (.seq (.block ?_)))))))))))
 refine Wk.lop (α:=Nat×Nat) (fun gh=>[(3,true,.int .i64 (gh.1:Int))]) (fun _=>[])
  (fun gh Gl=>(partL gh.1 n gh.2=partN n)∧(n≤gh.1+gh.2)∧(1≤gh.1)∧(gh.1<n)) (fun gh=>gh.2) (1,n) [(0,true,_)] []
  (esC rfl (by first|rfl|exact evi (by omega)) (esD rfl eZ))
  mN ?_ ?_
 ·refine ⟨?_,?_,?_,?_⟩
  ·(try dsimp only)<;>(rfl)
  ·(try dsimp only)<;>(first|omega|rfl|assumption|(simp; done))
  ·(try dsimp only)<;>(first|omega|rfl|assumption|(simp; done))
  (try dsimp only)<;>(first|omega|rfl|assumption|(simp; done))
 intro gh N0 Gl0 hN0 hGl0 hF0
 obtain ⟨k,f⟩:=gh; dsimp only at hF0 hN0 ⊢
 obtain ⟨hp,hf,h1,hk⟩:=hF0
 refine .seq (.seq (rq5 rfl rfl (mV rfl rfl (mV rfl rfl (mV rfl rfl (ar rfl .no (.u rfl) (.u rfl) rfl (fun _=>wrap_i64 (by omega) (by omega)) ?_))))))
 refine cp rfl .no (.u rfl) (.u rfl) rfl (.nil (.code (.cond rfl (fun c1=>?_) (fun c1=>?_))))
 ·have c1k:=c1
  try simp only [qcA,qcB] at c1
  refine .skip (.code (.block (rq3 rfl rfl (mV rfl rfl (arn (((k*2):Nat):Int) rfl .no (.u rfl) (.u rfl) rfl (fun _=>by omega) (fun _=>wrap_i64 (by omega) (by omega)) ?_)))))
  refine aS rfl rfl (.nil (.blk (We.lpo (k*2,f-1) ?_ ?_ ?_ ?_ ?_)))
  ·exact (esC rfl (by first|rfl|exact evi (by omega)) (esD rfl eZ))
  ·exact mN
  ·first|omega|(dsimp only; omega)
  ·exact hGl0
  refine ⟨?_,?_,?_,?_⟩
  ·(try dsimp only)<;>(rw [← (partL_go h1 (by omega) hf).1]; exact hp)
  ·(try dsimp only)<;>(exact (partL_go h1 (by omega) hf).2)
  ·(try dsimp only)<;>(first|omega|rfl|assumption|(simp; done))
  (try dsimp only)<;>(first|omega|rfl|assumption|(simp; done))
 have c1k:=c1
 try simp only [qcA,qcB] at c1
 refine .exit (.xcode (.xlp (.xblk (.code (.seq (rq2 rfl rfl (mV rfl rfl (aS rfl rfl (.nil (.code (.ret (We.fin0 Tryz.results89 (.tmp rfl .nil) ?_))))))))))))
 exact ⟨rfl,by rw [← hp,partL_end (by omega)]; rfl⟩
theorem rrRoot_step (ds:List Dg) (h:Sh) (G:PM) (hs:SlR G 32 (ba 32) h ds) (hR:RdNP G 0 0 (wa 64 kW)) (hm:ds.length≤1000000) (ihr:∀ (ds2:List Dg) (h2:Sh) (G2:PM),SlR G2 32 (ba 32) h2 ds2→RdNP G2 0 0 (wa 64 kW)→ds2.length<ds.length→Ct Tryz.prog 52 ([h2.val ds2.length]:List Value).toArray G2 [] (fun _ μ' u=>μ'=[]∧u=.agg (ba 32 (rootD ds2)).toArray)):Ct Tryz.prog 52 ([h.val ds.length]:List Value).toArray G [] (fun _ μ' u=>μ'=[]∧u=.agg (ba 32 (rootD ds)).toArray):=by
 refine Ct.of Tryz.func52 rfl Tryz.ntmps52 rfl fun w0 hs0=>?_
 refine .seq (rq1 rfl rfl ?_)
 refine al rfl Fx.zq23 ?_; intro b2
 refine .nil (.code (.seq (.seq (rq3 rfl rfl (mV rfl rfl (ln rfl .no Fx.sn68 (.u rfl) (cp rfl .no (.u rfl) (.u rfl) rfl (.nil (.code (.cond rfl (fun c1=>?_) (fun c1=>?_)))))))))))
 ·have c1k:=c1
  try simp only [qcA,qcB] at c1
  refine .seq (rq3 rfl rfl ?_)
  refine Go.Tan.b1 rfl Fx.se34 Fx.zv5 (.u rfl) rfl rfl (by decide) ?_; intro b7
  refine ka rfl (.inr rfl) Fx.go86 (Evc rfl Evn) (mtk1 .here) (Ct.give fun hle=>rSum_ok [2#8] ⟨some ⟨b7,0,none⟩,1⟩ _ (SlR.ofBlk (PM.add_same _ _ _) (fun _ _=>rfl) (by simp)) (hR.mono hle) (by decide)) ?_
  rintro _ G8 μ8 hG8 ⟨rfl,rfl⟩
  have hs:=hs.mono hG8
  have hR:=hR.mono hG8
  refine sw rfl (.u rfl) (.u rfl) rfl Fx.sz23 .here (by first|exact qE|exact qL|rfl) (by first|exact ba_one _ _|exact wa_one _ _|exact one_V _|decide|exact one_app (wa_one _ _) (by simp [Value.oneCell'])) ?_
  refine .nil (.code (.ret (We.fin0 Tryz.results52 (.cell rfl (fun w hw=>run_loadVarN Fx.ag23 (RdN.own .here) ((by first|exact qE|exact qL|rfl)) hw) .nil) ?_)))
  obtain rfl:ds=[]:=List.eq_nil_of_length_eq_zero (by omega)
  exact ⟨rfl,by rw [root_nil]; rfl⟩
 have c1k:=c1
 try simp only [qcA,qcB] at c1
 refine .skip (.code (.seq (.seq (rq3 rfl rfl (mV rfl rfl (ln rfl .no Fx.sn68 (.u rfl) (cp rfl .no (.u rfl) (.u rfl) rfl (.nil (.code (.cond rfl (fun c2=>?_) (fun c2=>?_)))))))))))
 ·have c2k:=c2
  try simp only [qcA,qcB] at c2
  refine .seq (rq4 rfl rfl (mV rfl rfl (ih rfl .no Fx.se68 (.u rfl) (.u rfl) (fun _=>by omega) (fun _=>by omega) (fun _=>hs.nn (k:=0) (by first|omega|(simp only [Bool.and_eq_true,decide_eq_true_eq] at hc; omega)|(simp only [List.length_cons,List.length_nil]; omega))) ?_)))
  obtain ⟨x,ex⟩:=getx (k:=0) (xs:=ds) (by omega)
  refine lA rfl .no Fx.ag23 (.u rfl) (fun _=>(hs.at (by decide) ex).rd) (fun _=>ba_len _ _) ?_
  refine sw rfl (.u rfl) (.u rfl) rfl Fx.sz23 .here rfl (ba_one _ _) ?_
  refine .nil (.code (.ret (We.fin0 Tryz.results52 (.cell rfl (fun w hw=>run_loadVarN Fx.ag23 (RdN.own .here) ((by first|exact qE|exact qL|rfl)) hw) .nil) ?_)))
  exact ⟨rfl,by rw [show ds=[x] from by (match ds,ex,c2k with | [a],e,_=>(cases e; rfl) | [],e,_=>cases e | a :: b :: r,_,c=>(simp at c; omega))]; rw [root_one]; rfl⟩
 have c2k:=c2
 try simp only [qcA,qcB] at c2
 refine .skip (.code (.seq (rq4 rfl rfl (mV rfl rfl (ln rfl .no Fx.sn68 (.u rfl) (kv rfl .no Fx.go89 (Evc rfl Evn) (fun _=>rPart_ok ds.length _ (by omega) hm) ?_))))))
 refine aS rfl rfl (.nil (.code (.seq ?_)))
 have hp:=partN_spec (n:=ds.length) (by omega)
 have hp0:=partN_pos (n:=ds.length) (by omega)
 refine Wk.draw (mc:=⟨false,false⟩) [0,1,2,4,5,6,3,7,8,9] Fx.mix (by kernel_rfl) ?_
 refine mV rfl rfl (mV rfl rfl (kE ((partN ds.length)) rfl .no Fx.se68 hs (.u rfl) (.u rfl) (fun _=>by omega) (fun _=>by omega) ?_))
 intro h20 L20 eL20 lL20 hs20
 have lL20:=lL20 rfl
 refine mV rfl rfl (mV rfl rfl (kD ((partN ds.length)) rfl .no Fx.se68 hs (.u rfl) (.u rfl) (fun _=>by omega) (fun _=>by omega) ?_))
 intro h24 L24 eL24 lL24 hs24
 have lL24:=lL24 rfl
 refine kv rfl .no Fx.go52 (Evc rfl Evn) (fun _=>ihr L20 h20 _ hs20 hR (by omega)) ?_
 refine kv rfl .no Fx.go52 (Evc rfl Evn) (fun _=>ihr L24 h24 _ hs24 hR (by omega)) ?_
 refine kv rfl .no Fx.go90 (Evc rfl (Evc rfl Evn)) (fun _=>rJoin_ok (rootD L20) (rootD L24) _ hR) ?_
 refine sw rfl (.u rfl) (.u rfl) rfl Fx.sz23 .here (by first|exact qE|exact qL|rfl) (by first|exact ba_one _ _|exact wa_one _ _|exact one_V _|decide|exact one_app (wa_one _ _) (by simp [Value.oneCell'])) ?_
 refine .nil (.code (.ret (We.fin0 Tryz.results52 (.cell rfl (fun w hw=>run_loadVarN Fx.ag23 (RdN.own .here) ((by first|exact qE|exact qL|rfl)) hw) .nil) ?_)))
 exact ⟨rfl,by rw [root_two (l:=ds) (by omega),eL20,eL24]; rfl⟩
theorem rrRoot_ok (ds:List Dg) (h:Sh) (G:PM) (hs:SlR G 32 (ba 32) h ds) (hR:RdNP G 0 0 (wa 64 kW)) (hm:ds.length≤1000000):Ct Tryz.prog 52 ([h.val ds.length]:List Value).toArray G [] (fun _ μ' u=>μ'=[]∧u=.agg (ba 32 (rootD ds)).toArray) :=
 rrRoot_step ds h G hs hR hm (fun ds2 h2 G2 hs2 hR2 hlt=>rrRoot_ok ds2 h2 G2 hs2 hR2 (by omega))
termination_by ds.length
namespace Fx
theorem go84:goFn Tryz.prog 84=true:=by kernel_rfl
theorem go85:goFn Tryz.prog 85=true:=by kernel_rfl
theorem go83:goFn Tryz.prog 83=true:=by kernel_rfl
theorem se83:slE Tryz.prog 83=some (31,1,24):=by kernel_rfl
theorem zv31:(Tryz.prog.info? 31).bind (·.zero)=some (.slice none 0 0):=by kernel_rfl
theorem go48:goFn Tryz.prog 48=true:=by kernel_rfl
end Fx
theorem r17Head_ok (m:Meta) (G:PM) (hw:m.wf):Ct Tryz.prog 11 ([m.val]:List Value).toArray G [] (fun _ μ' u=>μ'=[]∧u=.agg ((hdM m).cells).toArray):=by
 refine Ct.of Tryz.func11 rfl Tryz.ntmps11 rfl fun w0 hs0=>?_
 refine .seq (rq2 rfl rfl ?_)
 refine bx rfl (.u rfl) rfl ?_; intro b1
 refine al rfl Fx.zq26 ?_; intro b2
 refine .nil (.code (.seq (rq10 rfl rfl (fz rfl .no Fx.fo36_0 (.u rfl) (ld rfl .no Fx.ag5 (.u rfl) (fun _=>Rd.own tk1 (by first|exact wap_f rfl|rfl)) ?_)))))
 refine fz rfl .no Fx.fo36_1 (.u rfl) (ld rfl .no Fx.ag24 (.u rfl) (fun _=>Rd.own tk1 (by first|exact wap_f rfl|rfl)) ?_)
 refine fz rfl .no Fx.fo36_2 (.u rfl) (ld rfl .no Fx.ag24 (.u rfl) (fun _=>Rd.own tk1 (by first|exact wap_f rfl|rfl)) ?_)
 refine fz rfl .no Fx.fo36_3 (.u rfl) (ld rfl .no Fx.ag24 (.u rfl) (fun _=>Rd.own tk1 (by first|exact wap_f rfl|rfl)) ?_)
 refine bC rfl .no Fx.bp26_0_1_2_3_4 (.cons (.u rfl) rfl (.cons (.u rfl) rfl (.cons (.u rfl) rfl (.cons (.u rfl) rfl (.cons (.u rfl) rfl .nil))))) rfl ?_
 refine sw rfl (.u rfl) (.u rfl) rfl Fx.sz26 .here (by first|rfl|exact Meta.len _) (one5 rfl rfl rfl rfl rfl) ?_
 refine .nil (.code (.ret (We.fin0 Tryz.results11 (.cell rfl (fun w hw=>run_loadVarN Fx.ag26 (RdN.own .here) ((by first|rfl|exact Meta.len _)) hw) .nil) ?_)))
 exact ⟨rfl,by rw [← hd_cells hw]; rfl⟩
theorem r17seal_ok (root:Nat→Y) (h:Hd) (part:Nat) (xs:List Y) (hx:Sh) (G:PM) (hs:SlR G 1 encY hx xs) (hR:RdNP G 0 0 (wa 64 kW)) (hl:xs.length≤10000000) (hp:part≤1000000000):Ct Tryz.prog 44 ([.agg (ba 32 root).toArray,.agg ([V h.kind,V h.level,uv .u64 h.gen,uv .u64 h.epoch,uv .u64 h.num]:List Value).toArray,.int .i64 (part:Int),hx.val xs.length]:List Value).toArray G [] (PR 5 (fun L=>L=sealL (keyEnc root (headL h)) (keyMac root (headL h)) (nonceF (BitVec.ofInt 64 (part:Int))) (headL h) xs)):=by
 refine Ct.of Tryz.func44 rfl Tryz.ntmps44 rfl fun w0 hs0=>?_
 refine .seq (rq3 rfl rfl ?_)
 refine bx rfl (.u rfl) rfl ?_; intro b4
 refine bx rfl (.u rfl) rfl ?_; intro b5
 refine aS rfl rfl (.nil (.code (.seq (Wk.draw (mc:=⟨false,false⟩) [0,1,3,4,6,8,2,5,7,9,10] Fx.mix (by kernel_rfl) ?_))))
 refine lA rfl .no Fx.ag23 (.u rfl) (fun _=>RdN.own tk1) (fun _=>ba_len _ _) ?_
 refine lA rfl .no Fx.ag26 (.u rfl) (fun _=>RdN.part (n:=5) (cs':=h.cells) .here (rfl)) (fun _=>rfl) ?_
 refine mV rfl rfl (ci rfl .no rfl Fx.cv3_24 (.u rfl) ?_)
 refine lA rfl .no Fx.ag26 (.u rfl) (fun _=>RdN.part (n:=5) (cs':=h.cells) .here (rfl)) (fun _=>rfl) ?_
 refine mV rfl rfl (kv rfl .no Fx.go84 (Evc rfl (Evc rfl Evn)) (fun _=>rKeyOf_ok root h _ hR) ?_)
 refine kv rfl .no Fx.go85 (Evc rfl Evn) (fun _=>rNonce_ok _ _) ?_
 refine kc rfl Fx.go42 (Evc rfl Evn) (Ct.frzB (rnLay_ok h _)) ?_
 rintro _ G16 μ16 hG16 ⟨h16,L16,eL16,rfl,rfl,hs16⟩
 have hs:=hs.mono hG16
 have hR:=hR.mono hG16
 refine kc rfl Fx.go83 (Evc rfl (Evc rfl (Evc rfl (Evc rfl Evn)))) (Ct.rowc (rSeal_ok (keyEnc root (headL h)) (keyMac root (headL h)) (nonceF (BitVec.ofInt 64 (part:Int))) L16 h16 xs hx _ hs16 hs hR (by rw [eL16,head_len]; decide) (by omega))) ?_
 rintro v18 G18 μ18 hG18 ⟨L18,ov18,eL18,rfl⟩
 refine aS rfl rfl (.nil (.code (.ret (We.fin Tryz.results44 (.tmp rfl .nil) (mS .here rfl mN) ?_))))
 exact ⟨L18,by rw [eL18,eL16],rfl⟩
theorem r17Cut_ok (h:Sh) (l:List Ent) (least:Int) (G:PM) (hs:SlR G 4 Ent.cells h l) (hw:wtE l≤100000000) (hl:l.length≤1000000):Ct Tryz.prog 41 ([h.val l.length,.int .i64 least]:List Value).toArray G [] (fun G' μ' u=>∃ (h':Sh) (ps:List (Sh×List Ent)),ps.map (·.2)=cutsE least l∧μ'=[]∧u=h'.val ps.length∧SlR G' 1 encS h' ps∧AllE G' ps):=by
 refine Ct.of Tryz.func41 rfl Tryz.ntmps41 rfl fun w0 hs0=>?_
 refine .seq (rq1 rfl rfl (aS rfl rfl (.nil (.code (.seq (rq1 rfl rfl (aS rfl rfl (.nil (.code (.seq (wk_nilS 1 encS 31 ?_)))))))))))
 refine rq1 rfl rfl (aS rfl rfl (.nil (.code (.seq (wk_nilS 4 Ent.cells 47 (rq1 rfl rfl (aS rfl rfl (.nil (.code (.seq (.seq (rq1 rfl rfl (aS rfl rfl (.nil (.code (.block ?_))))))))))))))))
 refine Wk.lop (α:=Nat×Value×List (Sh×List Ent)×Value×List Ent×Int) (fun gh=>[(5,true,gh.2.1),(6,true,gh.2.2.2.1),(7,true,.int .i64 gh.2.2.2.2.2),(8,true,.int .i64 (gh.1:Int))]) (fun gh=>[rS 4 Ent.cells gh.2.2.2.1 47 gh.2.2.2.2.1,rS 1 encS gh.2.1 31 gh.2.2.1])
  (fun gh Gl=>(gh.1≤l.length)∧(CutS least l (gh.2.2.1.map (·.2)) gh.2.2.2.2.1 gh.2.2.2.2.2 gh.1)∧(gh.2.2.1.length≤gh.1)∧(AllE Gl gh.2.2.1)) (fun gh=>l.length-gh.1) (0,.slice none 0 0,[],.slice none 0 0,[],0) [(0,true,_),(1,true,_)] []
  (esD rfl (esD rfl (esC rfl (by first|rfl|exact evi (by omega)) (esC rfl (by first|rfl|exact evi (by omega)) (esD rfl (esD rfl eZ))))))
  (mS .here rfl (mS .here rfl mN)) ?_ ?_
 ·refine ⟨?_,?_,?_,?_⟩
  ·(try dsimp only)<;>(first|omega|rfl|assumption|(simp; done))
  ·(try dsimp only)<;>(exact CutS.start)
  ·(try dsimp only)<;>(first|omega|rfl|assumption|(simp; done))
  (try dsimp only)<;>(exact AllE.nil)
 intro gh N0 Gl0 hN0 hGl0 hF0
 obtain ⟨k,vo,ps,vn,now,n⟩:=gh; dsimp only at hF0 hN0 ⊢
 obtain ⟨hk,hC,lp,hA⟩:=hF0
 have hs:=hs.mono hGl0
 obtain ⟨hn0,hn1,hn2⟩:=hC.bd hw (by omega)
 refine .seq (.seq (rq4 rfl rfl (mV rfl rfl (mV rfl rfl (ln rfl .no Fx.sn31 (.u rfl) (cp rfl .no (.u rfl) (.u rfl) rfl (.nil (.code (.cond rfl (fun c1=>?_) (fun c1=>?_))))))))))
 ·have c1k:=c1
  try simp only [qcA,qcB] at c1
  refine .skip (.code (.seq (.block (.seq (rq8 rfl rfl (mV rfl rfl (mV rfl rfl (mV rfl rfl (ih rfl .no Fx.se31 (.u rfl) (.u rfl) (fun _=>by omega) (fun _=>by omega) (fun _=>hs.nn (k:=k) (by first|omega|(simp only [Bool.and_eq_true,decide_eq_true_eq] at hc; omega)|(simp only [List.length_cons,List.length_nil]; omega))) ?_)))))))))
  obtain ⟨x,ex⟩:=getx (k:=k) (xs:=l) (by omega)
  refine lA rfl .no Fx.ag47 (.u rfl) (fun _=>(hs.at (by omega) ex).rd) (fun _=>Ent.len _) ?_
  refine Go.Tan.b1 rfl Fx.se31 Fx.zw47 (.u rfl) rfl rfl (by decide) ?_; intro b20
  have hxw:=wtE_at (l:=l) (k:=k) (by omega); rw [ri_at ex] at hxw
  refine apS (xs:=now) (x) rfl Fx.se31 Fx.zw47 rfl (.u rfl) (.u rfl) tk1 .here (Ent.len _) (Ent.one _) (by omega) (by unfold maxLen; omega) ?_; intro v21 ov21
  refine aS rfl rfl (.nil (.code (.seq (Wk.draw (mc:=⟨false,false⟩) [0,1,2,3,4,5,6,7,8,9,10,11,12,13,14,15,16] Fx.mix (by kernel_rfl) ?_))))
  refine mV rfl rfl (mV rfl rfl (mV rfl rfl (ih rfl .no Fx.se31 (.u rfl) (.u rfl) (fun _=>by omega) (fun _=>by omega) (fun _=>hs.nn (k:=k) (by first|omega|(simp only [Bool.and_eq_true,decide_eq_true_eq] at hc; omega)|(simp only [List.length_cons,List.length_nil]; omega))) ?_)))
  refine fa rfl .no Fx.fo47_0 (.u rfl) (ld rfl .no Fx.ag9 (.u rfl) (fun _=>(hs.at (by omega) ex 0 _ rfl).rd) (ls rfl .no Fx.st9 (.u rfl) (ar rfl .no (.u rfl) (.u rfl) rfl (fun _=>wrap_i64 (by omega) (by omega)) ?_)))
  refine mV rfl rfl (mV rfl rfl (ih rfl .no Fx.se31 (.u rfl) (.u rfl) (fun _=>by omega) (fun _=>by omega) (fun _=>hs.nn (k:=k) (by first|omega|(simp only [Bool.and_eq_true,decide_eq_true_eq] at hc; omega)|(simp only [List.length_cons,List.length_nil]; omega))) ?_))
  refine fa rfl .no Fx.fo47_3 (.u rfl) (ld rfl .no Fx.ag9 (.u rfl) (fun _=>(hs.at (by omega) ex 3 _ rfl).rd) (ls rfl .no Fx.st9 (.u rfl) (ar rfl .no (.u rfl) (.u rfl) rfl (fun _=>wrap_i64 (by omega) (by omega)) ?_)))
  refine ar rfl .no (.u rfl) (.u rfl) rfl (fun _=>wrap_i64 (by omega) (by omega)) ?_
  refine aS rfl rfl (.nil (.code (.seq (rq3 rfl rfl (mV rfl rfl (mV rfl rfl (cp rfl .no (.u rfl) (.u rfl) rfl (.nil (.code (.cond rfl (fun c2=>?_) (fun c2=>?_)))))))))))
  ·have c2k:=c2
   try simp only [qcA,qcB] at c2
   refine .seq ?_
   refine wk_fs .here (fun _ _=>rfl) (by intro b hb; cases hb) ?_; intro GfRN hRN hleRN evRN hsRN; subst evRN
   have hA:=hA.mono hleRN
   refine rq5 rfl rfl (mV rfl rfl (mV rfl rfl ?_))
   refine Go.Tan.b1 rfl Fx.se83 Fx.zv31 (.u rfl) rfl rfl (by decide) ?_; intro b43
   refine apS (xs:=ps) ((hRN,now++[x])) rfl Fx.se83 Fx.zv31 rfl (.u rfl) (.u rfl) tk2 .here (rfl) (one1 rfl) (by omega) (by unfold maxLen; omega) ?_; intro v44 ov44
   refine aS rfl rfl (.nil (.code (.seq (rq1 rfl rfl (aS rfl rfl (.nil (.code (wk_nilS 4 Ent.cells 47 (rq1 rfl rfl (aS rfl rfl (.nil (.blk (.code (rq3 rfl rfl (mV rfl rfl (arn (((k+1):Nat):Int) rfl .no (.u rfl) (.u rfl) rfl (fun _=>by omega) (fun _=>wrap_i64 (by omega) (by omega)) ?_))))))))))))))))
   refine aS rfl rfl (.nil (We.lpo (k+1,v44,ps++[(hRN,now++[x])],.slice none 0 0,[],0) ?_ ?_ ?_ ?_ ?_))
   ·exact (esD rfl (esD rfl (esC rfl (by first|rfl|exact evi (by omega)) (esC rfl (by first|rfl|exact evi (by omega)) (esD rfl (esD rfl eZ))))))
   ·exact (mS .here rfl (mS .here rfl mN))
   ·first|omega|(dsimp only; omega)
   ·exact (hGl0).trans hleRN
   refine ⟨?_,?_,?_,?_⟩
   ·(try dsimp only)<;>(first|omega|rfl|assumption|(simp; done))
   ·(try dsimp only)<;>(rw [List.map_append]; exact hC.cut ex rfl (by omega))
   ·(try dsimp only)<;>(rw [List.length_append]; simp only [List.length_cons,List.length_nil]; omega)
   (try dsimp only)<;>(exact hA.snoc hsRN)
  have c2k:=c2
  try simp only [qcA,qcB] at c2
  refine .skip (.blk (.code (rq3 rfl rfl (mV rfl rfl (arn (((k+1):Nat):Int) rfl .no (.u rfl) (.u rfl) rfl (fun _=>by omega) (fun _=>wrap_i64 (by omega) (by omega)) ?_)))))
  refine aS rfl rfl (.nil (We.lpo (k+1,vo,ps,v21,now++[x],n+(x.user.size:Int)+x.value.size+8) ?_ ?_ ?_ ?_ ?_))
  ·exact (esD rfl (esD rfl (esC rfl (by first|rfl|exact evi (by omega)) (esC rfl (by first|rfl|exact evi (by omega)) (esD rfl (esD rfl eZ))))))
  ·exact (mS .here rfl (mS tk1 rfl mN))
  ·first|omega|(dsimp only; omega)
  ·exact hGl0
  refine ⟨?_,?_,?_,?_⟩
  ·(try dsimp only)<;>(first|omega|rfl|assumption|(simp; done))
  ·(try dsimp only)<;>(exact hC.more ex rfl (by omega))
  ·(try dsimp only)<;>(first|omega|rfl|assumption|(simp; done))
  (try dsimp only)<;>(exact hA)
 have c1k:=c1
 try simp only [qcA,qcB] at c1
 refine .exit (.xcode (.xlp (.xblk (.code (.seq (.seq (rq3 rfl rfl (mV rfl rfl (lr rfl .no Fx.sn31 (.u rfl) .here ?_)))))))))
 refine cp rfl .no (.u rfl) (.u rfl) rfl (.nil (.code (.cond rfl (fun c3=>?_) (fun c3=>?_))))
 ·have c3k:=c3
  try simp only [qcA,qcB] at c3
  refine wk_fs .here (fun _ _=>rfl) (by intro b hb; cases hb) ?_; intro GfRN hRN hleRN evRN hsRN; subst evRN
  have hA:=hA.mono hleRN
  refine rq5 rfl rfl (mV rfl rfl (mV rfl rfl ?_))
  refine Go.Tan.b1 rfl Fx.se83 Fx.zv31 (.u rfl) rfl rfl (by decide) ?_; intro b50
  refine apS (xs:=ps) ((hRN,now)) rfl Fx.se83 Fx.zv31 rfl (.u rfl) (.u rfl) tk1 .here (rfl) (one1 rfl) (by omega) (by unfold maxLen; omega) ?_; intro v51 ov51
  refine aS rfl rfl (.nil (.code (.seq (rq2 rfl rfl (mV rfl rfl (aS rfl rfl (.nil (.code (.ret ?_)))))))))
  refine we_fs .here (fun _ _=>rfl) (by intro b hb; cases hb) ?_; intro GfRO hRO hleRO evRO hsRO; subst evRO
  have hA:=hA.mono hleRO
  have hsRN:=hsRN.mono hleRO
  refine We.fin0 Tryz.results41 (.tmp rfl .nil) ?_
  exact ⟨hRO,ps++[(hRN,now)],by rw [List.map_append,hC.end1 (by omega) (by omega)]; rfl,rfl,rfl,hsRO,hA.snoc hsRN⟩
 have c3k:=c3
 try simp only [qcA,qcB] at c3
 refine .skip (.code (.seq (rq2 rfl rfl (mV rfl rfl (aS rfl rfl (.nil (.code (.ret ?_))))))))
 refine we_fs tk1 (fun _ _=>rfl) (by intro b hb; cases hb) ?_; intro GfRO hRO hleRO evRO hsRO; subst evRO
 have hA:=hA.mono hleRO
 refine We.fin0 Tryz.results41 (.tmp rfl .nil) ?_
 exact ⟨hRO,ps,(hC.end0 (by omega) (by omega)).symm,rfl,rfl,hsRO,hA⟩
theorem users_ok (h:Sh) (l:List Ent) (G:PM) (hs:SlR G 4 Ent.cells h l) (hl:l.length≤1000000):Ct Tryz.prog 50 ([h.val l.length]:List Value).toArray G [] (fun G' μ' u=>∃ (h':Sh) (US:List ByteArray),US=cmpU (l.map (·.user))∧μ'=[]∧u=h'.val US.length∧SlR G' 1 encT h' US):=by
 refine Ct.of Tryz.func50 rfl Tryz.ntmps50 rfl fun w0 hs0=>?_
 refine .seq (rq1 rfl rfl (aS rfl rfl (.nil (.code (.seq (rq1 rfl rfl (aS rfl rfl (.nil (.code (.seq (.seq (wk_nilS 1 encT 9 ?_))))))))))))
 refine rq1 rfl rfl (aS rfl rfl (.nil (.code (.block ?_))))
 refine Wk.lop (α:=Nat×Value×List ByteArray) (fun gh=>[(3,true,gh.2.1),(4,true,.int .i64 (gh.1:Int))]) (fun gh=>[rS 1 encT gh.2.1 9 gh.2.2])
  (fun gh Gl=>(gh.1≤l.length)∧(gh.2.2=cmpU ((l.take gh.1).map (·.user)))∧(gh.2.2.length≤gh.1)) (fun gh=>l.length-gh.1) (0,.slice none 0 0,[]) [(0,true,_)] []
  (esD rfl (esC rfl (by first|rfl|exact evi (by omega)) (esD rfl eZ)))
  (mS .here rfl mN) ?_ ?_
 ·refine ⟨?_,?_,?_⟩
  ·(try dsimp only)<;>(first|omega|rfl|assumption|(simp; done))
  ·(try dsimp only)<;>(rfl)
  (try dsimp only)<;>(first|omega|rfl|assumption|(simp; done))
 intro gh N0 Gl0 hN0 hGl0 hF0
 obtain ⟨k,v,US⟩:=gh; dsimp only at hF0 hN0 ⊢
 obtain ⟨hk,eU,lU⟩:=hF0
 have hs:=hs.mono hGl0
 refine .seq (.seq (rq4 rfl rfl (mV rfl rfl (mV rfl rfl (ln rfl .no Fx.sn31 (.u rfl) (cp rfl .no (.u rfl) (.u rfl) rfl (.nil (.code (.cond rfl (fun c1=>?_) (fun c1=>?_))))))))))
 ·have c1k:=c1
  try simp only [qcA,qcC,qcB] at c1
  refine .skip (.code (.seq (.block (.seq ?_))))
  obtain ⟨x,ex⟩:=getx (k:=k) (xs:=l) (by omega)
  obtain ⟨y,ey⟩:=getx (k:=k-1) (xs:=l) (by omega)
  refine Wk.mixp ⟨false,false⟩ Fx.mix (by kernel_rfl) ?_
  refine Wp.one 0 (by kernel_rfl) ?_
  refine mV rfl rfl (.nil (Wp.one 1 (by kernel_rfl) ?_))
  refine cp rfl .no (.u rfl) (.u rfl) rfl (.nil (Wp.one 2 (by kernel_rfl) ?_))
  refine mV rfl rfl (.nil (Wp.one 3 (by kernel_rfl) ?_))
  refine mv rfl (.f rfl rfl) (.u rfl) (.nil (Wp.one 4 (by kernel_rfl) ?_))
  refine mv rfl (.f rfl rfl) (.u rfl) (.nil (Wp.one 5 (by kernel_rfl) ?_))
  refine ih rfl (.f rfl rfl) Fx.se31 (.s rfl) (.s rfl) (fun hc=>by (try simp only [Bool.and_eq_true,decide_eq_true_eq,Bool.not_eq_true',Bool.or_eq_false_iff,decide_eq_false_iff_not,beq_iff_eq,beq_eq_false_iff_ne,ne_eq] at hc); omega) (fun hc=>by (try simp only [Bool.and_eq_true,decide_eq_true_eq,Bool.not_eq_true',Bool.or_eq_false_iff,decide_eq_false_iff_not,beq_iff_eq,beq_eq_false_iff_ne,ne_eq] at hc); omega) (fun hc=>hs.nn (k:=k) (by first|omega|(simp only [Bool.and_eq_true,decide_eq_true_eq,Bool.not_eq_true',Bool.or_eq_false_iff,decide_eq_false_iff_not,beq_iff_eq,beq_eq_false_iff_ne,ne_eq] at hc; omega)|(simp only [List.length_cons,List.length_nil]; omega))) ?_
  refine .nil (Wp.one 6 (by kernel_rfl) ?_)
  refine fa rfl (.f rfl rfl) Fx.fo47_0 (.s rfl) (.nil (Wp.one 7 (by kernel_rfl) ?_))
  refine ld rfl (.f rfl rfl) Fx.ag9 (.s rfl) (fun hc=>(hs.at (by (try simp only [Bool.and_eq_true,decide_eq_true_eq,Bool.not_eq_true',Bool.or_eq_false_iff,decide_eq_false_iff_not,beq_iff_eq,beq_eq_false_iff_ne,ne_eq] at hc); omega) ex 0 _ rfl).rd) (.nil (Wp.one 8 (by kernel_rfl) ?_))
  refine mv rfl (.f rfl rfl) (.u rfl) (.nil (Wp.one 9 (by kernel_rfl) ?_))
  refine mv rfl (.f rfl rfl) (.u rfl) (.nil (Wp.one 10 (by kernel_rfl) ?_))
  refine ar rfl (.f rfl rfl) (.s rfl) (.u rfl) rfl (fun hc=>wrap_i64 (by (try simp only [Bool.and_eq_true,decide_eq_true_eq,Bool.not_eq_true',Bool.or_eq_false_iff,decide_eq_false_iff_not,beq_iff_eq,beq_eq_false_iff_ne,ne_eq] at hc); omega) (by (try simp only [Bool.and_eq_true,decide_eq_true_eq,Bool.not_eq_true',Bool.or_eq_false_iff,decide_eq_false_iff_not,beq_iff_eq,beq_eq_false_iff_ne,ne_eq] at hc); omega)) ?_
  refine .nil (Wp.one 11 (by kernel_rfl) ?_)
  refine ih rfl (.f rfl rfl) Fx.se31 (.s rfl) (.s rfl) (fun hc=>by (try simp only [Bool.and_eq_true,decide_eq_true_eq,Bool.not_eq_true',Bool.or_eq_false_iff,decide_eq_false_iff_not,beq_iff_eq,beq_eq_false_iff_ne,ne_eq] at hc); omega) (fun hc=>by (try simp only [Bool.and_eq_true,decide_eq_true_eq,Bool.not_eq_true',Bool.or_eq_false_iff,decide_eq_false_iff_not,beq_iff_eq,beq_eq_false_iff_ne,ne_eq] at hc); omega) (fun hc=>hs.nn (k:=((((k:Nat):Int)-(1:Int))).toNat) (by first|omega|(simp only [Bool.and_eq_true,decide_eq_true_eq,Bool.not_eq_true',Bool.or_eq_false_iff,decide_eq_false_iff_not,beq_iff_eq,beq_eq_false_iff_ne,ne_eq] at hc; omega)|(simp only [List.length_cons,List.length_nil]; omega))) ?_
  refine .nil (Wp.one 12 (by kernel_rfl) ?_)
  refine fa rfl (.f rfl rfl) Fx.fo47_0 (.s rfl) (.nil (Wp.one 13 (by kernel_rfl) ?_))
  refine ld rfl (.f rfl rfl) Fx.ag9 (.s rfl) (fun hc=>(hs.at (by (try simp only [Bool.and_eq_true,decide_eq_true_eq,Bool.not_eq_true',Bool.or_eq_false_iff,decide_eq_false_iff_not,beq_iff_eq,beq_eq_false_iff_ne,ne_eq] at hc); omega) ey 0 _ rfl).rd) ?_
  refine .nil (Wp.one 14 (by kernel_rfl) ?_)
  refine cs rfl (.f rfl rfl) (.s rfl) (.s rfl) rfl (.nil (Wp.one 15 (by kernel_rfl) ?_))
  refine pkO rfl .no (.u rfl) (.s rfl) (.nil (Wp.last (by kernel_rfl) ?_))
  refine .code (.cond rfl (fun c2=>?_) (fun c2=>?_))
  ·have c2k:=c2
   try simp only [qcA,qcC,qcB] at c2
   refine rq9 rfl rfl (mV rfl rfl (mV rfl rfl (mV rfl rfl (ih rfl .no Fx.se31 (.u rfl) (.u rfl) (fun _=>by omega) (fun _=>by omega) (fun _=>hs.nn (k:=k) (by first|omega|(simp only [Bool.and_eq_true,decide_eq_true_eq,Bool.not_eq_true',Bool.or_eq_false_iff,decide_eq_false_iff_not,beq_iff_eq,beq_eq_false_iff_ne,ne_eq] at hc; omega)|(simp only [List.length_cons,List.length_nil]; omega))) ?_))))
   refine fa rfl .no Fx.fo47_0 (.u rfl) (ld rfl .no Fx.ag9 (.u rfl) (fun _=>(hs.at (by omega) ex 0 _ rfl).rd) ?_)
   refine Go.Tan.b1 rfl Fx.se71 Fx.zv9 (.u rfl) rfl rfl (by decide) ?_; intro b33
   refine apS (xs:=US) (x.user) rfl Fx.se71 Fx.zv9 rfl (.u rfl) (.u rfl) tk1 .here (rfl) (one1 rfl) (by omega) (by unfold maxLen; omega) ?_; intro v34 ov34
   refine aS rfl rfl (.nil (.blk (.code (rq3 rfl rfl (mV rfl rfl (arn (((k+1):Nat):Int) rfl .no (.u rfl) (.u rfl) rfl (fun _=>by omega) (fun _=>wrap_i64 (by omega) (by omega)) ?_))))))
   refine aS rfl rfl (.nil (We.lpo (k+1,v34,US++[x.user]) ?_ ?_ ?_ ?_ ?_))
   ·exact (esD rfl (esC rfl (by first|rfl|exact evi (by omega)) (esD rfl eZ)))
   ·exact (mS .here rfl mN)
   ·first|omega|(dsimp only; omega)
   ·exact hGl0
   refine ⟨?_,?_,?_⟩
   ·(try dsimp only)<;>(first|omega|rfl|assumption|(simp; done))
   ·(try dsimp only)<;>(exact us_new eU ex (fun _=>ey) (us_c c2k))
   (try dsimp only)<;>(rw [List.length_append]; simp only [List.length_cons,List.length_nil]; omega)
  have c2k:=c2
  try simp only [qcA,qcC,qcB] at c2
  refine .skip (.blk (.code (rq3 rfl rfl (mV rfl rfl (arn (((k+1):Nat):Int) rfl .no (.u rfl) (.u rfl) rfl (fun _=>by omega) (fun _=>wrap_i64 (by omega) (by omega)) ?_)))))
  refine aS rfl rfl (.nil (We.lpo (k+1,v,US) ?_ ?_ ?_ ?_ ?_))
  ·exact (esD rfl (esC rfl (by first|rfl|exact evi (by omega)) (esD rfl eZ)))
  ·exact (mS .here rfl mN)
  ·first|omega|(dsimp only; omega)
  ·exact hGl0
  refine ⟨?_,?_,?_⟩
  ·(try dsimp only)<;>(first|omega|rfl|assumption|(simp; done))
  ·(try dsimp only)<;>(exact us_old eU ex (us_d c2k).1 ey (us_d c2k).2)
  (try dsimp only)<;>(first|omega|rfl|assumption|(simp; done))
 have c1k:=c1
 try simp only [qcA,qcC,qcB] at c1
 refine .exit (.xcode (.xlp (.xblk (.code (.seq (rq2 rfl rfl (mV rfl rfl (aS rfl rfl (.nil (.code (.ret ?_)))))))))))
 refine we_fs .here (fun _ _=>rfl) (by intro b hb; cases hb) ?_; intro GfRU hRU hleRU evRU hsRU; subst evRU
 refine We.fin0 Tryz.results50 (.tmp rfl .nil) ?_
 obtain rfl:k=l.length:=by omega
 rw [List.take_length] at eU
 exact ⟨hRU,US,eU,rfl,rfl,hsRU⟩
theorem r17row_ok (xs:List Y) (h:Sh) (G:PM) (hs:SlR G 1 encY h xs) (hR:RdNP G 0 0 (wa 64 kW)) (hl:xs.length≤100000000):Ct Tryz.prog 47 ([h.val xs.length]:List Value).toArray G [] (PR 5 (fun L=>L=rowL xs)):=by
 refine Ct.of Tryz.func47 rfl Tryz.ntmps47 rfl fun w0 hs0=>?_
 refine .seq (rq1 rfl rfl (aS rfl rfl (.nil (.code (.seq (rq5 rfl rfl (mV rfl rfl (ln rfl .no Fx.sn34 (.u rfl) (ci rfl .no rfl Fx.cv3_24 (.u rfl) ?_)))))))))
 refine kc rfl Fx.go43 (Evc rfl Evn) (Ct.rowc (rrNum_ok _ _)) ?_
 rintro v8 G8 μ8 hG8 ⟨L8,ov8,eL8,rfl⟩
 have hs:=hs.mono hG8
 have hR:=hR.mono hG8
 refine aS rfl rfl (.nil (.code (.seq (rq4 rfl rfl (mV rfl rfl (kv rfl .no Fx.go48 (Evc rfl Evn) (fun _=>rLeaf_ok xs h _ hs hR (by omega)) ?_))))))
 refine al rfl Fx.zq23 ?_; intro b4
 refine sw rfl (.u rfl) (.u rfl) rfl Fx.sz23 .here rfl (ba_one _ _) ?_
 refine .nil (.code (.seq (rq4 rfl rfl (mV rfl rfl (sa0 rfl .no Fx.ar23 (.u rfl) ?_)))))
 have lL8:=nmy eL8
 refine apY rfl Fx.se34 Fx.zv5 (.u rfl) (.u rfl) tk1 (Sc.arr .here) (by (try simp only [qlA,yl_len]); omega) ?_
 intro v13 L13 ov13 eL13
 have lL13:L13.length=L8.length+32:=by rw [eL13,List.length_append]; first|rfl | simp [yl_len]
 refine aS rfl rfl (.nil (.code (.seq (rq2 rfl rfl (mV rfl rfl (aS rfl rfl (.nil (.code (.ret (We.fin Tryz.results47 (.tmp rfl .nil) (mS .here rfl mN) ?_))))))))))
 exact ⟨L13,rrow (by omega) eL8 eL13,rfl⟩
end Go.Proofs.YtbdnclpopappeaaGreatDoor
