/- Lemmas and contracts of functions, joined. -/
import Derived.Test.YtbdnclpopappeaaDoorTp4
set_option linter.unusedSimpArgs false
set_option linter.unusedVariables false
set_option linter.unusedSectionVars false
namespace Go.Proofs.YtbdnclpopappeaaDoor
open Go.Tan Go.RowKit
namespace Fx
theorem go19:goFn Tryd.prog 19=true:=by kernel_rfl
theorem zq38:zrL Tryd.prog 38=some (Meta.zero.cells):=by kernel_rfl
theorem fo28_0:fOff Tryd.prog 28 0=some 0:=by kernel_rfl
theorem fo28_1:fOff Tryd.prog 28 1=some 1:=by kernel_rfl
theorem bp38_:bPl Tryd.prog 38 []=some (Meta.zero.cells,[]):=by kernel_rfl
theorem sz38:szT Tryd.prog 38=some 40:=by kernel_rfl
theorem ag38:aggN Tryd.prog 38=some (some 40):=by kernel_rfl
theorem go23:goFn Tryd.prog 23=true:=by kernel_rfl
theorem bp73_0_1_2:bPl Tryd.prog 73 [0,1,2]=some ([.int .u8 0,.int .u8 0,.int .u8 0,.int .u8 0,.int .u8 0,.int .u8 0,.int .u8 0,.int .u8 0,.int .u8 0,.int .u8 0,.int .u8 0,.int .u8 0,.int .u8 0,.int .u8 0,.int .u8 0,.int .u8 0,.int .u8 0,.int .u8 0,.int .u8 0,.int .u8 0,.int .u8 0,.int .u8 0,.int .u8 0,.int .u8 0,.int .u8 0,.int .u8 0,.int .u8 0,.int .u8 0,.int .u8 0,.int .u8 0,.int .u8 0,.int .u8 0,.int .u8 0,.int .u8 0,.int .u8 0,.int .u8 0,.int .u8 0,.int .u8 0,.int .u8 0,.int .u8 0,.int .u8 0,.int .u8 0,.int .u8 0,.int .u8 0,.int .u8 0,.int .u8 0,.int .u8 0,.int .u8 0,.int .u8 0,.int .u8 0,.int .u8 0,.int .u8 0,.int .u8 0,.int .u8 0,.int .u8 0,.int .u8 0,.int .u8 0,.int .u8 0,.int .u8 0,.int .u8 0,.int .u8 0,.int .u8 0,.int .u8 0,.int .u8 0,.slice none 0 0,.slice none 0 0,.slice none 0 0],[(0,64),(64,1),(65,1)]):=by kernel_rfl
theorem go24:goFn Tryd.prog 24=true:=by kernel_rfl
theorem go26:goFn Tryd.prog 26=true:=by kernel_rfl
theorem go27:goFn Tryd.prog 27=true:=by kernel_rfl
theorem go28:goFn Tryd.prog 28=true:=by kernel_rfl
theorem fo28_2:fOff Tryd.prog 28 2=some 2:=by kernel_rfl
theorem go30:goFn Tryd.prog 30=true:=by kernel_rfl
theorem go29:goFn Tryd.prog 29=true:=by kernel_rfl
theorem go18:goFn Tryd.prog 18=true:=by kernel_rfl
theorem bp38_0_1_2_3_4_5_6_7_8:bPl Tryd.prog 38 [0,1,2,3,4,5,6,7,8]=some (Meta.zero.cells,[(0,1),(1,1),(2,1),(3,1),(4,1),(5,1),(6,1),(7,1),(8,32)]):=by kernel_rfl
end Fx
set_option maxHeartbeats 4000000 in
theorem tBuild_ok (root:Nat→Y) (h:Hd) (l:List Ent) (hl:Sh) (blk every bits:Int) (G:PM) (hs:SlR G 4 Ent.cells hl l) (hli:lightE l) (hK:RdNP G 0 0 (wa 64 kW)):Ct Tryd.prog 8 ([.agg (ba 32 root).toArray,.agg ([V h.kind,V h.level,uv .u64 h.gen,uv .u64 h.epoch,uv .u64 h.num]:List Value).toArray,hl.val l.length,.agg #[.int .i64 blk,.int .i64 every,.int .i64 bits]]:List Value).toArray G [] (fun G' μ' u=>∃ (h':Sh) (L:List Y) (m:Meta) (er:Int),BuildR root h l blk every bits L m er∧μ'=[]∧u=.tuple #[h'.val L.length,m.val,.int .i64 er]∧SlR G' 1 encY h' L):=by
 refine Ct.of Tryd.func8 rfl Tryd.ntmps8 rfl fun w0 hs0=>?_
 have hl1:=hli.1; have hl2:=hli.2
 refine .seq (rq6 rfl rfl ?_)
 refine bx rfl (.u rfl) rfl ?_; intro b4
 refine bx rfl (.u rfl) rfl ?_; intro b5
 refine bx rfl (.u rfl) rfl ?_; intro b7
 refine aS rfl rfl ?_
 refine al rfl Fx.zq38 ?_; intro b9
 refine aS rfl rfl (.nil (.code (.seq (rq1 rfl rfl (aS rfl rfl (.nil (.code (.seq (.seq (Wk.rg [0,1,2,3,4,5,6,7,8,9,10,11,12,13,14,15,16,17,18,19,20,21,22,23,24,25,26,27,28,29,30,31,32,33,34,35,36,37,38,39,40,41,42] rfl rfl (fz rfl .no Fx.fo26_0 (.u rfl) (ld rfl .no Fx.ag5 (.u rfl) (fun _=>Rd.own tk2 (by first|exact wap_f rfl|rfl)) ?_))))))))))))
 refine cp rfl .no (.u rfl) (.u rfl) rfl (mV rfl rfl (lA rfl (.f rfl rfl) Fx.ag26 (.u rfl) (fun _=>RdN.own tk2) (fun _=>(by first|exact (key_len _ _).trans (key_len _ _).symm|exact key_len _ _|exact ba_len _ _|exact Ent.len _|rfl)) ?_))
 refine kv rfl (.f rfl rfl) Fx.go20 (Eva.cons (.s rfl) Evn) (fun hc=>nRight_ok h _) ?_
 refine nt rfl (.f rfl rfl) (.s rfl) (pkO rfl .no (.u rfl) (.s rfl) (mV rfl rfl (mv rfl (.f rfl rfl) (.u rfl) (ln rfl (.f rfl rfl) Fx.sn31 (.s rfl) (cp rfl (.f rfl rfl) (.s rfl) (.u rfl) rfl (pkO rfl .no (.u rfl) (.s rfl) (mV rfl rfl (fz rfl (.f rfl rfl) Fx.fo28_0 (.u rfl) (ld rfl (.f rfl rfl) Fx.ag3 (.s rfl) (fun hc=>Rd.own tk1 (by first|exact wap_f rfl|rfl)) ?_)))))))))
 refine cp rfl (.f rfl rfl) (.s rfl) (.u rfl) rfl (pkO rfl .no (.u rfl) (.s rfl) (mV rfl rfl (fz rfl (.f rfl rfl) Fx.fo28_0 (.u rfl) (ld rfl (.f rfl rfl) Fx.ag3 (.s rfl) (fun hc=>Rd.own tk1 (by first|exact wap_f rfl|rfl)) ?_))))
 refine cp rfl (.f rfl rfl) (.s rfl) (.u rfl) rfl (pkO rfl .no (.u rfl) (.s rfl) (mV rfl rfl (fz rfl (.f rfl rfl) Fx.fo28_1 (.u rfl) (ld rfl (.f rfl rfl) Fx.ag3 (.s rfl) (fun hc=>Rd.own tk1 (by first|exact wap_f rfl|rfl)) ?_))))
 refine cp rfl (.f rfl rfl) (.s rfl) (.u rfl) rfl (pkO rfl .no (.u rfl) (.s rfl) (mV rfl rfl (fz rfl (.f rfl rfl) Fx.fo28_1 (.u rfl) (ld rfl (.f rfl rfl) Fx.ag3 (.s rfl) (fun hc=>Rd.own tk1 (by first|exact wap_f rfl|rfl)) ?_))))
 refine cp rfl (.f rfl rfl) (.s rfl) (.u rfl) rfl (pkO rfl .no (.u rfl) (.s rfl) (mV rfl rfl (mv rfl (.f rfl rfl) (.u rfl) (mv rfl (.f rfl rfl) (.u rfl) (kv rfl (.f rfl rfl) Fx.go21 (Eva.cons (.s rfl) (Eva.cons (.s rfl) Evn)) (fun hc=>contE_ok hl l _ hs (by (try simp only [Bool.and_eq_true,decide_eq_true_eq,Bool.not_eq_true',Bool.or_eq_false_iff,decide_eq_false_iff_not] at hc); omega) 19 Fx.go19 [] (fun e => !rightE e) (fun G2 _ e _=>tBad_ok e G2)) ?_)))))
 refine pkO rfl .no (.u rfl) (.s rfl) (mV rfl rfl (mv rfl (.f rfl rfl) (.u rfl) (kv rfl (.f rfl rfl) Fx.go22 (Eva.cons (.s rfl) Evn) (fun hc=>rises_ok hl l _ hs (by (try simp only [Bool.and_eq_true,decide_eq_true_eq,Bool.not_eq_true',Bool.or_eq_false_iff,decide_eq_false_iff_not] at hc); omega)) ?_)))
 refine nt rfl (.f rfl rfl) (.s rfl) (pkO rfl .no (.u rfl) (.s rfl) (.nil (.code (.cond rfl (fun c1=>?_) (fun c1=>?_)))))
 ·have c1k:=c1
  try simp only [qcA,qcC,qcB] at c1
  refine .seq (rq4 rfl rfl (bC rfl .no Fx.bp38_ .nil rfl ?_))
  refine aS rfl rfl (sw rfl (.u rfl) (.u rfl) rfl Fx.sz38 .here (by first|exact (key_len _ _).trans (key_len _ _).symm|exact key_len _ _|exact ba_len _ _|exact Ent.len _|rfl) (by first|exact ba_one _ _|exact wa_one _ _|exact one_V _|decide|exact one_app (wa_one _ _) (by simp [Value.oneCell'])) ?_)
  refine aS rfl rfl (.nil (.code (.ret (We.fin0 Tryd.results8 (.tmp rfl (.cell rfl (fun w hw=>run_loadVarN Fx.ag38 (RdN.own .here) ((by first|exact mt_len|exact Meta.len _)) hw) (.tmp rfl .nil))) ?_))))
  exact ⟨⟨none,0⟩,[],Meta.zero,1,tb_bad c1k,rfl,rfl,SlR.nul⟩
 have c1k:=c1
 try simp only [qcA,qcC,qcB] at c1
 refine .skip (.code (.seq ?_))
 refine wk_fz tk3 (by intro b hb; cases hb) ?_; intro Gfb4 hleb4 hbb4
 have hs:=hs.mono hleb4
 have hK:=hK.mono hleb4
 refine wk_fz tk2 (by intro b hb; cases hb) ?_; intro Gfb5 hleb5 hbb5
 have hs:=hs.mono hleb5
 have hK:=hK.mono hleb5
 have hbb4:=hbb4.mono hleb5
 refine wk_fz tk1 (by intro b hb; cases hb) ?_; intro Gfb7 hleb7 hbb7
 have hs:=hs.mono hleb7
 have hK:=hK.mono hleb7
 have hbb4:=hbb4.mono hleb7
 have hbb5:=hbb5.mono hleb7
 refine Wk.mixp ⟨true,false⟩ Fx.mix (by kernel_rfl) ?_
 refine Wp.one 0 (by kernel_rfl) ?_
 refine lA rfl .no Fx.ag23 (.u rfl) (fun _=>(hbb4.rdn (m:=32) (cs':=_) (by first|exact ba_all|exact app_l|exact app_r)).rd) (fun _=>(ba_len _ _)) ?_
 refine .nil (Wp.one 1 (by kernel_rfl) ?_)
 refine lA rfl .no Fx.ag26 (.u rfl) (fun _=>(hbb5.rdn (m:=5) (cs':=h.cells) (rfl)).rd) (fun _=>rfl) ?_
 refine .nil (Wp.pr 3 (by kernel_rfl) ?_)
 refine lA rfl .no Fx.ag26 (.u rfl) (fun _=>(hbb5.rdn (m:=5) (cs':=h.cells) (rfl)).rd) (fun _=>rfl) ?_
 refine .nil ⟨⟨rfl,rfl⟩,?_⟩
 refine Wp.pr 5 (by kernel_rfl) ?_
 refine lA rfl .no Fx.ag26 (.u rfl) (fun _=>(hbb5.rdn (m:=5) (cs':=h.cells) (rfl)).rd) (fun _=>rfl) ?_
 refine .nil ⟨⟨rfl,rfl⟩,?_⟩
 refine Wp.b1 2 (by kernel_rfl) ?_
 refine kv rfl .no Fx.go23 (Evc rfl (Evc rfl Evn)) (fun _=>KeyOf_ok root h _ hK) ?_
 refine .nil (Wp.b1 4 (by kernel_rfl) ?_)
 refine kc rfl Fx.go15 (Evc rfl Evn) (Ct.frzB (nLay_ok h _)) ?_
 rintro _ G74 μ74 hG74 ⟨h74,L74,eL74,rfl,rfl,hs74⟩
 have hs:=hs.mono hG74
 have hK:=hK.mono hG74
 have hbb5:=hbb5.mono hG74
 have hbb7:=hbb7.mono hG74
 refine .nil (Wp.b1 6 (by kernel_rfl) ?_)
 refine kc rfl Fx.go15 (Evc rfl Evn) (Ct.rowc (nLay_ok h _)) ?_
 rintro v76 G76 μ76 hG76 ⟨L76,ov76,eL76,rfl⟩
 have hs:=hs.mono hG76
 have hK:=hK.mono hG76
 have hbb5:=hbb5.mono hG76
 have hbb7:=hbb7.mono hG76
 have hs74:=hs74.mono hG76
 refine .nil (Wp.one 7 (by kernel_rfl) ?_)
 refine bCe (wrC (keyEnc root (headL h)) (keyMac root (headL h)) (h74.val L74.length) v76 (.slice none 0 0)) rfl .no Fx.bp73_0_1_2 (.cons (.u rfl) rfl (.cons (.u rfl) rfl (.cons (.u rfl) (cells_one ov76) .nil))) rfl (rfl) (.nil (Wp.b1 8 (by kernel_rfl) ?_))
 refine bx rfl (.u rfl) rfl ?_; intro b78
 refine .nil (Wp.one 9 (by kernel_rfl) ?_)
 refine aS rfl rfl (.nil (Wp.last (by kernel_rfl) ?_))
 refine .code (.seq (wk_nilS 32 (ba 32) 23 ?_))
 refine rq1 rfl rfl (aS rfl rfl (.nil (.code (.seq (rq1 rfl rfl (aS rfl rfl (.nil (.code (.seq (rq1 rfl rfl (aS rfl rfl (.nil (.code (.seq (.seq ?_)))))))))))))))
 obtain ⟨hnb,hg,hev⟩:=tb_good (root:=root) (bits:=bits) c1k hli
 have hok:=hg.ok
 refine wk_nilB 5 ?_
 refine wk_nilS 1 encT 9 ?_
 refine rq2 rfl rfl (mV rfl rfl (aS rfl rfl (.nil (.code (.block ?_)))))
 refine Wk.lop (α:=Nat×List Ent×Sh×Value×List Y×Value×List ByteArray×Value×List Y×Value×List Dg) (fun gh=>[(13,true,gh.2.2.2.1),(14,true,.int .i64 (gh.1:Int)),(15,true,gh.2.2.2.2.2.1),(16,true,gh.2.2.1.val gh.2.1.length)]) (fun gh=>[rS 1 encT gh.2.2.2.2.2.1 9 gh.2.2.2.2.2.2.1,rB gh.2.2.2.1 5 gh.2.2.2.2.1,rS 32 (ba 32) gh.2.2.2.2.2.2.2.2.2.1 23 gh.2.2.2.2.2.2.2.2.2.2,.blk b78 (cl (wrC (keyEnc root (headL h)) (keyMac root (headL h)) (h74.val L74.length) gh.2.2.2.2.2.2.2.1 gh.2.2.2.2.2.2.2.2.2.1) 73),rB gh.2.2.2.2.2.2.2.1 5 gh.2.2.2.2.2.2.2.2.1])
  (fun gh Gl=>(gh.1≤(cutsE blk l).length)∧(gh.2.1=((cutsE blk l).drop gh.1).flatten)∧(gh.2.2.2.2.2.2.2.2.1=(tabOf root h l blk every bits).out gh.1)∧(gh.2.2.2.2.1=(tabOf root h l blk every bits).rows gh.1)∧(gh.2.2.2.2.2.2.2.2.2.2=(tabOf root h l blk every bits).lvs gh.1)∧(gh.2.2.2.2.2.2.1=((tabOf root h l blk every bits).cs.take gh.1).flatten.map (·.user))∧(SlR Gl 4 Ent.cells gh.2.2.1 gh.2.1)) (fun gh=>(cutsE blk l).length-gh.1) (0,l,hl,.slice none 0 0,[],.slice none 0 0,[],v76,L76,.slice none 0 0,[]) [(2,true,_),(5,true,_),(7,true,_),(9,true,_),(12,true,_)] [_]
  (esD rfl (esC rfl (by first|rfl|exact evi (by omega)) (esD rfl (esD rfl (esD rfl (esD rfl (esD rfl (esD rfl (esD rfl eZ)))))))))
  (mS .here rfl (mS .here rfl (mS .here rfl (mS .here rfl (mS .here rfl (mS .here rfl mN)))))) ?_ ?_
 ·refine ⟨?_,?_,?_,?_,?_,?_,?_⟩
  ·(try dsimp only)<;>(first|omega|rfl|assumption|(simp; done))
  ·(try dsimp only)<;>(exact (cuts_flat blk l).symm)
  ·(try dsimp only)<;>(rw [eL76]; exact (List.append_nil _).symm)
  ·(try dsimp only)<;>(rfl)
  ·(try dsimp only)<;>(rfl)
  ·(try dsimp only)<;>(rfl)
  (try dsimp only)<;>(exact hs)
 intro gh N0 Gl0 hN0 hGl0 hF0
 obtain ⟨k,rest,hr,vr,RW,vu,US,vo,O,vl,D⟩:=gh; dsimp only at hF0 hN0 ⊢
 obtain ⟨hk,hrest,eO,eR,eD,eU,hsr⟩:=hF0
 have hs:=hs.mono hGl0
 have hK:=hK.mono hGl0
 have hbb5:=hbb5.mono hGl0
 have hbb7:=hbb7.mono hGl0
 have hs74:=hs74.mono hGl0
 have hrl:=tb_light hli hrest; have hrl1:=hrl.1; have hrl2:=hrl.2
 have lO:O.length≤74630:=by rw [eO]; exact hok.out_small hk
 have lR:RW.length≤65600:=by rw [eR]; exact hok.rows_small hk
 have lc:(cutsE blk l).length≤300:=hok.cs_le
 have hcl:=cutA_le blk rest 0
 have lD:D.length=k:=by rw [eD,Tab.lvs_len]
 have lU:US.length≤300:=by rw [eU]; exact Nat.le_trans (usr_len _ _) (by rw [show (tabOf root h l blk every bits).cs.flatten=l from cuts_flat blk l]; omega)
 refine .seq (.seq (rq3 rfl rfl (mV rfl rfl (ln rfl .no Fx.sn31 (.u rfl) (cp rfl .no (.u rfl) (.u rfl) rfl (.nil (.code (.cond rfl (fun c2=>?_) (fun c2=>?_)))))))))
 ·have c2k:=c2
  try simp only [qcA,qcC,qcB] at c2
  refine .skip (.code (.seq (.block (.seq (rq5 rfl rfl (mV rfl rfl (fa rfl .no Fx.fo28_0 (.u rfl) (ld rfl .no Fx.ag3 (.u rfl) (fun _=>(hbb7.rd (by rfl)).rd) ?_))))))))
  refine kv rfl .no Fx.go24 (Evc rfl (Evc rfl Evn)) (fun _=>cut_ok hr rest blk _ hsr (by omega) (by omega)) ?_
  refine aS rfl rfl (.nil (.code (.seq (rq4 rfl rfl (mV rfl rfl (mV rfl rfl (kE ((cutA blk 0 rest)) rfl .no Fx.se31 hsr (.u rfl) (.u rfl) (fun _=>by omega) (fun _=>by omega) ?_)))))))
  intro h91 L91 eL91 lL91 hs91
  have lL91:=lL91 rfl
  refine aS rfl rfl (.nil (.code (.seq (rq4 rfl rfl (mV rfl rfl (mV rfl rfl (kD ((cutA blk 0 rest)) rfl .no Fx.se31 hsr (.u rfl) (.u rfl) (fun _=>by omega) (fun _=>by omega) ?_)))))))
  intro h94 L94 eL94 lL94 hs94
  have lL94:=lL94 rfl
  refine aS rfl rfl (.nil (.code (.seq (rq9 rfl rfl (mV rfl rfl (fa rfl .no Fx.fo28_1 (.u rfl) (ld rfl .no Fx.ag3 (.u rfl) (fun _=>(hbb7.rd (by rfl)).rd) ?_)))))))
  refine kc rfl Fx.go25 (Evc rfl (Evc rfl Evn)) (bBuild_ok h91 L91 every _ hs91 (by omega)) ?_
  rintro _ G99 μ99 hG99 ⟨v99,L99,er99,hB99,rfl,rfl⟩
  obtain ⟨hkc,hLk,hR94,lcut,l0,hbk⟩:=tb_part hg hev hrest (by omega) eL91 eL94
  obtain ⟨eL99,rfl⟩:=hbk hB99
  have hlL:lightE L91:=by rw [eL91]; exact hrl.take _
  have lB:L99.length≤63000:=by rw [eL99]; have:=blkL_le (every:=every.toNat) (l:=L91) (by omega) (by omega) (by have:=hlL.2; omega); have:=hlL.1; have:=hlL.2; omega
  have hs:=hs.mono hG99
  have hK:=hK.mono hG99
  have hbb5:=hbb5.mono hG99
  have hbb7:=hbb7.mono hG99
  have hs74:=hs74.mono hG99
  have hs91:=hs91.mono hG99
  have hs94:=hs94.mono hG99
  refine mV rfl rfl (ex rfl .no (.u rfl) rfl (ex rfl .no (.u rfl) rfl (aS rfl rfl (aS rfl rfl (.nil (.code (.seq (.seq (rq2 rfl rfl (mV rfl rfl (cp rfl .no (.u rfl) (.u rfl) rfl (.nil (.code (.cond rfl (fun c3=>?_) (fun c3=>?_)))))))))))))))
  ·have c3k:=c3
   first|exact absurd c3 (by decide)|(simp at c3; done)|(exfalso; simp only [decide_eq_true_eq,gt_iff_lt] at c3; omega)
  have c3k:=c3
  try simp only [qcA,qcC,qcB] at c3
  refine .skip (.code (.seq (rq7 rfl rfl (mV rfl rfl (mV rfl rfl (ar rfl .no (.u rfl) (.u rfl) rfl (fun _=>wrap_i64 (by omega) (by omega)) ?_))))))
  obtain ⟨x,ex⟩:=getx (k:=L91.length-1) (xs:=L91) (by omega)
  have hxu:=usz hlL ex
  refine ih rfl .no Fx.se31 (.u rfl) (.u rfl) (fun _=>by omega) (fun _=>by omega) (fun _=>hs91.nn (k:=(((((cutA blk 0 rest):Nat):Int)-(1:Int))).toNat) (by first|omega|(simp only [Bool.and_eq_true,decide_eq_true_eq] at hc; omega)|(simp only [List.length_cons,List.length_nil]; omega))) ?_
  refine fa rfl .no Fx.fo43_0 (.u rfl) (ld rfl .no Fx.ag9 (.u rfl) (fun _=>(hs91.at (by omega) ex 0 _ rfl).rd) (aS rfl rfl (.nil (.code (.seq (.seq (rq3 rfl rfl (mV rfl rfl (ln rfl .no Fx.sn31 (.u rfl) (cp rfl .no (.u rfl) (.u rfl) rfl (.nil (.code (.cond rfl (fun c4=>?_) (fun c4=>?_))))))))))))))
  ·have c4k:=c4
   try simp only [qcA,qcC,qcB] at c4
   refine rq7 rfl rfl (mV rfl rfl (mV rfl rfl (ih rfl .no Fx.se31 (.u rfl) (.u rfl) (fun _=>by omega) (fun _=>by omega) (fun _=>hs94.nn (k:=0) (by first|omega|(simp only [Bool.and_eq_true,decide_eq_true_eq] at hc; omega)|(simp only [List.length_cons,List.length_nil]; omega))) ?_)))
   refine fa rfl .no Fx.fo43_0 (.u rfl) ?_
   obtain ⟨y,ey⟩:=getx (k:=0) (xs:=L94) (by omega)
   have hbt:=betwL_len (yb x.user) (yb y.user); rw [yb_len] at hbt
   refine ld rfl .no Fx.ag9 (.u rfl) (fun _=>(hs94.at (by decide) ey 0 _ rfl).rd) ?_
   refine kv rfl .no Fx.go26 (Evc rfl (Evc rfl Evn)) (fun _=>betw_ok x.user y.user _ (by omega)) ?_
   refine aS rfl rfl (.nil (.code (.seq ?_)))
   refine wk_fb .here (by first|(intro b hb; cases hb; done) | simp [keys,Res.keys]) ?_; intro GfR99 hR99 hleR99 evR99 hsR99; subst evR99
   have hs:=hs.mono hleR99
   have hK:=hK.mono hleR99
   have hbb5:=hbb5.mono hleR99
   have hbb7:=hbb7.mono hleR99
   have hs74:=hs74.mono hleR99
   have hs91:=hs91.mono hleR99
   have hs94:=hs94.mono hleR99
   refine wk_fb tk1 (by first|(intro b hb; cases hb; done) | simp [keys,Res.keys]) ?_; intro GfRW hRW hleRW evRW hsRW; subst evRW
   have hs:=hs.mono hleRW
   have hK:=hK.mono hleRW
   have hbb5:=hbb5.mono hleRW
   have hbb7:=hbb7.mono hleRW
   have hs74:=hs74.mono hleRW
   have hs91:=hs91.mono hleRW
   have hs94:=hs94.mono hleRW
   have hsR99:=hsR99.mono hleRW
   refine rq10 rfl rfl (mV rfl rfl (mV rfl rfl (kc rfl Fx.go27 (Evc rfl (Evc rfl Evn)) (Ct.rowc (Str_ok RW hRW _ hsRW _ (by first|omega | (rw [bstr_len]; omega)))) ?_)))
   rintro v123 G123 μ123 hG123 ⟨L123,ov123,eL123,rfl⟩
   have hs:=hs.mono hG123
   have hK:=hK.mono hG123
   have hbb5:=hbb5.mono hG123
   have hbb7:=hbb7.mono hG123
   have hs74:=hs74.mono hG123
   have hs91:=hs91.mono hG123
   have hs94:=hs94.mono hG123
   have hsR99:=hsR99.mono hG123
   have hsRW:=hsRW.mono hG123
   refine mV rfl rfl (mV rfl rfl (arn (((2+k):Nat):Int) rfl .no (.u rfl) (.u rfl) rfl (fun _=>by omega) (fun _=>wrap_i64 (by omega) (by omega)) ?_))
   refine mV rfl rfl (ka rfl (.inr rfl) Fx.go28 (Evc rfl (Evc rfl (Evc rfl Evn))) (mtk3 tk3 tk3 tk2) (tPut_ok (keyEnc root (headL h)) (keyMac root (headL h)) L74 h74 O D vo vl b78 (2+k) L99 hR99 _ hs74 hsR99 hK (by rw [eL74,head_len]; decide) (by omega) (by omega) (by omega) (by omega)) ?_)
   rintro _ G128 μ128 hG128 ⟨X128,O128,W128,D128,vo128,vl128,bb128,cap128,eX128,eO128,eD128,eW128,rfl,rfl⟩
   have lX128:X128.length=L99.length+16:=by rw [eX128,seal_len]
   have lO128:O128.length=O.length+X128.length:=by rw [eO128,List.length_append]
   have lD128:D128.length=D.length+1:=by rw [eD128,List.length_append]; rfl
   have hs:=hs.mono hG128
   have hK:=hK.mono hG128
   have hbb5:=hbb5.mono hG128
   have hbb7:=hbb7.mono hG128
   have hs74:=hs74.mono hG128
   have hs91:=hs91.mono hG128
   have hs94:=hs94.mono hG128
   have hsR99:=hsR99.mono hG128
   have hsRW:=hsRW.mono hG128
   have lL123:=str_bd eL123 (by first|omega | (rw [bstr_len]; omega))
   have lW128:=row_bd eW128 (by omega)
   refine apY rfl Fx.se36 Fx.zv5 (.u rfl) (.u rfl) tk4 (Sc.row tk3) (by (try simp only [qlA,yl_len]); omega) ?_
   intro v129 L129 ov129 eL129
   have lL129:L129.length=L123.length+W128.length:=by rw [eL129,List.length_append]
   refine aS rfl rfl (.nil (.code (.seq (.seq (rq3 rfl rfl (mV rfl rfl (ln rfl .no Fx.sn31 (.u rfl) (mV rfl rfl (.nil (.code (.block ?_)))))))))))
   refine Wk.lop (α:=Nat×Value×List ByteArray) (fun gh=>[(15,true,gh.2.1),(132,true,.int .i64 (gh.1:Int))]) (fun gh=>[rS 1 encT gh.2.1 9 gh.2.2])
    (fun gh Gl=>(gh.1≤L91.length)∧(gh.2.2=US++(L91.take gh.1).map (·.user))) (fun gh=>L91.length-gh.1) (0,vu,US) [(2,true,_),(5,true,_),(7,true,_),(9,true,_),(12,true,_),(13,true,_),(14,true,_),(16,true,_),(130,true,_),(131,true,_)] [_,_,_,_,_,_]
    (esD rfl (esC rfl (by first|rfl|exact evi (by omega)) (esD rfl (esD rfl (esD rfl (esD rfl (esD rfl (esD rfl (esD rfl (esD rfl (esD rfl (esD rfl eZ))))))))))))
    (mS tk5 rfl (mS .here rfl (mS .here rfl (mS .here rfl (mS .here rfl (mS .here rfl (mS .here rfl mN))))))) ?_ ?_
   ·refine ⟨?_,?_⟩
    ·(try dsimp only)<;>(first|omega|rfl|assumption|(simp; done))
    (try dsimp only)<;>(simp)
   intro gh N1 Gl1 hN1 hGl1 hF1
   obtain ⟨j,w,U2⟩:=gh; dsimp only at hF1 hN1 ⊢
   obtain ⟨hj,eU2⟩:=hF1
   have hs:=hs.mono hGl1
   have hK:=hK.mono hGl1
   have hbb5:=hbb5.mono hGl1
   have hbb7:=hbb7.mono hGl1
   have hs74:=hs74.mono hGl1
   have hs91:=hs91.mono hGl1
   have hs94:=hs94.mono hGl1
   have hsR99:=hsR99.mono hGl1
   have hsRW:=hsRW.mono hGl1
   have lU2:U2.length≤600:=by rw [eU2,List.length_append,List.length_map,List.length_take]; omega
   refine .seq (rq1 rfl rfl (cp rfl .no (.u rfl) (.u rfl) rfl (.nil (.code (.seq (.cond rfl (fun c5=>?_) (fun c5=>?_)))))))
   ·have c5k:=c5
    try simp only [qcA,qcC,qcB] at c5
    refine .skip (.code (.seq (.block (.seq (rq4 rfl rfl (ih rfl .no Fx.se31 (.u rfl) (.u rfl) (fun _=>by omega) (fun _=>by omega) (fun _=>hs91.nn (k:=j) (by first|omega|(simp only [Bool.and_eq_true,decide_eq_true_eq] at hc; omega)|(simp only [List.length_cons,List.length_nil]; omega))) ?_))))))
    obtain ⟨z,ez⟩:=getx (k:=j) (xs:=L91) (by omega)
    refine lA rfl .no Fx.ag43 (.u rfl) (fun _=>(hs91.at (by omega) ez).rd) (fun _=>Ent.len _) ?_
    refine al rfl Fx.zq43 ?_; intro b23
    refine sw rfl (.u rfl) (.u rfl) rfl Fx.sz43 .here (by first|exact (key_len _ _).trans (key_len _ _).symm|exact key_len _ _|exact ba_len _ _|exact Ent.len _|rfl) (Ent.one _) ?_
    refine .nil (.code (rq6 rfl rfl (mV rfl rfl (fz rfl .no Fx.fo43_0 (.u rfl) (ld rfl .no Fx.ag9 (.u rfl) (fun _=>Rd.own .here (by first|exact wap_f rfl|rfl)) ?_)))))
    refine Go.Tan.b1 rfl Fx.se74 Fx.zv9 (.u rfl) rfl rfl (by decide) ?_; intro b139
    refine apS (xs:=U2) (z.user) rfl Fx.se74 Fx.zv9 rfl (.u rfl) (.u rfl) tk2 .here (rfl) (one1 rfl) (by omega) (by unfold maxLen; omega) ?_; intro v140 ov140
    refine aS rfl rfl (.nil (.blk (.code (rq2 rfl rfl (arn (((j+1):Nat):Int) rfl .no (.u rfl) (.u rfl) rfl (fun _=>by omega) (fun _=>wrap_i64 (by omega) (by omega)) ?_)))))
    refine mV rfl rfl (.nil (We.lpo (j+1,v140,U2++[z.user]) ?_ ?_ ?_ ?_ ?_))
    ·exact (esD rfl (esC rfl (by first|rfl|exact evi (by omega)) (esD rfl (esD rfl (esD rfl (esD rfl (esD rfl (esD rfl (esD rfl (esD rfl (esD rfl (esD rfl eZ))))))))))))
    ·exact (mS .here rfl (mS tk2 rfl (mS tk2 rfl (mS tk2 rfl (mS tk2 rfl (mS tk2 rfl (mS tk2 rfl mN)))))))
    ·first|omega|(dsimp only; omega)
    ·exact hGl1
    refine ⟨?_,?_⟩
    ·(try dsimp only)<;>(first|omega|rfl|assumption|(simp; done))
    (try dsimp only)<;>(rw [eU2,us_snoc ez])
   have c5k:=c5
   try simp only [qcA,qcC,qcB] at c5
   refine .exit (.xcode (.xlp (.xblk (.code (.seq (rq6 rfl rfl (mV rfl rfl (nc rfl .no (.u rfl) (fz rfl .no Fx.fo73_2 (.u rfl) (ld rfl .no Fx.ag36 (.u rfl) (fun _=>Rd.own tk2 wrc_out) ?_))))))))))
   refine lr rfl .no Fx.sn36 (.u rfl) tk3 ?_
   refine cp rfl .no (.u rfl) (.u rfl) rfl (.nil (.code (.cond rfl (fun c6=>?_) (fun c6=>?_))))
   ·have c6k:=c6
    first|exact absurd c6 (by decide)|(simp at c6; done)|(exfalso; simp only [decide_eq_true_eq,gt_iff_lt] at c6; omega)
   have c6k:=c6
   try simp only [qcA,qcC,qcB] at c6
   refine .skip (.blk (.code (rq3 rfl rfl (mV rfl rfl (arn (((k+1):Nat):Int) rfl .no (.u rfl) (.u rfl) rfl (fun _=>by omega) (fun _=>wrap_i64 (by omega) (by omega)) ?_)))))
   refine aS rfl rfl (.nil ?_)
   have hX:X128=(tabOf root h l blk every bits).prt k:=tb_prt (t:=(tabOf root h l blk every bits)) hLk (by rw [eX128,eL74,eL99]; rfl)
   refine We.lpo (k+1,L94,h94,v129,L129,w,U2,vo128,O128,vl128,D128) ?_ ?_ ?_ ?_ ?_
   ·exact (esD rfl (esC rfl (by first|rfl|exact evi (by omega)) (esD rfl (esD rfl (esD rfl (esD rfl (esD rfl (esD rfl (esD rfl eZ)))))))))
   ·exact (mS .here rfl (mS .here rfl (mS tk2 rfl (mS .here rfl (mS .here rfl (mS tk1 rfl mN))))))
   ·first|omega|(dsimp only; omega)
   ·exact ((((((hGl0).trans hG99).trans hleR99).trans hleRW).trans hG123).trans hG128).trans hGl1
   refine ⟨?_,?_,?_,?_,?_,?_,?_⟩
   ·(try dsimp only)<;>(first|omega|rfl|assumption|(simp; done))
   ·(try dsimp only)<;>(exact hR94)
   ·(try dsimp only)<;>(exact tb_out (t:=(tabOf root h l blk every bits)) eO hX eO128)
   ·(try dsimp only)<;>(exact tb_row (t:=(tabOf root h l blk every bits)) eR hX eW128 (by rw [yb_bstr]; exact tb_bnd1 hkc hLk hR94 (by omega) ex ey) eL123 eL129)
   ·(try dsimp only)<;>(exact tb_lvs (t:=(tabOf root h l blk every bits)) eD hX eD128)
   ·(try dsimp only)<;>(rw [eU2,show j=L91.length by omega,List.take_length]; exact tb_usr (t:=(tabOf root h l blk every bits)) hkc hLk eU)
   (try dsimp only)<;>(exact hs94)
  have c4k:=c4
  try simp only [qcA,qcC,qcB] at c4
  refine .skip (.code (.seq ?_))
  refine wk_fb .here (by first|(intro b hb; cases hb; done) | simp [keys,Res.keys]) ?_; intro GfR99 hR99 hleR99 evR99 hsR99; subst evR99
  have hs:=hs.mono hleR99
  have hK:=hK.mono hleR99
  have hbb5:=hbb5.mono hleR99
  have hbb7:=hbb7.mono hleR99
  have hs74:=hs74.mono hleR99
  have hs91:=hs91.mono hleR99
  have hs94:=hs94.mono hleR99
  refine wk_fb tk1 (by first|(intro b hb; cases hb; done) | simp [keys,Res.keys]) ?_; intro GfRW hRW hleRW evRW hsRW; subst evRW
  have hs:=hs.mono hleRW
  have hK:=hK.mono hleRW
  have hbb5:=hbb5.mono hleRW
  have hbb7:=hbb7.mono hleRW
  have hs74:=hs74.mono hleRW
  have hs91:=hs91.mono hleRW
  have hs94:=hs94.mono hleRW
  have hsR99:=hsR99.mono hleRW
  refine rq10 rfl rfl (mV rfl rfl (mV rfl rfl (kc rfl Fx.go27 (Evc rfl (Evc rfl Evn)) (Ct.rowc (Str_ok RW hRW _ hsRW _ (by first|omega | (rw [bstr_len]; omega)))) ?_)))
  rintro v123 G123 μ123 hG123 ⟨L123,ov123,eL123,rfl⟩
  have hs:=hs.mono hG123
  have hK:=hK.mono hG123
  have hbb5:=hbb5.mono hG123
  have hbb7:=hbb7.mono hG123
  have hs74:=hs74.mono hG123
  have hs91:=hs91.mono hG123
  have hs94:=hs94.mono hG123
  have hsR99:=hsR99.mono hG123
  refine mV rfl rfl (mV rfl rfl (arn (((2+k):Nat):Int) rfl .no (.u rfl) (.u rfl) rfl (fun _=>by omega) (fun _=>wrap_i64 (by omega) (by omega)) ?_))
  refine mV rfl rfl (ka rfl (.inr rfl) Fx.go28 (Evc rfl (Evc rfl (Evc rfl Evn))) (mtk3 tk3 tk3 tk2) (tPut_ok (keyEnc root (headL h)) (keyMac root (headL h)) L74 h74 O D vo vl b78 (2+k) L99 hR99 _ hs74 hsR99 hK (by rw [eL74,head_len]; decide) (by omega) (by omega) (by omega) (by omega)) ?_)
  rintro _ G128 μ128 hG128 ⟨X128,O128,W128,D128,vo128,vl128,bb128,cap128,eX128,eO128,eD128,eW128,rfl,rfl⟩
  have lX128:X128.length=L99.length+16:=by rw [eX128,seal_len]
  have lO128:O128.length=O.length+X128.length:=by rw [eO128,List.length_append]
  have lD128:D128.length=D.length+1:=by rw [eD128,List.length_append]; rfl
  have hs:=hs.mono hG128
  have hK:=hK.mono hG128
  have hbb5:=hbb5.mono hG128
  have hbb7:=hbb7.mono hG128
  have hs74:=hs74.mono hG128
  have hs91:=hs91.mono hG128
  have hs94:=hs94.mono hG128
  have lL123:=str_bd eL123 (by first|omega | (rw [bstr_len]; omega))
  have lW128:=row_bd eW128 (by omega)
  refine apY rfl Fx.se36 Fx.zv5 (.u rfl) (.u rfl) tk4 (Sc.row tk3) (by (try simp only [qlA,yl_len]); omega) ?_
  intro v129 L129 ov129 eL129
  have lL129:L129.length=L123.length+W128.length:=by rw [eL129,List.length_append]
  refine aS rfl rfl (.nil (.code (.seq (.seq (rq3 rfl rfl (mV rfl rfl (ln rfl .no Fx.sn31 (.u rfl) (mV rfl rfl (.nil (.code (.block ?_)))))))))))
  refine Wk.lop (α:=Nat×Value×List ByteArray) (fun gh=>[(15,true,gh.2.1),(132,true,.int .i64 (gh.1:Int))]) (fun gh=>[rS 1 encT gh.2.1 9 gh.2.2])
   (fun gh Gl=>(gh.1≤L91.length)∧(gh.2.2=US++(L91.take gh.1).map (·.user))) (fun gh=>L91.length-gh.1) (0,vu,US) [(2,true,_),(5,true,_),(7,true,_),(9,true,_),(12,true,_),(13,true,_),(14,true,_),(16,true,_),(130,true,_),(131,true,_)] [_,_,_,_,_,_]
   (esD rfl (esC rfl (by first|rfl|exact evi (by omega)) (esD rfl (esD rfl (esD rfl (esD rfl (esD rfl (esD rfl (esD rfl (esD rfl (esD rfl (esD rfl eZ))))))))))))
   (mS tk5 rfl (mS .here rfl (mS .here rfl (mS .here rfl (mS .here rfl (mS .here rfl (mS .here rfl mN))))))) ?_ ?_
  ·refine ⟨?_,?_⟩
   ·(try dsimp only)<;>(first|omega|rfl|assumption|(simp; done))
   (try dsimp only)<;>(simp)
  intro gh N2 Gl2 hN2 hGl2 hF2
  obtain ⟨j,w,U2⟩:=gh; dsimp only at hF2 hN2 ⊢
  obtain ⟨hj,eU2⟩:=hF2
  have hs:=hs.mono hGl2
  have hK:=hK.mono hGl2
  have hbb5:=hbb5.mono hGl2
  have hbb7:=hbb7.mono hGl2
  have hs74:=hs74.mono hGl2
  have hs91:=hs91.mono hGl2
  have hs94:=hs94.mono hGl2
  have lU2:U2.length≤600:=by rw [eU2,List.length_append,List.length_map,List.length_take]; omega
  refine .seq (rq1 rfl rfl (cp rfl .no (.u rfl) (.u rfl) rfl (.nil (.code (.seq (.cond rfl (fun c7=>?_) (fun c7=>?_)))))))
  ·have c7k:=c7
   try simp only [qcA,qcC,qcB] at c7
   refine .skip (.code (.seq (.block (.seq (rq4 rfl rfl (ih rfl .no Fx.se31 (.u rfl) (.u rfl) (fun _=>by omega) (fun _=>by omega) (fun _=>hs91.nn (k:=j) (by first|omega|(simp only [Bool.and_eq_true,decide_eq_true_eq] at hc; omega)|(simp only [List.length_cons,List.length_nil]; omega))) ?_))))))
   obtain ⟨z,ez⟩:=getx (k:=j) (xs:=L91) (by omega)
   refine lA rfl .no Fx.ag43 (.u rfl) (fun _=>(hs91.at (by omega) ez).rd) (fun _=>Ent.len _) ?_
   refine al rfl Fx.zq43 ?_; intro b23
   refine sw rfl (.u rfl) (.u rfl) rfl Fx.sz43 .here (by first|exact (key_len _ _).trans (key_len _ _).symm|exact key_len _ _|exact ba_len _ _|exact Ent.len _|rfl) (Ent.one _) ?_
   refine .nil (.code (rq6 rfl rfl (mV rfl rfl (fz rfl .no Fx.fo43_0 (.u rfl) (ld rfl .no Fx.ag9 (.u rfl) (fun _=>Rd.own .here (by first|exact wap_f rfl|rfl)) ?_)))))
   refine Go.Tan.b1 rfl Fx.se74 Fx.zv9 (.u rfl) rfl rfl (by decide) ?_; intro b139
   refine apS (xs:=U2) (z.user) rfl Fx.se74 Fx.zv9 rfl (.u rfl) (.u rfl) tk2 .here (rfl) (one1 rfl) (by omega) (by unfold maxLen; omega) ?_; intro v140 ov140
   refine aS rfl rfl (.nil (.blk (.code (rq2 rfl rfl (arn (((j+1):Nat):Int) rfl .no (.u rfl) (.u rfl) rfl (fun _=>by omega) (fun _=>wrap_i64 (by omega) (by omega)) ?_)))))
   refine mV rfl rfl (.nil (We.lpo (j+1,v140,U2++[z.user]) ?_ ?_ ?_ ?_ ?_))
   ·exact (esD rfl (esC rfl (by first|rfl|exact evi (by omega)) (esD rfl (esD rfl (esD rfl (esD rfl (esD rfl (esD rfl (esD rfl (esD rfl (esD rfl (esD rfl eZ))))))))))))
   ·exact (mS .here rfl (mS tk2 rfl (mS tk2 rfl (mS tk2 rfl (mS tk2 rfl (mS tk2 rfl (mS tk2 rfl mN)))))))
   ·first|omega|(dsimp only; omega)
   ·exact hGl2
   refine ⟨?_,?_⟩
   ·(try dsimp only)<;>(first|omega|rfl|assumption|(simp; done))
   (try dsimp only)<;>(rw [eU2,us_snoc ez])
  have c7k:=c7
  try simp only [qcA,qcC,qcB] at c7
  refine .exit (.xcode (.xlp (.xblk (.code (.seq (rq6 rfl rfl (mV rfl rfl (nc rfl .no (.u rfl) (fz rfl .no Fx.fo73_2 (.u rfl) (ld rfl .no Fx.ag36 (.u rfl) (fun _=>Rd.own tk2 wrc_out) ?_))))))))))
  refine lr rfl .no Fx.sn36 (.u rfl) tk3 ?_
  refine cp rfl .no (.u rfl) (.u rfl) rfl (.nil (.code (.cond rfl (fun c8=>?_) (fun c8=>?_))))
  ·have c8k:=c8
   first|exact absurd c8 (by decide)|(simp at c8; done)|(exfalso; simp only [decide_eq_true_eq,gt_iff_lt] at c8; omega)
  have c8k:=c8
  try simp only [qcA,qcC,qcB] at c8
  refine .skip (.blk (.code (rq3 rfl rfl (mV rfl rfl (arn (((k+1):Nat):Int) rfl .no (.u rfl) (.u rfl) rfl (fun _=>by omega) (fun _=>wrap_i64 (by omega) (by omega)) ?_)))))
  refine aS rfl rfl (.nil ?_)
  have hX:X128=(tabOf root h l blk every bits).prt k:=tb_prt (t:=(tabOf root h l blk every bits)) hLk (by rw [eX128,eL74,eL99]; rfl)
  refine We.lpo (k+1,L94,h94,v129,L129,w,U2,vo128,O128,vl128,D128) ?_ ?_ ?_ ?_ ?_
  ·exact (esD rfl (esC rfl (by first|rfl|exact evi (by omega)) (esD rfl (esD rfl (esD rfl (esD rfl (esD rfl (esD rfl (esD rfl eZ)))))))))
  ·exact (mS .here rfl (mS .here rfl (mS tk2 rfl (mS .here rfl (mS .here rfl (mS tk1 rfl mN))))))
  ·first|omega|(dsimp only; omega)
  ·exact ((((((hGl0).trans hG99).trans hleR99).trans hleRW).trans hG123).trans hG128).trans hGl2
  refine ⟨?_,?_,?_,?_,?_,?_,?_⟩
  ·(try dsimp only)<;>(first|omega|rfl|assumption|(simp; done))
  ·(try dsimp only)<;>(exact hR94)
  ·(try dsimp only)<;>(exact tb_out (t:=(tabOf root h l blk every bits)) eO hX eO128)
  ·(try dsimp only)<;>(exact tb_row (t:=(tabOf root h l blk every bits)) eR hX eW128 (tb_bnd0 hLk hR94 (by omega) ex) eL123 eL129)
  ·(try dsimp only)<;>(exact tb_lvs (t:=(tabOf root h l blk every bits)) eD hX eD128)
  ·(try dsimp only)<;>(rw [eU2,show j=L91.length by omega,List.take_length]; exact tb_usr (t:=(tabOf root h l blk every bits)) hkc hLk eU)
  (try dsimp only)<;>(exact hs94)
 have c2k:=c2
 try simp only [qcA,qcC,qcB] at c2
 refine .exit (.xcode (.xlp (.xblk (.code (.seq ?_)))))
 have hke:=cuts_end hrest (List.eq_nil_of_length_eq_zero (by omega))
 obtain rfl:k=(cutsE blk l).length:=by omega
 have eUS:=tb_all (Nat.le_refl _) eU
 have lcm:=cmp_len US
 refine Wk.mixp ⟨true,false⟩ Fx.mix (by kernel_rfl) ?_
 refine Wp.one 0 (by kernel_rfl) ?_
 refine mV rfl rfl (.nil (Wp.one 1 (by kernel_rfl) ?_))
 refine mV rfl rfl (.nil (Wp.one 2 (by kernel_rfl) ?_))
 refine mV rfl rfl (.nil (Wp.one 4 (by kernel_rfl) ?_))
 refine fa rfl .no Fx.fo28_2 (.u rfl) (.nil (Wp.pr 5 (by kernel_rfl) ?_))
 refine ld rfl .no Fx.ag3 (.u rfl) (fun _=>(hbb7.rd (by rfl)).rd) ?_
 refine .nil ⟨⟨rfl,rfl⟩,?_⟩
 refine Wp.b1 3 (by kernel_rfl) ?_
 refine ka rfl (.inl rfl) Fx.go30 (Evc rfl Evn) (mtk1 .here) (compact_ok US vu _ (by omega)) ?_
 rintro _ G152 μ152 hG152 ⟨vu2,rfl,rfl⟩
 have hs:=hs.mono hG152
 have hK:=hK.mono hG152
 have hbb5:=hbb5.mono hG152
 have hs74:=hs74.mono hG152
 refine .nil (Wp.b1 6 (by kernel_rfl) ?_)
 refine ka rfl (.inl rfl) Fx.go29 (Evc rfl (Evc rfl Evn)) (mtk1 .here) (Ct.lendS (encT_len _) (fun hu G2 hle hv hs=>by subst hv; exact make_ok hu (cmpU US) bits G2 hs (by omega) (by rw [eUS]; exact usr_sz hli))) ?_
 rintro v155 G155 μ155 hG155 ⟨_,rfl,L155,eL155,rfl⟩
 have lM:L155.length≤2500:=by rw [eL155,makeB_len]; have h3:=perB_le bits; have h4:(cmpU US).length*perB bits≤300*64:=Nat.mul_le_mul (by omega) h3.2; omega
 have hs:=hs.mono hG155
 have hK:=hK.mono hG155
 have hbb5:=hbb5.mono hG155
 have hs74:=hs74.mono hG155
 refine .nil (Wp.b1 7 (by kernel_rfl) ?_)
 refine ka rfl (.inl rfl) Fx.go28 (Evc rfl (Evc rfl (Evc rfl Evn))) (mtk4 tk1 tk3 tk3 tk2) (tPut_row (keyEnc root (headL h)) (keyMac root (headL h)) L74 h74 O D vo vl b78 1 L155 v155 _ hs74 hK (by rw [eL74,head_len]; decide) (by omega) (by omega) (by omega) (by omega)) ?_
 rintro _ G156 μ156 hG156 ⟨_,rfl,X156,O156,W156,D156,vo156,vl156,bb156,cap156,eX156,eO156,eD156,eW156,rfl,rfl⟩
 have lX156:X156.length=L155.length+16:=by rw [eX156,seal_len]
 have lO156:O156.length=O.length+X156.length:=by rw [eO156,List.length_append]
 have lD156:D156.length=D.length+1:=by rw [eD156,List.length_append]; rfl
 have hs:=hs.mono hG156
 have hK:=hK.mono hG156
 have hbb5:=hbb5.mono hG156
 have hs74:=hs74.mono hG156
 refine .nil (Wp.b1 8 (by kernel_rfl) ?_)
 have lW156:=row_bd eW156 (by omega)
 refine apY rfl Fx.se36 Fx.zv5 (.u rfl) (.u rfl) tk6 (Sc.row tk4) (by (try simp only [qlA,yl_len]); omega) ?_
 intro v157 L157 ov157 eL157
 have lL157:L157.length=RW.length+W156.length:=by rw [eL157,List.length_append]
 refine .nil (Wp.one 9 (by kernel_rfl) ?_)
 refine aS rfl rfl (.nil (Wp.last (by kernel_rfl) ?_))
 refine .code (.seq (rq6 rfl rfl (mV rfl rfl (nc rfl .no (.u rfl) (fz rfl .no Fx.fo73_2 (.u rfl) (ld rfl .no Fx.ag36 (.u rfl) (fun _=>Rd.own tk2 wrc_out) ?_))))))
 refine lr rfl .no Fx.sn36 (.u rfl) tk3 ?_
 refine aS rfl rfl (.nil (.code (.seq ?_)))
 refine wk_rv .here (by omega) ?_; intro bbRW capRW evRW lcRW; subst evRW
 refine rq7 rfl rfl (mV rfl rfl (mV rfl rfl (ci rfl .no rfl Fx.cv3_24 (.u rfl) ?_)))
 refine kc rfl Fx.go31 (Evc rfl (Evc rfl Evn)) (Ct.rowc (Num_ok [] ⟨none,0⟩ _ SlR.nul _ (Nat.zero_le _))) ?_
 rintro v166 G166 μ166 hG166 ⟨L166,ov166,eL166,rfl⟩
 have hs:=hs.mono hG166
 have hK:=hK.mono hG166
 have hbb5:=hbb5.mono hG166
 have hs74:=hs74.mono hG166
 refine mV rfl rfl ?_
 have lL166:=nm0 eL166
 refine apY rfl Fx.se36 Fx.zv5 (.u rfl) (.u rfl) .here (Sc.row tk1) (by (try simp only [qlA,yl_len]); omega) ?_
 intro v168 L168 ov168 eL168
 have lL168:L168.length=L166.length+L157.length:=by rw [eL168,List.length_append]
 refine ka rfl (.inr rfl) Fx.go28 (Evc rfl (Evc rfl (Evc rfl Evn))) (mtk4 .here tk2 tk2 tk2) (tPut_row (keyEnc root (headL h)) (keyMac root (headL h)) L74 h74 O156 D156 vo156 vl156 b78 0 L168 v168 _ hs74 hK (by rw [eL74,head_len]; decide) (by omega) (by omega) (by omega) (by omega)) ?_
 rintro _ G169 μ169 hG169 ⟨_,rfl,X169,O169,W169,D169,vo169,vl169,bb169,cap169,eX169,eO169,eD169,eW169,rfl,rfl⟩
 have lX169:X169.length=L168.length+16:=by rw [eX169,seal_len]
 have lO169:O169.length=O156.length+X169.length:=by rw [eO169,List.length_append]
 have lD169:D169.length=D156.length+1:=by rw [eD169,List.length_append]; rfl
 have hs:=hs.mono hG169
 have hK:=hK.mono hG169
 have hbb5:=hbb5.mono hG169
 refine .nil (.code (.seq ?_))
 refine wk_fb tk2 (by first|(intro b hb; cases hb; done) | simp [keys,Res.keys]) ?_; intro GfR76 hR76 hleR76 evR76 hsR76; subst evR76
 have hs:=hs.mono hleR76
 have hK:=hK.mono hleR76
 have hbb5:=hbb5.mono hleR76
 refine Wk.mixp ⟨true,false⟩ Fx.mix (by kernel_rfl) ?_
 refine Wp.one 0 (by kernel_rfl) ?_
 refine mV rfl rfl (.nil (Wp.one 1 (by kernel_rfl) ?_))
 refine nc rfl .no (.u rfl) (.nil (Wp.one 2 (by kernel_rfl) ?_))
 refine fz rfl .no Fx.fo73_2 (.u rfl) (.nil (Wp.one 3 (by kernel_rfl) ?_))
 refine ld rfl .no Fx.ag36 (.u rfl) (fun _=>Rd.own tk1 wrc_out) ?_
 refine .nil (Wp.one 4 (by kernel_rfl) ?_)
 refine mV rfl rfl (.nil (Wp.one 5 (by kernel_rfl) ?_))
 refine nc rfl .no (.u rfl) (.nil (Wp.one 6 (by kernel_rfl) ?_))
 refine fz rfl .no Fx.fo73_2 (.u rfl) (.nil (Wp.one 7 (by kernel_rfl) ?_))
 refine ld rfl .no Fx.ag36 (.u rfl) (fun _=>Rd.own tk1 wrc_out) ?_
 refine .nil (Wp.one 8 (by kernel_rfl) ?_)
 refine ln rfl .no Fx.sn36 (.u rfl) (.nil (Wp.one 9 (by kernel_rfl) ?_))
 refine mV rfl rfl (.nil (Wp.one 10 (by kernel_rfl) ?_))
 refine ar rfl .no (.u rfl) (.u rfl) rfl (fun _=>wrap_i64 (by omega) (by omega)) ?_
 refine .nil (Wp.one 11 (by kernel_rfl) ?_)
 refine ci rfl .no rfl Fx.cv3_24 (.u rfl) ?_
 refine .nil (Wp.b1 12 (by kernel_rfl) ?_)
 refine kc rfl Fx.go32 (Evc rfl (Evc rfl (Evc rfl Evn))) (Ct.rowc (Fix_ok O169 hR76 _ 8 _ hsR76 (by omega) (by decide))) ?_
 rintro v182 G182 μ182 hG182 ⟨L182,ov182,eL182,rfl⟩
 have hs:=hs.mono hG182
 have hK:=hK.mono hG182
 have hbb5:=hbb5.mono hG182
 refine .nil (Wp.one 13 (by kernel_rfl) ?_)
 refine aS rfl rfl (.nil (Wp.last (by kernel_rfl) ?_))
 refine .code (.seq (.seq ?_))
 have lL182:=fx2 eL182
 refine rq3 rfl rfl (mV rfl rfl (lr rfl .no Fx.sn36 (.u rfl) .here ?_))
 refine cp rfl .no (.u rfl) (.u rfl) rfl (.nil (.code (.cond rfl (fun c9=>?_) (fun c9=>?_))))
 ·have c9k:=c9
  first|exact absurd c9 (by decide)|(simp at c9; done)|(exfalso; simp only [decide_eq_true_eq,gt_iff_lt] at c9; omega)
 have c9k:=c9
 try simp only [qcA,qcC,qcB] at c9
 refine .skip (.code (.seq ?_))
 refine wk_fs tk3 (fun _ _=>rfl) (by intro b hb; cases hb) ?_; intro GfRD hRD hleRD evRD hsRD; subst evRD
 have hs:=hs.mono hleRD
 have hK:=hK.mono hleRD
 have hbb5:=hbb5.mono hleRD
 refine wk_fz tk2 (by intro b hb; cases hb) ?_; intro Gfb78 hleb78 hbb78
 have hs:=hs.mono hleb78
 have hK:=hK.mono hleb78
 have hbb5:=hbb5.mono hleb78
 have hsRD:=hsRD.mono hleb78
 refine wk_fb .here (by first|(intro b hb; cases hb; done) | simp [keys,Res.keys]) ?_; intro GfR182 hR182 hleR182 evR182 hsR182; subst evR182
 have hs:=hs.mono hleR182
 have hK:=hK.mono hleR182
 have hbb5:=hbb5.mono hleR182
 have hsRD:=hsRD.mono hleR182
 have hbb78:=hbb78.mono hleR182
 refine Wk.mixp ⟨true,false⟩ Fx.mix (by kernel_rfl) ?_
 refine Wp.one 0 (by kernel_rfl) ?_
 refine mV rfl rfl (.nil (Wp.one 1 (by kernel_rfl) ?_))
 refine fa rfl .no Fx.fo26_1 (.u rfl) (.nil (Wp.one 3 (by kernel_rfl) ?_))
 refine fa rfl .no Fx.fo26_2 (.u rfl) (.nil (Wp.one 5 (by kernel_rfl) ?_))
 refine fa rfl .no Fx.fo26_3 (.u rfl) (.nil (Wp.one 7 (by kernel_rfl) ?_))
 refine fa rfl .no Fx.fo26_4 (.u rfl) (.nil (Wp.one 9 (by kernel_rfl) ?_))
 refine mV rfl rfl (.nil (Wp.one 11 (by kernel_rfl) ?_))
 refine mV rfl rfl (.nil (Wp.one 13 (by kernel_rfl) ?_))
 refine mV rfl rfl (.nil (Wp.one 14 (by kernel_rfl) ?_))
 obtain ⟨x,ex⟩:=getx (k:=0) (xs:=l) (by omega)
 obtain ⟨y,ey⟩:=getx (k:=l.length-1) (xs:=l) (by omega)
 refine ih rfl .no Fx.se31 (.u rfl) (.u rfl) (fun _=>by omega) (fun _=>by omega) (fun _=>hs.nn (k:=0) (by first|omega|(simp only [Bool.and_eq_true,decide_eq_true_eq] at hc; omega)|(simp only [List.length_cons,List.length_nil]; omega))) ?_
 refine .nil (Wp.one 15 (by kernel_rfl) ?_)
 refine fa rfl .no Fx.fo43_0 (.u rfl) (.nil (Wp.one 17 (by kernel_rfl) ?_))
 refine mV rfl rfl (.nil (Wp.one 18 (by kernel_rfl) ?_))
 refine mV rfl rfl (.nil (Wp.one 24 (by kernel_rfl) ?_))
 refine mV rfl rfl (.nil (Wp.one 25 (by kernel_rfl) ?_))
 refine nc rfl .no (.u rfl) (.nil (Wp.one 26 (by kernel_rfl) ?_))
 refine fa rfl .no Fx.fo73_3 (.u rfl) (.nil (Wp.one 27 (by kernel_rfl) ?_))
 refine ld rfl .no Fx.ag61 (.u rfl) (fun _=>(hbb78.rd (wrc_lvs)).rd) ?_
 refine .nil (Wp.pr 2 (by kernel_rfl) ?_)
 refine ld rfl .no Fx.ag5 (.u rfl) (fun _=>(hbb5.rd (by rfl)).rd) ?_
 refine .nil ⟨⟨rfl,rfl⟩,?_⟩
 refine Wp.pr 4 (by kernel_rfl) ?_
 refine ld rfl .no Fx.ag24 (.u rfl) (fun _=>(hbb5.rd (by rfl)).rd) ?_
 refine .nil ⟨⟨rfl,rfl⟩,?_⟩
 refine Wp.pr 6 (by kernel_rfl) ?_
 refine ld rfl .no Fx.ag24 (.u rfl) (fun _=>(hbb5.rd (by rfl)).rd) ?_
 refine .nil ⟨⟨rfl,rfl⟩,?_⟩
 refine Wp.pr 8 (by kernel_rfl) ?_
 refine ld rfl .no Fx.ag24 (.u rfl) (fun _=>(hbb5.rd (by rfl)).rd) ?_
 refine .nil ⟨⟨rfl,rfl⟩,?_⟩
 refine Wp.pr 10 (by kernel_rfl) ?_
 refine ln rfl .no Fx.sn36 (.u rfl) (.nil ⟨⟨rfl,rfl⟩,?_⟩)
 refine Wp.pr 12 (by kernel_rfl) ?_
 refine ln rfl .no Fx.sn31 (.u rfl) (.nil ⟨⟨rfl,rfl⟩,?_⟩)
 refine Wp.pr 16 (by kernel_rfl) ?_
 refine ld rfl .no Fx.ag9 (.u rfl) (fun _=>(hs.at (by decide) ex 0 _ rfl).rd) (.nil ⟨⟨rfl,rfl⟩,?_⟩)
 refine Wp.pr 19 (by kernel_rfl) ?_
 refine ln rfl .no Fx.sn31 (.u rfl) (.nil ⟨⟨rfl,rfl⟩,?_⟩)
 refine Wp.one 20 (by kernel_rfl) ?_
 refine ar rfl .no (.u rfl) (.u rfl) rfl (fun _=>wrap_i64 (by omega) (by omega)) ?_
 refine .nil (Wp.one 21 (by kernel_rfl) ?_)
 refine ih rfl .no Fx.se31 (.u rfl) (.u rfl) (fun _=>by omega) (fun _=>by omega) (fun _=>hs.nn (k:=((((l.length:Nat):Int)-(1:Int))).toNat) (by first|omega|(simp only [Bool.and_eq_true,decide_eq_true_eq] at hc; omega)|(simp only [List.length_cons,List.length_nil]; omega))) ?_
 refine .nil (Wp.one 22 (by kernel_rfl) ?_)
 refine fa rfl .no Fx.fo43_0 (.u rfl) (.nil (Wp.pr 23 (by kernel_rfl) ?_))
 refine ld rfl .no Fx.ag9 (.u rfl) (fun _=>(hs.at (by omega) ey 0 _ rfl).rd) ?_
 refine .nil ⟨⟨rfl,rfl⟩,?_⟩
 refine Wp.b1 28 (by kernel_rfl) ?_
 refine kv rfl .no Fx.go18 (Evc rfl Evn) (fun _=>root_ok D169 hRD _ hsRD hK (by omega)) ?_
 refine .nil (Wp.one 29 (by kernel_rfl) ?_)
 refine bCe (([V h.level,uv .u64 h.gen,uv .u64 h.epoch,uv .u64 h.num,.int .i64 (L182.length:Int),.int .i64 (l.length:Int),.string x.user,.string y.user]++ba 32 (rootD D169))) rfl .no Fx.bp38_0_1_2_3_4_5_6_7_8 (.cons (.u rfl) rfl (.cons (.u rfl) rfl (.cons (.u rfl) rfl (.cons (.u rfl) rfl (.cons (.u rfl) rfl (.cons (.u rfl) rfl (.cons (.u rfl) rfl (.cons (.u rfl) rfl (.cons (.u rfl) rfl .nil))))))))) rfl (rfl) (.nil (Wp.one 30 (by kernel_rfl) ?_))
 refine aS rfl rfl (.nil (Wp.b1 31 (by kernel_rfl) ?_))
 refine sw rfl (.u rfl) (.u rfl) rfl Fx.sz38 tk6 rfl (mone rfl rfl rfl rfl rfl rfl rfl rfl) ?_
 refine .nil (Wp.one 32 (by kernel_rfl) ?_)
 refine aS rfl rfl (.nil (Wp.last (by kernel_rfl) ?_))
 refine .code (.ret (We.fin0 Tryd.results8 (.tmp rfl (.cell rfl (fun w hw=>run_loadVarN Fx.ag38 (RdN.own .here) ((by first|exact mt_len|exact Meta.len _)) hw) (.tmp rfl .nil))) ?_))
 have eF:=tb_filt (root:=root) (h:=h) (blk:=blk) (every:=every) (X:=X156) eUS eL155 (by rw [eX156,eL74]<;>rfl)
 have eI:=tb_idx (root:=root) (h:=h) (every:=every) (bits:=bits) eR (by rw [eW156,eF]) eL166 (by omega) eL157 eL168
 have eS:=tb_sidx (root:=root) (h:=h) (every:=every) (bits:=bits) (X:=X169) eI (by rw [eX169,eL74]<;>rfl)
 have eB:=tb_bytes (root:=root) (h:=h) (every:=every) (bits:=bits) eO eF eS eO156 eO169 (by omega) eL182
 refine ⟨hR182,L182,(tabOf root h l blk every bits).info,0,.inr ⟨hnb,eB,rfl,rfl⟩,rfl,?_,hsR182⟩
 have eM:=tb_info eB eD eF eS eD156 eD169 ex ey
 exact congrArg (fun z=>Value.tuple #[hR182.val L182.length,.agg (List.toArray z),.int .i64 0]) eM
namespace Fx
theorem bp43_0_1:bPl Tryd.prog 43 [0,1]=some (Ent.zero.cells,[(0,1),(1,1)]):=by kernel_rfl
theorem eqt43:eqT Tryd.prog 4 43 (entKs)=true:=by kernel_rfl
theorem bp26_0:bPl Tryd.prog 26 [0]=some ([V 0#8,V 0#8,uv .u64 0#64,uv .u64 0#64,uv .u64 0#64],[(0,1)]):=by kernel_rfl
theorem bp23_:bPl Tryd.prog 23 []=some (ba 32 (fun _=>0#8),[]):=by kernel_rfl
theorem bp28_0_1_2:bPl Tryd.prog 28 [0,1,2]=some ([.int .i64 0,.int .i64 0,.int .i64 0],[(0,1),(1,1),(2,1)]):=by kernel_rfl
theorem go8:goFn Tryd.prog 8=true:=by kernel_rfl
theorem go9:goFn Tryd.prog 9=true:=by kernel_rfl
end Fx
theorem shown17_ok (G:PM) (hK:RdNP G 0 0 (wa 64 kW)):Ct Tryd.prog 6 ([]:List Value).toArray G [] (fun _ μ' u=>μ'=[]∧u=.bool true):=by
 refine Ct.of Tryd.func6 rfl Tryd.ntmps6 rfl fun w0 hs0=>?_
 refine .seq (rq1 rfl rfl (aS rfl rfl (.nil (.code (.seq (rq3 rfl rfl (bCe ([V 2#8,V 0#8,uv .u64 0#64,uv .u64 0#64,uv .u64 0#64]) rfl .no Fx.bp26_0 (.cons (.u rfl) rfl .nil) rfl (rfl) ?_)))))))
 refine al rfl Fx.zq26 ?_; intro b1
 refine sw rfl (.u rfl) (.u rfl) rfl Fx.sz26 .here rfl (one5 rfl rfl rfl rfl rfl) ?_
 refine .nil (.code (.seq (rq3 rfl rfl (bCe (entA.cells) rfl .no Fx.bp43_0_1 (.cons (.u rfl) rfl (.cons (.u rfl) rfl .nil)) rfl (rfl) ?_))))
 refine b1f (cs:=entA.cells) rfl Fx.se31 Fx.zw43 (.u rfl) rfl rfl (by decide) ?_; intro b20 G20 hG20 hb20; have hs20:=hb20.sl1 (sz:=4) (enc:=Ent.cells) (x:=entA) (cap:=1) (by decide)
 have hK:=hK.mono hG20
 refine aS rfl rfl (.nil (.code (.seq (Wk.rg [0,1,2,3,4,5,6,7,8,9,10,11] rfl rfl (bCe (ba 32 zF) rfl .no Fx.bp23_ .nil rfl (rfl) ?_)))))
 refine lA rfl .no Fx.ag26 (.u rfl) (fun _=>RdN.part (n:=5) (cs':=[V 2#8,V 0#8,uv .u64 0#64,uv .u64 0#64,uv .u64 0#64]) .here (rfl)) (fun _=>rfl) ?_
 refine bCe ([.int .i64 1,.int .i64 1,.int .i64 10]) rfl .no Fx.bp28_0_1_2 (.cons (.u rfl) rfl (.cons (.u rfl) rfl (.cons (.u rfl) rfl .nil))) rfl (rfl) (kc rfl Fx.go8 (Evc rfl (Evc rfl (Evc rfl (Evc rfl Evn)))) (tBuild_ok zF hdT [] ⟨none,0⟩ 1 1 10 _ SlR.nul ⟨by decide,by decide⟩ hK) ?_)
 rintro _ G25 μ25 hG25 ⟨h25,L25,m25,er25,hB25,rfl,rfl,hs25⟩
 have hK:=hK.mono hG25
 have hs20:=hs20.mono hG25
 refine mV rfl rfl (ex rfl .no (.u rfl) rfl (ex rfl .no (.u rfl) rfl (ex rfl .no (.u rfl) rfl ?_)))
 refine al rfl Fx.zq38 ?_; intro b4
 refine aS rfl rfl (sw rfl (.u rfl) (.u rfl) rfl Fx.sz38 .here rfl (Meta.one _) ?_)
 refine aS rfl rfl (.nil ?_)
 obtain rfl:=sh_bad hB25
 refine .code (.seq (Wk.rg [0,1,2,3,4,5,6,7,8,9,10,11,12] rfl rfl (bCe (ba 32 zF) rfl .no Fx.bp23_ .nil rfl (rfl) ?_)))
 refine lA rfl .no Fx.ag26 (.u rfl) (fun _=>RdN.part (n:=5) (cs':=[V 2#8,V 0#8,uv .u64 0#64,uv .u64 0#64,uv .u64 0#64]) tk1 (rfl)) (fun _=>rfl) ?_
 refine mV rfl rfl (bCe ([.int .i64 1,.int .i64 1,.int .i64 10]) rfl .no Fx.bp28_0_1_2 (.cons (.u rfl) rfl (.cons (.u rfl) rfl (.cons (.u rfl) rfl .nil))) rfl (rfl) (kc rfl Fx.go8 (Evc rfl (Evc rfl (Evc rfl (Evc rfl Evn)))) (tBuild_ok zF hdT [entA] ⟨some ⟨b20,0,none⟩,1⟩ 1 1 10 _ hs20 sh_light hK) ?_))
 rintro _ G34 μ34 hG34 ⟨h34,L34,m34,er34,hB34,rfl,rfl,hs34⟩
 have hK:=hK.mono hG34
 have hs20:=hs20.mono hG34
 refine mV rfl rfl (ex rfl .no (.u rfl) rfl (ex rfl .no (.u rfl) rfl (ex rfl .no (.u rfl) rfl ?_)))
 refine al rfl Fx.zq38 ?_; intro b7
 refine aS rfl rfl (sw rfl (.u rfl) (.u rfl) rfl Fx.sz38 .here rfl (Meta.one _) ?_)
 refine aS rfl rfl (.nil ?_)
 obtain ⟨rfl,hw34,hl34,hT34⟩:=sh_good hB34
 refine .code (.seq (Wk.rg [0,1,2,3,4,5,6,7,8,9,10,11] rfl rfl (bCe (ba 32 zF) rfl .no Fx.bp23_ .nil rfl (rfl) ?_)))
 refine lA rfl .no Fx.ag38 (.u rfl) (fun _=>RdN.part (n:=40) (cs':=m34.cells) .here (rfl)) (fun _=>(Meta.len _)) ?_
 refine mV rfl rfl (kv rfl .no Fx.go9 (Evc rfl (Evc rfl (Evc rfl (Evc rfl (Evc rfl Evn))))) (fun _=>tGet_ok zF m34 L34 h34 bsA 9#64 (some entA) _ hw34 hs34 hK (by omega) (by decide) (by rw [hT34]; exact congrArg some sh_t1)) ?_)
 refine mV rfl rfl (ex rfl .no (.u rfl) rfl (ex rfl .no (.u rfl) rfl (ex rfl .no (.u rfl) rfl ?_)))
 refine al rfl Fx.zq43 ?_; intro b9
 refine sw rfl (.u rfl) (.u rfl) rfl Fx.sz43 .here rfl (Ent.one _) ?_
 refine aS rfl rfl (aS rfl rfl (.nil (.code (.seq (Wk.rg [0,1,2,3,4,5,6,7,8,9,10,11] rfl rfl (bCe (ba 32 zF) rfl .no Fx.bp23_ .nil rfl (rfl) ?_))))))
 refine lA rfl .no Fx.ag38 (.u rfl) (fun _=>RdN.part (n:=40) (cs':=m34.cells) tk1 (rfl)) (fun _=>(Meta.len _)) ?_
 refine mV rfl rfl (kv rfl .no Fx.go9 (Evc rfl (Evc rfl (Evc rfl (Evc rfl (Evc rfl Evn))))) (fun _=>tGet_ok zF m34 L34 h34 bsA 4#64 none _ hw34 hs34 hK (by omega) (by decide) (by rw [hT34]; exact congrArg some sh_t2)) ?_)
 refine mV rfl rfl (ex rfl .no (.u rfl) rfl (ex rfl .no (.u rfl) rfl (ex rfl .no (.u rfl) rfl ?_)))
 refine al rfl Fx.zq43 ?_; intro b12
 refine sw rfl (.u rfl) (.u rfl) rfl Fx.sz43 .here rfl (Ent.one _) ?_
 refine aS rfl rfl (aS rfl rfl (.nil (.code (.seq (Wk.rg [0,1,2,3,4,5,6,7,8,9,10,11] rfl rfl (bCe (ba 32 zF) rfl .no Fx.bp23_ .nil rfl (rfl) ?_))))))
 refine lA rfl .no Fx.ag38 (.u rfl) (fun _=>RdN.part (n:=40) (cs':=m34.cells) tk2 (rfl)) (fun _=>(Meta.len _)) ?_
 refine mV rfl rfl (kv rfl .no Fx.go9 (Evc rfl (Evc rfl (Evc rfl (Evc rfl (Evc rfl Evn))))) (fun _=>tGet_ok zF m34 L34 h34 bsB 9#64 none _ hw34 hs34 hK (by omega) (by decide) (by rw [hT34]; exact congrArg some sh_t3)) ?_)
 refine mV rfl rfl (ex rfl .no (.u rfl) rfl (ex rfl .no (.u rfl) rfl (ex rfl .no (.u rfl) rfl ?_)))
 refine al rfl Fx.zq43 ?_; intro b15
 refine sw rfl (.u rfl) (.u rfl) rfl Fx.sz43 .here rfl (Ent.one _) ?_
 refine aS rfl rfl (aS rfl rfl (.nil (.code (.seq (Wk.mixp ⟨false,false⟩ Fx.mix (by kernel_rfl) ?_)))))
 refine Wp.one 0 (by kernel_rfl) ?_
 refine mV rfl rfl (.nil (Wp.one 1 (by kernel_rfl) ?_))
 refine cp rfl .no (.u rfl) (.u rfl) rfl (.nil (Wp.one 2 (by kernel_rfl) ?_))
 refine mV rfl rfl (.nil (Wp.one 3 (by kernel_rfl) ?_))
 refine mv rfl (.t rfl rfl) (.u rfl) (.nil (Wp.one 4 (by kernel_rfl) ?_))
 refine cp rfl (.t rfl rfl) (.s rfl) (.u rfl) rfl (.nil (Wp.one 5 (by kernel_rfl) ?_))
 refine pkA rfl .no (.u rfl) (.s rfl) (.nil (Wp.one 6 (by kernel_rfl) ?_))
 refine mV rfl rfl (.nil (Wp.one 7 (by kernel_rfl) ?_))
 refine mv rfl (.t rfl rfl) (.u rfl) (.nil (Wp.one 8 (by kernel_rfl) ?_))
 refine pkA rfl .no (.u rfl) (.s rfl) (.nil (Wp.one 9 (by kernel_rfl) ?_))
 refine mV rfl rfl (.nil (Wp.one 10 (by kernel_rfl) ?_))
 refine lA rfl (.t rfl rfl) Fx.ag43 (.u rfl) (fun _=>RdN.part (n:=4) (cs':=entA.cells) tk2 (rfl)) (fun _=>rfl) ?_
 refine .nil (Wp.one 11 (by kernel_rfl) ?_)
 refine mv rfl (.t rfl rfl) (.u rfl) (.nil (Wp.one 12 (by kernel_rfl) ?_))
 refine ih rfl (.t rfl rfl) Fx.se31 (.s rfl) (.u rfl) (fun hc=>by omega) (fun hc=>by omega) (fun hc=>hs20.nn (k:=0) (by first|omega|(simp only [Bool.and_eq_true,decide_eq_true_eq] at hc; omega)|(simp only [List.length_cons,List.length_nil]; omega))) ?_
 refine .nil (Wp.one 13 (by kernel_rfl) ?_)
 refine lA rfl (.t rfl rfl) Fx.ag43 (.s rfl) (fun hc=>(hs20.at (k:=0) rfl rfl).rd) (fun _=>rfl) ?_
 refine .nil (Wp.one 14 (by kernel_rfl) ?_)
 refine eqC (true) rfl (.t rfl rfl) Fx.eqt43 (.s rfl) (.s rfl) (fun hc=>ent_conf (by decide) (by decide)) (fun hc=>ent_conf (by decide) (by decide)) (fun hc=>⟨fun _=>rfl,fun _=>rfl⟩) ?_
 refine .nil (Wp.one 15 (by kernel_rfl) ?_)
 refine pkA rfl .no (.u rfl) (.s rfl) (.nil (Wp.one 16 (by kernel_rfl) ?_))
 refine mV rfl rfl (.nil (Wp.one 17 (by kernel_rfl) ?_))
 refine mv rfl (.t rfl rfl) (.u rfl) (.nil (Wp.one 18 (by kernel_rfl) ?_))
 refine nt rfl (.t rfl rfl) (.s rfl) (.nil (Wp.one 19 (by kernel_rfl) ?_))
 refine pkA rfl .no (.u rfl) (.s rfl) (.nil (Wp.one 20 (by kernel_rfl) ?_))
 refine mV rfl rfl (.nil (Wp.one 21 (by kernel_rfl) ?_))
 refine mv rfl (.t rfl rfl) (.u rfl) (.nil (Wp.one 22 (by kernel_rfl) ?_))
 refine nt rfl (.t rfl rfl) (.s rfl) (.nil (Wp.one 23 (by kernel_rfl) ?_))
 refine pkA rfl .no (.u rfl) (.s rfl) (.nil (Wp.one 24 (by kernel_rfl) ?_))
 refine mV rfl rfl (.nil (Wp.one 25 (by kernel_rfl) ?_))
 refine mv rfl (.t rfl rfl) (.u rfl) (.nil (Wp.one 26 (by kernel_rfl) ?_))
 refine cp rfl (.t rfl rfl) (.s rfl) (.u rfl) rfl (.nil (Wp.one 27 (by kernel_rfl) ?_))
 refine pkA rfl .no (.u rfl) (.s rfl) (.nil (Wp.one 28 (by kernel_rfl) ?_))
 refine mV rfl rfl (.nil (Wp.one 29 (by kernel_rfl) ?_))
 refine mv rfl (.t rfl rfl) (.u rfl) (.nil (Wp.one 30 (by kernel_rfl) ?_))
 refine cp rfl (.t rfl rfl) (.s rfl) (.u rfl) rfl (.nil (Wp.one 31 (by kernel_rfl) ?_))
 refine pkA rfl .no (.u rfl) (.s rfl) (.nil (Wp.one 32 (by kernel_rfl) ?_))
 refine mV rfl rfl (.nil (Wp.one 33 (by kernel_rfl) ?_))
 refine mv rfl (.t rfl rfl) (.u rfl) (.nil (Wp.one 34 (by kernel_rfl) ?_))
 refine cp rfl (.t rfl rfl) (.s rfl) (.u rfl) rfl (.nil (Wp.one 35 (by kernel_rfl) ?_))
 refine pkA rfl .no (.u rfl) (.s rfl) (.nil (Wp.one 36 (by kernel_rfl) ?_))
 refine aS rfl rfl (.nil (Wp.last (by kernel_rfl) ?_))
 refine .code (.ret (We.fin0 Tryd.results6 (.tmp rfl .nil) ?_))
 exact ⟨rfl,rfl⟩
namespace Fx
theorem go44:goFn Tryd.prog 44=true:=by kernel_rfl
end Fx
theorem clone_ok (xs:List Y) (h:Sh) (G:PM) (hs:SlR G 1 encY h xs) (hl:xs.length≤1000000000):Ct Tryd.prog 44 ([h.val xs.length]:List Value).toArray G [] (PR 5 (fun L=>L=xs)):=by
 refine Ct.of Tryd.func44 rfl Tryd.ntmps44 rfl fun w0 hs0=>?_
 refine .seq (rq1 rfl rfl (aS rfl rfl (.nil (.code (.seq (.seq (rq2 rfl rfl (mV rfl rfl (sn0 rfl .no Fx.sn36 (.u rfl) (.u rfl) ?_)))))))))
 refine .nil (.code (.cond rfl (fun c1=>?_) (fun c1=>?_)))
 ·have c1k:=c1
  try simp only [qcA,qcB] at c1
  refine .seq (rq1 rfl rfl (aS rfl rfl (.nil (.code (.ret (we_nilB 5 ?_))))))
  refine We.fin Tryd.results44 (.tmp rfl .nil) (mS .here rfl mN) ?_
  exact ⟨[],(nil_of hs c1).symm,rfl⟩
 have c1k:=c1
 try simp only [qcA,qcB] at c1
 refine .skip (.code (.seq (rq4 rfl rfl ?_)))
 refine b0B rfl Fx.se36 ?_; intro b5
 refine mV rfl rfl (apY0 rfl Fx.se36 Fx.zv5 (.u rfl) (.u rfl) .here hs.sc (by (try simp only [qlA,yl_len]); omega) ?_)
 intro v7 L7 _ ov7 eL7
 have lL7:L7.length=xs.length:=by rw [eL7]
 refine aS rfl rfl (.nil (.code (.ret (We.fin Tryd.results44 (.tmp rfl .nil) (mS .here rfl mN) ?_))))
 exact ⟨L7,eL7,rfl⟩
set_option maxHeartbeats 4000000 in
theorem tParts_p (root:Nat→Y) (m:Meta) (xs:List Y) (hx:Sh) (G:PM) (hw:m.wf) (hs:SlR G 1 encY hx xs) (hK:RdNP G 0 0 (wa 64 kW)) (hl:xs.length≤1000000):Ct Tryd.prog 14 ([.agg (ba 32 root).toArray,m.val,hx.val xs.length]:List Value).toArray G [] (fun G' μ' u=>∃ (h':Sh) (qs:List (Sh×List Y)) (er:Int),PartsR (partsT root m xs) (qs.map (·.2)) er∧μ'=[]∧u=.tuple #[h'.val qs.length,.int .i64 er]∧SlP G' h' qs∧qs.length≤1000000):=by
 refine Ct.of Tryd.func14 rfl Tryd.ntmps14 rfl fun w0 hs0=>?_
 refine .seq (rq4 rfl rfl ?_)
 refine bx rfl (.u rfl) rfl ?_; intro b3
 refine bx rfl (.u rfl) rfl ?_; intro b4
 refine aS rfl rfl ?_
 refine al rfl Fx.zr39 ?_; intro b7
 refine .nil (.code (.seq (wk_dfrP (partsT root m xs=none) [.slice none 0 0,.int .i64 170] rfl rfl rfl Fx.go33 Tryd.results14 (caught_pan 39 _) rfl (fun hD G'=>⟨⟨none,0⟩,[],170,.inr ⟨hD,rfl,rfl⟩,rfl,rfl,⟨SlR.nul,fun p hp=>absurd hp List.not_mem_nil⟩,by decide⟩) ?_)))
 refine .code (.seq (rq5 rfl rfl (lA rfl .no Fx.ag23 (.u rfl) (fun _=>RdN.own tk2) (fun _=>ba_len _ _) ?_)))
 refine lA rfl .no Fx.ag38 (.u rfl) (fun _=>RdN.own tk1) (fun _=>Meta.len _) ?_
 refine mV rfl rfl (kpc rfl Fx.go34 (Evc rfl (Evc rfl (Evc rfl Evn))) (begin_p root m xs hx _ hw hs hK hl) (fun ch G9 ρ9 μ9 hle9 hd he hm=>die_of ⟨hd.1,pa_n1 hd.2⟩ he hm .here (.tmp rfl (.cell rfl (fun w hw=>run_loadVar1 Fx.ag39 (Rd.own .here rfl w hw)) .nil))) ?_)
 rintro _ G14 μ14 hG14 ⟨ix,b14,ps,ha14,hr14,hi14,hB14,rfl,rfl,hR14⟩
 have hpl:=hR14.len
 refine aS rfl rfl (.nil (.code (.seq (.seq (wk_nilS 1 encP 36 (rq6 rfl rfl (mV rfl rfl (nc rfl .no (.u rfl) (fz rfl .no Fx.fo91_2 (.u rfl) (ld rfl .no Fx.ag89 (.u rfl) (fun _=>Rd.own tk1 wrc_out) ?_))))))))))
 refine ln rfl .no Fx.sn89 (.u rfl) (mV rfl rfl (.nil (.code (.block ?_))))
 refine Wk.lop (α:=Nat×Value×List (Sh×List Y)) (fun gh=>[(6,true,gh.2.1),(20,true,.int .i64 (gh.1:Int))]) (fun gh=>[rS 1 encP gh.2.1 36 gh.2.2,.blk b14 (cl (wrC (keyEnc root (headL (hdM m))) (keyMac root (headL (hdM m))) (ha14.val (headL (hdM m)).length) (hr14.val ps.length) (hi14.val ix.length)) 91)])
  (fun gh Gl=>(gh.1≤ps.length)∧(gh.2.2.map (·.2)=(ps.take gh.1).map (·.1.bytes))∧(gh.2.2.length=gh.1)∧(AllS Gl gh.2.2)) (fun gh=>ps.length-gh.1) (0,.slice none 0 0,[]) [(7,true,_),(8,true,_),(18,true,_),(19,true,_)] [_,_,_]
  (esD rfl (esC rfl (by first|rfl|exact evi (by omega)) (esD rfl (esD rfl (esD rfl (esD rfl eZ))))))
  (mS .here rfl (mS .here rfl (mS .here rfl (mS .here rfl (mS .here rfl mN))))) ?_ ?_
 ·refine ⟨?_,?_,?_,?_⟩
  ·(try dsimp only)<;>(first|omega|rfl|assumption|(simp; done))
  ·(try dsimp only)<;>(rfl)
  ·(try dsimp only)<;>(rfl)
  (try dsimp only)<;>(exact AllS.nil)
 intro gh N0 Gl0 hN0 hGl0 hF0
 obtain ⟨k,vo,os⟩:=gh; dsimp only at hF0 hN0 ⊢
 obtain ⟨hk,hos,hlo,hAo⟩:=hF0
 have hR14:=hR14.mono hGl0
 refine .seq (rq1 rfl rfl (cp rfl .no (.u rfl) (.u rfl) rfl (.nil (.code (.seq (.cond rfl (fun c1=>?_) (fun c1=>?_)))))))
 ·have c1k:=c1
  try simp only [qcA,qcC,qcB] at c1
  refine .skip (.code (.seq (.block (.seq ?_))))
  obtain ⟨p,ep⟩:=getx (k:=k) (xs:=ps) (by omega)
  have hpm:=List.mem_of_getElem? ep
  have hpe:=hR14.each p hpm; have hsm:=hR14.sm p hpm
  refine rq4 rfl rfl (ih rfl .no Fx.se89 (.u rfl) (.u rfl) (fun _=>by omega) (fun _=>by omega) (fun _=>hR14.rows.nn (k:=k) (by first|omega|(simp only [Bool.and_eq_true,decide_eq_true_eq,Bool.not_eq_true',Bool.or_eq_false_iff,decide_eq_false_iff_not,beq_iff_eq,beq_eq_false_iff_ne,ne_eq] at hc; omega)|(simp only [List.length_cons,List.length_nil]; omega))) ?_)
  refine lA rfl .no Fx.ag96 (.u rfl) (fun _=>(hR14.rows.at (by omega) ep).rd) (fun _=>rowC_len) ?_
  refine al rfl Fx.zr96 ?_; intro b10
  refine sw rfl (.u rfl) (.u rfl) rfl Fx.sz96 .here rfl (rowC_one _) ?_
  refine .nil (.code (rq7 rfl rfl (mV rfl rfl (fz rfl .no Fx.fo96_1 (.u rfl) (ld rfl .no Fx.ag36 (.u rfl) (fun _=>Rd.own .here (by first|exact wap_f rfl|rfl)) ?_)))))
  refine kc rfl Fx.go44 (Evc rfl Evn) (Ct.frzB (clone_ok p.1.bytes p.2 _ hpe (by omega))) ?_
  rintro _ G27 μ27 hG27 ⟨h27,L27,eL27,rfl,rfl,hs27⟩
  have hR14:=hR14.mono hG27
  have hAo:=hAo.mono hG27
  refine Go.Tan.b1 rfl Fx.se56 Fx.zv36 (.u rfl) rfl rfl (by decide) ?_; intro b28
  refine apS (xs:=os) ((h27,L27)) rfl Fx.se56 Fx.zv36 rfl (.u rfl) (.u rfl) tk2 .here (rfl) (one1 rfl) (by omega) (by unfold maxLen; omega) ?_; intro v29 ov29
  refine aS rfl rfl (.nil (.blk (.code (rq2 rfl rfl (arn (((k+1):Nat):Int) rfl .no (.u rfl) (.u rfl) rfl (fun _=>by omega) (fun _=>wrap_i64 (by omega) (by omega)) ?_)))))
  refine mV rfl rfl (.nil (We.lpo (k+1,v29,os++[(h27,L27)]) ?_ ?_ ?_ ?_ ?_))
  ·exact (esD rfl (esC rfl (by first|rfl|exact evi (by omega)) (esD rfl (esD rfl (esD rfl (esD rfl eZ))))))
  ·exact (mS .here rfl (mS tk2 rfl (mS tk2 rfl (mS tk2 rfl (mS tk2 rfl mN)))))
  ·first|omega|(dsimp only; omega)
  ·exact (hGl0).trans hG27
  refine ⟨?_,?_,?_,?_⟩
  ·(try dsimp only)<;>(first|omega|rfl|assumption|(simp; done))
  ·(try dsimp only)<;>(rw [List.map_append,hos,List.take_add_one,ep,List.map_append,eL27]; rfl)
  ·(try dsimp only)<;>(simp [hlo])
  (try dsimp only)<;>(exact hAo.snoc hs27)
 have c1k:=c1
 try simp only [qcA,qcC,qcB] at c1
 refine .exit (.xcode (.xlp (.xblk (.code (.seq (rq10 rfl rfl (mV rfl rfl (mV rfl rfl (nc rfl .no (.u rfl) (fz rfl .no Fx.fo91_3 (.u rfl) (ld rfl .no Fx.ag36 (.u rfl) (fun _=>Rd.own tk1 wrc_lvs) ?_)))))))))))
 refine kc rfl Fx.go44 (Evc rfl Evn) (Ct.frzB (clone_ok ix hi14 _ hR14.ix (by have:=beg_ix hB14; omega))) ?_
 rintro _ G36 μ36 hG36 ⟨h36,L36,eL36,rfl,rfl,hs36⟩
 have hAo:=hAo.mono hG36
 refine Go.Tan.b1 rfl Fx.se56 Fx.zv36 (.u rfl) rfl rfl (by decide) ?_; intro b37
 refine apS (xs:=os) ((h36,L36)) rfl Fx.se56 Fx.zv36 rfl (.u rfl) (.u rfl) tk1 .here (rfl) (one1 rfl) (by omega) (by unfold maxLen; omega) ?_; intro v38 ov38
 refine aS rfl rfl (s1 rfl (.u rfl) (.u rfl) rfl Fx.sz39 tk3 (by first|decide|(simp only [wa_len,ba_len,qlA]; omega)) (rfl) ?_)
 refine .nil (.code (.ret ?_))
 refine we_fs tk1 (fun _ _=>rfl) (by intro b hb; cases hb) ?_; intro GfRO hRO hleRO evRO hsRO; subst evRO
 have hAo:=hAo.mono hleRO
 have hs36:=hs36.mono hleRO
 have hsRO:=SlP.of hsRO (hAo.snoc hs36)
 refine We.finR Fx.go33 rfl (fun w=>caught_ret w _) Tryd.results14 (.tmp rfl (.cell rfl (fun w hw=>run_loadVar1 Fx.ag39 (Rd.own .here rfl w hw)) .nil)) mN ?_
 exact ⟨hRO,os++[(h36,L36)],0,.inl ⟨by rw [pa_eq hB14,List.map_append,hos,List.take_of_length_le (by omega),eL36,List.map_map]; rfl,rfl⟩,rfl,rfl,hsRO,by rw [List.length_append,hlo,List.length_cons,List.length_nil]; omega⟩
namespace FxTbN
theorem go6:goFn Tryd.prog 6=true:=by kernel_rfl
theorem go12:goFn Tryd.prog 12=true:=by kernel_rfl
end FxTbN
namespace Fx
theorem fo55_2:fOff Tryd.prog 55 2=some 72:=by kernel_rfl
theorem fo55_0:fOff Tryd.prog 55 0=some 0:=by kernel_rfl
theorem fo55_1:fOff Tryd.prog 55 1=some 32:=by kernel_rfl
theorem go14:goFn Tryd.prog 14=true:=by kernel_rfl
end Fx
set_option maxHeartbeats 2000000 in
theorem TableParts_ok (root:Nat→Y) (m:Meta) (xs:List Y) (hx:Sh) (G:PM) (hw:m.wf) (hs:SlR G 1 encY hx xs) (hK:RdNP G 0 0 (wa 64 kW)):Ct Tryd.prog 5 ([.agg (byC root m (hx.val xs.length)).toArray]:List Value).toArray G [] (fun _ μ' u=>μ'=[]∧u=.bool true):=by
 refine Ct.of Tryd.func5 rfl Tryd.ntmps5 rfl fun w0 hs0=>?_
 refine .seq (rq2 rfl rfl ?_)
 refine bx rfl (.u rfl) rfl ?_; intro b1
 refine aS rfl rfl (.nil (.code (.seq ?_)))
 refine wk_fz .here (by intro b hb; cases hb) ?_; intro Gfb1 hleb1 hbb1
 have hs:=hs.mono hleb1
 have hK:=hK.mono hleb1
 refine rq2 rfl rfl (kv rfl .no FxTbN.go6 Evn (fun _=>shown17_ok _ hK) ?_)
 refine aS rfl rfl (.nil (.code (.seq (.seq (rq4 rfl rfl (fa rfl .no Fx.fo55_2 (.u rfl) (ld rfl .no Fx.ag36 (.u rfl) (fun _=>(hbb1.rd (by_b)).rd) ?_)))))))
 refine ln rfl .no Fx.sn36 (.u rfl) (cp rfl .no (.u rfl) (.u rfl) rfl (.nil (.code (.cond rfl (fun c1=>?_) (fun c1=>?_)))))
 ·have c1k:=c1
  try simp only [qcA,qcC,qcB] at c1
  refine .seq (rq2 rfl rfl (mV rfl rfl (aS rfl rfl (.nil (.code (.ret (We.fin0 Tryd.results5 (.tmp rfl .nil) ?_)))))))
  exact ⟨rfl,rfl⟩
 have c1k:=c1
 try simp only [qcA,qcC,qcB] at c1
 refine .skip (.code (.seq (Wk.rg [0,1,2,3,4,5,6,7,8,9,10,11] rfl rfl (fa rfl .no Fx.fo55_0 (.u rfl) (lA rfl .no Fx.ag23 (.u rfl) (fun _=>(hbb1.rdn (m:=32) (cs':=ba 32 root) (app_l)).rd) (fun _=>(ba_len _ _)) ?_)))))
 refine fa rfl .no Fx.fo55_1 (.u rfl) (lA rfl .no Fx.ag38 (.u rfl) (fun _=>(hbb1.rdn (m:=40) (cs':=m.cells) (by_m)).rd) (fun _=>(Meta.len _)) ?_)
 refine fa rfl .no Fx.fo55_2 (.u rfl) (ld rfl .no Fx.ag36 (.u rfl) (fun _=>(hbb1.rd (by_b)).rd) ?_)
 refine kc rfl Fx.go14 (Evc rfl (Evc rfl (Evc rfl Evn))) (tParts_p root m xs hx _ hw hs hK (by omega)) ?_
 rintro _ G24 μ24 hG24 ⟨h24,qs24,er24,hP24,rfl,rfl,hs24,hql⟩
 have hs:=hs.mono hG24
 have hK:=hK.mono hG24
 have hbb1:=hbb1.mono hG24
 refine mV rfl rfl (ex rfl .no (.u rfl) rfl (ex rfl .no (.u rfl) rfl (aS rfl rfl (aS rfl rfl (.nil (.code (.seq (.seq (rq2 rfl rfl (mV rfl rfl (cp rfl .no (.u rfl) (.u rfl) rfl (.nil (.code (.cond rfl (fun c2=>?_) (fun c2=>?_)))))))))))))))
 ·have c2k:=c2
  try simp only [qcA,qcC,qcB] at c2
  refine .seq ?_
  obtain ⟨he26,hL26⟩:=(parts_er hP24).2 c2
  refine Wk.rg [0,1,2,3,4,5,6,7,8,9,10] rfl rfl (mV rfl rfl (mV rfl rfl (mv rfl (.t rfl rfl) (.u rfl) (cp rfl (.t rfl rfl) (.u rfl) (.u rfl) rfl (wo_b true (by rw [he26]; rfl) ?_)))))
  refine pkA rfl .no (.u rfl) (.u rfl) (mV rfl rfl (mv rfl (.t rfl rfl) (.u rfl) (ln rfl (.t rfl rfl) Fx.sn56 (.u rfl) (cp rfl (.t rfl rfl) (.u rfl) (.u rfl) rfl (wo_b true (by rw [show qs24.length=0 by have:=congrArg List.length hL26; simpa using this]; rfl) ?_)))))
  refine pkA rfl .no (.u rfl) (.u rfl) (aS rfl rfl (.nil (.code (.ret (We.fin0 Tryd.results5 (.tmp rfl .nil) ?_)))))
  exact ⟨rfl,rfl⟩
 have c2k:=c2
 try simp only [qcA,qcC,qcB] at c2
 refine .skip (.code (.seq ?_))
 have hP9:=(parts_er hP24).1 c2
 obtain ⟨hby,hlong⟩:=pt_bytes hP9
 have hcl:(catL qs24).length+38=xs.length:=by have:=congrArg List.length hby; rw [List.length_append,head_len,List.length_take] at this; omega
 refine rq6 rfl rfl (fa rfl .no Fx.fo55_1 (.u rfl) (lA rfl .no Fx.ag38 (.u rfl) (fun _=>(hbb1.rdn (m:=40) (cs':=m.cells) (by_m)).rd) (fun _=>(Meta.len _)) ?_))
 refine kv rfl .no Fx.go16 (Evc rfl Evn) (fun _=>tHead_ok m _ hw) ?_
 refine kc rfl Fx.go15 (Evc rfl Evn) (Ct.frzB (nLay_ok (hdM m) _)) ?_
 rintro _ G42 μ42 hG42 ⟨h42,L42,eL42,rfl,rfl,hs42⟩
 have hs:=hs.mono hG42
 have hK:=hK.mono hG42
 have hbb1:=hbb1.mono hG42
 have hs24:=hs24.mono hG42
 refine sB rfl .no Fx.bs36_9 (.u rfl) (fun _=>hs42.sc) ?_
 refine aS rfl rfl (.nil (.code (.seq (rq1 rfl rfl (aS rfl rfl (.nil (.code (.seq (.seq (wk_nilS 32 (ba 32) 23 ?_))))))))))
 refine rq3 rfl rfl (mV rfl rfl (ln rfl .no Fx.sn56 (.u rfl) (mV rfl rfl (.nil (.code (.block ?_))))))
 refine Wk.lop (α:=Nat×Value×List Dg) (fun gh=>[(6,true,.string (bstr (headL (hdM m)++catL (qs24.take gh.1)))),(7,true,gh.2.1),(46,true,.int .i64 (gh.1:Int))]) (fun gh=>[rS 32 (ba 32) gh.2.1 23 gh.2.2])
  (fun gh Gl=>(gh.1≤qs24.length)∧(gh.2.2=(qs24.take gh.1).map (fun p=>leafD p.2))) (fun gh=>qs24.length-gh.1) (0,.slice none 0 0,[]) [(1,true,_),(3,true,_),(4,true,_),(45,true,_)] []
  (esC rfl (by rw [eL42]; simp [catL]) (esD rfl (esC rfl (by first|rfl|exact evi (by omega)) (esD rfl (esD rfl (esD rfl (esD rfl eZ)))))))
  (mS .here rfl mN) ?_ ?_
 ·refine ⟨?_,?_⟩
  ·(try dsimp only)<;>(first|omega|rfl|assumption|(simp; done))
  (try dsimp only)<;>(rfl)
 intro gh N0 Gl0 hN0 hGl0 hF0
 obtain ⟨k,vl,D⟩:=gh; dsimp only at hF0 hN0 ⊢
 obtain ⟨hk,eD⟩:=hF0
 have hs:=hs.mono hGl0
 have hK:=hK.mono hGl0
 have hbb1:=hbb1.mono hGl0
 have hs24:=hs24.mono hGl0
 have lD:D.length=k:=by rw [eD,List.length_map,List.length_take]; omega
 refine .seq (rq1 rfl rfl (cp rfl .no (.u rfl) (.u rfl) rfl (.nil (.code (.seq (.cond rfl (fun c3=>?_) (fun c3=>?_)))))))
 ·have c3k:=c3
  try simp only [qcA,qcC,qcB] at c3
  refine .skip (.code (.seq (.block (.seq (rq2 rfl rfl (mV rfl rfl (aS rfl rfl (.nil (.code (.seq (rq8 rfl rfl (mV rfl rfl (mV rfl rfl (mV rfl rfl (ih rfl .no Fx.se56 (.u rfl) (.u rfl) (fun _=>by omega) (fun _=>by omega) (fun _=>hs24.sl.nn (k:=k) (by omega)) ?_)))))))))))))))
  obtain ⟨p53,ep53⟩:=getx (k:=k) (xs:=qs24) (by omega)
  have hq53:=hs24.get ep53
  refine ld rfl .no Fx.ag36 (.u rfl) (fun _=>(hs24.at (k) (by omega) ep53).rd) ?_
  refine sB rfl .no Fx.bs36_9 (.u rfl) (fun _=>hq53.sc) ?_
  have hcl53:=cat_len ep53; have hhl:=head_len (hdM m)
  refine sP rfl .no (.u rfl) (.u rfl) (fun _=>by (try simp only [bstr_len,qlB,yb_len]); omega) ?_
  refine aS rfl rfl (.nil (.code (rq9 rfl rfl (mV rfl rfl (mV rfl rfl (mV rfl rfl (ih rfl .no Fx.se56 (.u rfl) (.u rfl) (fun _=>by omega) (fun _=>by omega) (fun _=>hs24.sl.nn (k:=k) (by omega)) ?_)))))))
  obtain ⟨p60,ep60⟩:=getx (k:=k) (xs:=qs24) (by omega)
  have hq60:=hs24.get ep60
  refine ld rfl .no Fx.ag36 (.u rfl) (fun _=>(hs24.at (k) (by omega) ep60).rd) ?_
  refine kv rfl .no Fx.go17 (Evc rfl Evn) (fun _=>leaf_ok p60.2 p60.1 _ hq60 hK (by have:=cat_len ep60; omega)) ?_
  refine Go.Tan.b1 rfl Fx.se61 Fx.zw23 (.u rfl) rfl rfl (by decide) ?_; intro b62
  refine apS (xs:=D) ((leafD p60.2)) rfl Fx.se61 Fx.zw23 rfl (.u rfl) (.u rfl) tk1 .here (ba_len _ _) (ba_one _ _) (by omega) (by unfold maxLen; omega) ?_; intro v63 ov63
  refine aS rfl rfl (.nil (.blk (.code (rq2 rfl rfl (arn (((k+1):Nat):Int) rfl .no (.u rfl) (.u rfl) rfl (fun _=>by omega) (fun _=>wrap_i64 (by omega) (by omega)) ?_)))))
  refine mV rfl rfl (.nil (We.lpo (k+1,v63,D++[leafD p60.2]) ?_ ?_ ?_ ?_ ?_))
  ·exact (esC rfl (by dsimp only; rw [yb_bstr,yb_bstr,List.append_assoc,←cat_take ep53]) (esD rfl (esC rfl (by first|rfl|exact evi (by omega)) (esD rfl (esD rfl (esD rfl (esD rfl eZ)))))))
  ·exact (mS .here rfl mN)
  ·first|omega|(dsimp only; omega)
  ·exact hGl0
  refine ⟨?_,?_⟩
  ·(try dsimp only)<;>(first|omega|rfl|assumption|(simp; done))
  (try dsimp only)<;>(rw [eD,List.take_add_one,ep60,List.map_append]; rfl)
 have c3k:=c3
 try simp only [qcA,qcC,qcB] at c3
 refine .exit (.xcode (.xlp (.xblk (.code (.seq (Wk.rg [0,1,2,3,4,5,6,7,8,9,10,11] rfl rfl (fa rfl .no Fx.fo55_0 (.u rfl) (lA rfl .no Fx.ag23 (.u rfl) (fun _=>(hbb1.rdn (m:=32) (cs':=ba 32 root) (app_l)).rd) (fun _=>(ba_len _ _)) ?_))))))))
 refine fa rfl .no Fx.fo55_1 (.u rfl) (lA rfl .no Fx.ag38 (.u rfl) (fun _=>(hbb1.rdn (m:=40) (cs':=m.cells) (by_m)).rd) (fun _=>(Meta.len _)) ?_)
 refine fa rfl .no Fx.fo55_2 (.u rfl) (ld rfl .no Fx.ag36 (.u rfl) (fun _=>(hbb1.rd (by_b)).rd) ?_)
 refine kc rfl FxTbN.go12 (Evc rfl (Evc rfl (Evc rfl Evn))) (tAll_p root m xs hx _ hw hs hK (by omega)) ?_
 rintro _ G72 μ72 hG72 ⟨h72,l72,er72,hA72,rfl,rfl,hs72⟩
 have hs:=hs.mono hG72
 have hK:=hK.mono hG72
 have hbb1:=hbb1.mono hG72
 refine mV rfl rfl (ex rfl .no (.u rfl) rfl (ex rfl .no (.u rfl) rfl (aS rfl rfl (aS rfl rfl (.nil (.code (.seq (.seq ?_))))))))
 obtain rfl:k=qs24.length:=by omega
 have hby9:headL (hdM m)++catL (qs24.take qs24.length)=xs.take (xs.length-8):=by rw [List.take_length]; exact hby
 have hcz:(bstr (headL (hdM m)++catL (qs24.take qs24.length))).size=xs.length-8:=by rw [bstr_len,hby9,List.length_take]; omega
 refine Wk.rg [0,1,2,3,4,5,6,7,8,9,10,11,12,13,14,15,16] rfl rfl (fa rfl .no Fx.fo55_2 (.u rfl) (ld rfl .no Fx.ag36 (.u rfl) (fun _=>(hbb1.rd (by_b)).rd) ?_))
 refine ln rfl .no Fx.sn36 (.u rfl) (mV rfl rfl (ls rfl .no Fx.st9 (.u rfl) (ar rfl .no (.u rfl) (.u rfl) rfl (fun _=>wrap_i64 (by omega) (by omega)) ?_)))
 refine cp rfl .no (.u rfl) (.u rfl) rfl (wo_b false (by rw [hcz]; exact bne_eq_false_iff_eq.2 (by omega)) ?_)
 refine mV rfl rfl (mv rfl (Gd.f (b:=false) rfl rfl) (.u rfl) (fa rfl (Gd.f (b:=false) rfl rfl) Fx.fo55_2 (.u rfl) (ld rfl (Gd.f (b:=false) rfl rfl) Fx.ag36 (.u rfl) (fun _=>(hbb1.rd (by_b)).rd) ?_)))
 refine mv rfl (Gd.f (b:=false) rfl rfl) (.u rfl) (ls rfl (Gd.f (b:=false) rfl rfl) Fx.st9 (.u rfl) (kE (((bstr (headL (hdM m)++catL (qs24.take qs24.length))).size)) rfl (Gd.f (b:=false) rfl rfl) Fx.se36 hs (.u rfl) (.u rfl) (fun _=>by omega) (fun _=>by omega) ?_))
 intro h88 L88 eL88 lL88 hs88
 have lL88:=lL88 rfl
 refine sB rfl (Gd.f (b:=false) rfl rfl) Fx.bs36_9 (.u rfl) (fun _=>hs88.sc) ?_
 refine cbn rfl (Gd.f (b:=false) rfl rfl) (.u rfl) (.u rfl) ?_
 refine pkO rfl .no (.u rfl) (.u rfl) (.nil (.code (.cond rfl (fun c4=>?_) (fun c4=>?_))))
 ·have c4k:=c4
  exfalso; simp only [Bool.false_or] at c4; simp at c4; exact c4 (by rw [eL88,hcz,←hby9,List.take_length])
 have c4k:=c4
 try simp only [qcA,qcC,qcB] at c4
 refine .skip (.code (.seq ?_))
 refine wk_fs .here (fun _ _=>rfl) (by intro b hb; cases hb) ?_; intro GfRL hRL hleRL evRL hsRL; subst evRL
 have hK:=hK.mono hleRL
 have hbb1:=hbb1.mono hleRL
 have hD9:D=qs24.map (fun p=>leafD p.2):=by rw [eD,List.take_length]
 refine Wk.mixp ⟨false,false⟩ Fx.mix (by kernel_rfl) ?_
 refine Wp.one 0 (by kernel_rfl) ?_
 refine mV rfl rfl (.nil (Wp.one 1 (by kernel_rfl) ?_))
 refine mV rfl rfl (.nil (Wp.one 2 (by kernel_rfl) ?_))
 refine mv rfl (.t rfl rfl) (.u rfl) (.nil (Wp.one 3 (by kernel_rfl) ?_))
 refine cp rfl (.t rfl rfl) (.u rfl) (.u rfl) rfl (.nil (Wp.one 4 (by kernel_rfl) ?_))
 refine mv rfl (.t rfl rfl) (.u rfl) (.nil (Wp.one 5 (by kernel_rfl) ?_))
 refine mv rfl (.f rfl rfl) (.u rfl) (.nil (Wp.one 7 (by kernel_rfl) ?_))
 refine fa rfl (.f rfl rfl) Fx.fo55_1 (.u rfl) (.nil (Wp.one 8 (by kernel_rfl) ?_))
 refine fa rfl (.f rfl rfl) Fx.fo38_8 (.s rfl) (.nil (Wp.one 9 (by kernel_rfl) ?_))
 refine lA rfl (.f rfl rfl) Fx.ag23 (.s rfl) (fun hc=>(hbb1.rdn (m:=32) (cs':=ba 32 (fun i=>BitVec.ofInt 8 (m.root i))) (by_r hw)).rd) (fun _=>(ba_len _ _)) (.nil (Wp.b1 6 (by kernel_rfl) ?_))
 refine kv rfl (.f rfl rfl) Fx.go18 (Eva.cons (.s rfl) Evn) (fun hc=>root_ok D hRL _ hsRL hK (by rw [hD9,List.length_map]; omega)) ?_
 refine .nil (Wp.one 10 (by kernel_rfl) ?_)
 refine eqB rfl (.f rfl rfl) Fx.baT23 (.s rfl) (.s rfl) ?_
 refine .nil (Wp.one 11 (by kernel_rfl) ?_)
 refine mv rfl (.f rfl rfl) (.s rfl) (.nil (Wp.one 12 (by kernel_rfl) ?_))
 refine mv rfl (.tc rfl rfl) (.u rfl) (.nil (Wp.one 13 (by kernel_rfl) ?_))
 refine ln rfl (.tc rfl rfl) Fx.sn31 (.s rfl) (.nil (Wp.one 14 (by kernel_rfl) ?_))
 refine fa rfl (.tc rfl rfl) Fx.fo55_1 (.u rfl) (.nil (Wp.one 15 (by kernel_rfl) ?_))
 refine fa rfl (.tc rfl rfl) Fx.fo38_5 (.s rfl) (.nil (Wp.one 16 (by kernel_rfl) ?_))
 refine ld rfl (.tc rfl rfl) Fx.ag3 (.s rfl) (fun hc=>(hbb1.rd (by_c)).rd) ?_
 refine .nil (Wp.one 17 (by kernel_rfl) ?_)
 refine cp rfl (.tc rfl rfl) (.s rfl) (.s rfl) rfl (.nil (Wp.one 18 (by kernel_rfl) ?_))
 refine pkA rfl (.f rfl rfl) (.s rfl) (.s rfl) (.nil (Wp.one 19 (by kernel_rfl) ?_))
 refine pkO rfl (.t rfl rfl) (.u rfl) (.s rfl) (.nil (Wp.one 20 (by kernel_rfl) ?_))
 refine pkA rfl .no (.u rfl) (.u rfl) (.nil (Wp.one 21 (by kernel_rfl) ?_))
 refine aS rfl rfl (.nil (Wp.last (by kernel_rfl) ?_))
 refine .code (.ret (We.fin0 Tryd.results5 (.tmp rfl .nil) ?_))
 exact ⟨rfl,congrArg Value.bool (pt_end hw hP9 hA72 hD9)⟩
end Go.Proofs.YtbdnclpopappeaaDoor
