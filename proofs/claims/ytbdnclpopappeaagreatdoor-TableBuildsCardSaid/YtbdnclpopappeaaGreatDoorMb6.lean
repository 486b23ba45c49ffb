/- Lemmas and contracts of functions, joined. -/
import Derived.Test.YtbdnclpopappeaaGreatDoorMb5
set_option linter.unusedSimpArgs false
set_option linter.unusedVariables false
set_option linter.unusedSectionVars false
namespace Go.Proofs.YtbdnclpopappeaaGreatDoor
open Go.Tan Go.RowKit
namespace FxTzE
theorem go37:goFn Tryz.prog 37=true:=by kernel_rfl
end FxTzE
namespace Fx
theorem go38:goFn Tryz.prog 38=true:=by kernel_rfl
theorem go41:goFn Tryz.prog 41=true:=by kernel_rfl
theorem sn83:(slE Tryz.prog 83).isSome=true:=by kernel_rfl
theorem ag31:aggN Tryz.prog 31=some none:=by kernel_rfl
theorem go44:goFn Tryz.prog 44=true:=by kernel_rfl
theorem go45:goFn Tryz.prog 45=true:=by kernel_rfl
theorem go46:goFn Tryz.prog 46=true:=by kernel_rfl
theorem go47:goFn Tryz.prog 47=true:=by kernel_rfl
theorem go50:goFn Tryz.prog 50=true:=by kernel_rfl
theorem go49:goFn Tryz.prog 49=true:=by kernel_rfl
end Fx
set_option maxHeartbeats 4000000 in
theorem r17Build_ok (root:Nat→Y) (h:Hd) (l:List Ent) (hl:Sh) (blk every bits:Int) (G:PM) (hs:SlR G 4 Ent.cells hl l) (hli:lightE l) (hR:RdNP G 0 0 (wa 64 kW)):Ct Tryz.prog 9 ([.agg (ba 32 root).toArray,.agg ([V h.kind,V h.level,uv .u64 h.gen,uv .u64 h.epoch,uv .u64 h.num]:List Value).toArray,hl.val l.length,.agg #[.int .i64 blk,.int .i64 every,.int .i64 bits]]:List Value).toArray G [] (fun G' μ' u=>∃ (h':Sh) (L:List Y) (m:Meta) (er:Int),BuildR root h l blk every bits L m er∧μ'=[]∧u=.tuple #[h'.val L.length,m.val,.int .i64 er]∧SlR G' 1 encY h' L):=by
 refine Ct.of Tryz.func9 rfl Tryz.ntmps9 rfl fun w0 hs0=>?_
 have hl1:=hli.1; have hl2:=hli.2
 refine .seq (rq6 rfl rfl ?_)
 refine bx rfl (.u rfl) rfl ?_; intro b4
 refine bx rfl (.u rfl) rfl ?_; intro b5
 refine bx rfl (.u rfl) rfl ?_; intro b7
 refine aS rfl rfl ?_
 refine al rfl Fx.zq36 ?_; intro b9
 refine aS rfl rfl (.nil (.code (.seq (.seq ?_))))
 refine wk_fz tk3 (by intro b hb; cases hb) ?_; intro Gfb4 hleb4 hbb4
 have hs:=hs.mono hleb4
 have hR:=hR.mono hleb4
 refine wk_fz tk2 (by intro b hb; cases hb) ?_; intro Gfb5 hleb5 hbb5
 have hs:=hs.mono hleb5
 have hR:=hR.mono hleb5
 have hbb4:=hbb4.mono hleb5
 refine wk_fz tk1 (by intro b hb; cases hb) ?_; intro Gfb7 hleb7 hbb7
 have hs:=hs.mono hleb7
 have hR:=hR.mono hleb7
 have hbb4:=hbb4.mono hleb7
 have hbb5:=hbb5.mono hleb7
 refine Wk.rg [0,1,2,3,4,5,6,7,8,9,10,11,12,13,14,15,16,17,18,19,20,21,22] rfl rfl (lA rfl .no Fx.ag26 (.u rfl) (fun _=>(hbb5.rdn (m:=5) (cs':=h.cells) (rfl)).rd) (fun _=>rfl) ?_)
 refine kv rfl .no FxTzE.go37 (Evc rfl Evn) (fun _=>rnRight_ok h _) ?_
 refine nt rfl .no (.u rfl) (mV rfl rfl (fa rfl (.f rfl rfl) Fx.fo26_0 (.u rfl) (ld rfl (.f rfl rfl) Fx.ag5 (.s rfl) (fun hc=>(hbb5.rd (by rfl)).rd) ?_)))
 refine cp rfl (.f rfl rfl) (.s rfl) (.u rfl) rfl (pkO rfl .no (.u rfl) (.s rfl) (mV rfl rfl (mv rfl (.f rfl rfl) (.u rfl) (ln rfl (.f rfl rfl) Fx.sn31 (.s rfl) (cp rfl (.f rfl rfl) (.s rfl) (.u rfl) rfl (pkO rfl .no (.u rfl) (.s rfl) (mV rfl rfl (fa rfl (.f rfl rfl) Fx.fo28_0 (.u rfl) (ld rfl (.f rfl rfl) Fx.ag3 (.s rfl) (fun hc=>(hbb7.rd (by rfl)).rd) ?_)))))))))
 refine cp rfl (.f rfl rfl) (.s rfl) (.u rfl) rfl (pkO rfl .no (.u rfl) (.s rfl) (mV rfl rfl (fa rfl (.f rfl rfl) Fx.fo28_0 (.u rfl) (ld rfl (.f rfl rfl) Fx.ag3 (.s rfl) (fun hc=>(hbb7.rd (by rfl)).rd) ?_))))
 refine cp rfl (.f rfl rfl) (.s rfl) (.u rfl) rfl (pkO rfl .no (.u rfl) (.s rfl) (.nil (.code (.cond rfl (fun c1=>?_) (fun c1=>?_)))))
 ·have c1k:=c1
  try simp only [qcA,qcC,qcB] at c1
  refine .seq (rq4 rfl rfl (bCe (Meta.zero.cells) rfl .no Fx.bp36_ .nil rfl (rfl) ?_))
  refine aS rfl rfl (sw rfl (.u rfl) (.u rfl) rfl Fx.sz36 .here rfl (Meta.one _) ?_)
  refine aS rfl rfl (.nil (.code (.ret (We.fin0 Tryz.results9 (.tmp rfl (.cell rfl (fun w hw=>run_loadVarN Fx.ag36 (RdN.own .here) ((by first|exact mt_len|exact Meta.len _)) hw) (.tmp rfl .nil))) ?_))))
  exact ⟨⟨none,0⟩,[],Meta.zero,1,.inl ⟨bad1 c1k,rfl,rfl,rfl⟩,rfl,rfl,SlR.nul⟩
 have c1k:=c1
 try simp only [qcA,qcC,qcB] at c1
 refine .skip (.code (.seq (rq8 rfl rfl (fa rfl .no Fx.fo28_1 (.u rfl) (ld rfl .no Fx.ag3 (.u rfl) (fun _=>(hbb7.rd (by rfl)).rd) ?_)))))
 refine kc rfl Fx.go38 (Evc rfl (Evc rfl Evn)) (r10Build_ok ⟨none,0⟩ [] every _ SlR.nul (Nat.zero_le _)) ?_
 rintro _ G52 μ52 hG52 ⟨v52,L52,er52,hB52,rfl,rfl⟩
 have hs:=hs.mono hG52
 have hR:=hR.mono hG52
 have hbb4:=hbb4.mono hG52
 have hbb5:=hbb5.mono hG52
 have hbb7:=hbb7.mono hG52
 refine mV rfl rfl (ex rfl .no (.u rfl) rfl (ex rfl .no (.u rfl) rfl (aS rfl rfl (aS rfl rfl (.nil (.code (.seq (.seq ?_))))))))
 have hT0:TryB h l blk every 0 er52:=TryB.start hB52
 refine rq1 rfl rfl (aS rfl rfl (.nil (.code (.block ?_))))
 refine Wk.lop (α:=Nat×Int) (fun gh=>[(12,true,.int .i64 gh.2),(13,true,.int .i64 (gh.1:Int))]) (fun _=>[])
  (fun gh Gl=>(gh.1≤l.length)∧(TryB h l blk every gh.1 gh.2)) (fun gh=>l.length-gh.1) (0,er52) [(2,true,_),(4,true,_),(5,true,_),(7,true,_),(9,true,_)] [_,_]
  (esC rfl (by first|rfl|exact evi (by omega)) (esC rfl (by first|rfl|exact evi (by omega)) (esD rfl (esD rfl (esD rfl (esD rfl (esD rfl eZ)))))))
  (mS .here rfl (mS .here rfl mN)) ?_ ?_
 ·refine ⟨?_,?_⟩
  ·(try dsimp only)<;>(first|omega|rfl|assumption|(simp; done))
  (try dsimp only)<;>(exact hT0)
 intro gh N0 Gl0 hN0 hGl0 hF0
 obtain ⟨k,e⟩:=gh; dsimp only at hF0 hN0 ⊢
 obtain ⟨hk,hT⟩:=hF0
 have hs:=hs.mono hGl0
 have hR:=hR.mono hGl0
 have hbb4:=hbb4.mono hGl0
 have hbb5:=hbb5.mono hGl0
 have hbb7:=hbb7.mono hGl0
 refine .seq (.seq (rq8 rfl rfl (mV rfl rfl (mV rfl rfl (ln rfl .no Fx.sn31 (.u rfl) (cp rfl .no (.u rfl) (.u rfl) rfl (mV rfl rfl (mv rfl (.t rfl rfl) (.u rfl) (cp rfl (.t rfl rfl) (.s rfl) (.u rfl) rfl (pkA rfl .no (.u rfl) (.s rfl) (.nil (.code (.cond rfl (fun c2=>?_) (fun c2=>?_))))))))))))))
 ·have c2k:=c2
  try simp only [qcA,qcC,qcB] at c2
  refine .skip (.code (.seq (.block (.seq (rq6 rfl rfl (mV rfl rfl (mV rfl rfl (ih rfl .no Fx.se31 (.u rfl) (.u rfl) (fun _=>by omega) (fun _=>by omega) (fun _=>hs.nn (k:=k) (by first|omega|(simp only [Bool.and_eq_true,decide_eq_true_eq] at hc; omega)|(simp only [List.length_cons,List.length_nil]; omega))) ?_))))))))
  obtain ⟨x,ex⟩:=getx (k:=k) (xs:=l) (by omega)
  refine lA rfl .no Fx.ag47 (.u rfl) (fun _=>(hs.at (by omega) ex).rd) (fun _=>Ent.len _) ?_
  refine kv rfl .no Fx.go39 (Evc rfl Evn) (fun _=>r8Right_ok x _) ?_
  refine nt rfl .no (.u rfl) (.nil (.code (.cond rfl (fun c3=>?_) (fun c3=>?_))))
  ·have c3k:=c3
   try simp only [qcA,qcC,qcB] at c3
   refine rq1 rfl rfl (aS rfl rfl (.nil (.blk (.code (rq3 rfl rfl (mV rfl rfl (arn (((k+1):Nat):Int) rfl .no (.u rfl) (.u rfl) rfl (fun _=>by omega) (fun _=>wrap_i64 (by omega) (by omega)) ?_)))))))
   refine aS rfl rfl (.nil (We.lpo (k+1,1) ?_ ?_ ?_ ?_ ?_))
   ·exact (esC rfl (by first|rfl|exact evi (by omega)) (esC rfl (by first|rfl|exact evi (by omega)) (esD rfl (esD rfl (esD rfl (esD rfl (esD rfl eZ)))))))
   ·exact (mS .here rfl (mS .here rfl mN))
   ·first|omega|(dsimp only; omega)
   ·exact hGl0
   refine ⟨?_,?_⟩
   ·(try dsimp only)<;>(first|omega|rfl|assumption|(simp; done))
   (try dsimp only)<;>(exact TryB.bad ex (by simpa using c3k))
  have c3k:=c3
  try simp only [qcA,qcC,qcB] at c3
  refine .skip (.blk (.code (rq3 rfl rfl (mV rfl rfl (arn (((k+1):Nat):Int) rfl .no (.u rfl) (.u rfl) rfl (fun _=>by omega) (fun _=>wrap_i64 (by omega) (by omega)) ?_)))))
  refine aS rfl rfl (.nil (We.lpo (k+1,e) ?_ ?_ ?_ ?_ ?_))
  ·exact (esC rfl (by first|rfl|exact evi (by omega)) (esC rfl (by first|rfl|exact evi (by omega)) (esD rfl (esD rfl (esD rfl (esD rfl (esD rfl eZ)))))))
  ·exact (mS .here rfl (mS .here rfl mN))
  ·first|omega|(dsimp only; omega)
  ·exact hGl0
  refine ⟨?_,?_⟩
  ·(try dsimp only)<;>(first|omega|rfl|assumption|(simp; done))
  (try dsimp only)<;>(exact hT.step (by omega) ex (by simpa using c3k))
 have c2k:=c2
 try simp only [qcA,qcC,qcB] at c2
 refine .exit (.xcode (.xlp (.xblk (.code (.seq (.seq (rq7 rfl rfl (mV rfl rfl (cp rfl .no (.u rfl) (.u rfl) rfl (mV rfl rfl (mv rfl (.f rfl rfl) (.u rfl) (kv rfl (.f rfl rfl) Fx.go40 (Eva.cons (.s rfl) Evn) (fun hc=>r8Rises_ok hl l _ hs (by (try simp only [Bool.and_eq_true,decide_eq_true_eq,Bool.not_eq_true',Bool.or_eq_false_iff,decide_eq_false_iff_not] at hc); omega)) ?_))))))))))))
 refine nt rfl (.f rfl rfl) (.s rfl) (pkO rfl .no (.u rfl) (.s rfl) (.nil (.code (.cond rfl (fun c4=>?_) (fun c4=>?_)))))
 ·have c4k:=c4
  try simp only [qcA,qcC,qcB] at c4
  refine .seq (rq4 rfl rfl (bCe (Meta.zero.cells) rfl .no Fx.bp36_ .nil rfl (rfl) ?_))
  refine aS rfl rfl (sw rfl (.u rfl) (.u rfl) rfl Fx.sz36 tk1 rfl (Meta.one _) ?_)
  refine aS rfl rfl (.nil (.code (.ret (We.fin0 Tryz.results9 (.tmp rfl (.cell rfl (fun w hw=>run_loadVarN Fx.ag36 (RdN.own .here) ((by first|exact mt_len|exact Meta.len _)) hw) (.tmp rfl .nil))) ?_))))
  exact ⟨⟨none,0⟩,[],Meta.zero,1,.inl ⟨hT.no (try_c c4k),rfl,rfl,rfl⟩,rfl,rfl,SlR.nul⟩
 have c4k:=c4
 try simp only [qcA,qcC,qcB] at c4
 refine .skip (.code (.seq ?_))
 obtain ⟨he0,hri⟩:=try_d c4k
 obtain ⟨g1,g2,g3,g4,g5⟩:=good1 c1k
 have hnb:=hT.yes he0 (by omega) hri g1 g2 g3 g4 g5
 have hg:=good_of (root:=root) (bits:=bits) hnb hli
 have hok:=hg.ok
 have hev:=(hT.ev he0).1
 have hev2:=(hT.ev he0).2
 have hcc:=cuts_len blk l
 refine rq5 rfl rfl (mV rfl rfl (fa rfl .no Fx.fo28_0 (.u rfl) (ld rfl .no Fx.ag3 (.u rfl) (fun _=>(hbb7.rd (by rfl)).rd) ?_)))
 refine kc rfl Fx.go41 (Evc rfl (Evc rfl Evn)) (r17Cut_ok hl l blk _ hs (by omega) (by omega)) ?_
 rintro _ G82 μ82 hG82 ⟨h82,ps,eps,rfl,rfl,hs82,hA82⟩
 have lps:ps.length=(cutsE blk l).length:=by rw [← eps,List.length_map]
 have hs:=hs.mono hG82
 have hR:=hR.mono hG82
 have hbb4:=hbb4.mono hG82
 have hbb5:=hbb5.mono hG82
 have hbb7:=hbb7.mono hG82
 refine aS rfl rfl (.nil (.code (.seq (rq3 rfl rfl (lA rfl .no Fx.ag26 (.u rfl) (fun _=>(hbb5.rdn (m:=5) (cs':=h.cells) (rfl)).rd) (fun _=>rfl) ?_)))))
 refine kc rfl Fx.go42 (Evc rfl Evn) (Ct.rowc (rnLay_ok h _)) ?_
 rintro v84 G84 μ84 hG84 ⟨L84,ov84,eL84,rfl⟩
 have hs:=hs.mono hG84
 have hR:=hR.mono hG84
 have hbb4:=hbb4.mono hG84
 have hbb5:=hbb5.mono hG84
 have hbb7:=hbb7.mono hG84
 have hs82:=hs82.mono hG84
 have hA82:=hA82.mono hG84
 refine aS rfl rfl (.nil (.code (.seq (rq5 rfl rfl (mV rfl rfl (ln rfl .no Fx.sn83 (.u rfl) (ci rfl .no rfl Fx.cv3_24 (.u rfl) ?_)))))))
 refine kc rfl Fx.go43 (Evc rfl Evn) (Ct.rowc (rrNum_ok _ _)) ?_
 rintro v88 G88 μ88 hG88 ⟨L88,ov88,eL88,rfl⟩
 have hs:=hs.mono hG88
 have hR:=hR.mono hG88
 have hbb4:=hbb4.mono hG88
 have hbb5:=hbb5.mono hG88
 have hbb7:=hbb7.mono hG88
 have hs82:=hs82.mono hG88
 have hA82:=hA82.mono hG88
 refine aS rfl rfl (.nil (.code (.seq (rq1 rfl rfl (aS rfl rfl (.nil (.code (.seq (.seq (wk_nilS 32 (ba 32) 23 ?_))))))))))
 refine rq1 rfl rfl (aS rfl rfl (.nil (.code (.block ?_))))
 refine Wk.lop (α:=Nat×Value×List Y×Value×List Y×Value×List Dg) (fun gh=>[(15,true,gh.2.1),(16,true,gh.2.2.2.1),(17,true,gh.2.2.2.2.2.1),(18,true,.int .i64 (gh.1:Int))]) (fun gh=>[rS 32 (ba 32) gh.2.2.2.2.2.1 23 gh.2.2.2.2.2.2,rB gh.2.2.2.1 5 gh.2.2.2.2.1,rB gh.2.1 5 gh.2.2.1])
  (fun gh Gl=>(gh.1≤ps.length)∧(gh.2.2.1=(tabOf root h l blk every bits).out gh.1)∧(gh.2.2.2.2.1=numN (cutsE blk l).length++(tabOf root h l blk every bits).rows gh.1)∧(gh.2.2.2.2.2.2=(tabOf root h l blk every bits).lvs gh.1)) (fun gh=>ps.length-gh.1) (0,v84,L84,v88,L88,.slice none 0 0,[]) [(2,true,_),(4,true,_),(5,true,_),(7,true,_),(9,true,_),(14,true,_)] [_,_]
  (esD rfl (esD rfl (esD rfl (esC rfl (by first|rfl|exact evi (by omega)) (esD rfl (esD rfl (esD rfl (esD rfl (esD rfl (esD rfl eZ))))))))))
  (mS .here rfl (mS .here rfl (mS .here rfl (mS .here rfl (mS .here rfl mN))))) ?_ ?_
 ·refine ⟨?_,?_,?_,?_⟩
  ·(try dsimp only)<;>(first|omega|rfl|assumption|(simp; done))
  ·(try dsimp only)<;>(rw [eL84]; exact (List.append_nil _).symm)
  ·(try dsimp only)<;>(exact rb_idx0 (t:=(tabOf root h l blk every bits)) lps (by omega) eL88)
  (try dsimp only)<;>(rfl)
 intro gh N1 Gl1 hN1 hGl1 hF1
 obtain ⟨k,vo,O,vi,I,vd,D⟩:=gh; dsimp only at hF1 hN1 ⊢
 obtain ⟨hk,eO,eI,eD⟩:=hF1
 have hs:=hs.mono hGl1
 have hR:=hR.mono hGl1
 have hbb4:=hbb4.mono hGl1
 have hbb5:=hbb5.mono hGl1
 have hbb7:=hbb7.mono hGl1
 have hs82:=hs82.mono hGl1
 have hA82:=hA82.mono hGl1
 have lO:O.length≤74630:=by rw [eO]; exact hok.out_small (show k≤(cutsE blk l).length by omega)
 have lI:I.length≤65610:=by rw [eI,List.length_append]; have:=hok.rows_small (show k≤(cutsE blk l).length by omega); have:=num_len10 (n:=(cutsE blk l).length) (by omega); omega
 have lD:D.length=k:=by rw [eD,Tab.lvs_len]
 refine .seq (.seq (rq4 rfl rfl (mV rfl rfl (mV rfl rfl (ln rfl .no Fx.sn83 (.u rfl) (cp rfl .no (.u rfl) (.u rfl) rfl (.nil (.code (.cond rfl (fun c5=>?_) (fun c5=>?_))))))))))
 ·have c5k:=c5
  try simp only [qcA,qcC,qcB] at c5
  refine .skip (.code (.seq (.block (.seq ?_))))
  obtain ⟨p,ep⟩:=getx (k:=k) (xs:=ps) (by omega)
  have hpe:=hA82.get ep
  obtain ⟨hLp,hcp⟩:=ps_at eps ep
  have hlp:lightE p.2:=by rw [← hLp]; exact cut_light hli hcp
  have h0p:0<p.2.length:=by rw [← hLp]; exact cut_pos hcp
  have hlp1:=hlp.1; have hlp2:=hlp.2
  refine Wk.draw (mc:=⟨false,false⟩) [0,1,2,3,4,5,6,7,8,9,10,11] Fx.mix (by kernel_rfl) ?_
  refine mV rfl rfl (mV rfl rfl (ih rfl .no Fx.se83 (.u rfl) (.u rfl) (fun _=>by omega) (fun _=>by omega) (fun _=>hs82.nn (k:=k) (by first|omega|(simp only [Bool.and_eq_true,decide_eq_true_eq] at hc; omega)|(simp only [List.length_cons,List.length_nil]; omega))) ?_))
  refine ld rfl .no Fx.ag31 (.u rfl) (fun _=>(hs82.at (by omega) ep 0 _ rfl).rd) ?_
  refine fa rfl .no Fx.fo28_1 (.u rfl) (ld rfl .no Fx.ag3 (.u rfl) (fun _=>(hbb7.rd (by rfl)).rd) ?_)
  refine kc rfl Fx.go38 (Evc rfl (Evc rfl Evn)) (r10Build_ok p.1 p.2 every _ hpe (by omega)) ?_
  rintro _ G102 μ102 hG102 ⟨v102,L102,er102,hB102,rfl,rfl⟩
  obtain ⟨eL102,rfl⟩:=rb_blk hg hev hcp hLp hB102
  have lB:L102.length≤63000:=by rw [eL102]; have:=blkL_le (every:=every.toNat) (l:=p.2) (by omega) (by omega) (by omega); omega
  have hs:=hs.mono hG102
  have hR:=hR.mono hG102
  have hbb4:=hbb4.mono hG102
  have hbb5:=hbb5.mono hG102
  have hbb7:=hbb7.mono hG102
  have hs82:=hs82.mono hG102
  have hA82:=hA82.mono hG102
  have hpe:=hpe.mono hG102
  refine mV rfl rfl (ex rfl .no (.u rfl) rfl (ex rfl .no (.u rfl) rfl (aS rfl rfl (aS rfl rfl (.nil (.code (.seq (.seq (rq2 rfl rfl (mV rfl rfl (cp rfl .no (.u rfl) (.u rfl) rfl (.nil (.code (.cond rfl (fun c6=>?_) (fun c6=>?_)))))))))))))))
  ·have c6k:=c6
   exact absurd c6 (by decide)
  have c6k:=c6
  try simp only [qcA,qcC,qcB] at c6
  refine .skip (.code (.seq ?_))
  refine wk_fb .here (by first|(intro b hb; cases hb; done) | simp [keys,Res.keys]) ?_; intro GfR102 hR102 hleR102 evR102 hsR102; subst evR102
  have hs:=hs.mono hleR102
  have hR:=hR.mono hleR102
  have hbb4:=hbb4.mono hleR102
  have hbb5:=hbb5.mono hleR102
  have hbb7:=hbb7.mono hleR102
  have hs82:=hs82.mono hleR102
  have hA82:=hA82.mono hleR102
  have hpe:=hpe.mono hleR102
  refine rq7 rfl rfl (lA rfl .no Fx.ag23 (.u rfl) (fun _=>(hbb4.rdn (m:=32) (cs':=_) (by first|exact ba_all|exact app_l|exact app_r)).rd) (fun _=>(ba_len _ _)) ?_)
  refine lA rfl .no Fx.ag26 (.u rfl) (fun _=>(hbb5.rdn (m:=5) (cs':=h.cells) (rfl)).rd) (fun _=>rfl) ?_
  refine mV rfl rfl (arn (((2+k):Nat):Int) rfl .no (.u rfl) (.u rfl) rfl (fun _=>by omega) (fun _=>wrap_i64 (by omega) (by omega)) ?_)
  refine mV rfl rfl (kc rfl Fx.go44 (Evc rfl (Evc rfl (Evc rfl (Evc rfl Evn)))) (Ct.frzB (r17seal_ok root h (2+k) L102 hR102 _ hsR102 hR (by omega) (by omega))) ?_)
  rintro _ G114 μ114 hG114 ⟨h114,L114,eL114,rfl,rfl,hs114⟩
  have lL114:L114.length=L102.length+16:=by rw [eL114,seal_len]
  have hX:L114=(tabOf root h l blk every bits).prt k:=rb_prt (t:=(tabOf root h l blk every bits)) hLp eL114 eL102
  have hs:=hs.mono hG114
  have hR:=hR.mono hG114
  have hbb4:=hbb4.mono hG114
  have hbb5:=hbb5.mono hG114
  have hbb7:=hbb7.mono hG114
  have hs82:=hs82.mono hG114
  have hA82:=hA82.mono hG114
  have hpe:=hpe.mono hG114
  refine aS rfl rfl (.nil (.code (.seq (Wk.draw (mc:=⟨false,false⟩) [0,1,2,3,4,5,6,7,8,9,10,11,12,13] Fx.mix (by kernel_rfl) ?_))))
  refine mV rfl rfl (mV rfl rfl (ih rfl .no Fx.se83 (.u rfl) (.u rfl) (fun _=>by omega) (fun _=>by omega) (fun _=>hs82.nn (k:=k) (by first|omega|(simp only [Bool.and_eq_true,decide_eq_true_eq] at hc; omega)|(simp only [List.length_cons,List.length_nil]; omega))) ?_))
  refine ld rfl .no Fx.ag31 (.u rfl) (fun _=>(hs82.at (by omega) ep 0 _ rfl).rd) ?_
  refine mV rfl rfl (mV rfl rfl (ih rfl .no Fx.se83 (.u rfl) (.u rfl) (fun _=>by omega) (fun _=>by omega) (fun _=>hs82.nn (k:=k) (by first|omega|(simp only [Bool.and_eq_true,decide_eq_true_eq] at hc; omega)|(simp only [List.length_cons,List.length_nil]; omega))) ?_))
  refine ld rfl .no Fx.ag31 (.u rfl) (fun _=>(hs82.at (by omega) ep 0 _ rfl).rd) ?_
  refine ln rfl .no Fx.sn31 (.u rfl) (arn (((p.2.length-1):Nat):Int) rfl .no (.u rfl) (.u rfl) rfl (fun _=>by omega) (fun _=>wrap_i64 (by omega) (by omega)) ?_)
  refine ih rfl .no Fx.se31 (.u rfl) (.u rfl) (fun _=>by omega) (fun _=>by omega) (fun _=>hpe.nn (k:=(p.2.length-1)) (by first|omega|(simp only [Bool.and_eq_true,decide_eq_true_eq] at hc; omega)|(simp only [List.length_cons,List.length_nil]; omega))) ?_
  refine fa rfl .no Fx.fo47_0 (.u rfl) ?_
  obtain ⟨x,ex⟩:=getx (k:=p.2.length-1) (xs:=p.2) (by omega)
  have hxu:=usz hlp ex
  refine ld rfl .no Fx.ag9 (.u rfl) (fun _=>(hpe.at (by omega) ex 0 _ rfl).rd) (aS rfl rfl (.nil (.code (.seq (.seq (rq5 rfl rfl (mV rfl rfl (arn (((k+1):Nat):Int) rfl .no (.u rfl) (.u rfl) rfl (fun _=>by omega) (fun _=>wrap_i64 (by omega) (by omega)) ?_))))))))
  refine mV rfl rfl (ln rfl .no Fx.sn83 (.u rfl) (cp rfl .no (.u rfl) (.u rfl) rfl (.nil (.code (.cond rfl (fun c7=>?_) (fun c7=>?_))))))
  ·have c7k:=c7
   try simp only [qcA,qcC,qcB] at c7
   obtain ⟨q,eq⟩:=getx (k:=k+1) (xs:=ps) (by omega)
   have hqe:=hA82.get eq
   obtain ⟨hLq,hcq⟩:=ps_at eps eq
   have hlq:lightE q.2:=by rw [← hLq]; exact cut_light hli hcq
   have h0q:0<q.2.length:=by rw [← hLq]; exact cut_pos hcq
   have hlq1:=hlq.1; have hlq2:=hlq.2
   refine Wk.rg [0,1,2,3,4,5,6,7,8,9,10] rfl rfl (mV rfl rfl (mV rfl rfl (mV rfl rfl (arn (((k+1):Nat):Int) rfl .no (.u rfl) (.u rfl) rfl (fun _=>by omega) (fun _=>wrap_i64 (by omega) (by omega)) ?_))))
   refine ih rfl .no Fx.se83 (.u rfl) (.u rfl) (fun _=>by omega) (fun _=>by omega) (fun _=>hs82.nn (k:=(k+1)) (by first|omega|(simp only [Bool.and_eq_true,decide_eq_true_eq] at hc; omega)|(simp only [List.length_cons,List.length_nil]; omega))) ?_
   refine ld rfl .no Fx.ag31 (.u rfl) (fun _=>(encS_at hs82 (j:=((k+1:Nat):Int)) (k+1) (by omega) eq).rd) ?_
   refine ih rfl .no Fx.se31 (.u rfl) (.u rfl) (fun _=>by omega) (fun _=>by omega) (fun _=>hqe.nn (k:=0) (by first|omega|(simp only [Bool.and_eq_true,decide_eq_true_eq] at hc; omega)|(simp only [List.length_cons,List.length_nil]; omega))) ?_
   refine fa rfl .no Fx.fo47_0 (.u rfl) ?_
   obtain ⟨y,ey⟩:=getx (k:=0) (xs:=q.2) (by omega)
   have hbt:=betwL_len (yb x.user) (yb y.user); rw [yb_len] at hbt
   refine ld rfl .no Fx.ag9 (.u rfl) (fun _=>(hqe.at (by decide) ey 0 _ rfl).rd) ?_
   refine kv rfl .no Fx.go45 (Evc rfl (Evc rfl Evn)) (fun _=>r8Betw_ok x.user y.user _ (by omega)) ?_
   refine aS rfl rfl (.nil (.code (.seq (rq5 rfl rfl (mV rfl rfl (mV rfl rfl (kc rfl Fx.go46 (Evc rfl Evn) (Ct.frzB (rrStr_ok _ _ (by first|omega | (rw [bstr_len]; omega)))) ?_)))))))
   rintro _ G145 μ145 hG145 ⟨h145,L145,eL145,rfl,rfl,hs145⟩
   have lL145:=str_b2 eL145 (by first|omega | (rw [bstr_len]; omega))
   have hs:=hs.mono hG145
   have hR:=hR.mono hG145
   have hbb4:=hbb4.mono hG145
   have hbb5:=hbb5.mono hG145
   have hbb7:=hbb7.mono hG145
   have hs114:=hs114.mono hG145
   refine apY rfl Fx.se34 Fx.zv5 (.u rfl) (.u rfl) tk1 hs145.sc (by (try simp only [qlA,yl_len]); omega) ?_
   intro v146 L146 ov146 eL146
   have lL146:L146.length=I.length+L145.length:=by rw [eL146,List.length_append]
   refine aS rfl rfl (.nil (.code (.seq (rq5 rfl rfl (mV rfl rfl (mV rfl rfl (kc rfl Fx.go47 (Evc rfl Evn) (Ct.frzB (r17row_ok L114 h114 _ hs114 hR (by omega))) ?_)))))))
   rintro _ G149 μ149 hG149 ⟨h149,L149,eL149,rfl,rfl,hs149⟩
   have lL149:=row_bd eL149 (by omega)
   have hs:=hs.mono hG149
   have hR:=hR.mono hG149
   have hbb4:=hbb4.mono hG149
   have hbb5:=hbb5.mono hG149
   have hbb7:=hbb7.mono hG149
   have hs114:=hs114.mono hG149
   have hs145:=hs145.mono hG149
   refine apY rfl Fx.se34 Fx.zv5 (.u rfl) (.u rfl) .here hs149.sc (by (try simp only [qlA,yl_len]); omega) ?_
   intro v150 L150 ov150 eL150
   have lL150:L150.length=L146.length+L149.length:=by rw [eL150,List.length_append]
   refine aS rfl rfl (.nil (.code (.seq (rq6 rfl rfl (mV rfl rfl (mV rfl rfl (kv rfl .no Fx.go48 (Evc rfl Evn) (fun _=>rLeaf_ok L114 h114 _ hs114 hR (by omega)) ?_)))))))
   refine Go.Tan.b1 rfl Fx.se68 Fx.zw23 (.u rfl) rfl rfl (by decide) ?_; intro b154
   refine apS (xs:=D) ((leafD L114)) rfl Fx.se68 Fx.zw23 rfl (.u rfl) (.u rfl) tk2 .here (ba_len _ _) (ba_one _ _) (by omega) (by unfold maxLen; omega) ?_; intro v155 ov155
   refine aS rfl rfl (.nil (.code (.seq (rq4 rfl rfl (mV rfl rfl (mV rfl rfl (apY rfl Fx.se34 Fx.zv5 (.u rfl) (.u rfl) tk3 hs114.sc (by (try simp only [qlA,yl_len]); omega) ?_)))))))
   intro v158 L158 ov158 eL158
   have lL158:L158.length=O.length+L114.length:=by rw [eL158,List.length_append]
   refine aS rfl rfl (.nil (.code (.seq (rq3 rfl rfl (mV rfl rfl (lr rfl .no Fx.sn34 (.u rfl) .here ?_))))))
   refine cp rfl .no (.u rfl) (.u rfl) rfl (.nil (.code (.cond rfl (fun c8=>?_) (fun c8=>?_))))
   ·have c8k:=c8
    exfalso; simp only [decide_eq_true_eq,gt_iff_lt] at c8; omega
   have c8k:=c8
   try simp only [qcA,qcC,qcB] at c8
   refine .skip (.blk (.code (rq3 rfl rfl (mV rfl rfl (arn (((k+1):Nat):Int) rfl .no (.u rfl) (.u rfl) rfl (fun _=>by omega) (fun _=>wrap_i64 (by omega) (by omega)) ?_)))))
   refine aS rfl rfl (.nil (We.lpo (k+1,v158,L158,v150,L150,v155,D++[leafD L114]) ?_ ?_ ?_ ?_ ?_))
   ·exact (esD rfl (esD rfl (esD rfl (esC rfl (by first|rfl|exact evi (by omega)) (esD rfl (esD rfl (esD rfl (esD rfl (esD rfl (esD rfl eZ))))))))))
   ·exact (mS tk1 rfl (mS tk2 rfl (mS .here rfl (mS tk1 rfl (mS tk1 rfl mN)))))
   ·first|omega|(dsimp only; omega)
   ·exact (((((hGl1).trans hG102).trans hleR102).trans hG114).trans hG145).trans hG149
   refine ⟨?_,?_,?_,?_⟩
   ·(try dsimp only)<;>(first|omega|rfl|assumption|(simp; done))
   ·(try dsimp only)<;>(exact tb_out (t:=(tabOf root h l blk every bits)) eO hX eL158)
   ·(try dsimp only)<;>(exact rb_row (t:=(tabOf root h l blk every bits)) eI hX eL149 (by rw [yb_bstr]; exact rb_bnd1 (by omega) hLp hLq ex ey) eL145 eL146 eL150)
   (try dsimp only)<;>(exact tb_lvs (t:=(tabOf root h l blk every bits)) eD hX rfl)
  have c7k:=c7
  try simp only [qcA,qcC,qcB] at c7
  refine .skip (.code (.seq (rq5 rfl rfl (mV rfl rfl (mV rfl rfl (kc rfl Fx.go46 (Evc rfl Evn) (Ct.frzB (rrStr_ok _ _ (by first|omega | (rw [bstr_len]; omega)))) ?_))))))
  rintro _ G145 μ145 hG145 ⟨h145,L145,eL145,rfl,rfl,hs145⟩
  have lL145:=str_b2 eL145 (by first|omega | (rw [bstr_len]; omega))
  have hs:=hs.mono hG145
  have hR:=hR.mono hG145
  have hbb4:=hbb4.mono hG145
  have hbb5:=hbb5.mono hG145
  have hbb7:=hbb7.mono hG145
  have hs114:=hs114.mono hG145
  refine apY rfl Fx.se34 Fx.zv5 (.u rfl) (.u rfl) tk1 hs145.sc (by (try simp only [qlA,yl_len]); omega) ?_
  intro v146 L146 ov146 eL146
  have lL146:L146.length=I.length+L145.length:=by rw [eL146,List.length_append]
  refine aS rfl rfl (.nil (.code (.seq (rq5 rfl rfl (mV rfl rfl (mV rfl rfl (kc rfl Fx.go47 (Evc rfl Evn) (Ct.frzB (r17row_ok L114 h114 _ hs114 hR (by omega))) ?_)))))))
  rintro _ G149 μ149 hG149 ⟨h149,L149,eL149,rfl,rfl,hs149⟩
  have lL149:=row_bd eL149 (by omega)
  have hs:=hs.mono hG149
  have hR:=hR.mono hG149
  have hbb4:=hbb4.mono hG149
  have hbb5:=hbb5.mono hG149
  have hbb7:=hbb7.mono hG149
  have hs114:=hs114.mono hG149
  refine apY rfl Fx.se34 Fx.zv5 (.u rfl) (.u rfl) .here hs149.sc (by (try simp only [qlA,yl_len]); omega) ?_
  intro v150 L150 ov150 eL150
  have lL150:L150.length=L146.length+L149.length:=by rw [eL150,List.length_append]
  refine aS rfl rfl (.nil (.code (.seq (rq6 rfl rfl (mV rfl rfl (mV rfl rfl (kv rfl .no Fx.go48 (Evc rfl Evn) (fun _=>rLeaf_ok L114 h114 _ hs114 hR (by omega)) ?_)))))))
  refine Go.Tan.b1 rfl Fx.se68 Fx.zw23 (.u rfl) rfl rfl (by decide) ?_; intro b154
  refine apS (xs:=D) ((leafD L114)) rfl Fx.se68 Fx.zw23 rfl (.u rfl) (.u rfl) tk2 .here (ba_len _ _) (ba_one _ _) (by omega) (by unfold maxLen; omega) ?_; intro v155 ov155
  refine aS rfl rfl (.nil (.code (.seq (rq4 rfl rfl (mV rfl rfl (mV rfl rfl (apY rfl Fx.se34 Fx.zv5 (.u rfl) (.u rfl) tk3 hs114.sc (by (try simp only [qlA,yl_len]); omega) ?_)))))))
  intro v158 L158 ov158 eL158
  have lL158:L158.length=O.length+L114.length:=by rw [eL158,List.length_append]
  refine aS rfl rfl (.nil (.code (.seq (rq3 rfl rfl (mV rfl rfl (lr rfl .no Fx.sn34 (.u rfl) .here ?_))))))
  refine cp rfl .no (.u rfl) (.u rfl) rfl (.nil (.code (.cond rfl (fun c9=>?_) (fun c9=>?_))))
  ·have c9k:=c9
   exfalso; simp only [decide_eq_true_eq,gt_iff_lt] at c9; omega
  have c9k:=c9
  try simp only [qcA,qcC,qcB] at c9
  refine .skip (.blk (.code (rq3 rfl rfl (mV rfl rfl (arn (((k+1):Nat):Int) rfl .no (.u rfl) (.u rfl) rfl (fun _=>by omega) (fun _=>wrap_i64 (by omega) (by omega)) ?_)))))
  refine aS rfl rfl (.nil (We.lpo (k+1,v158,L158,v150,L150,v155,D++[leafD L114]) ?_ ?_ ?_ ?_ ?_))
  ·exact (esD rfl (esD rfl (esD rfl (esC rfl (by first|rfl|exact evi (by omega)) (esD rfl (esD rfl (esD rfl (esD rfl (esD rfl (esD rfl eZ))))))))))
  ·exact (mS tk1 rfl (mS tk2 rfl (mS .here rfl (mS tk1 rfl (mS tk1 rfl mN)))))
  ·first|omega|(dsimp only; omega)
  ·exact (((((hGl1).trans hG102).trans hleR102).trans hG114).trans hG145).trans hG149
  refine ⟨?_,?_,?_,?_⟩
  ·(try dsimp only)<;>(first|omega|rfl|assumption|(simp; done))
  ·(try dsimp only)<;>(exact tb_out (t:=(tabOf root h l blk every bits)) eO hX eL158)
  ·(try dsimp only)<;>(exact rb_row (t:=(tabOf root h l blk every bits)) eI hX eL149 (rb_bnd0 (by omega) hLp ex) eL145 eL146 eL150)
  (try dsimp only)<;>(exact tb_lvs (t:=(tabOf root h l blk every bits)) eD hX rfl)
 have c5k:=c5
 try simp only [qcA,qcC,qcB] at c5
 refine .exit (.xcode (.xlp (.xblk (.code (.seq ?_)))))
 obtain rfl:k=ps.length:=by omega
 rw [lps] at eO eI eD
 refine Wk.draw (mc:=⟨false,false⟩) [0,1,2,4,5,3,6,7,8] Fx.mix (by kernel_rfl) ?_
 refine lA rfl .no Fx.ag23 (.u rfl) (fun _=>(hbb4.rdn (m:=32) (cs':=_) (by first|exact ba_all|exact app_l|exact app_r)).rd) (fun _=>(ba_len _ _)) ?_
 refine lA rfl .no Fx.ag26 (.u rfl) (fun _=>(hbb5.rdn (m:=5) (cs':=h.cells) (rfl)).rd) (fun _=>rfl) ?_
 refine mV rfl rfl (fa rfl .no Fx.fo28_2 (.u rfl) (ld rfl .no Fx.ag3 (.u rfl) (fun _=>(hbb7.rd (by rfl)).rd) ?_))
 refine kc rfl Fx.go50 (Evc rfl Evn) (users_ok hl l _ hs (by omega)) ?_
 rintro _ G166 μ166 hG166 ⟨h166,US,eUS,rfl,rfl,hs166⟩
 have lcm:=cmp_len (l.map (·.user)); rw [← eUS,List.length_map] at lcm
 have hs:=hs.mono hG166
 have hR:=hR.mono hG166
 have hbb4:=hbb4.mono hG166
 have hbb5:=hbb5.mono hG166
 refine kc rfl Fx.go49 (Evc rfl (Evc rfl Evn)) (Ct.frzB (rMake_ok h166 US bits _ hs166 (by omega) (by rw [eUS]; exact usr_sz hli))) ?_
 rintro _ G169 μ169 hG169 ⟨h169,L169,eL169,rfl,rfl,hs169⟩
 have lM:L169.length≤2500:=by rw [eL169,makeB_len]; have h3:=perB_le bits; have h4:US.length*perB bits≤300*64:=Nat.mul_le_mul (by omega) h3.2; omega
 have hs:=hs.mono hG169
 have hR:=hR.mono hG169
 have hbb4:=hbb4.mono hG169
 have hbb5:=hbb5.mono hG169
 refine kc rfl Fx.go44 (Evc rfl (Evc rfl (Evc rfl (Evc rfl Evn)))) (Ct.frzB (r17seal_ok root h 1 L169 h169 _ hs169 hR (by omega) (by omega))) ?_
 rintro _ G170 μ170 hG170 ⟨h170,L170,eL170,rfl,rfl,hs170⟩
 have lL170:L170.length=L169.length+16:=by rw [eL170,seal_len]
 have eF:=rb_filt (root:=root) (h:=h) (blk:=blk) (every:=every) (X:=L170) (by rw [eL169,eUS]) eL170
 have hs:=hs.mono hG170
 have hR:=hR.mono hG170
 have hbb4:=hbb4.mono hG170
 have hbb5:=hbb5.mono hG170
 refine aS rfl rfl (.nil (.code (.seq (rq5 rfl rfl (mV rfl rfl (mV rfl rfl (kc rfl Fx.go47 (Evc rfl Evn) (Ct.frzB (r17row_ok L170 h170 _ hs170 hR (by omega))) ?_)))))))
 rintro _ G173 μ173 hG173 ⟨h173,L173,eL173,rfl,rfl,hs173⟩
 have lL173:=row_bd eL173 (by omega)
 have hs:=hs.mono hG173
 have hR:=hR.mono hG173
 have hbb4:=hbb4.mono hG173
 have hbb5:=hbb5.mono hG173
 have hs170:=hs170.mono hG173
 refine apY rfl Fx.se34 Fx.zv5 (.u rfl) (.u rfl) tk1 hs173.sc (by (try simp only [qlA,yl_len]); omega) ?_
 intro v174 L174 ov174 eL174
 have lL174:L174.length=I.length+L173.length:=by rw [eL174,List.length_append]
 refine aS rfl rfl (.nil (.code (.seq ?_)))
 refine wk_fb .here (by first|(intro b hb; cases hb; done) | simp [keys,Res.keys]) ?_; intro GfR88 hR88 hleR88 evR88 hsR88; subst evR88
 have hs:=hs.mono hleR88
 have hR:=hR.mono hleR88
 have hbb4:=hbb4.mono hleR88
 have hbb5:=hbb5.mono hleR88
 have hs170:=hs170.mono hleR88
 refine rq5 rfl rfl (lA rfl .no Fx.ag23 (.u rfl) (fun _=>(hbb4.rdn (m:=32) (cs':=_) (by first|exact ba_all|exact app_l|exact app_r)).rd) (fun _=>(ba_len _ _)) ?_)
 refine lA rfl .no Fx.ag26 (.u rfl) (fun _=>(hbb5.rdn (m:=5) (cs':=h.cells) (rfl)).rd) (fun _=>rfl) ?_
 refine mV rfl rfl (kc rfl Fx.go44 (Evc rfl (Evc rfl (Evc rfl (Evc rfl Evn)))) (Ct.frzB (r17seal_ok root h 0 L174 hR88 _ hsR88 hR (by omega) (by omega))) ?_)
 rintro _ G178 μ178 hG178 ⟨h178,L178,eL178,rfl,rfl,hs178⟩
 have lL178:L178.length=L174.length+16:=by rw [eL178,seal_len]
 have eS:=tb_sidx (root:=root) (h:=h) (every:=every) (bits:=bits) (X:=L178) (rb_idx eI eF eL173 eL174) eL178
 have hs:=hs.mono hG178
 have hR:=hR.mono hG178
 have hbb5:=hbb5.mono hG178
 have hs170:=hs170.mono hG178
 refine aS rfl rfl (.nil (.code (.seq (rq8 rfl rfl (mV rfl rfl (mV rfl rfl (kv rfl .no Fx.go48 (Evc rfl Evn) (fun _=>rLeaf_ok L170 h170 _ hs170 hR (by omega)) ?_)))))))
 refine mV rfl rfl (kv rfl .no Fx.go48 (Evc rfl Evn) (fun _=>rLeaf_ok L178 h178 _ hs178 hR (by omega)) ?_)
 refine b2 rfl Fx.se68 Fx.zw23 (.u rfl) (.u rfl) rfl rfl (ba_len _ _) (ba_len _ _) (by decide) ?_; intro b184
 refine apSm (xs:=D) [leafD L170,leafD L178] 2 rfl (by simp only [List.flatMap_cons,List.flatMap_nil,List.append_nil]) rfl Fx.se68 Fx.zw23 rfl (.u rfl) (.u rfl) tk1 .here (fun _ _=>ba_len _ _) (one_app (ba_one _ _) (ba_one _ _)) (by omega) (by unfold maxLen; omega) ?_; intro v185 ov185
 refine aS rfl rfl (.nil (.code (.seq (rq4 rfl rfl (mV rfl rfl (mV rfl rfl (apY rfl Fx.se34 Fx.zv5 (.u rfl) (.u rfl) tk2 hs170.sc (by (try simp only [qlA,yl_len]); omega) ?_)))))))
 intro v188 L188 ov188 eL188
 have lL188:L188.length=O.length+L170.length:=by rw [eL188,List.length_append]
 refine aS rfl rfl (.nil (.code (.seq (rq4 rfl rfl (mV rfl rfl (mV rfl rfl (apY rfl Fx.se34 Fx.zv5 (.u rfl) (.u rfl) .here hs178.sc (by (try simp only [qlA,yl_len]); omega) ?_)))))))
 intro v191 L191 ov191 eL191
 have lL191:L191.length=L188.length+L178.length:=by rw [eL191,List.length_append]
 refine aS rfl rfl (.nil (.code (.seq (rq7 rfl rfl (mV rfl rfl (mV rfl rfl (ln rfl .no Fx.sn34 (.u rfl) (ci rfl .no rfl Fx.cv3_24 (.u rfl) ?_))))))))
 refine kc rfl Fx.go51 (Evc rfl (Evc rfl Evn)) (Ct.frzB (fFix_ok _ 8 _ (by decide))) ?_
 rintro _ G196 μ196 hG196 ⟨h196,L196,eL196,rfl,rfl,hs196⟩
 have lL196:L196.length=8:=by rw [eL196]; exact fix_len _ _
 have hs:=hs.mono hG196
 have hR:=hR.mono hG196
 have hbb5:=hbb5.mono hG196
 refine apY rfl Fx.se34 Fx.zv5 (.u rfl) (.u rfl) .here hs196.sc (by (try simp only [qlA,yl_len]); omega) ?_
 intro v197 L197 ov197 eL197
 have lL197:L197.length=L191.length+L196.length:=by rw [eL197,List.length_append]
 refine aS rfl rfl (.nil (.code (.seq (.seq (rq3 rfl rfl (mV rfl rfl (lr rfl .no Fx.sn34 (.u rfl) .here ?_)))))))
 refine cp rfl .no (.u rfl) (.u rfl) rfl (.nil (.code (.cond rfl (fun c10=>?_) (fun c10=>?_))))
 ·have c10k:=c10
  exfalso; simp only [decide_eq_true_eq,gt_iff_lt] at c10; omega
 have c10k:=c10
 try simp only [qcA,qcC,qcB] at c10
 refine .skip (.code (.seq ?_))
 refine wk_fs tk1 (fun _ _=>rfl) (by intro b hb; cases hb) ?_; intro GfRD hRD hleRD evRD hsRD; subst evRD
 have hs:=hs.mono hleRD
 have hR:=hR.mono hleRD
 have hbb5:=hbb5.mono hleRD
 refine wk_fb .here (by first|(intro b hb; cases hb; done) | simp [keys,Res.keys]) ?_; intro GfR84 hR84 hleR84 evR84 hsR84; subst evR84
 have hs:=hs.mono hleR84
 have hR:=hR.mono hleR84
 have hbb5:=hbb5.mono hleR84
 have hsRD:=hsRD.mono hleR84
 refine Wk.mixp ⟨true,false⟩ Fx.mix (by kernel_rfl) ?_
 refine Wp.one 0 (by kernel_rfl) ?_
 refine mV rfl rfl (.nil (Wp.one 1 (by kernel_rfl) ?_))
 refine fa rfl .no Fx.fo26_1 (.u rfl) (.nil (Wp.one 3 (by kernel_rfl) ?_))
 refine fa rfl .no Fx.fo26_2 (.u rfl) (.nil (Wp.one 5 (by kernel_rfl) ?_))
 refine fa rfl .no Fx.fo26_3 (.u rfl) (.nil (Wp.one 7 (by kernel_rfl) ?_))
 refine fa rfl .no Fx.fo26_4 (.u rfl) (.nil (Wp.one 9 (by kernel_rfl) ?_))
 refine mV rfl rfl (.nil (Wp.one 11 (by kernel_rfl) ?_))
 refine mV rfl rfl (.nil (Wp.one 13 (by kernel_rfl) ?_))
 refine mV rfl rfl (.nil (Wp.one 14 (by kernel_rfl) ?_))
 obtain ⟨x,ex⟩:=getx (k:=0) (xs:=l) (by omega)
 obtain ⟨y,ey⟩:=getx (k:=l.length-1) (xs:=l) (by omega)
 refine ih rfl .no Fx.se31 (.u rfl) (.u rfl) (fun _=>by omega) (fun _=>by omega) (fun _=>hs.nn (k:=0) (by first|omega|(simp only [Bool.and_eq_true,decide_eq_true_eq] at hc; omega)|(simp only [List.length_cons,List.length_nil]; omega))) ?_
 refine .nil (Wp.one 15 (by kernel_rfl) ?_)
 refine fa rfl .no Fx.fo47_0 (.u rfl) (.nil (Wp.one 17 (by kernel_rfl) ?_))
 refine mV rfl rfl (.nil (Wp.one 18 (by kernel_rfl) ?_))
 refine mV rfl rfl (.nil (Wp.one 24 (by kernel_rfl) ?_))
 refine mV rfl rfl (.nil (Wp.pr 2 (by kernel_rfl) ?_))
 refine ld rfl .no Fx.ag5 (.u rfl) (fun _=>(hbb5.rd (by rfl)).rd) ?_
 refine .nil ⟨⟨rfl,rfl⟩,?_⟩
 refine Wp.pr 4 (by kernel_rfl) ?_
 refine ld rfl .no Fx.ag24 (.u rfl) (fun _=>(hbb5.rd (by rfl)).rd) ?_
 refine .nil ⟨⟨rfl,rfl⟩,?_⟩
 refine Wp.pr 6 (by kernel_rfl) ?_
 refine ld rfl .no Fx.ag24 (.u rfl) (fun _=>(hbb5.rd (by rfl)).rd) ?_
 refine .nil ⟨⟨rfl,rfl⟩,?_⟩
 refine Wp.pr 8 (by kernel_rfl) ?_
 refine ld rfl .no Fx.ag24 (.u rfl) (fun _=>(hbb5.rd (by rfl)).rd) ?_
 refine .nil ⟨⟨rfl,rfl⟩,?_⟩
 refine Wp.pr 10 (by kernel_rfl) ?_
 refine ln rfl .no Fx.sn34 (.u rfl) (.nil ⟨⟨rfl,rfl⟩,?_⟩)
 refine Wp.pr 12 (by kernel_rfl) ?_
 refine ln rfl .no Fx.sn31 (.u rfl) (.nil ⟨⟨rfl,rfl⟩,?_⟩)
 refine Wp.pr 16 (by kernel_rfl) ?_
 refine ld rfl .no Fx.ag9 (.u rfl) (fun _=>(hs.at (by decide) ex 0 _ rfl).rd) (.nil ⟨⟨rfl,rfl⟩,?_⟩)
 refine Wp.pr 19 (by kernel_rfl) ?_
 refine ln rfl .no Fx.sn31 (.u rfl) (.nil ⟨⟨rfl,rfl⟩,?_⟩)
 refine Wp.one 20 (by kernel_rfl) ?_
 refine ar rfl .no (.u rfl) (.u rfl) rfl (fun _=>wrap_i64 (by omega) (by omega)) ?_
 refine .nil (Wp.one 21 (by kernel_rfl) ?_)
 refine ih rfl .no Fx.se31 (.u rfl) (.u rfl) (fun _=>by omega) (fun _=>by omega) (fun _=>hs.nn (k:=((((l.length:Nat):Int)-(1:Int))).toNat) (by first|omega|(simp only [Bool.and_eq_true,decide_eq_true_eq] at hc; omega)|(simp only [List.length_cons,List.length_nil]; omega))) ?_
 refine .nil (Wp.one 22 (by kernel_rfl) ?_)
 refine fa rfl .no Fx.fo47_0 (.u rfl) (.nil (Wp.pr 23 (by kernel_rfl) ?_))
 refine ld rfl .no Fx.ag9 (.u rfl) (fun _=>(hs.at (by omega) ey 0 _ rfl).rd) ?_
 refine .nil ⟨⟨rfl,rfl⟩,?_⟩
 refine Wp.b1 25 (by kernel_rfl) ?_
 refine kv rfl .no Fx.go52 (Evc rfl Evn) (fun _=>rrRoot_ok (D++[leafD L170,leafD L178]) hRD _ hsRD hR (by rw [List.length_append]; simp only [List.length_cons,List.length_nil]; omega)) ?_
 refine .nil (Wp.one 26 (by kernel_rfl) ?_)
 refine bCe (([V h.level,uv .u64 h.gen,uv .u64 h.epoch,uv .u64 h.num,.int .i64 (L197.length:Int),.int .i64 (l.length:Int),.string x.user,.string y.user]++ba 32 (rootD (D++[leafD L170,leafD L178])))) rfl .no Fx.bp36_0_1_2_3_4_5_6_7_8 (.cons (.u rfl) rfl (.cons (.u rfl) rfl (.cons (.u rfl) rfl (.cons (.u rfl) rfl (.cons (.u rfl) rfl (.cons (.u rfl) rfl (.cons (.u rfl) rfl (.cons (.u rfl) rfl (.cons (.u rfl) rfl .nil))))))))) rfl (rfl) (.nil (Wp.one 27 (by kernel_rfl) ?_))
 refine aS rfl rfl (.nil (Wp.b1 28 (by kernel_rfl) ?_))
 refine sw rfl (.u rfl) (.u rfl) rfl Fx.sz36 tk2 rfl (mone rfl rfl rfl rfl rfl rfl rfl rfl) ?_
 refine .nil (Wp.one 29 (by kernel_rfl) ?_)
 refine aS rfl rfl (.nil (Wp.last (by kernel_rfl) ?_))
 refine .code (.ret (We.fin0 Tryz.results9 (.tmp rfl (.cell rfl (fun w hw=>run_loadVarN Fx.ag36 (RdN.own .here) ((by first|exact mt_len|exact Meta.len _)) hw) (.tmp rfl .nil))) ?_))
 have eB:=rb_bytes (root:=root) (h:=h) (every:=every) (bits:=bits) eO eF eS eL188 eL191 rfl eL196 eL197
 refine ⟨hR84,L197,(tabOf root h l blk every bits).info,0,.inr ⟨hnb,eB,rfl,rfl⟩,rfl,?_,hsR84⟩
 have eM:=tb_info eB eD eF eS (D1:=D++[leafD L170]) rfl (D2:=D++[leafD L170,leafD L178]) (by rw [List.append_assoc]; rfl) ex ey
 exact congrArg (fun z=>Value.tuple #[hR84.val L197.length,.agg (List.toArray z),.int .i64 0]) eM
namespace Fx
theorem go6:goFn Tryz.prog 6=true:=by kernel_rfl
theorem go7:goFn Tryz.prog 7=true:=by kernel_rfl
theorem fo30_0:fOff Tryz.prog 30 0=some 0:=by kernel_rfl
theorem fo30_1:fOff Tryz.prog 30 1=some 32:=by kernel_rfl
theorem fo30_2:fOff Tryz.prog 30 2=some 37:=by kernel_rfl
theorem ag28:aggN Tryz.prog 28=some (some 3):=by kernel_rfl
theorem go9:goFn Tryz.prog 9=true:=by kernel_rfl
theorem eqt36:eqT Tryz.prog 4 36 (metaKs)=true:=by kernel_rfl
theorem go11:goFn Tryz.prog 11=true:=by kernel_rfl
end Fx
set_option maxHeartbeats 2000000 in
theorem TableBuilds_ok (root:Nat→Y) (h:Hd) (l:List Ent) (hl:Sh) (blk every bits:Int) (G:PM) (hs:SlR G 4 Ent.cells hl l) (hK:RdNP G 1 0 (wa 64 kW)) (hR:RdNP G 0 0 (wa 64 kW)):Ct Tryz.prog 3 ([.agg (ba 32 root++ofT h blk every bits).toArray,hl.val l.length]:List Value).toArray G [] (fun _ μ' u=>μ'=[]∧u=.bool true):=by
 refine Ct.of Tryz.func3 rfl Tryz.ntmps3 rfl fun w0 hs0=>?_
 refine .seq (rq2 rfl rfl ?_)
 refine bx rfl (.u rfl) rfl ?_; intro b2
 refine aS rfl rfl (.nil (.code (.seq (rq2 rfl rfl (kv rfl .no Fx.go6 Evn (fun _=>shown17_ok _ hK) ?_)))))
 refine aS rfl rfl (.nil (.code (.seq (.seq (rq3 rfl rfl (mV rfl rfl (kv rfl .no Fx.go7 (Evc rfl Evn) (fun _=>light17_ok hl l _ hs) ?_)))))))
 refine nt rfl .no (.u rfl) (.nil (.code (.cond rfl (fun c1=>?_) (fun c1=>?_))))
 ·have c1k:=c1
  try simp only [qcA,qcC,qcB] at c1
  refine .seq (rq2 rfl rfl (mV rfl rfl (aS rfl rfl (.nil (.code (.ret (We.fin0 Tryz.results3 (.tmp rfl .nil) ?_)))))))
  exact ⟨rfl,rfl⟩
 have c1k:=c1
 try simp only [qcA,qcC,qcB] at c1
 refine .skip (.code (.seq ?_))
 have hli:lightE l:=B_iff.1 (by simpa using c1k)
 have hl1:=hli.1
 refine Wk.rg [0,1,2,3,4,5,6,7,8,9,10,11,12,13,14,15] rfl rfl (fz rfl .no Fx.fo30_0 (.u rfl) (lA rfl .no Fx.ag23 (.u rfl) (fun _=>RdN.part (n:=32) (cs':=ba 32 root) .here (app_l)) (fun _=>(ba_len _ _)) ?_))
 refine fz rfl .no Fx.fo30_1 (.u rfl) (lA rfl .no Fx.ag26 (.u rfl) (fun _=>RdN.part (n:=5) (cs':=[V h.kind,V h.level,uv .u64 h.gen,uv .u64 h.epoch,uv .u64 h.num]) .here (of_h)) (fun _=>rfl) ?_)
 refine mV rfl rfl (fz rfl .no Fx.fo30_2 (.u rfl) (lA rfl .no Fx.ag28 (.u rfl) (fun _=>RdN.part (n:=3) (cs':=[.int .i64 blk,.int .i64 every,.int .i64 bits]) .here (of_s)) (fun _=>rfl) (kc rfl Fx.go8 (Evc rfl (Evc rfl (Evc rfl (Evc rfl Evn)))) (tBuild_ok root h l hl blk every bits _ hs hli hK) ?_)))
 rintro _ G25 μ25 hG25 ⟨h25,L25,m25,er25,hB25,rfl,rfl,hs25⟩
 have hs:=hs.mono hG25
 have hR:=hR.mono hG25
 refine mV rfl rfl (ex rfl .no (.u rfl) rfl (ex rfl .no (.u rfl) rfl (ex rfl .no (.u rfl) rfl ?_)))
 refine al rfl Fx.zq36 ?_; intro b7
 refine aS rfl rfl (sw rfl (.u rfl) (.u rfl) rfl Fx.sz36 .here rfl (Meta.one _) ?_)
 refine aS rfl rfl (.nil (.code (.seq (Wk.rg [0,1,2,3,4,5,6,7,8,9,10,11,12,13,14,15] rfl rfl (fz rfl .no Fx.fo30_0 (.u rfl) (lA rfl .no Fx.ag23 (.u rfl) (fun _=>RdN.part (n:=32) (cs':=ba 32 root) tk1 (app_l)) (fun _=>(ba_len _ _)) ?_))))))
 refine fz rfl .no Fx.fo30_1 (.u rfl) (lA rfl .no Fx.ag26 (.u rfl) (fun _=>RdN.part (n:=5) (cs':=[V h.kind,V h.level,uv .u64 h.gen,uv .u64 h.epoch,uv .u64 h.num]) tk1 (of_h)) (fun _=>rfl) ?_)
 refine mV rfl rfl (fz rfl .no Fx.fo30_2 (.u rfl) (lA rfl .no Fx.ag28 (.u rfl) (fun _=>RdN.part (n:=3) (cs':=[.int .i64 blk,.int .i64 every,.int .i64 bits]) tk1 (of_s)) (fun _=>rfl) (kc rfl Fx.go9 (Evc rfl (Evc rfl (Evc rfl (Evc rfl Evn)))) (r17Build_ok root h l hl blk every bits _ hs hli hR) ?_)))
 rintro _ G37 μ37 hG37 ⟨h37,L37,m37,er37,hB37,rfl,rfl,hs37⟩
 have hs25:=hs25.mono hG37
 refine mV rfl rfl (ex rfl .no (.u rfl) rfl (ex rfl .no (.u rfl) rfl (ex rfl .no (.u rfl) rfl ?_)))
 refine al rfl Fx.zq36 ?_; intro b10
 refine aS rfl rfl (sw rfl (.u rfl) (.u rfl) rfl Fx.sz36 .here rfl (Meta.one _) ?_)
 refine aS rfl rfl (.nil (.code (.seq ?_)))
 obtain ⟨rfl,rfl,rfl⟩:=build_eq hB25 hB37
 have hw9:=build_wf hB25 hli
 refine Wk.draw (mc:=⟨false,false⟩) [0,1,2,3,4,5,6,7,8,9,10,11,12,13,14,15,16,17,18,19,21,20,22,23,24,25] Fx.mix (by kernel_rfl) ?_
 refine mV rfl rfl (mV rfl rfl (mv rfl (.t rfl rfl) (.u rfl) (sB rfl (.t rfl rfl) Fx.bs34_9 (.u rfl) (fun _=>hs25.sc) ?_)))
 refine mv rfl (.t rfl rfl) (.u rfl) (sB rfl (.t rfl rfl) Fx.bs34_9 (.u rfl) (fun _=>hs37.sc) ?_)
 refine cb rfl (.t rfl rfl) (.u rfl) (.u rfl) ?_
 refine wo_b true (decide_eq_true rfl) ?_
 refine pkA rfl .no (.u rfl) (.u rfl) (mV rfl rfl (lA rfl (.t rfl rfl) Fx.ag36 (.u rfl) (fun _=>RdN.part (n:=40) (cs':=m25.cells) tk1 (rfl)) (fun _=>(Meta.len _)) ?_))
 refine lA rfl (.t rfl rfl) Fx.ag36 (.u rfl) (fun _=>RdN.part (n:=40) (cs':=m25.cells) .here (rfl)) (fun _=>(Meta.len _)) ?_
 refine eqC (true) rfl (.t rfl rfl) Fx.eqt36 (.u rfl) (.u rfl) (fun _=>meta_conf hw9) (fun _=>meta_conf hw9) (fun _=>⟨fun _=>rfl,fun _=>rfl⟩) ?_
 refine pkA rfl .no (.u rfl) (.u rfl) (mV rfl rfl (mv rfl (.t rfl rfl) (.u rfl) (mv rfl (.t rfl rfl) (.u rfl) (cp rfl (.t rfl rfl) (.u rfl) (.u rfl) rfl (wo_b true (beq_self_eq_true _) ?_)))))
 refine pkA rfl .no (.u rfl) (.u rfl) (mV rfl rfl (lA rfl (.t rfl rfl) Fx.ag36 (.u rfl) (fun _=>RdN.part (n:=40) (cs':=m25.cells) tk1 (rfl)) (fun _=>(Meta.len _)) ?_))
 refine lA rfl (.t rfl rfl) Fx.ag36 (.u rfl) (fun _=>RdN.part (n:=40) (cs':=m25.cells) tk1 (rfl)) (fun _=>(Meta.len _)) ?_
 refine kv rfl (.t rfl rfl) Fx.go10 (Evc rfl Evn) (fun _=>tHead_ok m25 _ hw9) ?_
 refine kv rfl (.t rfl rfl) Fx.go11 (Evc rfl Evn) (fun _=>r17Head_ok m25 _ hw9) ?_
 refine eqC (true) rfl (.t rfl rfl) Fx.eqt26 (.u rfl) (.u rfl) (fun _=>hd_conf _) (fun _=>hd_conf _) (fun _=>⟨fun _=>rfl,fun _=>rfl⟩) ?_
 refine pkA rfl .no (.u rfl) (.u rfl) (aS rfl rfl (.nil (.code (.ret (We.fin0 Tryz.results3 (.tmp rfl .nil) ?_)))))
 exact ⟨rfl,rfl⟩
end Go.Proofs.YtbdnclpopappeaaGreatDoor
