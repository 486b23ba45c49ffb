/- Lemmas and contracts of functions, joined. -/
import Derived.Test.YtdeobooblmjlfaaGreatDoorMb2
import Derived.Laws.CopyRow
import Derived.Lib.AppendStr
import Derived.Laws.IdiomStrings
set_option linter.unusedSimpArgs false
set_option linter.unusedVariables false
set_option linter.unusedSectionVars false
namespace Go.Proofs.YtdeobooblmjlfaaGreatDoor
open Go.Tan Go.RowKit
namespace Fx
theorem fo28_0:fOff Tryz.prog 28 0=some 0:=by kernel_rfl
theorem fo28_1:fOff Tryz.prog 28 1=some 1:=by kernel_rfl
theorem fo28_2:fOff Tryz.prog 28 2=some 2:=by kernel_rfl
theorem ag26:aggN Tryz.prog 26=some none:=by kernel_rfl
theorem zq93:zrL Tryz.prog 93=some (ba 12 (fun _=>0#8)):=by kernel_rfl
theorem sz93:szT Tryz.prog 93=some 12:=by kernel_rfl
theorem fo28_3:fOff Tryz.prog 28 3=some 3:=by kernel_rfl
theorem fo28_4:fOff Tryz.prog 28 4=some 4:=by kernel_rfl
theorem bp76_0_1_2:bPl Tryz.prog 76 [0,1,2]=some ([.int .u64 0,.int .u64 0,.int .u64 0],[(0,1),(1,1),(2,1)]):=by kernel_rfl
theorem ar76:arE Tryz.prog 76=some (3,26,1):=by kernel_rfl
end Fx
theorem nRight_ok (h:Hd) (G:PM):Ct Tryz.prog 72 ([.agg ([V h.kind,V h.level,uv .u64 h.gen,uv .u64 h.epoch,uv .u64 h.num]:List Value).toArray]:List Value).toArray G [] (fun _ μ' u=>μ'=[]∧u=.bool h.right):=by
 refine Ct.of Tryz.func72 rfl Tryz.ntmps72 rfl fun w0 hs0=>?_
 refine .seq (rq2 rfl rfl ?_)
 refine bx rfl (.u rfl) rfl ?_; intro b1
 refine aS rfl rfl (.nil (.code (.seq (.seq (rq2 rfl rfl (fz rfl .no Fx.fo28_0 (.u rfl) (ld rfl .no Fx.ag5 (.u rfl) (fun _=>Rd.own .here (by first|exact wap_f rfl|rfl)) ?_)))))))
 refine .nil (.code (.block (.seq (rq2 rfl rfl (cp rfl .no (.u rfl) (.u rfl) rfl (aS rfl rfl (.nil (.code (.cond rfl (fun c1=>?_) (fun c1=>?_))))))))))
 ·have c1k:=c1
  try simp only [qcA,qcB] at c1
  refine .seq (rq4 rfl rfl (fz rfl .no Fx.fo28_1 (.u rfl) (ld rfl .no Fx.ag5 (.u rfl) (fun _=>Rd.own .here (by first|exact wap_f rfl|rfl)) ?_)))
  refine cp rfl .no (.u rfl) (.u rfl) rfl (aS rfl rfl (.nil (.code (.ret (We.fin0 Tryz.results72 (.tmp rfl .nil) ?_)))))
  exact ⟨rfl,congrArg Value.bool (Hd.right2 c1).symm⟩
 have c1k:=c1
 try simp only [qcA,qcB] at c1
 refine .seq (.seq (rq2 rfl rfl (cp rfl .no (.u rfl) (.u rfl) rfl (aS rfl rfl (.nil (.code (.cond rfl (fun c2=>?_) (fun c2=>?_))))))))
 ·have c2k:=c2
  try simp only [qcA,qcB] at c2
  refine .skip (.code (Wk.condT rfl c2k ?_))
  refine .seq (rq9 rfl rfl (fz rfl .no Fx.fo28_1 (.u rfl) (ld rfl .no Fx.ag5 (.u rfl) (fun _=>Rd.own .here (by first|exact wap_f rfl|rfl)) ?_)))
  refine cp rfl .no (.u rfl) (.u rfl) rfl (mV rfl rfl (fz rfl (.t rfl rfl) Fx.fo28_2 (.u rfl) (ld rfl (.t rfl rfl) Fx.ag26 (.s rfl) (fun hc=>Rd.own .here (by first|exact wap_f rfl|rfl)) ?_)))
  refine cp rfl (.t rfl rfl) (.s rfl) (.u rfl) rfl (pkA rfl .no (.u rfl) (.s rfl) (aS rfl rfl (.nil (.code (.ret (We.fin0 Tryz.results72 (.tmp rfl .nil) ?_))))))
  exact ⟨rfl,congrArg Value.bool (Hd.right1 c2).symm⟩
 have c2k:=c2
 try simp only [qcA,qcB] at c2
 refine rq2 rfl rfl (cp rfl .no (.u rfl) (.u rfl) rfl (aS rfl rfl (.nil (.code (.cond rfl (fun c3=>?_) (fun c3=>?_))))))
 ·have c3k:=c3
  try simp only [qcA,qcB] at c3
  refine .seq (rq9 rfl rfl (fz rfl .no Fx.fo28_1 (.u rfl) (ld rfl .no Fx.ag5 (.u rfl) (fun _=>Rd.own .here (by first|exact wap_f rfl|rfl)) ?_)))
  refine cp rfl .no (.u rfl) (.u rfl) rfl (mV rfl rfl (fz rfl (.t rfl rfl) Fx.fo28_2 (.u rfl) (ld rfl (.t rfl rfl) Fx.ag26 (.s rfl) (fun hc=>Rd.own .here (by first|exact wap_f rfl|rfl)) ?_)))
  refine cp rfl (.t rfl rfl) (.s rfl) (.u rfl) rfl (pkA rfl .no (.u rfl) (.s rfl) (aS rfl rfl (.nil (.code (.ret (We.fin0 Tryz.results72 (.tmp rfl .nil) ?_))))))
  exact ⟨rfl,congrArg Value.bool (Hd.right3 c3).symm⟩
 have c3k:=c3
 try simp only [qcA,qcB] at c3
 refine .skip (.blk (.code (.seq (rq1 rfl rfl (aS rfl rfl (.nil (.code (.ret (We.fin0 Tryz.results72 (.tmp rfl .nil) ?_)))))))))
 exact ⟨rfl,congrArg Value.bool (Hd.right0 c2 c1 c3).symm⟩
theorem Nonce_ok (n:BitVec 64) (G:PM):Ct Tryz.prog 68 ([uv .u64 n]:List Value).toArray G [] (fun _ μ' u=>μ'=[]∧u=.agg (ba 12 (nonceF n)).toArray):=by
 refine Ct.of Tryz.func68 rfl Tryz.ntmps68 rfl fun w0 hs0=>?_
 refine .seq (rq1 rfl rfl ?_)
 refine al rfl Fx.zq93 ?_; intro b2
 refine .nil (.code (.seq (rq1 rfl rfl ?_)))
 refine al rfl Fx.zq93 ?_; intro b3
 refine .nil (.code (.seq (.seq (rq1 rfl rfl (mV rfl rfl (.nil (.code (.block ?_))))))))
 refine Wk.lop (α:=Nat×(Nat→Y)) (fun gh=>[(5,true,.int .i64 (gh.1:Int))]) (fun gh=>[.blk b3 (cl (ba 12 gh.2) 93)])
  (fun gh Gl=>(gh.1≤8)∧(gh.2=outs (nonceF n) gh.1)) (fun gh=>8-gh.1) (0,fun _=>0#8) [(0,true,_),(2,true,_),(3,true,_)] [_]
  (esC rfl (by first|rfl|exact evi (by omega)) (esD rfl (esD rfl (esD rfl eZ))))
  (mS .here rfl (mS .here rfl mN)) ?_ ?_
 ·refine ⟨?_,?_⟩
  ·(try dsimp only)<;>(first|omega|rfl|assumption|(simp; done))
  (try dsimp only)<;>(first|omega|rfl|assumption|(simp; done))
 intro gh N0 Gl0 hN0 hGl0 hF0
 obtain ⟨k,f⟩:=gh; dsimp only at hF0 hN0 ⊢
 obtain ⟨hk,ef⟩:=hF0
 refine .seq (rq1 rfl rfl (cp rfl .no (.u rfl) (.u rfl) rfl (.nil (.code (.seq (.cond rfl (fun c1=>?_) (fun c1=>?_)))))))
 ·have c1k:=c1
  try simp only [qcA,qcB] at c1
  refine .skip (.code (.seq (.block (.seq (rq2 rfl rfl (mV rfl rfl (aS rfl rfl (.nil (.code (rq8 rfl rfl (mV rfl rfl (mV rfl rfl (mV rfl rfl (arn (((8*k):Nat):Int) rfl .no (.u rfl) (.u rfl) rfl (fun _=>by omega) (fun _=>wrap_i64 (by omega) (by omega)) ?_))))))))))))))
  refine rw' (k:=.u64) rfl .no (.u rfl) (.u rfl) (fun _=>by omega) ?_
  refine cu (k:=.u64) rfl .no rfl Fx.cv26_5 (.u rfl) ?_
  refine iA rfl .no Fx.ar93 (.u rfl) (.u rfl) (fun _=>by omega) (fun _=>by omega) ?_
  refine s1 rfl (.u rfl) (.u rfl) rfl Fx.sz5 .here (by first|decide|(simp only [wa_len,ba_len,qlA]; omega)) (by first|exact wa_set1 (k) (by omega)|exact ba_set1 (k) (by omega)|exact wap_set1 (k) (by omega) (by omega)|rfl) ?_
  refine .nil (.blk (.code (rq2 rfl rfl (arn (((k+1):Nat):Int) rfl .no (.u rfl) (.u rfl) rfl (fun _=>by omega) (fun _=>wrap_i64 (by omega) (by omega)) ?_))))
  refine mV rfl rfl (.nil (We.lpo (k+1,upd f k ((n >>> (8*k)).setWidth 8)) ?_ ?_ ?_ ?_ ?_))
  ·exact (esC rfl (by first|rfl|exact evi (by omega)) (esD rfl (esD rfl (esD rfl eZ))))
  ·exact (mS .here rfl (mS .here rfl mN))
  ·first|omega|(dsimp only; omega)
  ·exact hGl0
  refine ⟨?_,?_⟩
  ·(try dsimp only)<;>(first|omega|rfl|assumption|(simp; done))
  (try dsimp only)<;>(exact outs_step1 ef (by unfold nonceF; rw [if_pos (by omega)]))
 have c1k:=c1
 try simp only [qcA,qcB] at c1
 refine .exit (.xcode (.xlp (.xblk (.code (.seq (rq2 rfl rfl (lA rfl .no Fx.ag93 (.u rfl) (fun _=>RdN.own .here) (fun _=>(by first|exact qE|exact qL|rfl)) ?_)))))))
 refine sw rfl (.u rfl) (.u rfl) rfl Fx.sz93 tk1 (by first|exact qE|exact qL|rfl) (by first|exact ba_one _ _|exact wa_one _ _|exact one_V _|decide|exact one_app (wa_one _ _) (by simp [Value.oneCell'])) ?_
 refine .nil (.code (.ret (We.fin0 Tryz.results68 (.cell rfl (fun w hw=>run_loadVarN Fx.ag93 (RdN.own .here) ((by first|exact qE|exact qL|rfl)) hw) .nil) ?_)))
 obtain rfl:k=8:=by omega
 exact ⟨rfl,by rw [ef,ba_congr (fun i hi=>nonce_outs n hi)]; rfl⟩
theorem nLay_ok (h:Hd) (G:PM):Ct Tryz.prog 13 ([.agg ([V h.kind,V h.level,uv .u64 h.gen,uv .u64 h.epoch,uv .u64 h.num]:List Value).toArray]:List Value).toArray G [] (PR 5 (fun L=>L=headL h)):=by
 refine Ct.of Tryz.func13 rfl Tryz.ntmps13 rfl fun w0 hs0=>?_
 refine .seq (rq2 rfl rfl ?_)
 refine bx rfl (.u rfl) rfl ?_; intro b1
 refine aS rfl rfl (.nil (.code (.seq (rq9 rfl rfl ?_))))
 refine Go.Tan.bN rfl Fx.se24 Fx.zv5 (Evp.cons (.u rfl) (Evp.cons (.u rfl) (Evp.cons (.u rfl) (Evp.cons (.u rfl) Evp.nil)))) rfl (by decide) (by simp [Value.oneCell',Sh.val]) ?_; intro b6
 refine mkS [116#8,97#8,110#8,116#8] rfl rfl Fx.cst24 (.u rfl) .here rfl rfl (by decide) ?_; intro G7 hG7 hs7
 refine fz rfl .no Fx.fo28_0 (.u rfl) (ld rfl .no Fx.ag5 (.u rfl) (fun _=>Rd.own .here (by first|exact wap_f rfl|rfl)) ?_)
 refine fz rfl .no Fx.fo28_1 (.u rfl) (ld rfl .no Fx.ag5 (.u rfl) (fun _=>Rd.own .here (by first|exact wap_f rfl|rfl)) ?_)
 refine Go.Tan.bN rfl Fx.se24 Fx.zv5 (Evp.cons (.u rfl) (Evp.cons (.u rfl) Evp.nil)) rfl (by decide) (one2 rfl rfl) ?_; intro b12
 refine apF (.inr rfl) rfl Fx.se24 Fx.zv5 (.u rfl) (.u rfl) hs7 rfl (Sc.blk (ys:=[h.kind,h.level]) .here rfl rfl) (by (try simp only [List.length_cons,List.length_nil]); omega) (by (try simp only [List.length_cons,List.length_nil]); omega) (by (try simp only [List.length_cons,List.length_nil]); omega) ?_; intro v13 L13 ov13 eL13
 have lL13:L13.length=[116#8,97#8,110#8,116#8].length+2:=by rw [eL13,List.length_append]; first|rfl | simp [yl_len]
 refine aS rfl rfl (.nil (.code (.seq (.seq (rq8 rfl rfl (fz rfl .no Fx.fo28_2 (.u rfl) (ld rfl .no Fx.ag26 (.u rfl) (fun _=>Rd.own tk2 (by first|exact wap_f rfl|rfl)) ?_)))))))
 refine fz rfl .no Fx.fo28_3 (.u rfl) (ld rfl .no Fx.ag26 (.u rfl) (fun _=>Rd.own tk2 (by first|exact wap_f rfl|rfl)) ?_)
 refine fz rfl .no Fx.fo28_4 (.u rfl) (ld rfl .no Fx.ag26 (.u rfl) (fun _=>Rd.own tk2 (by first|exact wap_f rfl|rfl)) ?_)
 refine bC rfl .no Fx.bp76_0_1_2 (.cons (.u rfl) rfl (.cons (.u rfl) rfl (.cons (.u rfl) rfl .nil))) rfl ?_
 refine mV rfl rfl (.nil (.code (.block ?_)))
 refine Wk.lop (α:=Nat×Value×List Y) (fun gh=>[(3,true,gh.2.1),(21,true,.int .i64 (gh.1:Int))]) (fun gh=>[rB gh.2.1 5 gh.2.2])
  (fun gh Gl=>(gh.1≤3)∧(gh.2.2=h.some gh.1)) (fun gh=>3-gh.1) (0,_,_) [(20,true,_)] [_,_]
  (esD rfl (esC rfl (by first|rfl|exact evi (by omega)) (esD rfl eZ)))
  (mS .here rfl (mS .here rfl (mS .here rfl mN))) ?_ ?_
 ·refine ⟨?_,?_⟩
  ·(try dsimp only)<;>(first|omega|rfl|assumption|(simp; done))
  (try dsimp only)<;>(rw [eL13]; rfl)
 intro gh N0 Gl0 hN0 hGl0 hF0
 obtain ⟨k,v,L⟩:=gh; dsimp only at hF0 hN0 ⊢
 obtain ⟨hk,eL⟩:=hF0
 have lL:L.length=6+8*k:=by rw [eL,Hd.some_len]
 refine .seq (rq1 rfl rfl (cp rfl .no (.u rfl) (.u rfl) rfl (.nil (.code (.seq (.cond rfl (fun c1=>?_) (fun c1=>?_)))))))
 ·have c1k:=c1
  try simp only [qcA,qcB] at c1
  refine .skip (.code (.seq (.block (.seq (rq2 rfl rfl (ix rfl .no Fx.ar76 Fx.ag26 (.u rfl) (.u rfl) (fun _=>by omega) (fun _=>by omega) (fun _=>Hd.three_at (by omega)) ?_))))))
  refine aS rfl rfl (.nil (.code ?_))
  refine wk_fb .here (by first|(intro b hb; cases hb; done) | simp [keys,Res.keys]) ?_; intro GfR13 hR13 hleR13 evR13 hsR13; subst evR13
  refine rq4 rfl rfl (mV rfl rfl (mV rfl rfl (kc rfl Fx.go24 (Evc rfl (Evc rfl (Evc rfl Evn))) (Ct.rowc (Fix_ok L _ _ 8 _ hsR13 (by omega) (by decide))) ?_)))
  rintro v26 G26 μ26 hG26 ⟨L26,ov26,eL26,rfl⟩
  refine aS rfl rfl (.nil (.blk (.code (rq2 rfl rfl (arn (((k+1):Nat):Int) rfl .no (.u rfl) (.u rfl) rfl (fun _=>by omega) (fun _=>wrap_i64 (by omega) (by omega)) ?_)))))
  refine mV rfl rfl (.nil (We.lpo (k+1,v26,L26) ?_ ?_ ?_ ?_ ?_))
  ·exact (esD rfl (esC rfl (by first|rfl|exact evi (by omega)) (esD rfl eZ)))
  ·exact (mS .here rfl (mS .here rfl (mS .here rfl mN)))
  ·first|omega|(dsimp only; omega)
  ·exact ((hGl0).trans hleR13).trans hG26
  refine ⟨?_,?_⟩
  ·(try dsimp only)<;>(first|omega|rfl|assumption|(simp; done))
  (try dsimp only)<;>(rw [eL26,eL,Hd.some_succ]; rfl)
 have c1k:=c1
 try simp only [qcA,qcB] at c1
 refine .exit (.xcode (.xlp (.xblk (.code (.seq (rq2 rfl rfl (mV rfl rfl (aS rfl rfl (.nil (.code (.ret (We.fin Tryz.results13 (.tmp rfl .nil) (mS .here rfl mN) ?_))))))))))))
 obtain rfl:k=3:=by omega
 exact ⟨L,by rw [eL,Hd.some_all],rfl⟩
theorem rNonce_ok (n:BitVec 64) (G:PM):Ct Tryz.prog 41 ([uv .u64 n]:List Value).toArray G [] (fun _ μ' u=>μ'=[]∧u=.agg (ba 12 (nonceF n)).toArray):=by
 refine Ct.of Tryz.func41 rfl Tryz.ntmps41 rfl fun w0 hs0=>?_
 refine .seq (rq1 rfl rfl ?_)
 refine al rfl Fx.zq93 ?_; intro b2
 refine .nil (.code (.seq (rq1 rfl rfl ?_)))
 refine al rfl Fx.zq93 ?_; intro b3
 refine .nil (.code (.seq (rq3 rfl rfl (mV rfl rfl (kc rfl Fx.go51 (Evc rfl (Evc rfl Evn)) (Ct.rowc (fFix_ok _ 8 _ (by decide))) ?_)))))
 rintro v7 G7 μ7 hG7 ⟨L7,ov7,eL7,rfl⟩
 refine aS rfl rfl (.nil ?_)
 have lL7:L7.length=8:=by rw [eL7]; exact fix_len _ _
 refine .code (.seq (.seq ?_))
 refine wk_fb .here (by first|(intro b hb; cases hb; done) | simp [keys,Res.keys]) ?_; intro GfR7 hR7 hleR7 evR7 hsR7; subst evR7
 refine rq1 rfl rfl (aS rfl rfl (.nil (.code (.block ?_))))
 refine Wk.lop (α:=Nat×(Nat→Y)) (fun gh=>[(5,true,.int .i64 (gh.1:Int))]) (fun gh=>[.blk b3 (cl (ba 12 gh.2) 93)])
  (fun gh Gl=>(gh.1≤8)∧(gh.2=outs (nonceF n) gh.1)) (fun gh=>8-gh.1) (0,fun _=>0#8) [(2,true,_),(3,true,_),(4,true,_)] [_]
  (esC rfl (by first|rfl|exact evi (by omega)) (esD rfl (esD rfl (esD rfl eZ))))
  (mS .here rfl (mS .here rfl mN)) ?_ ?_
 ·refine ⟨?_,?_⟩
  ·(try dsimp only)<;>(first|omega|rfl|assumption|(simp; done))
  (try dsimp only)<;>(first|omega|rfl|assumption|(simp; done))
 intro gh N0 Gl0 hN0 hGl0 hF0
 obtain ⟨k,f⟩:=gh; dsimp only at hF0 hN0 ⊢
 obtain ⟨hk,ef⟩:=hF0
 have hsR7:=hsR7.mono hGl0
 refine .seq (.seq (rq2 rfl rfl (mV rfl rfl (cp rfl .no (.u rfl) (.u rfl) rfl (.nil (.code (.cond rfl (fun c1=>?_) (fun c1=>?_))))))))
 ·have c1k:=c1
  try simp only [qcA,qcB] at c1
  refine .skip (.code (.seq (.block (rq7 rfl rfl (mV rfl rfl (mV rfl rfl (mV rfl rfl (ih rfl .no Fx.se24 (.u rfl) (.u rfl) (fun _=>by omega) (fun _=>by omega) (fun _=>hsR7.nn (k:=k) (by omega)) ?_))))))))
  refine ld rfl .no Fx.ag5 (.u rfl) (fun _=>(hsR7.yat (k) (by omega) (by omega)).rd) ?_
  refine iA rfl .no Fx.ar93 (.u rfl) (.u rfl) (fun _=>by omega) (fun _=>by omega) ?_
  refine s1 rfl (.u rfl) (.u rfl) rfl Fx.sz5 .here (by first|decide|(simp only [wa_len,ba_len,qlA]; omega)) (by first|exact wa_set1 (k) (by omega)|exact ba_set1 (k) (by omega)|exact wap_set1 (k) (by omega) (by omega)|rfl) ?_
  refine .nil (.blk (.code (rq3 rfl rfl (mV rfl rfl (arn (((k+1):Nat):Int) rfl .no (.u rfl) (.u rfl) rfl (fun _=>by omega) (fun _=>wrap_i64 (by omega) (by omega)) ?_)))))
  refine aS rfl rfl (.nil (We.lpo (k+1,upd f k (L7.getD k 0)) ?_ ?_ ?_ ?_ ?_))
  ·exact (esC rfl (by first|rfl|exact evi (by omega)) (esD rfl (esD rfl (esD rfl eZ))))
  ·exact (mS .here rfl (mS .here rfl mN))
  ·first|omega|(dsimp only; omega)
  ·exact hGl0
  refine ⟨?_,?_⟩
  ·(try dsimp only)<;>(first|omega|rfl|assumption|(simp; done))
  (try dsimp only)<;>(exact outs_step1 ef (by rw [eL7]; exact fix_nonce (by omega)))
 have c1k:=c1
 try simp only [qcA,qcB] at c1
 refine .exit (.xcode (.xlp (.xblk (.code (.seq (rq2 rfl rfl (lA rfl .no Fx.ag93 (.u rfl) (fun _=>RdN.own .here) (fun _=>(by first|exact qE|exact qL|rfl)) ?_)))))))
 refine sw rfl (.u rfl) (.u rfl) rfl Fx.sz93 tk1 (by first|exact qE|exact qL|rfl) (by first|exact ba_one _ _|exact wa_one _ _|exact one_V _|decide|exact one_app (wa_one _ _) (by simp [Value.oneCell'])) ?_
 refine .nil (.code (.ret (We.fin0 Tryz.results41 (.cell rfl (fun w hw=>run_loadVarN Fx.ag93 (RdN.own .here) ((by first|exact qE|exact qL|rfl)) hw) .nil) ?_)))
 obtain rfl:k=8:=by omega
 exact ⟨rfl,by rw [ef,ba_congr (fun i hi=>nonce_outs n hi)]; rfl⟩
theorem rnLay_ok (h:Hd) (G:PM):Ct Tryz.prog 42 ([.agg ([V h.kind,V h.level,uv .u64 h.gen,uv .u64 h.epoch,uv .u64 h.num]:List Value).toArray]:List Value).toArray G [] (PR 5 (fun L=>L=headL h)):=by
 refine Ct.of Tryz.func42 rfl Tryz.ntmps42 rfl fun w0 hs0=>?_
 refine .seq (rq2 rfl rfl ?_)
 refine bx rfl (.u rfl) rfl ?_; intro b1
 refine aS rfl rfl (.nil (.code (.seq (rq6 rfl rfl (fz rfl .no Fx.fo28_0 (.u rfl) (ld rfl .no Fx.ag5 (.u rfl) (fun _=>Rd.own .here (by first|exact wap_f rfl|rfl)) ?_))))))
 refine fz rfl .no Fx.fo28_1 (.u rfl) (ld rfl .no Fx.ag5 (.u rfl) (fun _=>Rd.own .here (by first|exact wap_f rfl|rfl)) ?_)
 refine Go.Tan.bN rfl Fx.se24 Fx.zv5 (Evp.cons (.u rfl) (Evp.cons (.u rfl) (Evp.cons (.u rfl) (Evp.cons (.u rfl) (Evp.cons (.u rfl) (Evp.cons (.u rfl) Evp.nil)))))) rfl (by decide) (one6 rfl rfl rfl rfl rfl rfl) ?_; intro b8
 refine aS rfl rfl (.nil (.code (.seq (wk_br [116#8,97#8,110#8,116#8,h.kind,h.level] 6 .here rfl rfl (by decide) ?_))))
 have lR8:([116#8,97#8,110#8,116#8,h.kind,h.level]:List Y).length=6:=rfl
 refine rq6 rfl rfl (mV rfl rfl (fz rfl .no Fx.fo28_2 (.u rfl) (ld rfl .no Fx.ag26 (.u rfl) (fun _=>Rd.own tk1 (by first|exact wap_f rfl|rfl)) ?_)))
 refine kc rfl Fx.go51 (Evc rfl (Evc rfl Evn)) (Ct.frzB (fFix_ok _ 8 _ (by decide))) ?_
 rintro _ G12 μ12 hG12 ⟨h12,L12,eL12,rfl,rfl,hs12⟩
 have lL12:L12.length=8:=by rw [eL12]; exact fix_len _ _
 refine apY rfl Fx.se24 Fx.zv5 (.u rfl) (.u rfl) .here hs12.sc (by (try simp only [qlA,yl_len]); omega) ?_
 intro v13 L13 ov13 eL13
 have lL13:L13.length=[116#8,97#8,110#8,116#8,h.kind,h.level].length+L12.length:=by rw [eL13,List.length_append]
 refine aS rfl rfl (.nil (.code (.seq (rq6 rfl rfl (mV rfl rfl (fz rfl .no Fx.fo28_3 (.u rfl) (ld rfl .no Fx.ag26 (.u rfl) (fun _=>Rd.own tk1 (by first|exact wap_f rfl|rfl)) ?_)))))))
 refine kc rfl Fx.go51 (Evc rfl (Evc rfl Evn)) (Ct.frzB (fFix_ok _ 8 _ (by decide))) ?_
 rintro _ G17 μ17 hG17 ⟨h17,L17,eL17,rfl,rfl,hs17⟩
 have lL17:L17.length=8:=by rw [eL17]; exact fix_len _ _
 refine apY rfl Fx.se24 Fx.zv5 (.u rfl) (.u rfl) .here hs17.sc (by (try simp only [qlA,yl_len]); omega) ?_
 intro v18 L18 ov18 eL18
 have lL18:L18.length=L13.length+L17.length:=by rw [eL18,List.length_append]
 refine aS rfl rfl (.nil (.code (.seq (rq6 rfl rfl (mV rfl rfl (fz rfl .no Fx.fo28_4 (.u rfl) (ld rfl .no Fx.ag26 (.u rfl) (fun _=>Rd.own tk1 (by first|exact wap_f rfl|rfl)) ?_)))))))
 refine kc rfl Fx.go51 (Evc rfl (Evc rfl Evn)) (Ct.frzB (fFix_ok _ 8 _ (by decide))) ?_
 rintro _ G22 μ22 hG22 ⟨h22,L22,eL22,rfl,rfl,hs22⟩
 have lL22:L22.length=8:=by rw [eL22]; exact fix_len _ _
 refine apY rfl Fx.se24 Fx.zv5 (.u rfl) (.u rfl) .here hs22.sc (by (try simp only [qlA,yl_len]); omega) ?_
 intro v23 L23 ov23 eL23
 have lL23:L23.length=L18.length+L22.length:=by rw [eL23,List.length_append]
 refine aS rfl rfl (.nil (.code (.seq (rq2 rfl rfl (mV rfl rfl (aS rfl rfl (.nil (.code (.ret (We.fin Tryz.results42 (.tmp rfl .nil) (mS .here rfl mN) ?_))))))))))
 exact ⟨L23,by rw [eL23,eL18,eL13,eL12,eL17,eL22]; rfl,rfl⟩
theorem mac1_ok {G:PM} {b T:Nat} {hk h1:Sh} {key L1:List Y} (hle:PM.le G (G.add b (cl [h1.val L1.length] T))) (hsk:SlR G 1 encY hk key) (hs:SlR G 1 encY h1 L1) (hK:RdNP G 1 0 (wa 64 kW)) (hlk:key.length≤140737488351232) (hl:L1.length≤1000000000000000) :
  Ct Tryz.prog 131 ([hk.val key.length,.slice (some ⟨b,0,none⟩) 1 1]:List Value).toArray (G.add b (cl [h1.val L1.length] T)) [] (fun _ μ' u=>μ'=[]∧u=.agg (ba 32 (macL key L1)).toArray):=by
 have h:=macSum_ok key hk [(h1,L1)] ⟨some ⟨b,0,none⟩,1⟩ _ (hsk.mono hle) (SlP.one hle hs) (hK.mono hle) hlk (by simpa [catL] using hl) (by simp)
 rw [show catL [(h1,L1)]=L1 by simp [catL]] at h
 exact h
theorem Extract_ok (salt:List Y) (hk:Sh) (xs:List Y) (h:Sh) (G:PM) (hsk:SlR G 1 encY hk salt) (hs:SlR G 1 encY h xs) (hK:RdNP G 1 0 (wa 64 kW)) (hlk:salt.length≤140737488351232) (hl:xs.length≤1000000000000000):Ct Tryz.prog 107 ([hk.val salt.length,h.val xs.length]:List Value).toArray G [] (fun _ μ' u=>μ'=[]∧u=.agg (ba 32 (macL salt xs)).toArray):=by
 refine Ct.of Tryz.func107 rfl Tryz.ntmps107 rfl fun w0 hs0=>?_
 refine .seq (rq1 rfl rfl ?_)
 refine al rfl Fx.zq23 ?_; intro b4
 refine .nil (.code (.seq (rq5 rfl rfl (mV rfl rfl (mV rfl rfl ?_)))))
 refine Go.Tan.b1 rfl Fx.se54 Fx.zv24 (.u rfl) rfl rfl (by decide) ?_; intro b7
 refine kp rfl .no Fx.go131 (Evc rfl (Evc rfl Evn)) (Gp.add .here Gp.nil) (fun _ hle hq=>mac1_ok hle hsk hs hK hlk hl) ?_
 refine sw rfl (.u rfl) (.u rfl) rfl Fx.sz23 tk1 (by first|exact qE|exact qL|rfl) (by first|exact ba_one _ _|exact wa_one _ _|exact one_V _|decide|exact one_app (wa_one _ _) (by simp [Value.oneCell'])) ?_
 refine .nil (.code (.ret (We.fin0 Tryz.results107 (.cell rfl (fun w hw=>run_loadVarN Fx.ag23 (RdN.own .here) ((by first|exact qE|exact qL|rfl)) hw) .nil) ?_)))
 exact ⟨rfl,rfl⟩
theorem SlP.three {G:PM} {b T:Nat} {h1 h2 h3:Sh} {L1 L2 L3:List Y} (hle:PM.le G (G.add b (cl [h1.val L1.length,h2.val L2.length,h3.val L3.length] T))) (hs:SlR G 1 encY h1 L1) (hs2:SlR G 1 encY h2 L2) (hs3:SlR G 1 encY h3 L3) :
  SlP (G.add b (cl [h1.val L1.length,h2.val L2.length,h3.val L3.length] T)) ⟨some ⟨b,0,none⟩,3⟩ [(h1,L1),(h2,L2),(h3,L3)] :=
 ⟨SlR.ofBlk (T:=T) (PM.add_same _ _ _) (fun _ _=>rfl) (by simp),fun p hp=>by
  simp only [List.mem_cons,List.not_mem_nil,or_false] at hp
  rcases hp with rfl|rfl|rfl
  ·exact hs.mono hle
  ·exact hs2.mono hle
  ·exact hs3.mono hle⟩
theorem mac3_row {G:PM} {b c T T' E lo:Nat} {hk hu s:Sh} {key use L:List Y} {y:Y} (hsk:SlR G 1 encY hk key) (hsu:SlR G 1 encY hu use) (hK:RdNP G 1 0 (wa 64 kW)) (hlo:lo≤L.length) (hlk:key.length≤140737488351232) (hl:L.length+use.length≤100000000000000) :
  Ct Tryz.prog 131 ([hk.val key.length,.slice (some ⟨c,0,none⟩) 3 3]:List Value).toArray G [rB (s.val L.length) E L,.blk b (cl [V y] T),.blk c (cl [(s.cut lo 1).val (L.length-lo),hu.val use.length,.slice (some ⟨b,0,none⟩) 1 1] T')]
   (fun _ μ' u=>∃ ν,μ'=rB (s.val L.length) E L :: ν∧∃ ν2,ν=.blk b (cl [V y] T) :: ν2∧∃ ν3,ν2=.blk c (cl [(s.cut lo 1).val (L.length-lo),hu.val use.length,.slice (some ⟨b,0,none⟩) 1 1] T') :: ν3∧ν3=[]∧u=.agg (ba 32 (macL key (L.drop lo++use++[y]))).toArray) :=
 Ct.lendB (fun s' G2 hle hv hs=>Ct.lendK (fun h1=>Ct.lendK (fun h2=>by
  obtain rfl:=Sh.val_inj hv
  have e1:SlR G2 1 encY (s.cut lo 1) (L.drop lo):=by
   have:=hs.cutn (lo:=lo) (m:=L.length-lo) (by omega)
   rwa [List.take_of_length_le (by simp)] at this
  have e2:SlR (G2.add b (cl [V y] T)) 1 encY ⟨some ⟨b,0,none⟩,1⟩ [y]:=SlR.ofBlk (T:=T) (PM.add_same _ _ _) (fun _ _=>rfl) (by simp)
  have e3:L.length-lo=(L.drop lo).length:=by simp
  rw [e3] at h2 ⊢
  have hP:=SlP.three (h1:=s.cut lo 1) (h2:=hu) (h3:=⟨some ⟨b,0,none⟩,1⟩) h2 (e1.mono h1) ((hsu.mono hle).mono h1) e2
  have h:=macSum_ok key hk _ ⟨some ⟨c,0,none⟩,3⟩ _ (((hsk.mono hle).mono h1).mono h2) hP (((hK.mono hle).mono h1).mono h2) hlk (by simp [catL]; omega) (by simp)
  rw [show catL [((s.cut lo 1),L.drop lo),(hu,use),((⟨some ⟨b,0,none⟩,1⟩ : Sh),[y])]=L.drop lo++use++[y] by simp [catL]] at h
  exact h)))
theorem Expand_ok (key:List Y) (hk:Sh) (use:List Y) (hu:Sh) (G:PM) (hsk:SlR G 1 encY hk key) (hsu:SlR G 1 encY hu use) (hK:RdNP G 1 0 (wa 64 kW)) (hlk:key.length≤1000) (hl:use.length≤1000000):Ct Tryz.prog 108 ([hk.val key.length,hu.val use.length,.int .i64 ((64:Nat):Int)]:List Value).toArray G [] (fun G' μ' u=>∃ s L,L=expL key use 2∧μ'=[]∧u=.tuple #[s.val L.length,.int .i64 0]∧SlR G' 1 encY s L):=by
 refine Ct.of Tryz.func108 rfl Tryz.ntmps108 rfl fun w0 hs0=>?_
 refine .seq (rq2 rfl rfl (aS rfl rfl (aS rfl rfl (.nil (.code (.seq (.seq (rq6 rfl rfl (mV rfl rfl (cp rfl .no (.u rfl) (.u rfl) rfl (mV rfl rfl (mv rfl (.f rfl rfl) (.u rfl) (cp rfl (.f rfl rfl) (.s rfl) (.u rfl) rfl (pkO rfl .no (.u rfl) (.s rfl) (.nil (.code (.cond rfl (fun c1=>?_) (fun c1=>?_))))))))))))))))))
 ·have c1k:=c1
  exact absurd c1 (by decide)
 have c1k:=c1
 try simp only [qcA,qcB] at c1
 refine .skip (.code (.seq (rq4 rfl rfl (mV rfl rfl (arn (((64+32):Nat):Int) rfl .no (.u rfl) (.u rfl) rfl (fun _=>by omega) (fun _=>wrap_i64 (by omega) (by omega)) ?_)))))
 refine mkY (0) ((64+32)) rfl Fx.se24 Fx.zv5 (.u rfl) (.u rfl) (by first|rfl|omega) (by first|rfl|omega) (by omega) (by omega) ?_; intro b19
 have lR19:(List.replicate (0) (0#8:Y)).length=0:=List.length_replicate
 refine aS rfl rfl (.nil (.code (.seq (.seq (rq1 rfl rfl (aS rfl rfl (.nil (.code (.block ?_)))))))))
 refine Wk.lop (α:=Nat×Value×List Y) (fun gh=>[(8,true,gh.2.1),(9,true,V (BitVec.ofNat 8 (gh.1+1)))]) (fun gh=>[rB gh.2.1 5 gh.2.2])
  (fun gh Gl=>(gh.1≤2)∧(gh.2.2=expL key use gh.1)) (fun gh=>2-gh.1) (0,_,_) [(0,true,_),(1,true,_),(2,true,_)] []
  (esD rfl (esD rfl (esD rfl (esD rfl (esD rfl eZ)))))
  (mS .here rfl mN) ?_ ?_
 ·refine ⟨?_,?_⟩
  ·(try dsimp only)<;>(first|omega|rfl|assumption|(simp; done))
  (try dsimp only)<;>(rfl)
 intro gh N0 Gl0 hN0 hGl0 hF0
 obtain ⟨j,v,L⟩:=gh; dsimp only at hF0 hN0 ⊢
 obtain ⟨hj,eL⟩:=hF0
 have hsk:=hsk.mono hGl0
 have hsu:=hsu.mono hGl0
 have hK:=hK.mono hGl0
 have lL:L.length=32*j:=by rw [eL,exp_len]
 refine .seq (.seq (rq4 rfl rfl (mV rfl rfl (lr rfl .no Fx.sn24 (.u rfl) .here ?_))))
 refine mV rfl rfl (cp rfl .no (.u rfl) (.u rfl) rfl (.nil (.code (.cond rfl (fun c2=>?_) (fun c2=>?_)))))
 ·have c2k:=c2
  try simp only [qcA,qcB] at c2
  refine .skip (.code (.seq (.block (.seq ?_))))
  refine wk_rs .here ?_; intro sR19 bbR19 evR19 lcR19 oaR19; subst evR19
  refine Wk.rg [0,1,2,3,4,5,6,7,8,9,10,11,12,13] rfl rfl (mV rfl rfl (mV rfl rfl (mV rfl rfl (lr rfl .no Fx.sn24 (.u rfl) .here ?_))))
  refine ar rfl .no (.u rfl) (.u rfl) rfl (fun _=>wrap_i64 (by omega) (by omega)) ?_
  refine mAq ((32*j-32:Nat):Int) rfl (.u rfl) (.u rfl) (by split<;>omega) ?_
  refine sd rfl .no Fx.se24 (.u rfl) (.u rfl) (fun _=>by omega) (fun _=>by omega) ?_
  refine mV rfl rfl (mV rfl rfl ?_)
  refine Go.Tan.b1 rfl Fx.se24 Fx.zv5 (.u rfl) rfl rfl (by decide) ?_; intro b35
  refine Go.Tan.bN rfl Fx.se54 Fx.zv24 (Evp.cons (.u rfl) (Evp.cons (.u rfl) (Evp.cons (.u rfl) Evp.nil))) rfl (by decide) (by simp [Value.oneCell',Sh.val]) ?_; intro b36
  refine ka rfl (.inr rfl) Fx.go131 (Evc rfl (Evc rfl Evn)) (mtk3 tk2 tk1 .here) (mac3_row (lo:=32*j-32) hsk hsu hK (by omega) (by omega) (by omega)) ?_
  rintro _ G37 μ37 hG37 ⟨_,rfl,_,rfl,_,rfl,rfl,rfl⟩
  refine al rfl Fx.zq23 ?_; intro b10
  refine sw rfl (.u rfl) (.u rfl) rfl Fx.sz23 .here (by first|exact qE|exact qL|rfl) (by first|exact ba_one _ _|exact wa_one _ _|exact one_V _|decide|exact one_app (wa_one _ _) (by simp [Value.oneCell'])) ?_
  refine .nil (.code (rq4 rfl rfl (mV rfl rfl (sa0 rfl .no Fx.ar23 (.u rfl) (apY rfl Fx.se24 Fx.zv5 (.u rfl) (.u rfl) tk1 (Sc.arr .here) (by (try simp only [qlA,yl_len]); omega) ?_)))))
  intro v40 L40 ov40 eL40
  have lL40:L40.length=L.length+32:=by rw [eL40,List.length_append]; first|rfl | simp [yl_len]
  refine aS rfl rfl (.nil (.blk (.code (rq3 rfl rfl (mV rfl rfl (bw (k:=.u8) (b:=1#8) rfl .no rfl (.u rfl) (.u rfl) rfl (aS rfl rfl (.nil (We.lpo (j+1,v40,L40) ?_ ?_ ?_ ?_ ?_)))))))))
  ·exact (esD rfl (esC rfl (by show V (BitVec.ofNat 8 (j+1)+1#8)=_; rw [← BitVec.ofNat_add]) (esD rfl (esD rfl (esD rfl eZ)))))
  ·exact (mS .here rfl mN)
  ·first|omega|(dsimp only; omega)
  ·exact (hGl0).trans hG37
  refine ⟨?_,?_⟩
  ·(try dsimp only)<;>(first|omega|rfl|assumption|(simp; done))
  (try dsimp only)<;>(rw [eL40,eL,exp_last]; rfl)
 have c2k:=c2
 try simp only [qcA,qcB] at c2
 refine .exit (.xcode (.xlp (.xblk (.code (.seq ?_)))))
 refine wk_fb .here (by first|(intro b hb; cases hb; done) | simp [keys,Res.keys]) ?_; intro GfR19 hR19 hleR19 evR19 hsR19; subst evR19
 refine rq6 rfl rfl (mV rfl rfl (mV rfl rfl (mV rfl rfl ?_)))
 refine kM 64 rfl Fx.se24 hsR19 (.u rfl) (.u rfl) (.u rfl) (by omega) ?_; intro h44 L44 eL44 lL44 hs44
 refine aS rfl rfl (aS rfl rfl (.nil (.code (.ret (We.fin0 Tryz.results108 (.tmp rfl (.tmp rfl .nil)) ?_)))))
 obtain rfl:j=2:=by omega
 exact ⟨h44,L44,by rw [eL44,eL]; exact List.take_of_length_le (by rw [exp_len]; omega),rfl,rfl,hs44⟩
namespace Fx
theorem zq80:zrL Tryz.prog 80=some (ba 32 (fun _=>0#8)++ba 32 (fun _=>0#8)):=by kernel_rfl
theorem go107:goFn Tryz.prog 107=true:=by kernel_rfl
theorem go108:goFn Tryz.prog 108=true:=by kernel_rfl
theorem bp80_0_1:bPl Tryz.prog 80 [0,1]=some (ba 32 (fun _=>0#8)++ba 32 (fun _=>0#8),[(0,32),(32,32)]):=by kernel_rfl
theorem sz80:szT Tryz.prog 80=some 64:=by kernel_rfl
theorem ag28:aggN Tryz.prog 28=some (some 5):=by kernel_rfl
theorem go13:goFn Tryz.prog 13=true:=by kernel_rfl
theorem go73:goFn Tryz.prog 73=true:=by kernel_rfl
theorem cv3_5:cvK Tryz.prog 3 5=some .u8:=by kernel_rfl
theorem go116:goFn Tryz.prog 116=true:=by kernel_rfl
theorem go42:goFn Tryz.prog 42=true:=by kernel_rfl
theorem go82:goFn Tryz.prog 82=true:=by kernel_rfl
end Fx
theorem Derive_ok (root:Nat→Y) (use:List Y) (hu:Sh) (G:PM) (hsu:SlR G 1 encY hu use) (hK:RdNP G 1 0 (wa 64 kW)) (hl:use.length≤1000000):Ct Tryz.prog 73 ([.agg (ba 32 root).toArray,hu.val use.length]:List Value).toArray G [] (fun _ μ' u=>μ'=[]∧u=.agg (ba 32 (keyEnc root use)++ba 32 (keyMac root use)).toArray):=by
 refine Ct.of Tryz.func73 rfl Tryz.ntmps73 rfl fun w0 hs0=>?_
 refine .seq (rq2 rfl rfl ?_)
 refine bx rfl (.u rfl) rfl ?_; intro b2
 refine al rfl Fx.zq80 ?_; intro b4
 refine .nil (.code (.seq ?_))
 refine wk_fz tk1 (by intro b hb; cases hb) ?_; intro Gfb2 hleb2 hbb2
 have hsu:=hsu.mono hleb2
 have hK:=hK.mono hleb2
 refine rq6 rfl rfl ?_
 refine Go.Tan.bN rfl Fx.se24 Fx.zv5 (Evp.cons (.u rfl) (Evp.cons (.u rfl) (Evp.cons (.u rfl) (Evp.cons (.u rfl) (Evp.cons (.u rfl) (Evp.cons (.u rfl) (Evp.cons (.u rfl) (Evp.cons (.u rfl) Evp.nil)))))))) rfl (by decide) (by simp [Value.oneCell',Sh.val]) ?_; intro b8
 refine mkS saltL rfl rfl Fx.cst24 (.u rfl) .here rfl rfl (by decide) ?_; intro G9 hG9 hs9
 have hsu:=hsu.mono hG9
 have hK:=hK.mono hG9
 have hbb2:=hbb2.mono hG9
 refine kA rfl .no Fx.ar23 (.u rfl) hbb2 (by first|exact ba_all|exact app_l|exact app_r) ?_; intro h10 L10 eL10 lL10 hs10
 refine kv rfl .no Fx.go107 (Evc rfl (Evc rfl Evn)) (fun _=>Extract_ok saltL _ L10 h10 _ hs9 hs10 hK (by decide) (by omega)) ?_
 refine al rfl Fx.zq23 ?_; intro b5
 refine sw rfl (.u rfl) (.u rfl) rfl Fx.sz23 .here (by first|exact qE|exact qL|rfl) (by first|exact ba_one _ _|exact wa_one _ _|exact one_V _|decide|exact one_app (wa_one _ _) (by simp [Value.oneCell'])) ?_
 refine .nil (.code (.seq ?_))
 refine wk_fz .here (by intro b hb; cases hb) ?_; intro Gfb5 hleb5 hbb5
 have hsu:=hsu.mono hleb5
 have hK:=hK.mono hleb5
 refine rq8 rfl rfl ?_
 refine kA rfl .no Fx.ar23 (.u rfl) hbb5 (by first|exact ba_all|exact app_l|exact app_r) ?_; intro h13 L13 eL13 lL13 hs13
 refine mV rfl rfl (kc rfl Fx.go108 (Evc rfl (Evc rfl (Evc rfl Evn))) (Expand_ok L13 h13 use hu _ hs13 hsu hK (by omega) hl) ?_)
 rintro _ G15 μ15 hG15 ⟨h15,L15,eL15,rfl,rfl,hs15⟩
 refine mV rfl rfl (ex rfl .no (.u rfl) rfl (ex rfl .no (.u rfl) rfl (aS rfl rfl ?_)))
 have lL15:L15.length=64:=by rw [eL15,exp_len]
 refine aS rfl rfl (.nil (.code (.seq (Wk.draw (mc:=⟨false,false⟩) [0,1,2,3,4,5,6,7,8,9] Fx.mix (by kernel_rfl) ?_))))
 refine mV rfl rfl (kE (32) rfl .no Fx.se24 hs15 (.u rfl) (.u rfl) (fun _=>by omega) (fun _=>by omega) ?_)
 intro h19 L19 eL19 lL19 hs19
 have lL19:=lL19 rfl
 refine spS rfl .no Fx.ar22 hs19 (.u rfl) (fun _=>by omega) (by decide) ?_
 refine lA rfl .no Fx.ag22 (.u rfl) (fun _=>(hs19.arr (m:=32) (by omega)).rd) (fun _=>ba_len _ _) ?_
 refine mV rfl rfl (kD (32) rfl .no Fx.se24 hs15 (.u rfl) (.u rfl) (fun _=>by omega) (fun _=>by omega) ?_)
 intro h23 L23 eL23 lL23 hs23
 have lL23:=lL23 rfl
 refine spS rfl .no Fx.ar22 hs23 (.u rfl) (fun _=>by omega) (by decide) ?_
 refine lA rfl .no Fx.ag22 (.u rfl) (fun _=>(hs23.arr (m:=32) (by omega)).rd) (fun _=>ba_len _ _) ?_
 refine bCe (ba 32 (fun i=>L19.getD i 0)++ba 32 (fun i=>L23.getD i 0)) rfl .no Fx.bp80_0_1 (.cons (.u rfl) rfl (.cons (.u rfl) rfl .nil)) rfl (key_put (by decide) _ _) ?_
 refine sw rfl (.u rfl) (.u rfl) rfl Fx.sz80 .here (by first|exact qE|exact qL|rfl) (key_one _ _) ?_
 refine .nil (.code (.ret (We.fin0 Tryz.results73 (.cell rfl (fun w hw=>run_loadVarN Fx.ag80 (RdN.own .here) ((by first|exact qE|exact qL|rfl)) hw) .nil) ?_)))
 have e:L15=deriveL root use:=by rw [eL15,eL13,eL10]; rfl
 exact ⟨rfl,congrArg (fun z=>Value.agg (List.toArray z)) (key_cells e eL19 eL23)⟩
theorem KeyOf_ok (root:Nat→Y) (h:Hd) (G:PM) (hK:RdNP G 1 0 (wa 64 kW)):Ct Tryz.prog 29 ([.agg (ba 32 root).toArray,.agg ([V h.kind,V h.level,uv .u64 h.gen,uv .u64 h.epoch,uv .u64 h.num]:List Value).toArray]:List Value).toArray G [] (fun _ μ' u=>μ'=[]∧u=.agg (ba 32 (keyEnc root (headL h))++ba 32 (keyMac root (headL h))).toArray):=by
 refine Ct.of Tryz.func29 rfl Tryz.ntmps29 rfl fun w0 hs0=>?_
 refine .seq (rq3 rfl rfl ?_)
 refine bx rfl (.u rfl) rfl ?_; intro b2
 refine bx rfl (.u rfl) rfl ?_; intro b3
 refine al rfl Fx.zq80 ?_; intro b4
 refine .nil (.code (.seq (Wk.draw (mc:=⟨false,false⟩) [0,1,2,3,4] Fx.mix (by kernel_rfl) ?_)))
 refine lA rfl .no Fx.ag23 (.u rfl) (fun _=>RdN.own tk2) (fun _=>(by first|exact qE|exact qL|rfl)) ?_
 refine lA rfl .no Fx.ag28 (.u rfl) (fun _=>RdN.own tk1) (fun _=>(by first|exact qE|exact qL|rfl)) ?_
 refine kc rfl Fx.go13 (Evc rfl Evn) (Ct.frzB (nLay_ok h _)) ?_
 rintro _ G7 μ7 hG7 ⟨h7,L7,eL7,rfl,rfl,hs7⟩
 have hK:=hK.mono hG7
 refine kv rfl .no Fx.go73 (Evc rfl (Evc rfl Evn)) (fun _=>Derive_ok root L7 h7 _ hs7 hK (by rw [eL7,head_len]; decide)) ?_
 refine sw rfl (.u rfl) (.u rfl) rfl Fx.sz80 .here (by first|exact qE|exact qL|rfl) (key_one _ _) ?_
 refine .nil (.code (.ret (We.fin0 Tryz.results29 (.cell rfl (fun w hw=>run_loadVarN Fx.ag80 (RdN.own .here) ((by first|exact qE|exact qL|rfl)) hw) .nil) ?_)))
 subst eL7
 exact ⟨rfl,rfl⟩
theorem rExpand_ok (key:List Y) (hk:Sh) (use:List Y) (hu:Sh) (G:PM) (hsk:SlR G 1 encY hk key) (hsu:SlR G 1 encY hu use) (hR:RdNP G 0 0 (wa 64 kW)) (hlk:key.length≤1000) (hl:use.length≤1000000):Ct Tryz.prog 116 ([hk.val key.length,hu.val use.length,.int .i64 ((64:Nat):Int)]:List Value).toArray G [] (fun G' μ' u=>∃ s L,L=expL key use 2∧μ'=[]∧u=.tuple #[s.val L.length,.int .i64 0]∧SlR G' 1 encY s L):=by
 refine Ct.of Tryz.func116 rfl Tryz.ntmps116 rfl fun w0 hs0=>?_
 refine .seq (rq2 rfl rfl (aS rfl rfl (aS rfl rfl (.nil (.code (.seq (.seq (rq6 rfl rfl (mV rfl rfl (cp rfl .no (.u rfl) (.u rfl) rfl (mV rfl rfl (mv rfl (.f rfl rfl) (.u rfl) (cp rfl (.f rfl rfl) (.s rfl) (.u rfl) rfl (pkO rfl .no (.u rfl) (.s rfl) (.nil (.code (.cond rfl (fun c1=>?_) (fun c1=>?_))))))))))))))))))
 ·have c1k:=c1
  exact absurd c1 (by decide)
 have c1k:=c1
 try simp only [qcA,qcB] at c1
 refine .skip (.code (.seq (rq1 rfl rfl (aS rfl rfl (.nil (.code (.seq (wk_nilB 5 ?_))))))))
 refine rq1 rfl rfl (aS rfl rfl (.nil (.code (.seq (.seq (wk_nilB 5 ?_))))))
 refine rq1 rfl rfl (aS rfl rfl (.nil (.code (.block ?_))))
 refine Wk.lop (α:=Nat×Value×List Y×Value×List Y) (fun gh=>[(8,true,gh.2.1),(9,true,gh.2.2.2.1),(10,true,.int .i64 ((gh.1+1:Nat):Int))]) (fun gh=>[rB gh.2.2.2.1 5 gh.2.2.2.2,rB gh.2.1 5 gh.2.2.1])
  (fun gh Gl=>(gh.1≤2)∧(gh.2.2.1=expL key use gh.1)∧(gh.2.2.2.2=expB key use gh.1)) (fun gh=>2-gh.1) (0,.slice none 0 0,[],.slice none 0 0,[]) [(0,true,_),(1,true,_),(2,true,_)] []
  (esD rfl (esD rfl (esC rfl (by first|rfl|exact evi (by omega)) (esD rfl (esD rfl (esD rfl eZ))))))
  (mS .here rfl (mS .here rfl mN)) ?_ ?_
 ·refine ⟨?_,?_,?_⟩
  ·(try dsimp only)<;>(first|omega|rfl|assumption|(simp; done))
  ·(try dsimp only)<;>(rfl)
  (try dsimp only)<;>(rfl)
 intro gh N0 Gl0 hN0 hGl0 hF0
 obtain ⟨j,v,A,u,B⟩:=gh; dsimp only at hF0 hN0 ⊢
 obtain ⟨hj,eA,eB⟩:=hF0
 have hsk:=hsk.mono hGl0
 have hsu:=hsu.mono hGl0
 have hR:=hR.mono hGl0
 have lA:A.length=32*j:=by rw [eA,exp_len]
 have lB:B.length≤32:=by rw [eB]; exact exp_len1 _ _ _
 refine .seq (.seq (rq4 rfl rfl (mV rfl rfl (lr rfl .no Fx.sn24 (.u rfl) tk1 ?_))))
 refine mV rfl rfl (cp rfl .no (.u rfl) (.u rfl) rfl (.nil (.code (.cond rfl (fun c2=>?_) (fun c2=>?_)))))
 ·have c2k:=c2
  try simp only [qcA,qcB] at c2
  refine .skip (.code (.seq (.block (.seq ?_))))
  refine wk_rs .here ?_; intro sRB bbRB evRB lcRB oaRB; subst evRB
  refine rq4 rfl rfl ?_
  refine b0B rfl Fx.se24 ?_; intro b25
  refine mV rfl rfl (apY0 rfl Fx.se24 Fx.zv5 (.u rfl) (.u rfl) .here (Sc.rowS tk1 oaRB) (show B.length≤140737488355328 by omega) ?_)
  intro v27 L27 _ ov27 eL27
  have lL27:L27.length=B.length:=by rw [eL27]
  refine aS rfl rfl (.nil (.code (.seq (rq4 rfl rfl (mV rfl rfl (mV rfl rfl (apY rfl Fx.se24 Fx.zv5 (.u rfl) (.u rfl) .here hsu.sc (by (try simp only [qlA,yl_len]); omega) ?_)))))))
  intro v30 L30 ov30 eL30
  have lL30:L30.length=L27.length+use.length:=by rw [eL30,List.length_append]
  refine aS rfl rfl (.nil (.code (.seq (rq6 rfl rfl (mV rfl rfl (mV rfl rfl (ci rfl .no rfl Fx.cv3_5 (.u rfl) ?_)))))))
  refine Go.Tan.b1 rfl Fx.se24 Fx.zv5 (.u rfl) rfl rfl (by decide) ?_; intro b34
  refine apY rfl Fx.se24 Fx.zv5 (.u rfl) (.u rfl) tk1 (Sc.one .here) (by show _+1≤_; omega) ?_
  intro v35 L35 ov35 eL35
  have lL35:L35.length=L30.length+1:=by rw [eL35,List.length_append]; first|rfl | simp [yl_len]
  refine aS rfl rfl (.nil (.code (.seq ?_)))
  refine wk_fb .here (by first|(intro b hb; cases hb; done) | simp [keys,Res.keys]) ?_; intro GfR27 hR27 hleR27 evR27 hsR27; subst evR27
  have hsk:=hsk.mono hleR27
  have hR:=hR.mono hleR27
  refine rq5 rfl rfl (mV rfl rfl (mV rfl rfl (kv rfl .no Fx.go115 (Evc rfl (Evc rfl Evn)) (fun _=>rmacSum_ok key hk L35 _ _ hsk hsR27 hR hlk (by omega)) ?_)))
  refine al rfl Fx.zq23 ?_; intro b12
  refine sw rfl (.u rfl) (.u rfl) rfl Fx.sz23 .here (by first|exact qE|exact qL|rfl) (by first|exact ba_one _ _|exact wa_one _ _|exact one_V _|decide|exact one_app (wa_one _ _) (by simp [Value.oneCell'])) ?_
  refine .nil (.code (.seq (rq4 rfl rfl ?_)))
  refine b0B rfl Fx.se24 ?_; intro b39
  refine sa0 rfl .no Fx.ar23 (.u rfl) (apY0 rfl Fx.se24 Fx.zv5 (.u rfl) (.u rfl) .here (Sc.arr tk1) (Nat.le_trans (Nat.le_of_eq (yl_len 32 _)) (by decide)) ?_)
  intro v41 L41 _ ov41 eL41
  have lL41:L41.length=32:=by rw [eL41]; first|rfl | simp [yl_len]
  refine aS rfl rfl (.nil (.code ?_))
  refine wk_rs .here ?_; intro sRB bbRB evRB lcRB oaRB; subst evRB
  refine rq4 rfl rfl (mV rfl rfl (mV rfl rfl (apY rfl Fx.se24 Fx.zv5 (.u rfl) (.u rfl) tk4 (Sc.rowS .here oaRB) (by (try simp only [qlA,yl_len]); omega) ?_)))
  intro v44 L44 ov44 eL44
  have lL44:L44.length=A.length+L41.length:=by rw [eL44,List.length_append]
  refine aS rfl rfl (.nil (.blk (.code (rq3 rfl rfl (mV rfl rfl (arn (((((j+1:Nat))+1):Nat):Int) rfl .no (.u rfl) (.u rfl) rfl (fun _=>by omega) (fun _=>wrap_i64 (by omega) (by omega)) ?_))))))
  refine aS rfl rfl (.nil (We.lpo (j+1,v44,L44,sRB.val L41.length,L41) ?_ ?_ ?_ ?_ ?_))
  ·exact (esD rfl (esD rfl (esC rfl (by first|rfl|exact evi (by omega)) (esD rfl (esD rfl (esD rfl eZ))))))
  ·exact (mS tk1 rfl (mS .here rfl mN))
  ·first|omega|(dsimp only; omega)
  ·exact (hGl0).trans hleR27
  refine ⟨?_,?_,?_⟩
  ·(try dsimp only)<;>(first|omega|rfl|assumption|(simp; done))
  ·(try dsimp only)<;>(rw [eL44,eA,eL41,eL35,eL30,eL27,eB]; exact exp_stepA _ _ _)
  (try dsimp only)<;>(rw [eL41,eL35,eL30,eL27,eB]; exact exp_stepB _ _ _)
 have c2k:=c2
 try simp only [qcA,qcB] at c2
 refine .exit (.xcode (.xlp (.xblk (.code (.seq ?_)))))
 refine wk_fb tk1 (by first|(intro b hb; cases hb; done) | simp [keys,Res.keys]) ?_; intro GfRA hRA hleRA evRA hsRA; subst evRA
 refine rq5 rfl rfl (mV rfl rfl (mV rfl rfl (kE (64) rfl .no Fx.se24 hsRA (.u rfl) (.u rfl) (fun _=>by omega) (fun _=>by omega) ?_)))
 intro h47 L47 eL47 lL47 hs47
 have lL47:=lL47 rfl
 refine aS rfl rfl (aS rfl rfl (.nil (.code (.ret (We.fin0 Tryz.results116 (.tmp rfl (.tmp rfl .nil)) ?_)))))
 obtain rfl:j=2:=by omega
 exact ⟨h47,L47,by rw [eL47,eA]; exact List.take_of_length_le (by rw [exp_len]; omega),rfl,rfl,hs47⟩
theorem rDerive_ok (root:Nat→Y) (use:List Y) (hu:Sh) (G:PM) (hsu:SlR G 1 encY hu use) (hR:RdNP G 0 0 (wa 64 kW)) (hl:use.length≤1000000):Ct Tryz.prog 82 ([.agg (ba 32 root).toArray,hu.val use.length]:List Value).toArray G [] (fun _ μ' u=>μ'=[]∧u=.agg (ba 32 (keyEnc root use)++ba 32 (keyMac root use)).toArray):=by
 refine Ct.of Tryz.func82 rfl Tryz.ntmps82 rfl fun w0 hs0=>?_
 refine .seq (rq2 rfl rfl ?_)
 refine bx rfl (.u rfl) rfl ?_; intro b2
 refine al rfl Fx.zq80 ?_; intro b4
 refine .nil (.code (.seq ?_))
 refine wk_fz tk1 (by intro b hb; cases hb) ?_; intro Gfb2 hleb2 hbb2
 have hsu:=hsu.mono hleb2
 have hR:=hR.mono hleb2
 refine rq6 rfl rfl ?_
 refine Go.Tan.bN rfl Fx.se24 Fx.zv5 (Evp.cons (.u rfl) (Evp.cons (.u rfl) (Evp.cons (.u rfl) (Evp.cons (.u rfl) (Evp.cons (.u rfl) (Evp.cons (.u rfl) (Evp.cons (.u rfl) (Evp.cons (.u rfl) Evp.nil)))))))) rfl (by decide) (by simp [Value.oneCell',Sh.val]) ?_; intro b10
 refine mkS saltL rfl rfl Fx.cst24 (.u rfl) .here rfl rfl (by decide) ?_; intro G11 hG11 hs11
 have hsu:=hsu.mono hG11
 have hR:=hR.mono hG11
 have hbb2:=hbb2.mono hG11
 refine kA rfl .no Fx.ar23 (.u rfl) hbb2 (by first|exact ba_all|exact app_l|exact app_r) ?_; intro h12 L12 eL12 lL12 hs12
 refine kv rfl .no Fx.go115 (Evc rfl (Evc rfl Evn)) (fun _=>rmacSum_ok saltL _ L12 h12 _ hs11 hs12 hR (by decide) (by omega)) ?_
 refine al rfl Fx.zq23 ?_; intro b5
 refine sw rfl (.u rfl) (.u rfl) rfl Fx.sz23 .here (by first|exact qE|exact qL|rfl) (by first|exact ba_one _ _|exact wa_one _ _|exact one_V _|decide|exact one_app (wa_one _ _) (by simp [Value.oneCell'])) ?_
 refine .nil (.code (.seq ?_))
 refine wk_fz .here (by intro b hb; cases hb) ?_; intro Gfb5 hleb5 hbb5
 have hsu:=hsu.mono hleb5
 have hR:=hR.mono hleb5
 refine rq8 rfl rfl ?_
 refine kA rfl .no Fx.ar23 (.u rfl) hbb5 (by first|exact ba_all|exact app_l|exact app_r) ?_; intro h15 L15 eL15 lL15 hs15
 refine mV rfl rfl (kc rfl Fx.go116 (Evc rfl (Evc rfl (Evc rfl Evn))) (rExpand_ok L15 h15 use hu _ hs15 hsu hR (by omega) hl) ?_)
 rintro _ G17 μ17 hG17 ⟨h17,L17,eL17,rfl,rfl,hs17⟩
 refine mV rfl rfl (ex rfl .no (.u rfl) rfl (ex rfl .no (.u rfl) rfl (aS rfl rfl ?_)))
 have lL17:L17.length=64:=by rw [eL17,exp_len]
 refine aS rfl rfl (.nil (.code (.seq (rq1 rfl rfl ?_))))
 refine al rfl Fx.zq80 ?_; intro b8
 refine .nil (.code (.seq (.seq (rq1 rfl rfl (aS rfl rfl (.nil (.code (.block ?_))))))))
 refine Wk.lop (α:=Nat) (fun k=>[(9,true,.int .i64 (k:Int))]) (fun k=>[.blk b8 (cl (ba 32 (keyF (fun i=>L17.getD i 0) k)++ba 32 (keyF (fun i=>L17.getD (32+i) 0) k)) 80)])
  (fun k Gl=>(k≤32)) (fun k=>32-k) 0 [(4,true,_),(6,true,_),(8,true,_)] [_]
  (esC rfl (by first|rfl|exact evi (by omega)) (esD rfl (esD rfl (esD rfl eZ))))
  (mS .here rfl (mS .here rfl mN)) ?_ ?_
 ·(try dsimp only)<;>(first|omega|rfl|assumption|(simp; done))
 intro k N0 Gl0 hN0 hGl0 hF0
 try dsimp only at hF0 hN0 ⊢
 have hk:=hF0
 have hs17:=hs17.mono hGl0
 refine .seq (.seq (rq2 rfl rfl (mV rfl rfl (cp rfl .no (.u rfl) (.u rfl) rfl (.nil (.code (.cond rfl (fun c1=>?_) (fun c1=>?_))))))))
 ·have c1k:=c1
  try simp only [qcA,qcB] at c1
  refine .skip (.code (.seq (.block (.seq (rq8 rfl rfl (mV rfl rfl (mV rfl rfl (mV rfl rfl (ih rfl .no Fx.se24 (.u rfl) (.u rfl) (fun _=>by omega) (fun _=>by omega) (fun _=>hs17.nn (k:=k) (by omega)) ?_)))))))))
  refine ld rfl .no Fx.ag5 (.u rfl) (fun _=>(hs17.yat (k) (by omega) (by omega)).rd) ?_
  refine fz rfl .no Fx.fo80_0 (.u rfl) (iA rfl .no Fx.ar22 (.u rfl) (.u rfl) (fun _=>by omega) (fun _=>by omega) ?_)
  refine s1 rfl (.u rfl) (.u rfl) rfl Fx.sz5 .here (by first|decide|(simp only [wa_len,ba_len,qlA]; omega)) (bap_set1 k (by omega) (by omega)) ?_
  refine .nil (.code (rq9 rfl rfl (mV rfl rfl (mV rfl rfl (mV rfl rfl (arn (((32+k):Nat):Int) rfl .no (.u rfl) (.u rfl) rfl (fun _=>by omega) (fun _=>wrap_i64 (by omega) (by omega)) ?_))))))
  refine ih rfl .no Fx.se24 (.u rfl) (.u rfl) (fun _=>by omega) (fun _=>by omega) (fun _=>hs17.nn (k:=(32+k)) (by omega)) ?_
  refine ld rfl .no Fx.ag5 (.u rfl) (fun _=>(hs17.yat ((32+k)) (by omega) (by omega)).rd) ?_
  refine fz rfl .no Fx.fo80_1 (.u rfl) (iA rfl .no Fx.ar22 (.u rfl) (.u rfl) (fun _=>by omega) (fun _=>by omega) ?_)
  refine s1 rfl (.u rfl) (.u rfl) rfl Fx.sz5 .here (by first|decide|(simp only [wa_len,ba_len,qlA]; omega)) (bar_set1 k (by omega)) ?_
  refine .nil (.blk (.code (rq3 rfl rfl (mV rfl rfl (arn (((k+1):Nat):Int) rfl .no (.u rfl) (.u rfl) rfl (fun _=>by omega) (fun _=>wrap_i64 (by omega) (by omega)) ?_)))))
  refine aS rfl rfl (.nil (We.lpo (k+1) ?_ ?_ ?_ ?_ ?_))
  ·exact (esC rfl (by first|rfl|exact evi (by omega)) (esD rfl (esD rfl (esD rfl eZ))))
  ·exact (mS .here (by rw [← keyF_step rfl,←keyF_step rfl]) (mS .here rfl mN))
  ·first|omega|(dsimp only; omega)
  ·exact hGl0
  (try dsimp only)<;>(first|omega|rfl|assumption|(simp; done))
 have c1k:=c1
 try simp only [qcA,qcB] at c1
 refine .exit (.xcode (.xlp (.xblk (.code (.seq (rq2 rfl rfl (lA rfl .no Fx.ag80 (.u rfl) (fun _=>RdN.own .here) (fun _=>(by first|exact qE|exact qL|rfl)) ?_)))))))
 refine sw rfl (.u rfl) (.u rfl) rfl Fx.sz80 tk1 (by first|exact qE|exact qL|rfl) (key_one _ _) ?_
 refine .nil (.code (.ret (We.fin0 Tryz.results82 (.cell rfl (fun w hw=>run_loadVarN Fx.ag80 (RdN.own .here) ((by first|exact qE|exact qL|rfl)) hw) .nil) ?_)))
 obtain rfl:k=32:=by omega
 have e:L17=deriveL root use:=by rw [eL17,eL15,eL12]; rfl
 exact ⟨rfl,congrArg (fun z=>Value.agg (List.toArray z)) (keyF_cells e)⟩
theorem rKeyOf_ok (root:Nat→Y) (h:Hd) (G:PM) (hR:RdNP G 0 0 (wa 64 kW)):Ct Tryz.prog 37 ([.agg (ba 32 root).toArray,.agg ([V h.kind,V h.level,uv .u64 h.gen,uv .u64 h.epoch,uv .u64 h.num]:List Value).toArray]:List Value).toArray G [] (fun _ μ' u=>μ'=[]∧u=.agg (ba 32 (keyEnc root (headL h))++ba 32 (keyMac root (headL h))).toArray):=by
 refine Ct.of Tryz.func37 rfl Tryz.ntmps37 rfl fun w0 hs0=>?_
 refine .seq (rq3 rfl rfl ?_)
 refine bx rfl (.u rfl) rfl ?_; intro b2
 refine bx rfl (.u rfl) rfl ?_; intro b3
 refine al rfl Fx.zq80 ?_; intro b4
 refine .nil (.code (.seq (Wk.draw (mc:=⟨false,false⟩) [0,1,2,3,4] Fx.mix (by kernel_rfl) ?_)))
 refine lA rfl .no Fx.ag23 (.u rfl) (fun _=>RdN.own tk2) (fun _=>(by first|exact qE|exact qL|rfl)) ?_
 refine lA rfl .no Fx.ag28 (.u rfl) (fun _=>RdN.own tk1) (fun _=>(by first|exact qE|exact qL|rfl)) ?_
 refine kc rfl Fx.go42 (Evc rfl Evn) (Ct.frzB (rnLay_ok h _)) ?_
 rintro _ G7 μ7 hG7 ⟨h7,L7,eL7,rfl,rfl,hs7⟩
 have hR:=hR.mono hG7
 refine kv rfl .no Fx.go82 (Evc rfl (Evc rfl Evn)) (fun _=>rDerive_ok root L7 h7 _ hs7 hR (by rw [eL7,head_len]; decide)) ?_
 refine sw rfl (.u rfl) (.u rfl) rfl Fx.sz80 .here (by first|exact qE|exact qL|rfl) (key_one _ _) ?_
 refine .nil (.code (.ret (We.fin0 Tryz.results37 (.cell rfl (fun w hw=>run_loadVarN Fx.ag80 (RdN.own .here) ((by first|exact qE|exact qL|rfl)) hw) .nil) ?_)))
 subst eL7
 exact ⟨rfl,rfl⟩
end Go.Proofs.YtdeobooblmjlfaaGreatDoor
namespace Go.Tan
open Go.RowKit
def frameL (kind:Y) (p:List Y):List Y:=fixL ((maskW (crcW 0#32 ([kind]++p))).setWidth 64) 4++fixL (BitVec.ofInt 64 (p.length:Int)) 2++[kind]
def kindAt (n j:Nat):Y:=if j=0 then (if n≤128 then 1#8 else 2#8) else if n-128*j≤128 then 4#8 else 3#8
def outL (s:List Y):Nat→List Y
 | 0=>[]
 | j+1=>outL s j++frameL (kindAt s.length j) ((s.drop (128*j)).take 128)++(s.drop (128*j)).take 128
def recL (s:List Y):List Y:=outL s ((s.length+127) / 128)
theorem take_min (M:List Y):M.take (min M.length 128)=M.take 128:=by
 by_cases h:M.length≤128
 ·rw [Nat.min_eq_left h,List.take_length,List.take_of_length_le h]
 ·rw [Nat.min_eq_right (by omega)]
theorem rec_step {S M O A B C D E:List Y} {j:Nat} {kind:Y} (eO:O=outL S j) (eM:M=S.drop (128*j)) (eA:A=M.take (min M.length 128)) (eB:B=M.take (min M.length 128)) (eC:C=frameL kind A) (eD:D=O++C) (eE:E=D++B) (hk:kind=kindAt S.length j):E=outL S (j+1):=by
 rw [eE,eD,eC,eA,eB,take_min,eO,eM,hk]; rfl
theorem drop_step {S:List Y} {j:Nat}:(S.drop (128*j)).drop (min (S.drop (128*j)).length 128)=S.drop (128*(j+1)):=by
 rw [List.drop_drop]
 by_cases h:(S.drop (128*j)).length≤128
 ·rw [Nat.min_eq_left h]
  rw [List.length_drop] at h ⊢
  rw [List.drop_of_length_le (by omega),List.drop_of_length_le (by omega)]
 ·rw [Nat.min_eq_right (by omega)]; congr 1
theorem frame_len (kind:Y) (p:List Y):(frameL kind p).length=7:=by simp [frameL,fix_len]
theorem out_len (S:List Y) (j:Nat):(outL S j).length≤135*j:=by
 induction j with
 | zero=>exact Nat.zero_le _
 | succ j ih=>rw [outL,List.length_append,List.length_append,frame_len,List.length_take]; omega
theorem kind_full {n j:Nat} (h:j=0) (hn:n≤128):1#8=kindAt n j:=by unfold kindAt; rw [if_pos h,if_pos hn]
theorem kind_first {n j:Nat} (h:j=0) (hn:¬ n≤128):2#8=kindAt n j:=by unfold kindAt; rw [if_pos h,if_neg hn]
theorem kind_last {n j:Nat} (h:¬ j=0) (hn:n-128*j≤128):4#8=kindAt n j:=by unfold kindAt; rw [if_neg h,if_pos hn]
theorem kind_mid {n j:Nat} (h:¬ j=0) (hn:¬ n-128*j≤128):3#8=kindAt n j:=by unfold kindAt; rw [if_neg h,if_neg hn]
def layP (root:Nat→Y) (h:Hd) (n:BitVec 64) (p:List Y):List Y×Int:=if p.length≤4194304 then (recL (sealL (keyEnc root (headL h)) (keyMac root (headL h)) (nonceF n) (headL h) p),0) else ([],4)
theorem lay_long {root:Nat→Y} {h:Hd} {n:BitVec 64} {p:List Y} (c:¬ p.length≤4194304):([],4)=layP root h n p:=by unfold layP; rw [if_neg c]
theorem lay_good {root:Nat→Y} {h:Hd} {n:BitVec 64} {p S O:List Y} {j:Nat} (c:p.length≤4194304) (eS:S=sealL (keyEnc root (headL h)) (keyMac root (headL h)) (nonceF n) (headL h) p) (eO:O=outL S j) (hj:j=(S.length+127) / 128):(O,0)=layP root h n p:=by
 unfold layP; rw [if_pos c,eO,hj,eS]; rfl
theorem frame_app (kind:Y) (p:List Y):fixL ((maskW (crcW 0#32 ([kind]++p))).setWidth 64) 4++fixL (BitVec.ofInt 64 (p.length:Int)) 2++([kind]++p)=frameL kind p++p:=by
 rw [frameL,←List.append_assoc]
theorem rrec_step {S O A B C:List Y} {j:Nat} {kind:Y} (eO:O=outL S j) (eA:A=(S.drop (128*j)).take (min S.length (128*j+128)-128*j)) (eB:B=frameL kind A++A) (eC:C=O++B) (hk:kind=kindAt S.length j):C=outL S (j+1):=by
 have e:(S.drop (128*j)).take (min S.length (128*j+128)-128*j)=(S.drop (128*j)).take 128:=by
  rw [← take_min,List.length_drop]
  congr 1
  omega
 rw [eC,eB,eA,e,eO,hk,←List.append_assoc]; rfl
theorem one8 {a b c d e f g k:Value} (h1:a.oneCell'=true) (h2:b.oneCell'=true) (h3:c.oneCell'=true) (h4:d.oneCell'=true) (h5:e.oneCell'=true) (h6:f.oneCell'=true) (h7:g.oneCell'=true) (h8:k.oneCell'=true):∀ u∈[a,b,c,d,e,f,g,k],u.oneCell'=true:=by
 intro u hu
 simp only [List.mem_cons,List.not_mem_nil,or_false] at hu
 rcases hu with rfl|rfl|rfl|rfl|rfl|rfl|rfl|rfl<;>assumption
theorem of_r {root:Nat→Y} {cs:List Value} (h:cs.length=5):((ba 32 root++cs).drop 32).take 5=cs:=by
 rw [List.drop_left' (ba_len _ _),List.take_of_length_le (by omega)]
end Go.Tan
namespace Go.Proofs.YtdeobooblmjlfaaGreatDoor
open Go.Tan Go.RowKit
namespace Fx
theorem go29:goFn Tryz.prog 29=true:=by kernel_rfl
theorem go68:goFn Tryz.prog 68=true:=by kernel_rfl
theorem go67:goFn Tryz.prog 67=true:=by kernel_rfl
theorem go31:goFn Tryz.prog 31=true:=by kernel_rfl
theorem go84:goFn Tryz.prog 84=true:=by kernel_rfl
theorem go83:goFn Tryz.prog 83=true:=by kernel_rfl
theorem go37:goFn Tryz.prog 37=true:=by kernel_rfl
theorem go41:goFn Tryz.prog 41=true:=by kernel_rfl
theorem go71:goFn Tryz.prog 71=true:=by kernel_rfl
theorem go38:goFn Tryz.prog 38=true:=by kernel_rfl
end Fx
theorem wLay_ok (root:Nat→Y) (h:Hd) (n:BitVec 64) (p:List Y) (hp:Sh) (G:PM) (hs:SlR G 1 encY hp p) (hK:RdNP G 1 0 (wa 64 kW)):Ct Tryz.prog 23 ([.agg (ba 32 root).toArray,.agg ([V h.kind,V h.level,uv .u64 h.gen,uv .u64 h.epoch,uv .u64 h.num]:List Value).toArray,uv .u64 n,hp.val p.length]:List Value).toArray G [] (fun _ μ' u=>∃ v L e,(L,e)=layP root h n p∧μ'=[rB v 5 L]∧u=.tuple #[v,.int .i64 e]):=by
 refine Ct.of Tryz.func23 rfl Tryz.ntmps23 rfl fun w0 hs0=>?_
 refine .seq (rq4 rfl rfl ?_)
 refine bx rfl (.u rfl) rfl ?_; intro b4
 refine bx rfl (.u rfl) rfl ?_; intro b5
 refine aS rfl rfl (aS rfl rfl (.nil (.code (.seq (.seq (rq3 rfl rfl (mV rfl rfl (ln rfl .no Fx.sn24 (.u rfl) (cp rfl .no (.u rfl) (.u rfl) rfl (.nil (.code (.cond rfl (fun c1=>?_) (fun c1=>?_)))))))))))))
 ·have c1k:=c1
  try simp only [qcA,qcC,qcB] at c1
  refine .seq (rq2 rfl rfl (aS rfl rfl (aS rfl rfl (.nil (.code (.ret (we_nilB 5 ?_)))))))
  refine We.fin Tryz.results23 (.tmp rfl (.tmp rfl .nil)) (mS .here rfl mN) ?_
  exact ⟨_,[],4,lay_long (by omega),rfl,rfl⟩
 have c1k:=c1
 try simp only [qcA,qcC,qcB] at c1
 refine .skip (.code (.seq (Wk.draw (mc:=⟨false,false⟩) [0,1,3,5,7,2,4,6,8,9] Fx.mix (by kernel_rfl) ?_)))
 refine lA rfl .no Fx.ag23 (.u rfl) (fun _=>RdN.own tk1) (fun _=>(by first|exact qE|exact qL|rfl)) ?_
 refine lA rfl .no Fx.ag28 (.u rfl) (fun _=>RdN.own .here) (fun _=>(by first|exact qE|exact qL|rfl)) ?_
 refine mV rfl rfl (lA rfl .no Fx.ag28 (.u rfl) (fun _=>RdN.own .here) (fun _=>(by first|exact qE|exact qL|rfl)) ?_)
 refine mV rfl rfl (kv rfl .no Fx.go29 (Evc rfl (Evc rfl Evn)) (fun _=>KeyOf_ok root h _ hK) ?_)
 refine kv rfl .no Fx.go68 (Evc rfl Evn) (fun _=>Nonce_ok _ _) ?_
 refine kc rfl Fx.go13 (Evc rfl Evn) (Ct.frzB (nLay_ok h _)) ?_
 rintro _ G25 μ25 hG25 ⟨h25,L25,eL25,rfl,rfl,hs25⟩
 have hs:=hs.mono hG25
 have hK:=hK.mono hG25
 refine kc rfl Fx.go67 (Evc rfl (Evc rfl (Evc rfl (Evc rfl Evn)))) (Ct.rowc (Seal_ok (keyEnc root (headL h)) (keyMac root (headL h)) (nonceF n) L25 h25 p hp _ hs25 hs hK (by rw [eL25,head_len]; decide) (by omega))) ?_
 rintro v27 G27 μ27 hG27 ⟨L27,ov27,eL27,rfl⟩
 refine aS rfl rfl (.nil ?_)
 have lL27:L27.length=p.length+16:=by rw [eL27,seal_len]
 refine .code (.seq ?_)
 refine wk_fb .here (by first|(intro b hb; cases hb; done) | simp [keys,Res.keys]) ?_; intro GfR27 hR27 hleR27 evR27 hsR27; subst evR27
 refine rq1 rfl rfl (aS rfl rfl (.nil (.code (.seq (.seq (wk_nilB 5 ?_))))))
 refine rq1 rfl rfl (aS rfl rfl (.nil (.code (.block ?_))))
 refine Wk.lop (α:=Nat×Sh×List Y×Value×List Y) (fun gh=>[(10,true,gh.2.1.val gh.2.2.1.length),(11,true,gh.2.2.2.1),(12,true,.bool (decide (gh.1=0)))]) (fun gh=>[rB gh.2.2.2.1 5 gh.2.2.2.2])
  (fun gh Gl=>(SlR Gl 1 encY gh.2.1 gh.2.2.1)∧(gh.2.2.1=L27.drop (128*gh.1))∧(gh.2.2.2.2=outL L27 gh.1)∧(128*gh.1≤L27.length+127)) (fun gh=>gh.2.2.1.length) (0,_,_,.slice none 0 0,[]) [] [_,_]
  (esD rfl (esD rfl (esD rfl eZ)))
  (mS .here rfl (mS .here rfl (mS .here rfl mN))) ?_ ?_
 ·refine ⟨?_,?_,?_,?_⟩
  ·(try dsimp only)<;>(exact hsR27)
  ·(try dsimp only)<;>(rfl)
  ·(try dsimp only)<;>(rfl)
  (try dsimp only)<;>(first|omega|rfl|assumption|(simp; done))
 intro gh N0 Gl0 hN0 hGl0 hF0
 obtain ⟨j,r,M,v,O⟩:=gh; dsimp only at hF0 hN0 ⊢
 obtain ⟨hr,eM,eO,hj⟩:=hF0
 have lM:M.length=L27.length-128*j:=by rw [eM]; simp
 have lO:=out_len L27 j
 rw [← eO] at lO
 refine .seq (.seq (rq3 rfl rfl (mV rfl rfl (ln rfl .no Fx.sn24 (.u rfl) (cp rfl .no (.u rfl) (.u rfl) rfl (.nil (.code (.cond rfl (fun c2=>?_) (fun c2=>?_)))))))))
 ·have c2k:=c2
  try simp only [qcA,qcC,qcB] at c2
  refine .skip (.code (.seq (.block (.seq (rq4 rfl rfl (mV rfl rfl (ln rfl .no Fx.sn24 (.u rfl) (mIn (M.length) (128) rfl .no (.u rfl) (.u rfl) (fun _=>by omega) (fun _=>by omega) ?_))))))))
  refine aS rfl rfl (.nil (.code (.seq (rq1 rfl rfl (aS rfl rfl (.nil (.code (.seq (.seq (rq5 rfl rfl (mV rfl rfl (mV rfl rfl (ln rfl .no Fx.sn24 (.u rfl) (cp rfl .no (.u rfl) (.u rfl) rfl (aS rfl rfl (.nil (.code (.block (.seq (rq5 rfl rfl (mV rfl rfl (mV rfl rfl (mv rfl (.t rfl rfl) (.u rfl) (pkA rfl .no (.u rfl) (.s rfl) (aS rfl rfl (.nil (.code (.cond rfl (fun c3=>?_) (fun c3=>?_)))))))))))))))))))))))))))))
  ·have c3k:=c3
   try simp only [qcA,qcC,qcB] at c3
   refine rq1 rfl rfl (aS rfl rfl (.nil (.blk (.code (.seq (Wk.draw (mc:=⟨false,false⟩) [0,1,2,3,4,7,8,9,5,6,10,11] Fx.mix (by kernel_rfl) ?_))))))
   refine mV rfl rfl (mV rfl rfl (mV rfl rfl (mV rfl rfl (kE ((min M.length 128)) rfl .no Fx.se24 hr (.u rfl) (.u rfl) (fun _=>by omega) (fun _=>by omega) ?_))))
   intro h51 L51 eL51 lL51 hs51
   have lL51:=lL51 rfl
   refine mV rfl rfl (mV rfl rfl (kE ((min M.length 128)) rfl .no Fx.se24 hr (.u rfl) (.u rfl) (fun _=>by omega) (fun _=>by omega) ?_))
   intro h56 L56 eL56 lL56 hs56
   have lL56:=lL56 rfl
   refine kc rfl Fx.go31 (Evc rfl (Evc rfl Evn)) (Ct.frzB (whead_ok 1#8 L51 h51 _ hs51 (by omega))) ?_
   rintro _ G52 μ52 hG52 ⟨h52,L52,eL52,rfl,rfl,hs52⟩
   have hr:=hr.mono hG52
   have hs51:=hs51.mono hG52
   have hs56:=hs56.mono hG52
   have lL52:L52.length=7:=by rw [eL52]; exact frame_len _ _
   refine apY rfl Fx.se24 Fx.zv5 (.u rfl) (.u rfl) .here hs52.sc (by (try simp only [qlA,yl_len]); omega) ?_
   intro v53 L53 ov53 eL53
   have lL53:L53.length=O.length+L52.length:=by rw [eL53,List.length_append]
   refine apY rfl Fx.se24 Fx.zv5 (.u rfl) (.u rfl) .here hs56.sc (by (try simp only [qlA,yl_len]); omega) ?_
   intro v57 L57 ov57 eL57
   have lL57:L57.length=L53.length+L56.length:=by rw [eL57,List.length_append]
   refine aS rfl rfl (.nil (.code (rq4 rfl rfl (mV rfl rfl (mV rfl rfl (kD ((min M.length 128)) rfl .no Fx.se24 hr (.u rfl) (.u rfl) (fun _=>by omega) (fun _=>by omega) ?_))))))
   intro h60 L60 eL60 lL60 hs60
   have lL60:=lL60 rfl
   refine aS rfl rfl (.nil (.blk (.code (rq1 rfl rfl (aS rfl rfl (.nil (We.lpo (j+1,h60,L60,v57,L57) ?_ ?_ ?_ ?_ ?_)))))))
   ·exact (esD rfl (esD rfl (esC rfl (by simp) eZ)))
   ·exact (mS .here rfl (mS .here rfl (mS .here rfl mN)))
   ·first|omega|(dsimp only; omega)
   ·exact (hGl0).trans hG52
   refine ⟨?_,?_,?_,?_⟩
   ·(try dsimp only)<;>(exact hs60)
   ·(try dsimp only)<;>(rw [eL60,eM]; exact drop_step)
   ·(try dsimp only)<;>(exact rec_step eO eM eL51 eL56 eL52 eL53 eL57 (kind_full (by omega) (by omega)))
   (try dsimp only)<;>(first|omega|rfl|assumption|(simp; done))
  have c3k:=c3
  try simp only [qcA,qcC,qcB] at c3
  refine .seq (rq2 rfl rfl (mV rfl rfl (aS rfl rfl (.nil (.code (.cond rfl (fun c4=>?_) (fun c4=>?_)))))))
  ·have c4k:=c4
   try simp only [qcA,qcC,qcB] at c4
   refine rq1 rfl rfl (aS rfl rfl (.nil (.blk (.code (.seq (Wk.draw (mc:=⟨false,false⟩) [0,1,2,3,4,7,8,9,5,6,10,11] Fx.mix (by kernel_rfl) ?_))))))
   refine mV rfl rfl (mV rfl rfl (mV rfl rfl (mV rfl rfl (kE ((min M.length 128)) rfl .no Fx.se24 hr (.u rfl) (.u rfl) (fun _=>by omega) (fun _=>by omega) ?_))))
   intro h51 L51 eL51 lL51 hs51
   have lL51:=lL51 rfl
   refine mV rfl rfl (mV rfl rfl (kE ((min M.length 128)) rfl .no Fx.se24 hr (.u rfl) (.u rfl) (fun _=>by omega) (fun _=>by omega) ?_))
   intro h56 L56 eL56 lL56 hs56
   have lL56:=lL56 rfl
   refine kc rfl Fx.go31 (Evc rfl (Evc rfl Evn)) (Ct.frzB (whead_ok 2#8 L51 h51 _ hs51 (by omega))) ?_
   rintro _ G52 μ52 hG52 ⟨h52,L52,eL52,rfl,rfl,hs52⟩
   have hr:=hr.mono hG52
   have hs51:=hs51.mono hG52
   have hs56:=hs56.mono hG52
   have lL52:L52.length=7:=by rw [eL52]; exact frame_len _ _
   refine apY rfl Fx.se24 Fx.zv5 (.u rfl) (.u rfl) .here hs52.sc (by (try simp only [qlA,yl_len]); omega) ?_
   intro v53 L53 ov53 eL53
   have lL53:L53.length=O.length+L52.length:=by rw [eL53,List.length_append]
   refine apY rfl Fx.se24 Fx.zv5 (.u rfl) (.u rfl) .here hs56.sc (by (try simp only [qlA,yl_len]); omega) ?_
   intro v57 L57 ov57 eL57
   have lL57:L57.length=L53.length+L56.length:=by rw [eL57,List.length_append]
   refine aS rfl rfl (.nil (.code (rq4 rfl rfl (mV rfl rfl (mV rfl rfl (kD ((min M.length 128)) rfl .no Fx.se24 hr (.u rfl) (.u rfl) (fun _=>by omega) (fun _=>by omega) ?_))))))
   intro h60 L60 eL60 lL60 hs60
   have lL60:=lL60 rfl
   refine aS rfl rfl (.nil (.blk (.code (rq1 rfl rfl (aS rfl rfl (.nil (We.lpo (j+1,h60,L60,v57,L57) ?_ ?_ ?_ ?_ ?_)))))))
   ·exact (esD rfl (esD rfl (esC rfl (by simp) eZ)))
   ·exact (mS .here rfl (mS .here rfl (mS .here rfl mN)))
   ·first|omega|(dsimp only; omega)
   ·exact (hGl0).trans hG52
   refine ⟨?_,?_,?_,?_⟩
   ·(try dsimp only)<;>(exact hs60)
   ·(try dsimp only)<;>(rw [eL60,eM]; exact drop_step)
   ·(try dsimp only)<;>(exact rec_step eO eM eL51 eL56 eL52 eL53 eL57 (kind_first (by omega) (by omega)))
   (try dsimp only)<;>(first|omega|rfl|assumption|(simp; done))
  have c4k:=c4
  try simp only [qcA,qcC,qcB] at c4
  refine .seq (rq2 rfl rfl (mV rfl rfl (aS rfl rfl (.nil (.code (.cond rfl (fun c5=>?_) (fun c5=>?_)))))))
  ·have c5k:=c5
   try simp only [qcA,qcC,qcB] at c5
   refine rq1 rfl rfl (aS rfl rfl (.nil (.blk (.code (.seq (Wk.draw (mc:=⟨false,false⟩) [0,1,2,3,4,7,8,9,5,6,10,11] Fx.mix (by kernel_rfl) ?_))))))
   refine mV rfl rfl (mV rfl rfl (mV rfl rfl (mV rfl rfl (kE ((min M.length 128)) rfl .no Fx.se24 hr (.u rfl) (.u rfl) (fun _=>by omega) (fun _=>by omega) ?_))))
   intro h51 L51 eL51 lL51 hs51
   have lL51:=lL51 rfl
   refine mV rfl rfl (mV rfl rfl (kE ((min M.length 128)) rfl .no Fx.se24 hr (.u rfl) (.u rfl) (fun _=>by omega) (fun _=>by omega) ?_))
   intro h56 L56 eL56 lL56 hs56
   have lL56:=lL56 rfl
   refine kc rfl Fx.go31 (Evc rfl (Evc rfl Evn)) (Ct.frzB (whead_ok 4#8 L51 h51 _ hs51 (by omega))) ?_
   rintro _ G52 μ52 hG52 ⟨h52,L52,eL52,rfl,rfl,hs52⟩
   have hr:=hr.mono hG52
   have hs51:=hs51.mono hG52
   have hs56:=hs56.mono hG52
   have lL52:L52.length=7:=by rw [eL52]; exact frame_len _ _
   refine apY rfl Fx.se24 Fx.zv5 (.u rfl) (.u rfl) .here hs52.sc (by (try simp only [qlA,yl_len]); omega) ?_
   intro v53 L53 ov53 eL53
   have lL53:L53.length=O.length+L52.length:=by rw [eL53,List.length_append]
   refine apY rfl Fx.se24 Fx.zv5 (.u rfl) (.u rfl) .here hs56.sc (by (try simp only [qlA,yl_len]); omega) ?_
   intro v57 L57 ov57 eL57
   have lL57:L57.length=L53.length+L56.length:=by rw [eL57,List.length_append]
   refine aS rfl rfl (.nil (.code (rq4 rfl rfl (mV rfl rfl (mV rfl rfl (kD ((min M.length 128)) rfl .no Fx.se24 hr (.u rfl) (.u rfl) (fun _=>by omega) (fun _=>by omega) ?_))))))
   intro h60 L60 eL60 lL60 hs60
   have lL60:=lL60 rfl
   refine aS rfl rfl (.nil (.blk (.code (rq1 rfl rfl (aS rfl rfl (.nil (We.lpo (j+1,h60,L60,v57,L57) ?_ ?_ ?_ ?_ ?_)))))))
   ·exact (esD rfl (esD rfl (esC rfl (by simp) eZ)))
   ·exact (mS .here rfl (mS .here rfl (mS .here rfl mN)))
   ·first|omega|(dsimp only; omega)
   ·exact (hGl0).trans hG52
   refine ⟨?_,?_,?_,?_⟩
   ·(try dsimp only)<;>(exact hs60)
   ·(try dsimp only)<;>(rw [eL60,eM]; exact drop_step)
   ·(try dsimp only)<;>(exact rec_step eO eM eL51 eL56 eL52 eL53 eL57 (kind_last (by omega) (by omega)))
   (try dsimp only)<;>(first|omega|rfl|assumption|(simp; done))
  have c5k:=c5
  try simp only [qcA,qcC,qcB] at c5
  refine .skip (.blk (.code (.seq (Wk.draw (mc:=⟨false,false⟩) [0,1,2,3,4,7,8,9,5,6,10,11] Fx.mix (by kernel_rfl) ?_))))
  refine mV rfl rfl (mV rfl rfl (mV rfl rfl (mV rfl rfl (kE ((min M.length 128)) rfl .no Fx.se24 hr (.u rfl) (.u rfl) (fun _=>by omega) (fun _=>by omega) ?_))))
  intro h51 L51 eL51 lL51 hs51
  have lL51:=lL51 rfl
  refine mV rfl rfl (mV rfl rfl (kE ((min M.length 128)) rfl .no Fx.se24 hr (.u rfl) (.u rfl) (fun _=>by omega) (fun _=>by omega) ?_))
  intro h56 L56 eL56 lL56 hs56
  have lL56:=lL56 rfl
  refine kc rfl Fx.go31 (Evc rfl (Evc rfl Evn)) (Ct.frzB (whead_ok 3#8 L51 h51 _ hs51 (by omega))) ?_
  rintro _ G52 μ52 hG52 ⟨h52,L52,eL52,rfl,rfl,hs52⟩
  have hr:=hr.mono hG52
  have hs56:=hs56.mono hG52
  have lL52:L52.length=7:=by rw [eL52]; exact frame_len _ _
  refine apY rfl Fx.se24 Fx.zv5 (.u rfl) (.u rfl) .here hs52.sc (by (try simp only [qlA,yl_len]); omega) ?_
  intro v53 L53 ov53 eL53
  have lL53:L53.length=O.length+L52.length:=by rw [eL53,List.length_append]
  refine apY rfl Fx.se24 Fx.zv5 (.u rfl) (.u rfl) .here hs56.sc (by (try simp only [qlA,yl_len]); omega) ?_
  intro v57 L57 ov57 eL57
  have lL57:L57.length=L53.length+L56.length:=by rw [eL57,List.length_append]
  refine aS rfl rfl (.nil (.code (rq4 rfl rfl (mV rfl rfl (mV rfl rfl (kD ((min M.length 128)) rfl .no Fx.se24 hr (.u rfl) (.u rfl) (fun _=>by omega) (fun _=>by omega) ?_))))))
  intro h60 L60 eL60 lL60 hs60
  have lL60:=lL60 rfl
  refine aS rfl rfl (.nil (.blk (.code (rq1 rfl rfl (aS rfl rfl (.nil (We.lpo (j+1,h60,L60,v57,L57) ?_ ?_ ?_ ?_ ?_)))))))
  ·exact (esD rfl (esD rfl (esC rfl (by simp) eZ)))
  ·exact (mS .here rfl (mS .here rfl (mS .here rfl mN)))
  ·first|omega|(dsimp only; omega)
  ·exact (hGl0).trans hG52
  refine ⟨?_,?_,?_,?_⟩
  ·(try dsimp only)<;>(exact hs60)
  ·(try dsimp only)<;>(rw [eL60,eM]; exact drop_step)
  ·(try dsimp only)<;>(exact rec_step eO eM eL51 eL56 eL52 eL53 eL57 (kind_mid (by omega) (by omega)))
  (try dsimp only)<;>(first|omega|rfl|assumption|(simp; done))
 have c2k:=c2
 try simp only [qcA,qcC,qcB] at c2
 refine .exit (.xcode (.xlp (.xblk (.code (.seq (rq3 rfl rfl (mV rfl rfl (aS rfl rfl (aS rfl rfl (.nil (.code (.ret (We.fin Tryz.results23 (.tmp rfl (.tmp rfl .nil)) (mS .here rfl mN) ?_)))))))))))))
 exact ⟨v,O,0,lay_good (by omega) (by rw [eL27,eL25]) eO (by omega),rfl,rfl⟩
theorem piece_ok (kind:Y) (p:List Y) (h:Sh) (G:PM) (hs:SlR G 1 encY h p) (hl:p.length≤1000000):Ct Tryz.prog 38 ([V kind,h.val p.length]:List Value).toArray G [] (PR 5 (fun L=>L=frameL kind p++p)):=by
 refine Ct.of Tryz.func38 rfl Tryz.ntmps38 rfl fun w0 hs0=>?_
 refine .seq (rq1 rfl rfl (aS rfl rfl (.nil (.code (.seq (rq3 rfl rfl (mV rfl rfl ?_)))))))
 refine Go.Tan.b1 rfl Fx.se24 Fx.zv5 (.u rfl) rfl rfl (by decide) ?_; intro b8
 refine aS rfl rfl (.nil (.code (.seq (wk_br [kind] 1 .here rfl rfl (by decide) ?_))))
 have lR8:([kind]:List Y).length=1:=rfl
 refine rq4 rfl rfl (mV rfl rfl (mV rfl rfl (apY rfl Fx.se24 Fx.zv5 (.u rfl) (.u rfl) .here hs.sc (by (try simp only [qlA,yl_len]); omega) ?_)))
 intro v11 L11 ov11 eL11
 have lL11:L11.length=[kind].length+p.length:=by rw [eL11,List.length_append]
 refine aS rfl rfl (.nil (.code (.seq ?_)))
 refine wk_fb .here (by first|(intro b hb; cases hb; done) | simp [keys,Res.keys]) ?_; intro GfR8 hR8 hleR8 evR8 hsR8; try rw [ evR8]
 refine rq6 rfl rfl (mV rfl rfl (kv rfl .no Fx.go84 (Evc rfl (Evc rfl Evn)) (fun _=>rcrcMore_ok 0#32 L11 _ _ hsR8 (by omega)) ?_))
 refine kv rfl .no Fx.go83 (Evc rfl Evn) (fun _=>rMask_ok _ _) ?_
 refine cu (k:=.u32) rfl .no rfl Fx.cv130_26 (.u rfl) ?_
 refine kc rfl Fx.go51 (Evc rfl (Evc rfl Evn)) (Ct.rowc (fFix_ok _ 4 _ (by decide))) ?_
 rintro v16 G16 μ16 hG16 ⟨L16,ov16,eL16,rfl⟩
 have hsR8:=hsR8.mono hG16
 refine aS rfl rfl (.nil (.code (.seq (rq7 rfl rfl (mV rfl rfl (mV rfl rfl (ln rfl .no Fx.sn24 (.u rfl) (ci rfl .no rfl Fx.cv3_26 (.u rfl) ?_))))))))
 refine kc rfl Fx.go51 (Evc rfl (Evc rfl Evn)) (Ct.frzB (fFix_ok _ 2 _ (by decide))) ?_
 rintro _ G21 μ21 hG21 ⟨h21,L21,eL21,rfl,rfl,hs21⟩
 have hsR8:=hsR8.mono hG21
 have lL16:L16.length=4:=by rw [eL16]; exact fix_len _ _
 have lL21:L21.length=2:=by rw [eL21]; exact fix_len _ _
 refine apY rfl Fx.se24 Fx.zv5 (.u rfl) (.u rfl) .here hs21.sc (by (try simp only [qlA,yl_len]); omega) ?_
 intro v22 L22 ov22 eL22
 have lL22:L22.length=L16.length+L21.length:=by rw [eL22,List.length_append]
 refine aS rfl rfl (.nil (.code (.seq (rq4 rfl rfl (mV rfl rfl (mV rfl rfl (apY rfl Fx.se24 Fx.zv5 (.u rfl) (.u rfl) .here hsR8.sc (by (try simp only [qlA,yl_len]); omega) ?_)))))))
 intro v25 L25 ov25 eL25
 have lL25:L25.length=L22.length+L11.length:=by rw [eL25,List.length_append]
 refine aS rfl rfl (.nil (.code (.seq (rq2 rfl rfl (mV rfl rfl (aS rfl rfl (.nil (.code (.ret (We.fin Tryz.results38 (.tmp rfl .nil) (mS .here rfl mN) ?_))))))))))
 exact ⟨L25,by rw [eL25,eL22,eL21,eL16,eL11]; exact frame_app _ _,rfl⟩
theorem rwLay_ok (root:Nat→Y) (h:Hd) (n:BitVec 64) (p:List Y) (hp:Sh) (G:PM) (hs:SlR G 1 encY hp p) (hR:RdNP G 0 0 (wa 64 kW)):Ct Tryz.prog 26 ([.agg (ba 32 root).toArray,.agg ([V h.kind,V h.level,uv .u64 h.gen,uv .u64 h.epoch,uv .u64 h.num]:List Value).toArray,uv .u64 n,hp.val p.length]:List Value).toArray G [] (fun _ μ' u=>∃ v L e,(L,e)=layP root h n p∧μ'=[rB v 5 L]∧u=.tuple #[v,.int .i64 e]):=by
 refine Ct.of Tryz.func26 rfl Tryz.ntmps26 rfl fun w0 hs0=>?_
 refine .seq (rq4 rfl rfl ?_)
 refine bx rfl (.u rfl) rfl ?_; intro b4
 refine bx rfl (.u rfl) rfl ?_; intro b5
 refine aS rfl rfl (aS rfl rfl (.nil (.code (.seq (.seq (rq3 rfl rfl (mV rfl rfl (ln rfl .no Fx.sn24 (.u rfl) (cp rfl .no (.u rfl) (.u rfl) rfl (.nil (.code (.cond rfl (fun c1=>?_) (fun c1=>?_)))))))))))))
 ·have c1k:=c1
  try simp only [qcA,qcC,qcB] at c1
  refine .seq (rq2 rfl rfl (aS rfl rfl (aS rfl rfl (.nil (.code (.ret (we_nilB 5 ?_)))))))
  refine We.fin Tryz.results26 (.tmp rfl (.tmp rfl .nil)) (mS .here rfl mN) ?_
  exact ⟨_,[],4,lay_long (by omega),rfl,rfl⟩
 have c1k:=c1
 try simp only [qcA,qcC,qcB] at c1
 refine .skip (.code (.seq (Wk.draw (mc:=⟨false,false⟩) [0,1,3,5,7,2,4,6,8,9] Fx.mix (by kernel_rfl) ?_)))
 refine lA rfl .no Fx.ag23 (.u rfl) (fun _=>RdN.own tk1) (fun _=>(by first|exact qE|exact qL|rfl)) ?_
 refine lA rfl .no Fx.ag28 (.u rfl) (fun _=>RdN.own .here) (fun _=>(by first|exact qE|exact qL|rfl)) ?_
 refine mV rfl rfl (lA rfl .no Fx.ag28 (.u rfl) (fun _=>RdN.own .here) (fun _=>(by first|exact qE|exact qL|rfl)) ?_)
 refine mV rfl rfl (kv rfl .no Fx.go37 (Evc rfl (Evc rfl Evn)) (fun _=>rKeyOf_ok root h _ hR) ?_)
 refine kv rfl .no Fx.go41 (Evc rfl Evn) (fun _=>rNonce_ok _ _) ?_
 refine kc rfl Fx.go42 (Evc rfl Evn) (Ct.frzB (rnLay_ok h _)) ?_
 rintro _ G24 μ24 hG24 ⟨h24,L24,eL24,rfl,rfl,hs24⟩
 have hs:=hs.mono hG24
 have hR:=hR.mono hG24
 refine kc rfl Fx.go71 (Evc rfl (Evc rfl (Evc rfl (Evc rfl Evn)))) (Ct.rowc (rSeal_ok (keyEnc root (headL h)) (keyMac root (headL h)) (nonceF n) L24 h24 p hp _ hs24 hs hR (by rw [eL24,head_len]; decide) (by omega))) ?_
 rintro v26 G26 μ26 hG26 ⟨L26,ov26,eL26,rfl⟩
 refine aS rfl rfl (.nil ?_)
 have lL26:L26.length=p.length+16:=by rw [eL26,seal_len]
 refine .code (.seq ?_)
 refine wk_fb .here (by first|(intro b hb; cases hb; done) | simp [keys,Res.keys]) ?_; intro GfR26 hR26 hleR26 evR26 hsR26; subst evR26
 refine rq1 rfl rfl (aS rfl rfl (.nil (.code (.seq (.seq (wk_nilB 5 ?_))))))
 refine rq1 rfl rfl (aS rfl rfl (.nil (.code (.block ?_))))
 refine Wk.lop (α:=Nat×Value×List Y) (fun gh=>[(11,true,gh.2.1),(12,true,.int .i64 ((128*gh.1:Nat):Int))]) (fun gh=>[rB gh.2.1 5 gh.2.2])
  (fun gh Gl=>(gh.2.2=outL L26 gh.1)∧(128*gh.1≤L26.length+127)) (fun gh=>L26.length+127-128*gh.1) (0,.slice none 0 0,[]) [(10,true,_)] [_,_]
  (esD rfl (esC rfl (by first|rfl|exact evi (by omega)) (esD rfl eZ)))
  (mS .here rfl (mS .here rfl (mS .here rfl mN))) ?_ ?_
 ·refine ⟨?_,?_⟩
  ·(try dsimp only)<;>(rfl)
  (try dsimp only)<;>(first|omega|rfl|assumption|(simp; done))
 intro gh N0 Gl0 hN0 hGl0 hF0
 obtain ⟨j,v,O⟩:=gh; dsimp only at hF0 hN0 ⊢
 obtain ⟨eO,hj⟩:=hF0
 have hsR26:=hsR26.mono hGl0
 have lO:=out_len L26 j
 rw [← eO] at lO
 refine .seq (.seq (rq4 rfl rfl (mV rfl rfl (mV rfl rfl (ln rfl .no Fx.sn24 (.u rfl) (cp rfl .no (.u rfl) (.u rfl) rfl (.nil (.code (.cond rfl (fun c2=>?_) (fun c2=>?_))))))))))
 ·have c2k:=c2
  try simp only [qcA,qcC,qcB] at c2
  refine .skip (.code (.seq (.block (.seq (rq6 rfl rfl (mV rfl rfl (ln rfl .no Fx.sn24 (.u rfl) (mV rfl rfl (arn (((((128*j:Nat))+128):Nat):Int) rfl .no (.u rfl) (.u rfl) rfl (fun _=>by omega) (fun _=>wrap_i64 (by omega) (by omega)) ?_)))))))))
  refine mIn (L26.length) ((((128*j:Nat))+128)) rfl .no (.u rfl) (.u rfl) (fun _=>by omega) (fun _=>by omega) ?_
  refine aS rfl rfl (.nil (.code (.seq (rq1 rfl rfl (aS rfl rfl (.nil (.code (.seq (.block (.seq (rq9 rfl rfl (mV rfl rfl (cp rfl .no (.u rfl) (.u rfl) rfl (mV rfl rfl (mv rfl (.t rfl rfl) (.u rfl) (mv rfl (.t rfl rfl) (.u rfl) (ln rfl (.t rfl rfl) Fx.sn24 (.s rfl) (cp rfl (.t rfl rfl) (.s rfl) (.s rfl) rfl (pkA rfl .no (.u rfl) (.s rfl) (aS rfl rfl (.nil (.code (.cond rfl (fun c3=>?_) (fun c3=>?_))))))))))))))))))))))))
  ·have c3k:=c3
   try simp only [qcA,qcC,qcB] at c3
   refine rq1 rfl rfl (aS rfl rfl (.nil (.blk (.code (rq9 rfl rfl (mV rfl rfl (mV rfl rfl (mV rfl rfl (mV rfl rfl (mV rfl rfl (kS (((128*j:Nat))) ((min L26.length (((128*j:Nat))+128))) rfl .no Fx.se24 hsR26 (.u rfl) (.u rfl) (.u rfl) (fun _=>by omega) (fun _=>by omega) (fun _=>by omega) (fun _=>by omega) ?_)))))))))))
   intro h60 L60 eL60 lL60 hs60
   have lL60:=lL60 rfl
   refine kc rfl Fx.go38 (Evc rfl (Evc rfl Evn)) (Ct.frzB (piece_ok 1#8 L60 h60 _ hs60 (by omega))) ?_
   rintro _ G61 μ61 hG61 ⟨h61,L61,eL61,rfl,rfl,hs61⟩
   have hsR26:=hsR26.mono hG61
   have hs60:=hs60.mono hG61
   have lL61:L61.length=7+L60.length:=by rw [eL61,List.length_append,frame_len]
   refine apY rfl Fx.se24 Fx.zv5 (.u rfl) (.u rfl) .here hs61.sc (by (try simp only [qlA,yl_len]); omega) ?_
   intro v62 L62 ov62 eL62
   have lL62:L62.length=O.length+L61.length:=by rw [eL62,List.length_append]
   refine aS rfl rfl (.nil (.blk (.code (rq3 rfl rfl (mV rfl rfl (arn (((((128*j:Nat))+128):Nat):Int) rfl .no (.u rfl) (.u rfl) rfl (fun _=>by omega) (fun _=>wrap_i64 (by omega) (by omega)) ?_))))))
   refine aS rfl rfl (.nil (We.lpo (j+1,v62,L62) ?_ ?_ ?_ ?_ ?_))
   ·exact (esD rfl (esC rfl (by first|rfl|exact evi (by omega)) (esD rfl eZ)))
   ·exact (mS .here rfl (mS .here rfl (mS .here rfl mN)))
   ·first|omega|(dsimp only; omega)
   ·exact (hGl0).trans hG61
   refine ⟨?_,?_⟩
   ·(try dsimp only)<;>(exact rrec_step eO eL60 eL61 eL62 (kind_full (by omega) (by omega)))
   (try dsimp only)<;>(first|omega|rfl|assumption|(simp; done))
  have c3k:=c3
  try simp only [qcA,qcC,qcB] at c3
  refine .seq (rq3 rfl rfl (mV rfl rfl (cp rfl .no (.u rfl) (.u rfl) rfl (aS rfl rfl (.nil (.code (.cond rfl (fun c4=>?_) (fun c4=>?_))))))))
  ·have c4k:=c4
   try simp only [qcA,qcC,qcB] at c4
   refine rq1 rfl rfl (aS rfl rfl (.nil (.blk (.code (rq9 rfl rfl (mV rfl rfl (mV rfl rfl (mV rfl rfl (mV rfl rfl (mV rfl rfl (kS (((128*j:Nat))) ((min L26.length (((128*j:Nat))+128))) rfl .no Fx.se24 hsR26 (.u rfl) (.u rfl) (.u rfl) (fun _=>by omega) (fun _=>by omega) (fun _=>by omega) (fun _=>by omega) ?_)))))))))))
   intro h60 L60 eL60 lL60 hs60
   have lL60:=lL60 rfl
   refine kc rfl Fx.go38 (Evc rfl (Evc rfl Evn)) (Ct.frzB (piece_ok 2#8 L60 h60 _ hs60 (by omega))) ?_
   rintro _ G61 μ61 hG61 ⟨h61,L61,eL61,rfl,rfl,hs61⟩
   have hsR26:=hsR26.mono hG61
   have hs60:=hs60.mono hG61
   have lL61:L61.length=7+L60.length:=by rw [eL61,List.length_append,frame_len]
   refine apY rfl Fx.se24 Fx.zv5 (.u rfl) (.u rfl) .here hs61.sc (by (try simp only [qlA,yl_len]); omega) ?_
   intro v62 L62 ov62 eL62
   have lL62:L62.length=O.length+L61.length:=by rw [eL62,List.length_append]
   refine aS rfl rfl (.nil (.blk (.code (rq3 rfl rfl (mV rfl rfl (arn (((((128*j:Nat))+128):Nat):Int) rfl .no (.u rfl) (.u rfl) rfl (fun _=>by omega) (fun _=>wrap_i64 (by omega) (by omega)) ?_))))))
   refine aS rfl rfl (.nil (We.lpo (j+1,v62,L62) ?_ ?_ ?_ ?_ ?_))
   ·exact (esD rfl (esC rfl (by first|rfl|exact evi (by omega)) (esD rfl eZ)))
   ·exact (mS .here rfl (mS .here rfl (mS .here rfl mN)))
   ·first|omega|(dsimp only; omega)
   ·exact (hGl0).trans hG61
   refine ⟨?_,?_⟩
   ·(try dsimp only)<;>(exact rrec_step eO eL60 eL61 eL62 (kind_first (by omega) (by omega)))
   (try dsimp only)<;>(first|omega|rfl|assumption|(simp; done))
  have c4k:=c4
  try simp only [qcA,qcC,qcB] at c4
  refine .seq (rq5 rfl rfl (mV rfl rfl (mV rfl rfl (ln rfl .no Fx.sn24 (.u rfl) (cp rfl .no (.u rfl) (.u rfl) rfl (aS rfl rfl (.nil (.code (.cond rfl (fun c5=>?_) (fun c5=>?_))))))))))
  ·have c5k:=c5
   try simp only [qcA,qcC,qcB] at c5
   refine rq1 rfl rfl (aS rfl rfl (.nil (.blk (.code (rq9 rfl rfl (mV rfl rfl (mV rfl rfl (mV rfl rfl (mV rfl rfl (mV rfl rfl (kS (((128*j:Nat))) ((min L26.length (((128*j:Nat))+128))) rfl .no Fx.se24 hsR26 (.u rfl) (.u rfl) (.u rfl) (fun _=>by omega) (fun _=>by omega) (fun _=>by omega) (fun _=>by omega) ?_)))))))))))
   intro h60 L60 eL60 lL60 hs60
   have lL60:=lL60 rfl
   refine kc rfl Fx.go38 (Evc rfl (Evc rfl Evn)) (Ct.frzB (piece_ok 4#8 L60 h60 _ hs60 (by omega))) ?_
   rintro _ G61 μ61 hG61 ⟨h61,L61,eL61,rfl,rfl,hs61⟩
   have hsR26:=hsR26.mono hG61
   have hs60:=hs60.mono hG61
   have lL61:L61.length=7+L60.length:=by rw [eL61,List.length_append,frame_len]
   refine apY rfl Fx.se24 Fx.zv5 (.u rfl) (.u rfl) .here hs61.sc (by (try simp only [qlA,yl_len]); omega) ?_
   intro v62 L62 ov62 eL62
   have lL62:L62.length=O.length+L61.length:=by rw [eL62,List.length_append]
   refine aS rfl rfl (.nil (.blk (.code (rq3 rfl rfl (mV rfl rfl (arn (((((128*j:Nat))+128):Nat):Int) rfl .no (.u rfl) (.u rfl) rfl (fun _=>by omega) (fun _=>wrap_i64 (by omega) (by omega)) ?_))))))
   refine aS rfl rfl (.nil (We.lpo (j+1,v62,L62) ?_ ?_ ?_ ?_ ?_))
   ·exact (esD rfl (esC rfl (by first|rfl|exact evi (by omega)) (esD rfl eZ)))
   ·exact (mS .here rfl (mS .here rfl (mS .here rfl mN)))
   ·first|omega|(dsimp only; omega)
   ·exact (hGl0).trans hG61
   refine ⟨?_,?_⟩
   ·(try dsimp only)<;>(exact rrec_step eO eL60 eL61 eL62 (kind_last (by omega) (by omega)))
   (try dsimp only)<;>(first|omega|rfl|assumption|(simp; done))
  have c5k:=c5
  try simp only [qcA,qcC,qcB] at c5
  refine .skip (.blk (.code (rq9 rfl rfl (mV rfl rfl (mV rfl rfl (mV rfl rfl (mV rfl rfl (mV rfl rfl (kS (((128*j:Nat))) ((min L26.length (((128*j:Nat))+128))) rfl .no Fx.se24 hsR26 (.u rfl) (.u rfl) (.u rfl) (fun _=>by omega) (fun _=>by omega) (fun _=>by omega) (fun _=>by omega) ?_)))))))))
  intro h60 L60 eL60 lL60 hs60
  have lL60:=lL60 rfl
  refine kc rfl Fx.go38 (Evc rfl (Evc rfl Evn)) (Ct.frzB (piece_ok 3#8 L60 h60 _ hs60 (by omega))) ?_
  rintro _ G61 μ61 hG61 ⟨h61,L61,eL61,rfl,rfl,hs61⟩
  have lL61:L61.length=7+L60.length:=by rw [eL61,List.length_append,frame_len]
  refine apY rfl Fx.se24 Fx.zv5 (.u rfl) (.u rfl) .here hs61.sc (by (try simp only [qlA,yl_len]); omega) ?_
  intro v62 L62 ov62 eL62
  have lL62:L62.length=O.length+L61.length:=by rw [eL62,List.length_append]
  refine aS rfl rfl (.nil (.blk (.code (rq3 rfl rfl (mV rfl rfl (arn (((((128*j:Nat))+128):Nat):Int) rfl .no (.u rfl) (.u rfl) rfl (fun _=>by omega) (fun _=>wrap_i64 (by omega) (by omega)) ?_))))))
  refine aS rfl rfl (.nil (We.lpo (j+1,v62,L62) ?_ ?_ ?_ ?_ ?_))
  ·exact (esD rfl (esC rfl (by first|rfl|exact evi (by omega)) (esD rfl eZ)))
  ·exact (mS .here rfl (mS .here rfl (mS .here rfl mN)))
  ·first|omega|(dsimp only; omega)
  ·exact (hGl0).trans hG61
  refine ⟨?_,?_⟩
  ·(try dsimp only)<;>(exact rrec_step eO eL60 eL61 eL62 (kind_mid (by omega) (by omega)))
  (try dsimp only)<;>(first|omega|rfl|assumption|(simp; done))
 have c2k:=c2
 try simp only [qcA,qcC,qcB] at c2
 refine .exit (.xcode (.xlp (.xblk (.code (.seq (rq3 rfl rfl (mV rfl rfl (aS rfl rfl (aS rfl rfl (.nil (.code (.ret (We.fin Tryz.results26 (.tmp rfl (.tmp rfl .nil)) (mS .here rfl mN) ?_)))))))))))))
 exact ⟨v,O,0,lay_good (by omega) (by rw [eL26,eL24]) eO (by omega),rfl,rfl⟩
namespace Fx
theorem bp135_0:bPl Tryz.prog 135 [0]=some ([.slice none 0 0,.int .i64 0],[(0,1)]):=by kernel_rfl
theorem pt88:ptT Tryz.prog 88=true:=by kernel_rfl
theorem fo135_1:fOff Tryz.prog 135 1=some 1:=by kernel_rfl
theorem ag36:aggN Tryz.prog 36=some none:=by kernel_rfl
theorem fo135_0:fOff Tryz.prog 135 0=some 0:=by kernel_rfl
theorem cv5_26:cvK Tryz.prog 5 26=some .u64:=by kernel_rfl
end Fx
theorem wcNew_ok (xs:List Y) (h:Sh) (G:PM) (hs:SlR G 1 encY h xs) (hl:xs.length≤100000000000000):Ct Tryz.prog 33 ([h.val xs.length]:List Value).toArray G [] (fun G' μ' u=>∃ b s,μ'=[.blk b (cl [Sh.val s xs.length,.int .i64 0] 135)]∧u=.pointer (some ⟨b,0,none⟩)∧SlR G' 1 encY s xs):=by
 refine Ct.of Tryz.func33 rfl Tryz.ntmps33 rfl fun w0 hs0=>?_
 refine .seq (rq1 rfl rfl (aS rfl rfl (.nil (.code (.seq (rq6 rfl rfl ?_))))))
 refine b0B rfl Fx.se24 ?_; intro b3
 refine mV rfl rfl (apY0 rfl Fx.se24 Fx.zv5 (.u rfl) (.u rfl) .here hs.sc (by (try simp only [qlA,yl_len]); omega) ?_)
 intro v5 L5 _ ov5 eL5
 have lL5:L5.length=xs.length:=by rw [eL5]
 refine bCe ([v5,.int .i64 0]) rfl .no Fx.bp135_0 (.cons (.u rfl) (cells_one ov5) .nil) rfl (rfl) ?_
 refine bx rfl (.u rfl) rfl ?_; intro b7
 refine aS rfl rfl (.nil (.code (.ret ?_)))
 refine we_fb tk1 (by first|(intro b hb; cases hb; done) | simp [keys,Res.keys]) ?_; intro GfR5 hR5 hleR5 evR5 hsR5; subst evR5
 refine We.fin Tryz.results33 (.tmp rfl .nil) (mS .here rfl mN) ?_
 subst eL5
 exact ⟨b7,hR5,rfl,rfl,hsR5⟩
theorem rdFix_ok (xs:List Y) (s:Sh) (b:Nat) (G:PM) (hs:SlR G 1 encY s xs) (h8:8≤xs.length) (hl:xs.length≤100000000000000):Ct Tryz.prog 34 ([.pointer (some ⟨b,0,none⟩),.int .i64 ((8:Nat):Int)]:List Value).toArray G [.blk b (cl [s.val xs.length,.int .i64 0] 135)] (fun G' μ' u=>∃ s',μ'=[.blk b (cl [Sh.val s' (xs.drop 8).length,.int .i64 0] 135)]∧u=uv .u64 (unfK xs 8)∧SlR G' 1 encY s' (xs.drop 8)):=by
 refine Ct.of Tryz.func34 rfl Tryz.ntmps34 rfl fun w0 hs0=>?_
 refine .seq (rq1 rfl rfl (aS rfl rfl (.nil (.code (.seq (.seq (rq9 rfl rfl (mV rfl rfl (pe rfl .no Fx.pt88 (.u rfl) (.u rfl) ?_)))))))))
 refine mV rfl rfl (mv rfl (Gd.f (b:=false) rfl rfl) (.u rfl) (nc rfl (Gd.f (b:=false) rfl rfl) (.u rfl) (fz rfl (Gd.f (b:=false) rfl rfl) Fx.fo135_1 (.u rfl) (ld rfl (Gd.f (b:=false) rfl rfl) Fx.ag36 (.u rfl) (fun _=>Rd.own .here (by first|exact wap_f rfl|rfl)) ?_))))
 refine cp rfl (Gd.f (b:=false) rfl rfl) (.u rfl) (.u rfl) rfl (pkO rfl .no (.u rfl) (.u rfl) (.nil (.code (.cond rfl (fun c1=>?_) (fun c1=>?_)))))
 ·have c1k:=c1
  exact absurd c1 (by decide)
 have c1k:=c1
 try simp only [qcA,qcB] at c1
 refine .skip (.code (.seq (.seq (rq6 rfl rfl (mV rfl rfl (cp rfl .no (.u rfl) (.u rfl) rfl (mV rfl rfl (mv rfl (.f rfl rfl) (.u rfl) (cp rfl (.f rfl rfl) (.s rfl) (.u rfl) rfl (pkO rfl .no (.u rfl) (.s rfl) (.nil (.code (.cond rfl (fun c2=>?_) (fun c2=>?_))))))))))))))
 ·have c2k:=c2
  exact absurd c2 (by decide)
 have c2k:=c2
 try simp only [qcA,qcB] at c2
 refine .skip (.code (.seq (.seq (rq7 rfl rfl (mV rfl rfl (mV rfl rfl (nc rfl .no (.u rfl) (fz rfl .no Fx.fo135_0 (.u rfl) (ld rfl .no Fx.ag24 (.u rfl) (fun _=>Rd.own .here (by first|exact wap_f rfl|rfl)) ?_)))))))))
 refine ln rfl .no Fx.sn24 (.u rfl) (cp rfl .no (.u rfl) (.u rfl) rfl (.nil (.code (.cond rfl (fun c3=>?_) (fun c3=>?_)))))
 ·have c3k:=c3
  try simp only [qcA,qcB] at c3
  exfalso; omega
 have c3k:=c3
 try simp only [qcA,qcB] at c3
 refine .skip (.code (.seq (rq1 rfl rfl (aS rfl rfl (.nil (.code (.seq (.seq (rq2 rfl rfl (mV rfl rfl (mV rfl rfl (.nil (.code (.block ?_))))))))))))))
 refine Wk.lop (α:=Nat×BitVec 64) (fun gh=>[(5,true,uv .u64 gh.2),(36,true,.int .i64 (gh.1:Int))]) (fun _=>[])
  (fun gh Gl=>(gh.1≤8)∧(gh.2=unfK xs gh.1)) (fun gh=>8-gh.1) (0,0#64) [(0,true,_),(1,true,_),(35,true,_)] [_]
  (esD rfl (esC rfl (by first|rfl|exact evi (by omega)) (esD rfl (esD rfl (esD rfl eZ)))))
  (mS .here rfl mN) ?_ ?_
 ·refine ⟨?_,?_⟩
  ·(try dsimp only)<;>(first|omega|rfl|assumption|(simp; done))
  (try dsimp only)<;>(rfl)
 intro gh N0 Gl0 hN0 hGl0 hF0
 obtain ⟨k,m⟩:=gh; dsimp only at hF0 hN0 ⊢
 obtain ⟨hk,em⟩:=hF0
 have hs:=hs.mono hGl0
 refine .seq (rq1 rfl rfl (cp rfl .no (.u rfl) (.u rfl) rfl (.nil (.code (.seq (.cond rfl (fun c4=>?_) (fun c4=>?_)))))))
 ·have c4k:=c4
  try simp only [qcA,qcB] at c4
  refine .skip (.code (.seq (.block (.seq (rq2 rfl rfl (mV rfl rfl (aS rfl rfl (.nil (.code (Wk.rg [0,1,2,3,4,5,6,7,8,9,10,11,12,13] rfl rfl (mV rfl rfl (mV rfl rfl (nc rfl .no (.u rfl) (fz rfl .no Fx.fo135_0 (.u rfl) (ld rfl .no Fx.ag24 (.u rfl) (fun _=>Rd.own .here (by first|exact wap_f rfl|rfl)) ?_)))))))))))))))
  refine mV rfl rfl (ih rfl .no Fx.se24 (.u rfl) (.u rfl) (fun _=>by omega) (fun _=>by omega) (fun _=>hs.nn (k:=k) (by omega)) ?_)
  refine ld rfl .no Fx.ag5 (.u rfl) (fun _=>(hs.yat (k) (by omega) (by omega)).rd) ?_
  refine cu (k:=.u8) rfl .no rfl Fx.cv5_26 (.u rfl) ?_
  refine mV rfl rfl (arn (((8*k):Nat):Int) rfl .no (.u rfl) (.u rfl) rfl (fun _=>by omega) (fun _=>wrap_i64 (by omega) (by omega)) ?_)
  refine lw (k:=.u64) rfl .no rfl (.u rfl) (.u rfl) (fun _=>by omega) ?_
  refine bw (k:=.u64) rfl .no rfl (.u rfl) (.u rfl) rfl (aS rfl rfl (.nil (.blk (.code (rq2 rfl rfl (arn (((k+1):Nat):Int) rfl .no (.u rfl) (.u rfl) rfl (fun _=>by omega) (fun _=>wrap_i64 (by omega) (by omega)) ?_))))))
  refine mV rfl rfl (.nil (We.lpo (k+1,m ||| (xs.getD k 0).setWidth 64 <<< (8*k)) ?_ ?_ ?_ ?_ ?_))
  ·exact (esD rfl (esC rfl (by first|rfl|exact evi (by omega)) (esD rfl (esD rfl (esD rfl eZ)))))
  ·exact (mS .here rfl mN)
  ·first|omega|(dsimp only; omega)
  ·exact hGl0
  refine ⟨?_,?_⟩
  ·(try dsimp only)<;>(first|omega|rfl|assumption|(simp; done))
  (try dsimp only)<;>(rw [em]; rfl)
 have c4k:=c4
 try simp only [qcA,qcB] at c4
 refine .exit (.xcode (.xlp (.xblk (.code (.seq (rq10 rfl rfl (mV rfl rfl (mV rfl rfl (nc rfl .no (.u rfl) (fz rfl .no Fx.fo135_0 (.u rfl) (ld rfl .no Fx.ag24 (.u rfl) (fun _=>Rd.own .here (by first|exact wap_f rfl|rfl)) ?_)))))))))))
 refine mV rfl rfl (kD (8) rfl .no Fx.se24 hs (.u rfl) (.u rfl) (fun _=>by omega) (fun _=>by omega) ?_)
 intro h59 L59 eL59 lL59 hs59
 have lL59:=lL59 rfl
 refine nc rfl .no (.u rfl) (fz rfl .no Fx.fo135_0 (.u rfl) (s1 rfl (.u rfl) (.u rfl) rfl Fx.sz24 .here (by first|decide|(simp only [wa_len,ba_len,qlA]; omega)) (rfl) ?_))
 refine .nil (.code (.seq (rq2 rfl rfl (mV rfl rfl (aS rfl rfl (.nil (.code (.ret (We.fin Tryz.results34 (.tmp rfl .nil) (mS .here rfl mN) ?_)))))))))
 obtain rfl:k=8:=by omega
 exact ⟨h59,by rw [eL59]; rfl,by rw [em]; rfl,by rw [← eL59]; exact hs59⟩
namespace Fx
theorem zq28:zrL Tryz.prog 28=some ([V 0#8,V 0#8,uv .u64 0#64,uv .u64 0#64,uv .u64 0#64]):=by kernel_rfl
theorem bp28_:bPl Tryz.prog 28 []=some ([V 0#8,V 0#8,uv .u64 0#64,uv .u64 0#64,uv .u64 0#64],[]):=by kernel_rfl
theorem sz28:szT Tryz.prog 28=some 5:=by kernel_rfl
theorem go33:goFn Tryz.prog 33=true:=by kernel_rfl
theorem bp28_0_1:bPl Tryz.prog 28 [0,1]=some ([V 0#8,V 0#8,uv .u64 0#64,uv .u64 0#64,uv .u64 0#64],[(0,1),(1,1)]):=by kernel_rfl
theorem go34:goFn Tryz.prog 34=true:=by kernel_rfl
theorem sz26:szT Tryz.prog 26=some 1:=by kernel_rfl
theorem go72:goFn Tryz.prog 72=true:=by kernel_rfl
end Fx
theorem Take_ok (xs:List Y) (h:Sh) (G:PM) (hs:SlR G 1 encY h xs) (hl:xs.length≤100000000000000):Ct Tryz.prog 28 ([h.val xs.length]:List Value).toArray G [] (fun _ μ' u=>μ'=[]∧u=.tuple #[.agg (takeH xs).1.cells.toArray,.int .i64 (takeH xs).2]):=by
 refine Ct.of Tryz.func28 rfl Tryz.ntmps28 rfl fun w0 hs0=>?_
 refine .seq (rq2 rfl rfl ?_)
 refine al rfl Fx.zq28 ?_; intro b2
 refine aS rfl rfl (.nil (.code (.seq (.seq (rq3 rfl rfl (mV rfl rfl (ln rfl .no Fx.sn24 (.u rfl) (cp rfl .no (.u rfl) (.u rfl) rfl (.nil (.code (.cond rfl (fun c1=>?_) (fun c1=>?_))))))))))))
 ·have c1k:=c1
  try simp only [qcA,qcC,qcB] at c1
  refine .seq (rq3 rfl rfl (bC rfl .no Fx.bp28_ .nil rfl ?_))
  refine sw rfl (.u rfl) (.u rfl) rfl Fx.sz28 .here (by first|exact qE|exact qL|rfl) (one5 rfl rfl rfl rfl rfl) ?_
  refine aS rfl rfl (.nil (.code (.ret (We.fin0 Tryz.results28 (.cell rfl (fun w hw=>run_loadVarN Fx.ag28 (RdN.own .here) ((by first|exact qE|exact qL|rfl)) hw) (.tmp rfl .nil)) ?_))))
  exact ⟨rfl,by rw [take_short (by omega)]; rfl⟩
 have c1k:=c1
 try simp only [qcA,qcC,qcB] at c1
 refine .skip (.code (.seq (rq4 rfl rfl (mV rfl rfl (kS (6) (30) rfl .no Fx.se24 hs (.u rfl) (.u rfl) (.u rfl) (fun _=>by omega) (fun _=>by omega) (fun _=>by omega) (fun _=>by omega) ?_)))))
 intro h11 L11 eL11 lL11 hs11
 have lL11:=lL11 rfl
 refine kc rfl Fx.go33 (Evc rfl Evn) (wcNew_ok L11 h11 _ hs11 (by omega)) ?_
 rintro _ G12 μ12 hG12 ⟨b12,sn0,rfl,rfl,hsn0⟩
 have hs:=hs.mono hG12
 refine aS rfl rfl (.nil (.code (.seq (Wk.draw (mc:=⟨false,false⟩) [0,1,2,3,4,5,6,7,8] Fx.mix (by kernel_rfl) ?_))))
 refine mV rfl rfl (ih rfl .no Fx.se24 (.u rfl) (.u rfl) (fun _=>by omega) (fun _=>by omega) (fun _=>hs.nn (k:=4) (by omega)) ?_)
 refine ld rfl .no Fx.ag5 (.u rfl) (fun _=>(hs.yat (4) (by omega) (by omega)).rd) ?_
 refine mV rfl rfl (ih rfl .no Fx.se24 (.u rfl) (.u rfl) (fun _=>by omega) (fun _=>by omega) (fun _=>hs.nn (k:=5) (by omega)) ?_)
 refine ld rfl .no Fx.ag5 (.u rfl) (fun _=>(hs.yat (5) (by omega) (by omega)).rd) ?_
 refine bCe ([V (xs.getD 4 0),V (xs.getD 5 0),uv .u64 0#64,uv .u64 0#64,uv .u64 0#64]) rfl .no Fx.bp28_0_1 (.cons (.u rfl) rfl (.cons (.u rfl) rfl .nil)) rfl (rfl) ?_
 refine al rfl Fx.zq28 ?_; intro b5
 refine sw rfl (.u rfl) (.u rfl) rfl Fx.sz28 .here (by first|exact qE|exact qL|rfl) (one5 rfl rfl rfl rfl rfl) ?_
 refine .nil (.code (.seq (rq4 rfl rfl (mV rfl rfl (ka rfl (.inr rfl) Fx.go34 (Evc rfl (Evc rfl Evn)) (mtk1 tk1) (rdFix_ok L11 sn0 _ _ hsn0 (by (try simp only [List.length_drop]); omega) (by (try simp only [List.length_drop]); omega)) ?_)))))
 rintro _ G21 μ21 hG21 ⟨sn1,rfl,rfl,hsn1⟩
 have hs:=hs.mono hG21
 refine fz rfl .no Fx.fo28_2 (.u rfl) (s1 rfl (.u rfl) (.u rfl) rfl Fx.sz26 tk1 (show 2<5 by decide) (rfl) ?_)
 refine .nil (.code (.seq (rq4 rfl rfl (mV rfl rfl (ka rfl (.inr rfl) Fx.go34 (Evc rfl (Evc rfl Evn)) (mtk1 tk1) (rdFix_ok (L11.drop 8) sn1 _ _ hsn1 (by (try simp only [List.length_drop]); omega) (by (try simp only [List.length_drop]); omega)) ?_)))))
 rintro _ G24 μ24 hG24 ⟨sn2,rfl,rfl,hsn2⟩
 have hs:=hs.mono hG24
 refine fz rfl .no Fx.fo28_3 (.u rfl) (s1 rfl (.u rfl) (.u rfl) rfl Fx.sz26 tk1 (show 3<5 by decide) (rfl) ?_)
 refine .nil (.code (.seq (rq4 rfl rfl (mV rfl rfl (ka rfl (.inr rfl) Fx.go34 (Evc rfl (Evc rfl Evn)) (mtk1 tk1) (rdFix_ok ((L11.drop 8).drop 8) sn2 _ _ hsn2 (by (try simp only [List.length_drop]); omega) (by (try simp only [List.length_drop]); omega)) ?_)))))
 rintro _ G27 μ27 hG27 ⟨sn3,rfl,rfl,hsn3⟩
 have hs:=hs.mono hG27
 refine fz rfl .no Fx.fo28_4 (.u rfl) (s1 rfl (.u rfl) (.u rfl) rfl Fx.sz26 tk1 (show 4<5 by decide) (rfl) ?_)
 refine .nil (.code (.seq (.seq (rq9 rfl rfl (mV rfl rfl (kE (4) rfl .no Fx.se24 hs (.u rfl) (.u rfl) (fun _=>by omega) (fun _=>by omega) ?_))))))
 intro h30 L30 eL30 lL30 hs30
 have lL30:=lL30 rfl
 refine sB rfl .no Fx.bs24_9 (.u rfl) (fun _=>hs30.sc) ?_
 refine cs rfl .no (.u rfl) (.u rfl) rfl (mV rfl rfl (lA rfl (.f rfl rfl) Fx.ag28 (.u rfl) (fun _=>RdN.own .here) (fun _=>(by first|exact qE|exact qL|rfl)) ?_))
 refine kv rfl (.f rfl rfl) Fx.go72 (Eva.cons (.s rfl) Evn) (fun hc=>nRight_ok ⟨xs.getD 4 0,xs.getD 5 0,unfK L11 8,unfK (L11.drop 8) 8,unfK ((L11.drop 8).drop 8) 8⟩ _) ?_
 refine nt rfl (.f rfl rfl) (.s rfl) (pkO rfl .no (.u rfl) (.s rfl) (.nil (.code (.cond rfl (fun c2=>?_) (fun c2=>?_)))))
 ·have c2k:=c2
  try simp only [qcA,qcC,qcB] at c2
  refine .seq (rq3 rfl rfl (bC rfl .no Fx.bp28_ .nil rfl ?_))
  refine sw rfl (.u rfl) (.u rfl) rfl Fx.sz28 tk2 (by first|exact qE|exact qL|rfl) (one5 rfl rfl rfl rfl rfl) ?_
  refine aS rfl rfl (.nil (.code (.ret (We.fin0 Tryz.results28 (.cell rfl (fun w hw=>run_loadVarN Fx.ag28 (RdN.own .here) ((by first|exact qE|exact qL|rfl)) hw) (.tmp rfl .nil)) ?_))))
  rw [head_at eL11] at c2k
  exact ⟨rfl,by rw [take_bad (by omega) (fun hq=>take_c2 eL30 c2k hq)]; rfl⟩
 have c2k:=c2
 try simp only [qcA,qcC,qcB] at c2
 refine .skip (.code (.seq (rq3 rfl rfl (lA rfl .no Fx.ag28 (.u rfl) (fun _=>RdN.own .here) (fun _=>(by first|exact qE|exact qL|rfl)) ?_))))
 refine sw rfl (.u rfl) (.u rfl) rfl Fx.sz28 tk2 (by first|exact qE|exact qL|rfl) (one5 rfl rfl rfl rfl rfl) ?_
 refine aS rfl rfl (.nil (.code (.ret (We.fin0 Tryz.results28 (.cell rfl (fun w hw=>run_loadVarN Fx.ag28 (RdN.own .here) ((by first|exact qE|exact qL|rfl)) hw) (.tmp rfl .nil)) ?_))))
 rw [head_at eL11] at c2k
 exact ⟨rfl,by rw [take_good (by omega) (take_c3 eL30 c2k),←head_at eL11]; rfl⟩
namespace Fx
theorem zq56:zrL Tryz.prog 56=some ([V 0#8,V 0#8,uv .u64 0#64,uv .u64 0#64,uv .u64 0#64,.slice none 0 0,.int .i64 0,.bool false]):=by kernel_rfl
theorem bp56_3:bPl Tryz.prog 56 [3]=some ([V 0#8,V 0#8,uv .u64 0#64,uv .u64 0#64,uv .u64 0#64,.slice none 0 0,.int .i64 0,.bool false],[(7,1)]):=by kernel_rfl
theorem sz56:szT Tryz.prog 56=some 8:=by kernel_rfl
theorem ag56:aggN Tryz.prog 56=some (some 8):=by kernel_rfl
theorem go28:goFn Tryz.prog 28=true:=by kernel_rfl
theorem bp56_:bPl Tryz.prog 56 []=some ([V 0#8,V 0#8,uv .u64 0#64,uv .u64 0#64,uv .u64 0#64,.slice none 0 0,.int .i64 0,.bool false],[]):=by kernel_rfl
end Fx
end Go.Proofs.YtdeobooblmjlfaaGreatDoor
namespace Go.Tan
abbrev Dg:=Nat→Y
def leafD (xs:List Y):Dg:=shaD (0#8 :: xs)
def joinD (a b:Dg):Dg:=shaD (1#8 :: (yl 32 a++yl 32 b))
def emptyD:Dg:=shaD [2#8]
def partL (k n:Nat):Nat→Nat
 | 0=>k
 | f+1=>if k+k<n then partL (k*2) n f else k
def partN (n:Nat):Nat:=partL 1 n n
theorem partL_spec:∀ (f k n:Nat),0<k→n≤k*2^f→k<n→(∃ a,k=2^a)→(∃ b,partL k n f=2^b)∧partL k n f<n∧n≤partL k n f+partL k n f
 | 0,k,n,h0,hn,hk,ha=>by rw [Nat.pow_zero,Nat.mul_one] at hn; omega
 | f+1,k,n,h0,hn,hk,⟨a,ha⟩=>by
  unfold partL
  split
  ·rename_i h
   refine partL_spec f (k*2) n (by omega) ?_ (by omega) ⟨a+1,by rw [ha,Nat.pow_succ]⟩
   rw [Nat.pow_succ,Nat.mul_comm (2^f) 2,←Nat.mul_assoc] at hn; exact hn
  exact ⟨⟨a,ha⟩,hk,by omega⟩
theorem partN_spec {n:Nat} (h:2≤n):(∃ b,partN n=2^b)∧partN n<n∧n≤partN n+partN n :=
 partL_spec n 1 n (by decide) (by rw [Nat.one_mul]; exact Nat.le_of_lt (Nat.lt_two_pow_self)) (by omega) ⟨0,rfl⟩
theorem partN_pos {n:Nat} (h:2≤n):0<partN n:=by have:=(partN_spec h).2.2; omega
theorem pow_uniq {a b n:Nat} (h1:2^a<n) (h2:n≤2^a+2^a) (h3:2^b<n) (h4:n≤2^b+2^b):a=b:=by
 rcases Nat.lt_trichotomy a b with h | h | h
 ·have:=Nat.pow_le_pow_right (n:=2) (by decide) (show a+1≤b by omega)
  rw [Nat.pow_succ] at this; omega
 ·exact h
 ·have:=Nat.pow_le_pow_right (n:=2) (by decide) (show b+1≤a by omega)
  rw [Nat.pow_succ] at this; omega
theorem partN_eq {a m:Nat} (h0:0<m) (hm:m≤2^a):partN (2^a+m)=2^a:=by
 have hp:0<2^a:=Nat.pow_pos (by decide)
 obtain ⟨⟨b,hb⟩,h1,h2⟩:=partN_spec (n:=2^a+m) (by omega)
 rw [hb] at h1 h2 ⊢
 rw [pow_uniq h1 h2 (show 2^a<2^a+m by omega) (by omega)]
def rootD (l:List Dg):Dg :=
 match l with
 | []=>emptyD
 | [d]=>d
 | a :: b :: r=>joinD (rootD ((a :: b :: r).take (partN (r.length+2)))) (rootD ((a :: b :: r).drop (partN (r.length+2))))
termination_by l.length
decreasing_by
 ·have:=partN_spec (n:=r.length+2) (by omega)
  simp only [List.length_take,List.length_cons]; omega
 ·have:=partN_pos (n:=r.length+2) (by omega)
  simp only [List.length_drop,List.length_cons]; omega
theorem root_nil:rootD []=emptyD:=by rw [rootD]
theorem root_one (d:Dg):rootD [d]=d:=by rw [rootD]
theorem root_two {l:List Dg} (h:2≤l.length):rootD l=joinD (rootD (l.take (partN l.length))) (rootD (l.drop (partN l.length))):=by
 match l,h with
 | a :: b :: r,_=>rw [rootD]; rfl
theorem root_join {s t:List Dg} {a:Nat} (hs:s.length=2^a) (h0:0<t.length) (ht:t.length≤2^a):rootD (s++t)=joinD (rootD s) (rootD t):=by
 have hp:0<2^a:=Nat.pow_pos (by decide)
 have hl:(s++t).length=2^a+t.length:=by rw [List.length_append,hs]
 rw [root_two (by omega),hl,partN_eq h0 ht,←hs,List.take_left,List.drop_left]
inductive Stk:List (Nat×Dg)→List Dg→Prop
 | nil:Stk [] []
 | cons {a:Nat} {r:Dg} {S:List (Nat×Dg)} {L seg:List Dg} (hS:Stk S L) (hl:seg.length=2^a) (hr:rootD seg=r) (hlt:∀ b s S',S=(b,s) :: S'→a<b):Stk ((a,r) :: S) (L++seg)
def finD (d:Dg):List (Nat×Dg)→Dg
 | []=>d
 | p :: S=>finD (joinD p.2 d) S
theorem Stk.root:∀ {S:List (Nat×Dg)} {L T:List Dg},Stk S L→0<T.length→(∀ b s S',S=(b,s) :: S'→T.length≤2^b)→rootD (L++T)=finD (rootD T) S
 | [],L,T,h,h0,_=>by cases h; rfl
 | (a,r) :: S,L,T,h,h0,hb=>by
  cases h with
  | @cons _ _ _ L seg hS hl hr hlt =>
   rw [List.append_assoc,Stk.root hS (by rw [List.length_append]; omega) (fun b s S' e=>by
    have h1:=hlt b s S' e
    have h2:=hb a r S rfl
    have h3:=Nat.pow_le_pow_right (n:=2) (by decide) (show a+1≤b by omega)
    rw [Nat.pow_succ] at h3
    rw [List.length_append,hl]; omega),root_join hl h0 (hb a r S rfl),hr]
   rfl
theorem Stk.done {a:Nat} {r:Dg} {S:List (Nat×Dg)} {L:List Dg} (h:Stk ((a,r) :: S) L):rootD L=finD r S:=by
 cases h with
 | @cons _ _ _ L seg hS hl hr hlt =>
  have hp:0<2^a:=Nat.pow_pos (by decide)
  rw [Stk.root hS (by omega) (fun b s S' e=>by rw [hl]; exact Nat.pow_le_pow_right (by decide) (Nat.le_of_lt (hlt b s S' e))),hr]
theorem pow_odd (a d t:Nat):2^(a+1+d)*t+2^a=2^a*(2*(2^d*t)+1):=by
 rw [Nat.pow_add,Nat.pow_succ,Nat.mul_add,Nat.mul_one]
 simp only [Nat.mul_assoc]
theorem Stk.len:∀ {S:List (Nat×Dg)} {L:List Dg} {a:Nat} {r:Dg},Stk ((a,r) :: S) L→∃ m,L.length=2^a*(2*m+1)
 | [],L,a,r,h=>by
  cases h with
  | @cons _ _ _ L seg hS hl hr hlt=>cases hS; exact ⟨0,by simpa using hl⟩
 | (b,s) :: S,L,a,r,h=>by
  cases h with
  | @cons _ _ _ L seg hS hl hr hlt =>
   obtain ⟨m,hm⟩:=Stk.len hS
   have hab:=hlt b s S rfl
   obtain ⟨d,rfl⟩ : ∃ d,b=a+1+d:=⟨b-a-1,by omega⟩
   refine ⟨2^d*(2*m+1),?_⟩
   rw [List.length_append,hm,hl,pow_odd]
structure Pend (S:List (Nat×Dg)) (d:Dg) (a:Nat) (l:List Dg):Prop where
 out:∃ L seg,Stk S L∧seg.length=2^a∧rootD seg=d∧L++seg=l∧∀ b s S',S=(b,s) :: S'→a≤b
theorem Pend.start {S:List (Nat×Dg)} {L:List Dg} (h:Stk S L) (d:Dg):Pend S d 0 (L++[d]):=⟨L,[d],h,rfl,root_one d,rfl,fun _ _ _ _=>Nat.zero_le _⟩
theorem Pend.even {S:List (Nat×Dg)} {d:Dg} {a:Nat} {l:List Dg} (h:Pend S d a l) (he:(l.length / 2^a)%2=0):∃ s S',S=(a,s) :: S'∧Pend S' (joinD s d) (a+1) l∧l.length / 2^a / 2=l.length / 2^(a+1):=by
 obtain ⟨L,seg,hS,hl,hr,he',hb⟩:=h.out
 have hp:0<2^a:=Nat.pow_pos (by decide)
 have hdiv:l.length / 2^a / 2=l.length / 2^(a+1):=by rw [Nat.div_div_eq_div_mul,Nat.pow_succ]
 have hlen:l.length=L.length+2^a:=by rw [← he',List.length_append,hl]
 match S,hS,hb with
 | [],hS,hb =>
  cases hS
  rw [List.length_nil,Nat.zero_add] at hlen
  rw [hlen,Nat.div_self hp] at he; cases he
 | (b,s) :: S',hS,hb =>
  obtain ⟨m,hm⟩:=hS.len
  have hab:=hb b s S' rfl
  by_cases e:a=b
  ·subst e
   refine ⟨s,S',rfl,?_,hdiv⟩
   cases hS with
   | @cons _ _ _ L0 seg0 hS0 hl0 hr0 hlt =>
    refine ⟨L0,seg0++seg,hS0,by rw [List.length_append,hl0,hl,Nat.pow_succ]; omega,?_,by rw [← List.append_assoc]; exact he',fun b s S'' e=>hlt b s S'' e⟩
    rw [root_join hl0 (by omega) (by omega),hr0,hr]
  exfalso
  obtain ⟨d',rfl⟩ : ∃ d',b=a+1+d':=⟨b-a-1,by omega⟩
  have h3:l.length=2^a*(2*(2^d'*(2*m+1))+1):=by
   rw [hlen,hm,pow_odd]
  rw [h3,Nat.mul_div_cancel_left _ hp] at he
  omega
theorem Pend.odd {S:List (Nat×Dg)} {d:Dg} {a:Nat} {l:List Dg} (h:Pend S d a l) (he:(l.length / 2^a)%2=1):Stk ((a,d) :: S) l:=by
 obtain ⟨L,seg,hS,hl,hr,he',hb⟩:=h.out
 have hp:0<2^a:=Nat.pow_pos (by decide)
 subst he'
 refine .cons hS hl hr fun b s S' e=>?_
 have hab:=hb b s S' e
 rcases Nat.lt_or_eq_of_le hab with h1 | h1
 ·exact h1
 exfalso
 subst e; subst h1
 obtain ⟨m,hm⟩:=hS.len
 rw [List.length_append,hl,hm,show 2^a*(2*m+1)+2^a=2^a*(2*m+2) by rw [Nat.mul_add,Nat.mul_one,Nat.mul_add]; omega,Nat.mul_div_cancel_left _ hp] at he
 omega
theorem Stk.short:∀ {S:List (Nat×Dg)} {L:List Dg},Stk S L→S.length≤L.length
 | [],_,_=>Nat.zero_le _
 | (a,r) :: S,L,h=>by
  cases h with
  | @cons _ _ _ L seg hS hl hr hlt =>
   have:=Stk.short hS
   have hp:0<2^a:=Nat.pow_pos (by decide)
   rw [List.length_append,List.length_cons]; omega
section
variable {dr:Bool} {mc:Md} {P:Program} {n:Nat} {l:List Oper} {K:Env→PM→Mem→Prop} {i:Nat} {σ:List Nat} {ρ:Env} {G:PM} {μ:Mem}
variable {d t:Nat} {p:String} {af:Array Edge} {g:Option (Nat×Bool)} {c:Bool}
theorem run_eqn {T m:Nat} {s:Sh} (hT:(slE P T).isSome=true) (w:World):(Op.equal T (s.val m) (.slice none 0 0)).run P w=.ok s.oa.isNone w:=by
 unfold slE at hT
 split at hT
 ·rename_i e hu
  unfold Op.equal
  rw [show Op.maxDepth=9999+1 from rfl,Op.equalIn]
  obtain ⟨oa,cap⟩:=s
  cases oa<;>simp [run_underlying hu,Sh.val]
 ·cases hT
theorem sn0 {T T' m:Nat} {x y:Operand} {s:Sh} (ho:nth l i=some ⟨some d,.binOp .eql T x y T',t,p,af,g⟩) (hg:Gd l ρ g c) (hT:(slE P T).isSome=true) (hx:Ev ρ c x (s.val m)) (hy:Ev ρ c y (.slice none 0 0)) (h:Wo dr mc P n l K σ ((d,c,.bool s.oa.isNone) :: ρ) G μ):Wo dr mc P n l K (i :: σ) ρ G μ :=
 .pure ho (.inl rfl) hg (fun hc q w ha=>by
  have hq:(eqGuard .eql T x y (s.val m) (.slice none 0 0)).run P w=.ok () w:=by unfold eqGuard; simp [Sh.val]
  have hb:(binOp .eql T (s.val m) (.slice none 0 0)).run P w=.ok (.bool s.oa.isNone) w:=by
   have:=run_eqn (P:=P) (s:=s) (m:=m) hT w
   simp only [Sh.val] at this ⊢
   simp [binOp,this]
  simp [execOp,hx.eval ha hc,hy.eval ha hc,hq,hb]) h
theorem sn1 {T T' m:Nat} {x y:Operand} {s:Sh} (ho:nth l i=some ⟨some d,.binOp .neq T x y T',t,p,af,g⟩) (hg:Gd l ρ g c) (hT:(slE P T).isSome=true) (hx:Ev ρ c x (s.val m)) (hy:Ev ρ c y (.slice none 0 0)) (h:Wo dr mc P n l K σ ((d,c,.bool (!s.oa.isNone)) :: ρ) G μ):Wo dr mc P n l K (i :: σ) ρ G μ :=
 .pure ho (.inl rfl) hg (fun hc q w ha=>by
  have hq:(eqGuard .neq T x y (s.val m) (.slice none 0 0)).run P w=.ok () w:=by unfold eqGuard; simp [Sh.val]
  have hb:(binOp .neq T (s.val m) (.slice none 0 0)).run P w=.ok (.bool (!s.oa.isNone)) w:=by
   have:=run_eqn (P:=P) (s:=s) (m:=m) hT w
   simp only [Sh.val] at this ⊢
   simp [binOp,this]
  simp [execOp,hx.eval ha hc,hy.eval ha hc,hq,hb]) h
theorem splice_take {A C:List Value} {o m:Nat} (h1:o+C.length≤m) (h2:m≤A.length):(A.take o++C++A.drop (o+C.length)).take m=(A.take m).take o++C++(A.take m).drop (o+C.length):=by
 have hl:(A.take o++C).length=o+C.length:=by rw [List.length_append,List.length_take]; omega
 rw [List.take_append,List.take_of_length_le (by omega),hl,List.take_take,Nat.min_eq_left (by omega),List.drop_take]
abbrev rS {α:Type} (sz:Nat) (enc:α→List Value) (v:Value) (E:Nat) (xs:List α):Res:=.row v E sz xs.length (xs.flatMap enc)
theorem apS {α:Type} {enc:α→List Value} {sz T E by' b cp:Nat} {x y:Operand} {v z:Value} {xs:List α} {μ' μ2:Mem} (a:α) (ho:nth l i=some ⟨some d,.call { callee:=.builtin .append,args:=#[x,y],argTypes:=#[T,T] },t,p,af,none⟩)
  (hT:slE P T=some (E,sz,by')) (hz:(P.info? E).bind (·.zero)=some z) (hzs:z.cells.size=sz) (hx:Ev ρ true x v) (hy:Ev ρ true y (.slice (some ⟨b,0,none⟩) 1 cp)) (hm:MTake μ (rS sz enc v E xs) μ') (hb:MTake μ (.blk b (cl (enc a) E)) μ2) (ha:(enc a).length=sz) (h1:∀ u∈enc a,u.oneCell'=true) (hl:(xs.length+1)*by'≤140737488355328) (hl2:xs.length+1≤maxLen)
  (h:∀ v',v'.oneCell'=true→Wo dr mc P n l K σ ((d,true,v') :: ρ) G (rS sz enc v' E (xs++[a]) :: μ')) (hmc:mc.a=false∨dr=false:=by first|exact .inl rfl|exact .inr rfl):Wo dr mc P n l K (i :: σ) ρ G μ:=by
 refine .act (μ₁:=[rS sz enc v E xs]) (μ₂:=μ') (post:=fun G' μ' v'=>G'=G∧v'.oneCell'=true∧μ'=[rS sz enc v' E (xs++[a])]) ho (by rcases hmc with h | h<;>simp [kindOf,h]) .no hm.perm (fun q w hq hs=>.inl ?_) ?_
 ·obtain ⟨v',w',hrun,ht⟩:=run_ap (ty:=t) (cp:=cp) (news:=enc a) (k:=1) (oa:=some ⟨b,0,none⟩) hT hz hzs hs.left (by rw [ha]; omega) (fun _=>⟨b,0,rfl,fun j u hj=>(RdN.own hb) j u hj w (hs.perm hm.perm.symm)⟩) h1 hl hl2
  refine ⟨v',w',G,[rS sz enc v' E (xs++[a])],.inl (by simp [execOp,resolve,invoke,builtin,hx.eval hq rfl,hy.eval hq rfl,hrun]),?_,rfl,ht.sat.rowOne,rfl⟩
  simp only [rS,List.length_append,List.flatMap_append,List.flatMap_cons,List.flatMap_nil,List.append_nil]; exact ht
 rintro v' G' μ'' _ ⟨rfl,h1,rfl⟩
 exact h v' h1
theorem Tr.frzS {α:Type} {enc:α→List Value} {sz:Nat} {G0:PM} {K0:List Nat} {w0 w:World} {E:Nat} {v:Value} {xs:List α} (hsz:∀ x∈xs,(enc x).length=sz) (h:Tr G0 K0 w0 G (rS sz enc v E xs :: μ) w) (hK:∀ b∈K0,b∈keys μ) :
  ∃ G' s,PM.le G G'∧v=Sh.val s xs.length∧SlR G' sz enc s xs∧Tr G0 K0 w0 G' μ w:=by
 obtain ⟨G',s,h1,h2,h3,h4,h5,h6⟩:=h.freezeRow hK
 exact ⟨G',s,h1,h2,SlR.ofRow hsz h3 h4 h5,h6⟩
theorem we_fs {α:Type} {enc:α→List Value} {sz:Nat} {X:Cx} {e:Exit} {k:List KI} {E:Nat} {v:Value} {xs:List α} {μ':Mem} (hm:MTake μ (rS sz enc v E xs) μ') (hsz:∀ x∈xs,(enc x).length=sz) (hK:∀ b∈X.K0,b∈keys μ') (h:∀ G' s,PM.le G G'→v=Sh.val s xs.length→SlR G' sz enc s xs→We X e k ρ G' μ'):We X e k ρ G μ :=
 ⟨fun a w ha ht=>by
  obtain ⟨G',s,h1,h2,h3,h4⟩:=(ht.perm hm.perm).frzS hsz hK
  exact (h G' s h1 h2 h3).out a w ha h4⟩
theorem wk_fs {α:Type} {enc:α→List Value} {sz:Nat} {X:Cx} {cd:Code} {k:List KI} {E:Nat} {v:Value} {xs:List α} {μ':Mem} (hm:MTake μ (rS sz enc v E xs) μ') (hsz:∀ x∈xs,(enc x).length=sz) (hK:∀ b∈X.K0,b∈keys μ') (h:∀ G' s,PM.le G G'→v=Sh.val s xs.length→SlR G' sz enc s xs→Wk X cd k ρ G' μ'):Wk X cd k ρ G μ :=
 ⟨fun a w ha ht=>by
  obtain ⟨G',s,h1,h2,h3,h4⟩:=(ht.perm hm.perm).frzS hsz hK
  exact (h G' s h1 h2 h3).out a w ha h4⟩
theorem wk_nilS {α:Type} (sz:Nat) (enc:α→List Value) {X:Cx} {cd:Code} {k:List KI} (E:Nat) (h:Wk X cd k ρ G (rS sz enc (.slice none 0 0) E [] :: μ)):Wk X cd k ρ G μ:=wk_nilRow E sz h
theorem we_nilS {α:Type} (sz:Nat) (enc:α→List Value) {X:Cx} {e:Exit} {k:List KI} (E:Nat) (h:We X e k ρ G (rS sz enc (.slice none 0 0) E [] :: μ)):We X e k ρ G μ:=we_nilRow E sz h
structure AllS (G:PM) (ps:List (Sh×List Y)):Prop where
 all:∀ p∈ps,SlR G 1 encY p.1 p.2
theorem AllS.mono {G G':PM} {ps:List (Sh×List Y)} (h:AllS G ps) (hle:PM.le G G'):AllS G' ps:=⟨fun p hp=>(h.all p hp).mono hle⟩
theorem AllS.nil {G:PM}:AllS G []:=⟨fun p hp=>by cases hp⟩
theorem SlP.of {G:PM} {s:Sh} {ps:List (Sh×List Y)} (h:SlR G 1 encP s ps) (hA:AllS G ps):SlP G s ps:=⟨h,hA.all⟩
theorem SlP.nul {G:PM}:SlP G ⟨Option.none,0⟩ []:=⟨SlR.nul,fun p hp=>by cases hp⟩
theorem slr {T e sz by' b m cap:Nat} {x y:Operand} {k:IntKind} {lo:Int} (q:Nat) (ho:nth l i=some ⟨some d,.slice T x (some y) none none,t,p,af,none⟩) (hT:slE P T=some (e,sz,by')) (hx:Ev ρ true x (.slice (some ⟨b,0,none⟩) m cap)) (hy:Ev ρ true y (.int k lo))
  (hq:lo=q) (h1:q≤m) (h2:m≤cap) (h3:q<cap) (h:Wo dr mc P n l K σ ((d,true,.slice (some ⟨b,q*sz,none⟩) (m-q) (cap-q)) :: ρ) G μ):Wo dr mc P n l K (i :: σ) ρ G μ :=
 .pure ho (.inl rfl) .no (fun _ a w ha=>by
  obtain ⟨hu,inf,hi,rfl,rfl⟩:=slE_some hT
  subst hq
  have hx':=hx.eval ha rfl
  have hn:¬ cap=q:=by omega
  simp [execOp,hx',hy.eval ha rfl,Instr.sliceAt,run_underlying hu,Instr.slice,Instr.sliceBounds,Instr.sliceBound,asIntOf,sizeOf,typeInfo,hi,h1,h2,hn,add_lit]) h
theorem apL {α:Type} {enc:α→List Value} {sz T E by':Nat} {x y:Operand} {v z:Value} {s:Sh} {xs ys:List α} {μ':Mem} (ho:nth l i=some ⟨some d,.call { callee:=.builtin .append,args:=#[x,y],argTypes:=#[T,T] },t,p,af,none⟩)
  (hT:slE P T=some (E,sz,by')) (hz:(P.info? E).bind (·.zero)=some z) (hzs:z.cells.size=sz) (hx:Ev ρ true x v) (hy:Ev ρ true y (s.val ys.length)) (hm:MTake μ (rS sz enc v E xs) μ') (hs:SlR G sz enc s ys) (hsz:∀ a∈ys,(enc a).length=sz) (h1:∀ u∈ys.flatMap enc,u.oneCell'=true) (hl:(xs.length+ys.length)*by'≤140737488355328) (hl2:xs.length+ys.length≤maxLen)
  (h:∀ v',v'.oneCell'=true→Wo dr mc P n l K σ ((d,true,v') :: ρ) G (rS sz enc v' E (xs++ys) :: μ')) (hmc:mc.a=false∨dr=false:=by first|exact .inl rfl|exact .inr rfl):Wo dr mc P n l K (i :: σ) ρ G μ:=by
 refine .act (μ₁:=[rS sz enc v E xs]) (μ₂:=μ') (post:=fun G' μ' v'=>G'=G∧v'.oneCell'=true∧μ'=[rS sz enc v' E (xs++ys)]) ho (by rcases hmc with h | h<;>simp [kindOf,h]) .no hm.perm (fun q w hq hs'=>.inl ?_) ?_
 ·obtain ⟨v',w',hrun,ht⟩:=run_ap (ty:=t) (cp:=s.cap) (news:=ys.flatMap enc) (k:=ys.length) (oa:=s.oa) hT hz hzs hs'.left (flat_len hsz) (fun h0=>⟨s.b,s.o,hs.nn h0,fun j u hj=>((SlR.flat hsz hs).rd (μ:=μ)) j u hj w (hs'.perm hm.perm.symm)⟩) h1 hl hl2
  refine ⟨v',w',G,[rS sz enc v' E (xs++ys)],.inl ?_,?_,rfl,ht.sat.rowOne,rfl⟩
  ·have hy':=hy.eval hq rfl
   simp only [Sh.val] at hy'
   simp [execOp,resolve,invoke,builtin,hx.eval hq rfl,hy',hrun]
  simp only [rS,List.length_append,List.flatMap_append]; exact ht
 rintro v' G' μ'' _ ⟨rfl,h1,rfl⟩
 exact h v' h1
end
inductive CK where
 | int (k:IntKind)
 | str
 | bool
 deriving DecidableEq
def litOf:Value→Lit
 | .int k n=>.int k n
 | .string s=>.string s.data.toList
 | .bool b=>.bool b
 | _=>.bool false
inductive CkOk:CK→Value→Prop where
 | int {k:IntKind} {n:Int} (h1:k.min≤n) (h2:n≤k.max):CkOk (.int k) (.int k n)
 | str {s:ByteArray} (h:s.size≤maxLen):CkOk .str (.string s)
 | bool {b:Bool}:CkOk .bool (.bool b)
inductive Conf:List CK→List Value→Prop where
 | nil:Conf [] []
 | cons {k v ks cs} (h:CkOk k v) (r:Conf ks cs):Conf (k :: ks) (v :: cs)
theorem Conf.len {ks:List CK} {cs:List Value} (h:Conf ks cs):cs.length=ks.length:=by
 induction h with
 | nil=>rfl
 | cons _ _ ih=>simp [ih]
theorem Conf.app {ks ks':List CK} {cs cs':List Value} (h:Conf ks cs) (h':Conf ks' cs'):Conf (ks++ks') (cs++cs'):=by
 induction h with
 | nil=>exact h'
 | cons h1 _ ih=>exact .cons h1 ih
theorem Conf.split {ks ks':List CK}:∀ {cs:List Value},Conf (ks++ks') cs→Conf ks (cs.take ks.length)∧Conf ks' (cs.drop ks.length):=by
 induction ks with
 | nil=>intro cs h; exact ⟨by simpa using Conf.nil,by simpa using h⟩
 | cons k ks ih =>
  intro cs h
  cases h with
  | cons h1 r =>
   obtain ⟨h2,h3⟩:=ih r
   exact ⟨.cons h1 h2,h3⟩
theorem Conf.inj {ks:List CK} {cs cs':List Value} (h:Conf ks cs) (h':Conf ks cs') (e:cs.map litOf=cs'.map litOf):cs=cs':=by
 induction h generalizing cs' with
 | nil=>cases h'; rfl
 | cons h1 _ ih =>
  cases h' with
  | cons h2 r2 =>
   simp only [List.map_cons,List.cons.injEq] at e
   rw [ih r2 e.2]
   congr 1
   cases h1 with
   | int _ _=>cases h2 with | int _ _=>have:=e.1; simp only [litOf,Lit.int.injEq,true_and] at this; rw [this]
   | @str s1 _=>cases h2 with
    | @str s2 _ =>
     have:=e.1
     simp only [litOf,Lit.string.injEq] at this
     have h3:s1.data=s2.data:=by
      have:=congrArg List.toArray this
      simpa using this
     obtain ⟨d1⟩:=s1
     obtain ⟨d2⟩:=s2
     simp only at h3
     rw [h3]
   | bool=>cases h2 with | bool=>have:=e.1; simp only [litOf,Lit.bool.injEq] at this; rw [this]
def shpF (P:Program) (f:TypeId→Option (List CK)):Nat→List Field→Option (List CK)
 | _,[]=>some []
 | o,fl :: r=>match f fl.type with
  | some ks=>if fl.offset=o∧P.cellsOf fl.type=ks.length then (shpF P f (o+ks.length) r).map (ks++·) else none
  | none=>none
def shp (P:Program):Nat→TypeId→Option (List CK)
 | 0,_=>none
 | d+1,t=>match P.underlying t with
  | some (.int k)=>some [.int k]
  | some .string=>some [.str]
  | some .bool=>some [.bool]
  | some (.array n e)=>match shp P d e with
   | some ks=>if P.cellsOf e=ks.length∧P.cellsOf t=n*ks.length then some (List.replicate n ks).flatten else none
   | none=>none
  | some (.struct fs)=>match shpF P (shp P d) 0 fs.toList with
   | some ks=>if P.cellsOf t=ks.length∧fs.all (·.name != "_")=true then some ks else none
   | none=>none
  | _=>none
theorem conf_rep {ks:List CK}:∀ {n:Nat} {cs:List Value},Conf (List.replicate n ks).flatten cs→∀ i,i<n→Conf ks ((cs.drop (i*ks.length)).take ks.length)
 | 0,_,_,i,hi=>by omega
 | n+1,cs,h,i,hi=>by
  rw [List.replicate_succ,List.flatten_cons] at h
  obtain ⟨h1,h2⟩:=h.split
  cases i with
  | zero=>simpa using h1
  | succ i =>
   have:=conf_rep h2 i (by omega)
   rw [List.drop_drop] at this
   rwa [Nat.succ_mul,Nat.add_comm]
theorem chunks {α:Type} {f:Value→α} {L:Nat}:∀ {n:Nat} {cs:List Value},cs.length=n*L→((List.range n).map fun i=>((cs.drop (i*L)).take L).map f).flatten=cs.map f
 | 0,cs,h=>by
  obtain rfl:cs=[]:=List.eq_nil_of_length_eq_zero (by simpa using h)
  rfl
 | n+1,cs,h=>by
  rw [List.range_succ_eq_map,List.map_cons,List.flatten_cons,List.map_map,Nat.zero_mul,List.drop_zero]
  have h2:=chunks (f:=f) (L:=L) (n:=n) (cs:=cs.drop L) (by rw [List.length_drop,h,Nat.succ_mul]; omega)
  have e:(List.map ((fun i=>List.map f (List.take L (List.drop (i*L) cs))) ∘ Nat.succ) (List.range n))=(List.range n).map fun i=>(((cs.drop L).drop (i*L)).take L).map f:=by
   apply List.map_congr_left
   intro i _
   simp only [Function.comp,List.drop_drop,Nat.succ_mul,Nat.add_comm]
  rw [e,h2,←List.map_append,List.take_append_drop]
theorem mapM_all {α β:Type} {f:α→Option β} {g:α→β}:∀ {l:List α},(∀ x∈l,f x=some (g x))→l.mapM f=some (l.map g)
 | [],_=>by simp
 | x :: l,h=>by simp [List.mapM_cons,h x (List.mem_cons_self ..),mapM_all (l:=l) fun z hz=>h z (List.mem_cons_of_mem _ hz)]
section
variable {P:Program}
theorem conf_fields {d:Nat} (ih:∀ t ks cs,shp P d t=some ks→Conf ks cs→P.keyLits d t cs=some (cs.map litOf)):∀ (fs:List Field) (o:Nat) (ks:List CK) (cs:List Value),shpF P (shp P d) o fs=some ks→Conf ks (cs.drop o) →
  ∃ r,fs.mapM (fun f=>P.keyLits d f.type ((cs.drop f.offset).take (P.cellsOf f.type)))=some r∧r.flatten=(cs.drop o).map litOf
 | [],o,ks,cs,h,hc=>by
  simp only [shpF,Option.some.injEq] at h
  subst h
  have:=hc.len
  exact ⟨[],by simp,by rw [List.eq_nil_of_length_eq_zero this]; rfl⟩
 | fl :: r,o,ks,cs,h,hc=>by
  simp only [shpF] at h
  split at h
  ·rename_i ks1 h1
   split at h
   ·rename_i h2
    cases h3:shpF P (shp P d) (o+ks1.length) r with
    | none=>rw [h3] at h; cases h
    | some ks2 =>
     rw [h3] at h
     simp only [Option.map_some,Option.some.injEq] at h
     subst h
     obtain ⟨c1,c2⟩:=hc.split
     rw [List.drop_drop] at c2
     obtain ⟨rr,hr1,hr2⟩:=conf_fields ih r (o+ks1.length) ks2 cs h3 c2
     have hk:=ih fl.type ks1 _ h1 c1
     refine ⟨((cs.drop o).take ks1.length).map litOf :: rr,?_,?_⟩
     ·rw [List.mapM_cons,h2.1,h2.2,hk,hr1]; rfl
     rw [List.flatten_cons,hr2,←List.map_append,←List.drop_drop,List.take_append_drop]
   cases h
  cases h
theorem conf_lits:∀ (d:Nat) (t:TypeId) (ks:List CK) (cs:List Value),shp P d t=some ks→Conf ks cs→P.keyLits d t cs=some (cs.map litOf)
 | 0,_,_,_,h,_=>by cases h
 | d+1,t,ks,cs,h,hc=>by
  simp only [shp] at h
  unfold Program.keyLits
  split at h
  ·rename_i k hu
   simp only [Option.some.injEq] at h
   subst h
   cases hc with
   | cons h1 r=>cases r; cases h1 with | int a b=>simp [hu,Lit.wf,a,b,litOf]
  ·rename_i hu
   simp only [Option.some.injEq] at h
   subst h
   cases hc with
   | cons h1 r=>cases r; cases h1 with | str a=>simp [hu,a,litOf]
  ·rename_i hu
   simp only [Option.some.injEq] at h
   subst h
   cases hc with
   | cons h1 r=>cases r; cases h1 with | bool=>simp [hu,litOf]
  ·rename_i n e hu
   split at h
   ·rename_i ks1 h1
    split at h
    ·rename_i h2
     simp only [Option.some.injEq] at h
     subst h
     have hl:cs.length=n*ks1.length:=by
      rw [hc.len]; simp
     have hm:=mapM_all (l:=List.range n) (f:=fun i=>P.keyLits d e ((cs.drop (i*P.cellsOf e)).take (P.cellsOf e))) (g:=fun i=>((cs.drop (i*ks1.length)).take ks1.length).map litOf)
      (fun i hi=>by rw [h2.1]; exact conf_lits d e ks1 _ h1 (conf_rep hc i (List.mem_range.1 hi)))
     rw [hu]
     simp only [hl,h2.2,if_true,hm,Option.map_some,chunks hl]
    ·cases h
   ·cases h
  ·rename_i fs hu
   split at h
   ·rename_i ks1 h1
    split at h
    ·rename_i h2
     simp only [Option.some.injEq] at h
     subst h
     obtain ⟨r,hr1,hr2⟩:=conf_fields (conf_lits d) fs.toList 0 ks1 cs h1 (by simpa using hc)
     rw [hu]
     simp only [hc.len,h2.1,h2.2,and_self,if_true,hr1,Option.map_some,hr2,List.drop_zero]
    ·cases h
   ·cases h
  ·cases h
def eqT (P:Program) (m:Nat) (T:TypeId) (ks:List CK):Bool :=
 (match shp P m T with | some k=>k == ks | none=>false)&&P.keyTypeAt m T && !P.eqGuardType P.depth T&&Nat.ble m 10000&&(match P.underlying T with | some (.struct _) | some (.array _ _)=>Nat.beq (P.cellsOf T) ks.length | _=>false)
theorem run_eqC {T m:Nat} {ks:List CK} {cs cs':List Value} {r:Bool} (hT:eqT P m T ks=true) (h1:Conf ks cs) (h2:Conf ks cs') (hr:r=true↔cs=cs') (w:World) :
  (Op.equal T (.agg cs.toArray) (.agg cs'.toArray)).run P w=.ok r w∧P.eqGuardType P.depth T=false:=by
 simp only [eqT,Bool.and_eq_true,Bool.not_eq_true'] at hT
 obtain ⟨⟨⟨⟨hs,hk⟩,hg⟩,hm⟩,hf⟩:=hT
 have hs':shp P m T=some ks:=by
  split at hs
  ·rename_i k hk'; rw [hk',beq_iff_eq.1 hs]
  ·cases hs
 have hm:=Nat.le_of_ble_eq_true hm
 have hform:∀ cs:List Value,Conf ks cs→(Value.agg cs.toArray).formed P T=true:=by
  intro cs hc
  have hl:=hc.len
  simp only [Value.formed]
  split at hf<;>rename_i hu<;>first|(rw [hu]; have:=Nat.eq_of_beq_eq_true hf; simp [this,hl]) | cases hf
 obtain ⟨r',hr',hiff⟩:=run_equalIn_deep (10000-m) m T hk w m m (.agg cs.toArray) (.agg cs'.toArray) (cs.map litOf) (cs'.map litOf) (hform _ h1) (hform _ h2) (by simpa [Value.cells] using conf_lits m T ks cs hs' h1) (by simpa [Value.cells] using conf_lits m T ks cs' hs' h2)
 rw [show 10000-m+m=10000 by omega] at hr'
 have e:r'=r:=by
  have h3:r'=true↔r=true:=by
   rw [hiff,hr]
   exact ⟨fun e=>h1.inj h2 e,fun e=>by rw [e]⟩
  cases r<;>cases r'<;>simp_all
 subst e
 exact ⟨hr',hg⟩
variable {dr:Bool} {mc:Md} {n:Nat} {l:List Oper} {K:Env→PM→Mem→Prop} {i:Nat} {σ:List Nat} {ρ:Env} {G:PM} {μ:Mem}
variable {d t:Nat} {p:String} {af:Array Edge} {g:Option (Nat×Bool)} {c:Bool}
theorem eqC {T T' m:Nat} {x y:Operand} {ks:List CK} {cs cs':List Value} (r:Bool) (ho:nth l i=some ⟨some d,.binOp .eql T x y T',t,p,af,g⟩) (hg:Gd l ρ g c) (hT:eqT P m T ks=true) (hx:Ev ρ c x (.agg cs.toArray)) (hy:Ev ρ c y (.agg cs'.toArray))
  (h1:c=true→Conf ks cs) (h2:c=true→Conf ks cs') (hr:c=true→(r=true↔cs=cs')) (h:Wo dr mc P n l K σ ((d,c,.bool r) :: ρ) G μ):Wo dr mc P n l K (i :: σ) ρ G μ :=
 .pure ho (.inl rfl) hg (fun hc a w ha=>by
  obtain ⟨h3,h4⟩:=run_eqC hT (h1 hc) (h2 hc) (hr hc) w
  simp [execOp,hx.eval ha hc,hy.eval ha hc,eqGuard_agg h4,binOp,h3]) h
theorem nqC {T T' m:Nat} {x y:Operand} {ks:List CK} {cs cs':List Value} (r:Bool) (ho:nth l i=some ⟨some d,.binOp .neq T x y T',t,p,af,g⟩) (hg:Gd l ρ g c) (hT:eqT P m T ks=true) (hx:Ev ρ c x (.agg cs.toArray)) (hy:Ev ρ c y (.agg cs'.toArray))
  (h1:c=true→Conf ks cs) (h2:c=true→Conf ks cs') (hr:c=true→(r=true↔cs=cs')) (h:Wo dr mc P n l K σ ((d,c,.bool (!r)) :: ρ) G μ):Wo dr mc P n l K (i :: σ) ρ G μ :=
 .pure ho (.inl rfl) hg (fun hc a w ha=>by
  obtain ⟨h3,h4⟩:=run_eqC hT (h1 hc) (h2 hc) (hr hc) w
  simp [execOp,hx.eval ha hc,hy.eval ha hc,eqGuard_agg h4,binOp,h3]) h
end
end Go.Tan
namespace Go.Tan
open Go.RowKit Go.Lib
def yb (s:ByteArray):List Y:=s.toList.map fun x=>BitVec.ofNat 8 x.toNat
theorem yb_len (s:ByteArray):(yb s).length=s.size:=by rw [yb,List.length_map,ByteArray.toList_eq]; simp
theorem yb_cells (s:ByteArray):(yb s).map V=strCells s:=by
 unfold yb strCells
 rw [List.map_map,ByteArray.toList_eq]
 refine List.map_congr_left fun x _=>?_
 have:=x.toNat_lt
 have e:(BitVec.ofNat 8 x.toNat).toNat=x.toNat:=by rw [BitVec.toNat_ofNat,Nat.mod_eq_of_lt (by omega)]
 show Value.int .u8 (((BitVec.ofNat 8 x.toNat).toNat:Nat):Int)=_
 rw [e]
section
variable {dr:Bool} {mc:Md} {P:Program} {n:Nat} {l:List Oper} {K:Env→PM→Mem→Prop} {i:Nat} {σ:List Nat} {ρ:Env} {G:PM} {μ:Mem}
variable {d t:Nat} {p:String} {af:Array Edge} {g:Option (Nat×Bool)} {c:Bool}
theorem run_apT {T U E ty:Nat} {v:Value} {xs:List Y} {s:ByteArray} {w:World} (hT:slE P T=some (E,1,1)) (hU:strT P U=true) (hz:(P.info? E).bind (·.zero)=some (.int .u8 0)) (hs:Sat G [rB v E xs] w) (hb:xs.length+s.size≤140737488355328) :
  ∃ v' w',(Builtin.append_ #[T,U] ty #[v,.string s]).run P w=.ok v' w'∧Tr G (keys [rB v E xs]) w G [rB v' E (xs++yb s)] w':=by
 obtain ⟨hu,inf,hi,hs1,hb1⟩:=slE_some hT
 have hu2:P.underlying U=some .string:=by
  unfold strT at hU
  split at hU
  ·assumption
  cases hU
 rw [hi] at hz
 simp only [Option.bind_some] at hz
 have hown:w.ownsRow 0 E 1 v xs.length (xs.map V):=hs.own _ (List.mem_singleton.2 rfl)
 have hbegin:=Tr.begin hs
 have hyl:=yb_len s
 have hyc:=yb_cells s
 have hml:(xs.map V).length=xs.length:=List.length_map ..
 have hsl:(strCells s).length=s.size:=strCells_length s
 have hmm:maxLen=9223372036854775807:=rfl
 have eR:rB v E (xs++yb s)=.row v E 1 (xs.length+s.size) (xs.map V++strCells s):=by simp only [rB,List.length_append,List.map_append,hyl,hyc]
 have hlen:(xs.map V++strCells s).length=(xs.length+s.size)*1:=by rw [List.length_append,hml,hsl]; omega
 by_cases hk:s.size=0
 ·have hn:strCells s=[]:=List.eq_nil_of_length_eq_zero (by rw [hsl]; exact hk)
  have hy0:yb s=[]:=List.eq_nil_of_length_eq_zero (by rw [hyl]; exact hk)
  refine ⟨v,w,?_,by rw [hy0,List.append_nil]; exact hbegin⟩
  have hf:=run_firstCells_string (P:=P) w 1 s
  rw [hk,hn] at hf
  rcases hown.2 with ⟨rfl,hm⟩ | ⟨g,cap,cur,rfl,_,hg,hnc,_,_,_⟩
  ·simp [Builtin.append_,run_underlying hu,run_underlying hu2,sizeOf,typeInfo,hi,hs1,Builtin.lenOf,hk,hf]
  simp [Builtin.append_,run_underlying hu,run_underlying hu2,sizeOf,typeInfo,hi,hs1,Builtin.lenOf,hk,hf,hnc,storeCells]
 have fresh:∀ (old:Nat),Tr G (keys [rB v E xs]) w G [.row (.slice (some ⟨w.heap.size,0,none⟩) (xs.length+s.size) (grownCap w (xs.length+s.size) old E)) E 1 (xs.length+s.size) (xs.map V++strCells s)]
   (w.drew.alloc (.cells ((xs.map V).toArray++(strCells s).toArray++Builtin.zeroCells (Value.int .u8 0).cells (grownCap w (xs.length+s.size) old E-(xs.length+s.size))) E)):=by
  intro old
  have h2:=(hbegin.drew).alloc (.cells ((xs.map V).toArray++(strCells s).toArray++Builtin.zeroCells (Value.int .u8 0).cells (grownCap w (xs.length+s.size) old E-(xs.length+s.size))) E)
  have h3:Tr G (keys [rB v E xs]) w G [.blk w.heap.size (.cells ((xs.map V).toArray++(strCells s).toArray++Builtin.zeroCells (Value.int .u8 0).cells (grownCap w (xs.length+s.size) old E-(xs.length+s.size))) E)] _:=Tr.left (ν:=[rB v E xs]) h2
  have hge:=grownCap_ge w (xs.length+s.size) old E
  refine h3.asRow hlen hge (grownCap_le_maxLen w (xs.length+s.size) old E (by rw [hmm]; omega)) ?_ ?_
  ·have hz1:(Value.int IntKind.u8 0).cells.size=1:=rfl
   simp only [Array.size_append,List.size_toArray,size_zeroCells,hz1,hml,hsl]
   omega
  simp only [Array.toList_append,List.append_assoc]
  rw [← List.append_assoc,←hlen]
  exact List.take_left
 rcases hown.2 with ⟨rfl,hm⟩ | ⟨g,cap,cur,rfl,_,hg,hnc,hcm,hcs,htake⟩
 ·have hx:xs=[]:=List.eq_nil_of_length_eq_zero hm
  subst hx
  have hrun:=run_append_nil_string (P:=P) w T U ty E inf (.int .u8 0) hu hu2 hi hz s (by omega) (by omega) (by rw [hb1]; simp only [List.length_nil] at hb; omega)
  have hf:=fresh 0
  have e1:(s.data.map fun b=>Value.int .u8 b.toNat)=(strCells s).toArray:=by
   apply Array.ext'
   simp [strCells]
  rw [e1] at hrun
  simp only [List.length_nil,Nat.zero_add,List.map_nil,List.nil_append,Array.empty_append] at hf
  refine ⟨_,_,hrun,?_⟩
  have eR2:∀ u,rB u E ([]++yb s)=.row u E 1 s.size (strCells s):=fun u=>by simp only [rB,List.nil_append,hyl,hyc]
  rw [eR2]; exact hf
 by_cases hroom:xs.length+s.size≤cap
 ·simp only [Nat.mul_one] at hcs htake
  have hrun:=run_append_room_string (P:=P) w T U ty E inf hu hu2 hi hs1 g xs.length cap cur hg s hroom (by omega)
  have hsat:Sat G [.blk g (.cells cur E (0,0))] w:=⟨hs.sub,fun r hr=>by rw [List.mem_singleton.1 hr]; exact hg,fun c hc=>hs.apart c (by simpa [keys,Res.keys,Value.ownBlock] using hc),by simp [keys,Res.keys]⟩
  refine ⟨_,_,hrun,?_⟩
  have h2:=Tr.setArr (cs':=(cur.toList.take xs.length++strCells s++cur.toList.drop (xs.length+s.size)).toArray) hsat
  have h3:=h2.asRow (m:=xs.length+s.size) (cap:=cap) (sz:=1) (xs:=xs.map V++strCells s) hlen hroom hcm ?_ ?_
  ·have eR3:∀ u,rB u E (xs++yb s)=.row u E 1 (xs.length+s.size) (xs.map V++strCells s):=fun u=>by simp only [rB,List.length_append,List.map_append,hyl,hyc]
   rw [eR3]
   simpa [keys,Res.keys,Value.ownBlock] using h3
  ·simp only [List.size_toArray,qlB,Array.length_toList,hsl]
   omega
  rw [htake,←hlen]
  exact List.take_left
 have holds:∀ j u,(xs.map V)[j]? = some u→w.cell? ((⟨g,0,none⟩ : Addr).add j)=some u:=hown.cells (g:=g) rfl
 have hrun:=run_append_grow_string (P:=P) w T U ty E inf (.int .u8 0) hu hu2 hi hz ⟨g,0,none⟩ xs.length cap (xs.map V) (by rw [hml,hs1]; omega) holds s (by omega) (by omega) (growslice_fits (by omega) (by rw [hb1]; omega))
 have eR3:∀ u,rB u E (xs++yb s)=.row u E 1 (xs.length+s.size) (xs.map V++strCells s):=fun u=>by simp only [rB,List.length_append,List.map_append,hyl,hyc]
 refine ⟨_,_,hrun,?_⟩
 rw [eR3]; exact fresh cap
theorem apT {T U E:Nat} {x y:Operand} {v:Value} {s:ByteArray} {xs:List Y} {μ':Mem} (ho:nth l i=some ⟨some d,.call { callee:=.builtin .append,args:=#[x,y],argTypes:=#[T,U] },t,p,af,none⟩)
  (hT:slE P T=some (E,1,1)) (hU:strT P U=true) (hz:(P.info? E).bind (·.zero)=some (.int .u8 0)) (hx:Ev ρ true x v) (hy:Ev ρ true y (.string s)) (hm:MTake μ (rB v E xs) μ') (hb:xs.length+s.size≤140737488355328)
  (h:∀ v' L,v'.oneCell'=true→L=xs++yb s→Wo dr mc P n l K σ ((d,true,v') :: ρ) G (rB v' E L :: μ')) (hmc:mc.a=false∨dr=false:=by first|exact .inl rfl|exact .inr rfl):Wo dr mc P n l K (i :: σ) ρ G μ:=by
 refine .act (μ₁:=[rB v E xs]) (μ₂:=μ') (post:=fun G' μ' v'=>G'=G∧v'.oneCell'=true∧μ'=[rB v' E (xs++yb s)]) ho (by rcases hmc with h | h<;>simp [kindOf,h]) .no hm.perm (fun a w ha hs=>.inl ?_) ?_
 ·obtain ⟨v',w',hrun,ht⟩:=run_apT (ty:=t) (s:=s) hT hU hz hs.left hb
  exact ⟨v',w',G,[rB v' E (xs++yb s)],.inl (by simp [execOp,resolve,invoke,builtin,hx.eval ha rfl,hy.eval ha rfl,hrun]),ht,rfl,ht.sat.rowOne,rfl⟩
 rintro v' G' μ'' _ ⟨rfl,h1,rfl⟩
 exact h v' _ h1 rfl
def sbT (P:Program) (S D:TypeId):Bool:=match P.underlying S,P.underlying D with
 | some .string,some (.slice e)=>match P.underlying e with | some (.int .u8)=>true | _=>false
 | _,_=>false
theorem cvS {S D:TypeId} {x:Operand} {s:ByteArray} (hdf:dr=false) (ho:nth l i=some ⟨some d,.convert S D x,t,p,af,none⟩) (hS:sbT P S D=true) (hx:Ev ρ true x (.string s))
  (h:∀ G' s',PM.le G G'→SlR G' 1 encY s' (yb s)→Wo dr mc P n l K σ ((d,true,s'.val (yb s).length) :: ρ) G' μ):Wo dr mc P n l K (i :: σ) ρ G μ:=by
 refine .act (μ₁:=[]) (μ₂:=μ) (post:=fun G' μ' v=>μ'=[]∧∃ s',v=s'.val (yb s).length∧SlR G' 1 encY s' (yb s)) ho (.inr hdf) .no (.refl _) (fun a w ha hs=>.inl ?_) ?_
 ·unfold sbT at hS
  split at hS
  ·rename_i e h1 h2
   split at hS
   ·rename_i h3
    have hrun:=run_bytes_of_string (P:=P) w S D e s h1 h2 h3
    have hge:=grownCap_ge w s.size 0 e
    have h0:Tr G (keys []) w G [] w:=Tr.begin (Sat.left (μ:=[]) hs)
    have h4:=(h0.drew).alloc (.cells (bytesRow s (grownCap w s.size 0 e)) e ((bytesRow s (grownCap w s.size 0 e)).size,(bytesRow s (grownCap w s.size 0 e)).size+1))
    have h5:=h4.freeze (by simp [keys])
    refine ⟨.slice (some ⟨w.heap.size,0,none⟩) s.size (grownCap w s.size 0 e),_,_,[],.inl (by simp [execOp,hx.eval ha rfl,hrun]),h5,rfl,⟨some ⟨w.heap.size,0,none⟩,grownCap w s.size 0 e⟩,by rw [yb_len]; rfl,?_⟩
    refine SlR.ofRow (fun _ _=>rfl) (by rw [yb_len]; exact hge) (fun _=>rfl) (fun j v hj=>?_)
    rw [flat_V,yb_cells] at hj
    show RdP _ ⟨w.heap.size,0+j,none⟩ v
    rw [Nat.zero_add]
    refine RdP.blk (cs:=(bytesRow s (grownCap w s.size 0 e)).toList) (by rw [Array.toArray_toList]; exact PM.add_same _ _ _) ?_
    have hlt:j<(strCells s).length:=(List.getElem?_eq_some_iff.1 hj).1
    unfold bytesRow
    rw [Array.toList_append,List.getElem?_append_left (by simpa [strCells] using hlt)]
    simpa [strCells] using hj
   cases hS
  cases hS
 rintro v G' μ'' hle ⟨rfl,s',rfl,hs'⟩
 exact h G' s' hle hs'
theorem flat_at {α:Type} {enc:α→List Value} {sz:Nat}:∀ {xs:List α} {k:Nat} {x:α},(∀ y∈xs,(enc y).length=sz)→xs[k]? = some x→((xs.flatMap enc).drop (k*sz)).take sz=enc x
 | y :: ys,0,x,hsz,hx=>by
  simp only [List.getElem?_cons_zero,Option.some.injEq] at hx
  subst hx
  rw [Nat.zero_mul,List.drop_zero,List.flatMap_cons,List.take_left' (hsz y (List.mem_cons_self ..))]
 | y :: ys,k+1,x,hsz,hx=>by
  rw [List.flatMap_cons,Nat.succ_mul,Nat.add_comm,←List.drop_drop,List.drop_left' (hsz y (List.mem_cons_self ..))]
  exact flat_at (fun z hz=>hsz z (List.mem_cons_of_mem _ hz)) (by simpa using hx)
 | [],_,_,_,hx=>by simp at hx
theorem flat_set {α:Type} {enc:α→List Value} {sz:Nat} {y:α}:∀ {xs:List α} {k:Nat},(∀ z∈xs,(enc z).length=sz)→(enc y).length=sz→k<xs.length→put (xs.flatMap enc) (k*sz) (enc y)=(xs.set k y).flatMap enc
 | z :: zs,0,hsz,hy,_=>by
  unfold put
  rw [Nat.zero_mul,List.take_zero,List.nil_append,Nat.zero_add,List.flatMap_cons,hy,List.drop_left' (hsz z (List.mem_cons_self ..))]
  simp
 | z :: zs,k+1,hsz,hy,hk=>by
  have ih:=flat_set (xs:=zs) (k:=k) (fun u hu=>hsz u (List.mem_cons_of_mem _ hu)) hy (by simpa using hk)
  have hz:=hsz z (List.mem_cons_self ..)
  unfold put at ih ⊢
  rw [List.set_cons_succ,List.flatMap_cons,List.flatMap_cons,←ih,Nat.succ_mul]
  have e1:(enc z++zs.flatMap enc).take (k*sz+sz)=enc z++(zs.flatMap enc).take (k*sz):=by rw [List.take_append,List.take_of_length_le (by omega),hz,Nat.add_sub_cancel]
  have e2:(enc z++zs.flatMap enc).drop (k*sz+sz+(enc y).length)=(zs.flatMap enc).drop (k*sz+(enc y).length):=by
   rw [List.drop_append,List.drop_of_length_le (by omega),hz,show k*sz+sz+(enc y).length-sz=k*sz+(enc y).length by omega,List.nil_append]
  rw [e1,e2]
  simp only [List.append_assoc]
 | [],_,_,_,hk=>by simp at hk
theorem RdN.rowS {α:Type} {enc:α→List Value} {sz b m cap E k:Nat} {xs:List α} {x:α} {μ':Mem} (h:MTake μ (rS sz enc (.slice (some ⟨b,0,none⟩) m cap) E xs) μ') (hsz:∀ y∈xs,(enc y).length=sz) (hx:xs[k]? = some x) {q:Nat} (hq:q=k*sz):RdN G μ b q (enc x):=by
 subst hq
 intro j v hj
 refine Rd.row h ?_
 rw [← flat_at hsz hx,List.getElem?_take] at hj
 split at hj
 ·rw [List.getElem?_drop] at hj; exact hj
 cases hj
theorem stS {α:Type} {enc:α→List Value} {T E sz m cap b o k:Nat} {x y:Operand} {v:Value} {xs:List α} {u:α} {μ':Mem} (ho:nth l i=some ⟨none,.store T x y,t,p,af,none⟩) (hx:Ev ρ true x (.pointer (some ⟨b,o,none⟩))) (hy:Ev ρ true y v) (hv:v.cells=(enc u).toArray) (hz:szT P T=some sz)
  (hm:MTake μ (rS sz enc (.slice (some ⟨b,0,none⟩) m cap) E xs) μ') (hsz:∀ y∈xs,(enc y).length=sz) (hu:(enc u).length=sz) (h1:∀ c∈enc u,c.oneCell'=true) (hq:o=k*sz) (hk:k<xs.length)
  (h:Wo dr mc P n l K σ ρ G (rS sz enc (.slice (some ⟨b,0,none⟩) m cap) E (xs.set k u) :: μ')):Wo dr mc P n l K (i :: σ) ρ G μ:=by
 subst hq
 refine .act (μ₁:=[rS sz enc (.slice (some ⟨b,0,none⟩) m cap) E xs]) (μ₂:=μ') (post:=fun G' μ' v=>G'=G∧μ'=[rS sz enc (.slice (some ⟨b,0,none⟩) m cap) E (xs.set k u)]∧v=undef) ho (.inl rfl) .no hm.perm (fun a w ha hs=>.inl ?_) ?_
 ·have hs':=hs.left
  have hrow:w.ownsRow 0 E sz (.slice (some ⟨b,0,none⟩) m cap) xs.length (xs.flatMap enc):=hs'.own _ (List.mem_singleton.2 rfl)
  have hfl:=flat_len hsz
  rcases hrow.2 with ⟨e,_⟩ | ⟨g,cap',cur,e,_,hg,hnc,hcm,hcs,htake⟩
  ·cases e
  simp only [Value.slice.injEq,Option.some.injEq,Addr.mk.injEq,and_true,true_and] at e
  obtain ⟨rfl,rfl,rfl⟩:=e
  have hkey:keys [rS sz enc (.slice (some ⟨b,0,none⟩) xs.length cap) E xs]=[b]:=by simp [keys,Res.keys,Value.ownBlock]
  have hsat:Sat G [.blk b (.cells cur E (0,0))] w:=⟨hs'.sub,fun r hr=>by rw [List.mem_singleton.1 hr]; exact hg,fun c hc=>hs'.apart c (by simpa [keys,Res.keys,Value.ownBlock] using hc),by simp [keys,Res.keys]⟩
  have hin:k*sz+sz≤xs.length*sz:=by rw [← Nat.succ_mul]; exact Nat.mul_le_mul_right _ hk
  have hcap:xs.length*sz≤cap*sz:=Nat.mul_le_mul_right _ hnc
  have hst:=run_storeCells_at P b (k*sz) E (enc u) 0 cur w hg (by rw [Nat.add_zero,hu]; omega) h1
  simp only [Nat.add_zero,hu] at hst
  have h2:=(Tr.setArr (cs':=(cur.toList.take (k*sz)++enc u++cur.toList.drop (k*sz+sz)).toArray) hsat).asRow (m:=xs.length) (cap:=cap) (sz:=sz) (xs:=(xs.set k u).flatMap enc) ?_ hnc hcm ?_ ?_
  ·refine ⟨undef,_,G,_,.inr ⟨?_,rfl⟩,by rw [hkey]; exact h2,rfl,by simp [rS],rfl⟩
   cases hi:P.info? T with
   | none=>simp [szT,hi] at hz
   | some inf =>
    simp only [szT,hi,Option.map_some,Option.some.injEq] at hz
    simp only [execOp,hx.eval ha rfl,hy.eval ha rfl]
    simp [Instr.storeAt,Instr.sureAddr,storeVar,hv,sizeOf,typeInfo,hi,hz,hst,hu]
  ·rw [flat_len (sz:=sz) (fun z hz'=>by
    rcases List.mem_or_eq_of_mem_set hz' with hz'|rfl
    ·exact hsz z hz'
    exact hu),List.length_set]
  ·simp only [List.size_toArray,qlB,Array.length_toList,hu]
   omega
  have:=splice_take (A:=cur.toList) (C:=enc u) (o:=k*sz) (m:=xs.length*sz) (by rw [hu]; exact hin) (by have:cur.toList.length=cur.size:=Array.length_toList ..; omega)
  rw [hu,htake] at this
  rw [this]
  have h5:=flat_set (xs:=xs) hsz hu hk
  unfold put at h5
  rw [hu] at h5
  exact h5
 rintro v G' μ'' _ ⟨rfl,rfl,rfl⟩
 exact h
end
def numN (n:Nat):List Y:=if h:n<128 then [BitVec.ofNat 8 n] else BitVec.ofNat 8 (n%128+128) :: numN (n / 128)
termination_by n
decreasing_by omega
theorem num_small {n:Nat} (h:n<128):numN n=[BitVec.ofNat 8 n]:=by rw [numN,dif_pos h]
theorem num_big {n:Nat} (h:¬ n<128):numN n=BitVec.ofNat 8 (n%128+128) :: numN (n / 128):=by rw [numN,dif_neg h]
theorem num_pos (n:Nat):0<(numN n).length:=by
 by_cases h:n<128
 ·rw [num_small h]; simp
 ·rw [num_big h]; simp
theorem num_len:∀ (k n:Nat),n<128^k→0<k→(numN n).length≤k
 | 0,_,_,h=>by omega
 | k+1,n,h,_=>by
  by_cases hn:n<128
  ·rw [num_small hn]; simp
  ·rw [num_big hn]
   by_cases hk:k=0
   ·subst hk; omega
   ·have:=num_len k (n / 128) (by rw [Nat.pow_succ] at h; omega) (by omega)
    simp; omega
theorem num_len10 {n:Nat} (h:n<18446744073709551616):(numN n).length≤10:=num_len 10 n (by omega) (by decide)
def numG:Nat→Nat→List Y→Nat×Nat×Int
 | _,_,[]=>(0,0,10)
 | k,acc,x :: r =>
  if k=9∧1<x.toNat then (0,0,11)
  else if x.toNat<128 then (if 0<k∧x.toNat=0 then (0,0,11) else (acc+x.toNat*128^k,k+1,0))
  else numG (k+1) (acc+(x.toNat-128)*128^k) r
def numP (b:List Y):Nat×Nat×Int:=numG 0 0 b
structure Rd' where
 rest:List Y
 bad:Int
def strL (xs:List Y):List Y:=numN xs.length++xs
noncomputable def B (p:Prop):Bool:=@decide p (Classical.propDecidable p)
theorem B_iff {p:Prop}:B p=true↔p:=by unfold B; exact @decide_eq_true_iff p (Classical.propDecidable p)
theorem B_true {p:Prop} (h:p):B p=true:=B_iff.2 h
theorem B_false {p:Prop} (h:¬ p):B p=false:=by
 cases hb:B p with
 | false=>rfl
 | true=>exact absurd (B_iff.1 hb) h
def within (n m:Int):Bool:=decide (0<n)&&decide (n≤m)
structure Meta where
 level:Int
 gen:Int
 epoch:Int
 number:Int
 size:Int
 count:Int
 min:ByteArray
 max:ByteArray
 root:Nat→Int
def Meta.cells (m:Meta):List Value :=
 [.int .u8 m.level,.int .u64 m.gen,.int .u64 m.epoch,.int .u64 m.number,.int .i64 m.size,.int .i64 m.count,.string m.min,.string m.max]++(List.range 32).map fun i=>.int .u8 (m.root i)
def Meta.val (m:Meta):Value:=.agg m.cells.toArray
def Meta.zero:Meta:=⟨0,0,0,0,0,0,ByteArray.empty,ByteArray.empty,fun _=>0⟩
theorem Meta.len (m:Meta):m.cells.length=40:=rfl
theorem Meta.one (m:Meta):∀ u∈m.cells,u.oneCell'=true:=by
 intro u hu
 simp only [Meta.cells,List.mem_append,List.mem_cons,List.not_mem_nil,or_false,List.mem_map] at hu
 rcases hu with (rfl|rfl|rfl|rfl|rfl|rfl|rfl|rfl) | ⟨i,_,rfl⟩<;>rfl
structure Meta.wf (m:Meta):Prop where
 level:0≤m.level∧m.level<256
 number:0≤m.number∧m.number<18446744073709551616
 size : -9223372036854775808≤m.size∧m.size≤9223372036854775807
 minL:m.min.size≤9223372036854775807
 maxL:m.max.size≤9223372036854775807
 gen:0≤m.gen∧m.gen≤18446744073709551615
 epoch:0≤m.epoch∧m.epoch≤18446744073709551615
 count : -9223372036854775808≤m.count∧m.count≤9223372036854775807
 root:∀ j,j<32→0≤m.root j∧m.root j≤255
structure State where
 lv:Nat→List Meta
 log:Int
 next:Int
 seq:Int
 least:Int
 gens:Nat→Int
def State.cells (s:State) (hd:Nat→Sh):List Value :=
 (List.range 5).map (fun i=>(hd i).val (s.lv i).length)++[.int .u64 s.log,.int .u64 s.next,.int .u64 s.seq,.int .u64 s.least]++(List.range 5).map fun i=>.int .u64 (s.gens i)
def State.val (s:State) (hd:Nat→Sh):Value:=.agg (s.cells hd).toArray
theorem State.cell_lv (s:State) (hd:Nat→Sh) {k:Nat} (h:k<5):(s.cells hd)[0+k*1]? = some ((hd k).val (s.lv k).length):=by
 match k,h with
 | 0,_=>rfl | 1,_=>rfl | 2,_=>rfl | 3,_=>rfl | 4,_=>rfl
theorem State.cell_gen (s:State) (hd:Nat→Sh) {k:Nat} (h:k<5):(s.cells hd)[9+k*1]? = some (.int .u64 (s.gens k)):=by
 match k,h with
 | 0,_=>rfl | 1,_=>rfl | 2,_=>rfl | 3,_=>rfl | 4,_=>rfl
structure StR (G:PM) (s:State) (hd:Nat→Sh):Prop where
 lv:∀ i,i<5→SlR G 40 Meta.cells (hd i) (s.lv i)
 len:∀ i,i<5→(s.lv i).length*112≤140737488351232
 wf:∀ i,i<5→∀ m∈s.lv i,m.wf
theorem StR.mono {G G':PM} {s:State} {hd:Nat→Sh} (h:StR G s hd) (hle:PM.le G G'):StR G' s hd:=⟨fun i hi=>(h.lv i hi).mono hle,h.len,h.wf⟩
theorem SlR.get {G:PM} {h:Sh} {xs:List Meta} (s:SlR G 40 Meta.cells h xs) {k:Nat} (hk:k<xs.length):RdNP G h.b (h.o+k*40) (xs.getD k Meta.zero).cells :=
 s.rd k _ (by simp [hk])
theorem SlR.gat {G:PM} {h:Sh} {xs:List Meta} (s:SlR G 40 Meta.cells h xs) {j:Int} (k:Nat) (hj:j.toNat=k) (hk:k<xs.length):RdNP G h.b (h.o+j.toNat*40) (xs.getD k Meta.zero).cells:=by
 rw [hj]; exact s.get hk
theorem getD_mem {xs:List Meta} {k:Nat} (h:k<xs.length):xs.getD k Meta.zero∈xs:=by simp [h]
def lt (a b:ByteArray):Bool:=Op.bytesLess a.toList b.toList
def le (a b:ByteArray):Bool:=Op.bytesLess a.toList b.toList||a.toList == b.toList
def good (s:State) (m:Meta):Bool :=
 decide (m.level<5)&&le m.min m.max&&decide ((m.min.size:Int)≤1024)&&decide ((m.max.size:Int)≤1024)&&decide (m.count≥1)&&decide (m.size≥1)&&decide (m.number<s.next)&&decide (m.gen≤s.gens m.level.toNat)
def pairOk (level:Int) (a b:Meta):Bool:=if level=0 then decide (b.number<a.number) else lt a.max b.min
theorem stands_eq (a b:Meta) (h0:0≤a.level):(if (a.level == 0)=true then decide (a.number > b.number) else lt a.max b.min)=pairOk a.level a b:=by
 unfold pairOk
 by_cases h:a.level=0
 ·simp [h]
 ·simp [h]
theorem fits_fin {s:State} {m:Meta} (h1:m.level<5) (h2:(!(Op.bytesLess m.min.toList m.max.toList||m.min.toList == m.max.toList))=false)
  (h3:(if ((m.max.size:Nat):Int) > ((m.min.size:Nat):Int) then ((m.max.size:Nat):Int) else ((m.min.size:Nat):Int))≤1024) (h4:1≤m.count) (h5:1≤m.size) :
  tup [.bool (decide (m.number<s.next)&&decide (m.gen≤s.gens m.level.toNat))]=.bool (good s m):=by
 have h2':le m.min m.max=true:=by unfold le; cases h:(Op.bytesLess m.min.toList m.max.toList||m.min.toList == m.max.toList)<;>simp_all
 have h6:((m.min.size:Nat):Int)≤1024∧((m.max.size:Nat):Int)≤1024:=by split at h3<;>omega
 simp only [tup,good,h2',decide_eq_true h1,decide_eq_true h6.1,decide_eq_true h6.2,decide_eq_true (show m.count≥1 from h4),decide_eq_true (show m.size≥1 from h5),Bool.true_and]
def tot (s:State):Nat→Int
 | 0=>0
 | n+1=>tot s n+(s.lv n).length
theorem tot_nonneg (s:State):∀ n,0≤tot s n
 | 0=>Int.le_refl _
 | n+1=>by have:=tot_nonneg s n; simp only [tot]; omega
theorem tot_mono (s:State):∀ {n m:Nat},n≤m→tot s n≤tot s m:=by
 intro n m h
 induction h with
 | refl=>exact Int.le_refl _
 | step _ ih=>simp only [tot]; omega
def nums (l:List Meta):List Int:=l.map (·.number)
def allM (s:State):Nat→List Meta
 | 0=>[]
 | n+1=>allM s n++s.lv n
theorem allM_len (s:State):∀ n,((allM s n).length:Int)=tot s n
 | 0=>rfl
 | n+1=>by simp only [allM,tot,List.length_append,←allM_len s n]; omega
def LvOk (s:State) (i:Nat) (l:List Meta):Prop :=
 (∀ m∈l,m.level=i∧good s m=true)∧∀ j,j+1<l.length→pairOk i (l.getD j Meta.zero) (l.getD (j+1) Meta.zero)=true
structure RightP (s:State):Prop where
 seq:s.seq≤72057594037927935
 least:s.least≤72057594037927935
 log:s.log≤s.next
 few:tot s 5≤1024
 lv:∀ i,i<5→LvOk s i (s.lv i)
 apart:∀ a b,a<(allM s 5).length→b<a→((allM s 5).getD a Meta.zero).number≠((allM s 5).getD b Meta.zero).number
noncomputable def rightS (s:State):Bool:=B (RightP s)
theorem rightS_true {s:State} (h:RightP s):rightS s=true:=B_true h
theorem rightS_false {s:State} (h:¬ RightP s):rightS s=false:=B_false h
theorem rightP_of {s:State} (h:rightS s=true):RightP s:=B_iff.1 h
noncomputable def ordB (level:Int) (l:List Meta):Bool:=B (∀ j,j+1<l.length→pairOk level (l.getD j Meta.zero) (l.getD (j+1) Meta.zero)=true)
theorem ordB_iff {level:Int} {l:List Meta}:ordB level l=true↔∀ j,j+1<l.length→pairOk level (l.getD j Meta.zero) (l.getD (j+1) Meta.zero)=true:=B_iff
def wrongPair (level:Int) (a b:Meta):Bool :=
 (level == 0)&&decide (a.number≤b.number)||(decide (level > 0) && !(lt a.max b.min))
theorem wrongPair_eq {level:Int} (h0:0≤level) (a b:Meta):wrongPair level a b = !pairOk level a b:=by
 unfold wrongPair pairOk
 by_cases h:level=0
 ·subst h; by_cases hh:b.number<a.number<;>simp [hh]<;>omega
 ·have:level > 0:=by omega
  simp [h,this]
theorem wrong_of {level:Int} {a b:Meta} {r:Bool} (h0:0≤level) (h:((level == 0)&&decide (a.number≤b.number)||(decide (level > 0) && !(Op.bytesLess a.max.toList b.min.toList)))=r):pairOk level a b = !r:=by
 rw [← h]; show _ = !(wrongPair level a b); rw [wrongPair_eq h0]; simp
theorem ord_true {level:Int} {l:List Meta} {k:Nat} (h:l.length≤k) (hall:∀ j,j+1<k→pairOk level (l.getD j Meta.zero) (l.getD (j+1) Meta.zero)=true):tup [.bool true]=.bool (ordB level l):=by
 have:ordB level l=true:=ordB_iff.2 fun j hj=>hall j (by omega)
 rw [this]; rfl
theorem ord_false {level:Int} {l:List Meta} {k:Nat} (h1:1≤k) (h2:k<l.length) (hw:pairOk level (l.getD (k-1) Meta.zero) (l.getD k Meta.zero)=false):tup [.bool false]=.bool (ordB level l):=by
 have:ordB level l=false:=by
  refine B_false fun hh=>?_
  have:=hh (k-1) (by omega)
  rw [show k-1+1=k by omega] at this
  rw [this] at hw; cases hw
 rw [this]; rfl
theorem ord_step {level:Int} {l:List Meta} {k:Nat} (hall:∀ j,j+1<k→pairOk level (l.getD j Meta.zero) (l.getD (j+1) Meta.zero)=true) (h1:1≤k) (hw:pairOk level (l.getD (k-1) Meta.zero) (l.getD k Meta.zero)=true) :
  ∀ j,j+1<k+1→pairOk level (l.getD j Meta.zero) (l.getD (j+1) Meta.zero)=true:=by
 intro j hj
 by_cases h:j+1=k
 ·subst h; simpa using hw
 ·exact hall j (by omega)
theorem metas_len (l:List Meta):∀ x∈l,x.cells.length=40:=fun x _=>x.len
theorem metas_one (l:List Meta):∀ u∈l.flatMap Meta.cells,u.oneCell'=true:=fun u hu=>by
 obtain ⟨m,_,hm⟩:=List.mem_flatMap.1 hu
 exact m.one u hm
theorem allM_row (s:State) (k:Nat) (v:Value) (E:Nat):Res.row v E 40 ((allM s k).length+(s.lv k).length) ((allM s k).flatMap Meta.cells++(s.lv k).flatMap Meta.cells)=Res.row v E 40 (allM s (k+1)).length ((allM s (k+1)).flatMap Meta.cells):=by
 simp only [allM,List.length_append,List.flatMap_append]
theorem fin_false {s:State} (h:¬ RightP s):tup [.bool false]=.bool (rightS s):=by rw [rightS_false h]; rfl
theorem fin_true {s:State} (h:RightP s):tup [.bool true]=.bool (rightS s):=by rw [rightS_true h]; rfl
theorem rs_head {s:State} (h:((72057594037927935<s.seq∨72057594037927935<s.least)∨s.next<s.log)∨1024<tot s 5):¬ RightP s:=by
 intro hr
 have h1:=hr.seq; have h2:=hr.least; have h3:=hr.log; have h4:=hr.few
 omega
theorem rs_ord {s:State} {i:Nat} (hi:i<5) (h:ordB i (s.lv i)=false):¬ RightP s:=by
 intro hr
 have:=ordB_iff.2 (hr.lv i hi).2
 rw [this] at h; cases h
theorem rs_good {s:State} {i k:Nat} (hi:i<5) (hk:k<(s.lv i).length) (h:(((s.lv i).getD k Meta.zero).level != (i:Int))=true∨good s ((s.lv i).getD k Meta.zero)=false):¬ RightP s:=by
 intro hr
 have:=(hr.lv i hi).1 _ (getD_mem hk)
 rcases h with h | h
 ·rw [this.1] at h; simp at h
 ·rw [this.2] at h; cases h
theorem good_step {s:State} {i k:Nat} (hg:∀ j,j<k→((s.lv i).getD j Meta.zero).level=i∧good s ((s.lv i).getD j Meta.zero)=true)
  (h:(((s.lv i).getD k Meta.zero).level != (i:Int))=false∧good s ((s.lv i).getD k Meta.zero)=true):∀ j,j<k+1→((s.lv i).getD j Meta.zero).level=i∧good s ((s.lv i).getD j Meta.zero)=true:=by
 intro j hj
 by_cases e:j=k
 ·subst e; exact ⟨by simpa using h.1,h.2⟩
 ·exact hg j (by omega)
theorem lv_step {s:State} {i k:Nat} (hall:∀ j,j<i→LvOk s j (s.lv j)) (ho:ordB i (s.lv i)=true) (hk:(s.lv i).length≤k) (hg:∀ j,j<k→((s.lv i).getD j Meta.zero).level=i∧good s ((s.lv i).getD j Meta.zero)=true) :
  ∀ j,j<i+1→LvOk s j (s.lv j):=by
 intro j hj
 by_cases e:j=i
 ·subst e
  refine ⟨fun m hm=>?_,ordB_iff.1 ho⟩
  obtain ⟨q,hq,rfl⟩:=List.getElem_of_mem hm
  have:=hg q (by omega)
  simpa [hq] using this
 exact hall j (by omega)
theorem num_step1 {s:State} {p q:Nat} (h:∀ b,b<q→((allM s 5).getD p Meta.zero).number≠((allM s 5).getD b Meta.zero).number) (hc:(((allM s 5).getD p Meta.zero).number == ((allM s 5).getD q Meta.zero).number)=false) :
  ∀ b,b<q+1→((allM s 5).getD p Meta.zero).number≠((allM s 5).getD b Meta.zero).number:=by
 intro b hb
 by_cases e:b=q
 ·subst e; simpa using hc
 ·exact h b (by omega)
theorem num_step {s:State} {p q:Nat} (h:∀ a b,a<p→b<a→((allM s 5).getD a Meta.zero).number≠((allM s 5).getD b Meta.zero).number) (hq:p≤q) (h1:∀ b,b<q→((allM s 5).getD p Meta.zero).number≠((allM s 5).getD b Meta.zero).number) :
  ∀ a b,a<p+1→b<a→((allM s 5).getD a Meta.zero).number≠((allM s 5).getD b Meta.zero).number:=by
 intro a b ha hb
 by_cases e:a=p
 ·subst e; exact h1 b (by omega)
 ·exact h a b (by omega) hb
theorem rs_num {s:State} {p q:Nat} (hp:p<(allM s 5).length) (hq:q<p) (h:(((allM s 5).getD p Meta.zero).number == ((allM s 5).getD q Meta.zero).number)=true):¬ RightP s:=by
 intro hr
 exact hr.apart p q hp hq (by simpa using h)
theorem rs_all {s:State} {i p:Nat} (h1:((s.seq≤72057594037927935∧s.least≤72057594037927935)∧s.log≤s.next)∧tot s 5≤1024) (hi:5≤i) (hall:∀ j,j<i→LvOk s j (s.lv j)) (hp:(allM s 5).length≤p)
  (hn:∀ a b,a<p→b<a→((allM s 5).getD a Meta.zero).number≠((allM s 5).getD b Meta.zero).number):RightP s:=by
 exact ⟨h1.1.1.1,h1.1.1.2,h1.1.2,h1.2,fun j hj=>hall j (by omega),fun a b ha hb=>hn a b (by omega) hb⟩
theorem State.arr_lv (s:State) (hd:Nat→Sh) {k:Nat} (h:k<5):(((s.cells hd).drop 0).take 5)[k]? = some ((hd k).val (s.lv k).length):=by
 match k,h with
 | 0,_=>rfl | 1,_=>rfl | 2,_=>rfl | 3,_=>rfl | 4,_=>rfl
theorem RdNP.add {G:PM} {b:Nat} {cs:List Value} {T:TypeId}:RdNP (G.add b (cl cs T)) b 0 cs:=fun j v hj=>by
 rw [Nat.zero_add]; exact RdP.blk (PM.add_same G b _) hj
def cnt (L:List Int) (x:Int):Int:=if x∈L then 1 else 0
def cntM (L:List Int) (x:Int):Option Value:=if x∈L then some (.int .i64 1) else none
theorem cnt_get (L:List Int) (x:Int):(cntM L x).getD (.int .i64 0)=.int .i64 (cnt L x):=by unfold cntM cnt; split<;>rfl
theorem cnt_bd (L:List Int) (x:Int):0≤cnt L x∧cnt L x≤1:=by unfold cnt; split<;>omega
theorem cnt_upd (m:Int→Option Value) (x:Int) (u z:Value):((fun j=>if j=x then some u else m j) x).getD z=u:=by simp
theorem cnt_push {L:List Int} {x:Int} (h:x∉L):(fun j=>if j=x then some (Value.int .i64 (cnt L x+1)) else cntM L j)=cntM (L++[x]):=by
 funext j
 unfold cntM cnt
 by_cases hj:j=x
 ·subst hj; simp [h]
 ·simp [hj]
theorem cnt_not {L:List Int} {x:Int} (h:cnt L x+1≤1):x∉L:=by intro hm; simp [cnt,hm] at h
theorem cnt_mem {L:List Int} {x:Int} (h:1<cnt L x+1):x∈L:=by
 by_cases hm:x∈L
 ·exact hm
 ·simp [cnt,hm] at h
def Dist (l:List Meta):Prop:=∀ a b,a<l.length→b<a→(l.getD a Meta.zero).number≠(l.getD b Meta.zero).number
theorem getD_app_left {l r:List Meta} {k:Nat} (h:k<l.length):(l++r).getD k Meta.zero=l.getD k Meta.zero:=by
 simp [List.getElem?_append_left h]
theorem getD_app_at {l r:List Meta} {m:Meta}:(l++m :: r).getD l.length Meta.zero=m:=by simp
theorem dist_nil:Dist []:=fun a b h=>by simp at h
theorem dist_push {l:List Meta} {m:Meta} (h:Dist l) (hm:m.number∉nums l):Dist (l++[m]):=by
 intro a b ha hb
 simp only [List.length_append,List.length_singleton] at ha
 by_cases e:a=l.length
 ·subst e
  rw [getD_app_at,getD_app_left hb]
  intro e
  exact hm (List.mem_map.2 ⟨_,getD_mem hb,e.symm⟩)
 ·rw [getD_app_left (by omega),getD_app_left (by omega)]
  exact h a b (by omega) hb
theorem allM_pre (s:State) {i:Nat}:∀ {n:Nat},i<n→∃ r,allM s n=allM s i++s.lv i++r
 | 0,h=>by omega
 | n+1,h=>by
  by_cases e:i=n
  ·subst e; exact ⟨[],by simp [allM]⟩
  ·obtain ⟨r,hr⟩:=allM_pre s (i:=i) (n:=n) (by omega)
   exact ⟨r++s.lv n,by simp [allM,hr]⟩
theorem take_snoc {l:List Meta} {k:Nat} (h:k<l.length):l.take (k+1)=l.take k++[l.getD k Meta.zero]:=by
 rw [List.take_succ_eq_append_getElem h]; simp [h]
theorem rs_dup {s:State} {i k:Nat} (hi:i<5) (hk:k<(s.lv i).length) (h:((s.lv i).getD k Meta.zero).number∈nums (allM s i++(s.lv i).take k)):¬ RightP s:=by
 intro hr
 obtain ⟨r,hr5⟩:=allM_pre s hi
 have hsplit:allM s 5=(allM s i++(s.lv i).take k)++((s.lv i).getD k Meta.zero) :: ((s.lv i).drop (k+1)++r):=by
  rw [hr5]
  have:s.lv i=(s.lv i).take k++(s.lv i).getD k Meta.zero :: (s.lv i).drop (k+1):=by
   have h1:=List.take_append_drop (k+1) (s.lv i)
   rw [take_snoc hk] at h1
   simpa using h1.symm
  generalize hm:(s.lv i).getD k Meta.zero=m at this
  rw [show allM s i++s.lv i++r=allM s i++(s.lv i)++r from rfl]
  conv=>lhs; rw [this]
  simp
 obtain ⟨m,hm,hmn⟩:=List.mem_map.1 h
 obtain ⟨b,hb,rfl⟩:=List.getElem_of_mem hm
 have:=hr.apart (allM s i++(s.lv i).take k).length b (by rw [hsplit]; simp) hb
 rw [hsplit,getD_app_at,getD_app_left hb] at this
 apply this
 rw [← hmn,List.getD_eq_getElem?_getD,List.getElem?_eq_getElem hb]
 rfl
theorem cnt_zero (s:State) (i b:Nat):Res.mp b .u64 (cntM (nums (allM s i)))=Res.mp b .u64 (cntM (nums (allM s i++(s.lv i).take 0))):=by simp
theorem cnt_next {s:State} {i k b:Nat} (h:(s.lv i).length≤k):Res.mp b .u64 (cntM (nums (allM s i++(s.lv i).take k)))=Res.mp b .u64 (cntM (nums (allM s (i+1)))):=by
 rw [List.take_of_length_le h]; rfl
theorem cnt_step {s:State} {i k b:Nat} (hk:k<(s.lv i).length) (h:((s.lv i).getD k Meta.zero).number∉nums (allM s i++(s.lv i).take k)) :
  Res.mp b .u64 (fun j=>if j=((s.lv i).getD k Meta.zero).number then some (Value.int .i64 (cnt (nums (allM s i++(s.lv i).take k)) ((s.lv i).getD k Meta.zero).number+1)) else cntM (nums (allM s i++(s.lv i).take k)) j) =
   Res.mp b .u64 (cntM (nums (allM s i++(s.lv i).take (k+1)))):=by
 rw [cnt_push h,take_snoc hk]
 simp [nums]
structure Part (s:State) (i k:Nat):Prop where
 le:k≤(s.lv i).length
 good:∀ j,j<k→((s.lv i).getD j Meta.zero).level=i∧good s ((s.lv i).getD j Meta.zero)=true
 pair:∀ j,j+1<k→pairOk i ((s.lv i).getD j Meta.zero) ((s.lv i).getD (j+1) Meta.zero)=true
 dist:Dist (allM s i++(s.lv i).take k)
theorem Part.zero {s:State} {i:Nat} (h:Dist (allM s i)):Part s i 0:=⟨Nat.zero_le _,fun j hj=>by omega,fun j hj=>by omega,by simpa using h⟩
theorem Part.step {s:State} {i k:Nat} (h:Part s i k) (hk:k<(s.lv i).length) (h1:((s.lv i).getD k Meta.zero).level=i∧Go.Tan.good s ((s.lv i).getD k Meta.zero)=true)
  (h2:((s.lv i).getD k Meta.zero).number∉nums (allM s i++(s.lv i).take k)) (h3:0<k→pairOk i ((s.lv i).getD (k-1) Meta.zero) ((s.lv i).getD k Meta.zero)=true):Part s i (k+1):=by
 refine ⟨by omega,fun j hj=>?_,fun j hj=>?_,?_⟩
 ·by_cases e:j=k
  ·subst e; exact h1
  exact h.good j (by omega)
 ·by_cases e:j+1=k
  ·subst e; have:=h3 (by omega); simpa using this
  exact h.pair j (by omega)
 rw [take_snoc hk,←List.append_assoc]; exact dist_push h.dist h2
theorem Part.lvOk {s:State} {i k:Nat} (h:Part s i k) (hk:(s.lv i).length≤k):LvOk s i (s.lv i) :=
 ⟨fun m hm=>by
  obtain ⟨q,hq,rfl⟩:=List.getElem_of_mem hm
  have:=h.good q (by omega)
  simpa [hq] using this,fun j hj=>h.pair j (by omega)⟩
theorem Part.next {s:State} {i k:Nat} (h:Part s i k) (hk:(s.lv i).length≤k):Dist (allM s (i+1)):=by
 have:=h.dist; rw [List.take_of_length_le hk] at this; exact this
theorem rs_few {s:State} {i:Nat} (hi:i<5) (h:1024-tot s i<(s.lv i).length):¬ RightP s:=by
 intro hr
 have h1:=tot_mono s (show i+1≤5 by omega)
 rw [show tot s (i+1)=tot s i+(s.lv i).length from rfl] at h1
 have:=hr.few
 omega
theorem rs_max {s:State} (h:72057594037927935<(if s.least > s.seq then s.least else s.seq)∨s.next<s.log):¬ RightP s:=by
 intro hr
 have h1:=hr.seq; have h2:=hr.least; have h3:=hr.log
 rcases h with h | h
 ·split at h<;>omega
 ·omega
theorem rs_done {s:State} {i:Nat} (h1:(if s.least > s.seq then s.least else s.seq)≤72057594037927935∧s.log≤s.next) (hi:i=5) (ht:tot s i≤1024) (hall:∀ j,j<i→LvOk s j (s.lv j)) (hd:Dist (allM s i)):RightP s:=by
 subst hi
 refine ⟨?_,?_,h1.2,ht,hall,hd⟩
 ·have:=h1.1; split at this<;>omega
 have:=h1.1; split at this<;>omega
theorem rt_bad {s:State} {i k:Nat} (hi:i<5) (hk:k<(s.lv i).length) (hp:Part s i k)
  (h:((((s.lv i).getD k Meta.zero).level != (i:Int)) || !good s ((s.lv i).getD k Meta.zero)||decide (cnt (nums (allM s i++(s.lv i).take k)) ((s.lv i).getD k Meta.zero).number+1 > 1) ||
   (decide ((k:Int) > 0) && !pairOk ((s.lv i).getD (k-1) Meta.zero).level ((s.lv i).getD (k-1) Meta.zero) ((s.lv i).getD k Meta.zero)))=true):¬ RightP s:=by
 simp only [Bool.or_eq_true,Bool.and_eq_true,decide_eq_true_eq,Bool.not_eq_true'] at h
 rcases h with ((h | h) | h) | ⟨h1,h2⟩
 ·exact rs_good hi hk (.inl h)
 ·exact rs_good hi hk (.inr h)
 ·exact rs_dup hi hk (cnt_mem (by omega))
 ·intro hr
  have h3:=(hr.lv i hi).2 (k-1) (by omega)
  rw [show k-1+1=k by omega] at h3
  rw [(hp.good (k-1) (by omega)).1,h3] at h2
  cases h2
theorem rt_good {s:State} {i k:Nat} (hk:k<(s.lv i).length) (hp:Part s i k)
  (h:((((s.lv i).getD k Meta.zero).level != (i:Int)) || !good s ((s.lv i).getD k Meta.zero)||decide (cnt (nums (allM s i++(s.lv i).take k)) ((s.lv i).getD k Meta.zero).number+1 > 1) ||
   (decide ((k:Int) > 0) && !pairOk ((s.lv i).getD (k-1) Meta.zero).level ((s.lv i).getD (k-1) Meta.zero) ((s.lv i).getD k Meta.zero)))=false) :
  Part s i (k+1)∧((s.lv i).getD k Meta.zero).number∉nums (allM s i++(s.lv i).take k):=by
 simp only [Bool.or_eq_false_iff,Bool.and_eq_false_iff,decide_eq_false_iff_not,Bool.not_eq_false',bne_eq_false_iff_eq] at h
 obtain ⟨⟨⟨h1,h2⟩,h3⟩,h4⟩:=h
 have hn:=cnt_not (show cnt (nums (allM s i++(s.lv i).take k)) ((s.lv i).getD k Meta.zero).number+1≤1 by omega)
 refine ⟨hp.step hk ⟨h1,h2⟩ hn fun h0=>?_,hn⟩
 rcases h4 with h4 | h4
 ·omega
 rw [(hp.good (k-1) (by omega)).1] at h4; exact h4
def over:Int→List Meta→Bool
 | _,[]=>false
 | r,m :: ms=>if m.size > r then true else over (r-m.size) ms
def idxI (p:Meta→Bool) (l:List Meta):Int:=match l.findIdx? p with | some i=>i | none => -1
theorem idx_step {p:Meta→Bool} {l:List Meta} {k:Nat} (h:∀ j,j<k→p (l.getD j Meta.zero)=false) (hk:p (l.getD k Meta.zero)=false):∀ j,j<k+1→p (l.getD j Meta.zero)=false:=by
 intro j hj
 by_cases e:j=k
 ·subst e; exact hk
 ·exact h j (by omega)
theorem idx_none {p:Meta→Bool} {l:List Meta} {k:Nat} (hk:l.length≤k) (h:∀ j,j<k→p (l.getD j Meta.zero)=false):tup [.int .i64 (-1)]=.int .i64 (idxI p l):=by
 have:l.findIdx? p=none:=by
  rw [List.findIdx?_eq_none_iff]
  intro m hm
  obtain ⟨q,hq,rfl⟩:=List.getElem_of_mem hm
  have:=h q (by omega)
  simpa [hq] using this
 simp [idxI,this,tup]
theorem idx_hit {p:Meta→Bool} {l:List Meta} {k:Nat} (hk:k<l.length) (h:∀ j,j<k→p (l.getD j Meta.zero)=false) (hp:p (l.getD k Meta.zero)=true):tup [.int .i64 (k:Int)]=.int .i64 (idxI p l):=by
 have:l.findIdx? p=some k:=by
  rw [List.findIdx?_eq_some_iff_getElem]
  refine ⟨hk,by simpa [hk] using hp,fun j hj=>?_⟩
  have:=h j hj
  simpa [show j<l.length by omega] using this
 simp [idxI,this,tup]
def State.zero:State:=⟨fun _=>[],0,0,0,0,fun _=>0⟩
def hd0:Nat→Sh:=fun _=>⟨none,0⟩
theorem st_zero {G:PM}:StR G State.zero hd0:=⟨fun _ _=>SlR.nul,fun _ _=>Nat.zero_le _,fun _ _ m hm=>nomatch hm⟩
theorem right_zero:rightS State.zero=true:=by
 refine rightS_true ⟨by decide,by decide,by decide,by decide,fun i _=>⟨fun m hm=>(nomatch hm),fun j hj=>absurd hj (Nat.not_lt_zero _)⟩,fun a b ha=>absurd ha (Nat.not_lt_zero _)⟩
section
variable {α β:Type}
def pNum (k:Nat→List Y→Option α) (r:List Y):Option α:=if (numP r).2.2=0 then k (numP r).1 (r.drop (numP r).2.1) else none
def pUp (most:Nat) (k:Nat→List Y→Option α):List Y→Option α:=pNum fun n r=>if n≤most then k n r else none
def pStr (most:Nat) (k:List Y→List Y→Option α):List Y→Option α:=pUp most fun n r=>if n≤r.length then k (r.take n) (r.drop n) else none
def pByte (k:Y→List Y→Option α) (r:List Y):Option α:=if r.length<1 then none else k (r.getD 0 0) (r.drop 1)
def pRep (f:(β→List Y→Option α)→List Y→Option α):Nat→(List β→List Y→Option α)→List Y→Option α
 | 0,k=>k []
 | n+1,k=>f fun x=>pRep f n fun xs=>k (x :: xs)
end
section
variable {α β:Type} {O:Option α} {s:Rd'} {bad:Bool}
def pEnd (a:α) (r:List Y):Option α:=if r=[] then some a else none
end
structure Gone where
 level:Int
 number:Int
def Gone.cells (g:Gone):List Value:=[.int .u8 g.level,.int .u64 g.number]
structure Gone.wf (g:Gone):Prop where
 level:0≤g.level∧g.level<256
 number:0≤g.number∧g.number<18446744073709551616
structure Edit where
 log:Int
 next:Int
 seq:Int
 least:Int
 gens:Nat→Int
 add:List Meta
 drop:List Gone
def Edit.cells (e:Edit) (ha hd:Sh):List Value :=
 [.int .u64 e.log,.int .u64 e.next,.int .u64 e.seq,.int .u64 e.least]++(List.range 5).map (fun i=>.int .u64 (e.gens i))++[ha.val e.add.length,hd.val e.drop.length]
def Edit.val (e:Edit) (ha hd:Sh):Value:=.agg (e.cells ha hd).toArray
def u64 (x:Int):Prop:=0≤x∧x<18446744073709551616
structure Edit.wf (e:Edit):Prop where
 log:u64 e.log
 next:u64 e.next
 seq:u64 e.seq
 least:u64 e.least
 gens:∀ i,i<5→u64 (e.gens i)
 add:∀ m∈e.add,m.wf
 drop:∀ g∈e.drop,g.wf
structure EdR (G:PM) (e:Edit) (ha hd:Sh):Prop where
 add:SlR G 40 Meta.cells ha e.add
 drop:SlR G 2 Gone.cells hd e.drop
 wf:e.wf
theorem EdR.mono {G G':PM} {e:Edit} {ha hd:Sh} (h:EdR G e ha hd) (hle:PM.le G G'):EdR G' e ha hd:=⟨h.add.mono hle,h.drop.mono hle,h.wf⟩
def u64N (x:Int):Nat:=(x%18446744073709551616).toNat
theorem u64N_lt (x:Int):u64N x<18446744073709551616:=by unfold u64N; omega
def encM (m:Meta):List Y :=
 numN m.level.toNat++numN m.gen.toNat++numN m.epoch.toNat++numN m.number.toNat++numN (u64N m.size)++numN (u64N m.count)++strL (yb m.min)++strL (yb m.max)++(List.range 32).map fun i=>BitVec.ofInt 8 (m.root i)
def encG (g:Gone):List Y:=numN g.level.toNat++numN g.number.toNat
def numsL (l:List Int):List Y:=l.flatMap fun x=>numN x.toNat
def encE (e:Edit):List Y :=
 numN e.log.toNat++numN e.next.toNat++numN e.seq.toNat++numN e.least.toNat++((List.range 5).flatMap fun i=>numN (e.gens i).toNat)++numN e.add.length++e.add.flatMap encM++numN e.drop.length++e.drop.flatMap encG
section
variable {α:Type}
def pMeta (k:Meta→List Y→Option α):List Y→Option α :=
 pUp 255 fun l=>pNum fun g=>pNum fun ep=>pNum fun nu=>pUp 9223372036854775807 fun sz=>pUp 9223372036854775807 fun ct=>pStr 1024 fun mn=>pStr 1024 fun mx=>pRep pByte 32 fun rt =>
  k ⟨l,g,ep,nu,sz,ct,bstr mn,bstr mx,fun i=>((rt.getD i 0).toNat:Int)⟩
def pGone (k:Gone→List Y→Option α):List Y→Option α:=pUp 255 fun l=>pNum fun n=>k ⟨l,n⟩
end
def decO:List Y→Option Edit :=
 pNum fun log=>pNum fun next=>pNum fun seq=>pNum fun least=>pRep pNum 5 fun gs=>pUp 1024 fun na=>pRep pMeta na fun add=>pUp 1024 fun nd=>pRep pGone nd fun drop =>
  pEnd ⟨log,next,seq,least,fun i=>((gs.getD i 0:Nat):Int),add,drop⟩
section
variable {α β:Type}
end
def Meta.canon (m:Meta):Meta:={ m with root:=fun i=>if i<32 then m.root i else 0 }
theorem canon_cells (m:Meta):m.canon.cells=m.cells:=by
 unfold Meta.cells Meta.canon
 congr 1
def Meta.fits (m:Meta):Prop:=0≤m.size∧0≤m.count∧m.min.size≤1024∧m.max.size≤1024
def Edit.canon (e:Edit):Edit:={ e with gens:=fun i=>if i<5 then e.gens i else 0,add:=e.add.map Meta.canon }
section
variable {α:Type} {lt:α→α→Bool}
structure Wk0 (lt:α→α→Bool):Prop where
 irr:∀ a,lt a a=false
 tr:∀ {a b c},lt a b=true→lt b c=true→lt a c=true
 co:∀ {a b} c,lt a b=true→lt a c=true∨lt c b=true
theorem Wk0.as (h:Wk0 lt) {a b:α} (hab:lt a b=true):lt b a=false:=by
 cases hb:lt b a with
 | false=>rfl
 | true=>have:=h.tr hab hb; rw [h.irr] at this; cases this
def TL (lt:α→α→Bool) (x y:α×Nat):Prop:=lt x.1 y.1=true∨(lt y.1 x.1=false∧x.2<y.2)
theorem TL.irr (h:Wk0 lt) (x:α×Nat):¬ TL lt x x:=by
 rintro (h1 | ⟨_,h1⟩)
 ·rw [h.irr] at h1; cases h1
 ·omega
theorem TL.tr (h:Wk0 lt) {x y z:α×Nat} (h1:TL lt x y) (h2:TL lt y z):TL lt x z:=by
 rcases h1 with h1 | ⟨h1,t1⟩<;>rcases h2 with h2 | ⟨h2,t2⟩
 ·exact .inl (h.tr h1 h2)
 ·rcases h.co z.1 h1 with h3 | h3
  ·exact .inl h3
  rw [h2] at h3; cases h3
 ·rcases h.co x.1 h2 with h3 | h3
  ·rw [h1] at h3; cases h3
  exact .inl h3
 refine .inr ⟨?_,by omega⟩
 cases h3:lt z.1 x.1 with
 | false=>rfl
 | true =>
  rcases h.co y.1 h3 with h4 | h4
  ·rw [h2] at h4; cases h4
  rw [h1] at h4; cases h4
theorem TL.as (h:Wk0 lt) {x y:α×Nat} (h1:TL lt x y):¬ TL lt y x:=fun h2=>TL.irr h _ (h1.tr h h2)
theorem TL.back {u v:α×Nat} (h:Wk0 lt) (ht:u.2<v.2):TL lt v u↔lt v.1 u.1=true:=by
 unfold TL
 constructor
 ·rintro (h1 | ⟨_,h1⟩)
  ·exact h1
  ·omega
 ·exact .inl
theorem TL.fore {u v:α×Nat} (h:Wk0 lt) (ht:u.2<v.2):TL lt u v↔lt v.1 u.1=false:=by
 unfold TL
 constructor
 ·rintro (h1 | ⟨h1,_⟩)
  ·exact h.as h1
  ·exact h1
 ·intro h1; exact .inr ⟨h1,ht⟩
def Srt (lt:α→α→Bool) (l:List (α×Nat)):Prop:=l.Pairwise (TL lt)
theorem Srt.uniq (h:Wk0 lt):∀ {l l':List (α×Nat)},Srt lt l→Srt lt l'→l.Perm l'→l=l'
 | [],l',_,_,hp=>by simpa using hp.symm.eq_nil
 | x :: l,[],_,_,hp=>by simpa using hp.eq_nil
 | x :: l,y :: l',h1,h2,hp=>by
  have hx:=List.pairwise_cons.1 h1; have hy:=List.pairwise_cons.1 h2
  have e:x=y:=by
   have m1:x∈y :: l':=hp.mem_iff.1 (List.mem_cons_self ..)
   have m2:y∈x :: l:=hp.mem_iff.2 (List.mem_cons_self ..)
   rcases List.mem_cons.1 m1 with e | m1
   ·exact e
   ·rcases List.mem_cons.1 m2 with e | m2
    ·exact e.symm
    ·exact absurd (hy.1 x m1) (TL.as h (hx.1 y m2))
  subst e
  rw [Srt.uniq h hx.2 hy.2 (List.Perm.cons_inv hp)]
def insS (lt:α→α→Bool) (l:List α) (m:α):List α:=l.takeWhile (fun x => !lt m x)++m :: l.dropWhile (fun x => !lt m x)
def insT (lt:α→α→Bool) (l:List (α×Nat)) (m:α×Nat):List (α×Nat):=l.takeWhile (fun x => !lt m.1 x.1)++m :: l.dropWhile (fun x => !lt m.1 x.1)
theorem insT_fst (l:List (α×Nat)) (m:α×Nat):(insT lt l m).map (·.1)=insS lt (l.map (·.1)) m.1:=by
 unfold insT insS
 rw [List.map_append,List.map_cons,List.takeWhile_map,List.dropWhile_map]; rfl
theorem insT_perm (l:List (α×Nat)) (m:α×Nat):(insT lt l m).Perm (l++[m]):=by
 unfold insT
 have h1:(l.takeWhile (fun x => !lt m.1 x.1)++m :: l.dropWhile (fun x => !lt m.1 x.1)).Perm (m :: (l.takeWhile (fun x => !lt m.1 x.1)++l.dropWhile (fun x => !lt m.1 x.1))):=List.perm_middle
 rw [List.takeWhile_append_dropWhile] at h1
 exact h1.trans (List.perm_append_comm (l₁:=[m]) (l₂:=l))
theorem insT_srt (h:Wk0 lt) {l:List (α×Nat)} {m:α×Nat} (hs:Srt lt l) (ht:∀ x∈l,x.2<m.2):Srt lt (insT lt l m):=by
 unfold insT
 have hl:=List.takeWhile_append_dropWhile (p:=fun x:α×Nat => !lt m.1 x.1) (l:=l)
 have hs':=hs
 unfold Srt at hs' ⊢
 rw [← hl] at hs'
 obtain ⟨s1,s2,s3⟩:=List.pairwise_append.1 hs'
 have hd:∀ y∈l.dropWhile (fun x => !lt m.1 x.1),TL lt m y:=by
  intro y hy
  cases hdw:l.dropWhile (fun x => !lt m.1 x.1) with
  | nil=>rw [hdw] at hy; cases hy
  | cons z r =>
   have hz:lt m.1 z.1=true:=by
    have:=List.head?_dropWhile_not (fun x:α×Nat => !lt m.1 x.1) l
    rw [hdw] at this
    simpa using this
   rw [hdw] at hy s2
   rcases List.mem_cons.1 hy with rfl | hy
   ·exact .inl hz
   exact TL.tr h (.inl hz) ((List.pairwise_cons.1 s2).1 y hy)
 have ht':∀ x∈l.takeWhile (fun x => !lt m.1 x.1),TL lt x m:=by
  intro x hx
  have hp:(!lt m.1 x.1)=true:=by
   have:=List.all_takeWhile (p:=fun x:α×Nat => !lt m.1 x.1) (l:=l)
   exact List.all_eq_true.1 this x hx
  have hxl:x∈l:=by rw [← hl]; exact List.mem_append_left _ hx
  exact .inr ⟨by simpa using hp,ht x hxl⟩
 refine List.pairwise_append.2 ⟨s1,List.pairwise_cons.2 ⟨hd,s2⟩,fun x hx y hy=>?_⟩
 rcases List.mem_cons.1 hy with rfl | hy
 ·exact ht' x hx
 exact s3 x hx y hy
def sortS (lt:α→α→Bool) (l:List α):List α:=l.foldl (insS lt) []
theorem foldT (h:Wk0 lt):∀ (l:List α) (k:Nat) (acc:List (α×Nat)),Srt lt acc→(∀ x∈acc,x.2<k)→∃ T,Srt lt T∧T.Perm (acc++l.zipIdx k)∧T.map (·.1)=l.foldl (insS lt) (acc.map (·.1))
 | [],k,acc,hs,_=>⟨acc,hs,by simp,rfl⟩
 | m :: l,k,acc,hs,hk=>by
  obtain ⟨T,h1,h2,h3⟩:=foldT h l (k+1) (insT lt acc (m,k)) (insT_srt h hs hk) (fun x hx=>by
   rcases List.mem_append.1 ((insT_perm acc (m,k)).mem_iff.1 hx) with hx | hx
   ·have:=hk x hx; omega
   rw [List.mem_singleton.1 hx]; show k<k+1; omega)
  refine ⟨T,h1,h2.trans ?_,?_⟩
  ·rw [List.zipIdx_cons,show acc++(m,k) :: l.zipIdx (k+1)=(acc++[(m,k)])++l.zipIdx (k+1) by simp]
   exact (insT_perm acc (m,k)).append_right _
  rw [h3,insT_fst]; rfl
theorem sortS_spec (h:Wk0 lt) (l:List α):∃ T,Srt lt T∧T.Perm (l.zipIdx 0)∧T.map (·.1)=sortS lt l:=by
 obtain ⟨T,h1,h2,h3⟩:=foldT h l 0 [] .nil (fun _ h=>by cases h)
 exact ⟨T,h1,by simpa using h2,h3⟩
theorem sortS_of (h:Wk0 lt) {l:List α} {T:List (α×Nat)} (hs:Srt lt T) (hp:T.Perm (l.zipIdx 0)):T.map (·.1)=sortS lt l:=by
 obtain ⟨T',h1,h2,h3⟩:=sortS_spec h l
 rw [← h3,Srt.uniq h hs h1 (hp.trans h2.symm)]
theorem sortS_sorted (h:Wk0 lt) {l:List α} (hs:l.Pairwise fun a b=>lt b a=false):sortS lt l=l:=by
 have h1:(l.zipIdx 0).map (·.1)=l:=by simp
 rw [← sortS_of h (T:=l.zipIdx 0) ?_ (List.Perm.refl _),h1]
 unfold Srt
 refine List.pairwise_iff_getElem.2 fun i j hi hj hij=>?_
 simp only [List.getElem_zipIdx]
 simp only [List.length_zipIdx] at hi hj
 exact .inr ⟨List.pairwise_iff_getElem.1 hs i j hi hj hij,by show 0+i<0+j; omega⟩
theorem sortS_append (l m:List α):sortS lt (l++m)=m.foldl (insS lt) (sortS lt l):=by unfold sortS; rw [List.foldl_append]
theorem insS_perm (l:List α) (m:α):(insS lt l m).Perm (l++[m]):=by
 unfold insS
 have h1:(l.takeWhile (fun x => !lt m x)++m :: l.dropWhile (fun x => !lt m x)).Perm (m :: (l.takeWhile (fun x => !lt m x)++l.dropWhile (fun x => !lt m x))):=List.perm_middle
 rw [List.takeWhile_append_dropWhile] at h1
 exact h1.trans (List.perm_append_comm (l₁:=[m]) (l₂:=l))
theorem foldS_perm:∀ (m l:List α),(m.foldl (insS lt) l).Perm (l++m)
 | [],l=>by simp
 | x :: m,l=>by
  rw [List.foldl_cons]
  refine (foldS_perm m _).trans ?_
  rw [show l++x :: m=(l++[x])++m by simp]
  exact (insS_perm l x).append_right _
theorem sortS_perm (l:List α):(sortS lt l).Perm l:=by have:=foldS_perm (lt:=lt) l []; simpa [sortS] using this
theorem sortS_len (l:List α):(sortS lt l).length=l.length:=(sortS_perm l).length_eq
end
section
variable {P:Program} {n:Nat} {l:List Oper} {K K':Env→PM→Mem→Prop} {dr:Bool} {mc:Md}
theorem Wo.bind1 {i:Nat} {σ:List Nat} {ρ:Env} {G:PM} {μ:Mem} (hm:∀ ρ G μ,K ρ G μ→Wo dr mc P n l K' σ ρ G μ) (H:Wo dr mc P n l K [i] ρ G μ):Wo dr mc P n l K' (i :: σ) ρ G μ:=by
 have h0:∀ {ρ G μ},Wo dr mc P n l K [] ρ G μ→Wo dr mc P n l K' σ ρ G μ:=fun h=>by cases h with | nil h=>exact hm _ _ _ h
 cases H with
 | pure ho hk hg hr h=>exact .pure ho hk hg hr (h0 h)
 | read ho hk hg hr h=>exact .read ho hk hg hr (h0 h)
 | make ho hk hg hr h=>exact .make ho hk hg hr fun b=>h0 (h b)
 | box ho hk hg hr h=>exact .box ho hk hg hr fun b=>h0 (h b)
 | callv ho hk hg hr hf h=>exact .callv ho hk hg hr hf (h0 h)
 | call ho hk hg hr hf h=>exact .call ho hk hg hr hf fun v G' μ' a b=>h0 (h v G' μ' a b)
 | callg hd ho hg hr hf h=>exact .callg hd ho hg hr hf fun v G' μ' a b=>h0 (h v G' μ' a b)
 | fresh ho hk hg hp hr hw h=>exact .fresh ho hk hg hp hr hw fun v G' μa μb a b=>h0 (h v G' μa μb a b)
 | act ho hk hg hp hr h=>exact .act ho hk hg hp hr fun v G' μ' a b=>h0 (h v G' μ' a b)
theorem Wo.cut1 {j:Nat} {σ:List Nat} {ρ:Env} {G:PM} {μ:Mem} (H:Wo dr mc P n l K (j :: σ) ρ G μ):Wo dr mc P n l (fun ρ G μ=>Wo dr mc P n l K σ ρ G μ) [j] ρ G μ:=by
 cases H with
 | pure ho hk hg hr h=>exact .pure ho hk hg hr (.nil h)
 | read ho hk hg hr h=>exact .read ho hk hg hr (.nil h)
 | make ho hk hg hr h=>exact .make ho hk hg hr fun b=>.nil (h b)
 | box ho hk hg hr h=>exact .box ho hk hg hr fun b=>.nil (h b)
 | callv ho hk hg hr hf h=>exact .callv ho hk hg hr hf (.nil h)
 | call ho hk hg hr hf h=>exact .call ho hk hg hr hf fun v G' μ' a b=>.nil (h v G' μ' a b)
 | callg hd ho hg hr hf h=>exact .callg hd ho hg hr hf fun v G' μ' a b=>.nil (h v G' μ' a b)
 | fresh ho hk hg hp hr hw h=>exact .fresh ho hk hg hp hr hw fun v G' μa μb a b=>.nil (h v G' μa μb a b)
 | act ho hk hg hp hr h=>exact .act ho hk hg hp hr fun v G' μ' a b=>.nil (h v G' μ' a b)
def oneOk (mc:Md) (l:List Oper) (listed:Array Bool) (i:Nat):Bool :=
 (rdy l listed).contains i&&match nth l i with
 | some oi=>(kindOf mc oi.op == .pure||kindOf mc oi.op == .read)&&(List.range l.length).all fun j=>listed.getD j true||j == i||match nth l j with
  | some oj=>dep l l.length j i||(oi.apart l.toArray oj&&(kindOf mc oi.op == .pure||kindOf mc oj.op != .act))
  | none=>false
 | none=>false
def Wt (mc:Md) (P:Program) (n:Nat) (l:List Oper) (K:Env→PM→Mem→Prop):Nat→Array Bool→Env→PM→Mem→Prop
 | 0,listed,ρ,G,μ=>rdy l listed=[]∧K ρ G μ
 | m+1,listed,ρ,G,μ=>(∃ i,oneOk mc l listed i=true∧Wo true mc P n l (fun ρ' G' μ'=>Wt mc P n l K m (listed.setIfInBounds i true) ρ' G' μ') [i] ρ G μ) ∨
   (rdy l listed≠[]∧∀ j∈rdy l listed,Wo true mc P n l (fun ρ' G' μ'=>Wt mc P n l K m (listed.setIfInBounds j true) ρ' G' μ') [j] ρ G μ)
theorem Wt.kok (hK:KOk K):∀ (m:Nat) (listed:Array Bool),KOk (fun ρ G μ=>Wt mc P n l K m listed ρ G μ)
 | 0,listed=>⟨fun ρ ρ' G μ e h=>⟨h.1,hK.1 _ _ _ _ e h.2⟩,fun ρ G μ μ' p h=>⟨h.1,hK.2 _ _ _ _ p h.2⟩⟩
 | m+1,listed=>by
  refine ⟨fun ρ ρ' G μ e h=>?_,fun ρ G μ μ' p h=>?_⟩
  ·rcases h with ⟨i,h1,h2⟩ | ⟨h1,h2⟩
   ·exact .inl ⟨i,h1,h2.congr (Wt.kok hK m _) e⟩
   exact .inr ⟨h1,fun j hj=>(h2 j hj).congr (Wt.kok hK m _) e⟩
  rcases h with ⟨i,h1,h2⟩ | ⟨h1,h2⟩
  ·exact .inl ⟨i,h1,h2.perm (Wt.kok hK m _) p⟩
  exact .inr ⟨h1,fun j hj=>(h2 j hj).perm (Wt.kok hK m _) p⟩
def unlN (listed:Array Bool):Nat:=listed.toList.count false
theorem unlN_set {listed:Array Bool} {i:Nat} (h:listed.getD i true=false):unlN (listed.setIfInBounds i true)+1=unlN listed:=by
 rcases Nat.lt_or_ge i listed.size with h' | h'
 ·have h2:listed.toList[i]'(by simpa using h')=false:=by simpa [h'] using h
  unfold unlN
  rw [Array.toList_setIfInBounds,List.count_set (by simpa using h')]
  have hp:0<listed.toList.count false:=List.count_pos_iff.2 (by rw [← h2]; exact List.getElem_mem _)
  rw [if_pos (by rw [h2]; rfl),if_neg (by decide)]
  omega
 ·simp [h'] at h
theorem unlN_pos {listed:Array Bool} {i:Nat} (h:listed.getD i true=false):0<unlN listed:=by
 have:=unlN_set h; omega
theorem oneOk_mono {listed:Array Bool} {i j:Nat} (hne:i≠j) (h:oneOk mc l listed i=true):oneOk mc l (listed.setIfInBounds j true) i=true:=by
 unfold oneOk at h ⊢
 simp only [Bool.and_eq_true] at h ⊢
 obtain ⟨h1,h2⟩:=h
 refine ⟨by simpa using rdy_mono (by simpa using h1) hne,?_⟩
 cases hi:nth l i with
 | none=>rw [hi] at h2; cases h2
 | some oi =>
  simp only [hi,Bool.and_eq_true] at h2 ⊢
  refine ⟨h2.1,List.all_eq_true.2 fun k hk=>?_⟩
  have h3:=List.all_eq_true.1 h2.2 k hk
  by_cases e:j=k
  ·subst e
   have:(listed.setIfInBounds j true).getD j true=true:=by
    rcases Nat.lt_or_ge j listed.size with h' | h'<;>simp [h']
   rw [this]; rfl
  rw [getD_set_ne true e]; exact h3
theorem Wt.front (hK:KOk K) (hs:Region.noSelect l.toArray=true) (hmk:∀ j oj,nth l j=some oj→kindOf mc oj.op=.make→Makes P oj) (hds:∀ j oj,nth l j=some oj→dstOk n oj.dst) :
  ∀ (m:Nat) (listed:Array Bool) (j:Nat) (ρ:Env) (G:PM) (μ:Mem),unlN listed=m+1→Closed l listed→j∈rdy l listed→Wt mc P n l K (m+1) listed ρ G μ→Wo true mc P n l (fun ρ' G' μ'=>Wt mc P n l K m (listed.setIfInBounds j true) ρ' G' μ') [j] ρ G μ
 | m,listed,j,ρ,G,μ,hu,hcl,hj,H=>by
  rcases H with ⟨i,h1,h2⟩ | ⟨_,h2⟩
  ·by_cases e:j=i
   ·subst e; exact h2
   have hi:i∈rdy l listed:=by unfold oneOk at h1; simp only [Bool.and_eq_true] at h1; simpa using h1.1
   have hj':=rdy_mono hj e
   have hiun:=(rdy_iff.1 hi).1
   have hjun:=(rdy_iff.1 hj).1
   have hu1:=unlN_set hiun
   have hjun':(listed.setIfInBounds i true).getD j true=false:=by rw [getD_set_ne true (Ne.symm e)]; exact hjun
   have hp:=unlN_pos hjun'
   obtain ⟨m',rfl⟩ : ∃ m',m=m'+1:=⟨m-1,by omega⟩
   obtain ⟨_,oi,hoi,_⟩:=rdy_iff.1 hi
   obtain ⟨_,oj,hoj,_⟩:=rdy_iff.1 hj
   have h3:Wo true mc P n l (fun ρ' G' μ'=>Wt mc P n l K m' ((listed.setIfInBounds i true).setIfInBounds j true) ρ' G' μ') (i :: [j]) ρ G μ :=
    h2.bind1 fun ρ' G' μ' h=>Wt.front hK hs hmk hds m' (listed.setIfInBounds i true) j ρ' G' μ' (by omega) (hcl.set hi) hj' h
   have hnoe:=not_dep hcl hiun hj l.length
   have hjl:j<l.length:=by
    have:=(nth_eq l j).trans hoj
    exact (by simpa using (Array.getElem?_eq_some_iff.1 this).1)
   have h1':=h1
   unfold oneOk at h1'
   simp only [Bool.and_eq_true,hoi] at h1'
   obtain ⟨_,hki,hall⟩:=h1'
   have h4:=List.all_eq_true.1 hall j (List.mem_range.2 hjl)
   simp only [hjun,hoj,hnoe,Bool.false_or,Bool.or_eq_true,beq_iff_eq,e,false_or,Bool.and_eq_true,bne_iff_ne] at h4
   simp only [Bool.or_eq_true,beq_iff_eq] at hki
   have hkk:kindOf mc oi.op=.pure∨(kindOf mc oi.op=.read∧kindOf mc oj.op≠.act)∨kindOf mc oj.op=.make:=by
    rcases hki with h5 | h5
    ·exact .inl h5
    rcases h4.2 with h6 | h6
    ·exact .inl h6
    exact .inr (.inl ⟨h5,h6⟩)
   have h5:=Wo.swap (Wt.kok hK m' _) rfl hoi hoj (apart_of hs hoi hoj h4.1) hds (hmk j oj hoj) hkk h3
   refine h5.cut1.bind1 fun ρ' G' μ' h=>.nil (.inl ⟨i,oneOk_mono (Ne.symm e) h1,?_⟩)
   rw [Array.setIfInBounds_comm _ _ e]
   exact h
  exact h2 j hj
theorem Wt.any {Q:Exit→Act→World→Prop} {G0:PM} {K0:List Nat} {w0:World} (hK:KOk K) (hs:Region.noSelect l.toArray=true) (hmk:∀ j oj,nth l j=some oj→kindOf mc oj.op=.make→Makes P oj) (hds:∀ j oj,nth l j=some oj→dstOk n oj.dst)
  (hQ:∀ ρ G μ,K ρ G μ→∀ a w,Ag n ρ a→Tr G0 K0 w0 G μ w→Q .normal a w) :
  ∀ (m:Nat) (listed:Array Bool) (ρ:Env) (G:PM) (μ:Mem) (a:Act) (w:World),unlN listed=m→Closed l listed→Wt mc P n l K m listed ρ G μ→Ag n ρ a→Tr G0 K0 w0 G μ w→wpAny P .any l.toArray Q m listed a w
 | 0,listed,ρ,G,μ,a,w,_,_,H,ha,ht=>⟨H.1,hQ _ _ _ H.2 a w ha ht⟩
 | m+1,listed,ρ,G,μ,a,w,hu,hcl,H,ha,ht=>by
  refine ⟨fun h0=>?_,fun j hj=>?_⟩
  ·rcases H with ⟨i,h1,_⟩ | ⟨h1,_⟩
   ·have hi:i∈rdy l listed:=by unfold oneOk at h1; simp only [Bool.and_eq_true] at h1; simpa using h1.1
    unfold rdy at hi
    rw [h0] at hi; cases hi
   exact absurd h0 h1
  have hj':j∈rdy l listed:=hj
  have hu1:=unlN_set (rdy_iff.1 hj').1
  obtain ⟨o,ho,h⟩:=(Wt.front hK hs hmk hds m listed j ρ G μ hu hcl hj' H).head ha ht (next:=wpAny P .any l.toArray Q m (listed.setIfInBounds j true)) (Q:=Q) hds
   (fun ρ' G' μ' a' w' H' ha' ht'=>by cases H' with | nil h=>exact Wt.any hK hs hmk hds hQ m _ ρ' G' μ' a' w' (by omega) (hcl.set hj') h ha' ht')
  simp only [wpOp,nth_eq,ho]
  split
  ·rename_i hw; rw [if_pos hw] at h; exact .inl h
  rename_i hw; rw [if_neg hw] at h; exact h
def mixOk (P:Program) (n:Nat) (l:List Oper):Bool:=Region.noSelect l.toArray&&(l.all fun o=>match o.dst with | some d=>decide (d<n) | none=>true)&&allocOk P l
theorem Wk.mix {X:Cx} {k:List KI} {id:Nat} {ρ:Env} {G:PM} {μ:Mem} (mc:Md) (hm:X.P.follows .mixedOrders=true) (hok:mixOk X.P X.n l=true)
  (h:Wt mc X.P X.n l (fun ρ G μ=>We X .normal k ρ G μ) l.length (Array.replicate l.length false) ρ G μ):Wk X (.region id l.toArray true) k ρ G μ:=by
 simp only [mixOk,Bool.and_eq_true] at hok
 obtain ⟨⟨h1,h2⟩,h3⟩:=hok
 refine ⟨fun a w ha ht=>wp_region_any hm ?_⟩
 have hu:unlN (Array.replicate l.length false)=l.length:=by simp [unlN]
 have:=Wt.any (Q:=Qof X k) (We.kok .normal) h1 (fun j oj hj hk=>makes_of hk (List.all_eq_true.1 h3 oj (mem_of_nth hj)))
  (fun j oj hj=>by
   have:=List.all_eq_true.1 h2 oj (mem_of_nth hj)
   cases hd:oj.dst with
   | none=>trivial
   | some d=>rw [hd] at this; show d<X.n; exact of_decide_eq_true this) (fun _ _ _ h a w ha ht=>h.out a w ha ht) l.length _ ρ G μ a _ hu (Closed.none l.length) h ha ht.drew
 simpa using this
variable {ρ:Env} {G:PM} {μ:Mem} {m:Nat} {listed:Array Bool}
theorem Wt.last (hr:rdy l listed=[]) (h:K ρ G μ):Wt mc P n l K 0 listed ρ G μ:=⟨hr,h⟩
theorem Wt.one (i:Nat) (hc:oneOk mc l listed i=true) (h:Wo true mc P n l (fun ρ' G' μ'=>Wt mc P n l K m (listed.setIfInBounds i true) ρ' G' μ') [i] ρ G μ):Wt mc P n l K (m+1) listed ρ G μ:=.inl ⟨i,hc,h⟩
theorem Wt.b1 (j:Nat) (hr:rdy l listed=[j]) (h:Wo true mc P n l (fun ρ' G' μ'=>Wt mc P n l K m (listed.setIfInBounds j true) ρ' G' μ') [j] ρ G μ):Wt mc P n l K (m+1) listed ρ G μ :=
 .inr ⟨by rw [hr]; simp,fun j' hj'=>by rw [hr] at hj'; obtain rfl:=List.mem_singleton.1 hj'; exact h⟩
theorem Wt.b2 (j j2:Nat) (hr:rdy l listed=[j,j2]) (h:Wo true mc P n l (fun ρ' G' μ'=>Wt mc P n l K m (listed.setIfInBounds j true) ρ' G' μ') [j] ρ G μ)
  (h2:Wo true mc P n l (fun ρ' G' μ'=>Wt mc P n l K m (listed.setIfInBounds j2 true) ρ' G' μ') [j2] ρ G μ):Wt mc P n l K (m+1) listed ρ G μ :=
 .inr ⟨by rw [hr]; simp,fun j' hj'=>by
  rw [hr] at hj'
  rcases List.mem_cons.1 hj' with rfl | hj'
  ·exact h
  ·obtain rfl:=List.mem_singleton.1 hj'; exact h2⟩
end
theorem flat_tk {α:Type} {enc:α→List Value} {sz:Nat}:∀ {xs:List α} {q:Nat},(∀ y∈xs,(enc y).length=sz)→(xs.take q).flatMap enc=(xs.flatMap enc).take (q*sz)
 | [],q,_=>by simp
 | x :: xs,0,_=>by simp
 | x :: xs,q+1,h=>by
  have hx:=h x (List.mem_cons_self ..)
  rw [List.take_succ_cons,List.flatMap_cons,List.flatMap_cons,show (q+1)*sz=(enc x).length+q*sz by rw [hx,Nat.succ_mul]; omega,List.take_length_add_append,flat_tk (fun y hy=>h y (List.mem_cons_of_mem _ hy))]
theorem flat_dr {α:Type} {enc:α→List Value} {sz:Nat}:∀ {xs:List α} {q:Nat},(∀ y∈xs,(enc y).length=sz)→(xs.drop q).flatMap enc=(xs.flatMap enc).drop (q*sz)
 | [],q,_=>by simp
 | x :: xs,0,_=>by simp
 | x :: xs,q+1,h=>by
  have hx:=h x (List.mem_cons_self ..)
  rw [List.drop_succ_cons,List.flatMap_cons,show (q+1)*sz=(enc x).length+q*sz by rw [hx,Nat.succ_mul]; omega,List.drop_length_add_append,flat_dr (fun y hy=>h y (List.mem_cons_of_mem _ hy))]
section
variable {dr:Bool} {mc:Md} {P:Program} {n:Nat} {l:List Oper} {K:Env→PM→Mem→Prop} {i:Nat} {σ:List Nat} {ρ:Env} {G:PM} {μ:Mem}
variable {d t:Nat} {p:String} {af:Array Edge} {g:Option (Nat×Bool)} {c:Bool}
theorem sr1 {T T':TypeId} {x y:Operand} {k k':IntKind} {a1 a2:Int} (A:Nat) (ho:nth l i=some ⟨some d,.binOp .shr T x y T',t,p,af,g⟩) (hg:Gd l ρ g c) (hx:Ev ρ c x (.int k a1)) (hy:Ev ρ c y (.int k' a2)) (e1:a1=A) (e2:a2=1) (hk:1≤k.bits)
  (h:Wo dr mc P n l K σ ((d,c,.int k ((A / 2:Nat):Int)) :: ρ) G μ):Wo dr mc P n l K (i :: σ) ρ G μ:=by
 subst e1; subst e2
 refine sr ho hg hx hy (fun _=>by decide) ?_
 have e:(A:Int).fdiv (2^(min (1:Int).toNat k.bits))=((A / 2:Nat):Int):=by
  have:min (1:Int).toNat k.bits=1:=by show min 1 k.bits=1; omega
  rw [this,Int.pow_one,Int.fdiv_eq_ediv_of_nonneg _ (by decide)]
  rfl
 rw [e]; exact h
theorem s3 {T e sz by':Nat} {x y z u:Operand} {b m cap:Nat} {k1 k2 k3:IntKind} {lo hi mx:Int} (ho:nth l i=some ⟨some d,.slice T x (some y) (some z) (some u),t,p,af,none⟩) (hT:slE P T=some (e,sz,by')) (hx:Ev ρ true x (.slice (some ⟨b,0,none⟩) m cap)) (hy:Ev ρ true y (.int k1 lo)) (hz:Ev ρ true z (.int k2 hi)) (hu:Ev ρ true u (.int k3 mx))
  (h0:0≤lo) (h1:lo≤hi) (h2:hi≤mx) (h3:mx≤cap) (h:∀ v,Wo dr mc P n l K σ ((d,true,v) :: ρ) G μ):Wo dr mc P n l K (i :: σ) ρ G μ:=by
 obtain ⟨hu',inf,hi',hs1,hb1⟩:=slE_some hT
 refine .pure (v:=.slice (if mx.toNat=lo.toNat then (some ⟨b,0,none⟩ : Option Addr) else (some ⟨b,0,none⟩ : Option Addr).map (·.add (lo.toNat*inf.size))) (hi.toNat-lo.toNat) (mx.toNat-lo.toNat)) ho (.inl rfl) .no (fun hc a w ha=>?_) (h _)
 simp [execOp,hx.eval ha rfl,hy.eval ha rfl,hz.eval ha rfl,hu.eval ha rfl,Instr.sliceAt,run_underlying hu',Instr.slice,Instr.sliceBounds,Instr.sliceBound,asIntOf,show 0≤hi by omega,show 0≤mx by omega,h0,sizeOf,typeInfo,hi']
 repeat' split
 all_goals first|rfl|(exfalso; omega)|(simp; done)|skip
theorem srh {T e sz by':Nat} {x z:Operand} {b m cap:Nat} {k:IntKind} {hi:Int} (q:Nat) (ho:nth l i=some ⟨some d,.slice T x none (some z) none,t,p,af,none⟩) (hT:slE P T=some (e,sz,by')) (hx:Ev ρ true x (.slice (some ⟨b,0,none⟩) m cap)) (hz:Ev ρ true z (.int k hi))
  (hq:hi=q) (h1:q≤cap) (h:Wo dr mc P n l K σ ((d,true,.slice (some ⟨b,0,none⟩) q cap) :: ρ) G μ):Wo dr mc P n l K (i :: σ) ρ G μ:=by
 subst hq
 exact se (s:=⟨some ⟨b,0,none⟩,cap⟩) (m:=m) ho .no hT hx hz (fun _=>by omega) (fun _=>by show (q:Int)≤cap; omega) (by rw [Int.toNat_natCast]; exact h)
theorem slz {T e sz by' b m cap:Nat} {x y:Operand} {k:IntKind} {lo:Int} (q:Nat) (ho:nth l i=some ⟨some d,.slice T x (some y) none none,t,p,af,none⟩) (hT:slE P T=some (e,sz,by')) (hx:Ev ρ true x (.slice (some ⟨b,0,none⟩) m cap)) (hy:Ev ρ true y (.int k lo))
  (hq:lo=q) (h1:q≤m) (h2:m≤cap) (h:∀ oa,(q<m→oa=some ⟨b,q*sz,none⟩)→Wo dr mc P n l K σ ((d,true,.slice oa (m-q) (cap-q)) :: ρ) G μ):Wo dr mc P n l K (i :: σ) ρ G μ:=by
 by_cases h3:q<cap
 ·exact slr q ho hT hx hy hq h1 h2 h3 (h _ fun _=>rfl)
 refine .pure ho (.inl rfl) .no (fun _ a w ha=>?_) (h (some ⟨b,0,none⟩) (fun h4=>absurd h4 (by omega)))
 obtain ⟨hu,inf,hi,rfl,rfl⟩:=slE_some hT
 subst hq
 have hx':=hx.eval ha rfl
 have hn:cap=q:=by omega
 simp [execOp,hx',hy.eval ha rfl,Instr.sliceAt,run_underlying hu,Instr.slice,Instr.sliceBounds,Instr.sliceBound,asIntOf,sizeOf,typeInfo,hi,h1,h2,hn]
 try omega
theorem sll {T e sz by' b m cap:Nat} {x y z:Operand} {k k':IntKind} {lo hi:Int} (q r:Nat) (ho:nth l i=some ⟨some d,.slice T x (some y) (some z) none,t,p,af,none⟩) (hT:slE P T=some (e,sz,by')) (hx:Ev ρ true x (.slice (some ⟨b,0,none⟩) m cap)) (hy:Ev ρ true y (.int k lo)) (hz:Ev ρ true z (.int k' hi))
  (hq:lo=q) (hr:hi=r) (h1:q≤r) (h2:r≤cap) (h3:q<cap) (h:Wo dr mc P n l K σ ((d,true,.slice (some ⟨b,q*sz,none⟩) (r-q) (cap-q)) :: ρ) G μ):Wo dr mc P n l K (i :: σ) ρ G μ:=by
 subst hq; subst hr
 refine sc (s:=⟨some ⟨b,0,none⟩,cap⟩) (m:=m) ho .no hT hx hy hz (fun _=>by omega) (fun _=>by omega) (fun _=>by show (r:Int)≤cap; omega) ?_
 have e1:(Sh.cut ⟨some ⟨b,0,none⟩,cap⟩ (q:Int).toNat sz).val ((r:Int).toNat-(q:Int).toNat)=.slice (some ⟨b,q*sz,none⟩) (r-q) (cap-q):=by
  simp only [Int.toNat_natCast,Sh.cut,Sh.val,if_neg (show ¬ cap=q by omega),Option.map_some,add_lit,Nat.zero_add]
 rw [e1]; exact h
theorem run_apD {T E ty by' sz b m cap q r cp:Nat} {xs:List Value} {oa:Option Addr} {w:World} (hT:slE P T=some (E,sz,by')) (hs:Sat G [.row (.slice (some ⟨b,0,none⟩) m cap) E sz m xs] w) (hq:q≤r) (hr:r≤m) (hoa:r<m→oa=some ⟨b,r*sz,none⟩) (h1:∀ u∈xs,u.oneCell'=true) :
  ∃ w',(Builtin.append_ #[T,T] ty #[.slice (some ⟨b,0,none⟩) q cap,.slice oa (m-r) cp]).run P w=.ok (.slice (some ⟨b,0,none⟩) (q+(m-r)) cap) w'∧Tr G [b] w G [.row (.slice (some ⟨b,0,none⟩) (q+(m-r)) cap) E sz (q+(m-r)) (xs.take (q*sz)++xs.drop (r*sz))] w':=by
 obtain ⟨hu,inf,hi,rfl,rfl⟩:=slE_some hT
 have hown:w.ownsRow 0 E inf.size (.slice (some ⟨b,0,none⟩) m cap) m xs:=hs.own _ (List.mem_singleton.2 rfl)
 have hxl:=hown.1
 rcases hown.2 with ⟨e,_⟩ | ⟨g,cap',cur,e,_,hg,hnc,hcm,hcs,htake⟩
 ·cases e
 simp only [Value.slice.injEq,Option.some.injEq,Addr.mk.injEq,and_true,true_and] at e
 obtain ⟨rfl,rfl⟩:=e
 have hsat:Sat G [.blk b (.cells cur E (0,0))] w:=⟨hs.sub,fun r hr=>by rw [List.mem_singleton.1 hr]; exact hg,fun c hc=>hs.apart c (by simpa [keys,Res.keys,Value.ownBlock] using hc),by simp [keys,Res.keys]⟩
 have hqs:q*inf.size≤r*inf.size:=Nat.mul_le_mul_right _ hq
 have hrs:r*inf.size≤m*inf.size:=Nat.mul_le_mul_right _ hr
 have hms:m*inf.size≤cap*inf.size:=Nat.mul_le_mul_right _ hnc
 have hcl:cur.toList.length=cur.size:=Array.length_toList ..
 have hnl:(xs.drop (r*inf.size)).length=(m-r)*inf.size:=by rw [List.length_drop,hxl,Nat.sub_mul]
 have hsub:(m-r)*inf.size=m*inf.size-r*inf.size:=Nat.sub_mul ..
 have hlen:(xs.take (q*inf.size)++xs.drop (r*inf.size)).length=(q+(m-r))*inf.size:=by
  rw [List.length_append,hnl,List.length_take,Nat.add_mul,hxl]; omega
 have hpre:cur.toList.take (q*inf.size)=xs.take (q*inf.size):=by
  rw [← htake,List.take_take,Nat.min_eq_left (by omega)]
 by_cases hk:m-r=0
 ·rw [hk]
  have hd:xs.drop (r*inf.size)=[]:=List.drop_of_length_le (by rw [hxl]; exact Nat.mul_le_mul_right _ (by omega))
  rw [hd,List.append_nil,Nat.add_zero]
  refine ⟨w,?_,?_⟩
  ·have hqc:q≤cap:=by omega
   cases oa<;>simp [Builtin.append_,run_underlying hu,sizeOf,typeInfo,hi,Builtin.lenOf,Builtin.firstCells,loadCells,loadCellsFrom,hqc,storeCells]
  have:=(Tr.begin hsat).asRow (m:=q) (cap:=cap) (sz:=inf.size) (xs:=xs.take (q*inf.size)) (by rw [List.length_take,hxl]; omega) (by omega) hcm hcs hpre
  simpa [keys,Res.keys] using this
 obtain rfl:=hoa (by omega)
 have hnews:∀ j u,(xs.drop (r*inf.size))[j]? = some u→w.cell? ((⟨b,r*inf.size,none⟩ : Addr).add j)=some u:=by
  intro j u hj
  rw [List.getElem?_drop] at hj
  have:=hown.cells (g:=b) rfl (r*inf.size+j) u hj
  rw [add_lit,Nat.zero_add] at this
  rw [add_lit]; exact this
 have hroom:q+(m-r)≤cap:=by omega
 have hfit:q*inf.size+(xs.drop (r*inf.size)).length≤cur.size:=by rw [hnl,hcs,←Nat.add_mul]; exact Nat.mul_le_mul_right _ hroom
 have hrun:=run_append_room (P:=P) w T ty E inf hu hi b q cap cur hg ⟨b,r*inf.size,none⟩ (m-r) cp (xs.drop (r*inf.size)) hnl hnews (fun u hu=>h1 u (List.mem_of_mem_drop hu)) hroom hfit
 refine ⟨_,hrun,?_⟩
 have h2:=Tr.setArr (cs':=(cur.toList.take (q*inf.size)++xs.drop (r*inf.size)++cur.toList.drop (q*inf.size+(xs.drop (r*inf.size)).length)).toArray) hsat
 refine h2.asRow (m:=q+(m-r)) (cap:=cap) (sz:=inf.size) hlen hroom hcm ?_ ?_
 ·simp only [List.size_toArray,qlB,hcl]
  rw [List.length_drop] at hfit
  omega
 rw [hpre,←hlen]
 exact List.take_left
theorem apD {α:Type} {enc:α→List Value} {T E sz by' b cap q r cp:Nat} {x y:Operand} {xs:List α} {oa:Option Addr} {μ':Mem} (ho:nth l i=some ⟨some d,.call { callee:=.builtin .append,args:=#[x,y],argTypes:=#[T,T] },t,p,af,none⟩) (hT:slE P T=some (E,sz,by'))
  (hx:Ev ρ true x (.slice (some ⟨b,0,none⟩) q cap)) (hy:Ev ρ true y (.slice oa (xs.length-r) cp)) (hm:MTake μ (rS sz enc (.slice (some ⟨b,0,none⟩) xs.length cap) E xs) μ') (hoa:r<xs.length→oa=some ⟨b,r*sz,none⟩) (hsz:∀ y∈xs,(enc y).length=sz) (h1:∀ u∈xs.flatMap enc,u.oneCell'=true) (hq:q≤r) (hr:r≤xs.length)
  (h:Wo dr mc P n l K σ ((d,true,.slice (some ⟨b,0,none⟩) (xs.take q++xs.drop r).length cap) :: ρ) G (rS sz enc (.slice (some ⟨b,0,none⟩) (xs.take q++xs.drop r).length cap) E (xs.take q++xs.drop r) :: μ')) (hmc:mc.a=false∨dr=false:=by first|exact .inl rfl|exact .inr rfl):Wo dr mc P n l K (i :: σ) ρ G μ:=by
 have hl0:(xs.take q++xs.drop r).length=q+(xs.length-r):=by rw [List.length_append,List.length_take,List.length_drop]; omega
 rw [hl0] at h
 refine .act (μ₁:=[rS sz enc (.slice (some ⟨b,0,none⟩) xs.length cap) E xs]) (μ₂:=μ') (post:=fun G' μ' v'=>G'=G∧v'=.slice (some ⟨b,0,none⟩) (q+(xs.length-r)) cap∧μ'=[rS sz enc (.slice (some ⟨b,0,none⟩) (q+(xs.length-r)) cap) E (xs.take q++xs.drop r)]) ho (by rcases hmc with h | h<;>simp [kindOf,h]) .no hm.perm (fun a w ha hs=>.inl ?_) ?_
 ·obtain ⟨w',hrun,ht⟩:=run_apD (ty:=t) (cp:=cp) hT hs.left hq hr hoa h1
  refine ⟨_,w',G,_,.inl (by simp [execOp,resolve,invoke,builtin,hx.eval ha rfl,hy.eval ha rfl,hrun]),?_,rfl,rfl,rfl⟩
  have hl:(xs.take q++xs.drop r).length=q+(xs.length-r):=by rw [List.length_append,List.length_take,List.length_drop]; omega
  have e1:(xs.take q++xs.drop r).flatMap enc=(xs.flatMap enc).take (q*sz)++(xs.flatMap enc).drop (r*sz):=by
   rw [List.flatMap_append,flat_tk hsz,flat_dr hsz]
  have hk:keys [rS sz enc (.slice (some ⟨b,0,none⟩) xs.length cap) E xs]=[b]:=by simp [keys,Res.keys,Value.ownBlock]
  rw [hk]
  show Tr G [b] w G [.row _ E sz (xs.take q++xs.drop r).length ((xs.take q++xs.drop r).flatMap enc)] w'
  rw [hl,e1]; exact ht
 rintro v' G' μ'' _ ⟨rfl,rfl,rfl⟩
 exact h
theorem clT {α:Type} {enc:α→List Value} {T E sz by' b cap k cp:Nat} {x:Operand} {z:Value} {xs:List α} {μ':Mem} {dd:Option Nat} (ho:nth l i=some ⟨dd,.call { callee:=.builtin .clear,args:=#[x],argTypes:=#[T] },t,p,af,none⟩) (hT:slE P T=some (E,sz,by')) (hz:(P.info? E).bind (·.zero)=some z) (hzs:z.cells.size=sz) (hz1:∀ u∈z.cells,u.oneCell'=true)
  (hx:Ev ρ true x (.slice (some ⟨b,xs.length*sz,none⟩) k cp)) (hm:MTake μ (rS sz enc (.slice (some ⟨b,0,none⟩) xs.length cap) E xs) μ') (h0:0<k) (hk:xs.length+k≤cap) (hsz:∀ y∈xs,(enc y).length=sz)
  (h:Wo dr mc P n l K σ (lay ρ dd true (.tuple #[])) G (rS sz enc (.slice (some ⟨b,0,none⟩) xs.length cap) E xs :: μ')):Wo dr mc P n l K (i :: σ) ρ G μ:=by
 refine .act (μ₁:=[rS sz enc (.slice (some ⟨b,0,none⟩) xs.length cap) E xs]) (μ₂:=μ') (post:=fun G' μ' v'=>G'=G∧v'=.tuple #[]∧μ'=[rS sz enc (.slice (some ⟨b,0,none⟩) xs.length cap) E xs]) ho (.inl rfl) .no hm.perm (fun a w ha hs=>.inl ?_) ?_
 ·have hs':=hs.left
  have hrow:w.ownsRow 0 E sz (.slice (some ⟨b,0,none⟩) xs.length cap) xs.length (xs.flatMap enc):=hs'.own _ (List.mem_singleton.2 rfl)
  have hfl:=flat_len hsz
  obtain ⟨hu,inf,hi,rfl,rfl⟩:=slE_some hT
  rw [hi] at hz
  simp only [Option.bind_some] at hz
  rcases hrow.2 with ⟨e,_⟩ | ⟨g,cap',cur,e,_,hg,hnc,hcm,hcs,htake⟩
  ·cases e
  simp only [Value.slice.injEq,Option.some.injEq,Addr.mk.injEq,and_true,true_and] at e
  obtain ⟨rfl,rfl⟩:=e
  have hsat:Sat G [.blk b (.cells cur E (0,0))] w:=⟨hs'.sub,fun r hr=>by rw [List.mem_singleton.1 hr]; exact hg,fun c hc=>hs'.apart c (by simpa [keys,Res.keys,Value.ownBlock] using hc),by simp [keys,Res.keys]⟩
  have hzl:(Builtin.zeroCells z.cells k).toList.length=k*inf.size:=by rw [Array.length_toList,size_zeroCells,hzs]
  have hin:xs.length*inf.size+k*inf.size≤cap*inf.size:=by rw [← Nat.add_mul]; exact Nat.mul_le_mul_right _ hk
  have hz2:∀ u∈(Builtin.zeroCells z.cells k).toList,u.oneCell'=true:=by
   intro u hu
   rw [Array.mem_toList_iff] at hu
   unfold Builtin.zeroCells at hu
   obtain ⟨j,hj,rfl⟩:=Array.mem_map.1 hu
   have hjs:j%z.cells.size<z.cells.size:=Nat.mod_lt _ (by
    rcases Nat.eq_zero_or_pos z.cells.size with h0' | h0'
    ·rw [h0'] at hj; simp at hj
    exact h0')
   have:z.cells[j%z.cells.size]! = z.cells[j%z.cells.size]:=by simp [hjs]
   rw [this]
   exact hz1 _ (Array.getElem_mem hjs)
  have hst:=run_storeCells_at P b (xs.length*inf.size) E (Builtin.zeroCells z.cells k).toList 0 cur w hg (by rw [Nat.add_zero,hzl]; omega) hz2
  simp only [Nat.add_zero] at hst
  refine ⟨.tuple #[],w.setRow b (cur.toList.take (xs.length*inf.size)++(Builtin.zeroCells z.cells k).toList++cur.toList.drop (xs.length*inf.size+(Builtin.zeroCells z.cells k).toList.length)).toArray,G,_,.inl (by
   have hk0:k≠0:=by omega
   simp [execOp,resolve,invoke,builtin,hx.eval ha rfl,Builtin.clear_,run_underlying hu,zeroValue,typeInfo,hi,hz,hst]),?_,rfl,rfl,rfl⟩
  have hkk:keys [rS inf.size enc (.slice (some ⟨b,0,none⟩) xs.length cap) E xs]=[b]:=by simp [keys,Res.keys,Value.ownBlock]
  rw [hkk]
  have h2:=Tr.setArr (cs':=(cur.toList.take (xs.length*inf.size)++(Builtin.zeroCells z.cells k).toList++cur.toList.drop (xs.length*inf.size+(Builtin.zeroCells z.cells k).toList.length)).toArray) hsat
  have hcl:cur.toList.length=cur.size:=Array.length_toList ..
  refine h2.asRow (m:=xs.length) (cap:=cap) (sz:=inf.size) hfl (by omega) hcm ?_ ?_
  ·simp only [List.size_toArray,qlB,hcl,hzl]
   omega
  rw [List.append_assoc,List.take_append_of_le_length (by rw [List.length_take,hcl]; omega),List.take_take,Nat.min_self,htake]
 rintro v' G' μ'' _ ⟨rfl,rfl,rfl⟩
 exact h
end
theorem Ct.lendS {α:Type} {enc:α→List Value} {sz:Nat} {P:Program} {G:PM} {μ:Mem} {f:FuncId} {args:Array Value} {E:Nat} {v:Value} {xs:List α} {Q:Mem→Value→Prop} (hsz:∀ x∈xs,(enc x).length=sz)
  (h:∀ (s:Sh) (G2:PM),PM.le G G2→v=s.val xs.length→SlR G2 sz enc s xs→Ct P f args G2 μ (fun _ μ' u=>Q μ' u)):Ct P f args G (rS sz enc v E xs :: μ) (fun _ μ' u=>∃ ν,μ'=rS sz enc v E xs :: ν∧Q ν u):=by
 intro w hs
 have hrow:w.ownsRow 0 E sz v xs.length (xs.flatMap enc):=hs.own _ (List.mem_cons_self ..)
 have hnd:=hs.nodup
 rcases hrow.2 with ⟨rfl,h0⟩ | ⟨g,cap,cur,rfl,_,hg,hnc,hcm,hcs,htake⟩
 ·have hx:xs=[]:=List.eq_nil_of_length_eq_zero h0
  subst hx
  have hk:keys (rS sz enc (.slice none 0 0) E ([]:List α) :: μ)=keys μ:=by simp [keys,Res.keys,Value.ownBlock]
  have hs2:Sat G μ w:=⟨hs.sub,fun r hr=>hs.own r (List.mem_cons_of_mem _ hr),by rw [← hk]; exact hs.apart,by rw [← hk]; exact hs.nodup⟩
  refine (h ⟨none,0⟩ G (PM.le.refl G) rfl SlR.nul w hs2).mono ?_
  rintro e w' ⟨u,G',μ',rfl,ht,hQ⟩
  refine ⟨u,G',_,rfl,?_,μ',rfl,hQ⟩
  rw [hk]; exact ht.nilRow
 have hk:keys (rS sz enc (.slice (some ⟨g,0,none⟩) xs.length cap) E xs :: μ)=keys (.blk g (.cells cur E (0,0)) :: μ):=by simp [keys,Res.keys,Value.ownBlock]
 have hs2:Sat G (.blk g (.cells cur E (0,0)) :: μ) w:=by
  refine ⟨hs.sub,fun r hr=>?_,by rw [← hk]; exact hs.apart,by rw [← hk]; exact hs.nodup⟩
  rcases List.mem_cons.1 hr with rfl | hr
  ·exact hg
  exact hs.own r (List.mem_cons_of_mem _ hr)
 have hGg:G g=none:=hs2.apart g (by simp [keys,Res.keys])
 have hsl:SlR (G.add g (.cells cur E (0,0))) sz enc ⟨some ⟨g,0,none⟩,cap⟩ xs:=by
  refine SlR.ofRow hsz hnc (fun _=>rfl) ?_
  intro j u hj w' hs'
  show w'.cell? ⟨g,0+j,none⟩=some u
  rw [Nat.zero_add,cell_of_row w' g j cur E (0,0) (hs' g _ (PM.add_same G g _))]
  rw [← htake,List.getElem?_take] at hj
  split at hj
  ·simpa using hj
  cases hj
 refine (Ct.lend (h ⟨some ⟨g,0,none⟩,cap⟩ _ (PM.le_add hGg) rfl hsl) w hs2).mono ?_
 rintro e w' ⟨u,G',μ',rfl,ht,ν,rfl,hQ⟩
 refine ⟨u,G',_,rfl,?_,ν,rfl,hQ⟩
 rw [hk]
 exact ht.asRow (flat_len hsz) hnc hcm hcs htake
section
variable {α:Type}
theorem gd_at {l:List α} {k:Nat} {z:α} (h:k<l.length):l[k]? = some (l.getD k z):=by simp [h]
theorem getD_mid {X Z:List α} {x z0:α} {i:Nat} (hi:i=X.length):(X++x :: Z).getD i z0=x:=by subst hi; simp
theorem set_mid {X Z:List α} {x y:α} {i:Nat} (hi:i=X.length):(X++x :: Z).set i y=X++y :: Z:=by subst hi; simp
theorem getD_i {X Y Z L:List α} {x y z0:α} {i:Nat} (hL:L=X++x :: (Y++y :: Z)) (hi:i=X.length):L.getD i z0=x:=by rw [hL,getD_mid hi]
theorem getD_j {X Y Z L:List α} {x y z0:α} {j:Nat} (hL:L=X++x :: (Y++y :: Z)) (hj:j=X.length+1+Y.length):L.getD j z0=y:=by
 rw [hL,show X++x :: (Y++y :: Z)=(X++x :: Y)++y :: Z by simp,getD_mid (by simp; omega)]
theorem swp_ij {X Y Z L:List α} {x y z0:α} {i j:Nat} (hL:L=X++x :: (Y++y :: Z)) (hi:i=X.length) (hj:j=X.length+1+Y.length):(L.set i (L.getD j z0)).set j (L.getD i z0)=X++y :: (Y++x :: Z):=by
 rw [getD_i hL hi,getD_j hL hj,hL,set_mid hi,show X++y :: (Y++y :: Z)=(X++y :: Y)++y :: Z by simp,set_mid (by simp; omega)]; simp
theorem swp_ji {X Y Z L:List α} {x y z0:α} {i j:Nat} (hL:L=X++x :: (Y++y :: Z)) (hi:i=X.length) (hj:j=X.length+1+Y.length):(L.set j (L.getD i z0)).set i (L.getD j z0)=X++y :: (Y++x :: Z):=by
 rw [getD_i hL hi,getD_j hL hj,hL,show X++x :: (Y++y :: Z)=(X++x :: Y)++y :: Z by simp,set_mid (by simp; omega),show (X++x :: Y)++x :: Z=X++x :: (Y++x :: Z) by simp,set_mid hi]
def swL (P A Q B S:List α) (k:Nat):List α:=P++(B.take k++A.drop k)++Q++(A.take k++B.drop k)++S
theorem swL_zero (P A Q B S:List α):swL P A Q B S 0=P++A++Q++B++S:=by simp [swL]
theorem swL_all {P A Q B S:List α} {k:Nat} (h:A.length=B.length) (hk:k=A.length):swL P A Q B S k=P++B++Q++A++S:=by
 subst hk
 unfold swL
 rw [List.take_of_length_le (l:=B) (by omega),List.drop_of_length_le (l:=A) (by omega),List.take_of_length_le (l:=A) (by omega),List.drop_of_length_le (l:=B) (by omega)]; simp
theorem swL_len (P A Q B S:List α) {k:Nat} (h:A.length=B.length) (hk:k≤A.length):(swL P A Q B S k).length=P.length+A.length+Q.length+B.length+S.length:=by
 unfold swL; simp only [qlB]; omega
theorem swL_step {P A Q B S:List α} {k i j:Nat} {z0:α} (h:A.length=B.length) (hk:k<A.length) (hi:i=P.length+k) (hj:j=P.length+A.length+Q.length+k) :
  ((swL P A Q B S k).set i ((swL P A Q B S k).getD j z0)).set j ((swL P A Q B S k).getD i z0)=swL P A Q B S (k+1):=by
 have ea:A.drop k=A[k] :: A.drop (k+1):=List.drop_eq_getElem_cons hk
 have eb:B.drop k=B[k] :: B.drop (k+1):=List.drop_eq_getElem_cons (by omega)
 have ta:A.take (k+1)=A.take k++[A[k]]:=by rw [List.take_add_one,List.getElem?_eq_getElem hk]; rfl
 have tb:B.take (k+1)=B.take k++[B[k]]:=by rw [List.take_add_one,List.getElem?_eq_getElem (by omega)]; rfl
 have hL:swL P A Q B S k=(P++B.take k)++A[k] :: ((A.drop (k+1)++Q++A.take k)++B[k] :: (B.drop (k+1)++S)):=by
  unfold swL; rw [ea,eb]; simp only [List.append_assoc,List.cons_append]
 rw [swp_ij hL (by simp; omega) (by simp; omega)]
 unfold swL
 rw [ta,tb]; simp only [List.append_assoc,List.cons_append,List.nil_append]
end
structure CmpR (P:Program) (f:FuncId) (vc:List Value) (cv:Meta→Meta→Int) (G:PM):Prop where
 ok:∀ G',PM.le G G'→∀ a b:Meta,Ct P f ([a.val,b.val]++vc).toArray G' [] fun _ μ' u=>μ'=[]∧u=.int .i64 (cv a b)
theorem CmpR.mono {P:Program} {f:FuncId} {vc:List Value} {cv:Meta→Meta→Int} {G G':PM} (h:CmpR P f vc cv G) (hle:PM.le G G'):CmpR P f vc cv G':=⟨fun G2 h2=>h.ok G2 (hle.trans h2)⟩
abbrev TM:=Meta×Nat
def z0:TM:=(Meta.zero,0)
def ms (T:List TM):List Meta:=T.map (·.1)
theorem ms_app (A B:List TM):ms (A++B)=ms A++ms B:=List.map_append ..
theorem ms_cons (x:TM) (B:List TM):ms (x :: B)=x.1 :: ms B:=rfl
theorem ms_len (A:List TM):(ms A).length=A.length:=List.length_map ..
def ltv (cv:Meta→Meta→Int) (a b:Meta):Bool:=decide (cv a b<0)
theorem seg_at {X A Z:List TM} {k:Nat} (h1:X.length≤k) (h2:k<X.length+A.length):(ms (X++A++Z)).getD k Meta.zero=(A.getD (k-X.length) z0).1:=by
 obtain ⟨d,rfl⟩ : ∃ d,k=X.length+d:=⟨k-X.length,by omega⟩
 have hd:d<A.length:=by omega
 have e:(X++A++Z)[X.length+d]? = some A[d]:=by rw [List.append_assoc,List.getElem?_append_right (by omega),show X.length+d-X.length=d by omega,List.getElem?_append_left hd,List.getElem?_eq_getElem hd]
 simp only [ms,List.getD_eq_getElem?_getD,List.getElem?_map,e,Option.map_some,Option.getD_some,show X.length+d-X.length=d by omega,List.getElem?_eq_getElem hd]
theorem getD_in {A:List TM} {k:Nat} (h:k<A.length):A.getD k z0∈A:=by
 simp only [List.getD_eq_getElem?_getD,List.getElem?_eq_getElem h,Option.getD_some]; exact List.getElem_mem h
section
variable {lt:Meta→Meta→Bool}
theorem srt_at {A:List TM} (hs:Srt lt A) {i j:Nat} (hij:i<j) (hj:j<A.length):TL lt (A.getD i z0) (A.getD j z0):=by
 have:=List.pairwise_iff_getElem.1 hs i j (by omega) hj hij
 simpa [hj,show i<A.length by omega] using this
theorem fst_lt (h:Wk0 lt) {A:List TM} (hs:Srt lt A) {q:Nat} {y:TM} (hq:q=0∨TL lt (A.getD (q-1) z0) y) (hl:q≤A.length):∀ x∈A.take q,TL lt x y:=by
 intro x hx
 obtain ⟨i,hi,rfl⟩:=List.mem_iff_getElem.1 hx
 rw [List.length_take] at hi
 rw [List.getElem_take]
 have e:A.getD i z0=A[i]:=by simp [show i<A.length by omega]
 rw [← e]
 rcases hq with hq | hq
 ·omega
 ·by_cases hi':i=q-1
  ·rw [hi']; exact hq
  ·exact (srt_at hs (show i<q-1 by omega) (by omega)).tr h hq
theorem lst_gt (h:Wk0 lt) {A:List TM} (hs:Srt lt A) {q:Nat} {y:TM} (hq:q=A.length∨TL lt y (A.getD q z0)):∀ x∈A.drop q,TL lt y x:=by
 intro x hx
 obtain ⟨i,hi,rfl⟩:=List.mem_iff_getElem.1 hx
 rw [List.length_drop] at hi
 rw [List.getElem_drop]
 have e:A.getD (q+i) z0=A[q+i]:=by simp [show q+i<A.length by omega]
 rw [← e]
 rcases hq with hq | hq
 ·omega
 ·by_cases hi':i=0
  ·rw [hi']; exact hq
  ·exact TL.tr h hq (srt_at hs (show q<q+i by omega) (by omega))
theorem srt_parts {A:List TM} (hs:Srt lt A) (q:Nat):Srt lt (A.take q)∧Srt lt (A.drop q)∧∀ x∈A.take q,∀ y∈A.drop q,TL lt x y:=by
 have h:=hs
 unfold Srt at h
 rw [← List.take_append_drop q A] at h
 exact List.pairwise_append.1 h
theorem srt_put (h:Wk0 lt) {B:List TM} {x:TM} {q:Nat} (hs:Srt lt B) (h1:q=0∨TL lt (B.getD (q-1) z0) x) (h2:q=B.length∨TL lt x (B.getD q z0)) (hl:q≤B.length):Srt lt (B.take q++x :: B.drop q):=by
 obtain ⟨s1,s2,s3⟩:=srt_parts hs q
 refine List.pairwise_append.2 ⟨s1,List.pairwise_cons.2 ⟨lst_gt h hs h2,s2⟩,fun a ha b hb=>?_⟩
 rcases List.mem_cons.1 hb with rfl | hb
 ·exact fst_lt h hs h1 hl a ha
 exact s3 a ha b hb
theorem put_perm {B:List TM} {x:TM} (q:Nat):(B.take q++x :: B.drop q).Perm (x :: B):=by
 have:=List.perm_middle (a:=x) (l₁:=B.take q) (l₂:=B.drop q)
 rwa [List.take_append_drop] at this
end
theorem srt_take1 {lt:Meta→Meta→Bool} (S:List TM):Srt lt (S.take 1):=by
 cases S with
 | nil=>exact .nil
 | cons x S=>exact List.pairwise_singleton _ _
theorem drop_getD {S:List TM} {q:Nat} (h:q<S.length):S.drop q=S.getD q z0 :: S.drop (q+1):=by
 rw [List.drop_eq_getElem_cons h]; simp [h]
theorem take_getD {S:List TM} {q:Nat} (h:q<S.length):S.take (q+1)=S.take q++[S.getD q z0]:=by
 rw [List.take_add_one,List.getElem?_eq_getElem h]; simp [h]
theorem take_last {A B:List TM} (h:0<A.length):A.take (A.length-1)++A.getD (A.length-1) z0 :: B=A++B:=by
 have:=take_getD (S:=A) (q:=A.length-1) (by omega)
 rw [show A.length-1+1=A.length by omega,List.take_length] at this
 rw [show A++B=(A.take (A.length-1)++[A.getD (A.length-1) z0])++B from congrArg (·++B) this]; simp
theorem ins_perm {S A B S1:List TM} {q:Nat} (hq:q<S.length) (hAB:A++B=S1) (hp:S1.Perm (S.take q)):(A++S.getD q z0 :: B).Perm (S.take (q+1)):=by
 rw [take_getD hq]
 refine List.perm_middle.trans ?_
 rw [hAB]
 exact (hp.cons _).trans (List.perm_append_comm (l₁:=[S.getD q z0]) (l₂:=S.take q))
theorem ins_gj {P A B D R:List TM} {y:TM} {j:Nat} (hj:j=P.length+A.length):(ms (P++(A++y :: B++D)++R)).getD j Meta.zero=y.1:=by
 rw [show P++(A++y :: B++D)++R=(P++A)++y :: (B++D++R) by simp,ms_app,ms_cons]
 exact getD_mid (by rw [ms_len]; simp; omega)
theorem ins_form {P A B D R:List TM} {y:TM} (hA:0<A.length):ms (P++(A++y :: B++D)++R)=ms (P++A.take (A.length-1))++(A.getD (A.length-1) z0).1 :: ([]++y.1 :: ms (B++D++R)):=by
 have h:=take_last (B:=y :: B) hA
 rw [← h,←ms_cons,List.nil_append,←ms_cons,←ms_app]; simp
theorem ins_gi {P A B D R:List TM} {y:TM} {j:Nat} (hA:0<A.length) (hj:j=P.length+A.length-1):(ms (P++(A++y :: B++D)++R)).getD j Meta.zero=(A.getD (A.length-1) z0).1 :=
 getD_i (ins_form hA) (by rw [ms_len]; simp; omega)
theorem ins_sw {P A B D R:List TM} {y:TM} {i j:Nat} (hA:0<A.length) (hi:i=P.length+A.length-1) (hj:j=P.length+A.length) :
  ((ms (P++(A++y :: B++D)++R)).set j ((ms (P++(A++y :: B++D)++R)).getD i Meta.zero)).set i ((ms (P++(A++y :: B++D)++R)).getD j Meta.zero)=ms (P++(A.take (A.length-1)++y :: (A.getD (A.length-1) z0 :: B)++D)++R):=by
 rw [swp_ji (ins_form hA) (by rw [ms_len]; simp; omega) (by rw [ms_len]; simp; omega),List.nil_append,←ms_cons,←ms_cons,←ms_app]; simp
theorem ins_B {cv:Meta→Meta→Int} {P A B D R:List TM} {y:TM} (hB:∀ z∈B,TL (ltv cv) y z)
  (hc:0<A.length∧cv ((ms (P++(A++y :: B++D)++R)).getD (P.length+A.length) Meta.zero) ((ms (P++(A++y :: B++D)++R)).getD (P.length+A.length-1) Meta.zero)<0):∀ z∈A.getD (A.length-1) z0 :: B,TL (ltv cv) y z:=by
 rw [ins_gj rfl,ins_gi hc.1 rfl] at hc
 intro z hz
 rcases List.mem_cons.1 hz with rfl | hz
 ·exact .inl (by unfold ltv; exact decide_eq_true hc.2)
 ·exact hB z hz
theorem ins_srt {cv:Meta→Meta→Int} {P S A B S1 R:List TM} {q:Nat} (hw:Wk0 (ltv cv)) (hs:Srt (ltv cv) S1) (hAB:A++B=S1) (hB:∀ z∈B,TL (ltv cv) (S.getD q z0) z) (hS:S.Pairwise fun x y=>x.2<y.2) (hp:S1.Perm (S.take q)) (hq:q<S.length)
  (hc:0<A.length→0≤cv ((ms (P++(A++S.getD q z0 :: B++S.drop (q+1))++R)).getD (P.length+A.length) Meta.zero) ((ms (P++(A++S.getD q z0 :: B++S.drop (q+1))++R)).getD (P.length+A.length-1) Meta.zero)):Srt (ltv cv) (A++S.getD q z0 :: B):=by
 have hs':=hs
 rw [← hAB] at hs'
 obtain ⟨s1,s2,s3⟩:=List.pairwise_append.1 hs'
 have hA:∀ x∈A,TL (ltv cv) x (S.getD q z0):=by
  by_cases h0:A.length=0
  ·rw [List.eq_nil_of_length_eq_zero h0]; intro x hx; cases hx
  have h1:=hc (by omega)
  rw [ins_gj rfl,ins_gi (by omega) rfl] at h1
  have ht:(A.getD (A.length-1) z0).2<(S.getD q z0).2:=by
   have hm:A.getD (A.length-1) z0∈S.take q:=hp.mem_iff.1 (by rw [← hAB]; exact List.mem_append_left _ (getD_in (by omega)))
   have hS':=hS
   rw [← List.take_append_drop q S,drop_getD hq] at hS'
   exact (List.pairwise_append.1 hS').2.2 _ hm _ (List.mem_cons_self ..)
  have h2:TL (ltv cv) (A.getD (A.length-1) z0) (S.getD q z0):=(TL.fore hw ht).2 (by unfold ltv; exact decide_eq_false (by omega))
  intro x hx
  have:=fst_lt hw s1 (q:=A.length) (y:=S.getD q z0) (.inr h2) (Nat.le_refl _) x (by rw [List.take_length]; exact hx)
  exact this
 refine List.pairwise_append.2 ⟨s1,List.pairwise_cons.2 ⟨hB,s2⟩,fun x hx z hz=>?_⟩
 rcases List.mem_cons.1 hz with rfl | hz
 ·exact hA x hx
 exact s3 x hx z hz
section
variable {cv:Meta→Meta→Int} {P A B R:List TM}
theorem seg_a {i:Nat} (h:i<A.length):(ms (P++A++B++R)).getD (P.length+i) Meta.zero=(A.getD i z0).1:=by
 have:=seg_at (X:=P) (A:=A) (Z:=B++R) (k:=P.length+i) (by omega) (by omega)
 rw [show P.length+i-P.length=i by omega,←List.append_assoc] at this
 exact this
theorem seg_b {i:Nat} (h:i<B.length):(ms (P++A++B++R)).getD (P.length+A.length+i) Meta.zero=(B.getD i z0).1:=by
 have:=seg_at (X:=P++A) (A:=B) (Z:=R) (k:=P.length+A.length+i) (by simp) (by simp; omega)
 rw [List.length_append,show P.length+A.length+i-(P.length+A.length)=i by omega] at this
 exact this
theorem seg_a0 (h:0<A.length):(ms (P++A++B++R)).getD P.length Meta.zero=(A.getD 0 z0).1:=seg_a (i:=0) h
theorem seg_b0 (h:0<B.length):(ms (P++A++B++R)).getD (P.length+A.length) Meta.zero=(B.getD 0 z0).1:=seg_b (i:=0) h
theorem ab_back (hw:Wk0 (ltv cv)) (ht:∀ x∈A,∀ y∈B,x.2<y.2) {i j:Nat} (hi:i<A.length) (hj:j<B.length) (h:cv (B.getD j z0).1 (A.getD i z0).1<0):TL (ltv cv) (B.getD j z0) (A.getD i z0) :=
 (TL.back hw (ht _ (getD_in hi) _ (getD_in hj))).2 (by unfold ltv; exact decide_eq_true h)
theorem ab_fore (hw:Wk0 (ltv cv)) (ht:∀ x∈A,∀ y∈B,x.2<y.2) {i j:Nat} (hi:i<A.length) (hj:j<B.length) (h:0≤cv (B.getD j z0).1 (A.getD i z0).1):TL (ltv cv) (A.getD i z0) (B.getD j z0) :=
 (TL.fore hw (ht _ (getD_in hi) _ (getD_in hj))).2 (by unfold ltv; exact decide_eq_false (by omega))
theorem one_eq (h:A.length=1):A=[A.getD 0 z0]:=by
 match A,h with
 | [x],_=>rfl
theorem sh_up {x:TM} {k i j:Nat} (hk:k<B.length) (hi:i=P.length+k) (hj:j=P.length+k+1) :
  ((ms (P++(B.take k++x :: B.drop k)++R)).set i ((ms (P++(B.take k++x :: B.drop k)++R)).getD j Meta.zero)).set j ((ms (P++(B.take k++x :: B.drop k)++R)).getD i Meta.zero)=ms (P++(B.take (k+1)++x :: B.drop (k+1))++R):=by
 have hL:ms (P++(B.take k++x :: B.drop k)++R)=ms (P++B.take k)++x.1 :: ([]++(B.getD k z0).1 :: ms (B.drop (k+1)++R)):=by
  rw [drop_getD hk,List.nil_append,←ms_cons,←ms_cons,←ms_app]; simp
 rw [swp_ij hL (by rw [ms_len]; simp; omega) (by rw [ms_len]; simp; omega),take_getD hk,List.nil_append,←ms_cons,←ms_cons,←ms_app]; simp
theorem sh_dn {y:TM} {e i j:Nat} (he:0<e) (hl:e≤A.length) (hi:i=P.length+e-1) (hj:j=P.length+e) :
  ((ms (P++(A.take e++y :: A.drop e)++R)).set j ((ms (P++(A.take e++y :: A.drop e)++R)).getD i Meta.zero)).set i ((ms (P++(A.take e++y :: A.drop e)++R)).getD j Meta.zero)=ms (P++(A.take (e-1)++y :: A.drop (e-1))++R):=by
 obtain ⟨k,rfl⟩ : ∃ k,e=k+1:=⟨e-1,by omega⟩
 have hk:k<A.length:=by omega
 have hL:ms (P++(A.take (k+1)++y :: A.drop (k+1))++R)=ms (P++A.take k)++(A.getD k z0).1 :: ([]++y.1 :: ms (A.drop (k+1)++R)):=by
  rw [take_getD hk,List.nil_append,←ms_cons,←ms_cons,←ms_app]; simp
 rw [swp_ji hL (by rw [ms_len]; simp; omega) (by rw [ms_len]; simp; omega),show k+1-1=k by omega,drop_getD hk,List.nil_append,←ms_cons,←ms_cons,←ms_app]; simp
theorem put_up (hA:A.length=1) (q:Nat):(B.take q++A.getD 0 z0 :: B.drop q).Perm (A++B):=by
 have:=put_perm (B:=B) (x:=A.getD 0 z0) q
 rw [one_eq hA]; exact this
theorem put_dn (hB:B.length=1) (q:Nat):(A.take q++B.getD 0 z0 :: A.drop q).Perm (A++B):=by
 have:=put_perm (B:=A) (x:=B.getD 0 z0) q
 rw [one_eq hB]; exact this.trans (List.perm_append_comm (l₁:=[B.getD 0 z0]) (l₂:=A))
theorem sym_cut (hw:Wk0 (ltv cv)) (sA:Srt (ltv cv) A) (sB:Srt (ltv cv) B) {s h:Nat} (h1:h-B.length≤s) (h3:s≤h) (h4:s≤A.length)
  (f1:s=h-B.length∨TL (ltv cv) (A.getD (s-1) z0) (B.getD (h-s) z0)) (f2:(s=h∨s=A.length)∨TL (ltv cv) (B.getD (h-1-s) z0) (A.getD s z0)) :
  ∀ x∈A.take s++B.take (h-s),∀ y∈A.drop s++B.drop (h-s),TL (ltv cv) x y:=by
 obtain ⟨a1,a2,a3⟩:=srt_parts sA s
 obtain ⟨b1,b2,b3⟩:=srt_parts sB (h-s)
 intro x hx y hy
 rcases List.mem_append.1 hx with hx | hx<;>rcases List.mem_append.1 hy with hy | hy
 ·exact a3 x hx y hy
 ·by_cases e:s=h-B.length
  ·by_cases hb:h<B.length
   ·have:s=0:=by omega
    subst this; simp at hx
   ·have:B.length≤h-s:=by omega
    rw [List.drop_of_length_le this] at hy; cases hy
  ·have h5:=fst_lt hw sA (q:=s) (y:=B.getD (h-s) z0) (.inr (f1.resolve_left e)) h4 x hx
   exact lst_gt hw sB (q:=h-s) (y:=x) (.inr h5) y hy
 ·by_cases e:s=h∨s=A.length
  ·rcases e with e | e
   ·rw [e,Nat.sub_self] at hx; simp at hx
   ·rw [e,List.drop_length] at hy; cases hy
  ·have h5:=f2.resolve_left e
   have h6:=fst_lt hw sB (q:=h-s) (y:=A.getD s z0) (.inr (by rw [show h-s-1=h-1-s by omega]; exact h5)) (by omega) x hx
   exact lst_gt hw sA (q:=s) (y:=x) (.inr h6) y hy
 ·exact b3 x hx y hy
theorem sym_norot {s q:Nat} (h:A.length≤s∨q=0):ms (P++A++B++R)=ms (P++(A.take s++B.take q)++(A.drop s++B.drop q)++R):=by
 rcases h with h|rfl
 ·rw [List.take_of_length_le h,List.drop_of_length_le h,List.nil_append]
  conv=>lhs; rw [← List.take_append_drop q B]
  simp
 ·rw [List.take_zero,List.drop_zero,List.append_nil]
  conv=>lhs; rw [← List.take_append_drop s A]
  simp only [List.append_assoc]
theorem sym_rot {s q:Nat}:ms (P++A.take s)++ms (B.take q)++ms (A.drop s)++ms (B.drop q++R)=ms (P++(A.take s++B.take q)++(A.drop s++B.drop q)++R):=by
 simp only [ms,List.map_append,List.append_assoc]
theorem sym_in {s q:Nat}:ms (P++A++B++R)=ms (P++A.take s)++ms (A.drop s)++ms (B.take q)++ms (B.drop q++R):=by
 conv=>lhs; rw [← List.take_append_drop s A,←List.take_append_drop q B]
 simp only [ms,List.map_append,List.append_assoc]
theorem half_srt {X Z:List TM} {lt:Meta→Meta→Bool} (hX:Srt lt X) (hZ:Srt lt Z) (h:X.length=0∨Z.length=0):Srt lt (X++Z):=by
 rcases h with h | h
 ·rw [List.eq_nil_of_length_eq_zero h]; exact hZ
 ·rw [List.eq_nil_of_length_eq_zero h,List.append_nil]; exact hX
theorem sym_fin {S1 S2:List TM} {s q:Nat} (hc:∀ x∈A.take s++B.take q,∀ y∈A.drop s++B.drop q,TL (ltv cv) x y) (p1:S1.Perm (A.take s++B.take q)) (s1:Srt (ltv cv) S1) (p2:S2.Perm (A.drop s++B.drop q)) (s2:Srt (ltv cv) S2):(S1++S2).Perm (A++B)∧Srt (ltv cv) (S1++S2):=by
 refine ⟨(p1.append p2).trans ?_,List.pairwise_append.2 ⟨s1,s2,fun x hx y hy=>hc x (p1.mem_iff.1 hx) y (p2.mem_iff.1 hy)⟩⟩
 conv=>rhs; rw [← List.take_append_drop s A,←List.take_append_drop q B]
 rw [List.append_assoc,List.append_assoc]
 refine List.Perm.append_left _ ?_
 rw [← List.append_assoc,←List.append_assoc]
 exact List.Perm.append_right _ List.perm_append_comm
end
theorem or128 (x:Y):(x ||| 128#8).toNat=x.toNat%128+128:=by
 have h:=x.isLt
 have hd:∀ y:Y,(y ||| 128#8).toNat=y.toNat%128+128:=by decide
 exact hd x
theorem num_more {m:BitVec 64} (h:¬ m.toNat<128):numN m.toNat=(m.setWidth 8 ||| 128#8) :: numN (m >>> 7).toNat:=by
 rw [num_big h]
 have e1:BitVec.ofNat 8 (m.toNat%128+128)=m.setWidth 8 ||| 128#8:=by
  apply BitVec.eq_of_toNat_eq
  rw [or128,BitVec.toNat_ofNat,BitVec.toNat_setWidth]
  omega
 have e2:(m >>> 7).toNat=m.toNat / 128:=by rw [BitVec.toNat_ushiftRight,Nat.shiftRight_eq_div_pow]
 rw [e1,e2]
theorem num_last {m:BitVec 64} (h:m.toNat<128):numN m.toNat=[m.setWidth 8]:=by
 rw [num_small h]
 rfl
theorem shr7 (m:BitVec 64):(m >>> 7).toNat=m.toNat / 128:=by rw [BitVec.toNat_ushiftRight,Nat.shiftRight_eq_div_pow]
theorem uvI {x:Int} (h:u64 x):Value.int .u64 x=uv .u64 (BitVec.ofInt 64 x):=by
 unfold u64 at h
 show Value.int .u64 x=Value.int .u64 (((BitVec.ofInt 64 x).toNat:Nat):Int)
 congr 1
 rw [BitVec.toNat_ofInt]
 omega
theorem ofI {x:Int} (h:u64 x):(BitVec.ofInt 64 x).toNat=x.toNat:=by
 unfold u64 at h
 rw [BitVec.toNat_ofInt]; omega
section
variable {xs:List Y} {k:Nat} {w:BitVec 64}
end
theorem num_at:∀ (i n:Nat),i<(numN n).length→(numN n).getD i 0=if i+1<(numN n).length then BitVec.ofNat 8 (n / 128^i%128+128) else BitVec.ofNat 8 (n / 128^i)
 | 0,n,h=>by
  by_cases hn:n<128
  ·rw [num_small hn]; simp
  ·rw [num_big hn]
   have:=num_pos (n / 128)
   rw [if_pos (by simp only [List.length_cons]; omega)]
   simp
 | i+1,n,h=>by
  by_cases hn:n<128
  ·rw [num_small hn] at h; simp at h
  ·rw [num_big hn] at h ⊢
   simp only [List.length_cons,List.getD_cons_succ] at h ⊢
   rw [num_at i (n / 128) (by omega),Nat.div_div_eq_div_mul,Nat.pow_succ,Nat.mul_comm]
   by_cases hi:i+1<(numN (n / 128)).length
   ·rw [if_pos hi,if_pos (by omega)]
   ·rw [if_neg hi,if_neg (by omega)]
theorem num_lastlt:∀ (n:Nat),n / 128^((numN n).length-1)<128:=by
 intro n
 induction n using Nat.strongRecOn with
 | ind n ih =>
  by_cases hn:n<128
  ·rw [num_small hn]; simpa using hn
  ·have h1:=ih (n / 128) (by omega)
   have h2:=num_pos (n / 128)
   rw [num_big hn,List.length_cons]
   have e:(numN (n / 128)).length+1-1=((numN (n / 128)).length-1)+1:=by omega
   rw [e,Nat.pow_succ,Nat.mul_comm,←Nat.div_div_eq_div_mul]
   exact h1
theorem take_snY {xs:List Y} {i:Nat} (h:i<xs.length):xs.take i++[xs.getD i 0]=xs.take (i+1):=by
 rw [List.take_succ_eq_append_getElem h]; simp [h]
theorem num_grp {n i:Nat} {m:BitVec 64} {L:List Y} (e:L=(numN n).take i) (hm:m.toNat=n / 128^i) (h:i+1<(numN n).length):L++[(m%128#64).setWidth 8+128#8]=(numN n).take (i+1):=by
 rw [← take_snY (by omega),e,num_at i n (by omega),if_pos h,←hm]
 congr 2
 apply BitVec.eq_of_toNat_eq
 have e1:(128#64).toNat=128:=rfl
 have e2:(128#8).toNat=128:=rfl
 rw [BitVec.toNat_add,BitVec.toNat_setWidth,BitVec.toNat_umod,e1,e2,BitVec.toNat_ofNat]
 omega
theorem num_grp1 {n i:Nat} {m:BitVec 64} {L:List Y} (e:L=(numN n).take i) (hm:m.toNat=n / 128^i) (h:¬ i+1<(numN n).length) (h2:i<(numN n).length):L++[(m%128#64).setWidth 8]=(numN n).take (i+1):=by
 rw [← take_snY (by omega),e,num_at i n (by omega),if_neg h,←hm]
 congr 2
 have hl:=num_lastlt n
 rw [show (numN n).length-1=i by omega,←hm] at hl
 apply BitVec.eq_of_toNat_eq
 have e1:(128#64).toNat=128:=rfl
 rw [BitVec.toNat_setWidth,BitVec.toNat_umod,e1,BitVec.toNat_ofNat]
 omega
theorem div128 {n i:Nat} {m:BitVec 64} (hm:m.toNat=n / 128^i):(m / 128#64).toNat=n / 128^(i+1):=by
 rw [BitVec.toNat_udiv,hm,Nat.pow_succ,Nat.div_div_eq_div_mul]; rfl
theorem div1 (m:BitVec 64):(m / 128#64).toNat=m.toNat / 128:=by rw [BitVec.toNat_udiv]; rfl
theorem grp_step {k n:Nat} {m:BitVec 64} (e:k+(numN m.toNat).length=1+(numN n).length) (h:127<m.toNat):k+1+(numN (m / 128#64).toNat).length=1+(numN n).length:=by
 rw [num_big (by omega),List.length_cons] at e
 rw [div1]; omega
theorem grp_end {k n:Nat} {m:BitVec 64} (e:k+(numN m.toNat).length=1+(numN n).length) (h:m.toNat≤127):k=(numN n).length:=by
 rw [num_small (by omega)] at e
 simp at e; omega
section
variable {B:List Y} {I k:Nat}
end
section
variable {P:Program} {G:PM} {μ:Mem}
theorem Ct.give {f:FuncId} {args:Array Value} {b:Nat} {o:Obj} {post:PM→Mem→Value→Prop} (h:PM.le G (G.add b o)→Ct P f args (G.add b o) μ post):Ct P f args G (.blk b o :: μ) post:=by
 intro w hs
 have hk:keys (.blk b o :: μ)=b :: keys μ:=by simp [keys,Res.keys]
 have hnd:=hs.nodup
 rw [hk] at hnd
 have hbμ:=(List.nodup_cons.1 hnd).1
 have hbo:w.heap[b]? = some o:=hs.own _ (List.mem_cons_self ..)
 have hs2:Sat (G.add b o) μ w:=by
  refine ⟨fun c u hc=>?_,fun r hr=>hs.own r (List.mem_cons_of_mem _ hr),fun c hc=>?_,(List.nodup_cons.1 hnd).2⟩
  ·unfold PM.add at hc
   split at hc
   ·rename_i e; subst e; cases hc; exact hbo
   exact hs.sub c u hc
  unfold PM.add
  rw [if_neg (fun (e:c=b)=>hbμ (e▸hc))]
  exact hs.apart c (by rw [hk]; exact List.mem_cons_of_mem _ hc)
 refine (h (PM.le_add (hs.apart b (by simp [keys,Res.keys]))) w hs2).mono ?_
 rintro e w' ⟨v,G',μ',rfl,ht,hQ⟩
 refine ⟨v,G',μ',rfl,⟨ht.sat,ht.os,ht.tape,ht.output,ht.size,fun c hc hK=>?_,fun c hc=>?_,fun c u hK hc=>?_⟩,hQ⟩
 ·rw [hk] at hK
  have hne:c≠b:=fun e=>hK (by rw [e]; exact List.mem_cons_self ..)
  have h1:=ht.old c hc (fun hm=>hK (List.mem_cons_of_mem _ hm))
  refine ⟨h1.1,?_⟩
  rw [h1.2]
  unfold PM.add
  rw [if_neg hne]
 ·rw [hk]
  rcases ht.mine c hc with h1 | h1
  ·exact .inl (List.mem_cons_of_mem _ h1)
  exact .inr h1
 rw [hk] at hK
 have hne:c≠b:=fun e=>hK (by rw [e]; exact List.mem_cons_self ..)
 exact ht.le c u (fun hm=>hK (List.mem_cons_of_mem _ hm)) (by unfold PM.add; rw [if_neg hne]; exact hc)
end
def encQ (x:Int):List Value:=[.int .u64 x]
theorem encQ_map:∀ ns:List Int,ns.flatMap encQ=ns.map (Value.int .u64)
 | []=>rfl
 | x :: ns=>by rw [List.flatMap_cons,encQ_map ns]; rfl
theorem SlR.u1 {G:PM} {s:Sh} {xs:List Int} (h:SlR G 1 encQ s xs) {j:Int} (k:Nat) {x:Int} (hj:j.toNat=k) (hx:xs[k]? = some x):RdP G ⟨s.b,s.o+j.toNat*1,none⟩ (.int .u64 x):=by
 have:=(h.nth k hj hx) 0 _ rfl
 simpa using this
theorem SlR.part {G:PM} {b o cap:Nat} {ns:List Int} {cs:List Value} (hp:RdNP G b 0 cs) (hc:(cs.drop o).take ns.length=ns.flatMap encQ) (h:ns.length≤cap):SlR G 1 encQ ⟨some ⟨b,o,none⟩,cap⟩ ns:=by
 refine ⟨fun _=>rfl,h,fun i x hx j v hj=>?_⟩
 have h0:j=0∧v=.int .u64 x:=by
  cases j with
  | zero=>simp [encQ] at hj; exact ⟨rfl,hj.symm⟩
  | succ j=>simp [encQ] at hj
 obtain ⟨rfl,rfl⟩:=h0
 have hi:i<ns.length:=by
  rcases Nat.lt_or_ge i ns.length with h | h
  ·exact h
  rw [List.getElem?_eq_none h] at hx; cases hx
 have hg:cs[o+i]? = some (.int .u64 x):=by
  have:=congrArg (fun l=>l[i]?) hc
  simp only [encQ_map,List.getElem?_map,hx,List.getElem?_take,if_pos hi,List.getElem?_drop] at this
  exact this
 have:=hp (o+i) (.int .u64 x) hg
 simpa [Sh.b,Sh.o] using this
theorem numsL_snoc {ns:List Int} {k:Nat} {x:Int} (h:ns[k]? = some x):numsL (ns.take (k+1))=numsL (ns.take k)++numN x.toNat:=by
 rw [List.take_add_one,h]; simp [numsL]
theorem numsL_len:∀ {ns:List Int},(∀ x∈ns,u64 x)→(numsL ns).length≤10*ns.length
 | [],_=>by simp [numsL]
 | x :: ns,h=>by
  have h1:=h x (List.mem_cons_self ..)
  unfold u64 at h1
  have h2:=num_len10 (n:=x.toNat) (by omega)
  have h3:=numsL_len (ns:=ns) (fun y hy=>h y (List.mem_cons_of_mem _ hy))
  have:numsL (x :: ns)=numN x.toNat++numsL ns:=by simp [numsL]
  rw [this,List.length_append,List.length_cons]; omega
theorem numsL_take {ns:List Int} (h:∀ x∈ns,u64 x) (k:Nat):(numsL (ns.take k)).length≤10*ns.length:=by
 have h1:=numsL_len (ns:=ns.take k) (fun x hx=>h x (List.mem_of_mem_take hx))
 rw [List.length_take] at h1; omega
section
variable {α:Type} {O:Option α} {s t:Rd'} {bad:Bool}
end
theorem Conf.rep {k:CK} {f:Nat→Value}:∀ (l:List Nat),(∀ i∈l,CkOk k (f i))→Conf (List.replicate l.length k) (l.map f)
 | [],_=>.nil
 | i :: l,h=>.cons (h i (List.mem_cons_self ..)) (Conf.rep l fun j hj=>h j (List.mem_cons_of_mem _ hj))
def metaKs:List CK:=[.int .u8,.int .u64,.int .u64,.int .u64,.int .i64,.int .i64,.str,.str]++List.replicate 32 (.int .u8)
theorem meta_conf {m:Meta} (h:m.wf):Conf metaKs m.cells:=by
 have l1:=h.level; have l2:=h.gen; have l3:=h.epoch; have l4:=h.number; have l5:=h.size; have l6:=h.count; have l7:=h.minL; have l8:=h.maxL
 refine Conf.app ?_ ?_
 ·refine .cons (.int ?_ ?_) (.cons (.int ?_ ?_) (.cons (.int ?_ ?_) (.cons (.int ?_ ?_) (.cons (.int ?_ ?_) (.cons (.int ?_ ?_) (.cons (.str ?_) (.cons (.str ?_) .nil)))))))
  all_goals first
   | (simp only [IntKind.min,IntKind.max,IntKind.bits,IntKind.signed]; simp; omega)
   | (simp only [maxLen]; omega)
 have:=Conf.rep (k:=.int .u8) (f:=fun i=>.int .u8 (m.root i)) (List.range 32) (fun i hi=>by
  have hr:=h.root i (List.mem_range.1 hi)
  refine .int ?_ ?_
  all_goals (simp only [IntKind.min,IntKind.max,IntKind.bits,IntKind.signed]; simp; omega))
 rw [List.length_range] at this
 exact this
open Classical in
noncomputable def eqM (a b:Meta):Bool:=decide (a.cells=b.cells)
theorem eqM_iff {a b:Meta}:eqM a b=true↔a.cells=b.cells:=by unfold eqM; simp
open Classical in
noncomputable def sameM (a b:List Meta):Bool:=decide (a.map Meta.cells=b.map Meta.cells)
theorem sameM_iff {a b:List Meta}:sameM a b=true↔a.map Meta.cells=b.map Meta.cells:=by unfold sameM; simp
theorem sameM_refl (a:List Meta):sameM a a=true:=by unfold sameM; simp
theorem sameM_len {a b:List Meta} (h:a.length≠b.length):sameM a b=false:=by
 refine Bool.eq_false_iff.2 fun e0=>?_
 have e:=sameM_iff.1 e0
 exact h (by have:=congrArg List.length e; simpa using this)
theorem sameM_no {a b:List Meta} {k:Nat} (hk:k<a.length) (hl:a.length=b.length) (h:eqM (a.getD k Meta.zero) (b.getD k Meta.zero)=false):sameM a b=false:=by
 refine Bool.eq_false_iff.2 fun e0=>?_
 have e:=sameM_iff.1 e0
 have h1:=congrArg (fun l=>l[k]?) e
 have hb:k<b.length:=by omega
 simp only [List.getElem?_map,List.getElem?_eq_getElem hk,List.getElem?_eq_getElem hb,Option.map_some,Option.some.injEq] at h1
 have:eqM (a.getD k Meta.zero) (b.getD k Meta.zero)=true:=eqM_iff.2 (by simpa [hk,hb] using h1)
 rw [h] at this; cases this
theorem sameM_yes {a b:List Meta} (hl:a.length=b.length) (h:∀ j,j<a.length→eqM (a.getD j Meta.zero) (b.getD j Meta.zero)=true):sameM a b=true:=by
 refine sameM_iff.2 (List.ext_getElem (by simpa using hl) fun i h1 h2=>?_)
 simp only [List.length_map] at h1 h2
 have:=eqM_iff.1 (h i h1)
 simpa [h1,h2] using this
section
variable {β:Type} {f:∀ α:Type,(β→List Y→Option α)→List Y→Option α} {N:Nat} {s0 s t:Rd'} {bad0 bad bad':Bool} {rt:List β} {x:β}
end
def nine (g:Nat→Int):List Value:=(List.range 9).map fun i=>.int .u64 (g i)
theorem nine_len (g:Nat→Int):(nine g).length=9:=by simp [nine]
instance {g:Nat→Int}:QLen (nine g) 9:=⟨nine_len g⟩
theorem nine2_len {g:Nat→Int} {a b:Value}:(nine g++[a,b]).length=11:=by rw [List.length_append,nine_len]; rfl
section
variable {O:Option Edit} {xs L:List Y} {gs:List Nat} {add:List Meta} {drop:List Gone} {e:Int} {s t:Rd'} {bad bad':Bool} {n N:Nat}
end
theorem gones1 {g:Gone}:∀ u∈g.cells,u.oneCell'=true:=by
 intro u hu
 simp only [Gone.cells,List.mem_cons,List.not_mem_nil,or_false] at hu
 rcases hu with rfl|rfl<;>rfl
section
variable {dr:Bool} {mc:Md} {P:Program} {n:Nat} {l:List Oper} {K:Env→PM→Mem→Prop} {i:Nat} {σ:List Nat} {ρ:Env} {G:PM} {μ:Mem}
variable {d t:Nat} {p:String} {af:Array Edge} {g:Option (Nat×Bool)} {c:Bool}
theorem bSf {T E sz by' len:Nat} {ps:List (Nat×Operand)} {vs:List (Nat×Value)} {cs:List Value} (ho:nth l i=some ⟨some d,.buildSlice T len ps.toArray,t,p,af,none⟩) (hT:slE P T=some (E,sz,by')) (hv:∀ a,Ag n ρ a→true=true→ps.map (fun q=>(q.1,a.eval q.2))=vs) (hb:builtSl P T len vs=some cs)
  (h:∀ b G',PM.le G G'→PB G' b (cl cs E)→Wo dr mc P n l K σ ((d,true,.slice (some ⟨b,0,none⟩) len len) :: ρ) G' μ):Wo dr mc P n l K (i :: σ) ρ G μ:=by
 refine .fresh (μ₁:=[]) (μ₂:=μ) (post:=fun G' μa μb v=>μa=[]∧μb=[]∧∃ b,v=.slice (some ⟨b,0,none⟩) len len∧PB G' b (cl cs E)) ho (.inl rfl) rfl (List.Perm.refl _) (fun a w ha hs=>?_) ?_ ?_
 ·have hrun:(execOp a.eval ⟨some d,.buildSlice T len ps.toArray,t,p,af,none⟩).run P w=.ok (.value (.slice (some ⟨w.heap.size,0,none⟩) len len)) (w.alloc (cl cs E)):=by
   obtain ⟨hu,inf,hi,hs1,_⟩:=slE_some hT
   have h1:=hv a ha rfl
   simp only [builtSl,hu,hi] at hb
   cases hz:inf.zero with
   | none=>rw [hz] at hb; cases hb
   | some z =>
    rw [hz] at hb
    simp only at hb
    split at hb
    ·cases hb
    rename_i hle
    simp only [not_or] at hle
    obtain ⟨hle,h0⟩:=hle
    cases hf:Instr.fill (fun j=>some (j*inf.size,inf.size)) ((Array.range (len*inf.size)).map (z.cells[·%z.cells.size]!)) vs with
    | none=>rw [hf] at hb; cases hb
    | some r =>
     rw [hf] at hb
     simp only [Option.map_some,Option.some.injEq] at hb
     subst hb
     simp [execOp,Instr.buildSlice,run_underlying hu,sizeOf,typeInfo,hi,h0,hle,zeroValue,hz,hf,h1,newRow,cl]
  have hs0:Sat G [] w:=⟨hs.sub,by simp,by simp [keys],by simp [keys]⟩
  have ht:=((Tr.begin hs0).alloc (cl cs E)).freeze (by simp [keys])
  exact ⟨_,_,_,[],[],hrun,ht,rfl,rfl,_,rfl,⟨PM.add_same _ _ _⟩⟩
 ·rintro v G' μa μb ⟨rfl,rfl,_⟩
  exact ⟨(fun w _ r hr=>by cases hr),(fun b hb=>by cases hb),by simp [keys]⟩
 rintro v G' μa μb hle ⟨rfl,rfl,b,rfl,hb⟩
 have:=h b G' hle hb
 simp only [List.nil_append,List.append_nil]
 exact this
theorem PB.slq {b cap:Nat} {ns:List Int} {T:TypeId} (h:PB G b (cl (ns.map (Value.int .u64)) T)) (hc:ns.length≤cap):SlR G 1 encQ ⟨some ⟨b,0,none⟩,cap⟩ ns:=by
 refine ⟨fun _=>rfl,hc,fun i x hx j v hj=>?_⟩
 have h0:j=0∧v=.int .u64 x:=by
  cases j with
  | zero=>simp [encQ] at hj; exact ⟨rfl,hj.symm⟩
  | succ j=>simp [encQ] at hj
 obtain ⟨rfl,rfl⟩:=h0
 have:=h.rd (o:=i) (v:=.int .u64 x) (by rw [List.getElem?_map,hx]; rfl)
 simpa [Sh.b,Sh.o] using this
theorem bQ {T E by' len:Nat} {ps:List (Nat×Operand)} {us:List Value} {z:Value} (ns:List Int) (ho:nth l i=some ⟨some d,.buildSlice T len ps.toArray,t,p,af,none⟩) (hT:slE P T=some (E,1,by')) (hz:(P.info? E).bind (·.zero)=some z) (hv:∀ a,Ag n ρ a→true=true→ps.map (fun q=>(q.1,a.eval q.2))=parts 0 us) (hus:us=ns.map (Value.int .u64)) (hl:ns.length=len) (h0:0<len∧len≤16777216)
  (h:∀ G' s,PM.le G G'→SlR G' 1 encQ s ns→Wo dr mc P n l K σ ((d,true,s.val ns.length) :: ρ) G' μ):Wo dr mc P n l K (i :: σ) ρ G μ:=by
 subst hus
 refine bSf (vs:=parts 0 (ns.map (Value.int .u64))) (cs:=ns.map (Value.int .u64)) ho hT hv ?_ (fun b G' hle hb=>?_)
 ·obtain ⟨hu,inf,hi,hs1,_⟩:=slE_some hT
  rw [hi] at hz
  simp only [Option.bind_some] at hz
  simp only [builtSl,hu,hi,hz,hs1]
  rw [if_neg (by omega)]
  generalize ha:(Array.range (len*1)).map (z.cells[·%z.cells.size]!)=arr
  have hs:arr.toList.length=len:=by rw [← ha]; simp
  have h2:=fill_parts (ns.map (Value.int .u64)) 0 arr.toList (fun u hu=>by obtain ⟨x,_,rfl⟩:=List.mem_map.1 hu; rfl) (by rw [List.length_map]; omega)
  simp only [Array.toArray_toList] at h2
  rw [h2]
  have h3:arr.toList.drop (0+(ns.map (Value.int .u64)).length)=[]:=List.drop_of_length_le (by rw [List.length_map]; omega)
  rw [h3]
  simp
 have:=h G' ⟨some ⟨b,0,none⟩,len⟩ hle (hb.slq (by omega))
 rw [Sh.val,hl] at this
 exact this
end
theorem q1 {a:Int} (h:u64 a):∀ x∈[a],u64 x:=by intro x hx; rw [List.mem_singleton.1 hx]; exact h
theorem q2 {a b:Int} (h:u64 a) (h2:u64 b):∀ x∈[a,b],u64 x:=by
 intro x hx; simp only [List.mem_cons,List.not_mem_nil,or_false] at hx; rcases hx with rfl|rfl<;>assumption
theorem q4 {a b c d:Int} (h:u64 a) (h2:u64 b) (h3:u64 c) (h4:u64 d):∀ x∈[a,b,c,d],u64 x:=by
 intro x hx; simp only [List.mem_cons,List.not_mem_nil,or_false] at hx; rcases hx with rfl|rfl|rfl|rfl<;>assumption
theorem q6 {a b c d e f:Int} (h:u64 a) (h2:u64 b) (h3:u64 c) (h4:u64 d) (h5:u64 e) (h6:u64 f):∀ x∈[a,b,c,d,e,f],u64 x:=by
 intro x hx; simp only [List.mem_cons,List.not_mem_nil,or_false] at hx; rcases hx with rfl|rfl|rfl|rfl|rfl|rfl<;>assumption
theorem u64_len {n:Nat} (h:n<18446744073709551616):u64 (n:Int):=⟨by omega,by omega⟩
theorem wrap_q (x:Int):(IntKind.u64.wrap x).toNat=u64N x:=by
 unfold u64N IntKind.wrap
 simp [IntKind.signed,IntKind.bits]
theorem u64_wrap (x:Int):u64 (IntKind.u64.wrap x):=by
 unfold u64 IntKind.wrap
 simp [IntKind.signed,IntKind.bits]; omega
theorem u64_6 {m:Meta} (h:m.wf):∀ x∈[m.level,m.gen,m.epoch,m.number,IntKind.u64.wrap m.size,IntKind.u64.wrap m.count],u64 x:=by
 have l1:=h.level; have l2:=h.gen; have l3:=h.epoch; have l4:=h.number
 exact q6 ⟨by omega,by omega⟩ ⟨by omega,by omega⟩ ⟨by omega,by omega⟩ ⟨by omega,by omega⟩ (u64_wrap _) (u64_wrap _)
def gensL (e:Edit):List Int:=(List.range 5).map e.gens
theorem gens_u {e:Edit} (h:e.wf):∀ x∈gensL e,u64 x:=by
 intro x hx
 obtain ⟨i,hi,rfl⟩:=List.mem_map.1 hx
 exact h.gens i (List.mem_range.1 hi)
theorem gens_sl {G:PM} {e:Edit} {ha hd:Sh} {b:Nat} {T:TypeId} (h:PB G b (cl (e.cells ha hd) T)):SlR G 1 encQ ⟨some ⟨b,4,none⟩,5⟩ (gensL e):=by
 refine SlR.part (cs:=e.cells ha hd) (fun j v hj=>?_) rfl (Nat.le_refl 5)
 have:=h.rd hj
 simpa using this
theorem meta_ba {m:Meta} (h:m.wf):(m.cells.drop 8).take 32=ba 32 (fun i=>BitVec.ofInt 8 (m.root i)):=by
 have e:m.cells.drop 8=(List.range 32).map fun i=>.int .u8 (m.root i):=rfl
 rw [e,List.take_of_length_le (by simp)]
 unfold ba
 refine List.map_congr_left fun i hi=>?_
 have hr:=h.root i (List.mem_range.1 hi)
 show Value.int .u8 (m.root i)=V (BitVec.ofInt 8 (m.root i))
 have e2:(((BitVec.ofInt 8 (m.root i)).toNat:Nat):Int)=m.root i:=by rw [BitVec.toNat_ofInt]; omega
 show Value.int .u8 (m.root i)=Value.int .u8 (((BitVec.ofInt 8 (m.root i)).toNat:Nat):Int)
 rw [e2]
theorem numsL_nil:numsL []=[]:=rfl
theorem numsL_cons (x:Int) (ns:List Int):numsL (x :: ns)=numN x.toNat++numsL ns:=by simp [numsL]
theorem encM_eq (m:Meta) (A:List Y):A++numsL [m.level,m.gen,m.epoch,m.number,IntKind.u64.wrap m.size,IntKind.u64.wrap m.count]++strL (yb m.min)++strL (yb m.max)++yl 32 (fun i=>BitVec.ofInt 8 (m.root i))=A++encM m:=by
 unfold encM
 simp only [numsL_cons,numsL_nil,wrap_q,List.append_assoc,List.append_nil]
 rfl
theorem encG_eq (g:Gone) (A:List Y):A++numsL [g.level,g.number]=A++encG g:=by
 unfold encG
 simp only [numsL_cons,numsL_nil,List.append_nil]
theorem encE_eq (e:Edit):numsL [e.log,e.next,e.seq,e.least]++numsL (gensL e)++numsL [(e.add.length:Int)]++e.add.flatMap encM++numsL [(e.drop.length:Int)]++e.drop.flatMap encG=encE e:=by
 have h:numsL (gensL e)=(List.range 5).flatMap fun i=>numN (e.gens i).toNat:=by unfold numsL gensL; rw [List.flatMap_map]
 unfold encE
 rw [h]
 simp only [numsL_cons,numsL_nil,List.append_assoc,List.append_nil,Int.toNat_natCast]
theorem flat_snoc {α β:Type} {f:α→List β} {xs:List α} {k:Nat} {x:α} (h:xs[k]? = some x):(xs.take (k+1)).flatMap f=(xs.take k).flatMap f++f x:=by
 rw [List.take_add_one,h]; simp
theorem flat_take {α β:Type} {f:α→List β} {xs:List α} {k:Nat} {x:α} (h:xs[k]? = some x):((xs.take k).flatMap f).length+(f x).length≤(xs.flatMap f).length:=by
 have h1:xs.flatMap f=(xs.take (k+1)).flatMap f++(xs.drop (k+1)).flatMap f:=by rw [← List.flatMap_append,List.take_append_drop]
 rw [h1,flat_snoc h]; simp only [List.length_append]; omega
theorem flat_take_le {α β:Type} {f:α→List β} {xs:List α} (k:Nat):((xs.take k).flatMap f).length≤(xs.flatMap f).length:=by
 have h1:xs.flatMap f=(xs.take k).flatMap f++(xs.drop k).flatMap f:=by rw [← List.flatMap_append,List.take_append_drop]
 rw [h1]; simp only [List.length_append]; omega
theorem strL_len {xs:List Y} (h:xs.length<18446744073709551616):(strL xs).length≤xs.length+10:=by
 have:=num_len10 h
 unfold strL; rw [List.length_append]; omega
theorem strL_ge (xs:List Y):xs.length≤(strL xs).length:=by unfold strL; rw [List.length_append]; omega
theorem encM_ge (m:Meta):m.min.size+m.max.size≤(encM m).length:=by
 have h1:=strL_ge (yb m.min); have h2:=strL_ge (yb m.max)
 rw [yb_len] at h1 h2
 unfold encM
 simp only [List.length_append]; omega
theorem encG_len {g:Gone} (h:g.wf):(encG g).length≤20:=by
 have h1:=h.level; have h2:=h.number
 have n1:=num_len10 (n:=g.level.toNat) (by omega); have n2:=num_len10 (n:=g.number.toNat) (by omega)
 unfold encG; rw [List.length_append]; omega
theorem gonesL {gs:List Gone} (h:∀ g∈gs,g.wf):(gs.flatMap encG).length≤20*gs.length:=by
 induction gs with
 | nil=>simp
 | cons g gs ih =>
  have h1:=encG_len (h g (List.mem_cons_self ..))
  have h2:=ih fun x hx=>h x (List.mem_cons_of_mem _ hx)
  rw [List.flatMap_cons,List.length_append,List.length_cons]; omega
theorem SlR.fat {α:Type} {G:PM} {sz:Nat} {enc:α→List Value} {h:Sh} {xs:List α} (s:SlR G sz enc h xs) {j:Int} {k:Nat} {x:α} (hj:j.toNat=k) (hx:xs[k]? = some x) (q:Nat) {v:Value} (hv:(enc x)[q]? = some v):RdP G ⟨h.b,h.o+j.toNat*sz+q,none⟩ v:=s.at hj hx q v hv
section
variable {α:Type} {O:Option α} {s t:Rd'} {bad:Bool}
end
section
variable {dr:Bool} {mc:Md} {P:Program} {n:Nat} {l:List Oper} {K:Env→PM→Mem→Prop} {i:Nat} {σ:List Nat} {ρ:Env} {G:PM} {μ:Mem}
variable {d t:Nat} {p:String} {af:Array Edge} {g:Option (Nat×Bool)} {c:Bool}
end
def beforeB (s:State) (e:Edit):Bool:=((List.range 5).any fun i=>decide (e.gens i<s.gens i))||(((decide (e.log<s.log)||decide (e.next<s.next))||decide (e.seq<s.seq))||decide (e.least<s.least))
theorem bef_yes {s:State} {e:Edit} {i:Nat} (hi:i<5) (h:e.gens i<s.gens i):beforeB s e=true:=by
 unfold beforeB
 rw [List.any_eq_true.2 ⟨i,List.mem_range.2 hi,by simpa using h⟩]; rfl
theorem bef_no {s:State} {e:Edit} (h:∀ i,i<5→¬ e.gens i<s.gens i):beforeB s e=(((decide (e.log<s.log)||decide (e.next<s.next))||decide (e.seq<s.seq))||decide (e.least<s.least)):=by
 unfold beforeB
 rw [show ((List.range 5).any fun i=>decide (e.gens i<s.gens i))=false from List.any_eq_false.2 (fun i hi=>by simpa using h i (List.mem_range.1 hi)),Bool.false_or]
theorem State.len {s:State} {hd:Nat→Sh}:(s.cells hd).length=14:=by simp [State.cells]
theorem State.one' {s:State} {hd:Nat→Sh}:∀ u∈s.cells hd,u.oneCell'=true:=by
 intro u hu
 simp only [State.cells,List.mem_append,List.mem_map,List.mem_cons,List.not_mem_nil,or_false] at hu
 rcases hu with (⟨i,_,rfl⟩ | (rfl|rfl|rfl|rfl)) | ⟨i,_,rfl⟩<;>rfl
theorem Edit.len {e:Edit} {ha hd:Sh}:(e.cells ha hd).length=11:=by simp [Edit.cells]
theorem gens_at {e:Edit} {j:Int} {k:Nat} (hj:j.toNat=k) (h:k<5):((List.range 5).map (fun i=>Value.int .u64 (e.gens i)))[j.toNat]? = some (.int .u64 (e.gens k)):=by
 subst hj
 simp [h]
instance {s:State} {hd:Nat→Sh}:QLen (s.cells hd) 14:=⟨State.len⟩
instance {e:Edit} {ha hd:Sh}:QLen (e.cells ha hd) 11:=⟨Edit.len⟩
theorem u8_lt {a b:UInt8}:(a<b)↔a.toNat<b.toNat:=UInt8.lt_iff_toNat_lt
theorem bl_irr:∀ (x:List UInt8),Op.bytesLess x x=false
 | []=>rfl
 | a :: x=>by
  have h:¬ a<a:=by rw [u8_lt]; omega
  simp [Op.bytesLess,h,bl_irr x]
theorem bl_trans:∀ {x y z:List UInt8},Op.bytesLess x y=true→Op.bytesLess y z=true→Op.bytesLess x z=true
 | [],[],_,h,_=>by simp [Op.bytesLess] at h
 | [],_ :: _,[],_,h=>by simp [Op.bytesLess] at h
 | [],_ :: _,_ :: _,_,_=>by simp [Op.bytesLess]
 | _ :: _,[],_,h,_=>by simp [Op.bytesLess] at h
 | _ :: _,_ :: _,[],_,h=>by simp [Op.bytesLess] at h
 | a :: x,b :: y,c :: z,h,h'=>by
  simp only [Op.bytesLess,Bool.or_eq_true,Bool.and_eq_true,decide_eq_true_eq,beq_iff_eq] at h h' ⊢
  rcases h with h | ⟨rfl,h⟩
  ·rcases h' with h' | ⟨rfl,_⟩
   ·left; rw [u8_lt] at *; omega
   ·exact .inl h
  ·rcases h' with h' | ⟨rfl,h'⟩
   ·exact .inl h'
   ·exact .inr ⟨rfl,bl_trans h h'⟩
theorem bl_tri:∀ (x y:List UInt8),Op.bytesLess x y=true∨x=y∨Op.bytesLess y x=true
 | [],[]=>.inr (.inl rfl)
 | [],_ :: _=>.inl (by simp [Op.bytesLess])
 | _ :: _,[]=>.inr (.inr (by simp [Op.bytesLess]))
 | a :: x,b :: y=>by
  simp only [Op.bytesLess,Bool.or_eq_true,Bool.and_eq_true,decide_eq_true_eq,beq_iff_eq,List.cons.injEq]
  have hab:a.toNat<b.toNat∨a=b∨b.toNat<a.toNat:=by
   rcases Nat.lt_trichotomy a.toNat b.toNat with h | h | h
   ·exact .inl h
   ·exact .inr (.inl (UInt8.toNat_inj.1 h))
   ·exact .inr (.inr h)
  rcases hab with h|rfl | h
  ·exact .inl (.inl (u8_lt.2 h))
  ·rcases bl_tri x y with h|rfl | h
   ·exact .inl (.inr ⟨rfl,h⟩)
   ·exact .inr (.inl ⟨rfl,rfl⟩)
   ·exact .inr (.inr (.inr ⟨rfl,h⟩))
  ·exact .inr (.inr (.inl (u8_lt.2 h)))
theorem bytes_inj {a b:ByteArray} (h:a.toList=b.toList):a=b:=by
 rw [ByteArray.toList_eq,ByteArray.toList_eq] at h
 cases a with | mk a=>cases b with | mk b =>
 congr 1
 exact Array.toList_inj.1 h
theorem lt_irr (a:ByteArray):lt a a=false:=bl_irr _
theorem lt_tr {a b c:ByteArray} (h:lt a b=true) (h':lt b c=true):lt a c=true:=bl_trans h h'
theorem lt_tri (a b:ByteArray):lt a b=true∨a=b∨lt b a=true:=by
 rcases bl_tri a.toList b.toList with h | h | h
 ·exact .inl h
 ·exact .inr (.inl (bytes_inj h))
 ·exact .inr (.inr h)
theorem lt_as {a b:ByteArray} (h:lt a b=true):lt b a=false:=by
 cases h':lt b a with
 | false=>rfl
 | true=>have:=lt_tr h h'; rw [lt_irr] at this; cases this
theorem le_not (a b:ByteArray):le a b = !lt b a:=by
 have e:le a b=(lt a b||a.toList == b.toList):=rfl
 rw [e]
 rcases lt_tri a b with h|rfl | h
 ·rw [h,lt_as h]; rfl
 ·rw [lt_irr]; simp
 ·rw [h,lt_as h]
  have hne:(a.toList == b.toList)=false:=by
   rw [beq_eq_false_iff_ne]
   intro e
   rw [bytes_inj e,lt_irr] at h; cases h
  rw [hne]; rfl
theorem le_lt_tr {a b c:ByteArray} (h:le a b=true) (h':lt b c=true):lt a c=true:=by
 rw [le_not] at h
 rcases lt_tri a b with h2|rfl | h2
 ·exact lt_tr h2 h'
 ·exact h'
 ·rw [h2] at h; cases h
theorem good_le {s:State} {m:Meta} (h:good s m=true):le m.min m.max=true:=by
 simp only [good,Bool.and_eq_true] at h
 exact h.1.1.1.1.1.1.2
theorem lv_tot (s:State) {i:Nat} (h:i<5):((s.lv i).length:Int)≤tot s 5:=by
 have h1:=tot_mono s (show i+1≤5 by omega)
 have h2:=tot_nonneg s i
 rw [show tot s (i+1)=tot s i+(s.lv i).length from rfl] at h1
 omega
inductive Ck (lt:Meta→Meta→Bool) (bs:Nat):List TM→List TM→Prop
 | last {s o:List TM} (h:s.length≤bs) (hs:Srt lt s) (hp:s.Perm o):Ck lt bs s o
 | cons {s o T O:List TM} (h:s.length=bs) (hs:Srt lt s) (hp:s.Perm o) (hT:Ck lt bs T O):Ck lt bs (s++T) (o++O)
section
variable {lt:Meta→Meta→Bool} {bs:Nat} {T O:List TM}
theorem Ck.perm (h:Ck lt bs T O):T.Perm O:=by
 induction h with
 | last h hs hp=>exact hp
 | cons h hs hp hT ih=>exact hp.append ih
theorem Ck.big (h:Ck lt bs T O) (hb:0<bs) (hl:T.length≤bs):Srt lt T∧T.Perm O:=by
 refine ⟨?_,h.perm⟩
 cases h with
 | last h hs hp=>exact hs
 | @cons s o T O h hs hp hT =>
  rw [List.length_append] at hl
  have:T=[]:=List.eq_nil_of_length_eq_zero (by omega)
  rw [this,List.append_nil]; exact hs
theorem Ck.one (h:Ck lt bs T O) (hb:0<bs) (hl:bs<T.length):∃ s o T' O',T=s++T'∧O=o++O'∧s.length=bs∧o.length=bs∧Srt lt s∧s.Perm o∧Ck lt bs T' O'∧0<T'.length:=by
 cases h with
 | last h hs hp=>omega
 | @cons s o T O h hs hp hT=>exact ⟨s,o,T,O,rfl,rfl,h,by rw [← hp.length_eq]; exact h,hs,hp,hT,by rw [List.length_append] at hl; omega⟩
theorem Ck.two (h:Ck lt bs T O) (hb:0<bs) (hl:bs+bs≤T.length):∃ s1 s2 o1 o2 T' O',T=s1++s2++T'∧O=o1++o2++O'∧s1.length=bs∧s2.length=bs∧o1.length=bs∧o2.length=bs∧Srt lt s1∧Srt lt s2∧s1.Perm o1∧s2.Perm o2∧Ck lt bs T' O':=by
 obtain ⟨s1,o1,T1,O1,rfl,rfl,h1,h2,h3,h4,h5,h6⟩:=h.one hb (by omega)
 rw [List.length_append] at hl
 cases h5 with
 | last g hs hp=>exact ⟨s1,T1,o1,O1,[],[],by simp,by simp,h1,by omega,h2,by rw [← hp.length_eq]; omega,h3,hs,h4,hp,.last (Nat.zero_le _) .nil (List.Perm.refl _)⟩
 | @cons s o T O g hs hp hT=>exact ⟨s1,s,o1,o,T,O,by simp,by simp,h1,g,h2,by rw [← hp.length_eq]; exact g,h3,hs,h4,hp,hT⟩
theorem Ck.rest (h:Ck lt bs T O) (hb:0<bs) (hl:bs<T.length) (h2:T.length<bs+bs):∃ s1 s2 o1 o2,T=s1++s2∧O=o1++o2∧s1.length=bs∧0<s2.length∧o1.length=bs∧Srt lt s1∧Srt lt s2∧s1.Perm o1∧s2.Perm o2:=by
 obtain ⟨s1,o1,T1,O1,rfl,rfl,h1,h3,h4,h5,h6,h7⟩:=h.one hb hl
 rw [List.length_append] at h2
 obtain ⟨h8,h9⟩:=h6.big hb (by omega)
 exact ⟨s1,T1,o1,O1,rfl,rfl,h1,h7,h3,h4,h8,h5,h9⟩
theorem tag_lt {X Z s1 s2 o1 o2 T0:List TM} (hT:T0.Pairwise fun x y=>x.2<y.2) (e:X++(o1++o2++Z)=T0) (h1:s1.Perm o1) (h2:s2.Perm o2):∀ x∈s1,∀ y∈s2,x.2<y.2:=by
 intro x hx y hy
 rw [← e] at hT
 have h3:=(List.pairwise_append.1 hT).2.1
 have h4:=(List.pairwise_append.1 h3).1
 exact (List.pairwise_append.1 h4).2.2 x (h1.mem_iff.1 hx) y (h2.mem_iff.1 hy)
theorem tag_sub {X Y Z T0:List TM} (hT:T0.Pairwise fun x y=>x.2<y.2) (e:X++(Y++Z)=T0):Y.Pairwise fun x y=>x.2<y.2:=by
 rw [← e] at hT
 exact (List.pairwise_append.1 (List.pairwise_append.1 hT).2.1).1
theorem ms_tags (xs:List Meta):ms (xs.zipIdx 0)=xs:=by unfold ms; simp
theorem tags_srt (xs:List Meta):(xs.zipIdx 0).Pairwise fun x y=>x.2<y.2:=by
 refine List.pairwise_iff_getElem.2 fun i j hi hj hij=>?_
 simp only [List.getElem_zipIdx]
 show 0+i<0+j
 omega
theorem ms_sort (h:Wk0 lt) {xs:List Meta} {T:List TM} (hs:Srt lt T) (hp:T.Perm (xs.zipIdx 0)):ms T=sortS lt xs:=sortS_of h hs hp
end
def cmpN (x y:Int):Int:=if x<y then -1 else if y<x then 1 else 0
def cmpT (x y:ByteArray):Int:=if lt x y then -1 else if lt y x then 1 else 0
def lvC (i:Int) (a b:Meta):Int:=if i=0 then cmpN b.number a.number else cmpT a.min b.min
def lvLt (i:Int) (a b:Meta):Bool:=if i=0 then decide (b.number<a.number) else lt a.min b.min
theorem ltv_lvC (i:Int):ltv (lvC i)=lvLt i:=by
 funext a b
 unfold ltv lvC lvLt cmpN cmpT
 by_cases h:i=0
 ·simp only [h,if_true]
  split
  ·rename_i h1; simp [h1]
  ·rename_i h1
   split<;>simp [h1]
 ·simp only [h,if_false]
  cases h1:lt a.min b.min with
  | true=>rfl
  | false=>cases lt b.min a.min<;>rfl
theorem lvLt_wk (i:Int):Wk0 (lvLt i):=by
 unfold lvLt
 by_cases h:i=0
 ·simp only [h,if_true]
  refine ⟨fun a=>by simp,fun {a b c} h1 h2=>?_,fun {a b} c h1=>?_⟩
  ·simp only [decide_eq_true_eq] at *; omega
  simp only [decide_eq_true_eq] at *; omega
 simp only [h,if_false]
 refine ⟨fun a=>lt_irr _,fun {a b c} h1 h2=>lt_tr h1 h2,fun {a b} c h1=>?_⟩
 rcases lt_tri a.min c.min with h2 | h2 | h2
 ·exact .inl h2
 ·right; rw [← h2]; exact h1
 right; exact lt_tr h2 h1
theorem cmpT_lt {x y:ByteArray} (h:Op.bytesLess x.toList y.toList=true):cmpT x y = -1:=by unfold cmpT; rw [if_pos (show lt x y=true from h)]
theorem cmpT_gt {x y:ByteArray} (h:Op.bytesLess x.toList y.toList=false) (h2:(!(Op.bytesLess x.toList y.toList||x.toList == y.toList))=true):cmpT x y=1:=by
 have h3:lt y x=true:=by
  have:le x y=false:=by simpa [le] using h2
  rw [le_not] at this; simpa using this
 unfold cmpT; rw [if_neg (by rw [show lt x y=false from h]; decide),if_pos h3]
theorem cmpT_eq {x y:ByteArray} (h:Op.bytesLess x.toList y.toList=false) (h2:(!(Op.bytesLess x.toList y.toList||x.toList == y.toList))=false):cmpT x y=0:=by
 have h3:lt y x=false:=by
  have:le x y=true:=by unfold le; simpa only [Bool.not_eq_false'] using h2
  rw [le_not] at this; simpa using this
 unfold cmpT; rw [if_neg (by rw [show lt x y=false from h]; decide),if_neg (by rw [h3]; decide)]
def gensKs:List CK:=List.replicate 5 (.int .u64)
theorem encM_len {m:Meta} (h:m.wf):(encM m).length≤m.min.size+m.max.size+112:=by
 have l1:=h.level; have l2:=h.gen; have l3:=h.epoch; have l4:=h.number; have l7:=h.minL; have l8:=h.maxL
 have n1:=num_len10 (n:=m.level.toNat) (by omega); have n2:=num_len10 (n:=m.gen.toNat) (by omega); have n3:=num_len10 (n:=m.epoch.toNat) (by omega); have n4:=num_len10 (n:=m.number.toNat) (by omega)
 have n5:=num_len10 (u64N_lt m.size); have n6:=num_len10 (u64N_lt m.count)
 have y1:=yb_len m.min; have y2:=yb_len m.max
 have s1:=strL_len (xs:=yb m.min) (by omega); have s2:=strL_len (xs:=yb m.max) (by omega)
 unfold encM
 simp only [List.length_append,List.length_map,List.length_range]
 omega
theorem metas_len' {R:Nat}:∀ (l:List Meta),(∀ m∈l,m.wf∧m.min.size≤R∧m.max.size≤R)→(l.flatMap encM).length≤l.length*(2*R+112)
 | [],_=>by simp
 | m :: l,h=>by
  have h1:=h m (List.mem_cons_self ..)
  have h2:=encM_len h1.1
  have h3:=metas_len' l fun x hx=>h x (List.mem_cons_of_mem _ hx)
  rw [List.flatMap_cons,List.length_append,List.length_cons,Nat.succ_mul]; omega
theorem encE_len {e:Edit} (h:e.wf) (ha:e.add.length≤1000000) (hd:e.drop.length≤1000000):(encE e).length≤(e.add.flatMap encM).length+20*e.drop.length+110:=by
 have l1:=h.log; have l2:=h.next; have l3:=h.seq; have l4:=h.least
 unfold u64 at l1 l2 l3 l4
 have n1:=num_len10 (n:=e.log.toNat) (by omega); have n2:=num_len10 (n:=e.next.toNat) (by omega); have n3:=num_len10 (n:=e.seq.toNat) (by omega); have n4:=num_len10 (n:=e.least.toNat) (by omega)
 have n5:=num_len10 (n:=e.add.length) (by omega); have n6:=num_len10 (n:=e.drop.length) (by omega)
 have g:((List.range 5).flatMap fun i=>numN (e.gens i).toNat).length≤10*5:=by
  have:=numsL_len (ns:=gensL e) (gens_u h)
  unfold numsL gensL at this
  rw [List.flatMap_map] at this
  simpa using this
 have d:=gonesL h.drop
 unfold encE
 simp only [List.length_append]
 omega
abbrev Lvs:=Nat→List Meta
def updL (L:Lvs) (k:Nat) (l:List Meta):Lvs:=fun i=>if i=k then l else L i
theorem updL_same (L:Lvs) (k:Nat) (l:List Meta):updL L k l k=l:=by simp [updL]
theorem updL_other {L:Lvs} {k i:Nat} {l:List Meta} (h:i≠k):updL L k l i=L i:=by simp [updL,h]
def isN (g:Gone) (m:Meta):Bool:=m.number == g.number
def dropF (g:Gone) (L:Lvs):Option Lvs :=
 if g.level<5 then (if idxI (isN g) (L g.level.toNat)<0 then none else some (updL L g.level.toNat ((L g.level.toNat).take (idxI (isN g) (L g.level.toNat)).toNat++(L g.level.toNat).drop ((idxI (isN g) (L g.level.toNat)).toNat+1)))) else none
def addF (m:Meta) (L:Lvs):Option Lvs:=if m.level<5 then some (updL L m.level.toNat (L m.level.toNat++[m])) else none
def insF (m:Meta) (L:Lvs):Option Lvs:=if m.level<5 then some (updL L m.level.toNat (insS (lvLt m.level) (L m.level.toNat) m)) else none
def foldO {β:Type} (f:β→Lvs→Option Lvs):List β→Lvs→Option Lvs
 | [],L=>some L
 | b :: bs,L=>(f b L).bind (foldO f bs)
theorem foldO_snoc {β:Type} {f:β→Lvs→Option Lvs}:∀ {bs:List β} {b:β} {L:Lvs},foldO f (bs++[b]) L=(foldO f bs L).bind (f b)
 | [],b,L=>by simp [foldO]
 | c :: bs,b,L=>by
  simp only [List.cons_append,foldO]
  cases f c L with
  | none=>rfl
  | some L1=>exact foldO_snoc
theorem foldO_take {β:Type} {f:β→Lvs→Option Lvs} {bs:List β} {k:Nat} {b:β} {L:Lvs} (h:bs[k]? = some b):foldO f (bs.take (k+1)) L=(foldO f (bs.take k) L).bind (f b):=by
 rw [List.take_add_one,h]; exact foldO_snoc
theorem foldO_app {β:Type} {f:β→Lvs→Option Lvs}:∀ {bs cs:List β} {L:Lvs},foldO f (bs++cs) L=(foldO f bs L).bind (foldO f cs)
 | [],cs,L=>rfl
 | b :: bs,cs,L=>by
  simp only [List.cons_append,foldO]
  cases f b L with
  | none=>rfl
  | some L1=>exact foldO_app
theorem foldO_none {β:Type} {f:β→Lvs→Option Lvs} {bs:List β} {k:Nat} {L:Lvs} (h:foldO f (bs.take k) L=none):foldO f bs L=none:=by
 rw [← List.take_append_drop k bs,foldO_app,h]; rfl
def mkX (e:Edit) (L:Lvs):State:=⟨L,e.log,e.next,e.seq,e.least,e.gens⟩
noncomputable def chk (X:State):Option State:=if rightS X then some X else none
def okB (s:State) (e:Edit):Bool := !beforeB s e&&(decide ((e.add.length:Int)≤1024)&&decide ((e.drop.length:Int)≤1024))
def srtL (L:Lvs):Lvs:=fun i=>sortS (lvLt i) (L i)
noncomputable def applyO (s:State) (e:Edit):Option State :=
 if okB s e then (foldO dropF e.drop s.lv).bind fun L1=>(foldO addF e.add L1).bind fun L2=>chk (mkX e (srtL L2)) else none
structure EqS (X Y:State):Prop where
 lv:∀ i,i<5→X.lv i=Y.lv i
 log:X.log=Y.log
 next:X.next=Y.next
 seq:X.seq=Y.seq
 least:X.least=Y.least
 gens:X.gens=Y.gens
theorem EqS.refl (X:State):EqS X X:=⟨fun _ _=>rfl,rfl,rfl,rfl,rfl,rfl⟩
theorem EqS.tot {X Y:State} (h:EqS X Y):∀ n,n≤5→tot X n=tot Y n
 | 0,_=>rfl
 | n+1,hn=>by simp only [Go.Tan.tot,h.tot n (by omega),h.lv n (by omega)]
theorem EqS.all {X Y:State} (h:EqS X Y):∀ n,n≤5→allM X n=allM Y n
 | 0,_=>rfl
 | n+1,hn=>by simp only [allM,h.all n (by omega),h.lv n (by omega)]
theorem EqS.good {X Y:State} (h:EqS X Y) (m:Meta):Go.Tan.good X m=Go.Tan.good Y m:=by unfold Go.Tan.good; rw [h.next,h.gens]
theorem EqS.right' {X Y:State} (h:EqS X Y) (hr:RightP X):RightP Y:=by
 refine ⟨h.seq▸hr.seq,h.least▸hr.least,by rw [← h.log,←h.next]; exact hr.log,by rw [← h.tot 5 (Nat.le_refl _)]; exact hr.few,fun i hi=>?_,?_⟩
 ·have:=hr.lv i hi
  rw [h.lv i hi] at this
  exact ⟨fun m hm=>⟨(this.1 m hm).1,by rw [← h.good]; exact (this.1 m hm).2⟩,this.2⟩
 rw [← h.all 5 (Nat.le_refl _)]; exact hr.apart
theorem EqS.symm {X Y:State} (h:EqS X Y):EqS Y X:=⟨fun i hi=>(h.lv i hi).symm,h.log.symm,h.next.symm,h.seq.symm,h.least.symm,h.gens.symm⟩
theorem EqS.right {X Y:State} (h:EqS X Y):rightS X=rightS Y:=by
 cases hx:rightS X with
 | true=>exact (rightS_true (h.right' (rightP_of hx))).symm
 | false =>
  cases hy:rightS Y with
  | false=>rfl
  | true=>have:=rightS_true (h.symm.right' (rightP_of hy)); rw [hx] at this; cases this
def AppR (s:State) (e:Edit) (X:State) (err:Int):Prop :=
 (rightS s=false∧err=1∧X=State.zero)∨(rightS s=true∧applyO s e=none∧err=180∧X=State.zero)∨(rightS s=true∧err=0∧∃ Y,applyO s e=some Y∧EqS X Y)
theorem ap_not {s:State} {e:Edit} (h:okB s e=false):applyO s e=none:=by unfold applyO; rw [h]; rfl
theorem ap_drop {s:State} {e:Edit} (h:foldO dropF e.drop s.lv=none):applyO s e=none:=by
 unfold applyO; split
 ·rw [h]; rfl
 ·rfl
theorem ap_add {s:State} {e:Edit} {L1:Lvs} (h1:foldO dropF e.drop s.lv=some L1) (h:foldO addF e.add L1=none):applyO s e=none:=by
 unfold applyO; split
 ·rw [h1]; simp only [Option.bind_some]; rw [h]; rfl
 ·rfl
theorem ap_end {s:State} {e:Edit} {L1 L2:Lvs} (h0:okB s e=true) (h1:foldO dropF e.drop s.lv=some L1) (h2:foldO addF e.add L1=some L2):applyO s e=chk (mkX e (srtL L2)):=by
 unfold applyO; rw [h0,h1]; simp only [if_true,Option.bind_some]; rw [h2]; rfl
theorem chk_eq {X Y:State} (h:EqS X Y) (hx:rightS X=true):chk Y=some Y:=by unfold chk; rw [← h.right,hx]; rfl
theorem chk_no {X Y:State} (h:EqS X Y) (hx:rightS X=false):chk Y=none:=by unfold chk; rw [← h.right,hx]; rfl
theorem idx_lt {p:Meta→Bool} {l:List Meta} (h:¬ idxI p l<0):(idxI p l).toNat<l.length∧idxI p l=((idxI p l).toNat:Int):=by
 unfold idxI at *
 cases hf:l.findIdx? p with
 | none=>rw [hf] at h; simp at h
 | some i =>
  rw [List.findIdx?_eq_some_iff_getElem] at hf
  simp; exact hf.1
theorem dropF_sub {g:Gone} {L L':Lvs} (h:dropF g L=some L'):∀ i,(L' i).Sublist (L i):=by
 unfold dropF at h
 split at h
 ·split at h
  ·cases h
  ·simp only [Option.some.injEq] at h
   subst h
   intro i
   by_cases hi:i=g.level.toNat
   ·subst hi
    rw [updL_same]
    have:=(List.Sublist.refl ((L g.level.toNat).take (idxI (isN g) (L g.level.toNat)).toNat)).append (List.drop_sublist_drop_left (L g.level.toNat) (Nat.le_succ (idxI (isN g) (L g.level.toNat)).toNat))
    rwa [List.take_append_drop] at this
   ·rw [updL_other hi]; exact List.Sublist.refl _
 ·cases h
theorem dropL_sub:∀ {gs:List Gone} {L L':Lvs},foldO dropF gs L=some L'→∀ i,(L' i).Sublist (L i)
 | [],L,L',h,i=>by simp only [foldO,Option.some.injEq] at h; subst h; exact List.Sublist.refl _
 | g :: gs,L,L',h,i=>by
  simp only [foldO] at h
  cases hf:dropF g L with
  | none=>rw [hf] at h; cases h
  | some L1=>rw [hf] at h; exact (dropL_sub h i).trans (dropF_sub hf i)
def atLv (i:Nat) (m:Meta):Bool:=m.level.toNat == i
theorem addL_eq:∀ {ms:List Meta} {L L':Lvs},foldO addF ms L=some L'→∀ i,L' i=L i++ms.filter (atLv i)
 | [],L,L',h,i=>by simp only [foldO,Option.some.injEq] at h; subst h; simp
 | m :: ms,L,L',h,i=>by
  simp only [foldO] at h
  unfold addF at h
  split at h
  ·simp only [Option.bind_some] at h
   rw [addL_eq h i]
   by_cases hi:i=m.level.toNat
   ·subst hi
    rw [updL_same,List.filter_cons_of_pos (by simp [atLv])]; simp
   ·rw [updL_other hi,List.filter_cons_of_neg (by simp [atLv]; omega)]
  ·cases h
theorem lvLt_nat {m:Meta} (h:0≤m.level):lvLt m.level=lvLt (m.level.toNat:Int):=by rw [Int.toNat_of_nonneg h]
theorem insL_eq:∀ {ms:List Meta} {L L':Lvs},(∀ m∈ms,0≤m.level)→foldO insF ms L=some L'→∀ i,L' i=(ms.filter (atLv i)).foldl (insS (lvLt (i:Int))) (L i)
 | [],L,L',_,h,i=>by simp only [foldO,Option.some.injEq] at h; subst h; simp
 | m :: ms,L,L',h0,h,i=>by
  simp only [foldO] at h
  unfold insF at h
  split at h
  ·simp only [Option.bind_some] at h
   rw [insL_eq (fun x hx=>h0 x (List.mem_cons_of_mem _ hx)) h i]
   by_cases hi:i=m.level.toNat
   ·subst hi
    rw [updL_same,List.filter_cons_of_pos (by simp [atLv]),List.foldl_cons,lvLt_nat (h0 m (List.mem_cons_self ..))]
   ·rw [updL_other hi,List.filter_cons_of_neg (by simp [atLv]; omega)]
  ·cases h
theorem add_ins_none:∀ {ms:List Meta} {L L':Lvs},foldO addF ms L=none↔foldO insF ms L'=none
 | [],L,L'=>by simp [foldO]
 | m :: ms,L,L'=>by
  simp only [foldO,addF,insF]
  split
  ·simp only [Option.bind_some]; exact add_ins_none
  ·simp
theorem right_srt {s:State} (hr:RightP s) {i:Nat} (hi:i<5):(s.lv i).Pairwise fun a b=>lvLt (i:Int) b a=false:=by
 have step:∀ (d a:Nat),a+d+1<(s.lv i).length→lvLt (i:Int) ((s.lv i).getD a Meta.zero) ((s.lv i).getD (a+d+1) Meta.zero)=true:=by
  intro d
  induction d with
  | zero =>
   intro a h
   have:=(hr.lv i hi).2 a h
   unfold pairOk at this
   unfold lvLt
   by_cases h0:i=0
   ·subst h0; simpa using this
   rw [if_neg (by omega)] at this ⊢
   exact le_lt_tr (good_le ((hr.lv i hi).1 _ (getD_mem (k:=a) (by omega))).2) this
  | succ d ih =>
   intro a h
   have h1:=ih a (by omega)
   have h2:lvLt (i:Int) ((s.lv i).getD (a+d+1) Meta.zero) ((s.lv i).getD (a+(d+1)+1) Meta.zero)=true:=by
    have:=(hr.lv i hi).2 (a+d+1) (by omega)
    rw [show a+d+1+1=a+(d+1)+1 by omega] at this
    unfold pairOk at this
    unfold lvLt
    by_cases h0:i=0
    ·subst h0; simpa using this
    rw [if_neg (by omega)] at this ⊢
    exact le_lt_tr (good_le ((hr.lv i hi).1 _ (getD_mem (k:=a+d+1) (by omega))).2) this
   exact (lvLt_wk i).tr h1 h2
 refine List.pairwise_iff_getElem.2 fun a b ha hb hab=>?_
 obtain ⟨d,rfl⟩ : ∃ d,b=a+d+1:=⟨b-a-1,by omega⟩
 have:=step d a hb
 have e1:(s.lv i).getD a Meta.zero=(s.lv i)[a]:=by simp [ha]
 have e2:(s.lv i).getD (a+d+1) Meta.zero=(s.lv i)[a+d+1]:=by simp [hb]
 rw [e1,e2] at this
 exact (lvLt_wk i).as this
theorem ins_sort {s:State} {gs:List Gone} {ms:List Meta} {L1 L2 L3:Lvs} (hr:RightP s) (h1:foldO dropF gs s.lv=some L1) (h2:foldO addF ms L1=some L2) (hm:∀ m∈ms,0≤m.level) (h3:foldO insF ms L1=some L3) {i:Nat} (hi:i<5):L3 i=srtL L2 i:=by
 rw [insL_eq hm h3 i]
 unfold srtL
 rw [addL_eq h2 i,sortS_append,sortS_sorted (lvLt_wk i) ((right_srt hr hi).sublist (dropL_sub h1 i))]
theorem ins_some {ms:List Meta} {L1 L3:Lvs} (h3:foldO insF ms L1=some L3):∃ L2,foldO addF ms L1=some L2:=by
 cases h:foldO addF ms L1 with
 | some L2=>exact ⟨L2,rfl⟩
 | none=>rw [add_ins_none (L':=L1)] at h; rw [h] at h3; cases h3
theorem dropL_len {s:State} {gs:List Gone} {L:Lvs} (hr:RightP s) (h:foldO dropF gs s.lv=some L) {i:Nat} (hi:i<5):(L i).length≤1024:=by
 have h1:=(dropL_sub h i).length_le
 have h2:=lv_tot s hi
 have h3:=hr.few
 omega
theorem addL_len {ms:List Meta} {L L':Lvs} {N:Nat} (h:foldO addF ms L=some L') {i:Nat} (hN:(L i).length≤N):(L' i).length≤N+ms.length:=by
 rw [addL_eq h i,List.length_append]
 have:=List.length_filter_le (atLv i) ms
 omega
theorem dropL_wf {s:State} {gs:List Gone} {L:Lvs} (hw:∀ i,i<5→∀ m∈s.lv i,m.wf) (h:foldO dropF gs s.lv=some L):∀ i,i<5→∀ m∈L i,m.wf:=fun i hi m hm=>hw i hi m ((dropL_sub h i).subset hm)
theorem addL_wf {ms:List Meta} {L L':Lvs} (hw:∀ i,i<5→∀ m∈L i,m.wf) (hm:∀ m∈ms,m.wf) (h:foldO addF ms L=some L'):∀ i,i<5→∀ m∈L' i,m.wf:=by
 intro i hi m hx
 rw [addL_eq h i] at hx
 rcases List.mem_append.1 hx with hx | hx
 ·exact hw i hi m hx
 ·exact hm m (List.mem_filter.1 hx).1
theorem srtL_len (L:Lvs) (i:Nat):(srtL L i).length=(L i).length:=sortS_len _
theorem srtL_mem {L:Lvs} {i:Nat} {m:Meta}:m∈srtL L i↔m∈L i:=(sortS_perm _).mem_iff
def xC (w0 w1 w2 w3 w4:Value) (e:Edit):List Value:=[w0,w1,w2,w3,w4,.int .u64 e.log,.int .u64 e.next,.int .u64 e.seq,.int .u64 e.least]++(List.range 5).map fun i=>.int .u64 (e.gens i)
def pk {α:Type} (k i:Nat) (a b:α):α:=if i<k then a else b
def hx5 (a b c d f:Sh):Nat→Sh:=fun i=>match i with | 0=>a | 1=>b | 2=>c | 3=>d | _=>f
theorem stR5 {G:PM} {X:State} {a b c d f:Sh} (h0:SlR G 40 Meta.cells a (X.lv 0)) (h1:SlR G 40 Meta.cells b (X.lv 1)) (h2:SlR G 40 Meta.cells c (X.lv 2)) (h3:SlR G 40 Meta.cells d (X.lv 3)) (h4:SlR G 40 Meta.cells f (X.lv 4)) (hl:∀ i,i<5→(X.lv i).length≤1000000) (hw:∀ i,i<5→∀ m∈X.lv i,m.wf):StR G X (hx5 a b c d f):=by
 refine ⟨fun i hi=>?_,fun i hi=>?_,hw⟩
 ·match i,hi with
  | 0,_=>exact h0
  | 1,_=>exact h1
  | 2,_=>exact h2
  | 3,_=>exact h3
  | 4,_=>exact h4
 have:=hl i hi; omega
theorem xC_cells {a b c d f:Sh} {e:Edit} {L:Lvs}:xC (a.val (L 0).length) (b.val (L 1).length) (c.val (L 2).length) (d.val (L 3).length) (f.val (L 4).length) e=(mkX e L).cells (hx5 a b c d f):=rfl
theorem xC_one {w0 w1 w2 w3 w4:Value} {e:Edit} (h0:w0.oneCell'=true) (h1:w1.oneCell'=true) (h2:w2.oneCell'=true) (h3:w3.oneCell'=true) (h4:w4.oneCell'=true):∀ u∈xC w0 w1 w2 w3 w4 e,u.oneCell'=true:=by
 intro u hu
 simp only [xC,List.mem_append,List.mem_map,List.mem_cons,List.not_mem_nil,or_false] at hu
 rcases hu with (rfl|rfl|rfl|rfl|rfl|rfl|rfl|rfl|rfl) | ⟨i,_,rfl⟩<;>first|assumption|rfl
theorem dropF_hit {g:Gone} {L:Lvs} {q k:Nat} (h:g.level=(q:Int)) (h5:q<5) (hk:idxI (isN g) (L q)=(k:Int)):dropF g L=some (updL L q ((L q).take k++(L q).drop (k+1))):=by
 unfold dropF
 rw [h,if_pos (by omega),Int.toNat_natCast,hk,if_neg (by omega),Int.toNat_natCast]
theorem dropF_miss {g:Gone} {L:Lvs} {q:Nat} (h:g.level=(q:Int)) (hk:idxI (isN g) (L q)<0):dropF g L=none:=by
 unfold dropF
 split
 ·rw [h,Int.toNat_natCast,if_pos hk]
 ·rfl
theorem dropF_high {g:Gone} {L:Lvs} (h:5≤g.level):dropF g L=none:=by unfold dropF; rw [if_neg (by omega)]
theorem addF_hit {m:Meta} {L:Lvs} {q:Nat} (h:m.level=(q:Int)) (h5:q<5):addF m L=some (updL L q (L q++[m])):=by
 unfold addF
 rw [h,if_pos (by omega),Int.toNat_natCast]
theorem addF_high {m:Meta} {L:Lvs} (h:5≤m.level):addF m L=none:=by unfold addF; rw [if_neg (by omega)]
theorem fold_step {β:Type} {f:β→Lvs→Option Lvs} {bs:List β} {j:Nat} {b:β} {L0 L L':Lvs} (hb:bs[j]? = some b) (hL:foldO f (bs.take j) L0=some L) (h:f b L=some L'):foldO f (bs.take (j+1)) L0=some L':=by rw [foldO_take hb,hL]; exact h
theorem fold_stop {β:Type} {f:β→Lvs→Option Lvs} {bs:List β} {j:Nat} {b:β} {L0 L:Lvs} (hb:bs[j]? = some b) (hL:foldO f (bs.take j) L0=some L) (h:f b L=none):foldO f bs L0=none:=foldO_none (k:=j+1) (by rw [foldO_take hb,hL]; exact h)
theorem srt_step5 {M L2:Lvs} {k:Nat} (h:∀ i,M i=if i<k then srtL L2 i else L2 i):∀ i,updL M k (sortS (ltv (lvC (k:Int))) (M k)) i=if i<k+1 then srtL L2 i else L2 i:=by
 intro i
 by_cases hi:i=k
 ·subst hi
  rw [updL_same,if_pos (by omega),ltv_lvC,h i,if_neg (by omega)]; rfl
 ·rw [updL_other hi,h i]
  by_cases h2:i<k
  ·rw [if_pos h2,if_pos (by omega)]
  ·rw [if_neg h2,if_neg (by omega)]
theorem ap_head {s:State} {e:Edit} (h:((decide ((e.add.length:Int) > 1024)||decide ((e.drop.length:Int) > 1024))||beforeB s e)=true):applyO s e=none:=by
 refine ap_not ?_
 unfold okB
 cases hb:beforeB s e with
 | true=>rfl
 | false =>
  rw [hb] at h
  simp only [Bool.or_false,Bool.or_eq_true,decide_eq_true_eq] at h
  simp only [Bool.not_false,Bool.true_and,Bool.and_eq_false_iff,decide_eq_false_iff_not]
  omega
theorem ok_head {s:State} {e:Edit} (h:((decide ((e.add.length:Int) > 1024)||decide ((e.drop.length:Int) > 1024))||beforeB s e)=false):okB s e=true∧e.add.length≤1024∧e.drop.length≤1024:=by
 simp only [Bool.or_eq_false_iff,decide_eq_false_iff_not] at h
 obtain ⟨⟨h1,h2⟩,h3⟩:=h
 refine ⟨?_,by omega,by omega⟩
 unfold okB
 rw [h3,decide_eq_true (by omega),decide_eq_true (by omega)]; rfl
abbrev Shs:=Nat→Sh
def updS (S:Shs) (k:Nat) (h:Sh):Shs:=fun i=>if i=k then h else S i
structure LvR (G:PM) (S:Shs) (L:Lvs) (n:Nat):Prop where
 lv:∀ i,i<n→SlR G 40 Meta.cells (S i) (L i)
theorem LvR.mono {G G':PM} {S:Shs} {L:Lvs} {n:Nat} (h:LvR G S L n) (hle:PM.le G G'):LvR G' S L n:=⟨fun i hi=>(h.lv i hi).mono hle⟩
theorem LvR.upd {G:PM} {S:Shs} {L:Lvs} {n k:Nat} {hh:Sh} {l:List Meta} (h:LvR G S L n) (hs:SlR G 40 Meta.cells hh l):LvR G (updS S k hh) (updL L k l) n:=⟨fun i hi=>by
 unfold updS updL
 by_cases e:i=k
 ·rw [if_pos e,if_pos e]; exact hs
 ·rw [if_neg e,if_neg e]; exact h.lv i hi⟩
theorem LvR.next {G:PM} {S:Shs} {L:Lvs} {k:Nat} {hh:Sh} {l:List Meta} (h:LvR G S L k) (hs:SlR G 40 Meta.cells hh l):LvR G (updS S k hh) (updL L k l) (k+1):=⟨fun i hi=>by
 unfold updS updL
 by_cases e:i=k
 ·rw [if_pos e,if_pos e]; exact hs
 ·rw [if_neg e,if_neg e]; exact h.lv i (by omega)⟩
theorem cells_set {e:Edit} {L:Lvs} {S:Shs} {k q:Nat} {hh:Sh} {l:List Meta} (hk:k<5) (hq:q=k):((mkX e L).cells S).set q (hh.val l.length)=(mkX e (updL L k l)).cells (updS S k hh):=by
 subst hq
 match q,hk with
 | 0,_=>rfl | 1,_=>rfl | 2,_=>rfl | 3,_=>rfl | 4,_=>rfl
theorem cells_congr {e:Edit} {L L':Lvs} {S:Shs} (h:∀ i,i<5→L i=L' i):(mkX e L).cells S=(mkX e L').cells S:=by
 unfold State.cells mkX
 congr 2
 exact List.map_congr_left fun i hi=>by simp only [h i (List.mem_range.1 hi)]
theorem LvR.congr {G:PM} {S:Shs} {L L':Lvs} {n:Nat} (h:LvR G S L n) (e:∀ i,i<n→L i=L' i):LvR G S L' n:=⟨fun i hi=>by rw [← e i hi]; exact h.lv i hi⟩
theorem Edit.cell_gen (e:Edit) (ha hd:Sh) {k:Nat} (h:k<5):(e.cells ha hd)[4+k*1]? = some (.int .u64 (e.gens k)):=by
 match k,h with
 | 0,_=>rfl | 1,_=>rfl | 2,_=>rfl | 3,_=>rfl | 4,_=>rfl
def okBase (s:State) (e:Edit):Bool:=((((decide (e.log≥s.log)&&decide (e.next≥s.next))&&decide (e.seq≥s.seq))&&decide (e.least≥s.least))&&decide ((e.add.length:Int)≤1024))&&decide ((e.drop.length:Int)≤1024)
def okU (s:State) (e:Edit):Nat→Bool
 | 0=>okBase s e
 | k+1=>okU s e k&&decide (e.gens k≥s.gens k)
theorem okU_all {s:State} {e:Edit}:∀ {k:Nat},okU s e k=true↔okBase s e=true∧∀ i,i<k→¬ e.gens i<s.gens i
 | 0=>by simp [okU]
 | k+1=>by
  simp only [okU,Bool.and_eq_true,okU_all (k:=k),decide_eq_true_eq]
  constructor
  ·rintro ⟨⟨h1,h2⟩,h3⟩
   exact ⟨h1,fun i hi=>by
    by_cases e:i=k
    ·subst e; omega
    ·exact h2 i (by omega)⟩
  ·rintro ⟨h1,h2⟩
   exact ⟨⟨h1,fun i hi=>h2 i (by omega)⟩,by have:=h2 k (by omega); omega⟩
theorem okU_okB {s:State} {e:Edit}:okU s e 5=okB s e:=by
 cases h:okU s e 5 with
 | true =>
  obtain ⟨h1,h2⟩:=okU_all.1 h
  unfold okBase at h1
  simp only [Bool.and_eq_true,decide_eq_true_eq] at h1
  obtain ⟨⟨⟨⟨⟨a1,a2⟩,a3⟩,a4⟩,a5⟩,a6⟩:=h1
  unfold okB
  rw [bef_no h2,decide_eq_true a5,decide_eq_true a6,decide_eq_false (by omega),decide_eq_false (by omega),decide_eq_false (by omega),decide_eq_false (by omega)]; rfl
 | false =>
  cases h':okB s e with
  | false=>rfl
  | true =>
   unfold okB at h'
   simp only [Bool.and_eq_true,Bool.not_eq_true',decide_eq_true_eq] at h'
   obtain ⟨b1,b2,b3⟩:=h'
   have hg:∀ i,i<5→¬ e.gens i<s.gens i:=fun i hi hc=>by rw [bef_yes hi hc] at b1; cases b1
   rw [bef_no hg] at b1
   simp only [Bool.or_eq_false_iff,decide_eq_false_iff_not] at b1
   have:okU s e 5=true:=okU_all.2 ⟨by
    unfold okBase
    simp only [Bool.and_eq_true,decide_eq_true_eq]
    omega,hg⟩
   rw [h] at this; cases this
theorem ins_at {lt:Meta→Meta→Bool} {l:List Meta} {m:Meta} {k:Nat} (hk:k≤l.length) (h1:∀ j,j<k→lt m (l.getD j Meta.zero)=false) (h2:k=l.length∨lt m (l.getD k Meta.zero)=true):insS lt l m=l.take k++m :: l.drop k:=by
 have ht:l.takeWhile (fun x => !lt m x)=l.take k∧l.dropWhile (fun x => !lt m x)=l.drop k:=by
  clear hk
  induction l generalizing k with
  | nil=>simp
  | cons x l ih =>
   cases k with
   | zero =>
    rcases h2 with h2 | h2
    ·simp at h2
    ·have:lt m x=true:=by simpa using h2
     simp [List.takeWhile,List.dropWhile,this]
   | succ k =>
    have h0:lt m x=false:=by simpa using h1 0 (by omega)
    obtain ⟨a,b⟩:=ih (k:=k) (fun j hj=>by simpa using h1 (j+1) (by omega)) (by
     rcases h2 with h2 | h2
     ·left; simpa using h2
     ·right; simpa using h2)
    simp [List.takeWhile,List.dropWhile,h0,a,b]
 unfold insS
 rw [ht.1,ht.2]
theorem placed_c {level:Int} {m x:Meta} (h0:0≤level):(((level == 0)&&decide (x.number≥m.number))||(decide (level > 0)&&(Op.bytesLess x.min.toList m.min.toList||x.min.toList == m.min.toList))) = !lvLt level m x:=by
 unfold lvLt
 by_cases h:level=0
 ·subst h
  simp only [beq_self_eq_true,Bool.true_and,if_true,show decide ((0:Int) > 0)=false from rfl,Bool.false_and,Bool.or_false]
  by_cases h2:x.number<m.number
  ·rw [decide_eq_true h2,decide_eq_false (by omega)]; rfl
  ·rw [decide_eq_false h2,decide_eq_true (by omega)]; rfl
 ·rw [if_neg h,show (level == 0)=false from by simpa using h,Bool.false_and,Bool.false_or,decide_eq_true (show level > 0 by omega),Bool.true_and]
  exact le_not x.min m.min
theorem insF_hit {m:Meta} {L:Lvs} (h:m.level<5):insF m L=some (updL L m.level.toNat (insS (lvLt m.level) (L m.level.toNat) m)):=by unfold insF; rw [if_pos h]
theorem insF_high {m:Meta} {L:Lvs} (h:5≤m.level):insF m L=none:=by unfold insF; rw [if_neg (by omega)]
theorem dropF_ok {g:Gone} {L:Lvs} {k:Nat} (h:g.level<5) (hk:idxI (isN g) (L g.level.toNat)=(k:Int)):dropF g L=some (updL L g.level.toNat ((L g.level.toNat).take k++(L g.level.toNat).drop (k+1))):=by
 unfold dropF
 rw [if_pos h,hk,if_neg (by omega),Int.toNat_natCast]
theorem dropF_non {g:Gone} {L:Lvs} (hk:idxI (isN g) (L g.level.toNat)<0):dropF g L=none:=by
 unfold dropF
 split<;>first|rfl | rw [if_pos hk]
def WithoutR (g:Gone) (l L:List Meta) (ok:Bool):Prop:=(ok=false∧L=[]∧idxI (isN g) l<0)∨(ok=true∧∃ k:Nat,idxI (isN g) l=(k:Int)∧k<l.length∧L=l.take k++l.drop (k+1))
theorem WithoutR.len {g:Gone} {l L:List Meta} {ok:Bool} (h:WithoutR g l L ok):L.length≤l.length:=by
 rcases h with ⟨_,rfl,_⟩ | ⟨_,k,_,hk,rfl⟩
 ·simp
 ·simp; omega
def RefT (s:State) (e:Edit) (f:Option Lvs) (L:Lvs) (ok:Bool):Prop:=(ok=true∧okB s e=true∧f=some L)∨(ok=false∧applyO s e=none)
theorem RefT.start {s:State} {e:Edit} {ok:Bool} {f:Option Lvs} {L:Lvs} (h:ok=okU s e 5) (hf:f=some L):RefT s e f L ok:=by
 rw [okU_okB] at h
 cases hk:okB s e with
 | true=>exact .inl ⟨by rw [h,hk],hk,hf⟩
 | false=>exact .inr ⟨by rw [h,hk],ap_not hk⟩
theorem RefT.drop {s:State} {e:Edit} {g:Gone} {j:Nat} {L:Lvs} {l:List Meta} {ok:Bool} (h:RefT s e (foldO dropF (e.drop.take j) s.lv) L true) (eg:e.drop[j]? = some g) (h5:g.level<5) (hw:WithoutR g (L g.level.toNat) l ok):RefT s e (foldO dropF (e.drop.take (j+1)) s.lv) (updL L g.level.toNat l) ok:=by
 rcases h with ⟨_,h1,h2⟩ | ⟨h,_⟩
 ·rcases hw with ⟨rfl,_,hn⟩ | ⟨rfl,k,hk,_,rfl⟩
  ·exact .inr ⟨rfl,ap_drop (fold_stop eg h2 (dropF_non hn))⟩
  ·exact .inl ⟨rfl,h1,fold_step eg h2 (dropF_ok h5 hk)⟩
 ·cases h
theorem RefT.dropX {s:State} {e:Edit} {g:Gone} {j:Nat} {L L':Lvs} {f:Option Lvs} (h:RefT s e (foldO dropF (e.drop.take j) s.lv) L true) (eg:e.drop[j]? = some g) (h5:5≤g.level):RefT s e f L' false:=by
 rcases h with ⟨_,h1,h2⟩ | ⟨h,_⟩
 ·exact .inr ⟨rfl,ap_drop (fold_stop eg h2 (dropF_high h5))⟩
 ·cases h
theorem okB_bd {s:State} {e:Edit} (h:okB s e=true):e.add.length≤1024∧e.drop.length≤1024:=by
 unfold okB at h
 simp only [Bool.and_eq_true,decide_eq_true_eq] at h
 omega
theorem RefT.bd {s:State} {e:Edit} {f:Option Lvs} {L:Lvs} (h:RefT s e f L true):e.add.length≤1024∧e.drop.length≤1024:=by
 rcases h with ⟨_,h,_⟩ | ⟨h,_⟩
 ·exact okB_bd h
 ·cases h
structure RefA (s:State) (e:Edit) (j:Nat) (L:Lvs) (ok:Bool):Prop where
 out:(ok=true∧okB s e=true∧∃ L1,foldO dropF e.drop s.lv=some L1∧foldO insF (e.add.take j) L1=some L)∨(ok=false∧applyO s e=none)
theorem RefA.start {s:State} {e:Edit} {L:Lvs} {ok:Bool} (h:RefT s e (foldO dropF e.drop s.lv) L ok):RefA s e 0 L ok:=by
 rcases h with ⟨rfl,h1,h2⟩ | ⟨rfl,h⟩
 ·exact ⟨.inl ⟨rfl,h1,L,h2,rfl⟩⟩
 ·exact ⟨.inr ⟨rfl,h⟩⟩
theorem RefA.bd {s:State} {e:Edit} {j:Nat} {L:Lvs} (h:RefA s e j L true):e.add.length≤1024∧e.drop.length≤1024:=by
 rcases h.out with ⟨_,h,_⟩ | ⟨h,_⟩
 ·exact okB_bd h
 ·cases h
theorem RefA.add {s:State} {e:Edit} {m:Meta} {j:Nat} {L:Lvs} (h:RefA s e j L true) (em:e.add[j]? = some m) (h5:m.level<5):RefA s e (j+1) (updL L m.level.toNat (insS (lvLt m.level) (L m.level.toNat) m)) true:=by
 rcases h.out with ⟨_,h1,L1,h2,h3⟩ | ⟨h,_⟩
 ·exact ⟨.inl ⟨rfl,h1,L1,h2,fold_step em h3 (insF_hit h5)⟩⟩
 ·cases h
theorem RefA.addX {s:State} {e:Edit} {m:Meta} {j:Nat} {L L':Lvs} (h:RefA s e j L true) (em:e.add[j]? = some m) (h5:5≤m.level):RefA s e (j+1) L' false:=by
 rcases h.out with ⟨_,h1,L1,h2,h3⟩ | ⟨h,_⟩
 ·exact ⟨.inr ⟨rfl,ap_add h2 ((add_ins_none (L':=L1)).2 (fold_stop em h3 (insF_high h5)))⟩⟩
 ·cases h
theorem RefA.end' {s:State} {e:Edit} {j:Nat} {L:Lvs} (h:RefA s e j L true) (hr:RightP s) (hm:∀ m∈e.add,0≤m.level) (hj:e.add.length≤j):∃ L1 L2,foldO dropF e.drop s.lv=some L1∧foldO addF e.add L1=some L2∧applyO s e=chk (mkX e (srtL L2))∧EqS (mkX e L) (mkX e (srtL L2)):=by
 rcases h.out with ⟨_,h1,L1,h2,h3⟩ | ⟨h,_⟩
 ·rw [List.take_of_length_le hj] at h3
  obtain ⟨L2,h4⟩:=ins_some h3
  exact ⟨L1,L2,h2,h4,ap_end h1 h2 h4,fun i hi=>ins_sort hr h2 h4 hm h3 hi,rfl,rfl,rfl,rfl,rfl⟩
 ·cases h
theorem RefA.no {s:State} {e:Edit} {j:Nat} {L:Lvs} (h:RefA s e j L false):applyO s e=none:=by
 rcases h.out with ⟨h,_⟩ | ⟨_,h⟩
 ·cases h
 ·exact h
theorem upd_len {Lf:Lvs} {q:Nat} {l:List Meta} {N:Nat} (h:∀ i,i<5→(Lf i).length≤N) (hl:l.length≤(Lf q).length):∀ i,i<5→(updL Lf q l i).length≤N:=by
 intro i hi
 by_cases e:i=q
 ·subst e; rw [updL_same]; exact Nat.le_trans hl (h i hi)
 ·rw [updL_other e]; exact h i hi
theorem upd_wf {Lf:Lvs} {g:Gone} {l:List Meta} {ok:Bool} (h:∀ i,i<5→∀ m∈Lf i,m.wf) (hw:WithoutR g (Lf g.level.toNat) l ok):∀ i,i<5→∀ m∈updL Lf g.level.toNat l i,m.wf:=by
 intro i hi m hm
 by_cases e:i=g.level.toNat
 ·subst e
  rw [updL_same] at hm
  rcases hw with ⟨_,rfl,_⟩ | ⟨_,k,_,_,rfl⟩
  ·cases hm
  ·rcases List.mem_append.1 hm with hm | hm
   ·exact h _ hi m (List.mem_of_mem_take hm)
   ·exact h _ hi m (List.mem_of_mem_drop hm)
 ·rw [updL_other e] at hm; exact h i hi m hm
theorem upd_ins {Lf:Lvs} {q:Nat} {N:Nat} {lt:Meta→Meta→Bool} {m:Meta} (h:∀ i,i<5→(Lf i).length≤N):∀ i,i<5→(updL Lf q (insS lt (Lf q) m) i).length≤N+1:=by
 intro i hi
 by_cases e:i=q
 ·subst e
  rw [updL_same,(insS_perm _ _).length_eq,List.length_append]
  have:=h i hi
  simp; omega
 ·rw [updL_other e]; have:=h i hi; omega
theorem ins_wf {Lf:Lvs} {q:Nat} {lt:Meta→Meta→Bool} {m:Meta} (h:∀ i,i<5→∀ m∈Lf i,m.wf) (hm:m.wf):∀ i,i<5→∀ x∈updL Lf q (insS lt (Lf q) m) i,x.wf:=by
 intro i hi x hx
 by_cases e:i=q
 ·subst e
  rw [updL_same,(insS_perm _ _).mem_iff,List.mem_append,List.mem_singleton] at hx
  rcases hx with hx|rfl
  ·exact h i hi x hx
  ·exact hm
 ·rw [updL_other e] at hx; exact h i hi x hx
theorem stR_of {G:PM} {e:Edit} {L:Lvs} {S:Shs} (h:LvR G S L 5) (hl:∀ i,i<5→(L i).length≤1000000) (hw:∀ i,i<5→∀ m∈L i,m.wf):StR G (mkX e L) S:=⟨h.lv,fun i hi=>by have:=hl i hi; show (L i).length*112≤_; omega,hw⟩
theorem ref_no {s:State} {e:Edit} {j:Nat} {L:Lvs} {ok:Bool} (hr:RightP s) (h:RefA s e j L ok) (hm:∀ m∈e.add,0≤m.level) (hj:ok=true→e.add.length≤j) (hc:(!ok || !rightS (mkX e L))=true):applyO s e=none:=by
 cases ok with
 | false=>exact h.no
 | true =>
  obtain ⟨L1,L2,_,_,h3,h4⟩:=h.end' hr hm (hj rfl)
  rw [h3]
  exact chk_no h4 (by simpa using hc)
theorem ref_yes {s:State} {e:Edit} {j:Nat} {L:Lvs} {ok:Bool} (hr:RightP s) (h:RefA s e j L ok) (hm:∀ m∈e.add,0≤m.level) (hj:ok=true→e.add.length≤j) (hc:(!ok || !rightS (mkX e L))=false):∃ Y,applyO s e=some Y∧EqS (mkX e L) Y:=by
 cases ok with
 | false=>cases hc
 | true =>
  obtain ⟨L1,L2,_,_,h3,h4⟩:=h.end' hr hm (hj rfl)
  exact ⟨_,by rw [h3]; exact chk_eq h4 (by simpa using hc),h4⟩
noncomputable def eqGenS (a b:State):Bool:=B (((List.range 5).map fun i=>Value.int .u64 (a.gens i))=(List.range 5).map fun i=>Value.int .u64 (b.gens i))
theorem eqGenS_iff {a b:State}:eqGenS a b=true↔((List.range 5).map fun i=>Value.int .u64 (a.gens i))=(List.range 5).map fun i=>Value.int .u64 (b.gens i):=B_iff
noncomputable def sameS (a b:State):Bool:=B (∀ i,i<5→sameM (a.lv i) (b.lv i)=true)&&((((a.log == b.log)&&(a.next == b.next))&&(a.seq == b.seq))&&eqGenS a b)
theorem sameS_no {a b:State} {i:Nat} (hi:i<5) (h:sameM (a.lv i) (b.lv i)=false):sameS a b=false:=by
 unfold sameS
 rw [show B (∀ i,i<5→sameM (a.lv i) (b.lv i)=true)=false from B_false fun hc=>by have:=hc i hi; rw [h] at this; cases this]; rfl
theorem sameS_yes {a b:State} (h:∀ i,i<5→sameM (a.lv i) (b.lv i)=true):sameS a b=((((a.log == b.log)&&(a.next == b.next))&&(a.seq == b.seq))&&eqGenS a b):=by
 unfold sameS
 rw [show B (∀ i,i<5→sameM (a.lv i) (b.lv i)=true)=true from B_true h]; rfl
theorem sameS_of {a b:State} (h:EqS a b):sameS a b=true:=by
 rw [sameS_yes fun i hi=>by rw [h.lv i hi]; exact sameM_refl _,h.log,h.next,h.seq,show eqGenS a b=true from B_true (by rw [h.gens])]
 simp
theorem EqS.trans {X Y Z:State} (h:EqS X Y) (h':EqS Y Z):EqS X Z:=⟨fun i hi=>(h.lv i hi).trans (h'.lv i hi),h.log.trans h'.log,h.next.trans h'.next,h.seq.trans h'.seq,h.least.trans h'.least,h.gens.trans h'.gens⟩
theorem AppR.det {s:State} {e:Edit} {X Y:State} {r r':Int} (h:AppR s e X r) (h':AppR s e Y r'):EqS X Y∧r=r':=by
 rcases h with ⟨h1,rfl,rfl⟩ | ⟨h1,h2,rfl,rfl⟩ | ⟨h1,rfl,Z,h2,h3⟩<;>rcases h' with ⟨k1,rfl,rfl⟩ | ⟨k1,k2,rfl,rfl⟩ | ⟨k1,rfl,Z',k2,k3⟩
 ·exact ⟨.refl _,rfl⟩
 ·rw [h1] at k1; cases k1
 ·rw [h1] at k1; cases k1
 ·rw [h1] at k1; cases k1
 ·exact ⟨.refl _,rfl⟩
 ·rw [h2] at k2; cases k2
 ·rw [h1] at k1; cases k1
 ·rw [h2] at k2; cases k2
 ·rw [h2] at k2; cases k2
  exact ⟨h3.trans k3.symm,rfl⟩
def StW (s:State):Prop:=(u64 s.log∧u64 s.next∧u64 s.seq∧u64 s.least)∧∀ i,i<5→u64 (s.gens i)
theorem gensS_conf {s:State} (h:∀ i,i<5→u64 (s.gens i)):Conf gensKs ((List.range 5).map fun i=>Value.int .u64 (s.gens i)):=by
 have:=Conf.rep (k:=.int .u64) (f:=fun i=>Value.int .u64 (s.gens i)) (List.range 5) (fun i hi=>by
  have hr:=h i (List.mem_range.1 hi)
  unfold u64 at hr
  refine .int ?_ ?_
  all_goals (simp only [IntKind.min,IntKind.max,IntKind.bits,IntKind.signed]; simp; omega))
 rw [List.length_range] at this
 exact this
theorem StW.zero:∀ i,i<5→u64 (State.zero.gens i):=fun _ _=>⟨show (0:Int)≤0 by decide,show (0:Int)<18446744073709551616 by decide⟩
theorem AppR.gens {s:State} {e:Edit} {X:State} {r:Int} (h:AppR s e X r) (hw:e.wf):∀ i,i<5→u64 (X.gens i):=by
 rcases h with ⟨_,_,rfl⟩ | ⟨_,_,_,rfl⟩ | ⟨_,_,Y,h1,h2⟩
 ·exact StW.zero
 ·exact StW.zero
 ·rw [h2.gens]
  unfold applyO at h1
  split at h1
  ·cases hd:foldO dropF e.drop s.lv with
   | none=>rw [hd] at h1; cases h1
   | some L1 =>
    rw [hd] at h1
    simp only [Option.bind_some] at h1
    cases ha:foldO addF e.add L1 with
    | none=>rw [ha] at h1; cases h1
    | some L2 =>
     rw [ha] at h1
     simp only [Option.bind_some] at h1
     unfold chk at h1
     split at h1
     ·cases h1; exact hw.gens
     ·cases h1
  ·cases h1
theorem applyO_inv {s:State} {e:Edit} {Y:State} (h:applyO s e=some Y):okB s e=true∧rightS Y=true∧∃ L1 L2,foldO dropF e.drop s.lv=some L1∧foldO addF e.add L1=some L2∧Y=mkX e (srtL L2):=by
 unfold applyO at h
 split at h
 ·rename_i hk
  cases hd:foldO dropF e.drop s.lv with
  | none=>rw [hd] at h; cases h
  | some L1 =>
   rw [hd] at h
   simp only [Option.bind_some] at h
   cases ha:foldO addF e.add L1 with
   | none=>rw [ha] at h; cases h
   | some L2 =>
    rw [ha] at h
    simp only [Option.bind_some] at h
    unfold chk at h
    split at h
    ·rename_i hr
     cases h
     exact ⟨hk,hr,L1,L2,rfl,ha,rfl⟩
    ·cases h
 ·cases h
theorem AppR.len {s:State} {e:Edit} {X:State} {r:Int} (h:AppR s e X r) {i:Nat} (hi:i<5):(X.lv i).length≤1024:=by
 rcases h with ⟨_,_,rfl⟩ | ⟨_,_,_,rfl⟩ | ⟨_,_,Y,h1,h2⟩
 ·exact Nat.zero_le _
 ·exact Nat.zero_le _
 ·rw [h2.lv i hi]
  have h3:=(rightP_of (applyO_inv h1).2.1).few
  have h4:=lv_tot Y hi
  omega
end Go.Tan
