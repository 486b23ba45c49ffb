/- Lemmas and contracts of functions, joined. -/
import Derived.Test.YtbdnclpopappeaaGreatDoorMb3
set_option linter.unusedSimpArgs false
set_option linter.unusedVariables false
set_option linter.unusedSectionVars false
namespace Go.Proofs.YtbdnclpopappeaaGreatDoor
open Go.Tan Go.RowKit
namespace Fx
theorem go86:goFn Tryz.prog 86=true:=by kernel_rfl
theorem go155:goFn Tryz.prog 155=true:=by kernel_rfl
theorem go51:goFn Tryz.prog 51=true:=by kernel_rfl
theorem go139:goFn Tryz.prog 139=true:=by kernel_rfl
theorem bs34_9:bsT Tryz.prog 34 9=true:=by kernel_rfl
theorem go118:goFn Tryz.prog 118=true:=by kernel_rfl
theorem go117:goFn Tryz.prog 117=true:=by kernel_rfl
end Fx
theorem fFix_ok (n:BitVec 64) (many:Nat) (G:PM) (hm:many≤8):Ct Tryz.prog 51 ([uv .u64 n,.int .i64 (many:Int)]:List Value).toArray G [] (PR 5 (fun L=>L=fixL n many)):=by
 refine Ct.of Tryz.func51 rfl Tryz.ntmps51 rfl fun w0 hs0=>?_
 refine .seq (rq1 rfl rfl (aS rfl rfl (.nil (.code (.seq (rq1 rfl rfl (aS rfl rfl (.nil (.code (.seq (.seq (wk_nilB 5 ?_))))))))))))
 refine rq1 rfl rfl (aS rfl rfl (.nil (.code (.block ?_))))
 refine Wk.lop (α:=Nat×Value×List Y×BitVec 64) (fun gh=>[(0,true,uv .u64 gh.2.2.2),(5,true,gh.2.1),(6,true,.int .i64 (gh.1:Int))]) (fun gh=>[rB gh.2.1 5 gh.2.2.1])
  (fun gh Gl=>(gh.1≤many)∧(gh.2.2.1=fixL n gh.1)∧(gh.2.2.2=n >>> (8*gh.1))) (fun gh=>many-gh.1) (0,.slice none 0 0,[],n) [(1,true,_)] []
  (esD rfl (esD rfl (esC rfl (by first|rfl|exact evi (by omega)) (esD rfl eZ))))
  (mS .here rfl mN) ?_ ?_
 ·refine ⟨?_,?_,?_⟩
  ·(try dsimp only)<;>(first|omega|rfl|assumption|(simp; done))
  ·(try dsimp only)<;>(rfl)
  (try dsimp only)<;>(simp)
 intro gh N0 Gl0 hN0 hGl0 hF0
 obtain ⟨k,v,L,m⟩:=gh; dsimp only at hF0 hN0 ⊢
 obtain ⟨hk,eL,em⟩:=hF0
 have lL:L.length=k:=by rw [eL,fix_len]
 refine .seq (.seq (rq7 rfl rfl (mV rfl rfl (mV rfl rfl (cp rfl .no (.u rfl) (.u rfl) rfl (mV rfl rfl (mv rfl (.t rfl rfl) (.u rfl) (cp rfl (.t rfl rfl) (.s rfl) (.u rfl) rfl (pkA rfl .no (.u rfl) (.s rfl) (.nil (.code (.cond rfl (fun c1=>?_) (fun c1=>?_)))))))))))))
 ·have c1k:=c1
  try simp only [qcA,qcC,qcB] at c1
  refine .skip (.code (.seq (.block (.seq (rq7 rfl rfl (mV rfl rfl (mV rfl rfl (mw (k:=.u64) (b:=256#64) rfl .no (.u rfl) (.u rfl) (fun _=>show (256#64:BitVec 64)≠0#64 by decide) ?_))))))))
  refine cu (k:=.u64) rfl .no rfl Fx.cv24_5 (.u rfl) ?_
  refine Go.Tan.b1 rfl Fx.se34 Fx.zv5 (.u rfl) rfl rfl (by decide) ?_; intro b20
  refine apY rfl Fx.se34 Fx.zv5 (.u rfl) (.u rfl) tk1 (Sc.one .here) (by show _+1≤_; omega) ?_
  intro v21 L21 ov21 eL21
  have lL21:L21.length=L.length+1:=by rw [eL21,List.length_append]; first|rfl | simp [yl_len]
  refine aS rfl rfl (.nil (.code (rq3 rfl rfl (mV rfl rfl (dw (k:=.u64) (b:=256#64) rfl .no rfl (.u rfl) (.u rfl) (fun _=>show (256#64:BitVec 64)≠0#64 by decide) ?_)))))
  refine aS rfl rfl (.nil (.blk (.code (rq3 rfl rfl (mV rfl rfl (arn (((k+1):Nat):Int) rfl .no (.u rfl) (.u rfl) rfl (fun _=>by omega) (fun _=>wrap_i64 (by omega) (by omega)) ?_))))))
  refine aS rfl rfl (.nil (We.lpo (k+1,v21,L21,m / 256#64) ?_ ?_ ?_ ?_ ?_))
  ·exact (esD rfl (esD rfl (esC rfl (by first|rfl|exact evi (by omega)) (esD rfl eZ))))
  ·exact (mS .here rfl mN)
  ·first|omega|(dsimp only; omega)
  ·exact hGl0
  refine ⟨?_,?_,?_⟩
  ·(try dsimp only)<;>(first|omega|rfl|assumption|(simp; done))
  ·(try dsimp only)<;>(rw [eL21,eL,em,fix_snoc,←byte_mod]; rfl)
  (try dsimp only)<;>(rw [em,div256,←BitVec.shiftRight_add]; rfl)
 have c1k:=c1
 try simp only [qcA,qcC,qcB] at c1
 refine .exit (.xcode (.xlp (.xblk (.code (.seq (rq2 rfl rfl (mV rfl rfl (aS rfl rfl (.nil (.code (.ret (We.fin Tryz.results51 (.tmp rfl .nil) (mS .here rfl mN) ?_))))))))))))
 obtain rfl:k=many:=by omega
 exact ⟨L,eL,rfl⟩
theorem crossed_ok (key:List Y) (h:Sh) (b:Y) (G:PM) (hs:SlR G 1 encY h key) (hR:RdNP G 0 0 (wa 64 kW)) (hl:key.length≤1000000000000):Ct Tryz.prog 155 ([h.val key.length,V b]:List Value).toArray G [] (PR 5 (fun L=>L=yl 64 (padF key b))):=by
 refine Ct.of Tryz.func155 rfl Tryz.ntmps155 rfl fun w0 hs0=>?_
 refine .seq (rq1 rfl rfl (aS rfl rfl (.nil (.code (.seq (rq2 rfl rfl (mV rfl rfl (aS rfl rfl (.nil (.code (.seq (.seq (rq3 rfl rfl (mV rfl rfl (ln rfl .no Fx.sn34 (.u rfl) (cp rfl .no (.u rfl) (.u rfl) rfl (.nil (.code (.cond rfl (fun c1=>?_) (fun c1=>?_))))))))))))))))))))
 ·have c1k:=c1
  try simp only [qcA,qcB] at c1
  have ek1:keyL key=shaL key:=by unfold keyL; rw [if_pos (by omega)]
  refine .seq (rq4 rfl rfl (mV rfl rfl (kv rfl .no Fx.go86 (Evc rfl Evn) (fun _=>rSum_ok key h _ hs hR hl) ?_)))
  refine al rfl Fx.zq23 ?_; intro b6
  refine sw rfl (.u rfl) (.u rfl) rfl Fx.sz23 .here (by first|exact qE|exact qL|rfl) (by first|exact ba_one _ _|exact wa_one _ _|exact one_V _|decide|exact one_app (wa_one _ _) (by simp [Value.oneCell'])) ?_
  refine .nil (.code ?_)
  refine wk_fz .here (by intro b hb; cases hb) ?_; intro Gfb6 hleb6 hbb6
  have hs:=hs.mono hleb6
  refine rq2 rfl rfl ?_
  refine kA rfl .no Fx.ar23 (.u rfl) hbb6 (by first|exact ba_all|exact app_l|exact app_r) ?_; intro h16 L16 eL16 lL16 hs16
  refine aS rfl rfl (.nil ?_)
  have ek1:keyL key=L16:=by rw [ek1,eL16]; rfl
  refine .code (.seq (rq1 rfl rfl (aS rfl rfl (.nil (.code (.seq (.seq (wk_nilB 5 ?_))))))))
  refine rq1 rfl rfl (aS rfl rfl (.nil (.code (.block ?_))))
  refine Wk.lop (α:=Nat×Value×List Y) (fun gh=>[(7,true,gh.2.1),(8,true,.int .i64 (gh.1:Int))]) (fun gh=>[rB gh.2.1 5 gh.2.2])
   (fun gh Gl=>(gh.1≤64)∧(gh.2.2=yl gh.1 (padF key b))) (fun gh=>64-gh.1) (0,.slice none 0 0,[]) [(1,true,_),(5,true,_)] []
   (esD rfl (esC rfl (by first|rfl|exact evi (by omega)) (esD rfl (esD rfl eZ))))
   (mS .here rfl mN) ?_ ?_
  ·refine ⟨?_,?_⟩
   ·(try dsimp only)<;>(first|omega|rfl|assumption|(simp; done))
   (try dsimp only)<;>(rfl)
  intro gh N0 Gl0 hN0 hGl0 hF0
  obtain ⟨k,v,M⟩:=gh; dsimp only at hF0 hN0 ⊢
  obtain ⟨hk,eM⟩:=hF0
  have hs:=hs.mono hGl0
  have hs16:=hs16.mono hGl0
  have lM:M.length=k:=by rw [eM,yl_len]
  refine .seq (.seq (rq2 rfl rfl (mV rfl rfl (cp rfl .no (.u rfl) (.u rfl) rfl (.nil (.code (.cond rfl (fun c2=>?_) (fun c2=>?_))))))))
  ·have c2k:=c2
   try simp only [qcA,qcB] at c2
   refine .skip (.code (.seq (.block (.seq (rq1 rfl rfl (aS rfl rfl (.nil (.code (.seq (.seq (rq4 rfl rfl (mV rfl rfl (mV rfl rfl (ln rfl .no Fx.sn34 (.u rfl) (cp rfl .no (.u rfl) (.u rfl) rfl (.nil (.code (.cond rfl (fun c3=>?_) (fun c3=>?_)))))))))))))))))))
   ·have c3k:=c3
    try simp only [qcA,qcB] at c3
    refine rq5 rfl rfl (mV rfl rfl (mV rfl rfl (ih rfl .no Fx.se34 (.u rfl) (.u rfl) (fun _=>by omega) (fun _=>by omega) (fun _=>hs16.nn (k:=k) (by omega)) ?_)))
    refine ld rfl .no Fx.ag5 (.u rfl) (fun _=>(hs16.yat (k) (by omega) (by omega)).rd) ?_
    refine aS rfl rfl (.nil (.code (rq7 rfl rfl (mV rfl rfl (mV rfl rfl (mV rfl rfl (bw (k:=.u8) rfl .no rfl (.u rfl) (.u rfl) rfl ?_)))))))
    refine Go.Tan.b1 rfl Fx.se34 Fx.zv5 (.u rfl) rfl rfl (by decide) ?_; intro b33
    refine apY rfl Fx.se34 Fx.zv5 (.u rfl) (.u rfl) tk1 (Sc.one .here) (by show _+1≤_; omega) ?_
    intro v34 L34 ov34 eL34
    have lL34:L34.length=M.length+1:=by rw [eL34,List.length_append]; first|rfl | simp [yl_len]
    refine aS rfl rfl (.nil (.blk (.code (rq3 rfl rfl (mV rfl rfl (arn (((k+1):Nat):Int) rfl .no (.u rfl) (.u rfl) rfl (fun _=>by omega) (fun _=>wrap_i64 (by omega) (by omega)) ?_))))))
    refine aS rfl rfl (.nil (We.lpo (k+1,v34,L34) ?_ ?_ ?_ ?_ ?_))
    ·exact (esD rfl (esC rfl (by first|rfl|exact evi (by omega)) (esD rfl (esD rfl eZ))))
    ·exact (mS .here rfl mN)
    ·first|omega|(dsimp only; omega)
    ·exact hGl0
    refine ⟨?_,?_⟩
    ·(try dsimp only)<;>(first|omega|rfl|assumption|(simp; done))
    (try dsimp only)<;>(rw [eL34,eM,yl_snoc,padF,ek1,if_pos (by omega),BitVec.xor_comm b]; rfl)
   have c3k:=c3
   try simp only [qcA,qcB] at c3
   refine .skip (.code (rq7 rfl rfl (mV rfl rfl (mV rfl rfl (mV rfl rfl (bw (k:=.u8) (a:=0#8) rfl .no rfl (.u rfl) (.u rfl) rfl ?_))))))
   refine Go.Tan.b1 rfl Fx.se34 Fx.zv5 (.u rfl) rfl rfl (by decide) ?_; intro b33
   refine apY rfl Fx.se34 Fx.zv5 (.u rfl) (.u rfl) tk1 (Sc.one .here) (by show _+1≤_; omega) ?_
   intro v34 L34 ov34 eL34
   have lL34:L34.length=M.length+1:=by rw [eL34,List.length_append]; first|rfl | simp [yl_len]
   refine aS rfl rfl (.nil (.blk (.code (rq3 rfl rfl (mV rfl rfl (arn (((k+1):Nat):Int) rfl .no (.u rfl) (.u rfl) rfl (fun _=>by omega) (fun _=>wrap_i64 (by omega) (by omega)) ?_))))))
   refine aS rfl rfl (.nil (We.lpo (k+1,v34,L34) ?_ ?_ ?_ ?_ ?_))
   ·exact (esD rfl (esC rfl (by first|rfl|exact evi (by omega)) (esD rfl (esD rfl eZ))))
   ·exact (mS .here rfl mN)
   ·first|omega|(dsimp only; omega)
   ·exact hGl0
   refine ⟨?_,?_⟩
   ·(try dsimp only)<;>(first|omega|rfl|assumption|(simp; done))
   (try dsimp only)<;>(rw [eL34,eM,yl_snoc,padF,ek1,if_neg (by omega)]; exact congrArg (fun z=>yl k (padF key b)++[z]) BitVec.zero_xor)
  have c2k:=c2
  try simp only [qcA,qcB] at c2
  refine .exit (.xcode (.xlp (.xblk (.code (.seq (rq2 rfl rfl (mV rfl rfl (aS rfl rfl (.nil (.code (.ret (We.fin Tryz.results155 (.tmp rfl .nil) (mS .here rfl mN) ?_))))))))))))
  obtain rfl:k=64:=by omega
  exact ⟨M,eM,rfl⟩
 have c1k:=c1
 try simp only [qcA,qcB] at c1
 have ek2:keyL key=key:=by unfold keyL; rw [if_neg (by omega)]
 refine .skip (.code (.seq (rq1 rfl rfl (aS rfl rfl (.nil (.code (.seq (.seq (wk_nilB 5 ?_)))))))))
 refine rq1 rfl rfl (aS rfl rfl (.nil (.code (.block ?_))))
 refine Wk.lop (α:=Nat×Value×List Y) (fun gh=>[(7,true,gh.2.1),(8,true,.int .i64 (gh.1:Int))]) (fun gh=>[rB gh.2.1 5 gh.2.2])
  (fun gh Gl=>(gh.1≤64)∧(gh.2.2=yl gh.1 (padF key b))) (fun gh=>64-gh.1) (0,.slice none 0 0,[]) [(1,true,_),(5,true,_)] []
  (esD rfl (esC rfl (by first|rfl|exact evi (by omega)) (esD rfl (esD rfl eZ))))
  (mS .here rfl mN) ?_ ?_
 ·refine ⟨?_,?_⟩
  ·(try dsimp only)<;>(first|omega|rfl|assumption|(simp; done))
  (try dsimp only)<;>(rfl)
 intro gh N1 Gl1 hN1 hGl1 hF1
 obtain ⟨k,v,M⟩:=gh; dsimp only at hF1 hN1 ⊢
 obtain ⟨hk,eM⟩:=hF1
 have hs:=hs.mono hGl1
 have lM:M.length=k:=by rw [eM,yl_len]
 refine .seq (.seq (rq2 rfl rfl (mV rfl rfl (cp rfl .no (.u rfl) (.u rfl) rfl (.nil (.code (.cond rfl (fun c4=>?_) (fun c4=>?_))))))))
 ·have c4k:=c4
  try simp only [qcA,qcB] at c4
  refine .skip (.code (.seq (.block (.seq (rq1 rfl rfl (aS rfl rfl (.nil (.code (.seq (.seq (rq4 rfl rfl (mV rfl rfl (mV rfl rfl (ln rfl .no Fx.sn34 (.u rfl) (cp rfl .no (.u rfl) (.u rfl) rfl (.nil (.code (.cond rfl (fun c5=>?_) (fun c5=>?_)))))))))))))))))))
  ·have c5k:=c5
   try simp only [qcA,qcB] at c5
   refine rq5 rfl rfl (mV rfl rfl (mV rfl rfl (ih rfl .no Fx.se34 (.u rfl) (.u rfl) (fun _=>by omega) (fun _=>by omega) (fun _=>hs.nn (k:=k) (by omega)) ?_)))
   refine ld rfl .no Fx.ag5 (.u rfl) (fun _=>(hs.yat (k) (by omega) (by omega)).rd) ?_
   refine aS rfl rfl (.nil (.code (rq7 rfl rfl (mV rfl rfl (mV rfl rfl (mV rfl rfl (bw (k:=.u8) rfl .no rfl (.u rfl) (.u rfl) rfl ?_)))))))
   refine Go.Tan.b1 rfl Fx.se34 Fx.zv5 (.u rfl) rfl rfl (by decide) ?_; intro b33
   refine apY rfl Fx.se34 Fx.zv5 (.u rfl) (.u rfl) tk1 (Sc.one .here) (by show _+1≤_; omega) ?_
   intro v34 L34 ov34 eL34
   have lL34:L34.length=M.length+1:=by rw [eL34,List.length_append]; first|rfl | simp [yl_len]
   refine aS rfl rfl (.nil (.blk (.code (rq3 rfl rfl (mV rfl rfl (arn (((k+1):Nat):Int) rfl .no (.u rfl) (.u rfl) rfl (fun _=>by omega) (fun _=>wrap_i64 (by omega) (by omega)) ?_))))))
   refine aS rfl rfl (.nil (We.lpo (k+1,v34,L34) ?_ ?_ ?_ ?_ ?_))
   ·exact (esD rfl (esC rfl (by first|rfl|exact evi (by omega)) (esD rfl (esD rfl eZ))))
   ·exact (mS .here rfl mN)
   ·first|omega|(dsimp only; omega)
   ·exact hGl1
   refine ⟨?_,?_⟩
   ·(try dsimp only)<;>(first|omega|rfl|assumption|(simp; done))
   (try dsimp only)<;>(rw [eL34,eM,yl_snoc,padF,ek2,if_pos (by omega),BitVec.xor_comm b]; rfl)
  have c5k:=c5
  try simp only [qcA,qcB] at c5
  refine .skip (.code (rq7 rfl rfl (mV rfl rfl (mV rfl rfl (mV rfl rfl (bw (k:=.u8) (a:=0#8) rfl .no rfl (.u rfl) (.u rfl) rfl ?_))))))
  refine Go.Tan.b1 rfl Fx.se34 Fx.zv5 (.u rfl) rfl rfl (by decide) ?_; intro b33
  refine apY rfl Fx.se34 Fx.zv5 (.u rfl) (.u rfl) tk1 (Sc.one .here) (by show _+1≤_; omega) ?_
  intro v34 L34 ov34 eL34
  have lL34:L34.length=M.length+1:=by rw [eL34,List.length_append]; first|rfl | simp [yl_len]
  refine aS rfl rfl (.nil (.blk (.code (rq3 rfl rfl (mV rfl rfl (arn (((k+1):Nat):Int) rfl .no (.u rfl) (.u rfl) rfl (fun _=>by omega) (fun _=>wrap_i64 (by omega) (by omega)) ?_))))))
  refine aS rfl rfl (.nil (We.lpo (k+1,v34,L34) ?_ ?_ ?_ ?_ ?_))
  ·exact (esD rfl (esC rfl (by first|rfl|exact evi (by omega)) (esD rfl (esD rfl eZ))))
  ·exact (mS .here rfl mN)
  ·first|omega|(dsimp only; omega)
  ·exact hGl1
  refine ⟨?_,?_⟩
  ·(try dsimp only)<;>(first|omega|rfl|assumption|(simp; done))
  (try dsimp only)<;>(rw [eL34,eM,yl_snoc,padF,ek2,if_neg (by omega)]; exact congrArg (fun z=>yl k (padF key b)++[z]) BitVec.zero_xor)
 have c4k:=c4
 try simp only [qcA,qcB] at c4
 refine .exit (.xcode (.xlp (.xblk (.code (.seq (rq2 rfl rfl (mV rfl rfl (aS rfl rfl (.nil (.code (.ret (We.fin Tryz.results155 (.tmp rfl .nil) (mS .here rfl mN) ?_))))))))))))
 obtain rfl:k=64:=by omega
 exact ⟨M,eM,rfl⟩
theorem rmacSum_ok (key:List Y) (hk:Sh) (xs:List Y) (hx:Sh) (G:PM) (hsk:SlR G 1 encY hk key) (hs:SlR G 1 encY hx xs) (hR:RdNP G 0 0 (wa 64 kW)) (hlk:key.length≤1000) (hl:xs.length≤900000000000):Ct Tryz.prog 139 ([hk.val key.length,hx.val xs.length]:List Value).toArray G [] (fun _ μ' u=>μ'=[]∧u=.agg (ba 32 (macL key xs)).toArray):=by
 refine Ct.of Tryz.func139 rfl Tryz.ntmps139 rfl fun w0 hs0=>?_
 refine .seq (rq1 rfl rfl ?_)
 refine al rfl Fx.zq23 ?_; intro b4
 refine .nil (.code (.seq (rq3 rfl rfl (mV rfl rfl (kc rfl Fx.go155 (Evc rfl (Evc rfl Evn)) (Ct.rowc (crossed_ok key hk 54#8 _ hsk hR (by omega))) ?_)))))
 rintro v9 G9 μ9 hG9 ⟨L9,ov9,eL9,rfl⟩
 have hsk:=hsk.mono hG9
 have hs:=hs.mono hG9
 have hR:=hR.mono hG9
 refine aS rfl rfl (.nil ?_)
 have lL9:L9.length=64:=by rw [eL9,yl_len]
 refine .code (.seq (rq4 rfl rfl (mV rfl rfl (mV rfl rfl (apY rfl Fx.se34 Fx.zv5 (.u rfl) (.u rfl) .here hs.sc (by (try simp only [qlA,yl_len]); omega) ?_)))))
 intro v12 L12 ov12 eL12
 have lL12:L12.length=L9.length+xs.length:=by rw [eL12,List.length_append]
 refine aS rfl rfl (.nil (.code (.seq ?_)))
 refine wk_fb .here (by first|(intro b hb; cases hb; done) | simp [keys,Res.keys]) ?_; intro GfR9 hR9 hleR9 evR9 hsR9; subst evR9
 have hsk:=hsk.mono hleR9
 have hR:=hR.mono hleR9
 refine rq4 rfl rfl (mV rfl rfl (kv rfl .no Fx.go86 (Evc rfl Evn) (fun _=>rSum_ok L12 _ _ hsR9 hR (by omega)) ?_))
 refine al rfl Fx.zq23 ?_; intro b6
 refine sw rfl (.u rfl) (.u rfl) rfl Fx.sz23 .here (by first|exact qE|exact qL|rfl) (by first|exact ba_one _ _|exact wa_one _ _|exact one_V _|decide|exact one_app (wa_one _ _) (by simp [Value.oneCell'])) ?_
 refine .nil (.code (.seq (rq3 rfl rfl (mV rfl rfl (kc rfl Fx.go155 (Evc rfl (Evc rfl Evn)) (Ct.rowc (crossed_ok key hk 92#8 _ hsk hR (by omega))) ?_)))))
 rintro v16 G16 μ16 hG16 ⟨L16,ov16,eL16,rfl⟩
 have hR:=hR.mono hG16
 refine aS rfl rfl (.nil ?_)
 have lL16:L16.length=64:=by rw [eL16,yl_len]
 refine .code (.seq (rq4 rfl rfl (mV rfl rfl (sa0 rfl .no Fx.ar23 (.u rfl) (apY rfl Fx.se34 Fx.zv5 (.u rfl) (.u rfl) .here (Sc.arr tk1) (by (try simp only [qlA,yl_len]); omega) ?_)))))
 intro v19 L19 ov19 eL19
 have lL19:L19.length=L16.length+32:=by rw [eL19,List.length_append]; first|rfl | simp [yl_len]
 refine aS rfl rfl (.nil (.code (.seq ?_)))
 refine wk_fb .here (by first|(intro b hb; cases hb; done) | simp [keys,Res.keys]) ?_; intro GfR16 hR16 hleR16 evR16 hsR16; subst evR16
 have hR:=hR.mono hleR16
 refine rq3 rfl rfl (mV rfl rfl (kv rfl .no Fx.go86 (Evc rfl Evn) (fun _=>rSum_ok L19 _ _ hsR16 hR (by omega)) ?_))
 refine sw rfl (.u rfl) (.u rfl) rfl Fx.sz23 tk1 (by first|exact qE|exact qL|rfl) (by first|exact ba_one _ _|exact wa_one _ _|exact one_V _|decide|exact one_app (wa_one _ _) (by simp [Value.oneCell'])) ?_
 refine .nil (.code (.ret (We.fin0 Tryz.results139 (.cell rfl (fun w hw=>run_loadVarN Fx.ag23 (RdN.own .here) ((by first|exact qE|exact qL|rfl)) hw) .nil) ?_)))
 exact ⟨rfl,by rw [eL19,eL16,eL12,eL9]; rfl⟩
theorem rTag_ok (enc mac nonce:Nat→Y) (ad:List Y) (ha:Sh) (xs:List Y) (hx:Sh) (G:PM) (hsa:SlR G 1 encY ha ad) (hsx:SlR G 1 encY hx xs) (hR:RdNP G 0 0 (wa 64 kW)) (hla:ad.length≤209715200000) (hl:xs.length≤209715200000):Ct Tryz.prog 118 ([.agg (ba 32 enc++ba 32 mac).toArray,.agg (ba 12 nonce).toArray,ha.val ad.length,hx.val xs.length]:List Value).toArray G [] (PR 5 (fun L=>L=yl 16 (tagF mac nonce ad xs))):=by
 refine Ct.of Tryz.func118 rfl Tryz.ntmps118 rfl fun w0 hs0=>?_
 refine .seq (rq3 rfl rfl ?_)
 refine bx rfl (.u rfl) rfl ?_; intro b4
 refine bx rfl (.u rfl) rfl ?_; intro b5
 refine aS rfl rfl (.nil (.code (.seq (rq5 rfl rfl (mV rfl rfl (ln rfl .no Fx.sn34 (.u rfl) (ci rfl .no rfl Fx.cv3_24 (.u rfl) ?_)))))))
 refine kc rfl Fx.go51 (Evc rfl (Evc rfl Evn)) (Ct.rowc (fFix_ok _ 8 _ (by decide))) ?_
 rintro v14 G14 μ14 hG14 ⟨L14,ov14,eL14,rfl⟩
 have hsa:=hsa.mono hG14
 have hsx:=hsx.mono hG14
 have hR:=hR.mono hG14
 refine aS rfl rfl (.nil ?_)
 have lL14:L14.length=8:=by rw [eL14]; exact fix_len _ 8
 refine .code (.seq (rq4 rfl rfl (mV rfl rfl (mV rfl rfl (apY rfl Fx.se34 Fx.zv5 (.u rfl) (.u rfl) .here hsa.sc (by (try simp only [qlA,yl_len]); omega) ?_)))))
 intro v17 L17 ov17 eL17
 have lL17:L17.length=L14.length+ad.length:=by rw [eL17,List.length_append]
 refine aS rfl rfl (.nil (.code (.seq (rq4 rfl rfl (mV rfl rfl (sa0 rfl .no Fx.ar125 (.u rfl) (apY rfl Fx.se34 Fx.zv5 (.u rfl) (.u rfl) .here (Sc.arr tk1) (by (try simp only [qlA,yl_len]); omega) ?_)))))))
 intro v20 L20 ov20 eL20
 have lL20:L20.length=L17.length+12:=by rw [eL20,List.length_append]; first|rfl | simp [yl_len]
 refine aS rfl rfl (.nil (.code (.seq (rq4 rfl rfl (mV rfl rfl (mV rfl rfl (apY rfl Fx.se34 Fx.zv5 (.u rfl) (.u rfl) .here hsx.sc (by (try simp only [qlA,yl_len]); omega) ?_)))))))
 intro v23 L23 ov23 eL23
 have lL23:L23.length=L20.length+xs.length:=by rw [eL23,List.length_append]
 refine aS rfl rfl (.nil (.code (.seq ?_)))
 refine wk_fz tk2 (by intro b hb; cases hb) ?_; intro Gfb4 hleb4 hbb4
 have hR:=hR.mono hleb4
 refine wk_fb .here (by first|(intro b hb; cases hb; done) | simp [keys,Res.keys]) ?_; intro GfR14 hR14 hleR14 evR14 hsR14; subst evR14
 have hR:=hR.mono hleR14
 have hbb4:=hbb4.mono hleR14
 refine rq6 rfl rfl (fa rfl .no Fx.fo65_1 (.u rfl) ?_)
 refine kA rfl .no Fx.ar22 (.u rfl) hbb4 (by first|exact ba_all|exact app_l|exact app_r) ?_; intro h25 L25 eL25 lL25 hs25
 refine mV rfl rfl (kv rfl .no Fx.go139 (Evc rfl (Evc rfl Evn)) (fun _=>rmacSum_ok L25 h25 L23 _ _ hs25 hsR14 hR (by omega) (by omega)) ?_)
 refine al rfl Fx.zq23 ?_; intro b10
 refine sw rfl (.u rfl) (.u rfl) rfl Fx.sz23 .here (by first|exact qE|exact qL|rfl) (by first|exact ba_one _ _|exact wa_one _ _|exact one_V _|decide|exact one_app (wa_one _ _) (by simp [Value.oneCell'])) ?_
 refine .nil (.code (.seq (rq4 rfl rfl ?_)))
 refine b0B rfl Fx.se34 ?_; intro b28
 refine sah rfl .no Fx.ar23 (.u rfl) (.u rfl) (fun _=>by first|decide|omega) (fun _=>by first|decide|omega) ?_
 skip
 refine apY0 rfl Fx.se34 Fx.zv5 (.u rfl) (.u rfl) .here (Sc.arrh tk1 (by decide)) (by (try simp only [qlA,yl_len]); omega) ?_
 intro v30 L30 _ ov30 eL30
 have lL30:L30.length=16:=by rw [eL30]; first|rfl | simp [yl_len]
 refine aS rfl rfl (.nil (.code (.ret (We.fin Tryz.results118 (.tmp rfl .nil) (mS .here rfl mN) ?_))))
 exact ⟨L30,by rw [eL30,eL23,eL20,eL17,eL14,eL25]; rfl,rfl⟩
theorem rtag_row (enc mac nonce:Nat→Y) (ad:List Y) (ha:Sh) (xs:List Y) (v:Value) (G:PM) (hsa:SlR G 1 encY ha ad) (hR:RdNP G 0 0 (wa 64 kW)) (hla:ad.length≤209715200000) (hl:xs.length≤209715200000):Ct Tryz.prog 118 ([.agg (ba 32 enc++ba 32 mac).toArray,.agg (ba 12 nonce).toArray,ha.val ad.length,v]:List Value).toArray G [rB v 5 xs] (fun _ μ' u=>∃ ν,μ'=rB v 5 xs :: ν∧∃ L,L=yl 16 (tagF mac nonce ad xs)∧ν=[rB u 5 L]) :=
 Ct.lendB (fun hx G2 hle hv hs=>by subst hv; exact rTag_ok enc mac nonce ad ha xs hx G2 (hsa.mono hle) hs (hR.mono hle) hla hl)
theorem rCross_row (key nonce:Nat→Y) (count:W) (h:Sh) (xs:List Y) (G:PM) (hs:SlR G 1 encY h xs) (hl:xs.length≤140737488351232):Ct Tryz.prog 117 ([.agg (ba 32 key).toArray,.agg (ba 12 nonce).toArray,U count,h.val xs.length]:List Value).toArray G [] (PR 5 (fun L=>L=crossL key nonce count xs)):=by
 refine Ct.of Tryz.func117 rfl Tryz.ntmps117 rfl fun w0 hs0=>?_
 refine .seq (rq3 rfl rfl ?_)
 refine bx rfl (.u rfl) rfl ?_; intro b4
 refine bx rfl (.u rfl) rfl ?_; intro b5
 refine aS rfl rfl (.nil (.code (.seq (rq1 rfl rfl (aS rfl rfl (.nil (.code (.seq (rq1 rfl rfl ?_)))))))))
 refine al rfl Fx.zq188 ?_; intro b10
 refine .nil (.code (.seq (.seq (rq1 rfl rfl (aS rfl rfl (.nil (.code (.block (wk_nilRow 5 1 ?_)))))))))
 refine Wk.lop (α:=Nat×Value) (fun gh=>[(9,true,gh.2),(11,true,.int .i64 (gh.1:Int))]) (fun gh=>[.row gh.2 5 1 gh.1 (ba gh.1 (crF key nonce count xs)),.blk b10 (cl (ba 64 (nowF key nonce count gh.1)) 188)])
  (fun gh Gl=>gh.1≤xs.length) (fun gh=>xs.length-gh.1) (0,.slice none 0 0) [(2,true,_),(3,true,_),(4,true,_),(5,true,_),(10,true,_)] [.blk b5 _,.blk b4 _]
  (esD rfl (esD rfl (esD rfl (esD rfl (esD rfl (esD rfl (esD rfl eZ)))))))
  (mS .here rfl (mS .here rfl (mS .here rfl (mS .here rfl mN)))) ?_ ?_
 ·show 0≤xs.length; omega
 intro gh N0 Gl0 hN0 hGl0 hF0
 obtain ⟨k,v⟩:=gh; dsimp only at hF0 hN0 ⊢
 have hk:k≤xs.length:=hF0
 refine .seq (.seq (rq4 rfl rfl (mV rfl rfl (mV rfl rfl (ln rfl .no Fx.sn34 (.u rfl) (cp rfl .no (.u rfl) (.u rfl) rfl (.nil (.code (.cond rfl (fun c1=>?_) (fun c1=>?_))))))))))
 ·have c1k:=c1
  try simp only [qcA] at c1
  refine .skip (.code (.seq (.block (.seq (.seq (rq3 rfl rfl (mV rfl rfl (rm rfl .no (.u rfl) (.u rfl) (fun _=>by decide) ?_))))))))
  refine cp rfl .no (.u rfl) (.u rfl) rfl (.nil (.code (.cond rfl (fun c2=>?_) (fun c2=>?_))))
  ·have c2k:=c2
   try simp only [qcA] at c2
   refine rq9 rfl rfl (lA rfl .no Fx.ag22 (.u rfl) (fun _=>RdN.own tk3) (fun _=>rfl) ?_)
   refine lA rfl .no Fx.ag124 (.u rfl) (fun _=>RdN.own tk2) (fun _=>rfl) ?_
   refine mV rfl rfl (mV rfl rfl (qu rfl .no (.u rfl) (.u rfl) (fun _=>by decide) ?_))
   refine ci rfl .no rfl Fx.cv3_139 (.u rfl) ?_
   refine bw (k:=.u32) rfl .no rfl (.u rfl) (.u rfl) rfl (kv rfl .no Fx.go138 (Evc rfl (Evc rfl (Evc rfl Evn))) (fun _=>rBlock_ok _ _ _ _) ?_)
   refine sw rfl (.u rfl) (.u rfl) rfl Fx.sz188 tk1 ((ba_len _ _).trans (ba_len _ _).symm) (ba_one _ _) ?_
   refine .nil ?_
   simp only [qd64 (x:=(k:Int)) k rfl (by omega),BitVec.ofInt_natCast]
   refine .code (Wk.draw (mc:=⟨false,false⟩) [0,1,2,3,4,5,6,7,8,9,10,11,12] Fx.mix (by kernel_rfl) ?_)
   refine mV rfl rfl (mV rfl rfl (mV rfl rfl (ih rfl .no Fx.se34 (.u rfl) (.u rfl) (fun _=>by omega) (fun _=>by omega) (fun _=>hs.nn (k:=k) (by omega)) ?_)))
   refine ld rfl .no Fx.ag5 (.u rfl) (fun _=>((hs.mono hGl0).yat k (by omega) (by omega)).rd) ?_
   refine mV rfl rfl (rm rfl .no (.u rfl) (.u rfl) (fun _=>by decide) ?_)
   refine iA rfl .no Fx.ar188 (.u rfl) (.u rfl) (fun _=>by rw [tm64 k rfl]; omega) (fun _=>by rw [tm64 k rfl]; omega) ?_
   refine ld rfl .no Fx.ag5 (.u rfl) (fun _=>Rd.own .here (ba_at1 (k%64) (by rw [tm64 k rfl]; omega) (by omega))) ?_
   refine bw (k:=.u8) rfl .no rfl (.u rfl) (.u rfl) rfl ?_
   refine Go.Tan.b1 rfl Fx.se34 Fx.zv5 (.u rfl) rfl rfl (by decide) ?_; intro b39
   refine ap rfl Fx.se34 Fx.zv5 rfl (.u rfl) (.u rfl) tk2 (rfl) (fun _=>⟨_,_,rfl,RdN.own .here⟩) (fun u hu=>by rw [List.mem_singleton.1 hu]; rfl) (by omega) (by unfold maxLen; omega) ?_; intro v40
   refine aS rfl rfl (.nil (.blk (.code (rq3 rfl rfl (mV rfl rfl (ar rfl .no (.u rfl) (.u rfl) rfl (fun _=>wrap_i64 (by omega) (by omega)) ?_))))))
   refine aS rfl rfl (.nil (We.lpo (k+1,v40) ?_ ?_ ?_ ?_ ?_))
   ·exact (esD rfl (esD rfl (esD rfl (esD rfl (esD rfl (esD rfl (esD rfl eZ)))))))
   ·exact (mS .here (cr_row rfl) (mS tk1 rfl (mS tk1 rfl (mS tk1 rfl mN))))
   ·first|omega|(dsimp only; omega)
   ·exact hGl0
   show k+1≤xs.length; omega
  have c2k:=c2
  try simp only [qcA] at c2
  refine .skip (.code (Wk.draw (mc:=⟨false,false⟩) [0,1,2,3,4,5,6,7,8,9,10,11,12] Fx.mix (by kernel_rfl) ?_))
  refine mV rfl rfl (mV rfl rfl (mV rfl rfl (ih rfl .no Fx.se34 (.u rfl) (.u rfl) (fun _=>by omega) (fun _=>by omega) (fun _=>hs.nn (k:=k) (by omega)) ?_)))
  refine ld rfl .no Fx.ag5 (.u rfl) (fun _=>((hs.mono hGl0).yat k (by omega) (by omega)).rd) ?_
  refine mV rfl rfl (rm rfl .no (.u rfl) (.u rfl) (fun _=>by decide) ?_)
  refine iA rfl .no Fx.ar188 (.u rfl) (.u rfl) (fun _=>by rw [tm64 k rfl]; omega) (fun _=>by rw [tm64 k rfl]; omega) ?_
  refine ld rfl .no Fx.ag5 (.u rfl) (fun _=>Rd.own tk1 (ba_at1 (k%64) (by rw [tm64 k rfl]; omega) (by omega))) ?_
  refine bw (k:=.u8) rfl .no rfl (.u rfl) (.u rfl) rfl ?_
  refine Go.Tan.b1 rfl Fx.se34 Fx.zv5 (.u rfl) rfl rfl (by decide) ?_; intro b39
  refine ap rfl Fx.se34 Fx.zv5 rfl (.u rfl) (.u rfl) tk1 (rfl) (fun _=>⟨_,_,rfl,RdN.own .here⟩) (fun u hu=>by rw [List.mem_singleton.1 hu]; rfl) (by omega) (by unfold maxLen; omega) ?_; intro v40
  refine aS rfl rfl (.nil (.blk (.code (rq3 rfl rfl (mV rfl rfl (ar rfl .no (.u rfl) (.u rfl) rfl (fun _=>wrap_i64 (by omega) (by omega)) ?_))))))
  refine aS rfl rfl (.nil (We.lpo (k+1,v40) ?_ ?_ ?_ ?_ ?_))
  ·exact (esD rfl (esD rfl (esD rfl (esD rfl (esD rfl (esD rfl (esD rfl eZ)))))))
  ·exact (mS .here (cr_row (nowF_step c2k)) (mS tk1 (by rw [nowF_step c2k]; rfl) (mS tk1 rfl (mS tk1 rfl mN))))
  ·first|omega|(dsimp only; omega)
  ·exact hGl0
  show k+1≤xs.length; omega
 have c1k:=c1
 try simp only [qcA] at c1
 refine .exit (.xcode (.xlp (.xblk (.code (.seq (rq2 rfl rfl (mV rfl rfl (aS rfl rfl (.nil (.code (.ret ?_)))))))))))
 obtain rfl:k=xs.length:=by omega
 refine We.fin Tryz.results117 (.tmp rfl .nil) (mS .here rfl mN) ?_
 exact ⟨crossL key nonce count xs,rfl,by simp only [rB,crossL,yl_len,yl_V]; rfl⟩
theorem rSeal_ok (enc mac nonce:Nat→Y) (ad:List Y) (ha:Sh) (xs:List Y) (hx:Sh) (G:PM) (hsa:SlR G 1 encY ha ad) (hsx:SlR G 1 encY hx xs) (hR:RdNP G 0 0 (wa 64 kW)) (hla:ad.length≤209715200000) (hl:xs.length≤209715200000):Ct Tryz.prog 83 ([.agg (ba 32 enc++ba 32 mac).toArray,.agg (ba 12 nonce).toArray,ha.val ad.length,hx.val xs.length]:List Value).toArray G [] (PR 5 (fun L=>L=sealL enc mac nonce ad xs)):=by
 refine Ct.of Tryz.func83 rfl Tryz.ntmps83 rfl fun w0 hs0=>?_
 refine .seq (rq3 rfl rfl ?_)
 refine bx rfl (.u rfl) rfl ?_; intro b4
 refine bx rfl (.u rfl) rfl ?_; intro b5
 refine aS rfl rfl (.nil (.code (.seq (rq6 rfl rfl (fz rfl .no Fx.fo65_0 (.u rfl) (lA rfl .no Fx.ag22 (.u rfl) (fun _=>RdN.part (n:=32) (cs':=ba 32 enc) tk1 (app_l)) (fun _=>(by first|exact qE|exact qL|rfl)) ?_))))))
 refine lA rfl .no Fx.ag125 (.u rfl) (fun _=>RdN.own .here) (fun _=>(by first|exact qE|exact qL|rfl)) ?_
 refine mV rfl rfl (kc rfl Fx.go117 (Evc rfl (Evc rfl (Evc rfl (Evc rfl Evn)))) (Ct.rowc (rCross_row enc nonce 1#32 hx xs _ hsx (by omega))) ?_)
 rintro v15 G15 μ15 hG15 ⟨L15,ov15,eL15,rfl⟩
 have hsa:=hsa.mono hG15
 have hR:=hR.mono hG15
 refine aS rfl rfl (.nil (.code (.seq (rq6 rfl rfl ?_))))
 have lL15:L15.length=xs.length:=by rw [eL15,cross_len]
 refine lA rfl .no Fx.ag65 (.u rfl) (fun _=>RdN.own tk2) (fun _=>(by first|exact qE|exact qL|rfl)) ?_
 refine lA rfl .no Fx.ag125 (.u rfl) (fun _=>RdN.own tk1) (fun _=>(by first|exact qE|exact qL|rfl)) ?_
 refine mV rfl rfl (mV rfl rfl (ka rfl (.inr rfl) Fx.go118 (Evc rfl (Evc rfl (Evc rfl (Evc rfl Evn)))) (mtk1 .here) (rtag_row enc mac nonce ad ha L15 _ _ hsa hR hla (by omega)) ?_))
 rintro v20 G20 μ20 hG20 ⟨_,rfl,L20,eL20,rfl⟩
 refine aS rfl rfl (.nil ?_)
 have lL20:L20.length=16:=by rw [eL20,yl_len]
 refine .code (.seq ?_)
 refine wk_fb tk1 (by first|(intro b hb; cases hb; done) | simp [keys,Res.keys]) ?_; intro GfR20 hR20 hleR20 evR20 hsR20; subst evR20
 refine rq4 rfl rfl (mV rfl rfl (mV rfl rfl (apY rfl Fx.se34 Fx.zv5 (.u rfl) (.u rfl) .here hsR20.sc (by (try simp only [qlA,yl_len]); omega) ?_)))
 intro v23 L23 ov23 eL23
 have lL23:L23.length=L15.length+L20.length:=by rw [eL23,List.length_append]
 refine aS rfl rfl (.nil (.code (.seq (rq2 rfl rfl (mV rfl rfl (aS rfl rfl (.nil (.code (.ret (We.fin Tryz.results83 (.tmp rfl .nil) (mS .here rfl mN) ?_))))))))))
 exact ⟨L23,by rw [eL23,eL20,eL15]; rfl,rfl⟩
namespace Fx
theorem go144:goFn Tryz.prog 144=true:=by kernel_rfl
theorem go126:goFn Tryz.prog 126=true:=by kernel_rfl
theorem go143:goFn Tryz.prog 143=true:=by kernel_rfl
end Fx
theorem nibble_ok (x:W) (G:PM):Ct Tryz.prog 144 ([U x]:List Value).toArray G [] (fun _ μ' u=>μ'=[]∧u=U (hIt 4 x)):=by
 refine Ct.of Tryz.func144 rfl Tryz.ntmps144 rfl fun w0 hs0=>?_
 refine .seq (rq1 rfl rfl (aS rfl rfl (.nil (.code (.seq (.seq (rq1 rfl rfl (mV rfl rfl (.nil (.code (.block ?_)))))))))))
 refine Wk.lop (α:=Nat×W) (fun gh=>[(0,true,U gh.2),(3,true,.int .i64 (gh.1:Int))]) (fun _=>[])
  (fun gh Gl=>(gh.1≤4)∧(gh.2=hIt gh.1 x)) (fun gh=>4-gh.1) (0,x) [] []
  (esD rfl (esC rfl (by first|rfl|exact evi (by omega)) eZ))
  mN ?_ ?_
 ·refine ⟨?_,?_⟩
  ·(try dsimp only)<;>(first|omega|rfl|assumption|(simp; done))
  (try dsimp only)<;>(first|omega|rfl|assumption|(simp; done))
 intro gh N0 Gl0 hN0 hGl0 hF0
 obtain ⟨k,y⟩:=gh; dsimp only at hF0 hN0 ⊢
 obtain ⟨hk,ey⟩:=hF0
 refine .seq (rq1 rfl rfl (cp rfl .no (.u rfl) (.u rfl) rfl (.nil (.code (.seq (.cond rfl (fun c1=>?_) (fun c1=>?_)))))))
 ·have c1k:=c1
  try simp only [qcA,qcB] at c1
  refine .skip (.code (.seq (.block (rq8 rfl rfl (mV rfl rfl (rw' (k:=.u32) rfl .no (.u rfl) (.u rfl) (fun _=>by decide) ?_))))))
  refine mV rfl rfl (bw (k:=.u32) (b:=1#32) rfl .no rfl (.u rfl) (.u rfl) rfl (nw (k:=.u32) rfl .no rfl (.u rfl) ?_))
  refine bw (k:=.u32) (a:=2197175160#32) rfl .no rfl (.u rfl) (.u rfl) rfl (bw (k:=.u32) rfl .no rfl (.u rfl) (.u rfl) rfl (aS rfl rfl (.nil (.blk (.code (rq2 rfl rfl (arn (((k+1):Nat):Int) rfl .no (.u rfl) (.u rfl) rfl (fun _=>by omega) (fun _=>wrap_i64 (by omega) (by omega)) ?_)))))))
  refine mV rfl rfl (.nil (We.lpo (k+1,halfW y) ?_ ?_ ?_ ?_ ?_))
  ·exact (esD rfl (esC rfl (by first|rfl|exact evi (by omega)) eZ))
  ·exact mN
  ·first|omega|(dsimp only; omega)
  ·exact hGl0
  refine ⟨?_,?_⟩
  ·(try dsimp only)<;>(first|omega|rfl|assumption|(simp; done))
  (try dsimp only)<;>(rw [ey]; rfl)
 have c1k:=c1
 try simp only [qcA,qcB] at c1
 refine .exit (.xcode (.xlp (.xblk (.code (.seq (rq2 rfl rfl (mV rfl rfl (aS rfl rfl (.nil (.code (.ret (We.fin0 Tryz.results144 (.tmp rfl .nil) ?_))))))))))))
 obtain rfl:k=4:=by omega
 exact ⟨rfl,by rw [ey]; rfl⟩
theorem crcMore_ok (sum:W) (xs:List Y) (h:Sh) (G:PM) (hs:SlR G 1 encY h xs) (hl:xs.length≤9000000000000000000):Ct Tryz.prog 126 ([U sum,h.val xs.length]:List Value).toArray G [] (fun _ μ' u=>μ'=[]∧u=U (crcW sum xs)):=by
 refine Ct.of Tryz.func126 rfl Tryz.ntmps126 rfl fun w0 hs0=>?_
 refine .seq (rq1 rfl rfl (aS rfl rfl (.nil (.code (.seq (rq3 rfl rfl (mV rfl rfl (xw (k:=.u32) rfl .no rfl (.u rfl) ?_))))))))
 refine aS rfl rfl (.nil (.code (.seq (.seq (rq3 rfl rfl (mV rfl rfl (ln rfl .no Fx.sn34 (.u rfl) (mV rfl rfl (.nil (.code (.block ?_)))))))))))
 refine Wk.lop (α:=Nat×W) (fun gh=>[(5,true,U gh.2),(12,true,.int .i64 (gh.1:Int))]) (fun _=>[])
  (fun gh Gl=>(gh.1≤xs.length)∧(gh.2=(xs.take gh.1).foldl crcB (~~~sum))) (fun gh=>xs.length-gh.1) (0, ~~~sum) [(10,true,_),(11,true,_)] []
  (esD rfl (esC rfl (by first|rfl|exact evi (by omega)) (esD rfl (esD rfl eZ))))
  mN ?_ ?_
 ·refine ⟨?_,?_⟩
  ·(try dsimp only)<;>(first|omega|rfl|assumption|(simp; done))
  (try dsimp only)<;>(first|omega|rfl|assumption|(simp; done))
 intro gh N0 Gl0 hN0 hGl0 hF0
 obtain ⟨k,x⟩:=gh; dsimp only at hF0 hN0 ⊢
 obtain ⟨hk,ex⟩:=hF0
 have hs:=hs.mono hGl0
 refine .seq (rq1 rfl rfl (cp rfl .no (.u rfl) (.u rfl) rfl (.nil (.code (.seq (.cond rfl (fun c1=>?_) (fun c1=>?_)))))))
 ·have c1k:=c1
  try simp only [qcA,qcB] at c1
  refine .skip (.code (.seq (.block (.seq (rq3 rfl rfl (ih rfl .no Fx.se34 (.u rfl) (.u rfl) (fun _=>by omega) (fun _=>by omega) (fun _=>hs.nn (k:=k) (by omega)) ?_))))))
  refine ld rfl .no Fx.ag5 (.u rfl) (fun _=>(hs.yat (k) (by omega) (by omega)).rd) ?_
  refine aS rfl rfl (.nil (.code (rq7 rfl rfl (mV rfl rfl (mV rfl rfl (cu (k:=.u8) rfl .no rfl Fx.cv5_139 (.u rfl) ?_))))))
  refine bw (k:=.u32) rfl .no rfl (.u rfl) (.u rfl) rfl (kv rfl .no Fx.go144 (Evc rfl Evn) (fun _=>nibble_ok _ _) ?_)
  refine kv rfl .no Fx.go144 (Evc rfl Evn) (fun _=>nibble_ok _ _) ?_
  refine aS rfl rfl (.nil (.blk (.code (rq2 rfl rfl (arn (((k+1):Nat):Int) rfl .no (.u rfl) (.u rfl) rfl (fun _=>by omega) (fun _=>wrap_i64 (by omega) (by omega)) ?_)))))
  refine mV rfl rfl (.nil (We.lpo (k+1,hIt 4 (hIt 4 (x ^^^ (xs.getD k 0).setWidth 32))) ?_ ?_ ?_ ?_ ?_))
  ·exact (esD rfl (esC rfl (by first|rfl|exact evi (by omega)) (esD rfl (esD rfl eZ))))
  ·exact mN
  ·first|omega|(dsimp only; omega)
  ·exact hGl0
  refine ⟨?_,?_⟩
  ·(try dsimp only)<;>(first|omega|rfl|assumption|(simp; done))
  (try dsimp only)<;>(rw [fold_take (by omega),←ex,hIt_add]; rfl)
 have c1k:=c1
 try simp only [qcA,qcB] at c1
 refine .exit (.xcode (.xlp (.xblk (.code (.seq (rq3 rfl rfl (mV rfl rfl (xw (k:=.u32) rfl .no rfl (.u rfl) ?_))))))))
 refine aS rfl rfl (.nil (.code (.ret (We.fin0 Tryz.results126 (.tmp rfl .nil) ?_))))
 obtain rfl:k=xs.length:=by omega
 exact ⟨rfl,by rw [ex,List.take_length]; rfl⟩
theorem crcSum_ok (ps:List (Sh×List Y)) (h:Sh) (G:PM) (hs:SlP G h ps) (hl:(catL ps).length≤9000000000000000000) (hn:ps.length≤1000):Ct Tryz.prog 99 ([h.val ps.length]:List Value).toArray G [] (fun _ μ' u=>μ'=[]∧u=U (crcW 0#32 (catL ps))):=by
 refine Ct.of Tryz.func99 rfl Tryz.ntmps99 rfl fun w0 hs0=>?_
 refine .seq (rq1 rfl rfl (aS rfl rfl (.nil (.code (.seq (rq1 rfl rfl (aS rfl rfl (.nil (.code (.seq (.seq (rq3 rfl rfl (mV rfl rfl (ln rfl .no Fx.sn53 (.u rfl) (mV rfl rfl (.nil (.code (.block ?_))))))))))))))))))
 refine Wk.lop (α:=Nat×W) (fun gh=>[(3,true,U gh.2),(8,true,.int .i64 (gh.1:Int))]) (fun _=>[])
  (fun gh Gl=>(gh.1≤ps.length)∧(gh.2=crcW 0#32 (catL (ps.take gh.1)))) (fun gh=>ps.length-gh.1) (0,0#32) [(6,true,_),(7,true,_)] []
  (esD rfl (esC rfl (by first|rfl|exact evi (by omega)) (esD rfl (esD rfl eZ))))
  mN ?_ ?_
 ·refine ⟨?_,?_⟩
  ·(try dsimp only)<;>(first|omega|rfl|assumption|(simp; done))
  (try dsimp only)<;>(simp [catL,crc_nil])
 intro gh N0 Gl0 hN0 hGl0 hF0
 obtain ⟨k,x⟩:=gh; dsimp only at hF0 hN0 ⊢
 obtain ⟨hk,ex⟩:=hF0
 have hs:=hs.mono hGl0
 refine .seq (rq1 rfl rfl (cp rfl .no (.u rfl) (.u rfl) rfl (.nil (.code (.seq (.cond rfl (fun c1=>?_) (fun c1=>?_)))))))
 ·have c1k:=c1
  try simp only [qcA,qcB] at c1
  refine .skip (.code (.seq (.block (.seq (rq3 rfl rfl (ih rfl .no Fx.se53 (.u rfl) (.u rfl) (fun _=>by omega) (fun _=>by omega) (fun _=>hs.sl.nn (k:=k) (by omega)) ?_))))))
  obtain ⟨p11,ep11⟩:=getx (k:=k) (xs:=ps) (by omega)
  have hq11:=hs.get ep11
  refine ld rfl .no Fx.ag34 (.u rfl) (fun _=>(hs.at (k) (by omega) ep11).rd) ?_
  refine aS rfl rfl (.nil (.code (rq4 rfl rfl (mV rfl rfl (mV rfl rfl (kv rfl .no Fx.go126 (Evc rfl (Evc rfl Evn)) (fun _=>crcMore_ok _ p11.2 _ _ hq11 (by have:=cat_len ep11; omega)) ?_))))))
  refine aS rfl rfl (.nil (.blk (.code (rq2 rfl rfl (arn (((k+1):Nat):Int) rfl .no (.u rfl) (.u rfl) rfl (fun _=>by omega) (fun _=>wrap_i64 (by omega) (by omega)) ?_)))))
  refine mV rfl rfl (.nil (We.lpo (k+1,crcW x p11.2) ?_ ?_ ?_ ?_ ?_))
  ·exact (esD rfl (esC rfl (by first|rfl|exact evi (by omega)) (esD rfl (esD rfl eZ))))
  ·exact mN
  ·first|omega|(dsimp only; omega)
  ·exact hGl0
  refine ⟨?_,?_⟩
  ·(try dsimp only)<;>(first|omega|rfl|assumption|(simp; done))
  (try dsimp only)<;>(rw [ex,crc_app,cat_take ep11])
 have c1k:=c1
 try simp only [qcA,qcB] at c1
 refine .exit (.xcode (.xlp (.xblk (.code (.seq (rq2 rfl rfl (mV rfl rfl (aS rfl rfl (.nil (.code (.ret (We.fin0 Tryz.results99 (.tmp rfl .nil) ?_))))))))))))
 obtain rfl:k=ps.length:=by omega
 exact ⟨rfl,by rw [ex,List.take_length]; rfl⟩
theorem rhalf_ok (x:W) (G:PM):Ct Tryz.prog 143 ([U x]:List Value).toArray G [] (fun _ μ' u=>μ'=[]∧u=U (halfW x)):=by
 refine Ct.of Tryz.func143 rfl Tryz.ntmps143 rfl fun w0 hs0=>?_
 refine .seq (rq1 rfl rfl (aS rfl rfl (.nil (.code (.seq (.seq (rq3 rfl rfl (mV rfl rfl (mw (k:=.u32) (b:=2#32) rfl .no (.u rfl) (.u rfl) (fun _=>show (2#32:BitVec 32)≠0#32 by decide) ?_)))))))))
 refine cp rfl .no (.u rfl) (.u rfl) rfl (.nil (.code (.cond rfl (fun c1=>?_) (fun c1=>?_))))
 ·have c1k:=c1
  try simp only [qcA,qcB] at c1
  refine .seq (rq4 rfl rfl (mV rfl rfl (dw (k:=.u32) (b:=2#32) rfl .no rfl (.u rfl) (.u rfl) (fun _=>show (2#32:BitVec 32)≠0#32 by decide) ?_)))
  refine bw (k:=.u32) (b:=2197175160#32) rfl .no rfl (.u rfl) (.u rfl) rfl (aS rfl rfl (.nil (.code (.ret (We.fin0 Tryz.results143 (.tmp rfl .nil) ?_)))))
  exact ⟨rfl,congrArg (fun z=>tup [uv .u32 z]) (half_odd (odd_of c1))⟩
 have c1k:=c1
 try simp only [qcA,qcB] at c1
 refine .skip (.code (.seq (rq3 rfl rfl (mV rfl rfl (dw (k:=.u32) (b:=2#32) rfl .no rfl (.u rfl) (.u rfl) (fun _=>show (2#32:BitVec 32)≠0#32 by decide) ?_)))))
 refine aS rfl rfl (.nil (.code (.ret (We.fin0 Tryz.results143 (.tmp rfl .nil) ?_))))
 exact ⟨rfl,congrArg (fun z=>tup [uv .u32 z]) (half_even (fun e=>c1 (odd_to e)))⟩
theorem rcrcMore_ok (sum:W) (xs:List Y) (h:Sh) (G:PM) (hs:SlR G 1 encY h xs) (hl:xs.length≤9000000000000000000):Ct Tryz.prog 122 ([U sum,h.val xs.length]:List Value).toArray G [] (fun _ μ' u=>μ'=[]∧u=U (crcW sum xs)):=by
 refine Ct.of Tryz.func122 rfl Tryz.ntmps122 rfl fun w0 hs0=>?_
 refine .seq (rq1 rfl rfl (aS rfl rfl (.nil (.code (.seq (rq3 rfl rfl (mV rfl rfl (bw (k:=.u32) (a:=4294967295#32) rfl .no rfl (.u rfl) (.u rfl) rfl (aS rfl rfl (.nil (.code (.seq (.seq (rq1 rfl rfl (aS rfl rfl (.nil (.code (.block ?_))))))))))))))))))
 refine Wk.lop (α:=Nat×W) (fun gh=>[(5,true,U gh.2),(6,true,.int .i64 (gh.1:Int))]) (fun _=>[])
  (fun gh Gl=>(gh.1≤xs.length)∧(gh.2=(xs.take gh.1).foldl crcB (~~~sum))) (fun gh=>xs.length-gh.1) (0,4294967295#32-sum) [(1,true,_)] []
  (esD rfl (esC rfl (by first|rfl|exact evi (by omega)) (esD rfl eZ)))
  mN ?_ ?_
 ·refine ⟨?_,?_⟩
  ·(try dsimp only)<;>(first|omega|rfl|assumption|(simp; done))
  (try dsimp only)<;>(exact not_sub sum)
 intro gh N0 Gl0 hN0 hGl0 hF0
 obtain ⟨k,x⟩:=gh; dsimp only at hF0 hN0 ⊢
 obtain ⟨hk,ex⟩:=hF0
 have hs:=hs.mono hGl0
 refine .seq (.seq (rq4 rfl rfl (mV rfl rfl (mV rfl rfl (ln rfl .no Fx.sn34 (.u rfl) (cp rfl .no (.u rfl) (.u rfl) rfl (.nil (.code (.cond rfl (fun c1=>?_) (fun c1=>?_))))))))))
 ·have c1k:=c1
  try simp only [qcA,qcB] at c1
  refine .skip (.code (.seq (.block (.seq (rq8 rfl rfl (mV rfl rfl (mV rfl rfl (mV rfl rfl (ih rfl .no Fx.se34 (.u rfl) (.u rfl) (fun _=>by omega) (fun _=>by omega) (fun _=>hs.nn (k:=k) (by omega)) ?_)))))))))
  refine ld rfl .no Fx.ag5 (.u rfl) (fun _=>(hs.yat (k) (by omega) (by omega)).rd) ?_
  refine cu (k:=.u8) rfl .no rfl Fx.cv5_139 (.u rfl) ?_
  refine bw (k:=.u32) rfl .no rfl (.u rfl) (.u rfl) rfl (aS rfl rfl (.nil (.code (.seq (rq1 rfl rfl (aS rfl rfl (.nil (.code (.block ?_)))))))))
  refine Wk.lop (α:=Nat×W) (fun gh=>[(5,true,U gh.2),(7,true,.int .i64 (gh.1:Int))]) (fun _=>[])
   (fun gh Gl=>(gh.1≤8)∧(gh.2=hIt gh.1 (x ^^^ (xs.getD k 0).setWidth 32))) (fun gh=>8-gh.1) (0,x ^^^ (xs.getD k 0).setWidth 32) [(1,true,_),(6,true,_)] []
   (esD rfl (esC rfl (by first|rfl|exact evi (by omega)) (esD rfl (esD rfl eZ))))
   mN ?_ ?_
  ·refine ⟨?_,?_⟩
   ·(try dsimp only)<;>(first|omega|rfl|assumption|(simp; done))
   (try dsimp only)<;>(first|omega|rfl|assumption|(simp; done))
  intro gh N1 Gl1 hN1 hGl1 hF1
  obtain ⟨q,z⟩:=gh; dsimp only at hF1 hN1 ⊢
  obtain ⟨hq,ez⟩:=hF1
  refine .seq (.seq (rq2 rfl rfl (mV rfl rfl (cp rfl .no (.u rfl) (.u rfl) rfl (.nil (.code (.cond rfl (fun c2=>?_) (fun c2=>?_))))))))
  ·have c2k:=c2
   try simp only [qcA,qcB] at c2
   refine .skip (.code (.seq (.block (rq3 rfl rfl (mV rfl rfl (kv rfl .no Fx.go143 (Evc rfl Evn) (fun _=>rhalf_ok _ _) ?_))))))
   refine aS rfl rfl (.nil (.blk (.code (rq3 rfl rfl (mV rfl rfl (arn (((q+1):Nat):Int) rfl .no (.u rfl) (.u rfl) rfl (fun _=>by omega) (fun _=>wrap_i64 (by omega) (by omega)) ?_))))))
   refine aS rfl rfl (.nil (We.lpo (q+1,halfW z) ?_ ?_ ?_ ?_ ?_))
   ·exact (esD rfl (esC rfl (by first|rfl|exact evi (by omega)) (esD rfl (esD rfl eZ))))
   ·exact mN
   ·first|omega|(dsimp only; omega)
   ·exact hGl1
   refine ⟨?_,?_⟩
   ·(try dsimp only)<;>(first|omega|rfl|assumption|(simp; done))
   (try dsimp only)<;>(rw [ez]; rfl)
  have c2k:=c2
  try simp only [qcA,qcB] at c2
  refine .exit (.xcode (.xlp (.xblk (.blk (.code (rq3 rfl rfl (mV rfl rfl (arn (((k+1):Nat):Int) rfl .no (.u rfl) (.u rfl) rfl (fun _=>by omega) (fun _=>wrap_i64 (by omega) (by omega)) ?_))))))))
  refine aS rfl rfl (.nil (We.lpo (k+1,z) ?_ ?_ ?_ ?_ ?_))
  ·exact (esD rfl (esC rfl (by first|rfl|exact evi (by omega)) (esD rfl eZ)))
  ·exact mN
  ·first|omega|(dsimp only; omega)
  ·exact (hGl0).trans hGl1
  refine ⟨?_,?_⟩
  ·(try dsimp only)<;>(first|omega|rfl|assumption|(simp; done))
  (try dsimp only)<;>(rw [fold_take (by omega),←ex,ez,show q=8 by omega]; rfl)
 have c1k:=c1
 try simp only [qcA,qcB] at c1
 refine .exit (.xcode (.xlp (.xblk (.code (.seq (rq3 rfl rfl (mV rfl rfl (bw (k:=.u32) (a:=4294967295#32) rfl .no rfl (.u rfl) (.u rfl) rfl (aS rfl rfl (.nil (.code (.ret (We.fin0 Tryz.results122 (.tmp rfl .nil) ?_)))))))))))))
 obtain rfl:k=xs.length:=by omega
 exact ⟨rfl,by rw [ex,List.take_length]; exact congrArg (fun z=>tup [uv .u32 z]) (not_sub _)⟩
namespace FxTbC
theorem sb9_34:sbT Tryz.prog 9 34=true:=by kernel_rfl
theorem cv3_5:cvK Tryz.prog 3 5=some .u8:=by kernel_rfl
end FxTbC
namespace Fx
theorem go99:goFn Tryz.prog 99=true:=by kernel_rfl
theorem se71:slE Tryz.prog 71=some (9,1,16):=by kernel_rfl
theorem sn71:(slE Tryz.prog 71).isSome=true:=by kernel_rfl
theorem go75:goFn Tryz.prog 75=true:=by kernel_rfl
end Fx
theorem crc1_ok {G:PM} {b T:Nat} {h1:Sh} {L1:List Y} (hle:PM.le G (G.add b (cl [h1.val L1.length] T))) (hs:SlR G 1 encY h1 L1) (hl:L1.length≤1000000000000000) :
  Ct Tryz.prog 99 ([.slice (some ⟨b,0,none⟩) 1 1]:List Value).toArray (G.add b (cl [h1.val L1.length] T)) [] (fun _ μ' u=>μ'=[]∧u=U (crcW 0#32 L1)):=by
 have h:=crcSum_ok [(h1,L1)] ⟨some ⟨b,0,none⟩,1⟩ _ (SlP.one hle hs) (by simpa [catL] using Nat.le_trans hl (by decide)) (by simp)
 rw [show catL [(h1,L1)]=L1 by simp [catL]] at h
 exact h
theorem set_ok (L:List Y) (bb cap n:Nat) (en:n=L.length) (key:ByteArray) (pr:Nat) (G:PM) (h0:0<L.length) (hn:L.length≤100000000) (hk:key.size≤1000000000000000) (hpr:pr≤1000000):Ct Tryz.prog 75 ([.slice (some ⟨bb,0,none⟩) n cap,.string key,.int .i64 (pr:Int)]:List Value).toArray G [rB (.slice (some ⟨bb,0,none⟩) n cap) 5 L] (fun _ μ' u=>μ'=[rB (.slice (some ⟨bb,0,none⟩) n cap) 5 (setL key L pr)]∧u=.tuple #[]):=by
 subst en
 refine Ct.of Tryz.func75 rfl Tryz.ntmps75 rfl fun w0 hs0=>?_
 refine .seq (rq5 rfl rfl (mV rfl rfl ?_))
 refine cvS rfl rfl FxTbC.sb9_34 (.u rfl) ?_; intro G10 h10 hG10 hs10
 refine Go.Tan.b1 rfl Fx.se53 Fx.zv34 (.u rfl) rfl rfl (by decide) ?_; intro b11
 refine kp rfl .no Fx.go99 (Evc rfl Evn) (Gp.add .here Gp.nil) (fun _ hle hq=>crc1_ok hle hs10 (by rw [yb_len]; omega)) ?_
 refine aS rfl rfl (.nil (.code (.seq (rq3 rfl rfl (mV rfl rfl (kv rfl .no Fx.go100 (Evc rfl (Evc rfl Evn)) (fun _=>rot_ok _ 15 _) ?_))))))
 refine aS rfl rfl (.nil (.code (.seq (rq2 rfl rfl (mV rfl rfl (mV rfl rfl (.nil (.code (.block ?_)))))))))
 refine Wk.lop (α:=Nat×List Y) (fun gh=>[(6,true,U (hJ key gh.1)),(16,true,.int .i64 (gh.1:Int))]) (fun gh=>[rB (.slice (some ⟨bb,0,none⟩) L.length cap) 5 gh.2])
  (fun gh Gl=>(gh.1≤pr)∧(gh.2=setL key L gh.1)∧(gh.2.length=L.length)) (fun gh=>pr-gh.1) (0,L) [(0,true,_),(7,true,_),(15,true,_)] [_]
  (esD rfl (esC rfl (by first|rfl|exact evi (by omega)) (esD rfl (esD rfl (esD rfl eZ)))))
  (mS tk1 rfl (mS .here rfl mN)) ?_ ?_
 ·refine ⟨?_,?_,?_⟩
  ·(try dsimp only)<;>(first|omega|rfl|assumption|(simp; done))
  ·(try dsimp only)<;>(rfl)
  (try dsimp only)<;>(first|omega|rfl|assumption|(simp; done))
 intro gh N0 Gl0 hN0 hGl0 hF0
 obtain ⟨k,M⟩:=gh; dsimp only at hF0 hN0 ⊢
 obtain ⟨hk2,eM,lM⟩:=hF0
 refine .seq (rq1 rfl rfl (cp rfl .no (.u rfl) (.u rfl) rfl (.nil (.code (.seq (.cond rfl (fun c1=>?_) (fun c1=>?_)))))))
 ·have c1k:=c1
  try simp only [qcA,qcB] at c1
  refine .skip (.code (.seq (.block (.seq (rq7 rfl rfl (mV rfl rfl (mV rfl rfl (lr rfl .no Fx.sn34 (.u rfl) .here ?_))))))))
  refine arn (((8*M.length):Nat):Int) rfl .no (.u rfl) (.u rfl) rfl (fun _=>by omega) (fun _=>wrap_i64 (by omega) (by omega)) ?_
  refine ci rfl .no rfl Fx.cv3_139 (.u rfl) ?_
  refine mw (k:=.u32) (b:=BitVec.ofInt 32 ((8*M.length:Nat):Int)) rfl .no (.u rfl) (.u rfl) (fun _=>st_nz (by omega) (by omega)) ?_
  refine aS rfl rfl (.nil (.code (.seq (Wk.rg [0,1,2,3,4,5,6,7,8,9,10] rfl rfl (mV rfl rfl (mV rfl rfl (rw' (k:=.u32) rfl .no (.u rfl) (.u rfl) (fun _=>by decide) ?_)))))))
  have hp8:(plcW key M.length k >>> 3).toNat<M.length:=st_idx (by omega) (by omega)
  refine ia rfl .no Fx.se34 (.u rfl) (.u rfl) (fun _=>Int.natCast_nonneg _) (fun _=>Int.ofNat_lt.2 (Nat.lt_of_lt_of_eq hp8 lM)) ?_
  refine ld rfl .no Fx.ag5 (.u rfl) (fun _=>Rd.row .here (map_at1 _ (by rw [Nat.zero_add,Nat.mul_one]; rfl) hp8)) ?_
  refine mV rfl rfl (bw (k:=.u32) (b:=7#32) rfl .no rfl (.u rfl) (.u rfl) rfl (lw (k:=.u8) (a:=1#8) rfl .no rfl (.s rfl) (.u rfl) (fun _=>Int.natCast_nonneg _) ?_))
  refine bw (k:=.u8) rfl .no rfl (.u rfl) (.u rfl) rfl (ia rfl .no Fx.se34 (.u rfl) (.u rfl) (fun _=>Int.natCast_nonneg _) (fun _=>Int.ofNat_lt.2 (Nat.lt_of_lt_of_eq hp8 lM)) ?_)
  refine s1r rfl (.u rfl) (.u rfl) Fx.sz5 .here (by rw [Nat.zero_add,Nat.mul_one]; exact hp8) ?_; intro Ls5_10 eLs5_10 lLs5_10
  refine .nil (.code (rq4 rfl rfl (mV rfl rfl (mV rfl rfl (bw (k:=.u32) rfl .no rfl (.u rfl) (.u rfl) rfl (aS rfl rfl (.nil (.blk (.code (rq2 rfl rfl (arn (((k+1):Nat):Int) rfl .no (.u rfl) (.u rfl) rfl (fun _=>by omega) (fun _=>wrap_i64 (by omega) (by omega)) ?_)))))))))))
  refine mV rfl rfl (.nil (We.lpo (k+1,Ls5_10) ?_ ?_ ?_ ?_ ?_))
  ·exact (esD rfl (esC rfl (by first|rfl|exact evi (by omega)) (esD rfl (esD rfl (esD rfl eZ)))))
  ·exact (mS .here rfl (mS .here rfl mN))
  ·first|omega|(dsimp only; omega)
  ·exact hGl0
  refine ⟨?_,?_,?_⟩
  ·(try dsimp only)<;>(first|omega|rfl|assumption|(simp; done))
  ·(try dsimp only)<;>(exact st_put lM (by rw [eLs5_10,eM,Nat.zero_add,Nat.mul_one]; rfl))
  (try dsimp only)<;>(first|omega|rfl|assumption|(simp; done))
 have c1k:=c1
 try simp only [qcA,qcB] at c1
 refine .exit (.xcode (.xlp (.xblk (.nil (We.fin Tryz.results75 .nil (mS .here rfl mN) ?_)))))
 obtain rfl:k=pr:=by omega
 exact ⟨by rw [eM],rfl⟩
theorem may_ok (h:Sh) (f:List Y) (key:ByteArray) (G:PM) (hs:SlR G 1 encY h f) (hl:f.length≤100000000) (hk:key.size≤1000000000000000):Ct Tryz.prog 55 ([h.val f.length,.string key]:List Value).toArray G [] (fun _ μ' u=>μ'=[]∧u=.bool (mayB f key)):=by
 refine Ct.of Tryz.func55 rfl Tryz.ntmps55 rfl fun w0 hs0=>?_
 refine .seq (rq1 rfl rfl (aS rfl rfl (.nil (.code (.seq (.seq (Wk.rg [0,1,2,3,4,5,6,7,8,9,10,11,12,13,14,15,16,17,18,19,20] rfl rfl (mV rfl rfl (ln rfl .no Fx.sn34 (.u rfl) (cp rfl .no (.u rfl) (.u rfl) rfl (mV rfl rfl (mv rfl (.f rfl rfl) (.u rfl) (mv rfl (.f rfl rfl) (.u rfl) (ln rfl (.f rfl rfl) Fx.sn34 (.s rfl) (arn (((f.length-1):Nat):Int) rfl (.f rfl rfl) (.s rfl) (.u rfl) rfl (fun hc=>by (try simp only [Bool.and_eq_true,decide_eq_true_eq,Bool.not_eq_true',Bool.or_eq_false_iff,decide_eq_false_iff_not] at hc); omega) (fun hc=>wrap_i64 (by (try simp only [Bool.and_eq_true,decide_eq_true_eq,Bool.not_eq_true',Bool.or_eq_false_iff,decide_eq_false_iff_not] at hc); omega) (by (try simp only [Bool.and_eq_true,decide_eq_true_eq,Bool.not_eq_true',Bool.or_eq_false_iff,decide_eq_false_iff_not] at hc); omega)) ?_)))))))))))))))
 refine ih rfl (.f rfl rfl) Fx.se34 (.s rfl) (.s rfl) (fun hc=>by (try simp only [Bool.and_eq_true,decide_eq_true_eq,Bool.not_eq_true',Bool.or_eq_false_iff,decide_eq_false_iff_not] at hc); omega) (fun hc=>by (try simp only [Bool.and_eq_true,decide_eq_true_eq,Bool.not_eq_true',Bool.or_eq_false_iff,decide_eq_false_iff_not] at hc); omega) (fun hc=>hs.nn (k:=(f.length-1)) (by (try simp only [Bool.and_eq_true,decide_eq_true_eq,Bool.not_eq_true',Bool.or_eq_false_iff,decide_eq_false_iff_not] at hc); omega)) ?_
 refine ld rfl (.f rfl rfl) Fx.ag5 (.s rfl) (fun hc=>(hs.yat ((f.length-1)) (by (try simp only [Bool.and_eq_true,decide_eq_true_eq,Bool.not_eq_true',Bool.or_eq_false_iff,decide_eq_false_iff_not] at hc); omega) (by (try simp only [Bool.and_eq_true,decide_eq_true_eq,Bool.not_eq_true',Bool.or_eq_false_iff,decide_eq_false_iff_not] at hc); omega)).rd) ?_
 refine cp rfl (.f rfl rfl) (.s rfl) (.u rfl) rfl (pkO rfl .no (.u rfl) (.s rfl) (mV rfl rfl (mv rfl (.f rfl rfl) (.u rfl) (mv rfl (.f rfl rfl) (.u rfl) (ln rfl (.f rfl rfl) Fx.sn34 (.s rfl) (arn (((f.length-1):Nat):Int) rfl (.f rfl rfl) (.s rfl) (.u rfl) rfl (fun hc=>by (try simp only [Bool.and_eq_true,decide_eq_true_eq,Bool.not_eq_true',Bool.or_eq_false_iff,decide_eq_false_iff_not] at hc); omega) (fun hc=>wrap_i64 (by (try simp only [Bool.and_eq_true,decide_eq_true_eq,Bool.not_eq_true',Bool.or_eq_false_iff,decide_eq_false_iff_not] at hc); omega) (by (try simp only [Bool.and_eq_true,decide_eq_true_eq,Bool.not_eq_true',Bool.or_eq_false_iff,decide_eq_false_iff_not] at hc); omega)) ?_))))))
 refine ih rfl (.f rfl rfl) Fx.se34 (.s rfl) (.s rfl) (fun hc=>by (try simp only [Bool.and_eq_true,decide_eq_true_eq,Bool.not_eq_true',Bool.or_eq_false_iff,decide_eq_false_iff_not] at hc); omega) (fun hc=>by (try simp only [Bool.and_eq_true,decide_eq_true_eq,Bool.not_eq_true',Bool.or_eq_false_iff,decide_eq_false_iff_not] at hc); omega) (fun hc=>hs.nn (k:=(f.length-1)) (by (try simp only [Bool.and_eq_true,decide_eq_true_eq,Bool.not_eq_true',Bool.or_eq_false_iff,decide_eq_false_iff_not] at hc); omega)) ?_
 refine ld rfl (.f rfl rfl) Fx.ag5 (.s rfl) (fun hc=>(hs.yat ((f.length-1)) (by (try simp only [Bool.and_eq_true,decide_eq_true_eq,Bool.not_eq_true',Bool.or_eq_false_iff,decide_eq_false_iff_not] at hc); omega) (by (try simp only [Bool.and_eq_true,decide_eq_true_eq,Bool.not_eq_true',Bool.or_eq_false_iff,decide_eq_false_iff_not] at hc); omega)).rd) ?_
 refine cp rfl (.f rfl rfl) (.s rfl) (.u rfl) rfl (pkO rfl .no (.u rfl) (.s rfl) (.nil (.code (.cond rfl (fun c1=>?_) (fun c1=>?_)))))
 ·have c1k:=c1
  try simp only [qcA,qcC,qcB] at c1
  refine .seq (rq1 rfl rfl (aS rfl rfl (.nil (.code (.ret (We.fin0 Tryz.results55 (.tmp rfl .nil) ?_))))))
  exact ⟨rfl,congrArg Value.bool (ma_head c1).symm⟩
 have c1k:=c1
 try simp only [qcA,qcC,qcB] at c1
 refine .skip (.code (.seq (Wk.mixp ⟨false,false⟩ Fx.mix (by kernel_rfl) ?_)))
 refine Wp.one 0 (by kernel_rfl) ?_
 refine mV rfl rfl (.nil (Wp.one 1 (by kernel_rfl) ?_))
 refine mV rfl rfl (.nil (Wp.one 2 (by kernel_rfl) ?_))
 refine ln rfl .no Fx.sn34 (.u rfl) (.nil (Wp.one 3 (by kernel_rfl) ?_))
 refine arn (((f.length-1):Nat):Int) rfl .no (.u rfl) (.u rfl) rfl (fun _=>by omega) (fun _=>wrap_i64 (by omega) (by omega)) ?_
 refine .nil (Wp.one 4 (by kernel_rfl) ?_)
 refine kE ((f.length-1)) rfl .no Fx.se34 hs (.u rfl) (.u rfl) (fun _=>by omega) (fun _=>by omega) ?_
 intro h35 L35 eL35 lL35 hs35
 have lL35:=lL35 rfl
 refine .nil (Wp.one 5 (by kernel_rfl) ?_)
 refine mV rfl rfl (.nil (Wp.one 6 (by kernel_rfl) ?_))
 refine mV rfl rfl (.nil (Wp.one 7 (by kernel_rfl) ?_))
 refine ln rfl .no Fx.sn34 (.u rfl) (.nil (Wp.one 8 (by kernel_rfl) ?_))
 refine arn (((f.length-1):Nat):Int) rfl .no (.u rfl) (.u rfl) rfl (fun _=>by omega) (fun _=>wrap_i64 (by omega) (by omega)) ?_
 refine .nil (Wp.one 9 (by kernel_rfl) ?_)
 refine ih rfl .no Fx.se34 (.u rfl) (.u rfl) (fun _=>by omega) (fun _=>by omega) (fun _=>hs.nn (k:=(f.length-1)) (by omega)) ?_
 refine .nil (Wp.one 10 (by kernel_rfl) ?_)
 refine ld rfl .no Fx.ag5 (.u rfl) (fun _=>(hs.yat ((f.length-1)) (by omega) (by omega)).rd) ?_
 refine .nil (Wp.one 11 (by kernel_rfl) ?_)
 refine aS rfl rfl (.nil (Wp.one 12 (by kernel_rfl) ?_))
 refine aS rfl rfl (.nil (Wp.last (by kernel_rfl) ?_))
 refine .code (.seq (rq5 rfl rfl (mV rfl rfl ?_)))
 refine cvS rfl rfl FxTbC.sb9_34 (.u rfl) ?_; intro G43 h43 hG43 hs43
 have hs35:=hs35.mono hG43
 refine Go.Tan.b1 rfl Fx.se53 Fx.zv34 (.u rfl) rfl rfl (by decide) ?_; intro b44
 refine kp rfl .no Fx.go99 (Evc rfl Evn) (Gp.add .here Gp.nil) (fun _ hle hq=>crc1_ok hle hs43 (by rw [yb_len]; omega)) ?_
 refine aS rfl rfl (.nil (.code (.seq (rq3 rfl rfl (mV rfl rfl (kv rfl .no Fx.go100 (Evc rfl (Evc rfl Evn)) (fun _=>rot_ok _ 15 _) ?_))))))
 refine aS rfl rfl (.nil (.code (.seq (.seq (rq2 rfl rfl (mV rfl rfl (mV rfl rfl (.nil (.code (.block ?_))))))))))
 refine Wk.lop (α:=Nat) (fun k=>[(7,true,U (hJ key k)),(49,true,V (BitVec.ofNat 8 k))]) (fun _=>[])
  (fun k Gl=>(k≤(f.getD (f.length-1) 0).toNat)∧(∀ j,j<k→bitY L35 (plcW key L35.length j)=true)) (fun k=>(f.getD (f.length-1) 0).toNat-k) 0 [(5,true,_),(8,true,_),(48,true,_)] [_]
  (esD rfl (esD rfl (esD rfl (esD rfl (esD rfl eZ)))))
  (mS .here rfl mN) ?_ ?_
 ·refine ⟨?_,?_⟩
  ·(try dsimp only)<;>(first|omega|rfl|assumption|(simp; done))
  (try dsimp only)<;>(exact fun j h=>absurd h (Nat.not_lt_zero _))
 intro k N0 Gl0 hN0 hGl0 hF0
 try dsimp only at hF0 hN0 ⊢
 obtain ⟨hk2,hb⟩:=hF0
 have hs35:=hs35.mono hGl0
 refine .seq (rq1 rfl rfl (cp rfl .no (.u rfl) (.u rfl) rfl (.nil (.code (.seq (.cond rfl (fun c2=>?_) (fun c2=>?_)))))))
 ·have c2k:=c2
  try simp only [qcA,qcC,qcB] at c2
  refine .skip (.code (.seq (.block (.seq (rq7 rfl rfl (mV rfl rfl (mV rfl rfl (ln rfl .no Fx.sn34 (.u rfl) (arn (((8*L35.length):Nat):Int) rfl .no (.u rfl) (.u rfl) rfl (fun _=>by omega) (fun _=>wrap_i64 (by omega) (by omega)) ?_)))))))))
  refine ci rfl .no rfl Fx.cv3_139 (.u rfl) ?_
  refine mw (k:=.u32) (b:=BitVec.ofInt 32 ((8*L35.length:Nat):Int)) rfl .no (.u rfl) (.u rfl) (fun _=>st_nz (by omega) (by omega)) ?_
  refine aS rfl rfl (.nil (.code (.seq (.seq (rq10 rfl rfl (mV rfl rfl (mV rfl rfl (rw' (k:=.u32) rfl .no (.u rfl) (.u rfl) (fun _=>by decide) ?_))))))))
  have hp8:(plcW key L35.length k >>> 3).toNat<L35.length:=st_idx (by omega) (by omega)
  refine ih rfl .no Fx.se34 (.u rfl) (.u rfl) (fun _=>Int.natCast_nonneg _) (fun _=>Int.ofNat_lt.2 hp8) (fun _=>hs35.nn (k:=(plcW key L35.length k >>> 3).toNat) (by omega)) ?_
  refine ld rfl .no Fx.ag5 (.u rfl) (fun _=>(hs35.yat (plcW key L35.length k >>> 3).toNat rfl hp8).rd) ?_
  refine mV rfl rfl (bw (k:=.u32) (b:=7#32) rfl .no rfl (.u rfl) (.u rfl) rfl (rw' (k:=.u8) rfl .no (.u rfl) (.u rfl) (fun _=>Int.natCast_nonneg _) ?_))
  refine bw (k:=.u8) (b:=1#8) rfl .no rfl (.u rfl) (.u rfl) rfl (cp rfl .no (.u rfl) (.u rfl) rfl (.nil (.code (.cond rfl (fun c3=>?_) (fun c3=>?_)))))
  ·have c3k:=c3
   try simp only [qcA,qcC,qcB] at c3
   refine .seq (rq1 rfl rfl (aS rfl rfl (.nil (.code (.ret (We.fin0 Tryz.results55 (.tmp rfl .nil) ?_))))))
   exact ⟨rfl,congrArg Value.bool (ma_no c1 eL35 hk2 c2 c3).symm⟩
  have c3k:=c3
  try simp only [qcA,qcC,qcB] at c3
  refine .skip (.code (rq4 rfl rfl (mV rfl rfl (mV rfl rfl (bw (k:=.u32) rfl .no rfl (.u rfl) (.u rfl) rfl (aS rfl rfl (.nil (.blk (.code (rq2 rfl rfl (bw (k:=.u8) (b:=1#8) rfl .no rfl (.u rfl) (.u rfl) rfl (mV rfl rfl (.nil (We.lpo (k+1) ?_ ?_ ?_ ?_ ?_))))))))))))))
  ·exact (esD rfl (esC rfl (by show V (BitVec.ofNat 8 k+1#8)=_; rw [← BitVec.ofNat_add]) (esD rfl (esD rfl (esD rfl eZ)))))
  ·exact (mS .here rfl mN)
  ·have:=ma_dec hk2 c2; omega
  ·exact hGl0
  refine ⟨?_,?_⟩
  ·(try dsimp only)<;>(exact ma_lt hk2 c2)
  (try dsimp only)<;>(exact ma_snoc hb c3k)
 have c2k:=c2
 try simp only [qcA,qcC,qcB] at c2
 refine .exit (.xcode (.xlp (.xblk (.code (.seq (rq1 rfl rfl (aS rfl rfl (.nil (.code (.ret (We.fin0 Tryz.results55 (.tmp rfl .nil) ?_)))))))))))
 exact ⟨rfl,congrArg Value.bool (ma_yes c1 eL35 hk2 c2 hb).symm⟩
theorem make_ok (h:Sh) (l:List ByteArray) (bits:Int) (G:PM) (hs:SlR G 1 encT h l) (hl:l.length≤100000) (hk:∀ s∈l,s.size≤1000000):Ct Tryz.prog 32 ([h.val l.length,.int .i64 bits]:List Value).toArray G [] (PR 5 (fun L=>L=makeB l bits)):=by
 refine Ct.of Tryz.func32 rfl Tryz.ntmps32 rfl fun w0 hs0=>?_
 have hp:=hpb bits; have hpl:=perB_le bits; have hr:=hprb bits; have hrl:=prbB_le bits
 have hm:l.length*perB bits≤6400000:=Nat.le_trans (Nat.mul_le_mul hl hpl.2) (by decide)
 refine .seq (rq1 rfl rfl (aS rfl rfl (.nil (.code (.seq (rq4 rfl rfl (mV rfl rfl (mI rfl .no (.u rfl) (.u rfl) ?_))))))))
 refine mA rfl .no (.u rfl) (.u rfl) ?_
 refine aS rfl rfl (.nil (.code (.seq ?_)))
 rw [← hp]
 refine rq6 rfl rfl (mV rfl rfl (arn ((((perB bits)*69):Nat):Int) rfl .no (.u rfl) (.u rfl) rfl (fun _=>by omega) (fun _=>wrap_i64 (by omega) (by omega)) ?_))
 refine qun (((perB bits)*69)) (100) rfl .no (.u rfl) (.u rfl) (fun _=>by omega) (fun _=>by omega) (fun _=>by first|decide|omega) (fun _=>by omega) ?_
 refine mIn ((((perB bits)*69) / 100)) (30) rfl .no (.u rfl) (.u rfl) (fun _=>by omega) (fun _=>by omega) ?_
 refine mAn (1) ((min (((perB bits)*69) / 100) 30)) rfl .no (.u rfl) (.u rfl) (fun _=>by omega) (fun _=>by omega) ?_
 refine aS rfl rfl (.nil (.code (.seq ?_)))
 rw [show max 1 (min (perB bits*69 / 100) 30)=prbB bits from rfl]
 refine Wk.rg [0,1,2,3,4,5,6,7,8,9,10,11,12,13,14] rfl rfl (mV rfl rfl (ln rfl .no Fx.sn71 (.u rfl) (mV rfl rfl (arn (((l.length*perB bits):Nat):Int) rfl .no (.u rfl) (.u rfl) rfl (fun _=>rfl) (fun _=>wrap_i64 (by omega) (by omega)) ?_))))
 refine mAn (64) ((l.length*perB bits)) rfl .no (.u rfl) (.u rfl) (fun _=>by omega) (fun _=>by omega) ?_
 refine arn ((((max 64 (l.length*perB bits))+7):Nat):Int) rfl .no (.u rfl) (.u rfl) rfl (fun _=>by omega) (fun _=>wrap_i64 (by omega) (by omega)) ?_
 refine qun (((max 64 (l.length*perB bits))+7)) (8) rfl .no (.u rfl) (.u rfl) (fun _=>by omega) (fun _=>by omega) (fun _=>by first|decide|omega) (fun _=>by omega) ?_
 refine mV rfl rfl (ln rfl .no Fx.sn71 (.u rfl) (mV rfl rfl (arn (((l.length*perB bits):Nat):Int) rfl .no (.u rfl) (.u rfl) rfl (fun _=>rfl) (fun _=>wrap_i64 (by omega) (by omega)) ?_)))
 refine qun ((l.length*perB bits)) (8) rfl .no (.u rfl) (.u rfl) (fun _=>by omega) (fun _=>by omega) (fun _=>by first|decide|omega) (fun _=>by omega) ?_
 refine arn (((((l.length*perB bits) / 8)+10):Nat):Int) rfl .no (.u rfl) (.u rfl) rfl (fun _=>by omega) (fun _=>wrap_i64 (by omega) (by omega)) ?_
 refine mkY ((((max 64 (l.length*perB bits))+7) / 8)) ((((l.length*perB bits) / 8)+10)) rfl Fx.se34 Fx.zv5 (.u rfl) (.u rfl) (by first|rfl|omega) (by first|rfl|omega) (by omega) (by omega) ?_; intro b30
 have lR30:(List.replicate ((((max 64 (l.length*perB bits))+7) / 8)) (0#8:Y)).length=(((max 64 (l.length*perB bits))+7) / 8):=List.length_replicate
 refine aS rfl rfl (.nil (.code (.seq (.seq (rq3 rfl rfl (mV rfl rfl (ln rfl .no Fx.sn71 (.u rfl) (mV rfl rfl (.nil (.code (.block ?_)))))))))))
 refine Wk.lop (α:=Nat×List Y) (fun gh=>[(33,true,.int .i64 (gh.1:Int))]) (fun gh=>[rB (.slice (some ⟨b30,0,none⟩) ((max 64 (l.length*perB bits)+7) / 8:Nat) (l.length*perB bits / 8+10:Nat)) 5 gh.2])
  (fun gh Gl=>(gh.1≤l.length)∧(gh.2=keysB l bits gh.1)) (fun gh=>l.length-gh.1) (0,_) [(5,true,_),(6,true,_),(31,true,_),(32,true,_)] []
  (esC rfl (by first|rfl|exact evi (by omega)) (esD rfl (esD rfl (esD rfl (esD rfl eZ)))))
  (mS .here rfl mN) ?_ ?_
 ·refine ⟨?_,?_⟩
  ·(try dsimp only)<;>(first|omega|rfl|assumption|(simp; done))
  (try dsimp only)<;>(rfl)
 intro gh N0 Gl0 hN0 hGl0 hF0
 obtain ⟨k,M⟩:=gh; dsimp only at hF0 hN0 ⊢
 obtain ⟨hk2,eM⟩:=hF0
 have hs:=hs.mono hGl0
 have lM:M.length=(max 64 (l.length*perB bits)+7) / 8:=by rw [eM,keysB_len]
 refine .seq (rq1 rfl rfl (cp rfl .no (.u rfl) (.u rfl) rfl (.nil (.code (.seq (.cond rfl (fun c1=>?_) (fun c1=>?_)))))))
 ·have c1k:=c1
  try simp only [qcA,qcB] at c1
  refine .skip (.code (.seq (.block (.seq (rq3 rfl rfl (ih rfl .no Fx.se71 (.u rfl) (.u rfl) (fun _=>by omega) (fun _=>by omega) (fun _=>hs.nn (k:=k) (by first|omega|(simp only [Bool.and_eq_true,decide_eq_true_eq] at hc; omega)|(simp only [List.length_cons,List.length_nil]; omega))) ?_))))))
  obtain ⟨s,es⟩:=getx (k:=k) (xs:=l) (by omega)
  refine ld rfl .no Fx.ag9 (.u rfl) (fun _=>(hs.t1 k (by omega) es).rd) ?_
  refine aS rfl rfl (.nil (.code (rq4 rfl rfl (mV rfl rfl (mV rfl rfl (mV rfl rfl (ka rfl (.inr rfl) Fx.go75 (Evc rfl (Evc rfl (Evc rfl Evn))) (mtk1 .here) (set_ok M b30 _ _ lM.symm s (prbB bits) _ (by omega) (by omega) (Nat.le_trans (hk s (List.mem_of_getElem? es)) (by decide)) (by omega)) ?_)))))))
  rintro _ G40 μ40 hG40 ⟨rfl,rfl⟩
  refine .nil (.blk (.code (rq2 rfl rfl (arn (((k+1):Nat):Int) rfl .no (.u rfl) (.u rfl) rfl (fun _=>by omega) (fun _=>wrap_i64 (by omega) (by omega)) ?_))))
  refine mV rfl rfl (.nil (We.lpo (k+1,setL s M (prbB bits)) ?_ ?_ ?_ ?_ ?_))
  ·exact (esC rfl (by first|rfl|exact evi (by omega)) (esD rfl (esD rfl (esD rfl (esD rfl eZ)))))
  ·exact (mS .here rfl mN)
  ·first|omega|(dsimp only; omega)
  ·exact (hGl0).trans hG40
  refine ⟨?_,?_⟩
  ·(try dsimp only)<;>(first|omega|rfl|assumption|(simp; done))
  (try dsimp only)<;>(rw [eM,keysB_snoc es])
 have c1k:=c1
 try simp only [qcA,qcB] at c1
 refine .exit (.xcode (.xlp (.xblk (.code (.seq (rq6 rfl rfl (mV rfl rfl (mV rfl rfl (ci rfl .no rfl FxTbC.cv3_5 (.u rfl) ?_)))))))))
 refine Go.Tan.b1 rfl Fx.se34 Fx.zv5 (.u rfl) rfl rfl (by decide) ?_; intro b45
 refine apY rfl Fx.se34 Fx.zv5 (.u rfl) (.u rfl) tk1 (Sc.one .here) (by show _+1≤_; omega) ?_
 intro v46 L46 ov46 eL46
 have lL46:L46.length=M.length+1:=by rw [eL46,List.length_append]; first|rfl | simp [yl_len]
 refine aS rfl rfl (.nil (.code (.ret (We.fin Tryz.results32 (.tmp rfl .nil) (mS .here rfl mN) ?_))))
 obtain rfl:k=l.length:=by omega
 exact ⟨_,by rw [eL46,eM]; rfl,rfl⟩
namespace FxVerR
theorem se34:slE Tryz.prog 34=some (5,1,1):=by kernel_rfl
theorem zv5:(Tryz.prog.info? 5).bind (·.zero)=some (.int .u8 0):=by kernel_rfl
theorem cv24_5:cvK Tryz.prog 24 5=some .u8:=by kernel_rfl
theorem cv3_24:cvK Tryz.prog 3 24=some .u64:=by kernel_rfl
theorem sn34:(slE Tryz.prog 34).isSome=true:=by kernel_rfl
theorem ag5:aggN Tryz.prog 5=some none:=by kernel_rfl
theorem cv5_24:cvK Tryz.prog 5 24=some .u64:=by kernel_rfl
end FxVerR
namespace Fx
theorem st9:strT Tryz.prog 9=true:=by kernel_rfl
theorem go34:goFn Tryz.prog 34=true:=by kernel_rfl
end Fx
theorem Num_ok (xs:List Y) (h:Sh) (G:PM) (hs:SlR G 1 encY h xs) (n:BitVec 64) (hl:xs.length≤100000000000000):Ct Tryz.prog 34 ([h.val xs.length,uv .u64 n]:List Value).toArray G [] (PR 5 (fun L=>L=xs++numN n.toNat)):=by
 refine Ct.of Tryz.func34 rfl Tryz.ntmps34 rfl fun w0 hs0=>?_
 have ln:=num_len10 n.isLt
 refine .seq (rq1 rfl rfl (aS rfl rfl (.nil (.code (.seq (rq4 rfl rfl ?_))))))
 refine b0B rfl FxVerR.se34 ?_; intro b6
 refine mV rfl rfl (apY0 rfl FxVerR.se34 FxVerR.zv5 (.u rfl) (.u rfl) .here hs.sc (by (try simp only [qlA,yl_len]); omega) ?_)
 intro v8 L8 _ ov8 eL8
 have lL8:L8.length=xs.length:=by rw [eL8]
 refine aS rfl rfl (.nil (.code (.seq (.block ?_))))
 refine Wk.lop (α:=BitVec 64×Value×List Y) (fun gh=>[(1,true,uv .u64 gh.1),(5,true,gh.2.1)]) (fun gh=>[rB gh.2.1 5 gh.2.2])
  (fun gh Gl=>(gh.2.2++numN gh.1.toNat=xs++numN n.toNat)) (fun gh=>gh.1.toNat) (n,v8,L8) [] []
  (esD rfl (esD rfl eZ))
  (mS .here rfl mN) ?_ ?_
 ·(try dsimp only)<;>(rw [eL8])
 intro gh N0 Gl0 hN0 hGl0 hF0
 obtain ⟨m,v,L⟩:=gh; dsimp only at hF0 hN0 ⊢
 have eq:=hF0
 have tq:@BitVec.toNat IntKind.u64.bits m=m.toNat:=rfl
 have lq:=congrArg List.length eq
 simp only [List.length_append] at lq
 have lp:=num_pos m.toNat
 refine .seq (.seq (rq2 rfl rfl (mV rfl rfl (cp rfl .no (.u rfl) (.u rfl) rfl (.nil (.code (.cond rfl (fun c1=>?_) (fun c1=>?_))))))))
 ·have c1k:=c1
  try simp only [qcA,qcC,qcB] at c1
  refine .skip (.code (.seq (.block (rq7 rfl rfl (mV rfl rfl (mV rfl rfl (cu (k:=.u64) rfl .no rfl FxVerR.cv24_5 (.u rfl) ?_)))))))
  refine bw (k:=.u8) (b:=128#8) rfl .no rfl (.u rfl) (.u rfl) rfl ?_
  refine Go.Tan.b1 rfl FxVerR.se34 FxVerR.zv5 (.u rfl) rfl rfl (by decide) ?_; intro b17
  refine apY rfl FxVerR.se34 FxVerR.zv5 (.u rfl) (.u rfl) tk1 (Sc.one .here) (by show _+1≤_; omega) ?_
  intro v18 L18 ov18 eL18
  have lL18:L18.length=L.length+1:=by rw [eL18,List.length_append]; first|rfl | simp [yl_len]
  refine aS rfl rfl (.nil (.blk (.code (rq3 rfl rfl (mV rfl rfl (rw' (k:=.u64) rfl .no (.u rfl) (.u rfl) (fun _=>by decide) ?_))))))
  refine aS rfl rfl (.nil (We.lpo (m >>> 7,v18,L18) ?_ ?_ ?_ ?_ ?_))
  ·exact (esD rfl (esD rfl eZ))
  ·exact (mS .here rfl mN)
  ·(dsimp only; rw [shr7]; omega)
  ·exact hGl0
  (try dsimp only)<;>(rw [eL18,←eq,num_more (m:=m) (by omega),List.append_assoc]; rfl)
 have c1k:=c1
 try simp only [qcA,qcC,qcB] at c1
 refine .exit (.xcode (.xlp (.xblk (.code (.seq (rq6 rfl rfl (mV rfl rfl (mV rfl rfl (cu (k:=.u64) rfl .no rfl FxVerR.cv24_5 (.u rfl) ?_)))))))))
 refine Go.Tan.b1 rfl FxVerR.se34 FxVerR.zv5 (.u rfl) rfl rfl (by decide) ?_; intro b22
 refine apY rfl FxVerR.se34 FxVerR.zv5 (.u rfl) (.u rfl) tk1 (Sc.one .here) (by show _+1≤_; omega) ?_
 intro v23 L23 ov23 eL23
 have lL23:L23.length=L.length+1:=by rw [eL23,List.length_append]; first|rfl | simp [yl_len]
 refine aS rfl rfl (.nil (.code (.ret (We.fin Tryz.results34 (.tmp rfl .nil) (mS .here rfl mN) ?_))))
 exact ⟨L23,by rw [eL23,←eq,num_last (m:=m) (by omega)]; rfl,rfl⟩
theorem Num_i (xs:List Y) (h:Sh) (G:PM) (hs:SlR G 1 encY h xs) (x:Int) (hx:u64 x) (hl:xs.length≤100000000000000):Ct Tryz.prog 34 ([h.val xs.length,.int .u64 x]:List Value).toArray G [] (PR 5 (fun L=>L=xs++numN x.toNat)):=by
 rw [uvI hx,←ofI hx]; exact Num_ok xs h G hs _ hl
theorem Str_ok (xs:List Y) (h:Sh) (G:PM) (hs:SlR G 1 encY h xs) (s:ByteArray) (hl:xs.length+s.size≤100000000000000):Ct Tryz.prog 30 ([h.val xs.length,.string s]:List Value).toArray G [] (PR 5 (fun L=>L=xs++strL (yb s))):=by
 refine Ct.of Tryz.func30 rfl Tryz.ntmps30 rfl fun w0 hs0=>?_
 have ly:=yb_len s
 have ln:=num_len10 (n:=s.size) (by omega)
 refine .seq (rq1 rfl rfl (aS rfl rfl (.nil (.code (.seq (rq8 rfl rfl (mV rfl rfl (mV rfl rfl (ls rfl .no Fx.st9 (.u rfl) (cw rfl .no FxVerR.cv3_24 (.u rfl) (fun _=>wrap_u64 (by omega) (by omega)) ?_))))))))))
 refine kc rfl Fx.go34 (Evc rfl (Evc rfl Evn)) (Ct.rowc (Num_i xs h _ hs (s.size:Int) ⟨by omega,by omega⟩ (by omega))) ?_
 rintro v9 G9 μ9 hG9 ⟨L9,ov9,eL9,rfl⟩
 refine mV rfl rfl ?_
 have l9:L9.length=xs.length+(numN s.size).length:=by rw [eL9,List.length_append,Int.toNat_natCast]
 refine apT rfl FxVerR.se34 Fx.st9 FxVerR.zv5 (.u rfl) (.u rfl) .here (by (try simp only [List.length_append]); omega) ?_; intro v11 L11 ov11 eL11
 refine aS rfl rfl (.nil (.code (.ret (We.fin Tryz.results30 (.tmp rfl .nil) (mS .here rfl mN) ?_))))
 exact ⟨L11,by rw [eL11,eL9,strL,ly,Int.toNat_natCast,List.append_assoc],rfl⟩
theorem number_ok (xs:List Y) (h:Sh) (G:PM) (hs:SlR G 1 encY h xs) (hl:xs.length≤100000000000000):Ct Tryz.prog 124 ([h.val xs.length]:List Value).toArray G [] (fun _ μ' u=>∃ n k e,NumR xs n k e∧μ'=[]∧u=.tuple #[.int .u64 (n:Int),.int .i64 (k:Int),.int .i64 e]):=by
 refine Ct.of Tryz.func124 rfl Tryz.ntmps124 rfl fun w0 hs0=>?_
 refine .seq (rq3 rfl rfl (aS rfl rfl (aS rfl rfl (aS rfl rfl (.nil (.code (.seq (rq1 rfl rfl (aS rfl rfl (.nil (.code (.seq (.seq (rq3 rfl rfl (mV rfl rfl (ln rfl .no FxVerR.sn34 (.u rfl) (mV rfl rfl (.nil (.code (.block ?_))))))))))))))))))))
 refine Wk.lop (α:=Nat×BitVec 64) (fun gh=>[(5,true,uv .u64 gh.2),(10,true,.int .i64 (gh.1:Int))]) (fun _=>[])
  (fun gh Gl=>(gh.1≤xs.length)∧(gh.1≤9)∧(gh.2.toNat<128^gh.1)∧(numP xs=numG gh.1 gh.2.toNat (xs.drop gh.1))) (fun gh=>xs.length-gh.1) (0,0#64) [(8,true,_),(9,true,_)] []
  (esD rfl (esC rfl (by first|rfl|exact evi (by omega)) (esD rfl (esD rfl eZ))))
  mN ?_ ?_
 ·refine ⟨?_,?_,?_,?_⟩
  ·(try dsimp only)<;>(first|omega|rfl|assumption|(simp; done))
  ·(try dsimp only)<;>(first|omega|rfl|assumption|(simp; done))
  ·(try dsimp only)<;>(decide)
  (try dsimp only)<;>(rfl)
 intro gh N0 Gl0 hN0 hGl0 hF0
 obtain ⟨k,w⟩:=gh; dsimp only at hF0 hN0 ⊢
 obtain ⟨hk,h9,hw,e⟩:=hF0
 have hs:=hs.mono hGl0
 have tq:@BitVec.toNat IntKind.u8.bits (xs.getD k 0)=(xs.getD k 0).toNat:=rfl
 refine .seq (rq1 rfl rfl (cp rfl .no (.u rfl) (.u rfl) rfl (.nil (.code (.seq (.cond rfl (fun c1=>?_) (fun c1=>?_)))))))
 ·have c1k:=c1
  try simp only [qcA,qcC,qcB] at c1
  refine .skip (.code (.seq (.block (.seq (rq5 rfl rfl (mV rfl rfl (ih rfl .no FxVerR.se34 (.u rfl) (.u rfl) (fun _=>by omega) (fun _=>by omega) (fun _=>hs.nn (k:=k) (by omega)) ?_)))))))
  refine ld rfl .no FxVerR.ag5 (.u rfl) (fun _=>(hs.yat (k) (by omega) (by omega)).rd) ?_
  refine aS rfl rfl (aS rfl rfl (.nil (.code (.seq (.seq (rq6 rfl rfl (mV rfl rfl (cp rfl .no (.u rfl) (.u rfl) rfl (mV rfl rfl (mv rfl (.t rfl rfl) (.u rfl) (cp rfl (.t rfl rfl) (.s rfl) (.u rfl) rfl (pkA rfl .no (.u rfl) (.s rfl) (.nil (.code (.cond rfl (fun c2=>?_) (fun c2=>?_))))))))))))))))
  ·have c2k:=c2
   try simp only [qcA,qcC,qcB] at c2
   refine .seq (rq3 rfl rfl (aS rfl rfl (aS rfl rfl (aS rfl rfl (.nil (.code (.ret (We.fin0 Tryz.results124 (.tmp rfl (.tmp rfl (.tmp rfl .nil))) ?_))))))))
   exact ⟨0,0,11,.of (np_form e (by omega) (by omega) (by omega)),rfl,rfl⟩
  have c2k:=c2
  try simp only [qcA,qcC,qcB] at c2
  refine .skip (.code (.seq (rq9 rfl rfl (mV rfl rfl (mV rfl rfl (bw (k:=.u8) (b:=127#8) rfl .no rfl (.u rfl) (.u rfl) rfl (cu (k:=.u8) rfl .no rfl FxVerR.cv5_24 (.u rfl) ?_)))))))
  refine mV rfl rfl (arn (((7*k):Nat):Int) rfl .no (.u rfl) (.u rfl) rfl (fun _=>by omega) (fun _=>wrap_i64 (by omega) (by omega)) ?_)
  refine lw (k:=.u64) rfl .no rfl (.u rfl) (.u rfl) (fun _=>by omega) ?_
  refine bw (k:=.u64) rfl .no rfl (.u rfl) (.u rfl) rfl (aS rfl rfl (.nil (.code (.seq (rq2 rfl rfl (mV rfl rfl (cp rfl .no (.u rfl) (.u rfl) rfl (.nil (.code (.cond rfl (fun c3=>?_) (fun c3=>?_)))))))))))
  ·have c3k:=c3
   try simp only [qcA,qcC,qcB] at c3
   refine .seq (.seq (rq6 rfl rfl (mV rfl rfl (cp rfl .no (.u rfl) (.u rfl) rfl (mV rfl rfl (mv rfl (.t rfl rfl) (.u rfl) (cp rfl (.t rfl rfl) (.s rfl) (.u rfl) rfl (pkA rfl .no (.u rfl) (.s rfl) (.nil (.code (.cond rfl (fun c4=>?_) (fun c4=>?_))))))))))))
   ·have c4k:=c4
    try simp only [qcA,qcC,qcB] at c4
    refine .seq (rq3 rfl rfl (aS rfl rfl (aS rfl rfl (aS rfl rfl (.nil (.code (.ret (We.fin0 Tryz.results124 (.tmp rfl (.tmp rfl (.tmp rfl .nil))) ?_))))))))
    exact ⟨0,0,11,.of (np_zero e (by omega) (by omega) (by omega)),rfl,rfl⟩
   have c4k:=c4
   try simp only [qcA,qcC,qcB] at c4
   refine .skip (.code (.seq (rq6 rfl rfl (mV rfl rfl (mV rfl rfl (arn (((k+1):Nat):Int) rfl .no (.u rfl) (.u rfl) rfl (fun _=>by omega) (fun _=>wrap_i64 (by omega) (by omega)) ?_))))))
   refine aS rfl rfl (aS rfl rfl (aS rfl rfl (.nil (.code (.ret (We.fin0 Tryz.results124 (.tmp rfl (.tmp rfl (.tmp rfl .nil))) ?_))))))
   exact ⟨_,_,0,.of (np_end e hw h9 (by omega) (by omega) (by omega) (by omega)),rfl,rfl⟩
  have c3k:=c3
  try simp only [qcA,qcC,qcB] at c3
  refine .skip (.blk (.code (rq2 rfl rfl (arn (((k+1):Nat):Int) rfl .no (.u rfl) (.u rfl) rfl (fun _=>by omega) (fun _=>wrap_i64 (by omega) (by omega)) ?_))))
  refine mV rfl rfl (.nil (We.lpo (k+1,w ||| (xs.getD k 0 &&& 127#8).setWidth 64 <<< (7*k)) ?_ ?_ ?_ ?_ ?_))
  ·exact (esD rfl (esC rfl (by first|rfl|exact evi (by omega)) (esD rfl (esD rfl eZ))))
  ·exact mN
  ·first|omega|(dsimp only; omega)
  ·exact hGl0
  refine ⟨?_,?_,?_,?_⟩
  ·(try dsimp only)<;>(first|omega|rfl|assumption|(simp; done))
  ·(try dsimp only)<;>(exact (np_more e hw h9 (by omega) (by omega) (by omega)).2.2)
  ·(try dsimp only)<;>(exact (np_more e hw h9 (by omega) (by omega) (by omega)).2.1)
  (try dsimp only)<;>(exact (np_more e hw h9 (by omega) (by omega) (by omega)).1)
 have c1k:=c1
 try simp only [qcA,qcC,qcB] at c1
 refine .exit (.xcode (.xlp (.xblk (.code (.seq (rq3 rfl rfl (aS rfl rfl (aS rfl rfl (aS rfl rfl (.nil (.code (.ret (We.fin0 Tryz.results124 (.tmp rfl (.tmp rfl (.tmp rfl .nil))) ?_)))))))))))))
 exact ⟨0,0,10,.of (np_short e (by omega)),rfl,rfl⟩
namespace FxVerS
theorem bp175_0:bPl Tryz.prog 175 [0]=some ([.slice none 0 0,.int .i64 0],[(0,1)]):=by kernel_rfl
theorem pt145:ptT Tryz.prog 145=true:=by kernel_rfl
theorem fo175_1:fOff Tryz.prog 175 1=some 1:=by kernel_rfl
theorem ag37:aggN Tryz.prog 37=some none:=by kernel_rfl
theorem fo175_0:fOff Tryz.prog 175 0=some 0:=by kernel_rfl
theorem ag34:aggN Tryz.prog 34=some none:=by kernel_rfl
theorem sz34:szT Tryz.prog 34=some 1:=by kernel_rfl
theorem bs34_9:bsT Tryz.prog 34 9=true:=by kernel_rfl
end FxVerS
namespace Fx
theorem go124:goFn Tryz.prog 124=true:=by kernel_rfl
theorem sz37:szT Tryz.prog 37=some 1:=by kernel_rfl
theorem cv24_3:cvK Tryz.prog 24 3=some .i64:=by kernel_rfl
theorem go96:goFn Tryz.prog 96=true:=by kernel_rfl
theorem go125:goFn Tryz.prog 125=true:=by kernel_rfl
end Fx
theorem rNum_ok (xs:List Y) (e:Int) (s:Sh) (b:Nat) (G:PM) (hs:SlR G 1 encY s xs) (hl:xs.length≤100000000000000):Ct Tryz.prog 95 ([.pointer (some ⟨b,0,none⟩)]:List Value).toArray G [.blk b (cl [s.val xs.length,.int .i64 e] 175)] (fun G' μ' u=>∃ n L e' s',rdNum ⟨xs,e⟩=(n,⟨L,e'⟩)∧μ'=[.blk b (cl [Sh.val s' L.length,.int .i64 e'] 175)]∧u=.int .u64 (n:Int)∧SlR G' 1 encY s' L):=by
 refine Ct.of Tryz.func95 rfl Tryz.ntmps95 rfl fun w0 hs0=>?_
 refine .seq (rq1 rfl rfl (aS rfl rfl (.nil (.code (.seq (.seq (rq9 rfl rfl (mV rfl rfl (pe rfl .no FxVerS.pt145 (.u rfl) (.u rfl) ?_)))))))))
 refine mV rfl rfl (mv rfl (Gd.f (b:=false) rfl rfl) (.u rfl) (nc rfl (Gd.f (b:=false) rfl rfl) (.u rfl) (fz rfl (Gd.f (b:=false) rfl rfl) FxVerS.fo175_1 (.u rfl) (ld rfl (Gd.f (b:=false) rfl rfl) FxVerS.ag37 (.u rfl) (fun _=>Rd.own .here (by first|exact wap_f rfl|rfl)) ?_))))
 refine cp rfl (Gd.f (b:=false) rfl rfl) (.u rfl) (.u rfl) rfl (pkO rfl .no (.u rfl) (.u rfl) (.nil (.code (.cond rfl (fun c1=>?_) (fun c1=>?_)))))
 ·have c1k:=c1
  try simp only [qcA,qcC,qcB] at c1
  refine .seq (rq1 rfl rfl (aS rfl rfl (.nil (.code (.ret (We.fin Tryz.results95 (.tmp rfl .nil) (mS .here rfl mN) ?_))))))
  exact ⟨0,xs,e,s,rd_num_bad (by simpa using c1k),rfl,rfl,hs⟩
 have c1k:=c1
 try simp only [qcA,qcC,qcB] at c1
 refine .skip (.code (.seq (Wk.rg [0,1,2,3,4,5,6,7,8,9,10,11] rfl rfl (mV rfl rfl (nc rfl .no (.u rfl) (fz rfl .no FxVerS.fo175_0 (.u rfl) (ld rfl .no FxVerS.ag34 (.u rfl) (fun _=>Rd.own .here (by first|exact wap_f rfl|rfl)) ?_)))))))
 refine kc rfl Fx.go124 (Evc rfl Evn) (number_ok xs s _ hs hl) ?_
 rintro _ G20 μ20 hG20 ⟨n20,k20,e20,hN,rfl,rfl⟩
 have hNl:=hN.le; have hNt:=hN.lt
 have hs:=hs.mono hG20
 refine mV rfl rfl (ex rfl .no (.u rfl) rfl (ex rfl .no (.u rfl) rfl (ex rfl .no (.u rfl) rfl (aS rfl rfl (aS rfl rfl (aS rfl rfl (.nil (.code (.seq (rq5 rfl rfl (mV rfl rfl (mV rfl rfl (nc rfl .no (.u rfl) (fz rfl .no FxVerS.fo175_1 (.u rfl) (s1 rfl (.u rfl) (.u rfl) rfl Fx.sz37 .here (by first|decide|(simp only [wa_len,ba_len,qlA]; omega)) (rfl) ?_)))))))))))))))
 refine .nil (.code (.seq (rq10 rfl rfl (mV rfl rfl (mV rfl rfl (nc rfl .no (.u rfl) (fz rfl .no FxVerS.fo175_0 (.u rfl) (ld rfl .no FxVerS.ag34 (.u rfl) (fun _=>Rd.own .here (by first|exact wap_f rfl|rfl)) ?_))))))))
 refine mV rfl rfl (kD (k20) rfl .no FxVerR.se34 hs (.u rfl) (.u rfl) (fun _=>by omega) (fun _=>by omega) ?_)
 intro h34 L34 eL34 lL34 hs34
 have lL34:=lL34 rfl
 refine nc rfl .no (.u rfl) (fz rfl .no FxVerS.fo175_0 (.u rfl) (s1 rfl (.u rfl) (.u rfl) rfl FxVerS.sz34 .here (show 0<2 by decide) (rfl) ?_))
 refine .nil (.code (.seq (rq2 rfl rfl (mV rfl rfl (aS rfl rfl (.nil (.code (.ret (We.fin Tryz.results95 (.tmp rfl .nil) (mS .here rfl mN) ?_)))))))))
 exact ⟨n20,L34,e20,h34,rd_num_ok (by simpa using c1k) hN eL34,rfl,rfl,hs34⟩
theorem rStr_ok (xs:List Y) (e:Int) (s:Sh) (b:Nat) (G:PM) (hs:SlR G 1 encY s xs) (hl:xs.length≤100000000000000) (most:Nat) (hm:most≤100000000000000):Ct Tryz.prog 97 ([.pointer (some ⟨b,0,none⟩),.int .i64 (most:Int)]:List Value).toArray G [.blk b (cl [s.val xs.length,.int .i64 e] 175)] (fun G' μ' u=>∃ M L e' s',rdStr most ⟨xs,e⟩=(M,⟨L,e'⟩)∧μ'=[.blk b (cl [Sh.val s' L.length,.int .i64 e'] 175)]∧u=.string (bstr M)∧SlR G' 1 encY s' L):=by
 refine Ct.of Tryz.func97 rfl Tryz.ntmps97 rfl fun w0 hs0=>?_
 refine .seq (rq1 rfl rfl (aS rfl rfl (.nil (.code (.seq (.seq (rq9 rfl rfl (mV rfl rfl (pe rfl .no FxVerS.pt145 (.u rfl) (.u rfl) ?_)))))))))
 refine mV rfl rfl (mv rfl (Gd.f (b:=false) rfl rfl) (.u rfl) (nc rfl (Gd.f (b:=false) rfl rfl) (.u rfl) (fz rfl (Gd.f (b:=false) rfl rfl) FxVerS.fo175_1 (.u rfl) (ld rfl (Gd.f (b:=false) rfl rfl) FxVerS.ag37 (.u rfl) (fun _=>Rd.own .here (by first|exact wap_f rfl|rfl)) ?_))))
 refine cp rfl (Gd.f (b:=false) rfl rfl) (.u rfl) (.u rfl) rfl (pkO rfl .no (.u rfl) (.u rfl) (.nil (.code (.cond rfl (fun c1=>?_) (fun c1=>?_)))))
 ·have c1k:=c1
  try simp only [qcA,qcC,qcB] at c1
  refine .seq (rq1 rfl rfl (aS rfl rfl (.nil (.code (.ret (We.fin Tryz.results97 (.tmp rfl .nil) (mS .here rfl mN) ?_))))))
  exact ⟨[],xs,e,s,rd_str_bad (by simpa using c1k),rfl,rfl,hs⟩
 have c1k:=c1
 try simp only [qcA,qcC,qcB] at c1
 refine .skip (.code (.seq (Wk.rg [0,1,2,3,4,5,6,7,8,9,10,11] rfl rfl (mV rfl rfl (nc rfl .no (.u rfl) (fz rfl .no FxVerS.fo175_0 (.u rfl) (ld rfl .no FxVerS.ag34 (.u rfl) (fun _=>Rd.own .here (by first|exact wap_f rfl|rfl)) ?_)))))))
 refine kc rfl Fx.go124 (Evc rfl Evn) (number_ok xs s _ hs hl) ?_
 rintro _ G24 μ24 hG24 ⟨n20,k20,e20,hN,rfl,rfl⟩
 have hNl:=hN.le; have hNt:=hN.lt
 have hs:=hs.mono hG24
 refine mV rfl rfl (ex rfl .no (.u rfl) rfl (ex rfl .no (.u rfl) rfl (ex rfl .no (.u rfl) rfl (aS rfl rfl (aS rfl rfl (aS rfl rfl (.nil (.code (.seq (.block (.seq (rq3 rfl rfl (mV rfl rfl (cp rfl .no (.u rfl) (.u rfl) rfl (aS rfl rfl (.nil (.code (.cond rfl (fun c2=>?_) (fun c2=>?_)))))))))))))))))))
 ·have c2k:=c2
  try simp only [qcA,qcC,qcB] at c2
  refine .seq (rq5 rfl rfl (mV rfl rfl (mV rfl rfl (nc rfl .no (.u rfl) (fz rfl .no FxVerS.fo175_1 (.u rfl) (s1 rfl (.u rfl) (.u rfl) rfl Fx.sz37 .here (by first|decide|(simp only [wa_len,ba_len,qlA]; omega)) (rfl) ?_))))))
  refine .nil (.code (.seq (rq1 rfl rfl (aS rfl rfl (.nil (.code (.ret (We.fin Tryz.results97 (.tmp rfl .nil) (mS .here rfl mN) ?_))))))))
  exact ⟨[],xs,e20,s,rd_str_form (by simpa using c1k) hN (by simpa using c2k),rfl,rfl,hs⟩
 have c2k:=c2
 try simp only [qcA,qcC,qcB] at c2
 refine .seq (rq6 rfl rfl (mV rfl rfl (mV rfl rfl (mAn (0) (most) rfl .no (.u rfl) (.u rfl) (fun _=>by omega) (fun _=>by omega) ?_))))
 refine cw rfl .no FxVerR.cv3_24 (.u rfl) (fun _=>wrap_u64 (by omega) (by omega)) ?_
 refine cp rfl .no (.u rfl) (.u rfl) rfl (aS rfl rfl (.nil (.code (.cond rfl (fun c3=>?_) (fun c3=>?_)))))
 ·have c3k:=c3
  try simp only [qcA,qcC,qcB] at c3
  refine .seq (rq4 rfl rfl (mV rfl rfl (nc rfl .no (.u rfl) (fz rfl .no FxVerS.fo175_1 (.u rfl) (s1 rfl (.u rfl) (.u rfl) rfl Fx.sz37 .here (by first|decide|(simp only [wa_len,ba_len,qlA]; omega)) (rfl) ?_)))))
  refine .nil (.code (.seq (rq1 rfl rfl (aS rfl rfl (.nil (.code (.ret (We.fin Tryz.results97 (.tmp rfl .nil) (mS .here rfl mN) ?_))))))))
  exact ⟨[],xs,4,s,rd_str_long (by simpa using c1k) hN (by simpa using c2k) (by omega),rfl,rfl,hs⟩
 have c3k:=c3
 try simp only [qcA,qcC,qcB] at c3
 refine .seq (Wk.rg [0,1,2,3,4,5,6,7,8,9,10] rfl rfl (mV rfl rfl (mV rfl rfl (nc rfl .no (.u rfl) (fz rfl .no FxVerS.fo175_0 (.u rfl) (ld rfl .no FxVerS.ag34 (.u rfl) (fun _=>Rd.own .here (by first|exact wap_f rfl|rfl)) ?_))))))
 refine ln rfl .no FxVerR.sn34 (.u rfl) (mV rfl rfl (ar rfl .no (.u rfl) (.u rfl) rfl (fun _=>wrap_i64 (by omega) (by omega)) ?_))
 refine cw rfl .no FxVerR.cv3_24 (.u rfl) (fun _=>wrap_u64 (by omega) (by omega)) ?_
 refine cp rfl .no (.u rfl) (.u rfl) rfl (aS rfl rfl (.nil (.code (.cond rfl (fun c4=>?_) (fun c4=>?_)))))
 ·have c4k:=c4
  try simp only [qcA,qcC,qcB] at c4
  refine .seq (rq4 rfl rfl (mV rfl rfl (nc rfl .no (.u rfl) (fz rfl .no FxVerS.fo175_1 (.u rfl) (s1 rfl (.u rfl) (.u rfl) rfl Fx.sz37 .here (by first|decide|(simp only [wa_len,ba_len,qlA]; omega)) (rfl) ?_)))))
  refine .nil (.code (.seq (rq1 rfl rfl (aS rfl rfl (.nil (.code (.ret (We.fin Tryz.results97 (.tmp rfl .nil) (mS .here rfl mN) ?_))))))))
  exact ⟨[],xs,10,s,rd_str_short (by simpa using c1k) hN (by simpa using c2k) (by omega) (by omega),rfl,rfl,hs⟩
 have c4k:=c4
 try simp only [qcA,qcC,qcB] at c4
 refine .skip (.blk (.code (.seq (rq5 rfl rfl (mV rfl rfl (mV rfl rfl (cw rfl .no Fx.cv24_3 (.u rfl) (fun _=>wrap_i64 (by omega) (by omega)) ?_)))))))
 refine arn (((k20+n20):Nat):Int) rfl .no (.u rfl) (.u rfl) rfl (fun _=>by omega) (fun _=>wrap_i64 (by omega) (by omega)) ?_
 refine aS rfl rfl (.nil (.code (.seq (rq9 rfl rfl (mV rfl rfl (nc rfl .no (.u rfl) (fz rfl .no FxVerS.fo175_0 (.u rfl) (ld rfl .no FxVerS.ag34 (.u rfl) (fun _=>Rd.own .here (by first|exact wap_f rfl|rfl)) ?_))))))))
 refine mV rfl rfl (mV rfl rfl (kS (k20) ((k20+n20)) rfl .no FxVerR.se34 hs (.u rfl) (.u rfl) (.u rfl) (fun _=>by omega) (fun _=>by omega) (fun _=>by omega) (fun _=>by omega) ?_))
 intro h68 L68 eL68 lL68 hs68
 have lL68:=lL68 rfl
 refine sB rfl .no FxVerS.bs34_9 (.u rfl) (fun _=>hs68.sc) ?_
 refine aS rfl rfl (.nil (.code (.seq (rq10 rfl rfl (mV rfl rfl (mV rfl rfl (nc rfl .no (.u rfl) (fz rfl .no FxVerS.fo175_0 (.u rfl) (ld rfl .no FxVerS.ag34 (.u rfl) (fun _=>Rd.own .here (by first|exact wap_f rfl|rfl)) ?_)))))))))
 refine mV rfl rfl (kD ((k20+n20)) rfl .no FxVerR.se34 hs (.u rfl) (.u rfl) (fun _=>by omega) (fun _=>by omega) ?_)
 intro h76 L76 eL76 lL76 hs76
 have lL76:=lL76 rfl
 refine nc rfl .no (.u rfl) (fz rfl .no FxVerS.fo175_0 (.u rfl) (s1 rfl (.u rfl) (.u rfl) rfl FxVerS.sz34 .here (by first|decide|(simp only [wa_len,ba_len,qlA]; omega)) (rfl) ?_))
 refine .nil (.code (.seq (rq2 rfl rfl (mV rfl rfl (aS rfl rfl (.nil (.code (.ret (We.fin Tryz.results97 (.tmp rfl .nil) (mS .here rfl mN) ?_)))))))))
 obtain rfl:e=0:=by simpa using c1k
 exact ⟨L68,L76,0,h76,rd_str_ok rfl hN (by simpa using c2k) (by omega) (by omega) eL68 eL76,rfl,rfl,hs76⟩
theorem rFix_ok (xs:List Y) (e:Int) (s:Sh) (b:Nat) (G:PM) (hs:SlR G 1 encY s xs) (hl:xs.length≤100000000000000):Ct Tryz.prog 93 ([.pointer (some ⟨b,0,none⟩),.int .i64 ((1:Nat):Int)]:List Value).toArray G [.blk b (cl [s.val xs.length,.int .i64 e] 175)] (fun G' μ' u=>∃ y L e' s',rdByte ⟨xs,e⟩=(y,⟨L,e'⟩)∧μ'=[.blk b (cl [Sh.val s' L.length,.int .i64 e'] 175)]∧u=uv .u64 (y.setWidth 64)∧SlR G' 1 encY s' L):=by
 refine Ct.of Tryz.func93 rfl Tryz.ntmps93 rfl fun w0 hs0=>?_
 refine .seq (rq1 rfl rfl (aS rfl rfl (.nil (.code (.seq (.seq (rq9 rfl rfl (mV rfl rfl (pe rfl .no FxVerS.pt145 (.u rfl) (.u rfl) ?_)))))))))
 refine mV rfl rfl (mv rfl (Gd.f (b:=false) rfl rfl) (.u rfl) (nc rfl (Gd.f (b:=false) rfl rfl) (.u rfl) (fz rfl (Gd.f (b:=false) rfl rfl) FxVerS.fo175_1 (.u rfl) (ld rfl (Gd.f (b:=false) rfl rfl) FxVerS.ag37 (.u rfl) (fun _=>Rd.own .here (by first|exact wap_f rfl|rfl)) ?_))))
 refine cp rfl (Gd.f (b:=false) rfl rfl) (.u rfl) (.u rfl) rfl (pkO rfl .no (.u rfl) (.u rfl) (.nil (.code (.cond rfl (fun c1=>?_) (fun c1=>?_)))))
 ·have c1k:=c1
  try simp only [qcA,qcC,qcB] at c1
  refine .seq (rq1 rfl rfl (aS rfl rfl (.nil (.code (.ret (We.fin Tryz.results93 (.tmp rfl .nil) (mS .here rfl mN) ?_))))))
  exact ⟨0,xs,e,s,rd_byte_bad (by simpa using c1k),rfl,rfl,hs⟩
 have c1k:=c1
 try simp only [qcA,qcC,qcB] at c1
 refine .skip (.code (.seq (.seq (rq6 rfl rfl (mV rfl rfl (cp rfl .no (.u rfl) (.u rfl) rfl (mV rfl rfl (mv rfl (.f rfl rfl) (.u rfl) (cp rfl (.f rfl rfl) (.s rfl) (.u rfl) rfl (pkO rfl .no (.u rfl) (.s rfl) (.nil (.code (.cond rfl (fun c2=>?_) (fun c2=>?_))))))))))))))
 ·have c2k:=c2
  exact absurd c2 (by decide)
 have c2k:=c2
 try simp only [qcA,qcC,qcB] at c2
 refine .skip (.code (.seq (.seq (rq7 rfl rfl (mV rfl rfl (mV rfl rfl (nc rfl .no (.u rfl) (fz rfl .no FxVerS.fo175_0 (.u rfl) (ld rfl .no FxVerS.ag34 (.u rfl) (fun _=>Rd.own .here (by first|exact wap_f rfl|rfl)) ?_)))))))))
 refine ln rfl .no FxVerR.sn34 (.u rfl) (cp rfl .no (.u rfl) (.u rfl) rfl (.nil (.code (.cond rfl (fun c3=>?_) (fun c3=>?_)))))
 ·have c3k:=c3
  try simp only [qcA,qcC,qcB] at c3
  refine .seq (rq4 rfl rfl (mV rfl rfl (nc rfl .no (.u rfl) (fz rfl .no FxVerS.fo175_1 (.u rfl) (s1 rfl (.u rfl) (.u rfl) rfl Fx.sz37 .here (by first|decide|(simp only [wa_len,ba_len,qlA]; omega)) (rfl) ?_)))))
  refine .nil (.code (.seq (rq1 rfl rfl (aS rfl rfl (.nil (.code (.ret (We.fin Tryz.results93 (.tmp rfl .nil) (mS .here rfl mN) ?_))))))))
  exact ⟨0,xs,10,s,rd_byte_short (by simpa using c1k) (by omega),rfl,rfl,hs⟩
 have c3k:=c3
 try simp only [qcA,qcC,qcB] at c3
 refine .skip (.code (.seq (rq1 rfl rfl (aS rfl rfl (.nil (.code (.seq (.seq (rq2 rfl rfl (mV rfl rfl (mV rfl rfl (.nil (.code (.block ?_))))))))))))))
 refine Wk.lop (α:=Nat×BitVec 64) (fun gh=>[(5,true,uv .u64 gh.2),(36,true,.int .i64 (gh.1:Int))]) (fun _=>[])
  (fun gh Gl=>(gh.1≤1)∧(gh.2=if gh.1=0 then 0#64 else (xs.getD 0 0).setWidth 64)) (fun gh=>1-gh.1) (0,0#64) [(0,true,_),(1,true,_),(35,true,_)] [_]
  (esD rfl (esC rfl (by first|rfl|exact evi (by omega)) (esD rfl (esD rfl (esD rfl eZ)))))
  (mS .here rfl mN) ?_ ?_
 ·refine ⟨?_,?_⟩
  ·(try dsimp only)<;>(first|omega|rfl|assumption|(simp; done))
  (try dsimp only)<;>(rfl)
 intro gh N0 Gl0 hN0 hGl0 hF0
 obtain ⟨k,m⟩:=gh; dsimp only at hF0 hN0 ⊢
 obtain ⟨hk,em⟩:=hF0
 have hs:=hs.mono hGl0
 refine .seq (rq1 rfl rfl (cp rfl .no (.u rfl) (.u rfl) rfl (.nil (.code (.seq (.cond rfl (fun c4=>?_) (fun c4=>?_)))))))
 ·have c4k:=c4
  try simp only [qcA,qcC,qcB] at c4
  refine .skip (.code (.seq (.block (.seq (rq2 rfl rfl (mV rfl rfl (aS rfl rfl (.nil (.code (Wk.rg [0,1,2,3,4,5,6,7,8,9,10,11,12,13] rfl rfl (mV rfl rfl (mV rfl rfl (nc rfl .no (.u rfl) (fz rfl .no FxVerS.fo175_0 (.u rfl) (ld rfl .no FxVerS.ag34 (.u rfl) (fun _=>Rd.own .here (by first|exact wap_f rfl|rfl)) ?_)))))))))))))))
  refine mV rfl rfl (ih rfl .no FxVerR.se34 (.u rfl) (.u rfl) (fun _=>by omega) (fun _=>by omega) (fun _=>hs.nn (k:=k) (by omega)) ?_)
  refine ld rfl .no FxVerR.ag5 (.u rfl) (fun _=>(hs.yat (k) (by omega) (by omega)).rd) ?_
  refine cu (k:=.u8) rfl .no rfl FxVerR.cv5_24 (.u rfl) ?_
  refine mV rfl rfl (arn (((8*k):Nat):Int) rfl .no (.u rfl) (.u rfl) rfl (fun _=>by omega) (fun _=>wrap_i64 (by omega) (by omega)) ?_)
  refine lw (k:=.u64) rfl .no rfl (.u rfl) (.u rfl) (fun _=>by omega) ?_
  refine bw (k:=.u64) rfl .no rfl (.u rfl) (.u rfl) rfl (aS rfl rfl (.nil (.blk (.code (rq2 rfl rfl (arn (((k+1):Nat):Int) rfl .no (.u rfl) (.u rfl) rfl (fun _=>by omega) (fun _=>wrap_i64 (by omega) (by omega)) ?_))))))
  refine mV rfl rfl (.nil (We.lpo (k+1,m ||| (xs.getD k 0).setWidth 64 <<< (8*k)) ?_ ?_ ?_ ?_ ?_))
  ·exact (esD rfl (esC rfl (by first|rfl|exact evi (by omega)) (esD rfl (esD rfl (esD rfl eZ)))))
  ·exact (mS .here rfl mN)
  ·first|omega|(dsimp only; omega)
  ·exact hGl0
  refine ⟨?_,?_⟩
  ·(try dsimp only)<;>(first|omega|rfl|assumption|(simp; done))
  (try dsimp only)<;>((obtain rfl:k=0:=by omega); rw [em,if_pos rfl]; simp)
 have c4k:=c4
 try simp only [qcA,qcC,qcB] at c4
 refine .exit (.xcode (.xlp (.xblk (.code (.seq (rq10 rfl rfl (mV rfl rfl (mV rfl rfl (nc rfl .no (.u rfl) (fz rfl .no FxVerS.fo175_0 (.u rfl) (ld rfl .no FxVerS.ag34 (.u rfl) (fun _=>Rd.own .here (by first|exact wap_f rfl|rfl)) ?_)))))))))))
 refine mV rfl rfl (kD (1) rfl .no FxVerR.se34 hs (.u rfl) (.u rfl) (fun _=>by omega) (fun _=>by omega) ?_)
 intro h59 L59 eL59 lL59 hs59
 have lL59:=lL59 rfl
 refine nc rfl .no (.u rfl) (fz rfl .no FxVerS.fo175_0 (.u rfl) (s1 rfl (.u rfl) (.u rfl) rfl FxVerS.sz34 .here (by first|decide|(simp only [wa_len,ba_len,qlA]; omega)) (rfl) ?_))
 refine .nil (.code (.seq (rq2 rfl rfl (mV rfl rfl (aS rfl rfl (.nil (.code (.ret (We.fin Tryz.results93 (.tmp rfl .nil) (mS .here rfl mN) ?_)))))))))
 obtain rfl:k=1:=by omega
 obtain rfl:e=0:=by simpa using c1k
 exact ⟨_,L59,0,h59,rd_byte_ok rfl (by omega) eL59,rfl,by rw [em]; rfl,hs59⟩
theorem rFault_ok (xs:List Y) (e:Int) (s:Sh) (b:Nat) (G:PM) (hp:RdNP G b 0 [s.val xs.length,.int .i64 e]):Ct Tryz.prog 96 ([.pointer (some ⟨b,0,none⟩)]:List Value).toArray G [] (fun _ μ' u=>μ'=[]∧u=.int .i64 e):=by
 refine Ct.of Tryz.func96 rfl Tryz.ntmps96 rfl fun w0 hs0=>?_
 refine .seq (rq1 rfl rfl (aS rfl rfl (.nil (.code (.seq (.seq (rq2 rfl rfl (mV rfl rfl (pe rfl .no FxVerS.pt145 (.u rfl) (.u rfl) ?_)))))))))
 refine .nil (.code (Wk.condF rfl rfl ?_))
 refine .skip (.code (.seq (rq5 rfl rfl (mV rfl rfl (nc rfl .no (.u rfl) (fz rfl .no FxVerS.fo175_1 (.u rfl) (ld rfl .no FxVerS.ag37 (.u rfl) (fun _=>(hp.z rfl).rd) ?_)))))))
 refine aS rfl rfl (.nil (.code (.ret (We.fin0 Tryz.results96 (.tmp rfl .nil) ?_))))
 exact ⟨rfl,rfl⟩
theorem rLeft_ok (xs:List Y) (e:Int) (s:Sh) (b:Nat) (G:PM) (hp:RdNP G b 0 [s.val xs.length,.int .i64 e]):Ct Tryz.prog 125 ([.pointer (some ⟨b,0,none⟩)]:List Value).toArray G [] (fun _ μ' u=>μ'=[]∧u=.int .i64 (xs.length:Int)):=by
 refine Ct.of Tryz.func125 rfl Tryz.ntmps125 rfl fun w0 hs0=>?_
 refine .seq (rq1 rfl rfl (aS rfl rfl (.nil (.code (.seq (.seq (rq2 rfl rfl (mV rfl rfl (pe rfl .no FxVerS.pt145 (.u rfl) (.u rfl) ?_)))))))))
 refine .nil (.code (Wk.condF rfl rfl ?_))
 refine .skip (.code (.seq (rq6 rfl rfl (mV rfl rfl (nc rfl .no (.u rfl) (fz rfl .no FxVerS.fo175_0 (.u rfl) (ld rfl .no FxVerS.ag34 (.u rfl) (fun _=>(hp.z rfl).rd) ?_)))))))
 refine ln rfl .no FxVerR.sn34 (.u rfl) (aS rfl rfl (.nil (.code (.ret (We.fin0 Tryz.results125 (.tmp rfl .nil) ?_)))))
 exact ⟨rfl,rfl⟩
theorem rEnd_ok (xs:List Y) (e:Int) (s:Sh) (b:Nat) (G:PM) (hp:RdNP G b 0 [s.val xs.length,.int .i64 e]):Ct Tryz.prog 98 ([.pointer (some ⟨b,0,none⟩)]:List Value).toArray G [] (fun _ μ' u=>μ'=[]∧u=.int .i64 (endI xs e)):=by
 refine Ct.of Tryz.func98 rfl Tryz.ntmps98 rfl fun w0 hs0=>?_
 refine .seq (rq1 rfl rfl (aS rfl rfl (.nil (.code (.seq (.seq (rq8 rfl rfl (mV rfl rfl (kv rfl .no Fx.go96 (Evc rfl Evn) (fun _=>rFault_ok xs e s b _ hp) ?_)))))))))
 refine cp rfl .no (.u rfl) (.u rfl) rfl (mV rfl rfl (mv rfl (.t rfl rfl) (.u rfl) (kv rfl (.t rfl rfl) Fx.go125 (Eva.cons (.s rfl) Evn) (fun hc=>rLeft_ok xs e s b _ hp) ?_)))
 refine cp rfl (.t rfl rfl) (.s rfl) (.u rfl) rfl (pkA rfl .no (.u rfl) (.s rfl) (.nil (.code (.cond rfl (fun c1=>?_) (fun c1=>?_)))))
 ·have c1k:=c1
  try simp only [qcA,qcB] at c1
  refine .seq (rq1 rfl rfl (aS rfl rfl (.nil (.code (.ret (We.fin0 Tryz.results98 (.tmp rfl .nil) ?_))))))
  exact ⟨rfl,congrArg (Value.int .i64) (by unfold endI; rw [if_pos (by simpa using c1k)])⟩
 have c1k:=c1
 try simp only [qcA,qcB] at c1
 refine .skip (.code (.seq (rq3 rfl rfl (mV rfl rfl (kv rfl .no Fx.go96 (Evc rfl Evn) (fun _=>rFault_ok xs e s b _ hp) ?_)))))
 refine aS rfl rfl (.nil (.code (.ret (We.fin0 Tryz.results98 (.tmp rfl .nil) ?_))))
 exact ⟨rfl,congrArg (Value.int .i64) (by unfold endI; rw [if_neg (by simpa using c1k)])⟩
namespace Fx
theorem fo26_0:fOff Tryz.prog 26 0=some 0:=by kernel_rfl
theorem fo26_1:fOff Tryz.prog 26 1=some 1:=by kernel_rfl
theorem fo26_2:fOff Tryz.prog 26 2=some 2:=by kernel_rfl
theorem ag24:aggN Tryz.prog 24=some none:=by kernel_rfl
theorem zq125:zrL Tryz.prog 125=some (ba 12 (fun _=>0#8)):=by kernel_rfl
theorem sz125:szT Tryz.prog 125=some 12:=by kernel_rfl
theorem fo26_3:fOff Tryz.prog 26 3=some 3:=by kernel_rfl
theorem fo26_4:fOff Tryz.prog 26 4=some 4:=by kernel_rfl
theorem bp119_0_1_2:bPl Tryz.prog 119 [0,1,2]=some ([.int .u64 0,.int .u64 0,.int .u64 0],[(0,1),(1,1),(2,1)]):=by kernel_rfl
theorem ar119:arE Tryz.prog 119=some (3,24,1):=by kernel_rfl
end Fx
theorem nRight_ok (h:Hd) (G:PM):Ct Tryz.prog 22 ([.agg ([V h.kind,V h.level,uv .u64 h.gen,uv .u64 h.epoch,uv .u64 h.num]:List Value).toArray]:List Value).toArray G [] (fun _ μ' u=>μ'=[]∧u=.bool h.right):=by
 refine Ct.of Tryz.func22 rfl Tryz.ntmps22 rfl fun w0 hs0=>?_
 refine .seq (rq2 rfl rfl ?_)
 refine bx rfl (.u rfl) rfl ?_; intro b1
 refine aS rfl rfl (.nil (.code (.seq (.seq (rq2 rfl rfl (fz rfl .no Fx.fo26_0 (.u rfl) (ld rfl .no Fx.ag5 (.u rfl) (fun _=>Rd.own .here (by first|exact wap_f rfl|rfl)) ?_)))))))
 refine .nil (.code (.block (.seq (rq2 rfl rfl (cp rfl .no (.u rfl) (.u rfl) rfl (aS rfl rfl (.nil (.code (.cond rfl (fun c1=>?_) (fun c1=>?_))))))))))
 ·have c1k:=c1
  try simp only [qcA,qcB] at c1
  refine .seq (rq4 rfl rfl (fz rfl .no Fx.fo26_1 (.u rfl) (ld rfl .no Fx.ag5 (.u rfl) (fun _=>Rd.own .here (by first|exact wap_f rfl|rfl)) ?_)))
  refine cp rfl .no (.u rfl) (.u rfl) rfl (aS rfl rfl (.nil (.code (.ret (We.fin0 Tryz.results22 (.tmp rfl .nil) ?_)))))
  exact ⟨rfl,congrArg Value.bool (Hd.right2 c1).symm⟩
 have c1k:=c1
 try simp only [qcA,qcB] at c1
 refine .seq (.seq (rq2 rfl rfl (cp rfl .no (.u rfl) (.u rfl) rfl (aS rfl rfl (.nil (.code (.cond rfl (fun c2=>?_) (fun c2=>?_))))))))
 ·have c2k:=c2
  try simp only [qcA,qcB] at c2
  refine .skip (.code (Wk.condT rfl c2k ?_))
  refine .seq (rq9 rfl rfl (fz rfl .no Fx.fo26_1 (.u rfl) (ld rfl .no Fx.ag5 (.u rfl) (fun _=>Rd.own .here (by first|exact wap_f rfl|rfl)) ?_)))
  refine cp rfl .no (.u rfl) (.u rfl) rfl (mV rfl rfl (fz rfl (.t rfl rfl) Fx.fo26_2 (.u rfl) (ld rfl (.t rfl rfl) Fx.ag24 (.s rfl) (fun hc=>Rd.own .here (by first|exact wap_f rfl|rfl)) ?_)))
  refine cp rfl (.t rfl rfl) (.s rfl) (.u rfl) rfl (pkA rfl .no (.u rfl) (.s rfl) (aS rfl rfl (.nil (.code (.ret (We.fin0 Tryz.results22 (.tmp rfl .nil) ?_))))))
  exact ⟨rfl,congrArg Value.bool (Hd.right1 c2).symm⟩
 have c2k:=c2
 try simp only [qcA,qcB] at c2
 refine rq2 rfl rfl (cp rfl .no (.u rfl) (.u rfl) rfl (aS rfl rfl (.nil (.code (.cond rfl (fun c3=>?_) (fun c3=>?_))))))
 ·have c3k:=c3
  try simp only [qcA,qcB] at c3
  refine .seq (rq9 rfl rfl (fz rfl .no Fx.fo26_1 (.u rfl) (ld rfl .no Fx.ag5 (.u rfl) (fun _=>Rd.own .here (by first|exact wap_f rfl|rfl)) ?_)))
  refine cp rfl .no (.u rfl) (.u rfl) rfl (mV rfl rfl (fz rfl (.t rfl rfl) Fx.fo26_2 (.u rfl) (ld rfl (.t rfl rfl) Fx.ag24 (.s rfl) (fun hc=>Rd.own .here (by first|exact wap_f rfl|rfl)) ?_)))
  refine cp rfl (.t rfl rfl) (.s rfl) (.u rfl) rfl (pkA rfl .no (.u rfl) (.s rfl) (aS rfl rfl (.nil (.code (.ret (We.fin0 Tryz.results22 (.tmp rfl .nil) ?_))))))
  exact ⟨rfl,congrArg Value.bool (Hd.right3 c3).symm⟩
 have c3k:=c3
 try simp only [qcA,qcB] at c3
 refine .skip (.blk (.code (.seq (rq1 rfl rfl (aS rfl rfl (.nil (.code (.ret (We.fin0 Tryz.results22 (.tmp rfl .nil) ?_)))))))))
 exact ⟨rfl,congrArg Value.bool (Hd.right0 c2 c1 c3).symm⟩
theorem Nonce_ok (n:BitVec 64) (G:PM):Ct Tryz.prog 73 ([uv .u64 n]:List Value).toArray G [] (fun _ μ' u=>μ'=[]∧u=.agg (ba 12 (nonceF n)).toArray):=by
 refine Ct.of Tryz.func73 rfl Tryz.ntmps73 rfl fun w0 hs0=>?_
 refine .seq (rq1 rfl rfl ?_)
 refine al rfl Fx.zq125 ?_; intro b2
 refine .nil (.code (.seq (rq1 rfl rfl ?_)))
 refine al rfl Fx.zq125 ?_; intro b3
 refine .nil (.code (.seq (.seq (rq1 rfl rfl (mV rfl rfl (.nil (.code (.block ?_))))))))
 refine Wk.lop (α:=Nat×(Nat→Y)) (fun gh=>[(5,true,.int .i64 (gh.1:Int))]) (fun gh=>[.blk b3 (cl (ba 12 gh.2) 125)])
  (fun gh Gl=>(gh.1≤8)∧(gh.2=outs (nonceF n) gh.1)) (fun gh=>8-gh.1) (0,fun _=>0#8) [(0,true,_),(2,true,_),(3,true,_)] [_]
  (esC rfl (by first|rfl|exact evi (by omega)) (esD rfl (esD rfl (esD rfl eZ))))
  (mS .here rfl (mS .here rfl mN)) ?_ ?_
 ·refine ⟨?_,?_⟩
  ·(try dsimp only)<;>(first|omega|rfl|assumption|(simp; done))
  (try dsimp only)<;>(first|omega|rfl|assumption|(simp; done))
 intro gh N0 Gl0 hN0 hGl0 hF0
 obtain ⟨k,f⟩:=gh; dsimp only at hF0 hN0 ⊢
 obtain ⟨hk,ef⟩:=hF0
 refine .seq (rq1 rfl rfl (cp rfl .no (.u rfl) (.u rfl) rfl (.nil (.code (.seq (.cond rfl (fun c1=>?_) (fun c1=>?_)))))))
 ·have c1k:=c1
  try simp only [qcA,qcB] at c1
  refine .skip (.code (.seq (.block (.seq (rq2 rfl rfl (mV rfl rfl (aS rfl rfl (.nil (.code (rq8 rfl rfl (mV rfl rfl (mV rfl rfl (mV rfl rfl (arn (((8*k):Nat):Int) rfl .no (.u rfl) (.u rfl) rfl (fun _=>by omega) (fun _=>wrap_i64 (by omega) (by omega)) ?_))))))))))))))
  refine rw' (k:=.u64) rfl .no (.u rfl) (.u rfl) (fun _=>by omega) ?_
  refine cu (k:=.u64) rfl .no rfl Fx.cv24_5 (.u rfl) ?_
  refine iA rfl .no Fx.ar125 (.u rfl) (.u rfl) (fun _=>by omega) (fun _=>by omega) ?_
  refine s1 rfl (.u rfl) (.u rfl) rfl Fx.sz5 .here (by first|decide|(simp only [wa_len,ba_len,qlA]; omega)) (by first|exact wa_set1 (k) (by omega)|exact ba_set1 (k) (by omega)|exact wap_set1 (k) (by omega) (by omega)|rfl) ?_
  refine .nil (.blk (.code (rq2 rfl rfl (arn (((k+1):Nat):Int) rfl .no (.u rfl) (.u rfl) rfl (fun _=>by omega) (fun _=>wrap_i64 (by omega) (by omega)) ?_))))
  refine mV rfl rfl (.nil (We.lpo (k+1,upd f k ((n >>> (8*k)).setWidth 8)) ?_ ?_ ?_ ?_ ?_))
  ·exact (esC rfl (by first|rfl|exact evi (by omega)) (esD rfl (esD rfl (esD rfl eZ))))
  ·exact (mS .here rfl (mS .here rfl mN))
  ·first|omega|(dsimp only; omega)
  ·exact hGl0
  refine ⟨?_,?_⟩
  ·(try dsimp only)<;>(first|omega|rfl|assumption|(simp; done))
  (try dsimp only)<;>(exact outs_step1 ef (by unfold nonceF; rw [if_pos (by omega)]))
 have c1k:=c1
 try simp only [qcA,qcB] at c1
 refine .exit (.xcode (.xlp (.xblk (.code (.seq (rq2 rfl rfl (lA rfl .no Fx.ag125 (.u rfl) (fun _=>RdN.own .here) (fun _=>(by first|exact qE|exact qL|rfl)) ?_)))))))
 refine sw rfl (.u rfl) (.u rfl) rfl Fx.sz125 tk1 (by first|exact qE|exact qL|rfl) (by first|exact ba_one _ _|exact wa_one _ _|exact one_V _|decide|exact one_app (wa_one _ _) (by simp [Value.oneCell'])) ?_
 refine .nil (.code (.ret (We.fin0 Tryz.results73 (.cell rfl (fun w hw=>run_loadVarN Fx.ag125 (RdN.own .here) ((by first|exact qE|exact qL|rfl)) hw) .nil) ?_)))
 obtain rfl:k=8:=by omega
 exact ⟨rfl,by rw [ef,ba_congr (fun i hi=>nonce_outs n hi)]; rfl⟩
theorem nLay_ok (h:Hd) (G:PM):Ct Tryz.prog 26 ([.agg ([V h.kind,V h.level,uv .u64 h.gen,uv .u64 h.epoch,uv .u64 h.num]:List Value).toArray]:List Value).toArray G [] (PR 5 (fun L=>L=headL h)):=by
 refine Ct.of Tryz.func26 rfl Tryz.ntmps26 rfl fun w0 hs0=>?_
 refine .seq (rq2 rfl rfl ?_)
 refine bx rfl (.u rfl) rfl ?_; intro b1
 refine aS rfl rfl (.nil (.code (.seq (rq9 rfl rfl ?_))))
 refine Go.Tan.bN rfl Fx.se34 Fx.zv5 (Evp.cons (.u rfl) (Evp.cons (.u rfl) (Evp.cons (.u rfl) (Evp.cons (.u rfl) Evp.nil)))) rfl (by decide) (by simp [Value.oneCell',Sh.val]) ?_; intro b6
 refine mkS [116#8,97#8,110#8,116#8] rfl rfl Fx.cst34 (.u rfl) .here rfl rfl (by decide) ?_; intro G7 hG7 hs7
 refine fz rfl .no Fx.fo26_0 (.u rfl) (ld rfl .no Fx.ag5 (.u rfl) (fun _=>Rd.own .here (by first|exact wap_f rfl|rfl)) ?_)
 refine fz rfl .no Fx.fo26_1 (.u rfl) (ld rfl .no Fx.ag5 (.u rfl) (fun _=>Rd.own .here (by first|exact wap_f rfl|rfl)) ?_)
 refine Go.Tan.bN rfl Fx.se34 Fx.zv5 (Evp.cons (.u rfl) (Evp.cons (.u rfl) Evp.nil)) rfl (by decide) (one2 rfl rfl) ?_; intro b12
 refine apF (.inr rfl) rfl Fx.se34 Fx.zv5 (.u rfl) (.u rfl) hs7 rfl (Sc.blk (ys:=[h.kind,h.level]) .here rfl rfl) (by (try simp only [List.length_cons,List.length_nil]); omega) (by (try simp only [List.length_cons,List.length_nil]); omega) (by (try simp only [List.length_cons,List.length_nil]); omega) ?_; intro v13 L13 ov13 eL13
 have lL13:L13.length=[116#8,97#8,110#8,116#8].length+2:=by rw [eL13,List.length_append]; first|rfl | simp [yl_len]
 refine aS rfl rfl (.nil (.code (.seq (.seq (rq8 rfl rfl (fz rfl .no Fx.fo26_2 (.u rfl) (ld rfl .no Fx.ag24 (.u rfl) (fun _=>Rd.own tk2 (by first|exact wap_f rfl|rfl)) ?_)))))))
 refine fz rfl .no Fx.fo26_3 (.u rfl) (ld rfl .no Fx.ag24 (.u rfl) (fun _=>Rd.own tk2 (by first|exact wap_f rfl|rfl)) ?_)
 refine fz rfl .no Fx.fo26_4 (.u rfl) (ld rfl .no Fx.ag24 (.u rfl) (fun _=>Rd.own tk2 (by first|exact wap_f rfl|rfl)) ?_)
 refine bC rfl .no Fx.bp119_0_1_2 (.cons (.u rfl) rfl (.cons (.u rfl) rfl (.cons (.u rfl) rfl .nil))) rfl ?_
 refine mV rfl rfl (.nil (.code (.block ?_)))
 refine Wk.lop (α:=Nat×Value×List Y) (fun gh=>[(3,true,gh.2.1),(21,true,.int .i64 (gh.1:Int))]) (fun gh=>[rB gh.2.1 5 gh.2.2])
  (fun gh Gl=>(gh.1≤3)∧(gh.2.2=h.some gh.1)) (fun gh=>3-gh.1) (0,_,_) [(20,true,_)] [_,_]
  (esD rfl (esC rfl (by first|rfl|exact evi (by omega)) (esD rfl eZ)))
  (mS .here rfl (mS .here rfl (mS .here rfl mN))) ?_ ?_
 ·refine ⟨?_,?_⟩
  ·(try dsimp only)<;>(first|omega|rfl|assumption|(simp; done))
  (try dsimp only)<;>(rw [eL13]; rfl)
 intro gh N0 Gl0 hN0 hGl0 hF0
 obtain ⟨k,v,L⟩:=gh; dsimp only at hF0 hN0 ⊢
 obtain ⟨hk,eL⟩:=hF0
 have lL:L.length=6+8*k:=by rw [eL,Hd.some_len]
 refine .seq (rq1 rfl rfl (cp rfl .no (.u rfl) (.u rfl) rfl (.nil (.code (.seq (.cond rfl (fun c1=>?_) (fun c1=>?_)))))))
 ·have c1k:=c1
  try simp only [qcA,qcB] at c1
  refine .skip (.code (.seq (.block (.seq (rq2 rfl rfl (ix rfl .no Fx.ar119 Fx.ag24 (.u rfl) (.u rfl) (fun _=>by omega) (fun _=>by omega) (fun _=>Hd.three_at (by omega)) ?_))))))
  refine aS rfl rfl (.nil (.code ?_))
  refine wk_fb .here (by first|(intro b hb; cases hb; done) | simp [keys,Res.keys]) ?_; intro GfR13 hR13 hleR13 evR13 hsR13; subst evR13
  refine rq4 rfl rfl (mV rfl rfl (mV rfl rfl (kc rfl Fx.go35 (Evc rfl (Evc rfl (Evc rfl Evn))) (Ct.rowc (Fix_ok L _ _ 8 _ hsR13 (by omega) (by decide))) ?_)))
  rintro v26 G26 μ26 hG26 ⟨L26,ov26,eL26,rfl⟩
  refine aS rfl rfl (.nil (.blk (.code (rq2 rfl rfl (arn (((k+1):Nat):Int) rfl .no (.u rfl) (.u rfl) rfl (fun _=>by omega) (fun _=>wrap_i64 (by omega) (by omega)) ?_)))))
  refine mV rfl rfl (.nil (We.lpo (k+1,v26,L26) ?_ ?_ ?_ ?_ ?_))
  ·exact (esD rfl (esC rfl (by first|rfl|exact evi (by omega)) (esD rfl eZ)))
  ·exact (mS .here rfl (mS .here rfl (mS .here rfl mN)))
  ·first|omega|(dsimp only; omega)
  ·exact ((hGl0).trans hleR13).trans hG26
  refine ⟨?_,?_⟩
  ·(try dsimp only)<;>(first|omega|rfl|assumption|(simp; done))
  (try dsimp only)<;>(rw [eL26,eL,Hd.some_succ]; rfl)
 have c1k:=c1
 try simp only [qcA,qcB] at c1
 refine .exit (.xcode (.xlp (.xblk (.code (.seq (rq2 rfl rfl (mV rfl rfl (aS rfl rfl (.nil (.code (.ret (We.fin Tryz.results26 (.tmp rfl .nil) (mS .here rfl mN) ?_))))))))))))
 obtain rfl:k=3:=by omega
 exact ⟨L,by rw [eL,Hd.some_all],rfl⟩
theorem rnRight_ok (h:Hd) (G:PM):Ct Tryz.prog 37 ([.agg ([V h.kind,V h.level,uv .u64 h.gen,uv .u64 h.epoch,uv .u64 h.num]:List Value).toArray]:List Value).toArray G [] (fun _ μ' u=>μ'=[]∧u=.bool h.right):=by
 refine Ct.of Tryz.func37 rfl Tryz.ntmps37 rfl fun w0 hs0=>?_
 refine .seq (rq2 rfl rfl ?_)
 refine bx rfl (.u rfl) rfl ?_; intro b1
 refine aS rfl rfl (.nil (.code (.seq (.seq (rq3 rfl rfl (fz rfl .no Fx.fo26_0 (.u rfl) (ld rfl .no Fx.ag5 (.u rfl) (fun _=>Rd.own .here (by first|exact wap_f rfl|rfl)) ?_)))))))
 refine cp rfl .no (.u rfl) (.u rfl) rfl (.nil (.code (.cond rfl (fun c1=>?_) (fun c1=>?_))))
 ·have c1k:=c1
  try simp only [qcA,qcB] at c1
  refine .seq (rq4 rfl rfl (fz rfl .no Fx.fo26_1 (.u rfl) (ld rfl .no Fx.ag5 (.u rfl) (fun _=>Rd.own .here (by first|exact wap_f rfl|rfl)) ?_)))
  refine cp rfl .no (.u rfl) (.u rfl) rfl (aS rfl rfl (.nil (.code (.ret (We.fin0 Tryz.results37 (.tmp rfl .nil) ?_)))))
  exact ⟨rfl,congrArg Value.bool (Hd.right2 c1).symm⟩
 have c1k:=c1
 try simp only [qcA,qcB] at c1
 refine .skip (.code (.seq (Wk.rg [0,1,2,3,4,5,6,7,8,9,10,11,12,13,14,15,16,17,18] rfl rfl (fz rfl .no Fx.fo26_0 (.u rfl) (ld rfl .no Fx.ag5 (.u rfl) (fun _=>Rd.own .here (by first|exact wap_f rfl|rfl)) ?_)))))
 refine cp rfl .no (.u rfl) (.u rfl) rfl (mV rfl rfl (fz rfl (.f rfl rfl) Fx.fo26_0 (.u rfl) (ld rfl (.f rfl rfl) Fx.ag5 (.s rfl) (fun hc=>Rd.own .here (by first|exact wap_f rfl|rfl)) ?_)))
 refine cp rfl (.f rfl rfl) (.s rfl) (.u rfl) rfl (pkO rfl .no (.u rfl) (.s rfl) (mV rfl rfl (fz rfl (.t rfl rfl) Fx.fo26_1 (.u rfl) (ld rfl (.t rfl rfl) Fx.ag5 (.s rfl) (fun hc=>Rd.own .here (by first|exact wap_f rfl|rfl)) ?_))))
 refine cp rfl (.t rfl rfl) (.s rfl) (.u rfl) rfl (pkA rfl .no (.u rfl) (.s rfl) (mV rfl rfl (fz rfl (.t rfl rfl) Fx.fo26_2 (.u rfl) (ld rfl (.t rfl rfl) Fx.ag24 (.s rfl) (fun hc=>Rd.own .here (by first|exact wap_f rfl|rfl)) ?_))))
 refine cp rfl (.t rfl rfl) (.s rfl) (.u rfl) rfl (pkA rfl .no (.u rfl) (.s rfl) (aS rfl rfl (.nil (.code (.ret (We.fin0 Tryz.results37 (.tmp rfl .nil) ?_))))))
 refine ⟨rfl,congrArg Value.bool ?_⟩
 exact Hd.rightR c1
theorem rNonce_ok (n:BitVec 64) (G:PM):Ct Tryz.prog 85 ([uv .u64 n]:List Value).toArray G [] (fun _ μ' u=>μ'=[]∧u=.agg (ba 12 (nonceF n)).toArray):=by
 refine Ct.of Tryz.func85 rfl Tryz.ntmps85 rfl fun w0 hs0=>?_
 refine .seq (rq1 rfl rfl ?_)
 refine al rfl Fx.zq125 ?_; intro b2
 refine .nil (.code (.seq (rq1 rfl rfl ?_)))
 refine al rfl Fx.zq125 ?_; intro b3
 refine .nil (.code (.seq (rq3 rfl rfl (mV rfl rfl (kc rfl Fx.go51 (Evc rfl (Evc rfl Evn)) (Ct.rowc (fFix_ok _ 8 _ (by decide))) ?_)))))
 rintro v7 G7 μ7 hG7 ⟨L7,ov7,eL7,rfl⟩
 refine aS rfl rfl (.nil ?_)
 have lL7:L7.length=8:=by rw [eL7]; exact fix_len _ _
 refine .code (.seq (.seq ?_))
 refine wk_fb .here (by first|(intro b hb; cases hb; done) | simp [keys,Res.keys]) ?_; intro GfR7 hR7 hleR7 evR7 hsR7; subst evR7
 refine rq1 rfl rfl (aS rfl rfl (.nil (.code (.block ?_))))
 refine Wk.lop (α:=Nat×(Nat→Y)) (fun gh=>[(5,true,.int .i64 (gh.1:Int))]) (fun gh=>[.blk b3 (cl (ba 12 gh.2) 125)])
  (fun gh Gl=>(gh.1≤8)∧(gh.2=outs (nonceF n) gh.1)) (fun gh=>8-gh.1) (0,fun _=>0#8) [(2,true,_),(3,true,_),(4,true,_)] [_]
  (esC rfl (by first|rfl|exact evi (by omega)) (esD rfl (esD rfl (esD rfl eZ))))
  (mS .here rfl (mS .here rfl mN)) ?_ ?_
 ·refine ⟨?_,?_⟩
  ·(try dsimp only)<;>(first|omega|rfl|assumption|(simp; done))
  (try dsimp only)<;>(first|omega|rfl|assumption|(simp; done))
 intro gh N0 Gl0 hN0 hGl0 hF0
 obtain ⟨k,f⟩:=gh; dsimp only at hF0 hN0 ⊢
 obtain ⟨hk,ef⟩:=hF0
 have hsR7:=hsR7.mono hGl0
 refine .seq (.seq (rq2 rfl rfl (mV rfl rfl (cp rfl .no (.u rfl) (.u rfl) rfl (.nil (.code (.cond rfl (fun c1=>?_) (fun c1=>?_))))))))
 ·have c1k:=c1
  try simp only [qcA,qcB] at c1
  refine .skip (.code (.seq (.block (rq7 rfl rfl (mV rfl rfl (mV rfl rfl (mV rfl rfl (ih rfl .no Fx.se34 (.u rfl) (.u rfl) (fun _=>by omega) (fun _=>by omega) (fun _=>hsR7.nn (k:=k) (by omega)) ?_))))))))
  refine ld rfl .no Fx.ag5 (.u rfl) (fun _=>(hsR7.yat (k) (by omega) (by omega)).rd) ?_
  refine iA rfl .no Fx.ar125 (.u rfl) (.u rfl) (fun _=>by omega) (fun _=>by omega) ?_
  refine s1 rfl (.u rfl) (.u rfl) rfl Fx.sz5 .here (by first|decide|(simp only [wa_len,ba_len,qlA]; omega)) (by first|exact wa_set1 (k) (by omega)|exact ba_set1 (k) (by omega)|exact wap_set1 (k) (by omega) (by omega)|rfl) ?_
  refine .nil (.blk (.code (rq3 rfl rfl (mV rfl rfl (arn (((k+1):Nat):Int) rfl .no (.u rfl) (.u rfl) rfl (fun _=>by omega) (fun _=>wrap_i64 (by omega) (by omega)) ?_)))))
  refine aS rfl rfl (.nil (We.lpo (k+1,upd f k (L7.getD k 0)) ?_ ?_ ?_ ?_ ?_))
  ·exact (esC rfl (by first|rfl|exact evi (by omega)) (esD rfl (esD rfl (esD rfl eZ))))
  ·exact (mS .here rfl (mS .here rfl mN))
  ·first|omega|(dsimp only; omega)
  ·exact hGl0
  refine ⟨?_,?_⟩
  ·(try dsimp only)<;>(first|omega|rfl|assumption|(simp; done))
  (try dsimp only)<;>(exact outs_step1 ef (by rw [eL7]; exact fix_nonce (by omega)))
 have c1k:=c1
 try simp only [qcA,qcB] at c1
 refine .exit (.xcode (.xlp (.xblk (.code (.seq (rq2 rfl rfl (lA rfl .no Fx.ag125 (.u rfl) (fun _=>RdN.own .here) (fun _=>(by first|exact qE|exact qL|rfl)) ?_)))))))
 refine sw rfl (.u rfl) (.u rfl) rfl Fx.sz125 tk1 (by first|exact qE|exact qL|rfl) (by first|exact ba_one _ _|exact wa_one _ _|exact one_V _|decide|exact one_app (wa_one _ _) (by simp [Value.oneCell'])) ?_
 refine .nil (.code (.ret (We.fin0 Tryz.results85 (.cell rfl (fun w hw=>run_loadVarN Fx.ag125 (RdN.own .here) ((by first|exact qE|exact qL|rfl)) hw) .nil) ?_)))
 obtain rfl:k=8:=by omega
 exact ⟨rfl,by rw [ef,ba_congr (fun i hi=>nonce_outs n hi)]; rfl⟩
theorem rnLay_ok (h:Hd) (G:PM):Ct Tryz.prog 42 ([.agg ([V h.kind,V h.level,uv .u64 h.gen,uv .u64 h.epoch,uv .u64 h.num]:List Value).toArray]:List Value).toArray G [] (PR 5 (fun L=>L=headL h)):=by
 refine Ct.of Tryz.func42 rfl Tryz.ntmps42 rfl fun w0 hs0=>?_
 refine .seq (rq2 rfl rfl ?_)
 refine bx rfl (.u rfl) rfl ?_; intro b1
 refine aS rfl rfl (.nil (.code (.seq (rq6 rfl rfl (fz rfl .no Fx.fo26_0 (.u rfl) (ld rfl .no Fx.ag5 (.u rfl) (fun _=>Rd.own .here (by first|exact wap_f rfl|rfl)) ?_))))))
 refine fz rfl .no Fx.fo26_1 (.u rfl) (ld rfl .no Fx.ag5 (.u rfl) (fun _=>Rd.own .here (by first|exact wap_f rfl|rfl)) ?_)
 refine Go.Tan.bN rfl Fx.se34 Fx.zv5 (Evp.cons (.u rfl) (Evp.cons (.u rfl) (Evp.cons (.u rfl) (Evp.cons (.u rfl) (Evp.cons (.u rfl) (Evp.cons (.u rfl) Evp.nil)))))) rfl (by decide) (one6 rfl rfl rfl rfl rfl rfl) ?_; intro b8
 refine aS rfl rfl (.nil (.code (.seq (wk_br [116#8,97#8,110#8,116#8,h.kind,h.level] 6 .here rfl rfl (by decide) ?_))))
 have lR8:([116#8,97#8,110#8,116#8,h.kind,h.level]:List Y).length=6:=rfl
 refine rq6 rfl rfl (mV rfl rfl (fz rfl .no Fx.fo26_2 (.u rfl) (ld rfl .no Fx.ag24 (.u rfl) (fun _=>Rd.own tk1 (by first|exact wap_f rfl|rfl)) ?_)))
 refine kc rfl Fx.go51 (Evc rfl (Evc rfl Evn)) (Ct.frzB (fFix_ok _ 8 _ (by decide))) ?_
 rintro _ G12 μ12 hG12 ⟨h12,L12,eL12,rfl,rfl,hs12⟩
 have lL12:L12.length=8:=by rw [eL12]; exact fix_len _ _
 refine apY rfl Fx.se34 Fx.zv5 (.u rfl) (.u rfl) .here hs12.sc (by (try simp only [qlA,yl_len]); omega) ?_
 intro v13 L13 ov13 eL13
 have lL13:L13.length=[116#8,97#8,110#8,116#8,h.kind,h.level].length+L12.length:=by rw [eL13,List.length_append]
 refine aS rfl rfl (.nil (.code (.seq (rq6 rfl rfl (mV rfl rfl (fz rfl .no Fx.fo26_3 (.u rfl) (ld rfl .no Fx.ag24 (.u rfl) (fun _=>Rd.own tk1 (by first|exact wap_f rfl|rfl)) ?_)))))))
 refine kc rfl Fx.go51 (Evc rfl (Evc rfl Evn)) (Ct.frzB (fFix_ok _ 8 _ (by decide))) ?_
 rintro _ G17 μ17 hG17 ⟨h17,L17,eL17,rfl,rfl,hs17⟩
 have lL17:L17.length=8:=by rw [eL17]; exact fix_len _ _
 refine apY rfl Fx.se34 Fx.zv5 (.u rfl) (.u rfl) .here hs17.sc (by (try simp only [qlA,yl_len]); omega) ?_
 intro v18 L18 ov18 eL18
 have lL18:L18.length=L13.length+L17.length:=by rw [eL18,List.length_append]
 refine aS rfl rfl (.nil (.code (.seq (rq6 rfl rfl (mV rfl rfl (fz rfl .no Fx.fo26_4 (.u rfl) (ld rfl .no Fx.ag24 (.u rfl) (fun _=>Rd.own tk1 (by first|exact wap_f rfl|rfl)) ?_)))))))
 refine kc rfl Fx.go51 (Evc rfl (Evc rfl Evn)) (Ct.frzB (fFix_ok _ 8 _ (by decide))) ?_
 rintro _ G22 μ22 hG22 ⟨h22,L22,eL22,rfl,rfl,hs22⟩
 have lL22:L22.length=8:=by rw [eL22]; exact fix_len _ _
 refine apY rfl Fx.se34 Fx.zv5 (.u rfl) (.u rfl) .here hs22.sc (by (try simp only [qlA,yl_len]); omega) ?_
 intro v23 L23 ov23 eL23
 have lL23:L23.length=L18.length+L22.length:=by rw [eL23,List.length_append]
 refine aS rfl rfl (.nil (.code (.seq (rq2 rfl rfl (mV rfl rfl (aS rfl rfl (.nil (.code (.ret (We.fin Tryz.results42 (.tmp rfl .nil) (mS .here rfl mN) ?_))))))))))
 exact ⟨L23,by rw [eL23,eL18,eL13,eL12,eL17,eL22]; rfl,rfl⟩
theorem mac1_ok {G:PM} {b T:Nat} {hk h1:Sh} {key L1:List Y} (hle:PM.le G (G.add b (cl [h1.val L1.length] T))) (hsk:SlR G 1 encY hk key) (hs:SlR G 1 encY h1 L1) (hK:RdNP G 1 0 (wa 64 kW)) (hlk:key.length≤140737488351232) (hl:L1.length≤1000000000000000) :
  Ct Tryz.prog 135 ([hk.val key.length,.slice (some ⟨b,0,none⟩) 1 1]:List Value).toArray (G.add b (cl [h1.val L1.length] T)) [] (fun _ μ' u=>μ'=[]∧u=.agg (ba 32 (macL key L1)).toArray):=by
 have h:=macSum_ok key hk [(h1,L1)] ⟨some ⟨b,0,none⟩,1⟩ _ (hsk.mono hle) (SlP.one hle hs) (hK.mono hle) hlk (by simpa [catL] using hl) (by simp)
 rw [show catL [(h1,L1)]=L1 by simp [catL]] at h
 exact h
theorem Extract_ok (salt:List Y) (hk:Sh) (xs:List Y) (h:Sh) (G:PM) (hsk:SlR G 1 encY hk salt) (hs:SlR G 1 encY h xs) (hK:RdNP G 1 0 (wa 64 kW)) (hlk:salt.length≤140737488351232) (hl:xs.length≤1000000000000000):Ct Tryz.prog 108 ([hk.val salt.length,h.val xs.length]:List Value).toArray G [] (fun _ μ' u=>μ'=[]∧u=.agg (ba 32 (macL salt xs)).toArray):=by
 refine Ct.of Tryz.func108 rfl Tryz.ntmps108 rfl fun w0 hs0=>?_
 refine .seq (rq1 rfl rfl ?_)
 refine al rfl Fx.zq23 ?_; intro b4
 refine .nil (.code (.seq (rq5 rfl rfl (mV rfl rfl (mV rfl rfl ?_)))))
 refine Go.Tan.b1 rfl Fx.se53 Fx.zv34 (.u rfl) rfl rfl (by decide) ?_; intro b7
 refine kp rfl .no Fx.go135 (Evc rfl (Evc rfl Evn)) (Gp.add .here Gp.nil) (fun _ hle hq=>mac1_ok hle hsk hs hK hlk hl) ?_
 refine sw rfl (.u rfl) (.u rfl) rfl Fx.sz23 tk1 (by first|exact qE|exact qL|rfl) (by first|exact ba_one _ _|exact wa_one _ _|exact one_V _|decide|exact one_app (wa_one _ _) (by simp [Value.oneCell'])) ?_
 refine .nil (.code (.ret (We.fin0 Tryz.results108 (.cell rfl (fun w hw=>run_loadVarN Fx.ag23 (RdN.own .here) ((by first|exact qE|exact qL|rfl)) hw) .nil) ?_)))
 exact ⟨rfl,rfl⟩
theorem SlP.three {G:PM} {b T:Nat} {h1 h2 h3:Sh} {L1 L2 L3:List Y} (hle:PM.le G (G.add b (cl [h1.val L1.length,h2.val L2.length,h3.val L3.length] T))) (hs:SlR G 1 encY h1 L1) (hs2:SlR G 1 encY h2 L2) (hs3:SlR G 1 encY h3 L3) :
  SlP (G.add b (cl [h1.val L1.length,h2.val L2.length,h3.val L3.length] T)) ⟨some ⟨b,0,none⟩,3⟩ [(h1,L1),(h2,L2),(h3,L3)] :=
 ⟨SlR.ofBlk (T:=T) (PM.add_same _ _ _) (fun _ _=>rfl) (by simp),fun p hp=>by
  simp only [List.mem_cons,List.not_mem_nil,or_false] at hp
  rcases hp with rfl|rfl|rfl
  ·exact hs.mono hle
  ·exact hs2.mono hle
  ·exact hs3.mono hle⟩
theorem mac3_row {G:PM} {b c T T' E lo:Nat} {hk hu s:Sh} {key use L:List Y} {y:Y} (hsk:SlR G 1 encY hk key) (hsu:SlR G 1 encY hu use) (hK:RdNP G 1 0 (wa 64 kW)) (hlo:lo≤L.length) (hlk:key.length≤140737488351232) (hl:L.length+use.length≤100000000000000) :
  Ct Tryz.prog 135 ([hk.val key.length,.slice (some ⟨c,0,none⟩) 3 3]:List Value).toArray G [rB (s.val L.length) E L,.blk b (cl [V y] T),.blk c (cl [(s.cut lo 1).val (L.length-lo),hu.val use.length,.slice (some ⟨b,0,none⟩) 1 1] T')]
   (fun _ μ' u=>∃ ν,μ'=rB (s.val L.length) E L :: ν∧∃ ν2,ν=.blk b (cl [V y] T) :: ν2∧∃ ν3,ν2=.blk c (cl [(s.cut lo 1).val (L.length-lo),hu.val use.length,.slice (some ⟨b,0,none⟩) 1 1] T') :: ν3∧ν3=[]∧u=.agg (ba 32 (macL key (L.drop lo++use++[y]))).toArray) :=
 Ct.lendB (fun s' G2 hle hv hs=>Ct.lendK (fun h1=>Ct.lendK (fun h2=>by
  obtain rfl:=Sh.val_inj hv
  have e1:SlR G2 1 encY (s.cut lo 1) (L.drop lo):=by
   have:=hs.cutn (lo:=lo) (m:=L.length-lo) (by omega)
   rwa [List.take_of_length_le (by simp)] at this
  have e2:SlR (G2.add b (cl [V y] T)) 1 encY ⟨some ⟨b,0,none⟩,1⟩ [y]:=SlR.ofBlk (T:=T) (PM.add_same _ _ _) (fun _ _=>rfl) (by simp)
  have e3:L.length-lo=(L.drop lo).length:=by simp
  rw [e3] at h2 ⊢
  have hP:=SlP.three (h1:=s.cut lo 1) (h2:=hu) (h3:=⟨some ⟨b,0,none⟩,1⟩) h2 (e1.mono h1) ((hsu.mono hle).mono h1) e2
  have h:=macSum_ok key hk _ ⟨some ⟨c,0,none⟩,3⟩ _ (((hsk.mono hle).mono h1).mono h2) hP (((hK.mono hle).mono h1).mono h2) hlk (by simp [catL]; omega) (by simp)
  rw [show catL [((s.cut lo 1),L.drop lo),(hu,use),((⟨some ⟨b,0,none⟩,1⟩ : Sh),[y])]=L.drop lo++use++[y] by simp [catL]] at h
  exact h)))
theorem Expand_ok (key:List Y) (hk:Sh) (use:List Y) (hu:Sh) (G:PM) (hsk:SlR G 1 encY hk key) (hsu:SlR G 1 encY hu use) (hK:RdNP G 1 0 (wa 64 kW)) (hlk:key.length≤1000) (hl:use.length≤1000000):Ct Tryz.prog 109 ([hk.val key.length,hu.val use.length,.int .i64 ((64:Nat):Int)]:List Value).toArray G [] (fun G' μ' u=>∃ s L,L=expL key use 2∧μ'=[]∧u=.tuple #[s.val L.length,.int .i64 0]∧SlR G' 1 encY s L):=by
 refine Ct.of Tryz.func109 rfl Tryz.ntmps109 rfl fun w0 hs0=>?_
 refine .seq (rq2 rfl rfl (aS rfl rfl (aS rfl rfl (.nil (.code (.seq (.seq (rq6 rfl rfl (mV rfl rfl (cp rfl .no (.u rfl) (.u rfl) rfl (mV rfl rfl (mv rfl (.f rfl rfl) (.u rfl) (cp rfl (.f rfl rfl) (.s rfl) (.u rfl) rfl (pkO rfl .no (.u rfl) (.s rfl) (.nil (.code (.cond rfl (fun c1=>?_) (fun c1=>?_))))))))))))))))))
 ·have c1k:=c1
  exact absurd c1 (by decide)
 have c1k:=c1
 try simp only [qcA,qcB] at c1
 refine .skip (.code (.seq (rq4 rfl rfl (mV rfl rfl (arn (((64+32):Nat):Int) rfl .no (.u rfl) (.u rfl) rfl (fun _=>by omega) (fun _=>wrap_i64 (by omega) (by omega)) ?_)))))
 refine mkY (0) ((64+32)) rfl Fx.se34 Fx.zv5 (.u rfl) (.u rfl) (by first|rfl|omega) (by first|rfl|omega) (by omega) (by omega) ?_; intro b19
 have lR19:(List.replicate (0) (0#8:Y)).length=0:=List.length_replicate
 refine aS rfl rfl (.nil (.code (.seq (.seq (rq1 rfl rfl (aS rfl rfl (.nil (.code (.block ?_)))))))))
 refine Wk.lop (α:=Nat×Value×List Y) (fun gh=>[(8,true,gh.2.1),(9,true,V (BitVec.ofNat 8 (gh.1+1)))]) (fun gh=>[rB gh.2.1 5 gh.2.2])
  (fun gh Gl=>(gh.1≤2)∧(gh.2.2=expL key use gh.1)) (fun gh=>2-gh.1) (0,_,_) [(0,true,_),(1,true,_),(2,true,_)] []
  (esD rfl (esD rfl (esD rfl (esD rfl (esD rfl eZ)))))
  (mS .here rfl mN) ?_ ?_
 ·refine ⟨?_,?_⟩
  ·(try dsimp only)<;>(first|omega|rfl|assumption|(simp; done))
  (try dsimp only)<;>(rfl)
 intro gh N0 Gl0 hN0 hGl0 hF0
 obtain ⟨j,v,L⟩:=gh; dsimp only at hF0 hN0 ⊢
 obtain ⟨hj,eL⟩:=hF0
 have hsk:=hsk.mono hGl0
 have hsu:=hsu.mono hGl0
 have hK:=hK.mono hGl0
 have lL:L.length=32*j:=by rw [eL,exp_len]
 refine .seq (.seq (rq4 rfl rfl (mV rfl rfl (lr rfl .no Fx.sn34 (.u rfl) .here ?_))))
 refine mV rfl rfl (cp rfl .no (.u rfl) (.u rfl) rfl (.nil (.code (.cond rfl (fun c2=>?_) (fun c2=>?_)))))
 ·have c2k:=c2
  try simp only [qcA,qcB] at c2
  refine .skip (.code (.seq (.block (.seq ?_))))
  refine wk_rs .here ?_; intro sR19 bbR19 evR19 lcR19 oaR19; subst evR19
  refine Wk.rg [0,1,2,3,4,5,6,7,8,9,10,11,12,13] rfl rfl (mV rfl rfl (mV rfl rfl (mV rfl rfl (lr rfl .no Fx.sn34 (.u rfl) .here ?_))))
  refine ar rfl .no (.u rfl) (.u rfl) rfl (fun _=>wrap_i64 (by omega) (by omega)) ?_
  refine mAq ((32*j-32:Nat):Int) rfl (.u rfl) (.u rfl) (by split<;>omega) ?_
  refine sd rfl .no Fx.se34 (.u rfl) (.u rfl) (fun _=>by omega) (fun _=>by omega) ?_
  refine mV rfl rfl (mV rfl rfl ?_)
  refine Go.Tan.b1 rfl Fx.se34 Fx.zv5 (.u rfl) rfl rfl (by decide) ?_; intro b35
  refine Go.Tan.bN rfl Fx.se53 Fx.zv34 (Evp.cons (.u rfl) (Evp.cons (.u rfl) (Evp.cons (.u rfl) Evp.nil))) rfl (by decide) (by simp [Value.oneCell',Sh.val]) ?_; intro b36
  refine ka rfl (.inr rfl) Fx.go135 (Evc rfl (Evc rfl Evn)) (mtk3 tk2 tk1 .here) (mac3_row (lo:=32*j-32) hsk hsu hK (by omega) (by omega) (by omega)) ?_
  rintro _ G37 μ37 hG37 ⟨_,rfl,_,rfl,_,rfl,rfl,rfl⟩
  refine al rfl Fx.zq23 ?_; intro b10
  refine sw rfl (.u rfl) (.u rfl) rfl Fx.sz23 .here (by first|exact qE|exact qL|rfl) (by first|exact ba_one _ _|exact wa_one _ _|exact one_V _|decide|exact one_app (wa_one _ _) (by simp [Value.oneCell'])) ?_
  refine .nil (.code (rq4 rfl rfl (mV rfl rfl (sa0 rfl .no Fx.ar23 (.u rfl) (apY rfl Fx.se34 Fx.zv5 (.u rfl) (.u rfl) tk1 (Sc.arr .here) (by (try simp only [qlA,yl_len]); omega) ?_)))))
  intro v40 L40 ov40 eL40
  have lL40:L40.length=L.length+32:=by rw [eL40,List.length_append]; first|rfl | simp [yl_len]
  refine aS rfl rfl (.nil (.blk (.code (rq3 rfl rfl (mV rfl rfl (bw (k:=.u8) (b:=1#8) rfl .no rfl (.u rfl) (.u rfl) rfl (aS rfl rfl (.nil (We.lpo (j+1,v40,L40) ?_ ?_ ?_ ?_ ?_)))))))))
  ·exact (esD rfl (esC rfl (by show V (BitVec.ofNat 8 (j+1)+1#8)=_; rw [← BitVec.ofNat_add]) (esD rfl (esD rfl (esD rfl eZ)))))
  ·exact (mS .here rfl mN)
  ·first|omega|(dsimp only; omega)
  ·exact (hGl0).trans hG37
  refine ⟨?_,?_⟩
  ·(try dsimp only)<;>(first|omega|rfl|assumption|(simp; done))
  (try dsimp only)<;>(rw [eL40,eL,exp_last]; rfl)
 have c2k:=c2
 try simp only [qcA,qcB] at c2
 refine .exit (.xcode (.xlp (.xblk (.code (.seq ?_)))))
 refine wk_fb .here (by first|(intro b hb; cases hb; done) | simp [keys,Res.keys]) ?_; intro GfR19 hR19 hleR19 evR19 hsR19; subst evR19
 refine rq6 rfl rfl (mV rfl rfl (mV rfl rfl (mV rfl rfl ?_)))
 refine kM 64 rfl Fx.se34 hsR19 (.u rfl) (.u rfl) (.u rfl) (by omega) ?_; intro h44 L44 eL44 lL44 hs44
 refine aS rfl rfl (aS rfl rfl (.nil (.code (.ret (We.fin0 Tryz.results109 (.tmp rfl (.tmp rfl .nil)) ?_)))))
 obtain rfl:j=2:=by omega
 exact ⟨h44,L44,by rw [eL44,eL]; exact List.take_of_length_le (by rw [exp_len]; omega),rfl,rfl,hs44⟩
namespace Fx
theorem zq65:zrL Tryz.prog 65=some (ba 32 (fun _=>0#8)++ba 32 (fun _=>0#8)):=by kernel_rfl
theorem go108:goFn Tryz.prog 108=true:=by kernel_rfl
theorem go109:goFn Tryz.prog 109=true:=by kernel_rfl
theorem bp65_0_1:bPl Tryz.prog 65 [0,1]=some (ba 32 (fun _=>0#8)++ba 32 (fun _=>0#8),[(0,32),(32,32)]):=by kernel_rfl
theorem sz65:szT Tryz.prog 65=some 64:=by kernel_rfl
theorem ag26:aggN Tryz.prog 26=some (some 5):=by kernel_rfl
theorem go26:goFn Tryz.prog 26=true:=by kernel_rfl
theorem go69:goFn Tryz.prog 69=true:=by kernel_rfl
theorem cv3_5:cvK Tryz.prog 3 5=some .u8:=by kernel_rfl
theorem go140:goFn Tryz.prog 140=true:=by kernel_rfl
theorem go42:goFn Tryz.prog 42=true:=by kernel_rfl
theorem go119:goFn Tryz.prog 119=true:=by kernel_rfl
end Fx
theorem Derive_ok (root:Nat→Y) (use:List Y) (hu:Sh) (G:PM) (hsu:SlR G 1 encY hu use) (hK:RdNP G 1 0 (wa 64 kW)) (hl:use.length≤1000000):Ct Tryz.prog 69 ([.agg (ba 32 root).toArray,hu.val use.length]:List Value).toArray G [] (fun _ μ' u=>μ'=[]∧u=.agg (ba 32 (keyEnc root use)++ba 32 (keyMac root use)).toArray):=by
 refine Ct.of Tryz.func69 rfl Tryz.ntmps69 rfl fun w0 hs0=>?_
 refine .seq (rq2 rfl rfl ?_)
 refine bx rfl (.u rfl) rfl ?_; intro b2
 refine al rfl Fx.zq65 ?_; intro b4
 refine .nil (.code (.seq ?_))
 refine wk_fz tk1 (by intro b hb; cases hb) ?_; intro Gfb2 hleb2 hbb2
 have hsu:=hsu.mono hleb2
 have hK:=hK.mono hleb2
 refine rq6 rfl rfl ?_
 refine Go.Tan.bN rfl Fx.se34 Fx.zv5 (Evp.cons (.u rfl) (Evp.cons (.u rfl) (Evp.cons (.u rfl) (Evp.cons (.u rfl) (Evp.cons (.u rfl) (Evp.cons (.u rfl) (Evp.cons (.u rfl) (Evp.cons (.u rfl) Evp.nil)))))))) rfl (by decide) (by simp [Value.oneCell',Sh.val]) ?_; intro b8
 refine mkS saltL rfl rfl Fx.cst34 (.u rfl) .here rfl rfl (by decide) ?_; intro G9 hG9 hs9
 have hsu:=hsu.mono hG9
 have hK:=hK.mono hG9
 have hbb2:=hbb2.mono hG9
 refine kA rfl .no Fx.ar23 (.u rfl) hbb2 (by first|exact ba_all|exact app_l|exact app_r) ?_; intro h10 L10 eL10 lL10 hs10
 refine kv rfl .no Fx.go108 (Evc rfl (Evc rfl Evn)) (fun _=>Extract_ok saltL _ L10 h10 _ hs9 hs10 hK (by decide) (by omega)) ?_
 refine al rfl Fx.zq23 ?_; intro b5
 refine sw rfl (.u rfl) (.u rfl) rfl Fx.sz23 .here (by first|exact qE|exact qL|rfl) (by first|exact ba_one _ _|exact wa_one _ _|exact one_V _|decide|exact one_app (wa_one _ _) (by simp [Value.oneCell'])) ?_
 refine .nil (.code (.seq ?_))
 refine wk_fz .here (by intro b hb; cases hb) ?_; intro Gfb5 hleb5 hbb5
 have hsu:=hsu.mono hleb5
 have hK:=hK.mono hleb5
 refine rq8 rfl rfl ?_
 refine kA rfl .no Fx.ar23 (.u rfl) hbb5 (by first|exact ba_all|exact app_l|exact app_r) ?_; intro h13 L13 eL13 lL13 hs13
 refine mV rfl rfl (kc rfl Fx.go109 (Evc rfl (Evc rfl (Evc rfl Evn))) (Expand_ok L13 h13 use hu _ hs13 hsu hK (by omega) hl) ?_)
 rintro _ G15 μ15 hG15 ⟨h15,L15,eL15,rfl,rfl,hs15⟩
 refine mV rfl rfl (ex rfl .no (.u rfl) rfl (ex rfl .no (.u rfl) rfl (aS rfl rfl ?_)))
 have lL15:L15.length=64:=by rw [eL15,exp_len]
 refine aS rfl rfl (.nil (.code (.seq (Wk.draw (mc:=⟨false,false⟩) [0,1,2,3,4,5,6,7,8,9] Fx.mix (by kernel_rfl) ?_))))
 refine mV rfl rfl (kE (32) rfl .no Fx.se34 hs15 (.u rfl) (.u rfl) (fun _=>by omega) (fun _=>by omega) ?_)
 intro h19 L19 eL19 lL19 hs19
 have lL19:=lL19 rfl
 refine spS rfl .no Fx.ar22 hs19 (.u rfl) (fun _=>by omega) (by decide) ?_
 refine lA rfl .no Fx.ag22 (.u rfl) (fun _=>(hs19.arr (m:=32) (by omega)).rd) (fun _=>ba_len _ _) ?_
 refine mV rfl rfl (kD (32) rfl .no Fx.se34 hs15 (.u rfl) (.u rfl) (fun _=>by omega) (fun _=>by omega) ?_)
 intro h23 L23 eL23 lL23 hs23
 have lL23:=lL23 rfl
 refine spS rfl .no Fx.ar22 hs23 (.u rfl) (fun _=>by omega) (by decide) ?_
 refine lA rfl .no Fx.ag22 (.u rfl) (fun _=>(hs23.arr (m:=32) (by omega)).rd) (fun _=>ba_len _ _) ?_
 refine bCe (ba 32 (fun i=>L19.getD i 0)++ba 32 (fun i=>L23.getD i 0)) rfl .no Fx.bp65_0_1 (.cons (.u rfl) rfl (.cons (.u rfl) rfl .nil)) rfl (key_put (by decide) _ _) ?_
 refine sw rfl (.u rfl) (.u rfl) rfl Fx.sz65 .here (by first|exact qE|exact qL|rfl) (key_one _ _) ?_
 refine .nil (.code (.ret (We.fin0 Tryz.results69 (.cell rfl (fun w hw=>run_loadVarN Fx.ag65 (RdN.own .here) ((by first|exact qE|exact qL|rfl)) hw) .nil) ?_)))
 have e:L15=deriveL root use:=by rw [eL15,eL13,eL10]; rfl
 exact ⟨rfl,congrArg (fun z=>Value.agg (List.toArray z)) (key_cells e eL19 eL23)⟩
theorem KeyOf_ok (root:Nat→Y) (h:Hd) (G:PM) (hK:RdNP G 1 0 (wa 64 kW)):Ct Tryz.prog 25 ([.agg (ba 32 root).toArray,.agg ([V h.kind,V h.level,uv .u64 h.gen,uv .u64 h.epoch,uv .u64 h.num]:List Value).toArray]:List Value).toArray G [] (fun _ μ' u=>μ'=[]∧u=.agg (ba 32 (keyEnc root (headL h))++ba 32 (keyMac root (headL h))).toArray):=by
 refine Ct.of Tryz.func25 rfl Tryz.ntmps25 rfl fun w0 hs0=>?_
 refine .seq (rq3 rfl rfl ?_)
 refine bx rfl (.u rfl) rfl ?_; intro b2
 refine bx rfl (.u rfl) rfl ?_; intro b3
 refine al rfl Fx.zq65 ?_; intro b4
 refine .nil (.code (.seq (Wk.draw (mc:=⟨false,false⟩) [0,1,2,3,4] Fx.mix (by kernel_rfl) ?_)))
 refine lA rfl .no Fx.ag23 (.u rfl) (fun _=>RdN.own tk2) (fun _=>(by first|exact qE|exact qL|rfl)) ?_
 refine lA rfl .no Fx.ag26 (.u rfl) (fun _=>RdN.own tk1) (fun _=>(by first|exact qE|exact qL|rfl)) ?_
 refine kc rfl Fx.go26 (Evc rfl Evn) (Ct.frzB (nLay_ok h _)) ?_
 rintro _ G7 μ7 hG7 ⟨h7,L7,eL7,rfl,rfl,hs7⟩
 have hK:=hK.mono hG7
 refine kv rfl .no Fx.go69 (Evc rfl (Evc rfl Evn)) (fun _=>Derive_ok root L7 h7 _ hs7 hK (by rw [eL7,head_len]; decide)) ?_
 refine sw rfl (.u rfl) (.u rfl) rfl Fx.sz65 .here (by first|exact qE|exact qL|rfl) (key_one _ _) ?_
 refine .nil (.code (.ret (We.fin0 Tryz.results25 (.cell rfl (fun w hw=>run_loadVarN Fx.ag65 (RdN.own .here) ((by first|exact qE|exact qL|rfl)) hw) .nil) ?_)))
 subst eL7
 exact ⟨rfl,rfl⟩
theorem rExpand_ok (key:List Y) (hk:Sh) (use:List Y) (hu:Sh) (G:PM) (hsk:SlR G 1 encY hk key) (hsu:SlR G 1 encY hu use) (hR:RdNP G 0 0 (wa 64 kW)) (hlk:key.length≤1000) (hl:use.length≤1000000):Ct Tryz.prog 140 ([hk.val key.length,hu.val use.length,.int .i64 ((64:Nat):Int)]:List Value).toArray G [] (fun G' μ' u=>∃ s L,L=expL key use 2∧μ'=[]∧u=.tuple #[s.val L.length,.int .i64 0]∧SlR G' 1 encY s L):=by
 refine Ct.of Tryz.func140 rfl Tryz.ntmps140 rfl fun w0 hs0=>?_
 refine .seq (rq2 rfl rfl (aS rfl rfl (aS rfl rfl (.nil (.code (.seq (.seq (rq6 rfl rfl (mV rfl rfl (cp rfl .no (.u rfl) (.u rfl) rfl (mV rfl rfl (mv rfl (.f rfl rfl) (.u rfl) (cp rfl (.f rfl rfl) (.s rfl) (.u rfl) rfl (pkO rfl .no (.u rfl) (.s rfl) (.nil (.code (.cond rfl (fun c1=>?_) (fun c1=>?_))))))))))))))))))
 ·have c1k:=c1
  exact absurd c1 (by decide)
 have c1k:=c1
 try simp only [qcA,qcB] at c1
 refine .skip (.code (.seq (rq1 rfl rfl (aS rfl rfl (.nil (.code (.seq (wk_nilB 5 ?_))))))))
 refine rq1 rfl rfl (aS rfl rfl (.nil (.code (.seq (.seq (wk_nilB 5 ?_))))))
 refine rq1 rfl rfl (aS rfl rfl (.nil (.code (.block ?_))))
 refine Wk.lop (α:=Nat×Value×List Y×Value×List Y) (fun gh=>[(8,true,gh.2.1),(9,true,gh.2.2.2.1),(10,true,.int .i64 ((gh.1+1:Nat):Int))]) (fun gh=>[rB gh.2.2.2.1 5 gh.2.2.2.2,rB gh.2.1 5 gh.2.2.1])
  (fun gh Gl=>(gh.1≤2)∧(gh.2.2.1=expL key use gh.1)∧(gh.2.2.2.2=expB key use gh.1)) (fun gh=>2-gh.1) (0,.slice none 0 0,[],.slice none 0 0,[]) [(0,true,_),(1,true,_),(2,true,_)] []
  (esD rfl (esD rfl (esC rfl (by first|rfl|exact evi (by omega)) (esD rfl (esD rfl (esD rfl eZ))))))
  (mS .here rfl (mS .here rfl mN)) ?_ ?_
 ·refine ⟨?_,?_,?_⟩
  ·(try dsimp only)<;>(first|omega|rfl|assumption|(simp; done))
  ·(try dsimp only)<;>(rfl)
  (try dsimp only)<;>(rfl)
 intro gh N0 Gl0 hN0 hGl0 hF0
 obtain ⟨j,v,A,u,B⟩:=gh; dsimp only at hF0 hN0 ⊢
 obtain ⟨hj,eA,eB⟩:=hF0
 have hsk:=hsk.mono hGl0
 have hsu:=hsu.mono hGl0
 have hR:=hR.mono hGl0
 have lA:A.length=32*j:=by rw [eA,exp_len]
 have lB:B.length≤32:=by rw [eB]; exact exp_len1 _ _ _
 refine .seq (.seq (rq4 rfl rfl (mV rfl rfl (lr rfl .no Fx.sn34 (.u rfl) tk1 ?_))))
 refine mV rfl rfl (cp rfl .no (.u rfl) (.u rfl) rfl (.nil (.code (.cond rfl (fun c2=>?_) (fun c2=>?_)))))
 ·have c2k:=c2
  try simp only [qcA,qcB] at c2
  refine .skip (.code (.seq (.block (.seq ?_))))
  refine wk_rs .here ?_; intro sRB bbRB evRB lcRB oaRB; subst evRB
  refine rq4 rfl rfl ?_
  refine b0B rfl Fx.se34 ?_; intro b25
  refine mV rfl rfl (apY0 rfl Fx.se34 Fx.zv5 (.u rfl) (.u rfl) .here (Sc.rowS tk1 oaRB) (show B.length≤140737488355328 by omega) ?_)
  intro v27 L27 _ ov27 eL27
  have lL27:L27.length=B.length:=by rw [eL27]
  refine aS rfl rfl (.nil (.code (.seq (rq4 rfl rfl (mV rfl rfl (mV rfl rfl (apY rfl Fx.se34 Fx.zv5 (.u rfl) (.u rfl) .here hsu.sc (by (try simp only [qlA,yl_len]); omega) ?_)))))))
  intro v30 L30 ov30 eL30
  have lL30:L30.length=L27.length+use.length:=by rw [eL30,List.length_append]
  refine aS rfl rfl (.nil (.code (.seq (rq6 rfl rfl (mV rfl rfl (mV rfl rfl (ci rfl .no rfl Fx.cv3_5 (.u rfl) ?_)))))))
  refine Go.Tan.b1 rfl Fx.se34 Fx.zv5 (.u rfl) rfl rfl (by decide) ?_; intro b34
  refine apY rfl Fx.se34 Fx.zv5 (.u rfl) (.u rfl) tk1 (Sc.one .here) (by show _+1≤_; omega) ?_
  intro v35 L35 ov35 eL35
  have lL35:L35.length=L30.length+1:=by rw [eL35,List.length_append]; first|rfl | simp [yl_len]
  refine aS rfl rfl (.nil (.code (.seq ?_)))
  refine wk_fb .here (by first|(intro b hb; cases hb; done) | simp [keys,Res.keys]) ?_; intro GfR27 hR27 hleR27 evR27 hsR27; subst evR27
  have hsk:=hsk.mono hleR27
  have hR:=hR.mono hleR27
  refine rq5 rfl rfl (mV rfl rfl (mV rfl rfl (kv rfl .no Fx.go139 (Evc rfl (Evc rfl Evn)) (fun _=>rmacSum_ok key hk L35 _ _ hsk hsR27 hR hlk (by omega)) ?_)))
  refine al rfl Fx.zq23 ?_; intro b12
  refine sw rfl (.u rfl) (.u rfl) rfl Fx.sz23 .here (by first|exact qE|exact qL|rfl) (by first|exact ba_one _ _|exact wa_one _ _|exact one_V _|decide|exact one_app (wa_one _ _) (by simp [Value.oneCell'])) ?_
  refine .nil (.code (.seq (rq4 rfl rfl ?_)))
  refine b0B rfl Fx.se34 ?_; intro b39
  refine sa0 rfl .no Fx.ar23 (.u rfl) (apY0 rfl Fx.se34 Fx.zv5 (.u rfl) (.u rfl) .here (Sc.arr tk1) (Nat.le_trans (Nat.le_of_eq (yl_len 32 _)) (by decide)) ?_)
  intro v41 L41 _ ov41 eL41
  have lL41:L41.length=32:=by rw [eL41]; first|rfl | simp [yl_len]
  refine aS rfl rfl (.nil (.code ?_))
  refine wk_rs .here ?_; intro sRB bbRB evRB lcRB oaRB; subst evRB
  refine rq4 rfl rfl (mV rfl rfl (mV rfl rfl (apY rfl Fx.se34 Fx.zv5 (.u rfl) (.u rfl) tk4 (Sc.rowS .here oaRB) (by (try simp only [qlA,yl_len]); omega) ?_)))
  intro v44 L44 ov44 eL44
  have lL44:L44.length=A.length+L41.length:=by rw [eL44,List.length_append]
  refine aS rfl rfl (.nil (.blk (.code (rq3 rfl rfl (mV rfl rfl (arn (((((j+1:Nat))+1):Nat):Int) rfl .no (.u rfl) (.u rfl) rfl (fun _=>by omega) (fun _=>wrap_i64 (by omega) (by omega)) ?_))))))
  refine aS rfl rfl (.nil (We.lpo (j+1,v44,L44,sRB.val L41.length,L41) ?_ ?_ ?_ ?_ ?_))
  ·exact (esD rfl (esD rfl (esC rfl (by first|rfl|exact evi (by omega)) (esD rfl (esD rfl (esD rfl eZ))))))
  ·exact (mS tk1 rfl (mS .here rfl mN))
  ·first|omega|(dsimp only; omega)
  ·exact (hGl0).trans hleR27
  refine ⟨?_,?_,?_⟩
  ·(try dsimp only)<;>(first|omega|rfl|assumption|(simp; done))
  ·(try dsimp only)<;>(rw [eL44,eA,eL41,eL35,eL30,eL27,eB]; exact exp_stepA _ _ _)
  (try dsimp only)<;>(rw [eL41,eL35,eL30,eL27,eB]; exact exp_stepB _ _ _)
 have c2k:=c2
 try simp only [qcA,qcB] at c2
 refine .exit (.xcode (.xlp (.xblk (.code (.seq ?_)))))
 refine wk_fb tk1 (by first|(intro b hb; cases hb; done) | simp [keys,Res.keys]) ?_; intro GfRA hRA hleRA evRA hsRA; subst evRA
 refine rq5 rfl rfl (mV rfl rfl (mV rfl rfl (kE (64) rfl .no Fx.se34 hsRA (.u rfl) (.u rfl) (fun _=>by omega) (fun _=>by omega) ?_)))
 intro h47 L47 eL47 lL47 hs47
 have lL47:=lL47 rfl
 refine aS rfl rfl (aS rfl rfl (.nil (.code (.ret (We.fin0 Tryz.results140 (.tmp rfl (.tmp rfl .nil)) ?_)))))
 obtain rfl:j=2:=by omega
 exact ⟨h47,L47,by rw [eL47,eA]; exact List.take_of_length_le (by rw [exp_len]; omega),rfl,rfl,hs47⟩
theorem rDerive_ok (root:Nat→Y) (use:List Y) (hu:Sh) (G:PM) (hsu:SlR G 1 encY hu use) (hR:RdNP G 0 0 (wa 64 kW)) (hl:use.length≤1000000):Ct Tryz.prog 119 ([.agg (ba 32 root).toArray,hu.val use.length]:List Value).toArray G [] (fun _ μ' u=>μ'=[]∧u=.agg (ba 32 (keyEnc root use)++ba 32 (keyMac root use)).toArray):=by
 refine Ct.of Tryz.func119 rfl Tryz.ntmps119 rfl fun w0 hs0=>?_
 refine .seq (rq2 rfl rfl ?_)
 refine bx rfl (.u rfl) rfl ?_; intro b2
 refine al rfl Fx.zq65 ?_; intro b4
 refine .nil (.code (.seq ?_))
 refine wk_fz tk1 (by intro b hb; cases hb) ?_; intro Gfb2 hleb2 hbb2
 have hsu:=hsu.mono hleb2
 have hR:=hR.mono hleb2
 refine rq6 rfl rfl ?_
 refine Go.Tan.bN rfl Fx.se34 Fx.zv5 (Evp.cons (.u rfl) (Evp.cons (.u rfl) (Evp.cons (.u rfl) (Evp.cons (.u rfl) (Evp.cons (.u rfl) (Evp.cons (.u rfl) (Evp.cons (.u rfl) (Evp.cons (.u rfl) Evp.nil)))))))) rfl (by decide) (by simp [Value.oneCell',Sh.val]) ?_; intro b10
 refine mkS saltL rfl rfl Fx.cst34 (.u rfl) .here rfl rfl (by decide) ?_; intro G11 hG11 hs11
 have hsu:=hsu.mono hG11
 have hR:=hR.mono hG11
 have hbb2:=hbb2.mono hG11
 refine kA rfl .no Fx.ar23 (.u rfl) hbb2 (by first|exact ba_all|exact app_l|exact app_r) ?_; intro h12 L12 eL12 lL12 hs12
 refine kv rfl .no Fx.go139 (Evc rfl (Evc rfl Evn)) (fun _=>rmacSum_ok saltL _ L12 h12 _ hs11 hs12 hR (by decide) (by omega)) ?_
 refine al rfl Fx.zq23 ?_; intro b5
 refine sw rfl (.u rfl) (.u rfl) rfl Fx.sz23 .here (by first|exact qE|exact qL|rfl) (by first|exact ba_one _ _|exact wa_one _ _|exact one_V _|decide|exact one_app (wa_one _ _) (by simp [Value.oneCell'])) ?_
 refine .nil (.code (.seq ?_))
 refine wk_fz .here (by intro b hb; cases hb) ?_; intro Gfb5 hleb5 hbb5
 have hsu:=hsu.mono hleb5
 have hR:=hR.mono hleb5
 refine rq8 rfl rfl ?_
 refine kA rfl .no Fx.ar23 (.u rfl) hbb5 (by first|exact ba_all|exact app_l|exact app_r) ?_; intro h15 L15 eL15 lL15 hs15
 refine mV rfl rfl (kc rfl Fx.go140 (Evc rfl (Evc rfl (Evc rfl Evn))) (rExpand_ok L15 h15 use hu _ hs15 hsu hR (by omega) hl) ?_)
 rintro _ G17 μ17 hG17 ⟨h17,L17,eL17,rfl,rfl,hs17⟩
 refine mV rfl rfl (ex rfl .no (.u rfl) rfl (ex rfl .no (.u rfl) rfl (aS rfl rfl ?_)))
 have lL17:L17.length=64:=by rw [eL17,exp_len]
 refine aS rfl rfl (.nil (.code (.seq (rq1 rfl rfl ?_))))
 refine al rfl Fx.zq65 ?_; intro b8
 refine .nil (.code (.seq (.seq (rq1 rfl rfl (aS rfl rfl (.nil (.code (.block ?_))))))))
 refine Wk.lop (α:=Nat) (fun k=>[(9,true,.int .i64 (k:Int))]) (fun k=>[.blk b8 (cl (ba 32 (keyF (fun i=>L17.getD i 0) k)++ba 32 (keyF (fun i=>L17.getD (32+i) 0) k)) 65)])
  (fun k Gl=>(k≤32)) (fun k=>32-k) 0 [(4,true,_),(6,true,_),(8,true,_)] [_]
  (esC rfl (by first|rfl|exact evi (by omega)) (esD rfl (esD rfl (esD rfl eZ))))
  (mS .here rfl (mS .here rfl mN)) ?_ ?_
 ·(try dsimp only)<;>(first|omega|rfl|assumption|(simp; done))
 intro k N0 Gl0 hN0 hGl0 hF0
 try dsimp only at hF0 hN0 ⊢
 have hk:=hF0
 have hs17:=hs17.mono hGl0
 refine .seq (.seq (rq2 rfl rfl (mV rfl rfl (cp rfl .no (.u rfl) (.u rfl) rfl (.nil (.code (.cond rfl (fun c1=>?_) (fun c1=>?_))))))))
 ·have c1k:=c1
  try simp only [qcA,qcB] at c1
  refine .skip (.code (.seq (.block (.seq (rq8 rfl rfl (mV rfl rfl (mV rfl rfl (mV rfl rfl (ih rfl .no Fx.se34 (.u rfl) (.u rfl) (fun _=>by omega) (fun _=>by omega) (fun _=>hs17.nn (k:=k) (by omega)) ?_)))))))))
  refine ld rfl .no Fx.ag5 (.u rfl) (fun _=>(hs17.yat (k) (by omega) (by omega)).rd) ?_
  refine fz rfl .no Fx.fo65_0 (.u rfl) (iA rfl .no Fx.ar22 (.u rfl) (.u rfl) (fun _=>by omega) (fun _=>by omega) ?_)
  refine s1 rfl (.u rfl) (.u rfl) rfl Fx.sz5 .here (by first|decide|(simp only [wa_len,ba_len,qlA]; omega)) (bap_set1 k (by omega) (by omega)) ?_
  refine .nil (.code (rq9 rfl rfl (mV rfl rfl (mV rfl rfl (mV rfl rfl (arn (((32+k):Nat):Int) rfl .no (.u rfl) (.u rfl) rfl (fun _=>by omega) (fun _=>wrap_i64 (by omega) (by omega)) ?_))))))
  refine ih rfl .no Fx.se34 (.u rfl) (.u rfl) (fun _=>by omega) (fun _=>by omega) (fun _=>hs17.nn (k:=(32+k)) (by omega)) ?_
  refine ld rfl .no Fx.ag5 (.u rfl) (fun _=>(hs17.yat ((32+k)) (by omega) (by omega)).rd) ?_
  refine fz rfl .no Fx.fo65_1 (.u rfl) (iA rfl .no Fx.ar22 (.u rfl) (.u rfl) (fun _=>by omega) (fun _=>by omega) ?_)
  refine s1 rfl (.u rfl) (.u rfl) rfl Fx.sz5 .here (by first|decide|(simp only [wa_len,ba_len,qlA]; omega)) (bar_set1 k (by omega)) ?_
  refine .nil (.blk (.code (rq3 rfl rfl (mV rfl rfl (arn (((k+1):Nat):Int) rfl .no (.u rfl) (.u rfl) rfl (fun _=>by omega) (fun _=>wrap_i64 (by omega) (by omega)) ?_)))))
  refine aS rfl rfl (.nil (We.lpo (k+1) ?_ ?_ ?_ ?_ ?_))
  ·exact (esC rfl (by first|rfl|exact evi (by omega)) (esD rfl (esD rfl (esD rfl eZ))))
  ·exact (mS .here (by rw [← keyF_step rfl,←keyF_step rfl]) (mS .here rfl mN))
  ·first|omega|(dsimp only; omega)
  ·exact hGl0
  (try dsimp only)<;>(first|omega|rfl|assumption|(simp; done))
 have c1k:=c1
 try simp only [qcA,qcB] at c1
 refine .exit (.xcode (.xlp (.xblk (.code (.seq (rq2 rfl rfl (lA rfl .no Fx.ag65 (.u rfl) (fun _=>RdN.own .here) (fun _=>(by first|exact qE|exact qL|rfl)) ?_)))))))
 refine sw rfl (.u rfl) (.u rfl) rfl Fx.sz65 tk1 (by first|exact qE|exact qL|rfl) (key_one _ _) ?_
 refine .nil (.code (.ret (We.fin0 Tryz.results119 (.cell rfl (fun w hw=>run_loadVarN Fx.ag65 (RdN.own .here) ((by first|exact qE|exact qL|rfl)) hw) .nil) ?_)))
 obtain rfl:k=32:=by omega
 have e:L17=deriveL root use:=by rw [eL17,eL15,eL12]; rfl
 exact ⟨rfl,congrArg (fun z=>Value.agg (List.toArray z)) (keyF_cells e)⟩
theorem rKeyOf_ok (root:Nat→Y) (h:Hd) (G:PM) (hR:RdNP G 0 0 (wa 64 kW)):Ct Tryz.prog 84 ([.agg (ba 32 root).toArray,.agg ([V h.kind,V h.level,uv .u64 h.gen,uv .u64 h.epoch,uv .u64 h.num]:List Value).toArray]:List Value).toArray G [] (fun _ μ' u=>μ'=[]∧u=.agg (ba 32 (keyEnc root (headL h))++ba 32 (keyMac root (headL h))).toArray):=by
 refine Ct.of Tryz.func84 rfl Tryz.ntmps84 rfl fun w0 hs0=>?_
 refine .seq (rq3 rfl rfl ?_)
 refine bx rfl (.u rfl) rfl ?_; intro b2
 refine bx rfl (.u rfl) rfl ?_; intro b3
 refine al rfl Fx.zq65 ?_; intro b4
 refine .nil (.code (.seq (Wk.draw (mc:=⟨false,false⟩) [0,1,2,3,4] Fx.mix (by kernel_rfl) ?_)))
 refine lA rfl .no Fx.ag23 (.u rfl) (fun _=>RdN.own tk2) (fun _=>(by first|exact qE|exact qL|rfl)) ?_
 refine lA rfl .no Fx.ag26 (.u rfl) (fun _=>RdN.own tk1) (fun _=>(by first|exact qE|exact qL|rfl)) ?_
 refine kc rfl Fx.go42 (Evc rfl Evn) (Ct.frzB (rnLay_ok h _)) ?_
 rintro _ G7 μ7 hG7 ⟨h7,L7,eL7,rfl,rfl,hs7⟩
 have hR:=hR.mono hG7
 refine kv rfl .no Fx.go119 (Evc rfl (Evc rfl Evn)) (fun _=>rDerive_ok root L7 h7 _ hs7 hR (by rw [eL7,head_len]; decide)) ?_
 refine sw rfl (.u rfl) (.u rfl) rfl Fx.sz65 .here (by first|exact qE|exact qL|rfl) (key_one _ _) ?_
 refine .nil (.code (.ret (We.fin0 Tryz.results84 (.cell rfl (fun w hw=>run_loadVarN Fx.ag65 (RdN.own .here) ((by first|exact qE|exact qL|rfl)) hw) .nil) ?_)))
 subst eL7
 exact ⟨rfl,rfl⟩
namespace Fx
theorem bp175_0:bPl Tryz.prog 175 [0]=some ([.slice none 0 0,.int .i64 0],[(0,1)]):=by kernel_rfl
theorem pt145:ptT Tryz.prog 145=true:=by kernel_rfl
theorem fo175_1:fOff Tryz.prog 175 1=some 1:=by kernel_rfl
theorem ag37:aggN Tryz.prog 37=some none:=by kernel_rfl
theorem fo175_0:fOff Tryz.prog 175 0=some 0:=by kernel_rfl
theorem cv5_24:cvK Tryz.prog 5 24=some .u64:=by kernel_rfl
end Fx
theorem wcNew_ok (xs:List Y) (h:Sh) (G:PM) (hs:SlR G 1 encY h xs) (hl:xs.length≤100000000000000):Ct Tryz.prog 92 ([h.val xs.length]:List Value).toArray G [] (fun G' μ' u=>∃ b s,μ'=[.blk b (cl [Sh.val s xs.length,.int .i64 0] 175)]∧u=.pointer (some ⟨b,0,none⟩)∧SlR G' 1 encY s xs):=by
 refine Ct.of Tryz.func92 rfl Tryz.ntmps92 rfl fun w0 hs0=>?_
 refine .seq (rq1 rfl rfl (aS rfl rfl (.nil (.code (.seq (rq6 rfl rfl ?_))))))
 refine b0B rfl Fx.se34 ?_; intro b3
 refine mV rfl rfl (apY0 rfl Fx.se34 Fx.zv5 (.u rfl) (.u rfl) .here hs.sc (by (try simp only [qlA,yl_len]); omega) ?_)
 intro v5 L5 _ ov5 eL5
 have lL5:L5.length=xs.length:=by rw [eL5]
 refine bCe ([v5,.int .i64 0]) rfl .no Fx.bp175_0 (.cons (.u rfl) (cells_one ov5) .nil) rfl (rfl) ?_
 refine bx rfl (.u rfl) rfl ?_; intro b7
 refine aS rfl rfl (.nil (.code (.ret ?_)))
 refine we_fb tk1 (by first|(intro b hb; cases hb; done) | simp [keys,Res.keys]) ?_; intro GfR5 hR5 hleR5 evR5 hsR5; subst evR5
 refine We.fin Tryz.results92 (.tmp rfl .nil) (mS .here rfl mN) ?_
 subst eL5
 exact ⟨b7,hR5,rfl,rfl,hsR5⟩
theorem rdFix_ok (xs:List Y) (s:Sh) (b:Nat) (G:PM) (hs:SlR G 1 encY s xs) (h8:8≤xs.length) (hl:xs.length≤100000000000000):Ct Tryz.prog 93 ([.pointer (some ⟨b,0,none⟩),.int .i64 ((8:Nat):Int)]:List Value).toArray G [.blk b (cl [s.val xs.length,.int .i64 0] 175)] (fun G' μ' u=>∃ s',μ'=[.blk b (cl [Sh.val s' (xs.drop 8).length,.int .i64 0] 175)]∧u=uv .u64 (unfK xs 8)∧SlR G' 1 encY s' (xs.drop 8)):=by
 refine Ct.of Tryz.func93 rfl Tryz.ntmps93 rfl fun w0 hs0=>?_
 refine .seq (rq1 rfl rfl (aS rfl rfl (.nil (.code (.seq (.seq (rq9 rfl rfl (mV rfl rfl (pe rfl .no Fx.pt145 (.u rfl) (.u rfl) ?_)))))))))
 refine mV rfl rfl (mv rfl (Gd.f (b:=false) rfl rfl) (.u rfl) (nc rfl (Gd.f (b:=false) rfl rfl) (.u rfl) (fz rfl (Gd.f (b:=false) rfl rfl) Fx.fo175_1 (.u rfl) (ld rfl (Gd.f (b:=false) rfl rfl) Fx.ag37 (.u rfl) (fun _=>Rd.own .here (by first|exact wap_f rfl|rfl)) ?_))))
 refine cp rfl (Gd.f (b:=false) rfl rfl) (.u rfl) (.u rfl) rfl (pkO rfl .no (.u rfl) (.u rfl) (.nil (.code (.cond rfl (fun c1=>?_) (fun c1=>?_)))))
 ·have c1k:=c1
  exact absurd c1 (by decide)
 have c1k:=c1
 try simp only [qcA,qcB] at c1
 refine .skip (.code (.seq (.seq (rq6 rfl rfl (mV rfl rfl (cp rfl .no (.u rfl) (.u rfl) rfl (mV rfl rfl (mv rfl (.f rfl rfl) (.u rfl) (cp rfl (.f rfl rfl) (.s rfl) (.u rfl) rfl (pkO rfl .no (.u rfl) (.s rfl) (.nil (.code (.cond rfl (fun c2=>?_) (fun c2=>?_))))))))))))))
 ·have c2k:=c2
  exact absurd c2 (by decide)
 have c2k:=c2
 try simp only [qcA,qcB] at c2
 refine .skip (.code (.seq (.seq (rq7 rfl rfl (mV rfl rfl (mV rfl rfl (nc rfl .no (.u rfl) (fz rfl .no Fx.fo175_0 (.u rfl) (ld rfl .no Fx.ag34 (.u rfl) (fun _=>Rd.own .here (by first|exact wap_f rfl|rfl)) ?_)))))))))
 refine ln rfl .no Fx.sn34 (.u rfl) (cp rfl .no (.u rfl) (.u rfl) rfl (.nil (.code (.cond rfl (fun c3=>?_) (fun c3=>?_)))))
 ·have c3k:=c3
  try simp only [qcA,qcB] at c3
  exfalso; omega
 have c3k:=c3
 try simp only [qcA,qcB] at c3
 refine .skip (.code (.seq (rq1 rfl rfl (aS rfl rfl (.nil (.code (.seq (.seq (rq2 rfl rfl (mV rfl rfl (mV rfl rfl (.nil (.code (.block ?_))))))))))))))
 refine Wk.lop (α:=Nat×BitVec 64) (fun gh=>[(5,true,uv .u64 gh.2),(36,true,.int .i64 (gh.1:Int))]) (fun _=>[])
  (fun gh Gl=>(gh.1≤8)∧(gh.2=unfK xs gh.1)) (fun gh=>8-gh.1) (0,0#64) [(0,true,_),(1,true,_),(35,true,_)] [_]
  (esD rfl (esC rfl (by first|rfl|exact evi (by omega)) (esD rfl (esD rfl (esD rfl eZ)))))
  (mS .here rfl mN) ?_ ?_
 ·refine ⟨?_,?_⟩
  ·(try dsimp only)<;>(first|omega|rfl|assumption|(simp; done))
  (try dsimp only)<;>(rfl)
 intro gh N0 Gl0 hN0 hGl0 hF0
 obtain ⟨k,m⟩:=gh; dsimp only at hF0 hN0 ⊢
 obtain ⟨hk,em⟩:=hF0
 have hs:=hs.mono hGl0
 refine .seq (rq1 rfl rfl (cp rfl .no (.u rfl) (.u rfl) rfl (.nil (.code (.seq (.cond rfl (fun c4=>?_) (fun c4=>?_)))))))
 ·have c4k:=c4
  try simp only [qcA,qcB] at c4
  refine .skip (.code (.seq (.block (.seq (rq2 rfl rfl (mV rfl rfl (aS rfl rfl (.nil (.code (Wk.rg [0,1,2,3,4,5,6,7,8,9,10,11,12,13] rfl rfl (mV rfl rfl (mV rfl rfl (nc rfl .no (.u rfl) (fz rfl .no Fx.fo175_0 (.u rfl) (ld rfl .no Fx.ag34 (.u rfl) (fun _=>Rd.own .here (by first|exact wap_f rfl|rfl)) ?_)))))))))))))))
  refine mV rfl rfl (ih rfl .no Fx.se34 (.u rfl) (.u rfl) (fun _=>by omega) (fun _=>by omega) (fun _=>hs.nn (k:=k) (by omega)) ?_)
  refine ld rfl .no Fx.ag5 (.u rfl) (fun _=>(hs.yat (k) (by omega) (by omega)).rd) ?_
  refine cu (k:=.u8) rfl .no rfl Fx.cv5_24 (.u rfl) ?_
  refine mV rfl rfl (arn (((8*k):Nat):Int) rfl .no (.u rfl) (.u rfl) rfl (fun _=>by omega) (fun _=>wrap_i64 (by omega) (by omega)) ?_)
  refine lw (k:=.u64) rfl .no rfl (.u rfl) (.u rfl) (fun _=>by omega) ?_
  refine bw (k:=.u64) rfl .no rfl (.u rfl) (.u rfl) rfl (aS rfl rfl (.nil (.blk (.code (rq2 rfl rfl (arn (((k+1):Nat):Int) rfl .no (.u rfl) (.u rfl) rfl (fun _=>by omega) (fun _=>wrap_i64 (by omega) (by omega)) ?_))))))
  refine mV rfl rfl (.nil (We.lpo (k+1,m ||| (xs.getD k 0).setWidth 64 <<< (8*k)) ?_ ?_ ?_ ?_ ?_))
  ·exact (esD rfl (esC rfl (by first|rfl|exact evi (by omega)) (esD rfl (esD rfl (esD rfl eZ)))))
  ·exact (mS .here rfl mN)
  ·first|omega|(dsimp only; omega)
  ·exact hGl0
  refine ⟨?_,?_⟩
  ·(try dsimp only)<;>(first|omega|rfl|assumption|(simp; done))
  (try dsimp only)<;>(rw [em]; rfl)
 have c4k:=c4
 try simp only [qcA,qcB] at c4
 refine .exit (.xcode (.xlp (.xblk (.code (.seq (rq10 rfl rfl (mV rfl rfl (mV rfl rfl (nc rfl .no (.u rfl) (fz rfl .no Fx.fo175_0 (.u rfl) (ld rfl .no Fx.ag34 (.u rfl) (fun _=>Rd.own .here (by first|exact wap_f rfl|rfl)) ?_)))))))))))
 refine mV rfl rfl (kD (8) rfl .no Fx.se34 hs (.u rfl) (.u rfl) (fun _=>by omega) (fun _=>by omega) ?_)
 intro h59 L59 eL59 lL59 hs59
 have lL59:=lL59 rfl
 refine nc rfl .no (.u rfl) (fz rfl .no Fx.fo175_0 (.u rfl) (s1 rfl (.u rfl) (.u rfl) rfl Fx.sz34 .here (by first|decide|(simp only [wa_len,ba_len,qlA]; omega)) (rfl) ?_))
 refine .nil (.code (.seq (rq2 rfl rfl (mV rfl rfl (aS rfl rfl (.nil (.code (.ret (We.fin Tryz.results93 (.tmp rfl .nil) (mS .here rfl mN) ?_)))))))))
 obtain rfl:k=8:=by omega
 exact ⟨h59,by rw [eL59]; rfl,by rw [em]; rfl,by rw [← eL59]; exact hs59⟩
namespace Fx
theorem zq26:zrL Tryz.prog 26=some ([V 0#8,V 0#8,uv .u64 0#64,uv .u64 0#64,uv .u64 0#64]):=by kernel_rfl
theorem bp26_:bPl Tryz.prog 26 []=some ([V 0#8,V 0#8,uv .u64 0#64,uv .u64 0#64,uv .u64 0#64],[]):=by kernel_rfl
theorem sz26:szT Tryz.prog 26=some 5:=by kernel_rfl
theorem go92:goFn Tryz.prog 92=true:=by kernel_rfl
theorem bp26_0_1:bPl Tryz.prog 26 [0,1]=some ([V 0#8,V 0#8,uv .u64 0#64,uv .u64 0#64,uv .u64 0#64],[(0,1),(1,1)]):=by kernel_rfl
theorem go93:goFn Tryz.prog 93=true:=by kernel_rfl
theorem sz24:szT Tryz.prog 24=some 1:=by kernel_rfl
theorem go22:goFn Tryz.prog 22=true:=by kernel_rfl
end Fx
theorem Take_ok (xs:List Y) (h:Sh) (G:PM) (hs:SlR G 1 encY h xs) (hl:xs.length≤100000000000000):Ct Tryz.prog 91 ([h.val xs.length]:List Value).toArray G [] (fun _ μ' u=>μ'=[]∧u=.tuple #[.agg (takeH xs).1.cells.toArray,.int .i64 (takeH xs).2]):=by
 refine Ct.of Tryz.func91 rfl Tryz.ntmps91 rfl fun w0 hs0=>?_
 refine .seq (rq2 rfl rfl ?_)
 refine al rfl Fx.zq26 ?_; intro b2
 refine aS rfl rfl (.nil (.code (.seq (.seq (rq3 rfl rfl (mV rfl rfl (ln rfl .no Fx.sn34 (.u rfl) (cp rfl .no (.u rfl) (.u rfl) rfl (.nil (.code (.cond rfl (fun c1=>?_) (fun c1=>?_))))))))))))
 ·have c1k:=c1
  try simp only [qcA,qcC,qcB] at c1
  refine .seq (rq3 rfl rfl (bC rfl .no Fx.bp26_ .nil rfl ?_))
  refine sw rfl (.u rfl) (.u rfl) rfl Fx.sz26 .here (by first|exact qE|exact qL|rfl) (one5 rfl rfl rfl rfl rfl) ?_
  refine aS rfl rfl (.nil (.code (.ret (We.fin0 Tryz.results91 (.cell rfl (fun w hw=>run_loadVarN Fx.ag26 (RdN.own .here) ((by first|exact qE|exact qL|rfl)) hw) (.tmp rfl .nil)) ?_))))
  exact ⟨rfl,by rw [take_short (by omega)]; rfl⟩
 have c1k:=c1
 try simp only [qcA,qcC,qcB] at c1
 refine .skip (.code (.seq (rq4 rfl rfl (mV rfl rfl (kS (6) (30) rfl .no Fx.se34 hs (.u rfl) (.u rfl) (.u rfl) (fun _=>by omega) (fun _=>by omega) (fun _=>by omega) (fun _=>by omega) ?_)))))
 intro h11 L11 eL11 lL11 hs11
 have lL11:=lL11 rfl
 refine kc rfl Fx.go92 (Evc rfl Evn) (wcNew_ok L11 h11 _ hs11 (by omega)) ?_
 rintro _ G12 μ12 hG12 ⟨b12,sn0,rfl,rfl,hsn0⟩
 have hs:=hs.mono hG12
 refine aS rfl rfl (.nil (.code (.seq (Wk.draw (mc:=⟨false,false⟩) [0,1,2,3,4,5,6,7,8] Fx.mix (by kernel_rfl) ?_))))
 refine mV rfl rfl (ih rfl .no Fx.se34 (.u rfl) (.u rfl) (fun _=>by omega) (fun _=>by omega) (fun _=>hs.nn (k:=4) (by omega)) ?_)
 refine ld rfl .no Fx.ag5 (.u rfl) (fun _=>(hs.yat (4) (by omega) (by omega)).rd) ?_
 refine mV rfl rfl (ih rfl .no Fx.se34 (.u rfl) (.u rfl) (fun _=>by omega) (fun _=>by omega) (fun _=>hs.nn (k:=5) (by omega)) ?_)
 refine ld rfl .no Fx.ag5 (.u rfl) (fun _=>(hs.yat (5) (by omega) (by omega)).rd) ?_
 refine bCe ([V (xs.getD 4 0),V (xs.getD 5 0),uv .u64 0#64,uv .u64 0#64,uv .u64 0#64]) rfl .no Fx.bp26_0_1 (.cons (.u rfl) rfl (.cons (.u rfl) rfl .nil)) rfl (rfl) ?_
 refine al rfl Fx.zq26 ?_; intro b5
 refine sw rfl (.u rfl) (.u rfl) rfl Fx.sz26 .here (by first|exact qE|exact qL|rfl) (one5 rfl rfl rfl rfl rfl) ?_
 refine .nil (.code (.seq (rq4 rfl rfl (mV rfl rfl (ka rfl (.inr rfl) Fx.go93 (Evc rfl (Evc rfl Evn)) (mtk1 tk1) (rdFix_ok L11 sn0 _ _ hsn0 (by (try simp only [List.length_drop]); omega) (by (try simp only [List.length_drop]); omega)) ?_)))))
 rintro _ G21 μ21 hG21 ⟨sn1,rfl,rfl,hsn1⟩
 have hs:=hs.mono hG21
 refine fz rfl .no Fx.fo26_2 (.u rfl) (s1 rfl (.u rfl) (.u rfl) rfl Fx.sz24 tk1 (show 2<5 by decide) (rfl) ?_)
 refine .nil (.code (.seq (rq4 rfl rfl (mV rfl rfl (ka rfl (.inr rfl) Fx.go93 (Evc rfl (Evc rfl Evn)) (mtk1 tk1) (rdFix_ok (L11.drop 8) sn1 _ _ hsn1 (by (try simp only [List.length_drop]); omega) (by (try simp only [List.length_drop]); omega)) ?_)))))
 rintro _ G24 μ24 hG24 ⟨sn2,rfl,rfl,hsn2⟩
 have hs:=hs.mono hG24
 refine fz rfl .no Fx.fo26_3 (.u rfl) (s1 rfl (.u rfl) (.u rfl) rfl Fx.sz24 tk1 (show 3<5 by decide) (rfl) ?_)
 refine .nil (.code (.seq (rq4 rfl rfl (mV rfl rfl (ka rfl (.inr rfl) Fx.go93 (Evc rfl (Evc rfl Evn)) (mtk1 tk1) (rdFix_ok ((L11.drop 8).drop 8) sn2 _ _ hsn2 (by (try simp only [List.length_drop]); omega) (by (try simp only [List.length_drop]); omega)) ?_)))))
 rintro _ G27 μ27 hG27 ⟨sn3,rfl,rfl,hsn3⟩
 have hs:=hs.mono hG27
 refine fz rfl .no Fx.fo26_4 (.u rfl) (s1 rfl (.u rfl) (.u rfl) rfl Fx.sz24 tk1 (show 4<5 by decide) (rfl) ?_)
 refine .nil (.code (.seq (.seq (rq9 rfl rfl (mV rfl rfl (kE (4) rfl .no Fx.se34 hs (.u rfl) (.u rfl) (fun _=>by omega) (fun _=>by omega) ?_))))))
 intro h30 L30 eL30 lL30 hs30
 have lL30:=lL30 rfl
 refine sB rfl .no Fx.bs34_9 (.u rfl) (fun _=>hs30.sc) ?_
 refine cs rfl .no (.u rfl) (.u rfl) rfl (mV rfl rfl (lA rfl (.f rfl rfl) Fx.ag26 (.u rfl) (fun _=>RdN.own .here) (fun _=>(by first|exact qE|exact qL|rfl)) ?_))
 refine kv rfl (.f rfl rfl) Fx.go22 (Eva.cons (.s rfl) Evn) (fun hc=>nRight_ok ⟨xs.getD 4 0,xs.getD 5 0,unfK L11 8,unfK (L11.drop 8) 8,unfK ((L11.drop 8).drop 8) 8⟩ _) ?_
 refine nt rfl (.f rfl rfl) (.s rfl) (pkO rfl .no (.u rfl) (.s rfl) (.nil (.code (.cond rfl (fun c2=>?_) (fun c2=>?_)))))
 ·have c2k:=c2
  try simp only [qcA,qcC,qcB] at c2
  refine .seq (rq3 rfl rfl (bC rfl .no Fx.bp26_ .nil rfl ?_))
  refine sw rfl (.u rfl) (.u rfl) rfl Fx.sz26 tk2 (by first|exact qE|exact qL|rfl) (one5 rfl rfl rfl rfl rfl) ?_
  refine aS rfl rfl (.nil (.code (.ret (We.fin0 Tryz.results91 (.cell rfl (fun w hw=>run_loadVarN Fx.ag26 (RdN.own .here) ((by first|exact qE|exact qL|rfl)) hw) (.tmp rfl .nil)) ?_))))
  rw [head_at eL11] at c2k
  exact ⟨rfl,by rw [take_bad (by omega) (fun hq=>take_c2 eL30 c2k hq)]; rfl⟩
 have c2k:=c2
 try simp only [qcA,qcC,qcB] at c2
 refine .skip (.code (.seq (rq3 rfl rfl (lA rfl .no Fx.ag26 (.u rfl) (fun _=>RdN.own .here) (fun _=>(by first|exact qE|exact qL|rfl)) ?_))))
 refine sw rfl (.u rfl) (.u rfl) rfl Fx.sz26 tk2 (by first|exact qE|exact qL|rfl) (one5 rfl rfl rfl rfl rfl) ?_
 refine aS rfl rfl (.nil (.code (.ret (We.fin0 Tryz.results91 (.cell rfl (fun w hw=>run_loadVarN Fx.ag26 (RdN.own .here) ((by first|exact qE|exact qL|rfl)) hw) (.tmp rfl .nil)) ?_))))
 rw [head_at eL11] at c2k
 exact ⟨rfl,by rw [take_good (by omega) (take_c3 eL30 c2k),←head_at eL11]; rfl⟩
theorem take_eq_step {A B:List Y} {k:Nat} (he:A.take k=B.take k) (h1:k<A.length) (h2:k<B.length) (h:A.getD k 0=B.getD k 0):A.take (k+1)=B.take (k+1):=by
 rw [List.take_succ_eq_append_getElem h1,List.take_succ_eq_append_getElem h2,he]
 have e1:A.getD k 0=A[k]:=by simp [h1]
 have e2:B.getD k 0=B[k]:=by simp [h2]
 rw [← e1,←e2,h]
theorem byte_ne {a b:Y} {A B:List Y} {k:Nat} (ha:A.getD k 0=a) (hb:B.getD k 0=b) (h:¬ (a.toNat:Int)=b.toNat):¬ A=B:=fun e=>h (by rw [← ha,←hb,e])
theorem byte_same {a b:Y} (h:(a.toNat:Int)=b.toNat):a=b:=BitVec.eq_of_toNat_eq (by omega)
theorem sEqual_ok (A B:List Y) (ha hb:Sh) (G:PM) (hsa:SlR G 1 encY ha A) (hsb:SlR G 1 encY hb B) (hl:A.length≤100000000000000):Ct Tryz.prog 128 ([ha.val A.length,hb.val B.length]:List Value).toArray G [] (fun _ μ' u=>μ'=[]∧u=.bool (decide (A=B))):=by
 refine Ct.of Tryz.func128 rfl Tryz.ntmps128 rfl fun w0 hs0=>?_
 refine .seq (rq1 rfl rfl (aS rfl rfl (.nil (.code (.seq (.seq (rq5 rfl rfl (mV rfl rfl (ln rfl .no Fx.sn34 (.u rfl) (mV rfl rfl (ln rfl .no Fx.sn34 (.u rfl) (cp rfl .no (.u rfl) (.u rfl) rfl (.nil (.code (.cond rfl (fun c1=>?_) (fun c1=>?_))))))))))))))))
 ·have c1k:=c1
  try simp only [qcA,qcB] at c1
  refine .seq (rq1 rfl rfl (aS rfl rfl (.nil (.code (.ret (We.fin0 Tryz.results128 (.tmp rfl .nil) ?_))))))
  exact ⟨rfl,congrArg Value.bool (decide_eq_false (fun e=>c1 (by rw [e]))).symm⟩
 have c1k:=c1
 try simp only [qcA,qcB] at c1
 refine .skip (.code (.seq (.seq (rq3 rfl rfl (mV rfl rfl (ln rfl .no Fx.sn34 (.u rfl) (mV rfl rfl (.nil (.code (.block ?_))))))))))
 refine Wk.lop (α:=Nat) (fun k=>[(13,true,.int .i64 (k:Int))]) (fun _=>[])
  (fun k Gl=>(k≤A.length)∧(A.take k=B.take k)) (fun k=>A.length-k) 0 [(0,true,_),(1,true,_),(12,true,_)] []
  (esC rfl (by first|rfl|exact evi (by omega)) (esD rfl (esD rfl (esD rfl eZ))))
  mN ?_ ?_
 ·refine ⟨?_,?_⟩
  ·(try dsimp only)<;>(first|omega|rfl|assumption|(simp; done))
  (try dsimp only)<;>(rfl)
 intro k N0 Gl0 hN0 hGl0 hF0
 try dsimp only at hF0 hN0 ⊢
 obtain ⟨hk,he⟩:=hF0
 have hsa:=hsa.mono hGl0
 have hsb:=hsb.mono hGl0
 refine .seq (rq1 rfl rfl (cp rfl .no (.u rfl) (.u rfl) rfl (.nil (.code (.seq (.cond rfl (fun c2=>?_) (fun c2=>?_)))))))
 ·have c2k:=c2
  try simp only [qcA,qcB] at c2
  refine .skip (.code (.seq (.block (.seq (rq2 rfl rfl (mV rfl rfl (aS rfl rfl (.nil (.code (.seq (Wk.draw (mc:=⟨false,false⟩) [0,1,2,3,4,5,6,7,8] Fx.mix (by kernel_rfl) ?_)))))))))))
  refine mV rfl rfl (mV rfl rfl (ih rfl .no Fx.se34 (.u rfl) (.u rfl) (fun _=>by omega) (fun _=>by omega) (fun _=>hsa.nn (k:=k) (by omega)) ?_))
  refine ld rfl .no Fx.ag5 (.u rfl) (fun _=>(hsa.yat (k) (by omega) (by omega)).rd) ?_
  refine mV rfl rfl (mV rfl rfl (ih rfl .no Fx.se34 (.u rfl) (.u rfl) (fun _=>by omega) (fun _=>by omega) (fun _=>hsb.nn (k:=k) (by omega)) ?_))
  refine ld rfl .no Fx.ag5 (.u rfl) (fun _=>(hsb.yat (k) (by omega) (by omega)).rd) ?_
  refine cp rfl .no (.u rfl) (.u rfl) rfl (.nil (.code (.cond rfl (fun c3=>?_) (fun c3=>?_))))
  ·have c3k:=c3
   try simp only [qcA,qcB] at c3
   refine .seq (rq1 rfl rfl (aS rfl rfl (.nil (.code (.ret (We.fin0 Tryz.results128 (.tmp rfl .nil) ?_))))))
   exact ⟨rfl,congrArg Value.bool (decide_eq_false (byte_ne rfl rfl c3)).symm⟩
  have c3k:=c3
  try simp only [qcA,qcB] at c3
  refine .skip (.blk (.code (rq2 rfl rfl (arn (((k+1):Nat):Int) rfl .no (.u rfl) (.u rfl) rfl (fun _=>by omega) (fun _=>wrap_i64 (by omega) (by omega)) ?_))))
  refine mV rfl rfl (.nil (We.lpo (k+1) ?_ ?_ ?_ ?_ ?_))
  ·exact (esC rfl (by first|rfl|exact evi (by omega)) (esD rfl (esD rfl (esD rfl eZ))))
  ·exact mN
  ·first|omega|(dsimp only; omega)
  ·exact hGl0
  refine ⟨?_,?_⟩
  ·(try dsimp only)<;>(first|omega|rfl|assumption|(simp; done))
  (try dsimp only)<;>(exact take_eq_step he (by omega) (by omega) (byte_same c3))
 have c2k:=c2
 try simp only [qcA,qcB] at c2
 refine .exit (.xcode (.xlp (.xblk (.code (.seq (rq1 rfl rfl (aS rfl rfl (.nil (.code (.ret (We.fin0 Tryz.results128 (.tmp rfl .nil) ?_)))))))))))
 exact ⟨rfl,congrArg Value.bool (decide_eq_true (by have h1:=he; rw [show k=A.length by omega,List.take_length,List.take_of_length_le (by omega)] at h1; exact h1)).symm⟩
namespace Fx
theorem go110:goFn Tryz.prog 110=true:=by kernel_rfl
theorem fo121_3:fOff Tryz.prog 121 3=some 3:=by kernel_rfl
theorem go111:goFn Tryz.prog 111=true:=by kernel_rfl
theorem fo121_1:fOff Tryz.prog 121 1=some 1:=by kernel_rfl
theorem fo121_0:fOff Tryz.prog 121 0=some 0:=by kernel_rfl
theorem fo121_2:fOff Tryz.prog 121 2=some 2:=by kernel_rfl
theorem sz9:szT Tryz.prog 9=some 1:=by kernel_rfl
theorem go70:goFn Tryz.prog 70=true:=by kernel_rfl
theorem go24:goFn Tryz.prog 24=true:=by kernel_rfl
theorem go23:goFn Tryz.prog 23=true:=by kernel_rfl
theorem bp121_0:bPl Tryz.prog 121 [0]=some ([.slice none 0 0,.slice none 0 0,.int .i64 0,.string ByteArray.empty],[(0,1)]):=by kernel_rfl
theorem zq121:zrL Tryz.prog 121=some ([.slice none 0 0,.slice none 0 0,.int .i64 0,.string ByteArray.empty]):=by kernel_rfl
theorem sz121:szT Tryz.prog 121=some 4:=by kernel_rfl
theorem go71:goFn Tryz.prog 71=true:=by kernel_rfl
end Fx
theorem eLay_ok (e:Ent) (G:PM) (hu:e.user.size≤10000000):Ct Tryz.prog 110 ([e.val]:List Value).toArray G [] (fun _ μ' u=>μ'=[]∧u=.string (bstr (keyE e))):=by
 refine Ct.of Tryz.func110 rfl Tryz.ntmps110 rfl fun w0 hs0=>?_
 refine .seq (rq2 rfl rfl ?_)
 refine bx rfl (.u rfl) rfl ?_; intro b1
 refine aS rfl rfl (.nil (.code (.seq (Wk.rg [0,1,2,3,4,5,6,7,8,9,10,11,12] rfl rfl (fz rfl .no Fx.fo47_0 (.u rfl) (ld rfl .no Fx.ag9 (.u rfl) (fun _=>Rd.own .here (by first|exact wap_f rfl|rfl)) ?_))))))
 refine cvS rfl rfl FxTbC.sb9_34 (.u rfl) ?_; intro G5 h5 hG5 hs5
 refine fz rfl .no Fx.fo47_1 (.u rfl) (ld rfl .no Fx.ag24 (.u rfl) (fun _=>Rd.own .here (by first|exact wap_f rfl|rfl)) ?_)
 refine lw (k:=.u64) rfl .no rfl (.u rfl) (.u rfl) (fun _=>by decide) ?_
 refine fz rfl .no Fx.fo47_2 (.u rfl) (ld rfl .no Fx.ag5 (.u rfl) (fun _=>Rd.own .here (by first|exact wap_f rfl|rfl)) ?_)
 refine cu (k:=.u8) rfl .no rfl Fx.cv5_24 (.u rfl) ?_
 refine bw (k:=.u64) rfl .no rfl (.u rfl) (.u rfl) rfl (kc rfl Fx.go35 (Evc rfl (Evc rfl (Evc rfl Evn))) (Ct.frzB (Fix_ok _ h5 _ 8 _ hs5 (by rw [yb_len]; omega) (by decide))) ?_)
 rintro _ G13 μ13 hG13 ⟨h13,L13,eL13,rfl,rfl,hs13⟩
 refine sB rfl .no Fx.bs34_9 (.u rfl) (fun _=>hs13.sc) ?_
 refine aS rfl rfl (.nil (.code (.ret (We.fin0 Tryz.results110 (.tmp rfl .nil) ?_))))
 exact ⟨rfl,by rw [eL13]; rfl⟩
theorem alike_ok (a b:ByteArray) (G:PM) (ha:a.size≤100000000):Ct Tryz.prog 111 ([.string a,.string b]:List Value).toArray G [] (fun _ μ' u=>μ'=[]∧u=.int .i64 (comL (yb a) (yb b):Int)):=by
 refine Ct.of Tryz.func111 rfl Tryz.ntmps111 rfl fun w0 hs0=>?_
 refine .seq (rq1 rfl rfl (aS rfl rfl (.nil (.code (.seq (rq6 rfl rfl (mV rfl rfl (ls rfl .no Fx.st9 (.u rfl) (mV rfl rfl (ls rfl .no Fx.st9 (.u rfl) (mIn (a.size) (b.size) rfl .no (.u rfl) (.u rfl) (fun _=>by omega) (fun _=>by omega) ?_)))))))))))
 refine aS rfl rfl (.nil (.code (.seq (.seq (rq2 rfl rfl (mV rfl rfl (mV rfl rfl (.nil (.code (.block ?_))))))))))
 refine Wk.lop (α:=Nat) (fun k=>[(13,true,.int .i64 (k:Int))]) (fun _=>[])
  (fun k Gl=>(k≤a.size∧k≤b.size)∧(∀ j,j<k→(yb a).getD j 0=(yb b).getD j 0)) (fun k=>a.size-k) 0 [(0,true,_),(1,true,_),(5,true,_),(12,true,_)] []
  (esC rfl (by first|rfl|exact evi (by omega)) (esD rfl (esD rfl (esD rfl (esD rfl eZ)))))
  mN ?_ ?_
 ·refine ⟨?_,?_⟩
  ·(try dsimp only)<;>(first|omega|rfl|assumption|(simp; done))
  (try dsimp only)<;>(exact fun j h=>absurd h (Nat.not_lt_zero _))
 intro k N0 Gl0 hN0 hGl0 hF0
 try dsimp only at hF0 hN0 ⊢
 obtain ⟨hk,hj⟩:=hF0
 refine .seq (rq1 rfl rfl (cp rfl .no (.u rfl) (.u rfl) rfl (.nil (.code (.seq (.cond rfl (fun c1=>?_) (fun c1=>?_)))))))
 ·have c1k:=c1
  try simp only [qcA,qcB] at c1
  refine .skip (.code (.seq (.block (.seq (rq2 rfl rfl (mV rfl rfl (aS rfl rfl (.nil (.code (.seq (Wk.draw (mc:=⟨false,false⟩) [0,1,2,3,4,5,6] Fx.mix (by kernel_rfl) ?_)))))))))))
  refine mV rfl rfl (mV rfl rfl (sI (k) rfl .no Fx.st9 (.u rfl) (.u rfl) (fun _=>by omega) (fun _=>by first|omega|(simp only [Bool.and_eq_true,decide_eq_true_eq] at hc; omega)) ?_))
  refine mV rfl rfl (mV rfl rfl (sI (k) rfl .no Fx.st9 (.u rfl) (.u rfl) (fun _=>by omega) (fun _=>by first|omega|(simp only [Bool.and_eq_true,decide_eq_true_eq] at hc; omega)) ?_))
  refine cp rfl .no (.u rfl) (.u rfl) rfl (.nil (.code (.cond rfl (fun c2=>?_) (fun c2=>?_))))
  ·have c2k:=c2
   try simp only [qcA,qcB] at c2
   refine .seq (rq2 rfl rfl (mV rfl rfl (aS rfl rfl (.nil (.code (.ret (We.fin0 Tryz.results111 (.tmp rfl .nil) ?_)))))))
   exact ⟨rfl,al_hit (by omega) hj c2⟩
  have c2k:=c2
  try simp only [qcA,qcB] at c2
  refine .skip (.blk (.code (rq2 rfl rfl (arn (((k+1):Nat):Int) rfl .no (.u rfl) (.u rfl) rfl (fun _=>by omega) (fun _=>wrap_i64 (by omega) (by omega)) ?_))))
  refine mV rfl rfl (.nil (We.lpo (k+1) ?_ ?_ ?_ ?_ ?_))
  ·exact (esC rfl (by first|rfl|exact evi (by omega)) (esD rfl (esD rfl (esD rfl (esD rfl eZ)))))
  ·exact mN
  ·first|omega|(dsimp only; omega)
  ·exact hGl0
  refine ⟨?_,?_⟩
  ·(try dsimp only)<;>(first|omega|rfl|assumption|(simp; done))
  (try dsimp only)<;>(exact bt_snoc hj c2)
 have c1k:=c1
 try simp only [qcA,qcB] at c1
 refine .exit (.xcode (.xlp (.xblk (.code (.seq (rq2 rfl rfl (mV rfl rfl (aS rfl rfl (.nil (.code (.ret (We.fin0 Tryz.results111 (.tmp rfl .nil) ?_))))))))))))
 exact ⟨rfl,by rw [al_end hk (by omega) hj]; rfl⟩
theorem add_ok (O P:List Y) (vo:Value) (sp:Sh) (rs:Nat) (last:ByteArray) (bb:Nat) (e:Ent) (anew:Bool) (G:PM) (hP:SlR G 1 encY sp P) (hlO:O.length≤100000000) (hlP:P.length≤1000000000) (hrs:rs≤1000000000) (hll:last.size≤10000000) (hu:e.user.size≤10000000) (hv:e.value.size≤10000000):Ct Tryz.prog 71 ([.pointer (some ⟨bb,0,none⟩),e.val,.bool anew]:List Value).toArray G [.blk bb (cl [vo,sp.val P.length,.int .i64 (rs:Int),.string last] 121),rB vo 5 O] (fun G' μ' u=>∃ v' O' sp' P',O'=O++entB (yb last) anew e∧P'=(if anew=true then P++fixL (BitVec.ofInt 64 (O.length:Int)) 4 else P)∧μ'=[.blk bb (cl [v',sp'.val P'.length,.int .i64 ((if anew=true then rs+1 else rs:Nat):Int),.string (bstr (keyE e))] 121),rB v' 5 O']∧u=.tuple #[]∧SlR G' 1 encY sp' P'):=by
 refine Ct.of Tryz.func71 rfl Tryz.ntmps71 rfl fun w0 hs0=>?_
 have hks:=key_sz e
 have hcl:=comL_le (yb last) (yb (bstr (keyE e)))
 rw [yb_len,yb_len] at hcl
 refine .seq (rq1 rfl rfl ?_)
 refine bx rfl (.u rfl) rfl ?_; intro b4
 refine .nil (.code (.seq (rq3 rfl rfl (lA rfl .no Fx.ag47 (.u rfl) (fun _=>RdN.own .here) (fun _=>(by first|rfl|exact Ent.len _)) ?_))))
 refine kv rfl .no Fx.go110 (Evc rfl Evn) (fun _=>eLay_ok e _ hu) ?_
 refine aS rfl rfl (.nil (.code (.seq (rq7 rfl rfl (mV rfl rfl (nc rfl .no (.u rfl) (fz rfl .no Fx.fo121_3 (.u rfl) (ld rfl .no Fx.ag9 (.u rfl) (fun _=>Rd.own tk1 (by first|exact wap_f rfl|rfl)) ?_))))))))
 refine mV rfl rfl (kv rfl .no Fx.go111 (Evc rfl (Evc rfl Evn)) (fun _=>alike_ok last (bstr (keyE e)) _ (by omega)) ?_)
 refine aS rfl rfl (.nil (.code (.seq (.seq (rq1 rfl rfl (mV rfl rfl (.nil (.code (.cond rfl (fun c1=>?_) (fun c1=>?_))))))))))
 ·have c1k:=c1
  try simp only [qcA,qcB] at c1
  refine .seq (rq1 rfl rfl (aS rfl rfl (.nil (.code (.seq (Wk.draw (mc:=⟨false,false⟩) [0,1,2,3,4,5,6,7,8,9,10,11,12,13,14] Fx.mix (by kernel_rfl) ?_))))))
  refine mV rfl rfl (mV rfl rfl (nc rfl .no (.u rfl) (fz rfl .no Fx.fo121_1 (.u rfl) (ld rfl .no Fx.ag34 (.u rfl) (fun _=>Rd.own tk1 (by first|exact wap_f rfl|rfl)) ?_))))
  refine mV rfl rfl (nc rfl .no (.u rfl) (fz rfl .no Fx.fo121_0 (.u rfl) (ld rfl .no Fx.ag34 (.u rfl) (fun _=>Rd.own tk1 (by first|exact wap_f rfl|rfl)) ?_)))
  refine lr rfl .no Fx.sn34 (.u rfl) tk2 ?_
  refine ci rfl .no rfl Fx.cv3_24 (.u rfl) ?_
  refine kc rfl Fx.go35 (Evc rfl (Evc rfl (Evc rfl Evn))) (Ct.frzB (Fix_ok P sp _ 4 _ hP (by omega) (by decide))) ?_
  rintro _ G29 μ29 hG29 ⟨h29,L29,eL29,rfl,rfl,hs29⟩
  have hP:=hP.mono hG29
  refine nc rfl .no (.u rfl) (fz rfl .no Fx.fo121_1 (.u rfl) (s1 rfl (.u rfl) (.u rfl) rfl Fx.sz34 tk1 (by first|decide|(simp only [wa_len,ba_len,qlA]; omega)) (rfl) ?_))
  refine .nil (.code (rq8 rfl rfl (mV rfl rfl (nc rfl .no (.u rfl) (fz rfl .no Fx.fo121_2 (.u rfl) (ld rfl .no Fx.ag3 (.u rfl) (fun _=>Rd.own .here (by first|exact wap_f rfl|rfl)) ?_))))))
  refine arn (((rs+1):Nat):Int) rfl .no (.u rfl) (.u rfl) rfl (fun _=>by omega) (fun _=>wrap_i64 (by omega) (by omega)) ?_
  refine nc rfl .no (.u rfl) (fz rfl .no Fx.fo121_2 (.u rfl) (s1 rfl (.u rfl) (.u rfl) rfl Fx.sz3 .here (show 2<4 by decide) (rfl) ?_))
  refine .nil (.code (.seq (Wk.draw (mc:=⟨false,false⟩) [0,1,3,4,5,6,7,9,10,11,12,2,8,13,14] Fx.mix (by kernel_rfl) ?_)))
  refine mV rfl rfl (ci rfl .no rfl Fx.cv3_24 (.u rfl) ?_)
  refine mV rfl rfl (ls rfl .no Fx.st9 (.u rfl) (mV rfl rfl (ar rfl .no (.u rfl) (.u rfl) rfl (fun _=>wrap_i64 (by omega) (by omega)) ?_)))
  refine ci rfl .no rfl Fx.cv3_24 (.u rfl) ?_
  refine fz rfl .no Fx.fo47_3 (.u rfl) (ld rfl .no Fx.ag9 (.u rfl) (fun _=>Rd.own tk1 (by first|exact wap_f rfl|rfl)) ?_)
  refine ls rfl .no Fx.st9 (.u rfl) (ci rfl .no rfl Fx.cv3_24 (.u rfl) ?_)
  refine kc rfl Fx.go34 (Evc rfl (Evc rfl Evn)) (Ct.frzB (Num_ok [] ⟨none,0⟩ _ SlR.nul _ (Nat.zero_le _))) ?_
  rintro _ G41 μ41 hG41 ⟨h41,L41,eL41,rfl,rfl,hs41⟩
  have hP:=hP.mono hG41
  have hs29:=hs29.mono hG41
  have lL41:=nm0 eL41
  refine kc rfl Fx.go34 (Evc rfl (Evc rfl Evn)) (Ct.frzB (Num_ok L41 h41 _ hs41 _ (by omega))) ?_
  rintro _ G47 μ47 hG47 ⟨h47,L47,eL47,rfl,rfl,hs47⟩
  have hP:=hP.mono hG47
  have hs29:=hs29.mono hG47
  have hs41:=hs41.mono hG47
  have lL47:=nmx eL47
  refine kc rfl Fx.go34 (Evc rfl (Evc rfl Evn)) (Ct.frzB (Num_ok L47 h47 _ hs47 _ (by omega))) ?_
  rintro _ G52 μ52 hG52 ⟨h52,L52,eL52,rfl,rfl,hs52⟩
  have hP:=hP.mono hG52
  have hs29:=hs29.mono hG52
  have hs41:=hs41.mono hG52
  have hs47:=hs47.mono hG52
  refine aS rfl rfl (.nil (.code (.seq (Wk.mixp ⟨false,false⟩ Fx.mix (by kernel_rfl) ?_))))
  refine Wp.one 0 (by kernel_rfl) ?_
  refine mV rfl rfl (.nil (Wp.one 1 (by kernel_rfl) ?_))
  refine mV rfl rfl (.nil (Wp.one 2 (by kernel_rfl) ?_))
  refine nc rfl .no (.u rfl) (.nil (Wp.one 3 (by kernel_rfl) ?_))
  refine fz rfl .no Fx.fo121_0 (.u rfl) (.nil (Wp.one 4 (by kernel_rfl) ?_))
  refine ld rfl .no Fx.ag34 (.u rfl) (fun _=>Rd.own .here (by first|exact wap_f rfl|rfl)) ?_
  refine .nil (Wp.one 5 (by kernel_rfl) ?_)
  refine mV rfl rfl (.nil (Wp.one 7 (by kernel_rfl) ?_))
  refine mV rfl rfl (.nil (Wp.one 8 (by kernel_rfl) ?_))
  refine mV rfl rfl (.nil (Wp.one 9 (by kernel_rfl) ?_))
  refine sD (0) rfl .no Fx.st9 (.u rfl) (.u rfl) (fun _=>by omega) (fun _=>by omega) ?_
  refine .nil (Wp.one 11 (by kernel_rfl) ?_)
  refine fz rfl .no Fx.fo47_3 (.u rfl) (.nil (Wp.b2 6 12 (by kernel_rfl) ?_ ?_))
  ·have lL52:=nmx eL52
   refine apY rfl Fx.se34 Fx.zv5 (.u rfl) (.u rfl) tk2 hs52.sc (by (try simp only [qlA,yl_len]); omega) ?_
   intro v59 L59 ov59 eL59
   have lL59:L59.length=O.length+L52.length:=by rw [eL59,List.length_append]
   refine .nil (Wp.b2 10 12 (by kernel_rfl) ?_ ?_)
   ·refine apT rfl Fx.se34 Fx.st9 Fx.zv5 (.u rfl) (.u rfl) .here (by rw [bstr_len,List.length_drop,yb_len]; omega) ?_; intro v63 L63 ov63 eL63
    refine .nil (Wp.one 12 (by kernel_rfl) ?_)
    refine ld rfl .no Fx.ag9 (.u rfl) (fun _=>Rd.own tk2 (by first|exact wap_f rfl|rfl)) ?_
    refine .nil (Wp.b1 13 (by kernel_rfl) ?_)
    have lL63:L63.length≤L59.length+(bstr (keyE e)).size:=by rw [eL63,List.length_append,yb_len,bstr_len,List.length_drop,yb_len]; omega
    refine apT rfl Fx.se34 Fx.st9 Fx.zv5 (.u rfl) (.u rfl) .here (by (try simp only [List.length_append]); omega) ?_; intro v66 L66 ov66 eL66
    refine .nil (Wp.one 14 (by kernel_rfl) ?_)
    refine nc rfl .no (.u rfl) (.nil (Wp.one 15 (by kernel_rfl) ?_))
    refine fz rfl .no Fx.fo121_0 (.u rfl) (.nil (Wp.b1 16 (by kernel_rfl) ?_))
    refine s1v rfl (.u rfl) (.u rfl) .here Fx.sz34 tk1 (show 0<4 by decide) (rfl) ?_
    refine .nil (Wp.last (by kernel_rfl) ?_)
    refine .code (rq5 rfl rfl (mV rfl rfl (mV rfl rfl (nc rfl .no (.u rfl) (fz rfl .no Fx.fo121_3 (.u rfl) (s1 rfl (.u rfl) (.u rfl) rfl Fx.sz9 .here (show 3<4 by decide) (rfl) ?_))))))
    refine .nil (.nil (We.fin Tryz.results71 .nil (mS .here rfl (mS .here rfl mN)) ?_))
    subst c1
    exact ⟨_,L66,h29,L29,ad_fin (k:=0) hu hv com_new.symm eL41 eL47 eL52 eL59 eL63 eL66,by rw [if_pos rfl]; exact eL29,rfl,rfl,hs29⟩
   refine ld rfl .no Fx.ag9 (.u rfl) (fun _=>Rd.own tk2 (by first|exact wap_f rfl|rfl)) ?_
   refine .nil (Wp.b1 10 (by kernel_rfl) ?_)
   refine apT rfl Fx.se34 Fx.st9 Fx.zv5 (.u rfl) (.u rfl) .here (by rw [bstr_len,List.length_drop,yb_len]; omega) ?_; intro v63 L63 ov63 eL63
   refine .nil (Wp.b1 13 (by kernel_rfl) ?_)
   have lL63:L63.length≤L59.length+(bstr (keyE e)).size:=by rw [eL63,List.length_append,yb_len,bstr_len,List.length_drop,yb_len]; omega
   refine apT rfl Fx.se34 Fx.st9 Fx.zv5 (.u rfl) (.u rfl) .here (by (try simp only [List.length_append]); omega) ?_; intro v66 L66 ov66 eL66
   refine .nil (Wp.one 14 (by kernel_rfl) ?_)
   refine nc rfl .no (.u rfl) (.nil (Wp.one 15 (by kernel_rfl) ?_))
   refine fz rfl .no Fx.fo121_0 (.u rfl) (.nil (Wp.b1 16 (by kernel_rfl) ?_))
   refine s1v rfl (.u rfl) (.u rfl) .here Fx.sz34 tk1 (show 0<4 by decide) (rfl) ?_
   refine .nil (Wp.last (by kernel_rfl) ?_)
   refine .code (rq5 rfl rfl (mV rfl rfl (mV rfl rfl (nc rfl .no (.u rfl) (fz rfl .no Fx.fo121_3 (.u rfl) (s1 rfl (.u rfl) (.u rfl) rfl Fx.sz9 .here (show 3<4 by decide) (rfl) ?_))))))
   refine .nil (.nil (We.fin Tryz.results71 .nil (mS .here rfl (mS .here rfl mN)) ?_))
   subst c1
   exact ⟨_,L66,h29,L29,ad_fin (k:=0) hu hv com_new.symm eL41 eL47 eL52 eL59 eL63 eL66,by rw [if_pos rfl]; exact eL29,rfl,rfl,hs29⟩
  refine ld rfl .no Fx.ag9 (.u rfl) (fun _=>Rd.own tk1 (by first|exact wap_f rfl|rfl)) ?_
  refine .nil (Wp.b1 6 (by kernel_rfl) ?_)
  have lL52:=nmx eL52
  refine apY rfl Fx.se34 Fx.zv5 (.u rfl) (.u rfl) tk2 hs52.sc (by (try simp only [qlA,yl_len]); omega) ?_
  intro v59 L59 ov59 eL59
  have lL59:L59.length=O.length+L52.length:=by rw [eL59,List.length_append]
  refine .nil (Wp.b1 10 (by kernel_rfl) ?_)
  refine apT rfl Fx.se34 Fx.st9 Fx.zv5 (.u rfl) (.u rfl) .here (by rw [bstr_len,List.length_drop,yb_len]; omega) ?_; intro v63 L63 ov63 eL63
  refine .nil (Wp.b1 13 (by kernel_rfl) ?_)
  have lL63:L63.length≤L59.length+(bstr (keyE e)).size:=by rw [eL63,List.length_append,yb_len,bstr_len,List.length_drop,yb_len]; omega
  refine apT rfl Fx.se34 Fx.st9 Fx.zv5 (.u rfl) (.u rfl) .here (by (try simp only [List.length_append]); omega) ?_; intro v66 L66 ov66 eL66
  refine .nil (Wp.one 14 (by kernel_rfl) ?_)
  refine nc rfl .no (.u rfl) (.nil (Wp.one 15 (by kernel_rfl) ?_))
  refine fz rfl .no Fx.fo121_0 (.u rfl) (.nil (Wp.b1 16 (by kernel_rfl) ?_))
  refine s1v rfl (.u rfl) (.u rfl) .here Fx.sz34 tk1 (show 0<4 by decide) (rfl) ?_
  refine .nil (Wp.last (by kernel_rfl) ?_)
  refine .code (rq5 rfl rfl (mV rfl rfl (mV rfl rfl (nc rfl .no (.u rfl) (fz rfl .no Fx.fo121_3 (.u rfl) (s1 rfl (.u rfl) (.u rfl) rfl Fx.sz9 .here (show 3<4 by decide) (rfl) ?_))))))
  refine .nil (.nil (We.fin Tryz.results71 .nil (mS .here rfl (mS .here rfl mN)) ?_))
  subst c1
  exact ⟨_,L66,h29,L29,ad_fin (k:=0) hu hv com_new.symm eL41 eL47 eL52 eL59 eL63 eL66,by rw [if_pos rfl]; exact eL29,rfl,rfl,hs29⟩
 have c1k:=c1
 try simp only [qcA,qcB] at c1
 refine .skip (.code (.seq (Wk.draw (mc:=⟨false,false⟩) [0,1,3,4,5,6,7,9,10,11,12,2,8,13,14] Fx.mix (by kernel_rfl) ?_)))
 refine mV rfl rfl (ci rfl .no rfl Fx.cv3_24 (.u rfl) ?_)
 refine mV rfl rfl (ls rfl .no Fx.st9 (.u rfl) (mV rfl rfl (ar rfl .no (.u rfl) (.u rfl) rfl (fun _=>wrap_i64 (by omega) (by omega)) ?_)))
 refine ci rfl .no rfl Fx.cv3_24 (.u rfl) ?_
 refine fz rfl .no Fx.fo47_3 (.u rfl) (ld rfl .no Fx.ag9 (.u rfl) (fun _=>Rd.own .here (by first|exact wap_f rfl|rfl)) ?_)
 refine ls rfl .no Fx.st9 (.u rfl) (ci rfl .no rfl Fx.cv3_24 (.u rfl) ?_)
 refine kc rfl Fx.go34 (Evc rfl (Evc rfl Evn)) (Ct.frzB (Num_ok [] ⟨none,0⟩ _ SlR.nul _ (Nat.zero_le _))) ?_
 rintro _ G41 μ41 hG41 ⟨h41,L41,eL41,rfl,rfl,hs41⟩
 have hP:=hP.mono hG41
 have lL41:=nm0 eL41
 refine kc rfl Fx.go34 (Evc rfl (Evc rfl Evn)) (Ct.frzB (Num_ok L41 h41 _ hs41 _ (by omega))) ?_
 rintro _ G47 μ47 hG47 ⟨h47,L47,eL47,rfl,rfl,hs47⟩
 have hP:=hP.mono hG47
 have lL47:=nmx eL47
 refine kc rfl Fx.go34 (Evc rfl (Evc rfl Evn)) (Ct.frzB (Num_ok L47 h47 _ hs47 _ (by omega))) ?_
 rintro _ G52 μ52 hG52 ⟨h52,L52,eL52,rfl,rfl,hs52⟩
 have hP:=hP.mono hG52
 refine aS rfl rfl (.nil (.code (.seq (Wk.mixp ⟨false,false⟩ Fx.mix (by kernel_rfl) ?_))))
 refine Wp.one 0 (by kernel_rfl) ?_
 refine mV rfl rfl (.nil (Wp.one 1 (by kernel_rfl) ?_))
 refine mV rfl rfl (.nil (Wp.one 2 (by kernel_rfl) ?_))
 refine nc rfl .no (.u rfl) (.nil (Wp.one 3 (by kernel_rfl) ?_))
 refine fz rfl .no Fx.fo121_0 (.u rfl) (.nil (Wp.one 4 (by kernel_rfl) ?_))
 refine ld rfl .no Fx.ag34 (.u rfl) (fun _=>Rd.own tk1 (by first|exact wap_f rfl|rfl)) ?_
 refine .nil (Wp.one 5 (by kernel_rfl) ?_)
 refine mV rfl rfl (.nil (Wp.one 7 (by kernel_rfl) ?_))
 refine mV rfl rfl (.nil (Wp.one 8 (by kernel_rfl) ?_))
 refine mV rfl rfl (.nil (Wp.one 9 (by kernel_rfl) ?_))
 refine sD ((comL (yb last) (yb (bstr (keyE e))))) rfl .no Fx.st9 (.u rfl) (.u rfl) (fun _=>by omega) (fun _=>by omega) ?_
 refine .nil (Wp.one 11 (by kernel_rfl) ?_)
 refine fz rfl .no Fx.fo47_3 (.u rfl) (.nil (Wp.b2 6 12 (by kernel_rfl) ?_ ?_))
 ·have lL52:=nmx eL52
  refine apY rfl Fx.se34 Fx.zv5 (.u rfl) (.u rfl) tk2 hs52.sc (by (try simp only [qlA,yl_len]); omega) ?_
  intro v59 L59 ov59 eL59
  have lL59:L59.length=O.length+L52.length:=by rw [eL59,List.length_append]
  refine .nil (Wp.b2 10 12 (by kernel_rfl) ?_ ?_)
  ·refine apT rfl Fx.se34 Fx.st9 Fx.zv5 (.u rfl) (.u rfl) .here (by rw [bstr_len,List.length_drop,yb_len]; omega) ?_; intro v63 L63 ov63 eL63
   refine .nil (Wp.one 12 (by kernel_rfl) ?_)
   refine ld rfl .no Fx.ag9 (.u rfl) (fun _=>Rd.own tk1 (by first|exact wap_f rfl|rfl)) ?_
   refine .nil (Wp.b1 13 (by kernel_rfl) ?_)
   have lL63:L63.length≤L59.length+(bstr (keyE e)).size:=by rw [eL63,List.length_append,yb_len,bstr_len,List.length_drop,yb_len]; omega
   refine apT rfl Fx.se34 Fx.st9 Fx.zv5 (.u rfl) (.u rfl) .here (by (try simp only [List.length_append]); omega) ?_; intro v66 L66 ov66 eL66
   refine .nil (Wp.one 14 (by kernel_rfl) ?_)
   refine nc rfl .no (.u rfl) (.nil (Wp.one 15 (by kernel_rfl) ?_))
   refine fz rfl .no Fx.fo121_0 (.u rfl) (.nil (Wp.b1 16 (by kernel_rfl) ?_))
   refine s1v rfl (.u rfl) (.u rfl) .here Fx.sz34 tk2 (show 0<4 by decide) (rfl) ?_
   refine .nil (Wp.last (by kernel_rfl) ?_)
   refine .code (rq5 rfl rfl (mV rfl rfl (mV rfl rfl (nc rfl .no (.u rfl) (fz rfl .no Fx.fo121_3 (.u rfl) (s1 rfl (.u rfl) (.u rfl) rfl Fx.sz9 .here (show 3<4 by decide) (rfl) ?_))))))
   refine .nil (.nil (We.fin Tryz.results71 .nil (mS .here rfl (mS .here rfl mN)) ?_))
   subst c1
   exact ⟨_,L66,sp,P,ad_fin (k:=comL (yb last) (yb (bstr (keyE e)))) hu hv (by rw [com_old,yb_bstr]) eL41 eL47 eL52 eL59 eL63 eL66,by rw [if_neg (by decide)],rfl,rfl,hP⟩
  refine ld rfl .no Fx.ag9 (.u rfl) (fun _=>Rd.own tk1 (by first|exact wap_f rfl|rfl)) ?_
  refine .nil (Wp.b1 10 (by kernel_rfl) ?_)
  refine apT rfl Fx.se34 Fx.st9 Fx.zv5 (.u rfl) (.u rfl) .here (by rw [bstr_len,List.length_drop,yb_len]; omega) ?_; intro v63 L63 ov63 eL63
  refine .nil (Wp.b1 13 (by kernel_rfl) ?_)
  have lL63:L63.length≤L59.length+(bstr (keyE e)).size:=by rw [eL63,List.length_append,yb_len,bstr_len,List.length_drop,yb_len]; omega
  refine apT rfl Fx.se34 Fx.st9 Fx.zv5 (.u rfl) (.u rfl) .here (by (try simp only [List.length_append]); omega) ?_; intro v66 L66 ov66 eL66
  refine .nil (Wp.one 14 (by kernel_rfl) ?_)
  refine nc rfl .no (.u rfl) (.nil (Wp.one 15 (by kernel_rfl) ?_))
  refine fz rfl .no Fx.fo121_0 (.u rfl) (.nil (Wp.b1 16 (by kernel_rfl) ?_))
  refine s1v rfl (.u rfl) (.u rfl) .here Fx.sz34 tk2 (show 0<4 by decide) (rfl) ?_
  refine .nil (Wp.last (by kernel_rfl) ?_)
  refine .code (rq5 rfl rfl (mV rfl rfl (mV rfl rfl (nc rfl .no (.u rfl) (fz rfl .no Fx.fo121_3 (.u rfl) (s1 rfl (.u rfl) (.u rfl) rfl Fx.sz9 .here (show 3<4 by decide) (rfl) ?_))))))
  refine .nil (.nil (We.fin Tryz.results71 .nil (mS .here rfl (mS .here rfl mN)) ?_))
  subst c1
  exact ⟨_,L66,sp,P,ad_fin (k:=comL (yb last) (yb (bstr (keyE e)))) hu hv (by rw [com_old,yb_bstr]) eL41 eL47 eL52 eL59 eL63 eL66,by rw [if_neg (by decide)],rfl,rfl,hP⟩
 refine ld rfl .no Fx.ag9 (.u rfl) (fun _=>Rd.own .here (by first|exact wap_f rfl|rfl)) ?_
 refine .nil (Wp.b1 6 (by kernel_rfl) ?_)
 have lL52:=nmx eL52
 refine apY rfl Fx.se34 Fx.zv5 (.u rfl) (.u rfl) tk2 hs52.sc (by (try simp only [qlA,yl_len]); omega) ?_
 intro v59 L59 ov59 eL59
 have lL59:L59.length=O.length+L52.length:=by rw [eL59,List.length_append]
 refine .nil (Wp.b1 10 (by kernel_rfl) ?_)
 refine apT rfl Fx.se34 Fx.st9 Fx.zv5 (.u rfl) (.u rfl) .here (by rw [bstr_len,List.length_drop,yb_len]; omega) ?_; intro v63 L63 ov63 eL63
 refine .nil (Wp.b1 13 (by kernel_rfl) ?_)
 have lL63:L63.length≤L59.length+(bstr (keyE e)).size:=by rw [eL63,List.length_append,yb_len,bstr_len,List.length_drop,yb_len]; omega
 refine apT rfl Fx.se34 Fx.st9 Fx.zv5 (.u rfl) (.u rfl) .here (by (try simp only [List.length_append]); omega) ?_; intro v66 L66 ov66 eL66
 refine .nil (Wp.one 14 (by kernel_rfl) ?_)
 refine nc rfl .no (.u rfl) (.nil (Wp.one 15 (by kernel_rfl) ?_))
 refine fz rfl .no Fx.fo121_0 (.u rfl) (.nil (Wp.b1 16 (by kernel_rfl) ?_))
 refine s1v rfl (.u rfl) (.u rfl) .here Fx.sz34 tk2 (show 0<4 by decide) (rfl) ?_
 refine .nil (Wp.last (by kernel_rfl) ?_)
 refine .code (rq5 rfl rfl (mV rfl rfl (mV rfl rfl (nc rfl .no (.u rfl) (fz rfl .no Fx.fo121_3 (.u rfl) (s1 rfl (.u rfl) (.u rfl) rfl Fx.sz9 .here (show 3<4 by decide) (rfl) ?_))))))
 refine .nil (.nil (We.fin Tryz.results71 .nil (mS .here rfl (mS .here rfl mN)) ?_))
 subst c1
 exact ⟨_,L66,sp,P,ad_fin (k:=comL (yb last) (yb (bstr (keyE e)))) hu hv (by rw [com_old,yb_bstr]) eL41 eL47 eL52 eL59 eL63 eL66,by rw [if_neg (by decide)],rfl,rfl,hP⟩
theorem bBuild_ok (h:Sh) (l:List Ent) (every:Int) (G:PM) (hs:SlR G 4 Ent.cells h l) (hl:l.length≤1000000):Ct Tryz.prog 28 ([h.val l.length,.int .i64 every]:List Value).toArray G [] (fun _ μ' u=>∃ v L er,(L,er)=buildB l every∧μ'=[rB v 5 L]∧u=.tuple #[v,.int .i64 er]):=by
 refine Ct.of Tryz.func28 rfl Tryz.ntmps28 rfl fun w0 hs0=>?_
 refine .seq (rq2 rfl rfl (aS rfl rfl (aS rfl rfl (.nil (.code (.seq (.seq (Wk.rg [0,1,2,3,4,5,6,7,8,9,10,11,12,13,14] rfl rfl (mV rfl rfl (cp rfl .no (.u rfl) (.u rfl) rfl (mV rfl rfl (mv rfl (.f rfl rfl) (.u rfl) (cp rfl (.f rfl rfl) (.s rfl) (.u rfl) rfl (pkO rfl .no (.u rfl) (.s rfl) (mV rfl rfl (mv rfl (.f rfl rfl) (.u rfl) (kv rfl (.f rfl rfl) Fx.go24 (Eva.cons (.s rfl) Evn) (fun hc=>rises_ok h l _ hs (by (try simp only [Bool.and_eq_true,decide_eq_true_eq,Bool.not_eq_true',Bool.or_eq_false_iff,decide_eq_false_iff_not] at hc); omega)) ?_)))))))))))))))))
 refine nt rfl (.f rfl rfl) (.s rfl) (pkO rfl .no (.u rfl) (.s rfl) (mV rfl rfl (mv rfl (.f rfl rfl) (.u rfl) (kv rfl (.f rfl rfl) Fx.go23 (Eva.cons (.s rfl) (Evc rfl Evn)) (fun hc=>contE_ok h l _ hs (by (try simp only [Bool.and_eq_true,decide_eq_true_eq,Bool.not_eq_true',Bool.or_eq_false_iff,decide_eq_false_iff_not] at hc); omega) 70 Fx.go70 [] (fun e => !rightE e) (fun G2 _ e _=>bBad_ok e G2)) ?_))))
 refine pkO rfl .no (.u rfl) (.s rfl) (.nil (.code (.cond rfl (fun c1=>?_) (fun c1=>?_))))
 ·have c1k:=c1
  try simp only [qcA,qcC,qcB] at c1
  refine .seq (rq2 rfl rfl (aS rfl rfl (aS rfl rfl (.nil (.code (.ret (we_nilB 5 ?_)))))))
  refine We.fin Tryz.results28 (.tmp rfl (.tmp rfl .nil)) (mS .here rfl mN) ?_
  exact ⟨_,[],1,bu_arg c1k,rfl,rfl⟩
 have c1k:=c1
 try simp only [qcA,qcC,qcB] at c1
 refine .skip (.code (.seq (rq10 rfl rfl (mV rfl rfl (ci rfl .no rfl Fx.cv3_24 (.u rfl) ?_)))))
 refine kc rfl Fx.go34 (Evc rfl (Evc rfl Evn)) (Ct.frzB (Num_ok [] ⟨none,0⟩ _ SlR.nul _ (Nat.zero_le _))) ?_
 rintro _ G26 μ26 hG26 ⟨h26,L26,eL26,rfl,rfl,hs26⟩
 have hs:=hs.mono hG26
 refine mV rfl rfl (ln rfl .no Fx.sn31 (.u rfl) (ci rfl .no rfl Fx.cv3_24 (.u rfl) ?_))
 have lL26:=nm0 eL26
 refine kc rfl Fx.go34 (Evc rfl (Evc rfl Evn)) (Ct.rowc (Num_ok L26 h26 _ hs26 _ (by omega))) ?_
 rintro v30 G30 μ30 hG30 ⟨L30,ov30,eL30,rfl⟩
 have hs:=hs.mono hG30
 refine bCe ([v30,.slice none 0 0,.int .i64 0,.string ByteArray.empty]) rfl .no Fx.bp121_0 (.cons (.u rfl) (cells_one ov30) .nil) rfl (rfl) ?_
 refine al rfl Fx.zq121 ?_; intro b6
 refine sw rfl (.u rfl) (.u rfl) rfl Fx.sz121 .here (by first|rfl|exact Ent.len _) (one4 ov30 rfl rfl rfl) ?_
 refine .nil (.code (.seq (.seq (rq3 rfl rfl (mV rfl rfl (ln rfl .no Fx.sn31 (.u rfl) (mV rfl rfl (.nil (.code (.block ?_))))))))))
 refine Wk.lop (α:=Nat×Value×List Y×Sh×List Y×Nat×ByteArray) (fun gh=>[(34,true,.int .i64 (gh.1:Int))]) (fun gh=>[.blk b6 (cl [gh.2.1,gh.2.2.2.1.val gh.2.2.2.2.1.length,.int .i64 (gh.2.2.2.2.2.1:Int),.string gh.2.2.2.2.2.2] 121),rB gh.2.1 5 gh.2.2.1])
  (fun gh Gl=>(gh.1≤l.length)∧(gh.2.2.1=outB every.toNat l gh.1)∧(gh.2.2.2.2.1=plcB every.toNat l gh.1)∧(gh.2.2.2.2.2.1=rstB every.toNat gh.1)∧(gh.2.2.2.2.2.2=bstr (lastB l gh.1))∧(∀ j,j<gh.1→(outB every.toNat l (j+1)).length≤1048576)∧(SlR Gl 1 encY gh.2.2.2.1 gh.2.2.2.2.1)) (fun gh=>l.length-gh.1) (0,v30,L30,⟨none,0⟩,[],0,ByteArray.empty) [(1,true,_),(6,true,_),(32,true,_),(33,true,_)] []
  (esC rfl (by first|rfl|exact evi (by omega)) (esD rfl (esD rfl (esD rfl (esD rfl eZ)))))
  (mS .here rfl (mS .here rfl mN)) ?_ ?_
 ·refine ⟨?_,?_,?_,?_,?_,?_,?_⟩
  ·(try dsimp only)<;>(first|omega|rfl|assumption|(simp; done))
  ·(try dsimp only)<;>(rw [eL30,eL26]; exact bo_zero (by have:=(bu_sz c1k).1; omega) rfl (by have:=(bu_sz c1k).1; omega) (by omega))
  ·(try dsimp only)<;>(rfl)
  ·(try dsimp only)<;>(rfl)
  ·(try dsimp only)<;>(exact bnil)
  ·(try dsimp only)<;>(exact fun j h=>absurd h (Nat.not_lt_zero _))
  (try dsimp only)<;>(exact SlR.nul)
 intro gh N0 Gl0 hN0 hGl0 hF0
 obtain ⟨k,v,O,sp,P,rs,last⟩:=gh; dsimp only at hF0 hN0 ⊢
 obtain ⟨hk,eO,eP,er,el,hno,hP⟩:=hF0
 have hs:=hs.mono hGl0
 obtain ⟨hev,hsz⟩:=bu_sz c1k
 have lO:O.length≤1048576:=by rw [eO]; exact out_bd (by omega) (by omega) hno
 have lP:P.length=4*rs:=by rw [eP,er,plcB_len]
 have lrs:rs≤k:=by rw [er]; exact rstB_le _ _
 have ll:last.size≤1032:=by rw [el]; exact last_bd hsz k
 refine .seq (rq1 rfl rfl (cp rfl .no (.u rfl) (.u rfl) rfl (.nil (.code (.seq (.cond rfl (fun c2=>?_) (fun c2=>?_)))))))
 ·have c2k:=c2
  try simp only [qcA,qcC,qcB] at c2
  refine .skip (.code (.seq (.block (.seq (rq6 rfl rfl (mV rfl rfl (ih rfl .no Fx.se31 (.u rfl) (.u rfl) (fun _=>by omega) (fun _=>by omega) (fun _=>hs.nn (k:=k) (by first|omega|(simp only [Bool.and_eq_true,decide_eq_true_eq] at hc; omega)|(simp only [List.length_cons,List.length_nil]; omega))) ?_)))))))
  obtain ⟨x,ex⟩:=getx (k:=k) (xs:=l) (by omega)
  refine lA rfl .no Fx.ag47 (.u rfl) (fun _=>(hs.at (by omega) ex).rd) (fun _=>Ent.len _) ?_
  refine al rfl Fx.zr47 ?_; intro b8
  refine aS rfl rfl ?_
  have hxx:=hsz x (List.mem_of_getElem? ex)
  refine sw rfl (.u rfl) (.u rfl) rfl Fx.sz47 .here (by first|rfl|exact Ent.len _) (Ent.one _) ?_
  refine .nil (.code (.seq (Wk.draw (mc:=⟨true,false⟩) [0,1,2,3,4,5] Fx.mix (by kernel_rfl) ?_)))
  refine lA rfl .no Fx.ag47 (.u rfl) (fun _=>RdN.own .here) (fun _=>(by first|rfl|exact Ent.len _)) ?_
  refine mV rfl rfl (mV rfl rfl (rmn (k) ((every).toNat) rfl .no (.u rfl) (.u rfl) (fun _=>by omega) (fun _=>by omega) (fun _=>by first|decide|omega) ?_))
  refine cp rfl .no (.u rfl) (.u rfl) rfl (ka rfl (.inl rfl) Fx.go71 (Evc rfl (Evc rfl (Evc rfl Evn))) (mtk2 tk1 tk1) (add_ok O P v sp rs last b6 x _ _ hP (by omega) (by omega) (by omega) (by omega) (by omega) (by omega)) ?_)
  rintro _ G44 μ44 hG44 ⟨v44,O44,sp44,P44,eO44,eP44,rfl,rfl,hP44⟩
  have hP:=hP.mono hG44
  refine .nil (.code (.seq (rq4 rfl rfl (fz rfl .no Fx.fo121_0 (.u rfl) (ld rfl .no Fx.ag34 (.u rfl) (fun _=>Rd.own .here (by first|exact wap_f rfl|rfl)) ?_)))))
  refine lr rfl .no Fx.sn34 (.u rfl) tk1 ?_
  refine cp rfl .no (.u rfl) (.u rfl) rfl (.nil (.code (.cond rfl (fun c3=>?_) (fun c3=>?_))))
  ·have c3k:=c3
   try simp only [qcA,qcC,qcB] at c3
   refine .seq (rq2 rfl rfl (aS rfl rfl (aS rfl rfl (.nil (.code (.ret (we_nilB 5 ?_)))))))
   refine We.fin Tryz.results28 (.tmp rfl (.tmp rfl .nil)) (mS .here rfl mN) ?_
   exact ⟨_,[],4,bu_long1 c1k (k:=k) (by omega) (by rw [← bo_step (L:=O44) ex el rfl (by rw [eO44,eO])]; omega),rfl,rfl⟩
  have c3k:=c3
  try simp only [qcA,qcC,qcB] at c3
  refine .skip (.blk (.code (rq2 rfl rfl (arn (((k+1):Nat):Int) rfl .no (.u rfl) (.u rfl) rfl (fun _=>by omega) (fun _=>wrap_i64 (by omega) (by omega)) ?_))))
  refine mV rfl rfl (.nil (We.lpo (k+1,v44,O44,sp44,P44,_,_) (esC rfl (by first|rfl|exact evi (by omega)) (esD rfl (esD rfl (esD rfl (esD rfl eZ))))) (mS .here rfl (mS .here rfl mN)) ?_ ?_ ?_))
  ·first|omega|(dsimp only; omega)
  ·exact (hGl0).trans hG44
  refine ⟨?_,?_,?_,?_,?_,?_,?_⟩
  ·(try dsimp only)<;>(first|omega|rfl|assumption|(simp; done))
  ·(try dsimp only)<;>(exact bo_step (L:=O44) ex el rfl (by rw [eO44,eO]))
  ·(try dsimp only)<;>(exact plc_step rfl eO eP eP44)
  ·(try dsimp only)<;>(exact rst_step rfl er)
  ·(try dsimp only)<;>(exact (congrArg bstr (last_le ex)).symm)
  ·(try dsimp only)<;>(exact bu_snoc hno (by rw [← bo_step (L:=O44) ex el rfl (by rw [eO44,eO])]; omega))
  (try dsimp only)<;>(exact hP44)
 have c2k:=c2
 try simp only [qcA,qcC,qcB] at c2
 refine .exit (.xcode (.xlp (.xblk (.code (.seq (Wk.mixp ⟨true,false⟩ Fx.mix (by kernel_rfl) ?_))))))
 refine Wp.one 0 (by kernel_rfl) ?_
 refine fz rfl .no Fx.fo121_0 (.u rfl) (.nil (Wp.one 1 (by kernel_rfl) ?_))
 refine ld rfl .no Fx.ag34 (.u rfl) (fun _=>Rd.own .here (by first|exact wap_f rfl|rfl)) ?_
 refine .nil (Wp.one 2 (by kernel_rfl) ?_)
 refine fz rfl .no Fx.fo121_1 (.u rfl) (.nil (Wp.one 3 (by kernel_rfl) ?_))
 refine ld rfl .no Fx.ag34 (.u rfl) (fun _=>Rd.own .here (by first|exact wap_f rfl|rfl)) ?_
 refine .nil (Wp.one 5 (by kernel_rfl) ?_)
 refine fz rfl .no Fx.fo121_2 (.u rfl) (.nil (Wp.b2 4 6 (by kernel_rfl) ?_ ?_))
 ·refine apY rfl Fx.se34 Fx.zv5 (.u rfl) (.u rfl) tk1 hP.sc (by (try simp only [qlA,yl_len]); omega) ?_
  intro v54 L54 ov54 eL54
  have lL54:L54.length=O.length+P.length:=by rw [eL54,List.length_append]
  refine .nil (Wp.one 6 (by kernel_rfl) ?_)
  refine ld rfl .no Fx.ag3 (.u rfl) (fun _=>Rd.own tk1 (by first|exact wap_f rfl|rfl)) ?_
  refine .nil (Wp.one 7 (by kernel_rfl) ?_)
  refine ci rfl .no rfl Fx.cv3_24 (.u rfl) ?_
  refine .nil (Wp.b1 8 (by kernel_rfl) ?_)
  refine kc rfl Fx.go35 (Evc rfl (Evc rfl (Evc rfl Evn))) (Ct.frzB (Fix_ok [] ⟨none,0⟩ _ 4 _ SlR.nul (Nat.zero_le _) (by decide))) ?_
  rintro _ G58 μ58 hG58 ⟨h58,L58,eL58,rfl,rfl,hs58⟩
  have hP:=hP.mono hG58
  refine .nil (Wp.b1 9 (by kernel_rfl) ?_)
  have lL58:=fx0 eL58
  refine apY rfl Fx.se34 Fx.zv5 (.u rfl) (.u rfl) .here hs58.sc (by (try simp only [qlA,yl_len]); omega) ?_
  intro v59 L59 ov59 eL59
  have lL59:L59.length=L54.length+L58.length:=by rw [eL59,List.length_append]
  refine .nil (Wp.one 10 (by kernel_rfl) ?_)
  refine fz rfl .no Fx.fo121_0 (.u rfl) (.nil (Wp.b1 11 (by kernel_rfl) ?_))
  refine s1v rfl (.u rfl) (.u rfl) .here Fx.sz34 tk1 (by first|decide|(simp only [wa_len,ba_len,qlA]; omega)) (rfl) ?_
  refine .nil (Wp.last (by kernel_rfl) ?_)
  refine .code (.seq (.seq (rq4 rfl rfl (fz rfl .no Fx.fo121_0 (.u rfl) (ld rfl .no Fx.ag34 (.u rfl) (fun _=>Rd.own .here (by first|exact wap_f rfl|rfl)) ?_)))))
  refine lr rfl .no Fx.sn34 (.u rfl) tk1 ?_
  refine cp rfl .no (.u rfl) (.u rfl) rfl (.nil (.code (.cond rfl (fun c4=>?_) (fun c4=>?_))))
  ·have c4k:=c4
   try simp only [qcA,qcC,qcB] at c4
   refine .seq (rq2 rfl rfl (aS rfl rfl (aS rfl rfl (.nil (.code (.ret (we_nilB 5 ?_)))))))
   refine We.fin Tryz.results28 (.tmp rfl (.tmp rfl .nil)) (mS .here rfl mN) ?_
   obtain rfl:k=l.length:=by omega
   exact ⟨_,[],4,bu_long2 c1k (by rw [← bu_all eO eP er eL54 eL58 eL59]; omega),rfl,rfl⟩
  have c4k:=c4
  try simp only [qcA,qcC,qcB] at c4
  refine .skip (.code (.seq (rq4 rfl rfl (fz rfl .no Fx.fo121_0 (.u rfl) (ld rfl .no Fx.ag34 (.u rfl) (fun _=>Rd.own .here (by first|exact wap_f rfl|rfl)) ?_)))))
  refine aS rfl rfl (aS rfl rfl (.nil (.code (.ret (We.fin Tryz.results28 (.tmp rfl (.tmp rfl .nil)) (mS tk1 rfl mN) ?_)))))
  obtain rfl:k=l.length:=by omega
  have eB:=bu_all eO eP er eL54 eL58 eL59
  exact ⟨_,L59,0,by rw [eB]; exact bu_ok c1k hno (by rw [← eB]; omega),rfl,rfl⟩
 refine ld rfl .no Fx.ag3 (.u rfl) (fun _=>Rd.own .here (by first|exact wap_f rfl|rfl)) ?_
 refine .nil (Wp.b2 4 7 (by kernel_rfl) ?_ ?_)
 ·refine apY rfl Fx.se34 Fx.zv5 (.u rfl) (.u rfl) tk1 hP.sc (by (try simp only [qlA,yl_len]); omega) ?_
  intro v54 L54 ov54 eL54
  have lL54:L54.length=O.length+P.length:=by rw [eL54,List.length_append]
  refine .nil (Wp.one 7 (by kernel_rfl) ?_)
  refine ci rfl .no rfl Fx.cv3_24 (.u rfl) ?_
  refine .nil (Wp.b1 8 (by kernel_rfl) ?_)
  refine kc rfl Fx.go35 (Evc rfl (Evc rfl (Evc rfl Evn))) (Ct.frzB (Fix_ok [] ⟨none,0⟩ _ 4 _ SlR.nul (Nat.zero_le _) (by decide))) ?_
  rintro _ G58 μ58 hG58 ⟨h58,L58,eL58,rfl,rfl,hs58⟩
  have hP:=hP.mono hG58
  refine .nil (Wp.b1 9 (by kernel_rfl) ?_)
  have lL58:=fx0 eL58
  refine apY rfl Fx.se34 Fx.zv5 (.u rfl) (.u rfl) .here hs58.sc (by (try simp only [qlA,yl_len]); omega) ?_
  intro v59 L59 ov59 eL59
  have lL59:L59.length=L54.length+L58.length:=by rw [eL59,List.length_append]
  refine .nil (Wp.one 10 (by kernel_rfl) ?_)
  refine fz rfl .no Fx.fo121_0 (.u rfl) (.nil (Wp.b1 11 (by kernel_rfl) ?_))
  refine s1v rfl (.u rfl) (.u rfl) .here Fx.sz34 tk1 (by first|decide|(simp only [wa_len,ba_len,qlA]; omega)) (rfl) ?_
  refine .nil (Wp.last (by kernel_rfl) ?_)
  refine .code (.seq (.seq (rq4 rfl rfl (fz rfl .no Fx.fo121_0 (.u rfl) (ld rfl .no Fx.ag34 (.u rfl) (fun _=>Rd.own .here (by first|exact wap_f rfl|rfl)) ?_)))))
  refine lr rfl .no Fx.sn34 (.u rfl) tk1 ?_
  refine cp rfl .no (.u rfl) (.u rfl) rfl (.nil (.code (.cond rfl (fun c4=>?_) (fun c4=>?_))))
  ·have c4k:=c4
   try simp only [qcA,qcC,qcB] at c4
   refine .seq (rq2 rfl rfl (aS rfl rfl (aS rfl rfl (.nil (.code (.ret (we_nilB 5 ?_)))))))
   refine We.fin Tryz.results28 (.tmp rfl (.tmp rfl .nil)) (mS .here rfl mN) ?_
   obtain rfl:k=l.length:=by omega
   exact ⟨_,[],4,bu_long2 c1k (by rw [← bu_all eO eP er eL54 eL58 eL59]; omega),rfl,rfl⟩
  have c4k:=c4
  try simp only [qcA,qcC,qcB] at c4
  refine .skip (.code (.seq (rq4 rfl rfl (fz rfl .no Fx.fo121_0 (.u rfl) (ld rfl .no Fx.ag34 (.u rfl) (fun _=>Rd.own .here (by first|exact wap_f rfl|rfl)) ?_)))))
  refine aS rfl rfl (aS rfl rfl (.nil (.code (.ret (We.fin Tryz.results28 (.tmp rfl (.tmp rfl .nil)) (mS tk1 rfl mN) ?_)))))
  obtain rfl:k=l.length:=by omega
  have eB:=bu_all eO eP er eL54 eL58 eL59
  exact ⟨_,L59,0,by rw [eB]; exact bu_ok c1k hno (by rw [← eB]; omega),rfl,rfl⟩
 refine ci rfl .no rfl Fx.cv3_24 (.u rfl) ?_
 refine .nil (Wp.b1 4 (by kernel_rfl) ?_)
 refine apY rfl Fx.se34 Fx.zv5 (.u rfl) (.u rfl) tk1 hP.sc (by (try simp only [qlA,yl_len]); omega) ?_
 intro v54 L54 ov54 eL54
 have lL54:L54.length=O.length+P.length:=by rw [eL54,List.length_append]
 refine .nil (Wp.b1 8 (by kernel_rfl) ?_)
 refine kc rfl Fx.go35 (Evc rfl (Evc rfl (Evc rfl Evn))) (Ct.frzB (Fix_ok [] ⟨none,0⟩ _ 4 _ SlR.nul (Nat.zero_le _) (by decide))) ?_
 rintro _ G58 μ58 hG58 ⟨h58,L58,eL58,rfl,rfl,hs58⟩
 refine .nil (Wp.b1 9 (by kernel_rfl) ?_)
 have lL58:=fx0 eL58
 refine apY rfl Fx.se34 Fx.zv5 (.u rfl) (.u rfl) .here hs58.sc (by (try simp only [qlA,yl_len]); omega) ?_
 intro v59 L59 ov59 eL59
 have lL59:L59.length=L54.length+L58.length:=by rw [eL59,List.length_append]
 refine .nil (Wp.one 10 (by kernel_rfl) ?_)
 refine fz rfl .no Fx.fo121_0 (.u rfl) (.nil (Wp.b1 11 (by kernel_rfl) ?_))
 refine s1v rfl (.u rfl) (.u rfl) .here Fx.sz34 tk1 (by first|decide|(simp only [wa_len,ba_len,qlA]; omega)) (rfl) ?_
 refine .nil (Wp.last (by kernel_rfl) ?_)
 refine .code (.seq (.seq (rq4 rfl rfl (fz rfl .no Fx.fo121_0 (.u rfl) (ld rfl .no Fx.ag34 (.u rfl) (fun _=>Rd.own .here (by first|exact wap_f rfl|rfl)) ?_)))))
 refine lr rfl .no Fx.sn34 (.u rfl) tk1 ?_
 refine cp rfl .no (.u rfl) (.u rfl) rfl (.nil (.code (.cond rfl (fun c4=>?_) (fun c4=>?_))))
 ·have c4k:=c4
  try simp only [qcA,qcC,qcB] at c4
  refine .seq (rq2 rfl rfl (aS rfl rfl (aS rfl rfl (.nil (.code (.ret (we_nilB 5 ?_)))))))
  refine We.fin Tryz.results28 (.tmp rfl (.tmp rfl .nil)) (mS .here rfl mN) ?_
  obtain rfl:k=l.length:=by omega
  exact ⟨_,[],4,bu_long2 c1k (by rw [← bu_all eO eP er eL54 eL58 eL59]; omega),rfl,rfl⟩
 have c4k:=c4
 try simp only [qcA,qcC,qcB] at c4
 refine .skip (.code (.seq (rq4 rfl rfl (fz rfl .no Fx.fo121_0 (.u rfl) (ld rfl .no Fx.ag34 (.u rfl) (fun _=>Rd.own .here (by first|exact wap_f rfl|rfl)) ?_)))))
 refine aS rfl rfl (aS rfl rfl (.nil (.code (.ret (We.fin Tryz.results28 (.tmp rfl (.tmp rfl .nil)) (mS tk1 rfl mN) ?_)))))
 obtain rfl:k=l.length:=by omega
 have eB:=bu_all eO eP er eL54 eL58 eL59
 exact ⟨_,L59,0,by rw [eB]; exact bu_ok c1k hno (by rw [← eB]; omega),rfl,rfl⟩
namespace Fx
theorem zq47:zrL Tryz.prog 47=some (Ent.zero.cells):=by kernel_rfl
theorem bp47_:bPl Tryz.prog 47 []=some (Ent.zero.cells,[]):=by kernel_rfl
theorem bp47_0_1_2:bPl Tryz.prog 47 [0,1,2]=some (Ent.zero.cells,[(0,1),(1,1),(2,1)]):=by kernel_rfl
theorem go95:goFn Tryz.prog 95=true:=by kernel_rfl
theorem go145:goFn Tryz.prog 145=true:=by kernel_rfl
theorem go146:goFn Tryz.prog 146=true:=by kernel_rfl
theorem go127:goFn Tryz.prog 127=true:=by kernel_rfl
theorem zw47:(Tryz.prog.info? 47).bind (·.zero)=some (.agg (Ent.zero.cells).toArray):=by kernel_rfl
theorem go28:goFn Tryz.prog 28=true:=by kernel_rfl
theorem go128:goFn Tryz.prog 128=true:=by kernel_rfl
end Fx
theorem eTake_ok (s:ByteArray) (G:PM) (hl:s.size≤1000000000):Ct Tryz.prog 146 ([.string s]:List Value).toArray G [] (fun _ μ' u=>μ'=[]∧u=.tuple #[(takeE (yb s)).1.val,.int .i64 (takeE (yb s)).2]):=by
 refine Ct.of Tryz.func146 rfl Tryz.ntmps146 rfl fun w0 hs0=>?_
 have l8:(yb (bstr ((yb s).drop (s.size-8)))).length≤1000000000:=by rw [yb_bstr,List.length_drop,yb_len]; omega
 refine .seq (rq2 rfl rfl ?_)
 refine al rfl Fx.zq47 ?_; intro b2
 refine aS rfl rfl (.nil (.code (.seq (rq4 rfl rfl (mV rfl rfl (ls rfl .no Fx.st9 (.u rfl) (ar rfl .no (.u rfl) (.u rfl) rfl (fun _=>wrap_i64 (by omega) (by omega)) ?_)))))))
 refine aS rfl rfl (.nil (.code (.seq (.seq (rq2 rfl rfl (mV rfl rfl (cp rfl .no (.u rfl) (.u rfl) rfl (.nil (.code (.cond rfl (fun c1=>?_) (fun c1=>?_)))))))))))
 ·have c1k:=c1
  try simp only [qcA,qcB] at c1
  refine .seq (rq3 rfl rfl (bC rfl .no Fx.bp47_ .nil rfl ?_))
  refine sw rfl (.u rfl) (.u rfl) rfl Fx.sz47 .here (by first|rfl|exact Ent.len _) (Ent.one _) ?_
  refine aS rfl rfl (.nil (.code (.ret (We.fin0 Tryz.results146 (.cell rfl (fun w hw=>run_loadVarN Fx.ag47 (RdN.own .here) ((by first|rfl|exact Ent.len _)) hw) (.tmp rfl .nil)) ?_))))
  exact ⟨rfl,by rw [tk_short c1]; rfl⟩
 have c1k:=c1
 try simp only [qcA,qcB] at c1
 refine .skip (.code (.seq (rq7 rfl rfl (mV rfl rfl (mV rfl rfl (sD ((s.size-8)) rfl .no Fx.st9 (.u rfl) (.u rfl) (fun _=>by omega) (fun _=>by omega) ?_))))))
 refine cvS rfl rfl FxTbC.sb9_34 (.u rfl) ?_; intro G16 h16 hG16 hs16
 refine kc rfl Fx.go92 (Evc rfl Evn) (wcNew_ok (yb (bstr ((yb s).drop (s.size-8)))) h16 _ hs16 (by omega)) ?_
 rintro _ G17 μ17 hG17 ⟨b17,s17,rfl,rfl,hs17⟩
 refine ka rfl (.inr rfl) Fx.go93 (Evc rfl (Evc rfl Evn)) (mtk1 .here) (rdFix_ok (yb (bstr ((yb s).drop (s.size-8)))) s17 _ _ hs17 (by rw [yb_bstr,List.length_drop,yb_len]; omega) (by omega)) ?_
 rintro _ G18 μ18 hG18 ⟨s18,rfl,rfl,hs18⟩
 refine aS rfl rfl (.nil (.code (.seq (rq10 rfl rfl (mV rfl rfl (mV rfl rfl (sE ((s.size-8)) rfl .no Fx.st9 (.u rfl) (.u rfl) (fun _=>by omega) (fun _=>by omega) ?_)))))))
 refine mV rfl rfl (rw' (k:=.u64) rfl .no (.u rfl) (.u rfl) (fun _=>by decide) ?_)
 refine mV rfl rfl (cu (k:=.u64) rfl .no rfl Fx.cv24_5 (.u rfl) ?_)
 refine bCe ((Ent.cells ⟨bstr ((yb s).take (s.size-8)),(unfK (yb (bstr ((yb s).drop (s.size-8)))) 8) >>> 8,(unfK (yb (bstr ((yb s).drop (s.size-8)))) 8).setWidth 8,ByteArray.empty⟩)) rfl .no Fx.bp47_0_1_2 (.cons (.u rfl) rfl (.cons (.u rfl) rfl (.cons (.u rfl) rfl .nil))) rfl (rfl) ?_
 refine al rfl Fx.zq47 ?_; intro b6
 refine sw rfl (.u rfl) (.u rfl) rfl Fx.sz47 .here (by first|rfl|exact Ent.len _) (Ent.one _) ?_
 refine .nil (.code (.seq (.seq (rq3 rfl rfl (lA rfl .no Fx.ag47 (.u rfl) (fun _=>RdN.own .here) (fun _=>(by first|rfl|exact Ent.len _)) ?_)))))
 refine kv rfl .no Fx.go21 (Evc rfl Evn) (fun _=>eRight_ok ⟨bstr ((yb s).take (s.size-8)),(unfK (yb (bstr ((yb s).drop (s.size-8)))) 8) >>> 8,(unfK (yb (bstr ((yb s).drop (s.size-8)))) 8).setWidth 8,ByteArray.empty⟩ _) ?_
 refine nt rfl .no (.u rfl) (.nil (.code (.cond rfl (fun c2=>?_) (fun c2=>?_))))
 ·have c2k:=c2
  try simp only [qcA,qcB] at c2
  refine .seq (rq3 rfl rfl (bC rfl .no Fx.bp47_ .nil rfl ?_))
  refine sw rfl (.u rfl) (.u rfl) rfl Fx.sz47 tk2 (by first|rfl|exact Ent.len _) (Ent.one _) ?_
  refine aS rfl rfl (.nil (.code (.ret (We.fin0 Tryz.results146 (.cell rfl (fun w hw=>run_loadVarN Fx.ag47 (RdN.own .here) ((by first|rfl|exact Ent.len _)) hw) (.tmp rfl .nil)) ?_))))
  exact ⟨rfl,by rw [tk_bad2 c1 c2]; rfl⟩
 have c2k:=c2
 try simp only [qcA,qcB] at c2
 refine .skip (.code (.seq (rq3 rfl rfl (lA rfl .no Fx.ag47 (.u rfl) (fun _=>RdN.own .here) (fun _=>(by first|rfl|exact Ent.len _)) ?_))))
 refine sw rfl (.u rfl) (.u rfl) rfl Fx.sz47 tk2 (by first|rfl|exact Ent.len _) (Ent.one _) ?_
 refine aS rfl rfl (.nil (.code (.ret (We.fin0 Tryz.results146 (.cell rfl (fun w hw=>run_loadVarN Fx.ag47 (RdN.own .here) ((by first|rfl|exact Ent.len _)) hw) (.tmp rfl .nil)) ?_))))
 exact ⟨rfl,by rw [tk_good2 c1 c2]; rfl⟩
theorem text_ok (xs:List Y) (s:Sh) (b n:Nat) (G:PM) (hs:SlR G 1 encY s xs) (hn:n≤xs.length) (hl:xs.length≤100000000000000):Ct Tryz.prog 145 ([.pointer (some ⟨b,0,none⟩),.int .u64 (n:Int)]:List Value).toArray G [.blk b (cl [s.val xs.length,.int .i64 0] 175)] (fun G' μ' u=>∃ s',μ'=[.blk b (cl [Sh.val s' (xs.drop n).length,.int .i64 0] 175)]∧u=.string (bstr (xs.take n))∧SlR G' 1 encY s' (xs.drop n)):=by
 refine Ct.of Tryz.func145 rfl Tryz.ntmps145 rfl fun w0 hs0=>?_
 refine .seq (rq1 rfl rfl (aS rfl rfl (.nil (.code (.seq (rq3 rfl rfl (mV rfl rfl ?_)))))))
 refine mkY (n) (n) rfl Fx.se34 Fx.zv5 (.u rfl) (.u rfl) (by first|rfl|omega) (by first|rfl|omega) (by omega) (by omega) ?_; intro b8
 have lR8:(List.replicate (n) (0#8:Y)).length=n:=List.length_replicate
 refine aS rfl rfl (.nil (.code (.seq (.seq (rq3 rfl rfl (mV rfl rfl (lr rfl .no Fx.sn34 (.u rfl) .here ?_)))))))
 refine mV rfl rfl (.nil (.code (.block ?_)))
 refine Wk.lop (α:=Nat×List Y×Sh) (fun gh=>[(11,true,.int .i64 (gh.1:Int))]) (fun gh=>[rB (.slice (some ⟨b8,0,none⟩) (n:Nat) (n:Nat)) 5 gh.2.1,.blk b (cl [Sh.val gh.2.2 (xs.drop gh.1).length,.int .i64 0] 175)])
  (fun gh Gl=>(gh.1≤n)∧(gh.2.1=txM xs n gh.1)∧(gh.2.1.length=n)∧(SlR Gl 1 encY gh.2.2 (xs.drop gh.1))) (fun gh=>n-gh.1) (0,List.replicate n 0#8,s) [(0,true,_),(5,true,_),(10,true,_)] []
  (esC rfl (by first|rfl|exact evi (by omega)) (esD rfl (esD rfl (esD rfl eZ))))
  (mS .here rfl (mS .here rfl mN)) ?_ ?_
 ·refine ⟨?_,?_,?_,?_⟩
  ·(try dsimp only)<;>(first|omega|rfl|assumption|(simp; done))
  ·(try dsimp only)<;>(rw [tx_zero])
  ·(try dsimp only)<;>(exact List.length_replicate)
  (try dsimp only)<;>(exact hs)
 intro gh N0 Gl0 hN0 hGl0 hF0
 obtain ⟨k,M,s9⟩:=gh; dsimp only at hF0 hN0 ⊢
 obtain ⟨hk,eM,lM,hsl⟩:=hF0
 refine .seq (rq1 rfl rfl (cp rfl .no (.u rfl) (.u rfl) rfl (.nil (.code (.seq (.cond rfl (fun c1=>?_) (fun c1=>?_)))))))
 ·have c1k:=c1
  try simp only [qcA,qcB] at c1
  refine .skip (.code (.seq (.block (.seq (rq2 rfl rfl (mV rfl rfl (aS rfl rfl (.nil (.code (rq7 rfl rfl (mV rfl rfl (mV rfl rfl (mV rfl rfl (ka rfl (.inr rfl) Fx.go93 (Evc rfl (Evc rfl Evn)) (mtk1 tk1) (rFix_ok (xs.drop k) 0 s9 b _ hsl (by rw [List.length_drop]; omega)) ?_))))))))))))))
  rintro _ G17 μ17 hG17 ⟨y17,L17,e17,s17,hN17,rfl,rfl,hs17⟩
  obtain ⟨rfl,rfl,rfl⟩:=tx_byte (by omega) hN17
  have hsl:=hsl.mono hG17
  refine cu (k:=.u64) rfl .no rfl Fx.cv24_5 (.u rfl) ?_
  refine ia rfl .no Fx.se34 (.u rfl) (.u rfl) (fun _=>by omega) (fun _=>by omega) ?_
  refine s1r rfl (.u rfl) (.u rfl) Fx.sz5 tk1 (by omega) ?_; intro Ls5_6 eLs5_6 lLs5_6
  refine .nil (.blk (.code (rq2 rfl rfl (arn (((k+1):Nat):Int) rfl .no (.u rfl) (.u rfl) rfl (fun _=>by omega) (fun _=>wrap_i64 (by omega) (by omega)) ?_))))
  refine mV rfl rfl (.nil (We.lpo (k+1,Ls5_6,s17) ?_ ?_ ?_ ?_ ?_))
  ·exact (esC rfl (by first|rfl|exact evi (by omega)) (esD rfl (esD rfl (esD rfl eZ))))
  ·exact (mS .here rfl (mS .here rfl mN))
  ·first|omega|(dsimp only; omega)
  ·exact (hGl0).trans hG17
  refine ⟨?_,?_,?_,?_⟩
  ·(try dsimp only)<;>(first|omega|rfl|assumption|(simp; done))
  ·(try dsimp only)<;>(rw [eLs5_6,eM]; exact tx_st (by omega) hn (by rw [Nat.zero_add,Nat.mul_one]; rfl) (tx_back _))
  ·(try dsimp only)<;>(first|omega|rfl|assumption|(simp; done))
  (try dsimp only)<;>(exact hs17)
 have c1k:=c1
 try simp only [qcA,qcB] at c1
 refine .exit (.xcode (.xlp (.xblk (.code (.seq ?_)))))
 subst lM
 refine rq3 rfl rfl (mV rfl rfl (sB rfl .no Fx.bs34_9 (.u rfl) (fun _=>(Sc.row .here)) ?_))
 refine aS rfl rfl (.nil (.code (.ret (We.fin Tryz.results145 (.tmp rfl .nil) (mS tk1 rfl mN) ?_))))
 obtain rfl:k=M.length:=by omega
 exact ⟨s9,rfl,congrArg (fun z=>Value.string (bstr z)) (eM.trans tx_all),hsl⟩
theorem bTake_ok (xs:List Y) (s:Sh) (b:Nat) (last:ByteArray) (G:PM) (hs:SlR G 1 encY s xs) (hl:xs.length≤100000000) (hk:last.size≤100000000):Ct Tryz.prog 127 ([.pointer (some ⟨b,0,none⟩),.string last]:List Value).toArray G [.blk b (cl [s.val xs.length,.int .i64 0] 175)] (fun G' μ' u=>(takeV (yb last) xs=none∧μ'=[]∧∃ (E:Ent) (key:ByteArray),u=.tuple #[E.val,.string key,.bool false])∨(∃ E key L s',takeV (yb last) xs=some (E,yb key,L)∧μ'=[.blk b (cl [Sh.val s' L.length,.int .i64 0] 175)]∧u=.tuple #[E.val,.string key,.bool true]∧SlR G' 1 encY s' L)):=by
 refine Ct.of Tryz.func127 rfl Tryz.ntmps127 rfl fun w0 hs0=>?_
 refine .seq (rq3 rfl rfl ?_)
 refine al rfl Fx.zq47 ?_; intro b4
 refine aS rfl rfl (aS rfl rfl (.nil (.code (.seq (rq9 rfl rfl (mV rfl rfl (ka rfl (.inr rfl) Fx.go95 (Evc rfl Evn) (mtk1 tk1) (rNum_ok xs 0 s b _ hs (by omega)) ?_)))))))
 rintro _ G15 μ15 hG15 ⟨n15,L15,e15,s15,hN15,rfl,rfl,hs15⟩
 have lL15:=rdnum_le hN15; have nL15:=rdnum_lt hN15; simp only at lL15
 refine mV rfl rfl (ka rfl (.inr rfl) Fx.go95 (Evc rfl Evn) (mtk1 .here) (rNum_ok L15 e15 s15 b _ hs15 (by omega)) ?_)
 rintro _ G17 μ17 hG17 ⟨n17,L17,e17,s17,hN17,rfl,rfl,hs17⟩
 have lL17:=rdnum_le hN17; have nL17:=rdnum_lt hN17; simp only at lL17
 refine mV rfl rfl (ka rfl (.inr rfl) Fx.go95 (Evc rfl Evn) (mtk1 .here) (rNum_ok L17 e17 s17 b _ hs17 (by omega)) ?_)
 rintro _ G19 μ19 hG19 ⟨n19,L19,e19,s19,hN19,rfl,rfl,hs19⟩
 have lL19:=rdnum_le hN19; have nL19:=rdnum_lt hN19; simp only at lL19
 refine aS rfl rfl (aS rfl rfl (aS rfl rfl (.nil (.code (.seq (rq4 rfl rfl (mV rfl rfl (kp rfl .no Fx.go125 (Evc rfl Evn) (Gp.add .here Gp.nil) (fun _ hle hq=>rLeft_ok L19 e19 s19 b _ RdNP.add) ?_))))))))
 refine cw rfl .no Fx.cv3_24 (.u rfl) (fun _=>wrap_u64 (by omega) (by omega)) ?_
 refine aS rfl rfl (.nil (.code (.seq (.seq (Wk.rg [0,1,2,3,4,5,6,7,8,9,10,11,12,13,14,15,16,17,18,19,20,21] rfl rfl (mV rfl rfl (kp rfl .no Fx.go96 (Evc rfl Evn) (Gp.add .here Gp.nil) (fun _ hle hq=>rFault_ok L19 e19 s19 b _ RdNP.add) ?_)))))))
 refine cp rfl .no (.u rfl) (.u rfl) rfl (mV rfl rfl (mv rfl (.f rfl rfl) (.u rfl) (mv rfl (.f rfl rfl) (.u rfl) (ls rfl (.f rfl rfl) Fx.st9 (.s rfl) (cw rfl (.f rfl rfl) Fx.cv3_24 (.s rfl) (fun hc=>wrap_u64 (by (try simp only [Bool.and_eq_true,decide_eq_true_eq,Bool.not_eq_true',Bool.or_eq_false_iff,decide_eq_false_iff_not] at hc); omega) (by (try simp only [Bool.and_eq_true,decide_eq_true_eq,Bool.not_eq_true',Bool.or_eq_false_iff,decide_eq_false_iff_not] at hc); omega)) ?_)))))
 refine cp rfl (.f rfl rfl) (.s rfl) (.s rfl) rfl (pkO rfl .no (.u rfl) (.s rfl) (mV rfl rfl (mv rfl (.f rfl rfl) (.u rfl) (mv rfl (.f rfl rfl) (.u rfl) (cp rfl (.f rfl rfl) (.s rfl) (.s rfl) rfl (pkO rfl .no (.u rfl) (.s rfl) (mV rfl rfl (mv rfl (.f rfl rfl) (.u rfl) (mv rfl (.f rfl rfl) (.u rfl) (mv rfl (.f rfl rfl) (.u rfl) (ar rfl (.f rfl rfl) (.s rfl) (.s rfl) rfl (fun hc=>wrap_u64 (by (try simp only [Bool.and_eq_true,decide_eq_true_eq,Bool.not_eq_true',Bool.or_eq_false_iff,decide_eq_false_iff_not] at hc); omega) (by (try simp only [Bool.and_eq_true,decide_eq_true_eq,Bool.not_eq_true',Bool.or_eq_false_iff,decide_eq_false_iff_not] at hc); omega)) ?_)))))))))))
 refine cp rfl (.f rfl rfl) (.s rfl) (.s rfl) rfl (pkO rfl .no (.u rfl) (.s rfl) (.nil (.code (.cond rfl (fun c1=>?_) (fun c1=>?_)))))
 ·have c1k:=c1
  try simp only [qcA,qcC,qcB] at c1
  refine .seq (rq4 rfl rfl (bC rfl .no Fx.bp47_ .nil rfl ?_))
  refine sw rfl (.u rfl) (.u rfl) rfl Fx.sz47 tk1 (by first|rfl|exact Ent.len _) (Ent.one _) ?_
  refine aS rfl rfl (aS rfl rfl (.nil (.code (.ret (We.fin0 Tryz.results127 (.cell rfl (fun w hw=>run_loadVarN Fx.ag47 (RdN.own .here) (Ent.len _) hw) (.tmp rfl (.tmp rfl .nil))) ?_)))))
  exact .inl ⟨by rw [tv_num hN15 hN17 hN19,if_neg (fun q=>by omega)],rfl,Ent.zero,ByteArray.empty,rfl⟩
 have c1k:=c1
 try simp only [qcA,qcC,qcB] at c1
 refine .skip (.code (.seq ?_))
 obtain rfl:e19=0:=by omega
 refine Wk.draw (mc:=⟨true,false⟩) [0,1,2,3,4,5,6,7] Fx.mix (by kernel_rfl) ?_
 refine mV rfl rfl (mV rfl rfl (sE (n15) rfl .no Fx.st9 (.u rfl) (.u rfl) (fun _=>by omega) (fun _=>by omega) ?_))
 refine mV rfl rfl (mV rfl rfl (ka rfl (.inl rfl) Fx.go145 (Evc rfl (Evc rfl Evn)) (mtk1 .here) (text_ok L19 s19 b n17 _ hs19 (by omega) (by omega)) ?_))
 rintro _ G51 μ51 hG51 ⟨s51,rfl,rfl,hs51⟩
 refine sP rfl .no (.u rfl) (.u rfl) (fun _=>by simp only [bstr_len,List.length_take,yb_len]; omega) ?_
 refine aS rfl rfl (.nil (.code (.seq ?_)))
 generalize hkey:bstr (yb (bstr ((yb last).take n15))++yb (bstr (L19.take n17)))=key
 have eky:yb key=(yb last).take n15++L19.take n17:=by rw [← hkey,yb_bstr,yb_bstr,yb_bstr]
 have lky:key.size≤200000000:=by rw [← yb_len,eky,List.length_append,List.length_take,List.length_take,yb_len]; omega
 refine rq8 rfl rfl (mV rfl rfl (kv rfl .no Fx.go146 (Evc rfl Evn) (fun _=>eTake_ok key _ (by omega)) ?_))
 refine mV rfl rfl (ex rfl .no (.u rfl) rfl (ex rfl .no (.u rfl) rfl ?_))
 refine al rfl Fx.zq47 ?_; intro b12
 refine sw rfl (.u rfl) (.u rfl) rfl Fx.sz47 .here (by first|rfl|exact Ent.len _) (Ent.one _) ?_
 refine aS rfl rfl (.nil (.code (.seq (rq5 rfl rfl (mV rfl rfl (mV rfl rfl (ka rfl (.inr rfl) Fx.go145 (Evc rfl (Evc rfl Evn)) (mtk1 tk1) (text_ok (L19.drop n17) s51 b n19 _ hs51 (by rw [List.length_drop]; omega) (by rw [List.length_drop]; omega)) ?_)))))))
 rintro _ G60 μ60 hG60 ⟨s60,rfl,rfl,hs60⟩
 refine fz rfl .no Fx.fo47_3 (.u rfl) (s1 rfl (.u rfl) (.u rfl) rfl Fx.sz9 tk1 (show 3<4 by decide) (Ent.set3 _ _) ?_)
 refine .nil (.code (.seq ?_))
 by_cases hq:(takeE (yb key)).2=0
 ·refine rq7 rfl rfl (lA rfl .no Fx.ag47 (.u rfl) (fun _=>RdN.own .here) (fun _=>(by first|rfl|exact Ent.len _)) ?_)
  refine mV rfl rfl (mV rfl rfl (cp rfl .no (.u rfl) (.u rfl) rfl (sw rfl (.u rfl) (.u rfl) rfl Fx.sz47 tk2 (by first|rfl|exact Ent.len _) (Ent.one _) ?_)))
  refine aS rfl rfl (aS rfl rfl (.nil (.code (.ret (We.fin Tryz.results127 (.cell rfl (fun w hw=>run_loadVarN Fx.ag47 (RdN.own .here) (Ent.len _) hw) (.tmp rfl (.tmp rfl .nil))) (mS tk2 rfl mN) ?_)))))
  refine .inr ⟨{ (takeE (yb key)).1 with value:=bstr ((L19.drop n17).take n19) },key,(L19.drop n17).drop n19,s60,?_,rfl,?_,hs60⟩
  ·rw [tv_num hN15 hN17 hN19,if_pos ⟨rfl,by omega,by omega,by omega⟩,←eky,if_pos hq]
  rw [show ((takeE (yb key)).2 == 0)=true by rw [hq]; rfl]; rfl
 refine rq7 rfl rfl (lA rfl .no Fx.ag47 (.u rfl) (fun _=>RdN.own .here) (fun _=>(by first|rfl|exact Ent.len _)) ?_)
 refine mV rfl rfl (mV rfl rfl (cp rfl .no (.u rfl) (.u rfl) rfl (sw rfl (.u rfl) (.u rfl) rfl Fx.sz47 tk2 (by first|rfl|exact Ent.len _) (Ent.one _) ?_)))
 refine aS rfl rfl (aS rfl rfl (.nil (.code (.ret (We.fin0 Tryz.results127 (.cell rfl (fun w hw=>run_loadVarN Fx.ag47 (RdN.own .here) (Ent.len _) hw) (.tmp rfl (.tmp rfl .nil))) ?_)))))
 refine .inl ⟨?_,rfl,{ (takeE (yb key)).1 with value:=bstr ((L19.drop n17).take n19) },key,?_⟩
 ·rw [tv_num hN15 hN17 hN19,if_pos ⟨rfl,by omega,by omega,by omega⟩,←eky,if_neg hq]
 rw [show ((takeE (yb key)).2 == 0)=false from beq_eq_false_iff_ne.2 hq]; rfl
theorem bTake_no (xs:List Y) (s:Sh) (b:Nat) (last:ByteArray) (G:PM) (hs:SlR G 1 encY s xs) (hl:xs.length≤100000000) (hk:last.size≤100000000) (hq:takeV (yb last) xs=none):Ct Tryz.prog 127 ([.pointer (some ⟨b,0,none⟩),.string last]:List Value).toArray G [.blk b (cl [s.val xs.length,.int .i64 0] 175)] (fun _ μ' u=>∃ (E:Ent) (key:ByteArray),μ'=[]∧u=.tuple #[E.val,.string key,.bool false]) :=
 (bTake_ok xs s b last G hs hl hk).mono fun G' μ' u hh=>by
  rcases hh with ⟨_,h1,E,key,h2⟩ | ⟨E,key,L,s',h1,_⟩
  ·exact ⟨E,key,h1,h2⟩
  ·rw [hq] at h1; cases h1
theorem bTake_yes (xs:List Y) (s:Sh) (b:Nat) (last:ByteArray) (G:PM) (hs:SlR G 1 encY s xs) (hl:xs.length≤100000000) (hk:last.size≤100000000) {E:Ent} {K L:List Y} (hq:takeV (yb last) xs=some (E,K,L)):Ct Tryz.prog 127 ([.pointer (some ⟨b,0,none⟩),.string last]:List Value).toArray G [.blk b (cl [s.val xs.length,.int .i64 0] 175)] (fun G' μ' u=>∃ key s',yb key=K∧μ'=[.blk b (cl [Sh.val s' L.length,.int .i64 0] 175)]∧u=.tuple #[E.val,.string key,.bool true]∧SlR G' 1 encY s' L) :=
 (bTake_ok xs s b last G hs hl hk).mono fun G' μ' u hh=>by
  rcases hh with ⟨h1,_⟩ | ⟨E,key,L,s',h1,h2,h3,h4⟩
  ·rw [hq] at h1; cases h1
  ·rw [hq] at h1; cases h1; exact ⟨key,s',rfl,h2,h3,h4⟩
theorem bRead_ok (xs:List Y) (h:Sh) (G:PM) (hs:SlR G 1 encY h xs) (hl:xs.length≤1000000):Ct Tryz.prog 101 ([h.val xs.length]:List Value).toArray G [] (fun G' μ' u=>∃ (h':Sh) (l:List Ent) (er:Int),(l,er)=readB xs∧μ'=[]∧u=.tuple #[h'.val l.length,.int .i64 er]∧SlR G' 4 Ent.cells h' l):=by
 refine Ct.of Tryz.func101 rfl Tryz.ntmps101 rfl fun w0 hs0=>?_
 refine .seq (rq2 rfl rfl (aS rfl rfl (aS rfl rfl (.nil (.code (.seq (rq3 rfl rfl (mV rfl rfl (kc rfl Fx.go92 (Evc rfl Evn) (wcNew_ok xs h _ hs (by omega)) ?_)))))))))
 rintro _ G15 μ15 hG15 ⟨b15,s15,rfl,rfl,hs15⟩
 have hs:=hs.mono hG15
 refine aS rfl rfl (.nil (.code (.seq (rq6 rfl rfl (mV rfl rfl (ka rfl (.inr rfl) Fx.go95 (Evc rfl Evn) (mtk1 .here) (rNum_ok xs 0 s15 b15 _ hs15 (by omega)) ?_))))))
 rintro _ G17 μ17 hG17 ⟨n17,L17,e17,s17,hN17,rfl,rfl,hs17⟩
 have lL17:=rdnum_le hN17; have nL17:=rdnum_lt hN17; simp only at lL17
 have hs:=hs.mono hG17
 refine mV rfl rfl (ka rfl (.inr rfl) Fx.go95 (Evc rfl Evn) (mtk1 .here) (rNum_ok L17 e17 s17 b15 _ hs17 (by omega)) ?_)
 rintro _ G19 μ19 hG19 ⟨n19,L19,e19,s19,hN19,rfl,rfl,hs19⟩
 have lL19:=rdnum_le hN19; have nL19:=rdnum_lt hN19; simp only at lL19
 have hs:=hs.mono hG19
 refine aS rfl rfl (aS rfl rfl (.nil (.code (.seq (.seq (rq7 rfl rfl (mV rfl rfl (kp rfl .no Fx.go96 (Evc rfl Evn) (Gp.add .here Gp.nil) (fun _ hle hq=>rFault_ok L19 e19 s19 b15 _ RdNP.add) ?_))))))))
 refine cp rfl .no (.u rfl) (.u rfl) rfl (mV rfl rfl (mv rfl (.f rfl rfl) (.u rfl) (cp rfl (.f rfl rfl) (.s rfl) (.u rfl) rfl (pkO rfl .no (.u rfl) (.s rfl) (.nil (.code (.cond rfl (fun c1=>?_) (fun c1=>?_))))))))
 ·have c1k:=c1
  try simp only [qcA,qcC,qcB] at c1
  refine .seq (rq2 rfl rfl (aS rfl rfl (aS rfl rfl (.nil (.code (.ret (We.fin0 Tryz.results101 (.tmp rfl (.tmp rfl .nil)) ?_)))))))
  exact ⟨⟨none,0⟩,[],100,rb_head hN17 hN19 c1,rfl,rfl,SlR.nul⟩
 have c1k:=c1
 try simp only [qcA,qcC,qcB] at c1
 refine .skip (.code (.seq (rq1 rfl rfl (aS rfl rfl (.nil (.code (.seq (.seq ?_))))))))
 obtain rfl:e19=0:=by omega
 refine wk_nilS 4 Ent.cells 47 (rq1 rfl rfl (aS rfl rfl (.nil (.code (.block ?_)))))
 refine Wk.lop (α:=Nat×ByteArray×Value×List Ent×List Y×Sh) (fun gh=>[(6,true,.int .u64 (gh.1:Int)),(7,true,gh.2.2.1),(8,true,.string gh.2.1)]) (fun gh=>[rS 4 Ent.cells gh.2.2.1 47 gh.2.2.2.1,.blk b15 (cl [Sh.val gh.2.2.2.2.2 gh.2.2.2.2.1.length,.int .i64 0] 175)])
  (fun gh Gl=>(entsP n19 [] [] L19=entsP gh.1 (yb gh.2.1) gh.2.2.2.1 gh.2.2.2.2.1)∧(gh.2.2.2.1.length+gh.2.2.2.2.1.length≤L19.length∧gh.2.1.size+gh.2.2.2.2.1.length≤L19.length)∧(gh.1≤n19)∧(SlR Gl 1 encY gh.2.2.2.2.2 gh.2.2.2.2.1)) (fun gh=>gh.1) (n19,ByteArray.empty,.slice none 0 0,[],L19,s19) [(0,true,_),(4,true,_),(5,true,_)] []
  (esD rfl (esD rfl (esD rfl (esD rfl (esD rfl (esD rfl eZ))))))
  (mS .here rfl (mS .here rfl mN)) ?_ ?_
 ·refine ⟨?_,?_,?_,?_⟩
  ·(try dsimp only)<;>(rw [yb_nil])
  ·(try dsimp only)<;>(exact ⟨by simp,Nat.le_of_eq (by rw [show ByteArray.empty.size=0 from rfl]; omega)⟩)
  ·(try dsimp only)<;>(first|omega|rfl|assumption|(simp; done))
  (try dsimp only)<;>(exact hs19)
 intro gh N0 Gl0 hN0 hGl0 hF0
 obtain ⟨m,last,v,acc,R,sR⟩:=gh; dsimp only at hF0 hN0 ⊢
 obtain ⟨hE,hlen,hm,hR⟩:=hF0
 have hs:=hs.mono hGl0
 refine .seq (.seq (rq2 rfl rfl (mV rfl rfl (cp rfl .no (.u rfl) (.u rfl) rfl (.nil (.code (.cond rfl (fun c2=>?_) (fun c2=>?_))))))))
 ·have c2k:=c2
  try simp only [qcA,qcC,qcB] at c2
  refine .skip (.code (.seq (.block (.seq ?_))))
  rcases hst:takeV (yb last) R with _ | ⟨E2,K2,R2⟩
  ·refine Wk.rg [0,1,2,3,4,5,6,7,8,9,10] rfl rfl (mV rfl rfl (mV rfl rfl (ka rfl (.inr rfl) Fx.go127 (Evc rfl (Evc rfl Evn)) (mtk1 tk1) (bTake_no R sR b15 last _ hR (by omega) (by omega) hst) ?_)))
   rintro _ G34 μ34 hG34 ⟨E34,key34,rfl,rfl⟩
   have hs:=hs.mono hG34
   have hR:=hR.mono hG34
   refine mV rfl rfl (ex rfl .no (.u rfl) rfl (ex rfl .no (.u rfl) rfl (ex rfl .no (.u rfl) rfl ?_)))
   refine al rfl Fx.zq47 ?_; intro b9
   refine sw rfl (.u rfl) (.u rfl) rfl Fx.sz47 .here (by first|rfl|exact Ent.len _) (Ent.one _) ?_
   refine aS rfl rfl (aS rfl rfl (.nil (.code (.seq (.seq (rq2 rfl rfl (mV rfl rfl (nt rfl .no (.u rfl) (.nil (.code (Wk.condT rfl rfl ?_)))))))))))
   refine .seq (rq2 rfl rfl (aS rfl rfl (aS rfl rfl (.nil (.code (.ret (We.fin0 Tryz.results101 (.tmp rfl (.tmp rfl .nil)) ?_)))))))
   exact ⟨⟨none,0⟩,[],100,rb_lost hN17 hN19 ⟨rfl,by omega⟩ (by rw [hE]; exact en_none (by omega) hst),rfl,rfl,SlR.nul⟩
  refine Wk.rg [0,1,2,3,4,5,6,7,8,9,10] rfl rfl (mV rfl rfl (mV rfl rfl (ka rfl (.inr rfl) Fx.go127 (Evc rfl (Evc rfl Evn)) (mtk1 tk1) (bTake_yes R sR b15 last _ hR (by omega) (by omega) hst) ?_)))
  rintro _ G34 μ34 hG34 ⟨key34,s34,rfl,rfl,rfl,hs34⟩
  have hs:=hs.mono hG34
  refine mV rfl rfl (ex rfl .no (.u rfl) rfl (ex rfl .no (.u rfl) rfl (ex rfl .no (.u rfl) rfl ?_)))
  refine al rfl Fx.zq47 ?_; intro b9
  refine sw rfl (.u rfl) (.u rfl) rfl Fx.sz47 .here (by first|rfl|exact Ent.len _) (Ent.one _) ?_
  refine aS rfl rfl (aS rfl rfl (.nil (.code (.seq (.seq (rq2 rfl rfl (mV rfl rfl (nt rfl .no (.u rfl) (.nil (.code (Wk.condF rfl rfl ?_)))))))))))
  refine .skip (.code (rq7 rfl rfl (mV rfl rfl (lA rfl .no Fx.ag47 (.u rfl) (fun _=>RdN.own .here) (fun _=>(by first|rfl|exact Ent.len _)) ?_))))
  refine Go.Tan.b1 rfl Fx.se31 Fx.zw47 (.u rfl) rfl rfl (by decide) ?_; intro b42
  refine apS (xs:=acc) (E2) rfl Fx.se31 Fx.zw47 rfl (.u rfl) (.u rfl) tk3 .here (Ent.len _) (Ent.one _) (by omega) (by unfold maxLen; omega) ?_; intro v43 ov43
  refine mV rfl rfl (aS rfl rfl (aS rfl rfl (.nil (.blk (.code (rq3 rfl rfl (mV rfl rfl (ar rfl .no (.u rfl) (.u rfl) rfl (fun _=>wrap_u64 (by omega) (by omega)) ?_))))))))
  refine aS rfl rfl (.nil (We.lpo (m-1,key34,v43,acc++[E2],R2,s34) ?_ ?_ ?_ ?_ ?_))
  ·exact (esC rfl (congrArg (Value.int .u64) (by dsimp only; omega)) (esD rfl (esD rfl (esD rfl (esD rfl (esD rfl eZ))))))
  ·exact (mS .here rfl (mS tk2 rfl mN))
  ·first|omega|(dsimp only; omega)
  ·exact (hGl0).trans hG34
  refine ⟨?_,?_,?_,?_⟩
  ·(try dsimp only)<;>(rw [hE]; exact en_some (by omega) hst)
  ·(try dsimp only)<;>(have ht:=tv_len hst; rw [yb_len,yb_len] at ht; rw [List.length_append]; simp only [List.length_cons,List.length_nil]; omega)
  ·(try dsimp only)<;>(first|omega|rfl|assumption|(simp; done))
  (try dsimp only)<;>(exact hs34)
 have c2k:=c2
 try simp only [qcA,qcC,qcB] at c2
 refine .exit (.xcode (.xlp (.xblk (.code (.seq (.seq ?_))))))
 refine wk_fs .here (fun _ _=>rfl) (by intro b hb; cases hb) ?_; intro GfRL hRL hleRL evRL hsRL; subst evRL
 have hs:=hs.mono hleRL
 refine rq9 rfl rfl (mV rfl rfl (mV rfl rfl (cw rfl .no Fx.cv24_3 (.u rfl) (fun _=>wrap_i64 (by omega) (by omega)) ?_)))
 refine kc rfl Fx.go28 (Evc rfl (Evc rfl Evn)) (bBuild_ok hRL acc (n17:Int) _ hsRL (by omega)) ?_
 rintro _ G49 μ49 hG49 ⟨v49,L49,er49,hB49,rfl,rfl⟩
 have hs:=hs.mono hG49
 have hsRL:=hsRL.mono hG49
 refine mV rfl rfl (ex rfl .no (.u rfl) rfl (ex rfl .no (.u rfl) rfl (aS rfl rfl (aS rfl rfl (.nil (.code (.seq ?_)))))))
 refine wk_fb .here (by first|(intro b hb; cases hb; done) | simp [keys,Res.keys]) ?_; intro GfR49 hR49 hleR49 evR49 hsR49; subst evR49
 have hs:=hs.mono hleR49
 have hsRL:=hsRL.mono hleR49
 refine rq8 rfl rfl (mV rfl rfl (cp rfl .no (.u rfl) (.u rfl) rfl (mV rfl rfl (mv rfl (.f rfl rfl) (.u rfl) (mv rfl (.f rfl rfl) (.u rfl) ?_)))))
 have l49:=bld_len hB49
 refine kv rfl (.f rfl rfl) Fx.go128 (Eva.cons (.s rfl) (Eva.cons (.s rfl) Evn)) (fun hc=>sEqual_ok L49 xs hR49 h _ hsR49 hs (by (try simp only [Bool.and_eq_true,decide_eq_true_eq,Bool.not_eq_true',Bool.or_eq_false_iff,decide_eq_false_iff_not] at hc); omega)) ?_
 refine nt rfl (.f rfl rfl) (.s rfl) (pkO rfl .no (.u rfl) (.s rfl) (.nil (.code (.cond rfl (fun c3=>?_) (fun c3=>?_)))))
 ·have c3k:=c3
  try simp only [qcA,qcC,qcB] at c3
  refine .seq (rq2 rfl rfl (aS rfl rfl (aS rfl rfl (.nil (.code (.ret (We.fin0 Tryz.results101 (.tmp rfl (.tmp rfl .nil)) ?_)))))))
  exact ⟨⟨none,0⟩,[],100,rb_bad hN17 hN19 ⟨rfl,by omega⟩ (by rw [hE,show m=0 by omega]; rfl) hB49 c3,rfl,rfl,SlR.nul⟩
 have c3k:=c3
 try simp only [qcA,qcC,qcB] at c3
 refine .skip (.code (.seq (rq3 rfl rfl (mV rfl rfl (aS rfl rfl (aS rfl rfl (.nil (.code (.ret (We.fin0 Tryz.results101 (.tmp rfl (.tmp rfl .nil)) ?_))))))))))
 exact ⟨hRL,acc,0,rb_good hN17 hN19 ⟨rfl,by omega⟩ (by rw [hE,show m=0 by omega]; rfl) hB49 c3.1 c3.2,rfl,rfl,hsRL⟩
end Go.Proofs.YtbdnclpopappeaaGreatDoor
namespace Go.Tan
section
variable {α:Type} {lt:α→α→Bool}
end
theorem flat_tk {α:Type} {enc:α→List Value} {sz:Nat}:∀ {xs:List α} {q:Nat},(∀ y∈xs,(enc y).length=sz)→(xs.take q).flatMap enc=(xs.flatMap enc).take (q*sz)
 | [],q,_=>by simp
 | x :: xs,0,_=>by simp
 | x :: xs,q+1,h=>by
  have hx:=h x (List.mem_cons_self ..)
  rw [List.take_succ_cons,List.flatMap_cons,List.flatMap_cons,show (q+1)*sz=(enc x).length+q*sz by rw [hx,Nat.succ_mul]; omega,List.take_length_add_append,flat_tk (fun y hy=>h y (List.mem_cons_of_mem _ hy))]
section
variable {dr:Bool} {mc:Md} {P:Program} {n:Fm} {l:List Oper} {K:Env→PM→Mem→Prop} {i:Nat} {σ:List Nat} {ρ:Env} {G:PM} {μ:Mem}
variable {d t:Nat} {p:String} {af:Array Edge} {g:Option (Nat×Bool)} {c:Bool}
theorem sr1 {T T':TypeId} {x y:Operand} {k k':IntKind} {a1 a2:Int} (A:Nat) (ho:nth l i=some ⟨some d,.binOp .shr T x y T',t,p,af,g⟩) (hg:Gd l ρ g c) (hx:Ev ρ c x (.int k a1)) (hy:Ev ρ c y (.int k' a2)) (e1:a1=A) (e2:a2=1) (hk:1≤k.bits)
  (h:Wo dr mc P n l K σ ((d,c,.int k ((A / 2:Nat):Int)) :: ρ) G μ):Wo dr mc P n l K (i :: σ) ρ G μ:=by
 subst e1; subst e2
 refine sr ho hg hx hy (fun _=>by decide) ?_
 have e:(A:Int).fdiv (2^(min (1:Int).toNat k.bits))=((A / 2:Nat):Int):=by
  have:min (1:Int).toNat k.bits=1:=by show min 1 k.bits=1; omega
  rw [this,Int.pow_one,Int.fdiv_eq_ediv_of_nonneg _ (by decide)]
  rfl
 rw [e]; exact h
theorem srh {T e sz by':Nat} {x z:Operand} {b m cap:Nat} {k:IntKind} {hi:Int} (q:Nat) (ho:nth l i=some ⟨some d,.slice T x none (some z) none,t,p,af,none⟩) (hT:slE P T=some (e,sz,by')) (hx:Ev ρ true x (.slice (some ⟨b,0,none⟩) m cap)) (hz:Ev ρ true z (.int k hi))
  (hq:hi=q) (h1:q≤cap) (h:Wo dr mc P n l K σ ((d,true,.slice (some ⟨b,0,none⟩) q cap) :: ρ) G μ):Wo dr mc P n l K (i :: σ) ρ G μ:=by
 subst hq
 exact se (s:=⟨some ⟨b,0,none⟩,cap⟩) (m:=m) ho .no hT hx hz (fun _=>by omega) (fun _=>by show (q:Int)≤cap; omega) (by rw [Int.toNat_natCast]; exact h)
theorem clT {α:Type} {enc:α→List Value} {T E sz by' b cap k cp:Nat} {x:Operand} {z:Value} {xs:List α} {μ':Mem} {dd:Option Nat} (ho:nth l i=some ⟨dd,.call { callee:=.builtin .clear,args:=#[x],argTypes:=#[T] },t,p,af,none⟩) (hT:slE P T=some (E,sz,by')) (hz:(P.info? E).bind (·.zero)=some z) (hzs:z.cells.size=sz) (hz1:∀ u∈z.cells,u.oneCell'=true)
  (hx:Ev ρ true x (.slice (some ⟨b,xs.length*sz,none⟩) k cp)) (hm:MTake μ (rS sz enc (.slice (some ⟨b,0,none⟩) xs.length cap) E xs) μ') (h0:0<k) (hk:xs.length+k≤cap) (hsz:∀ y∈xs,(enc y).length=sz)
  (h:Wo dr mc P n l K σ (lay ρ dd true (.tuple #[])) G (rS sz enc (.slice (some ⟨b,0,none⟩) xs.length cap) E xs :: μ')):Wo dr mc P n l K (i :: σ) ρ G μ:=by
 refine .act (μ₁:=[rS sz enc (.slice (some ⟨b,0,none⟩) xs.length cap) E xs]) (μ₂:=μ') (post:=fun G' μ' v'=>G'=G∧v'=.tuple #[]∧μ'=[rS sz enc (.slice (some ⟨b,0,none⟩) xs.length cap) E xs]) ho (.inl rfl) .no hm.perm (fun a w ha hs=>.inl ?_) ?_
 ·have hs':=hs.left
  have hrow:w.ownsRow 0 E sz (.slice (some ⟨b,0,none⟩) xs.length cap) xs.length (xs.flatMap enc):=hs'.own _ (List.mem_singleton.2 rfl)
  have hfl:=flat_len hsz
  obtain ⟨hu,inf,hi,rfl,rfl⟩:=slE_some hT
  rw [hi] at hz
  simp only [Option.bind_some] at hz
  rcases hrow.2 with ⟨e,_⟩ | ⟨g,cap',cur,e,_,hg,hnc,hcm,hcs,htake⟩
  ·cases e
  simp only [Value.slice.injEq,Option.some.injEq,Addr.mk.injEq,and_true,true_and] at e
  obtain ⟨rfl,rfl⟩:=e
  have hsat:Sat G [.blk b (.cells cur E (0,0))] w:=⟨hs'.sub,fun r hr=>by rw [List.mem_singleton.1 hr]; exact hg,fun c hc=>hs'.apart c (by simpa [keys,Res.keys,Value.ownBlock] using hc),by simp [keys,Res.keys]⟩
  have hzl:(Builtin.zeroCells z.cells k).toList.length=k*inf.size:=by rw [Array.length_toList,size_zeroCells,hzs]
  have hin:xs.length*inf.size+k*inf.size≤cap*inf.size:=by rw [← Nat.add_mul]; exact Nat.mul_le_mul_right _ hk
  have hz2:∀ u∈(Builtin.zeroCells z.cells k).toList,u.oneCell'=true:=by
   intro u hu
   rw [Array.mem_toList_iff] at hu
   unfold Builtin.zeroCells at hu
   obtain ⟨j,hj,rfl⟩:=Array.mem_map.1 hu
   have hjs:j%z.cells.size<z.cells.size:=Nat.mod_lt _ (by
    rcases Nat.eq_zero_or_pos z.cells.size with h0' | h0'
    ·rw [h0'] at hj; simp at hj
    exact h0')
   have:z.cells[j%z.cells.size]! = z.cells[j%z.cells.size]:=by simp [hjs]
   rw [this]
   exact hz1 _ (Array.getElem_mem hjs)
  have hst:=run_storeCells_at P b (xs.length*inf.size) E (Builtin.zeroCells z.cells k).toList 0 cur w hg (by rw [Nat.add_zero,hzl]; omega) hz2
  simp only [Nat.add_zero] at hst
  refine ⟨.tuple #[],w.setRow b (cur.toList.take (xs.length*inf.size)++(Builtin.zeroCells z.cells k).toList++cur.toList.drop (xs.length*inf.size+(Builtin.zeroCells z.cells k).toList.length)).toArray,G,_,.inl (by
   have hk0:k≠0:=by omega
   simp [execOp,resolve,invoke,builtin,hx.eval ha rfl,Builtin.clear_,run_underlying hu,zeroValue,typeInfo,hi,hz,hst]),?_,rfl,rfl,rfl⟩
  have hkk:keys [rS inf.size enc (.slice (some ⟨b,0,none⟩) xs.length cap) E xs]=[b]:=by simp [keys,Res.keys,Value.ownBlock]
  rw [hkk]
  have h2:=Tr.setArr (cs':=(cur.toList.take (xs.length*inf.size)++(Builtin.zeroCells z.cells k).toList++cur.toList.drop (xs.length*inf.size+(Builtin.zeroCells z.cells k).toList.length)).toArray) hsat
  have hcl:cur.toList.length=cur.size:=Array.length_toList ..
  refine h2.asRow (m:=xs.length) (cap:=cap) (sz:=inf.size) hfl (by omega) hcm ?_ ?_
  ·simp only [List.size_toArray,qlB,hcl,hzl]
   omega
  rw [List.append_assoc,List.take_append_of_le_length (by rw [List.length_take,hcl]; omega),List.take_take,Nat.min_self,htake]
 rintro v' G' μ'' _ ⟨rfl,rfl,rfl⟩
 exact h
end
theorem Ct.lendS {α:Type} {enc:α→List Value} {sz:Nat} {P:Program} {G:PM} {μ:Mem} {f:FuncId} {args:Array Value} {E:Nat} {v:Value} {xs:List α} {Q:Mem→Value→Prop} (hsz:∀ x∈xs,(enc x).length=sz)
  (h:∀ (s:Sh) (G2:PM),PM.le G G2→v=s.val xs.length→SlR G2 sz enc s xs→Ct P f args G2 μ (fun _ μ' u=>Q μ' u)):Ct P f args G (rS sz enc v E xs :: μ) (fun _ μ' u=>∃ ν,μ'=rS sz enc v E xs :: ν∧Q ν u):=by
 intro w hs
 have hrow:w.ownsRow 0 E sz v xs.length (xs.flatMap enc):=hs.own _ (List.mem_cons_self ..)
 have hnd:=hs.nodup
 rcases hrow.2 with ⟨rfl,h0⟩ | ⟨g,cap,cur,rfl,_,hg,hnc,hcm,hcs,htake⟩
 ·have hx:xs=[]:=List.eq_nil_of_length_eq_zero h0
  subst hx
  have hk:keys (rS sz enc (.slice none 0 0) E ([]:List α) :: μ)=keys μ:=by simp [keys,Res.keys,Value.ownBlock]
  have hs2:Sat G μ w:=⟨hs.sub,fun r hr=>hs.own r (List.mem_cons_of_mem _ hr),by rw [← hk]; exact hs.apart,by rw [← hk]; exact hs.nodup⟩
  refine (h ⟨none,0⟩ G (PM.le.refl G) rfl SlR.nul w hs2).mono ?_
  rintro e w' ⟨u,G',μ',rfl,ht,hQ⟩
  refine ⟨u,G',_,rfl,?_,μ',rfl,hQ⟩
  rw [hk]; exact ht.nilRow
 have hk:keys (rS sz enc (.slice (some ⟨g,0,none⟩) xs.length cap) E xs :: μ)=keys (.blk g (.cells cur E (0,0)) :: μ):=by simp [keys,Res.keys,Value.ownBlock]
 have hs2:Sat G (.blk g (.cells cur E (0,0)) :: μ) w:=by
  refine ⟨hs.sub,fun r hr=>?_,by rw [← hk]; exact hs.apart,by rw [← hk]; exact hs.nodup⟩
  rcases List.mem_cons.1 hr with rfl | hr
  ·exact hg
  exact hs.own r (List.mem_cons_of_mem _ hr)
 have hGg:G g=none:=hs2.apart g (by simp [keys,Res.keys])
 have hsl:SlR (G.add g (.cells cur E (0,0))) sz enc ⟨some ⟨g,0,none⟩,cap⟩ xs:=by
  refine SlR.ofRow hsz hnc (fun _=>rfl) ?_
  intro j u hj w' hs'
  show w'.cell? ⟨g,0+j,none⟩=some u
  rw [Nat.zero_add,cell_of_row w' g j cur E (0,0) (hs' g _ (PM.add_same G g _))]
  rw [← htake,List.getElem?_take] at hj
  split at hj
  ·simpa using hj
  cases hj
 refine (Ct.lend (h ⟨some ⟨g,0,none⟩,cap⟩ _ (PM.le_add hGg) rfl hsl) w hs2).mono ?_
 rintro e w' ⟨u,G',μ',rfl,ht,ν,rfl,hQ⟩
 refine ⟨u,G',_,rfl,?_,ν,rfl,hQ⟩
 rw [hk]
 exact ht.asRow (flat_len hsz) hnc hcm hcs htake
section
variable {α:Type}
theorem gd_at {l:List α} {k:Nat} {z:α} (h:k<l.length):l[k]? = some (l.getD k z):=by simp [h]
end
abbrev TM:=Meta×Nat
def ms (T:List TM):List Meta:=T.map (·.1)
section
variable {lt:Meta→Meta→Bool}
end
section
variable {cv:Meta→Meta→Int} {P A B R:List TM}
end
section
variable {lt:Meta→Meta→Bool} {bs:Nat} {T O:List TM}
end
structure Mn where
 st:State
 mark:BitVec 64
 n:Nat
section
variable {m:Mn} {p:List Y} {e:Edit} {x:State}
end
theorem Tr.cutRow {G0 G:PM} {K0:List Nat} {w0 w:World} {μ:Mem} {b E sz m cap q:Nat} {xs:List Value} (h:Tr G0 K0 w0 G (.row (.slice (some ⟨b,0,none⟩) m cap) E sz m xs :: μ) w) (hq:q≤m) :
  Tr G0 K0 w0 G (.row (.slice (some ⟨b,0,none⟩) q cap) E sz q (xs.take (q*sz)) :: μ) w:=by
 have hk:keys (.row (.slice (some ⟨b,0,none⟩) q cap) E sz q (xs.take (q*sz)) :: μ)=keys (.row (.slice (some ⟨b,0,none⟩) m cap) E sz m xs :: μ):=by simp [keys,Res.keys,Value.ownBlock]
 have hrow:w.ownsRow 0 E sz (.slice (some ⟨b,0,none⟩) m cap) m xs:=h.sat.own _ (List.mem_cons_self ..)
 refine { h with sat:=⟨h.sat.sub,fun r hr=>?_,by rw [hk]; exact h.sat.apart,by rw [hk]; exact h.sat.nodup⟩,mine:=by rw [hk]; exact h.mine }
 rcases List.mem_cons.1 hr with rfl | hr
 ·have hl:=hrow.1
  have hqs:q*sz≤m*sz:=Nat.mul_le_mul_right _ hq
  rcases hrow.2 with ⟨e,_⟩ | ⟨g,cap',cur,e,h0,hg,hnc,hcm,hcs,htake⟩
  ·cases e
  simp only [Value.slice.injEq,Option.some.injEq,Addr.mk.injEq,and_true,true_and] at e
  obtain ⟨rfl,rfl⟩:=e
  refine ⟨by rw [List.length_take,hl,Nat.min_eq_left hqs],.inr ⟨b,cap,cur,rfl,h0,hg,by omega,hcm,hcs,?_⟩⟩
  rw [← htake,List.take_take,Nat.min_eq_left hqs]
 exact h.sat.own r (List.mem_cons_of_mem _ hr)
theorem wk_popS {α:Type} {enc:α→List Value} {sz:Nat} {X:Cx} {cd:Code} {k:List KI} {ρ:Env} {G:PM} {μ μ':Mem} {b cap E:Nat} {xs:List α} (A B:List α) (hsz:∀ x∈xs,(enc x).length=sz) (hm:MTake μ (rS sz enc (.slice (some ⟨b,0,none⟩) xs.length cap) E xs) μ') (e:xs=A++B)
  (h:Wk X cd k ρ G (rS sz enc (.slice (some ⟨b,0,none⟩) A.length cap) E A :: μ')):Wk X cd k ρ G μ :=
 ⟨fun a w ha ht=>h.out a w ha (by
  subst e
  have:=(ht.perm hm.perm).cutRow (q:=A.length) (by rw [List.length_append]; omega)
  rw [← flat_tk hsz,List.take_left] at this
  exact this)⟩
section
variable {dr:Bool} {mc:Md} {P:Program} {n:Fm} {l:List Oper} {K:Env→PM→Mem→Prop} {i:Nat} {σ:List Nat} {ρ:Env} {G:PM} {μ:Mem}
variable {d t:Nat} {p:String} {af:Array Edge} {g:Option (Nat×Bool)} {c:Bool}
theorem and1 (A:Nat):BitVec.ofNat 64 A &&& BitVec.ofNat 64 1=BitVec.ofNat 64 (A%2):=by
 apply BitVec.eq_of_toNat_eq
 rw [BitVec.toNat_and,BitVec.toNat_ofNat,BitVec.toNat_ofNat,BitVec.toNat_ofNat,show 1%2^64=1 from rfl,Nat.and_one_is_mod]
 omega
theorem an1 {T T':TypeId} {x y:Operand} {a1 a2:Int} (A:Nat) (ho:nth l i=some ⟨some d,.binOp .and T x y T',t,p,af,g⟩) (hg:Gd l ρ g c) (hx:Ev ρ c x (.int .i64 a1)) (hy:Ev ρ c y (.int .i64 a2)) (e1:a1=A) (e2:a2=1)
  (h:Wo dr mc P n l K σ ((d,c,.int .i64 ((A%2:Nat):Int)) :: ρ) G μ):Wo dr mc P n l K (i :: σ) ρ G μ :=
 .pure ho (.inl rfl) hg (fun hc q w ha=>by
  subst e1; subst e2
  have hb:(binOp .and T (.int .i64 (A:Int)) (.int .i64 1)).run P w=.ok (.int .i64 ((A%2:Nat):Int)) w:=by
   have e1:BitVec.ofInt 64 (A:Int)=BitVec.ofNat 64 A:=by simp
   have e2:BitVec.ofInt 64 (1:Int)=BitVec.ofNat 64 1:=rfl
   have h4:IntKind.i64.wrap ((BitVec.ofNat 64 (A%2)).toNat:Int)=((A%2:Nat):Int):=by
    rw [BitVec.toNat_ofNat,Nat.mod_eq_of_lt (by omega)]
    exact wrap_i64 (by omega) (by omega)
   have h5:(Op.intBits .and .i64 (A:Int) 1)=pure (.int .i64 (IntKind.i64.wrap ((BitVec.ofInt 64 (A:Int) &&& BitVec.ofInt 64 (1:Int)).toNat:Int))):=rfl
   have h6:binOp .and T (.int .i64 (A:Int)) (.int .i64 1)=Op.intBits .and .i64 (A:Int) 1:=rfl
   rw [h6,h5,e1,e2,and1,h4]; rfl
  simp only [execOp,hx.eval ha hc,hy.eval ha hc,Sem.run_bind,eqGuard_int,Result.andThen_ok,hb]; rfl) h
end
def stkL (S:List (Nat×Dg)):List Dg:=(S.map (·.2)).reverse
theorem stkL_cons (a:Nat) (r:Dg) (S:List (Nat×Dg)):stkL ((a,r) :: S)=stkL S++[r]:=by simp [stkL]
theorem stkL_len (S:List (Nat×Dg)):(stkL S).length=S.length:=by simp [stkL]
def zD:Dg:=fun _=>0#8
theorem stkL_last (a:Nat) (r:Dg) (S:List (Nat×Dg)):(stkL ((a,r) :: S)).getD S.length zD=r:=by
 rw [stkL_cons,List.getD_eq_getElem?_getD,List.getElem?_append_right (by rw [stkL_len]; omega),stkL_len,Nat.sub_self]; rfl
def finB (d:Dg) (L:List Dg):Nat→Dg
 | 0=>d
 | j+1=>finB (joinD (L.getD j zD) d) L j
theorem finB_app:∀ (j:Nat) (d x:Dg) (L:List Dg),j≤L.length→finB d (L++[x]) j=finB d L j
 | 0,_,_,_,_=>rfl
 | j+1,d,x,L,h=>by
  have e:(L++[x]).getD j zD=L.getD j zD:=by rw [List.getD_eq_getElem?_getD,List.getElem?_append_left (by omega),←List.getD_eq_getElem?_getD]
  simp only [finB,e]; exact finB_app j _ x L (by omega)
theorem finB_pred {j:Nat} {d:Dg} {L:List Dg} (h:0<j):finB d L j=finB (joinD (L.getD (j-1) zD) d) L (j-1):=by
 obtain ⟨i,rfl⟩ : ∃ i,j=i+1:=⟨j-1,by omega⟩
 rfl
theorem stk_top {S S3:List (Nat×Dg)} {a:Nat} {s:Dg} (h:S=(a,s) :: S3):(stkL S).getD ((stkL S).length-1) zD=s:=by
 subst h; rw [stkL_len]; exact stkL_last a s S3
theorem finB_eq:∀ (S:List (Nat×Dg)) (d:Dg),finB d (stkL S) S.length=finD d S
 | [],d=>rfl
 | (a,r) :: S,d=>by
  simp only [List.length_cons,finB,finD,stkL_last]
  rw [stkL_cons,finB_app _ _ _ _ (by rw [stkL_len]; exact Nat.le_refl _),finB_eq S]
theorem stk_done {S:List (Nat×Dg)} {L:List Dg} (h:Stk S L) (h0:0<L.length):0<(stkL S).length∧rootD L=finB ((stkL S).getD ((stkL S).length-1) zD) (stkL S) ((stkL S).length-1):=by
 rw [stkL_len]
 match S,h with
 | [],h=>cases h; cases h0
 | (a,r) :: S,h =>
  refine ⟨Nat.succ_pos _,?_⟩
  rw [h.done,←finB_eq S r]
  have e:((a,r) :: S).length-1=S.length:=rfl
  rw [e,stkL_last,stkL_cons,finB_app _ _ _ _ (by rw [stkL_len]; exact Nat.le_refl _)]
theorem pend_even {S:List (Nat×Dg)} {d:Dg} {a q:Nat} {l:List Dg} (h:Pend S d a l) (eq:q=l.length / 2^a) (he:q%2=0):∃ s S',S=(a,s) :: S'∧Pend S' (joinD s d) (a+1) l∧q / 2=l.length / 2^(a+1):=by
 subst eq; exact h.even he
theorem pend_odd {S:List (Nat×Dg)} {d:Dg} {a q:Nat} {l:List Dg} (h:Pend S d a l) (eq:q=l.length / 2^a) (he:¬ q%2=0):Stk ((a,d) :: S) l:=by
 subst eq; exact h.odd (by omega)
theorem pend_pos {S:List (Nat×Dg)} {d:Dg} {a q:Nat} {l:List Dg} (h:Pend S d a l) (eq:q=l.length / 2^a):0<q:=by
 obtain ⟨L,seg,hS,hl,hr,he',hb⟩:=h.out
 subst eq
 exact Nat.div_pos (by rw [← he',List.length_append,hl]; omega) (Nat.pow_pos (by decide))
theorem pend_len {S:List (Nat×Dg)} {d:Dg} {a:Nat} {l:List Dg} (h:Pend S d a l):S.length≤l.length:=by
 obtain ⟨L,seg,hS,hl,hr,he',hb⟩:=h.out
 have:=hS.short
 rw [← he',List.length_append]; omega
end Go.Tan
namespace Go.Proofs.YtbdnclpopappeaaGreatDoor
open Go.Tan Go.RowKit
theorem leafS_ok {G:PM} {b7 b9 T7 T9:Nat} {kind:Y} {h:Sh} {p:List Y} (hle:PM.le G ((G.add b7 (cl [V kind] T7)).add b9 (cl [.slice (some ⟨b7,0,none⟩) 1 1,h.val p.length] T9))) (hq:PM.le (G.add b7 (cl [V kind] T7)) ((G.add b7 (cl [V kind] T7)).add b9 (cl [.slice (some ⟨b7,0,none⟩) 1 1,h.val p.length] T9))) (hs:SlR G 1 encY h p) (hK:RdNP G 1 0 (wa 64 kW)) (hl:p.length≤100000000000000) :
  Ct Tryz.prog 76 ([.slice (some ⟨b9,0,none⟩) 2 2]:List Value).toArray ((G.add b7 (cl [V kind] T7)).add b9 (cl [.slice (some ⟨b7,0,none⟩) 1 1,h.val p.length] T9)) [] (fun _ μ' u=>μ'=[]∧u=.agg (ba 32 (shaD (kind :: p))).toArray):=by
 have h1:SlR (G.add b7 (cl [V kind] T7)) 1 encY ⟨some ⟨b7,0,none⟩,1⟩ [kind]:=SlR.ofBlk (T:=T7) (PM.add_same _ _ _) (fun _ _=>rfl) (by simp)
 have hP:SlP ((G.add b7 (cl [V kind] T7)).add b9 (cl [.slice (some ⟨b7,0,none⟩) 1 1,h.val p.length] T9)) ⟨some ⟨b9,0,none⟩,2⟩ [(⟨some ⟨b7,0,none⟩,1⟩,[kind]),(h,p)] :=
  ⟨SlR.ofBlk (T:=T9) (PM.add_same _ _ _) (fun _ _=>rfl) (by simp),fun q hq'=>by
   rcases List.mem_cons.1 hq' with rfl | hq'
   ·exact h1.mono hq
   ·rw [List.mem_singleton.1 hq']; exact hs.mono hle⟩
 have hh:=shaSum_ok _ ⟨some ⟨b9,0,none⟩,2⟩ _ hP (hK.mono hle) (by simp [catL]; omega) (by simp)
 rw [show catL [((⟨some ⟨b7,0,none⟩,1⟩ : Sh),[kind]),(h,p)]=kind :: p by simp [catL]] at hh
 exact hh
theorem emptyS_ok {G:PM} {b7 b9 T7 T9:Nat} {kind:Y} (hle:PM.le G ((G.add b7 (cl [V kind] T7)).add b9 (cl [.slice (some ⟨b7,0,none⟩) 1 1] T9))) (hq:PM.le (G.add b7 (cl [V kind] T7)) ((G.add b7 (cl [V kind] T7)).add b9 (cl [.slice (some ⟨b7,0,none⟩) 1 1] T9))) (hK:RdNP G 1 0 (wa 64 kW)) :
  Ct Tryz.prog 76 ([.slice (some ⟨b9,0,none⟩) 1 1]:List Value).toArray ((G.add b7 (cl [V kind] T7)).add b9 (cl [.slice (some ⟨b7,0,none⟩) 1 1] T9)) [] (fun _ μ' u=>μ'=[]∧u=.agg (ba 32 (shaD [kind])).toArray):=by
 have h1:SlR (G.add b7 (cl [V kind] T7)) 1 encY ⟨some ⟨b7,0,none⟩,1⟩ [kind]:=SlR.ofBlk (T:=T7) (PM.add_same _ _ _) (fun _ _=>rfl) (by simp)
 have hP:SlP ((G.add b7 (cl [V kind] T7)).add b9 (cl [.slice (some ⟨b7,0,none⟩) 1 1] T9)) ⟨some ⟨b9,0,none⟩,1⟩ [(⟨some ⟨b7,0,none⟩,1⟩,[kind])] :=
  ⟨SlR.ofBlk (T:=T9) (PM.add_same _ _ _) (fun _ _=>rfl) (by simp),fun q hq'=>by rw [List.mem_singleton.1 hq']; exact h1.mono hq⟩
 have hh:=shaSum_ok _ ⟨some ⟨b9,0,none⟩,1⟩ _ hP (hK.mono hle) (by simp [catL]) (by simp)
 rw [show catL [((⟨some ⟨b7,0,none⟩,1⟩ : Sh),[kind])]=[kind] by simp [catL]] at hh
 exact hh
theorem joinS_ok {G G2 G3 G5:PM} {b2 b3 b5 b8 T2 T3 T5 T8:Nat} {a b:Nat→Y} (e2:G2=G.add b2 (cl (ba 32 a) T2)) (e3:G3=G2.add b3 (cl (ba 32 b) T3)) (e5:G5=G3.add b5 (cl [V 1#8] T5))
  (hle:PM.le G (G5.add b8 (cl [.slice (some ⟨b5,0,none⟩) 1 1,.slice (some ⟨b2,0,none⟩) 32 32,.slice (some ⟨b3,0,none⟩) 32 32] T8))) (hq:PM.le G5 (G5.add b8 (cl [.slice (some ⟨b5,0,none⟩) 1 1,.slice (some ⟨b2,0,none⟩) 32 32,.slice (some ⟨b3,0,none⟩) 32 32] T8))∧PM.le G3 G5∧PM.le G2 G3∧PM.le G G2∧True) (hK:RdNP G 1 0 (wa 64 kW)) :
  Ct Tryz.prog 76 ([.slice (some ⟨b8,0,none⟩) 3 3]:List Value).toArray (G5.add b8 (cl [.slice (some ⟨b5,0,none⟩) 1 1,.slice (some ⟨b2,0,none⟩) 32 32,.slice (some ⟨b3,0,none⟩) 32 32] T8)) [] (fun _ μ' u=>μ'=[]∧u=.agg (ba 32 (joinD a b)).toArray):=by
 have h1:SlR G5 1 encY ⟨some ⟨b5,0,none⟩,1⟩ [1#8]:=by rw [e5]; exact SlR.ofBlk (T:=T5) (PM.add_same _ _ _) (fun _ _=>rfl) (by simp)
 have h2:SlR G2 1 encY ⟨some ⟨b2,0,none⟩,32⟩ (yl 32 a):=by rw [e2]; exact ba_sl
 have h3:SlR G3 1 encY ⟨some ⟨b3,0,none⟩,32⟩ (yl 32 b):=by rw [e3]; exact ba_sl
 have l1:=yl_len 32 a
 have l2:=yl_len 32 b
 have hP:SlP (G5.add b8 (cl [.slice (some ⟨b5,0,none⟩) 1 1,.slice (some ⟨b2,0,none⟩) 32 32,.slice (some ⟨b3,0,none⟩) 32 32] T8)) ⟨some ⟨b8,0,none⟩,3⟩ [(⟨some ⟨b5,0,none⟩,1⟩,[1#8]),(⟨some ⟨b2,0,none⟩,32⟩,yl 32 a),(⟨some ⟨b3,0,none⟩,32⟩,yl 32 b)] :=
  ⟨SlR.ofBlk (T:=T8) (by simp [encP,l1,l2,Sh.val]; exact PM.add_same _ _ _) (fun _ _=>rfl) (by simp),fun q hq'=>by
   simp only [List.mem_cons,List.not_mem_nil,or_false] at hq'
   rcases hq' with rfl|rfl|rfl
   ·exact h1.mono hq.1
   ·exact h2.mono (hq.2.2.1.trans (hq.2.1.trans hq.1))
   ·exact h3.mono (hq.2.1.trans hq.1)⟩
 have hh:=shaSum_ok _ ⟨some ⟨b8,0,none⟩,3⟩ _ hP (hK.mono hle) (by simp [catL,l1,l2]) (by simp)
 rw [show catL [((⟨some ⟨b5,0,none⟩,1⟩ : Sh),[1#8]),(⟨some ⟨b2,0,none⟩,32⟩,yl 32 a),(⟨some ⟨b3,0,none⟩,32⟩,yl 32 b)]=1#8 :: (yl 32 a++yl 32 b) by simp [catL]] at hh
 exact hh
theorem leaf_ok (p:List Y) (h:Sh) (G:PM) (hs:SlR G 1 encY h p) (hK:RdNP G 1 0 (wa 64 kW)) (hl:p.length≤100000000000000):Ct Tryz.prog 74 ([h.val p.length]:List Value).toArray G [] (fun _ μ' u=>μ'=[]∧u=.agg (ba 32 (leafD p)).toArray):=by
 refine Ct.of Tryz.func74 rfl Tryz.ntmps74 rfl fun w0 hs0=>?_
 refine .seq (rq1 rfl rfl ?_)
 refine al rfl Fx.zq23 ?_; intro b2
 refine .nil (.code (.seq (rq5 rfl rfl ?_)))
 refine Go.Tan.b1 rfl Fx.se34 Fx.zv5 (.u rfl) rfl rfl (by decide) ?_; intro b3
 refine mV rfl rfl ?_
 refine Go.Tan.bN rfl Fx.se53 Fx.zv34 (Evp.cons (.u rfl) (Evp.cons (.u rfl) Evp.nil)) rfl (by decide) (by simp [Value.oneCell',Sh.val]) ?_; intro b5
 refine kp rfl .no Fx.go76 (Evc rfl Evn) (Gp.add .here (Gp.add .here Gp.nil)) (fun _ hle hq=>leafS_ok (kind:=0#8) hle hq.1 hs hK hl) ?_
 refine sw rfl (.u rfl) (.u rfl) rfl Fx.sz23 tk2 (by first|exact qE|exact qL|rfl) (by first|exact ba_one _ _|exact wa_one _ _|exact one_V _|decide|exact one_app (wa_one _ _) (by simp [Value.oneCell'])) ?_
 refine .nil (.code (.ret (We.fin0 Tryz.results74 (.cell rfl (fun w hw=>run_loadVarN Fx.ag23 (RdN.own .here) ((by first|exact qE|exact qL|rfl)) hw) .nil) ?_)))
 exact ⟨rfl,rfl⟩
theorem join_ok (a b:Dg) (G:PM) (hK:RdNP G 1 0 (wa 64 kW)):Ct Tryz.prog 77 ([.agg (ba 32 a).toArray,.agg (ba 32 b).toArray]:List Value).toArray G [] (fun _ μ' u=>μ'=[]∧u=.agg (ba 32 (joinD a b)).toArray):=by
 refine Ct.of Tryz.func77 rfl Tryz.ntmps77 rfl fun w0 hs0=>?_
 refine .seq (rq3 rfl rfl ?_)
 refine bx rfl (.u rfl) rfl ?_; intro b2
 refine bx rfl (.u rfl) rfl ?_; intro b3
 refine al rfl Fx.zq23 ?_; intro b4
 refine .nil (.code (.seq (Wk.draw (mc:=⟨false,false⟩) [1,2,0,3,4,5] Fx.mix (by kernel_rfl) ?_)))
 refine sa0 rfl .no Fx.ar23 (.u rfl) (sa0 rfl .no Fx.ar23 (.u rfl) ?_)
 refine Go.Tan.b1 rfl Fx.se34 Fx.zv5 (.u rfl) rfl rfl (by decide) ?_; intro b5
 refine Go.Tan.bN rfl Fx.se53 Fx.zv34 (Evp.cons (.u rfl) (Evp.cons (.u rfl) (Evp.cons (.u rfl) Evp.nil))) rfl (by decide) (by simp [Value.oneCell',Sh.val]) ?_; intro b8
 refine kp rfl .no Fx.go76 (Evc rfl Evn) (Gp.add .here (Gp.add .here (Gp.add tk1 (Gp.add tk1 Gp.nil)))) (fun _ hle hq=>joinS_ok rfl rfl rfl hle hq hK) ?_
 refine sw rfl (.u rfl) (.u rfl) rfl Fx.sz23 tk2 (by first|exact qE|exact qL|rfl) (by first|exact ba_one _ _|exact wa_one _ _|exact one_V _|decide|exact one_app (wa_one _ _) (by simp [Value.oneCell'])) ?_
 refine .nil (.code (.ret (We.fin0 Tryz.results77 (.cell rfl (fun w hw=>run_loadVarN Fx.ag23 (RdN.own .here) ((by first|exact qE|exact qL|rfl)) hw) .nil) ?_)))
 exact ⟨rfl,rfl⟩
namespace FxTbF
theorem se68:slE Tryz.prog 68=some (23,32,32):=by kernel_rfl
theorem zw23:(Tryz.prog.info? 23).bind (·.zero)=some (.agg (ba 32 (fun _=>0#8)).toArray):=by kernel_rfl
end FxTbF
namespace Fx
theorem zv9:(Tryz.prog.info? 9).bind (·.zero)=some (.string ByteArray.empty):=by kernel_rfl
theorem fo70_0:fOff Tryz.prog 70 0=some 0:=by kernel_rfl
theorem fo70_1:fOff Tryz.prog 70 1=some 64:=by kernel_rfl
theorem go73:goFn Tryz.prog 73=true:=by kernel_rfl
theorem go72:goFn Tryz.prog 72=true:=by kernel_rfl
theorem go74:goFn Tryz.prog 74=true:=by kernel_rfl
theorem fo70_2:fOff Tryz.prog 70 2=some 65:=by kernel_rfl
theorem fo70_3:fOff Tryz.prog 70 3=some 66:=by kernel_rfl
theorem ag68:aggN Tryz.prog 68=some none:=by kernel_rfl
theorem sz68:szT Tryz.prog 68=some 1:=by kernel_rfl
end Fx
theorem compact_ok (L:List ByteArray) (v:Value) (G:PM) (hl:L.length≤1000000):Ct Tryz.prog 33 ([v]:List Value).toArray G [rS 1 encT v 9 L] (fun _ μ' u=>∃ v',μ'=[rS 1 encT v' 9 (cmpU L)]∧u=v'):=by
 refine Ct.of Tryz.func33 rfl Tryz.ntmps33 rfl fun w0 hs0=>?_
 refine .seq (rq1 rfl rfl (aS rfl rfl (.nil (.code (.seq (.seq (rq3 rfl rfl (mV rfl rfl (lr rfl .no Fx.sn71 (.u rfl) .here ?_)))))))))
 refine cp rfl .no (.u rfl) (.u rfl) rfl (.nil (.code (.cond rfl (fun c1=>?_) (fun c1=>?_))))
 ·have c1k:=c1
  try simp only [qcA,qcB] at c1
  refine .seq (rq2 rfl rfl (mV rfl rfl (aS rfl rfl (.nil (.code (.ret (We.fin Tryz.results33 (.tmp rfl .nil) (mS .here rfl mN) ?_)))))))
  exact ⟨_,by rw [cmp_short (by omega)]; rfl,rfl⟩
 have c1k:=c1
 try simp only [qcA,qcB] at c1
 refine .skip (.code (.seq (.seq ?_)))
 refine wk_rv .here (by omega) ?_; intro bbR capR evR lcR; subst evR
 refine rq1 rfl rfl (aS rfl rfl (.nil (.code (.block ?_))))
 refine Wk.lop (α:=Nat) (fun k=>[(3,true,.int .i64 (k:Int))]) (fun _=>[])
  (fun k Gl=>(1≤k∧k≤L.length)∧(∀ j,1≤j→j<k→¬ L.getD j emT=L.getD (j-1) emT)) (fun k=>L.length-k) 1 [(0,true,_)] [_]
  (esC rfl (by first|rfl|exact evi (by omega)) (esD rfl eZ))
  (mS .here rfl mN) ?_ ?_
 ·refine ⟨?_,?_⟩
  ·(try dsimp only)<;>(first|omega|rfl|assumption|(simp; done))
  (try dsimp only)<;>(exact fun j h1 h2=>absurd h1 (by omega))
 intro k N0 Gl0 hN0 hGl0 hF0
 try dsimp only at hF0 hN0 ⊢
 obtain ⟨hk,hj⟩:=hF0
 refine .seq (.seq (rq4 rfl rfl (mV rfl rfl (mV rfl rfl (lr rfl .no Fx.sn71 (.u rfl) .here ?_)))))
 refine cp rfl .no (.u rfl) (.u rfl) rfl (.nil (.code (.cond rfl (fun c2=>?_) (fun c2=>?_))))
 ·have c2k:=c2
  try simp only [qcA,qcB] at c2
  refine .skip (.code (.seq (.block (.seq (Wk.mixp ⟨false,false⟩ Fx.mix (by kernel_rfl) ?_)))))
  refine Wp.one 0 (by kernel_rfl) ?_
  refine mV rfl rfl (.nil (Wp.one 1 (by kernel_rfl) ?_))
  refine mV rfl rfl (.nil (Wp.one 2 (by kernel_rfl) ?_))
  refine ia rfl .no Fx.se71 (.u rfl) (.u rfl) (fun _=>by omega) (fun _=>by omega) ?_
  refine .nil (Wp.one 3 (by kernel_rfl) ?_)
  refine ld rfl .no Fx.ag9 (.u rfl) (fun _=>Rd.row .here (encT_ix (k) (by omega) (by omega))) ?_
  refine .nil (Wp.one 4 (by kernel_rfl) ?_)
  refine mV rfl rfl (.nil (Wp.one 5 (by kernel_rfl) ?_))
  refine mV rfl rfl (.nil (Wp.one 6 (by kernel_rfl) ?_))
  refine ar rfl .no (.u rfl) (.u rfl) rfl (fun _=>wrap_i64 (by omega) (by omega)) ?_
  refine .nil (Wp.one 7 (by kernel_rfl) ?_)
  refine ia rfl .no Fx.se71 (.u rfl) (.u rfl) (fun _=>by omega) (fun _=>by omega) ?_
  refine .nil (Wp.one 8 (by kernel_rfl) ?_)
  refine ld rfl .no Fx.ag9 (.u rfl) (fun _=>Rd.row .here (encT_ix (k-1) (by omega) (by omega))) ?_
  refine .nil (Wp.one 9 (by kernel_rfl) ?_)
  refine cs rfl .no (.u rfl) (.u rfl) rfl (.nil (Wp.last (by kernel_rfl) ?_))
  refine .code (.cond rfl (fun c3=>?_) (fun c3=>?_))
  ·have c3k:=c3
   try simp only [qcA,qcB] at c3
   refine .seq (rq4 rfl rfl (mV rfl rfl (mV rfl rfl (slr k rfl Fx.se71 (.u rfl) (.u rfl) (by omega) (by omega) (by omega) (by omega) ?_))))
   refine aS rfl rfl (.nil (.code (.seq (.seq (rq1 rfl rfl (aS rfl rfl (.nil (.code (.block ?_)))))))))
   refine Wk.lop (α:=Nat×Nat×List ByteArray) (fun gh=>[(3,true,.int .i64 (gh.2.1:Int)),(5,true,.int .i64 (gh.1:Int))]) (fun gh=>[rS 1 encT (.slice (some ⟨bbR,0,none⟩) gh.2.2.length capR) 9 gh.2.2])
    (fun gh Gl=>(CmR L gh.2.2 gh.2.1 (k+gh.1))∧(1≤gh.1)) (fun gh=>L.length-(k+gh.1)) (1,k,L) [(0,true,_),(4,true,_)] []
    (esC rfl (by first|rfl|exact evi (by omega)) (esC rfl (by first|rfl|exact evi (by omega)) (esD rfl (esD rfl eZ))))
    (mS .here rfl mN) ?_ ?_
   ·refine ⟨?_,?_⟩
    ·(try dsimp only)<;>(exact CmR.start hk.1 (by omega) hj (toList_inj c3k))
    (try dsimp only)<;>(first|omega|rfl|assumption|(simp; done))
   intro gh N1 Gl1 hN1 hGl1 hF1
   obtain ⟨q,c,M⟩:=gh; dsimp only at hF1 hN1 ⊢
   obtain ⟨hC,hq⟩:=hF1
   have hcj:=hC.cj; have hjl:=hC.jl; have hlen:=hC.len; have hc1:=hC.c1
   refine .seq (.seq (rq4 rfl rfl (mV rfl rfl (mV rfl rfl (ln rfl .no Fx.sn71 (.u rfl) (cp rfl .no (.u rfl) (.u rfl) rfl (.nil (.code (.cond rfl (fun c4=>?_) (fun c4=>?_))))))))))
   ·have c4k:=c4
    try simp only [qcA,qcB] at c4
    refine .skip (.code (.seq (.block (.seq (Wk.mixp ⟨false,false⟩ Fx.mix (by kernel_rfl) ?_)))))
    refine Wp.one 0 (by kernel_rfl) ?_
    refine mV rfl rfl (.nil (Wp.one 1 (by kernel_rfl) ?_))
    refine mV rfl rfl (.nil (Wp.one 2 (by kernel_rfl) ?_))
    refine ia rfl .no Fx.se71 (.u rfl) (.u rfl) (fun _=>by omega) (fun _=>by omega) ?_
    refine .nil (Wp.one 3 (by kernel_rfl) ?_)
    refine ld rfl .no Fx.ag9 (.u rfl) (fun _=>Rd.row .here (encT_ix (k+q) (by omega) (by omega))) ?_
    refine .nil (Wp.one 4 (by kernel_rfl) ?_)
    refine mV rfl rfl (.nil (Wp.one 5 (by kernel_rfl) ?_))
    refine mV rfl rfl (.nil (Wp.one 6 (by kernel_rfl) ?_))
    refine ar rfl .no (.u rfl) (.u rfl) rfl (fun _=>wrap_i64 (by omega) (by omega)) ?_
    refine .nil (Wp.one 7 (by kernel_rfl) ?_)
    refine ia rfl .no Fx.se71 (.u rfl) (.u rfl) (fun _=>by omega) (fun _=>by omega) ?_
    refine .nil (Wp.one 8 (by kernel_rfl) ?_)
    refine ld rfl .no Fx.ag9 (.u rfl) (fun _=>Rd.row .here (encT_ix (k+q-1) (by omega) (by omega))) ?_
    refine .nil (Wp.one 9 (by kernel_rfl) ?_)
    refine cs rfl .no (.u rfl) (.u rfl) rfl (.nil (Wp.last (by kernel_rfl) ?_))
    refine .code (.cond rfl (fun c5=>?_) (fun c5=>?_))
    ·have c5k:=c5
     try simp only [qcA,qcB] at c5
     refine .seq (rq8 rfl rfl (mV rfl rfl (mV rfl rfl (mV rfl rfl (mV rfl rfl (ia rfl .no Fx.se71 (.u rfl) (.u rfl) (fun _=>by omega) (fun _=>by omega) ?_))))))
     refine ld rfl .no Fx.ag9 (.u rfl) (fun _=>Rd.row .here (encT_ix (k+q) (by omega) (by omega))) ?_
     refine ia rfl .no Fx.se71 (.u rfl) (.u rfl) (fun _=>by omega) (fun _=>by omega) ?_
     refine stS (k:=c) (u:=(M.getD (k+q) emT)) rfl (.u rfl) (.u rfl) rfl Fx.sz9 .here (fun _ _=>rfl) (rfl) (one1 rfl) (by omega) (by (try simp only [List.length_set]); omega) ?_
     refine .nil (.code (rq3 rfl rfl (mV rfl rfl (arn (((c+1):Nat):Int) rfl .no (.u rfl) (.u rfl) rfl (fun _=>by omega) (fun _=>wrap_i64 (by omega) (by omega)) ?_))))
     refine aS rfl rfl (.nil (.blk (.code (rq3 rfl rfl (mV rfl rfl (arn (((q+1):Nat):Int) rfl .no (.u rfl) (.u rfl) rfl (fun _=>by omega) (fun _=>wrap_i64 (by omega) (by omega)) ?_))))))
     refine aS rfl rfl (.nil (We.lpo (q+1,c+1,M.set c (M.getD (k+q) emT)) ?_ ?_ ?_ ?_ ?_))
     ·exact (esC rfl (by first|rfl|exact evi (by omega)) (esC rfl (by first|rfl|exact evi (by omega)) (esD rfl (esD rfl eZ))))
     ·exact (mS .here (by rw [List.length_set]) mN)
     ·first|omega|(dsimp only; omega)
     ·exact hGl1
     refine ⟨?_,?_⟩
     ·(try dsimp only)<;>(exact hC.next (by omega) (str_f (by simpa using c5k)))
     (try dsimp only)<;>(first|omega|rfl|assumption|(simp; done))
    have c5k:=c5
    try simp only [qcA,qcB] at c5
    refine .skip (.blk (.code (rq3 rfl rfl (mV rfl rfl (arn (((q+1):Nat):Int) rfl .no (.u rfl) (.u rfl) rfl (fun _=>by omega) (fun _=>wrap_i64 (by omega) (by omega)) ?_)))))
    refine aS rfl rfl (.nil (We.lpo (q+1,c,M) ?_ ?_ ?_ ?_ ?_))
    ·exact (esC rfl (by first|rfl|exact evi (by omega)) (esC rfl (by first|rfl|exact evi (by omega)) (esD rfl (esD rfl eZ))))
    ·exact (mS .here rfl mN)
    ·first|omega|(dsimp only; omega)
    ·exact hGl1
    refine ⟨?_,?_⟩
    ·(try dsimp only)<;>(exact hC.same (by omega) (toList_inj (by simpa using c5k)))
    (try dsimp only)<;>(first|omega|rfl|assumption|(simp; done))
   have c4k:=c4
   try simp only [qcA,qcB] at c4
   refine .exit (.xcode (.xlp (.xblk (.code (.seq ?_)))))
   have lcc:(M.take c).length=c:=by rw [List.length_take]; omega
   refine wk_popS (M.take c) (M.drop c) (encT_len _) .here (by rw [List.take_append_drop]) ?_
   refine rq4 rfl rfl (mV rfl rfl (mV rfl rfl (slr (M.take c).length rfl Fx.se71 (.u rfl) (.u rfl) (by omega) (by omega) (by omega) (by omega) ?_)))
   refine clT rfl Fx.se71 Fx.zv9 rfl (by decide) (.u rfl) .here (by omega) (by omega) (fun _ _=>rfl) ?_
   refine .nil (.code (.seq (rq4 rfl rfl (mV rfl rfl (mV rfl rfl (srh (M.take c).length rfl Fx.se71 (.u rfl) (.u rfl) (by omega) (by omega) ?_))))))
   refine aS rfl rfl (.nil (.code (.ret (We.fin Tryz.results33 (.tmp rfl .nil) (mS .here rfl mN) ?_))))
   exact ⟨_,by rw [← hC.fin (by omega)]; rfl,rfl⟩
  have c3k:=c3
  try simp only [qcA,qcB] at c3
  refine .skip (.blk (.code (rq3 rfl rfl (mV rfl rfl (arn (((k+1):Nat):Int) rfl .no (.u rfl) (.u rfl) rfl (fun _=>by omega) (fun _=>wrap_i64 (by omega) (by omega)) ?_)))))
  refine aS rfl rfl (.nil (We.lpo (k+1) ?_ ?_ ?_ ?_ ?_))
  ·exact (esC rfl (by first|rfl|exact evi (by omega)) (esD rfl eZ))
  ·exact (mS .here rfl mN)
  ·first|omega|(dsimp only; omega)
  ·exact hGl0
  refine ⟨?_,?_⟩
  ·(try dsimp only)<;>(first|omega|rfl|assumption|(simp; done))
  (try dsimp only)<;>(exact cm_snoc hj c3k)
 have c2k:=c2
 try simp only [qcA,qcB] at c2
 refine .exit (.xcode (.xlp (.xblk (.code (.seq (rq2 rfl rfl (mV rfl rfl (aS rfl rfl (.nil (.code (.ret (We.fin Tryz.results33 (.tmp rfl .nil) (mS .here rfl mN) ?_))))))))))))
 exact ⟨_,by rw [cmp_full (by omega) hj]; rfl,rfl⟩
theorem tPut_ok (enc mac:Nat→Y) (ad:List Y) (ha:Sh) (O:List Y) (D:List Dg) (vo vl:Value) (bw part:Nat) (xs:List Y) (hx:Sh) (G:PM) (hsa:SlR G 1 encY ha ad) (hsx:SlR G 1 encY hx xs) (hK:RdNP G 1 0 (wa 64 kW)) (hla:ad.length≤1000) (hlx:xs.length≤1000000) (hlO:O.length≤100000000) (hlD:D.length≤1000000) (hp:part≤1000000000):Ct Tryz.prog 31 ([.pointer (some ⟨bw,0,none⟩),.int .i64 (part:Int),hx.val xs.length]:List Value).toArray G [.blk bw (cl (wrC enc mac (ha.val ad.length) vo vl) 70),rB vo 5 O,rS 32 (ba 32) vl 23 D] (fun _ μ' u=>∃ (X O' W':List Y) (D':List Dg) (vo' vl':Value) (b' cap':Nat),X=sealL enc mac (nonceF (BitVec.ofInt 64 (part:Int))) ad xs∧O'=O++X∧D'=D++[leafD X]∧W'=rowL X∧μ'=[.blk bw (cl (wrC enc mac (ha.val ad.length) vo' vl') 70),rB vo' 5 O',rS 32 (ba 32) vl' 23 D',rB (.slice (some ⟨b',0,none⟩) W'.length cap') 5 W']∧u=.slice (some ⟨b',0,none⟩) W'.length cap'):=by
 refine Ct.of Tryz.func31 rfl Tryz.ntmps31 rfl fun w0 hs0=>?_
 refine .seq (rq1 rfl rfl (aS rfl rfl (.nil (.code (.seq (Wk.draw (mc:=⟨false,false⟩) [0,1,2,3,4,5,7,8,9,10,11,6,12,13] Fx.mix (by kernel_rfl) ?_))))))
 refine mV rfl rfl (nc rfl .no (.u rfl) (fz rfl .no Fx.fo70_0 (.u rfl) (lA rfl .no Fx.ag65 (.u rfl) (fun _=>RdN.part (n:=64) (cs':=ba 32 enc++ba 32 mac) .here (wrc_key)) (fun _=>(by first|exact qE|exact qL|rfl)) ?_)))
 refine mV rfl rfl (ci rfl .no rfl Fx.cv3_24 (.u rfl) ?_)
 refine mV rfl rfl (nc rfl .no (.u rfl) (fz rfl .no Fx.fo70_1 (.u rfl) (ld rfl .no Fx.ag34 (.u rfl) (fun _=>Rd.own .here wrc_ad) ?_)))
 refine mV rfl rfl (kv rfl .no Fx.go73 (Evc rfl Evn) (fun _=>Nonce_ok _ _) ?_)
 refine kc rfl Fx.go72 (Evc rfl (Evc rfl (Evc rfl (Evc rfl Evn)))) (Ct.rowc (Seal_ok enc mac (nonceF (BitVec.ofInt 64 (part:Int))) ad ha xs hx _ hsa hsx hK (by omega) (by omega))) ?_
 rintro v21 G21 μ21 hG21 ⟨L21,ov21,eL21,rfl⟩
 have hK:=hK.mono hG21
 refine aS rfl rfl (.nil (.code (.seq ?_)))
 refine wk_fb .here (keys_k .here rfl (keys_k .here rfl (keys_k .here rfl (keys_0)))) ?_; intro GfR21 hR21 hleR21 evR21 hsR21; subst evR21
 have hK:=hK.mono hleR21
 refine rq4 rfl rfl (mV rfl rfl ?_)
 have lL21:L21.length=xs.length+16:=by rw [eL21,seal_len]
 refine kv rfl .no Fx.go74 (Evc rfl Evn) (fun _=>leaf_ok L21 hR21 _ hsR21 hK (by omega)) ?_
 refine al rfl Fx.zq23 ?_; intro b8
 refine sw rfl (.u rfl) (.u rfl) rfl Fx.sz23 .here rfl (ba_one _ _) ?_
 refine .nil (.code (.seq (rq10 rfl rfl (mV rfl rfl (mV rfl rfl (nc rfl .no (.u rfl) (fz rfl .no Fx.fo70_2 (.u rfl) (ld rfl .no Fx.ag34 (.u rfl) (fun _=>Rd.own tk1 wrc_out) ?_))))))))
 refine mV rfl rfl (apY rfl Fx.se34 Fx.zv5 (.u rfl) (.u rfl) tk2 hsR21.sc (by (try simp only [qlA,yl_len]); omega) ?_)
 intro v30 L30 ov30 eL30
 have lL30:L30.length=O.length+L21.length:=by rw [eL30,List.length_append]
 refine nc rfl .no (.u rfl) (fz rfl .no Fx.fo70_2 (.u rfl) (s1v rfl (.u rfl) (.u rfl) .here Fx.sz34 tk2 (by rw [wrc_len]; decide) (wrs_out) ?_))
 refine .nil (.code (.seq (Wk.mixp ⟨false,false⟩ Fx.mix (by kernel_rfl) ?_)))
 refine Wp.one 0 (by kernel_rfl) ?_
 refine mV rfl rfl (.nil (Wp.one 1 (by kernel_rfl) ?_))
 refine mV rfl rfl (.nil (Wp.one 2 (by kernel_rfl) ?_))
 refine nc rfl .no (.u rfl) (.nil (Wp.one 3 (by kernel_rfl) ?_))
 refine fz rfl .no Fx.fo70_3 (.u rfl) (.nil (Wp.one 4 (by kernel_rfl) ?_))
 refine ld rfl .no Fx.ag68 (.u rfl) (fun _=>Rd.own .here wrc_lvs) ?_
 refine .nil (Wp.one 5 (by kernel_rfl) ?_)
 refine lA rfl .no Fx.ag23 (.u rfl) (fun _=>RdN.own tk2) (fun _=>ba_len _ _) ?_
 refine .nil (Wp.b1 6 (by kernel_rfl) ?_)
 refine Go.Tan.b1 rfl FxTbF.se68 FxTbF.zw23 (.u rfl) rfl rfl (by decide) ?_; intro b39
 refine .nil (Wp.b1 7 (by kernel_rfl) ?_)
 refine apS (xs:=D) ((leafD L21)) rfl FxTbF.se68 FxTbF.zw23 rfl (.u rfl) (.u rfl) tk4 .here (ba_len _ _) (ba_one _ _) (by omega) (by unfold maxLen; omega) ?_; intro v40 ov40
 refine .nil (Wp.one 8 (by kernel_rfl) ?_)
 refine nc rfl .no (.u rfl) (.nil (Wp.one 9 (by kernel_rfl) ?_))
 refine fz rfl .no Fx.fo70_3 (.u rfl) (.nil (Wp.b1 10 (by kernel_rfl) ?_))
 refine s1v rfl (.u rfl) (.u rfl) .here Fx.sz68 tk2 (by rw [wrc_len]; decide) (wrs_lvs) ?_
 refine .nil (Wp.last (by kernel_rfl) ?_)
 refine .code (.seq (Wk.draw (mc:=⟨false,false⟩) [0,1,2,4,3,5,6] Fx.mix (by kernel_rfl) ?_))
 refine mV rfl rfl (ln rfl .no Fx.sn34 (.u rfl) (ci rfl .no rfl Fx.cv3_24 (.u rfl) ?_))
 refine sa0 rfl .no Fx.ar23 (.u rfl) (kc rfl Fx.go34 (Evc rfl (Evc rfl Evn)) (Ct.rowc (Num_ok [] ⟨none,0⟩ _ SlR.nul _ (Nat.zero_le _))) ?_)
 rintro v46 G46 μ46 hG46 ⟨L46,ov46,eL46,rfl⟩
 have lL46:=nm0 eL46
 refine apY rfl Fx.se34 Fx.zv5 (.u rfl) (.u rfl) .here (Sc.arr tk5) (by (try simp only [qlA,yl_len]); omega) ?_
 intro v48 L48 ov48 eL48
 have lL48:L48.length=L46.length+32:=by rw [eL48,List.length_append]; first|rfl | simp [yl_len]
 refine aS rfl rfl (.nil (.code (.ret ?_)))
 refine we_rv .here (by rw [eL48,List.length_append,yl_len]; omega) ?_; intro bbR46 capR46 evR46 lcR46; subst evR46
 refine We.fin Tryz.results31 (.tmp rfl .nil) (mS tk1 rfl (mS tk3 rfl (mS tk1 rfl (mS .here rfl mN)))) ?_
 exact ⟨L21,L30,L48,_,_,_,_,_,eL21,eL30,rfl,row_put (by omega) eL46 eL48,rfl,rfl⟩
theorem tPut_row (enc mac:Nat→Y) (ad:List Y) (ha:Sh) (O:List Y) (D:List Dg) (vo vl:Value) (bw part:Nat) (xs:List Y) (v:Value) (G:PM) (hsa:SlR G 1 encY ha ad) (hK:RdNP G 1 0 (wa 64 kW)) (hla:ad.length≤1000) (hlx:xs.length≤1000000) (hlO:O.length≤100000000) (hlD:D.length≤1000000) (hp:part≤1000000000) :
  Ct Tryz.prog 31 ([.pointer (some ⟨bw,0,none⟩),.int .i64 (part:Int),v]:List Value).toArray G (rB v 5 xs :: [.blk bw (cl (wrC enc mac (ha.val ad.length) vo vl) 70),rB vo 5 O,rS 32 (ba 32) vl 23 D]) (fun _ μ' u=>∃ ν,μ'=rB v 5 xs :: ν∧∃ (X O' W':List Y) (D':List Dg) (vo' vl':Value) (b' cap':Nat),X=sealL enc mac (nonceF (BitVec.ofInt 64 (part:Int))) ad xs∧O'=O++X∧D'=D++[leafD X]∧W'=rowL X∧ν=[.blk bw (cl (wrC enc mac (ha.val ad.length) vo' vl') 70),rB vo' 5 O',rS 32 (ba 32) vl' 23 D',rB (.slice (some ⟨b',0,none⟩) W'.length cap') 5 W']∧u=.slice (some ⟨b',0,none⟩) W'.length cap') :=
 Ct.lendB (fun hx G2 hle hv hs=>by subst hv; exact tPut_ok enc mac ad ha O D vo vl bw part xs hx G2 (hsa.mono hle) hs (hK.mono hle) hla hlx hlO hlD hp)
namespace Fx
theorem se68:slE Tryz.prog 68=some (23,32,32):=by kernel_rfl
theorem sn68:(slE Tryz.prog 68).isSome=true:=by kernel_rfl
theorem go77:goFn Tryz.prog 77=true:=by kernel_rfl
theorem zw23:(Tryz.prog.info? 23).bind (·.zero)=some (.agg (ba 32 (fun _=>0#8)).toArray):=by kernel_rfl
end Fx
theorem root_ok (ds:List Dg) (h:Sh) (G:PM) (hs:SlR G 32 (ba 32) h ds) (hK:RdNP G 1 0 (wa 64 kW)) (hl:ds.length≤1000000):Ct Tryz.prog 36 ([h.val ds.length]:List Value).toArray G [] (fun _ μ' u=>μ'=[]∧u=.agg (ba 32 (rootD ds)).toArray):=by
 refine Ct.of Tryz.func36 rfl Tryz.ntmps36 rfl fun w0 hs0=>?_
 refine .seq (rq1 rfl rfl ?_)
 refine al rfl Fx.zq23 ?_; intro b2
 refine .nil (.code (.seq (.seq (rq3 rfl rfl (mV rfl rfl (ln rfl .no Fx.sn68 (.u rfl) (cp rfl .no (.u rfl) (.u rfl) rfl (.nil (.code (.cond rfl (fun c1=>?_) (fun c1=>?_)))))))))))
 ·have c1k:=c1
  try simp only [qcA,qcC,qcB] at c1
  refine .seq (rq4 rfl rfl ?_)
  refine Go.Tan.b1 rfl Fx.se34 Fx.zv5 (.u rfl) rfl rfl (by decide) ?_; intro b12
  refine Go.Tan.b1 rfl Fx.se53 Fx.zv34 (.u rfl) rfl rfl (by decide) ?_; intro b13
  refine kp rfl .no Fx.go76 (Evc rfl Evn) (Gp.add .here (Gp.add .here Gp.nil)) (fun _ hle hq=>emptyS_ok (kind:=2#8) hle hq.1 hK) ?_
  refine sw rfl (.u rfl) (.u rfl) rfl Fx.sz23 tk2 (by first|exact qE|exact qL|rfl) (by first|exact ba_one _ _|exact wa_one _ _|exact one_V _|decide|exact one_app (wa_one _ _) (by simp [Value.oneCell'])) ?_
  refine .nil (.code (.ret (We.fin0 Tryz.results36 (.cell rfl (fun w hw=>run_loadVarN Fx.ag23 (RdN.own .here) ((by first|exact qE|exact qL|rfl)) hw) .nil) ?_)))
  obtain rfl:ds=[]:=List.eq_nil_of_length_eq_zero (by omega)
  exact ⟨rfl,by rw [root_nil]; rfl⟩
 have c1k:=c1
 try simp only [qcA,qcC,qcB] at c1
 refine .skip (.code (.seq (rq1 rfl rfl (aS rfl rfl (.nil (.code (.seq (.seq (wk_nilS 32 (ba 32) 23 ?_)))))))))
 refine rq3 rfl rfl (mV rfl rfl (ln rfl .no Fx.sn68 (.u rfl) (mV rfl rfl (.nil (.code (.block ?_))))))
 refine Wk.lop (α:=Nat×List (Nat×Dg)×Value) (fun gh=>[(3,true,gh.2.2),(17,true,.int .i64 (gh.1:Int))]) (fun gh=>[rS 32 (ba 32) gh.2.2 23 (stkL gh.2.1)])
  (fun gh Gl=>(gh.1≤ds.length)∧(Stk gh.2.1 (ds.take gh.1))) (fun gh=>ds.length-gh.1) (0,[],.slice none 0 0) [(2,true,_),(15,true,_),(16,true,_)] [_]
  (esD rfl (esC rfl (by first|rfl|exact evi (by omega)) (esD rfl (esD rfl (esD rfl eZ)))))
  (mS .here rfl (mS .here rfl mN)) ?_ ?_
 ·refine ⟨?_,?_⟩
  ·(try dsimp only)<;>(first|omega|rfl|assumption|(simp; done))
  (try dsimp only)<;>(exact Stk.nil)
 intro gh N0 Gl0 hN0 hGl0 hF0
 obtain ⟨k,S,v⟩:=gh; dsimp only at hF0 hN0 ⊢
 obtain ⟨hk,hS⟩:=hF0
 have hs:=hs.mono hGl0
 have hK:=hK.mono hGl0
 refine .seq (rq1 rfl rfl (cp rfl .no (.u rfl) (.u rfl) rfl (.nil (.code (.seq (.cond rfl (fun c2=>?_) (fun c2=>?_)))))))
 ·have c2k:=c2
  try simp only [qcA,qcC,qcB] at c2
  refine .skip (.code (.seq (.block (.seq (rq6 rfl rfl (mV rfl rfl ?_))))))
  obtain ⟨x,ex⟩:=getx (k:=k) (xs:=ds) (by omega)
  refine ih rfl .no Fx.se68 (.u rfl) (.u rfl) (fun _=>by omega) (fun _=>by omega) (fun _=>hs.nn (k:=k) (by first|omega|(simp only [Bool.and_eq_true,decide_eq_true_eq] at hc; omega)|(simp only [List.length_cons,List.length_nil]; omega))) ?_
  refine lA rfl .no Fx.ag23 (.u rfl) (fun _=>(hs.at (by omega) ex).rd) (fun _=>ba_len _ _) ?_
  refine al rfl Fx.zq23 ?_; intro b5
  refine aS rfl rfl (sw rfl (.u rfl) (.u rfl) rfl Fx.sz23 .here rfl (ba_one _ _) ?_)
  refine .nil (.code (.seq (.seq (rq3 rfl rfl (mV rfl rfl (arn (((k+1):Nat):Int) rfl .no (.u rfl) (.u rfl) rfl (fun _=>by omega) (fun _=>wrap_i64 (by omega) (by omega)) ?_))))))
  refine aS rfl rfl (.nil (.code (.block ?_)))
  refine Wk.lop (α:=Nat×Nat×List (Nat×Dg)×Dg×Value) (fun gh=>[(3,true,gh.2.2.2.2),(6,true,.int .i64 (gh.1:Int))]) (fun gh=>[.blk b5 (cl (ba 32 gh.2.2.2.1) 23),rS 32 (ba 32) gh.2.2.2.2 23 (stkL gh.2.2.1)])
   (fun gh Gl=>(Pend gh.2.2.1 gh.2.2.2.1 gh.2.1 (ds.take (k+1)))∧(gh.1=(ds.take (k+1)).length / 2^gh.2.1)∧(gh.1≤k+1)) (fun gh=>gh.1) (k+1,0,S,x,v) [(2,true,_),(5,true,_),(15,true,_),(16,true,_),(17,true,_)] [_]
   (esD rfl (esC rfl (by first|rfl|exact evi (by omega)) (esD rfl (esD rfl (esD rfl (esD rfl (esD rfl eZ)))))))
   (mS .here rfl (mS .here rfl (mS .here rfl mN))) ?_ ?_
  ·refine ⟨?_,?_,?_⟩
   ·(try dsimp only)<;>(rw [List.take_add_one,ex]; exact Pend.start hS x)
   ·(try dsimp only)<;>(rw [Nat.pow_zero,Nat.div_one,List.length_take]; omega)
   (try dsimp only)<;>(first|omega|rfl|assumption|(simp; done))
  intro gh N1 Gl1 hN1 hGl1 hF1
  obtain ⟨q,a,S2,dd,v2⟩:=gh; dsimp only at hF1 hN1 ⊢
  obtain ⟨hP,eq,hqk⟩:=hF1
  have hK:=hK.mono hGl1
  have hq0:=pend_pos hP eq
  have hl2:=pend_len hP
  rw [← stkL_len,List.length_take] at hl2
  refine .seq (.seq (rq3 rfl rfl (mV rfl rfl (an1 q rfl .no (.u rfl) (.u rfl) rfl rfl ?_))))
  refine cp rfl .no (.u rfl) (.u rfl) rfl (.nil (.code (.cond rfl (fun c3=>?_) (fun c3=>?_))))
  ·have c3k:=c3
   try simp only [qcA,qcC,qcB] at c3
   refine .skip (.code (.seq (.block (.seq ?_))))
   obtain ⟨s,S3,hS3,hP3,hq3⟩:=pend_even hP eq (by omega)
   have hl3:(stkL S2).length=(stkL S3).length+1:=by rw [hS3,stkL_cons,List.length_append]; rfl
   refine wk_rv tk1 (by omega) ?_; intro bbRS capRS evRS lcRS; subst evRS
   refine Wk.draw (mc:=⟨false,false⟩) [0,1,2,3,4,5,6,7,8] Fx.mix (by kernel_rfl) ?_
   refine mV rfl rfl (mV rfl rfl (lr rfl .no Fx.sn68 (.u rfl) tk1 ?_))
   refine arn ((((stkL S2).length-1):Nat):Int) rfl .no (.u rfl) (.u rfl) rfl (fun _=>by omega) (fun _=>wrap_i64 (by omega) (by omega)) ?_
   refine ia rfl .no Fx.se68 (.u rfl) (.u rfl) (fun _=>by omega) (fun _=>by omega) ?_
   refine lA rfl .no Fx.ag23 (.u rfl) (fun _=>RdN.rowS tk1 (fun _ _=>ba_len _ _) (gd_at (z:=zD) (k:=((stkL S2).length-1)) (by omega)) (by omega)) (fun _=>ba_len _ _) ?_
   refine lA rfl .no Fx.ag23 (.u rfl) (fun _=>RdN.own .here) (fun _=>(by first|exact qE|exact qL|rfl)) ?_
   refine kv rfl .no Fx.go77 (Evc rfl (Evc rfl Evn)) (fun _=>join_ok _ _ _ hK) ?_
   refine sw rfl (.u rfl) (.u rfl) rfl Fx.sz23 .here (by first|exact qE|exact qL|rfl) (ba_one _ _) ?_
   refine .nil (.code (rq6 rfl rfl (mV rfl rfl (mV rfl rfl (lr rfl .no Fx.sn68 (.u rfl) tk1 ?_)))))
   refine ar rfl .no (.u rfl) (.u rfl) rfl (fun _=>wrap_i64 (by omega) (by omega)) ?_
   refine srh (stkL S3).length rfl Fx.se68 (.u rfl) (.u rfl) (by omega) (by omega) ?_
   refine aS rfl rfl (.nil (.blk (.code (wk_popS (stkL S3) [s] (fun _ _=>ba_len _ _) tk1 (by rw [hS3,stkL_cons]) ?_))))
   refine rq3 rfl rfl (mV rfl rfl (sr1 (q) rfl .no (.u rfl) (.u rfl) (by first|rfl|omega) rfl (by decide) ?_))
   refine aS rfl rfl (.nil (We.lpo (q / 2,a+1,S3,joinD ((stkL S2).getD ((stkL S2).length-1) zD) dd,.slice (some ⟨bbRS,0,none⟩) (stkL S3).length capRS) ?_ ?_ ?_ ?_ ?_))
   ·exact (esD rfl (esC rfl (by first|rfl|exact evi (by omega)) (esD rfl (esD rfl (esD rfl (esD rfl (esD rfl eZ)))))))
   ·exact (mS tk1 rfl (mS .here rfl (mS .here rfl mN)))
   ·first|omega|(dsimp only; omega)
   ·exact hGl1
   refine ⟨?_,?_,?_⟩
   ·(try dsimp only)<;>(rw [stk_top hS3]; exact hP3)
   ·(try dsimp only)<;>(exact hq3)
   (try dsimp only)<;>(first|omega|rfl|assumption|(simp; done))
  have c3k:=c3
  try simp only [qcA,qcC,qcB] at c3
  refine .exit (.xcode (.xlp (.xblk (.code (rq5 rfl rfl (mV rfl rfl (lA rfl .no Fx.ag23 (.u rfl) (fun _=>RdN.own .here) (fun _=>(by first|exact qE|exact qL|rfl)) ?_)))))))
  refine Go.Tan.b1 rfl Fx.se68 Fx.zw23 (.u rfl) rfl rfl (by decide) ?_; intro b44
  refine apS (xs:=(stkL S2)) (dd) rfl Fx.se68 Fx.zw23 rfl (.u rfl) (.u rfl) tk2 .here (ba_len _ _) (ba_one _ _) (by omega) (by unfold maxLen; omega) ?_; intro v45 ov45
  refine aS rfl rfl (.nil (.blk (.code (rq2 rfl rfl (arn (((k+1):Nat):Int) rfl .no (.u rfl) (.u rfl) rfl (fun _=>by omega) (fun _=>wrap_i64 (by omega) (by omega)) ?_)))))
  refine mV rfl rfl (.nil (We.lpo (k+1,(a,dd) :: S2,v45) ?_ ?_ ?_ ?_ ?_))
  ·exact (esD rfl (esC rfl (by first|rfl|exact evi (by omega)) (esD rfl (esD rfl (esD rfl eZ)))))
  ·exact (mS .here (by rw [stkL_cons]) (mS tk2 rfl mN))
  ·first|omega|(dsimp only; omega)
  ·exact (hGl0).trans hGl1
  refine ⟨?_,?_⟩
  ·(try dsimp only)<;>(first|omega|rfl|assumption|(simp; done))
  (try dsimp only)<;>(exact pend_odd hP eq (by omega))
 have c2k:=c2
 try simp only [qcA,qcC,qcB] at c2
 refine .exit (.xcode (.xlp (.xblk (.code (.seq ?_)))))
 obtain rfl:k=ds.length:=by omega
 rw [List.take_length] at hS
 obtain ⟨hs0,hroot⟩:=stk_done hS (by omega)
 have hsl:=hS.short
 rw [← stkL_len] at hsl
 refine wk_rv .here (by omega) ?_; intro bbRS capRS evRS lcRS; subst evRS
 refine rq8 rfl rfl (mV rfl rfl (mV rfl rfl (lr rfl .no Fx.sn68 (.u rfl) .here ?_)))
 refine arn ((((stkL S).length-1):Nat):Int) rfl .no (.u rfl) (.u rfl) rfl (fun _=>by omega) (fun _=>wrap_i64 (by omega) (by omega)) ?_
 refine ia rfl .no Fx.se68 (.u rfl) (.u rfl) (fun _=>by omega) (fun _=>by omega) ?_
 refine lA rfl .no Fx.ag23 (.u rfl) (fun _=>RdN.rowS .here (fun _ _=>ba_len _ _) (gd_at (z:=zD) (k:=((stkL S).length-1)) (by omega)) (by omega)) (fun _=>ba_len _ _) ?_
 refine al rfl Fx.zq23 ?_; intro b7
 refine sw rfl (.u rfl) (.u rfl) rfl Fx.sz23 .here rfl (ba_one _ _) ?_
 refine .nil (.code (.seq (.seq (rq4 rfl rfl (mV rfl rfl (lr rfl .no Fx.sn68 (.u rfl) tk1 ?_))))))
 refine ar rfl .no (.u rfl) (.u rfl) rfl (fun _=>wrap_i64 (by omega) (by omega)) ?_
 refine aS rfl rfl (.nil (.code (.block ?_)))
 refine Wk.lop (α:=Nat×Dg) (fun gh=>[(8,true,.int .i64 ((gh.1:Int)-1))]) (fun gh=>[.blk b7 (cl (ba 32 gh.2) 23)])
  (fun gh Gl=>(gh.1≤(stkL S).length-1)∧(rootD ds=finB gh.2 (stkL S) gh.1)) (fun gh=>gh.1) ((stkL S).length-1,(stkL S).getD ((stkL S).length-1) zD) [(2,true,_),(3,true,_),(7,true,_)] [_,_]
  (esC rfl (evi (by omega)) (esD rfl (esD rfl (esD rfl eZ))))
  (mS .here rfl (mS .here rfl (mS .here rfl mN))) ?_ ?_
 ·refine ⟨?_,?_⟩
  ·(try dsimp only)<;>(first|omega|rfl|assumption|(simp; done))
  (try dsimp only)<;>(exact hroot)
 intro gh N2 Gl2 hN2 hGl2 hF2
 obtain ⟨j,d⟩:=gh; dsimp only at hF2 hN2 ⊢
 obtain ⟨hj,hd⟩:=hF2
 have hK:=hK.mono hGl2
 refine .seq (.seq (rq2 rfl rfl (mV rfl rfl (cp rfl .no (.u rfl) (.u rfl) rfl (.nil (.code (.cond rfl (fun c4=>?_) (fun c4=>?_))))))))
 ·have c4k:=c4
  try simp only [qcA,qcC,qcB] at c4
  refine .skip (.code (.seq (.block (Wk.draw (mc:=⟨false,false⟩) [0,1,2,3,4,5,6] Fx.mix (by kernel_rfl) ?_))))
  refine mV rfl rfl (mV rfl rfl (ia rfl .no Fx.se68 (.u rfl) (.u rfl) (fun _=>by omega) (fun _=>by omega) ?_))
  refine lA rfl .no Fx.ag23 (.u rfl) (fun _=>RdN.rowS tk1 (fun _ _=>ba_len _ _) (gd_at (z:=zD) (k:=(j-1)) (by omega)) (by omega)) (fun _=>ba_len _ _) ?_
  refine lA rfl .no Fx.ag23 (.u rfl) (fun _=>RdN.own .here) (fun _=>(by first|exact qE|exact qL|rfl)) ?_
  refine kv rfl .no Fx.go77 (Evc rfl (Evc rfl Evn)) (fun _=>join_ok _ _ _ hK) ?_
  refine sw rfl (.u rfl) (.u rfl) rfl Fx.sz23 .here (by first|exact qE|exact qL|rfl) (ba_one _ _) ?_
  refine .nil (.blk (.code (rq3 rfl rfl (mV rfl rfl (ar rfl .no (.u rfl) (.u rfl) rfl (fun _=>wrap_i64 (by omega) (by omega)) ?_)))))
  refine aS rfl rfl (.nil (We.lpo (j-1,joinD ((stkL S).getD (j-1) zD) d) ?_ ?_ ?_ ?_ ?_))
  ·exact (esC rfl (evi (by omega)) (esD rfl (esD rfl (esD rfl eZ))))
  ·exact (mS .here rfl (mS .here rfl (mS .here rfl mN)))
  ·first|omega|(dsimp only; omega)
  ·exact hGl2
  refine ⟨?_,?_⟩
  ·(try dsimp only)<;>(first|omega|rfl|assumption|(simp; done))
  (try dsimp only)<;>(rw [hd,finB_pred (by omega)])
 have c4k:=c4
 try simp only [qcA,qcC,qcB] at c4
 refine .exit (.xcode (.xlp (.xblk (.code (.seq (rq2 rfl rfl (lA rfl .no Fx.ag23 (.u rfl) (fun _=>RdN.own .here) (fun _=>(by first|exact qE|exact qL|rfl)) ?_)))))))
 refine sw rfl (.u rfl) (.u rfl) rfl Fx.sz23 tk2 rfl (ba_one _ _) ?_
 refine .nil (.code (.ret (We.fin0 Tryz.results36 (.cell rfl (fun w hw=>run_loadVarN Fx.ag23 (RdN.own .here) ((by first|exact qE|exact qL|rfl)) hw) .nil) ?_)))
 obtain rfl:j=0:=by omega
 exact ⟨rfl,by rw [hd]; rfl⟩
end Go.Proofs.YtbdnclpopappeaaGreatDoor
