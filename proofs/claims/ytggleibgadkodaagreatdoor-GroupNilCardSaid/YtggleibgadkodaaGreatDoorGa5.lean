/- Lemmas and contracts of functions, joined. -/
import Derived.Test.YtggleibgadkodaaGreatDoorGa4
set_option linter.unusedSimpArgs false
set_option linter.unusedVariables false
set_option linter.unusedSectionVars false
namespace Go.Proofs.YtggleibgadkodaaGreatDoor
open Go.Tan Go.RowKit Go.Maps Go.Sort Go.Shelf
namespace Fx
theorem zr40:zrL Tryz.prog 40=some ([.int .i64 0,.int .i64 0,.int .i64 0,.int .i64 0,.int .i64 0,.int .i64 0,.int .i64 0]):=by kernel_rfl
theorem bp38_0_1_2:bPl Tryz.prog 38 [0,1,2]=some ([.int .i64 0,.int .i64 0,.int .i64 0],[(0,1),(1,1),(2,1)]):=by kernel_rfl
theorem bp40_0_1_2_3_4:bPl Tryz.prog 40 [0,1,2,3,4]=some ([.int .i64 0,.int .i64 0,.int .i64 0,.int .i64 0,.int .i64 0,.int .i64 0,.int .i64 0],[(0,1),(1,1),(2,1),(3,1),(4,3)]):=by kernel_rfl
theorem sz40:szT Tryz.prog 40=some 7:=by kernel_rfl
theorem bp99_0_1_2:bPl Tryz.prog 99 [0,1,2]=some ([.int .u8 0,.string ByteArray.empty,.string ByteArray.empty],[(0,1),(1,1),(2,1)]):=by kernel_rfl
theorem go27:goFn Tryz.prog 27=true:=by kernel_rfl
theorem go26:goFn Tryz.prog 26=true:=by kernel_rfl
theorem bp182_:bPl Tryz.prog 182 []=some ([.slice none 0 0],[]):=by kernel_rfl
theorem bp185_:bPl Tryz.prog 185 []=some ([.slice none 0 0,.slice none 0 0],[]):=by kernel_rfl
theorem bp82_0_1_4_5:bPl Tryz.prog 82 [0,1,4,5]=some ([.pointer none,.pointer none,.pointer none,.pointer none,.pointer none,.pointer none],[(0,1),(1,1),(4,1),(5,1)]):=by kernel_rfl
theorem fo82_0:fOff Tryz.prog 82 0=some 0:=by kernel_rfl
theorem fo82_1:fOff Tryz.prog 82 1=some 1:=by kernel_rfl
theorem bp71_:bPl Tryz.prog 71 []=some (ba 32 (fun _=>0#8),[]):=by kernel_rfl
theorem go83:goFn Tryz.prog 83=true:=by kernel_rfl
theorem go25:goFn Tryz.prog 25=true:=by kernel_rfl
theorem go6:goFn Tryz.prog 6=true:=by kernel_rfl
theorem fo82_2:fOff Tryz.prog 82 2=some 2:=by kernel_rfl
theorem fo82_3:fOff Tryz.prog 82 3=some 3:=by kernel_rfl
theorem sz26:szT Tryz.prog 26=some 1:=by kernel_rfl
theorem ag26:aggN Tryz.prog 26=some none:=by kernel_rfl
end Fx
theorem gComN_ok (n:Int) (G:PM):Ct Tryz.prog 7 ([.pointer none,.int .i64 n]:List Value).toArray G [] (fun _ μ' u=>μ'=[]∧u=.tuple #[.slice none 0 0,.int .i64 2]):=by
 refine Ct.of Tryz.func7 rfl Tryz.ntmps7 rfl fun w0 hs0=>?_
 refine .seq (rq2 rfl rfl (aS rfl rfl (aS rfl rfl (.nil (.code (.seq (.seq (rq2 rfl rfl (mV rfl rfl (pe0 rfl .no Fx.pt26 (.u rfl) (.u rfl) ?_))))))))))
 refine .nil (.code (Wk.condT rfl rfl ?_))
 refine .seq (rq2 rfl rfl (aS rfl rfl (aS rfl rfl (.nil (.code (.ret (We.fin0 Tryz.results7 (.tmp rfl (.tmp rfl .nil)) ?_)))))))
 exact ⟨rfl,rfl⟩
theorem subN_ok (n:Int) (v:Value) (y:Bool) (G:PM):Ct Tryz.prog 8 ([.pointer none,.int .i64 n,v,.bool y]:List Value).toArray G [] (fun _ μ' u=>μ'=[]∧u=.int .i64 2):=by
 refine Ct.of Tryz.func8 rfl Tryz.ntmps8 rfl fun w0 hs0=>?_
 refine .seq (rq1 rfl rfl (aS rfl rfl (.nil (.code (.seq (.block (.seq (rq3 rfl rfl (mV rfl rfl (pe0 rfl .no Fx.pt26 (.u rfl) (.u rfl) ?_))))))))))
 refine aS rfl rfl (.nil (.code (.cond rfl (fun c1=>?_) (fun c1=>?_))))
 ·have c1k:=c1
  try simp only [qcA,qcB] at c1
  refine .seq (rq1 rfl rfl (aS rfl rfl (.nil (.code (.ret (We.fin0 Tryz.results8 (.tmp rfl .nil) ?_))))))
  exact ⟨rfl,rfl⟩
 have c1k:=c1
 cases c1
theorem canN_ok (n:Int) (G:PM):Ct Tryz.prog 9 ([.pointer none,.int .i64 n]:List Value).toArray G [] (fun _ μ' u=>μ'=[]∧u=.bool false):=by
 refine Ct.of Tryz.func9 rfl Tryz.ntmps9 rfl fun w0 hs0=>?_
 refine .seq (rq1 rfl rfl (aS rfl rfl (.nil (.code (.seq (.seq (rq2 rfl rfl (mV rfl rfl (pe0 rfl .no Fx.pt26 (.u rfl) (.u rfl) ?_)))))))))
 refine .nil (.code (Wk.condT rfl rfl ?_))
 refine .seq (rq1 rfl rfl (aS rfl rfl (.nil (.code (.ret (We.fin0 Tryz.results9 (.tmp rfl .nil) ?_))))))
 exact ⟨rfl,rfl⟩
theorem waiN_ok (G:PM):Ct Tryz.prog 10 ([.pointer none]:List Value).toArray G [] (fun _ μ' u=>μ'=[]∧u=.slice none 0 0):=by
 refine Ct.of Tryz.func10 rfl Tryz.ntmps10 rfl fun w0 hs0=>?_
 refine .seq (rq1 rfl rfl (aS rfl rfl (.nil (.code (.seq (.seq (rq2 rfl rfl (mV rfl rfl (pe0 rfl .no Fx.pt26 (.u rfl) (.u rfl) ?_)))))))))
 refine .nil (.code (Wk.condT rfl rfl ?_))
 refine .seq (rq1 rfl rfl (aS rfl rfl (.nil (.code (.ret (We.fin0 Tryz.results10 (.tmp rfl .nil) ?_))))))
 exact ⟨rfl,rfl⟩
theorem opt24_ok (G:PM):Ct Tryz.prog 83 ([V 200#8]:List Value).toArray G [] (fun _ μ' u=>μ'=[]∧u=(⟨201,200,2,2000,50,4,10⟩ : Opts).val):=by
 refine Ct.of Tryz.func83 rfl Tryz.ntmps83 rfl fun w0 hs0=>?_
 refine .seq (rq1 rfl rfl ?_)
 refine al rfl Fx.zr40 ?_; intro b2
 refine .nil (.code (.seq (rq6 rfl rfl (mV rfl rfl ?_))))
 refine cn (k:=.u8) rfl .no Fx.cv5_3 (by decide) (.u rfl) ?_; intro m4 em4 lm4
 refine arn ((201:Nat):Int) rfl .no (.u rfl) (.u rfl) rfl (fun _=>by rw [em4]; rfl) (fun _=>wrap_i64 (by omega) (by omega)) ?_
 refine bCe ([.int .i64 50,.int .i64 4,.int .i64 10]) rfl .no Fx.bp38_0_1_2 (.cons (.u rfl) rfl (.cons (.u rfl) rfl (.cons (.u rfl) rfl .nil))) rfl (rfl) (bCe (Opts.cells (⟨201,200,2,2000,50,4,10⟩ : Opts)) rfl .no Fx.bp40_0_1_2_3_4 (.cons (.u rfl) rfl (.cons (.u rfl) rfl (.cons (.u rfl) rfl (.cons (.u rfl) rfl (.cons (.u rfl) rfl .nil))))) rfl (rfl) (sw rfl (.u rfl) (.u rfl) rfl Fx.sz40 .here (by first|exact qE|exact qL|rfl) (by first|exact ba_one _ _|exact wa_one _ _|exact one_V _|decide|exact one_app (wa_one _ _) (by simp [Value.oneCell'])) ?_))
 refine .nil (.code (.ret (We.fin0 Tryz.results83 (.cell rfl (fun w hw=>run_loadVarN Fx.ag40 (RdN.own .here) ((by first|exact qE|exact qL|rfl)) hw) .nil) ?_)))
 exact ⟨rfl,rfl⟩
theorem put24_ok (a b:ByteArray) (G:PM):Ct Tryz.prog 31 ([.string a,.string b]:List Value).toArray G [] (fun G' μ' u=>∃ s,μ'=[]∧u=s.val 1∧SlR G' 3 Opn.cells s [(⟨1#8,a,b⟩ : Opn)]):=by
 refine Ct.of Tryz.func31 rfl Tryz.ntmps31 rfl fun w0 hs0=>?_
 refine .seq (rq1 rfl rfl (aS rfl rfl (.nil (.code (.seq (rq5 rfl rfl (mV rfl rfl (mV rfl rfl (bCe (Opn.cells (⟨1#8,a,b⟩ : Opn)) rfl .no Fx.bp99_0_1_2 (.cons (.u rfl) rfl (.cons (.u rfl) rfl (.cons (.u rfl) rfl .nil))) rfl (rfl) ?_)))))))))
 refine Go.Tan.b1 rfl Fx.se22 Fx.zv99 (.u rfl) rfl rfl (by decide) ?_; intro b8
 refine aS rfl rfl (.nil (.code (.ret ?_)))
 refine we_fz .here (by intro b hb; cases hb) ?_; intro Gfb8 hleb8 hqb8; have hbb8:PB Gfb8 b8 _:=⟨hqb8⟩
 refine We.fin0 Tryz.results31 (.tmp rfl .nil) ?_
 exact ⟨⟨some ⟨b8,0,none⟩,1⟩,rfl,rfl,SlR.ofBlk (xs:=[(⟨1#8,a,b⟩ : Opn)]) hbb8.h (fun _ _=>rfl) (Nat.le_refl 1)⟩
set_option maxHeartbeats 1000000 in
theorem built24_ok (G:PM) (hK:RdNP G 0 0 (wa 64 kW)):Ct Tryz.prog 30 ([V 200#8]:List Value).toArray G [] (fun G' μ' u=>∃ (bh bd bm bt bq held now bg b1 b2:Nat) (v:Value) (F:List Fi),v.oneCell'=true∧DkR F 3∧F.map Fi.nm=[nmB 3 0,nmB 4 0]∧szF F≤2000∧PB G' bh (cl [pt bd,pt bt,pt bq,pt bg,pt b1,pt b2] 82)∧μ'=[.blk bg (cl [pt bq,.slice none 0 0] 88),.blk bq (cl (Db.cells (Db.d3 bd bt (fun _=>0#8) (⟨201,200,2,2000,50,4,10⟩ : Opts) 1#64 held now)) 124),.blk bd (cl (dkC bm 67108864 5) 178),.blk bm (mO ((F).map Fi.fe) 3),.blk bt (cl [uv .u64 1#64,uv .u64 1#64] 175),.blk now (cl [v,.int .i64 ((0:Nat):Int)] 202),rS 16 Nd.cells v 199 [Nd.z],.mp held .u64 (fun _=>none)]∧u=.tuple #[pt bh,.bool true]):=by
 refine Ct.of Tryz.func30 rfl Tryz.ntmps30 rfl fun w0 hs0=>?_
 refine .seq (rq2 rfl rfl (aS rfl rfl (aS rfl rfl (.nil (.code (.seq (rq9 rfl rfl (kc rfl Fx.go27 (Evc rfl Evn) (dnew_ok 67108864 _ (by decide)) ?_))))))))
 rintro _ G7 μ7 hG7 ⟨bd,bm,rfl,rfl⟩
 have hK:=hK.mono hG7
 refine kc rfl Fx.go26 Evn (tnew_ok _) ?_
 rintro _ G8 μ8 hG8 ⟨bt,rfl,rfl⟩
 have hK:=hK.mono hG8
 refine bCe ([.slice none 0 0]) rfl .no Fx.bp182_ .nil rfl (rfl) ?_
 refine bx rfl (.u rfl) rfl ?_; intro b10
 refine bCe ([.slice none 0 0,.slice none 0 0]) rfl .no Fx.bp185_ .nil rfl (rfl) ?_
 refine bx rfl (.u rfl) rfl ?_; intro b12
 refine bCe ([pt bd,pt bt,.pointer none,.pointer none,pt b10,pt b12]) rfl .no Fx.bp82_0_1_4_5 (.cons (.u rfl) rfl (.cons (.u rfl) rfl (.cons (.u rfl) rfl (.cons (.u rfl) rfl .nil)))) rfl (rfl) ?_
 refine bx rfl (.u rfl) rfl ?_; intro b14
 refine aS rfl rfl (.nil (.code (.seq ?_)))
 refine Wk.jn (α:=Nat×Nat×Nat×Value×List Fi) (fun gh=>[(5,true,pt gh.1),(6,true,.int .i64 0)]) (fun gh=>[.blk gh.1 (cl (Db.cells (Db.d3 bd bt (fun _=>0#8) (⟨201,200,2,2000,50,4,10⟩ : Opts) 1#64 gh.2.1 gh.2.2.1)) 124),.blk bd (cl (dkC bm 67108864 5) 178),.blk bm (mO ((gh.2.2.2.2).map Fi.fe) 3),.blk bt (cl [uv .u64 1#64,uv .u64 1#64] 175),.blk gh.2.2.1 (cl [gh.2.2.2.1,.int .i64 ((0:Nat):Int)] 202),rS 16 Nd.cells gh.2.2.2.1 199 [Nd.z],.mp gh.2.1 .u64 (fun _=>none)]) (fun gh Gl=>(gh.2.2.2.1.oneCell'=true)∧(DkR gh.2.2.2.2 3)∧(gh.2.2.2.2.map Fi.nm=[nmB 3 0,nmB 4 0])∧(szF gh.2.2.2.2≤2000)) [(4,true,_)] [_,_,_]
  (esD rfl eZ) (mS .here rfl (mS .here rfl (mS .here rfl mN))) ?_ ?_
 ·refine Wk.mixp ⟨true,false⟩ Fx.mix (by kernel_rfl) ?_
  refine Wp.one 0 (by kernel_rfl) ?_
  refine mV rfl rfl (.nil (Wp.one 1 (by kernel_rfl) ?_))
  refine nc rfl .no (.u rfl) (.nil (Wp.one 2 (by kernel_rfl) ?_))
  refine fz rfl .no Fx.fo82_0 (.u rfl) (.nil (Wp.one 4 (by kernel_rfl) ?_))
  refine mV rfl rfl (.nil (Wp.one 5 (by kernel_rfl) ?_))
  refine nc rfl .no (.u rfl) (.nil (Wp.one 6 (by kernel_rfl) ?_))
  refine fz rfl .no Fx.fo82_1 (.u rfl) (.nil (Wp.one 8 (by kernel_rfl) ?_))
  refine bCe (ba 32 (fun _=>0#8)) rfl .no Fx.bp71_ .nil rfl (rfl) ?_
  refine .nil (Wp.one 9 (by kernel_rfl) ?_)
  refine mV rfl rfl (.nil (Wp.b3 3 7 10 (by kernel_rfl) ?_ ?_ ?_))
  ·refine ld rfl .no Fx.ag72 (.u rfl) (fun _=>Rd.own .here (by first|exact wap_f rfl|rfl)) ?_
   refine .nil (Wp.b2 7 10 (by kernel_rfl) ?_ ?_)
   ·refine ld rfl .no Fx.ag68 (.u rfl) (fun _=>Rd.own .here (by first|exact wap_f rfl|rfl)) ?_
    refine .nil (Wp.b1 10 (by kernel_rfl) ?_)
    refine kv rfl .no Fx.go83 (Evc rfl Evn) (fun _=>opt24_ok _) ?_
    refine .nil (Wp.b1 11 (by kernel_rfl) ?_)
    refine ka rfl (.inl rfl) Fx.go25 (Evc rfl (Evc rfl (Evc rfl (Evc rfl Evn)))) (mtk3 tk4 tk4 tk3) (dOpen_ok bd bm 67108864 bt (fun _=>0#8) (⟨201,200,2,2000,50,4,10⟩ : Opts) _ rfl (by decide) (by decide) hK) ?_
    rintro _ G27 μ27 hG27 ⟨bq,held,now,v,F,ov,hD,hn,hz,rfl,rfl⟩
    have hK:=hK.mono hG27
    refine .nil (Wp.one 12 (by kernel_rfl) ?_)
    refine mV rfl rfl (.nil (Wp.one 13 (by kernel_rfl) ?_))
    refine ex rfl .no (.u rfl) rfl (.nil (Wp.one 14 (by kernel_rfl) ?_))
    refine ex rfl .no (.u rfl) rfl (.nil (Wp.one 15 (by kernel_rfl) ?_))
    refine aS rfl rfl (.nil (Wp.one 16 (by kernel_rfl) ?_))
    refine aS rfl rfl (.nil (Wp.last (by kernel_rfl) ?_))
    refine We.lpo (bq,held,now,v,F) ?_ ?_ ?_ ?_ ?_
    ·exact (esD rfl (esC rfl (by first|rfl|exact evi (by omega)) (esD rfl eZ)))
    ·exact (mS .here rfl (mS .here rfl (mS .here rfl (mS .here rfl (mS .here rfl (mS .here rfl (mS .here rfl (mS .here rfl (mS .here rfl (mS .here rfl mN))))))))))
    ·exact zro_lt _
    ·exact hG27
    refine ⟨?_,?_,?_,?_⟩
    ·(try dsimp only)<;>(exact ov)
    ·(try dsimp only)<;>(exact hD)
    ·(try dsimp only)<;>(exact hn)
    (try dsimp only)<;>(exact hz)
   refine kv rfl .no Fx.go83 (Evc rfl Evn) (fun _=>opt24_ok _) ?_
   refine .nil (Wp.one 7 (by kernel_rfl) ?_)
   refine ld rfl .no Fx.ag68 (.u rfl) (fun _=>Rd.own .here (by first|exact wap_f rfl|rfl)) ?_
   refine .nil (Wp.b1 11 (by kernel_rfl) ?_)
   refine ka rfl (.inl rfl) Fx.go25 (Evc rfl (Evc rfl (Evc rfl (Evc rfl Evn)))) (mtk3 tk4 tk4 tk3) (dOpen_ok bd bm 67108864 bt (fun _=>0#8) (⟨201,200,2,2000,50,4,10⟩ : Opts) _ rfl (by decide) (by decide) hK) ?_
   rintro _ G27 μ27 hG27 ⟨bq,held,now,v,F,ov,hD,hn,hz,rfl,rfl⟩
   have hK:=hK.mono hG27
   refine .nil (Wp.one 12 (by kernel_rfl) ?_)
   refine mV rfl rfl (.nil (Wp.one 13 (by kernel_rfl) ?_))
   refine ex rfl .no (.u rfl) rfl (.nil (Wp.one 14 (by kernel_rfl) ?_))
   refine ex rfl .no (.u rfl) rfl (.nil (Wp.one 15 (by kernel_rfl) ?_))
   refine aS rfl rfl (.nil (Wp.one 16 (by kernel_rfl) ?_))
   refine aS rfl rfl (.nil (Wp.last (by kernel_rfl) ?_))
   refine We.lpo (bq,held,now,v,F) ?_ ?_ ?_ ?_ ?_
   ·exact (esD rfl (esC rfl (by first|rfl|exact evi (by omega)) (esD rfl eZ)))
   ·exact (mS .here rfl (mS .here rfl (mS .here rfl (mS .here rfl (mS .here rfl (mS .here rfl (mS .here rfl (mS .here rfl (mS .here rfl (mS .here rfl mN))))))))))
   ·exact zro_lt _
   ·exact hG27
   refine ⟨?_,?_,?_,?_⟩
   ·(try dsimp only)<;>(exact ov)
   ·(try dsimp only)<;>(exact hD)
   ·(try dsimp only)<;>(exact hn)
   (try dsimp only)<;>(exact hz)
  ·refine ld rfl .no Fx.ag68 (.u rfl) (fun _=>Rd.own .here (by first|exact wap_f rfl|rfl)) ?_
   refine .nil (Wp.b2 3 10 (by kernel_rfl) ?_ ?_)
   ·refine ld rfl .no Fx.ag72 (.u rfl) (fun _=>Rd.own .here (by first|exact wap_f rfl|rfl)) ?_
    refine .nil (Wp.b1 10 (by kernel_rfl) ?_)
    refine kv rfl .no Fx.go83 (Evc rfl Evn) (fun _=>opt24_ok _) ?_
    refine .nil (Wp.b1 11 (by kernel_rfl) ?_)
    refine ka rfl (.inl rfl) Fx.go25 (Evc rfl (Evc rfl (Evc rfl (Evc rfl Evn)))) (mtk3 tk4 tk4 tk3) (dOpen_ok bd bm 67108864 bt (fun _=>0#8) (⟨201,200,2,2000,50,4,10⟩ : Opts) _ rfl (by decide) (by decide) hK) ?_
    rintro _ G27 μ27 hG27 ⟨bq,held,now,v,F,ov,hD,hn,hz,rfl,rfl⟩
    have hK:=hK.mono hG27
    refine .nil (Wp.one 12 (by kernel_rfl) ?_)
    refine mV rfl rfl (.nil (Wp.one 13 (by kernel_rfl) ?_))
    refine ex rfl .no (.u rfl) rfl (.nil (Wp.one 14 (by kernel_rfl) ?_))
    refine ex rfl .no (.u rfl) rfl (.nil (Wp.one 15 (by kernel_rfl) ?_))
    refine aS rfl rfl (.nil (Wp.one 16 (by kernel_rfl) ?_))
    refine aS rfl rfl (.nil (Wp.last (by kernel_rfl) ?_))
    refine We.lpo (bq,held,now,v,F) ?_ ?_ ?_ ?_ ?_
    ·exact (esD rfl (esC rfl (by first|rfl|exact evi (by omega)) (esD rfl eZ)))
    ·exact (mS .here rfl (mS .here rfl (mS .here rfl (mS .here rfl (mS .here rfl (mS .here rfl (mS .here rfl (mS .here rfl (mS .here rfl (mS .here rfl mN))))))))))
    ·exact zro_lt _
    ·exact hG27
    refine ⟨?_,?_,?_,?_⟩
    ·(try dsimp only)<;>(exact ov)
    ·(try dsimp only)<;>(exact hD)
    ·(try dsimp only)<;>(exact hn)
    (try dsimp only)<;>(exact hz)
   refine kv rfl .no Fx.go83 (Evc rfl Evn) (fun _=>opt24_ok _) ?_
   refine .nil (Wp.one 3 (by kernel_rfl) ?_)
   refine ld rfl .no Fx.ag72 (.u rfl) (fun _=>Rd.own .here (by first|exact wap_f rfl|rfl)) ?_
   refine .nil (Wp.b1 11 (by kernel_rfl) ?_)
   refine ka rfl (.inl rfl) Fx.go25 (Evc rfl (Evc rfl (Evc rfl (Evc rfl Evn)))) (mtk3 tk4 tk4 tk3) (dOpen_ok bd bm 67108864 bt (fun _=>0#8) (⟨201,200,2,2000,50,4,10⟩ : Opts) _ rfl (by decide) (by decide) hK) ?_
   rintro _ G27 μ27 hG27 ⟨bq,held,now,v,F,ov,hD,hn,hz,rfl,rfl⟩
   have hK:=hK.mono hG27
   refine .nil (Wp.one 12 (by kernel_rfl) ?_)
   refine mV rfl rfl (.nil (Wp.one 13 (by kernel_rfl) ?_))
   refine ex rfl .no (.u rfl) rfl (.nil (Wp.one 14 (by kernel_rfl) ?_))
   refine ex rfl .no (.u rfl) rfl (.nil (Wp.one 15 (by kernel_rfl) ?_))
   refine aS rfl rfl (.nil (Wp.one 16 (by kernel_rfl) ?_))
   refine aS rfl rfl (.nil (Wp.last (by kernel_rfl) ?_))
   refine We.lpo (bq,held,now,v,F) ?_ ?_ ?_ ?_ ?_
   ·exact (esD rfl (esC rfl (by first|rfl|exact evi (by omega)) (esD rfl eZ)))
   ·exact (mS .here rfl (mS .here rfl (mS .here rfl (mS .here rfl (mS .here rfl (mS .here rfl (mS .here rfl (mS .here rfl (mS .here rfl (mS .here rfl mN))))))))))
   ·exact zro_lt _
   ·exact hG27
   refine ⟨?_,?_,?_,?_⟩
   ·(try dsimp only)<;>(exact ov)
   ·(try dsimp only)<;>(exact hD)
   ·(try dsimp only)<;>(exact hn)
   (try dsimp only)<;>(exact hz)
  refine kv rfl .no Fx.go83 (Evc rfl Evn) (fun _=>opt24_ok _) ?_
  refine .nil (Wp.one 3 (by kernel_rfl) ?_)
  refine ld rfl .no Fx.ag72 (.u rfl) (fun _=>Rd.own .here (by first|exact wap_f rfl|rfl)) ?_
  refine .nil (Wp.one 7 (by kernel_rfl) ?_)
  refine ld rfl .no Fx.ag68 (.u rfl) (fun _=>Rd.own .here (by first|exact wap_f rfl|rfl)) ?_
  refine .nil (Wp.b1 11 (by kernel_rfl) ?_)
  refine ka rfl (.inl rfl) Fx.go25 (Evc rfl (Evc rfl (Evc rfl (Evc rfl Evn)))) (mtk3 tk4 tk4 tk3) (dOpen_ok bd bm 67108864 bt (fun _=>0#8) (⟨201,200,2,2000,50,4,10⟩ : Opts) _ rfl (by decide) (by decide) hK) ?_
  rintro _ G27 μ27 hG27 ⟨bq,held,now,v,F,ov,hD,hn,hz,rfl,rfl⟩
  refine .nil (Wp.one 12 (by kernel_rfl) ?_)
  refine mV rfl rfl (.nil (Wp.one 13 (by kernel_rfl) ?_))
  refine ex rfl .no (.u rfl) rfl (.nil (Wp.one 14 (by kernel_rfl) ?_))
  refine ex rfl .no (.u rfl) rfl (.nil (Wp.one 15 (by kernel_rfl) ?_))
  refine aS rfl rfl (.nil (Wp.one 16 (by kernel_rfl) ?_))
  refine aS rfl rfl (.nil (Wp.last (by kernel_rfl) ?_))
  refine We.lpo (bq,held,now,v,F) ?_ ?_ ?_ ?_ ?_
  ·exact (esD rfl (esC rfl (by first|rfl|exact evi (by omega)) (esD rfl eZ)))
  ·exact (mS .here rfl (mS .here rfl (mS .here rfl (mS .here rfl (mS .here rfl (mS .here rfl (mS .here rfl (mS .here rfl (mS .here rfl (mS .here rfl mN))))))))))
  ·exact zro_lt _
  ·exact hG27
  refine ⟨?_,?_,?_,?_⟩
  ·(try dsimp only)<;>(exact ov)
  ·(try dsimp only)<;>(exact hD)
  ·(try dsimp only)<;>(exact hn)
  (try dsimp only)<;>(exact hz)
 intro gh Glj2 hGlj2 hFj2
 obtain ⟨bq,held,now,v,F⟩:=gh; dsimp only at hFj2 ⊢
 obtain ⟨ov,hD,hn,hz⟩:=hFj2
 refine .code (.seq (Wk.rg [0,1,2,3,4,5,6,7,8,9,10] rfl rfl (mV rfl rfl (mV rfl rfl (mV rfl rfl (mV rfl rfl (kc rfl Fx.go6 (Evc rfl Evn) (gNew_ok bq _) ?_)))))))
 rintro _ G34 μ34 hG34 ⟨bg,rfl,rfl⟩
 refine nc rfl .no (.u rfl) (fz rfl .no Fx.fo82_2 (.u rfl) (s1 rfl (.u rfl) (.u rfl) rfl Fx.sz44 tk8 ((by show 2<6; decide)) (rfl) ?_))
 refine nc rfl .no (.u rfl) (fz rfl .no Fx.fo82_3 (.u rfl) (s1 rfl (.u rfl) (.u rfl) rfl Fx.sz26 .here ((by show 3<6; decide)) (rfl) ?_))
 refine .nil (.code (.seq ?_))
 refine wk_fz .here (by intro b hb; cases hb) ?_; intro Gfb14 hleb14 hbb14
 refine Wk.draw (mc:=⟨false,false⟩) [0,1,2,3,4,5,6,7,8,9,10,11,12,13,14,15] Fx.mix (by kernel_rfl) ?_
 refine mV rfl rfl (mV rfl rfl (cp rfl .no (.u rfl) (.u rfl) rfl (mV rfl rfl (mv rfl (.t rfl rfl) (.u rfl) (pn rfl (.t rfl rfl) Fx.pt44 (.s rfl) (.u rfl) ?_)))))
 refine pkA rfl .no (.u rfl) (.s rfl) (mV rfl rfl (mv rfl (.t rfl rfl) (.u rfl) (nc rfl (.t rfl rfl) (.s rfl) (fa rfl (.t rfl rfl) Fx.fo82_3 (.s rfl) (ld rfl (.t rfl rfl) Fx.ag26 (.s rfl) (fun hc=>(hbb14.rd (by rfl)).rd) ?_)))))
 refine pn rfl (.t rfl rfl) Fx.pt26 (.s rfl) (.u rfl) ?_
 refine pkA rfl .no (.u rfl) (.s rfl) (aS rfl rfl (aS rfl rfl (.nil (.code (.ret (We.fin Tryz.results30 (.tmp rfl (.tmp rfl .nil)) (mS .here rfl (mS .here rfl (mS .here rfl (mS .here rfl (mS .here rfl (mS .here rfl (mS .here rfl (mS .here rfl mN)))))))) ?_))))))
 exact ⟨b14,bd,bm,bt,bq,held,now,bg,b10,b12,v,F,ov,hD,hn,hz,hbb14,rfl,rfl⟩
end Go.Proofs.YtggleibgadkodaaGreatDoor
namespace Go.Proofs.YtggleibgadkodaaGreatDoor
open Go.Tan Go.RowKit Go.Maps Go.Sort Go.Shelf
namespace Fx
theorem sn28:(slE Tryz.prog 28).isSome=true:=by kernel_rfl
theorem go30:goFn Tryz.prog 30=true:=by kernel_rfl
theorem go7:goFn Tryz.prog 7=true:=by kernel_rfl
theorem go31:goFn Tryz.prog 31=true:=by kernel_rfl
theorem go8:goFn Tryz.prog 8=true:=by kernel_rfl
theorem ag85:aggN Tryz.prog 85=some (some 2):=by kernel_rfl
theorem bp85_0:bPl Tryz.prog 85 [0]=some ([.int .i64 0,.int .i64 0],[(0,1)]):=by kernel_rfl
theorem eqt85:eqT Tryz.prog 2 85 ([.int .i64,.int .i64])=true:=by kernel_rfl
theorem go5:goFn Tryz.prog 5=true:=by kernel_rfl
theorem fo24_4:fOff Tryz.prog 24 4=some 4:=by kernel_rfl
theorem fo24_1:fOff Tryz.prog 24 1=some 1:=by kernel_rfl
theorem fo24_2:fOff Tryz.prog 24 2=some 2:=by kernel_rfl
theorem fo24_3:fOff Tryz.prog 24 3=some 3:=by kernel_rfl
theorem go9:goFn Tryz.prog 9=true:=by kernel_rfl
theorem go10:goFn Tryz.prog 10=true:=by kernel_rfl
theorem sn34:(slE Tryz.prog 34).isSome=true:=by kernel_rfl
end Fx
theorem okA {o:Opn} (h:o=(⟨1#8,(⟨#[97]⟩ : ByteArray),(⟨#[120]⟩ : ByteArray)⟩ : Opn)∨o=(⟨1#8,(⟨#[98]⟩ : ByteArray),(⟨#[121]⟩ : ByteArray)⟩ : Opn)∨o=(⟨1#8,(⟨#[99]⟩ : ByteArray),(⟨#[]⟩ : ByteArray)⟩ : Opn)):o.ok:=by
 rcases h with rfl|rfl|rfl<;>exact ⟨rfl,by decide,by decide⟩
theorem ok1 {x:Opn} (h:x=(⟨1#8,(⟨#[97]⟩ : ByteArray),(⟨#[120]⟩ : ByteArray)⟩ : Opn)∨x=(⟨1#8,(⟨#[98]⟩ : ByteArray),(⟨#[121]⟩ : ByteArray)⟩ : Opn)∨x=(⟨1#8,(⟨#[99]⟩ : ByteArray),(⟨#[]⟩ : ByteArray)⟩ : Opn)):∀ o∈[x],o.ok:=fun o ho=>by rw [List.mem_singleton.1 ho]; exact okA h
set_option maxHeartbeats 1000000 in
theorem shown24_ok (G:PM) (hK:RdNP G 0 0 (wa 64 kW)):Ct Tryz.prog 5 ([]:List Value).toArray G [] (fun _ μ' u=>μ'=[]∧u=.bool true):=by
 refine Ct.of Tryz.func5 rfl Tryz.ntmps5 rfl fun w0 hs0=>?_
 refine .seq (rq1 rfl rfl (aS rfl rfl (.nil (.code (.seq (rq6 rfl rfl (kc rfl Fx.go30 (Evc rfl Evn) (built24_ok _ hK) ?_)))))))
 rintro _ G11 μ11 hG11 ⟨bh,bd,bm,bt,bq,held,now,bg,b1,b2,v,F,ov,hD,hn,hz,hbh,rfl,rfl⟩
 have hK:=hK.mono hG11
 refine mV rfl rfl (ex rfl .no (.u rfl) rfl (ex rfl .no (.u rfl) rfl (aS rfl rfl (aS rfl rfl (.nil (.code (.seq (.seq (rq2 rfl rfl (mV rfl rfl (nt rfl .no (.u rfl) (.nil (.code (.cond rfl (fun c1=>?_) (fun c1=>?_)))))))))))))))
 ·have c1k:=c1
  cases c1
 have c1k:=c1
 try simp only [qcA,qcC,qcB] at c1
 refine .skip (.code (.seq (rq10 rfl rfl (mV rfl rfl (nc rfl .no (.u rfl) (fa rfl .no Fx.fo82_3 (.u rfl) (ld rfl .no Fx.ag26 (.u rfl) (fun _=>(hbh.rd (rfl)).rd) ?_)))))))
 refine ka rfl (.inr rfl) Fx.go7 (Evc rfl (Evc rfl Evn)) (mtk1 .here) (lend1 fun G1 hle1 h1=>gCom0_ok bg (pt bq) none 100 G1 h1) ?_
 rintro _ G21 μ21 hG21 ⟨ν1,rfl,rfl,rfl⟩
 have hK:=hK.mono hG21
 have hbh:=hbh.mono hG21
 refine mV rfl rfl (ex rfl .no (.u rfl) rfl (ex rfl .no (.u rfl) rfl (aS rfl rfl (aS rfl rfl (.nil (.code (.seq (wk_nilS 3 Wtg.cells 91 (Wk.mixp ⟨true,false⟩ Fx.mix (by kernel_rfl) ?_)))))))))
 refine Wp.one 0 (by kernel_rfl) ?_
 refine mV rfl rfl (.nil (Wp.one 1 (by kernel_rfl) ?_))
 refine nc rfl .no (.u rfl) (.nil (Wp.one 2 (by kernel_rfl) ?_))
 refine fa rfl .no Fx.fo82_3 (.u rfl) (.nil (Wp.one 6 (by kernel_rfl) ?_))
 refine mV rfl rfl (.nil (Wp.one 7 (by kernel_rfl) ?_))
 refine nc rfl .no (.u rfl) (.nil (Wp.one 8 (by kernel_rfl) ?_))
 refine fa rfl .no Fx.fo82_3 (.u rfl) (.nil (Wp.one 12 (by kernel_rfl) ?_))
 refine mV rfl rfl (.nil (Wp.one 13 (by kernel_rfl) ?_))
 refine nc rfl .no (.u rfl) (.nil (Wp.one 14 (by kernel_rfl) ?_))
 refine fa rfl .no Fx.fo82_3 (.u rfl) (.nil (Wp.pr 3 (by kernel_rfl) ?_))
 refine ld rfl .no Fx.ag26 (.u rfl) (fun _=>(hbh.rd (rfl)).rd) ?_
 refine .nil ⟨⟨rfl,rfl⟩,?_⟩
 refine Wp.pr 9 (by kernel_rfl) ?_
 refine ld rfl .no Fx.ag26 (.u rfl) (fun _=>(hbh.rd (rfl)).rd) ?_
 refine .nil ⟨⟨rfl,rfl⟩,?_⟩
 refine Wp.pr 15 (by kernel_rfl) ?_
 refine ld rfl .no Fx.ag26 (.u rfl) (fun _=>(hbh.rd (rfl)).rd) ?_
 refine .nil ⟨⟨rfl,rfl⟩,?_⟩
 refine Wp.b1 4 (by kernel_rfl) ?_
 refine kc rfl Fx.go31 (Evc rfl (Evc rfl Evn)) (put24_ok (⟨#[97]⟩ : ByteArray) (⟨#[120]⟩ : ByteArray) _) ?_
 rintro _ G28 μ28 hG28 ⟨s28,rfl,rfl,hs28⟩
 have hK:=hK.mono hG28
 have hbh:=hbh.mono hG28
 refine .nil (Wp.b1 5 (by kernel_rfl) ?_)
 refine ka rfl (.inl rfl) Fx.go8 (Evc rfl (Evc rfl (Evc rfl (Evc rfl Evn)))) (mtk2 tk1 .here) (subm_ok bg (pt bq) _ [] 3 s28 [(⟨1#8,(⟨#[97]⟩ : ByteArray),(⟨#[120]⟩ : ByteArray)⟩ : Opn)] false _ hs28 (.inl rfl) (ok1 (.inl rfl)) (by decide) (by decide) idz_0) ?_
 rintro _ G29 μ29 hG29 ⟨v29,s29,ov29,hs29,rfl,rfl⟩
 have hK:=hK.mono hG29
 have hbh:=hbh.mono hG29
 refine .nil (Wp.b1 10 (by kernel_rfl) ?_)
 refine kc rfl Fx.go31 (Evc rfl (Evc rfl Evn)) (put24_ok (⟨#[98]⟩ : ByteArray) (⟨#[121]⟩ : ByteArray) _) ?_
 rintro _ G34 μ34 hG34 ⟨s34,rfl,rfl,hs34⟩
 have hK:=hK.mono hG34
 have hbh:=hbh.mono hG34
 have hs29:=hs29.mono hG34
 refine .nil (Wp.b1 11 (by kernel_rfl) ?_)
 refine ka rfl (.inl rfl) Fx.go8 (Evc rfl (Evc rfl (Evc rfl (Evc rfl Evn)))) (mtk2 .here .here) (subm_ok bg (pt bq) v29 [(⟨3,s29,[(⟨1#8,(⟨#[97]⟩ : ByteArray),(⟨#[120]⟩ : ByteArray)⟩ : Opn)],false⟩ : Wtg)] 1 s34 [(⟨1#8,(⟨#[98]⟩ : ByteArray),(⟨#[121]⟩ : ByteArray)⟩ : Opn)] false _ hs34 (.inl rfl) (ok1 (.inr (.inl rfl))) (by decide) (by show 1≤100; decide) (idz_1 rfl)) ?_
 rintro _ G35 μ35 hG35 ⟨v35,s35,ov35,hs35,rfl,rfl⟩
 have hK:=hK.mono hG35
 have hbh:=hbh.mono hG35
 have hs29:=hs29.mono hG35
 refine .nil (Wp.b1 16 (by kernel_rfl) ?_)
 refine kc rfl Fx.go31 (Evc rfl (Evc rfl Evn)) (put24_ok (⟨#[99]⟩ : ByteArray) (⟨#[]⟩ : ByteArray) _) ?_
 rintro _ G40 μ40 hG40 ⟨s40,rfl,rfl,hs40⟩
 have hK:=hK.mono hG40
 have hbh:=hbh.mono hG40
 have hs29:=hs29.mono hG40
 have hs35:=hs35.mono hG40
 refine .nil (Wp.b1 17 (by kernel_rfl) ?_)
 refine ka rfl (.inl rfl) Fx.go8 (Evc rfl (Evc rfl (Evc rfl (Evc rfl Evn)))) (mtk2 .here .here) (subThere_ok bg (pt bq) v35 [(⟨3,s29,[(⟨1#8,(⟨#[97]⟩ : ByteArray),(⟨#[120]⟩ : ByteArray)⟩ : Opn)],false⟩ : Wtg),(⟨1,s35,[(⟨1#8,(⟨#[98]⟩ : ByteArray),(⟨#[121]⟩ : ByteArray)⟩ : Opn)],false⟩ : Wtg)] 3 s40 [(⟨1#8,(⟨#[99]⟩ : ByteArray),(⟨#[]⟩ : ByteArray)⟩ : Opn)] false _ hs40 (.inl rfl) (ok1 (.inr (.inr rfl))) (by decide) (by show 2≤100; decide) (idz_y rfl)) ?_
 rintro _ G41 μ41 hG41 ⟨rfl,rfl⟩
 have hK:=hK.mono hG41
 have hbh:=hbh.mono hG41
 have hs29:=hs29.mono hG41
 have hs35:=hs35.mono hG41
 refine .nil (Wp.one 18 (by kernel_rfl) ?_)
 refine aS rfl rfl (.nil (Wp.one 19 (by kernel_rfl) ?_))
 refine aS rfl rfl (.nil (Wp.one 20 (by kernel_rfl) ?_))
 refine aS rfl rfl (.nil (Wp.last (by kernel_rfl) ?_))
 refine .code (.seq (rq10 rfl rfl (mV rfl rfl (nc rfl .no (.u rfl) (fa rfl .no Fx.fo82_3 (.u rfl) (ld rfl .no Fx.ag26 (.u rfl) (fun _=>(hbh.rd (rfl)).rd) ?_))))))
 refine ka rfl (.inr rfl) Fx.go7 (Evc rfl (Evc rfl Evn)) (mtq7 tk1 .here .here .here .here tk1 tk1) (Ct.giveS (fun _ _=>rfl) fun s G2 hle hv hs9=>by subst hv; exact gCom_ok bg bq bm 67108864 bd bt held now (fun _=>0#8) (⟨201,200,2,2000,50,4,10⟩ : Opts) v F s [(⟨3,s29,[(⟨1#8,(⟨#[97]⟩ : ByteArray),(⟨#[120]⟩ : ByteArray)⟩ : Opn)],false⟩ : Wtg),(⟨1,s35,[(⟨1#8,(⟨#[98]⟩ : ByteArray),(⟨#[121]⟩ : ByteArray)⟩ : Opn)],false⟩ : Wtg)] G2 hD hn hz (by decide) (by decide) (by decide) hs9 (AllW.snoc (AllW.one (hs29.mono hle)) (hs35.mono hle)) (.inr rfl) (by intro w hw; simp at hw; rcases hw with rfl|rfl<;>rfl) (by intro w hw; simp at hw; rcases hw with rfl|rfl<;>rfl) (by intro o ho; simp [jn] at ho; rcases ho with rfl|rfl; exact okA (.inl rfl); exact okA (.inr (.inl rfl))) (fun _=>by kernel_rfl) (hK.mono hle)) ?_
 rintro _ G47 μ47 hG47 ⟨oa,vD,bb,m,cap,sz,F4,oD,hm4,hD4,hn4,hz4,rfl,rfl⟩
 refine mV rfl rfl (ex rfl .no (.u rfl) rfl (ex rfl .no (.u rfl) rfl (aS rfl rfl (aS rfl rfl (.nil (.code (.seq ?_)))))))
 rw [show [(⟨3,s29,[(⟨1#8,(⟨#[97]⟩ : ByteArray),(⟨#[120]⟩ : ByteArray)⟩ : Opn)],false⟩ : Wtg),(⟨1,s35,[(⟨1#8,(⟨#[98]⟩ : ByteArray),(⟨#[121]⟩ : ByteArray)⟩ : Opn)],false⟩ : Wtg)].map Wtg.c=[3,1] from rfl]
 refine wk_rv tk1 (by decide) ?_; intro bbRD capRD evRD lcRD; subst evRD
 refine Wk.rg [0,1,2,3,4,5,6,7,8,9,10,11,12,13,14,15,16,17,18,19,20,21,22,23,24,25,26,27,28,29,30,31,32,33,34,35,36,37,38,39,40,41,42] rfl rfl (mV rfl rfl (ln rfl .no Fx.sn28 (.u rfl) (cp rfl .no (.u rfl) (.u rfl) rfl (mV rfl rfl (mv rfl (.t rfl rfl) (.u rfl) (cp rfl (.t rfl rfl) (.s rfl) (.u rfl) rfl (pkA rfl .no (.u rfl) (.s rfl) (mV rfl rfl (mv rfl (.t rfl rfl) (.u rfl) (cp rfl (.t rfl rfl) (.s rfl) (.u rfl) rfl (pkA rfl .no (.u rfl) (.s rfl) (mV rfl rfl (mv rfl (.t rfl rfl) (.u rfl) (cp rfl (.t rfl rfl) (.s rfl) (.u rfl) rfl (pkA rfl .no (.u rfl) (.s rfl) (mV rfl rfl (mv rfl (.t rfl rfl) (.u rfl) (cp rfl (.t rfl rfl) (.s rfl) (.u rfl) rfl (pkA rfl .no (.u rfl) (.s rfl) (mV rfl rfl (mv rfl (.t rfl rfl) (.u rfl) (cp rfl (.t rfl rfl) (.s rfl) (.u rfl) rfl (pkA rfl .no (.u rfl) (.s rfl) (mV rfl rfl (mv rfl (.t rfl rfl) (.u rfl) (lr rfl (.t rfl rfl) Fx.sn28 (.s rfl) tk1 ?_))))))))))))))))))))))))))
 refine cp rfl (.t rfl rfl) (.s rfl) (.u rfl) rfl (pkA rfl .no (.u rfl) (.s rfl) (mV rfl rfl (mv rfl (.t rfl rfl) (.u rfl) (ia rfl (.t rfl rfl) Fx.se28 (.s rfl) (.u rfl) (fun hc=>by omega) (fun hc=>by decide) ?_))))
 refine lA rfl (.t rfl rfl) Fx.ag85 (.s rfl) (fun hc=>RdN.rowS (xs:=([3,1]:List Nat)) (enc:=encD) tk1 (fun _ _=>rfl) (k:=0) (x:=3) rfl rfl) (fun _=>rfl) (bCe (encD 3) rfl (.t rfl rfl) Fx.bp85_0 (.cons (.u rfl) rfl .nil) rfl (rfl) ?_)
 refine eqC (true) rfl (.t rfl rfl) Fx.eqt85 (.s rfl) (.s rfl) (fun hc=>.cons (.int (by decide) (by decide)) (.cons (.int (by decide) (by decide)) .nil)) (fun hc=>.cons (.int (by decide) (by decide)) (.cons (.int (by decide) (by decide)) .nil)) (fun hc=>⟨fun _=>rfl,fun _=>rfl⟩) ?_
 refine pkA rfl .no (.u rfl) (.s rfl) (mV rfl rfl (mv rfl (.t rfl rfl) (.u rfl) (ia rfl (.t rfl rfl) Fx.se28 (.s rfl) (.u rfl) (fun hc=>by omega) (fun hc=>by decide) ?_)))
 refine lA rfl (.t rfl rfl) Fx.ag85 (.s rfl) (fun hc=>RdN.rowS (xs:=([3,1]:List Nat)) (enc:=encD) tk1 (fun _ _=>rfl) (k:=1) (x:=1) rfl rfl) (fun _=>rfl) (bCe (encD 1) rfl (.t rfl rfl) Fx.bp85_0 (.cons (.u rfl) rfl .nil) rfl (rfl) ?_)
 refine eqC (true) rfl (.t rfl rfl) Fx.eqt85 (.s rfl) (.s rfl) (fun hc=>.cons (.int (by decide) (by decide)) (.cons (.int (by decide) (by decide)) .nil)) (fun hc=>.cons (.int (by decide) (by decide)) (.cons (.int (by decide) (by decide)) .nil)) (fun hc=>⟨fun _=>rfl,fun _=>rfl⟩) ?_
 refine pkA rfl .no (.u rfl) (.s rfl) (aS rfl rfl (.nil (.code (.ret (We.fin0 Tryz.results5 (.tmp rfl .nil) ?_)))))
 exact ⟨rfl,rfl⟩
theorem groupNil_ok (k:Y) (c mo:Int) (ov:Value) (y:Bool) (G:PM) (ho:ov.oneCell'=true) (hK:RdNP G 0 0 (wa 64 kW)):Ct Tryz.prog 3 ([Value.agg ([V k,.int .i64 c,ov,.bool y,.int .i64 mo]:List Value).toArray]:List Value).toArray G [] (fun _ μ' u=>μ'=[]∧u=.bool true):=by
 refine Ct.of Tryz.func3 rfl Tryz.ntmps3 rfl fun w0 hs0=>?_
 refine .seq (rq2 rfl rfl ?_)
 refine bx rfl (.u rfl) rfl ?_; intro b1
 refine aS rfl rfl (.nil (.code (.seq (rq2 rfl rfl (kv rfl .no Fx.go5 Evn (fun _=>shown24_ok _ hK) ?_)))))
 refine aS rfl rfl (.nil (.code (.seq (rq2 rfl rfl (kv rfl .no Fx.go6 (Evc rfl Evn) (fun _=>gNew0_ok _) ?_)))))
 refine aS rfl rfl (.nil (.code (.seq (rq9 rfl rfl (mV rfl rfl (fz rfl .no Fx.fo24_4 (.u rfl) (ld rfl .no Fx.ag3 (.u rfl) (fun _=>Rd.own .here rfl) ?_)))))))
 refine kv rfl .no Fx.go7 (Evc rfl (Evc rfl Evn)) (fun _=>gComN_ok mo _) ?_
 refine mV rfl rfl (ex rfl .no (.u rfl) rfl (ex rfl .no (.u rfl) rfl (aS rfl rfl (aS rfl rfl (.nil (.code (.seq (Wk.rg [0,1,2,3,4,5,6,7,8,9,10,11,12,13,14,15,16,17,18,19,20,21,22,23,24,25,26,27,28,29,30,31,32,33,34,35,36,37,38] rfl rfl (mV rfl rfl (mV rfl rfl (mv rfl (.t rfl rfl) (.u rfl) (pe0 rfl (.t rfl rfl) Fx.pt26 (.s rfl) (.u rfl) ?_))))))))))))
 refine pkA rfl .no (.u rfl) (.s rfl) (mV rfl rfl (mv rfl (.t rfl rfl) (.u rfl) (ln rfl (.t rfl rfl) Fx.sn28 (.s rfl) (cp rfl (.t rfl rfl) (.s rfl) (.u rfl) rfl (pkA rfl .no (.u rfl) (.s rfl) (mV rfl rfl (mv rfl (.t rfl rfl) (.u rfl) (cp rfl (.t rfl rfl) (.s rfl) (.u rfl) rfl (pkA rfl .no (.u rfl) (.s rfl) (mV rfl rfl (mv rfl (.t rfl rfl) (.u rfl) (fz rfl (.t rfl rfl) Fx.fo24_1 (.u rfl) (ld rfl (.t rfl rfl) Fx.ag3 (.s rfl) (fun hc=>Rd.own .here (by first|exact wap_f rfl|rfl)) ?_)))))))))))))
 refine fz rfl (.t rfl rfl) Fx.fo24_2 (.u rfl) (ld rfl (.t rfl rfl) Fx.ag22 (.s rfl) (fun hc=>Rd.own .here (by first|exact wap_f rfl|rfl)) ?_)
 refine fz rfl (.t rfl rfl) Fx.fo24_3 (.u rfl) (ld rfl (.t rfl rfl) Fx.ag4 (.s rfl) (fun hc=>Rd.own .here (by first|exact wap_f rfl|rfl)) ?_)
 refine kv rfl (.t rfl rfl) Fx.go8 (Eva.cons (.s rfl) (Eva.cons (.s rfl) (Eva.cons (.s rfl) (Eva.cons (.s rfl) Evn)))) (fun hc=>subN_ok c ov y _) ?_
 refine cp rfl (.t rfl rfl) (.s rfl) (.u rfl) rfl (pkA rfl .no (.u rfl) (.s rfl) (mV rfl rfl (mv rfl (.t rfl rfl) (.u rfl) (fz rfl (.t rfl rfl) Fx.fo24_1 (.u rfl) (ld rfl (.t rfl rfl) Fx.ag3 (.s rfl) (fun hc=>Rd.own .here (by first|exact wap_f rfl|rfl)) ?_)))))
 refine kv rfl (.t rfl rfl) Fx.go9 (Eva.cons (.s rfl) (Eva.cons (.s rfl) Evn)) (fun hc=>canN_ok c _) ?_
 refine nt rfl (.t rfl rfl) (.s rfl) (pkA rfl .no (.u rfl) (.s rfl) (mV rfl rfl (mv rfl (.t rfl rfl) (.u rfl) (kv rfl (.t rfl rfl) Fx.go10 (Eva.cons (.s rfl) Evn) (fun hc=>waiN_ok _) ?_))))
 refine ln rfl (.t rfl rfl) Fx.sn34 (.s rfl) (cp rfl (.t rfl rfl) (.s rfl) (.u rfl) rfl (pkA rfl .no (.u rfl) (.s rfl) (aS rfl rfl (.nil (.code (.ret (We.fin0 Tryz.results3 (.tmp rfl .nil) ?_)))))))
 exact ⟨rfl,rfl⟩
end Go.Proofs.YtggleibgadkodaaGreatDoor
